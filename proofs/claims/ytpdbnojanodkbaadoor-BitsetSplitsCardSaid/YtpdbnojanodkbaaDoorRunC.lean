/- Chapter 01: proved is that each function that the laws reach, and each law, keeps its contract; no conditions but those that each theorem states. -/
import Derived.Test.YtpdbnojanodkbaaDoorRunB
import Derived.Shelf.Strings.Builder1
import Derived.KernelRfl
import Derived.LoopTactic
import Derived.Laws.Bits64b
set_option linter.unusedVariables false
set_option linter.unusedSimpArgs false
/- Chapter 01: the texts that a builder of strings writes. -/
namespace Go.Abs.C01
open Go Go.Proofs Go.Shelf Go.RowKit

theorem x72 : (Tryd.prog.info? 67).map (·.size) = some 2 := by kernel_rfl
theorem x72l : liesAt Tryd.prog Tryd.prog.depth 67 (2 / Tryd.prog.cellsOf 67) 0 67 1 = true := by kernel_rfl
theorem xByte : (Tryd.prog.info? 5).map (fun i => (i.zero, i.size, i.bytes)) = some (some (.int .u8 0), 1, 1) := by kernel_rfl

set_option maxHeartbeats 1000000 in
set_option maxRecDepth 100000 in
theorem copy_used (b : Nat) (w : World) (h0 : w.cell? ⟨b, 0, none⟩ = some (.pointer (some ⟨b, 0, none⟩))) :
    Calls Tryd.prog 66 #[.pointer (some ⟨b, 0, none⟩)] w fun e w' => e = .returned (.tuple #[]) ∧ w' = w := by
  obtain ⟨j, hj, _⟩ := Option.map_eq_some_iff.1 x72
  go_enter Tryd.func66, Tryd.ntmps66
  go_wp2
  rw [Lib.run_neq_ptr_same w _ Tryd.underlying65 hj]
  go_wp2
  go_end0
  exact ⟨rfl, rfl⟩

set_option maxHeartbeats 1000000 in
set_option maxRecDepth 100000 in
theorem copy_fresh (b : Nat) (w : World) (h0 : w.cell? ⟨b, 0, none⟩ = some (.pointer none)) (hsh : w.shape? b = some (67, 2)) (hfz : w.frozen? ⟨b, 0, none⟩ = false) :
    Calls Tryd.prog 66 #[.pointer (some ⟨b, 0, none⟩)] w fun e w' => e = .returned (.tuple #[]) ∧ w' = w.setCell ⟨b, 0, none⟩ (.pointer (some ⟨b, 0, none⟩)) := by
  obtain ⟨j, hj, hjs⟩ := Option.map_eq_some_iff.1 x72
  go_enter Tryd.func66, Tryd.ntmps66
  go_wp2
  rw [Lib.run_to_unsafe w ⟨b, 0, none⟩ Tryd.underlying65 Tryd.underlying76 hj (by rw [hjs]; decide) hsh (Nat.zero_lt_succ 1)]
  simp only [Result.andThen]
  rw [Oper.upon_value]
  go_wp2
  rw [run_callFunc_extern Tryd.func68 (by kernel_rfl) (by kernel_rfl) (by kernel_rfl) (e := Extern.AbiNoEscape.same) (by kernel_rfl)]
  rw [Lib.run_noEscape]
  simp only [Result.andThen]
  rw [Oper.upon_value]
  go_wp2
  rw [Lib.run_from_unsafe w ⟨b, 0, none⟩ Tryd.underlying76 Tryd.underlying65 hj hsh x72l]
  simp only [Result.andThen]
  rw [Oper.upon_value]
  go_wp2
  go_end0
  exact ⟨rfl, rfl⟩

theorem copy_check (B b : Nat) (bs : List Value) (w : World) (h : Lib.IsBuilder 67 5 B b bs w) :
    Calls Tryd.prog 66 #[.pointer (some ⟨b, 0, none⟩)] w fun e w' => e = .returned (.tuple #[]) ∧ (Lib.BuilderAt 67 5 B b (.pointer (some ⟨b, 0, none⟩)) bs w' ∧ Below B w w') := by
  rcases h with h | h
  · refine (copy_fresh b w h.cell0 h.shape h.frozen0).mono ?_
    rintro e w' ⟨rfl, rfl⟩
    exact ⟨rfl, h.used _, (Below.refl B w).setCell (p := ⟨b, 0, none⟩) h.1 _⟩
  · refine (copy_used b w h.cell0).mono ?_
    rintro e w' ⟨rfl, rfl⟩
    exact ⟨rfl, h, Below.refl B _⟩

set_option maxHeartbeats 2000000 in
set_option maxRecDepth 100000 in
theorem write_byte (B b : Nat) (bs : List Value) (c : Int) (w : World) (h : Lib.IsBuilder 67 5 B b bs w) (hlen : bs.length + 1 ≤ 140737488355328) (hBw : B ≤ w.heap.size) :
    Calls Tryd.prog 62 #[.pointer (some ⟨b, 0, none⟩), .int .u8 c] w fun e w' => e = .returned .nilIface ∧ (Lib.BuilderAt 67 5 B b (.pointer (some ⟨b, 0, none⟩)) (bs ++ [.int .u8 c]) w' ∧ Below B w w') := by
  obtain ⟨i0, hi, hz0, hz1, hz2⟩ := info_parts xByte
  go_enter Tryd.func62, Tryd.ntmps62
  go_wp2_with (go_at_call 66; refine (copy_check B b bs _ h).mono ?_)
  rintro e w1 ⟨rfl, h1, hb1⟩
  obtain ⟨hB, v, hbk, hown, hne⟩ := h1
  have c0 : w1.cell? ⟨b, 0, none⟩ = some (.pointer (some ⟨b, 0, none⟩)) := by rw [Lib.cell_of_heap hbk]; rfl
  have c1 : w1.cell? ⟨b, 1, none⟩ = some v := by rw [Lib.cell_of_heap hbk]; rfl
  go_wp2_with (at_builtin; refine wpList_append_own _ rfl _ _ 52 rfl B 5 i0 (.int .u8 0) 1 1 Tryd.underlying52 hi hz0 hz1 hz2 rfl (by decide) _ _ _ rfl (hown.alloc _) ⟨w1.heap.size, 0, none⟩ 1 1 [.int .u8 c] rfl rfl ?c1 ?c2 ?c3 ?c4 ?c5 ?_)
  case c1 =>
    intro j u hj
    match j, hj with
    | 0, hj => simp at hj; subst hj; simp [Addr.add]
  case c2 => intro u hu; simp at hu; subst hu; rfl
  case c3 => unfold maxLen; omega
  case c4 => omega
  case c5 => have := hb1.size; simp; omega
  intro v' w2 hown' hgrow _
  have hlt : b < w1.heap.size := by
    rcases Nat.lt_or_ge b w1.heap.size with h' | h'
    · exact h'
    · simp [Array.getElem?_eq_none h'] at hbk
  have hb2 : w2.heap[b]? = some (.cells #[.pointer (some ⟨b, 0, none⟩), v] 67 (0, 0)) := by
    rw [hgrow.block b (by simp; omega) (fun e => hne e.symm), Lib.alloc_old w1 _ b hlt]
    exact hbk
  have d0 : w2.cell? ⟨b, 0, none⟩ = some (.pointer (some ⟨b, 0, none⟩)) := by rw [Lib.cell_of_heap hb2]; rfl
  have d1 : w2.cell? ⟨b, 1, none⟩ = some v := by rw [Lib.cell_of_heap hb2]; rfl
  have f1 : w2.frozen? ⟨b, 1, none⟩ = false := Lib.frozen_of_heap hb2 1
  obtain ⟨g, cap, rfl⟩ : ∃ g cap, v' = .slice (some ⟨g, 0, none⟩) (bs.length + 1) cap := by
    rcases hown'.2 with ⟨_, h0⟩ | ⟨g, cap, cur, hv, _⟩
    · omega
    · exact ⟨g, cap, hv⟩
  go_wp2
  go_ret
  refine ⟨rfl, ?_, ?_⟩
  · exact Lib.BuilderAt.put (T := 67) (e := 5) hB hb2 (bs' := bs ++ [.int .u8 c]) (by simpa using hown') (by decide)
  · exact ((hb1.alloc (by have := hb1.size; omega) _).grown hgrow (by have := hb1.size; simp; omega) (fun k hk => (hown.lt k hk).1)).setCell (p := ⟨b, 1, none⟩) hB _

/-- The numbers of types, in the shelf's own numbering. -/
def ren : Ren := { f := fun x => match x with | 169 => 63 | n => n, t := fun x => match x with | 70 => 65 | 72 => 67 | 37 => 52 | 127 => 74 | n => n, g := fun x => x }
theorem xExtra : Builder.Extra Tryd.prog ren where
  sizeBuilder := by kernel_rfl
  liesBuilder := by kernel_rfl
  t5 := Tryd.underlying5
  a5 := Tryd.isAgg5
  z5 := Tryd.sizeOf5
  v5 := Tryd.zeroValue5
  infoByte := by kernel_rfl
  cellsByte := by kernel_rfl
  sizeByte := by kernel_rfl
  neB5 := by decide
theorem lays169 : Lays.n169 Tryd.prog ren where
  mixed := by kernel_rfl
  f169 := by kernel_rfl
  t0 := Tryd.underlying0
  a0 := Tryd.isAgg0
  z0 := Tryd.sizeOf0
  v0 := Tryd.zeroValue0
  t3 := Tryd.underlying3
  a3 := Tryd.isAgg3
  z3 := Tryd.sizeOf3
  v3 := Tryd.zeroValue3
  t9 := Tryd.underlying9
  a9 := Tryd.isAgg9
  z9 := Tryd.sizeOf9
  v9 := Tryd.zeroValue9
  t37 := Tryd.underlying52
  a37 := Tryd.isAgg52
  z37 := Tryd.sizeOf52
  v37 := Tryd.zeroValue52
  t70 := Tryd.underlying65
  a70 := Tryd.isAgg65
  z70 := Tryd.sizeOf65
  v70 := Tryd.zeroValue65
  t72 := Tryd.underlying67
  a72 := Tryd.isAgg67
  z72 := Tryd.sizeOf67
  v72 := Tryd.zeroValue67
  t127 := Tryd.underlying74
  a127 := Tryd.isAgg74
  z127 := Tryd.sizeOf74
  v127 := Tryd.zeroValue74
end Go.Abs.C01

/- Chapter 01: the walk of the function that formats. -/
namespace Go.Abs.C01
open Go Go.Proofs Go.Shelf Go.RowKit
/-- The bytes of a bit string's text from place n-1 down to place k. -/
def txt (x : Int) (n k : Nat) : List UInt8 := (List.range (n - k)).map fun j => bif Sp01.tb x (n - 1 - j) then 49 else 48
theorem txt_snoc (x : Int) (n k : Nat) (hx : 0 ≤ x ∧ x < 18446744073709551616) (h1 : 1 ≤ k) (h2 : k ≤ n) : Lib.byteCells (txt x n (k - 1)) = Lib.byteCells (txt x n k) ++ [.int .u8 ((48 + bits BinOp.and IntKind.u64 (x / 2 ^ (k - 1)) 1) % 256)] := by
  have e : n - (k - 1) = (n - k) + 1 := by omega
  have e2 : n - 1 - (n - k) = k - 1 := by omega
  have hb : bits BinOp.and IntKind.u64 (x / 2 ^ (k - 1)) 1 = x / 2 ^ (k - 1) % 2 := by
    obtain ⟨m, rfl⟩ := Int.eq_ofNat_of_zero_le hx.1
    have hc : ((m : Int) / 2 ^ (k - 1)) = ((m / 2 ^ (k - 1) : Nat) : Int) := by
      rw [pow_cast, ← Int.natCast_ediv]
    have hm : m / 2 ^ (k - 1) < 18446744073709551616 := Nat.lt_of_le_of_lt (Nat.div_le_self _ _) (by omega)
    have := bits_and_u64_nat (m / 2 ^ (k - 1)) 1 hm (by decide)
    rw [hc, show (1 : Int) = ((1 : Nat) : Int) from rfl, this, Nat.and_one_is_mod]
    omega
  rw [hb]
  unfold txt
  rw [e, List.range_succ, List.map_append, List.map_singleton, e2]
  unfold Lib.byteCells
  rw [List.map_append, List.map_singleton]
  congr 3
  have hd : Sp01.tb x (k - 1) = decide (x / 2 ^ (k - 1) % 2 = 1) := by
    unfold Sp01.tb
    rw [Nat.testBit_eq_decide_div_mod_eq, ← toNat_div_pow hx.1]
    have h2 : 0 ≤ x / 2 ^ (k - 1) := Int.ediv_nonneg hx.1 (Int.le_of_lt (pow2_pos _))
    congr 1
    apply propext
    omega
  rw [hd]
  by_cases hq : x / 2 ^ (k - 1) % 2 = 1
  · rw [decide_eq_true hq, hq]
    rfl
  · have : x / 2 ^ (k - 1) % 2 = 0 := by omega
    rw [decide_eq_false hq, this]
    rfl
set_option maxHeartbeats 2000000 in
set_option maxRecDepth 100000 in
theorem fmt_walk (x n : Int) (w : World) (hx : 0 ≤ x ∧ x < 18446744073709551616) (q : Bool) (hv : Calls Tryd.prog 19 #[.int .u64 x, .int .i64 n] w fun e w' => e = .returned (.bool q) ∧ Below w.heap.size w w') (hn : q = true → 0 ≤ n ∧ n ≤ 64) :
    Calls Tryd.prog 42 #[.int .u64 x, .int .i64 n] w fun e w' => e = .returned (.string ⟨(bif q then txt x n.toNat 0 else []).toArray⟩) ∧ Below w.heap.size w w' := by
  go_enter Tryd.func42, Tryd.ntmps42
  go_wp2_with (go_at_call 19; refine hv.mono ?_; rintro e w1 ⟨rfl, hb1⟩)
  · have hq : q = false := by
      cases hqq : q with
      | false => rfl
      | true => subst hqq; simp_all
    subst hq
    go_ret
    exact ⟨rfl, hb1⟩
  · have hq : q = true := by
      cases hqq : q with
      | true => rfl
      | false => subst hqq; simp_all
    subst hq
    obtain ⟨hn0, hn1⟩ := hn rfl
    have hsz := hb1.size
    go_loopw [6] (fun i wr => ∃ k : Nat, (k : Int) ≤ n ∧ i = .int .i64 ((k : Int) - 1) ∧ Lib.IsBuilder 67 5 w.heap.size w1.heap.size (Lib.byteCells (txt x n.toNat k)) wr ∧ Below w.heap.size w wr) (fun i _ => (intOf i + 1).toNat)
    case atStart =>
      refine ⟨n.toNat, by omega, ?_, ?_, hb1.alloc hsz _⟩
      · congr 1
        unfold wrap64
        omega
      · refine Or.inl ⟨hsz, .slice none 0 0, heap_alloc_new w1 _, ?_, by simp [Value.ownBlock]⟩
        have : txt x n.toNat n.toNat = [] := by simp [txt]
        rw [this]
        exact World.ownsRow_nil _ _ _ _
    case round =>
      obtain ⟨k, hk, rfl, hB, hbel⟩ := hrel
      have hlen : (Lib.byteCells (txt x n.toNat k)).length + 1 ≤ 140737488355328 := by simp [Lib.byteCells, txt]; omega
      have hsz2 := hbel.size
      go_wp2_with (go_at_call 62; refine (write_byte w.heap.size w1.heap.size _ _ _ hB hlen hsz2).mono ?_)
      · rintro e w2 ⟨rfl⟩ hB2 hb2
        go_wp2
        refine ⟨⟨_, _, _, _, _, _, _, _, _, _, _, _, ⟨k - 1, by omega, ?_, ?_, hbel.trans hb2⟩, rfl⟩, ?_⟩
        · congr 1
          omega
        · refine Or.inr ?_
          rw [txt_snoc x n.toNat k hx (by omega) (by omega)]
          exact hB2
        · simp [intOf]; omega
      · have hk0 : k = 0 := by omega
        subst hk0
        go_wp2_with (go_at_call 63; refine (Any.Builder_String_any lays169 xExtra w.heap.size w1.heap.size (txt x n.toNat 0) _ hB hsz2).mono ?_)
        rintro e w2 ⟨rfl, hb2⟩
        go_wp2
        go_ret
        exact ⟨rfl, hbel.trans hb2⟩
end Go.Abs.C01

/- Chapter 01: the function that formats keeps its contract. -/
namespace Go.Abs.C01
open Go Go.Proofs Go.RowKit

/-- Two numbers handed over. -/
theorem get2 (k1 k2 : IntKind) (x y : Int) : (∀ t, 2 ≤ t → get [(0, D.int k1 x), (2, D.int k2 y)] (2 * t) = .undef) ∧ ∀ id, get [(0, D.int k1 x), (2, D.int k2 y)] (2 * id + 1) = .undef := by
  refine ⟨fun t ht => ?_, fun id => ?_⟩
  · simp only [get, nbeq_f (show 2 * t ≠ 0 by omega), nbeq_f (show 2 * t ≠ 2 by omega), cond_false]
  · simp only [get, nbeq_f (show 2 * id + 1 ≠ 0 by omega), nbeq_f (show 2 * id + 1 ≠ 2 by omega), cond_false]
theorem get1 (d : D) : (∀ t, 1 ≤ t → get [(0, d)] (2 * t) = .undef) ∧ ∀ id, get [(0, d)] (2 * id + 1) = .undef := by
  refine ⟨fun t ht => ?_, fun id => ?_⟩
  · simp only [get, nbeq_f (show 2 * t ≠ 0 by omega), cond_false]
  · simp only [get, nbeq_f (show 2 * id + 1 ≠ 0 by omega), cond_false]

theorem calls19 {E : Env} (H : FunOk Tryd.prog E 19 c19) {E1 : Env} (hg : E1.glob = E.glob) {C : Ctx} {s : St} {a : Act} {w : World} {G : Nat → Nat} {pt : Nat → Nat → Option Value} (R : Rel E1 C s a w G pt) (x n : Int) (hx : IntKind.u64.has x) (hn : IntKind.i64.has n) :
    Calls Tryd.prog 19 #[.int .u64 x, .int .i64 n] w fun e w' => e = .returned (.bool (Sp01.valid x n)) ∧ Below w.heap.size w w' := by
  obtain ⟨g1, g2⟩ := get2 .u64 .i64 x n
  have R1 := R.scal (s' := [(0, D.int .u64 x), (2, D.int .i64 n)]) (n := 2) (args := #[.int .u64 x, .int .i64 n]) rfl (fun t => by
      match t with
      | 0 => exact ⟨rfl, hx⟩
      | 1 => exact ⟨rfl, hn⟩
      | t + 2 => rw [g1 (t + 2) (by omega)]; trivial) (fun t b => by
      match t with
      | 0 => rfl
      | 1 => rfl
      | t + 2 => rw [g1 (t + 2) (by omega)]; exact ctV_undef b _) g2 g1
  have R2 : Rel (ifE E 2 false) { m := 2, w0 := w, G0 := G, X := fun _ => False, pin := none } [(0, D.int .u64 x), (2, D.int .i64 n)] { tmps := #[.int .u64 x, .int .i64 n], defers := [] } w G (fun _ _ => none) :=
    ⟨R1.sz, R1.df, R1.tm, R1.bx, R1.ht, R1.hb, R1.ct, R1.cb, R1.fr, R1.ex, R1.gz, R1.os, R1.out, R1.tape, R1.hs, R1.pf, fun g k l h => R1.gl g k l (by show E1.glob g = some (k, l); rw [hg]; exact h), R1.pn⟩
  refine H.sem ((), x, n, ()) (Sp01.valid x n, ()) rfl _ #[.int .u64 x, .int .i64 n] w G _ rfl (.inl rfl) rfl R2 _ (fun vs w' G' pt' R' => ?_)
  have hv : vs.getD 0 undef = .bool (Sp01.valid x n) := R'.tm 0
  have hs : vs.size = 1 := R'.sz
  obtain ⟨v, rfl⟩ : ∃ v, vs = #[v] := by
    match vs, hs with
    | ⟨[v]⟩, _ => exact ⟨v, rfl⟩
  have hv : v = .bool (Sp01.valid x n) := hv
  subst hv
  exact ⟨rfl, R'.below⟩

def u8s (l : List UInt8) : List Int := l.map fun c => (c.toNat : Int)
theorem txt_format (x n : Int) : u8s (bif Sp01.valid x n then txt x n.toNat 0 else []) = Sp01.format x n := by
  unfold Sp01.format
  cases Sp01.valid x n with
  | false => rfl
  | true =>
    simp only [cond_true, u8s, txt, Sp01.formatL, Nat.sub_zero, List.map_map]
    refine List.map_congr_left fun j _ => ?_
    simp only [Function.comp]
    cases Sp01.tb x (n.toNat - 1 - j) <;> rfl
theorem valid_le {x n : Int} (h : Sp01.valid x n = true) : 0 ≤ n ∧ n ≤ 64 := by
  simp only [Sp01.valid, Sp01.vlen, Bool.and_eq_true, Bool.or_eq_true, decide_eq_true_eq] at h
  omega

theorem sem42 {E : Env} (H : FunOk Tryd.prog E 19 c19) : CallSem Tryd.prog E 42 c42 := by
  rintro ⟨⟨⟩, x, n, ⟨⟩⟩ y hy C args w G pt hm hpin hargs R K hK
  have hy : (Sp01.format x n, ()) = y := Option.some.inj hy
  subst hy
  obtain ⟨v0, v1, rfl⟩ : ∃ v0 v1, args = #[v0, v1] := by
    have : args.size = 2 := hargs
    match args, this with
    | ⟨[v0, v1]⟩, _ => exact ⟨v0, v1, rfl⟩
  have t0 : v0 = .int .u64 x ∧ IntKind.u64.has x := R.tm 0
  have t1 : v1 = .int .i64 n ∧ IntKind.i64.has n := R.tm 1
  obtain ⟨rfl, hx⟩ := t0
  obtain ⟨rfl, hn⟩ := t1
  have hx' := has_u64 hx
  have key := fmt_walk x n w hx' (Sp01.valid x n) (calls19 H (E1 := ifE E c42.num c42.hasP) rfl R x n hx hn) valid_le
  refine key.mono ?_
  rintro e w' ⟨rfl, hb⟩
  have hsb : sby ⟨(bif Sp01.valid x n then txt x n.toNat 0 else []).toArray⟩ = Sp01.format x n := by
    rw [← txt_format]
    unfold sby u8s
    rfl
  have hlen : (Sp01.format x n).length ≤ mlen := by
    unfold Sp01.format
    cases hv : Sp01.valid x n with
    | false => exact Nat.zero_le _
    | true =>
      have := valid_le hv
      simp only [cond_true, Sp01.formatL, List.length_map, List.length_range, mlen]
      omega
  obtain ⟨g1, g2⟩ := get1 (D.str (Sp01.format x n))
  have hR := Rel.done (E' := ifE E c42.rs.num c42.hasP) R hb (get2 .u64 .i64 x n).2 (s' := ifOut c42 (Sp01.format x n, ())) (n := 1) (vs := #[.string ⟨(bif Sp01.valid x n then txt x n.toNat 0 else []).toArray⟩]) rfl (fun t => by
      match t with
      | 0 => exact ⟨_, rfl, hsb, hlen⟩
      | t + 1 => rw [show get (ifOut c42 (Sp01.format x n, ())) (2 * (t + 1)) = .undef from g1 (t + 1) (by omega)]; trivial) (fun t b => by
      match t with
      | 0 => rfl
      | t + 1 => rw [show get (ifOut c42 (Sp01.format x n, ())) (2 * (t + 1)) = .undef from g1 (t + 1) (by omega)]; exact ctV_undef b _) g2 g1 rfl rfl
  exact hK _ _ _ _ hR
theorem ok42' (H : FunOk Tryd.prog B 19 c19) : FunOk Tryd.prog B 42 c42 := ⟨by decide, sem42 H, Tryd.f42, Tryd.func42, by kernel_rfl, by kernel_rfl⟩
end Go.Abs.C01

/- Chapter 01: the walk of the function that makes a bit string of a list. -/
namespace Go.Abs.C01
open Go Go.Proofs Go.Shelf Go.RowKit

def bad (n k : Int) : Bool := decide (k < 0) || decide (n ≤ k)
set_option maxHeartbeats 1000000 in
set_option maxRecDepth 100000 in
theorem bad_calls (p : Nat) (k n : Int) (w : World) (hp : w.cell? ⟨p, 0, none⟩ = some (.int .i64 n)) :
    Calls Tryd.prog 65 #[.int .i64 k, .pointer (some ⟨p, 0, none⟩)] w fun e w' => e = .returned (.bool (bad n k)) ∧ w' = w := by
  go_enter Tryd.func65, Tryd.ntmps65
  go_wp2
  · go_ret
    exact ⟨rfl, rfl⟩
  · rename_i hk
    go_ret
    unfold bad
    rw [decide_eq_true hk]
    exact ⟨rfl, rfl⟩

set_option maxHeartbeats 1000000 in
set_option maxRecDepth 100000 in
theorem idx_calls (p b o len c : Nat) (l : List Int) (n : Int) (w : World) (hp : w.cell? ⟨p, 0, none⟩ = some (.int .i64 n)) (hlen : l.length = len) (hbig : len ≤ 140737488355328) (hc : ∀ i, i < len → w.cell? ⟨b, o + i, none⟩ = some (.int .i64 (l.getD i 0))) :
    Calls Tryd.prog 67 #[.slice (some ⟨b, o, none⟩) len c, .func (.func 65) #[] #[.pointer (some ⟨p, 0, none⟩)]] w fun e w' => (∃ r : Int, e = .returned (.int .i64 r) ∧ decide (0 ≤ r) = l.any (bad n)) ∧ w' = w := by
  go_enter Tryd.func67, Tryd.ntmps67
  go_wp2
  go_loop [8] (fun i => ∃ k : Nat, k ≤ len ∧ i = .int .i64 k ∧ (l.take k).any (bad n) = false) (fun i => len - (intOf i).toNat)
  case atStart => exact ⟨0, Nat.zero_le _, rfl, rfl⟩
  case round =>
    obtain ⟨k, hk, rfl, hb⟩ := hrel
    have hcell : k < len → w.cell? ⟨b, o + k, none⟩ = some (.int .i64 (l.getD k 0)) := fun _ => hc k (by omega)
    go_wp2_with (go_at_call 65; refine (bad_calls p _ n _ hp).mono ?_)
    · rename_i hlt _ _ hbad
      have hlt : k < len := by assumption
      have hbd : bad n l[k] = true := by assumption
      go_ret
      refine ⟨⟨(k : Int), rfl, ?_⟩, rfl⟩
      have h1 : l.any (bad n) = true := List.any_eq_true.2 ⟨l[k], List.getElem_mem _, hbd⟩
      rw [h1]
      exact decide_eq_true (by omega)
    · have hlt : k < len := by assumption
      have hbd : bad n l[k] = false := by assumption
      refine ⟨⟨k + 1, by omega, by simp, ?_⟩, by simp [intOf]; omega⟩
      rw [List.take_succ_eq_append_getElem (by omega), List.any_append, hb]
      simp [hbd]
    · have hge : ¬ k < len := by assumption
      have : k = len := by omega
      subst this
      go_ret
      refine ⟨⟨-1, rfl, ?_⟩, rfl⟩
      rw [List.take_of_length_le (by omega)] at hb
      rw [hb]
      rfl

set_option maxHeartbeats 1000000 in
set_option maxRecDepth 100000 in
theorem has_calls (p b o len c : Nat) (l : List Int) (n : Int) (w : World) (hp : w.cell? ⟨p, 0, none⟩ = some (.int .i64 n)) (hlen : l.length = len) (hbig : len ≤ 140737488355328) (hc : ∀ i, i < len → w.cell? ⟨b, o + i, none⟩ = some (.int .i64 (l.getD i 0))) :
    Calls Tryd.prog 64 #[.slice (some ⟨b, o, none⟩) len c, .func (.func 65) #[] #[.pointer (some ⟨p, 0, none⟩)]] w fun e w' => e = .returned (.bool (l.any (bad n))) ∧ w' = w := by
  go_enter Tryd.func64, Tryd.ntmps64
  go_wp2_with (go_at_call 67; refine (idx_calls p b o len c l n _ hp hlen hbig hc).mono ?_)
  rintro e w' ⟨⟨r, rfl, hr⟩, rfl⟩
  go_wp2
  go_ret
  rw [← hr]
  exact ⟨rfl, rfl⟩

set_option maxHeartbeats 1000000 in
set_option maxRecDepth 100000 in
theorem idx_nil (a : Option Addr) (c : Nat) (f : Value) (w : World) :
    Calls Tryd.prog 67 #[.slice a 0 c, f] w fun e w' => e = .returned (.int .i64 (-1)) ∧ w' = w := by
  go_enter Tryd.func67, Tryd.ntmps67
  go_wp2
  go_loop [8] (fun i => i = .int .i64 0) (fun i => 0)
  case atStart => rfl
  case round =>
    subst hrel
    go_wp2
    go_ret
    exact ⟨rfl, rfl⟩
set_option maxHeartbeats 1000000 in
set_option maxRecDepth 100000 in
theorem has_nil (a : Option Addr) (c : Nat) (f : Value) (w : World) :
    Calls Tryd.prog 64 #[.slice a 0 c, f] w fun e w' => e = .returned (.bool false) ∧ w' = w := by
  go_enter Tryd.func64, Tryd.ntmps64
  go_wp2_with (go_at_call 67; refine (idx_nil a c f _).mono ?_)
  rintro e w' ⟨rfl, rfl⟩
  go_wp2
  go_ret
  exact ⟨rfl, rfl⟩
set_option maxHeartbeats 1000000 in
set_option maxRecDepth 100000 in
theorem vlen_calls (n : Int) (w : World) :
    Calls Tryd.prog 15 #[.int .i64 n] w fun e w' => e = .returned (.bool (Sp01.vlen n)) ∧ w' = w := by
  go_enter Tryd.func15, Tryd.ntmps15
  go_wp2
  · have h : n = 8 := by assumption
    subst h
    go_ret
    exact ⟨rfl, rfl⟩
  · have h : n = 16 := by assumption
    subst h
    go_ret
    exact ⟨rfl, rfl⟩
  · have h : n = 32 := by assumption
    subst h
    go_ret
    exact ⟨rfl, rfl⟩
  · go_ret
    refine ⟨?_, rfl⟩
    have h : (n == 8 || n == 16 || n == 32 || n == 64) = Sp01.vlen n := by
      unfold Sp01.vlen
      rfl
    rw [← h]
    rfl
set_option maxHeartbeats 2000000 in
set_option maxRecDepth 100000 in
theorem of_nil (a : Option Addr) (c : Nat) (n : Int) (w : World) :
    Calls Tryd.prog 55 #[.slice a 0 c, .int .i64 n] w fun e w' => e = .returned (.tuple #[.int .u64 (Sp01.of [] n).1, .int .i64 (Sp01.of [] n).2.1]) ∧ Below w.heap.size w w' := by
  have hbel : Below w.heap.size w (w.alloc (.cells #[.int .i64 n] 3)) := (Below.refl _ w).alloc (Nat.le_refl _) _
  go_enter Tryd.func55, Tryd.ntmps55
  go_wp2_with (first | (go_at_call 15; refine (vlen_calls _ _).mono ?_; rintro e w' ⟨rfl, rfl⟩) | (go_at_call 64; refine (has_nil _ _ _ _).mono ?_; rintro e w' ⟨rfl, rfl⟩))
  · have hv : Sp01.vlen n = false := by simp_all
    go_ret2
    unfold Sp01.of
    rw [hv]
    exact ⟨rfl, hbel⟩
  · have hv : Sp01.vlen n = true := by simp_all
    go_loop [6, 19] (fun s i => s = .int .u64 0 ∧ i = .int .i64 0) (fun _ i => 0)
    case atStart => exact ⟨rfl, rfl⟩
    case round =>
      obtain ⟨rfl, rfl⟩ := hrel
      go_wp2
      go_ret2
      unfold Sp01.of
      rw [hv]
      exact ⟨rfl, hbel⟩
theorem bit_test {v m : Nat} (hv : v < 18446744073709551616) : (bits BinOp.and IntKind.u64 ((v : Int) / 2 ^ m) 1 == 1) = v.testBit m := by
  have hc : ((v : Int) / 2 ^ m) = ((v / 2 ^ m : Nat) : Int) := by rw [pow_cast, ← Int.natCast_ediv]
  have hm : v / 2 ^ m < 18446744073709551616 := Nat.lt_of_le_of_lt (Nat.div_le_self _ _) hv
  have := bits_and_u64_nat (v / 2 ^ m) 1 hm (by decide)
  rw [hc, show (1 : Int) = ((1 : Nat) : Int) from rfl, this, Nat.and_one_is_mod, Nat.testBit_eq_decide_div_mod_eq]
  by_cases h : v / 2 ^ m % 2 = 1
  · rw [h]; rfl
  · have : v / 2 ^ m % 2 = 0 := by omega
    rw [this]; rfl
theorem or_pow {v m : Nat} (hv : v < 18446744073709551616) (hm : m < 64) : bits BinOp.or IntKind.u64 (v : Int) (IntKind.u64.wrap (2 ^ m)) = ((v ||| 2 ^ m : Nat) : Int) ∧ v ||| 2 ^ m < 18446744073709551616 := by
  have hp : 2 ^ m < 2 ^ 64 := Nat.pow_lt_pow_right (by decide) hm
  have hx : v ||| 2 ^ m < 2 ^ 64 := Nat.or_lt_two_pow (by omega) hp
  have hw : IntKind.u64.wrap (2 ^ m) = ((2 ^ m : Nat) : Int) := by
    rw [pow_cast]
    clear hx
    generalize 2 ^ m = q at hp
    exact wu64 (by omega) (by omega)
  have h1 : (BitVec.ofInt 64 (v : Int)).toNat = v := by
    rw [BitVec.ofInt_natCast, BitVec.toNat_ofNat]; exact Nat.mod_eq_of_lt (by omega)
  have h2 : (BitVec.ofInt 64 ((2 ^ m : Nat) : Int)).toNat = 2 ^ m := by
    rw [BitVec.ofInt_natCast, BitVec.toNat_ofNat]; exact Nat.mod_eq_of_lt hp
  refine ⟨?_, by omega⟩
  rw [hw]
  show IntKind.u64.wrap ((BitVec.ofInt 64 (v : Int) ||| BitVec.ofInt 64 ((2 ^ m : Nat) : Int)).toNat : Int) = _
  rw [BitVec.toNat_or, h1, h2]
  exact wu64 (by omega) (by omega)
theorem drop_cons {l : List Int} {k len m : Nat} (hl : l.length = len) (hk : k < len) (hm : l.getD k 0 = (m : Int)) : l.drop k = (m : Int) :: l.drop (k + 1) := by
  rw [List.drop_eq_getElem_cons (by omega)]
  congr 1
  rw [← hm, List.getD_eq_getElem?_getD, List.getElem?_eq_getElem (by omega)]
  rfl
theorem has_nat {v m : Nat} (hm : m < 64) : Sp01.has (v : Int) (m : Int) = v.testBit m := by
  unfold Sp01.has Sp01.tb
  rw [decide_eq_true (show (0 : Int) ≤ (m : Int) by omega), decide_eq_true (show (m : Int) < 64 by omega)]
  simp
theorem ofL_hit {v m : Nat} {r : List Int} (h : v.testBit m = true) (hm : m < 64) : Sp01.ofL (v : Int) ((m : Int) :: r) = (0, 5, ()) := by
  rw [Sp01.ofL, has_nat hm, h]
  rfl
theorem ofL_miss {v m : Nat} {r : List Int} (hm : m < 64) (h : v.testBit m = false) : Sp01.ofL (v : Int) ((m : Int) :: r) = Sp01.ofL ((v ||| 2 ^ m : Nat) : Int) r := by
  rw [Sp01.ofL, has_nat hm, h]
  simp only [cond_false]
  congr 1
  unfold Sp01.or Sp01.bit1
  rw [decide_eq_false (show ¬ (m : Int) < 0 by omega), decide_eq_false (show ¬ (63 : Int) < (m : Int) by omega)]
  simp only [Bool.or_self, cond_false, Int.toNat_natCast]
  rw [pow_cast, Int.toNat_natCast]
  rfl
set_option maxHeartbeats 4000000 in
set_option maxRecDepth 100000 in
theorem of_walk (b o len c : Nat) (l : List Int) (n : Int) (w : World) (hbw : b < w.heap.size) (hlen : l.length = len) (hbig : len ≤ 140737488355328) (hc : ∀ i, i < len → w.cell? ⟨b, o + i, none⟩ = some (.int .i64 (l.getD i 0))) :
    Calls Tryd.prog 55 #[.slice (some ⟨b, o, none⟩) len c, .int .i64 n] w fun e w' => e = .returned (.tuple #[.int .u64 (Sp01.of l n).1, .int .i64 (Sp01.of l n).2.1]) ∧ Below w.heap.size w w' := by
  have hbel : Below w.heap.size w (w.alloc (.cells #[.int .i64 n] 3)) := (Below.refl _ w).alloc (Nat.le_refl _) _
  have hc' : ∀ i, i < len → (w.alloc (.cells #[.int .i64 n] 3)).cell? ⟨b, o + i, none⟩ = some (.int .i64 (l.getD i 0)) := fun i hi => (hbel.cell hbw).trans (hc i hi)
  have hp : (w.alloc (.cells #[.int .i64 n] 3)).cell? ⟨w.heap.size, 0, none⟩ = some (.int .i64 n) := by simp
  go_enter Tryd.func55, Tryd.ntmps55
  go_wp2_with (first | (go_at_call 15; refine (vlen_calls _ _).mono ?_; rintro e w' ⟨rfl, rfl⟩) | (go_at_call 64; refine (has_calls _ b o len c l n _ hp hlen hbig hc').mono ?_; rintro e w' ⟨rfl, rfl⟩))
  · have hv : Sp01.vlen n = false := by simp_all
    go_ret2
    unfold Sp01.of
    rw [hv]
    exact ⟨rfl, hbel⟩
  · have hv : Sp01.vlen n = true := by simp_all
    have ha : l.any (bad n) = true := by assumption
    go_ret2
    unfold Sp01.of
    rw [hv, show (fun k => decide (k < 0) || decide (n ≤ k)) = bad n from rfl, ha]
    exact ⟨rfl, hbel⟩
  · have hv : Sp01.vlen n = true := by simp_all
    have ha : l.any (bad n) = false := by assumption
    have hof : Sp01.of l n = Sp01.ofL 0 l := by
      unfold Sp01.of
      rw [hv, show (fun k => decide (k < 0) || decide (n ≤ k)) = bad n from rfl, ha]
      rfl
    go_loop [6, 19] (fun s i => ∃ k : Nat, k ≤ len ∧ i = .int .i64 k ∧ ∃ v : Nat, s = .int .u64 v ∧ v < 18446744073709551616 ∧ Sp01.ofL 0 l = Sp01.ofL v (l.drop k)) (fun _ i => len - (intOf i).toNat)
    case atStart => exact ⟨0, Nat.zero_le _, rfl, 0, rfl, by decide, rfl⟩
    case round =>
      obtain ⟨k, hk, rfl, v, rfl, hv1, hv2⟩ := hrel
      by_cases hlt : k < len
      · obtain ⟨m, hm, hm64⟩ : ∃ m : Nat, l.getD k 0 = (m : Int) ∧ m < 64 := by
          have h1 := List.any_eq_false.1 ha (l.getD k 0) (getD_mem (by omega))
          simp only [bad, Bool.or_eq_true, decide_eq_true_eq, not_or] at h1
          simp only [Sp01.vlen, Bool.or_eq_true, decide_eq_true_eq] at hv
          exact ⟨(l.getD k 0).toNat, by omega, by omega⟩
        have hcell : (w.alloc (.cells #[.int .i64 n] 3)).cell? ⟨b, o + k, none⟩ = some (.int .i64 (m : Int)) := by rw [hc' k hlt, hm]
        have hxx : ∀ i, i < len → True := fun _ _ => trivial
        clear hc' hc
        go_wp2
        · have ht : v.testBit m = true := by
            have h : (bits BinOp.and IntKind.u64 ((v : Int) / 2 ^ m) 1 == 1) = true := by assumption
            rwa [bit_test hv1] at h
          go_ret2
          rw [drop_cons hlen hlt hm, ofL_hit ht hm64]
          exact ⟨rfl, hbel⟩
        · have ht : v.testBit m = false := by
            have h : (bits BinOp.and IntKind.u64 ((v : Int) / 2 ^ m) 1 == 1) = false := by assumption
            rwa [bit_test hv1] at h
          obtain ⟨q1, q2⟩ := or_pow hv1 hm64
          refine ⟨⟨k + 1, by omega, by simp, v ||| 2 ^ m, by rw [q1], q2, ?_⟩, by simp [intOf]; omega⟩
          rw [hv2, drop_cons hlen hlt hm, ofL_miss hm64 ht]
      · go_wp2
        have hge : k = len := by omega
        go_ret2
        rw [List.drop_of_length_le (by omega)]
        exact ⟨rfl, hbel⟩
end Go.Abs.C01

/- Chapter 01: the function that makes a bit string of a list keeps its contract. -/
namespace Go.Abs.C01
open Go Go.Proofs Go.RowKit

theorem get2n (d1 d2 : D) : (∀ t, 2 ≤ t → get [(0, d1), (2, d2)] (2 * t) = .undef) ∧ ∀ id, get [(0, d1), (2, d2)] (2 * id + 1) = .undef := by
  refine ⟨fun t ht => ?_, fun id => ?_⟩
  · simp only [get, nbeq_f (show 2 * t ≠ 0 by omega), nbeq_f (show 2 * t ≠ 2 by omega), cond_false]
  · simp only [get, nbeq_f (show 2 * id + 1 ≠ 0 by omega), nbeq_f (show 2 * id + 1 ≠ 2 by omega), cond_false]
theorem i0 : IntKind.i64.has 0 := ⟨by decide, by decide⟩
theorem i1 : IntKind.i64.has 1 := ⟨by decide, by decide⟩
theorem i2 : IntKind.i64.has 2 := ⟨by decide, by decide⟩
theorem i5 : IntKind.i64.has 5 := ⟨by decide, by decide⟩
theorem z64 : (0 : Int) ≤ 0 ∧ (0 : Int) < 18446744073709551616 := by decide
theorem u0 : IntKind.u64.has 0 := ⟨by decide, by decide⟩
theorem ofL_fits (l : List Int) : ∀ b : Int, 0 ≤ b ∧ b < 18446744073709551616 → 0 ≤ (Sp01.ofL b l).1 ∧ (Sp01.ofL b l).1 < 18446744073709551616 ∧ IntKind.i64.has (Sp01.ofL b l).2.1 := by
  induction l with
  | nil => intro b h; exact ⟨h.1, h.2, i0⟩
  | cons k r ih =>
    intro b h
    rw [Sp01.ofL]
    cases Sp01.has b k with
    | true => exact ⟨z64.1, z64.2, i5⟩
    | false =>
      refine ih _ ?_
      unfold Sp01.or
      have h1 : b.toNat < 2 ^ 64 := by omega
      have h2 : (Sp01.bit1 k).toNat < 2 ^ 64 := by
        unfold Sp01.bit1
        by_cases c1 : k < 0
        · simp [c1]
        · by_cases c2 : 63 < k
          · simp [c2]
          · rw [decide_eq_false c1, decide_eq_false c2]
            simp only [Bool.or_self, cond_false]
            rw [pow_cast, Int.toNat_natCast]
            exact Nat.pow_lt_pow_right (by decide) (by omega)
      have := Nat.or_lt_two_pow h1 h2
      have e : Nat.lor b.toNat (Sp01.bit1 k).toNat = b.toNat ||| (Sp01.bit1 k).toNat := rfl
      rw [e]
      omega
theorem of_fits (l : List Int) (n : Int) : IntKind.u64.has (Sp01.of l n).1 ∧ IntKind.i64.has (Sp01.of l n).2.1 := by
  unfold Sp01.of
  cases Sp01.vlen n with
  | false => exact ⟨u0, i1⟩
  | true =>
    cases l.any (fun k => decide (k < 0) || decide (n ≤ k)) with
    | true => exact ⟨u0, i2⟩
    | false =>
      have := ofL_fits l 0 (by decide)
      have h1 : (Sp01.ofL 0 l).1 ≤ 18446744073709551615 := by omega
      exact ⟨⟨this.1, h1⟩, this.2.2⟩

theorem sem55 {E : Env} : CallSem Tryd.prog E 55 c55 := by
  rintro ⟨⟨⟩, l, n, ⟨⟩⟩ y hy C args w G pt hm hpin hargs R K hK
  have hy : (Sp01.of l n, ()) = y := Option.some.inj hy
  subst hy
  obtain ⟨v0, v1, rfl⟩ : ∃ v0 v1, args = #[v0, v1] := by
    have : args.size = 2 := hargs
    match args, this with
    | ⟨[v0, v1]⟩, _ => exact ⟨v0, v1, rfl⟩
  have t0 : RepL w G pt (.sl 0 (.int .i64) l) v0 := R.tm 0
  have t1 : v1 = .int .i64 n ∧ IntKind.i64.has n := R.tm 1
  obtain ⟨a, m, c, rfl, rfl, hbg, s0⟩ := t0
  obtain ⟨rfl, hn⟩ := t1
  have hbig : l.length ≤ 140737488355328 := by
    have h : l.length * 8 ≤ 140737488355328 := hbg
    omega
  have key : Calls Tryd.prog 55 #[.slice a l.length c, .int .i64 n] w fun e w' => e = .returned (.tuple #[.int .u64 (Sp01.of l n).1, .int .i64 (Sp01.of l n).2.1]) ∧ Below w.heap.size w w' := by
    rcases s0.2 with h | ⟨b, o, rfl, _, h3⟩
    · have h : l = [] := h
      subst h
      exact of_nil a c n w
    · have hc : ∀ i, i < l.length → w.cell? ⟨b, o + i, none⟩ = some (.int .i64 (l.getD i 0)) := by
        intro i hi
        have h4 := (h3 i hi).1
        simp only [Ty.nc, Nat.mul_one] at h4
        rw [h4, List.getD_eq_getElem?_getD, List.getElem?_eq_getElem hi]
        rfl
      by_cases hl : l = []
      · subst hl
        exact of_nil (some ⟨b, o, none⟩) c n w
      · have hlt : b < w.heap.size := by
          have h0 : 0 < l.length := List.length_pos_iff.2 hl
          have h4 := hc 0 h0
          rcases Nat.lt_or_ge b w.heap.size with h5 | h5
          · exact h5
          · simp [World.cell?, Array.getElem?_eq_none h5] at h4
        exact of_walk b o l.length c l n w hlt rfl hbig hc
  refine key.mono ?_
  rintro e w' ⟨rfl, hb⟩
  obtain ⟨f1, f2⟩ := of_fits l n
  obtain ⟨g1, g2⟩ := get2 .u64 .i64 (Sp01.of l n).1 (Sp01.of l n).2.1
  have hR := Rel.done (E' := ifE E c55.rs.num c55.hasP) R hb (get2n (.sl 0 (.int .i64) l) (.int .i64 n)).2 (s' := ifOut c55 (Sp01.of l n, ())) (n := 2) (vs := #[.int .u64 (Sp01.of l n).1, .int .i64 (Sp01.of l n).2.1]) rfl (fun t => by
      match t with
      | 0 => exact ⟨rfl, f1⟩
      | 1 => exact ⟨rfl, f2⟩
      | t + 2 => rw [show get (ifOut c55 (Sp01.of l n, ())) (2 * (t + 2)) = .undef from g1 (t + 2) (by omega)]; trivial) (fun t b => by
      match t with
      | 0 => rfl
      | 1 => rfl
      | t + 2 => rw [show get (ifOut c55 (Sp01.of l n, ())) (2 * (t + 2)) = .undef from g1 (t + 2) (by omega)]; exact ctV_undef b _) g2 g1 rfl rfl
  exact hK _ _ _ _ hR
theorem ok55' : FunOk Tryd.prog B 55 c55 := ⟨by decide, sem55, Tryd.f55, Tryd.func55, by kernel_rfl, by kernel_rfl⟩
end Go.Abs.C01

/- Chapter 01: the functions keep their contracts. -/
namespace Go.Abs.C01
open Go Go.Proofs
theorem ok58 : FunOk Tryd.prog B 58 c58 := glue L0 gam_nil plan58 Tryd.func58 (by kernel_rfl) (by
  rintro ⟨⟨a0, a1, ⟨⟩⟩, ⟨⟩⟩ y r h
  obtain ⟨h1, h2⟩ := Sp01.on_some h
  subst h2
  exact (g58_eq a0 a1).trans (g58_ok a0 a1 r.1.1 r.1.2.1 h1))
theorem all58 : ∀ g con, lookC L58 g = some con → FunOk Tryd.prog B g con := gam_cons rfl ok58 gam_nil

theorem ok59 : FunOk Tryd.prog B 59 c59 := glue L58 all58 plan59 Tryd.func59 (by kernel_rfl) (by
  rintro ⟨⟨⟩, a0, a1, ⟨⟩⟩ y r h
  exact (g59_eq a0 a1).trans ((g59_ok a0 a1 r.2.1 r.2.2.1).trans h))
theorem all59 : ∀ g con, lookC L59 g = some con → FunOk Tryd.prog B g con := gam_cons rfl ok59 all58

theorem ok22 : FunOk Tryd.prog B 22 c22 := glue L59 all59 plan22 Tryd.func22 (by kernel_rfl) (by
  rintro ⟨⟨a0, a1, ⟨⟩⟩, a2, ⟨⟩⟩ y r h
  obtain ⟨h1, h2⟩ := Sp01.on_some h
  subst h2
  exact (g22_eq a0 a1 a2).trans (g22_ok a0 a1 a2 r.1.1 r.1.2.1 r.2.1 h1))
theorem all22 : ∀ g con, lookC L22 g = some con → FunOk Tryd.prog B g con := gam_cons rfl ok22 all59

theorem ok12 : FunOk Tryd.prog B 12 c12 := glue L22 all22 plan12 Tryd.func12 (by kernel_rfl) (by
  rintro ⟨⟨a0, a1, ⟨⟩⟩, a2, a3, ⟨⟩⟩ y r h
  obtain ⟨h1, h2⟩ := Sp01.on_some h
  subst h2
  exact (g12_eq a0 a1 a2 a3).trans (g12_ok a0 a1 a2 a3 r.1.1 r.1.2.1 r.2.1 r.2.2.1 h1))
theorem all12 : ∀ g con, lookC L12 g = some con → FunOk Tryd.prog B g con := gam_cons rfl ok12 all22

theorem ok53 : FunOk Tryd.prog B 53 c53 := glue L12 all12 plan53 Tryd.func53 (by kernel_rfl) (by
  rintro ⟨⟨a0, a1, ⟨⟩⟩, a2, ⟨⟩⟩ y r h
  obtain ⟨h1, h2⟩ := Sp01.on_some h
  subst h2
  exact (g53_eq a0 a1 a2).trans (g53_ok a0 a1 a2 r.1.1 r.1.2.1 r.2.1 h1))
theorem all53 : ∀ g con, lookC L53 g = some con → FunOk Tryd.prog B g con := gam_cons rfl ok53 all12

theorem ok57 : FunOk Tryd.prog B 57 c57 := glue L53 all53 plan57 Tryd.func57 (by kernel_rfl) (by
  rintro ⟨⟨a0, a1, ⟨⟩⟩, a2, ⟨⟩⟩ y r h
  obtain ⟨h1, h2⟩ := Sp01.on_some h
  subst h2
  exact (g57_eq a0 a1 a2).trans (g57_ok a0 a1 a2 r.1.1 r.1.2.1 r.2.1 h1))
theorem all57 : ∀ g con, lookC L57 g = some con → FunOk Tryd.prog B g con := gam_cons rfl ok57 all53

theorem ok54 : FunOk Tryd.prog B 54 c54 := glue L57 all57 plan54 Tryd.func54 (by kernel_rfl) (by
  rintro ⟨⟨a0, a1, ⟨⟩⟩, ⟨⟩⟩ y r h
  obtain ⟨h1, h2⟩ := Sp01.on_some h
  subst h2
  exact (g54_eq a0 a1).trans (g54_ok a0 a1 r.1.1 r.1.2.1 h1))
theorem all54 : ∀ g con, lookC L54 g = some con → FunOk Tryd.prog B g con := gam_cons rfl ok54 all57

theorem ok13 : FunOk Tryd.prog B 13 c13 := glue L54 all54 plan13 Tryd.func13 (by kernel_rfl) (by
  rintro ⟨⟨a0, a1, ⟨⟩⟩, ⟨⟩⟩ y r h
  obtain ⟨h1, h2⟩ := Sp01.on_some h
  subst h2
  exact (g13_eq a0 a1).trans (g13_ok a0 a1 r.1.1 r.1.2.1 h1))
theorem all13 : ∀ g con, lookC L13 g = some con → FunOk Tryd.prog B g con := gam_cons rfl ok13 all54

theorem ok51 : FunOk Tryd.prog B 51 c51 := glue L13 all13 plan51 Tryd.func51 (by kernel_rfl) (by
  rintro ⟨⟨a0, a1, ⟨⟩⟩, a2, a3, ⟨⟩⟩ y r h
  obtain ⟨h1, h2⟩ := Sp01.on_some h
  subst h2
  exact (g51_eq a0 a1 a2 a3).trans (g51_ok a0 a1 a2 a3 r.1.1 r.1.2.1 r.2.1 r.2.2.1 h1))
theorem all51 : ∀ g con, lookC L51 g = some con → FunOk Tryd.prog B g con := gam_cons rfl ok51 all13

theorem ok52 : FunOk Tryd.prog B 52 c52 := glue L51 all51 plan52 Tryd.func52 (by kernel_rfl) (by
  rintro ⟨⟨a0, a1, ⟨⟩⟩, a2, a3, a4, ⟨⟩⟩ y r h
  obtain ⟨h1, h2⟩ := Sp01.on_some h
  subst h2
  exact (g52_eq a0 a1 a2 a3 a4).trans (g52_ok a0 a1 a2 a3 a4 r.1.1 r.1.2.1 r.2.1 r.2.2.1 r.2.2.2.1 h1))
theorem all52 : ∀ g con, lookC L52 g = some con → FunOk Tryd.prog B g con := gam_cons rfl ok52 all51

theorem ok45 : FunOk Tryd.prog B 45 c45 := glue L52 all52 plan45 Tryd.func45 (by kernel_rfl) (by
  rintro ⟨⟨a0, a1, ⟨⟩⟩, a2, ⟨⟩⟩ y r h
  obtain ⟨h1, h2⟩ := Sp01.on_some h
  subst h2
  exact (g45_eq a0 a1 a2).trans (g45_ok a0 a1 a2 r.1.1 r.1.2.1 r.2.1 h1))
theorem all45 : ∀ g con, lookC L45 g = some con → FunOk Tryd.prog B g con := gam_cons rfl ok45 all52

theorem ok11 : FunOk Tryd.prog B 11 c11 := glue L45 all45 plan11 Tryd.func11 (by kernel_rfl) (by
  rintro ⟨⟨⟩, a0, ⟨⟩⟩ y r h
  exact (g11_eq a0).trans ((g11_ok a0 r.2.1).trans h))
theorem all11 : ∀ g con, lookC L11 g = some con → FunOk Tryd.prog B g con := gam_cons rfl ok11 all45

theorem ok15 : FunOk Tryd.prog B 15 c15 := glue L11 all11 plan15 Tryd.func15 (by kernel_rfl) (by
  rintro ⟨⟨⟩, a0, ⟨⟩⟩ y r h
  exact (g15_eq a0).trans ((g15_ok a0 r.2.1).trans h))
theorem all15 : ∀ g con, lookC L15 g = some con → FunOk Tryd.prog B g con := gam_cons rfl ok15 all11

theorem ok16 : FunOk Tryd.prog B 16 c16 := glue L15 all15 plan16 Tryd.func16 (by kernel_rfl) (by
  rintro ⟨⟨⟩, a0, ⟨⟩⟩ y r h
  exact (g16_eq a0).trans ((g16_ok a0 r.2.1).trans h))
theorem all16 : ∀ g con, lookC L16 g = some con → FunOk Tryd.prog B g con := gam_cons rfl ok16 all15

theorem ok41 : FunOk Tryd.prog B 41 c41 := glue L16 all16 plan41 Tryd.func41 (by kernel_rfl) (by
  rintro ⟨⟨⟩, a0, ⟨⟩⟩ y r h
  exact (g41_eq a0).trans ((g41_ok a0 r.2.1).trans h))
theorem all41 : ∀ g con, lookC L41 g = some con → FunOk Tryd.prog B g con := gam_cons rfl ok41 all16

theorem ok17 : FunOk Tryd.prog B 17 c17 := glue L41 all41 plan17 Tryd.func17 (by kernel_rfl) (by
  rintro ⟨⟨⟩, a0, ⟨⟩⟩ y r h
  exact (g17_eq a0).trans ((g17_ok a0 r.2.1).trans h))
theorem all17 : ∀ g con, lookC L17 g = some con → FunOk Tryd.prog B g con := gam_cons rfl ok17 all41

theorem ok18 : FunOk Tryd.prog B 18 c18 := glue L17 all17 plan18 Tryd.func18 (by kernel_rfl) (by
  rintro ⟨⟨⟩, a0, ⟨⟩⟩ y r h
  exact (g18_eq a0).trans ((g18_ok a0 r.2.1).trans h))
theorem all18 : ∀ g con, lookC L18 g = some con → FunOk Tryd.prog B g con := gam_cons rfl ok18 all17

theorem ok19 : FunOk Tryd.prog B 19 c19 := glue L18 all18 plan19 Tryd.func19 (by kernel_rfl) (by
  rintro ⟨⟨⟩, a0, a1, ⟨⟩⟩ y r h
  exact (g19_eq a0 a1).trans ((g19_ok a0 a1 r.2.1 r.2.2.1).trans h))
theorem all19 : ∀ g con, lookC L19 g = some con → FunOk Tryd.prog B g con := gam_cons rfl ok19 all18

theorem ok20 : FunOk Tryd.prog B 20 c20 := glue L19 all19 plan20 Tryd.func20 (by kernel_rfl) (by
  rintro ⟨⟨⟩, a0, a1, ⟨⟩⟩ y r h
  exact (g20_eq a0 a1).trans ((g20_ok a0 a1 r.2.1 r.2.2.1).trans h))
theorem all20 : ∀ g con, lookC L20 g = some con → FunOk Tryd.prog B g con := gam_cons rfl ok20 all19

theorem ok14 : FunOk Tryd.prog B 14 c14 := glue L20 all20 plan14 Tryd.func14 (by kernel_rfl) (by
  rintro ⟨⟨a0, a1, ⟨⟩⟩, a2, ⟨⟩⟩ y r h
  obtain ⟨h1, h2⟩ := Sp01.on_some h
  subst h2
  exact (g14_eq a0 a1 a2).trans (g14_ok a0 a1 a2 r.1.1 r.1.2.1 r.2.1 h1))
theorem all14 : ∀ g con, lookC L14 g = some con → FunOk Tryd.prog B g con := gam_cons rfl ok14 all20

theorem ok60 : FunOk Tryd.prog B 60 c60 := glue L14 all14 plan60 Tryd.func60 (by kernel_rfl) (by
  rintro ⟨⟨⟩, a0, ⟨⟩⟩ y r h
  exact (g60_eq a0).trans ((g60_ok a0 r.2.1).trans h))
theorem all60 : ∀ g con, lookC L60 g = some con → FunOk Tryd.prog B g con := gam_cons rfl ok60 all14

theorem ok61 : FunOk Tryd.prog B 61 c61 := glue L60 all60 plan61 Tryd.func61 (by kernel_rfl) (by
  rintro ⟨⟨⟩, a0, ⟨⟩⟩ y r h
  obtain ⟨h1, h2⟩ := Sp01.on_some h
  subst h2
  exact (g61_eq a0).trans (g61_ok a0 r.2.1 h1))
theorem all61 : ∀ g con, lookC L61 g = some con → FunOk Tryd.prog B g con := gam_cons rfl ok61 all60

theorem ok23 : FunOk Tryd.prog B 23 c23 := glue L61 all61 plan23 Tryd.func23 (by kernel_rfl) (by
  rintro ⟨⟨⟩, a0, ⟨⟩⟩ y r h
  exact (g23_eq a0).trans ((g23_ok a0 r.2.1).trans h))
theorem all23 : ∀ g con, lookC L23 g = some con → FunOk Tryd.prog B g con := gam_cons rfl ok23 all61

theorem ok25 : FunOk Tryd.prog B 25 c25 := glue L23 all23 plan25 Tryd.func25 (by kernel_rfl) (by
  rintro ⟨⟨⟩, a0, ⟨⟩⟩ y r h
  exact (g25_eq a0).trans ((g25_ok a0 r.2.1).trans h))
theorem all25 : ∀ g con, lookC L25 g = some con → FunOk Tryd.prog B g con := gam_cons rfl ok25 all23

theorem ok36 : FunOk Tryd.prog B 36 c36 := glue L25 all25 plan36 Tryd.func36 (by kernel_rfl) (by
  rintro ⟨⟨⟩, a0, a1, ⟨⟩⟩ y r h
  exact (g36_eq a0 a1).trans ((g36_ok a0 a1 r.2.1 r.2.2.1).trans h))
theorem all36 : ∀ g con, lookC L36 g = some con → FunOk Tryd.prog B g con := gam_cons rfl ok36 all25

theorem ok28 : FunOk Tryd.prog B 28 c28 := glue L36 all36 plan28 Tryd.func28 (by kernel_rfl) (by
  rintro ⟨⟨⟩, a0, ⟨⟩⟩ y r h
  exact (g28_eq a0).trans ((g28_ok a0 r.2.1).trans h))
theorem all28 : ∀ g con, lookC L28 g = some con → FunOk Tryd.prog B g con := gam_cons rfl ok28 all36

theorem ok29 : FunOk Tryd.prog B 29 c29 := glue L28 all28 plan29 Tryd.func29 (by kernel_rfl) (by
  rintro ⟨⟨⟩, a0, ⟨⟩⟩ y r h
  exact (g29_eq a0).trans ((g29_ok a0 r.2.1).trans h))
theorem all29 : ∀ g con, lookC L29 g = some con → FunOk Tryd.prog B g con := gam_cons rfl ok29 all28

theorem ok24 : FunOk Tryd.prog B 24 c24 := glue L29 all29 plan24 Tryd.func24 (by kernel_rfl) (by
  rintro ⟨⟨⟩, a0, ⟨⟩⟩ y r h
  exact (g24_eq a0).trans ((g24_ok a0 r.2.1).trans h))
theorem all24 : ∀ g con, lookC L24 g = some con → FunOk Tryd.prog B g con := gam_cons rfl ok24 all29

theorem ok30 : FunOk Tryd.prog B 30 c30 := glue L24 all24 plan30 Tryd.func30 (by kernel_rfl) (by
  rintro ⟨⟨⟩, a0, a1, ⟨⟩⟩ y r h
  exact (g30_eq a0 a1).trans ((g30_ok a0 a1 r.2.1 r.2.2.1).trans h))
theorem all30 : ∀ g con, lookC L30 g = some con → FunOk Tryd.prog B g con := gam_cons rfl ok30 all24

theorem ok31 : FunOk Tryd.prog B 31 c31 := glue L30 all30 plan31 Tryd.func31 (by kernel_rfl) (by
  rintro ⟨⟨⟩, a0, a1, ⟨⟩⟩ y r h
  exact (g31_eq a0 a1).trans ((g31_ok a0 a1 r.2.1 r.2.2.1).trans h))
theorem all31 : ∀ g con, lookC L31 g = some con → FunOk Tryd.prog B g con := gam_cons rfl ok31 all30

theorem ok26 : FunOk Tryd.prog B 26 c26 := glue L31 all31 plan26 Tryd.func26 (by kernel_rfl) (by
  rintro ⟨⟨⟩, a0, ⟨⟩⟩ y r h
  exact (g26_eq a0).trans ((g26_ok a0 r.2.1).trans h))
theorem all26 : ∀ g con, lookC L26 g = some con → FunOk Tryd.prog B g con := gam_cons rfl ok26 all31

theorem ok32 : FunOk Tryd.prog B 32 c32 := glue L26 all26 plan32 Tryd.func32 (by kernel_rfl) (by
  rintro ⟨⟨⟩, a0, a1, ⟨⟩⟩ y r h
  exact (g32_eq a0 a1).trans ((g32_ok a0 a1 r.2.1 r.2.2.1).trans h))
theorem all32 : ∀ g con, lookC L32 g = some con → FunOk Tryd.prog B g con := gam_cons rfl ok32 all26

theorem ok33 : FunOk Tryd.prog B 33 c33 := glue L32 all32 plan33 Tryd.func33 (by kernel_rfl) (by
  rintro ⟨⟨⟩, a0, a1, ⟨⟩⟩ y r h
  exact (g33_eq a0 a1).trans ((g33_ok a0 a1 r.2.1 r.2.2.1).trans h))
theorem all33 : ∀ g con, lookC L33 g = some con → FunOk Tryd.prog B g con := gam_cons rfl ok33 all32

theorem ok34 : FunOk Tryd.prog B 34 c34 := glue L33 all33 plan34 Tryd.func34 (by kernel_rfl) (by
  rintro ⟨⟨⟩, a0, a1, ⟨⟩⟩ y r h
  exact (g34_eq a0 a1).trans ((g34_ok a0 a1 r.2.1 r.2.2.1).trans h))
theorem all34 : ∀ g con, lookC L34 g = some con → FunOk Tryd.prog B g con := gam_cons rfl ok34 all33

theorem ok35 : FunOk Tryd.prog B 35 c35 := glue L34 all34 plan35 Tryd.func35 (by kernel_rfl) (by
  rintro ⟨⟨⟩, a0, a1, ⟨⟩⟩ y r h
  exact (g35_eq a0 a1).trans ((g35_ok a0 a1 r.2.1 r.2.2.1).trans h))
theorem all35 : ∀ g con, lookC L35 g = some con → FunOk Tryd.prog B g con := gam_cons rfl ok35 all34

theorem ok37 : FunOk Tryd.prog B 37 c37 := glue L35 all35 plan37 Tryd.func37 (by kernel_rfl) (by
  rintro ⟨⟨⟩, a0, a1, ⟨⟩⟩ y r h
  exact (g37_eq a0 a1).trans ((g37_ok a0 a1 r.2.1 r.2.2.1).trans h))
theorem all37 : ∀ g con, lookC L37 g = some con → FunOk Tryd.prog B g con := gam_cons rfl ok37 all35

theorem ok38 : FunOk Tryd.prog B 38 c38 := glue L37 all37 plan38 Tryd.func38 (by kernel_rfl) (by
  rintro ⟨⟨⟩, a0, a1, ⟨⟩⟩ y r h
  exact (g38_eq a0 a1).trans ((g38_ok a0 a1 r.2.1 r.2.2.1).trans h))
theorem all38 : ∀ g con, lookC L38 g = some con → FunOk Tryd.prog B g con := gam_cons rfl ok38 all37

theorem ok39 : FunOk Tryd.prog B 39 c39 := glue L38 all38 plan39 Tryd.func39 (by kernel_rfl) (by
  rintro ⟨⟨⟩, a0, a1, ⟨⟩⟩ y r h
  exact (g39_eq a0 a1).trans ((g39_ok a0 a1 r.2.1 r.2.2.1).trans h))
theorem all39 : ∀ g con, lookC L39 g = some con → FunOk Tryd.prog B g con := gam_cons rfl ok39 all38

theorem ok40 : FunOk Tryd.prog B 40 c40 := glue L39 all39 plan40 Tryd.func40 (by kernel_rfl) (by
  rintro ⟨⟨⟩, a0, a1, ⟨⟩⟩ y r h
  exact (g40_eq a0 a1).trans ((g40_ok a0 a1 r.2.1 r.2.2.1).trans h))
theorem all40 : ∀ g con, lookC L40 g = some con → FunOk Tryd.prog B g con := gam_cons rfl ok40 all39

theorem ok27 : FunOk Tryd.prog B 27 c27 := glue L40 all40 plan27 Tryd.func27 (by kernel_rfl) (by
  rintro ⟨⟨⟩, a0, a1, ⟨⟩⟩ y r h
  exact (g27_eq a0 a1).trans ((g27_ok a0 a1 r.2.1 r.2.2.1).trans h))
theorem all27 : ∀ g con, lookC L27 g = some con → FunOk Tryd.prog B g con := gam_cons rfl ok27 all40

theorem ok42 : FunOk Tryd.prog B 42 c42 := ok42' ok19
theorem all42 : ∀ g con, lookC L42 g = some con → FunOk Tryd.prog B g con := gam_cons rfl ok42 all27

theorem ok44 : FunOk Tryd.prog B 44 c44 := glue L42 all42 plan44 Tryd.func44 (by kernel_rfl) (by
  rintro ⟨⟨⟩, a0, a1, ⟨⟩⟩ y r h
  exact (g44_eq a0 a1).trans ((g44_ok a0 a1 r.2.1 r.2.2.1).trans h))
theorem all44 : ∀ g con, lookC L44 g = some con → FunOk Tryd.prog B g con := gam_cons rfl ok44 all42

theorem ok43 : FunOk Tryd.prog B 43 c43 := glue L44 all44 plan43 Tryd.func43 (by kernel_rfl) (by
  rintro ⟨⟨⟩, a0, ⟨⟩⟩ y r h
  exact (g43_eq a0).trans ((g43_ok a0 r.2.1).trans h))
theorem all43 : ∀ g con, lookC L43 g = some con → FunOk Tryd.prog B g con := gam_cons rfl ok43 all44

theorem ok46 : FunOk Tryd.prog B 46 c46 := glue L43 all43 plan46 Tryd.func46 (by kernel_rfl) (by
  rintro ⟨⟨⟩, a0, ⟨⟩⟩ y r h
  exact (g46_eq a0).trans ((g46_ok a0 r.2.1).trans h))
theorem all46 : ∀ g con, lookC L46 g = some con → FunOk Tryd.prog B g con := gam_cons rfl ok46 all43

theorem ok47 : FunOk Tryd.prog B 47 c47 := glue L46 all46 plan47 Tryd.func47 (by kernel_rfl) (by
  rintro ⟨⟨⟩, a0, a1, ⟨⟩⟩ y r h
  exact (g47_eq a0 a1).trans ((g47_ok a0 a1 r.2.1 r.2.2.1).trans h))
theorem all47 : ∀ g con, lookC L47 g = some con → FunOk Tryd.prog B g con := gam_cons rfl ok47 all46

theorem ok49 : FunOk Tryd.prog B 49 c49 := glue L47 all47 plan49 Tryd.func49 (by kernel_rfl) (by
  rintro ⟨⟨⟩, a0, a1, ⟨⟩⟩ y r h
  exact (g49_eq a0 a1).trans ((g49_ok a0 a1 r.2.1 r.2.2.1).trans h))
theorem all49 : ∀ g con, lookC L49 g = some con → FunOk Tryd.prog B g con := gam_cons rfl ok49 all47

theorem ok48 : FunOk Tryd.prog B 48 c48 := glue L49 all49 plan48 Tryd.func48 (by kernel_rfl) (by
  rintro ⟨⟨⟩, a0, ⟨⟩⟩ y r h
  exact (g48_eq a0).trans ((g48_ok a0 r.2.1).trans h))
theorem all48 : ∀ g con, lookC L48 g = some con → FunOk Tryd.prog B g con := gam_cons rfl ok48 all49

theorem ok50 : FunOk Tryd.prog B 50 c50 := glue L48 all48 plan50 Tryd.func50 (by kernel_rfl) (by
  rintro ⟨⟨⟩, a0, ⟨⟩⟩ y r h
  exact (g50_eq a0).trans ((g50_ok a0 r.2.1).trans h))
theorem all50 : ∀ g con, lookC L50 g = some con → FunOk Tryd.prog B g con := gam_cons rfl ok50 all48

theorem ok55 : FunOk Tryd.prog B 55 c55 := ok55'
theorem all55 : ∀ g con, lookC L55 g = some con → FunOk Tryd.prog B g con := gam_cons rfl ok55 all50

theorem ok56 : FunOk Tryd.prog B 56 c56 := glue L55 all55 plan56 Tryd.func56 (by kernel_rfl) (by
  rintro ⟨⟨⟩, a0, a1, ⟨⟩⟩ y r h
  exact (g56_eq a0 a1).trans ((g56_ok a0 a1 r.2.1 r.2.2.1).trans h))
theorem all56 : ∀ g con, lookC L56 g = some con → FunOk Tryd.prog B g con := gam_cons rfl ok56 all55

theorem ok21 : FunOk Tryd.prog B 21 c21 := glue L56 all56 plan21 Tryd.func21 (by kernel_rfl) (by
  rintro ⟨⟨⟩, ⟨⟩⟩ y r h
  exact (g21_eq ).trans ((g21_ok  ).trans h))
theorem all21 : ∀ g con, lookC L21 g = some con → FunOk Tryd.prog B g con := gam_cons rfl ok21 all56
end Go.Abs.C01

/- Chapter 01: the laws' functions answer true. -/
namespace Go.Abs.C01
open Go Go.Proofs Sp01
set_option maxRecDepth 100000

theorem len_vlen (t : Tp) : vlen (Sp01.length t).1 = true := by
  have h := next_range (t := t) (n := 5) (by decide)
  have e : (Sp01.length t).1 = ([8, 8, 16, 32, 64] : List Int).getD (next t 5).1.toNat 0 := rfl
  have k : (next t 5).1.toNat = 0 ∨ (next t 5).1.toNat = 1 ∨ (next t 5).1.toNat = 2 ∨ (next t 5).1.toNat = 3 ∨ (next t 5).1.toNat = 4 := by omega
  rw [e]
  rcases k with k | k | k | k | k <;> rw [k] <;> rfl
theorem len_wf {t : Tp} (h : wf t = true) : wf (Sp01.length t).2 = true := next_wf (n := 5) h
theorem bits_wf {t : Tp} (h : wf t = true) (n : Int) : wf (Sp01.bits t n).2 = true := by
  have w1 := raw_wf h
  have w2 := raw_wf w1
  have w3 := next_wf (n := 6) w2
  show wf (bitsV t n).2 = true
  unfold bitsV
  simp only
  cases decide ((next (raw (raw t).2).2 6).1 = 0) with
  | true => exact w3
  | false =>
    cases decide ((next (raw (raw t).2).2 6).1 = 1) with
    | true => exact next_wf (n := n) w3
    | false =>
      cases decide ((next (raw (raw t).2).2 6).1 = 2) with
      | true => exact w3
      | false => exact w3
theorem bits_U (t : Tp) (n : Int) : U (Sp01.bits t n).1 := ucast (Nat.and_lt_two_pow _ (utn (full_U n)))
theorem bits_valid (t : Tp) {n : Int} (h : vlen n = true) : valid (Sp01.bits t n).1 n = true := by
  unfold valid
  rw [h, Bool.true_and]
  refine decide_eq_true ?_
  show (((bitsV t n).1.toNat &&& (full n).toNat : Nat) : Int) < 2 ^ n.toNat
  rw [full_nat h, Int.toNat_natCast, Nat.and_two_pow_sub_one_eq_mod, pow_cast]
  have := Nat.mod_lt (bitsV t n).1.toNat (Nat.two_pow_pos n.toNat)
  generalize (bitsV t n).1.toNat % 2 ^ n.toNat = q at *
  generalize 2 ^ n.toNat = p at *
  omega
theorem on_range {t : Tp} (h : wf t = true) {a b : Int} (ha : small a = true) (hb : small b = true) : on (wf t && small a && small b) (Sp01.range t a b) = some (Sp01.range t a b) := on_true (by rw [h, ha, hb]; rfl)

/-! Lengths. -/
theorem inner3 (P : List Int × List Int × Unit) (A Bl : List Int) (i : Int) (hA : A.length ≤ 100) (hB : Bl.length ≤ 100) (h0 : 0 ≤ i) (hi : i < (A.length : Int)) : Loop (g3_s0 (i, P)) ((0 : Int), A, Bl, ()) = some (false, (false, ()), A, Bl, ()) := by
  refine Loop_inv (fun v : Int × List Int × List Int × Unit => 0 ≤ v.1 ∧ v.1 ≤ (Bl.length : Int) ∧ v.2 = (A, Bl, ())) (fun v => ((Bl.length : Int) - v.1).toNat) (fun _ => (false, (false, ()), A, Bl, ())) ?_ (v := ((0 : Int), A, Bl, ())) ⟨by simp, by simp, rfl⟩
  rintro ⟨k, w⟩ ⟨h1, h2, h3⟩
  simp only at h1 h2 h3
  subst h3
  have e : IntKind.wrap .i64 (k + 1) = k + 1 := wi64 (by omega) (by omega)
  have b1 : Nat.blt i.toNat A.length = true := blt_t (by omega)
  unfold g3_s0
  by_cases h4 : k < (Bl.length : Int)
  · right
    have b2 : Nat.blt k.toNat Bl.length = true := blt_t (by omega)
    refine ⟨(k + 1, A, Bl, ()), ?_, ⟨by simp only; omega, by simp only; omega, rfl⟩, by simp only; omega, rfl⟩
    simp only [ofN, h4, hi, h0, h1, b1, b2, decide_true, cond_true, Bool.and_self, Bool.not_true, cond_false, e]
  · left
    simp only [ofN, h4, decide_false, cond_false]
theorem outer3 (x l : List Int) (hx : x.length ≤ 100) (hl : l.length ≤ 100) : Loop g3_s1 ((0 : Int), x, l, ()) = some (false, (false, ()), ()) := by
  refine Loop_inv (fun v : Int × List Int × List Int × Unit => 0 ≤ v.1 ∧ v.1 ≤ (l.length : Int) ∧ v.2 = (x, l, ())) (fun v => ((l.length : Int) - v.1).toNat) (fun _ => (false, (false, ()), ())) ?_ (v := ((0 : Int), x, l, ())) ⟨by simp, by simp, rfl⟩
  rintro ⟨k, w⟩ ⟨h1, h2, h3⟩
  simp only at h1 h2 h3
  subst h3
  have e : IntKind.wrap .i64 (k + 1) = k + 1 := wi64 (by omega) (by omega)
  unfold g3_s1
  by_cases h4 : k < (l.length : Int)
  · right
    have b2 : Nat.blt k.toNat l.length = true := blt_t (by omega)
    refine ⟨(k + 1, x, l, ()), ?_, ⟨by simp only; omega, by simp only; omega, rfl⟩, by simp only; omega, rfl⟩
    have hin := inner3 (x, l, ()) l x k hl hx h1 h4
    simp only [ofN, h4, h1, b2, decide_true, cond_true, Bool.and_self, Bool.not_true, Bool.not_false, cond_false, Option.bind_some, e]
    rw [hin]
    rfl
  · left
    simp only [ofN, h4, decide_false, cond_false]

theorem g3_ok (a0 : (List Int)) (a1 : Int) (a2 : Int) (r0 : (Ty.sl (.int .i64)).ok a0) (r1 : IntKind.u64.has a1) (r2 : IntKind.i64.has a2) : g3 a0 a1 a2 = some (true, ()) := by
  have w0 := tape_wf a0
  have w1 := range_wf (a := -1) (b := 66) w0
  have w2 := len_wf w1
  have w3 := bits_wf w2 64
  unfold g3
  rw [on_range w0 (by decide) (by decide)]
  simp only [Option.bind_some]
  rw [on_true w1]
  simp only [Option.bind_some]
  rw [on_true w2]
  simp only [Option.bind_some]
  rw [on_true w3]
  simp only [Option.bind_some]
  rw [outer3 _ _ (by simp) (by simp)]
  rfl

/-! Counts. -/
theorem inner4 (P : List Int × List Int × Unit) (A Bl : List Int) (i : Int) (hA : A.length ≤ 100) (hB : Bl.length ≤ 100) (h0 : 0 ≤ i) (hi : i < (A.length : Int)) : Loop (g4_s0 (i, P)) ((0 : Int), A, Bl, ()) = some (false, (false, ()), A, Bl, ()) := by
  refine Loop_inv (fun v : Int × List Int × List Int × Unit => 0 ≤ v.1 ∧ v.1 ≤ (Bl.length : Int) ∧ v.2 = (A, Bl, ())) (fun v => ((Bl.length : Int) - v.1).toNat) (fun _ => (false, (false, ()), A, Bl, ())) ?_ (v := ((0 : Int), A, Bl, ())) ⟨by simp, by simp, rfl⟩
  rintro ⟨k, w⟩ ⟨h1, h2, h3⟩
  simp only at h1 h2 h3
  subst h3
  have e : IntKind.wrap .i64 (k + 1) = k + 1 := wi64 (by omega) (by omega)
  have b1 : Nat.blt i.toNat A.length = true := blt_t (by omega)
  unfold g4_s0
  by_cases h4 : k < (Bl.length : Int)
  · right
    have b2 : Nat.blt k.toNat Bl.length = true := blt_t (by omega)
    refine ⟨(k + 1, A, Bl, ()), ?_, ⟨by simp only; omega, by simp only; omega, rfl⟩, by simp only; omega, rfl⟩
    simp only [ofN, h4, hi, h0, h1, b1, b2, decide_true, cond_true, Bool.and_self, Bool.not_true, Bool.not_false, cond_false, Option.bind_some, e]
  · left
    simp only [ofN, h4, decide_false, cond_false]
theorem outer4 (x l : List Int) (hx : x.length ≤ 100) (hl : l.length ≤ 100) : Loop g4_s1 ((0 : Int), x, l, ()) = some (false, (false, ()), ()) := by
  refine Loop_inv (fun v : Int × List Int × List Int × Unit => 0 ≤ v.1 ∧ v.1 ≤ (l.length : Int) ∧ v.2 = (x, l, ())) (fun v => ((l.length : Int) - v.1).toNat) (fun _ => (false, (false, ()), ())) ?_ (v := ((0 : Int), x, l, ())) ⟨by simp, by simp, rfl⟩
  rintro ⟨k, w⟩ ⟨h1, h2, h3⟩
  simp only at h1 h2 h3
  subst h3
  have e : IntKind.wrap .i64 (k + 1) = k + 1 := wi64 (by omega) (by omega)
  unfold g4_s1
  by_cases h4 : k < (l.length : Int)
  · right
    have b2 : Nat.blt k.toNat l.length = true := blt_t (by omega)
    refine ⟨(k + 1, x, l, ()), ?_, ⟨by simp only; omega, by simp only; omega, rfl⟩, by simp only; omega, rfl⟩
    have hin := inner4 (x, l, ()) l x k hl hx h1 h4
    simp only [ofN, h4, h1, b2, decide_true, cond_true, Bool.and_self, Bool.not_true, Bool.not_false, cond_false, Option.bind_some, e]
    rw [hin]
    rfl
  · left
    simp only [ofN, h4, decide_false, cond_false]

theorem g4_ok (a0 : (List Int)) (a1 : Int) (a2 : Int) (r0 : (Ty.sl (.int .i64)).ok a0) (r1 : IntKind.u64.has a1) (r2 : IntKind.i64.has a2) : g4 a0 a1 a2 = some (true, ()) := by
  have w0 := tape_wf a0
  have w1 := bits_wf w0 64
  have w2 := bits_wf w1 16
  have w3 := range_wf (a := -1) (b := 65) w2
  unfold g4
  rw [on_true w0]
  simp only [Option.bind_some]
  rw [on_true w1]
  simp only [Option.bind_some]
  rw [on_range w2 (by decide) (by decide)]
  simp only [Option.bind_some]
  rw [on_true w3]
  simp only [Option.bind_some]
  rw [outer4 _ _ (by simp) (by simp)]
  rfl

/-! Ranks. -/
theorem nth_at {b : Int} {i : Nat} (h : i < (ones b).length) : Sp01.nth b (i : Int) = (((ones b).getD i 0 : Nat) : Int) := by
  unfold Sp01.nth
  have c : ¬ (((list b).length : Nat) : Int) ≤ (i : Int) := by rw [list_len]; omega
  rw [decide_eq_false (show ¬ (i : Int) < 0 by omega), decide_eq_false c]
  show (list b).getD (i : Int).toNat 0 = _
  rw [Int.toNat_natCast, list_get b i h]
theorem ones_lt {b : Int} {i : Nat} (h : i + 1 < (ones b).length) : (ones b).getD i 0 < (ones b).getD (i + 1) 0 := by
  obtain ⟨r1, _, _⟩ := rank_ones (show i < (ones b).length by omega)
  obtain ⟨r2, _, _⟩ := rank_ones h
  rcases Nat.lt_or_ge ((ones b).getD i 0) ((ones b).getD (i + 1) 0) with h1 | h1
  · exact h1
  · have := rankN_mono b h1
    omega
theorem count_eq (b : Int) : count b = ((ones b).length : Int) := by unfold count; rw [list_len]

theorem g6_ok (a0 : Int) (r0 : IntKind.u64.has a0) : g6 a0 = some (true, ()) := by
  have hl := ones_len a0
  have hc := count_eq a0
  unfold g6
  rw [hc]
  have c1 : ¬ ((ones a0).length : Int) < 0 := by omega
  have c2 : ¬ ((ones a0).length : Int) > 64 := by omega
  have hlo : Loop (g6_s0 a0) ((0 : Int), (-1 : Int), ()) = some (false, (false, ()), ()) := by
    refine Loop_inv (fun v : Int × Int × Unit => 0 ≤ v.1 ∧ v.1 ≤ ((ones a0).length : Int) ∧ (v.1 < ((ones a0).length : Int) → v.2.1 < (((ones a0).getD v.1.toNat 0 : Nat) : Int))) (fun v => (((ones a0).length : Int) - v.1).toNat) (fun _ => (false, (false, ()), ())) ?_ (v := ((0 : Int), (-1 : Int), ())) ⟨by simp, by simp, by simp only; omega⟩
    rintro ⟨k, last, ⟨⟩⟩ ⟨h1, h2, h3⟩
    simp only at h1 h2 h3
    have e : IntKind.wrap .i64 (k + 1) = k + 1 := wi64 (by omega) (by omega)
    unfold g6_s0
    rw [hc]
    by_cases h4 : k < ((ones a0).length : Int)
    · right
      obtain ⟨n, rfl⟩ : ∃ n : Nat, k = (n : Int) := ⟨k.toNat, by omega⟩
      have hn : n < (ones a0).length := by omega
      obtain ⟨r1, r2, r3⟩ := rank_ones hn
      have h5 := h3 h4
      rw [Int.toNat_natCast] at h5
      have q1 : ¬ (((ones a0).getD n 0 : Nat) : Int) ≤ last := by omega
      have q2 : ¬ (((ones a0).getD n 0 : Nat) : Int) > 63 := by omega
      have q3 : has a0 (((ones a0).getD n 0 : Nat) : Int) = true := by rw [has_tb r2, r3]
      have q4 : rank a0 (((ones a0).getD n 0 : Nat) : Int) = (n : Int) := by
        unfold rank
        rw [Int.toNat_natCast, show min ((ones a0).getD n 0) 64 = (ones a0).getD n 0 by omega, r1]
      refine ⟨((n : Int) + 1, (((ones a0).getD n 0 : Nat) : Int), ()), ?_, ⟨by simp only; omega, by simp only; omega, fun h6 => ?_⟩, by simp only; omega, rfl⟩
      · simp only [h4, nth_at hn, q1, q2, q3, q4, decide_true, decide_false, cond_true, cond_false, Bool.not_true, Bool.not_false, Option.bind_some, e]
      · simp only at h6 ⊢
        have := ones_lt (b := a0) (i := n) (by omega)
        rw [show ((n : Int) + 1).toNat = n + 1 by omega]
        omega
    · left
      simp only [h4, decide_false, cond_false]
  have hn : Sp01.nth a0 ((ones a0).length : Int) = -1 := by
    unfold Sp01.nth
    have c : (((list a0).length : Nat) : Int) ≤ ((ones a0).length : Int) := by rw [list_len]; exact Int.le_refl _
    rw [decide_eq_false c1, decide_eq_true c]
    rfl
  have hr : rank a0 64 = ((ones a0).length : Int) := rfl
  simp only [c1, c2, decide_false, Bool.not_false, cond_true, cond_false, Option.bind_some, hlo, hn, hr, decide_true]

/-! Spreading and gathering undo each other. -/
theorem tbN (f : Nat → Bool) (k : Nat) : tb ((natB f 64 : Nat) : Int) k = (decide (k < 64) && f k) := by
  unfold tb
  rw [Int.toNat_natCast, natB_bit]
theorem spread_gather {x m : Int} (hx : U x) (hm : U m) : spread (gather x m) m = Sp01.and x m := by
  unfold spread Sp01.and
  rw [w64_eq]
  congr 1
  refine eq_bits (natB_lt _ _) (Nat.and_lt_two_pow _ (utn hm)) fun k hk => ?_
  rw [natB_bit, decide_eq_true hk, Bool.true_and]
  show (tb m k && tb (gather x m) (rankN m k)) = (x.toNat &&& m.toNat).testBit k
  rw [Nat.testBit_and]
  show (tb m k && tb (gather x m) (rankN m k)) = (tb x k && tb m k)
  by_cases hb : tb m k = true
  · have h1 := rank_lt hk hb
    have h2 := ones_len m
    have h3 := ones_rank hk hb
    unfold gather
    rw [w64_eq, tbN, decide_eq_true (show rankN m k < 64 by omega), decide_eq_true h1, h3, hb]
    simp
  · rw [Bool.not_eq_true] at hb
    rw [hb]
    simp
theorem gather_spread {x m : Int} : gather (spread x m) m = ((natB (fun i => decide (i < (ones m).length) && tb x i) 64 : Nat) : Int) := by
  unfold gather
  rw [w64_eq]
  congr 1
  refine natB_congr 64 fun i _ => ?_
  by_cases h : i < (ones m).length
  · obtain ⟨r1, r2, r3⟩ := rank_ones h
    unfold spread
    rw [w64_eq, tbN, decide_eq_true h, decide_eq_true r2, r3, r1]
    simp
  · rw [decide_eq_false h]
    rfl
theorem low_part {x : Int} (hx : U x) (n : Nat) : natB (fun i => decide (i < n) && tb x i) 64 = x.toNat &&& (2 ^ n - 1) := by
  have hlt : x.toNat &&& (2 ^ n - 1) < 2 ^ 64 := Nat.lt_of_le_of_lt Nat.and_le_left (utn hx)
  refine eq_bits (natB_lt _ _) hlt fun k hk => ?_
  rw [natB_bit, decide_eq_true hk, Nat.testBit_and, Nat.testBit_two_pow_sub_one]
  unfold tb
  cases decide (k < n) <;> simp
theorem outer7 (x : Int) (hx : U x) (l : List Int) (hl : l.length ≤ 100) (hu : ∀ m ∈ l, U m) : Loop (g7_s0 x) ((0 : Int), l, ()) = some (false, (false, ()), ()) := by
  refine Loop_inv (fun v : Int × List Int × Unit => 0 ≤ v.1 ∧ v.1 ≤ (l.length : Int) ∧ v.2 = (l, ())) (fun v => ((l.length : Int) - v.1).toNat) (fun _ => (false, (false, ()), ())) ?_ (v := ((0 : Int), l, ())) ⟨by simp, by simp, rfl⟩
  rintro ⟨k, w⟩ ⟨h1, h2, h3⟩
  simp only at h1 h2 h3
  subst h3
  have e : IntKind.wrap .i64 (k + 1) = k + 1 := wi64 (by omega) (by omega)
  unfold g7_s0
  by_cases h4 : k < (l.length : Int)
  · right
    have b2 : Nat.blt k.toNat l.length = true := blt_t (by omega)
    refine ⟨(k + 1, l, ()), ?_, ⟨by simp only; omega, by simp only; omega, rfl⟩, by simp only; omega, rfl⟩
    have hm : U (l.getD k.toNat 0) := hu _ (getD_mem (by omega))
    generalize l.getD k.toNat 0 = m at hm
    have hlm := ones_len m
    have hq : IntKind.wrap .u64 (Int.ofNat (BitVec.and (BitVec.ofInt 64 x) (BitVec.ofInt 64 m)).toNat) = Sp01.and x m := (and_run hx hm).1
    simp only [ofN] at hq
    simp only [ofN, h4, h1, b2, hq, spread_gather hx hm, decide_true, cond_true, Bool.and_self, Bool.not_true, Bool.not_false, cond_false, Option.bind_some, e, count_eq]
    have hg : gather (spread x m) m = ((x.toNat &&& (2 ^ (ones m).length - 1) : Nat) : Int) := by rw [gather_spread, low_part hx]
    by_cases h64 : ((ones m).length : Int) < 64
    · have hp := pow_U (k := (ones m).length) (by omega)
      have hlt : 2 ^ (ones m).length < 2 ^ 64 := Nat.pow_lt_pow_right (by decide) (by omega)
      have hpos := Nat.two_pow_pos (ones m).length
      have e1 : bit1 ((ones m).length : Int) = ((2 ^ (ones m).length : Nat) : Int) := bit1_nat (by omega)
      have e2 : IntKind.wrap .u64 (((2 ^ (ones m).length : Nat) : Int) - 1) = ((2 ^ (ones m).length - 1 : Nat) : Int) := by
        generalize 2 ^ (ones m).length = q at hlt hpos
        rw [wu64 (by omega) (by omega)]
        omega
      have e3 := band hx (ucast (n := 2 ^ (ones m).length - 1) (by omega))
      rw [Int.toNat_natCast] at e3
      simp only [ofN] at e3
      simp only [h64, decide_true, cond_true, e1, e2, Option.bind_some, e3, hg, Bool.not_true, cond_false]
    · have h65 : (ones m).length = 64 := by omega
      have e4 : x.toNat &&& (2 ^ (ones m).length - 1) = x.toNat := by
        rw [h65, Nat.and_two_pow_sub_one_eq_mod]
        exact Nat.mod_eq_of_lt (utn hx)
      have e5 : ((x.toNat : Nat) : Int) = x := Int.toNat_of_nonneg hx.1
      rw [e4, e5] at hg
      simp only [h64, decide_false, cond_false, Option.bind_some, hg, decide_true, Bool.not_true]
  · left
    simp only [ofN, h4, decide_false, cond_false]

theorem g7_ok (a0 : (List Int)) (a1 : Int) (a2 : Int) (r0 : (Ty.sl (.int .i64)).ok a0) (r1 : IntKind.u64.has a1) (r2 : IntKind.u64.has a2) : g7 a0 a1 a2 = some (true, ()) := by
  have w0 := tape_wf a0
  have w1 := bits_wf w0 64
  unfold g7
  rw [on_true w0]
  simp only [Option.bind_some]
  rw [on_true w1]
  simp only [Option.bind_some]
  rw [outer7 a1 (uh r1) _ (by simp) (by
    intro m hm
    simp only [List.mem_cons, List.not_mem_nil, or_false] at hm
    rcases hm with rfl | rfl | rfl | rfl
    · exact uh r2
    · exact bits_U _ _
    · exact bits_U _ _
    · exact U0)]
  rfl

/-! Texts. -/
theorem beq_self (l : List Int) : List.beq l l = true := by
  show (l == l) = true
  simp
theorem parse_fm {b : Int} {n : Nat} (hb : U b) (h : b < 2 ^ n) : ∀ k, k ≤ n → parseL (fm b n (n - k)) = b / 2 ^ (n - k)
  | 0, _ => by
    have : fm b n (n - 0) = [] := by simp [fm]
    rw [this, Nat.sub_zero, Int.ediv_eq_zero_of_lt hb.1 h]
    rfl
  | k + 1, hk => by
    have ih := parse_fm hb h k (by omega)
    have e : n - k = n - (k + 1) + 1 := by omega
    rw [fm_snoc b (show n - (k + 1) + 1 ≤ n by omega), ← e]
    unfold parseL at ih ⊢
    rw [List.foldl_append, ih, e, Int.pow_succ, ← Int.ediv_ediv_of_nonneg (Int.le_of_lt (pow2_pos _))]
    have hd : tb b (n - (k + 1)) = decide (b / 2 ^ (n - (k + 1)) % 2 = 1) := by
      unfold tb
      rw [Nat.testBit_eq_decide_div_mod_eq, ← toNat_div_pow hb.1]
      have h2 : 0 ≤ b / 2 ^ (n - (k + 1)) := Int.ediv_nonneg hb.1 (Int.le_of_lt (pow2_pos _))
      congr 1
      apply propext
      omega
    rw [hd]
    simp only [List.foldl_cons, List.foldl_nil]
    by_cases h1 : b / 2 ^ (n - (k + 1)) % 2 = 1
    · rw [decide_eq_true h1]
      simp only [cond_true]
      omega
    · rw [decide_eq_false h1]
      simp only [cond_false]
      omega
theorem format_eq {b : Int} {n : Nat} (h : valid b (n : Int) = true) : format b (n : Int) = fm b n 0 := by
  unfold format
  rw [h]
  rfl
theorem parse_format {b : Int} {n : Nat} (hb : U b) (h : valid b (n : Int) = true) : parse (format b (n : Int)) = (b, (n : Int), 0, ()) := by
  have hv : vlen (n : Int) = true := by
    unfold valid at h
    rw [Bool.and_eq_true] at h
    exact h.1
  have hlt : b < 2 ^ n := by
    unfold valid at h
    rw [Bool.and_eq_true, decide_eq_true_eq, Int.toNat_natCast] at h
    exact h.2
  have hl : (fm b n 0).length = n := by rw [fm_len]; rfl
  have hd : (fm b n 0).all digit = true := by
    rw [List.all_eq_true]
    intro c hc
    simp only [fm, List.mem_map] at hc
    obtain ⟨j, _, rfl⟩ := hc
    cases tb b (n - 1 - j) <;> rfl
  have hp := parse_fm hb hlt n (Nat.le_refl _)
  rw [Nat.sub_self, show (2 : Int) ^ 0 = 1 from rfl, Int.ediv_one] at hp
  unfold parse
  rw [format_eq h, hl, hv, hd, hp]
  rfl
theorem outer8 (raw : List Int) (l : List (List Int)) (hl : l.length ≤ 100) : Loop (g8_s0 raw) ((0 : Int), l, ()) = some (false, (false, ()), ()) := by
  refine Loop_inv (fun v : Int × List (List Int) × Unit => 0 ≤ v.1 ∧ v.1 ≤ (l.length : Int) ∧ v.2 = (l, ())) (fun v => ((l.length : Int) - v.1).toNat) (fun _ => (false, (false, ()), ())) ?_ (v := ((0 : Int), l, ())) ⟨by simp, by simp, rfl⟩
  rintro ⟨k, w⟩ ⟨h1, h2, h3⟩
  simp only at h1 h2 h3
  subst h3
  have e : IntKind.wrap .i64 (k + 1) = k + 1 := wi64 (by omega) (by omega)
  unfold g8_s0
  by_cases h4 : k < (l.length : Int)
  · have b2 : Nat.blt k.toNat l.length = true := blt_t (by omega)
    simp only [ofN, h4, decide_true, cond_true, Option.bind_some]
    cases decide ((raw.length : Int) ≤ 300) with
    | false => left; rfl
    | true =>
      right
      refine ⟨(k + 1, l, ()), ?_, ⟨by simp only; omega, by simp only; omega, rfl⟩, by simp only; omega, trivial⟩
      simp only [h4, h1, b2, e, decide_true, cond_true, cond_false, Bool.and_self, Bool.not_true, Bool.not_false, Option.bind_some]
  · left
    simp only [ofN, h4, decide_false, cond_false, Option.bind_some]

theorem g8_ok (a0 : (List Int)) (a1 : Int) (a2 : Int) (a3 : (List Int)) (r0 : (Ty.sl (.int .i64)).ok a0) (r1 : IntKind.u64.has a1) (r2 : IntKind.i64.has a2) (r3 : Ty.str.ok a3) : g8 a0 a1 a2 a3 = some (true, ()) := by
  have w0 := tape_wf a0
  have w1 := len_wf w0
  have hv := len_vlen (Sp01.tape a0)
  have w2 := bits_wf w1 (Sp01.length (Sp01.tape a0)).1
  have hval := bits_valid (Sp01.length (Sp01.tape a0)).2 hv
  have hu := bits_U (Sp01.length (Sp01.tape a0)).2 (Sp01.length (Sp01.tape a0)).1
  unfold g8
  rw [on_true w0]
  simp only [Option.bind_some]
  rw [on_true w1]
  simp only [Option.bind_some]
  revert w2 hval hu
  generalize Sp01.bits (Sp01.length (Sp01.tape a0)).2 (Sp01.length (Sp01.tape a0)).1 = y5
  generalize (Sp01.length (Sp01.tape a0)).1 = y4 at hv
  intro w2 hval hu
  have h64 := vlen_iff hv
  obtain ⟨n, rfl⟩ : ∃ n : Nat, y4 = (n : Int) := ⟨y4.toNat, by omega⟩
  have hpf := parse_format hu hval
  have hlen : (format y5.1 (n : Int)).length = n := by rw [format_eq hval, fm_len]; rfl
  simp only [beq_self, hpf, decide_true, Bool.not_true, Bool.not_false, cond_true, cond_false, Option.bind_some, hlen, ofN]
  rw [on_true w2]
  have hr := next_range (t := y5.2) (n := (n : Int)) (by omega)
  have w3 := next_wf (n := (n : Int)) w2
  simp only [Option.bind_some]
  generalize next y5.2 (n : Int) = y7 at hr w3
  have c1 : y7.1 ≤ (n : Int) := by omega
  have o8 : (wf y7.2 && decide ((0 : Int) ≤ 2) && decide ((2 : Int) ≤ 1000)) = true := by rw [w3]; rfl
  have hr2 := range_in (t := y7.2) (a := 0) (b := 2) (by decide)
  have ht := (text_wf (range_wf (a := 0) (b := 2) w3) (range y7.2 0 2).1.toNat).2
  have htl : (text y7.2 2).1.length ≤ 2 := by
    unfold text
    rw [ht]
    omega
  have e7 : IntKind.wrap .i64 (y7.1 + 1) = y7.1 + 1 := wi64 (by omega) (by omega)
  have k1 : Nat.ble ((List.drop 0 (List.take y7.1.toNat (format y5.1 (n : Int)))).length + (text y7.2 2).1.length) 9223372036854775807 = true := ble_t (by
    rw [List.drop_zero, List.length_take, hlen]; omega)
  have k2 : (decide ((0 : Int) ≤ y7.1 + 1) && decide (y7.1 + 1 ≤ (n : Int)) && decide ((n : Int) ≤ (n : Int))) = true := by
    rw [decide_eq_true (show (0 : Int) ≤ y7.1 + 1 by omega), decide_eq_true (show y7.1 + 1 ≤ (n : Int) by omega), decide_eq_true (Int.le_refl _)]
    rfl
  have k3 : Nat.ble ((List.drop 0 (List.take y7.1.toNat (format y5.1 (n : Int))) ++ (text y7.2 2).1).length + (List.drop (y7.1 + 1).toNat (List.take (n : Int).toNat (format y5.1 (n : Int)))).length) 9223372036854775807 = true := ble_t (by
    rw [List.length_append, List.drop_zero, List.length_take, List.length_drop, List.length_take, hlen]; omega)
  simp only [hr.1, c1, decide_true, Bool.and_self, cond_true]
  rw [on_true o8]
  simp only [Option.bind_some, e7]
  rw [k1, k2, k3]
  simp only [cond_true]
  rw [outer8 _ _ (by simp)]
  rfl

/-! Bytes. -/
theorem from_bm {b : Int} {n : Nat} (hb : U b) (h8 : n % 8 = 0) (h : b < 2 ^ n) : ∀ k, k ≤ n / 8 → fromL (bm b n (n / 8 - k)) = b / 2 ^ (8 * (n / 8 - k))
  | 0, _ => by
    have e : bm b n (n / 8 - 0) = [] := by simp [bm]
    rw [e, Nat.sub_zero, show 8 * (n / 8) = n by omega, Int.ediv_eq_zero_of_lt hb.1 h]
    rfl
  | k + 1, hk => by
    have ih := from_bm hb h8 h k (by omega)
    have e : n / 8 - k = n / 8 - (k + 1) + 1 := by omega
    rw [bm_snoc b h8 (show n / 8 - (k + 1) + 1 ≤ n / 8 by omega), ← e]
    unfold fromL at ih ⊢
    rw [List.foldl_append, ih, e, show 8 * (n / 8 - (k + 1) + 1) = 8 * (n / 8 - (k + 1)) + 8 by omega, Int.pow_add, ← Int.ediv_ediv_of_nonneg (Int.le_of_lt (pow2_pos _))]
    simp only [List.foldl_cons, List.foldl_nil]
    have e8 : (2 : Int) ^ 8 = 256 := by decide
    rw [e8]
    omega
theorem bytes_back {b : Int} {n : Nat} (hb : U b) (h : valid b (n : Int) = true) : Sp01.bytes b (n : Int) = (bm b n 0, 0, ()) ∧ fromB (bm b n 0) = (b, (n : Int), 0, ()) := by
  have hv : vlen (n : Int) = true := by
    unfold valid at h
    rw [Bool.and_eq_true] at h
    exact h.1
  have hlt : b < 2 ^ n := by
    unfold valid at h
    rw [Bool.and_eq_true, decide_eq_true_eq, Int.toNat_natCast] at h
    exact h.2
  have h64 := vlen_iff hv
  have h8 : n % 8 = 0 := by omega
  have hl : (bm b n 0).length = n / 8 := by rw [bm_len]; rfl
  have hp := from_bm hb h8 hlt (n / 8) (Nat.le_refl _)
  rw [Nat.sub_self, show (2 : Int) ^ (8 * 0) = 1 from rfl, Int.ediv_one] at hp
  constructor
  · unfold Sp01.bytes
    rw [hv, h]
    rfl
  · unfold fromB
    rw [hl, show 8 * ((n / 8 : Nat) : Int) = (n : Int) by omega, hv, hp, decide_eq_false (show ¬ 8 < n / 8 by omega)]
    rfl

theorem g9_ok (a0 : (List Int)) (a1 : Int) (a2 : Int) (a3 : (List Int)) (r0 : (Ty.sl (.int .i64)).ok a0) (r1 : IntKind.u64.has a1) (r2 : IntKind.i64.has a2) (r3 : (Ty.sl (.int .u8)).ok a3) : g9 a0 a1 a2 a3 = some (true, ()) := by
  obtain ⟨hl3, _⟩ := datb r3
  have w0 := tape_wf a0
  have w1 := len_wf w0
  have hv := len_vlen (Sp01.tape a0)
  have hval := bits_valid (Sp01.length (Sp01.tape a0)).2 hv
  have hu := bits_U (Sp01.length (Sp01.tape a0)).2 (Sp01.length (Sp01.tape a0)).1
  unfold g9
  rw [on_true w0]
  simp only [Option.bind_some]
  rw [on_true w1]
  simp only [Option.bind_some]
  revert hval hu
  generalize Sp01.bits (Sp01.length (Sp01.tape a0)).2 (Sp01.length (Sp01.tape a0)).1 = y5
  generalize (Sp01.length (Sp01.tape a0)).1 = y4 at hv
  intro hval hu
  have h64 := vlen_iff hv
  obtain ⟨n, rfl⟩ : ∃ n : Nat, y4 = (n : Int) := ⟨y4.toNat, by omega⟩
  obtain ⟨q1, q2⟩ := bytes_back hu hval
  simp only [q1, q2, beq_self, decide_true, Bool.not_true, Bool.not_false, cond_true, cond_false, Option.bind_some, ofN]
  by_cases h : (a3.length : Int) > 20
  · have h' : (20 : Int) ≤ (a3.length : Int) := by omega
    simp only [h, h', decide_true, cond_true, Bool.and_self, Option.bind_some]
  · simp only [h, decide_false, cond_false, Option.bind_some]

theorem g10_ok (a0 : (List Int)) (a1 : (List Int)) (a2 : Int) (r0 : (Ty.sl (.int .i64)).ok a0) (r1 : (Ty.sl (.int .i64)).ok a1) (r2 : IntKind.i64.has a2) : g10 a0 a1 a2 = some (true, ()) := by
  have w0 := tape_wf a0
  have w1 := len_wf w0
  have w2 : wf (spoil (Sp01.length (Sp01.tape a0)).2 (Sp01.length (Sp01.tape a0)).1 6).2 = true := by
    unfold spoil
    rw [decide_eq_true (show (0 : Int) < 6 by decide)]
    simp only [cond_true]
    cases (one (Sp01.length (Sp01.tape a0)).2 6).1 with
    | true => exact wild_wf (one_wf (n := 6) w1)
    | false => exact one_wf (n := 6) w1
  unfold g10
  rw [on_true w0]
  simp only [Option.bind_some]
  rw [on_true (b := wf (Sp01.length (Sp01.tape a0)).2 && small 6) (by rw [w1]; rfl)]
  simp only [Option.bind_some]
  generalize spoil (Sp01.length (Sp01.tape a0)).2 (Sp01.length (Sp01.tape a0)).1 6 = y4 at w2
  rw [on_true (b := wf y4.2 && decide ((0 : Int) ≤ 6) && decide ((6 : Int) ≤ 1000) && small 0 && small 9) (by rw [w2]; decide)]
  simp only [Option.bind_some]
  have hr := range_in (t := y4.2) (a := 0) (b := 6) (by decide)
  obtain ⟨w3, hl⟩ := ints_wf (a := 0) (b := 9) (range_wf (a := 0) (b := 6) w2) (range y4.2 0 6).1.toNat
  have hlen : (ints y4.2 6 0 9).1.length ≤ 6 := by
    unfold ints
    rw [hl]
    omega
  have w3' : wf (ints y4.2 6 0 9).2 = true := w3
  generalize ints y4.2 6 0 9 = y5 at w3' hlen
  rw [on_true (b := wf y5.2 && small 4) (by rw [w3']; decide)]
  simp only [Option.bind_some]
  have w4 := one_wf (n := 4) w3'
  have hroom := room8 (n := y5.1.length) (by omega)
  cases (one y5.2 4).1 with
  | false =>
    simp only [cond_false, Option.bind_some, decide_true, cond_true]
    cases !decide (Int.ofNat a1.length > 300) <;> rfl
  | true =>
    rw [on_true w4]
    simp only [cond_true, Option.bind_some, hroom, decide_true]
    cases !decide (Int.ofNat a1.length > 300) <;> rfl
theorem ok3 : FunOk Tryd.prog B 3 c3 := glue L21 all21 plan3 Tryd.func3 (by kernel_rfl) (by
  rintro ⟨⟨⟩, a0, a1, a2, ⟨⟩⟩ y r h
  exact (g3_eq a0 a1 a2).trans ((g3_ok a0 a1 a2 r.2.1 r.2.2.1 r.2.2.2.1).trans h))

theorem ok4 : FunOk Tryd.prog B 4 c4 := glue L21 all21 plan4 Tryd.func4 (by kernel_rfl) (by
  rintro ⟨⟨⟩, a0, a1, a2, ⟨⟩⟩ y r h
  exact (g4_eq a0 a1 a2).trans ((g4_ok a0 a1 a2 r.2.1 r.2.2.1 r.2.2.2.1).trans h))

theorem ok6 : FunOk Tryd.prog B 6 c6 := glue L21 all21 plan6 Tryd.func6 (by kernel_rfl) (by
  rintro ⟨⟨⟩, a0, ⟨⟩⟩ y r h
  exact (g6_eq a0).trans ((g6_ok a0 r.2.1).trans h))

theorem ok7 : FunOk Tryd.prog B 7 c7 := glue L21 all21 plan7 Tryd.func7 (by kernel_rfl) (by
  rintro ⟨⟨⟩, a0, a1, a2, ⟨⟩⟩ y r h
  exact (g7_eq a0 a1 a2).trans ((g7_ok a0 a1 a2 r.2.1 r.2.2.1 r.2.2.2.1).trans h))

theorem ok8 : FunOk Tryd.prog B 8 c8 := glue L21 all21 plan8 Tryd.func8 (by kernel_rfl) (by
  rintro ⟨⟨⟩, a0, a1, a2, a3, ⟨⟩⟩ y r h
  exact (g8_eq a0 a1 a2 a3).trans ((g8_ok a0 a1 a2 a3 r.2.1 r.2.2.1 r.2.2.2.1 r.2.2.2.2.1).trans h))

theorem ok9 : FunOk Tryd.prog B 9 c9 := glue L21 all21 plan9 Tryd.func9 (by kernel_rfl) (by
  rintro ⟨⟨⟩, a0, a1, a2, a3, ⟨⟩⟩ y r h
  exact (g9_eq a0 a1 a2 a3).trans ((g9_ok a0 a1 a2 a3 r.2.1 r.2.2.1 r.2.2.2.1 r.2.2.2.2.1).trans h))

theorem ok10 : FunOk Tryd.prog B 10 c10 := glue L21 all21 plan10 Tryd.func10 (by kernel_rfl) (by
  rintro ⟨⟨⟩, a0, a1, a2, ⟨⟩⟩ y r h
  exact (g10_eq a0 a1 a2).trans ((g10_ok a0 a1 a2 r.2.1 r.2.2.1 r.2.2.2.1).trans h))

end Go.Abs.C01

/- Chapter 01: the law of splitting. -/
namespace Go.Abs.C01
open Go Go.Proofs Sp01
set_option maxRecDepth 100000

/-- No bit in common; every bit of the one is one of the other. -/
def dj (x y : Int) : Prop := ∀ k, x.toNat.testBit k = true → y.toNat.testBit k = false
def le (x y : Int) : Prop := ∀ k, x.toNat.testBit k = true → y.toNat.testBit k = true
def orL : List Int → Nat
  | [] => 0
  | x :: r => x.toNat ||| orL r
theorem and_tb (b m : Int) (k : Nat) : (Sp01.and b m).toNat.testBit k = (b.toNat.testBit k && m.toNat.testBit k) := by
  show (((b.toNat &&& m.toNat : Nat) : Int).toNat).testBit k = _
  rw [Int.toNat_natCast, Nat.testBit_and]
theorem andn_tb {b m : Int} (hb : U b) (hm : U m) (k : Nat) : (Sp01.andn b m).toNat.testBit k = (b.toNat.testBit k && !m.toNat.testBit k) := by
  show (((b.toNat &&& (18446744073709551615 - m.toNat) : Nat) : Int).toNat).testBit k = _
  rw [Int.toNat_natCast, Nat.testBit_and, show 18446744073709551615 - m.toNat = 2 ^ 64 - (m.toNat + 1) by omega, Nat.testBit_two_pow_sub_succ (utn hm)]
  by_cases h : k < 64
  · rw [decide_eq_true h, Bool.true_and]
  · have : b.toNat.testBit k = false := Nat.testBit_lt_two_pow (Nat.lt_of_lt_of_le (utn hb) (Nat.pow_le_pow_right (by decide) (by omega)))
    rw [this, Bool.false_and, Bool.false_and]
theorem dj_zero {x y : Int} (h : dj x y) : Sp01.and x y = 0 := by
  have : x.toNat &&& y.toNat = 0 := Nat.eq_of_testBit_eq fun k => by
    rw [Nat.testBit_and, Nat.zero_testBit]
    cases hx : x.toNat.testBit k with
    | false => rfl
    | true => rw [h k hx]; rfl
  show ((x.toNat &&& y.toNat : Nat) : Int) = 0
  rw [this]; rfl
theorem split_parts : ∀ (ms : List Int) (b : Int), U b → (∀ m ∈ ms, U m) →
    (split b ms).1.length = ms.length ∧ (∀ x ∈ (split b ms).1, U x ∧ le x b) ∧ U (split b ms).2.1 ∧ le (split b ms).2.1 b ∧ List.Pairwise dj (split b ms).1 ∧ (∀ x ∈ (split b ms).1, dj x (split b ms).2.1) ∧ (split b ms).2.1.toNat ||| orL (split b ms).1 = b.toNat
  | [], b, hb, _ => ⟨rfl, (fun _ h => by cases h), hb, (fun _ h => h), List.Pairwise.nil, (fun _ h => by cases h), Nat.or_zero _⟩
  | m :: r, b, hb, hm => by
    have hmu := hm m List.mem_cons_self
    obtain ⟨_, u1⟩ := and_run hb hmu
    obtain ⟨_, u2⟩ := andn_run hb hmu
    obtain ⟨q1, q2, q3, q4, q5, q6, q7⟩ := split_parts r (Sp01.andn b m) u2 fun x hx => hm x (List.mem_cons_of_mem _ hx)
    have d1 : ∀ x, le x (Sp01.andn b m) → dj (Sp01.and b m) x := by
      intro x hx k hk
      rw [and_tb, Bool.and_eq_true] at hk
      cases h : x.toNat.testBit k with
      | false => rfl
      | true =>
        have := hx k h
        rw [andn_tb hb hmu, hk.2] at this
        simp at this
    have l1 : le (Sp01.and b m) b := fun k hk => by
      rw [and_tb, Bool.and_eq_true] at hk
      exact hk.1
    have l2 : le (Sp01.andn b m) b := fun k hk => by
      rw [andn_tb hb hmu, Bool.and_eq_true] at hk
      exact hk.1
    rw [split]
    refine ⟨by simp [q1], ?_, q3, fun k hk => l2 k (q4 k hk), List.Pairwise.cons (fun x hx => d1 x (q2 x hx).2) q5, ?_, ?_⟩
    · intro x hx
      rcases List.mem_cons.1 hx with rfl | hx
      · exact ⟨u1, l1⟩
      · exact ⟨(q2 x hx).1, fun k hk => l2 k ((q2 x hx).2 k hk)⟩
    · intro x hx
      rcases List.mem_cons.1 hx with rfl | hx
      · exact d1 _ q4
      · exact q6 x hx
    · rw [orL, Nat.or_comm (Sp01.and b m).toNat, ← Nat.or_assoc, q7]
      refine Nat.eq_of_testBit_eq fun k => ?_
      rw [Nat.testBit_or, andn_tb hb hmu, and_tb]
      cases b.toNat.testBit k <;> cases m.toNat.testBit k <;> rfl
theorem loop5 (b : Int) (y : List Int × Unit) (hl : (split b y.1).1.length ≤ 100) (hu : ∀ x ∈ (split b y.1).1, U x) : ∀ (r pre : List Int) (all : Int), (split b y.1).1 = pre ++ r → U all → (∀ x ∈ r, dj x all) → List.Pairwise dj r →
    Loop (g5_s1 b y) (all, (pre.length : Int), ()) = some (false, (false, ()), ((all.toNat ||| orL r : Nat) : Int), ())
  | [], pre, all, h, hall, _, _ => by
    have hlen : (split b y.1).1.length = pre.length := by rw [h]; simp
    have c : ¬ (pre.length : Int) < Int.ofNat (split b y.1).1.length := by rw [ofN]; omega
    have hs : g5_s1 b y (all, (pre.length : Int), ()) = some (.inr (false, (false, ()), all, ())) := by
      unfold g5_s1
      simp only [c, decide_false, cond_false]
    rw [Loop_step, hs]
    simp only [orL, Nat.or_zero]
    rw [Int.toNat_of_nonneg hall.1]
  | x :: r, pre, all, h, hall, hd, hp => by
    have hlen : (split b y.1).1.length = pre.length + (r.length + 1) := by rw [h]; simp
    have c : (pre.length : Int) < Int.ofNat (split b y.1).1.length := by rw [ofN]; omega
    have hx : (split b y.1).1.getD pre.length 0 = x := by rw [h]; exact getD_mid pre x r
    have hxu : U x := hu x (by rw [h]; simp)
    have e : IntKind.wrap .i64 ((pre.length : Int) + 1) = ((pre ++ [x]).length : Int) := by rw [wi64 (by omega) (by omega), List.length_append]; rfl
    have q1 := (and_run hxu hall).1
    rw [dj_zero (hd x List.mem_cons_self)] at q1
    have q2 := bor hall hxu
    have q3 : U ((all.toNat ||| x.toNat : Nat) : Int) := ucast (Nat.or_lt_two_pow (utn hall) (utn hxu))
    have hs : g5_s1 b y (all, (pre.length : Int), ()) = some (.inl (((all.toNat ||| x.toNat : Nat) : Int), ((pre ++ [x]).length : Int), ())) := by
      unfold g5_s1
      simp only [c, decide_true, cond_true, show (0 : Int) ≤ (pre.length : Int) from by omega, Bool.and_self, Bool.not_true, Bool.not_false, cond_false, Int.toNat_natCast, hx, q1, q2, e, Option.bind_some]
    rw [Loop_step, hs]
    simp only
    obtain ⟨hp1, hp2⟩ := List.pairwise_cons.1 hp
    have hd' : ∀ z ∈ r, dj z ((all.toNat ||| x.toNat : Nat) : Int) := by
      intro z hz k hk
      rw [Int.toNat_natCast, Nat.testBit_or, hd z (List.mem_cons_of_mem _ hz) k hk, Bool.false_or]
      cases hxk : x.toNat.testBit k with
      | false => rfl
      | true => rw [hp1 z hz k hxk] at hk; cases hk
    rw [loop5 b y hl hu r (pre ++ [x]) _ (by rw [h]; simp) q3 hd' hp2]
    simp only [orL, Int.toNat_natCast, Nat.or_assoc]

theorem g5_ok (a0 : (List Int)) (a1 : Int) (a2 : (List Int)) (r0 : (Ty.sl (.int .i64)).ok a0) (r1 : IntKind.u64.has a1) (r2 : (Ty.sl (.int .u64)).ok a2) : g5 a0 a1 a2 = some (true, ()) := by
  obtain ⟨hb1, hb2⟩ := dat8 r2
  have w0 := tape_wf a0
  obtain ⟨ms, hms, hml, hmu⟩ : ∃ ms : List Int, (bif (decide ((Int.ofNat a2.length) > (50 : Int))) then (bif (true && (decide ((50 : Int) ≤ (Int.ofNat a2.length)))) then (some ((List.drop 0 (List.take 50 a2)), ())) else none) else (some (a2, ()))) = some (ms, ()) ∧ ms.length ≤ 50 ∧ ∀ m ∈ ms, U m := by
    by_cases h : Int.ofNat a2.length > 50
    · refine ⟨List.take 50 a2, ?_, by simp; omega, fun m hm => hb2 m (List.mem_of_mem_take hm)⟩
      rw [decide_eq_true h, decide_eq_true (show (50 : Int) ≤ Int.ofNat a2.length by omega)]
      rfl
    · refine ⟨a2, ?_, by rw [ofN] at h; omega, hb2⟩
      rw [decide_eq_false h]
      rfl
  unfold g5
  rw [hms]
  simp only [Option.bind_some]
  rw [on_true w0]
  simp only [Option.bind_some]
  have hn := next_range (t := Sp01.tape a0) (n := 4) (by decide)
  have w1 := next_wf (n := 4) w0
  generalize next (Sp01.tape a0) 4 = y4 at hn w1
  obtain ⟨e, he, ⟨hel, heu⟩⟩ := Loop_post (step := g5_s0) (fun v : Int × List Int × Tp × Unit => wf v.2.2.1 = true ∧ 0 ≤ v.1 ∧ (v.2.1.length : Int) + v.1 ≤ 60 ∧ ∀ m ∈ v.2.1, U m) (fun v => v.1.toNat) (fun e : List Int × Unit => e.1.length ≤ 100 ∧ ∀ m ∈ e.1, U m) (by
    rintro ⟨i, l, t, ⟨⟩⟩ ⟨h1, h0, h2, h3⟩
    simp only at h1 h0 h2 h3
    unfold g5_s0
    by_cases hi : i > 0
    · right
      have ei : IntKind.wrap .i64 (i - 1) = i - 1 := wi64 (by omega) (by omega)
      have hroom : Nat.ble ((l.length + 1) * 8) 140737488355328 = true := ble_t (by omega)
      refine ⟨(i - 1, l ++ [(Sp01.bits t 64).1], (Sp01.bits t 64).2, ()), ?_, ⟨bits_wf h1 64, by simp only; omega, by simp; omega, ?_⟩, by simp only; omega⟩
      · simp only [hi, decide_true, cond_true, ofN, Int.toNat_natCast, List.take_length, List.drop_zero, show (0 : Int) ≤ (l.length : Int) by omega, Int.le_refl, Bool.and_self]
        rw [on_true h1]
        simp only [Option.bind_some, hroom, Bool.and_self, cond_true, ei]
      · intro m hm
        rcases List.mem_append.1 hm with hm | hm
        · exact h3 m hm
        · simp only [List.mem_singleton] at hm
          subst hm
          exact bits_U _ _
    · left
      refine ⟨(l, ()), ?_, by simp only; omega, h3⟩
      simp only [hi, decide_false, cond_false]) (v := (y4.1, ms, y4.2, ())) ⟨w1, hn.1, by simp only; omega, hmu⟩
  rw [he]
  simp only [Option.bind_some, decide_true, Bool.not_true, Bool.not_false, cond_true, cond_false]
  obtain ⟨q1, q2, q3, q4, q5, q6, q7⟩ := split_parts e.1 a1 (uh r1) heu
  have hlo := loop5 a1 e (by omega) (fun x hx => (q2 x hx).1) (split a1 e.1).1 [] _ rfl q3 q6 q5
  rw [q7, Int.toNat_of_nonneg (uh r1).1] at hlo
  simp only [List.length_nil, Int.natCast_zero] at hlo
  rw [hlo]
  simp only [Option.bind_some, decide_true, cond_true, cond_false]
theorem ok5 : FunOk Tryd.prog B 5 c5 := glue L21 all21 plan5 Tryd.func5 (by kernel_rfl) (by
  rintro ⟨⟨⟩, a0, a1, a2, ⟨⟩⟩ y r h
  exact (g5_eq a0 a1 a2).trans ((g5_ok a0 a1 a2 r.2.1 r.2.2.1 r.2.2.2.1).trans h))

end Go.Abs.C01
