/- Chapter 13 (forward): proved is that functions that the law reaches keep their contracts (masks, the map of masks, forwarding); no conditions but those that each theorem states. -/
import Derived.Test.YtmpfafdaadhabaaDoorRunD
import Derived.RegionTactic
import Derived.WalkSpells
import Derived.Lib.SliceRun
import Derived.Laws.Cells
import Derived.WalkKit
import Derived.StillTactics
import Derived.StillTailTactics
import Derived.Maps.OwnOps
import Derived.Maps.Views
set_option linter.unusedVariables false
set_option linter.unusedSimpArgs false
namespace Go.Abs
variable {E : Env} {C : Ctx} {s : St} {a : Act} {w : World} {G : Nat → Nat} {pt : Nat → Nat → Option Value}
theorem nbeq_g {a b : Nat} (h : a ≠ b) : Nat.beq a b = false := by
  cases hb : Nat.beq a b with
  | false => rfl
  | true => exact absurd (Nat.eq_of_beq_eq_true hb) h
theorem get_one (d : D) (k : Nat) (h : k ≠ 0) : get [(0, d)] k = .undef := by
  simp only [get, nbeq_g h, cond_false]
theorem Rel.keep0 {n : Nat} (R : Rel (ifE E n false) C s a w G pt) (hb : ∀ id, get s (2 * id + 1) = .undef) :
    Rel (ifE E 1 false) C [(0, get s 0)] { tmps := #[a.tmps.getD 0 Go.undef], defers := [] } w G pt := by
  have g1 : ∀ id, get [(0, get s 0)] (2 * id + 1) = .undef := fun id => get_one _ _ (by omega)
  have g2 : ∀ t, 1 ≤ t → get [(0, get s 0)] (2 * t) = .undef := fun t ht => get_one _ _ (by omega)
  have hTC : ∀ b, TC 1 C.m [(0, get s 0)] { tmps := #[a.tmps.getD 0 Go.undef], defers := [] } w pt b = cT s a b 0 := by
    intro b
    have z2 : sumN C.m (cB [(0, get s 0)] w pt b) = 0 := sumN_zero fun i hi => by
      rw [cB, g1]
      rfl
    unfold TC
    rw [z2]
    show 0 + cT [(0, get s 0)] _ b 0 + 0 = _
    rw [Nat.zero_add, Nat.add_zero]
    rfl
  refine ⟨rfl, rfl, fun t => ?_, fun id => ?_, fun t ht => g2 t ht, fun id hid => g1 id, fun b => ?_, fun b hb => ?_, R.fr, R.ex, R.gz, R.os, R.out, R.tape, R.hs, fun id st h => ?_, R.gl, R.pn⟩
  · cases t with
    | zero => exact R.tm 0
    | succ t => rw [g2 (t + 1) (by omega)]; trivial
  · rw [g1]; trivial
  · exact Nat.le_trans (Nat.le_of_eq (hTC b)) (Nat.le_trans (R.cT_le b 0) (R.ct b))
  · exact R.cb b (Nat.lt_of_lt_of_le (by have := hTC b; exact this ▸ hb) (R.cT_le b 0))
  · rw [g1] at h
    have := R.pf id st
    rw [hb] at this
    exact this h
end Go.Abs
namespace Go.Abs.C13
open Go Go.Proofs
set_option maxRecDepth 100000 in
set_option maxHeartbeats 2000000 in
theorem f95_nil {w : World} {n c : Nat} {Q : Ending → World → Prop} (hQ : Q (.returned (.slice none 0 0)) w) :
    Calls Tryd.prog 95 #[.slice none n c] w Q := by
  have hu : Tryd.prog.underlying 22 = some (.slice 3) := by kernel_rfl
  go_enter Tryd.func95, Tryd.ntmps95
  go_wp2
  rw [Lib.run_eql_slice_nil _ _ _ _ _ _ _ _ hu]
  simp only [Result.andThen]
  rw [Oper.upon_value]
  simp only [Option.isNone]
  go_wp2
  exact hQ
set_option maxRecDepth 100000 in
set_option maxHeartbeats 2000000 in
theorem f95_empty {w : World} {p : Addr} {c : Nat} {Q : Ending → World → Prop} (hQ : Q (.returned (.slice (some ⟨w.heap.size, 0, none⟩) 0 0)) (w.alloc (.cells #[] 3))) :
    Calls Tryd.prog 95 #[.slice (some p) 0 c] w Q := by
  have hu : Tryd.prog.underlying 22 = some (.slice 3) := by kernel_rfl
  have hl : (loadCellsFrom p 0 0 #[]).run Tryd.prog (w.alloc (.cells #[] 3)) = .ok #[] (w.alloc (.cells #[] 3)) := by simp [loadCellsFrom]
  go_enter Tryd.func95, Tryd.ntmps95
  go_wp2
  rw [Lib.run_eql_slice_nil _ _ _ _ _ _ _ _ hu]
  simp only [Result.andThen]
  rw [Oper.upon_value]
  simp only [Option.isNone]
  go_wp2
  exact hQ
set_option maxRecDepth 100000 in
set_option maxHeartbeats 2000000 in
theorem f95_cells {w : World} {p : Addr} {n c : Nat} {cs : Array Value} {Q : Ending → World → Prop} (hn : 0 < n) (hn2 : n ≤ 17592186044416)
   (hl : (loadCellsFrom p 0 n #[]).run Tryd.prog (w.alloc (.cells #[] 3)).drew = .ok cs (w.alloc (.cells #[] 3)).drew)
   (hQ : ∀ k : Nat, n ≤ k → Q (.returned (.slice (some ⟨w.heap.size + 1, 0, none⟩) n k)) ((w.alloc (.cells #[] 3)).alloc (.cells (cs ++ Builtin.zeroCells #[.int .i64 0] (k - n)) 3)).drew) :
    Calls Tryd.prog 95 #[.slice (some p) n c] w Q := by
  have hu : Tryd.prog.underlying 22 = some (.slice 3) := by kernel_rfl
  have hbt : Tryd.t3.bytes = 8 := rfl
  go_enter Tryd.func95, Tryd.ntmps95
  go_wp2
  rw [Lib.run_eql_slice_nil _ _ _ _ _ _ _ _ hu]
  simp only [Result.andThen]
  rw [Oper.upon_value]
  simp only [Option.isNone]
  go_wp2
  all_goals (try (exfalso; simp only [Builtin.nextslicecap] at *; (repeat' split at *) <;> omega))
  all_goals (simp only [Question.cut]; omega)
open Sp13
theorem cells95 {w : World} {G : Nat → Nat} (hgz : ∀ b, w.heap.size ≤ b → G b = 0) {l : List Int} {b o : Nat} (hl : l ≠ []) (ho : o + l.length * 1 ≤ G b) (hr : RepE w G (.int .i64) l b o) :
    (loadCellsFrom ⟨b, o, none⟩ 0 l.length #[]).run Tryd.prog (w.alloc (.cells #[] 3)).drew = .ok ((List.range l.length).map fun j => Value.int .i64 (l.getD j 0)).toArray (w.alloc (.cells #[] 3)).drew := by
  have h := run_loadCellsFrom (P := Tryd.prog) (w.alloc (.cells #[] 3)).drew ⟨b, o, none⟩ (fun j => Value.int .i64 (l.getD j 0)) l.length 0 #[] (fun j hj => by
    have h1 := (hr j hj).1
    have hadd : (⟨b, o, none⟩ : Addr).add (0 + j) = ⟨b, o + j * 1, none⟩ := by
      unfold Addr.add
      simp
    rw [hadd]
    show (w.alloc (.cells #[] 3)).cell? _ = _
    have hE := (alloc_ext (w := w) (G := G) (.cells #[] 3) hgz).cell b (o + j * 1) (by omega)
    rw [hE]
    have h2 : l.getD j 0 = l[j] := by rw [List.getD_eq_getElem?_getD, List.getElem?_eq_getElem hj]; rfl
    rw [Nat.zero_add, h2]
    exact h1)
  rw [h]
  simp only [Nat.zero_add, List.append_nil, Array.empty_append]
theorem sem95 {E : Env} : CallSem Tryd.prog E 95 c95 := by
  rintro ⟨⟨⟩, l, ⟨⟩⟩ y hy C args w G pt hm hpin hargs R K hK
  obtain rfl : (l, ()) = y := Option.some.inj hy
  obtain ⟨v0, rfl⟩ : ∃ v0, args = #[v0] := by
    have : args.size = 1 := hargs
    match args, this with
    | ⟨[v0]⟩, _ => exact ⟨v0, rfl⟩
  have t0 := R.tm 0
  obtain ⟨a, n, c, hv, hn, hb, hc, hs⟩ : ∃ a n c, v0 = .slice a n c ∧ n = List.length (α := Int) l ∧ n * 8 ≤ big ∧ SlR w G 0 (.int .i64) l a c := t0
  subst hv
  have g0 : ∀ (d : D) id, get ((0, d) :: entrySt c95 ((), l, ())) (2 * id + 1) = .undef := by
    intro d id
    show get [(0, d), (0, D.sl 0 (.int .i64) l)] (2 * id + 1) = .undef
    have e0 : Nat.beq (2 * id + 1) 0 = false := nbeq_g (by omega)
    simp only [get, e0, cond_false]
  by_cases hl : l = []
  · subst hl
    cases a with
    | none =>
      refine f95_nil ?_
      have R1 := R.dst1 0 (by decide : 0 < 1) (d := .sl 2 (.int .i64) ([] : List Int)) (v := .slice none 0 0) ⟨none, 0, 0, rfl, rfl, by decide, .inl ⟨rfl, rfl, rfl⟩⟩ (fun b => rfl)
      exact hK #[.slice none 0 0] w G pt (R1.keep0 (g0 _))
    | some p =>
      have hn0 : n = 0 := hn
      subst hn0
      refine f95_empty ?_
      have R1 := R.newRow (e := 3) (fr := (0, 0)) { dst := some 0, op := .move (.tmp 0), type := 0, pos := "", after := #[], guard := none } (fun t ht => by cases ht; exact (by decide : 0 < 1)) (t := .int .i64) (l := ([] : List Int)) (cells := #[]) (c := 0)
        (fun i hi => by simp at hi) (Nat.zero_le _) (by simp) (fun o ho => by simp only; omega) (by simp) (by decide)
      exact hK #[.slice (some ⟨w.heap.size, 0, none⟩) 0 0] _ G pt (R1.keep0 (g0 _))
  · obtain ⟨b, o, rfl, ho, hr⟩ := hs.resolve_left hl
    have hpos : 0 < List.length (α := Int) l := List.length_pos_iff.2 hl
    unfold big at hb
    subst hn
    refine f95_cells hpos (by omega) (cells95 R.gz hl ho hr) fun k hk => ?_
    have R1 := R.newRow (e := 3) (fr := (0, 0)) { dst := some 0, op := .move (.tmp 0), type := 0, pos := "", after := #[], guard := none } (fun t ht => by cases ht; exact (by decide : 0 < 1)) (t := .int .i64) (l := ([] : List Int)) (cells := #[]) (c := 0)
        (fun i hi => by simp at hi) (Nat.zero_le _) (by simp) (fun o ho => by simp only; omega) (by simp) (by decide)
    have hsz : (w.alloc (.cells #[] 3)).heap.size = w.heap.size + 1 := by
      show (w.heap.push _).size = _
      rw [Array.size_push]
    have hcs : (((List.range l.length).map fun j => Value.int .i64 (l.getD j 0)).toArray ++ Builtin.zeroCells #[Value.int .i64 0] (k - l.length)).size = k := by
      simp only [Builtin.zeroCells, Array.size_append, Array.size_map, Array.size_range, List.size_toArray, List.length_map, List.length_range, List.length_cons, List.length_nil]
      omega
    have hE := alloc_ext (w := w) (G := G) (.cells #[] 3) R.gz
    have R2 := R1.newRow (e := 3) (fr := (0, 0)) { dst := some 0, op := .move (.tmp 0), type := 0, pos := "", after := #[], guard := none } (fun t ht => by cases ht; exact (by decide : 0 < 1)) (t := .int .i64) (l := l) (cells := ((List.range l.length).map fun j => Value.int .i64 (l.getD j 0)).toArray ++ Builtin.zeroCells #[Value.int .i64 0] (k - l.length)) (c := k)
        (fun i hi => by
          have h1 := (hr i hi).2
          have h2 : l.getD i 0 = l[i] := by rw [List.getD_eq_getElem?_getD, List.getElem?_eq_getElem hi]; rfl
          show (World.cell? _ ⟨(w.alloc (.cells #[] 3)).heap.size, 0 + i * 1, none⟩) = some (.int .i64 l[i]) ∧ _
          rw [cell_new]
          refine ⟨?_, h1⟩
          rw [Array.getElem?_append_left (by simp; omega)]
          rw [List.getElem?_toArray, List.getElem?_map, show 0 + i * 1 = i by omega, List.getElem?_range hi, Option.map_some, h2])
        hk (by rw [hcs]; simp [Ty.nc]) (fun o ho => by simp only; omega) (by show l.length * 8 ≤ 140737488355328; exact hb) (by decide)
    have R3 := R2.drew (w' := ((w.alloc (.cells #[] 3)).alloc (.cells (((List.range l.length).map fun j => Value.int .i64 (l.getD j 0)).toArray ++ Builtin.zeroCells #[Value.int .i64 0] (k - l.length)) 3)).drew) rfl rfl rfl rfl
    rw [hsz] at R3
    have g1 : ∀ id, get ((0, D.sl 2 (.int .i64) l) :: (0, D.sl 2 (.int .i64) ([] : List Int)) :: entrySt c95 ((), l, ())) (2 * id + 1) = .undef := by
      intro id
      show get [(0, _), (0, _), (0, D.sl 0 (.int .i64) l)] (2 * id + 1) = .undef
      have e0 : Nat.beq (2 * id + 1) 0 = false := nbeq_g (by omega)
      simp only [get, e0, cond_false]
    exact hK #[.slice (some ⟨w.heap.size + 1, 0, none⟩) l.length k] _ G pt (R3.keep0 g1)
theorem ok95 : FunOk Tryd.prog B 95 c95 := ⟨by decide, fun _ => sem95, fun x h => (by cases h), Tryd.f95, Tryd.func95, by kernel_rfl, by kernel_rfl⟩
end Go.Abs.C13

namespace Go.Abs.C13
open Go Go.Proofs Sp13
open Sp13.Bt
set_option maxRecDepth 100000
theorem and_Ur (x : Int) {y : Int} (hy : U y) : U (Bt.and x y) := ucast (Nat.lt_of_le_of_lt Nat.and_le_right (utn hy))
theorem pkt_wf {t : Tp} (h : wf t = true) : wf (packet t 0).2 = true :=
  text_wf2 (bits_wf (next_wf (pick_wf (next_wf (pick_wf (pick_wf (range_wf (range_wf (length_wf h)))))))))
theorem mixed_wf {t : Tp} {a : Int} (hw : wf t = true) (ha : 1 ≤ a ∧ a ≤ 50) : wf (mixed t a).2 = true ∧ (mixed t a).1.1.length ≤ 75 := by
  obtain ⟨w, l⟩ := topo_wf (n := 0) hw ha
  obtain ⟨h1, h2⟩ := mixN_wf (l := (topo t a 0).1.1) w (topo t a 0).1.1.length
  exact ⟨h1, by show (mixN _ _ _).1.length ≤ 75; omega⟩
theorem planT_wf {t : Tp} {g : To} (hw : wf t = true) : wf (planT t g 0).2 = true ∧ (planT t g 0).1.2.2.1.length ≤ g.1.length := by
  have w2 := length_wf (next_wf (n := 3) hw)
  have l2 := len_in (next t 3).2
  obtain ⟨w3, l3, m3⟩ := order_wf w2 g.1.length
  have h := edges_wf g (Sp13.length (next t 3).2).1 (by omega) (order (Sp13.length (next t 3).2).2 g.1.length).2 w3 (order (Sp13.length (next t 3).2).2 g.1.length).1 _ (Nat.le_refl _)
  rw [List.take_length] at h
  have l3' : (order (Sp13.length (next t 3).2).2 g.1.length).1.length = g.1.length := l3
  rw [l3'] at h
  exact ⟨h.1, h.2.2.2⟩
end Go.Abs.C13

namespace Go.Abs.C13
open Go Go.Proofs Go.RowKit Go.Maps Sp13
theorem law3 : Keyed Tryd.prog 3 := int_keyed Tryd.underlying3
theorem zero28 (w : World) : (zeroValue 28).run Tryd.prog w = .ok (.int .u64 0) w := by kernel_rfl
theorem grown_below {w w' : World} (h : Below w.heap.size w w') : w.grownBy w' none := ⟨h.os, h.tape, h.output, h.size, fun i hi _ => h.block i hi⟩
theorem alloc_below (w : World) (x : Obj) : Below w.heap.size w (w.alloc x) := (Below.refl _ _).alloc (Nat.le_refl _) _
theorem below_chain {w w1 w2 : World} {B : Nat} (h : Below B w w1) (k : Below w1.heap.size w1 w2) (hB : B ≤ w1.heap.size) : Below B w w2 :=
  ⟨k.os.trans h.os, k.tape.trans h.tape, k.output.trans h.output, Nat.le_trans h.size k.size, fun i hi => (k.block i (by omega)).trans (h.block i hi)⟩
theorem wf_U {x : Int} (h : U x) : (Lit.int .u64 x).wf = true := by
  have h1 := h.1
  have h2 := h.2
  have e1 : IntKind.u64.min = 0 := by decide
  have e2 : IntKind.u64.max = 18446744073709551615 := by decide
  simp only [Lit.wf, Bool.and_eq_true, decide_eq_true_eq, e1, e2]
  exact ⟨h1, by omega⟩
theorem wf_i64 {x : Int} (h : IntKind.i64.has x) : (Lit.int .i64 x).wf = true := by
  have h1 := (has_i64 h).1
  have h2 := (has_i64 h).2
  have e1 : IntKind.i64.min = -9223372036854775808 := by decide
  have e2 : IntKind.i64.max = 9223372036854775807 := by decide
  simp only [Lit.wf, Bool.and_eq_true, decide_eq_true_eq, e1, e2]
  exact ⟨h1, h2⟩
theorem bits_or {x b : Int} (hx : U x) (h0 : 0 ≤ b) (h1 : b < 64) : bits BinOp.or IntKind.u64 x (IntKind.wrap .u64 (2 ^ b.toNat)) = Bt.or x (Bt.bit1 b) := by
  have e : Bt.bit1 b = 2 ^ b.toNat := by
    unfold Bt.bit1
    rw [dF (show ¬ b < 0 by omega), dF (show ¬ 63 < b by omega)]
    rfl
  have hu : U ((2 : Int) ^ b.toNat) := pow_U (by omega)
  rw [wu64 hu.1 hu.2, e]
  exact wbor hx hu
set_option maxRecDepth 100000 in
set_option maxHeartbeats 4000000 in
theorem f78_cells (r s ln plane set : Int) (b o n c : Nat) (w : World) (hsm : n ≤ 256) (hb : b < w.heap.size) (idv nx st bit : Nat → Int) (ok : Nat → Bool) (col : Int → Nat → Int)
    (A : Nat → Option Addr) (N Cp : Nat → Nat)
    (hid : ∀ k, k < n → w.cell? ⟨b, o + k * 2, none⟩ = some (.int .i64 (idv k)))
    (hvs : ∀ k, k < n → w.cell? ⟨b, o + k * 2 + 1, none⟩ = some (.slice (A k) (N k) (Cp k)))
    (h96 : ∀ k, k < n → ∀ W, Below w.heap.size w W → Calls Tryd.prog 96 #[.int .i64 (idv k), .int .i64 ln] W fun e W' => e = .returned (.tuple #[.int .i64 (st k), .int .i64 (bit k), .bool (ok k)]) ∧ Below W.heap.size W W')
    (h77 : ∀ k, k < n → ∀ W, Below w.heap.size w W → Calls Tryd.prog 77 #[.agg #[.int .i64 (idv k), .slice (A k) (N k) (Cp k)], .int .i64 plane] W fun e W' => e = .returned (.int .i64 (nx k)) ∧ Below W.heap.size W W')
    (hbit : ∀ k, k < n → 0 ≤ bit k ∧ bit k < 64)
    (hwf : ∀ k, k < n → (Lit.int .i64 (nx k)).wf = true)
    (col0 : ∀ nb, col nb 0 = 0) (colT : ∀ k, k < n → st k = set → nx k ≠ 0 → ∀ nb, col nb (k + 1) = if nx k = nb then Bt.or (col nb k) (Bt.bit1 (bit k)) else col nb k)
    (colF : ∀ k, k < n → ¬ (st k = set ∧ nx k ≠ 0) → ∀ nb, col nb (k + 1) = col nb k) (colU : ∀ nb k, U (col nb k)) :
    Calls Tryd.prog 78 #[.agg #[.int .i64 r, .int .i64 s, .int .i64 ln, .slice (some ⟨b, o, none⟩) n c], .int .i64 plane, .int .i64 set] w fun e w' =>
      ∃ M D, e = .returned (.map (some M)) ∧ w'.ownsMap Tryd.prog 3 (plainElem Tryd.prog 28) M n D ∧
        (∀ nb : Int, D.atKey (H := Unit) (.int .i64 nb) (.lit (.int .u64 0)) = .lit (.int .u64 (col nb n))) ∧ Below w.heap.size w w' := by
  have hmm := @run_makeMap Tryd.prog
  go_enter Tryd.func78, Tryd.ntmps78
  go_wp2
  go_loopw [18] (fun i wr => ∃ (k : Nat) (D : DataW Unit), k ≤ n ∧ i = .int .i64 k ∧ wr.ownsMap Tryd.prog 3 (plainElem Tryd.prog 28) (w.heap.size + 1) k D ∧ IsMap D ∧
      (∀ nb : Int, D.atKey (.int .i64 nb) (.lit (.int .u64 0)) = .lit (.int .u64 (col nb k))) ∧ Below w.heap.size w wr ∧ wr.cell? ⟨w.heap.size, 2, none⟩ = some (.int .i64 ln))
    (fun i _ => n - (intOf i).toNat)
  case atStart =>
    refine ⟨0, .map [], Nat.zero_le _, rfl, ?_, isMap_empty, fun nb => ?_, ?_, ?_⟩
    · have hm := World.ownsMap_made (w.alloc (Obj.cells #[Value.int IntKind.i64 r, Value.int IntKind.i64 s, Value.int IntKind.i64 ln, Value.slice (some { block := b, off := o }) n c] 27)) Tryd.prog 3 (plainElem (H := Unit) Tryd.prog 28)
      have e : (w.alloc (Obj.cells #[Value.int IntKind.i64 r, Value.int IntKind.i64 s, Value.int IntKind.i64 ln, Value.slice (some { block := b, off := o }) n c] 27)).heap.size = w.heap.size + 1 := Array.size_push ..
      rw [e] at hm
      exact hm
    · rw [col0]; rfl
    · exact below_chain (alloc_below _ _) (alloc_below _ _) (alloc_below _ _).size
    · refine ((alloc_below _ _).cell (by show w.heap.size < (Array.push _ _).size; rw [Array.size_push]; omega)).trans (cell_new _ _ _ _)
  case round =>
    obtain ⟨k, D, hk, rfl, hown, hmap, hat, hnx, hln⟩ := hrel
    have c0 : k < n → wr.cell? ⟨b, o + k * 2, none⟩ = some (.int .i64 (idv k)) := fun h => (hnx.cell hb).trans (hid k h)
    have c1 : k < n → wr.cell? ⟨b, o + k * 2 + 1, none⟩ = some (.slice (A k) (N k) (Cp k)) := fun h => (hnx.cell hb).trans (hvs k h)
    have hlt2 := hown.lt
    have hs2 : wr.heap.size ≤ (wr.alloc (Obj.cells #[Value.int IntKind.i64 (idv k), Value.slice (A k) (N k) (Cp k)] 83)).heap.size := (alloc_below wr _).size
    have q2 : (wr.alloc (Obj.cells #[Value.int IntKind.i64 (idv k), Value.slice (A k) (N k) (Cp k)] 83)).cell? ⟨w.heap.size, 2, none⟩ = some (.int .i64 ln) := ((alloc_below wr _).cell (by show w.heap.size < _; omega)).trans hln
    have hB0 : Below w.heap.size w (wr.alloc (Obj.cells #[Value.int IntKind.i64 (idv k), Value.slice (A k) (N k) (Cp k)] 83)) := below_chain hnx (alloc_below wr _) hnx.size
    go_wp2_with (first
      | (go_at_call 96; refine (h96 k (by assumption) _ hB0).mono ?_; rintro e w1 ⟨rfl, hB1⟩
         have p0 : w1.cell? ⟨wr.heap.size, 0, none⟩ = some (.int .i64 (idv k)) := (hB1.cell (by simp)).trans (cell_new _ _ _ _)
         have p1 : w1.cell? ⟨wr.heap.size, 1, none⟩ = some (.slice (A k) (N k) (Cp k)) := (hB1.cell (by simp)).trans (cell_new _ _ _ _)
         have hB2 := below_chain hB0 hB1 hB0.size)
      | (go_at_call 77; refine (h77 k (by assumption) _ hB2).mono ?_; rintro e w2 ⟨rfl, hB3⟩))
    · have hlt : k < n := by assumption
      have hset : st k = set := by assumption
      have hnz : nx k ≠ 0 := by
        have hh : (nx k != 0) = true := by assumption
        simpa using hh
      have hg : wr.grownBy w2 none := grown_below (below_chain (below_chain (alloc_below wr _) hB1 hs2) hB3 (Nat.le_trans hs2 hB1.size))
      have hown2 := hown.kept hg (by simp)
      have hown3 : World.ownsMap w2.drew Tryd.prog 3 (plainElem Tryd.prog 28) (w.heap.size + 1) k D := hown2.drew
      obtain ⟨c', hrun, hat2, hwc⟩ := hown3.lookup_int law3 Tryd.underlying121 Tryd.underlying28 (zero28 _) (key := .int .i64 (nx k)) (keyOf_int_mk Tryd.underlying3 (hwf k hlt))
      obtain ⟨hb0, hb1⟩ := hbit k hlt
      go_still_tail 6, (by kernel_rfl)
      have hcc : c' = col (nx k) k := by
        have hh := (hat (nx k)).symm.trans hat2
        injection hh with hh
        injection hh with _ hh
        exact hh.symm
      subst hcc
      have hv := bits_or (colU (nx k) k) hb0 hb1
      have hUv : U (bits BinOp.or IntKind.u64 (col (nx k) k) (IntKind.wrap .u64 (2 ^ (bit k).toNat))) := by
        rw [hv]
        exact or_U (colU _ _) (bit1_U _)
      go_wp2_with (first
        | (at_mapUpdate; refine wpList_mapUpdate_own _ rfl _ _ _ 121 rfl 3 28 law3 Tryd.underlying121 _ (w.heap.size + 1) k _ rfl hown3 (by unfold maxLen; omega) _ _ _ rfl rfl (keyOf_int_mk Tryd.underlying3 (hwf k hlt)) _ [] (plainElem_int Tryd.underlying28 (wf_U hUv)) ?_; intro w3 hown4 hg3)
        | go_in)
      have hB4 : Below w.heap.size w w3 := by
        have hb2 := below_chain hB2 hB3 hB2.size
        exact ⟨hg3.os.trans hb2.os, hg3.tape.trans hb2.tape, hg3.output.trans hb2.output, Nat.le_trans hb2.size hg3.size, fun i hi => (hg3.block i (Nat.lt_of_lt_of_le hi hb2.size) (by simp; omega)).trans (hb2.block i hi)⟩
      refine ⟨⟨k + 1, _, by omega, by simp, hown4, hmap.put _ _, fun nb => ?_, hB4, ?_⟩, by simp [intOf]; omega⟩
      · rw [colT k hlt hset hnz nb]
        by_cases hne : nx k = nb
        · subst hne
          rw [if_pos rfl, atKey_put_same hmap (by trivial), hv]
        · rw [if_neg hne, atKey_put_other (by intro hh; injection hh with _ hh; exact hne hh.symm), hat nb]
      · exact World.grownBy.cell hg3 (w := w2.drew) (World.grownBy.cell hg hln (by simp)) (by simp)
    · have hlt : k < n := by assumption
      have hnz : nx k = 0 := by
        have hh : (nx k != 0) = false := by assumption
        simpa using hh
      have hg : wr.grownBy w2 none := grown_below (below_chain (below_chain (alloc_below wr _) hB1 hs2) hB3 (Nat.le_trans hs2 hB1.size))
      have hown2 := hown.kept hg (by simp)
      refine ⟨⟨k + 1, D, by omega, by simp, hown2.mono (Nat.le_succ _), hmap, fun nb => ?_, below_chain hB2 hB3 hB2.size, ?_⟩, by simp [intOf]; omega⟩
      · rw [hat nb, colF k hlt (fun h => h.2 hnz) nb]
      · exact World.grownBy.cell hg hln (by simp)
    · have hlt : k < n := by assumption
      have hset : ¬ st k = set := by assumption
      have hg : wr.grownBy w2 none := grown_below (below_chain (below_chain (alloc_below wr _) hB1 hs2) hB3 (Nat.le_trans hs2 hB1.size))
      have hown2 := hown.kept hg (by simp)
      refine ⟨⟨k + 1, D, by omega, by simp, hown2.mono (Nat.le_succ _), hmap, fun nb => ?_, below_chain hB2 hB3 hB2.size, ?_⟩, by simp [intOf]; omega⟩
      · rw [hat nb, colF k hlt (fun h => hset h.1) nb]
      · exact World.grownBy.cell hg hln (by simp)
    · have hkn : k = n := by
        have hh : ¬ k < n := by assumption
        omega
      subst hkn
      go_ret
      exact ⟨_, D, rfl, hown, hat, hnx⟩
set_option maxRecDepth 100000 in
theorem f78_nil (r s ln plane set : Int) (a : Option Addr) (c : Nat) (w : World) :
    Calls Tryd.prog 78 #[.agg #[.int .i64 r, .int .i64 s, .int .i64 ln, .slice a 0 c], .int .i64 plane, .int .i64 set] w fun e w' =>
      ∃ M D, e = .returned (.map (some M)) ∧ w'.ownsMap Tryd.prog 3 (plainElem Tryd.prog 28) M 0 D ∧
        (∀ nb : Int, D.atKey (H := Unit) (.int .i64 nb) (.lit (.int .u64 0)) = .lit (.int .u64 0)) ∧ Below w.heap.size w w' := by
  have hmm := @run_makeMap Tryd.prog
  go_enter Tryd.func78, Tryd.ntmps78
  go_wp2
  refine wp_loop_rounds 1 ?_
  rw [rounds_succ]
  go_wp2
  go_ret
  refine ⟨_, .map [], rfl, ?_, fun nb => rfl, ?_⟩
  · have hm := World.ownsMap_made (w.alloc (Obj.cells #[Value.int IntKind.i64 r, Value.int IntKind.i64 s, Value.int IntKind.i64 ln, Value.slice a 0 c] 27)) Tryd.prog 3 (plainElem (H := Unit) Tryd.prog 28)
    have e : (w.alloc (Obj.cells #[Value.int IntKind.i64 r, Value.int IntKind.i64 s, Value.int IntKind.i64 ln, Value.slice a 0 c] 27)).heap.size = w.heap.size + 1 := Array.size_push ..
    rw [e] at hm
    exact hm
  · exact below_chain (alloc_below _ _) (alloc_below _ _) (alloc_below _ _).size
set_option maxRecDepth 100000 in
set_option maxHeartbeats 4000000 in
theorem f40_calls (r s ln plane set nb : Int) (a : Option Addr) (n c : Nat) (w : World) (v : Bool) (res : Int) (hnb : (Lit.int .i64 nb).wf = true)
    (h75 : ∀ W, Below w.heap.size w W → Calls Tryd.prog 75 #[.agg #[.int .i64 r, .int .i64 s, .int .i64 ln, .slice a n c], .int .i64 plane, .int .i64 set] W fun e W' => e = .returned (.bool v) ∧ Below W.heap.size W W')
    (h78 : v = true → ∀ W, Below w.heap.size w W → Calls Tryd.prog 78 #[.agg #[.int .i64 r, .int .i64 s, .int .i64 ln, .slice a n c], .int .i64 plane, .int .i64 set] W fun e W' =>
      ∃ M D, e = .returned (.map (some M)) ∧ W'.ownsMap Tryd.prog 3 (plainElem Tryd.prog 28) M n D ∧
        D.atKey (H := Unit) (.int .i64 nb) (.lit (.int .u64 0)) = .lit (.int .u64 res) ∧ Below W.heap.size W W') :
    Calls Tryd.prog 40 #[.agg #[.int .i64 r, .int .i64 s, .int .i64 ln, .slice a n c], .int .i64 plane, .int .i64 set, .int .i64 nb] w fun e w' =>
      e = .returned (.int .u64 (bif v then res else 0)) ∧ Below w.heap.size w w' := by
  cases v with
  | false =>
    go_enter Tryd.func40, Tryd.ntmps40
    have hB0 : Below w.heap.size w (w.alloc (Obj.cells #[Value.int IntKind.i64 r, Value.int IntKind.i64 s, Value.int IntKind.i64 ln, Value.slice a n c] 27)) := alloc_below _ _
    go_wp2_with (first
      | (go_at_call 75; refine (h75 _ hB0).mono ?_; rintro e w1 ⟨rfl, hB1⟩)
      | go_in)
    all_goals go_ret
    exact ⟨rfl, below_chain hB0 hB1 hB0.size⟩
  | true =>
    replace h78 := h78 rfl
    go_enter Tryd.func40, Tryd.ntmps40
    have hB0 : Below w.heap.size w (w.alloc (Obj.cells #[Value.int IntKind.i64 r, Value.int IntKind.i64 s, Value.int IntKind.i64 ln, Value.slice a n c] 27)) := alloc_below _ _
    go_wp2_with (first
      | (go_at_call 75; refine (h75 _ hB0).mono ?_; rintro e w1 ⟨rfl, hB1⟩
         have hB2 := below_chain hB0 hB1 hB0.size
         have p0 : w1.cell? ⟨w.heap.size, 0, none⟩ = some (.int .i64 r) := (hB1.cell (by show w.heap.size < (Array.push _ _).size; rw [Array.size_push]; omega)).trans (cell_new _ _ _ _)
         have p1 : w1.cell? ⟨w.heap.size, 1, none⟩ = some (.int .i64 s) := (hB1.cell (by show w.heap.size < (Array.push _ _).size; rw [Array.size_push]; omega)).trans (cell_new _ _ _ _)
         have p2 : w1.cell? ⟨w.heap.size, 2, none⟩ = some (.int .i64 ln) := (hB1.cell (by show w.heap.size < (Array.push _ _).size; rw [Array.size_push]; omega)).trans (cell_new _ _ _ _)
         have p3 : w1.cell? ⟨w.heap.size, 3, none⟩ = some (.slice a n c) := (hB1.cell (by show w.heap.size < (Array.push _ _).size; rw [Array.size_push]; omega)).trans (cell_new _ _ _ _))
      | (go_at_call 78; refine (h78 _ hB2).mono ?_; rintro e w2 ⟨M, D, rfl, hown, hat, hB3⟩)
      | (at_lookup; refine wpList_lookup_own_int _ rfl _ _ 121 rfl 3 28 .u64 law3 Tryd.underlying121 Tryd.underlying28 (zero28 _) M n _ rfl hown _ _ rfl (keyOf_int_mk Tryd.underlying3 hnb) ?_; intro c' hat2 hwc)
      | go_in)
    all_goals go_ret
    have hcc : c' = res := by
      have hh := hat.symm.trans hat2
      injection hh with hh
      injection hh with _ hh
      exact hh.symm
    subst hcc
    exact ⟨rfl, below_chain hB2 hB3 hB2.size⟩
end Go.Abs.C13

namespace Go.Abs.C13
open Go Go.Proofs Go.RowKit Go.Maps Sp13
structure TabOk (t : Tb) : Prop where
  r : 1 ≤ t.1 ∧ t.1 ≤ 99
  s : 0 ≤ t.2.1 ∧ t.2.1 ≤ 7
  l : vlen t.2.2.1 = true ∨ (t.2.2.1 = 0 ∧ t.2.2.2.1 = [])
  n : t.2.2.2.1.length ≤ 256
  id : ∀ x ∈ t.2.2.2.1, 1 ≤ x.1 ∧ x.1 ≤ 256
  nx : ∀ x ∈ t.2.2.2.1, ∀ y ∈ x.2.1, 1 ≤ y ∧ y ≤ 99
  m : ∀ x ∈ t.2.2.2.1, x.2.1.length ≤ 24
  ui : ∀ x ∈ t.2.2.2.1, upI x.2.1 = true
  uw : upW t.2.2.2.1 = true
  se : ∀ x ∈ t.2.2.2.1, selfW t.1 x = false
theorem chkB_ok {t : Tb} : chkB t = 0 ↔ TabOk t := by
  unfold chkB
  cases h1 : (!Sp13.inside t.1 1 99 || !Sp13.inside t.2.1 0 7 || (!vlen t.2.2.1 && !(decide (t.2.2.1 = 0) && decide (t.2.2.2.1.length = 0))) || t.2.2.2.1.any badW) with
  | true =>
    simp only [cond_true]
    refine ⟨fun h => absurd h (by decide), fun h => ?_⟩
    have e1 := inside_iff.2 h.r
    have e2 := inside_iff.2 h.s
    have e3 : t.2.2.2.1.any badW = false := by
      rw [List.any_eq_false]
      intro x hx
      unfold badW
      rw [inside_iff.2 (h.id x hx)]
      simp only [Bool.not_true, Bool.false_or, Bool.not_eq_true, List.any_eq_false, Bool.not_eq_false']
      intro y hy
      rw [inside_iff.2 (h.nx x hx y hy)]
    rw [e1, e2, e3] at h1
    rcases h.l with hl | ⟨hl, hl2⟩
    · rw [hl] at h1; simp at h1
    · rw [hl, hl2] at h1; simp at h1
  | false =>
    simp only [cond_false]
    simp only [Bool.or_eq_false_iff, Bool.not_eq_false', Bool.and_eq_false_iff, List.any_eq_false] at h1
    obtain ⟨⟨⟨a1, a2⟩, a3⟩, a4⟩ := h1
    cases h2 : (decide (256 < t.2.2.2.1.length) || t.2.2.2.1.any (fun r => decide (24 < r.2.1.length))) with
    | true =>
      simp only [cond_true]
      refine ⟨fun h => absurd h (by decide), fun h => ?_⟩
      simp only [Bool.or_eq_true, decide_eq_true_eq, List.any_eq_true] at h2
      rcases h2 with h2 | ⟨x, hx, h2⟩
      · have := h.n; omega
      · have := h.m x hx; omega
    | false =>
      simp only [cond_false]
      simp only [Bool.or_eq_false_iff, decide_eq_false_iff_not, List.any_eq_false, decide_eq_true_eq] at h2
      cases h3 : (!(t.2.2.2.1.all fun r => upI r.2.1) || !upW t.2.2.2.1) with
      | true =>
        simp only [cond_true]
        refine ⟨fun h => absurd h (by decide), fun h => ?_⟩
        rw [h.uw, List.all_eq_true.2 h.ui] at h3
        cases h3
      | false =>
        simp only [cond_false]
        simp only [Bool.or_eq_false_iff, Bool.not_eq_false', List.all_eq_true] at h3
        cases h4 : t.2.2.2.1.any (selfW t.1) with
        | true =>
          simp only [cond_true]
          refine ⟨fun h => absurd h (by decide), fun h => ?_⟩
          rw [List.any_eq_true] at h4
          obtain ⟨x, hx, h4⟩ := h4
          rw [h.se x hx] at h4
          cases h4
        | false =>
          simp only [cond_false, true_iff]
          rw [List.any_eq_false] at h4
          have bad : ∀ x ∈ t.2.2.2.1, badW x = false := fun x hx => by simpa using a4 x hx
          refine ⟨inside_iff.1 a1, inside_iff.1 a2, ?_, by omega, fun x hx => ?_, fun x hx y hy => ?_, fun x hx => ?_, h3.1, h3.2, fun x hx => by simpa using h4 x hx⟩
          · rcases a3 with a3 | a3
            · exact .inl a3
            · right
              simp only [Bool.and_eq_true, decide_eq_true_eq] at a3
              exact ⟨a3.1, List.length_eq_zero_iff.1 a3.2⟩
          · have := bad x hx
            unfold badW at this
            simp only [Bool.or_eq_false_iff, Bool.not_eq_false'] at this
            exact inside_iff.1 this.1
          · have := bad x hx
            unfold badW at this
            simp only [Bool.or_eq_false_iff, Bool.not_eq_false', List.any_eq_false] at this
            exact inside_iff.1 (by simpa using this.2 y hy)
          · have := h2.2 x hx; omega
theorem nextW_in {t : Tb} (h : TabOk t) {x : Rw} (hx : x ∈ t.2.2.2.1) (p : Int) : 0 ≤ nextW x p ∧ nextW x p ≤ 99 := by
  unfold nextW
  by_cases h0 : x.2.1.length = 0
  · rw [dT h0]; simp only [cond_true]; omega
  · rw [dF h0]
    simp only [cond_false]
    have hm := Int.emod_nonneg p (show (x.2.1.length : Int) ≠ 0 by omega)
    have hm2 := Int.emod_lt_of_pos p (show (0 : Int) < (x.2.1.length : Int) by omega)
    have := h.nx x hx _ (getD_mem (d := 0) (i := (p % (x.2.1.length : Int)).toNat) (by omega))
    omega
theorem has_of {n : Int} (h1 : -9223372036854775808 ≤ n) (h2 : n ≤ 9223372036854775807) : IntKind.i64.has n := ⟨h1, h2⟩
theorem place_in (id n : Int) : 0 ≤ (place id n).2.1 ∧ (place id n).2.1 < 64 ∧ IntKind.i64.has (place id n).1 := by
  unfold place
  cases hc : (!vlen n || !Sp13.inside id 1 256) with
  | true => simp only [cond_true]; exact ⟨by decide, by decide, has_of (by decide) (by decide)⟩
  | false =>
    simp only [cond_false]
    simp only [Bool.or_eq_false_iff, Bool.not_eq_false'] at hc
    have h2 := inside_iff.1 hc.2
    rcases vlen_iff.1 hc.1 with rfl | rfl | rfl | rfl <;> exact ⟨by omega, by omega, has_of (by omega) (by omega)⟩
theorem colL_take (ln plane set nb : Int) (l : List Rw) (k : Nat) (hk : k < l.length) : colL ln plane set nb (l.take (k + 1)) =
    bif decide ((place (l.getD k zW).1 ln).1 = set) && !decide (nextW (l.getD k zW) plane = 0) && decide (nextW (l.getD k zW) plane = nb) then Bt.or (colL ln plane set nb (l.take k)) (Bt.bit1 (place (l.getD k zW).1 ln).2.1) else colL ln plane set nb (l.take k) := by
  unfold colL
  rw [fold_take _ 0 l zW k hk]
theorem colL_U (ln plane set nb : Int) (l : List Rw) : ∀ k, U (colL ln plane set nb (l.take k))
  | 0 => U0
  | k + 1 => by
    by_cases hk : k < l.length
    · rw [colL_take _ _ _ _ _ _ hk]
      have := colL_U ln plane set nb l k
      cases (decide ((place (l.getD k zW).1 ln).1 = set) && !decide (nextW (l.getD k zW) plane = 0) && decide (nextW (l.getD k zW) plane = nb)) with
      | true => exact or_U this (bit1_U _)
      | false => exact this
    · have := colL_U ln plane set nb l k
      rw [List.take_of_length_le (by omega)] at this ⊢
      exact this
theorem maskF_U (t : Tb) (p s nb : Int) : U (maskF t p s nb) := by
  unfold maskF
  cases validM t p s with
  | true =>
    have := colL_U t.2.2.1 p s nb t.2.2.2.1 t.2.2.2.1.length
    rw [List.take_length] at this
    exact this
  | false => exact U0
def slV (v : Option Value) : Option Addr × Nat × Nat := match v with
  | some (.slice a n c) => (a, n, c)
  | _ => (none, 0, 0)
theorem slR_mono {w W : World} {G : Nat → Nat} (hE : Ext w G W G) {t : Ty} {l : List t.den} {a : Option Addr} {c : Nat} (h : SlR w G 0 t l a c) : SlR W G 0 t l a c := by
  obtain ⟨h1, h2⟩ := h
  refine ⟨h1, h2.imp id ?_⟩
  rintro ⟨b, o, e, h3, h4⟩
  exact ⟨b, o, e, h3, h4.mono hE fun j _ hj => hE.cell _ _ (by omega)⟩
theorem tab_rep {w W : World} {G : Nat → Nat} {pt : Nat → Nat → Option Value} (hE : Ext w G W G) {r s ln : Int} {rows : List Rw} {a : Option Addr} {n c : Nat} (hr : IntKind.i64.has r) (hs : IntKind.i64.has s) (hl : IntKind.i64.has ln)
    (hn : n = rows.length) (hb : n * 32 ≤ big) (hsl : SlR w G 0 rwT rows a c) : RepV W G pt (tbw.con (r, s, ln, rows, ())) (.agg #[.int .i64 r, .int .i64 s, .int .i64 ln, .slice a n c]) := by
  refine ⟨_, rfl, rfl, fun j hj => ?_⟩
  match j, hj with
  | 0, _ => exact ⟨⟨rfl, hr⟩, rfl⟩
  | 1, _ => exact ⟨⟨rfl, hs⟩, rfl⟩
  | 2, _ => exact ⟨⟨rfl, hl⟩, rfl⟩
  | 3, _ => exact ⟨⟨a, n, c, rfl, hn, hb, slR_mono hE hsl⟩, rfl⟩
theorem row_rep {W : World} {G : Nat → Nat} {pt : Nat → Nat → Option Value} {id : Int} {l : List Int} {a : Option Addr} {n c : Nat} (hr : IntKind.i64.has id)
    (hn : n = l.length) (hb : n * 8 ≤ big) (hsl : SlR W G 0 (.int .i64) l a c) : RepV W G pt (rww.con (id, l, ())) (.agg #[.int .i64 id, .slice a n c]) := by
  refine ⟨_, rfl, rfl, fun j hj => ?_⟩
  match j, hj with
  | 0, _ => exact ⟨⟨rfl, hr⟩, rfl⟩
  | 1, _ => exact ⟨⟨a, n, c, rfl, hn, hb, hsl⟩, rfl⟩
section
variable {E : Env} {W : World} {G : Nat → Nat}
def GlOk (E : Env) (W : World) (G : Nat → Nat) : Prop := ∀ g k l, E.glob g = some (k, l) → l.length ≤ G g ∧ ∀ j (h : j < l.length), W.cell? ⟨g, j, none⟩ = some (.int k l[j]) ∧ k.has l[j]
theorem GlOk.mono {W' : World} (h : GlOk E W G) (hE : Ext W G W' G) : GlOk E W' G := by
  intro g k l hg
  obtain ⟨h1, h2⟩ := h g k l hg
  refine ⟨h1, fun j hj => ?_⟩
  rw [hE.cell g j (by omega)]
  exact h2 j hj
theorem r96 (H : CallSem Tryd.prog E 96 c96) {id n : Int} (h1 : IntKind.i64.has id) (h2 : IntKind.i64.has n) (hgz : ∀ b, W.heap.size ≤ b → G b = 0) (hgl : GlOk E W G) :
    Calls Tryd.prog 96 #[.int .i64 id, .int .i64 n] W fun e W' => e = .returned (.tuple #[.int .i64 (place id n).1, .int .i64 (place id n).2.1, .bool (place id n).2.2.1]) ∧ Below W.heap.size W W' := by
  refine (view_calls (ps := [i, i]) (rs := .tup [i, i, b]) H rfl (x := (id, n, ())) (y := place id n) rfl rfl (fun j hj => ?_) hgz hgl).mono ?_
  · match j, hj with
    | 0, _ => exact ⟨rfl, h1⟩
    | 1, _ => exact ⟨rfl, h2⟩
  · rintro e W' ⟨vs, G', pt', rfl, R⟩
    have hs : vs.size = 3 := R.sz
    match vs, hs with
    | ⟨[x0, x1, x2]⟩, _ =>
      have t0 : x0 = .int .i64 (place id n).1 ∧ _ := R.tm 0
      have t1 : x1 = .int .i64 (place id n).2.1 ∧ _ := R.tm 1
      have t2 : x2 = .bool (place id n).2.2.1 := R.tm 2
      refine ⟨?_, R.belowV⟩
      rw [t0.1, t1.1, t2]
      rfl
theorem r77 (H : CallSem Tryd.prog E 77 c77) {id p : Int} {l : List Int} {a : Option Addr} {n c : Nat} (hp : 0 ≤ p) (h1 : IntKind.i64.has id) (h2 : IntKind.i64.has p) (hn : n = l.length) (hb : n * 8 ≤ big) (hsl : SlR W G 0 (.int .i64) l a c)
    (hgz : ∀ b, W.heap.size ≤ b → G b = 0) (hgl : GlOk E W G) :
    Calls Tryd.prog 77 #[.agg #[.int .i64 id, .slice a n c], .int .i64 p] W fun e W' => e = .returned (.int .i64 (nextW (id, l, ()) p)) ∧ Below W.heap.size W W' := by
  refine (view_calls (ps := [rww, i]) (rs := .one i) H rfl (x := ((id, l, ()), p, ())) (y := nextW (id, l, ()) p) rfl (by show Sp13.on (decide (0 ≤ p)) _ = _; rw [dT hp]; rfl) (fun j hj => ?_) hgz hgl).mono ?_
  · match j, hj with
    | 0, _ => exact row_rep h1 hn hb hsl
    | 1, _ => exact ⟨rfl, h2⟩
  · rintro e W' ⟨vs, G', pt', rfl, R⟩
    have hs : vs.size = 1 := R.sz
    match vs, hs with
    | ⟨[x0]⟩, _ =>
      have t0 : x0 = .int .i64 (nextW (id, l, ()) p) ∧ _ := R.tm 0
      refine ⟨?_, R.belowV⟩
      rw [t0.1]
      rfl
theorem r75 (H : CallSem Tryd.prog E 75 c75) {r s ln plane set : Int} {rows : List Rw} {a : Option Addr} {n c : Nat} (hr : IntKind.i64.has r) (hs : IntKind.i64.has s) (hl : IntKind.i64.has ln) (hp : IntKind.i64.has plane) (hse : IntKind.i64.has set)
    (hn : n = rows.length) (hb : n * 32 ≤ big) (hsl : SlR W G 0 rwT rows a c) (hgz : ∀ b, W.heap.size ≤ b → G b = 0) (hgl : GlOk E W G) :
    Calls Tryd.prog 75 #[.agg #[.int .i64 r, .int .i64 s, .int .i64 ln, .slice a n c], .int .i64 plane, .int .i64 set] W fun e W' => e = .returned (.bool (validM (r, s, ln, rows, ()) plane set)) ∧ Below W.heap.size W W' := by
  refine (view_calls (ps := [tbw, i, i]) (rs := .one Go.Abs.C13.b) H rfl (x := ((r, s, ln, rows, ()), plane, set, ())) (y := validM (r, s, ln, rows, ()) plane set) rfl rfl (fun j hj => ?_) hgz hgl).mono ?_
  · match j, hj with
    | 0, _ => exact tab_rep (Ext.refl _ _) hr hs hl hn hb hsl
    | 1, _ => exact ⟨rfl, hp⟩
    | 2, _ => exact ⟨rfl, hse⟩
  · rintro e W' ⟨vs, G', pt', rfl, R⟩
    have hs : vs.size = 1 := R.sz
    match vs, hs with
    | ⟨[x0]⟩, _ =>
      have t0 : x0 = .bool (validM (r, s, ln, rows, ()) plane set) := R.tm 0
      refine ⟨?_, R.belowV⟩
      rw [t0]
      rfl
end
theorem sem40 {E : Env} (H75 : CallSem Tryd.prog E 75 c75) (H77 : CallSem Tryd.prog E 77 c77) (H96 : CallSem Tryd.prog E 96 c96) : CallSem Tryd.prog E 40 c40 := by
  rintro ⟨⟨⟩, ⟨r, s, ln, rows, ⟨⟩⟩, plane, set, nb, ⟨⟩⟩ y hy C args w G pt hm hpin hargs R K hK
  obtain rfl : (maskF (r, s, ln, rows, ()) plane set nb, ()) = y := Option.some.inj hy
  obtain ⟨v0, v1, v2, v3, rfl⟩ : ∃ v0 v1 v2 v3, args = #[v0, v1, v2, v3] := by
    have : args.size = 4 := hargs
    match args, this with
    | ⟨[v0, v1, v2, v3]⟩, _ => exact ⟨v0, v1, v2, v3, rfl⟩
  obtain ⟨arr, hv0, hsz, hel⟩ : ∃ arr, v0 = .agg arr ∧ arr.size = 4 ∧ RepLs w G pt _ (arrF arr) := R.tm 0
  have t1 : v1 = .int .i64 plane ∧ IntKind.i64.has plane := R.tm 1
  have t2 : v2 = .int .i64 set ∧ IntKind.i64.has set := R.tm 2
  have t3 : v3 = .int .i64 nb ∧ IntKind.i64.has nb := R.tm 3
  obtain ⟨rfl, hpl⟩ := t1
  obtain ⟨rfl, hse⟩ := t2
  obtain ⟨rfl, hnb⟩ := t3
  obtain ⟨e0, e1, e2, e3, rfl⟩ : ∃ e0 e1 e2 e3, arr = #[e0, e1, e2, e3] := by
    match arr, hsz with
    | ⟨[v0, v1, v2, v3]⟩, _ => exact ⟨v0, v1, v2, v3, rfl⟩
  subst hv0
  have q0 : e0 = .int .i64 r ∧ IntKind.i64.has r := (hel 0 (show (0 : Nat) < 4 by decide)).1
  have q1 : e1 = .int .i64 s ∧ IntKind.i64.has s := (hel 1 (show (1 : Nat) < 4 by decide)).1
  have q2 : e2 = .int .i64 ln ∧ IntKind.i64.has ln := (hel 2 (show (2 : Nat) < 4 by decide)).1
  obtain ⟨a, n, c, rfl, hn, hb, hsl⟩ : ∃ a n c, e3 = .slice a n c ∧ n = List.length (α := Rw) rows ∧ n * 32 ≤ big ∧ SlR w G 0 rwT rows a c := (hel 3 (show (3 : Nat) < 4 by decide)).1
  obtain ⟨rfl, hr⟩ := q0
  obtain ⟨rfl, hs⟩ := q1
  obtain ⟨rfl, hl⟩ := q2
  have hgl : GlOk E w G := R.gl
  have gl' : ∀ {W}, Below w.heap.size w W → GlOk E W G := fun h => hgl.mono (ext_below h R.gz)
  have gz' : ∀ {W}, Below w.heap.size w W → ∀ b, W.heap.size ≤ b → G b = 0 := fun h b hb => R.gz b (Nat.le_trans h.size hb)
  have hcl := f40_calls r s ln plane set nb a n c w (validM (r, s, ln, rows, ()) plane set) (colL ln plane set nb rows) (wf_i64 hnb)
    (fun W hW => r75 H75 hr hs hl hpl hse hn hb (slR_mono (ext_below hW R.gz) hsl) (gz' hW) (gl' hW)) (fun hv W hW => ?_)
  · refine hcl.mono ?_
    rintro e w' ⟨rfl, hB⟩
    have hU := maskF_U (r, s, ln, rows, ()) plane set nb
    have R1 := R.handInt (fun id => by
      show get ((2 * 0, _) :: (2 * 1, _) :: (2 * 2, _) :: (2 * 3, _) :: []) (2 * id + 1) = .undef
      simp only [get, nbeq_g' (show 2 * id + 1 ≠ 2 * 0 by omega), nbeq_g' (show 2 * id + 1 ≠ 2 * 1 by omega), nbeq_g' (show 2 * id + 1 ≠ 2 * 2 by omega), nbeq_g' (show 2 * id + 1 ≠ 2 * 3 by omega), cond_false]) hB (k := .u64) (r := maskF (r, s, ln, rows, ()) plane set nb) ⟨rfl, hU.1, by have := hU.2; show _ ≤ (18446744073709551615 : Int); omega⟩
    exact hK #[.int .u64 (maskF (r, s, ln, rows, ()) plane set nb)] w' G pt R1
  · have hvv : TabOk (r, s, ln, rows, ()) ∧ 0 ≤ plane := by
      unfold validM at hv
      simp only [Bool.and_eq_true, decide_eq_true_eq] at hv
      exact ⟨chkB_ok.1 hv.1.1.1.1, hv.1.1.1.2⟩
    obtain ⟨hT, hp0⟩ := hvv
    have hlen : rows.length ≤ 256 := hT.n
    by_cases h0 : rows = []
    · subst h0
      obtain rfl : n = 0 := hn
      refine (f78_nil r s ln plane set a c W).mono ?_
      rintro e W' ⟨M, D, rfl, h1, h2, h3⟩
      exact ⟨M, D, rfl, h1, h2 nb, h3⟩
    · obtain ⟨bb, o, rfl, ho, hE⟩ := hsl.2.resolve_left h0
      have hpos : 0 < rows.length := List.length_pos_iff.2 h0
      have hnc : rwT.nc = 2 := rfl
      have hbw : bb < w.heap.size := by
        rcases Nat.lt_or_ge bb w.heap.size with h | h
        · exact h
        · have := R.gz bb h
          have ho : o + rows.length * 2 ≤ G bb := ho
          omega
      have hWE := ext_below hW R.gz
      have hEW : RepE W G rwT rows bb o := hE.mono hWE fun j _ hj => hWE.cell _ _ (by omega)
      have hrow : ∀ k (hk : k < rows.length), W.cell? ⟨bb, o + k * 2, none⟩ = some (.int .i64 (rows.getD k zW).1) ∧ IntKind.i64.has (rows.getD k zW).1 ∧ ∃ a' n' c', W.cell? ⟨bb, o + k * 2 + 1, none⟩ = some (.slice a' n' c') ∧ n' = (rows.getD k zW).2.1.length ∧ n' * 8 ≤ big ∧ SlR W G 0 (.int .i64) (rows.getD k zW).2.1 a' c' := by
        intro k hk
        rw [getD_ix hk]
        obtain ⟨g1, ⟨a', n', c', g2, g3, g4, g5, g6⟩, -⟩ := hEW k hk
        refine ⟨g1.1, g1.2, a', n', c', g2, g3, g4, by rw [← g3]; exact g5, g6.imp id ?_⟩
        rintro ⟨b', o', e, g7, g8⟩
        exact ⟨b', o', e, by rw [← g3]; exact g7, g8⟩
      have hm : ∀ k, k < rows.length → rows.getD k zW ∈ rows := fun k hk => getD_mem hk
      subst hn
      refine (f78_cells r s ln plane set bb o rows.length c W hlen (Nat.lt_of_lt_of_le hbw hW.size) (fun k => (rows.getD k zW).1) (fun k => nextW (rows.getD k zW) plane) (fun k => (place (rows.getD k zW).1 ln).1) (fun k => (place (rows.getD k zW).1 ln).2.1)
        (fun k => (place (rows.getD k zW).1 ln).2.2.1) (fun nb k => colL ln plane set nb (rows.take k))
        (fun k => (slV (W.cell? ⟨bb, o + k * 2 + 1, none⟩)).1) (fun k => (slV (W.cell? ⟨bb, o + k * 2 + 1, none⟩)).2.1) (fun k => (slV (W.cell? ⟨bb, o + k * 2 + 1, none⟩)).2.2)
        (fun k hk => (hrow k hk).1) (fun k hk => ?_) (fun k hk W2 hW2 => ?_) (fun k hk W2 hW2 => ?_) (fun k hk => ⟨(place_in _ _).1, (place_in _ _).2.1⟩) (fun k hk => ?_) (fun nb => rfl) (fun k hk h1 h2 nb => ?_) (fun k hk h1 nb => ?_) (fun nb k => colL_U ln plane set nb rows k)).mono ?_
      · obtain ⟨-, -, a', n', c', g, -⟩ := hrow k hk
        rw [g]; rfl
      · have hB := below_chain hW hW2 hW.size
        exact r96 H96 (hrow k hk).2.1 hl (gz' hB) (gl' hB)
      · have hB := below_chain hW hW2 hW.size
        obtain ⟨-, g0, a', n', c', g, g1, g2, g3⟩ := hrow k hk
        rw [g]
        exact r77 H77 hp0 g0 hpl g1 g2 (slR_mono (ext_below hW2 (gz' hW)) g3) (gz' hB) (gl' hB)
      · have := nextW_in hT (hm k hk) plane
        exact wf_i64 (has_of (by omega) (by omega))
      · rw [colL_take _ _ _ _ _ _ hk, dT h1, dF h2]
        by_cases h3 : nextW (rows.getD k zW) plane = nb
        · rw [dT h3, if_pos h3]; rfl
        · rw [dF h3, if_neg h3]; rfl
      · rw [colL_take _ _ _ _ _ _ hk]
        by_cases h2 : (place (rows.getD k zW).1 ln).1 = set
        · have h3 : nextW (rows.getD k zW) plane = 0 := by
            by_cases h4 : nextW (rows.getD k zW) plane = 0
            · exact h4
            · exact absurd ⟨h2, h4⟩ h1
          rw [dT h2, dT h3]; rfl
        · rw [dF h2]; rfl
      · rintro e W' ⟨M, D, rfl, h1, h2, h3⟩
        refine ⟨M, D, rfl, h1, ?_, h3⟩
        have := h2 nb
        rw [List.take_length] at this
        exact this
end Go.Abs.C13

namespace Go.Abs.C13
open Go Go.Proofs Sp13
open Sp13.Bt
set_option maxRecDepth 100000
theorem tb_or (x y : Int) (i : Nat) : tb (Bt.or x y) i = (tb x i || tb y i) := by
  unfold tb Bt.or
  rw [Int.toNat_natCast]
  exact Nat.testBit_or ..
theorem tb_and (x y : Int) (i : Nat) : tb (Bt.and x y) i = (tb x i && tb y i) := by
  unfold tb Bt.and
  rw [Int.toNat_natCast]
  exact Nat.testBit_and ..
theorem tb_andn (x : Int) {y : Int} (hy : U y) {i : Nat} (hi : i < 64) : tb (Bt.andn x y) i = (tb x i && !tb y i) := by
  unfold tb Bt.andn
  rw [Int.toNat_natCast]
  have h2 : y.toNat < 2 ^ 64 := utn hy
  have e : 18446744073709551615 - y.toNat = 2 ^ 64 - (y.toNat + 1) := by omega
  rw [e]
  show (x.toNat &&& _).testBit i = _
  rw [Nat.testBit_and, Nat.testBit_two_pow_sub_succ h2]
  simp [hi]
theorem tb_bit1 {k : Nat} (hk : k < 64) (i : Nat) : tb (bit1 (k : Int)) i = decide (k = i) := by
  unfold tb bit1
  rw [dF (show ¬ (k : Int) < 0 by omega), dF (show ¬ 63 < (k : Int) by omega)]
  simp only [Bool.or_self, cond_false, Int.toNat_natCast]
  have e : ((2 : Int) ^ k).toNat = 2 ^ k := by rw [pow_cast, Int.toNat_natCast]
  rw [e]
  exact Nat.testBit_two_pow ..
theorem tb_zero (i : Nat) : tb 0 i = false := by
  unfold tb
  exact Nat.zero_testBit i
theorem tb_ext {x y : Int} (hx : U x) (hy : U y) (h : ∀ i, i < 64 → tb x i = tb y i) : x = y := by
  have h2 : x.toNat = y.toNat := by
    apply Nat.eq_of_testBit_eq
    intro i
    by_cases hi : i < 64
    · exact h i hi
    · have e1 : x.toNat < 2 ^ i := Nat.lt_of_lt_of_le (utn hx) (Nat.pow_le_pow_right (by decide) (by omega))
      have e2 : y.toNat < 2 ^ i := Nat.lt_of_lt_of_le (utn hy) (Nat.pow_le_pow_right (by decide) (by omega))
      rw [Nat.testBit_lt_two_pow e1, Nat.testBit_lt_two_pow e2]
  have := hx.1
  have := hy.1
  omega
theorem andn_U {x : Int} (hx : U x) (y : Int) : U (Bt.andn x y) := ucast (Nat.lt_of_le_of_lt Nat.and_le_left (utn hx))
theorem and_Ul {x : Int} (hx : U x) (y : Int) : U (Bt.and x y) := ucast (Nat.lt_of_le_of_lt Nat.and_le_left (utn hx))
theorem ones_less {x y : Int} (h : ∀ i, i < 64 → tb y i = true → tb x i = true) {k : Nat} (hk : k < 64) (h1 : tb x k = true) (h2 : tb y k = false) : (ones y).length < (ones x).length := by
  have e : ones y = (ones x).filter (tb y) := by
    unfold ones
    rw [List.filter_filter]
    refine List.filter_congr fun i hi => ?_
    have := h i (List.mem_range.1 hi)
    cases hy : tb y i with
    | false => simp
    | true => rw [this hy]; rfl
  rw [e]
  exact List.length_filter_lt_length_iff_exists.2 ⟨k, ones_mem.2 ⟨hk, h1⟩, by rw [h2]; decide⟩
theorem ones_nil {x : Int} (hx : U x) (h : (ones x).length = 0) : x = 0 := by
  refine tb_ext hx U0 fun i hi => ?_
  rw [tb_zero]
  cases ht : tb x i with
  | false => rfl
  | true =>
    have := ones_mem.2 ⟨hi, ht⟩
    rw [List.length_eq_zero_iff.1 h] at this
    cases this
theorem nth_low {x : Int} (hx : U x) (h : x ≠ 0) : ∃ k : Nat, Sp13.Bt.nth x 0 = (k : Int) ∧ k < 64 ∧ tb x k = true := by
  obtain ⟨h1, h2⟩ := ones_cons hx h
  refine ⟨_, nth0 hx h, h2, ?_⟩
  exact (ones_mem.1 (by rw [h1]; exact List.mem_cons_self)).2
theorem row_uniq {l : List Rw} (h : upW l = true) {x : Rw} (hx : x ∈ l) : l.find? (fun r => decide (r.1 = x.1)) = some x := by
  have hup : ∀ i j, i < j → j < l.length → (l.getD i zW).1 < (l.getD j zW).1 := by
    intro i j hij hj
    induction j with
    | zero => omega
    | succ j ih =>
      have hs : (l.getD j zW).1 < (l.getD (j + 1) zW).1 := by
        unfold upW at h
        rw [List.all_eq_true] at h
        have := h j (List.mem_range.2 (by omega))
        simpa using this
      by_cases hij2 : i = j
      · subst hij2; exact hs
      · have := ih (by omega) (by omega)
        omega
  obtain ⟨k, hk, rfl⟩ := List.getElem_of_mem hx
  rw [List.find?_eq_some_iff_getElem]
  refine ⟨by simp, k, hk, rfl, fun j hj => ?_⟩
  have := hup j k hj hk
  rw [getD_ix (show j < l.length by omega), getD_ix hk] at this
  simp only [Bool.not_eq_true', decide_eq_false_iff_not]
  omega
theorem findW_mem {t : Tb} {x : Rw} (hT : TabOk t) (hx : x ∈ t.2.2.2.1) : findW t x.1 = (x, true, ()) := by
  unfold findW
  rw [row_uniq hT.uw hx]
theorem findW_some {t : Tb} {id : Int} : (findW t id).2.1 = true → (findW t id).1 ∈ t.2.2.2.1 ∧ (findW t id).1.1 = id := by
  unfold findW
  cases h : t.2.2.2.1.find? (fun r => decide (r.1 = id)) with
  | none => intro h; cases h
  | some r =>
    intro _
    have h1 := List.find?_some h
    exact ⟨List.mem_of_find?_eq_some h, by simpa using h1⟩
theorem hopF_eq (t : Tb) (id p : Int) : hopF t id p = nextW (findW t id).1 p := by
  unfold hopF
  cases h : (findW t id).2.1 with
  | true => rfl
  | false =>
    have : (findW t id).1 = zW := by
      unfold findW at h ⊢
      cases h2 : t.2.2.2.1.find? (fun r => decide (r.1 = id)) with
      | none => rfl
      | some r => rw [h2] at h; cases h
    rw [this]; rfl
theorem next_mem {t : Tb} {id p : Int} (h : nextW (findW t id).1 p ≠ 0) : (findW t id).1 ∈ t.2.2.2.1 ∧ (findW t id).1.1 = id := by
  refine findW_some ?_
  cases h2 : (findW t id).2.1 with
  | true => rfl
  | false =>
    have := hopF_eq t id p
    unfold hopF at this
    rw [h2] at this
    exact absurd this.symm h
def hopB (t : Tb) (plane set len : Int) (i : Nat) : Int := nextW (findW t (at_ set i len).1).1 plane
theorem at_place {set len : Int} {i : Nat} (hl : vlen len = true) {x : Int} (hx : 1 ≤ x) (h : (at_ set i len).1 = x) : (at_ set (i : Int) len).2.1 = true ∧ x = set * len + i + 1 ∧ x ≤ 256 ∧ (i : Int) < len ∧ 0 ≤ set := by
  unfold at_ at h ⊢
  rw [hl] at h ⊢
  simp only [Bool.not_true, Bool.false_or] at h ⊢
  cases hb : (!Sp13.inside (i : Int) 0 (len - 1) || !Sp13.inside set 0 31) with
  | true => rw [hb] at h; simp only [cond_true] at h; omega
  | false =>
    rw [hb] at h
    simp only [cond_false] at h ⊢
    simp only [Bool.or_eq_false_iff, Bool.not_eq_false'] at hb
    have h1 := inside_iff.1 hb.1
    have h2 := inside_iff.1 hb.2
    by_cases hc : 256 < set * len + i + 1
    · rw [dT hc] at h; simp only [cond_true] at h; omega
    · rw [dF hc] at h ⊢
      simp only [cond_false] at h ⊢
      exact ⟨trivial, h.symm, by omega, by omega, h2.1⟩
theorem place_at {set len : Int} {i : Nat} (hl : vlen len = true) {x : Int} (hx : 1 ≤ x) (h : (at_ set i len).1 = x) : place x len = (set, (i : Int), true, ()) := by
  obtain ⟨h1, h2, h3, h4, h5⟩ := at_place hl hx h
  unfold place
  rw [hl, inside_iff.2 ⟨hx, h3⟩]
  simp only [Bool.not_true, Bool.or_self, cond_false]
  have hp : 0 < len := by have := vlen_iff.1 hl; omega
  have e : x - 1 = i + set * len := by omega
  have e1 : (x - 1) / len = set := by
    rw [e, Int.add_mul_ediv_right _ _ (by omega), Int.ediv_eq_zero_of_lt (by omega) h4]
    omega
  have e2 : (x - 1) % len = i := by
    rw [e, Int.add_mul_emod_self_right, Int.emod_eq_of_lt (by omega) h4]
  rw [e1, e2]
theorem at_of_place {x len set : Int} {i : Nat} (hl : vlen len = true) (hx : 1 ≤ x ∧ x ≤ 256) (hs : 0 ≤ set ∧ set ≤ 31) (h1 : (place x len).1 = set) (h2 : (place x len).2.1 = i) : at_ set i len = (x, true, ()) := by
  unfold place at h1 h2
  rw [hl, inside_iff.2 hx] at h1 h2
  simp only [Bool.not_true, Bool.or_self, cond_false] at h1 h2
  have hp : 0 < len := by have := vlen_iff.1 hl; omega
  have e := Int.mul_ediv_add_emod (x - 1) len
  have e2 := Int.emod_lt_of_pos (x - 1) hp
  rw [h1, h2] at e
  rw [h2] at e2
  have e3 : set * len + i + 1 = x := by rw [Int.mul_comm]; omega
  unfold at_
  rw [hl, inside_iff.2 (show 0 ≤ (i : Int) ∧ (i : Int) ≤ len - 1 by omega), inside_iff.2 hs, e3, dF (show ¬ 256 < x by omega)]
  rfl
theorem colL_bit (len plane set nb : Int) (l : List Rw) (i : Nat) : ∀ k, k ≤ l.length →
    (tb (colL len plane set nb (l.take k)) i = true ↔ ∃ j, j < k ∧ (place (l.getD j zW).1 len).1 = set ∧ nextW (l.getD j zW) plane ≠ 0 ∧ nextW (l.getD j zW) plane = nb ∧ (place (l.getD j zW).1 len).2.1 = (i : Int))
  | 0, _ => by
    rw [show colL len plane set nb (l.take 0) = 0 from rfl, tb_zero]
    exact ⟨fun h => (by cases h), fun ⟨j, h, _⟩ => (by omega)⟩
  | k + 1, hk => by
    have ih := colL_bit len plane set nb l i k (by omega)
    rw [colL_take _ _ _ _ _ _ (by omega)]
    have split : (∃ j, j < k + 1 ∧ (place (l.getD j zW).1 len).1 = set ∧ nextW (l.getD j zW) plane ≠ 0 ∧ nextW (l.getD j zW) plane = nb ∧ (place (l.getD j zW).1 len).2.1 = (i : Int)) ↔
        ((∃ j, j < k ∧ (place (l.getD j zW).1 len).1 = set ∧ nextW (l.getD j zW) plane ≠ 0 ∧ nextW (l.getD j zW) plane = nb ∧ (place (l.getD j zW).1 len).2.1 = (i : Int)) ∨
          ((place (l.getD k zW).1 len).1 = set ∧ nextW (l.getD k zW) plane ≠ 0 ∧ nextW (l.getD k zW) plane = nb ∧ (place (l.getD k zW).1 len).2.1 = (i : Int))) := by
      constructor
      · rintro ⟨j, h1, h2⟩
        by_cases hj : j = k
        · subst hj; exact .inr h2
        · exact .inl ⟨j, by omega, h2⟩
      · rintro (⟨j, h1, h2⟩ | h)
        · exact ⟨j, by omega, h2⟩
        · exact ⟨k, by omega, h⟩
    rw [split, ← ih]
    cases hc : (decide ((place (l.getD k zW).1 len).1 = set) && !decide (nextW (l.getD k zW) plane = 0) && decide (nextW (l.getD k zW) plane = nb)) with
    | false =>
      simp only [cond_false]
      refine ⟨fun h => Or.inl h, fun h => ?_⟩
      rcases h with h | ⟨h1, h2, h3, _⟩
      · exact h
      · rw [dT h1, dF h2, dT h3] at hc
        cases hc
    | true =>
      simp only [cond_true]
      simp only [Bool.and_eq_true, decide_eq_true_eq, Bool.not_eq_true', decide_eq_false_iff_not] at hc
      obtain ⟨⟨h1, h2⟩, h3⟩ := hc
      obtain ⟨p0, p1, -⟩ := place_in (l.getD k zW).1 len
      obtain ⟨m, hm⟩ : ∃ m : Nat, (place (l.getD k zW).1 len).2.1 = (m : Int) := ⟨(place (l.getD k zW).1 len).2.1.toNat, by omega⟩
      rw [tb_or, hm, tb_bit1 (by omega), Bool.or_eq_true, decide_eq_true_eq]
      refine or_congr Iff.rfl ⟨fun h => ⟨h1, h2, h3, by omega⟩, fun h => by omega⟩
theorem maskF_bit {t : Tb} (hT : TabOk t) (hl : vlen t.2.2.1 = true) {plane set nb : Int} (hp : 0 ≤ plane ∧ plane < 8) (hs : 0 ≤ set ∧ set ≤ 31) (i : Nat) :
    tb (maskF t plane set nb) i = (decide (hopB t plane set t.2.2.1 i = nb) && !decide (nb = 0)) := by
  have hv : validM t plane set = true := by
    unfold validM
    rw [dT (chkB_ok.2 hT), dT hp.1, dT hp.2, dT hs.1, dT hs.2]
    rfl
  unfold maskF
  rw [hv]
  simp only [cond_true]
  have h := colL_bit t.2.2.1 plane set nb t.2.2.2.1 i t.2.2.2.1.length (Nat.le_refl _)
  rw [List.take_length] at h
  rw [Bool.eq_iff_iff, h, Bool.and_eq_true, decide_eq_true_eq, Bool.not_eq_true', decide_eq_false_iff_not]
  constructor
  · rintro ⟨j, hj, h1, h2, h3, h4⟩
    have hm : t.2.2.2.1.getD j zW ∈ t.2.2.2.1 := getD_mem hj
    have ha := at_of_place hl (hT.id _ hm) hs h1 h4
    unfold hopB
    rw [ha, findW_mem hT hm]
    exact ⟨h3, by omega⟩
  · rintro ⟨h1, h2⟩
    have hn : nextW (findW t (at_ set i t.2.2.1).1).1 plane ≠ 0 := by
      have : hopB t plane set t.2.2.1 i ≠ 0 := by omega
      exact this
    obtain ⟨hm, hid⟩ := next_mem hn
    obtain ⟨j, hj, e⟩ := List.getElem_of_mem hm
    have hx := hT.id _ hm
    have hp := place_at hl (by rw [hid] at hx; exact hx.1) (i := i) (set := set) rfl
    refine ⟨j, hj, ?_⟩
    rw [getD_ix hj, e, hid, hp]
    exact ⟨rfl, hn, h1, rfl⟩
end Go.Abs.C13

namespace Go.Abs.C13
open Go Go.Proofs Sp13
open Sp13.Bt
set_option maxRecDepth 100000
structure FwOk (t : Tb) (p : Pk) : Prop where
  T : TabOk t
  k : validK p = true
  n : t.2.2.1 = ln p
def pkB (p : Pk) (g : Int) : Pk := (md p, sd p, Sp13.st p, ln p, Sp13.tl p - 1, en p, ig p, pr p, g, py p, ())
abbrev hp (t : Tb) (p : Pk) (i : Nat) : Int := hopB t (plane p) (Sp13.st p) t.2.2.1 i
theorem fit_iff {p : Pk} : validK p = true ↔ (1 ≤ md p ∧ md p ≤ 3) ∧ (0 ≤ sd p ∧ sd p ≤ 7) ∧ (0 ≤ Sp13.st p ∧ Sp13.st p ≤ 31) ∧ (vlen (ln p) = true ∧ bt p < 2 ^ (ln p).toNat) ∧ (0 ≤ tl p ∧ tl p ≤ 63) ∧ (0 ≤ en p ∧ en p ≤ 1023) ∧ (0 ≤ ig p ∧ ig p ≤ 256) ∧ (0 ≤ pr p ∧ pr p ≤ 7) ∧ (py p).length ≤ 64 := by
  unfold validK validB
  simp only [Bool.and_eq_true, inside_iff, decide_eq_true_eq, and_assoc]
section
variable {t : Tb} {p : Pk}
theorem FwOk.l (h : FwOk t p) : vlen t.2.2.1 = true := by rw [h.n]; exact (fit_iff.1 h.k).2.2.2.1.1
theorem FwOk.pl (h : FwOk t p) : 0 ≤ plane p ∧ plane p < 8 := by
  unfold plane
  rw [h.k]
  simp only [cond_true]
  omega
theorem FwOk.st (h : FwOk t p) : 0 ≤ Sp13.st p ∧ Sp13.st p ≤ 31 := (fit_iff.1 h.k).2.2.1
theorem FwOk.tl (h : FwOk t p) : 0 ≤ Sp13.tl p ∧ Sp13.tl p ≤ 63 := (fit_iff.1 h.k).2.2.2.2.1
theorem toF_hp (h : FwOk t p) (k : Nat) : toF t (at_ (Sp13.st p) k (ln p)).1 (plane p) = hp t p k := by
  have hv : validM t (plane p) 0 = true := by
    unfold validM
    rw [dT (chkB_ok.2 h.T), dT h.pl.1, dT h.pl.2]
    rfl
  unfold toF
  rw [hv, ← h.n]
  rfl
theorem le_of_sub {x y : Int} (hx : U x) (hy : U y) (h : ∀ i, i < 64 → tb x i = true → tb y i = true) : x ≤ y := by
  have e : x = Bt.and x y := tb_ext hx (and_Ur x hy) fun i hi => by
    rw [tb_and]
    cases ht : tb x i with
    | false => rfl
    | true => rw [h i hi ht]; rfl
  rw [e]
  unfold Bt.and
  have := Nat.and_le_right (n := x.toNat) (m := y.toNat)
  have hy0 := hy.1
  have : ((Nat.land x.toNat y.toNat : Nat) : Int) ≤ (y.toNat : Int) := by exact_mod_cast this
  omega
structure Inv (t : Tb) (p : Pk) (s : Int × Int × Int × List Cp) : Prop where
  ul : U s.1
  uo : U s.2.1
  us : U s.2.2.1
  sub : ∀ i, i < 64 → tb s.1 i = true → tb (bt p) i = true
  loc : ∀ i, i < 64 → tb s.2.1 i = (tb (bt p) i && !tb s.1 i && decide (hp t p i = t.1))
  lost : ∀ i, i < 64 → tb s.2.2.1 i = (tb (bt p) i && !tb s.1 i && (decide (hp t p i = 0) || (decide (Sp13.tl p = 0) && !decide (hp t p i = t.1))))
  grp : ∀ i j, i < 64 → j < 64 → hp t p i = hp t p j → hp t p i ≠ 0 → hp t p i ≠ t.1 → tb (bt p) i = true → tb (bt p) j = true → tb s.1 i = tb s.1 j
  cps : ∀ c ∈ s.2.2.2, ∃ g, c = (c.1, ([], pkB p g, ()), ()) ∧ U g ∧ g ≠ 0 ∧ c.1 ≠ 0 ∧ c.1 ≠ t.1 ∧ (∀ i, i < 64 → tb g i = (tb (bt p) i && decide (hp t p i = c.1))) ∧ ∀ i, i < 64 → tb g i = true → tb s.1 i = false
  all : Sp13.tl p ≠ 0 → ∀ i, i < 64 → tb (bt p) i = true → tb s.1 i = false → hp t p i ≠ 0 → hp t p i ≠ t.1 → ∃ c ∈ s.2.2.2, c.1 = hp t p i
  nd : (s.2.2.2.map fun c => c.1).Nodup
  tt : s.2.2.2 ≠ [] → Sp13.tl p ≠ 0
theorem inv_init (hU : U (bt p)) : Inv t p (bt p, 0, 0, []) := by
  have z : ∀ i (q : Bool), tb 0 i = (tb (bt p) i && !tb (bt p) i && q) := fun i q => by
    rw [tb_zero]
    cases tb (bt p) i <;> rfl
  refine ⟨hU, U0, U0, fun i _ h => h, fun i _ => z i _, fun i _ => z i _, fun i j _ _ _ _ _ h1 h2 => by rw [h1, h2], fun c hc => (by cases hc), fun _ i _ h1 h2 => ?_, List.nodup_nil, fun h => absurd rfl h⟩
  simp only at h2
  rw [h1] at h2
  cases h2
theorem fstep_eq (h : FwOk t p) {s : Int × Int × Int × List Cp} (hI : Inv t p s) (hU : U (bt p)) (h0 : s.1 ≠ 0) : ∃ k : Nat, k < 64 ∧ tb s.1 k = true ∧ Sp13.Bt.nth s.1 0 = (k : Int) ∧
    fstep t p s = (bif decide (hp t p k = 0) then (Bt.andn s.1 (bit1 k), s.2.1, Bt.or s.2.2.1 (bit1 k), s.2.2.2) else
      bif decide (hp t p k = t.1) then (Bt.andn s.1 (bit1 k), Bt.or s.2.1 (bit1 k), s.2.2.1, s.2.2.2) else
      bif !decide (Sp13.tl p = 0) then (Bt.andn s.1 (Bt.and s.1 (maskF t (plane p) (Sp13.st p) (hp t p k))), s.2.1, s.2.2.1, s.2.2.2 ++ [(hp t p k, ([], pkB p (Bt.and s.1 (maskF t (plane p) (Sp13.st p) (hp t p k))), ()), ())]) else
      (Bt.andn s.1 (Bt.and s.1 (maskF t (plane p) (Sp13.st p) (hp t p k))), s.2.1, Bt.or s.2.2.1 (Bt.and s.1 (maskF t (plane p) (Sp13.st p) (hp t p k))), s.2.2.2)) := by
  obtain ⟨k, e, hk, hb⟩ := nth_low hI.ul h0
  refine ⟨k, hk, hb, e, ?_⟩
  unfold fstep
  simp only
  rw [e, toF_hp h]
  cases hz : decide (hp t p k = 0) with
  | true => rfl
  | false =>
    simp only [cond_false]
    cases hr : decide (hp t p k = t.1) with
    | true => rfl
    | false =>
      simp only [cond_false]
      have hz := of_decide_eq_false hz
      have hmk : tb (maskF t (plane p) (Sp13.st p) (hp t p k)) k = true := by
        rw [maskF_bit h.T h.l h.pl h.st, dF hz]
        simp
      generalize hg : Bt.and s.1 (maskF t (plane p) (Sp13.st p) (hp t p k)) = g
      have hgU : U g := by rw [← hg]; exact and_Ul hI.ul _
      have hgk : tb g k = true := by rw [← hg, tb_and, hb, hmk]; rfl
      have hgn : g ≠ 0 := by
        intro hz
        rw [hz, tb_zero] at hgk
        cases hgk
      have hand : Bt.and s.1 g = g := tb_ext (and_Ul hI.ul _) hgU fun i _ => by
        rw [← hg, tb_and, tb_and]
        cases tb s.1 i <;> rfl
      have hle := le_of_sub hI.ul hU hI.sub
      obtain ⟨f1, f2, f3, f4, f5, f6, f7, f8, f9⟩ := fit_iff.1 h.k
      have hv : validK (setB8 p s.1) = true := fit_iff.2 ⟨f1, f2, f3, ⟨f4.1, Int.lt_of_le_of_lt hle f4.2⟩, f5, f6, f7, f8, f9⟩
      have em : masked (setB8 p s.1) g = bif !decide (Sp13.tl p = 0) then (pkB p g, true, ()) else (zp, false, ()) := by
        unfold masked
        rw [hv]
        show (bif true && !decide (Sp13.tl p = 0) && !decide (Bt.and s.1 g = 0) then ((md p, sd p, Sp13.st p, ln p, Sp13.tl p - 1, en p, ig p, pr p, Bt.and s.1 g, py p, ()), true, ()) else (zp, false, ())) = _
        rw [hand, dF hgn]
        cases decide (Sp13.tl p = 0) <;> rfl
      rw [em]
      cases decide (Sp13.tl p = 0) <;> rfl
theorem inv_bit (h : FwOk t p) {s : Int × Int × Int × List Cp} (hI : Inv t p s) (hU : U (bt p)) (h0 : s.1 ≠ 0) : Inv t p (fstep t p s) ∧ (ones (fstep t p s).1).length < (ones s.1).length ∧ (fstep t p s).2.2.2.length ≤ s.2.2.2.length + 1 := by
  obtain ⟨k, hk, hb, -, e⟩ := fstep_eq h hI hU h0
  have hbu : U (bit1 (k : Int)) := bit1_U _
  have hS := hI.sub k hk hb
  have hr0 := h.T.r
  by_cases hz : hp t p k = 0
  · rw [e, dT hz]
    simp only [cond_true]
    have hl : ∀ i, i < 64 → tb (Bt.andn s.1 (bit1 k)) i = (tb s.1 i && !decide (k = i)) := fun i hi => by rw [tb_andn _ hbu hi, tb_bit1 hk]
    refine ⟨⟨andn_U hI.ul _, hI.uo, or_U hI.us hbu, fun i hi h1 => ?_, fun i hi => ?_, fun i hi => ?_, fun i j hi hj e1 n0 nr b1 b2 => ?_, fun c hc => ?_, fun ht i hi b1 b2 n0 nr => ?_, hI.nd, hI.tt⟩, ?_, Nat.le_succ _⟩
    · rw [hl i hi] at h1
      simp only [Bool.and_eq_true] at h1
      exact hI.sub i hi h1.1
    · simp only
      rw [hI.loc i hi, hl i hi]
      by_cases hki : k = i
      · subst hki
        rw [dF (show ¬ hp t p k = t.1 by omega)]
        simp
      · rw [dF hki]; simp
    · simp only
      rw [tb_or, hI.lost i hi, hl i hi, tb_bit1 hk]
      by_cases hki : k = i
      · subst hki
        rw [hb, hS, dT hz, dT rfl]; rfl
      · rw [dF hki]; simp
    · simp only
      rw [hl i hi, hl j hj, hI.grp i j hi hj e1 n0 nr b1 b2, dF (show ¬ k = i by intro hh; subst hh; exact n0 hz), dF (show ¬ k = j by intro hh; subst hh; exact n0 (e1.trans hz))]
    · obtain ⟨g, q1, q2, q3, q4, q5, q6, q7⟩ := hI.cps c hc
      exact ⟨g, q1, q2, q3, q4, q5, q6, fun i hi hg => by rw [hl i hi, q7 i hi hg]; rfl⟩
    · refine hI.all ht i hi b1 ?_ n0 nr
      rw [hl i hi, dF (show ¬ k = i by intro hh; subst hh; exact n0 hz)] at b2
      simpa using b2
    · exact ones_less (k := k) (fun i hi h1 => by rw [hl i hi] at h1; simp only [Bool.and_eq_true] at h1; exact h1.1) hk hb (by rw [hl k hk, dT rfl]; simp)
  · by_cases hr : hp t p k = t.1
    · rw [e, dF hz, dT hr]
      simp only [cond_true, cond_false]
      have hl : ∀ i, i < 64 → tb (Bt.andn s.1 (bit1 k)) i = (tb s.1 i && !decide (k = i)) := fun i hi => by rw [tb_andn _ hbu hi, tb_bit1 hk]
      refine ⟨⟨andn_U hI.ul _, or_U hI.uo hbu, hI.us, fun i hi h1 => ?_, fun i hi => ?_, fun i hi => ?_, fun i j hi hj e1 n0 nr b1 b2 => ?_, fun c hc => ?_, fun ht i hi b1 b2 n0 nr => ?_, hI.nd, hI.tt⟩, ?_, Nat.le_succ _⟩
      · rw [hl i hi] at h1
        simp only [Bool.and_eq_true] at h1
        exact hI.sub i hi h1.1
      · simp only
        rw [tb_or, hI.loc i hi, hl i hi, tb_bit1 hk]
        by_cases hki : k = i
        · subst hki
          rw [hb, hS, dT hr, dT rfl]; rfl
        · rw [dF hki]; simp
      · simp only
        rw [hI.lost i hi, hl i hi]
        by_cases hki : k = i
        · subst hki
          rw [dF hz, dT hr]
          simp
        · rw [dF hki]; simp
      · simp only
        rw [hl i hi, hl j hj, hI.grp i j hi hj e1 n0 nr b1 b2, dF (show ¬ k = i by intro hh; subst hh; exact nr hr), dF (show ¬ k = j by intro hh; subst hh; exact nr (e1.trans hr))]
      · obtain ⟨g, q1, q2, q3, q4, q5, q6, q7⟩ := hI.cps c hc
        exact ⟨g, q1, q2, q3, q4, q5, q6, fun i hi hg => by rw [hl i hi, q7 i hi hg]; rfl⟩
      · refine hI.all ht i hi b1 ?_ n0 nr
        rw [hl i hi, dF (show ¬ k = i by intro hh; subst hh; exact nr hr)] at b2
        simpa using b2
      · exact ones_less (k := k) (fun i hi h1 => by rw [hl i hi] at h1; simp only [Bool.and_eq_true] at h1; exact h1.1) hk hb (by rw [hl k hk, dT rfl]; simp)
    · rw [e, dF hz, dF hr]
      simp only [cond_false]
      have hm : ∀ i, tb (maskF t (plane p) (Sp13.st p) (hp t p k)) i = decide (hp t p i = hp t p k) := fun i => by
        rw [maskF_bit h.T h.l h.pl h.st, dF hz]
        simp
      generalize hg : Bt.and s.1 (maskF t (plane p) (Sp13.st p) (hp t p k)) = g
      have hgU : U g := by rw [← hg]; exact and_Ul hI.ul _
      have hgb : ∀ i, tb g i = (tb s.1 i && decide (hp t p i = hp t p k)) := fun i => by rw [← hg, tb_and, hm]
      have hgk : tb g k = true := by rw [hgb, hb, dT rfl]; rfl
      have hgn : g ≠ 0 := by
        intro hz
        rw [hz, tb_zero] at hgk
        cases hgk
      have hl : ∀ i, i < 64 → tb (Bt.andn s.1 g) i = (tb s.1 i && !decide (hp t p i = hp t p k)) := fun i hi => by
        rw [tb_andn _ hgU hi, hgb]
        cases tb s.1 i <;> rfl
      have hgS : ∀ i, i < 64 → tb g i = (tb (bt p) i && decide (hp t p i = hp t p k)) := fun i hi => by
        rw [hgb]
        by_cases hh : hp t p i = hp t p k
        · rw [dT hh]
          cases hsb : tb (bt p) i with
          | true => rw [hI.grp i k hi hk hh (by omega) (by omega) hsb hS, hb]
          | false =>
            cases hsl : tb s.1 i with
            | false => rfl
            | true => have := hI.sub i hi hsl; rw [hsb] at this; cases this
        · rw [dF hh]; simp
      have less : (ones (Bt.andn s.1 g)).length < (ones s.1).length :=
        ones_less (k := k) (fun i hi h1 => by rw [hl i hi] at h1; simp only [Bool.and_eq_true] at h1; exact h1.1) hk hb (by rw [hl k hk, dT rfl]; simp)
      have sub' : ∀ i, i < 64 → tb (Bt.andn s.1 g) i = true → tb (bt p) i = true := fun i hi h1 => by
        rw [hl i hi] at h1
        simp only [Bool.and_eq_true] at h1
        exact hI.sub i hi h1.1
      have loc' : ∀ i, i < 64 → tb s.2.1 i = (tb (bt p) i && !tb (Bt.andn s.1 g) i && decide (hp t p i = t.1)) := fun i hi => by
        rw [hI.loc i hi, hl i hi]
        by_cases hh : hp t p i = hp t p k
        · rw [dF (show ¬ hp t p i = t.1 by omega)]; simp
        · rw [dF hh]; simp
      have grp' : ∀ i j, i < 64 → j < 64 → hp t p i = hp t p j → hp t p i ≠ 0 → hp t p i ≠ t.1 → tb (bt p) i = true → tb (bt p) j = true → tb (Bt.andn s.1 g) i = tb (Bt.andn s.1 g) j := fun i j hi hj e1 n0 nr b1 b2 => by
        rw [hl i hi, hl j hj, hI.grp i j hi hj e1 n0 nr b1 b2, e1]
      have old' : ∀ c ∈ s.2.2.2, ∃ g', c = (c.1, ([], pkB p g', ()), ()) ∧ U g' ∧ g' ≠ 0 ∧ c.1 ≠ 0 ∧ c.1 ≠ t.1 ∧ (∀ i, i < 64 → tb g' i = (tb (bt p) i && decide (hp t p i = c.1))) ∧ ∀ i, i < 64 → tb g' i = true → tb (Bt.andn s.1 g) i = false := fun c hc => by
        obtain ⟨g', q1, q2, q3, q4, q5, q6, q7⟩ := hI.cps c hc
        exact ⟨g', q1, q2, q3, q4, q5, q6, fun i hi hg => by rw [hl i hi, q7 i hi hg]; rfl⟩
      by_cases ht : Sp13.tl p = 0
      · rw [dT ht]
        simp only [Bool.not_true, cond_false]
        refine ⟨⟨andn_U hI.ul _, hI.uo, or_U hI.us hgU, sub', loc', fun i hi => ?_, grp', old', fun h2 => absurd ht h2, hI.nd, hI.tt⟩, less, Nat.le_succ _⟩
        simp only
        rw [tb_or, hI.lost i hi, hgb, hl i hi, dT ht]
        by_cases hh : hp t p i = hp t p k
        · rw [dT hh, dF (show ¬ hp t p i = 0 by omega), dF (show ¬ hp t p i = t.1 by omega)]
          cases hsl : tb s.1 i with
          | true => rw [hI.sub i hi hsl]; rfl
          | false => simp
        · rw [dF hh]; simp
      · rw [dF ht]
        simp only [Bool.not_false, cond_true]
        refine ⟨⟨andn_U hI.ul _, hI.uo, hI.us, sub', loc', fun i hi => ?_, grp', fun c hc => ?_, fun _ i hi b1 b2 n0 nr => ?_, ?_, fun _ => ht⟩, less, by simp⟩
        · simp only
          rw [hI.lost i hi, hl i hi, dF ht]
          by_cases hh : hp t p i = hp t p k
          · rw [dF (show ¬ hp t p i = 0 by omega)]; simp
          · rw [dF hh]; simp
        · rcases List.mem_append.1 hc with hc | hc
          · exact old' c hc
          · rw [List.mem_singleton.1 hc]
            exact ⟨g, rfl, hgU, hgn, hz, hr, hgS, fun i hi hg1 => by rw [tb_andn _ hgU hi, hg1]; simp⟩
        · by_cases hh : hp t p i = hp t p k
          · exact ⟨_, List.mem_append.2 (.inr (List.mem_singleton.2 rfl)), hh.symm⟩
          · rw [hl i hi, dF hh] at b2
            obtain ⟨c, hc, e2⟩ := hI.all ht i hi b1 (by simpa using b2) n0 nr
            exact ⟨c, List.mem_append.2 (.inl hc), e2⟩
        · show (List.map _ (s.2.2.2 ++ [_])).Nodup
          rw [List.map_append]
          refine List.nodup_append.2 ⟨hI.nd, by simp, fun a ha b hb' => ?_⟩
          simp only [List.map_cons, List.map_nil, List.mem_singleton] at hb'
          subst hb'
          obtain ⟨c, hc, rfl⟩ := List.mem_map.1 ha
          intro hh
          obtain ⟨g', q1, q2, q3, q4, q5, q6, q7⟩ := hI.cps c hc
          have := q7 k hk (by rw [q6 k hk, hS, dT (show hp t p k = c.1 from hh.symm)]; rfl)
          rw [hb] at this
          cases this
end
end Go.Abs.C13

namespace Go.Abs.C13
open Go Go.Proofs Sp13
open Sp13.Bt
set_option maxRecDepth 100000
theorem wband {x y : Int} (hx : U x) (hy : U y) : IntKind.wrap .u64 (Int.ofNat (BitVec.and (BitVec.ofInt 64 x) (BitVec.ofInt 64 y)).toNat) = Bt.and x y := band hx hy
theorem wbandn {x y : Int} (hx : U x) (hy : U y) : IntKind.wrap .u64 (Int.ofNat (BitVec.and (BitVec.ofInt 64 x) (BitVec.not (BitVec.ofInt 64 y))).toNat) = Bt.andn x y := bandn hx hy
theorem wshl {k : Nat} (hk : k < 64) : IntKind.wrap .u64 ((1 : Int) * Int.pow (2 : Int) (min (Int.toNat (k : Int)) 64)) = bit1 (k : Int) := by
  have e : bit1 (k : Int) = 2 ^ k := by
    unfold bit1
    rw [dF (show ¬ (k : Int) < 0 by omega), dF (show ¬ 63 < (k : Int) by omega)]
    rfl
  have hu : U ((2 : Int) ^ k) := pow_U hk
  rw [e, Int.one_mul, Int.toNat_natCast, Nat.min_eq_left (by omega), pow2, wu64 hu.1 hu.2]
def fstepT (t : Tb) (p : Pk) (s : Int × Int × Int × List Cp) (k to : Int) : Int × Int × Int × List Cp :=
  bif decide (to = 0) then (Bt.andn s.1 (Bt.bit1 k), s.2.1, Bt.or s.2.2.1 (Bt.bit1 k), s.2.2.2) else
  bif decide (to = t.1) then (Bt.andn s.1 (Bt.bit1 k), Bt.or s.2.1 (Bt.bit1 k), s.2.2.1, s.2.2.2) else
  let g := Bt.and s.1 (maskF t (plane p) (Sp13.st p) to)
  let q := masked (setB8 p s.1) g
  bif q.2.1 then (Bt.andn s.1 g, s.2.1, s.2.2.1, s.2.2.2 ++ [(to, ([], q.1, ()), ())]) else (Bt.andn s.1 g, s.2.1, Bt.or s.2.2.1 g, s.2.2.2)
theorem fstepT_eq (t : Tb) (p : Pk) (s : Int × Int × Int × List Cp) : fstep t p s = fstepT t p s (Sp13.Bt.nth s.1 0) (toF t (at_ (Sp13.st p) (Sp13.Bt.nth s.1 0) (ln p)).1 (plane p)) := rfl
theorem fwd_step (a0 a1 a2 : Int) (a3 : List Rw) (a4 a5 a6 a7 a8 a9 a10 a11 a12 : Int) (a13 : List Int) (h : FwOk (a0, a1, a2, a3, ()) (a4, a5, a6, a7, a8, a9, a10, a11, a12, a13, ())) (hU : U a12)
    (s : Int × Int × Int × List Cp) (hI : Inv (a0, a1, a2, a3, ()) (a4, a5, a6, a7, a8, a9, a10, a11, a12, a13, ()) s) (h0 : s.1 ≠ 0) (hl : s.2.2.2.length ≤ 64) :
    g10_s0 a0 a1 a2 a3 a4 a5 a6 a7 a8 a9 a10 a11 a12 a13 ((s.2.1, (s.2.2.1, (s.2.2.2, ()))), (s.1, ())) =
      some (.inl (((fstep (a0, a1, a2, a3, ()) (a4, a5, a6, a7, a8, a9, a10, a11, a12, a13, ()) s).2.1, ((fstep (a0, a1, a2, a3, ()) (a4, a5, a6, a7, a8, a9, a10, a11, a12, a13, ()) s).2.2.1, ((fstep (a0, a1, a2, a3, ()) (a4, a5, a6, a7, a8, a9, a10, a11, a12, a13, ()) s).2.2.2, ()))), ((fstep (a0, a1, a2, a3, ()) (a4, a5, a6, a7, a8, a9, a10, a11, a12, a13, ()) s).1, ()))) := by
  obtain ⟨k, e, hk, hb⟩ := nth_low hI.ul h0
  have hbu : U (bit1 (k : Int)) := bit1_U _
  have hmU : ∀ nb, U (maskF (a0, a1, a2, a3, ()) (plane (a4, a5, a6, a7, a8, a9, a10, a11, a12, a13, ())) a6 nb) := fun nb => maskF_U _ _ _ _
  rw [fstepT_eq]
  unfold g10_s0
  simp only
  rw [dF h0, e, dT (show (0 : Int) ≤ (k : Int) by omega), wshl hk]
  simp only [Bool.not_false, cond_true]
  generalize hto : (bif validM (a0, a1, a2, a3, ()) (plane (a4, a5, a6, a7, a8, a9, a10, a11, a12, a13, ())) 0 then nextW (findW (a0, a1, a2, a3, ()) (at_ a6 (k : Int) a7).1).1 (plane (a4, a5, a6, a7, a8, a9, a10, a11, a12, a13, ())) else 0) = to
  rw [show toF (a0, a1, a2, a3, ()) (at_ (Sp13.st (a4, a5, a6, a7, a8, a9, a10, a11, a12, a13, ())) (k : Int) (ln (a4, a5, a6, a7, a8, a9, a10, a11, a12, a13, ()))).1 (plane (a4, a5, a6, a7, a8, a9, a10, a11, a12, a13, ())) = to from hto]
  unfold fstepT
  simp only [setB8, md, sd, Sp13.st, ln, Sp13.tl, en, ig, pr, py]
  cases decide (to = 0) with
  | true =>
    simp only [cond_true]
    rw [wbor hI.us hbu, wbandn hI.ul hbu]
  | false =>
    simp only [cond_false]
    cases decide (to = a0) with
    | true =>
      simp only [cond_true]
      rw [wbor hI.uo hbu, wbandn hI.ul hbu]
    | false =>
      simp only [cond_false]
      rw [wband hI.ul (hmU to)]
      have hgU : U (Bt.and s.1 (maskF (a0, a1, a2, a3, ()) (plane (a4, a5, a6, a7, a8, a9, a10, a11, a12, a13, ())) a6 to)) := and_Ul hI.ul _
      generalize Bt.and s.1 (maskF (a0, a1, a2, a3, ()) (plane (a4, a5, a6, a7, a8, a9, a10, a11, a12, a13, ())) a6 to) = g at hgU ⊢
      generalize masked (a4, a5, a6, a7, a8, a9, a10, a11, s.1, a13, ()) g = q
      cases q.2.1 with
      | true =>
        simp only [cond_true]
        rw [ble_t (show (s.2.2.2.length + 1) * 120 ≤ 140737488355328 by omega), wbandn hI.ul hgU]
        rfl
      | false =>
        simp only [cond_false, Option.bind_some]
        rw [wbor hI.us hgU, wbandn hI.ul hgU]
theorem fwd_loop (a0 a1 a2 : Int) (a3 : List Rw) (a4 a5 a6 a7 a8 a9 a10 a11 a12 : Int) (a13 : List Int) (h : FwOk (a0, a1, a2, a3, ()) (a4, a5, a6, a7, a8, a9, a10, a11, a12, a13, ())) (hU : U a12) : ∀ m
    (s : Int × Int × Int × List Cp), Inv (a0, a1, a2, a3, ()) (a4, a5, a6, a7, a8, a9, a10, a11, a12, a13, ()) s → (ones s.1).length ≤ m → s.2.2.2.length + m ≤ 64 →
    Loop (g10_s0 a0 a1 a2 a3 a4 a5 a6 a7 a8 a9 a10 a11 a12 a13) ((s.2.1, (s.2.2.1, (s.2.2.2, ()))), (s.1, ())) =
      some (((fwdN (a0, a1, a2, a3, ()) (a4, a5, a6, a7, a8, a9, a10, a11, a12, a13, ()) m s).2.1, ((fwdN (a0, a1, a2, a3, ()) (a4, a5, a6, a7, a8, a9, a10, a11, a12, a13, ()) m s).2.2.1, ((fwdN (a0, a1, a2, a3, ()) (a4, a5, a6, a7, a8, a9, a10, a11, a12, a13, ()) m s).2.2.2, ()))), ()) := by
  have fin : ∀ (s : Int × Int × Int × List Cp), s.1 = 0 → Loop (g10_s0 a0 a1 a2 a3 a4 a5 a6 a7 a8 a9 a10 a11 a12 a13) ((s.2.1, (s.2.2.1, (s.2.2.2, ()))), (s.1, ())) = some ((s.2.1, (s.2.2.1, (s.2.2.2, ()))), ()) := by
    intro s hs
    rw [Loop_step]
    unfold g10_s0
    simp only
    rw [dT hs]
    rfl
  intro m
  induction m with
  | zero =>
    intro s hI hm hl
    exact fin s (ones_nil hI.ul (Nat.le_zero.1 hm))
  | succ m ih =>
    intro s hI hm hl
    unfold fwdN
    by_cases h0 : s.1 = 0
    · rw [dT h0]; exact fin s h0
    · rw [dF h0]
      simp only [cond_false]
      obtain ⟨i1, i2, i3⟩ := inv_bit h hI hU h0
      rw [Loop_step, fwd_step a0 a1 a2 a3 a4 a5 a6 a7 a8 a9 a10 a11 a12 a13 h hU s hI h0 (by omega)]
      exact ih _ i1 (by omega) (by omega)
theorem g10_ok (a0 : Int) (a1 : Int) (a2 : Int) (a3 : (List (Int × ((List Int) × Unit)))) (a4 : Int) (a5 : Int) (a6 : Int) (a7 : Int) (a8 : Int) (a9 : Int) (a10 : Int) (a11 : Int) (a12 : Int) (a13 : (List Int)) (r0 : IntKind.i64.has a0) (r1 : IntKind.i64.has a1) (r2 : IntKind.i64.has a2) (r3 : (Ty.sl (rwT)).ok a3) (r4 : IntKind.i64.has a4) (r5 : IntKind.i64.has a5) (r6 : IntKind.i64.has a6) (r7 : IntKind.i64.has a7) (r8 : IntKind.i64.has a8) (r9 : IntKind.i64.has a9) (r10 : IntKind.i64.has a10) (r11 : IntKind.i64.has a11) (r12 : IntKind.u64.has a12) (r13 : Ty.str.ok a13) : g10 a0 a1 a2 a3 a4 a5 a6 a7 a8 a9 a10 a11 a12 a13 = some (Sp13.fwd (a0, a1, a2, a3, ()) (a4, a5, a6, a7, a8, a9, a10, a11, a12, a13, ()), ()) := by
  unfold g10
  by_cases c1 : chkB (a0, a1, a2, a3, ()) = 0
  · cases hk : validK (a4, a5, a6, a7, a8, a9, a10, a11, a12, a13, ()) with
    | false =>
      rw [dT c1]
      simp only [Bool.not_true, Bool.not_false, cond_true, Option.bind_some]
      unfold fwd fwdE
      rw [dT c1, hk]
      rfl
    | true =>
      rw [dT c1]
      simp only [Bool.not_true, Bool.not_false, cond_true, cond_false, Option.bind_some]
      by_cases c2 : a4 = 2
      · rw [dT c2]
        simp only [cond_true]
        unfold fwd fwdE
        rw [dT c1, hk, dT (show md (a4, a5, a6, a7, a8, a9, a10, a11, a12, a13, ()) = 2 from c2)]
        rfl
      · rw [dF c2]
        simp only [cond_false]
        have e8 : ∀ z : Option ((Oc × Int × Unit) × Unit), (¬ (a1 = a5 ∧ a2 = a7) → z = some ((zOc, (8, ())), ())) → ((a1 = a5 ∧ a2 = a7) → z = some ((fwd0 (a0, a1, a2, a3, ()) (a4, a5, a6, a7, a8, a9, a10, a11, a12, a13, ()), (0, ())), ())) →
            z = some (fwd (a0, a1, a2, a3, ()) (a4, a5, a6, a7, a8, a9, a10, a11, a12, a13, ()), ()) := by
          intro z h1 h2
          unfold fwd fwdE
          rw [dT c1, hk, dF (show ¬ md (a4, a5, a6, a7, a8, a9, a10, a11, a12, a13, ()) = 2 from c2)]
          simp only [Bool.not_true, Bool.or_self, cond_false]
          by_cases h3 : a1 = a5
          · by_cases h4 : a2 = a7
            · rw [h2 ⟨h3, h4⟩, dT (show (a0, a1, a2, a3, ()).2.1 = sd (a4, a5, a6, a7, a8, a9, a10, a11, a12, a13, ()) from h3), dT (show (a0, a1, a2, a3, ()).2.2.1 = ln (a4, a5, a6, a7, a8, a9, a10, a11, a12, a13, ()) from h4)]
              rfl
            · rw [h1 (fun hh => h4 hh.2), dF (show ¬ (a0, a1, a2, a3, ()).2.2.1 = ln (a4, a5, a6, a7, a8, a9, a10, a11, a12, a13, ()) from h4)]
              simp
          · rw [h1 (fun hh => h3 hh.1), dF (show ¬ (a0, a1, a2, a3, ()).2.1 = sd (a4, a5, a6, a7, a8, a9, a10, a11, a12, a13, ()) from h3)]
            simp
        refine e8 _ (fun hn => ?_) (fun hn => ?_)
        · by_cases h3 : a1 = a5
          · rw [dT h3, dF (show ¬ a2 = a7 from fun hh => hn ⟨h3, hh⟩)]
            rfl
          · rw [dF h3]; rfl
        · rw [dT hn.1, dT hn.2]
          simp only [Bool.not_true, Bool.not_false, cond_true, cond_false, Option.bind_some]
          have hF : FwOk (a0, a1, a2, a3, ()) (a4, a5, a6, a7, a8, a9, a10, a11, a12, a13, ()) := ⟨chkB_ok.1 c1, hk, hn.2⟩
          have hU : U a12 := uh r12
          have hL := fwd_loop a0 a1 a2 a3 a4 a5 a6 a7 a8 a9 a10 a11 a12 a13 hF hU 64 (a12, 0, 0, []) (inv_init (t := (a0, a1, a2, a3, ())) (p := (a4, a5, a6, a7, a8, a9, a10, a11, a12, a13, ())) hU) (ones_len _) (by simp)
          simp only at hL
          rw [hL]
          rfl
  · rw [dF c1]
    simp only [Bool.not_false, Bool.not_true, cond_false, Option.bind_some]
    unfold fwd fwdE
    rw [dF c1]
    rfl
end Go.Abs.C13
