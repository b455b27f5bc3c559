/- Chapter 29 (sort): proved is that functions that the law reaches keep their contracts; no conditions but those that each theorem states. -/
import Derived.Test.YtaabojpgjgeigaaDoorRunB
import Derived.KernelRfl
import Derived.Shelf.SlSortCmp.WholeK
import Derived.RegionTactic
import Derived.Shelf.SlSortCmp.NoneTotal
set_option linter.unusedVariables false
set_option linter.unusedSimpArgs false
namespace Go.Abs.C29
open Go Go.Proofs Sp29
set_option maxRecDepth 100000

abbrev B : Env := mkE tab gl 0 false []
theorem glue {f : Nat} {fn : Func} {n : Nat} {hp : Bool} {md : List (Nat × Nat)} (L : List (Nat × Con)) (hL : ∀ g con, lookC L g = some con → FunOk Tryd.prog B (g % 1000000) con) (plan : Plan) {c : Con}
    (hf : Tryd.prog.funcs[f]? = some fn) (hck : fnCheck (mkE tab gl n hp md) fn c = true)
    (hF : ∀ x y, c.okV x → c.F x = some y → (evF (fun _ _ => Loop) (mkE tab gl n hp md) (lookC L) fn plan c x).den = some y) : FunOk Tryd.prog B f c :=
  FunOk.env (E := mkE tab gl n hp md) rfl (fun_ok (pok n hp md) mix (fun g con h => FunOk.env (E := B) rfl (hL g con h)) plan hf hck hF)
theorem orI (a b : Bool) : (bif a then (some (b, ()) : Option (Bool × Unit)) else some (false, ())) = some (a && b, ()) := by cases a <;> rfl
theorem inside_iff {n a b : Int} : inside n a b = true ↔ a ≤ n ∧ n ≤ b := by simp [inside]
theorem len_r {l : List Rc} (h : (Ty.sl rcT).ok l) : l.length ≤ 2932031007402 := by
  have h : l.length * 48 ≤ 140737488355328 := h.1
  omega
theorem on_w {α : Type} {t : Tp} (h : wf t = true) (x : α) : Sp29.on (wf t) x = some x := on_true h
theorem g20_ok (a0 : (List Int)) (a1 : Int) (r0 : (Ty.sl (.int .i64)).ok a0) (r1 : IntKind.i64.has a1) (h : (Sp29.wf (a0, a1, ())) = true) : g20 a0 a1 = some (Sp29.raw (a0, a1, ())) := by
  obtain ⟨h1, h2, h3⟩ := wf_iff.1 h
  simp only at h1 h2 h3
  unfold g20 Sp29.raw
  by_cases h4 : a1 < a0.length
  · have h5 : ¬ a1 ≥ (a0.length : Int) := by omega
    have e1 : IntKind.wrap .i64 (a1 + 1) = a1 + 1 := wi64 (by omega) (by omega)
    have e2 : IntKind.wrap .i64 (a1 + 1 - 1) = a1 := by rw [show a1 + 1 - 1 = a1 by omega]; exact wi64 (by omega) (by omega)
    simp only [Int.ofNat_eq_natCast, e1, e2, h5, h4, h1, decide_true, decide_false, cond_true, cond_false, Bool.and_self]
  · have h5 : a1 ≥ (a0.length : Int) := by omega
    simp only [Int.ofNat_eq_natCast, h5, h4, decide_true, decide_false, cond_true, cond_false]
theorem g19_ok (a0 : Int) (a1 : Int) (r0 : IntKind.i64.has a0) (r1 : IntKind.i64.has a1) : g19 a0 a1 = some (Sp29.cut a0 a1, ()) := by
  have hm := (has_i64 r1).2
  unfold g19 Sp29.cut
  by_cases h : a1 < 1
  · simp [h]
  · have h0 : ¬ a1 = 0 := by omega
    have hp : 0 < a1 := by omega
    have e1 := Int.emod_nonneg a0 h0
    have e2 := Int.emod_lt_of_pos a0 hp
    have e3 : a0.tmod a1 = if 0 ≤ a0 ∨ a1 ∣ a0 then a0 % a1 else a0 % a1 - a1 := by
      rw [Int.tmod_eq_emod]
      split <;> rename_i h <;> simp [h]
      omega
    by_cases h5 : 0 ≤ a0 ∨ a1 ∣ a0
    · rw [if_pos h5] at e3
      have : ¬ a0 % a1 < 0 := by omega
      simp [h, h0, e3, this]
      rfl
    · rw [if_neg h5] at e3
      have h6 : a0 % a1 - a1 < 0 := by omega
      have h7 : a0 % a1 - a1 + a1 = a0 % a1 := by omega
      have h8 : IntKind.wrap .i64 (a0 % a1) = a0 % a1 := wi64 (by omega) (by omega)
      simp only [h, h0, e3, h6, h7, h8, decide_true, decide_false, cond_true, cond_false, Bool.not_false, Option.bind]
      rfl
theorem g11_ok (a0 : (List Int)) (a1 : Int) (a2 : Int) (r0 : (Ty.sl (.int .i64)).ok a0) (r1 : IntKind.i64.has a1) (r2 : IntKind.i64.has a2) (h : (Sp29.wf (a0, a1, ())) = true) : g11 a0 a1 a2 = some (Sp29.next (a0, a1, ()) a2) := by
  unfold g11
  rw [on_true h]
  rfl
theorem g5_ok (a0 : (List Int)) (r0 : (Ty.sl (.int .i64)).ok a0) : g5 a0 = some (Sp29.tape a0, ()) := by
  unfold g5 Sp29.tape
  by_cases h : (2000 : Int) < a0.length
  · have h2 : (2000 : Int) ≤ a0.length := by omega
    simp [h, h2]
  · have : a0.take 2000 = a0 := List.take_of_length_le (by omega)
    simp [h, this]
theorem g6_ok (a0 : (List Int)) (a1 : Int) (a2 : Int) (r0 : (Ty.sl (.int .i64)).ok a0) (r1 : IntKind.i64.has a1) (r2 : IntKind.i64.has a2) (h : (Sp29.wf (a0, a1, ()) && Sp29.inside a2 0 1000) = true) : g6 a0 a1 a2 = some (Sp29.order (a0, a1, ()) a2.toNat) := by
  simp only [Bool.and_eq_true, inside_iff] at h
  obtain ⟨hw, h1, h2⟩ := h
  obtain ⟨n, rfl⟩ : ∃ n : Nat, a2 = (n : Int) := ⟨a2.toNat, by omega⟩
  have hL : Loop (g6_s0 (n : Int)) ((0 : Int), (([] : List Int), ((a0, (a1, ())), ()))) = some ((orderN (a0, a1, ()) n).1, ((orderN (a0, a1, ()) n).2, ())) := by
    refine Loop_seq (step := g6_s0 (n : Int)) (fun k => ((k : Int), ((orderN (a0, a1, ()) k).1, ((orderN (a0, a1, ()) k).2, ())))) n _ (fun k hk => ?_) ?_ 0 (Nat.zero_le _)
    · obtain ⟨w, hl, -⟩ := order_wf hw k
      rw [orderN]
      generalize orderN (a0, a1, ()) k = s at w hl ⊢
      have hb := next_range (t := s.2) (n := (k : Int) + 1) (by omega)
      unfold g6_s0
      simp only [Int.ofNat_eq_natCast, Int.toNat_natCast, List.nil_append, List.drop_zero, List.take_length]
      rw [dT (show (k : Int) < (n : Int) by omega), hl, wi64 (n := (k : Int) + 1) (by omega) (by omega), on_w w]
      simp only [Option.bind_some]
      have e : ((k + 1 : Nat) : Int) = (k : Int) + 1 := by omega
      generalize next s.2 ((k : Int) + 1) = a at hb ⊢
      have l1 : (List.take a.1.toNat s.1).length ≤ 1000 := by rw [List.length_take]; omega
      have l2 : (List.drop a.1.toNat s.1).length ≤ 1000 := by rw [List.length_drop]; omega
      have hb2 : a.1 ≤ (k : Int) := by omega
      rw [dT hb.1, dT hb2, dT (Int.le_refl _), decide_true, ble_t (show (1 + (List.drop a.1.toNat s.1).length) * 8 ≤ 140737488355328 by omega), ble_t (show ((List.take a.1.toNat s.1).length + ((k : Int) :: List.drop a.1.toNat s.1).length) * 8 ≤ 140737488355328 by rw [List.length_cons]; omega), e]
      rfl
    · unfold g6_s0
      rw [dF (show ¬ (n : Int) < (n : Int) by omega)]
      rfl
  unfold g6
  rw [hL]
  rfl
theorem g48_ok (a0 : Int) (r0 : IntKind.i64.has a0) : g48 a0 = some (false, ()) := by
  unfold g48
  rw [decide_eq_true rfl]
  rfl
theorem g49_ok (a0 : (List Int)) (r0 : Ty.str.ok a0) : g49 a0 = some (false, ()) := by
  unfold g49
  have e : List.beq a0 a0 = true := beq_self_eq_true a0
  rw [e]
  rfl
theorem g24_ok (a0 : Int) (a1 : Int) (r0 : IntKind.i64.has a0) (r1 : IntKind.i64.has a1) : g24 a0 a1 = some (Sp29.cmpI a0 a1, ()) := by
  unfold g24 cmpI
  cases decide (a0 < a1) with
  | true => rfl
  | false =>
    show (bif decide (a1 < a0) then _ else _) = _
    cases decide (a1 < a0) <;> rfl
theorem g25_ok (a0 : (List Int)) (a1 : (List Int)) (r0 : Ty.str.ok a0) (r1 : Ty.str.ok a1) : g25 a0 a1 = some (Sp29.cmpS a0 a1, ()) := by
  unfold g25 cmpS
  have e : (List.beq a0 a1) = (a0 == a1) := rfl
  rw [e]
  cases ltBytes a0 a1 <;> cases a0 == a1 <;> rfl
theorem nz_drop (l : List Int) (i : Nat) (h : i < l.length) : firstNZ (l.drop i) = bif decide (l.getD i 0 = 0) then firstNZ (l.drop (i + 1)) else l.getD i 0 := by
  rw [List.drop_eq_getElem_cons h]
  have : l.getD i 0 = l[i] := by rw [List.getD_eq_getElem?_getD, List.getElem?_eq_getElem h]; rfl
  rw [this]
  rfl
theorem g23_ok (a0 : (List Int)) (r0 : (Ty.sl (.int .i64)).ok a0) : g23 a0 = some (Sp29.firstNZ a0, ()) := by
  have hlen : a0.length ≤ 281474976710656 := by
    have h : a0.length * 8 ≤ 140737488355328 := r0.1
    omega
  have key : ∀ j k, k + j = a0.length → ∃ e, Loop (g23_s0 a0) ((k : Int), ()) = some e ∧ (bif e.1 then some e.2.1 else some ((0 : Int), ())) = some (firstNZ (a0.drop k), ()) := by
    intro j
    induction j with
    | zero =>
      intro k hk
      have hk : k = a0.length := by omega
      subst hk
      refine ⟨(false, ((0, ()), ())), ?_, ?_⟩
      · rw [Loop_step]
        unfold g23_s0
        simp only [Int.ofNat_eq_natCast]
        rw [decide_eq_false (show ¬ (a0.length : Int) < (a0.length : Int) by omega)]
        rfl
      · rw [List.drop_length]; rfl
    | succ j ih =>
      intro k hk
      have hs : g23_s0 a0 ((k : Int), ()) = bif !decide (a0.getD k 0 = 0) then some (.inr (true, ((a0.getD k 0, ()), ()))) else some (.inl (((k + 1 : Nat) : Int), ())) := by
        unfold g23_s0
        simp only [Int.ofNat_eq_natCast, Int.toNat_natCast]
        rw [decide_eq_true (show (k : Int) < (a0.length : Int) by omega), decide_eq_true (show (0 : Int) ≤ (k : Int) by omega), wi64 (n := (k : Int) + 1) (by omega) (by omega)]
        rfl
      by_cases h0 : a0.getD k 0 = 0
      · obtain ⟨e, h1, h2⟩ := ih (k + 1) (by omega)
        refine ⟨e, ?_, ?_⟩
        · rw [Loop_step, hs, decide_eq_true h0]
          exact h1
        · rw [nz_drop a0 k (by omega), decide_eq_true h0]
          exact h2
      · refine ⟨(true, ((a0.getD k 0, ()), ())), ?_, ?_⟩
        · rw [Loop_step, hs, decide_eq_false h0]
          rfl
        · rw [nz_drop a0 k (by omega), decide_eq_false h0]
          rfl
  obtain ⟨e, h1, h2⟩ := key a0.length 0 (by omega)
  have h1 : Loop (g23_s0 a0) (0, ()) = some e := h1
  unfold g23
  rw [h1]
  exact h2
theorem g14_ok (a0 : Int) (a1 : Int) (a2 : Int) (a3 : Int) (a4 : (List Int)) (a5 : Int) (a6 : Int) (a7 : Int) (a8 : Int) (a9 : (List Int)) (r0 : IntKind.i64.has a0) (r1 : IntKind.i64.has a1) (r2 : IntKind.i64.has a2) (r3 : IntKind.i64.has a3) (r4 : Ty.str.ok a4) (r5 : IntKind.i64.has a5) (r6 : IntKind.i64.has a6) (r7 : IntKind.i64.has a7) (r8 : IntKind.i64.has a8) (r9 : Ty.str.ok a9) : g14 a0 a1 a2 a3 a4 a5 a6 a7 a8 a9 = some (Sp29.cmpF (a0, a1, a2, a3, a4, ()) (a5, a6, a7, a8, a9, ()), ()) := by
  rfl
theorem g26_ok (a0 : Int) (a1 : Int) (a2 : Int) (r0 : IntKind.i64.has a0) (r1 : IntKind.i64.has a1) (r2 : IntKind.i64.has a2) : g26 a0 a1 a2 = some (Sp29.inside a0 a1 a2, ()) := by
  unfold g26 Sp29.inside
  rw [orI]
  rfl
theorem g50_ok (a0 : Int) (a1 : Int) (a2 : Int) (r0 : IntKind.i64.has a0) (r1 : IntKind.i64.has a1) (r2 : IntKind.i64.has a2) : g50 a0 a1 a2 = some (Sp29.inside a0 a1 a2, ()) := by
  unfold g50 Sp29.inside
  rw [orI]
  rfl
theorem g54_ok (a0 : Int) (a1 : Int) (r0 : IntKind.i64.has a0) (r1 : IntKind.i64.has a1) : g54 a0 a1 = some (Sp29.inside a0 0 a1, ()) := by
  unfold g54 Sp29.inside
  rw [orI]
  rfl
theorem g51_ok (a0 : Int) (r0 : IntKind.i64.has a0) : g51 a0 = some (Sp29.vlen a0, ()) := by
  unfold g51 Sp29.vlen
  cases decide (a0 = 8) <;> cases decide (a0 = 16) <;> cases decide (a0 = 32) <;> rfl
theorem g53_ok (a0 : Int) (a1 : Int) (a2 : Int) (a3 : Int) (r0 : IntKind.i64.has a0) (r1 : IntKind.i64.has a1) (r2 : IntKind.i64.has a2) (r3 : IntKind.i64.has a3) : g53 a0 a1 a2 a3 = some (decide (a0 = a2), ()) := by
  rfl
theorem g7_ok (a0 : (List (Int × (Int × ((Int × (Int × Unit)) × ((List Int) × Unit)))))) (r0 : (Ty.sl (rcT)).ok a0) : g7 a0 = some (Go.Abs.C29.sortR a0, ()) := by
  rfl
end Go.Abs.C29

namespace Go.Abs
variable {E : Env} {C : Ctx} {s : St} {a : Act} {w : World} {G : Nat → Nat} {pt : Nat → Nat → Option Value}
theorem nbeq_g {a b : Nat} (h : a ≠ b) : Nat.beq a b = false := by
  cases hb : Nat.beq a b with
  | false => rfl
  | true => exact absurd (Nat.eq_of_beq_eq_true hb) h
theorem get_one (d : D) (k : Nat) (h : k ≠ 0) : get [(0, d)] k = .undef := by
  simp only [get, nbeq_g h, cond_false]
theorem Rel.keep0 {n : Nat} (R : Rel (ifE E n false) C s a w G pt) (hb : ∀ id, get s (2 * id + 1) = .undef) :
    Rel (ifE E 1 false) C [(0, get s 0)] { tmps := #[a.tmps.getD 0 Go.undef], defers := [] } w G pt := by
  have g1 : ∀ id, get [(0, get s 0)] (2 * id + 1) = .undef := fun id => get_one _ _ (by omega)
  have g2 : ∀ t, 1 ≤ t → get [(0, get s 0)] (2 * t) = .undef := fun t ht => get_one _ _ (by omega)
  have hTC : ∀ b, TC 1 C.m [(0, get s 0)] { tmps := #[a.tmps.getD 0 Go.undef], defers := [] } w pt b = cT s a b 0 := by
    intro b
    have z2 : sumN C.m (cB [(0, get s 0)] w pt b) = 0 := sumN_zero fun i hi => by
      rw [cB, g1]
      rfl
    unfold TC
    rw [z2]
    show 0 + cT [(0, get s 0)] _ b 0 + 0 = _
    rw [Nat.zero_add, Nat.add_zero]
    rfl
  refine ⟨rfl, rfl, fun t => ?_, fun id => ?_, fun t ht => g2 t ht, fun id hid => g1 id, fun b => ?_, fun b hb => ?_, R.fr, R.ex, R.gz, R.os, R.out, R.tape, R.hs, fun id st h => ?_, R.gl, R.pn⟩
  · cases t with
    | zero => exact R.tm 0
    | succ t => rw [g2 (t + 1) (by omega)]; trivial
  · rw [g1]; trivial
  · exact Nat.le_trans (Nat.le_of_eq (hTC b)) (Nat.le_trans (R.cT_le b 0) (R.ct b))
  · exact R.cb b (Nat.lt_of_lt_of_le (by have := hTC b; exact this ▸ hb) (R.cT_le b 0))
  · rw [g1] at h
    have := R.pf id st
    rw [hb] at this
    exact this h
end Go.Abs
namespace Go.Abs.C29
open Go Go.Proofs Go.Sort Go.RowKit
def encC (x : Sp29.Rc) : List Value := [.int .i64 x.1, .int .i64 x.2.1, .int .i64 x.2.2.1.1, .int .i64 x.2.2.1.2.1, .string (bs x.2.2.2.1)]
def cellC (l : List Sp29.Rc) (j : Nat) : Value := (encC (l.getD (j / 5) Sp29.zR))[j % 5]!
theorem cells_at {w : World} {G : Nat → Nat} {l : List Sp29.Rc} {b o : Nat} (hr : RepE w G rcT l b o) (j : Nat) (hj : j < l.length * 5) : w.cell? ⟨b, o + j, none⟩ = some (cellC l j) := by
  have hi : j / 5 < l.length := by omega
  obtain ⟨h1, h2, ⟨h3, h4, -⟩, ⟨s, h5, h6, h7⟩, -⟩ := hr (j / 5) hi
  have h6 : sby s = (l[j / 5]).2.2.2.1 := h6
  unfold cellC encC
  rw [getD_ix hi]
  rcases (by omega : j % 5 = 0 ∨ j % 5 = 1 ∨ j % 5 = 2 ∨ j % 5 = 3 ∨ j % 5 = 4) with h | h | h | h | h
  · rw [h, show o + j = o + j / 5 * 5 by omega]; exact h1.1
  · rw [h, show o + j = o + j / 5 * 5 + 1 by omega]; exact h2.1
  · rw [h, show o + j = o + j / 5 * 5 + 1 + 1 by omega]; exact h3.1
  · rw [h, show o + j = o + j / 5 * 5 + 1 + 1 + 1 by omega]; exact h4.1
  · rw [h, show o + j = o + j / 5 * 5 + 1 + 1 + 1 + 1 by omega, ← h6, bs_sby]; exact h5
theorem cells12 {w : World} {G : Nat → Nat} (hgz : ∀ b, w.heap.size ≤ b → G b = 0) {l : List Sp29.Rc} {b o : Nat} (ho : o + l.length * 5 ≤ G b) (hr : RepE w G rcT l b o) :
    (loadCellsFrom ⟨b, o, none⟩ 0 (l.length * 5) #[]).run Tryd.prog (w.alloc (.cells #[] 31)).drew = .ok ((List.range (l.length * 5)).map (cellC l)).toArray (w.alloc (.cells #[] 31)).drew := by
  have h := run_loadCellsFrom (P := Tryd.prog) (w.alloc (.cells #[] 31)).drew ⟨b, o, none⟩ (cellC l) (l.length * 5) 0 #[] (fun j hj => by
    have hadd : (⟨b, o, none⟩ : Addr).add (0 + j) = ⟨b, o + j, none⟩ := by
      unfold Addr.add
      simp
    rw [hadd]
    show (w.alloc (.cells #[] 31)).cell? _ = _
    have hE := (alloc_ext (w := w) (G := G) (.cells #[] 31) hgz).cell b (o + j) (by omega)
    rw [hE, Nat.zero_add]
    exact cells_at hr j hj)
  rw [h]
  simp only [Nat.zero_add, List.append_nil, Array.empty_append]
theorem sem12 {E : Env} : CallSem Tryd.prog E 12 c12 := by
  rintro ⟨⟨⟩, l, ⟨⟩⟩ y hy C args w G pt hm hpin hargs R K hK
  obtain rfl : (l, ()) = y := Option.some.inj hy
  obtain ⟨v0, rfl⟩ : ∃ v0, args = #[v0] := by
    have : args.size = 1 := hargs
    match args, this with
    | ⟨[v0]⟩, _ => exact ⟨v0, rfl⟩
  have t0 := R.tm 0
  obtain ⟨a, n, c, hv, hn, hb, hc, hs⟩ : ∃ a n c, v0 = .slice a n c ∧ n = List.length (α := Sp29.Rc) l ∧ n * 48 ≤ big ∧ SlR w G 0 rcT l a c := t0
  subst hv
  have g0 : ∀ (d : D) id, get ((0, d) :: entrySt c12 ((), l, ())) (2 * id + 1) = .undef := by
    intro d id
    show get [(0, d), (0, D.sl 0 rcT l)] (2 * id + 1) = .undef
    have e0 : Nat.beq (2 * id + 1) 0 = false := nbeq_g (by omega)
    simp only [get, e0, cond_false]
  by_cases hl : l = []
  · subst hl
    cases a with
    | none =>
      refine f12_nil ?_
      have R1 := R.dst1 0 (by decide : 0 < 1) (d := .sl 2 rcT ([] : List rcT.den)) (v := .slice none 0 0) ⟨none, 0, 0, rfl, rfl, by decide, .inl ⟨rfl, rfl, rfl⟩⟩ (fun b => rfl)
      exact hK #[.slice none 0 0] w G pt (R1.keep0 (g0 _))
    | some p =>
      have hn0 : n = 0 := hn
      subst hn0
      refine f12_empty ?_
      have R1 := R.newRow (e := 31) (fr := (0, 0)) { dst := some 0, op := .move (.tmp 0), type := 0, pos := "", after := #[], guard := none } (fun t ht => by cases ht; exact (by decide : 0 < 1)) (t := rcT) (l := ([] : List rcT.den)) (cells := #[]) (c := 0)
        (fun i hi => by simp at hi) (Nat.zero_le _) (by simp) (fun o ho => by simp only; omega) (by simp) (by decide)
      exact hK #[.slice (some ⟨w.heap.size, 0, none⟩) 0 0] _ G pt (R1.keep0 (g0 _))
  · obtain ⟨b, o, rfl, ho, hr⟩ := hs.resolve_left hl
    have hpos : 0 < List.length (α := Sp29.Rc) l := List.length_pos_iff.2 hl
    unfold big at hb
    subst hn
    refine f12_cells hpos (by omega) (cells12 R.gz ho hr) fun k hk => ?_
    have R1 := R.newRow (e := 31) (fr := (0, 0)) { dst := some 0, op := .move (.tmp 0), type := 0, pos := "", after := #[], guard := none } (fun t ht => by cases ht; exact (by decide : 0 < 1)) (t := rcT) (l := ([] : List rcT.den)) (cells := #[]) (c := 0)
        (fun i hi => by simp at hi) (Nat.zero_le _) (by simp) (fun o ho => by simp only; omega) (by simp) (by decide)
    have hsz : (w.alloc (.cells #[] 31)).heap.size = w.heap.size + 1 := by
      show (w.heap.push _).size = _
      rw [Array.size_push]
    have hcs : (((List.range (l.length * 5)).map (cellC l)).toArray ++ Builtin.zeroCells #[Value.int .i64 0, Value.int .i64 0, Value.int .i64 0, Value.int .i64 0, Value.string "".toUTF8] (k - l.length)).size = k * 5 := by
      simp only [Builtin.zeroCells, Array.size_append, Array.size_map, Array.size_range, List.size_toArray, List.length_map, List.length_range, List.length_cons, List.length_nil]
      omega
    have hcell : ∀ j, j < l.length * 5 → (World.cell? (((w.alloc (.cells #[] 31))).alloc (.cells (((List.range (l.length * 5)).map (cellC l)).toArray ++ Builtin.zeroCells #[Value.int .i64 0, Value.int .i64 0, Value.int .i64 0, Value.int .i64 0, Value.string "".toUTF8] (k - l.length)) 31)) ⟨(w.alloc (.cells #[] 31)).heap.size, j, none⟩) = some (cellC l j) := by
      intro j hj
      rw [cell_new]
      rw [Array.getElem?_append_left (by simp; omega)]
      rw [List.getElem?_toArray, List.getElem?_map, List.getElem?_range hj, Option.map_some]
    have R2 := R1.newRow (e := 31) (fr := (0, 0)) { dst := some 0, op := .move (.tmp 0), type := 0, pos := "", after := #[], guard := none } (fun t ht => by cases ht; exact (by decide : 0 < 1)) (t := rcT) (l := l) (cells := ((List.range (l.length * 5)).map (cellC l)).toArray ++ Builtin.zeroCells #[Value.int .i64 0, Value.int .i64 0, Value.int .i64 0, Value.int .i64 0, Value.string "".toUTF8] (k - l.length)) (c := k)
        (fun i hi => by
          obtain ⟨h1, h2, ⟨h3, h4, -⟩, ⟨s, h5, h6, h7⟩, -⟩ := hr i hi
          have h6 : sby s = (l[i]).2.2.2.1 := h6
          have ce : ∀ q, q < 5 → cellC l (i * 5 + q) = (encC l[i])[q]! := by
            intro q hq
            unfold cellC
            rw [show (i * 5 + q) / 5 = i by omega, show (i * 5 + q) % 5 = q by omega, getD_ix hi]
          have c0 := hcell (i * 5 + 0) (by omega)
          have c1 := hcell (i * 5 + 1) (by omega)
          have c2 := hcell (i * 5 + 2) (by omega)
          have c3 := hcell (i * 5 + 3) (by omega)
          have c4 := hcell (i * 5 + 4) (by omega)
          rw [ce 0 (by omega)] at c0
          rw [ce 1 (by omega)] at c1
          rw [ce 2 (by omega)] at c2
          rw [ce 3 (by omega)] at c3
          rw [ce 4 (by omega)] at c4
          refine ⟨⟨?_, h1.2⟩, ⟨?_, h2.2⟩, ⟨⟨?_, h3.2⟩, ⟨?_, h4.2⟩, trivial⟩, ⟨bs (l[i]).2.2.2.1, ?_, ?_, h7⟩, trivial⟩
          · rw [show 0 + i * rcT.nc = i * 5 + 0 from by show 0 + i * 5 = _; omega]; exact c0
          · rw [show 0 + i * rcT.nc + (Ty.int IntKind.i64).nc = i * 5 + 1 from by show 0 + i * 5 + 1 = _; omega]; exact c1
          · rw [show 0 + i * rcT.nc + (Ty.int IntKind.i64).nc + (Ty.int IntKind.i64).nc = i * 5 + 2 from by show 0 + i * 5 + 1 + 1 = _; omega]; exact c2
          · rw [show 0 + i * rcT.nc + (Ty.int IntKind.i64).nc + (Ty.int IntKind.i64).nc + (Ty.int IntKind.i64).nc = i * 5 + 3 from by show 0 + i * 5 + 1 + 1 + 1 = _; omega]; exact c3
          · show World.cell? _ ⟨_, 0 + i * 5 + 1 + 1 + 2, none⟩ = _
            rw [show 0 + i * 5 + 1 + 1 + 2 = i * 5 + 4 by omega]; exact c4
          · rw [← h6, bs_sby])
        hk (by rw [hcs]; exact Nat.le_refl _) (fun o ho => by simp only; omega) (by show l.length * 48 ≤ 140737488355328; exact hb) (by decide)
    have R3 := R2.drew (w' := ((w.alloc (.cells #[] 31)).alloc (.cells (((List.range (l.length * 5)).map (cellC l)).toArray ++ Builtin.zeroCells #[Value.int .i64 0, Value.int .i64 0, Value.int .i64 0, Value.int .i64 0, Value.string "".toUTF8] (k - l.length)) 31)).drew) rfl rfl rfl rfl
    rw [hsz] at R3
    have g1 : ∀ id, get ((0, D.sl 2 rcT l) :: (0, D.sl 2 rcT ([] : List rcT.den)) :: entrySt c12 ((), l, ())) (2 * id + 1) = .undef := by
      intro id
      show get [(0, _), (0, _), (0, D.sl 0 rcT l)] (2 * id + 1) = .undef
      have e0 : Nat.beq (2 * id + 1) 0 = false := nbeq_g (by omega)
      simp only [get, e0, cond_false]
    exact hK #[.slice (some ⟨w.heap.size + 1, 0, none⟩) l.length k] _ G pt (R3.keep0 g1)
theorem ok12 : FunOk Tryd.prog B 12 c12 := ⟨by decide, fun _ => sem12, fun x h => (by cases h), Tryd.f12, Tryd.func12, by kernel_rfl, by kernel_rfl⟩
end Go.Abs.C29

namespace Go.Abs.C29
open Go Go.Proofs Go.Shelf
def sortRc_ren : Go.Shelf.Ren := ⟨fun | 6 => 13 | 15 => 22 | 14 => 21 | 28 => 46 | 29 => 47 | 20 => 38 | 21 => 39 | 22 => 40 | 23 => 41 | 24 => 42 | 25 => 43 | 26 => 44 | 27 => 45 | 46 => 58 | 47 => 59 | 48 => 60 | 49 => 61 | 50 => 62 | 57 => 66 | n => n, fun | 22 => 23 | 24 => 31 | 25 => 59 | 3 => 3 | 39 => 69 | 0 => 0 | 53 => 94 | 55 => 47 | 4 => 4 | 46 => 88 | 45 => 87 | 50 => 81 | 5 => 5 | 9 => 9 | 66 => 104 | 70 => 108 | 76 => 112 | 77 => 113 | n => n, fun | n => n⟩
theorem sortRc : Go.Proofs.SlLaysF0.n6 Tryd.prog sortRc_ren := {
  mixed := by kernel_rfl
  f6 := ⟨Tryd.f13.name, by decide, Tryd.func13.trans (congrArg some (by kernel_rfl))⟩
  f14 := ⟨Tryd.f21.name, by decide, Tryd.func21.trans (congrArg some (by kernel_rfl))⟩
  f15 := Tryd.func22.trans (congrArg some (by kernel_rfl))
  f20 := ⟨Tryd.f38.name, by decide, Tryd.func38.trans (congrArg some (by kernel_rfl))⟩
  f21 := ⟨Tryd.f39.name, by decide, Tryd.func39.trans (congrArg some (by kernel_rfl))⟩
  f22 := ⟨Tryd.f40.name, by decide, Tryd.func40.trans (congrArg some (by kernel_rfl))⟩
  f23 := ⟨Tryd.f41.name, by decide, Tryd.func41.trans (congrArg some (by kernel_rfl))⟩
  f24 := ⟨Tryd.f42.name, by decide, Tryd.func42.trans (congrArg some (by kernel_rfl))⟩
  f25 := ⟨Tryd.f43.name, by decide, Tryd.func43.trans (congrArg some (by kernel_rfl))⟩
  f26 := ⟨Tryd.f44.name, by decide, Tryd.func44.trans (congrArg some (by kernel_rfl))⟩
  f27 := ⟨Tryd.f45.name, by decide, Tryd.func45.trans (congrArg some (by kernel_rfl))⟩
  f28 := Tryd.func46.trans (congrArg some (by kernel_rfl))
  f29 := Tryd.func47.trans (congrArg some (by kernel_rfl))
  f46 := ⟨Tryd.f58.name, by decide, Tryd.func58.trans (congrArg some (by kernel_rfl))⟩
  f47 := Tryd.func59.trans (congrArg some (by kernel_rfl))
  f48 := Tryd.func60.trans (congrArg some (by kernel_rfl))
  f49 := ⟨Tryd.f61.name, by decide, Tryd.func61.trans (congrArg some (by kernel_rfl))⟩
  f50 := ⟨Tryd.f62.name, by decide, Tryd.func62.trans (congrArg some (by kernel_rfl))⟩
  f57 := ⟨Tryd.f66.name, by decide, Tryd.func66.trans (congrArg some (by kernel_rfl))⟩
  t0 := Tryd.underlying0
  a0 := Tryd.isAgg0
  z0 := Tryd.sizeOf0
  v0 := Tryd.zeroValue0
  t3 := Tryd.underlying3
  a3 := Tryd.isAgg3
  z3 := Tryd.sizeOf3
  v3 := Tryd.zeroValue3
  t4 := Tryd.underlying4
  a4 := Tryd.isAgg4
  z4 := Tryd.sizeOf4
  v4 := Tryd.zeroValue4
  t5 := Tryd.underlying5
  a5 := Tryd.isAgg5
  z5 := Tryd.sizeOf5
  v5 := Tryd.zeroValue5
  t9 := Tryd.underlying9
  a9 := Tryd.isAgg9
  z9 := Tryd.sizeOf9
  v9 := Tryd.zeroValue9
  t22 := Tryd.underlying23
  a22 := Tryd.isAgg23
  z22 := Tryd.sizeOf23
  v22 := Tryd.zeroValue23
  t25 := Tryd.underlying59
  a25 := Tryd.isAgg59
  z25 := Tryd.sizeOf59
  v25 := Tryd.zeroValue59
  t39 := Tryd.underlying69
  a39 := Tryd.isAgg69
  z39 := Tryd.sizeOf69
  v39 := Tryd.zeroValue69
  t45 := Tryd.underlying87
  a45 := Tryd.isAgg87
  z45 := Tryd.sizeOf87
  v45 := Tryd.zeroValue87
  t46 := Tryd.underlying88
  a46 := Tryd.isAgg88
  z46 := Tryd.sizeOf88
  v46 := Tryd.zeroValue88
  t50 := Tryd.underlying81
  a50 := Tryd.isAgg81
  z50 := Tryd.sizeOf81
  v50 := Tryd.zeroValue81
  t53 := Tryd.underlying94
  a53 := Tryd.isAgg94
  z53 := Tryd.sizeOf94
  v53 := Tryd.zeroValue94
  t55 := Tryd.underlying47
  a55 := Tryd.isAgg47
  z55 := Tryd.sizeOf47
  v55 := Tryd.zeroValue47
  t66 := Tryd.underlying104
  a66 := Tryd.isAgg104
  z66 := Tryd.sizeOf104
  v66 := Tryd.zeroValue104
  t70 := Tryd.underlying108
  a70 := Tryd.isAgg108
  z70 := Tryd.sizeOf108
  v70 := Tryd.zeroValue108
  t76 := Tryd.underlying112
  a76 := Tryd.isAgg112
  z76 := Tryd.sizeOf112
  v76 := Tryd.zeroValue112
  t77 := Tryd.underlying113
  a77 := Tryd.isAgg113
  z77 := Tryd.sizeOf113
  v77 := Tryd.zeroValue113 }
open Go.Sort Go.RowKit
theorem ltR_of : ltOf (fun x y : Sp29.Rc => Sp29.cmpR (nrm x) (nrm y)) = ltR := by
  funext x y
  rfl
theorem swoC : SWO (ltOf (fun x y : Sp29.Rc => Sp29.cmpR (nrm x) (nrm y))) := by
  rw [ltR_of]
  exact swoR
theorem eg14 : ∀ args w, (callFunc 14 args).run Tryd.prog w = .ok (.enter 14 args) w := enters_of Tryd.func14 (by kernel_rfl) rfl
theorem flat_get (d : Array Sp29.Rc) (j : Nat) (hj : j < d.size) (q : Nat) (hq : q < 5) : (flatK encR 5 d)[j * 5 + q]! = (encR d[j]!)[q]! := by
  rw [get_flatK encR 5 d (j * 5 + q) (by omega), show (j * 5 + q) / 5 = j by omega, show (j * 5 + q) % 5 = q by omega]
theorem holdsR {w : World} {G : Nat → Nat} {l : List Sp29.Rc} {b : Nat} (hr : RepE w G rcX l b 0) (hm : Room w b (l.length * 5)) : HoldsK encR 5 w b 0 l.toArray := by
  intro j hj
  rw [size_flatK] at hj
  have hj : j < l.length * 5 := by simpa using hj
  refine ⟨?_, (hm.some (j := 0 + j) (by omega)).2⟩
  have hi : j / 5 < l.length := by omega
  obtain ⟨h1, h2, ⟨h3, h4, -⟩, ⟨s, h5, h6, h7⟩, -⟩ := hr (j / 5) hi
  have h6 : sby s = (l[j / 5]).2.2.2.1 := h6
  have f := flat_get l.toArray (j / 5) (by simpa using hi) (j % 5) (by omega)
  have hd : l.toArray[j / 5]! = l[j / 5] := by
    rw [getElem!_pos l.toArray (j / 5) (by simpa using hi)]
    simp
  rw [hd, show j / 5 * 5 + j % 5 = j by omega] at f
  rw [f]
  unfold encR
  rcases (by omega : j % 5 = 0 ∨ j % 5 = 1 ∨ j % 5 = 2 ∨ j % 5 = 3 ∨ j % 5 = 4) with h | h | h | h | h
  · rw [h, show 0 + j = 0 + j / 5 * 5 by omega]; exact h1.1
  · rw [h, show 0 + j = 0 + j / 5 * 5 + 1 by omega]; exact h2.1
  · rw [h, show 0 + j = 0 + j / 5 * 5 + 1 + 1 by omega]; exact h3.1
  · rw [h, show 0 + j = 0 + j / 5 * 5 + 1 + 1 + 1 by omega]; exact h4.1
  · rw [h, show 0 + j = 0 + j / 5 * 5 + 1 + 1 + 1 + 1 by omega, ← h6, bs_sby]; exact h5
theorem put_set {w : World} {b : Nat} {d d' : Array (Sp29.Rc)} (h : HoldsK encR 5 w b 0 d) (hs : d'.size = d.size) : putRowK encR 5 w b 0 d' = w.setCells b 0 (flatK encR 5 d').toList := by
  have e0 : putRow id w b 0 (flatK encR 5 d) = w := putRow_self id w b 0 _ h
  have e1 := setCells_putRow w b 0 (flatK encR 5 d').toList 0 (flatK encR 5 d) (by simp [hs])
  rw [e0] at e1
  rw [Nat.add_zero] at e1
  rw [e1]
  unfold putRowK
  congr 1
  refine ext_get! (by simp [hs]) fun t ht => ?_
  have ht2 : t < (flatK encR 5 d).size := by rw [size_flatK] at ht ⊢; omega
  rw [get_setMany _ _ _ _ ht2, if_pos ⟨Nat.zero_le _, by simpa using ht⟩, Nat.sub_zero]
  rw [getElem!_pos _ t ht, getElem!_pos _ t (by simpa using ht)]
  simp
theorem x13_args {dst st : Nat} {l : List (D × D)} {g : Bool} {u : St} (h : xf13 dst st l = some (g, u)) : ∃ X s2 r, l = [(.rsl X s2, .arrv s2 true false rcX r), (.fnc 14, (l.getD 1 (.undef, .undef)).2)] ∧ g = true ∧
    u = [(2 * X + 1, .arrv s2 true false rcX (sortR r)), (2 * dst, .undef)] := by
  unfold xf13 at h
  split at h
  · rename_i X sx s2 r z
    cases hb : Nat.beq sx s2 with
    | false => rw [hb] at h; cases h
    | true =>
      rw [hb] at h
      have := Nat.eq_of_beq_eq_true hb
      subst this
      simp only [cond_true, Option.some.injEq, Prod.mk.injEq] at h
      exact ⟨X, sx, r, rfl, h.1.symm, h.2.symm⟩
  · cases h
theorem list2 {α β : Type} {f : α → β} {l : List α} {a b : β} (h : l.map f = [a, b]) : ∃ x y, l = [x, y] ∧ f x = a ∧ f y = b := by
  match l, h with
  | [x, y], h => simp at h; exact ⟨x, y, rfl, h⟩
  | [], h => simp at h
  | [_], h => simp at h
  | _ :: _ :: _ :: _, h => simp at h
end Go.Abs.C29

namespace Go.Abs.C29
open Go Go.Proofs Go.Sort Go.RowKit Go.Shelf
set_option maxRecDepth 100000

theorem f13_cells {w : World} {G : Nat → Nat} {l : List (Sp29.Rc)} {b c : Nat} (hr : RepE w G rcX l b 0) (hm : Room w b (l.length * 5)) (hb : b < w.heap.size) (hsz : l.length < 4611686018427387904) :
    Calls Tryd.prog 13 #[.slice (some ⟨b, 0, none⟩) l.length c, .func (.func 14) #[] #[]] w fun e w' => e = .returned (.tuple #[]) ∧ ∃ n os, w' = grow (Go.Sort.ahead (w.setCells b 0 (flatK encR 5 (sortR l).toArray).toList) n) os := by
  have hH := holdsR hr hm
  have h := AnyQ.slices_SortFunc_eq (P := Tryd.prog) (ρ := sortRc_ren) sortRc 5 Tryd.isAgg31 Tryd.sizeOf31 encR (fun _ => rfl) (fun x v hv => by simp [encR] at hv; rcases hv with rfl | rfl | rfl | rfl | rfl <;> rfl) (fun x y : Sp29.Rc => Sp29.cmpR (nrm x) (nrm y)) swoC 14 #[] b 0 c l.toArray w eg14
    (fun m os dk hs x y => f14_calls x y _) hH hb (by simpa using hsz)
  have h : Calls Tryd.prog 13 #[.slice (some ⟨b, 0, none⟩) l.toArray.size c, .func (.func 14) #[] #[]] w _ := h
  rw [show l.toArray.size = l.length from by simp] at h
  refine h.mono ?_
  rintro e w' ⟨rfl, n, os, rfl⟩
  refine ⟨rfl, n, os, ?_⟩
  unfold sortWorldK
  rw [ltR_of]
  have hs : (sortR l).toArray = Sort.pdq ltR l.toArray 0 l.length (Go.Lib.bitLen l.length) true true := by
    unfold sortR
    simp
  rw [← hs]
  congr 1
  show putRow id (Go.Sort.ahead w n) b 0 (flatK encR 5 (sortR l).toArray) = _
  rw [putRow_ahead]
  congr 1
  refine put_set hH ?_
  rw [hs]
  obtain ⟨⟨k1, -, -⟩, -⟩ := Go.Sort.pdq_sorts ltR swoR l.toArray 0 l.length (Go.Lib.bitLen l.length) true true (Nat.zero_le _) (by simp) (.inl rfl)
  exact k1
theorem grow_rel {E : Env} {C : Ctx} {s : St} {a : Act} {w : World} {G : Nat → Nat} {pt : Nat → Nat → Option Value} (R : Rel E C s a w G pt) (os : Array Obj) (o : Oper) (t : Nat) (hdst : o.dst = some t) (ht : t < E.n) (v : Value) :
    Rel E C ((2 * t, .undef) :: s) (a.put o.dst v) (grow w os) G pt := by
  have h := R.put o (fun u hu => by rw [hdst] at hu; cases hu; exact ht) (w' := grow w os) (G' := G) (d' := .undef) (v' := v) (fun _ => False)
    ⟨fun b j hj => by
      have hb : b < w.heap.size := by
        rcases Nat.lt_or_ge b w.heap.size with h | h
        · exact h
        · rw [R.gz b h] at hj; exact absurd hj (by omega)
      unfold World.cell? grow
      simp only
      rw [Array.getElem?_append_left hb], fun _ => Nat.le_refl _⟩
    (fun b _ hb => ⟨by show (w.heap ++ os)[b]? = _; rw [Array.getElem?_append_left hb], rfl⟩) (fun b h => h.elim) trivial (fun b => by
      rw [ctV_undef]
      exact ⟨Nat.zero_le _, fun h => absurd h (by omega)⟩) (fun b hb => R.gz b (by
        have : (grow w os).heap.size = w.heap.size + os.size := by show (w.heap ++ os).size = _; rw [Array.size_append]
        omega)) rfl rfl rfl (by show w.heap.size ≤ (w.heap ++ os).size; rw [Array.size_append]; omega)
  rw [dstU_some hdst] at h
  exact h
end Go.Abs.C29

namespace Go.Abs.C29
open Go Go.Proofs Go.Sort Go.RowKit Go.Shelf
set_option maxRecDepth 100000
theorem f13_none {w : World} : Calls Tryd.prog 13 #[.slice none 0 0, .func (.func 14) #[] #[]] w fun e w' => e = .returned (.tuple #[]) ∧ w' = w :=
  AnyF.slices_SortFunc_none (P := Tryd.prog) (ρ := sortRc_ren) sortRc none 0 (.func (.func 14) #[] #[]) w
theorem x13_ok : XSem Tryd.prog 13 xf13 := by
  intro E C o cl s a w G pt t u hm ht hdst hop hcl R hx
  obtain ⟨X, s2, r, hl, -, hu⟩ := x13_args hx
  subst hu
  obtain ⟨x0, x1, hargs, e0, e1⟩ := list2 hl
  have p0 : opd s x0 = .rsl X s2 := congrArg Prod.fst e0
  have q0 : inBox s (opd s x0) = .arrv s2 true false rcX r := congrArg Prod.snd e0
  have p1 : opd s x1 = .fnc 14 := congrArg Prod.fst e1
  rw [p0] at q0
  have q0 : get s (2 * X + 1) = .arrv s2 true false rcX r := q0
  have r0 := opd_rep R x0; rw [p0] at r0
  have r1 := opd_rep R x1; rw [p1] at r1
  have r0 : pt X s2 = some (a.eval x0) := r0
  have r1 : a.eval x1 = .func (.func 14) #[] #[] := r1
  have hB := R.bx X
  rw [q0] at hB
  have hB := hB rfl
  simp only [Bool.false_eq_true, if_false] at hB
  obtain ⟨ad, n, c, h1, hn, hbd, hsl⟩ := hB
  have hv : a.eval x0 = .slice ad n c := by rw [r0] at h1; exact Option.some.inj h1
  intro K Q hK
  have hrun : (execOp a.eval o).run Tryd.prog w = .ok (.enter 13 (cl.args.map a.eval)) w := by
    have e : execOp a.eval o = callFunc 13 (#[] ++ cl.args.map a.eval ++ #[]) := by
      simp only [execOp, hop, resolve, hcl]
      rfl
    rw [e]
    simp only [callFunc]
    have h2 : ¬ Tryd.f13.name = "runtime.NumGoroutine" := by decide
    have h3b : Tryd.f13.body.isNone = false := by kernel_rfl
    have h3 : ¬ Tryd.f13.body = none := fun h => by rw [h] at h3b; cases h3b
    simp [go_sem, Tryd.func13, h2, h3]
  unfold Oper.wp
  rw [hrun, Oper.upon_enter]
  have ha : cl.args.map a.eval = #[.slice ad n c, .func (.func 14) #[] #[]] := by
    apply Array.ext'
    rw [Array.toList_map, hargs]
    simp only [List.map_cons, List.map_nil, hv, r1]
  rw [ha]
  have hts : ∀ {w' : World} (R' : Rel E C ((2 * X + 1, .arrv s2 true false rcX (sortR r)) :: s) a w' G pt) (n : Nat) (os : Array Obj),
      Rel E C (applyU [(2 * X + 1, .arrv s2 true false rcX (sortR r)), (2 * t, .undef)] s) (a.put o.dst (.tuple #[])) (grow (Go.Sort.ahead w' n) os) G pt := by
    intro w' R' n os
    exact grow_rel (R'.world (w' := Go.Sort.ahead w' n) rfl rfl rfl rfl) os o t hdst ht _
  rcases hsl with ⟨h5, h6, h7⟩ | ⟨b, h5, h6, h7, h8, h9, h10⟩
  · subst h5 h7
    have h6 : r = [] := h6
    subst h6
    have hn : n = 0 := hn
    subst hn
    refine (f13_none).mono ?_
    rintro e w' ⟨rfl, rfl⟩
    have e0 : sortR [] = [] := (sortR_perm []).eq_nil
    have R1 : Rel E C ((2 * X + 1, .arrv s2 true false rcX (sortR [])) :: s) a w' G pt := by
      rw [e0]
      refine R.congr fun k => ?_
      rw [get_cons]
      split
      · rename_i hk; rw [hk, q0]
      · rfl
    have R2 := hts R1 0 #[]
    rw [show grow (Go.Sort.ahead w' 0) #[] = w' from by rw [grow_empty]; rfl] at R2
    exact hK _ _ _ _ R2
  · subst h5
    have hn : n = r.length := hn
    subst hn
    have hbd : r.length * 48 ≤ 140737488355328 := hbd
    have hroom : Room w b (r.length * 5) := by
      obtain ⟨cur, e, fr, k1, k2, k3⟩ := h7
      exact ⟨cur, e, fr, k1, Nat.le_trans (Nat.mul_le_mul_right _ h8) k2, k3⟩
    have hblk : blkOf (pt X s2) = some b := by rw [h1]; rfl
    have hbs : b < w.heap.size := by
      obtain ⟨cur, e, fr, k1, -, -⟩ := h7
      rcases Nat.lt_or_ge b w.heap.size with h | h
      · exact h
      · rw [Array.getElem?_eq_none h] at k1; cases k1
    refine (f13_cells h9 hroom hbs (by omega)).mono ?_
    rintro e w' ⟨rfl, q, os, rfl⟩
    have hlen : (sortR r).length = r.length := (sortR_perm r).length_eq
    have hvs : (flatK encR 5 (sortR r).toArray).toList.length = r.length * 5 := by simp [hlen]
    have R1 := R.storeArr (t := rcX) (l := r) (off := 0) (vs := (flatK encR 5 (sortR r).toArray).toList) (l' := sortR r) q0 hblk hlen (by
      intro i hi
      have hi : i < (sortR r).length := hi
      have hd : (sortR r).toArray[i]! = (sortR r)[i] := by
        rw [getElem!_pos (sortR r).toArray i (by simpa using hi)]
        simp
      have hsz : (flatK encR 5 (sortR r).toArray).size = r.length * 5 := by simp [hlen]
      have hmem : (sortR r)[i] ∈ r := (sortR_perm r).subset (List.getElem_mem _)
      obtain ⟨k, hk, hke⟩ := List.getElem_of_mem hmem
      obtain ⟨g1, g2, ⟨g3, g4, -⟩, ⟨s, g5, g6, g7⟩, -⟩ := h9 k hk
      have g6 : sby s = (r[k]).2.2.2.1 := g6
      have hcell : ∀ j, j < r.length * 5 → (w.setCells b 0 (flatK encR 5 (sortR r).toArray).toList).cell? ⟨b, 0 + j, none⟩ = some (flatK encR 5 (sortR r).toArray)[j]! := by
        intro j hj
        rw [set_in hroom _ (by omega) (j := j) (by rw [hvs]; exact hj)]
        rw [getElem!_pos _ j (by rw [hsz]; exact hj)]
        simp
      have cc : ∀ q, q < 5 → (w.setCells b 0 (flatK encR 5 (sortR r).toArray).toList).cell? ⟨b, 0 + (i * 5 + q), none⟩ = some ((encR (sortR r)[i])[q]!) := by
        intro q hq
        have hlt : i < (sortR r).length := hi
        rw [hcell (i * 5 + q) (by omega), flat_get (sortR r).toArray i (by simpa using hi) q hq, hd]
      have c0 := cc 0 (by omega)
      have c1 := cc 1 (by omega)
      have c2 := cc 2 (by omega)
      have c3 := cc 3 (by omega)
      have c4 := cc 4 (by omega)
      refine ⟨⟨?_, ?_⟩, ⟨?_, ?_⟩, ⟨⟨?_, ?_⟩, ⟨?_, ?_⟩, trivial⟩, ⟨bs ((sortR r)[i]).2.2.2.1, ?_, ?_, ?_⟩, trivial⟩
      · show World.cell? _ ⟨b, 0 + i * 5, none⟩ = _
        rw [show 0 + i * 5 = 0 + (i * 5 + 0) by omega]; exact c0
      · have := g1.2; rw [hke] at this; exact this
      · show World.cell? _ ⟨b, 0 + i * 5 + 1, none⟩ = _
        rw [show 0 + i * 5 + 1 = 0 + (i * 5 + 1) by omega]; exact c1
      · have := g2.2; rw [hke] at this; exact this
      · show World.cell? _ ⟨b, 0 + i * 5 + 1 + 1, none⟩ = _
        rw [show 0 + i * 5 + 1 + 1 = 0 + (i * 5 + 2) by omega]; exact c2
      · have := g3.2; rw [hke] at this; exact this
      · show World.cell? _ ⟨b, 0 + i * 5 + 1 + 1 + 1, none⟩ = _
        rw [show 0 + i * 5 + 1 + 1 + 1 = 0 + (i * 5 + 3) by omega]; exact c3
      · have := g4.2; rw [hke] at this; exact this
      · show World.cell? _ ⟨b, 0 + i * 5 + 1 + 1 + 2, none⟩ = _
        rw [show 0 + i * 5 + 1 + 1 + 2 = 0 + (i * 5 + 4) by omega]; exact c4
      · rw [← hke, ← g6, bs_sby]
      · rw [← hke]; exact g7)
    exact hK _ _ _ _ (hts R1 q os)
end Go.Abs.C29

namespace Go.Abs.C29
open Go Go.Proofs Sp29
set_option maxRecDepth 100000
theorem Loop_0 {τ ε : Type} {step : τ → Option (Sum τ ε)} {s : τ} {e : ε} (h : step s = some (.inr e)) : Loop step s = some e := by rw [Loop_step, h]
theorem Loop_1 {τ ε : Type} {step : τ → Option (Sum τ ε)} {s t : τ} {e : ε} (h1 : step s = some (.inl t)) (h : Loop step t = some e) : Loop step s = some e := by rw [Loop_step, h1]; exact h
theorem isF_eq {x} (h : isF x = true) : x = f0 := of_decide_eq_true h
set_option synthInstance.maxSize 100000 in
set_option synthInstance.maxHeartbeats 200000 in
set_option maxSynthPendingDepth 100 in
theorem isM_eq {x} (h : isM x = true) : x = m0 := of_decide_eq_true h
theorem isE_eq {x} (h : isE x = true) : x = e0 := of_decide_eq_true h
theorem isX_eq {x} (h : isX x = true) : x = (3, 2, ()) := of_decide_eq_true h
theorem isP_eq {x} (h : isP x = true) : x = p0 := of_decide_eq_true h
theorem none_eq {α : Type} {x : List α} (h : none_ x = true) : x = [] := List.isEmpty_iff.1 h
theorem isK_eq {x} (h : isK x = true) : x = Sp29.pk 1 ∨ x = Sp29.pk 7 := by
  unfold isK at h
  rcases Bool.or_eq_true _ _ |>.mp h with h | h
  · exact .inl (of_eqK h)
  · exact .inr (of_eqK h)
theorem isD_eq {x} (h : isD x = true) : x = Sp29.dl 1 ∨ x = Sp29.dl 7 := by
  unfold isD at h
  obtain ⟨a, p⟩ := x
  rw [Bool.and_eq_true, decide_eq_true_eq] at h
  obtain ⟨rfl, h⟩ := h
  rcases isK_eq h with h | h
  · exact .inl (by rw [show p = Sp29.pk 1 from h])
  · exact .inr (by rw [show p = Sp29.pk 7 from h])
theorem g27_ok (a0 : Int) (a1 : (List Int)) (r0 : IntKind.i64.has a0) (r1 : (Ty.sl (.int .i64)).ok a1) (h : (Sp29.isF (a0, a1, ())) = true) : g27 a0 a1 = some (0, ()) := by
  cases isF_eq h
  have l0 : Loop (g27_s0 ([] : List Int)) ((0 : Int), ()) = some (false, ((0, ()), ())) := Loop_0 (by kernel_rfl)
  have l1 : Loop (g27_s1 ([] : List Int)) ((1 : Int), ()) = some (false, ((0, ()), ())) := Loop_0 (by kernel_rfl)
  unfold g27
  rw [l0, l1]
  rfl
theorem g28_ok (a0 : Int) (a1 : (List Int)) (r0 : IntKind.i64.has a0) (r1 : (Ty.sl (.int .i64)).ok a1) (h : (Sp29.isF (a0, a1, ())) = true) : g28 a0 a1 = some (false, ()) := by
  cases isF_eq h
  rfl
abbrev mm : Int × Int × (Int × List Int × Unit) × Int × Unit := (7, 4, (2, [], ()), 9, ())
theorem g15_ok (a0 : Int) (a1 : (List (Int × (Int × ((Int × ((List Int) × Unit)) × (Int × Unit)))))) (r0 : IntKind.i64.has a0) (r1 : (Ty.sl (mbT)).ok a1) (h : (Sp29.isM (a0, a1, ())) = true) : g15 a0 a1 = some (0, ()) := by
  cases isM_eq h
  have l0 : Loop (g15_s0 0 [mm]) ((0 : Int), ()) = some (false, ((0, ()), ())) := Loop_1 (t := (1, ())) (by kernel_rfl) (Loop_0 (by kernel_rfl))
  have l1 : Loop (g15_s1 [mm]) ((0 : Int), ()) = some (false, ((0, ()), ())) := Loop_1 (t := (1, ())) (by kernel_rfl) (Loop_0 (by kernel_rfl))
  have l2 : Loop (g15_s2 [mm]) ((0 : Int), ()) = some (false, ((0, ()), ())) := Loop_1 (t := (1, ())) (by kernel_rfl) (Loop_0 (by kernel_rfl))
  have l3 : Loop (g15_s3 [mm]) () = some () := Loop_0 (by kernel_rfl)
  unfold g15
  rw [l0, l1, l2, l3]
  rfl
theorem g63_ok (a0 : (List (Int × (Int × Unit)))) (a1 : Int) (a2 : Int) (r0 : (Ty.sl (edT)).ok a0) (r1 : IntKind.i64.has a1) (r2 : IntKind.i64.has a2) (h : (Sp29.none_ a0) = true) : g63 a0 a1 a2 = some (-1, ()) := by
  cases none_eq h
  have l0 : Loop (g63_s0 ([] : List (Int × Int × Unit)) a1 a2) ((0 : Int), ()) = some (false, ((0, ()), ())) := Loop_0 rfl
  unfold g63
  rw [l0]
  rfl
theorem g52_ok (a0 : (List (Int × (Int × Unit)))) (a1 : Int) (a2 : Int) (r0 : (Ty.sl (edT)).ok a0) (r1 : IntKind.i64.has a1) (r2 : IntKind.i64.has a2) (h : (Sp29.none_ a0) = true) : g52 a0 a1 a2 = some (false, ()) := by
  unfold g52
  rw [on_true h]
  rfl
theorem g30_ok (a0 : Int) (a1 : Int) (a2 : (List (Int × (Int × Unit)))) (r0 : IntKind.i64.has a0) (r1 : IntKind.i64.has a1) (r2 : (Ty.sl (edT)).ok a2) (h : (Sp29.isP (a0, a1, a2, ())) = true) : g30 a0 a1 a2 = some (true, ()) := by
  cases isP_eq h
  have l0 : Loop (g30_s0 e0) ((0 : Int), ()) = some (false, ((false, ()), ())) := Loop_1 (t := (1, ())) (by kernel_rfl) (Loop_0 (by kernel_rfl))
  unfold g30
  rw [l0]
  rfl
theorem g64_ok (a0 : Int) (r0 : IntKind.i64.has a0) (h : (decide (a0 = 8)) = true) : g64 a0 = some (255, ()) := by
  cases (of_decide_eq_true h : a0 = 8)
  kernel_rfl
theorem g55_ok (a0 : Int) (a1 : Int) (r0 : IntKind.u64.has a0) (r1 : IntKind.i64.has a1) (h : (decide (a0 = 2) && decide (a1 = 8)) = true) : g55 a0 a1 = some (true, ()) := by
  simp only [Bool.and_eq_true, decide_eq_true_eq] at h
  obtain ⟨rfl, rfl⟩ := h
  kernel_rfl
theorem g31_ok (a0 : Int) (a1 : Int) (a2 : Int) (a3 : Int) (a4 : Int) (a5 : Int) (a6 : Int) (a7 : Int) (a8 : Int) (a9 : (List Int)) (r0 : IntKind.i64.has a0) (r1 : IntKind.i64.has a1) (r2 : IntKind.i64.has a2) (r3 : IntKind.i64.has a3) (r4 : IntKind.i64.has a4) (r5 : IntKind.i64.has a5) (r6 : IntKind.i64.has a6) (r7 : IntKind.i64.has a7) (r8 : IntKind.u64.has a8) (r9 : Ty.str.ok a9) (h : (Sp29.isK (a0, a1, a2, a3, a4, a5, a6, a7, a8, a9, ())) = true) : g31 a0 a1 a2 a3 a4 a5 a6 a7 a8 a9 = some (true, ()) := by
  rcases isK_eq h with e | e <;> cases e <;> kernel_rfl
theorem g32_ok (a0 : Int) (r0 : IntKind.u64.has a0) (h : (decide (a0 = 2)) = true) : g32 a0 = some (1, ()) := by
  cases (of_decide_eq_true h : a0 = 2)
  kernel_rfl
theorem g34_ok (a0 : Int) (r0 : IntKind.u64.has a0) (h : (decide (a0 = 2)) = true) : g34 a0 = some (1, ()) := by
  cases (of_decide_eq_true h : a0 = 2)
  kernel_rfl
theorem g33_ok (a0 : Int) (a1 : Int) (a2 : Int) (r0 : IntKind.i64.has a0) (r1 : IntKind.i64.has a1) (r2 : IntKind.i64.has a2) (h : (decide (a0 = 0) && decide (a1 = 1) && decide (a2 = 8)) = true) : g33 a0 a1 a2 = some ((2, true, ()), ()) := by
  simp only [Bool.and_eq_true, decide_eq_true_eq] at h
  obtain ⟨⟨rfl, rfl⟩, rfl⟩ := h
  kernel_rfl
theorem g56_ok (a0 : (List (Int × (Int × Unit)))) (a1 : Int) (a2 : Int) (r0 : (Ty.sl (edT)).ok a0) (r1 : IntKind.i64.has a1) (r2 : IntKind.i64.has a2) (h : (Sp29.isE a0 && Sp29.isX (a1, a2, ())) = true) : g56 a0 a1 a2 = some (0, ()) := by
  rw [Bool.and_eq_true] at h
  cases isE_eq h.1
  cases isX_eq h.2
  have l0 : Loop (g56_s0 e0 3 2) ((0 : Int), ()) = some (true, ((0, ()), ())) := Loop_0 (by kernel_rfl)
  unfold g56
  rw [l0]
  rfl
theorem g35_ok (a0 : (List (Int × (Int × Unit)))) (a1 : Int) (a2 : Int) (r0 : (Ty.sl (edT)).ok a0) (r1 : IntKind.i64.has a1) (r2 : IntKind.i64.has a2) (h : (Sp29.isE a0 && Sp29.isX (a1, a2, ())) = true) : g35 a0 a1 a2 = some (true, ()) := by
  unfold g35
  rw [on_true h]
  rfl
theorem g16_ok (a0 : Int) (a1 : Int) (a2 : (List (Int × (Int × Unit)))) (a3 : Int) (a4 : Int) (a5 : Int) (a6 : Int) (a7 : Int) (a8 : Int) (a9 : Int) (a10 : Int) (a11 : Int) (a12 : Int) (a13 : (List Int)) (r0 : IntKind.i64.has a0) (r1 : IntKind.i64.has a1) (r2 : (Ty.sl (edT)).ok a2) (r3 : IntKind.i64.has a3) (r4 : IntKind.i64.has a4) (r5 : IntKind.i64.has a5) (r6 : IntKind.i64.has a6) (r7 : IntKind.i64.has a7) (r8 : IntKind.i64.has a8) (r9 : IntKind.i64.has a9) (r10 : IntKind.i64.has a10) (r11 : IntKind.i64.has a11) (r12 : IntKind.u64.has a12) (r13 : Ty.str.ok a13) (h : (Sp29.isP (a0, a1, a2, ()) && Sp29.isD (a3, a4, a5, a6, a7, a8, a9, a10, a11, a12, a13, ())) = true) : g16 a0 a1 a2 a3 a4 a5 a6 a7 a8 a9 a10 a11 a12 a13 = some (true, ()) := by
  rw [Bool.and_eq_true] at h
  cases isP_eq h.1
  rcases isD_eq h.2 with e | e <;> cases e <;> kernel_rfl
theorem g36_ok (a0 : Int) (a1 : Int) (r0 : IntKind.i64.has a0) (r1 : IntKind.i64.has a1) : g36 a0 a1 = some (Sp29.inside a0 1 99 && Sp29.inside a1 1 99, ()) := by
  unfold g36 Sp29.inside
  simp only [GE.ge]
  cases decide (1 ≤ a0) <;> cases decide (a0 ≤ 99) <;> cases decide (1 ≤ a1) <;> rfl
theorem g17_ok (a0 : (List Int)) (r0 : Ty.str.ok a0) (h : (decide (a0 = [1, 4, 120]) || decide (a0 = [7, 4, 120])) = true) : g17 a0 = some (((a0.getD 0 0, 4, ()), [120], 0, ()), ()) := by
  simp only [Bool.or_eq_true, decide_eq_true_eq] at h
  rcases h with rfl | rfl <;> kernel_rfl
theorem g68_ok (a0 : (List Int)) (a1 : Int) (r0 : (Ty.sl (.int .i64)).ok a0) (r1 : IntKind.i64.has a1) (h : (Sp29.none_ a0) = true) : g68 a0 a1 = some (-1, ()) := by
  cases none_eq h
  have l0 : Loop (g68_s0 ([] : List Int) a1) ((0 : Int), ()) = some (false, ((0, ()), ())) := Loop_0 rfl
  unfold g68
  rw [l0]
  rfl
theorem g67_ok (a0 : (List Int)) (a1 : Int) (r0 : (Ty.sl (.int .i64)).ok a0) (r1 : IntKind.i64.has a1) (h : (Sp29.none_ a0) = true) : g67 a0 a1 = some (false, ()) := by
  unfold g67
  rw [on_true h]
  rfl
theorem g65_ok (a0 : Int) (a1 : (List Int)) (a2 : Int) (r0 : IntKind.i64.has a0) (r1 : (Ty.sl (.int .i64)).ok a1) (r2 : IntKind.i64.has a2) (h : (Sp29.isF (a0, a1, ())) = true) : g65 a0 a1 a2 = some (true, ()) := by
  cases isF_eq h
  rfl
theorem g57_ok (a0 : Int) (a1 : (List Int)) (a2 : Int) (r0 : IntKind.i64.has a0) (r1 : (Ty.sl (.int .i64)).ok a1) (r2 : IntKind.i64.has a2) (h : (Sp29.isF (a0, a1, ()) && decide (0 < a2)) = true) : g57 a0 a1 a2 = some (true, ()) := by
  rw [Bool.and_eq_true] at h
  cases isF_eq h.1
  unfold g57
  rw [show decide (a2 > 0) = true from h.2]
  rfl
theorem g37_ok (a0 : Int) (a1 : (List (Int × (Int × ((Int × ((List Int) × Unit)) × (Int × Unit)))))) (a2 : Int) (a3 : Int) (r0 : IntKind.i64.has a0) (r1 : (Ty.sl (mbT)).ok a1) (r2 : IntKind.i64.has a2) (r3 : IntKind.i64.has a3) (h : (Sp29.isM (a0, a1, ()) && decide (a3 = 4) && decide (0 < a2)) = true) : g37 a0 a1 a2 a3 = some (bif decide (a2 = 7) then [] else [7], ()) := by
  simp only [Bool.and_eq_true, decide_eq_true_eq] at h
  obtain ⟨⟨h1, rfl⟩, h2⟩ := h
  cases isM_eq h1
  by_cases h7 : a2 = 7
  · subst h7
    have l0 : Loop (g37_s0 [mm] 7 4) ([], ((0 : Int), ())) = some ([], ()) := Loop_1 (t := ([], (1, ()))) (by kernel_rfl) (Loop_0 (by kernel_rfl))
    unfold g37
    rw [l0]
    rfl
  · have l0 : Loop (g37_s0 [mm] a2 4) ([], ((0 : Int), ())) = some ([7], ()) := by
      refine Loop_1 (t := ([7], (1, ()))) ?_ (Loop_0 rfl)
      unfold g37_s0
      have h7' : ¬ (7 : Int) = a2 := fun h => h7 h.symm
      simp [h7', Sp29.isF, on_true, h2, Sp29.on]
      first | done | rfl
    unfold g37
    rw [l0, dF h7]
    rfl
theorem g18_ok (a0 : Int) (a1 : (List (Int × (Int × ((Int × ((List Int) × Unit)) × (Int × Unit)))))) (a2 : Int) (a3 : Int) (a4 : Int) (a5 : (List Int)) (r0 : IntKind.i64.has a0) (r1 : (Ty.sl (mbT)).ok a1) (r2 : IntKind.i64.has a2) (r3 : IntKind.i64.has a3) (r4 : IntKind.i64.has a4) (r5 : Ty.str.ok a5) (h : (Sp29.isM (a0, a1, ()) && decide (a4 = 4) && decide (0 < a3)) = true) : g18 a0 a1 a2 a3 a4 a5 = some (bif decide (a3 = 7) then [] else [(7, a2, (a3, 4, ()), a5, ())], ()) := by
  have hh := h
  simp only [Bool.and_eq_true, decide_eq_true_eq] at h
  obtain ⟨⟨h1, rfl⟩, h2⟩ := h
  cases isM_eq h1
  unfold g18
  rw [on_true hh]
  by_cases h7 : a3 = 7
  · subst h7
    have l0 : Loop (g18_s0 a2 7 4 a5 ([], ())) ((0 : Int), ([], ())) = some ([], ()) := Loop_0 rfl
    show Option.bind (Loop (g18_s0 a2 7 4 a5 ([], ())) ((0 : Int), ([], ()))) _ = _
    rw [l0]
    rfl
  · rw [dF h7]
    have l0 : Loop (g18_s0 a2 a3 4 a5 ([7], ())) ((0 : Int), ([], ())) = some ([(7, a2, (a3, 4, ()), a5, ())], ()) := Loop_1 (t := (1, ([(7, a2, (a3, 4, ()), a5, ())], ()))) (by rfl) (Loop_0 rfl)
    show Option.bind (Loop (g18_s0 a2 a3 4 a5 ([7], ())) ((0 : Int), ([], ()))) _ = _
    rw [l0]
    rfl
theorem g10_ok (a0 : Int) (a1 : Int) (a2 : (List (Int × (Int × Unit)))) (a3 : Int) (a4 : (List (Int × (Int × ((Int × ((List Int) × Unit)) × (Int × Unit)))))) (a5 : Int) (a6 : Int) (a7 : Int) (a8 : Int) (a9 : Int) (a10 : Int) (a11 : Int) (a12 : Int) (a13 : Int) (a14 : Int) (a15 : (List Int)) (r0 : IntKind.i64.has a0) (r1 : IntKind.i64.has a1) (r2 : (Ty.sl (edT)).ok a2) (r3 : IntKind.i64.has a3) (r4 : (Ty.sl (mbT)).ok a4) (r5 : IntKind.i64.has a5) (r6 : IntKind.i64.has a6) (r7 : IntKind.i64.has a7) (r8 : IntKind.i64.has a8) (r9 : IntKind.i64.has a9) (r10 : IntKind.i64.has a10) (r11 : IntKind.i64.has a11) (r12 : IntKind.i64.has a12) (r13 : IntKind.i64.has a13) (r14 : IntKind.u64.has a14) (r15 : Ty.str.ok a15) (h : (Sp29.isP (a0, a1, a2, ()) && Sp29.isM (a3, a4, ()) && Sp29.isD (a5, a6, a7, a8, a9, a10, a11, a12, a13, a14, a15, ())) = true) : g10 a0 a1 a2 a3 a4 a5 a6 a7 a8 a9 a10 a11 a12 a13 a14 a15 = some ((bif Sp29.eqK (a6, a7, a8, a9, a10, a11, a12, a13, a14, a15, ()) (Sp29.pk 7) then [] else [(7, 3, (1, 4, ()), [120], ())], 0, ()), ()) := by
  simp only [Bool.and_eq_true] at h
  obtain ⟨⟨h1, h2⟩, h3⟩ := h
  cases isP_eq h1
  cases isM_eq h2
  rcases isD_eq h3 with e | e <;> cases e <;> kernel_rfl
theorem g4_ok   : g4  = some (true, ()) := by
  kernel_rfl
end Go.Abs.C29

namespace Go.Abs.C29
open Go Go.Abs Sp29
theorem sortR_pw (l : List Rc) : (sortR l).Pairwise (fun x y => ltR y x = false) := by
  rw [List.pairwise_iff_getElem]
  intro i j hi hj hij
  have := sortR_sorted l i j hij hj
  rw [getD_ix hi, getD_ix hj] at this
  exact this
theorem sortR_len (l : List Rc) : (sortR l).length = l.length := (sortR_perm l).length_eq
theorem uniq : ∀ (s t : List Rc), (∀ x ∈ s, Fine x) → s.Perm t → s.Pairwise (fun x y => ltR y x = false) → t.Pairwise (fun x y => ltR y x = false) → s = t
  | [], t, _, hp, _, _ => (List.nil_perm.1 hp).symm
  | a :: s, [], _, hp, _, _ => absurd hp.length_eq (by simp)
  | a :: s, b :: t, hf, hp, hs, ht => by
    have e : a = b := by
      rcases List.mem_cons.1 (hp.subset (List.mem_cons_self (a := a) (l := s))) with h | h
      · exact h
      · rcases List.mem_cons.1 (hp.symm.subset (List.mem_cons_self (a := b) (l := t))) with h' | h'
        · exact h'.symm
        · exact ltR_tri (hf a List.mem_cons_self) (hf b (List.mem_cons_of_mem _ h')) ((List.pairwise_cons.1 ht).1 a h) ((List.pairwise_cons.1 hs).1 b h')
    subst e
    rw [uniq s t (fun x hx => hf x (List.mem_cons_of_mem _ hx)) (List.Perm.cons_inv hp) (List.pairwise_cons.1 hs).2 (List.pairwise_cons.1 ht).2]
theorem asym {x y : Rc} (h : ltR x y = true) : ltR y x = false := by
  cases hb : ltR y x with
  | false => rfl
  | true =>
    have := swoR.trans _ _ _ h hb
    rw [swoR.irrefl] at this
    cases this
theorem uniqS : ∀ (s t : List Rc), (∀ x, x ∈ s ↔ x ∈ t) → s.Pairwise (fun x y => ltR x y = true) → t.Pairwise (fun x y => ltR x y = true) → s = t
  | [], [], _, _, _ => rfl
  | [], b :: t, h, _, _ => absurd ((h b).2 List.mem_cons_self) (by simp)
  | a :: s, [], h, _, _ => absurd ((h a).1 List.mem_cons_self) (by simp)
  | a :: s, b :: t, h, hs, ht => by
    have hs' := List.pairwise_cons.1 hs
    have ht' := List.pairwise_cons.1 ht
    have irr : ∀ x : Rc, ltR x x = true → False := fun x hx => by rw [swoR.irrefl] at hx; cases hx
    have e : a = b := by
      rcases List.mem_cons.1 ((h a).1 List.mem_cons_self) with h1 | h1
      · exact h1
      · rcases List.mem_cons.1 ((h b).2 List.mem_cons_self) with h2 | h2
        · exact h2.symm
        · exact absurd (swoR.trans _ _ _ (ht'.1 a h1) (hs'.1 b h2)) (fun hx => irr _ hx)
    subst e
    rw [uniqS s t (fun x => ⟨fun hx => ?_, fun hx => ?_⟩) hs'.2 ht'.2]
    · rcases List.mem_cons.1 ((h x).1 (List.mem_cons_of_mem _ hx)) with h1 | h1
      · exact absurd (hs'.1 x hx) (fun hh => by rw [h1] at hh; exact irr _ hh)
      · exact h1
    · rcases List.mem_cons.1 ((h x).2 (List.mem_cons_of_mem _ hx)) with h1 | h1
      · exact absurd (ht'.1 x hx) (fun hh => by rw [h1] at hh; exact irr _ hh)
      · exact h1
def isNew (s : List Rc) (i : Nat) : Bool := decide (i = 0) || !decide (s.getD (i - 1) zR = s.getD i zR)
theorem dis_eq (s : List Rc) : dis s = ((List.range s.length).filter (isNew s)).map fun i => s.getD i zR := rfl
theorem dis_mem (s : List Rc) (x : Rc) : x ∈ dis s ↔ x ∈ s := by
  rw [dis_eq]
  constructor
  · intro h
    obtain ⟨i, hi, rfl⟩ := List.mem_map.1 h
    have hi := List.mem_range.1 (List.mem_filter.1 hi).1
    rw [getD_ix hi]
    exact List.getElem_mem _
  · intro h
    obtain ⟨i, hi, rfl⟩ := List.getElem_of_mem h
    have key : ∀ i, (hi : i < s.length) → ∃ j, j < s.length ∧ isNew s j = true ∧ s.getD j zR = s[i] := by
      intro i
      induction i with
      | zero => intro hi; exact ⟨0, hi, rfl, getD_ix hi⟩
      | succ i ih =>
        intro hi
        by_cases e : s.getD i zR = s.getD (i + 1) zR
        · obtain ⟨j, h1, h2, h3⟩ := ih (by omega)
          refine ⟨j, h1, h2, ?_⟩
          rw [h3, ← getD_ix (d := zR) hi, ← e, getD_ix]
        · refine ⟨i + 1, hi, ?_, getD_ix hi⟩
          unfold isNew
          rw [Nat.add_sub_cancel, dF e]
          exact Bool.or_true _
    obtain ⟨j, h1, h2, h3⟩ := key i hi
    exact List.mem_map.2 ⟨j, List.mem_filter.2 ⟨List.mem_range.2 h1, h2⟩, h3⟩
theorem dis_strict (s : List Rc) (hf : ∀ x ∈ s, Fine x) (hs : s.Pairwise (fun x y => ltR y x = false)) : (dis s).Pairwise (fun x y => ltR x y = true) := by
  rw [dis_eq, List.pairwise_map]
  refine List.Pairwise.imp_of_mem ?_ (List.Pairwise.filter (isNew s) (List.pairwise_lt_range (n := s.length)))
  intro i j hi hj hij
  have hj' := List.mem_filter.1 hj
  have hjl := List.mem_range.1 hj'.1
  have hn := hj'.2
  unfold isNew at hn
  rw [dF (show ¬ j = 0 by omega), Bool.false_or, Bool.not_eq_true', decide_eq_false_iff_not] at hn
  have le : ∀ p q, p ≤ q → (hq : q < s.length) → ltR (s.getD q zR) (s.getD p zR) = false := by
    intro p q hpq hq
    rcases Nat.lt_or_ge p q with h | h
    · rw [getD_ix hq, getD_ix (by omega : p < s.length)]
      exact List.pairwise_iff_getElem.1 hs p q (by omega) hq h
    · have : p = q := by omega
      subst this
      exact swoR.irrefl _
  have m : ∀ q, q < s.length → Fine (s.getD q zR) := fun q hq => by rw [getD_ix hq]; exact hf _ (List.getElem_mem _)
  have h1 := le (j - 1) j (by omega) hjl
  have h2 := le i (j - 1) (by omega) (by omega)
  cases h3 : ltR (s.getD i zR) (s.getD j zR) with
  | true => rfl
  | false =>
    have h4 := swoR.ntrans _ _ _ h2 h3
    exact absurd (ltR_tri (m _ (by omega)) (m _ hjl) h4 h1) hn
theorem cnt (s : List Rc) : (Sp29.rep s).length + (dis s).length = s.length := by
  rw [dis_eq]
  unfold Sp29.rep
  rw [List.length_map, List.length_map, ← List.countP_eq_length_filter, ← List.countP_eq_length_filter]
  cases hn : s.length with
  | zero => rfl
  | succ n =>
    rw [List.range_succ_eq_map, List.countP_cons, List.countP_map]
    have e1 : isNew s 0 = true := rfl
    rw [if_pos e1, Nat.add_sub_cancel]
    have e2 : List.countP (isNew s ∘ Nat.succ) (List.range n) = List.countP (fun i => !decide (s.getD (i + 1) zR = s.getD i zR)) (List.range n) := by
      refine List.countP_congr fun i _ => ?_
      show isNew s (i + 1) = true ↔ _
      unfold isNew
      rw [dF (show ¬ i + 1 = 0 by omega), Nat.add_sub_cancel, Bool.false_or]
      by_cases h : s.getD i zR = s.getD (i + 1) zR
      · rw [dT h, dT h.symm]
      · rw [dF h, dF (fun h' => h h'.symm)]
    rw [e2]
    have h := List.length_eq_countP_add_countP (fun i => decide (s.getD (i + 1) zR = s.getD i zR)) (l := List.range n)
    rw [List.length_range] at h
    have e3 : List.countP (fun a => decide ¬(decide (s.getD (a + 1) zR = s.getD a zR)) = true) (List.range n) = List.countP (fun i => !decide (s.getD (i + 1) zR = s.getD i zR)) (List.range n) := by
      refine List.countP_congr fun i _ => ?_
      simp
    omega
theorem rep_strict (s : List Rc) (hs : s.Pairwise (fun x y => ltR x y = true)) : Sp29.rep s = [] := by
  unfold Sp29.rep
  rw [List.map_eq_nil_iff, List.filter_eq_nil_iff]
  intro i hi h
  have hi := List.mem_range.1 hi
  have h := of_decide_eq_true h
  have hl := List.pairwise_iff_getElem.1 hs i (i + 1) (by omega) (by omega) (by omega)
  rw [getD_ix (by omega : i + 1 < s.length), getD_ix (by omega : i < s.length)] at h
  rw [h, swoR.irrefl] at hl
  cases hl
theorem sort_strict (s : List Rc) (hf : ∀ x ∈ s, Fine x) (hs : s.Pairwise (fun x y => ltR x y = true)) : sortR s = s :=
  uniq _ _ (fun x hx => hf x ((sortR_perm s).subset hx)) (sortR_perm s) (sortR_pw s) (hs.imp fun h => asym h)
theorem law (l m : List Rc) (hf : ∀ x ∈ l, Fine x) (hp : m.Perm l) :
    sortR l = sortR m ∧ Sp29.rep (sortR (dis (sortR l))) = [] ∧ (Sp29.rep (sortR (l ++ m))).length + (dis (sortR l)).length = 2 * l.length ∧ (dis (sortR l)).length ≤ l.length := by
  have fS : ∀ x ∈ sortR l, Fine x := fun x hx => hf x ((sortR_perm l).subset hx)
  have fU : ∀ x ∈ sortR (l ++ m), Fine x := fun x hx => by
    rcases List.mem_append.1 ((sortR_perm (l ++ m)).subset hx) with h | h
    · exact hf x h
    · exact hf x (hp.subset h)
  have dS := dis_strict _ fS (sortR_pw l)
  have dU := dis_strict _ fU (sortR_pw (l ++ m))
  have e : dis (sortR (l ++ m)) = dis (sortR l) := by
    refine uniqS _ _ (fun x => ?_) dU dS
    rw [dis_mem, dis_mem, (sortR_perm _).mem_iff, (sortR_perm _).mem_iff, List.mem_append, hp.mem_iff, or_self]
  have c := cnt (sortR (l ++ m))
  have c' := cnt (sortR l)
  rw [e, sortR_len, List.length_append, hp.length_eq] at c
  rw [sortR_len] at c'
  refine ⟨uniq _ _ fS ((sortR_perm l).trans (hp.symm.trans (sortR_perm m).symm)) (sortR_pw l) (sortR_pw m), ?_, by omega, by omega⟩
  rw [sort_strict _ (fun x hx => fS x ((dis_mem _ x).1 hx)) dS]
  exact rep_strict _ dS
end Go.Abs.C29

namespace Go.Abs.C29
open Go Go.Proofs Sp29
set_option maxRecDepth 100000
theorem eqR (x y : Rc) : (decide (x.1 = y.1) && (decide (x.2.1 = y.2.1) && (decide (x.2.2.1.1 = y.2.2.1.1) && (decide (x.2.2.1.2.1 = y.2.2.1.2.1) && ((List.beq x.2.2.2.1 y.2.2.2.1) && true))))) = decide (x = y) := by
  obtain ⟨a, b, ⟨c, d, ⟨⟩⟩, e, ⟨⟩⟩ := x
  obtain ⟨a', b', ⟨c', d', ⟨⟩⟩, e', ⟨⟩⟩ := y
  show (decide (a = a') && (decide (b = b') && (decide (c = c') && (decide (d = d') && ((e == e') && true))))) = _
  by_cases h : a = a' ∧ b = b' ∧ c = c' ∧ d = d' ∧ e = e'
  · obtain ⟨rfl, rfl, rfl, rfl, rfl⟩ := h
    simp
  · rw [dF (show ¬ ((a, b, (c, d, ()), e, ()) : Rc) = (a', b', (c', d', ()), e', ()) from fun hh => h (by cases hh; exact ⟨rfl, rfl, rfl, rfl, rfl⟩))]
    rw [Bool.eq_false_iff]
    intro hh
    simp only [Bool.and_eq_true, decide_eq_true_eq, beq_iff_eq, and_true] at hh
    exact h hh
theorem same_any (a b : List Rc) (h : a.length = b.length) : (!(List.range a.length).any fun i => !decide (a.getD i zR = b.getD i zR)) = sameR a b := by
  unfold sameR
  by_cases e : a = b
  · subst e
    rw [dT rfl, Bool.not_eq_true', List.any_eq_false]
    intro i _
    simp
  · rw [dF e, Bool.not_eq_false', List.any_eq_true]
    refine Classical.byContradiction fun hn => e (List.ext_getElem h fun i h1 h2 => ?_)
    refine Classical.byContradiction fun hx => hn ⟨i, List.mem_range.2 h1, ?_⟩
    rw [getD_ix h1, getD_ix h2, dF hx]
    rfl
theorem g8_ok (a0 : (List (Int × (Int × ((Int × (Int × Unit)) × ((List Int) × Unit)))))) (a1 : (List (Int × (Int × ((Int × (Int × Unit)) × ((List Int) × Unit)))))) (r0 : (Ty.sl (rcT)).ok a0) (r1 : (Ty.sl (rcT)).ok a1) : g8 a0 a1 = some (Sp29.sameR a0 a1, ()) := by
  have hl0 := len_r r0
  have hl1 := len_r r1
  unfold g8
  simp only [Int.ofNat_eq_natCast]
  by_cases h : a0.length = a1.length
  · rw [dT (show (a0.length : Int) = (a1.length : Int) by omega)]
    have hL : Loop (g8_s0 a0 a1) ((0 : Int), ()) = some (bif (List.range a0.length).any (fun i => !decide (a0.getD i zR = a1.getD i zR)) then (true, ((false, ()), ())) else (false, ((false, ()), ()))) := by
      refine scanN _ a0.length _ _ _ (fun i hi => ?_) ?_
      · unfold g8_s0
        simp only [Int.ofNat_eq_natCast, Int.toNat_natCast]
        rw [dT (show (i : Int) < (a0.length : Int) by omega), dT (show (0 : Int) ≤ (i : Int) by omega), dT (show (i : Int) < (a1.length : Int) by omega), wi64n (by omega), eqR]
        cases decide (a0.getD i zR = a1.getD i zR) <;> rfl
      · unfold g8_s0
        simp only [Int.ofNat_eq_natCast]
        rw [dF (show ¬ (a0.length : Int) < (a0.length : Int) by omega)]
        rfl
    rw [hL, ← same_any a0 a1 h]
    cases (List.range a0.length).any (fun i => !decide (a0.getD i zR = a1.getD i zR)) <;> rfl
  · rw [dF (show ¬ (a0.length : Int) = (a1.length : Int) by omega)]
    unfold sameR
    rw [dF (fun e => h (by rw [e]))]
    rfl
def repP (s : List Rc) (k : Nat) : List Rc := ((List.range k).filter fun i => decide (s.getD (i + 1) zR = s.getD i zR)).map fun i => s.getD (i + 1) zR
theorem repP_succ (s : List Rc) (k : Nat) : repP s (k + 1) = bif decide (s.getD (k + 1) zR = s.getD k zR) then repP s k ++ [s.getD (k + 1) zR] else repP s k := by
  unfold repP
  rw [List.range_succ, List.filter_append, List.map_append]
  by_cases h : s.getD (k + 1) zR = s.getD k zR
  · rw [dT h, List.filter_cons_of_pos (by simpa using h)]
    rfl
  · rw [dF h, List.filter_cons_of_neg (by simpa using h), List.filter_nil, List.map_nil, List.append_nil]
    rfl
theorem repP_len (s : List Rc) (k : Nat) : (repP s k).length ≤ k := by
  unfold repP
  rw [List.length_map]
  exact Nat.le_trans (List.length_filter_le _ _) (by rw [List.length_range]; exact Nat.le_refl _)
theorem g9_ok (a0 : (List (Int × (Int × ((Int × (Int × Unit)) × ((List Int) × Unit)))))) (r0 : (Ty.sl (rcT)).ok a0) : g9 a0 = some (Sp29.rep (Go.Abs.C29.sortR a0), ()) := by
  have hl0 := len_r r0
  have hs : (sortR a0).length = a0.length := sortR_len a0
  have hL : Loop (g9_s0 a0) ((1 : Int), (([] : List Rc), ())) = some (repP (sortR a0) (a0.length - 1), ()) := by
    refine Loop_seq (step := g9_s0 a0) (fun k => (((k + 1 : Nat) : Int), (repP (sortR a0) k, ()))) (a0.length - 1) _ (fun k hk => ?_) ?_ 0 (Nat.zero_le _)
    · rw [repP_succ]
      unfold g9_s0
      have hr := repP_len (sortR a0) k
      generalize sortR a0 = s at *
      generalize repP s k = out at hr ⊢
      have e1 : IntKind.wrap .i64 (((k + 1 : Nat) : Int) - 1) = (k : Int) := by rw [wi64p (by omega) (by omega)]; omega
      simp only [e1, Int.ofNat_eq_natCast, Int.toNat_natCast, hs]
      rw [dT (show ((k + 1 : Nat) : Int) < (a0.length : Int) by omega), dT (show (0 : Int) ≤ ((k + 1 : Nat) : Int) by omega), dT (show (k : Int) < (a0.length : Int) by omega), dT (show (0 : Int) ≤ (k : Int) by omega), wi64n (by omega), eqR]
      by_cases h : s.getD (k + 1) zR = s.getD k zR
      · rw [dT h, ble_t (show (out.length + 1) * 48 ≤ 140737488355328 by omega)]
        rfl
      · rw [dF h]
        rfl
    · unfold g9_s0
      generalize sortR a0 = s at *
      simp only [Int.ofNat_eq_natCast, hs]
      rw [dF (show ¬ ((a0.length - 1 + 1 : Nat) : Int) < (a0.length : Int) by omega)]
      rfl
  unfold g9
  rw [hL]
  show some (repP (sortR a0) (a0.length - 1), ()) = _
  rw [← hs]
  rfl
def disP (s : List Rc) (k : Nat) : List Rc := ((List.range k).filter (isNew s)).map fun i => s.getD i zR
theorem disP_succ (s : List Rc) (k : Nat) : disP s (k + 1) = bif isNew s k then disP s k ++ [s.getD k zR] else disP s k := by
  unfold disP
  rw [List.range_succ, List.filter_append, List.map_append]
  cases h : isNew s k with
  | true => rw [List.filter_cons_of_pos h]; rfl
  | false => rw [List.filter_cons_of_neg (by rw [h]; decide), List.filter_nil, List.map_nil, List.append_nil]; rfl
theorem disP_len (s : List Rc) (k : Nat) : (disP s k).length ≤ k := by
  unfold disP
  rw [List.length_map]
  exact Nat.le_trans (List.length_filter_le _ _) (by rw [List.length_range]; exact Nat.le_refl _)
theorem mix_perm (l : List Rc) (o : List Int) (h : o.Perm ((List.range l.length).map fun (i : Nat) => (i : Int))) : (o.map fun x => l.getD x.toNat zR).Perm l := by
  refine (h.map _).trans ?_
  rw [List.map_map]
  refine List.Perm.of_eq (List.ext_getElem (by simp) fun i h1 h2 => ?_)
  rw [List.getElem_map, List.getElem_range]
  exact getD_ix h2
theorem order_in (l : List Rc) (o : List Int) (h : o.Perm ((List.range l.length).map fun (i : Nat) => (i : Int))) (k : Nat) (hk : k < o.length) : 0 ≤ o.getD k 0 ∧ o.getD k 0 < (l.length : Int) := by
  rw [getD_ix hk]
  obtain ⟨i, hi, e⟩ := List.mem_map.1 (h.subset (List.getElem_mem hk))
  have := List.mem_range.1 hi
  rw [← e]
  omega
theorem g3_ok (a0 : (List Int)) (a1 : (List (Int × (Int × ((Int × (Int × Unit)) × ((List Int) × Unit)))))) (r0 : (Ty.sl (.int .i64)).ok a0) (r1 : (Ty.sl (rcT)).ok a1) : g3 a0 a1 = some (true, ()) := by
  unfold g3
  simp only [Int.ofNat_eq_natCast]
  by_cases hn : (a1.length : Int) > 40
  · rw [dT hn]
    rfl
  · rw [dF hn]
    have hw := tape_wf a0
    obtain ⟨w1, ol, op⟩ := order_wf hw a1.length
    rw [on_true (by rw [hw, inside_iff.2 ⟨by omega, by omega⟩]; rfl), Int.toNat_natCast, order]
    simp only [cond_false, Option.bind_some]
    generalize orderN (Sp29.tape a0) a1.length = o at w1 ol op ⊢
    have hin := order_in a1 o.1 op
    have hL : Loop (g3_s0 a1 o) ((0 : Int), (([] : List Rc), (o.1, ()))) = some (o.1.map (fun x => a1.getD x.toNat zR), ()) := by
      refine (Loop_seq (step := g3_s0 a1 o) (fun k => ((k : Int), ((o.1.take k).map (fun x => a1.getD x.toNat zR), (o.1, ())))) o.1.length (o.1.map (fun x => a1.getD x.toNat zR), ()) (fun k hk => ?_) ?_ 0 (Nat.zero_le _))
      · obtain ⟨b0, b1⟩ := hin k hk
        rw [List.take_succ_eq_append_getElem hk, List.map_append, List.map_singleton, ← getD_ix (d := (0 : Int)) hk]
        unfold g3_s0
        simp only [Int.ofNat_eq_natCast, Int.toNat_natCast]
        rw [dT (show (k : Int) < (o.1.length : Int) by omega), dT (show (0 : Int) ≤ (k : Int) by omega), (show Nat.blt k o.1.length = true by rw [Nat.blt_eq]; exact hk), dT b0, dT b1, wi64n (by omega), ble_t (show ((List.map (fun x => a1.getD x.toNat zR) (o.1.take k)).length + 1) * 48 ≤ 140737488355328 by rw [List.length_map, List.length_take]; omega)]
        rfl
      · unfold g3_s0
        simp only [Int.ofNat_eq_natCast]
        rw [dF (show ¬ (o.1.length : Int) < (o.1.length : Int) by omega), List.take_length]
        rfl
    rw [hL]
    simp only [Option.bind_some]
    have hp := mix_perm a1 o.1 op
    generalize o.1.map (fun x => a1.getD x.toNat zR) = m at hp ⊢
    have hf : ∀ x ∈ a1, Fine x := fun x hx => (r1.2 x hx).2.2.2.1.2
    obtain ⟨q1, q2, q3, q4⟩ := law a1 m hf hp
    rw [← q1]
    have hsame : sameR (sortR a1) (sortR a1) = true := by unfold sameR; exact dT rfl
    have hlen := sortR_len a1
    have hm := hp.length_eq
    have hL1 : Loop (g3_s1 a1) (([] : List Rc), ((0 : Int), ())) = some (dis (sortR a1), ()) := by
      have hd : dis (sortR a1) = disP (sortR a1) a1.length := by rw [← hlen]; rfl
      rw [hd]
      refine (Loop_seq (step := g3_s1 a1) (fun k => (disP (sortR a1) k, ((k : Int), ()))) a1.length (disP (sortR a1) a1.length, ()) (fun k hk => ?_) ?_ 0 (Nat.zero_le _))
      · rw [disP_succ]
        unfold g3_s1 isNew
        have hr := disP_len (sortR a1) k
        generalize sortR a1 = s at *
        generalize disP s k = out at hr ⊢
        simp only [Int.ofNat_eq_natCast, Int.toNat_natCast, hlen]
        rw [dT (show (k : Int) < (a1.length : Int) by omega), dT (show (0 : Int) ≤ (k : Int) by omega), wi64n (by omega), ble_t (show (out.length + 1) * 48 ≤ 140737488355328 by omega)]
        by_cases h0 : k = 0
        · subst h0
          rfl
        · have e1 : IntKind.wrap .i64 ((k : Int) - 1) = ((k - 1 : Nat) : Int) := wi64p (by omega) (by omega)
          simp only [e1, Int.toNat_natCast]
          rw [dF (show ¬ (k : Int) = 0 by omega), dF h0, dT (show (0 : Int) ≤ ((k - 1 : Nat) : Int) by omega), dT (show ((k - 1 : Nat) : Int) < (a1.length : Int) by omega), eqR]
          cases decide (s.getD (k - 1) zR = s.getD k zR) <;> rfl
      · unfold g3_s1
        generalize sortR a1 = s at *
        simp only [Int.ofNat_eq_natCast, hlen]
        rw [dF (show ¬ (a1.length : Int) < (a1.length : Int) by omega)]
        rfl
    rw [hsame, hlen, dT (rfl : (a1.length : Int) = (a1.length : Int))]
    rw [ble_t (show (0 + a1.length) * 48 ≤ 140737488355328 by omega), List.nil_append, ble_t (show (a1.length + m.length) * 48 ≤ 140737488355328 by omega), hL1]
    simp only [Option.bind_some]
    rw [q2]
    have e2 : IntKind.wrap .i64 (2 * (a1.length : Int)) = 2 * (a1.length : Int) := wi64 (by omega) (by omega)
    have e3 : IntKind.wrap .i64 (2 * (a1.length : Int) - ((dis (sortR a1)).length : Int)) = ((Sp29.rep (sortR (a1 ++ m))).length : Int) := by
      rw [wi64 (by omega) (by omega)]
      omega
    rw [dT (show ((Sp29.rep (sortR (a1 ++ m))).length : Int) = IntKind.wrap .i64 (IntKind.wrap .i64 (2 * (a1.length : Int)) - ((dis (sortR a1)).length : Int)) by rw [e2, e3])]
    rfl
end Go.Abs.C29

namespace Go.Abs.C29
open Go Go.Proofs
theorem ok19 : FunOk Tryd.prog B 19 c19 := glue L0 gam_nil plan19 Tryd.func19 (by kernel_rfl) (by
  rintro ⟨⟨⟩, a0, a1, ⟨⟩⟩ y r h
  exact (g19_eq a0 a1).trans ((g19_ok a0 a1 r.2.1 r.2.2.1).trans h))
theorem all19 : ∀ g con, lookC L19 g = some con → FunOk Tryd.prog B (g % 1000000) con := gam_cons rfl ok19 gam_nil

theorem ok20 : FunOk Tryd.prog B 20 c20 := glue L19 all19 plan20 Tryd.func20 (by kernel_rfl) (by
  rintro ⟨⟨a0, a1, ⟨⟩⟩, ⟨⟩⟩ y r h
  obtain ⟨h1, h2⟩ := Sp29.on_some h
  subst h2
  exact (g20_eq a0 a1).trans (g20_ok a0 a1 r.1.1 r.1.2.1 h1))
theorem all20 : ∀ g con, lookC L20 g = some con → FunOk Tryd.prog B (g % 1000000) con := gam_cons rfl ok20 all19

theorem ok11 : FunOk Tryd.prog B 11 c11 := glue L20 all20 plan11 Tryd.func11 (by kernel_rfl) (by
  rintro ⟨⟨a0, a1, ⟨⟩⟩, a2, ⟨⟩⟩ y r h
  obtain ⟨h1, h2⟩ := Sp29.on_some h
  subst h2
  exact (g11_eq a0 a1 a2).trans (g11_ok a0 a1 a2 r.1.1 r.1.2.1 r.2.1 h1))
theorem all11 : ∀ g con, lookC L11 g = some con → FunOk Tryd.prog B (g % 1000000) con := gam_cons rfl ok11 all20

theorem ok5 : FunOk Tryd.prog B 5 c5 := glue L11 all11 plan5 Tryd.func5 (by kernel_rfl) (by
  rintro ⟨⟨⟩, a0, ⟨⟩⟩ y r h
  exact (g5_eq a0).trans ((g5_ok a0 r.2.1).trans h))
theorem all5 : ∀ g con, lookC L5 g = some con → FunOk Tryd.prog B (g % 1000000) con := gam_cons rfl ok5 all11

theorem ok6 : FunOk Tryd.prog B 6 c6 := glue L5 all5 plan6 Tryd.func6 (by kernel_rfl) (by
  rintro ⟨⟨a0, a1, ⟨⟩⟩, a2, ⟨⟩⟩ y r h
  obtain ⟨h1, h2⟩ := Sp29.on_some h
  subst h2
  exact (g6_eq a0 a1 a2).trans (g6_ok a0 a1 a2 r.1.1 r.1.2.1 r.2.1 h1))
theorem all6 : ∀ g con, lookC L6 g = some con → FunOk Tryd.prog B (g % 1000000) con := gam_cons rfl ok6 all5

theorem ok48 : FunOk Tryd.prog B 48 c48 := glue L6 all6 plan48 Tryd.func48 (by kernel_rfl) (by
  rintro ⟨⟨⟩, a0, ⟨⟩⟩ y r h
  exact (g48_eq a0).trans ((g48_ok a0 r.2.1).trans h))
theorem all48 : ∀ g con, lookC L48 g = some con → FunOk Tryd.prog B (g % 1000000) con := gam_cons rfl ok48 all6

theorem ok49 : FunOk Tryd.prog B 49 c49 := glue L48 all48 plan49 Tryd.func49 (by kernel_rfl) (by
  rintro ⟨⟨⟩, a0, ⟨⟩⟩ y r h
  exact (g49_eq a0).trans ((g49_ok a0 r.2.1).trans h))
theorem all49 : ∀ g con, lookC L49 g = some con → FunOk Tryd.prog B (g % 1000000) con := gam_cons rfl ok49 all48

theorem ok24 : FunOk Tryd.prog B 24 c24 := glue L49 all49 plan24 Tryd.func24 (by kernel_rfl) (by
  rintro ⟨⟨⟩, a0, a1, ⟨⟩⟩ y r h
  exact (g24_eq a0 a1).trans ((g24_ok a0 a1 r.2.1 r.2.2.1).trans h))
theorem all24 : ∀ g con, lookC L24 g = some con → FunOk Tryd.prog B (g % 1000000) con := gam_cons rfl ok24 all49

theorem ok25 : FunOk Tryd.prog B 25 c25 := glue L24 all24 plan25 Tryd.func25 (by kernel_rfl) (by
  rintro ⟨⟨⟩, a0, a1, ⟨⟩⟩ y r h
  exact (g25_eq a0 a1).trans ((g25_ok a0 a1 r.2.1 r.2.2.1).trans h))
theorem all25 : ∀ g con, lookC L25 g = some con → FunOk Tryd.prog B (g % 1000000) con := gam_cons rfl ok25 all24

theorem ok23 : FunOk Tryd.prog B 23 c23 := glue L25 all25 plan23 Tryd.func23 (by kernel_rfl) (by
  rintro ⟨⟨⟩, a0, ⟨⟩⟩ y r h
  exact (g23_eq a0).trans ((g23_ok a0 r.2.1).trans h))
theorem all23 : ∀ g con, lookC L23 g = some con → FunOk Tryd.prog B (g % 1000000) con := gam_cons rfl ok23 all25

theorem ok14 : FunOk Tryd.prog B 14 c14 := glue L23 all23 plan14 Tryd.func14 (by kernel_rfl) (by
  rintro ⟨⟨⟩, ⟨a0, a1, a2, a3, a4, ⟨⟩⟩, ⟨a5, a6, a7, a8, a9, ⟨⟩⟩, ⟨⟩⟩ y r h
  exact (g14_eq a0 a1 a2 a3 a4 a5 a6 a7 a8 a9).trans ((g14_ok a0 a1 a2 a3 a4 a5 a6 a7 a8 a9 r.2.1.1 r.2.1.2.1 r.2.1.2.2.1 r.2.1.2.2.2.1 r.2.1.2.2.2.2.1 r.2.2.1.1 r.2.2.1.2.1 r.2.2.1.2.2.1 r.2.2.1.2.2.2.1 r.2.2.1.2.2.2.2.1).trans h))
theorem all14 : ∀ g con, lookC L14 g = some con → FunOk Tryd.prog B (g % 1000000) con := gam_cons rfl ok14 all23

theorem all12 : ∀ g con, lookC L12 g = some con → FunOk Tryd.prog B (g % 1000000) con := gam_cons rfl ok12 all14

theorem ok13 : FunOk Tryd.prog B 13 c13 := ⟨rfl, fun h => (by cases h), fun x hx => (by cases hx; exact x13_ok), _, Tryd.func13, by kernel_rfl, by kernel_rfl⟩
theorem all13 : ∀ g con, lookC L13 g = some con → FunOk Tryd.prog B (g % 1000000) con := gam_cons rfl ok13 all12

theorem ok7 : FunOk Tryd.prog B 7 c7 := glue L13 all13 plan7 Tryd.func7 (by kernel_rfl) (by
  rintro ⟨⟨⟩, a0, ⟨⟩⟩ y r h
  exact (g7_eq a0).trans ((g7_ok a0 r.2.1).trans h))
theorem all7 : ∀ g con, lookC L7 g = some con → FunOk Tryd.prog B (g % 1000000) con := gam_cons rfl ok7 all13

theorem ok8 : FunOk Tryd.prog B 8 c8 := glue L7 all7 plan8 Tryd.func8 (by kernel_rfl) (by
  rintro ⟨⟨⟩, a0, a1, ⟨⟩⟩ y r h
  exact (g8_eq a0 a1).trans ((g8_ok a0 a1 r.2.1 r.2.2.1).trans h))
theorem all8 : ∀ g con, lookC L8 g = some con → FunOk Tryd.prog B (g % 1000000) con := gam_cons rfl ok8 all7

theorem ok9 : FunOk Tryd.prog B 9 c9 := glue L8 all8 plan9 Tryd.func9 (by kernel_rfl) (by
  rintro ⟨⟨⟩, a0, ⟨⟩⟩ y r h
  exact (g9_eq a0).trans ((g9_ok a0 r.2.1).trans h))
theorem all9 : ∀ g con, lookC L9 g = some con → FunOk Tryd.prog B (g % 1000000) con := gam_cons rfl ok9 all8

theorem ok26 : FunOk Tryd.prog B 26 c26 := glue L9 all9 plan26 Tryd.func26 (by kernel_rfl) (by
  rintro ⟨⟨⟩, a0, a1, a2, ⟨⟩⟩ y r h
  exact (g26_eq a0 a1 a2).trans ((g26_ok a0 a1 a2 r.2.1 r.2.2.1 r.2.2.2.1).trans h))
theorem all26 : ∀ g con, lookC L26 g = some con → FunOk Tryd.prog B (g % 1000000) con := gam_cons rfl ok26 all9

theorem ok50 : FunOk Tryd.prog B 50 c50 := glue L26 all26 plan50 Tryd.func50 (by kernel_rfl) (by
  rintro ⟨⟨⟩, a0, a1, a2, ⟨⟩⟩ y r h
  exact (g50_eq a0 a1 a2).trans ((g50_ok a0 a1 a2 r.2.1 r.2.2.1 r.2.2.2.1).trans h))
theorem all50 : ∀ g con, lookC L50 g = some con → FunOk Tryd.prog B (g % 1000000) con := gam_cons rfl ok50 all26

theorem ok51 : FunOk Tryd.prog B 51 c51 := glue L50 all50 plan51 Tryd.func51 (by kernel_rfl) (by
  rintro ⟨⟨⟩, a0, ⟨⟩⟩ y r h
  exact (g51_eq a0).trans ((g51_ok a0 r.2.1).trans h))
theorem all51 : ∀ g con, lookC L51 g = some con → FunOk Tryd.prog B (g % 1000000) con := gam_cons rfl ok51 all50

theorem ok27 : FunOk Tryd.prog B 27 c27 := glue L51 all51 plan27 Tryd.func27 (by kernel_rfl) (by
  rintro ⟨⟨⟩, ⟨a0, a1, ⟨⟩⟩, ⟨⟩⟩ y r h
  obtain ⟨h1, h2⟩ := Sp29.on_some h
  subst h2
  exact (g27_eq a0 a1).trans (g27_ok a0 a1 r.2.1.1 r.2.1.2.1 h1))
theorem all27 : ∀ g con, lookC L27 g = some con → FunOk Tryd.prog B (g % 1000000) con := gam_cons rfl ok27 all51

theorem ok28 : FunOk Tryd.prog B 28 c28 := glue L27 all27 plan28 Tryd.func28 (by kernel_rfl) (by
  rintro ⟨⟨⟩, ⟨a0, a1, ⟨⟩⟩, ⟨⟩⟩ y r h
  obtain ⟨h1, h2⟩ := Sp29.on_some h
  subst h2
  exact (g28_eq a0 a1).trans (g28_ok a0 a1 r.2.1.1 r.2.1.2.1 h1))
theorem all28 : ∀ g con, lookC L28 g = some con → FunOk Tryd.prog B (g % 1000000) con := gam_cons rfl ok28 all27

theorem ok15 : FunOk Tryd.prog B 15 c15 := glue L28 all28 plan15 Tryd.func15 (by kernel_rfl) (by
  rintro ⟨⟨⟩, ⟨a0, a1, ⟨⟩⟩, ⟨⟩⟩ y r h
  obtain ⟨h1, h2⟩ := Sp29.on_some h
  subst h2
  exact (g15_eq a0 a1).trans (g15_ok a0 a1 r.2.1.1 r.2.1.2.1 h1))
theorem all15 : ∀ g con, lookC L15 g = some con → FunOk Tryd.prog B (g % 1000000) con := gam_cons rfl ok15 all28

theorem ok53 : FunOk Tryd.prog B 53 c53 := glue L15 all15 plan53 Tryd.func53 (by kernel_rfl) (by
  rintro ⟨⟨⟩, ⟨a0, a1, ⟨⟩⟩, ⟨a2, a3, ⟨⟩⟩, ⟨⟩⟩ y r h
  exact (g53_eq a0 a1 a2 a3).trans ((g53_ok a0 a1 a2 a3 r.2.1.1 r.2.1.2.1 r.2.2.1.1 r.2.2.1.2.1).trans h))
theorem all53 : ∀ g con, lookC L53 g = some con → FunOk Tryd.prog B (g % 1000000) con := gam_cons rfl ok53 all15

theorem ok63 : FunOk Tryd.prog B 63 c63 := glue L53 all53 plan63 Tryd.func63 (by kernel_rfl) (by
  rintro ⟨⟨⟩, a0, ⟨a1, a2, ⟨⟩⟩, ⟨⟩⟩ y r h
  obtain ⟨h1, h2⟩ := Sp29.on_some h
  subst h2
  exact (g63_eq a0 a1 a2).trans (g63_ok a0 a1 a2 r.2.1 r.2.2.1.1 r.2.2.1.2.1 h1))
theorem all63 : ∀ g con, lookC L63 g = some con → FunOk Tryd.prog B (g % 1000000) con := gam_cons rfl ok63 all53

theorem ok52 : FunOk Tryd.prog B 52 c52 := glue L63 all63 plan52 Tryd.func52 (by kernel_rfl) (by
  rintro ⟨⟨⟩, a0, ⟨a1, a2, ⟨⟩⟩, ⟨⟩⟩ y r h
  obtain ⟨h1, h2⟩ := Sp29.on_some h
  subst h2
  exact (g52_eq a0 a1 a2).trans (g52_ok a0 a1 a2 r.2.1 r.2.2.1.1 r.2.2.1.2.1 h1))
theorem all52 : ∀ g con, lookC L52 g = some con → FunOk Tryd.prog B (g % 1000000) con := gam_cons rfl ok52 all63

theorem ok30 : FunOk Tryd.prog B 30 c30 := glue L52 all52 plan30 Tryd.func30 (by kernel_rfl) (by
  rintro ⟨⟨⟩, ⟨a0, a1, a2, ⟨⟩⟩, ⟨⟩⟩ y r h
  obtain ⟨h1, h2⟩ := Sp29.on_some h
  subst h2
  exact (g30_eq a0 a1 a2).trans (g30_ok a0 a1 a2 r.2.1.1 r.2.1.2.1 r.2.1.2.2.1 h1))
theorem all30 : ∀ g con, lookC L30 g = some con → FunOk Tryd.prog B (g % 1000000) con := gam_cons rfl ok30 all52

theorem ok54 : FunOk Tryd.prog B 54 c54 := glue L30 all30 plan54 Tryd.func54 (by kernel_rfl) (by
  rintro ⟨⟨⟩, a0, a1, ⟨⟩⟩ y r h
  exact (g54_eq a0 a1).trans ((g54_ok a0 a1 r.2.1 r.2.2.1).trans h))
theorem all54 : ∀ g con, lookC L54 g = some con → FunOk Tryd.prog B (g % 1000000) con := gam_cons rfl ok54 all30

theorem ok64 : FunOk Tryd.prog B 64 c64 := glue L54 all54 plan64 Tryd.func64 (by kernel_rfl) (by
  rintro ⟨⟨⟩, a0, ⟨⟩⟩ y r h
  obtain ⟨h1, h2⟩ := Sp29.on_some h
  subst h2
  exact (g64_eq a0).trans (g64_ok a0 r.2.1 h1))
theorem all64 : ∀ g con, lookC L64 g = some con → FunOk Tryd.prog B (g % 1000000) con := gam_cons rfl ok64 all54

theorem ok55 : FunOk Tryd.prog B 55 c55 := glue L64 all64 plan55 Tryd.func55 (by kernel_rfl) (by
  rintro ⟨⟨⟩, a0, a1, ⟨⟩⟩ y r h
  obtain ⟨h1, h2⟩ := Sp29.on_some h
  subst h2
  exact (g55_eq a0 a1).trans (g55_ok a0 a1 r.2.1 r.2.2.1 h1))
theorem all55 : ∀ g con, lookC L55 g = some con → FunOk Tryd.prog B (g % 1000000) con := gam_cons rfl ok55 all64

theorem ok31 : FunOk Tryd.prog B 31 c31 := glue L55 all55 plan31 Tryd.func31 (by kernel_rfl) (by
  rintro ⟨⟨⟩, ⟨a0, a1, a2, a3, a4, a5, a6, a7, a8, a9, ⟨⟩⟩, ⟨⟩⟩ y r h
  obtain ⟨h1, h2⟩ := Sp29.on_some h
  subst h2
  exact (g31_eq a0 a1 a2 a3 a4 a5 a6 a7 a8 a9).trans (g31_ok a0 a1 a2 a3 a4 a5 a6 a7 a8 a9 r.2.1.1 r.2.1.2.1 r.2.1.2.2.1 r.2.1.2.2.2.1 r.2.1.2.2.2.2.1 r.2.1.2.2.2.2.2.1 r.2.1.2.2.2.2.2.2.1 r.2.1.2.2.2.2.2.2.2.1 r.2.1.2.2.2.2.2.2.2.2.1 r.2.1.2.2.2.2.2.2.2.2.2.1 h1))
theorem all31 : ∀ g con, lookC L31 g = some con → FunOk Tryd.prog B (g % 1000000) con := gam_cons rfl ok31 all55

theorem ok32 : FunOk Tryd.prog B 32 c32 := glue L31 all31 plan32 Tryd.func32 (by kernel_rfl) (by
  rintro ⟨⟨⟩, a0, ⟨⟩⟩ y r h
  obtain ⟨h1, h2⟩ := Sp29.on_some h
  subst h2
  exact (g32_eq a0).trans (g32_ok a0 r.2.1 h1))
theorem all32 : ∀ g con, lookC L32 g = some con → FunOk Tryd.prog B (g % 1000000) con := gam_cons rfl ok32 all31

theorem ok34 : FunOk Tryd.prog B 34 c34 := glue L32 all32 plan34 Tryd.func34 (by kernel_rfl) (by
  rintro ⟨⟨⟩, a0, ⟨⟩⟩ y r h
  obtain ⟨h1, h2⟩ := Sp29.on_some h
  subst h2
  exact (g34_eq a0).trans (g34_ok a0 r.2.1 h1))
theorem all34 : ∀ g con, lookC L34 g = some con → FunOk Tryd.prog B (g % 1000000) con := gam_cons rfl ok34 all32

theorem ok33 : FunOk Tryd.prog B 33 c33 := glue L34 all34 plan33 Tryd.func33 (by kernel_rfl) (by
  rintro ⟨⟨⟩, a0, a1, a2, ⟨⟩⟩ y r h
  obtain ⟨h1, h2⟩ := Sp29.on_some h
  subst h2
  exact (g33_eq a0 a1 a2).trans (g33_ok a0 a1 a2 r.2.1 r.2.2.1 r.2.2.2.1 h1))
theorem all33 : ∀ g con, lookC L33 g = some con → FunOk Tryd.prog B (g % 1000000) con := gam_cons rfl ok33 all34

theorem ok56 : FunOk Tryd.prog B 56 c56 := glue L33 all33 plan56 Tryd.func56 (by kernel_rfl) (by
  rintro ⟨⟨⟩, a0, ⟨a1, a2, ⟨⟩⟩, ⟨⟩⟩ y r h
  obtain ⟨h1, h2⟩ := Sp29.on_some h
  subst h2
  exact (g56_eq a0 a1 a2).trans (g56_ok a0 a1 a2 r.2.1 r.2.2.1.1 r.2.2.1.2.1 h1))
theorem all56 : ∀ g con, lookC L56 g = some con → FunOk Tryd.prog B (g % 1000000) con := gam_cons rfl ok56 all33

theorem ok35 : FunOk Tryd.prog B 35 c35 := glue L56 all56 plan35 Tryd.func35 (by kernel_rfl) (by
  rintro ⟨⟨⟩, a0, ⟨a1, a2, ⟨⟩⟩, ⟨⟩⟩ y r h
  obtain ⟨h1, h2⟩ := Sp29.on_some h
  subst h2
  exact (g35_eq a0 a1 a2).trans (g35_ok a0 a1 a2 r.2.1 r.2.2.1.1 r.2.2.1.2.1 h1))
theorem all35 : ∀ g con, lookC L35 g = some con → FunOk Tryd.prog B (g % 1000000) con := gam_cons rfl ok35 all56

theorem ok16 : FunOk Tryd.prog B 16 c16 := glue L35 all35 plan16 Tryd.func16 (by kernel_rfl) (by
  rintro ⟨⟨⟩, ⟨a0, a1, a2, ⟨⟩⟩, ⟨a3, a4, a5, a6, a7, a8, a9, a10, a11, a12, a13, ⟨⟩⟩, ⟨⟩⟩ y r h
  obtain ⟨h1, h2⟩ := Sp29.on_some h
  subst h2
  exact (g16_eq a0 a1 a2 a3 a4 a5 a6 a7 a8 a9 a10 a11 a12 a13).trans (g16_ok a0 a1 a2 a3 a4 a5 a6 a7 a8 a9 a10 a11 a12 a13 r.2.1.1 r.2.1.2.1 r.2.1.2.2.1 r.2.2.1.1 r.2.2.1.2.1 r.2.2.1.2.2.1 r.2.2.1.2.2.2.1 r.2.2.1.2.2.2.2.1 r.2.2.1.2.2.2.2.2.1 r.2.2.1.2.2.2.2.2.2.1 r.2.2.1.2.2.2.2.2.2.2.1 r.2.2.1.2.2.2.2.2.2.2.2.1 r.2.2.1.2.2.2.2.2.2.2.2.2.1 r.2.2.1.2.2.2.2.2.2.2.2.2.2.1 h1))
theorem all16 : ∀ g con, lookC L16 g = some con → FunOk Tryd.prog B (g % 1000000) con := gam_cons rfl ok16 all35

theorem ok36 : FunOk Tryd.prog B 36 c36 := glue L16 all16 plan36 Tryd.func36 (by kernel_rfl) (by
  rintro ⟨⟨⟩, ⟨a0, a1, ⟨⟩⟩, ⟨⟩⟩ y r h
  exact (g36_eq a0 a1).trans ((g36_ok a0 a1 r.2.1.1 r.2.1.2.1).trans h))
theorem all36 : ∀ g con, lookC L36 g = some con → FunOk Tryd.prog B (g % 1000000) con := gam_cons rfl ok36 all16

theorem ok17 : FunOk Tryd.prog B 17 c17 := glue L36 all36 plan17 Tryd.func17 (by kernel_rfl) (by
  rintro ⟨⟨⟩, a0, ⟨⟩⟩ y r h
  obtain ⟨h1, h2⟩ := Sp29.on_some h
  subst h2
  exact (g17_eq a0).trans (g17_ok a0 r.2.1 h1))
theorem all17 : ∀ g con, lookC L17 g = some con → FunOk Tryd.prog B (g % 1000000) con := gam_cons rfl ok17 all36

theorem ok68 : FunOk Tryd.prog B 68 c68 := glue L17 all17 plan68 Tryd.func68 (by kernel_rfl) (by
  rintro ⟨⟨⟩, a0, a1, ⟨⟩⟩ y r h
  obtain ⟨h1, h2⟩ := Sp29.on_some h
  subst h2
  exact (g68_eq a0 a1).trans (g68_ok a0 a1 r.2.1 r.2.2.1 h1))
theorem all68 : ∀ g con, lookC L68 g = some con → FunOk Tryd.prog B (g % 1000000) con := gam_cons rfl ok68 all17

theorem ok67 : FunOk Tryd.prog B 67 c67 := glue L68 all68 plan67 Tryd.func67 (by kernel_rfl) (by
  rintro ⟨⟨⟩, a0, a1, ⟨⟩⟩ y r h
  obtain ⟨h1, h2⟩ := Sp29.on_some h
  subst h2
  exact (g67_eq a0 a1).trans (g67_ok a0 a1 r.2.1 r.2.2.1 h1))
theorem all67 : ∀ g con, lookC L67 g = some con → FunOk Tryd.prog B (g % 1000000) con := gam_cons rfl ok67 all68

theorem ok65 : FunOk Tryd.prog B 65 c65 := glue L67 all67 plan65 Tryd.func65 (by kernel_rfl) (by
  rintro ⟨⟨⟩, ⟨a0, a1, ⟨⟩⟩, a2, ⟨⟩⟩ y r h
  obtain ⟨h1, h2⟩ := Sp29.on_some h
  subst h2
  exact (g65_eq a0 a1 a2).trans (g65_ok a0 a1 a2 r.2.1.1 r.2.1.2.1 r.2.2.1 h1))
theorem all65 : ∀ g con, lookC L65 g = some con → FunOk Tryd.prog B (g % 1000000) con := gam_cons rfl ok65 all67

theorem ok57 : FunOk Tryd.prog B 57 c57 := glue L65 all65 plan57 Tryd.func57 (by kernel_rfl) (by
  rintro ⟨⟨⟩, ⟨a0, a1, ⟨⟩⟩, a2, ⟨⟩⟩ y r h
  obtain ⟨h1, h2⟩ := Sp29.on_some h
  subst h2
  exact (g57_eq a0 a1 a2).trans (g57_ok a0 a1 a2 r.2.1.1 r.2.1.2.1 r.2.2.1 h1))
theorem all57 : ∀ g con, lookC L57 g = some con → FunOk Tryd.prog B (g % 1000000) con := gam_cons rfl ok57 all65

theorem ok37 : FunOk Tryd.prog B 37 c37 := glue L57 all57 plan37 Tryd.func37 (by kernel_rfl) (by
  rintro ⟨⟨⟩, ⟨a0, a1, ⟨⟩⟩, ⟨a2, a3, ⟨⟩⟩, ⟨⟩⟩ y r h
  obtain ⟨h1, h2⟩ := Sp29.on_some h
  subst h2
  exact (g37_eq a0 a1 a2 a3).trans (g37_ok a0 a1 a2 a3 r.2.1.1 r.2.1.2.1 r.2.2.1.1 r.2.2.1.2.1 h1))
theorem all37 : ∀ g con, lookC L37 g = some con → FunOk Tryd.prog B (g % 1000000) con := gam_cons rfl ok37 all57

theorem ok18 : FunOk Tryd.prog B 18 c18 := glue L37 all37 plan18 Tryd.func18 (by kernel_rfl) (by
  rintro ⟨⟨⟩, ⟨a0, a1, ⟨⟩⟩, a2, ⟨a3, a4, ⟨⟩⟩, a5, ⟨⟩⟩ y r h
  obtain ⟨h1, h2⟩ := Sp29.on_some h
  subst h2
  exact (g18_eq a0 a1 a2 a3 a4 a5).trans (g18_ok a0 a1 a2 a3 a4 a5 r.2.1.1 r.2.1.2.1 r.2.2.1 r.2.2.2.1.1 r.2.2.2.1.2.1 r.2.2.2.2.1 h1))
theorem all18 : ∀ g con, lookC L18 g = some con → FunOk Tryd.prog B (g % 1000000) con := gam_cons rfl ok18 all37

theorem ok10 : FunOk Tryd.prog B 10 c10 := glue L18 all18 plan10 Tryd.func10 (by kernel_rfl) (by
  rintro ⟨⟨⟩, ⟨a0, a1, a2, ⟨⟩⟩, ⟨a3, a4, ⟨⟩⟩, ⟨a5, a6, a7, a8, a9, a10, a11, a12, a13, a14, a15, ⟨⟩⟩, ⟨⟩⟩ y r h
  obtain ⟨h1, h2⟩ := Sp29.on_some h
  subst h2
  exact (g10_eq a0 a1 a2 a3 a4 a5 a6 a7 a8 a9 a10 a11 a12 a13 a14 a15).trans (g10_ok a0 a1 a2 a3 a4 a5 a6 a7 a8 a9 a10 a11 a12 a13 a14 a15 r.2.1.1 r.2.1.2.1 r.2.1.2.2.1 r.2.2.1.1 r.2.2.1.2.1 r.2.2.2.1.1 r.2.2.2.1.2.1 r.2.2.2.1.2.2.1 r.2.2.2.1.2.2.2.1 r.2.2.2.1.2.2.2.2.1 r.2.2.2.1.2.2.2.2.2.1 r.2.2.2.1.2.2.2.2.2.2.1 r.2.2.2.1.2.2.2.2.2.2.2.1 r.2.2.2.1.2.2.2.2.2.2.2.2.1 r.2.2.2.1.2.2.2.2.2.2.2.2.2.1 r.2.2.2.1.2.2.2.2.2.2.2.2.2.2.1 h1))
theorem all10 : ∀ g con, lookC L10 g = some con → FunOk Tryd.prog B (g % 1000000) con := gam_cons rfl ok10 all18

theorem ok4 : FunOk Tryd.prog B 4 c4 := glue L10 all10 plan4 Tryd.func4 (by kernel_rfl) (by
  rintro ⟨⟨⟩, ⟨⟩⟩ y r h
  exact (g4_eq ).trans ((g4_ok  ).trans h))
theorem all4 : ∀ g con, lookC L4 g = some con → FunOk Tryd.prog B (g % 1000000) con := gam_cons rfl ok4 all10
end Go.Abs.C29

namespace Go.Abs.C29
open Go Go.Proofs
set_option maxRecDepth 100000
theorem ok3 : FunOk Tryd.prog B 3 c3 := glue L4 all4 plan3 Tryd.func3 (by kernel_rfl) (by
  rintro ⟨⟨⟩, a0, a1, ⟨⟩⟩ y r h
  exact (g3_eq a0 a1).trans ((g3_ok a0 a1 r.2.1 r.2.2.1).trans h))
end Go.Abs.C29
