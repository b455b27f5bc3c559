/- Chapter 10: proved is that functions that the laws reach keep their contracts (the library's sort and copy, the laws); no conditions but those that each theorem states. -/
import Derived.Test.YtihhljodjndbeaaRunC
import Derived.RegionTactic
import Derived.WalkSpells
import Derived.Lib.SliceRun
import Derived.Laws.Cells
import Derived.Shelf.SlSortCmp.WholeK
import Derived.Shelf.SlSortCmp.NoneTotal
set_option linter.unusedVariables false
set_option linter.unusedSimpArgs false
namespace Go.Abs.C10
open Go Go.Proofs
set_option maxRecDepth 100000 in
set_option maxHeartbeats 2000000 in
theorem f44_nil {w : World} {n c : Nat} {Q : Ending → World → Prop} (hQ : Q (.returned (.slice none 0 0)) w) :
    Calls Try.prog 44 #[.slice none n c] w Q := by
  have hu : Try.prog.underlying 23 = some (.slice 38) := by kernel_rfl
  go_enter Try.func44, Try.ntmps44
  go_wp2
  rw [Lib.run_eql_slice_nil _ _ _ _ _ _ _ _ hu]
  simp only [Result.andThen]
  rw [Oper.upon_value]
  simp only [Option.isNone]
  go_wp2
  exact hQ
set_option maxRecDepth 100000 in
set_option maxHeartbeats 2000000 in
theorem f44_empty {w : World} {p : Addr} {c : Nat} {Q : Ending → World → Prop} (hQ : Q (.returned (.slice (some ⟨w.heap.size, 0, none⟩) 0 0)) (w.alloc (.cells #[] 38))) :
    Calls Try.prog 44 #[.slice (some p) 0 c] w Q := by
  have hu : Try.prog.underlying 23 = some (.slice 38) := by kernel_rfl
  have hl : (loadCellsFrom p 0 0 #[]).run Try.prog (w.alloc (.cells #[] 38)) = .ok #[] (w.alloc (.cells #[] 38)) := by simp [loadCellsFrom]
  go_enter Try.func44, Try.ntmps44
  go_wp2
  rw [Lib.run_eql_slice_nil _ _ _ _ _ _ _ _ hu]
  simp only [Result.andThen]
  rw [Oper.upon_value]
  simp only [Option.isNone]
  go_wp2
  exact hQ
set_option maxRecDepth 100000 in
set_option maxHeartbeats 2000000 in
theorem f44_cells {w : World} {p : Addr} {n c : Nat} {cs : Array Value} {Q : Ending → World → Prop} (hn : 0 < n) (hn2 : n ≤ 4398046511104)
   (hl : (loadCellsFrom p 0 (n * 4) #[]).run Try.prog (w.alloc (.cells #[] 38)).drew = .ok cs (w.alloc (.cells #[] 38)).drew)
   (hQ : ∀ k : Nat, n ≤ k → Q (.returned (.slice (some ⟨w.heap.size + 1, 0, none⟩) n k)) ((w.alloc (.cells #[] 38)).alloc (.cells (cs ++ Builtin.zeroCells #[.int .i64 0, .int .i64 0, .int .i64 0, .int .i64 0] (k - n)) 38)).drew) :
    Calls Try.prog 44 #[.slice (some p) n c] w Q := by
  have hu : Try.prog.underlying 23 = some (.slice 38) := by kernel_rfl
  have hbt : Try.t38.bytes = 32 := rfl
  go_enter Try.func44, Try.ntmps44
  go_wp2
  rw [Lib.run_eql_slice_nil _ _ _ _ _ _ _ _ hu]
  simp only [Result.andThen]
  rw [Oper.upon_value]
  simp only [Option.isNone]
  go_wp2
  all_goals (try (exfalso; simp only [Builtin.nextslicecap] at *; (repeat' split at *) <;> omega))
  all_goals (simp only [Question.cut]; omega)
end Go.Abs.C10

namespace Go.Abs.C10
open Go Go.Proofs Go.Shelf
def sortEd_ren : Go.Shelf.Ren := ⟨fun | 6 => 63 | 15 => 69 | 14 => 68 | 28 => 78 | 29 => 79 | 20 => 70 | 21 => 71 | 22 => 72 | 23 => 73 | 24 => 74 | 25 => 75 | 26 => 76 | 27 => 77 | 46 => 80 | 47 => 81 | 48 => 82 | 49 => 83 | 50 => 84 | 57 => 85 | n => n, fun | 22 => 49 | 24 => 70 | 25 => 94 | 3 => 3 | 39 => 100 | 0 => 0 | 53 => 109 | 55 => 111 | 4 => 4 | 46 => 103 | 45 => 102 | 50 => 39 | 5 => 5 | 9 => 9 | 66 => 112 | 70 => 116 | 76 => 118 | 77 => 119 | n => n, fun | n => n⟩
theorem sortEd : Go.Proofs.SlLaysF0.n6 Try.prog sortEd_ren := {
  mixed := by kernel_rfl
  f6 := ⟨Try.f63.name, by decide, Try.func63.trans (congrArg some (by kernel_rfl))⟩
  f14 := ⟨Try.f68.name, by decide, Try.func68.trans (congrArg some (by kernel_rfl))⟩
  f15 := Try.func69.trans (congrArg some (by kernel_rfl))
  f20 := ⟨Try.f70.name, by decide, Try.func70.trans (congrArg some (by kernel_rfl))⟩
  f21 := ⟨Try.f71.name, by decide, Try.func71.trans (congrArg some (by kernel_rfl))⟩
  f22 := ⟨Try.f72.name, by decide, Try.func72.trans (congrArg some (by kernel_rfl))⟩
  f23 := ⟨Try.f73.name, by decide, Try.func73.trans (congrArg some (by kernel_rfl))⟩
  f24 := ⟨Try.f74.name, by decide, Try.func74.trans (congrArg some (by kernel_rfl))⟩
  f25 := ⟨Try.f75.name, by decide, Try.func75.trans (congrArg some (by kernel_rfl))⟩
  f26 := ⟨Try.f76.name, by decide, Try.func76.trans (congrArg some (by kernel_rfl))⟩
  f27 := ⟨Try.f77.name, by decide, Try.func77.trans (congrArg some (by kernel_rfl))⟩
  f28 := Try.func78.trans (congrArg some (by kernel_rfl))
  f29 := Try.func79.trans (congrArg some (by kernel_rfl))
  f46 := ⟨Try.f80.name, by decide, Try.func80.trans (congrArg some (by kernel_rfl))⟩
  f47 := Try.func81.trans (congrArg some (by kernel_rfl))
  f48 := Try.func82.trans (congrArg some (by kernel_rfl))
  f49 := ⟨Try.f83.name, by decide, Try.func83.trans (congrArg some (by kernel_rfl))⟩
  f50 := ⟨Try.f84.name, by decide, Try.func84.trans (congrArg some (by kernel_rfl))⟩
  f57 := ⟨Try.f85.name, by decide, Try.func85.trans (congrArg some (by kernel_rfl))⟩
  t0 := Try.underlying0
  a0 := Try.isAgg0
  z0 := Try.sizeOf0
  v0 := Try.zeroValue0
  t3 := Try.underlying3
  a3 := Try.isAgg3
  z3 := Try.sizeOf3
  v3 := Try.zeroValue3
  t4 := Try.underlying4
  a4 := Try.isAgg4
  z4 := Try.sizeOf4
  v4 := Try.zeroValue4
  t5 := Try.underlying5
  a5 := Try.isAgg5
  z5 := Try.sizeOf5
  v5 := Try.zeroValue5
  t9 := Try.underlying9
  a9 := Try.isAgg9
  z9 := Try.sizeOf9
  v9 := Try.zeroValue9
  t22 := Try.underlying49
  a22 := Try.isAgg49
  z22 := Try.sizeOf49
  v22 := Try.zeroValue49
  t25 := Try.underlying94
  a25 := Try.isAgg94
  z25 := Try.sizeOf94
  v25 := Try.zeroValue94
  t39 := Try.underlying100
  a39 := Try.isAgg100
  z39 := Try.sizeOf100
  v39 := Try.zeroValue100
  t45 := Try.underlying102
  a45 := Try.isAgg102
  z45 := Try.sizeOf102
  v45 := Try.zeroValue102
  t46 := Try.underlying103
  a46 := Try.isAgg103
  z46 := Try.sizeOf103
  v46 := Try.zeroValue103
  t50 := Try.underlying39
  a50 := Try.isAgg39
  z50 := Try.sizeOf39
  v50 := Try.zeroValue39
  t53 := Try.underlying109
  a53 := Try.isAgg109
  z53 := Try.sizeOf109
  v53 := Try.zeroValue109
  t55 := Try.underlying111
  a55 := Try.isAgg111
  z55 := Try.sizeOf111
  v55 := Try.zeroValue111
  t66 := Try.underlying112
  a66 := Try.isAgg112
  z66 := Try.sizeOf112
  v66 := Try.zeroValue112
  t70 := Try.underlying116
  a70 := Try.isAgg116
  z70 := Try.sizeOf116
  v70 := Try.zeroValue116
  t76 := Try.underlying118
  a76 := Try.isAgg118
  z76 := Try.sizeOf118
  v76 := Try.zeroValue118
  t77 := Try.underlying119
  a77 := Try.isAgg119
  z77 := Try.sizeOf119
  v77 := Try.zeroValue119 }
open Go.Sort Go.RowKit
set_option maxRecDepth 100000 in
set_option maxHeartbeats 2000000 in
theorem f66_calls (x : Int) (w : World) : Calls Try.prog 66 #[.int .i64 x] w fun e w' => e = .returned (.bool false) ∧ w' = w := by
  go_enter Try.func66, Try.ntmps66
  go_wp2
  go_ret
  first | exact ⟨rfl, rfl⟩ | simp
set_option maxRecDepth 100000 in
set_option maxHeartbeats 2000000 in
theorem f53_calls (x y : Int) (w : World) : Calls Try.prog 53 #[.int .i64 x, .int .i64 y] w fun e w' => e = .returned (.int .i64 (Sp10.cmpI x y)) ∧ w' = w := by
  have h66 := fun z W => f66_calls z W
  go_enter Try.func53, Try.ntmps53
  go_wp2_with (go_at_call 66; refine (h66 _ _).mono ?_; rintro e w' ⟨rfl, rfl⟩)
  all_goals go_ret
  all_goals (unfold Sp10.cmpI; try simp [*])
  all_goals (rw [dF (show ¬ x < y by omega)]; first | rfl | (rw [dF (show ¬ y < x by omega)]; rfl))
def encE (x : Int × Int × Unit) : List Value := [.int .i64 x.1, .int .i64 x.2.1]
set_option maxRecDepth 100000 in
set_option maxHeartbeats 2000000 in
theorem f64_calls (x y : Int × Int × Unit) (W : World) : Calls Try.prog 64 #[.agg (encE x).toArray, .agg (encE y).toArray] W fun e w' => e = .returned (.int .i64 (Sp10.cmpI x.2.1 y.2.1)) ∧ ∃ q os', w' = grow (W.drewN q) os' := by
  have hcon := fun W' => f53_calls x.2.1 y.2.1 W'
  show Calls Try.prog 64 #[.agg #[.int .i64 x.1, .int .i64 x.2.1], .agg #[.int .i64 y.1, .int .i64 y.2.1]] W _
  generalize Sp10.cmpI x.2.1 y.2.1 = r at hcon ⊢
  go_enter Try.func64, Try.ntmps64
  go_wp2_with (go_at_call 53; refine (hcon _).mono ?_; rintro e w' ⟨rfl, rfl⟩)
  go_ret
  exact ⟨rfl, 0, _, by rw [alloc_eq_grow, alloc_eq_grow, grow_grow]; rfl⟩
theorem ltE_of : ltOf (fun x y : Int × Int × Unit => Sp10.cmpI x.2.1 y.2.1) = ltE := by
  funext x y
  show decide (Sp10.cmpI x.2.1 y.2.1 < 0) = decide (x.2.1 < y.2.1)
  unfold Sp10.cmpI
  by_cases h1 : x.2.1 < y.2.1
  · simp [h1]
  · by_cases h2 : y.2.1 < x.2.1
    · simp [h1, h2]
    · simp [h1, h2]
theorem swoC : SWO (ltOf (fun x y : Int × Int × Unit => Sp10.cmpI x.2.1 y.2.1)) := by
  rw [ltE_of]
  refine ⟨fun x => ?_, fun x y z h1 h2 => ?_, fun x y z h1 h2 => ?_⟩
  · unfold ltE; exact decide_eq_false (by omega)
  · unfold ltE at *; rw [decide_eq_true_eq] at *; omega
  · unfold ltE at *; rw [decide_eq_false_iff_not] at *; omega
theorem eg64 : ∀ args w, (callFunc 64 args).run Try.prog w = .ok (.enter 64 args) w := enters_of Try.func64 (by kernel_rfl) rfl
theorem flat_get (d : Array (Int × Int × Unit)) (j : Nat) (hj : j < d.size) : (flatK encE 2 d)[j * 2]! = .int .i64 d[j]!.1 ∧ (flatK encE 2 d)[j * 2 + 1]! = .int .i64 d[j]!.2.1 := by
  constructor
  · rw [get_flatK encE 2 d (j * 2) (by omega), show j * 2 / 2 = j by omega, show j * 2 % 2 = 0 by omega]
    rfl
  · rw [get_flatK encE 2 d (j * 2 + 1) (by omega), show (j * 2 + 1) / 2 = j by omega, show (j * 2 + 1) % 2 = 1 by omega]
    rfl
theorem holdsE {w : World} {G : Nat → Nat} {l : List (Int × Int × Unit)} {b : Nat} (hr : RepE w G (.st 16 (.cons (.int .i64) (.cons (.int .i64) .unit))) l b 0) (hm : Room w b (l.length * 2)) : HoldsK encE 2 w b 0 l.toArray := by
  intro j hj
  rw [size_flatK] at hj
  have hj : j < l.length * 2 := by simpa using hj
  refine ⟨?_, (hm.some (j := 0 + j) (by omega)).2⟩
  have hi : j / 2 < l.length := by omega
  obtain ⟨h1, h2, -⟩ := hr (j / 2) hi
  obtain ⟨f1, f2⟩ := flat_get l.toArray (j / 2) (by simpa using hi)
  have hd : l.toArray[j / 2]! = l[j / 2] := by
    rw [getElem!_pos l.toArray (j / 2) (by simpa using hi)]
    simp
  rw [hd] at f1 f2
  rcases (by omega : j = j / 2 * 2 ∨ j = j / 2 * 2 + 1) with h | h
  · have e1 : (flatK encE 2 l.toArray)[j]! = .int .i64 l[j / 2].1 := by rw [← f1, ← h]
    rw [e1]
    have h1 := h1.1
    rw [show 0 + j = 0 + j / 2 * 2 by omega]
    exact h1
  · have e1 : (flatK encE 2 l.toArray)[j]! = .int .i64 l[j / 2].2.1 := by rw [← f2, ← h]
    rw [e1]
    have h2 := h2.1
    rw [show 0 + j = 0 + j / 2 * 2 + 1 by omega]
    exact h2
theorem put_set {w : World} {b : Nat} {d d' : Array (Int × Int × Unit)} (h : HoldsK encE 2 w b 0 d) (hs : d'.size = d.size) : putRowK encE 2 w b 0 d' = w.setCells b 0 (flatK encE 2 d').toList := by
  have e0 : putRow id w b 0 (flatK encE 2 d) = w := putRow_self id w b 0 _ h
  have e1 := setCells_putRow w b 0 (flatK encE 2 d').toList 0 (flatK encE 2 d) (by simp [hs])
  rw [e0] at e1
  rw [Nat.add_zero] at e1
  rw [e1]
  unfold putRowK
  congr 1
  refine ext_get! (by simp [hs]) fun t ht => ?_
  have ht2 : t < (flatK encE 2 d).size := by rw [size_flatK] at ht ⊢; omega
  rw [get_setMany _ _ _ _ ht2, if_pos ⟨Nat.zero_le _, by simpa using ht⟩, Nat.sub_zero]
  rw [getElem!_pos _ t ht, getElem!_pos _ t (by simpa using ht)]
  simp
theorem x63_args {dst st : Nat} {l : List (D × D)} {g : Bool} {u : St} (h : xf63 dst st l = some (g, u)) : ∃ X s2 r, l = [(.rsl X s2, .arrv s2 true false (.st 16 (.cons (.int .i64) (.cons (.int .i64) .unit))) r), (.fnc 64, (l.getD 1 (.undef, .undef)).2)] ∧ g = true ∧
    u = [(2 * X + 1, .arrv s2 true false (.st 16 (.cons (.int .i64) (.cons (.int .i64) .unit))) (sortE r)), (2 * dst, .undef)] := by
  unfold xf63 at h
  split at h
  · rename_i X sx s2 r z
    cases hb : Nat.beq sx s2 with
    | false => rw [hb] at h; cases h
    | true =>
      rw [hb] at h
      have := Nat.eq_of_beq_eq_true hb
      subst this
      simp only [cond_true, Option.some.injEq, Prod.mk.injEq] at h
      exact ⟨X, sx, r, rfl, h.1.symm, h.2.symm⟩
  · cases h
theorem list2 {α β : Type} {f : α → β} {l : List α} {a b : β} (h : l.map f = [a, b]) : ∃ x y, l = [x, y] ∧ f x = a ∧ f y = b := by
  match l, h with
  | [x, y], h => simp at h; exact ⟨x, y, rfl, h⟩
  | [], h => simp at h
  | [_], h => simp at h
  | _ :: _ :: _ :: _, h => simp at h
end Go.Abs.C10

namespace Go.Abs
variable {E : Env} {C : Ctx} {s : St} {a : Act} {w : World} {G : Nat → Nat} {pt : Nat → Nat → Option Value}
theorem nbeq_g {a b : Nat} (h : a ≠ b) : Nat.beq a b = false := by
  cases hb : Nat.beq a b with
  | false => rfl
  | true => exact absurd (Nat.eq_of_beq_eq_true hb) h
theorem get_one (d : D) (k : Nat) (h : k ≠ 0) : get [(0, d)] k = .undef := by
  simp only [get, nbeq_g h, cond_false]
theorem Rel.keep0 {n : Nat} (R : Rel (ifE E n false) C s a w G pt) (hb : ∀ id, get s (2 * id + 1) = .undef) :
    Rel (ifE E 1 false) C [(0, get s 0)] { tmps := #[a.tmps.getD 0 Go.undef], defers := [] } w G pt := by
  have g1 : ∀ id, get [(0, get s 0)] (2 * id + 1) = .undef := fun id => get_one _ _ (by omega)
  have g2 : ∀ t, 1 ≤ t → get [(0, get s 0)] (2 * t) = .undef := fun t ht => get_one _ _ (by omega)
  have hTC : ∀ b, TC 1 C.m [(0, get s 0)] { tmps := #[a.tmps.getD 0 Go.undef], defers := [] } w pt b = cT s a b 0 := by
    intro b
    have z2 : sumN C.m (cB [(0, get s 0)] w pt b) = 0 := sumN_zero fun i hi => by
      rw [cB, g1]
      rfl
    unfold TC
    rw [z2]
    show 0 + cT [(0, get s 0)] _ b 0 + 0 = _
    rw [Nat.zero_add, Nat.add_zero]
    rfl
  refine ⟨rfl, rfl, fun t => ?_, fun id => ?_, fun t ht => g2 t ht, fun id hid => g1 id, fun b => ?_, fun b hb => ?_, R.fr, R.ex, R.gz, R.os, R.out, R.tape, R.hs, fun id st h => ?_, R.gl, R.pn⟩
  · cases t with
    | zero => exact R.tm 0
    | succ t => rw [g2 (t + 1) (by omega)]; trivial
  · rw [g1]; trivial
  · exact Nat.le_trans (Nat.le_of_eq (hTC b)) (Nat.le_trans (R.cT_le b 0) (R.ct b))
  · exact R.cb b (Nat.lt_of_lt_of_le (by have := hTC b; exact this ▸ hb) (R.cT_le b 0))
  · rw [g1] at h
    have := R.pf id st
    rw [hb] at this
    exact this h
end Go.Abs
namespace Go.Abs.C10
open Go Go.Proofs Go.Sort Go.RowKit
def encO (x : Int × (Int × Int × Int × Unit) × Unit) : List Value := [.int .i64 x.1, .int .i64 x.2.1.1, .int .i64 x.2.1.2.1, .int .i64 x.2.1.2.2.1]
def cellO (l : List (Int × (Int × Int × Int × Unit) × Unit)) (j : Nat) : Value := (encO (l.getD (j / 4) (0, (0, 0, 0, ()), ())))[j % 4]!
theorem cells_at {w : World} {G : Nat → Nat} {l : List (Int × (Int × Int × Int × Unit) × Unit)} {b o : Nat} (hr : RepE w G owT l b o) (j : Nat) (hj : j < l.length * 4) : w.cell? ⟨b, o + j, none⟩ = some (cellO l j) := by
  have hi : j / 4 < l.length := by omega
  obtain ⟨h1, ⟨h2, h3, h4, -⟩, -⟩ := hr (j / 4) hi
  unfold cellO encO
  rw [getD_ix hi]
  rcases (by omega : j % 4 = 0 ∨ j % 4 = 1 ∨ j % 4 = 2 ∨ j % 4 = 3) with h | h | h | h
  · rw [h, show o + j = o + j / 4 * 4 by omega]; exact h1.1
  · rw [h, show o + j = o + j / 4 * 4 + 1 by omega]; exact h2.1
  · rw [h, show o + j = o + j / 4 * 4 + 1 + 1 by omega]; exact h3.1
  · rw [h, show o + j = o + j / 4 * 4 + 1 + 1 + 1 by omega]; exact h4.1
theorem cells44 {w : World} {G : Nat → Nat} (hgz : ∀ b, w.heap.size ≤ b → G b = 0) {l : List (Int × (Int × Int × Int × Unit) × Unit)} {b o : Nat} (ho : o + l.length * 4 ≤ G b) (hr : RepE w G owT l b o) :
    (loadCellsFrom ⟨b, o, none⟩ 0 (l.length * 4) #[]).run Try.prog (w.alloc (.cells #[] 38)).drew = .ok ((List.range (l.length * 4)).map (cellO l)).toArray (w.alloc (.cells #[] 38)).drew := by
  have h := run_loadCellsFrom (P := Try.prog) (w.alloc (.cells #[] 38)).drew ⟨b, o, none⟩ (cellO l) (l.length * 4) 0 #[] (fun j hj => by
    have hadd : (⟨b, o, none⟩ : Addr).add (0 + j) = ⟨b, o + j, none⟩ := by
      unfold Addr.add
      simp
    rw [hadd]
    show (w.alloc (.cells #[] 38)).cell? _ = _
    have hE := (alloc_ext (w := w) (G := G) (.cells #[] 38) hgz).cell b (o + j) (by omega)
    rw [hE, Nat.zero_add]
    exact cells_at hr j hj)
  rw [h]
  simp only [Nat.zero_add, List.append_nil, Array.empty_append]
theorem sem44 {E : Env} : CallSem Try.prog E 44 c44 := by
  rintro ⟨⟨⟩, l, ⟨⟩⟩ y hy C args w G pt hm hpin hargs R K hK
  obtain rfl : (l, ()) = y := Option.some.inj hy
  obtain ⟨v0, rfl⟩ : ∃ v0, args = #[v0] := by
    have : args.size = 1 := hargs
    match args, this with
    | ⟨[v0]⟩, _ => exact ⟨v0, rfl⟩
  have t0 := R.tm 0
  obtain ⟨a, n, c, hv, hn, hb, hc, hs⟩ : ∃ a n c, v0 = .slice a n c ∧ n = List.length (α := Int × (Int × Int × Int × Unit) × Unit) l ∧ n * 32 ≤ big ∧ SlR w G 0 owT l a c := t0
  subst hv
  have g0 : ∀ (d : D) id, get ((0, d) :: entrySt c44 ((), l, ())) (2 * id + 1) = .undef := by
    intro d id
    show get [(0, d), (0, D.sl 0 owT l)] (2 * id + 1) = .undef
    have e0 : Nat.beq (2 * id + 1) 0 = false := nbeq_g (by omega)
    simp only [get, e0, cond_false]
  by_cases hl : l = []
  · subst hl
    cases a with
    | none =>
      refine f44_nil ?_
      have R1 := R.dst1 0 (by decide : 0 < 1) (d := .sl 2 owT ([] : List owT.den)) (v := .slice none 0 0) ⟨none, 0, 0, rfl, rfl, by decide, .inl ⟨rfl, rfl, rfl⟩⟩ (fun b => rfl)
      exact hK #[.slice none 0 0] w G pt (R1.keep0 (g0 _))
    | some p =>
      have hn0 : n = 0 := hn
      subst hn0
      refine f44_empty ?_
      have R1 := R.newRow (e := 38) (fr := (0, 0)) { dst := some 0, op := .move (.tmp 0), type := 0, pos := "", after := #[], guard := none } (fun t ht => by cases ht; exact (by decide : 0 < 1)) (t := owT) (l := ([] : List owT.den)) (cells := #[]) (c := 0)
        (fun i hi => by simp at hi) (Nat.zero_le _) (by simp) (fun o ho => by simp only; omega) (by simp) (by decide)
      exact hK #[.slice (some ⟨w.heap.size, 0, none⟩) 0 0] _ G pt (R1.keep0 (g0 _))
  · obtain ⟨b, o, rfl, ho, hr⟩ := hs.resolve_left hl
    have hpos : 0 < List.length (α := Int × (Int × Int × Int × Unit) × Unit) l := List.length_pos_iff.2 hl
    unfold big at hb
    subst hn
    refine f44_cells hpos (by omega) (cells44 R.gz ho hr) fun k hk => ?_
    have R1 := R.newRow (e := 38) (fr := (0, 0)) { dst := some 0, op := .move (.tmp 0), type := 0, pos := "", after := #[], guard := none } (fun t ht => by cases ht; exact (by decide : 0 < 1)) (t := owT) (l := ([] : List owT.den)) (cells := #[]) (c := 0)
        (fun i hi => by simp at hi) (Nat.zero_le _) (by simp) (fun o ho => by simp only; omega) (by simp) (by decide)
    have hsz : (w.alloc (.cells #[] 38)).heap.size = w.heap.size + 1 := by
      show (w.heap.push _).size = _
      rw [Array.size_push]
    have hcs : (((List.range (l.length * 4)).map (cellO l)).toArray ++ Builtin.zeroCells #[Value.int .i64 0, Value.int .i64 0, Value.int .i64 0, Value.int .i64 0] (k - l.length)).size = k * 4 := by
      simp only [Builtin.zeroCells, Array.size_append, Array.size_map, Array.size_range, List.size_toArray, List.length_map, List.length_range, List.length_cons, List.length_nil]
      omega
    have hcell : ∀ j, j < l.length * 4 → (World.cell? (((w.alloc (.cells #[] 38))).alloc (.cells (((List.range (l.length * 4)).map (cellO l)).toArray ++ Builtin.zeroCells #[Value.int .i64 0, Value.int .i64 0, Value.int .i64 0, Value.int .i64 0] (k - l.length)) 38)) ⟨(w.alloc (.cells #[] 38)).heap.size, j, none⟩) = some (cellO l j) := by
      intro j hj
      rw [cell_new]
      rw [Array.getElem?_append_left (by simp; omega)]
      rw [List.getElem?_toArray, List.getElem?_map, List.getElem?_range hj, Option.map_some]
    have R2 := R1.newRow (e := 38) (fr := (0, 0)) { dst := some 0, op := .move (.tmp 0), type := 0, pos := "", after := #[], guard := none } (fun t ht => by cases ht; exact (by decide : 0 < 1)) (t := owT) (l := l) (cells := ((List.range (l.length * 4)).map (cellO l)).toArray ++ Builtin.zeroCells #[Value.int .i64 0, Value.int .i64 0, Value.int .i64 0, Value.int .i64 0] (k - l.length)) (c := k)
        (fun i hi => by
          obtain ⟨h1, ⟨h2, h3, h4, -⟩, -⟩ := hr i hi
          have ce : ∀ q, q < 4 → cellO l (i * 4 + q) = (encO l[i])[q]! := by
            intro q hq
            unfold cellO
            rw [show (i * 4 + q) / 4 = i by omega, show (i * 4 + q) % 4 = q by omega, getD_ix hi]
          have c0 := hcell (i * 4 + 0) (by omega)
          have c1 := hcell (i * 4 + 1) (by omega)
          have c2 := hcell (i * 4 + 2) (by omega)
          have c3 := hcell (i * 4 + 3) (by omega)
          rw [ce 0 (by omega)] at c0
          rw [ce 1 (by omega)] at c1
          rw [ce 2 (by omega)] at c2
          rw [ce 3 (by omega)] at c3
          refine ⟨⟨?_, h1.2⟩, ⟨⟨?_, h2.2⟩, ⟨?_, h3.2⟩, ⟨?_, h4.2⟩, trivial⟩, trivial⟩
          · rw [show 0 + i * owT.nc = i * 4 + 0 from by show 0 + i * 4 = _; omega]; exact c0
          · rw [show 0 + i * owT.nc + (Ty.int IntKind.i64).nc = i * 4 + 1 from by show 0 + i * 4 + 1 = _; omega]; exact c1
          · rw [show 0 + i * owT.nc + (Ty.int IntKind.i64).nc + (Ty.int IntKind.i64).nc = i * 4 + 2 from by show 0 + i * 4 + 1 + 1 = _; omega]; exact c2
          · rw [show 0 + i * owT.nc + (Ty.int IntKind.i64).nc + (Ty.int IntKind.i64).nc + (Ty.int IntKind.i64).nc = i * 4 + 3 from by show 0 + i * 4 + 1 + 1 + 1 = _; omega]; exact c3)
        hk (by rw [hcs]; exact Nat.le_refl _) (fun o ho => by simp only; omega) (by show l.length * 32 ≤ 140737488355328; exact hb) (by decide)
    have R3 := R2.drew (w' := ((w.alloc (.cells #[] 38)).alloc (.cells (((List.range (l.length * 4)).map (cellO l)).toArray ++ Builtin.zeroCells #[Value.int .i64 0, Value.int .i64 0, Value.int .i64 0, Value.int .i64 0] (k - l.length)) 38)).drew) rfl rfl rfl rfl
    rw [hsz] at R3
    have g1 : ∀ id, get ((0, D.sl 2 owT l) :: (0, D.sl 2 owT ([] : List owT.den)) :: entrySt c44 ((), l, ())) (2 * id + 1) = .undef := by
      intro id
      show get [(0, _), (0, _), (0, D.sl 0 owT l)] (2 * id + 1) = .undef
      have e0 : Nat.beq (2 * id + 1) 0 = false := nbeq_g (by omega)
      simp only [get, e0, cond_false]
    exact hK #[.slice (some ⟨w.heap.size + 1, 0, none⟩) l.length k] _ G pt (R3.keep0 g1)
theorem ok44 : FunOk Try.prog B 44 c44 := ⟨by decide, fun _ => sem44, fun x h => (by cases h), Try.f44, Try.func44, by kernel_rfl, by kernel_rfl⟩
end Go.Abs.C10

namespace Go.Abs.C10
open Go Go.Proofs Go.Sort Go.RowKit Go.Shelf
set_option maxRecDepth 100000

theorem f63_cells {w : World} {G : Nat → Nat} {l : List (Int × Int × Unit)} {b c : Nat} (hr : RepE w G (.st 16 (.cons (.int .i64) (.cons (.int .i64) .unit))) l b 0) (hm : Room w b (l.length * 2)) (hb : b < w.heap.size) (hsz : l.length < 4611686018427387904) :
    Calls Try.prog 63 #[.slice (some ⟨b, 0, none⟩) l.length c, .func (.func 64) #[] #[]] w fun e w' => e = .returned (.tuple #[]) ∧ ∃ n os, w' = grow (Go.Sort.ahead (w.setCells b 0 (flatK encE 2 (sortE l).toArray).toList) n) os := by
  have hH := holdsE hr hm
  have h := AnyQ.slices_SortFunc_eq (P := Try.prog) (ρ := sortEd_ren) sortEd 2 Try.isAgg70 Try.sizeOf70 encE (fun _ => rfl) (fun x v hv => by simp [encE] at hv; rcases hv with rfl | rfl <;> rfl) (fun x y : Int × Int × Unit => Sp10.cmpI x.2.1 y.2.1) swoC 64 #[] b 0 c l.toArray w eg64
    (fun m os dk hs x y => f64_calls x y _) hH hb (by simpa using hsz)
  have h : Calls Try.prog 63 #[.slice (some ⟨b, 0, none⟩) l.toArray.size c, .func (.func 64) #[] #[]] w _ := h
  rw [show l.toArray.size = l.length from by simp] at h
  refine h.mono ?_
  rintro e w' ⟨rfl, n, os, rfl⟩
  refine ⟨rfl, n, os, ?_⟩
  unfold sortWorldK
  rw [ltE_of]
  have hs : (sortE l).toArray = Sort.pdq ltE l.toArray 0 l.length (Go.Lib.bitLen l.length) true true := by
    unfold sortE
    simp
  rw [← hs]
  congr 1
  show putRow id (Go.Sort.ahead w n) b 0 (flatK encE 2 (sortE l).toArray) = _
  rw [putRow_ahead]
  congr 1
  refine put_set hH ?_
  rw [hs]
  obtain ⟨⟨k1, -, -⟩, -⟩ := Go.Sort.pdq_sorts ltE swoE l.toArray 0 l.length (Go.Lib.bitLen l.length) true true (Nat.zero_le _) (by simp) (.inl rfl)
  exact k1
theorem sortE_perm (l : List (Int × Int × Unit)) : (sortE l).Perm l := by
  obtain ⟨⟨k1, -, k2⟩, -⟩ := Go.Sort.pdq_sorts ltE swoE l.toArray 0 l.length (Go.Lib.bitLen l.length) true true (Nat.zero_le _) (by simp) (.inl rfl)
  have hd : sortE l = (Go.Sort.pdq ltE l.toArray 0 l.length (Go.Lib.bitLen l.length) true true).toList := rfl
  generalize Go.Sort.pdq ltE l.toArray 0 l.length (Go.Lib.bitLen l.length) true true = d at k1 k2 hd
  have hsz : d.size = l.length := by simpa using k1
  have e1 : (d.extract 0 l.length).toList = d.toList := by rw [← hsz]; simp
  have e2 : (l.toArray.extract 0 l.length).toList = l := by simp
  rw [e1, e2] at k2
  rw [hd]
  exact k2
theorem grow_rel {E : Env} {C : Ctx} {s : St} {a : Act} {w : World} {G : Nat → Nat} {pt : Nat → Nat → Option Value} (R : Rel E C s a w G pt) (os : Array Obj) (o : Oper) (t : Nat) (hdst : o.dst = some t) (ht : t < E.n) (v : Value) :
    Rel E C ((2 * t, .undef) :: s) (a.put o.dst v) (grow w os) G pt := by
  have h := R.put o (fun u hu => by rw [hdst] at hu; cases hu; exact ht) (w' := grow w os) (G' := G) (d' := .undef) (v' := v) (fun _ => False)
    ⟨fun b j hj => by
      have hb : b < w.heap.size := by
        rcases Nat.lt_or_ge b w.heap.size with h | h
        · exact h
        · rw [R.gz b h] at hj; exact absurd hj (by omega)
      unfold World.cell? grow
      simp only
      rw [Array.getElem?_append_left hb], fun _ => Nat.le_refl _⟩
    (fun b _ hb => ⟨by show (w.heap ++ os)[b]? = _; rw [Array.getElem?_append_left hb], rfl⟩) (fun b h => h.elim) trivial (fun b => by
      rw [ctV_undef]
      exact ⟨Nat.zero_le _, fun h => absurd h (by omega)⟩) (fun b hb => R.gz b (by
        have : (grow w os).heap.size = w.heap.size + os.size := by show (w.heap ++ os).size = _; rw [Array.size_append]
        omega)) rfl rfl rfl (by show w.heap.size ≤ (w.heap ++ os).size; rw [Array.size_append]; omega)
  rw [dstU_some hdst] at h
  exact h
end Go.Abs.C10

namespace Go.Abs.C10
open Go Go.Proofs Go.Sort Go.RowKit Go.Shelf
set_option maxRecDepth 100000
theorem f63_none {w : World} : Calls Try.prog 63 #[.slice none 0 0, .func (.func 64) #[] #[]] w fun e w' => e = .returned (.tuple #[]) ∧ w' = w :=
  AnyF.slices_SortFunc_none (P := Try.prog) (ρ := sortEd_ren) sortEd none 0 (.func (.func 64) #[] #[]) w
theorem x63_ok : XSem Try.prog 63 xf63 := by
  intro E C o cl s a w G pt t u hm ht hdst hop hcl R hx
  obtain ⟨X, s2, r, hl, -, hu⟩ := x63_args hx
  subst hu
  obtain ⟨x0, x1, hargs, e0, e1⟩ := list2 hl
  have p0 : opd s x0 = .rsl X s2 := congrArg Prod.fst e0
  have q0 : inBox s (opd s x0) = .arrv s2 true false (.st 16 (.cons (.int .i64) (.cons (.int .i64) .unit))) r := congrArg Prod.snd e0
  have p1 : opd s x1 = .fnc 64 := congrArg Prod.fst e1
  rw [p0] at q0
  have q0 : get s (2 * X + 1) = .arrv s2 true false (.st 16 (.cons (.int .i64) (.cons (.int .i64) .unit))) r := q0
  have r0 := opd_rep R x0; rw [p0] at r0
  have r1 := opd_rep R x1; rw [p1] at r1
  have r0 : pt X s2 = some (a.eval x0) := r0
  have r1 : a.eval x1 = .func (.func 64) #[] #[] := r1
  have hB := R.bx X
  rw [q0] at hB
  have hB := hB rfl
  simp only [Bool.false_eq_true, if_false] at hB
  obtain ⟨ad, n, c, h1, hn, hbd, hsl⟩ := hB
  have hv : a.eval x0 = .slice ad n c := by rw [r0] at h1; exact Option.some.inj h1
  intro K Q hK
  have hrun : (execOp a.eval o).run Try.prog w = .ok (.enter 63 (cl.args.map a.eval)) w := by
    have e : execOp a.eval o = callFunc 63 (#[] ++ cl.args.map a.eval ++ #[]) := by
      simp only [execOp, hop, resolve, hcl]
      rfl
    rw [e]
    simp only [callFunc]
    have h2 : ¬ Try.f63.name = "runtime.NumGoroutine" := by decide
    have h3b : Try.f63.body.isNone = false := by kernel_rfl
    have h3 : ¬ Try.f63.body = none := fun h => by rw [h] at h3b; cases h3b
    simp [go_sem, Try.func63, h2, h3]
  unfold Oper.wp
  rw [hrun, Oper.upon_enter]
  have ha : cl.args.map a.eval = #[.slice ad n c, .func (.func 64) #[] #[]] := by
    apply Array.ext'
    rw [Array.toList_map, hargs]
    simp only [List.map_cons, List.map_nil, hv, r1]
  rw [ha]
  have hts : ∀ {w' : World} (R' : Rel E C ((2 * X + 1, .arrv s2 true false (.st 16 (.cons (.int .i64) (.cons (.int .i64) .unit))) (sortE r)) :: s) a w' G pt) (n : Nat) (os : Array Obj),
      Rel E C (applyU [(2 * X + 1, .arrv s2 true false (.st 16 (.cons (.int .i64) (.cons (.int .i64) .unit))) (sortE r)), (2 * t, .undef)] s) (a.put o.dst (.tuple #[])) (grow (Go.Sort.ahead w' n) os) G pt := by
    intro w' R' n os
    exact grow_rel (R'.world (w' := Go.Sort.ahead w' n) rfl rfl rfl rfl) os o t hdst ht _
  rcases hsl with ⟨h5, h6, h7⟩ | ⟨b, h5, h6, h7, h8, h9, h10⟩
  · subst h5 h7
    have h6 : r = [] := h6
    subst h6
    have hn : n = 0 := hn
    subst hn
    refine (f63_none).mono ?_
    rintro e w' ⟨rfl, rfl⟩
    have e0 : sortE [] = [] := (sortE_perm []).eq_nil
    have R1 : Rel E C ((2 * X + 1, .arrv s2 true false (.st 16 (.cons (.int .i64) (.cons (.int .i64) .unit))) (sortE [])) :: s) a w' G pt := by
      rw [e0]
      refine R.congr fun k => ?_
      rw [get_cons]
      split
      · rename_i hk; rw [hk, q0]
      · rfl
    have R2 := hts R1 0 #[]
    rw [show grow (Go.Sort.ahead w' 0) #[] = w' from by rw [grow_empty]; rfl] at R2
    exact hK _ _ _ _ R2
  · subst h5
    have hn : n = r.length := hn
    subst hn
    have hbd : r.length * 16 ≤ 140737488355328 := hbd
    have hroom : Room w b (r.length * 2) := by
      obtain ⟨cur, e, fr, k1, k2, k3⟩ := h7
      exact ⟨cur, e, fr, k1, Nat.le_trans (Nat.mul_le_mul_right _ h8) k2, k3⟩
    have hblk : blkOf (pt X s2) = some b := by rw [h1]; rfl
    have hbs : b < w.heap.size := by
      obtain ⟨cur, e, fr, k1, -, -⟩ := h7
      rcases Nat.lt_or_ge b w.heap.size with h | h
      · exact h
      · rw [Array.getElem?_eq_none h] at k1; cases k1
    refine (f63_cells h9 hroom hbs (by omega)).mono ?_
    rintro e w' ⟨rfl, q, os, rfl⟩
    have hlen : (sortE r).length = r.length := (sortE_perm r).length_eq
    have hvs : (flatK encE 2 (sortE r).toArray).toList.length = r.length * 2 := by simp [hlen]
    have R1 := R.storeArr (t := .st 16 (.cons (.int .i64) (.cons (.int .i64) .unit))) (l := r) (off := 0) (vs := (flatK encE 2 (sortE r).toArray).toList) (l' := sortE r) q0 hblk hlen (by
      intro i hi
      have hi : i < (sortE r).length := hi
      obtain ⟨f1, f2⟩ := flat_get (sortE r).toArray i (by simpa using hi)
      have hd : (sortE r).toArray[i]! = (sortE r)[i] := by
        rw [getElem!_pos (sortE r).toArray i (by simpa using hi)]
        simp
      rw [hd] at f1 f2
      have hsz : (flatK encE 2 (sortE r).toArray).size = r.length * 2 := by simp [hlen]
      have hmem : (sortE r)[i] ∈ r := (sortE_perm r).subset (List.getElem_mem _)
      obtain ⟨k, hk, hke⟩ := List.getElem_of_mem hmem
      obtain ⟨g1, g2, -⟩ := h9 k hk
      have hcell : ∀ j, j < r.length * 2 → (w.setCells b 0 (flatK encE 2 (sortE r).toArray).toList).cell? ⟨b, 0 + j, none⟩ = some (flatK encE 2 (sortE r).toArray)[j]! := by
        intro j hj
        rw [set_in hroom _ (by omega) (j := j) (by rw [hvs]; exact hj)]
        rw [getElem!_pos _ j (by rw [hsz]; exact hj)]
        simp
      have c0 := hcell (i * 2) (by omega)
      have c1 := hcell (i * 2 + 1) (by omega)
      rw [f1] at c0
      rw [f2] at c1
      refine ⟨⟨c0, ?_⟩, ⟨?_, ?_⟩, trivial⟩
      · have := g1.2; rw [hke] at this; exact this
      · rw [show 0 + i * (Ty.st 16 (.cons (.int .i64) (.cons (.int .i64) .unit))).nc + (Ty.int IntKind.i64).nc = 0 + (i * 2 + 1) from by show 0 + i * 2 + 1 = _; omega]; exact c1
      · have := g2.2; rw [hke] at this; exact this)
    exact hK _ _ _ _ (hts R1 q os)
end Go.Abs.C10

namespace Go.Abs.C10
open Go Go.Proofs Sp10
set_option maxRecDepth 100000

theorem g16_ok   : g16  = some (true, ()) := by
  kernel_rfl
theorem sameI_self (x : List Int) : sameI x x = true := dT rfl
theorem sameW_self (x : List Ow) : sameW x x = true := dT rfl
theorem sameP_self (x : Pn) : sameP x x = true := dT rfl
theorem claims_wf {t : Tp} (h : wf t = true) (r n : Int) : wf (claims t r n).2 = true := by
  unfold claims
  simp only
  have w := (claimsN_wf t h r.toNat).1
  generalize claimsN t r.toNat = s at w ⊢
  cases decide (0 < n) with
  | false => exact w
  | true =>
    have w5 := one_wf (n := n) w
    simp only [cond_true]
    generalize one s.2 n = q at w5 ⊢
    cases q.1 with
    | false => exact w5
    | true => exact pick_wf (l := [0, 8, 12, 64]) (pick_wf (l := [0, 1, 256, 257]) (pick_wf (l := [0, 7, 8, -1]) (pick_wf (l := [0, 1, 9, 99, 100]) w5)))
theorem on_cl {t : Tp} (h : wf t = true) (r n : Int) (hr : 0 ≤ r ∧ r ≤ 100) (hn : -2305843009213693952 ≤ n ∧ n ≤ 2305843009213693952) {α : Type} (x : α) : Sp10.on (wf t && Sp10.inside r 0 100 && small n) x = some x := on_true (by rw [h, inside_iff.2 hr, small_iff.2 hn]; rfl)
theorem g3_ok (a0 : (List Int)) (a1 : (List (Int × ((Int × (Int × (Int × Unit))) × Unit)))) (a2 : Int) (r0 : (Ty.sl (.int .i64)).ok a0) (r1 : (Ty.sl (owT)).ok a1) (r2 : IntKind.i64.has a2) : g3 a0 a1 a2 = some (true, ()) := by
  unfold g3
  have w0 := tape_wf a0
  rw [on_cl w0 7 6 (by omega) (by omega)]
  simp only [Option.bind_some]
  have w1 := claims_wf w0 7 6
  generalize claims (Sp10.tape a0) 7 6 = y3 at w1 ⊢
  rw [on_wss w1 (by omega) (by omega)]
  simp only [Option.bind_some]
  generalize range y3.2 0 3 = y4
  by_cases q : a1.length ≤ 200
  · have hL : Loop (g3_s0 a1) ((0 : Int), ((y4.1 :: (a2 :: [])), ((y3.1 :: (a1 :: [])), ()))) = some (false, ((false, ()), ())) := by
      refine Loop_seq (step := g3_s0 a1) (fun k => ((k : Int), ((y4.1 :: (a2 :: [])), ((y3.1 :: (a1 :: [])), ())))) 2 _ (fun k hk => ?_) ?_ 0 (Nat.zero_le _)
      · unfold g3_s0
        simp only [Int.ofNat_eq_natCast, Int.toNat_natCast, List.length_cons, List.length_nil, sameW_self, eq_self, decide_true]
        rw [dT (show (k : Int) < 2 by omega), dT (show (a1.length : Int) ≤ 200 by omega), dT (show (0 : Int) ≤ (k : Int) by omega), dT (show (k : Int) < ((0 + 1 + 1 : Nat) : Int) by omega), blt_t (show k < 0 + 1 + 1 by omega), wi64n (by omega)]
        rfl
      · rfl
    rw [hL]
    rfl
  · rw [Loop_step]
    have : g3_s0 a1 ((0 : Int), ((y4.1 :: (a2 :: [])), ((y3.1 :: (a1 :: [])), ()))) = some (.inr (false, ((false, ()), ()))) := by
      unfold g3_s0
      simp only [Int.ofNat_eq_natCast]
      rw [dF (show ¬ (a1.length : Int) ≤ 200 by omega)]
      rfl
    rw [this]
    rfl
theorem g5_ok (a0 : (List Int)) (a1 : Int) (a2 : Int) (a3 : Int) (a4 : Int) (r0 : (Ty.sl (.int .i64)).ok a0) (r1 : IntKind.i64.has a1) (r2 : IntKind.i64.has a2) (r3 : IntKind.i64.has a3) (r4 : IntKind.i64.has a4) : g5 a0 a1 a2 a3 a4 = some (true, ()) := by
  unfold g5
  have w0 := tape_wf a0
  rw [on_wss w0 (by omega) (by omega)]
  simp only [Option.bind_some]
  have w1 := range_wf (a := -1) (b := 258) w0
  generalize range (Sp10.tape a0) (-1) 258 = y5 at w1 ⊢
  rw [on_w w1]
  simp only [Option.bind_some]
  have w2 := wild_wf w1
  generalize wild y5.2 = y6 at w2 ⊢
  rw [on_w w2]
  simp only [Option.bind_some]
  have w3 := length_wf w2
  generalize Sp10.length y6.2 = y7 at w3 ⊢
  rw [on_w w3]
  simp only [Option.bind_some]
  have w4 := wild_wf w3
  generalize wild y7.2 = y8 at w4 ⊢
  have hat : ∀ id n : Int, (place id n).2.2.1 = true → at_ (place id n).1 (place id n).2.1 n = (id, true, ()) := by
    intro id n hp
    unfold place at hp ⊢
    cases hv : vlen n with
    | false => rw [hv] at hp; cases hp
    | true =>
      cases hi : Sp10.inside id 1 256 with
      | false => rw [hv, hi] at hp; cases hp
      | true =>
        have h1 := vlen_iff.1 hv
        have h2 := inside_iff.1 hi
        simp only [Bool.not_true, Bool.or_self, cond_false]
        unfold at_
        have d1 : Sp10.inside ((id - 1) % n) 0 (n - 1) = true := inside_iff.2 (by rcases h1 with h | h | h | h <;> subst h <;> omega)
        have d2 : Sp10.inside ((id - 1) / n) 0 31 = true := inside_iff.2 (by rcases h1 with h | h | h | h <;> subst h <;> omega)
        have d3 : (id - 1) / n * n + (id - 1) % n + 1 = id := by
          have := Int.mul_ediv_add_emod (id - 1) n
          rw [Int.mul_comm] at this
          omega
        rw [hv, d1, d2, d3, dF (show ¬ 256 < id by omega)]
        rfl
  have hin : ∀ (i : Nat) (A : List Int) (B : List Int) (t : Tp) (y : Int × List Int × Tp × List Int × Unit × Unit), i < 3 → A.length = 3 → B.length = 3 → wf t = true → y.1 = (i : Int) →
      ∃ t', wf t' = true ∧ Loop (g5_s0 a3 a4 y) ((0 : Int), (B, (t, (A, ())))) = some (false, ((false, ()), (B, (t', (A, ()))))) := by
    intro i A B t y hi hA hB ht hy
    let tk : Nat → Tp := fun k => Nat.rec t (fun _ z => (range (range z (-1) 33).2 (-1) 65).2) k
    have hw : ∀ k, wf (tk k) = true := by
      intro k
      induction k with
      | zero => exact ht
      | succ k ih => exact range_wf (a := -1) (b := 65) (range_wf (a := -1) (b := 33) ih)
    refine ⟨tk 3, hw 3, ?_⟩
    refine Loop_seq (step := g5_s0 a3 a4 y) (fun k => ((k : Int), (B, (tk k, (A, ()))))) 3 _ (fun k hk => ?_) ?_ 0 (Nat.zero_le _)
    · have w := hw k
      have ht : tk (k + 1) = (range (range (tk k) (-1) 33).2 (-1) 65).2 := rfl
      rw [ht]
      generalize tk k = z at w ⊢
      unfold g5_s0
      simp only [Int.ofNat_eq_natCast, Int.toNat_natCast, hy, hA, hB]
      rw [dT (show (k : Int) < 3 by omega), dT (show (0 : Int) ≤ (i : Int) by omega), dT (show (i : Int) < ((3 : Nat) : Int) by omega), blt_t hi, dT (show (0 : Int) ≤ (k : Int) by omega), dT (show (k : Int) < ((3 : Nat) : Int) by omega), blt_t hk, wi64n (by omega)]
      have hp := hat (A.getD i 0) (B.getD k 0)
      generalize place (A.getD i 0) (B.getD k 0) = p at hp ⊢
      simp only [eq_self, decide_true, Bool.not_true, Bool.not_false, cond_true, cond_false, Bool.and_self, Option.bind_some]
      have w5 := range_wf (a := -1) (b := 33) w
      cases hq : p.2.2.1 with
      | false =>
        simp only [cond_false, Option.bind_some]
        rw [on_wss w (by omega) (by omega)]
        simp only [Option.bind_some]
        rw [on_wss w5 (by omega) (by omega)]
        simp only [Option.bind_some]
        cases decide ((i : Int) = 0) <;> rfl
      | true =>
        rw [hp hq]
        simp only [eq_self, decide_true, Bool.not_true, cond_false, cond_true, Option.bind_some]
        rw [on_wss w (by omega) (by omega)]
        simp only [Option.bind_some]
        rw [on_wss w5 (by omega) (by omega)]
        simp only [Option.bind_some]
        cases decide ((i : Int) = 0) <;> rfl
    · rfl
  have hL : ∃ z, Loop (g5_s1 a3 a4) ((0 : Int), ((a2 :: (y7.1 :: (y8.1 :: []))), (y8.2, ((a1 :: (y5.1 :: (y6.1 :: []))), ((), ()))))) = some (false, z) := by
    obtain ⟨e, h1, h2⟩ := Loop_post (step := g5_s1 a3 a4) (fun v => ∃ i : Nat, i ≤ 3 ∧ v.1 = (i : Int) ∧ v.2.1 = (a2 :: (y7.1 :: (y8.1 :: []))) ∧ wf v.2.2.1 = true ∧ v.2.2.2.1 = (a1 :: (y5.1 :: (y6.1 :: [])))) (fun v => (3 - v.1).toNat) (fun e => e.1 = false) (fun v hv => by
      obtain ⟨i, hi, h1, h2, h3, h4⟩ := hv
      obtain ⟨v1, v2, v3, v4, ⟨⟩, ⟨⟩⟩ := v
      simp only at h1 h2 h3 h4
      subst h1 h2 h4
      by_cases hi3 : i < 3
      · right
        obtain ⟨t', w', hl⟩ := hin i (a1 :: (y5.1 :: (y6.1 :: []))) (a2 :: (y7.1 :: (y8.1 :: []))) v3 ((i : Int), ((a2 :: (y7.1 :: (y8.1 :: []))), (v3, ((a1 :: (y5.1 :: (y6.1 :: []))), ((), ()))))) hi3 rfl rfl h3 rfl
        refine ⟨(((i + 1 : Nat) : Int), ((a2 :: (y7.1 :: (y8.1 :: []))), (t', ((a1 :: (y5.1 :: (y6.1 :: []))), ((), ()))))), ?_, ⟨i + 1, by omega, rfl, rfl, w', rfl⟩, by simp only; omega⟩
        unfold g5_s1
        simp only
        rw [dT (show (i : Int) < 3 by omega), hl, wi64n (by omega)]
        rfl
      · left
        refine ⟨(false, ((false, ()), ())), ?_, rfl⟩
        unfold g5_s1
        simp only
        rw [dF (show ¬ (i : Int) < 3 by omega)]
        rfl) (v := ((0 : Int), ((a2 :: (y7.1 :: (y8.1 :: []))), (y8.2, ((a1 :: (y5.1 :: (y6.1 :: []))), ((), ())))))) ⟨0, by omega, rfl, rfl, w4, rfl⟩
    exact ⟨e.2, by rw [h1]; obtain ⟨b, z⟩ := e; simp only at h2; rw [h2]⟩
  obtain ⟨z, hL⟩ := hL
  rw [hL]
  rfl
end Go.Abs.C10

namespace Go.Abs.C10
open Go Go.Proofs Sp10
set_option maxRecDepth 100000

theorem g6_ok (a0 : (List Int)) (a1 : (List (Int × ((Int × (Int × (Int × Unit))) × Unit)))) (a2 : Int) (a3 : Int) (a4 : (List (Int × (Int × Unit)))) (r0 : (Ty.sl (.int .i64)).ok a0) (r1 : (Ty.sl (owT)).ok a1) (r2 : IntKind.i64.has a2) (r3 : IntKind.i64.has a3) (r4 : (Ty.sl (edT)).ok a4) : g6 a0 a1 a2 a3 a4 = some (true, ()) := by
  unfold g6
  have w0 := tape_wf a0
  rw [on_wss w0 (by omega) (by omega)]
  simp only [Option.bind_some]
  have w1 := range_wf (a := 0) (b := 5) w0
  have b1 := range_in (t := Sp10.tape a0) (a := 0) (b := 5) (by omega)
  generalize range (Sp10.tape a0) 0 5 = y5 at w1 b1 ⊢
  rw [on_cl w1 y5.1 2 (by omega) (by omega)]
  simp only [Option.bind_some]
  have w2 := claims_wf w1 y5.1 2
  generalize claims y5.2 y5.1 2 = y6 at w2 ⊢
  rw [on_true (show (wf y6.2 && Sp10.inside 6 1 50 && small 0) = true by rw [w2]; rfl)]
  simp only [Option.bind_some]
  have w3 := topo_wf (t := y6.2) (a := 6) (n := 0) w2 (by omega)
  generalize topo y6.2 6 0 = y7 at w3 ⊢
  rw [on_true (show (wf y7.2 && small 2 && decide (y7.1.1.length ≤ 1000)) = true by rw [w3.1, dT (show y7.1.1.length ≤ 1000 by have := w3.2; omega)]; rfl)]
  simp only [Option.bind_some]
  generalize planT y7.2 y7.1 2 = y8
  simp only [eq_self, decide_true, Bool.not_true, cond_true, cond_false]
  cases decide ((Int.ofNat a1.length) > 400) <;> cases decide ((Int.ofNat a4.length) > 200) <;> rfl
theorem g8_ok (a0 : (List Int)) (a1 : (List (Int × ((Int × (Int × (Int × Unit))) × Unit)))) (a2 : Int) (r0 : (Ty.sl (.int .i64)).ok a0) (r1 : (Ty.sl (owT)).ok a1) (r2 : IntKind.i64.has a2) : g8 a0 a1 a2 = some (true, ()) := by
  unfold g8
  have w0 := tape_wf a0
  rw [on_cl w0 5 6 (by omega) (by omega)]
  simp only [Option.bind_some]
  have w1 := claims_wf w0 5 6
  generalize claims (Sp10.tape a0) 5 6 = y3 at w1 ⊢
  rw [on_wss w1 (by omega) (by omega)]
  simp only [Option.bind_some]
  generalize range y3.2 0 3 = y4
  by_cases q : a1.length ≤ 200
  · have hin : ∀ (i : Nat) (A : List (List Ow)) (B : List Int) (y : Int × List (List Ow) × List Int × Unit), i < 2 → A.length = 2 → B.length = 2 → y.1 = (i : Int) →
        Loop (g8_s0 y) ((0 : Int), (B, (A, ()))) = some (false, ((false, ()), (B, (A, ())))) := by
      intro i A B y hi hA hB hy
      refine Loop_seq (step := g8_s0 y) (fun k => ((k : Int), (B, (A, ())))) 2 _ (fun k hk => ?_) ?_ 0 (Nat.zero_le _)
      · unfold g8_s0
        simp only [Int.ofNat_eq_natCast, Int.toNat_natCast, sameI_self, eq_self, decide_true, hy, hA, hB]
        rw [dT (show (k : Int) < 2 by omega), dT (show (0 : Int) ≤ (i : Int) by omega), dT (show (i : Int) < ((2 : Nat) : Int) by omega), blt_t hi, dT (show (0 : Int) ≤ (k : Int) by omega), dT (show (k : Int) < ((2 : Nat) : Int) by omega), blt_t hk, wi64n (by omega)]
        rfl
      · rfl
    have hL : Loop (g8_s1 a1) ((0 : Int), ((y3.1 :: (a1 :: [])), ((y4.1 :: (a2 :: [])), ()))) = some (false, ((false, ()), ())) := by
      refine Loop_seq (step := g8_s1 a1) (fun k => ((k : Int), ((y3.1 :: (a1 :: [])), ((y4.1 :: (a2 :: [])), ())))) 2 _ (fun k hk => ?_) ?_ 0 (Nat.zero_le _)
      · unfold g8_s1
        simp only [Int.ofNat_eq_natCast]
        rw [dT (show (k : Int) < 2 by omega), dT (show (a1.length : Int) ≤ 200 by omega), hin k (y3.1 :: (a1 :: [])) (y4.1 :: (a2 :: [])) _ hk rfl rfl rfl, wi64n (by omega)]
        rfl
      · rfl
    rw [hL]
    rfl
  · rw [Loop_step]
    have : g8_s1 a1 ((0 : Int), ((y3.1 :: (a1 :: [])), ((y4.1 :: (a2 :: [])), ()))) = some (.inr (false, ((false, ()), ()))) := by
      unfold g8_s1
      simp only [Int.ofNat_eq_natCast]
      rw [dF (show ¬ (a1.length : Int) ≤ 200 by omega)]
      rfl
    rw [this]
    rfl
theorem plan_ok {l : List Ow} {s : Int} (h : (plan l s).2.1 = 0) : chk l = 0 ∧ Sp10.inside s 0 7 = true ∧ (edges l s).length ≤ 24 ∧ (plan l s).1 = (s, lenM l s, edges l s, ()) := by
  unfold plan at h ⊢
  by_cases q : chk l = 0
  · rw [dT q] at h ⊢
    cases hi : Sp10.inside s 0 7 with
    | false => rw [hi] at h; cases h
    | true =>
      rw [hi] at h
      by_cases q2 : 24 < (edges l s).length
      · rw [dT q2] at h; cases h
      · rw [dF q2]
        exact ⟨q, rfl, by omega, rfl⟩
  · rw [dF q] at h
    exact absurd h q
theorem lessO_trans {a b c : Ow} (h1 : lessO a b = true) (h2 : lessO b c = true) : lessO a c = true := by
  unfold lessO at *
  simp only [Bool.or_eq_true, Bool.and_eq_true, decide_eq_true_eq] at *
  omega
theorem upO_lt {l : List Ow} (h : upO l = true) : ∀ j i, i < j → j < l.length → lessO (l.getD i zO) (l.getD j zO) = true := by
  have h1 : ∀ i, i + 1 < l.length → lessO (l.getD i zO) (l.getD (i + 1) zO) = true := by
    intro i hi
    unfold upO at h
    rw [List.all_eq_true] at h
    exact h i (List.mem_range.2 (by omega))
  intro j
  induction j with
  | zero => intro i hi; omega
  | succ j ih =>
    intro i hi hj
    by_cases q : i = j
    · subst q; exact h1 i hj
    · exact lessO_trans (ih i (by omega) (by omega)) (h1 j hj)
theorem upO_pair {l : List Ow} (h : upO l = true) : l.Pairwise (fun a b => lessO a b = true) := by
  rw [List.pairwise_iff_getElem]
  intro i j hi hj hij
  have := upO_lt h j i hij hj
  rwa [getD_ix hi, getD_ix hj] at this
theorem rep_false {l : List Int} (h : l.Pairwise (fun a b => a ≠ b)) : repeats l = false := by
  rw [Bool.eq_false_iff]
  intro hr
  obtain ⟨i, j, h1, h2, h3⟩ := (rep_iff l).1 hr
  rw [List.pairwise_iff_getElem] at h
  refine h i j (by omega) h2 h1 ?_
  rwa [getD_ix (show i < l.length by omega), getD_ix h2] at h3
theorem edge_mem {l : List Ow} (h : chk l = 0) {s : Int} {e : Ed} (he : e ∈ edges l s) : ∃ o ∈ l, subO o = s ∧ cntI l s (idO o) = 1 ∧ e = edge o := by
  have := (edges_perm h s).symm.subset he
  obtain ⟨o, ho, rfl⟩ := List.mem_map.1 this
  obtain ⟨h1, h2⟩ := List.mem_filter.1 ho
  unfold one1 mine at h2
  rw [Bool.and_eq_true, decide_eq_true_eq, decide_eq_true_eq] at h2
  exact ⟨o, h1, h2.1, h2.2, rfl⟩
theorem lnF_ok (l : List Ow) (hb : ∀ o ∈ l, badO o = false) (s : Int) : ∀ z : Int, (z = 0 ∨ vlen z = true) → (l.foldl (lnF s) z = 0 ∨ vlen (l.foldl (lnF s) z) = true) ∧ (l.foldl (lnF s) z = 0 → z = 0 ∧ ∀ o ∈ l, subO o ≠ s) := by
  induction l with
  | nil => intro z hz; exact ⟨hz, fun h => ⟨h, fun o ho => by cases ho⟩⟩
  | cons x r ih =>
    intro z hz
    have hx := badO_not (hb x (List.mem_cons_self ..))
    have ih := ih fun o ho => hb o (List.mem_cons_of_mem _ ho)
    rw [List.foldl_cons]
    have hv : lenO x ≠ 0 := by have := vlen_iff.1 hx.2.2.2; omega
    cases hc : (mine s x && (decide (z = 0) || decide (lenO x < z))) with
    | true =>
      have e : lnF s z x = lenO x := by unfold lnF; rw [hc]; rfl
      rw [e]
      obtain ⟨k1, k2⟩ := ih (lenO x) (.inr hx.2.2.2)
      exact ⟨k1, fun h => absurd (k2 h).1 hv⟩
    | false =>
      have e : lnF s z x = z := by unfold lnF; rw [hc]; rfl
      rw [e]
      obtain ⟨k1, k2⟩ := ih z hz
      refine ⟨k1, fun h => ⟨(k2 h).1, fun o ho => ?_⟩⟩
      rcases List.mem_cons.1 ho with rfl | ho
      · intro hs
        have hz0 := (k2 h).1
        unfold mine at hc
        rw [dT hs, dT hz0] at hc
        cases hc
      · exact (k2 h).2 o ho
theorem plan_valid {l : List Ow} {s : Int} (h : (plan l s).2.1 = 0) : validP (plan l s).1 = true := by
  obtain ⟨q, hs, hlen, he⟩ := plan_ok h
  rw [he]
  unfold validP
  simp only
  obtain ⟨k1, k2⟩ := lnF_ok l (fun o ho => chk_mem q ho) s 0 (.inl rfl)
  rw [← lenM_eq q] at k1 k2
  have hv : (vlen (lenM l s) || (decide (lenM l s = 0) && decide ((edges l s).length = 0))) = true := by
    rcases k1 with k | k
    · have hz : (edges l s).length = 0 := by
        match hE : edges l s with
        | [] => rfl
        | e :: r =>
          obtain ⟨o, ho, hso, -, -⟩ := edge_mem q (s := s) (e := e) (by rw [hE]; exact List.mem_cons_self ..)
          exact absurd hso ((k2 k).2 o ho)
      rw [dT k, dT hz, Bool.and_self, Bool.or_true]
    · rw [k]; rfl
  have hall : ((edges l s).all fun e => Sp10.inside e.2.1 1 256 && Sp10.inside e.1 1 99) = true := by
    rw [List.all_eq_true]
    intro e hE
    obtain ⟨o, ho, -, -, rfl⟩ := edge_mem q hE
    have := badO_not (chk_mem q ho)
    unfold edge
    rw [inside_iff.2 this.2.2.1, inside_iff.2 this.1]
    rfl
  have hup : upE (edges l s) = true := by
    unfold upE
    rw [List.all_eq_true]
    intro i hi
    have hi := List.mem_range.1 hi
    have := List.pairwise_iff_getElem.1 (edges_up l s) i (i + 1) (by omega) (by omega) (by omega)
    rw [getD_ix (show i < (edges l s).length by omega), getD_ix (show i + 1 < (edges l s).length by omega)]
    exact decide_eq_true this
  have hrep : repeats ((edges l s).map fun e => e.1) = false := by
    apply rep_false
    have hp : (((l.filter (one1 l s)).map edge).map fun e : Ed => e.1).Pairwise (fun a b => a ≠ b) := by
      rw [List.pairwise_map, List.pairwise_map]
      have h1 := (upO_pair (chk_0 q).2.2).filter (one1 l s)
      refine List.Pairwise.imp_of_mem ?_ h1
      intro a b ha hb hab
      have ha := (List.mem_filter.1 ha).2
      have hb := (List.mem_filter.1 hb).2
      unfold one1 mine at ha hb
      unfold lessO at hab
      simp only [Bool.or_eq_true, Bool.and_eq_true, decide_eq_true_eq] at ha hb hab
      unfold edge
      simp only
      omega
    have hP : (((l.filter (one1 l s)).map edge).map fun e : Ed => e.1).Perm ((edges l s).map fun e => e.1) := (edges_perm q s).map _
    exact hP.pairwise hp (fun h => fun e => h e.symm)
  rw [hs, hv, hall, hup, hrep, dT hlen]
  rfl
theorem conf_mem {l : List Ow} (h : chk l = 0) {s id : Int} (hm : id ∈ Sp10.conf l s) : 1 < cntI l s id := by
  rw [conf_eq h] at hm
  unfold cfN at hm
  obtain ⟨i, hi, rfl⟩ := List.mem_map.1 hm
  exact of_decide_eq_true (List.mem_filter.1 hi).2
theorem plan_conf {l : List Ow} {s : Int} (h : (plan l s).2.1 = 0) (k : Nat) (hk : k < (edges l s).length) : Sp10.has (Sp10.conf l s) ((edges l s).getD k zE).2.1 = false := by
  obtain ⟨q, -, -, -⟩ := plan_ok h
  rw [Bool.eq_false_iff]
  intro hh
  obtain ⟨x, hx, he⟩ := List.any_eq_true.1 hh
  have he := of_decide_eq_true he
  obtain ⟨o, ho, -, h1, h2⟩ := edge_mem q (getD_mem (d := zE) hk)
  have := conf_mem q hx
  rw [he, h2] at this
  unfold edge at this
  simp only at this
  omega
theorem g9_ok (a0 : (List Int)) (a1 : (List (Int × ((Int × (Int × (Int × Unit))) × Unit)))) (a2 : Int) (r0 : (Ty.sl (.int .i64)).ok a0) (r1 : (Ty.sl (owT)).ok a1) (r2 : IntKind.i64.has a2) : g9 a0 a1 a2 = some (true, ()) := by
  unfold g9
  have w0 := tape_wf a0
  rw [on_cl w0 6 6 (by omega) (by omega)]
  simp only [Option.bind_some]
  have w1 := claims_wf w0 6 6
  generalize claims (Sp10.tape a0) 6 6 = y3 at w1 ⊢
  rw [on_wss w1 (by omega) (by omega)]
  simp only [Option.bind_some]
  generalize range y3.2 (-1) 3 = y4
  by_cases q : a1.length ≤ 200
  · have hin : ∀ (i : Nat) (y : Int × List (List Ow) × List Int × Unit), y.1 = (i : Int) → (plan (y.2.1.getD i []) (y.2.2.1.getD i 0)).2.1 = 0 →
        Loop (g9_s0 y) ((Sp10.conf (y.2.1.getD i []) (y.2.2.1.getD i 0)), ((0 : Int), ())) = some (false, ((false, ()), ())) := by
      intro i y hy hp
      have hc := plan_conf hp
      obtain ⟨-, -, hlen, he⟩ := plan_ok hp
      refine Loop_seq (step := g9_s0 y) (fun k => ((Sp10.conf (y.2.1.getD i []) (y.2.2.1.getD i 0)), ((k : Int), ()))) (edges (y.2.1.getD i []) (y.2.2.1.getD i 0)).length _ (fun k hk => ?_) ?_ 0 (Nat.zero_le _)
      · unfold g9_s0
        simp only [Int.ofNat_eq_natCast, Int.toNat_natCast, hy]
        rw [he]
        simp only
        rw [dT (show (k : Int) < ((edges (y.2.1.getD i []) (y.2.2.1.getD i 0)).length : Int) by omega), dT (show (0 : Int) ≤ (k : Int) by omega), hc k hk, wi64n (by omega)]
        rfl
      · unfold g9_s0
        simp only [Int.ofNat_eq_natCast, Int.toNat_natCast, hy]
        rw [he]
        simp only
        rw [dF (show ¬ ((edges (y.2.1.getD i []) (y.2.2.1.getD i 0)).length : Int) < ((edges (y.2.1.getD i []) (y.2.2.1.getD i 0)).length : Int) by omega)]
        rfl
    have hL : Loop (g9_s1 a1) ((0 : Int), ((y3.1 :: (a1 :: [])), ((y4.1 :: (a2 :: [])), ()))) = some (false, ((false, ()), ())) := by
      refine Loop_seq (step := g9_s1 a1) (fun k => ((k : Int), ((y3.1 :: (a1 :: [])), ((y4.1 :: (a2 :: [])), ())))) 2 _ (fun k hk => ?_) ?_ 0 (Nat.zero_le _)
      · have hi := hin k ((k : Int), ((y3.1 :: (a1 :: [])), ((y4.1 :: (a2 :: [])), ()))) rfl
        have hv := plan_valid (l := (y3.1 :: (a1 :: [])).getD k []) (s := (y4.1 :: (a2 :: [])).getD k 0)
        unfold g9_s1
        simp only [Int.ofNat_eq_natCast, Int.toNat_natCast, sameP_self, eq_self, decide_true, List.length_cons, List.length_nil]
        simp only at hi
        rw [dT (show (k : Int) < 2 by omega), dT (show (a1.length : Int) ≤ 200 by omega), dT (show (0 : Int) ≤ (k : Int) by omega), dT (show (k : Int) < ((0 + 1 + 1 : Nat) : Int) by omega), blt_t (show k < 0 + 1 + 1 by omega), wi64n (by omega)]
        by_cases hz : (plan ((y3.1 :: (a1 :: [])).getD k []) ((y4.1 :: (a2 :: [])).getD k 0)).2.1 = 0
        · rw [dT hz, hi hz, hv hz]
          rfl
        · rw [dF hz]
          rfl
      · rfl
    rw [hL]
    rfl
  · rw [Loop_step]
    have : g9_s1 a1 ((0 : Int), ((y3.1 :: (a1 :: [])), ((y4.1 :: (a2 :: [])), ()))) = some (.inr (false, ((false, ()), ()))) := by
      unfold g9_s1
      simp only [Int.ofNat_eq_natCast]
      rw [dF (show ¬ (a1.length : Int) ≤ 200 by omega)]
      rfl
    rw [this]
    rfl
end Go.Abs.C10

namespace Go.Abs.C10
open Go Go.Proofs Sp10
set_option maxRecDepth 100000

def fullR (r : Nat) (k : Nat) : List Ow := (List.range k).map fun (s : Nat) => ((r : Int) + 1, ((s : Int), (r : Int) + 1, 64, ()), ())
def full (k : Nat) : List Ow := (List.range k).flatMap fun r => fullR r 8
theorem full_len : ∀ k, (full k).length = 8 * k
  | 0 => rfl
  | k + 1 => by
    unfold full
    rw [List.range_succ, List.flatMap_append, List.length_append]
    have := full_len k
    unfold full at this
    rw [this]
    simp only [List.flatMap_cons, List.flatMap_nil, List.append_nil, fullR, List.length_map, List.length_range]
    omega
theorem full_chk : chk (full 24) = 0 := by kernel_rfl
theorem full_free : ∀ s : Nat, s < 8 → Sp10.free (full 24) (s : Int) = (25, true, ()) := by
  intro s hs
  have h8 : (List.range 8).all (fun s : Nat => decide (Sp10.free (full 24) (s : Int) = (25, true, ()))) = true := by kernel_rfl
  rw [List.all_eq_true] at h8
  exact of_decide_eq_true (h8 s (List.mem_range.2 hs))
theorem g4_ok (a0 : Int) (r0 : IntKind.u8.has a0) : g4 a0 = some (true, ()) := by
  have hb := has_u8 r0
  have hin : ∀ (r : Nat) (y : Int × Int × List Ow × Unit), r < 24 → y.1 = (r : Int) + 1 → y.2.1 = (r : Int) + 1 → Loop (g4_s0 y) (full r, ((0 : Int), ())) = some (full (r + 1), ()) := by
    intro r y hr h1 h2
    have e8 : full (r + 1) = full r ++ fullR r 8 := by
      unfold full
      rw [List.range_succ, List.flatMap_append]
      simp only [List.flatMap_cons, List.flatMap_nil, List.append_nil]
    have hl := full_len r
    rw [e8]
    have h := Loop_seq (step := g4_s0 y) (fun k => (full r ++ fullR r k, ((k : Int), ()))) 8 ((full r ++ fullR r 8, ()) : List Ow × Unit) (fun k hk => ?_) ?_ 0 (Nat.zero_le _)
    · have e0 : fullR r 0 = [] := rfl
      rw [e0, List.append_nil] at h
      exact h
    · have hs : fullR r (k + 1) = fullR r k ++ [((r : Int) + 1, ((k : Int), (r : Int) + 1, 64, ()), ())] := by
        unfold fullR
        rw [List.range_succ, List.map_append]
        rfl
      have hlk : (fullR r k).length = k := by unfold fullR; rw [List.length_map, List.length_range]
      unfold g4_s0
      simp only [h1, h2]
      rw [dT (show (k : Int) ≤ 7 by omega), ble_t (show ((full r ++ fullR r k).length + 1) * 32 ≤ 140737488355328 by rw [List.length_append]; omega), wi64n (by omega), hs, List.append_assoc]
      rfl
    · rfl
  have hL : Loop g4_s1 ((1 : Int), ((1 : Int), (([] : List Ow), ()))) = some (full 24, ()) := by
    refine Loop_seq (step := g4_s1) (fun k => ((k : Int) + 1, ((k : Int) + 1, (full k, ())))) 24 _ (fun k hk => ?_) ?_ 0 (Nat.zero_le _)
    · unfold g4_s1
      simp only
      rw [dT (show (k : Int) + 1 ≤ 24 by omega), hin k ((k : Int) + 1, ((k : Int) + 1, (full k, ()))) hk rfl rfl, wi64 (n := (k : Int) + 1 + 1) (by omega) (by omega)]
      rfl
    · rfl
  unfold g4
  rw [hL]
  simp only [Option.bind_some, Int.ofNat_eq_natCast, Int.toNat_natCast, List.drop_zero, List.take_length]
  have e1 : Int.tmod a0 8 = a0 % 8 := tmod_nn hb.1
  have e2 : IntKind.wrap .i64 (a0 % 8) = a0 % 8 := wi64 (by omega) (by omega)
  rw [e1, e2]
  obtain ⟨s, hs⟩ : ∃ s : Nat, a0 % 8 = (s : Int) := ⟨(a0 % 8).toNat, by omega⟩
  rw [hs, full_free s (by omega), full_chk]
  have hl := full_len 24
  have e3 : chk (full 24 ++ ((25, ((0, (1, (8, ()))), ())) :: [])) = 3 := by
    unfold chk
    rw [List.length_append, hl]
    rfl
  rw [e3, hl]
  rfl
end Go.Abs.C10

namespace Go.Abs.C10
open Go Go.Proofs Sp10
set_option maxRecDepth 100000

theorem pigeon : ∀ (n : Nat) (L : List Int), L.length < n → ∃ i : Nat, i < n ∧ ((i : Int) + 1) ∉ L
  | 0, L, h => absurd h (by omega)
  | n + 1, L, h => by
    by_cases hm : ((n : Int) + 1) ∈ L
    · have hlt : (L.filter fun x => decide (x ≠ (n : Int) + 1)).length < L.length := by
        rw [List.length_filter_lt_length_iff_exists]
        exact ⟨_, hm, by simp⟩
      obtain ⟨i, hi, hn⟩ := pigeon n (L.filter fun x => decide (x ≠ (n : Int) + 1)) (by omega)
      refine ⟨i, by omega, fun hc => hn (List.mem_filter.2 ⟨hc, decide_eq_true (by omega)⟩)⟩
    · exact ⟨n, by omega, hm⟩
theorem cnt_pos {l : List Ow} {s id : Int} : 0 < cntI l s id ↔ ∃ o ∈ l, subO o = s ∧ idO o = id := by
  unfold cntI
  rw [List.countP_pos_iff]
  constructor
  · rintro ⟨o, ho, h⟩
    unfold hit at h
    rw [Bool.and_eq_true, decide_eq_true_eq, decide_eq_true_eq] at h
    exact ⟨o, ho, h⟩
  · rintro ⟨o, ho, h1, h2⟩
    exact ⟨o, ho, by unfold hit; rw [dT h1, dT h2]; rfl⟩
theorem free_is (l : List Ow) (s : Int) (g : List Int) (hl : l.length + g.length < 256) : (freeP (okId l s g)).2.1 = true ∧ okId l s g (freeP (okId l s g)).1 = true := by
  obtain ⟨i, hi, hn⟩ := pigeon 256 (l.map idO ++ g) (by rw [List.length_append, List.length_map]; omega)
  have hok : okId l s g ((i : Int) + 1) = true := by
    unfold okId
    rw [Bool.and_eq_true, decide_eq_true_eq, Bool.not_eq_true']
    constructor
    · refine Nat.eq_zero_of_not_pos fun hp => ?_
      obtain ⟨o, ho, -, h2⟩ := cnt_pos.1 hp
      exact hn (List.mem_append_left _ (List.mem_map.2 ⟨o, ho, h2⟩))
    · rw [Bool.eq_false_iff]
      intro ha
      obtain ⟨y, hy, he⟩ := List.any_eq_true.1 ha
      rw [of_decide_eq_true he] at hy
      exact hn (List.mem_append_right _ hy)
  unfold freeP
  cases hf : (List.range 256).find? (fun i : Nat => okId l s g ((i : Int) + 1)) with
  | none =>
    rw [List.find?_eq_none] at hf
    exact absurd hok (hf i (List.mem_range.2 hi))
  | some j => exact ⟨rfl, List.find?_some (p := fun i : Nat => okId l s g ((i : Int) + 1)) hf⟩
theorem cnt_snoc (l : List Ow) (o : Ow) (s id : Int) : cntI (l ++ [o]) s id = cntI l s id + (bif hit s id o then 1 else 0) := by
  unfold cntI
  rw [List.countP_append, List.countP_singleton]
  cases hit s id o <;> rfl
structure RInv (l : List Ow) (s : Int) (k : Nat) (r : List Ow × List Int) : Prop where
  l1 : r.1.length = k
  l2 : r.2.length ≤ k
  i1 : ∀ j, j < k → (r.1.getD j zO).1 = (l.getD j zO).1 ∧ subO (r.1.getD j zO) = subO (l.getD j zO) ∧ lenO (r.1.getD j zO) = lenO (l.getD j zO)
  i2 : ∀ j, j < k → r.1.getD j zO = l.getD j zO ∨ (subO (l.getD j zO) = s ∧ 1 < cntI l s (idO (l.getD j zO)))
  i3 : ∀ g ∈ r.2, cntI l s g = 0 ∧ 1 ≤ g ∧ g ≤ 256
  i4 : ∀ id, cntI r.1 s id ≤ 1 ∧ (0 < cntI r.1 s id → 0 < cntI (l.take k) s id ∨ id ∈ r.2)
  i5 : ∀ j, j < k → 1 ≤ idO (r.1.getD j zO) ∧ idO (r.1.getD j zO) ≤ 256
theorem cnt_take_le (l : List Ow) (s id : Int) (k : Nat) : cntI (l.take k) s id ≤ cntI l s id := by
  unfold cntI
  exact (List.take_sublist k l).countP_le
theorem getD_snoc (a : List Ow) (x : Ow) (k j : Nat) (ha : a.length = k) (hj : j < k + 1) : (a ++ [x]).getD j zO = if j = k then x else a.getD j zO := by
  rw [getD_app]
  by_cases q : j = k
  · rw [if_pos q, if_neg (by omega), ha, q, Nat.sub_self]
    rfl
  · rw [if_neg q, if_pos (by omega)]
theorem resN_inv {l : List Ow} (hc : chk l = 0) (hl : l.length ≤ 100) (s : Int) : ∀ k, k ≤ l.length → ∃ r, resN l s k = some r ∧ RInv l s k r
  | 0, _ => ⟨([], []), rfl, ⟨rfl, Nat.le_refl _, fun j hj => absurd hj (by omega), fun j hj => absurd hj (by omega), fun g hg => (by cases hg), fun id => ⟨Nat.zero_le _, fun h => absurd h (Nat.lt_irrefl _)⟩, fun j hj => absurd hj (by omega)⟩⟩
  | k + 1, hk => by
    obtain ⟨r, hr, R⟩ := resN_inv hc hl s k (by omega)
    rw [resN_succ l s k r hr]
    have hkl : k < l.length := by omega
    have hmem := getD_mem (d := zO) hkl
    have hb := badO_not (chk_mem hc hmem)
    cases hq : (mine s (l.getD k zO) && decide (0 < (l.take k).countP (hit s (idO (l.getD k zO))))) with
    | false =>
      refine ⟨(r.1 ++ [l.getD k zO], r.2), rfl, ⟨by rw [List.length_append, R.l1]; rfl, by have := R.l2; simp only; omega, fun j hj => ?_, fun j hj => ?_, R.i3, fun id => ?_, fun j hj => ?_⟩⟩
      · simp only [getD_snoc r.1 _ k j R.l1 hj]
        by_cases q : j = k
        · rw [if_pos q, q]; exact ⟨rfl, rfl, rfl⟩
        · rw [if_neg q]; exact R.i1 j (by omega)
      · simp only [getD_snoc r.1 _ k j R.l1 hj]
        by_cases q : j = k
        · rw [if_pos q, q]; exact .inl rfl
        · rw [if_neg q]; exact R.i2 j (by omega)
      · simp only [cnt_snoc, cnt_take l s id k hkl]
        have h4 := R.i4 id
        cases hh : hit s id (l.getD k zO) with
        | false =>
          exact ⟨h4.1, fun h => by
            rcases h4.2 h with h | h
            · exact .inl (by simp only [cond_false]; omega)
            · exact .inr h⟩
        | true =>
          unfold hit at hh
          rw [Bool.and_eq_true, decide_eq_true_eq, decide_eq_true_eq] at hh
          have hz : cntI r.1 s id = 0 := by
            refine Nat.eq_zero_of_not_pos fun hp => ?_
            rcases h4.2 hp with h | h
            · unfold mine at hq
              rw [dT hh.1, hh.2, Bool.true_and, decide_eq_false_iff_not] at hq
              exact hq h
            · have := (R.i3 id h).1
              exact absurd (cnt_pos.2 ⟨_, hmem, hh⟩) (by omega)
          rw [hz]
          exact ⟨Nat.le_refl _, fun _ => .inl (by simp only [cond_true]; omega)⟩
      · simp only [getD_snoc r.1 _ k j R.l1 hj]
        by_cases q : j = k
        · rw [if_pos q]; exact hb.2.2.1
        · rw [if_neg q]; exact R.i5 j (by omega)
    | true =>
      have hl2 := R.l2
      obtain ⟨hf, hok⟩ := free_is l s r.2 (by omega)
      have hfb := freeP_in _ hf
      rw [hf]
      rw [Bool.and_eq_true, decide_eq_true_eq] at hq
      obtain ⟨hm, hp⟩ := hq
      have hm : subO (l.getD k zO) = s := of_decide_eq_true hm
      generalize (freeP (okId l s r.2)).1 = f at hok hfb
      unfold okId at hok
      rw [Bool.and_eq_true, decide_eq_true_eq, Bool.not_eq_true'] at hok
      have hnot : f ∉ r.2 := fun hc => by
        rw [List.any_eq_false] at hok
        exact hok.2 f hc (decide_eq_true rfl)
      refine ⟨(r.1 ++ [setId (l.getD k zO) f], r.2 ++ [f]), rfl, ⟨by rw [List.length_append, R.l1]; rfl, by simp only [List.length_append, List.length_cons, List.length_nil]; omega, fun j hj => ?_, fun j hj => ?_, fun g hg => ?_, fun id => ?_, fun j hj => ?_⟩⟩
      · simp only [getD_snoc r.1 _ k j R.l1 hj]
        by_cases q : j = k
        · rw [if_pos q, q]; exact ⟨rfl, rfl, rfl⟩
        · rw [if_neg q]; exact R.i1 j (by omega)
      · simp only [getD_snoc r.1 _ k j R.l1 hj]
        by_cases q : j = k
        · rw [if_pos q, q]
          refine .inr ⟨hm, ?_⟩
          have h1 : cntI (l.take (k + 1)) s (idO (l.getD k zO)) = cntI (l.take k) s (idO (l.getD k zO)) + 1 := by
            rw [cnt_take l s _ k hkl]
            have : hit s (idO (l.getD k zO)) (l.getD k zO) = true := by unfold hit; rw [dT hm, dT rfl]; rfl
            rw [this]
            rfl
          have h2 := cnt_take_le l s (idO (l.getD k zO)) (k + 1)
          have h3 : 0 < cntI (l.take k) s (idO (l.getD k zO)) := hp
          omega
        · rw [if_neg q]; exact R.i2 j (by omega)
      · rcases List.mem_append.1 hg with h | h
        · exact R.i3 g h
        · rw [List.mem_singleton.1 h]
          exact ⟨hok.1, hfb⟩
      · simp only [cnt_snoc, cnt_take l s id k hkl]
        have h4 := R.i4 id
        have hidf : hit s id (setId (l.getD k zO) f) = decide (f = id) := by
          unfold hit setId
          show (decide (subO (l.getD k zO) = s) && decide (f = id)) = _
          rw [dT hm]
          rfl
        rw [hidf]
        by_cases q : f = id
        · rw [dT q]
          subst q
          have hz : cntI r.1 s f = 0 := by
            refine Nat.eq_zero_of_not_pos fun hp => ?_
            rcases h4.2 hp with h | h
            · have := cnt_take_le l s f k; omega
            · exact hnot h
          rw [hz]
          exact ⟨Nat.le_refl _, fun _ => .inr (List.mem_append_right _ (List.mem_singleton.2 rfl))⟩
        · rw [dF q]
          exact ⟨h4.1, fun h => by
            rcases h4.2 h with h | h
            · exact .inl (by omega)
            · exact .inr (List.mem_append_left _ h)⟩
      · simp only [getD_snoc r.1 _ k j R.l1 hj]
        by_cases q : j = k
        · rw [if_pos q]; exact hfb
        · rw [if_neg q]; exact R.i5 j (by omega)
theorem resN_calm {m : List Ow} {s : Int} (h : ∀ id, cntI m s id ≤ 1) : ∀ k, k ≤ m.length → resN m s k = some (m.take k, [])
  | 0, _ => rfl
  | k + 1, hk => by
    rw [resN_succ m s k _ (resN_calm h k (by omega))]
    have : (mine s (m.getD k zO) && decide (0 < (m.take k).countP (hit s (idO (m.getD k zO))))) = false := by
      rw [Bool.eq_false_iff]
      intro hq
      rw [Bool.and_eq_true, decide_eq_true_eq] at hq
      have hm : subO (m.getD k zO) = s := of_decide_eq_true hq.1
      have h1 := cnt_take m s (idO (m.getD k zO)) k (by omega)
      have hh : hit s (idO (m.getD k zO)) (m.getD k zO) = true := by unfold hit; rw [dT hm, dT rfl]; rfl
      rw [hh] at h1
      have h2 := cnt_take_le m s (idO (m.getD k zO)) (k + 1)
      have h3 := h (idO (m.getD k zO))
      have h4 : 0 < cntI (m.take k) s (idO (m.getD k zO)) := hq.2
      simp only [cond_true] at h1
      omega
    rw [this, take_succ_getD m k zO (by omega)]
    rfl
theorem settle {l : List Ow} (hc : chk l = 0) (hl : l.length ≤ 24) {s : Int} (hs : Sp10.inside s 0 7 = true) :
    (res l s).2.1 = 0 ∧ (res l s).1.length = l.length ∧ chk (res l s).1 = 0 ∧ res (res l s).1 s = ((res l s).1, 0, ()) ∧ Sp10.conf (res l s).1 s = [] ∧
    (plan (res l s).1 s).2.1 = 0 ∧ (plan (res l s).1 s).1.2.2.1.length = (res l s).1.countP (mine s) ∧
    (∀ j, j < l.length → ((res l s).1.getD j zO).1 = (l.getD j zO).1 ∧ subO ((res l s).1.getD j zO) = subO (l.getD j zO) ∧ lenO ((res l s).1.getD j zO) = lenO (l.getD j zO)) ∧
    (∀ j, j < l.length → (res l s).1.getD j zO = l.getD j zO ∨ (subO (l.getD j zO) = s ∧ Sp10.has (Sp10.conf l s) (idO (l.getD j zO)) = true)) := by
  obtain ⟨r, hr, R⟩ := resN_inv hc (by omega) s l.length (Nat.le_refl _)
  have he : res l s = (r.1, 0, ()) := by
    unfold res
    rw [dT hc, hr]
    rfl
  rw [he]
  have hchk : chk r.1 = 0 := by
    have h1 : ¬ 192 < r.1.length := by rw [R.l1]; omega
    have h2 : r.1.any badO = false := by
      rw [List.any_eq_false]
      intro o ho
      obtain ⟨j, hj, rfl⟩ := List.getElem_of_mem ho
      rw [R.l1] at hj
      rw [← getD_ix (d := zO)]
      have hb := badO_not (chk_mem hc (getD_mem (d := zO) hj))
      obtain ⟨k1, k2, k3⟩ := R.i1 j hj
      have k5 := R.i5 j hj
      unfold badO
      rw [k1, k2, k3, inside_iff.2 hb.1, inside_iff.2 hb.2.1, inside_iff.2 k5, hb.2.2.2]
      exact Bool.false_ne_true
    have h3 : upO r.1 = true := by
      have hu := (chk_0 hc).2.2
      unfold upO at hu ⊢
      rw [List.all_eq_true] at hu ⊢
      intro i hi
      have hi2 := List.mem_range.1 hi
      rw [R.l1] at hi2
      have := hu i (List.mem_range.2 hi2)
      unfold lessO at this ⊢
      rw [(R.i1 i (by omega)).1, (R.i1 i (by omega)).2.1, (R.i1 (i + 1) (by omega)).1, (R.i1 (i + 1) (by omega)).2.1]
      exact this
    unfold chk
    rw [dF h1, h2, h3]
    rfl
  have hle : ∀ id, cntI r.1 s id ≤ 1 := fun id => (R.i4 id).1
  have hres : res r.1 s = (r.1, 0, ()) := by
    unfold res
    rw [dT hchk, resN_calm hle r.1.length (Nat.le_refl _), List.take_length]
    rfl
  have hconf : Sp10.conf r.1 s = [] := by
    rw [conf_eq hchk]
    unfold cfN
    have : ((List.range 256).filter fun (i : Nat) => decide (1 < cntI r.1 s ((i : Int) + 1))) = [] := by
      rw [List.filter_eq_nil_iff]
      intro i _ hh
      have := of_decide_eq_true hh
      have := hle ((i : Int) + 1)
      omega
    rw [this]
    rfl
  have hone : r.1.filter (one1 r.1 s) = r.1.filter (mine s) := by
    refine List.filter_congr fun o ho => ?_
    unfold one1
    cases hm : mine s o with
    | false => rfl
    | true =>
      have h1 := hle (idO o)
      have h2 : 0 < cntI r.1 s (idO o) := cnt_pos.2 ⟨o, ho, of_decide_eq_true hm, rfl⟩
      rw [dT (show cntI r.1 s (idO o) = 1 by omega)]
      rfl
  have helen : (edges r.1 s).length = r.1.countP (mine s) := by
    rw [← edges_len hchk s, hone, List.length_map, ← List.countP_eq_length_filter]
  have hcp : r.1.countP (mine s) ≤ r.1.length := List.countP_le_length
  have hplan : plan r.1 s = ((s, lenM r.1 s, edges r.1 s, ()), 0, ()) := by
    unfold plan
    rw [dT hchk, hs, dF (show ¬ 24 < (edges r.1 s).length by have := R.l1; omega)]
    rfl
  refine ⟨rfl, R.l1, hchk, hres, hconf, by rw [hplan], by rw [hplan]; exact helen, R.i1, fun j hj => ?_⟩
  rcases R.i2 j hj with h | ⟨h1, h2⟩
  · exact .inl h
  · refine .inr ⟨h1, ?_⟩
    have hb := badO_not (chk_mem hc (getD_mem (d := zO) hj))
    unfold Sp10.has
    rw [List.any_eq_true]
    refine ⟨idO (l.getD j zO), ?_, decide_eq_true rfl⟩
    rw [conf_eq hc]
    unfold cfN
    rw [List.mem_map]
    refine ⟨(idO (l.getD j zO) - 1).toNat, List.mem_filter.2 ⟨List.mem_range.2 (by omega), ?_⟩, by omega⟩
    rw [show (((idO (l.getD j zO) - 1).toNat : Nat) : Int) + 1 = idO (l.getD j zO) by omega]
    exact decide_eq_true h2
structure CInv (l : List Ow) (r s : Int) : Prop where
  ok : ∀ o ∈ l, badO o = false
  up : l.Pairwise (fun a b => lessO a b = true)
  lt : ∀ o ∈ l, o.1 < r ∨ (o.1 = r ∧ subO o < s)
theorem pick_id (t : Tp) : 1 ≤ (Sp10.pick t [1, 2, 3, 4, 5, 8, 9, 256]).1 ∧ (Sp10.pick t [1, 2, 3, 4, 5, 8, 9, 256]).1 ≤ 256 := by
  have h := pick_mem t (l := [1, 2, 3, 4, 5, 8, 9, 256]) (by decide)
  simp only [List.mem_cons, List.not_mem_nil, or_false] at h
  omega
theorem claim_inv {r s : Int} {st : List Ow × Tp} (hr : 1 ≤ r ∧ r ≤ 99) (hs : 0 ≤ s ∧ s ≤ 7) (h : CInv st.1 r s) : CInv (claim1 r s st).1 r (s + 1) := by
  have hw : CInv st.1 r (s + 1) := ⟨h.ok, h.up, fun o ho => by have := h.lt o ho; omega⟩
  unfold claim1
  simp only
  generalize next st.2 3 = x
  cases decide (0 < x.1) with
  | false => exact hw
  | true =>
    simp only [cond_true]
    have hp := pick_id x.2
    generalize Sp10.pick x.2 [1, 2, 3, 4, 5, 8, 9, 256] = p at hp ⊢
    have hq := len_in p.2
    generalize Sp10.length p.2 = q at hq ⊢
    refine ⟨fun o ho => ?_, ?_, fun o ho => ?_⟩
    · rcases List.mem_append.1 ho with ho | ho
      · exact h.ok o ho
      · rw [List.mem_singleton.1 ho]
        unfold badO subO idO lenO
        simp only
        rw [inside_iff.2 hr, inside_iff.2 hs, inside_iff.2 hp, vlen_iff.2 hq]
        rfl
    · rw [List.pairwise_append]
      refine ⟨h.up, List.pairwise_singleton _ _, fun a ha b hb => ?_⟩
      rw [List.mem_singleton.1 hb]
      have := h.lt a ha
      unfold lessO
      simp only [Bool.or_eq_true, Bool.and_eq_true, decide_eq_true_eq]
      rcases this with h1 | ⟨h1, h2⟩
      · exact .inl h1
      · exact .inr ⟨h1, h2⟩
    · rcases List.mem_append.1 ho with ho | ho
      · exact hw.lt o ho
      · rw [List.mem_singleton.1 ho]
        right
        exact ⟨rfl, by unfold subO; simp only; omega⟩
theorem claimsS_inv {r : Int} {st : List Ow × Tp} (hr : 1 ≤ r ∧ r ≤ 99) (h : CInv st.1 r 0) : ∀ k : Nat, k ≤ 7 → CInv (claimsS r st k).1 r k
  | 0, _ => h
  | k + 1, hk => by
    have := claim_inv hr (s := k) (by omega) (claimsS_inv hr h k (by omega))
    exact this
theorem claimsN_inv (t : Tp) : ∀ k : Nat, k ≤ 98 → CInv (claimsN t k).1 ((k : Int) + 1) 0
  | 0, _ => ⟨fun o ho => (by cases ho), List.Pairwise.nil, fun o ho => (by cases ho)⟩
  | k + 1, hk => by
    have h1 := claimsS_inv (r := (k : Int) + 1) (st := claimsN t k) (by omega) (claimsN_inv t k (by omega)) 3 (by omega)
    refine ⟨h1.ok, h1.up, fun o ho => ?_⟩
    have := h1.lt o ho
    omega
theorem claims_chk {t : Tp} (h : wf t = true) : chk (claims t 7 0).1 = 0 ∧ (claims t 7 0).1.length ≤ 21 := by
  have e : claims t 7 0 = claimsN t 7 := by
    unfold claims
    simp only
    rw [dF (show ¬ (0 : Int) < 0 by omega), cond_false, show Int.toNat 7 = 7 from rfl]
  rw [e]
  obtain ⟨-, hl⟩ := claimsN_wf t h 7
  have C := claimsN_inv t 7 (by omega)
  generalize (claimsN t 7).1 = l at hl C
  refine ⟨?_, hl⟩
  have h2 : l.any badO = false := by
    rw [List.any_eq_false]
    intro o ho
    rw [C.ok o ho]
    exact Bool.false_ne_true
  have h3 : upO l = true := by
    unfold upO
    rw [List.all_eq_true]
    intro i hi
    have hi := List.mem_range.1 hi
    have := List.pairwise_iff_getElem.1 C.up i (i + 1) (by omega) (by omega) (by omega)
    rwa [← getD_ix (d := zO), ← getD_ix (d := zO)] at this
  unfold chk
  rw [dF (show ¬ 192 < l.length by omega), h2, h3]
  rfl
theorem g7_ok (a0 : (List Int)) (r0 : (Ty.sl (.int .i64)).ok a0) : g7 a0 = some (true, ()) := by
  unfold g7
  have w0 := tape_wf a0
  rw [on_cl w0 7 0 (by omega) (by omega)]
  simp only [Option.bind_some]
  have w1 := claims_wf w0 7 0
  obtain ⟨hc, hl⟩ := claims_chk w0
  generalize claims (Sp10.tape a0) 7 0 = y1 at w1 hc hl ⊢
  rw [on_w w1]
  simp only [Option.bind_some]
  have hb := next_range (t := y1.2) (n := 3) (by omega)
  generalize next y1.2 3 = y2 at hb ⊢
  obtain ⟨t1, t2, t3, t4, t5, t6, t7, t8, t9⟩ := settle hc (by omega) (s := y2.1) (inside_iff.2 (by omega))
  have hL : Loop (g7_s0 y1 y2) ((0 : Int), ((Sp10.conf y1.1 y2.1), ())) = some (false, ((false, ()), ())) := by
    refine Loop_seq (step := g7_s0 y1 y2) (fun k => ((k : Int), ((Sp10.conf y1.1 y2.1), ()))) y1.1.length _ (fun k hk => ?_) ?_ 0 (Nat.zero_le _)
    · obtain ⟨k1, k2, k3⟩ := t8 k hk
      have k4 := t9 k hk
      unfold g7_s0
      unfold subO idO lenO at *
      simp only [Int.ofNat_eq_natCast, Int.toNat_natCast]
      rw [t2, dT (show (k : Int) < (y1.1.length : Int) by omega), dT (show (0 : Int) ≤ (k : Int) by omega), wi64n (by omega)]
      rw [dT k1, dT k2, dT k3]
      by_cases q1 : ((res y1.1 y2.1).1.getD k zO).2.1.2.1 = (y1.1.getD k zO).2.1.2.1
      · rw [dT q1]
        rfl
      · have k5 : (y1.1.getD k zO).2.1.1 = y2.1 ∧ Sp10.has (Sp10.conf y1.1 y2.1) (y1.1.getD k zO).2.1.2.1 = true := by
          rcases k4 with h | h
          · exact absurd (by rw [h]) q1
          · exact h
        rw [dF q1, dT k5.1, k5.2]
        rfl
    · unfold g7_s0
      simp only [Int.ofNat_eq_natCast]
      rw [dF (show ¬ (y1.1.length : Int) < (y1.1.length : Int) by omega)]
      rfl
  have hM : Loop (g7_s1 y1 y2) ((0 : Int), ((0 : Int), ())) = some ((((res y1.1 y2.1).1.countP (mine y2.1) : Nat) : Int), ()) := by
    have h := Loop_seq (step := g7_s1 y1 y2) (fun k => (((((res y1.1 y2.1).1.take k).countP (mine y2.1) : Nat) : Int), ((k : Int), ()))) (res y1.1 y2.1).1.length (((((res y1.1 y2.1).1.countP (mine y2.1) : Nat) : Int), ()) : Int × Unit) (fun k hk => ?_) ?_ 0 (Nat.zero_le _)
    · exact h
    · have hcp : ((res y1.1 y2.1).1.take k).countP (mine y2.1) ≤ k := by
        have : ((res y1.1 y2.1).1.take k).countP (mine y2.1) ≤ ((res y1.1 y2.1).1.take k).length := List.countP_le_length
        rw [List.length_take] at this
        omega
      have hsn : ((res y1.1 y2.1).1.take (k + 1)).countP (mine y2.1) = ((res y1.1 y2.1).1.take k).countP (mine y2.1) + (bif mine y2.1 ((res y1.1 y2.1).1.getD k zO) then 1 else 0) := by
        rw [take_succ_getD _ k zO hk, List.countP_append, List.countP_singleton]
        cases mine y2.1 ((res y1.1 y2.1).1.getD k zO) <;> rfl
      rw [hsn]
      unfold g7_s1 mine subO
      unfold mine subO at hcp
      simp only [Int.ofNat_eq_natCast, Int.toNat_natCast]
      rw [dT (show (k : Int) < ((res y1.1 y2.1).1.length : Int) by omega), dT (show (0 : Int) ≤ (k : Int) by omega), wi64n (by omega), wi64n (by omega)]
      cases decide (((res y1.1 y2.1).1.getD k (0, (0, 0, 0, ()), ())).2.1.1 = y2.1) <;> rfl
    · unfold g7_s1
      simp only [Int.ofNat_eq_natCast]
      rw [dF (show ¬ ((res y1.1 y2.1).1.length : Int) < ((res y1.1 y2.1).1.length : Int) by omega), List.take_length]
      rfl
  have t4' : (res (res y1.1 y2.1).1 y2.1).1 = (res y1.1 y2.1).1 := by rw [t4]
  have t4'' : (res (res y1.1 y2.1).1 y2.1).2.1 = 0 := by rw [t4]
  rw [hL, hM, t4', t4'', t1, t2, t3, t5, t6, t7, sameW_self]
  simp only [Int.ofNat_eq_natCast, eq_self, decide_true, Bool.not_true, Bool.not_false, cond_true, cond_false, Option.bind_some, List.length_nil]
  rfl
end Go.Abs.C10

namespace Go.Abs.C10
open Go Go.Proofs
theorem ok61 : FunOk Try.prog B 61 c61 := glue L0 gam_nil plan61 Try.func61 (by kernel_rfl) (by
  rintro ⟨⟨⟩, a0, a1, ⟨⟩⟩ y r h
  exact (g61_eq a0 a1).trans ((g61_ok a0 a1 r.2.1 r.2.2.1).trans h))
theorem all61 : ∀ g con, lookC L61 g = some con → FunOk Try.prog B (g % 1000000) con := gam_cons rfl ok61 gam_nil

theorem ok62 : FunOk Try.prog B 62 c62 := glue L61 all61 plan62 Try.func62 (by kernel_rfl) (by
  rintro ⟨⟨a0, a1, ⟨⟩⟩, ⟨⟩⟩ y r h
  obtain ⟨h1, h2⟩ := Sp10.on_some h
  subst h2
  exact (g62_eq a0 a1).trans (g62_ok a0 a1 r.1.1 r.1.2.1 h1))
theorem all62 : ∀ g con, lookC L62 g = some con → FunOk Try.prog B (g % 1000000) con := gam_cons rfl ok62 all61

theorem ok31 : FunOk Try.prog B 31 c31 := glue L62 all62 plan31 Try.func31 (by kernel_rfl) (by
  rintro ⟨⟨a0, a1, ⟨⟩⟩, a2, ⟨⟩⟩ y r h
  obtain ⟨h1, h2⟩ := Sp10.on_some h
  subst h2
  exact (g31_eq a0 a1 a2).trans (g31_ok a0 a1 a2 r.1.1 r.1.2.1 r.2.1 h1))
theorem all31 : ∀ g con, lookC L31 g = some con → FunOk Try.prog B (g % 1000000) con := gam_cons rfl ok31 all62

theorem ok12 : FunOk Try.prog B 12 c12 := glue L31 all31 plan12 Try.func12 (by kernel_rfl) (by
  rintro ⟨⟨a0, a1, ⟨⟩⟩, a2, a3, ⟨⟩⟩ y r h
  obtain ⟨h1, h2⟩ := Sp10.on_some h
  subst h2
  exact (g12_eq a0 a1 a2 a3).trans (g12_ok a0 a1 a2 a3 r.1.1 r.1.2.1 r.2.1 r.2.2.1 h1))
theorem all12 : ∀ g con, lookC L12 g = some con → FunOk Try.prog B (g % 1000000) con := gam_cons rfl ok12 all31

theorem ok43 : FunOk Try.prog B 43 c43 := glue L12 all12 plan43 Try.func43 (by kernel_rfl) (by
  rintro ⟨⟨a0, a1, ⟨⟩⟩, a2, ⟨⟩⟩ y r h
  obtain ⟨h1, h2⟩ := Sp10.on_some h
  subst h2
  exact (g43_eq a0 a1 a2).trans (g43_ok a0 a1 a2 r.1.1 r.1.2.1 r.2.1 h1))
theorem all43 : ∀ g con, lookC L43 g = some con → FunOk Try.prog B (g % 1000000) con := gam_cons rfl ok43 all12

theorem ok42 : FunOk Try.prog B 42 c42 := glue L43 all43 plan42 Try.func42 (by kernel_rfl) (by
  rintro ⟨⟨a0, a1, ⟨⟩⟩, a2, ⟨⟩⟩ y r h
  obtain ⟨h1, h2⟩ := Sp10.on_some h
  subst h2
  exact (g42_eq a0 a1 a2).trans (g42_ok a0 a1 a2 r.1.1 r.1.2.1 r.2.1 h1))
theorem all42 : ∀ g con, lookC L42 g = some con → FunOk Try.prog B (g % 1000000) con := gam_cons rfl ok42 all43

theorem ok20 : FunOk Try.prog B 20 c20 := glue L42 all42 plan20 Try.func20 (by kernel_rfl) (by
  rintro ⟨⟨a0, a1, ⟨⟩⟩, ⟨⟩⟩ y r h
  obtain ⟨h1, h2⟩ := Sp10.on_some h
  subst h2
  exact (g20_eq a0 a1).trans (g20_ok a0 a1 r.1.1 r.1.2.1 h1))
theorem all20 : ∀ g con, lookC L20 g = some con → FunOk Try.prog B (g % 1000000) con := gam_cons rfl ok20 all42

theorem ok10 : FunOk Try.prog B 10 c10 := glue L20 all20 plan10 Try.func10 (by kernel_rfl) (by
  rintro ⟨⟨⟩, a0, ⟨⟩⟩ y r h
  exact (g10_eq a0).trans ((g10_ok a0 r.2.1).trans h))
theorem all10 : ∀ g con, lookC L10 g = some con → FunOk Try.prog B (g % 1000000) con := gam_cons rfl ok10 all20

theorem ok21 : FunOk Try.prog B 21 c21 := glue L10 all10 plan21 Try.func21 (by kernel_rfl) (by
  rintro ⟨⟨a0, a1, ⟨⟩⟩, ⟨⟩⟩ y r h
  obtain ⟨h1, h2⟩ := Sp10.on_some h
  subst h2
  exact (g21_eq a0 a1).trans (g21_ok a0 a1 r.1.1 r.1.2.1 h1))
theorem all21 : ∀ g con, lookC L21 g = some con → FunOk Try.prog B (g % 1000000) con := gam_cons rfl ok21 all10

theorem ok57 : FunOk Try.prog B 57 c57 := glue L21 all21 plan57 Try.func57 (by kernel_rfl) (by
  rintro ⟨⟨⟩, a0, ⟨⟩⟩ y r h
  obtain ⟨h1, h2⟩ := Sp10.on_some h
  subst h2
  exact (g57_eq a0).trans (g57_ok a0 r.2.1 h1))
theorem all57 : ∀ g con, lookC L57 g = some con → FunOk Try.prog B (g % 1000000) con := gam_cons rfl ok57 all21

theorem ok27 : FunOk Try.prog B 27 c27 := glue L57 all57 plan27 Try.func27 (by kernel_rfl) (by
  rintro ⟨⟨a0, a1, ⟨⟩⟩, a2, a3, ⟨⟩⟩ y r h
  obtain ⟨h1, h2⟩ := Sp10.on_some h
  subst h2
  exact (g27_eq a0 a1 a2 a3).trans (g27_ok a0 a1 a2 a3 r.1.1 r.1.2.1 r.2.1 r.2.2.1 h1))
theorem all27 : ∀ g con, lookC L27 g = some con → FunOk Try.prog B (g % 1000000) con := gam_cons rfl ok27 all57

theorem ok56 : FunOk Try.prog B 56 c56 := glue L27 all27 plan56 Try.func56 (by kernel_rfl) (by
  rintro ⟨⟨a0, a1, ⟨⟩⟩, a2, ⟨⟩⟩ y r h
  obtain ⟨h1, h2⟩ := Sp10.on_some h
  subst h2
  exact (g56_eq a0 a1 a2).trans (g56_ok a0 a1 a2 r.1.1 r.1.2.1 r.2.1 h1))
theorem all56 : ∀ g con, lookC L56 g = some con → FunOk Try.prog B (g % 1000000) con := gam_cons rfl ok56 all27

theorem ok26 : FunOk Try.prog B 26 c26 := glue L56 all56 plan26 Try.func26 (by kernel_rfl) (by
  rintro ⟨⟨a0, a1, ⟨⟩⟩, ⟨a2, a3, ⟨⟩⟩, a4, ⟨⟩⟩ y r h
  obtain ⟨h1, h2⟩ := Sp10.on_some h
  subst h2
  exact (g26_eq a0 a1 a2 a3 a4).trans (g26_ok a0 a1 a2 a3 a4 r.1.1 r.1.2.1 r.2.1.1 r.2.1.2.1 r.2.2.1 h1))
theorem all26 : ∀ g con, lookC L26 g = some con → FunOk Try.prog B (g % 1000000) con := gam_cons rfl ok26 all56

theorem ok11 : FunOk Try.prog B 11 c11 := glue L26 all26 plan11 Try.func11 (by kernel_rfl) (by
  rintro ⟨⟨a0, a1, ⟨⟩⟩, a2, a3, ⟨⟩⟩ y r h
  obtain ⟨h1, h2⟩ := Sp10.on_some h
  subst h2
  exact (g11_eq a0 a1 a2 a3).trans (g11_ok a0 a1 a2 a3 r.1.1 r.1.2.1 r.2.1 r.2.2.1 h1))
theorem all11 : ∀ g con, lookC L11 g = some con → FunOk Try.prog B (g % 1000000) con := gam_cons rfl ok11 all26

theorem ok50 : FunOk Try.prog B 50 c50 := glue L11 all11 plan50 Try.func50 (by kernel_rfl) (by
  rintro ⟨⟨⟩, a0, ⟨⟩⟩ y r h
  exact (g50_eq a0).trans ((g50_ok a0 r.2.1).trans h))
theorem all50 : ∀ g con, lookC L50 g = some con → FunOk Try.prog B (g % 1000000) con := gam_cons rfl ok50 all11

theorem ok54 : FunOk Try.prog B 54 c54 := glue L50 all50 plan54 Try.func54 (by kernel_rfl) (by
  rintro ⟨⟨⟩, a0, ⟨⟩⟩ y r h
  exact (g54_eq a0).trans ((g54_ok a0 r.2.1).trans h))
theorem all54 : ∀ g con, lookC L54 g = some con → FunOk Try.prog B (g % 1000000) con := gam_cons rfl ok54 all50

theorem ok49 : FunOk Try.prog B 49 c49 := glue L54 all54 plan49 Try.func49 (by kernel_rfl) (by
  rintro ⟨⟨⟩, a0, a1, a2, ⟨⟩⟩ y r h
  exact (g49_eq a0 a1 a2).trans ((g49_ok a0 a1 a2 r.2.1 r.2.2.1 r.2.2.2.1).trans h))
theorem all49 : ∀ g con, lookC L49 g = some con → FunOk Try.prog B (g % 1000000) con := gam_cons rfl ok49 all54

theorem ok55 : FunOk Try.prog B 55 c55 := glue L49 all49 plan55 Try.func55 (by kernel_rfl) (by
  rintro ⟨⟨⟩, a0, a1, a2, ⟨⟩⟩ y r h
  exact (g55_eq a0 a1 a2).trans ((g55_ok a0 a1 a2 r.2.1 r.2.2.1 r.2.2.2.1).trans h))
theorem all55 : ∀ g con, lookC L55 g = some con → FunOk Try.prog B (g % 1000000) con := gam_cons rfl ok55 all49

theorem ok66 : FunOk Try.prog B 66 c66 := glue L55 all55 plan66 Try.func66 (by kernel_rfl) (by
  rintro ⟨⟨⟩, a0, ⟨⟩⟩ y r h
  exact (g66_eq a0).trans ((g66_ok a0 r.2.1).trans h))
theorem all66 : ∀ g con, lookC L66 g = some con → FunOk Try.prog B (g % 1000000) con := gam_cons rfl ok66 all55

theorem ok53 : FunOk Try.prog B 53 c53 := glue L66 all66 plan53 Try.func53 (by kernel_rfl) (by
  rintro ⟨⟨⟩, a0, a1, ⟨⟩⟩ y r h
  exact (g53_eq a0 a1).trans ((g53_ok a0 a1 r.2.1 r.2.2.1).trans h))
theorem all53 : ∀ g con, lookC L53 g = some con → FunOk Try.prog B (g % 1000000) con := gam_cons rfl ok53 all66

theorem ok52 : FunOk Try.prog B 52 c52 := glue L53 all53 plan52 Try.func52 (by kernel_rfl) (by
  rintro ⟨⟨⟩, a0, ⟨⟩⟩ y r h
  exact (g52_eq a0).trans ((g52_ok a0 r.2.1).trans h))
theorem all52 : ∀ g con, lookC L52 g = some con → FunOk Try.prog B (g % 1000000) con := gam_cons rfl ok52 all53

theorem ok48 : FunOk Try.prog B 48 c48 := glue L52 all52 plan48 Try.func48 (by kernel_rfl) (by
  rintro ⟨⟨⟩, ⟨a0, a1, a2, a3, ⟨⟩⟩, ⟨⟩⟩ y r h
  exact (g48_eq a0 a1 a2 a3).trans ((g48_ok a0 a1 a2 a3 r.2.1.1 r.2.1.2.1 r.2.1.2.2.1 r.2.1.2.2.2.1).trans h))
theorem all48 : ∀ g con, lookC L48 g = some con → FunOk Try.prog B (g % 1000000) con := gam_cons rfl ok48 all52

theorem ok65 : FunOk Try.prog B 65 c65 := glue L48 all48 plan65 Try.func65 (by kernel_rfl) (by
  rintro ⟨⟨⟩, a0, ⟨⟩, ⟨⟩⟩ y r h
  exact (g65_eq a0).trans ((g65_ok a0 r.2.1).trans h))
theorem all65 : ∀ g con, lookC L65 g = some con → FunOk Try.prog B (g % 1000000) con := gam_cons rfl ok65 all48

theorem ok51 : FunOk Try.prog B 51 c51 := glue L65 all65 plan51 Try.func51 (by kernel_rfl) (by
  rintro ⟨⟨⟩, a0, ⟨⟩, ⟨⟩⟩ y r h
  exact (g51_eq a0).trans ((g51_ok a0 r.2.1).trans h))
theorem all51 : ∀ g con, lookC L51 g = some con → FunOk Try.prog B (g % 1000000) con := gam_cons rfl ok51 all65

theorem ok19 : FunOk Try.prog B 19 c19 := glue L51 all51 plan19 Try.func19 (by kernel_rfl) (by
  rintro ⟨⟨⟩, a0, ⟨⟩⟩ y r h
  exact (g19_eq a0).trans ((g19_ok a0 r.2.1).trans h))
theorem all19 : ∀ g con, lookC L19 g = some con → FunOk Try.prog B (g % 1000000) con := gam_cons rfl ok19 all51

theorem ok59 : FunOk Try.prog B 59 c59 := glue L19 all19 plan59 Try.func59 (by kernel_rfl) (by
  rintro ⟨⟨⟩, ⟨a0, a1, ⟨⟩⟩, ⟨a2, a3, ⟨⟩⟩, ⟨⟩⟩ y r h
  exact (g59_eq a0 a1 a2 a3).trans ((g59_ok a0 a1 a2 a3 r.2.1.1 r.2.1.2.1 r.2.2.1.1 r.2.2.1.2.1).trans h))
theorem all59 : ∀ g con, lookC L59 g = some con → FunOk Try.prog B (g % 1000000) con := gam_cons rfl ok59 all19

theorem ok67 : FunOk Try.prog B 67 c67 := glue L59 all59 plan67 Try.func67 (by kernel_rfl) (by
  rintro ⟨⟨⟩, a0, ⟨a1, a2, ⟨⟩⟩, ⟨⟩⟩ y r h
  exact (g67_eq a0 a1 a2).trans ((g67_ok a0 a1 a2 r.2.1 r.2.2.1.1 r.2.2.1.2.1).trans h))
theorem all67 : ∀ g con, lookC L67 g = some con → FunOk Try.prog B (g % 1000000) con := gam_cons rfl ok67 all59

theorem ok58 : FunOk Try.prog B 58 c58 := glue L67 all67 plan58 Try.func58 (by kernel_rfl) (by
  rintro ⟨⟨⟩, a0, ⟨a1, a2, ⟨⟩⟩, ⟨⟩⟩ y r h
  exact (g58_eq a0 a1 a2).trans ((g58_ok a0 a1 a2 r.2.1 r.2.2.1.1 r.2.2.1.2.1).trans h))
theorem all58 : ∀ g con, lookC L58 g = some con → FunOk Try.prog B (g % 1000000) con := gam_cons rfl ok58 all67

theorem ok29 : FunOk Try.prog B 29 c29 := glue L58 all58 plan29 Try.func29 (by kernel_rfl) (by
  rintro ⟨⟨⟩, ⟨a0, a1, a2, ⟨⟩⟩, ⟨⟩⟩ y r h
  exact (g29_eq a0 a1 a2).trans ((g29_ok a0 a1 a2 r.2.1.1 r.2.1.2.1 r.2.1.2.2.1).trans h))
theorem all29 : ∀ g con, lookC L29 g = some con → FunOk Try.prog B (g % 1000000) con := gam_cons rfl ok29 all58

theorem ok45 : FunOk Try.prog B 45 c45 := glue L29 all29 plan45 Try.func45 (by kernel_rfl) (by
  rintro ⟨⟨⟩, a0, a1, ⟨⟩⟩ y r h
  obtain ⟨h1, h2⟩ := Sp10.on_some h
  subst h2
  exact (g45_eq a0 a1).trans (g45_ok a0 a1 r.2.1 r.2.2.1 h1))
theorem all45 : ∀ g con, lookC L45 g = some con → FunOk Try.prog B (g % 1000000) con := gam_cons rfl ok45 all29

theorem ok32 : FunOk Try.prog B 32 c32 := glue L45 all45 plan32 Try.func32 (by kernel_rfl) (by
  rintro ⟨⟨⟩, a0, a1, ⟨⟩⟩ y r h
  exact (g32_eq a0 a1).trans ((g32_ok a0 a1 r.2.1 r.2.2.1).trans h))
theorem all32 : ∀ g con, lookC L32 g = some con → FunOk Try.prog B (g % 1000000) con := gam_cons rfl ok32 all45

theorem ok38 : FunOk Try.prog B 38 c38 := glue L32 all32 plan38 Try.func38 (by kernel_rfl) (by
  rintro ⟨⟨⟩, a0, a1, ⟨⟩⟩ y r h
  exact (g38_eq a0 a1).trans ((g38_ok a0 a1 r.2.1 r.2.2.1).trans h))
theorem all38 : ∀ g con, lookC L38 g = some con → FunOk Try.prog B (g % 1000000) con := gam_cons rfl ok38 all32

theorem ok63 : FunOk Try.prog B 63 c63 := ⟨rfl, fun h => (by cases h), fun x hx => (by cases hx; exact x63_ok), _, Try.func63, by kernel_rfl, by kernel_rfl⟩
theorem all63 : ∀ g con, lookC L63 g = some con → FunOk Try.prog B (g % 1000000) con := gam_cons rfl ok63 all38

theorem ok34 : FunOk Try.prog B 34 c34 := glue L63 all63 plan34 Try.func34 (by kernel_rfl) (by
  rintro ⟨⟨⟩, a0, a1, ⟨⟩⟩ y r h
  exact (g34_eq a0 a1).trans ((g34_ok a0 a1 r.2.1 r.2.2.1).trans h))
theorem all34 : ∀ g con, lookC L34 g = some con → FunOk Try.prog B (g % 1000000) con := gam_cons rfl ok34 all63

theorem ok46 : FunOk Try.prog B 46 c46 := glue L34 all34 plan46 Try.func46 (by kernel_rfl) (by
  rintro ⟨⟨⟩, a0, ⟨⟩⟩ y r h
  obtain ⟨h1, h2⟩ := Sp10.on_some h
  subst h2
  exact (g46_eq a0).trans (g46_ok a0  h1))
theorem all46 : ∀ g con, lookC L46 g = some con → FunOk Try.prog B (g % 1000000) con := gam_cons rfl ok46 all34

theorem ok17 : FunOk Try.prog B 17 c17 := glue L46 all46 plan17 Try.func17 (by kernel_rfl) (by
  rintro ⟨⟨⟩, a0, a1, ⟨⟩⟩ y r h
  exact (g17_eq a0 a1).trans ((g17_ok a0 a1 r.2.1 r.2.2.1).trans h))
theorem all17 : ∀ g con, lookC L17 g = some con → FunOk Try.prog B (g % 1000000) con := gam_cons rfl ok17 all46

theorem all44 : ∀ g con, lookC L44 g = some con → FunOk Try.prog B (g % 1000000) con := gam_cons rfl ok44 all17

theorem ok13 : FunOk Try.prog B 13 c13 := glue L44 all44 plan13 Try.func13 (by kernel_rfl) (by
  rintro ⟨⟨⟩, a0, a1, ⟨⟩⟩ y r h
  exact (g13_eq a0 a1).trans ((g13_ok a0 a1 r.2.1 r.2.2.1).trans h))
theorem all13 : ∀ g con, lookC L13 g = some con → FunOk Try.prog B (g % 1000000) con := gam_cons rfl ok13 all44

theorem ok22 : FunOk Try.prog B 22 c22 := glue L13 all13 plan22 Try.func22 (by kernel_rfl) (by
  rintro ⟨⟨⟩, a0, a1, ⟨⟩⟩ y r h
  exact (g22_eq a0 a1).trans ((g22_ok a0 a1 r.2.1 r.2.2.1).trans h))
theorem all22 : ∀ g con, lookC L22 g = some con → FunOk Try.prog B (g % 1000000) con := gam_cons rfl ok22 all13

theorem ok24 : FunOk Try.prog B 24 c24 := glue L22 all22 plan24 Try.func24 (by kernel_rfl) (by
  rintro ⟨⟨⟩, a0, a1, a2, ⟨⟩⟩ y r h
  exact (g24_eq a0 a1 a2).trans ((g24_ok a0 a1 a2 r.2.1 r.2.2.1 r.2.2.2.1).trans h))
theorem all24 : ∀ g con, lookC L24 g = some con → FunOk Try.prog B (g % 1000000) con := gam_cons rfl ok24 all22

theorem ok28 : FunOk Try.prog B 28 c28 := glue L24 all24 plan28 Try.func28 (by kernel_rfl) (by
  rintro ⟨⟨⟩, a0, ⟨⟩⟩ y r h
  exact (g28_eq a0).trans ((g28_ok a0 r.2.1).trans h))
theorem all28 : ∀ g con, lookC L28 g = some con → FunOk Try.prog B (g % 1000000) con := gam_cons rfl ok28 all24

theorem ok60 : FunOk Try.prog B 60 c60 := glue L28 all28 plan60 Try.func60 (by kernel_rfl) (by
  rintro ⟨⟨⟩, a0, ⟨⟩⟩ y r h
  exact (g60_eq a0).trans ((g60_ok a0 r.2.1).trans h))
theorem all60 : ∀ g con, lookC L60 g = some con → FunOk Try.prog B (g % 1000000) con := gam_cons rfl ok60 all28

theorem ok30 : FunOk Try.prog B 30 c30 := glue L60 all60 plan30 Try.func30 (by kernel_rfl) (by
  rintro ⟨⟨⟩, ⟨a0, a1, a2, ⟨⟩⟩, ⟨⟩⟩ y r h
  exact (g30_eq a0 a1 a2).trans ((g30_ok a0 a1 a2 r.2.1.1 r.2.1.2.1 r.2.1.2.2.1).trans h))
theorem all30 : ∀ g con, lookC L30 g = some con → FunOk Try.prog B (g % 1000000) con := gam_cons rfl ok30 all60

theorem ok47 : FunOk Try.prog B 47 c47 := glue L30 all30 plan47 Try.func47 (by kernel_rfl) (by
  rintro ⟨⟨⟩, a0, a1, a2, ⟨⟩⟩ y r h
  exact (g47_eq a0 a1 a2).trans ((g47_ok a0 a1 a2 r.2.1 r.2.2.1 r.2.2.2.1).trans h))
theorem all47 : ∀ g con, lookC L47 g = some con → FunOk Try.prog B (g % 1000000) con := gam_cons rfl ok47 all30

theorem ok37 : FunOk Try.prog B 37 c37 := glue L47 all47 plan37 Try.func37 (by kernel_rfl) (by
  rintro ⟨⟨⟩, a0, a1, ⟨⟩⟩ y r h
  exact (g37_eq a0 a1).trans ((g37_ok a0 a1 r.2.1 r.2.2.1).trans h))
theorem all37 : ∀ g con, lookC L37 g = some con → FunOk Try.prog B (g % 1000000) con := gam_cons rfl ok37 all47

theorem ok39 : FunOk Try.prog B 39 c39 := glue L37 all37 plan39 Try.func39 (by kernel_rfl) (by
  rintro ⟨⟨⟩, a0, a1, ⟨⟩⟩ y r h
  exact (g39_eq a0 a1).trans ((g39_ok a0 a1 r.2.1 r.2.2.1).trans h))
theorem all39 : ∀ g con, lookC L39 g = some con → FunOk Try.prog B (g % 1000000) con := gam_cons rfl ok39 all37

theorem ok40 : FunOk Try.prog B 40 c40 := glue L39 all39 plan40 Try.func40 (by kernel_rfl) (by
  rintro ⟨⟨⟩, a0, a1, ⟨⟩⟩ y r h
  exact (g40_eq a0 a1).trans ((g40_ok a0 a1 r.2.1 r.2.2.1).trans h))
theorem all40 : ∀ g con, lookC L40 g = some con → FunOk Try.prog B (g % 1000000) con := gam_cons rfl ok40 all39

theorem ok35 : FunOk Try.prog B 35 c35 := glue L40 all40 plan35 Try.func35 (by kernel_rfl) (by
  rintro ⟨⟨⟩, a0, a1, ⟨⟩⟩ y r h
  exact (g35_eq a0 a1).trans ((g35_ok a0 a1 r.2.1 r.2.2.1).trans h))
theorem all35 : ∀ g con, lookC L35 g = some con → FunOk Try.prog B (g % 1000000) con := gam_cons rfl ok35 all40

theorem ok33 : FunOk Try.prog B 33 c33 := glue L35 all35 plan33 Try.func33 (by kernel_rfl) (by
  rintro ⟨⟨⟩, a0, a1, ⟨⟩⟩ y r h
  exact (g33_eq a0 a1).trans ((g33_ok a0 a1 r.2.1 r.2.2.1).trans h))
theorem all33 : ∀ g con, lookC L33 g = some con → FunOk Try.prog B (g % 1000000) con := gam_cons rfl ok33 all35

theorem ok36 : FunOk Try.prog B 36 c36 := glue L33 all33 plan36 Try.func36 (by kernel_rfl) (by
  rintro ⟨⟨⟩, a0, a1, ⟨⟩⟩ y r h
  exact (g36_eq a0 a1).trans ((g36_ok a0 a1 r.2.1 r.2.2.1).trans h))
theorem all36 : ∀ g con, lookC L36 g = some con → FunOk Try.prog B (g % 1000000) con := gam_cons rfl ok36 all33

theorem ok14 : FunOk Try.prog B 14 c14 := glue L36 all36 plan14 Try.func14 (by kernel_rfl) (by
  rintro ⟨⟨⟩, a0, a1, ⟨⟩⟩ y r h
  exact (g14_eq a0 a1).trans ((g14_ok a0 a1 r.2.1 r.2.2.1).trans h))
theorem all14 : ∀ g con, lookC L14 g = some con → FunOk Try.prog B (g % 1000000) con := gam_cons rfl ok14 all36

theorem ok23 : FunOk Try.prog B 23 c23 := glue L14 all14 plan23 Try.func23 (by kernel_rfl) (by
  rintro ⟨⟨⟩, a0, a1, ⟨⟩⟩ y r h
  exact (g23_eq a0 a1).trans ((g23_ok a0 a1 r.2.1 r.2.2.1).trans h))
theorem all23 : ∀ g con, lookC L23 g = some con → FunOk Try.prog B (g % 1000000) con := gam_cons rfl ok23 all14

theorem ok25 : FunOk Try.prog B 25 c25 := glue L23 all23 plan25 Try.func25 (by kernel_rfl) (by
  rintro ⟨⟨⟩, a0, a1, a2, ⟨⟩⟩ y r h
  exact (g25_eq a0 a1 a2).trans ((g25_ok a0 a1 a2 r.2.1 r.2.2.1 r.2.2.2.1).trans h))
theorem all25 : ∀ g con, lookC L25 g = some con → FunOk Try.prog B (g % 1000000) con := gam_cons rfl ok25 all23

theorem ok41 : FunOk Try.prog B 41 c41 := glue L25 all25 plan41 Try.func41 (by kernel_rfl) (by
  rintro ⟨⟨⟩, ⟨a0, a1, a2, ⟨⟩⟩, ⟨a3, a4, a5, ⟨⟩⟩, ⟨⟩⟩ y r h
  exact (g41_eq a0 a1 a2 a3 a4 a5).trans ((g41_ok a0 a1 a2 a3 a4 a5 r.2.1.1 r.2.1.2.1 r.2.1.2.2.1 r.2.2.1.1 r.2.2.1.2.1 r.2.2.1.2.2.1).trans h))
theorem all41 : ∀ g con, lookC L41 g = some con → FunOk Try.prog B (g % 1000000) con := gam_cons rfl ok41 all25

theorem ok18 : FunOk Try.prog B 18 c18 := glue L41 all41 plan18 Try.func18 (by kernel_rfl) (by
  rintro ⟨⟨⟩, a0, a1, ⟨⟩⟩ y r h
  exact (g18_eq a0 a1).trans ((g18_ok a0 a1 r.2.1 r.2.2.1).trans h))
theorem all18 : ∀ g con, lookC L18 g = some con → FunOk Try.prog B (g % 1000000) con := gam_cons rfl ok18 all41

theorem ok15 : FunOk Try.prog B 15 c15 := glue L18 all18 plan15 Try.func15 (by kernel_rfl) (by
  rintro ⟨⟨⟩, a0, a1, ⟨⟩⟩ y r h
  exact (g15_eq a0 a1).trans ((g15_ok a0 a1 r.2.1 r.2.2.1).trans h))
theorem all15 : ∀ g con, lookC L15 g = some con → FunOk Try.prog B (g % 1000000) con := gam_cons rfl ok15 all18

theorem ok16 : FunOk Try.prog B 16 c16 := glue L15 all15 plan16 Try.func16 (by kernel_rfl) (by
  rintro ⟨⟨⟩, ⟨⟩⟩ y r h
  exact (g16_eq ).trans ((g16_ok  ).trans h))
theorem all16 : ∀ g con, lookC L16 g = some con → FunOk Try.prog B (g % 1000000) con := gam_cons rfl ok16 all15
end Go.Abs.C10
