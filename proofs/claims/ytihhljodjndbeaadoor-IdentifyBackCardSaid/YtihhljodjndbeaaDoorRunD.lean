/- Chapter 10 (sets): proved is that functions that the laws reach keep their contracts (the library's sort and copy, sets, names, the laws); no conditions but those that each theorem states. -/
import Derived.Test.YtihhljodjndbeaaDoorRunC
import Derived.RegionTactic
import Derived.WalkSpells
import Derived.Lib.SliceRun
import Derived.Laws.Cells
import Derived.Shelf.SlSortCmp.WholeK
import Derived.Shelf.SlSortCmp.NoneTotal
set_option linter.unusedVariables false
set_option linter.unusedSimpArgs false
namespace Go.Abs.C1D
open Go Go.Proofs
set_option maxRecDepth 100000 in
set_option maxHeartbeats 2000000 in
theorem f59_nil {w : World} {n c : Nat} {Q : Ending → World → Prop} (hQ : Q (.returned (.slice none 0 0)) w) :
    Calls Tryd.prog 59 #[.slice none n c] w Q := by
  have hu : Tryd.prog.underlying 80 = some (.slice 78) := by kernel_rfl
  go_enter Tryd.func59, Tryd.ntmps59
  go_wp2
  rw [Lib.run_eql_slice_nil _ _ _ _ _ _ _ _ hu]
  simp only [Result.andThen]
  rw [Oper.upon_value]
  simp only [Option.isNone]
  go_wp2
  exact hQ
set_option maxRecDepth 100000 in
set_option maxHeartbeats 2000000 in
theorem f59_empty {w : World} {p : Addr} {c : Nat} {Q : Ending → World → Prop} (hQ : Q (.returned (.slice (some ⟨w.heap.size, 0, none⟩) 0 0)) (w.alloc (.cells #[] 78))) :
    Calls Tryd.prog 59 #[.slice (some p) 0 c] w Q := by
  have hu : Tryd.prog.underlying 80 = some (.slice 78) := by kernel_rfl
  have hl : (loadCellsFrom p 0 0 #[]).run Tryd.prog (w.alloc (.cells #[] 78)) = .ok #[] (w.alloc (.cells #[] 78)) := by simp [loadCellsFrom]
  go_enter Tryd.func59, Tryd.ntmps59
  go_wp2
  rw [Lib.run_eql_slice_nil _ _ _ _ _ _ _ _ hu]
  simp only [Result.andThen]
  rw [Oper.upon_value]
  simp only [Option.isNone]
  go_wp2
  exact hQ
set_option maxRecDepth 100000 in
set_option maxHeartbeats 2000000 in
theorem f59_cells {w : World} {p : Addr} {n c : Nat} {cs : Array Value} {Q : Ending → World → Prop} (hn : 0 < n) (hn2 : n ≤ 4398046511104)
   (hl : (loadCellsFrom p 0 (n * 4) #[]).run Tryd.prog (w.alloc (.cells #[] 78)).drew = .ok cs (w.alloc (.cells #[] 78)).drew)
   (hQ : ∀ k : Nat, n ≤ k → Q (.returned (.slice (some ⟨w.heap.size + 1, 0, none⟩) n k)) ((w.alloc (.cells #[] 78)).alloc (.cells (cs ++ Builtin.zeroCells #[.int .i64 0, .int .i64 0, .int .i64 0, .int .i64 0] (k - n)) 78)).drew) :
    Calls Tryd.prog 59 #[.slice (some p) n c] w Q := by
  have hu : Tryd.prog.underlying 80 = some (.slice 78) := by kernel_rfl
  have hbt : Tryd.t78.bytes = 32 := rfl
  go_enter Tryd.func59, Tryd.ntmps59
  go_wp2
  rw [Lib.run_eql_slice_nil _ _ _ _ _ _ _ _ hu]
  simp only [Result.andThen]
  rw [Oper.upon_value]
  simp only [Option.isNone]
  go_wp2
  all_goals (try (exfalso; simp only [Builtin.nextslicecap] at *; (repeat' split at *) <;> omega))
  all_goals (simp only [Question.cut]; omega)
end Go.Abs.C1D

namespace Go.Abs.C1D
open Go Go.Proofs Go.Shelf
def sortEd_ren : Go.Shelf.Ren := ⟨fun | 6 => 56 | 15 => 67 | 14 => 66 | 28 => 78 | 29 => 79 | 20 => 70 | 21 => 71 | 22 => 72 | 23 => 73 | 24 => 74 | 25 => 75 | 26 => 76 | 27 => 77 | 46 => 80 | 47 => 81 | 48 => 82 | 49 => 83 | 50 => 84 | 57 => 85 | n => n, fun | 22 => 28 | 24 => 39 | 25 => 97 | 3 => 3 | 39 => 71 | 0 => 0 | 53 => 117 | 55 => 23 | 4 => 4 | 46 => 111 | 45 => 110 | 50 => 73 | 5 => 5 | 9 => 9 | 66 => 118 | 70 => 122 | 76 => 124 | 77 => 125 | n => n, fun | n => n⟩
theorem sortEd : Go.Proofs.SlLaysF0.n6 Tryd.prog sortEd_ren := {
  mixed := by kernel_rfl
  f6 := ⟨Tryd.f56.name, by decide, Tryd.func56.trans (congrArg some (by kernel_rfl))⟩
  f14 := ⟨Tryd.f66.name, by decide, Tryd.func66.trans (congrArg some (by kernel_rfl))⟩
  f15 := Tryd.func67.trans (congrArg some (by kernel_rfl))
  f20 := ⟨Tryd.f70.name, by decide, Tryd.func70.trans (congrArg some (by kernel_rfl))⟩
  f21 := ⟨Tryd.f71.name, by decide, Tryd.func71.trans (congrArg some (by kernel_rfl))⟩
  f22 := ⟨Tryd.f72.name, by decide, Tryd.func72.trans (congrArg some (by kernel_rfl))⟩
  f23 := ⟨Tryd.f73.name, by decide, Tryd.func73.trans (congrArg some (by kernel_rfl))⟩
  f24 := ⟨Tryd.f74.name, by decide, Tryd.func74.trans (congrArg some (by kernel_rfl))⟩
  f25 := ⟨Tryd.f75.name, by decide, Tryd.func75.trans (congrArg some (by kernel_rfl))⟩
  f26 := ⟨Tryd.f76.name, by decide, Tryd.func76.trans (congrArg some (by kernel_rfl))⟩
  f27 := ⟨Tryd.f77.name, by decide, Tryd.func77.trans (congrArg some (by kernel_rfl))⟩
  f28 := Tryd.func78.trans (congrArg some (by kernel_rfl))
  f29 := Tryd.func79.trans (congrArg some (by kernel_rfl))
  f46 := ⟨Tryd.f80.name, by decide, Tryd.func80.trans (congrArg some (by kernel_rfl))⟩
  f47 := Tryd.func81.trans (congrArg some (by kernel_rfl))
  f48 := Tryd.func82.trans (congrArg some (by kernel_rfl))
  f49 := ⟨Tryd.f83.name, by decide, Tryd.func83.trans (congrArg some (by kernel_rfl))⟩
  f50 := ⟨Tryd.f84.name, by decide, Tryd.func84.trans (congrArg some (by kernel_rfl))⟩
  f57 := ⟨Tryd.f85.name, by decide, Tryd.func85.trans (congrArg some (by kernel_rfl))⟩
  t0 := Tryd.underlying0
  a0 := Tryd.isAgg0
  z0 := Tryd.sizeOf0
  v0 := Tryd.zeroValue0
  t3 := Tryd.underlying3
  a3 := Tryd.isAgg3
  z3 := Tryd.sizeOf3
  v3 := Tryd.zeroValue3
  t4 := Tryd.underlying4
  a4 := Tryd.isAgg4
  z4 := Tryd.sizeOf4
  v4 := Tryd.zeroValue4
  t5 := Tryd.underlying5
  a5 := Tryd.isAgg5
  z5 := Tryd.sizeOf5
  v5 := Tryd.zeroValue5
  t9 := Tryd.underlying9
  a9 := Tryd.isAgg9
  z9 := Tryd.sizeOf9
  v9 := Tryd.zeroValue9
  t22 := Tryd.underlying28
  a22 := Tryd.isAgg28
  z22 := Tryd.sizeOf28
  v22 := Tryd.zeroValue28
  t25 := Tryd.underlying97
  a25 := Tryd.isAgg97
  z25 := Tryd.sizeOf97
  v25 := Tryd.zeroValue97
  t39 := Tryd.underlying71
  a39 := Tryd.isAgg71
  z39 := Tryd.sizeOf71
  v39 := Tryd.zeroValue71
  t45 := Tryd.underlying110
  a45 := Tryd.isAgg110
  z45 := Tryd.sizeOf110
  v45 := Tryd.zeroValue110
  t46 := Tryd.underlying111
  a46 := Tryd.isAgg111
  z46 := Tryd.sizeOf111
  v46 := Tryd.zeroValue111
  t50 := Tryd.underlying73
  a50 := Tryd.isAgg73
  z50 := Tryd.sizeOf73
  v50 := Tryd.zeroValue73
  t53 := Tryd.underlying117
  a53 := Tryd.isAgg117
  z53 := Tryd.sizeOf117
  v53 := Tryd.zeroValue117
  t55 := Tryd.underlying23
  a55 := Tryd.isAgg23
  z55 := Tryd.sizeOf23
  v55 := Tryd.zeroValue23
  t66 := Tryd.underlying118
  a66 := Tryd.isAgg118
  z66 := Tryd.sizeOf118
  v66 := Tryd.zeroValue118
  t70 := Tryd.underlying122
  a70 := Tryd.isAgg122
  z70 := Tryd.sizeOf122
  v70 := Tryd.zeroValue122
  t76 := Tryd.underlying124
  a76 := Tryd.isAgg124
  z76 := Tryd.sizeOf124
  v76 := Tryd.zeroValue124
  t77 := Tryd.underlying125
  a77 := Tryd.isAgg125
  z77 := Tryd.sizeOf125
  v77 := Tryd.zeroValue125 }
open Go.Sort Go.RowKit
set_option maxRecDepth 100000 in
set_option maxHeartbeats 2000000 in
theorem f68_calls (x : Int) (w : World) : Calls Tryd.prog 68 #[.int .i64 x] w fun e w' => e = .returned (.bool false) ∧ w' = w := by
  go_enter Tryd.func68, Tryd.ntmps68
  go_wp2
  go_ret
  first | exact ⟨rfl, rfl⟩ | simp
set_option maxRecDepth 100000 in
set_option maxHeartbeats 2000000 in
theorem f58_calls (x y : Int) (w : World) : Calls Tryd.prog 58 #[.int .i64 x, .int .i64 y] w fun e w' => e = .returned (.int .i64 (Sp1D.cmpI x y)) ∧ w' = w := by
  have h68 := fun z W => f68_calls z W
  go_enter Tryd.func58, Tryd.ntmps58
  go_wp2_with (go_at_call 68; refine (h68 _ _).mono ?_; rintro e w' ⟨rfl, rfl⟩)
  all_goals go_ret
  all_goals (unfold Sp1D.cmpI; try simp [*])
  all_goals (rw [dF (show ¬ x < y by omega)]; first | rfl | (rw [dF (show ¬ y < x by omega)]; rfl))
def encE (x : Int × Int × Unit) : List Value := [.int .i64 x.1, .int .i64 x.2.1]
set_option maxRecDepth 100000 in
set_option maxHeartbeats 2000000 in
theorem f57_calls (x y : Int × Int × Unit) (W : World) : Calls Tryd.prog 57 #[.agg (encE x).toArray, .agg (encE y).toArray] W fun e w' => e = .returned (.int .i64 (Sp1D.cmpI x.2.1 y.2.1)) ∧ ∃ q os', w' = grow (W.drewN q) os' := by
  have hcon := fun W' => f58_calls x.2.1 y.2.1 W'
  show Calls Tryd.prog 57 #[.agg #[.int .i64 x.1, .int .i64 x.2.1], .agg #[.int .i64 y.1, .int .i64 y.2.1]] W _
  generalize Sp1D.cmpI x.2.1 y.2.1 = r at hcon ⊢
  go_enter Tryd.func57, Tryd.ntmps57
  go_wp2_with (go_at_call 58; refine (hcon _).mono ?_; rintro e w' ⟨rfl, rfl⟩)
  go_ret
  exact ⟨rfl, 0, _, by rw [alloc_eq_grow, alloc_eq_grow, grow_grow]; rfl⟩
theorem ltE_of : ltOf (fun x y : Int × Int × Unit => Sp1D.cmpI x.2.1 y.2.1) = ltE := by
  funext x y
  show decide (Sp1D.cmpI x.2.1 y.2.1 < 0) = decide (x.2.1 < y.2.1)
  unfold Sp1D.cmpI
  by_cases h1 : x.2.1 < y.2.1
  · simp [h1]
  · by_cases h2 : y.2.1 < x.2.1
    · simp [h1, h2]
    · simp [h1, h2]
theorem swoC : SWO (ltOf (fun x y : Int × Int × Unit => Sp1D.cmpI x.2.1 y.2.1)) := by
  rw [ltE_of]
  refine ⟨fun x => ?_, fun x y z h1 h2 => ?_, fun x y z h1 h2 => ?_⟩
  · unfold ltE; exact decide_eq_false (by omega)
  · unfold ltE at *; rw [decide_eq_true_eq] at *; omega
  · unfold ltE at *; rw [decide_eq_false_iff_not] at *; omega
theorem eg57 : ∀ args w, (callFunc 57 args).run Tryd.prog w = .ok (.enter 57 args) w := enters_of Tryd.func57 (by kernel_rfl) rfl
theorem flat_get (d : Array (Int × Int × Unit)) (j : Nat) (hj : j < d.size) : (flatK encE 2 d)[j * 2]! = .int .i64 d[j]!.1 ∧ (flatK encE 2 d)[j * 2 + 1]! = .int .i64 d[j]!.2.1 := by
  constructor
  · rw [get_flatK encE 2 d (j * 2) (by omega), show j * 2 / 2 = j by omega, show j * 2 % 2 = 0 by omega]
    rfl
  · rw [get_flatK encE 2 d (j * 2 + 1) (by omega), show (j * 2 + 1) / 2 = j by omega, show (j * 2 + 1) % 2 = 1 by omega]
    rfl
theorem holdsE {w : World} {G : Nat → Nat} {l : List (Int × Int × Unit)} {b : Nat} (hr : RepE w G (.st 16 (.cons (.int .i64) (.cons (.int .i64) .unit))) l b 0) (hm : Room w b (l.length * 2)) : HoldsK encE 2 w b 0 l.toArray := by
  intro j hj
  rw [size_flatK] at hj
  have hj : j < l.length * 2 := by simpa using hj
  refine ⟨?_, (hm.some (j := 0 + j) (by omega)).2⟩
  have hi : j / 2 < l.length := by omega
  obtain ⟨h1, h2, -⟩ := hr (j / 2) hi
  obtain ⟨f1, f2⟩ := flat_get l.toArray (j / 2) (by simpa using hi)
  have hd : l.toArray[j / 2]! = l[j / 2] := by
    rw [getElem!_pos l.toArray (j / 2) (by simpa using hi)]
    simp
  rw [hd] at f1 f2
  rcases (by omega : j = j / 2 * 2 ∨ j = j / 2 * 2 + 1) with h | h
  · have e1 : (flatK encE 2 l.toArray)[j]! = .int .i64 l[j / 2].1 := by rw [← f1, ← h]
    rw [e1]
    have h1 := h1.1
    rw [show 0 + j = 0 + j / 2 * 2 by omega]
    exact h1
  · have e1 : (flatK encE 2 l.toArray)[j]! = .int .i64 l[j / 2].2.1 := by rw [← f2, ← h]
    rw [e1]
    have h2 := h2.1
    rw [show 0 + j = 0 + j / 2 * 2 + 1 by omega]
    exact h2
theorem put_set {w : World} {b : Nat} {d d' : Array (Int × Int × Unit)} (h : HoldsK encE 2 w b 0 d) (hs : d'.size = d.size) : putRowK encE 2 w b 0 d' = w.setCells b 0 (flatK encE 2 d').toList := by
  have e0 : putRow id w b 0 (flatK encE 2 d) = w := putRow_self id w b 0 _ h
  have e1 := setCells_putRow w b 0 (flatK encE 2 d').toList 0 (flatK encE 2 d) (by simp [hs])
  rw [e0] at e1
  rw [Nat.add_zero] at e1
  rw [e1]
  unfold putRowK
  congr 1
  refine ext_get! (by simp [hs]) fun t ht => ?_
  have ht2 : t < (flatK encE 2 d).size := by rw [size_flatK] at ht ⊢; omega
  rw [get_setMany _ _ _ _ ht2, if_pos ⟨Nat.zero_le _, by simpa using ht⟩, Nat.sub_zero]
  rw [getElem!_pos _ t ht, getElem!_pos _ t (by simpa using ht)]
  simp
theorem x56_args {dst st : Nat} {l : List (D × D)} {g : Bool} {u : St} (h : xf56 dst st l = some (g, u)) : ∃ X s2 r, l = [(.rsl X s2, .arrv s2 true false (.st 16 (.cons (.int .i64) (.cons (.int .i64) .unit))) r), (.fnc 57, (l.getD 1 (.undef, .undef)).2)] ∧ g = true ∧
    u = [(2 * X + 1, .arrv s2 true false (.st 16 (.cons (.int .i64) (.cons (.int .i64) .unit))) (sortE r)), (2 * dst, .undef)] := by
  unfold xf56 at h
  split at h
  · rename_i X sx s2 r z
    cases hb : Nat.beq sx s2 with
    | false => rw [hb] at h; cases h
    | true =>
      rw [hb] at h
      have := Nat.eq_of_beq_eq_true hb
      subst this
      simp only [cond_true, Option.some.injEq, Prod.mk.injEq] at h
      exact ⟨X, sx, r, rfl, h.1.symm, h.2.symm⟩
  · cases h
theorem list2 {α β : Type} {f : α → β} {l : List α} {a b : β} (h : l.map f = [a, b]) : ∃ x y, l = [x, y] ∧ f x = a ∧ f y = b := by
  match l, h with
  | [x, y], h => simp at h; exact ⟨x, y, rfl, h⟩
  | [], h => simp at h
  | [_], h => simp at h
  | _ :: _ :: _ :: _, h => simp at h
end Go.Abs.C1D

namespace Go.Abs
variable {E : Env} {C : Ctx} {s : St} {a : Act} {w : World} {G : Nat → Nat} {pt : Nat → Nat → Option Value}
theorem nbeq_g {a b : Nat} (h : a ≠ b) : Nat.beq a b = false := by
  cases hb : Nat.beq a b with
  | false => rfl
  | true => exact absurd (Nat.eq_of_beq_eq_true hb) h
theorem get_one (d : D) (k : Nat) (h : k ≠ 0) : get [(0, d)] k = .undef := by
  simp only [get, nbeq_g h, cond_false]
theorem Rel.keep0 {n : Nat} (R : Rel (ifE E n false) C s a w G pt) (hb : ∀ id, get s (2 * id + 1) = .undef) :
    Rel (ifE E 1 false) C [(0, get s 0)] { tmps := #[a.tmps.getD 0 Go.undef], defers := [] } w G pt := by
  have g1 : ∀ id, get [(0, get s 0)] (2 * id + 1) = .undef := fun id => get_one _ _ (by omega)
  have g2 : ∀ t, 1 ≤ t → get [(0, get s 0)] (2 * t) = .undef := fun t ht => get_one _ _ (by omega)
  have hTC : ∀ b, TC 1 C.m [(0, get s 0)] { tmps := #[a.tmps.getD 0 Go.undef], defers := [] } w pt b = cT s a b 0 := by
    intro b
    have z2 : sumN C.m (cB [(0, get s 0)] w pt b) = 0 := sumN_zero fun i hi => by
      rw [cB, g1]
      rfl
    unfold TC
    rw [z2]
    show 0 + cT [(0, get s 0)] _ b 0 + 0 = _
    rw [Nat.zero_add, Nat.add_zero]
    rfl
  refine ⟨rfl, rfl, fun t => ?_, fun id => ?_, fun t ht => g2 t ht, fun id hid => g1 id, fun b => ?_, fun b hb => ?_, R.fr, R.ex, R.gz, R.os, R.out, R.tape, R.hs, fun id st h => ?_, R.gl, R.pn⟩
  · cases t with
    | zero => exact R.tm 0
    | succ t => rw [g2 (t + 1) (by omega)]; trivial
  · rw [g1]; trivial
  · exact Nat.le_trans (Nat.le_of_eq (hTC b)) (Nat.le_trans (R.cT_le b 0) (R.ct b))
  · exact R.cb b (Nat.lt_of_lt_of_le (by have := hTC b; exact this ▸ hb) (R.cT_le b 0))
  · rw [g1] at h
    have := R.pf id st
    rw [hb] at this
    exact this h
end Go.Abs
namespace Go.Abs.C1D
open Go Go.Proofs Go.Sort Go.RowKit
def encO (x : Int × (Int × Int × Int × Unit) × Unit) : List Value := [.int .i64 x.1, .int .i64 x.2.1.1, .int .i64 x.2.1.2.1, .int .i64 x.2.1.2.2.1]
def cellO (l : List (Int × (Int × Int × Int × Unit) × Unit)) (j : Nat) : Value := (encO (l.getD (j / 4) (0, (0, 0, 0, ()), ())))[j % 4]!
theorem cells_at {w : World} {G : Nat → Nat} {l : List (Int × (Int × Int × Int × Unit) × Unit)} {b o : Nat} (hr : RepE w G owT l b o) (j : Nat) (hj : j < l.length * 4) : w.cell? ⟨b, o + j, none⟩ = some (cellO l j) := by
  have hi : j / 4 < l.length := by omega
  obtain ⟨h1, ⟨h2, h3, h4, -⟩, -⟩ := hr (j / 4) hi
  unfold cellO encO
  rw [getD_ix hi]
  rcases (by omega : j % 4 = 0 ∨ j % 4 = 1 ∨ j % 4 = 2 ∨ j % 4 = 3) with h | h | h | h
  · rw [h, show o + j = o + j / 4 * 4 by omega]; exact h1.1
  · rw [h, show o + j = o + j / 4 * 4 + 1 by omega]; exact h2.1
  · rw [h, show o + j = o + j / 4 * 4 + 1 + 1 by omega]; exact h3.1
  · rw [h, show o + j = o + j / 4 * 4 + 1 + 1 + 1 by omega]; exact h4.1
theorem cells59 {w : World} {G : Nat → Nat} (hgz : ∀ b, w.heap.size ≤ b → G b = 0) {l : List (Int × (Int × Int × Int × Unit) × Unit)} {b o : Nat} (ho : o + l.length * 4 ≤ G b) (hr : RepE w G owT l b o) :
    (loadCellsFrom ⟨b, o, none⟩ 0 (l.length * 4) #[]).run Tryd.prog (w.alloc (.cells #[] 78)).drew = .ok ((List.range (l.length * 4)).map (cellO l)).toArray (w.alloc (.cells #[] 78)).drew := by
  have h := run_loadCellsFrom (P := Tryd.prog) (w.alloc (.cells #[] 78)).drew ⟨b, o, none⟩ (cellO l) (l.length * 4) 0 #[] (fun j hj => by
    have hadd : (⟨b, o, none⟩ : Addr).add (0 + j) = ⟨b, o + j, none⟩ := by
      unfold Addr.add
      simp
    rw [hadd]
    show (w.alloc (.cells #[] 78)).cell? _ = _
    have hE := (alloc_ext (w := w) (G := G) (.cells #[] 78) hgz).cell b (o + j) (by omega)
    rw [hE, Nat.zero_add]
    exact cells_at hr j hj)
  rw [h]
  simp only [Nat.zero_add, List.append_nil, Array.empty_append]
theorem sem59 {E : Env} : CallSem Tryd.prog E 59 c59 := by
  rintro ⟨⟨⟩, l, ⟨⟩⟩ y hy C args w G pt hm hpin hargs R K hK
  obtain rfl : (l, ()) = y := Option.some.inj hy
  obtain ⟨v0, rfl⟩ : ∃ v0, args = #[v0] := by
    have : args.size = 1 := hargs
    match args, this with
    | ⟨[v0]⟩, _ => exact ⟨v0, rfl⟩
  have t0 := R.tm 0
  obtain ⟨a, n, c, hv, hn, hb, hc, hs⟩ : ∃ a n c, v0 = .slice a n c ∧ n = List.length (α := Int × (Int × Int × Int × Unit) × Unit) l ∧ n * 32 ≤ big ∧ SlR w G 0 owT l a c := t0
  subst hv
  have g0 : ∀ (d : D) id, get ((0, d) :: entrySt c59 ((), l, ())) (2 * id + 1) = .undef := by
    intro d id
    show get [(0, d), (0, D.sl 0 owT l)] (2 * id + 1) = .undef
    have e0 : Nat.beq (2 * id + 1) 0 = false := nbeq_g (by omega)
    simp only [get, e0, cond_false]
  by_cases hl : l = []
  · subst hl
    cases a with
    | none =>
      refine f59_nil ?_
      have R1 := R.dst1 0 (by decide : 0 < 1) (d := .sl 2 owT ([] : List owT.den)) (v := .slice none 0 0) ⟨none, 0, 0, rfl, rfl, by decide, .inl ⟨rfl, rfl, rfl⟩⟩ (fun b => rfl)
      exact hK #[.slice none 0 0] w G pt (R1.keep0 (g0 _))
    | some p =>
      have hn0 : n = 0 := hn
      subst hn0
      refine f59_empty ?_
      have R1 := R.newRow (e := 78) (fr := (0, 0)) { dst := some 0, op := .move (.tmp 0), type := 0, pos := "", after := #[], guard := none } (fun t ht => by cases ht; exact (by decide : 0 < 1)) (t := owT) (l := ([] : List owT.den)) (cells := #[]) (c := 0)
        (fun i hi => by simp at hi) (Nat.zero_le _) (by simp) (fun o ho => by simp only; omega) (by simp) (by decide)
      exact hK #[.slice (some ⟨w.heap.size, 0, none⟩) 0 0] _ G pt (R1.keep0 (g0 _))
  · obtain ⟨b, o, rfl, ho, hr⟩ := hs.resolve_left hl
    have hpos : 0 < List.length (α := Int × (Int × Int × Int × Unit) × Unit) l := List.length_pos_iff.2 hl
    unfold big at hb
    subst hn
    refine f59_cells hpos (by omega) (cells59 R.gz ho hr) fun k hk => ?_
    have R1 := R.newRow (e := 78) (fr := (0, 0)) { dst := some 0, op := .move (.tmp 0), type := 0, pos := "", after := #[], guard := none } (fun t ht => by cases ht; exact (by decide : 0 < 1)) (t := owT) (l := ([] : List owT.den)) (cells := #[]) (c := 0)
        (fun i hi => by simp at hi) (Nat.zero_le _) (by simp) (fun o ho => by simp only; omega) (by simp) (by decide)
    have hsz : (w.alloc (.cells #[] 78)).heap.size = w.heap.size + 1 := by
      show (w.heap.push _).size = _
      rw [Array.size_push]
    have hcs : (((List.range (l.length * 4)).map (cellO l)).toArray ++ Builtin.zeroCells #[Value.int .i64 0, Value.int .i64 0, Value.int .i64 0, Value.int .i64 0] (k - l.length)).size = k * 4 := by
      simp only [Builtin.zeroCells, Array.size_append, Array.size_map, Array.size_range, List.size_toArray, List.length_map, List.length_range, List.length_cons, List.length_nil]
      omega
    have hcell : ∀ j, j < l.length * 4 → (World.cell? (((w.alloc (.cells #[] 78))).alloc (.cells (((List.range (l.length * 4)).map (cellO l)).toArray ++ Builtin.zeroCells #[Value.int .i64 0, Value.int .i64 0, Value.int .i64 0, Value.int .i64 0] (k - l.length)) 78)) ⟨(w.alloc (.cells #[] 78)).heap.size, j, none⟩) = some (cellO l j) := by
      intro j hj
      rw [cell_new]
      rw [Array.getElem?_append_left (by simp; omega)]
      rw [List.getElem?_toArray, List.getElem?_map, List.getElem?_range hj, Option.map_some]
    have R2 := R1.newRow (e := 78) (fr := (0, 0)) { dst := some 0, op := .move (.tmp 0), type := 0, pos := "", after := #[], guard := none } (fun t ht => by cases ht; exact (by decide : 0 < 1)) (t := owT) (l := l) (cells := ((List.range (l.length * 4)).map (cellO l)).toArray ++ Builtin.zeroCells #[Value.int .i64 0, Value.int .i64 0, Value.int .i64 0, Value.int .i64 0] (k - l.length)) (c := k)
        (fun i hi => by
          obtain ⟨h1, ⟨h2, h3, h4, -⟩, -⟩ := hr i hi
          have ce : ∀ q, q < 4 → cellO l (i * 4 + q) = (encO l[i])[q]! := by
            intro q hq
            unfold cellO
            rw [show (i * 4 + q) / 4 = i by omega, show (i * 4 + q) % 4 = q by omega, getD_ix hi]
          have c0 := hcell (i * 4 + 0) (by omega)
          have c1 := hcell (i * 4 + 1) (by omega)
          have c2 := hcell (i * 4 + 2) (by omega)
          have c3 := hcell (i * 4 + 3) (by omega)
          rw [ce 0 (by omega)] at c0
          rw [ce 1 (by omega)] at c1
          rw [ce 2 (by omega)] at c2
          rw [ce 3 (by omega)] at c3
          refine ⟨⟨?_, h1.2⟩, ⟨⟨?_, h2.2⟩, ⟨?_, h3.2⟩, ⟨?_, h4.2⟩, trivial⟩, trivial⟩
          · rw [show 0 + i * owT.nc = i * 4 + 0 from by show 0 + i * 4 = _; omega]; exact c0
          · rw [show 0 + i * owT.nc + (Ty.int IntKind.i64).nc = i * 4 + 1 from by show 0 + i * 4 + 1 = _; omega]; exact c1
          · rw [show 0 + i * owT.nc + (Ty.int IntKind.i64).nc + (Ty.int IntKind.i64).nc = i * 4 + 2 from by show 0 + i * 4 + 1 + 1 = _; omega]; exact c2
          · rw [show 0 + i * owT.nc + (Ty.int IntKind.i64).nc + (Ty.int IntKind.i64).nc + (Ty.int IntKind.i64).nc = i * 4 + 3 from by show 0 + i * 4 + 1 + 1 + 1 = _; omega]; exact c3)
        hk (by rw [hcs]; exact Nat.le_refl _) (fun o ho => by simp only; omega) (by show l.length * 32 ≤ 140737488355328; exact hb) (by decide)
    have R3 := R2.drew (w' := ((w.alloc (.cells #[] 78)).alloc (.cells (((List.range (l.length * 4)).map (cellO l)).toArray ++ Builtin.zeroCells #[Value.int .i64 0, Value.int .i64 0, Value.int .i64 0, Value.int .i64 0] (k - l.length)) 78)).drew) rfl rfl rfl rfl
    rw [hsz] at R3
    have g1 : ∀ id, get ((0, D.sl 2 owT l) :: (0, D.sl 2 owT ([] : List owT.den)) :: entrySt c59 ((), l, ())) (2 * id + 1) = .undef := by
      intro id
      show get [(0, _), (0, _), (0, D.sl 0 owT l)] (2 * id + 1) = .undef
      have e0 : Nat.beq (2 * id + 1) 0 = false := nbeq_g (by omega)
      simp only [get, e0, cond_false]
    exact hK #[.slice (some ⟨w.heap.size + 1, 0, none⟩) l.length k] _ G pt (R3.keep0 g1)
theorem ok59 : FunOk Tryd.prog B 59 c59 := ⟨by decide, fun _ => sem59, fun x h => (by cases h), Tryd.f59, Tryd.func59, by kernel_rfl, by kernel_rfl⟩
end Go.Abs.C1D

namespace Go.Abs.C1D
open Go Go.Proofs Go.Sort Go.RowKit Go.Shelf
set_option maxRecDepth 100000

theorem f56_cells {w : World} {G : Nat → Nat} {l : List (Int × Int × Unit)} {b c : Nat} (hr : RepE w G (.st 16 (.cons (.int .i64) (.cons (.int .i64) .unit))) l b 0) (hm : Room w b (l.length * 2)) (hb : b < w.heap.size) (hsz : l.length < 4611686018427387904) :
    Calls Tryd.prog 56 #[.slice (some ⟨b, 0, none⟩) l.length c, .func (.func 57) #[] #[]] w fun e w' => e = .returned (.tuple #[]) ∧ ∃ n os, w' = grow (Go.Sort.ahead (w.setCells b 0 (flatK encE 2 (sortE l).toArray).toList) n) os := by
  have hH := holdsE hr hm
  have h := AnyQ.slices_SortFunc_eq (P := Tryd.prog) (ρ := sortEd_ren) sortEd 2 Tryd.isAgg39 Tryd.sizeOf39 encE (fun _ => rfl) (fun x v hv => by simp [encE] at hv; rcases hv with rfl | rfl <;> rfl) (fun x y : Int × Int × Unit => Sp1D.cmpI x.2.1 y.2.1) swoC 57 #[] b 0 c l.toArray w eg57
    (fun m os dk hs x y => f57_calls x y _) hH hb (by simpa using hsz)
  have h : Calls Tryd.prog 56 #[.slice (some ⟨b, 0, none⟩) l.toArray.size c, .func (.func 57) #[] #[]] w _ := h
  rw [show l.toArray.size = l.length from by simp] at h
  refine h.mono ?_
  rintro e w' ⟨rfl, n, os, rfl⟩
  refine ⟨rfl, n, os, ?_⟩
  unfold sortWorldK
  rw [ltE_of]
  have hs : (sortE l).toArray = Sort.pdq ltE l.toArray 0 l.length (Go.Lib.bitLen l.length) true true := by
    unfold sortE
    simp
  rw [← hs]
  congr 1
  show putRow id (Go.Sort.ahead w n) b 0 (flatK encE 2 (sortE l).toArray) = _
  rw [putRow_ahead]
  congr 1
  refine put_set hH ?_
  rw [hs]
  obtain ⟨⟨k1, -, -⟩, -⟩ := Go.Sort.pdq_sorts ltE swoE l.toArray 0 l.length (Go.Lib.bitLen l.length) true true (Nat.zero_le _) (by simp) (.inl rfl)
  exact k1
theorem sortE_perm (l : List (Int × Int × Unit)) : (sortE l).Perm l := by
  obtain ⟨⟨k1, -, k2⟩, -⟩ := Go.Sort.pdq_sorts ltE swoE l.toArray 0 l.length (Go.Lib.bitLen l.length) true true (Nat.zero_le _) (by simp) (.inl rfl)
  have hd : sortE l = (Go.Sort.pdq ltE l.toArray 0 l.length (Go.Lib.bitLen l.length) true true).toList := rfl
  generalize Go.Sort.pdq ltE l.toArray 0 l.length (Go.Lib.bitLen l.length) true true = d at k1 k2 hd
  have hsz : d.size = l.length := by simpa using k1
  have e1 : (d.extract 0 l.length).toList = d.toList := by rw [← hsz]; simp
  have e2 : (l.toArray.extract 0 l.length).toList = l := by simp
  rw [e1, e2] at k2
  rw [hd]
  exact k2
theorem grow_rel {E : Env} {C : Ctx} {s : St} {a : Act} {w : World} {G : Nat → Nat} {pt : Nat → Nat → Option Value} (R : Rel E C s a w G pt) (os : Array Obj) (o : Oper) (t : Nat) (hdst : o.dst = some t) (ht : t < E.n) (v : Value) :
    Rel E C ((2 * t, .undef) :: s) (a.put o.dst v) (grow w os) G pt := by
  have h := R.put o (fun u hu => by rw [hdst] at hu; cases hu; exact ht) (w' := grow w os) (G' := G) (d' := .undef) (v' := v) (fun _ => False)
    ⟨fun b j hj => by
      have hb : b < w.heap.size := by
        rcases Nat.lt_or_ge b w.heap.size with h | h
        · exact h
        · rw [R.gz b h] at hj; exact absurd hj (by omega)
      unfold World.cell? grow
      simp only
      rw [Array.getElem?_append_left hb], fun _ => Nat.le_refl _⟩
    (fun b _ hb => ⟨by show (w.heap ++ os)[b]? = _; rw [Array.getElem?_append_left hb], rfl⟩) (fun b h => h.elim) trivial (fun b => by
      rw [ctV_undef]
      exact ⟨Nat.zero_le _, fun h => absurd h (by omega)⟩) (fun b hb => R.gz b (by
        have : (grow w os).heap.size = w.heap.size + os.size := by show (w.heap ++ os).size = _; rw [Array.size_append]
        omega)) rfl rfl rfl (by show w.heap.size ≤ (w.heap ++ os).size; rw [Array.size_append]; omega)
  rw [dstU_some hdst] at h
  exact h
end Go.Abs.C1D

namespace Go.Abs.C1D
open Go Go.Proofs Go.Sort Go.RowKit Go.Shelf
set_option maxRecDepth 100000
theorem f56_none {w : World} : Calls Tryd.prog 56 #[.slice none 0 0, .func (.func 57) #[] #[]] w fun e w' => e = .returned (.tuple #[]) ∧ w' = w :=
  AnyF.slices_SortFunc_none (P := Tryd.prog) (ρ := sortEd_ren) sortEd none 0 (.func (.func 57) #[] #[]) w
theorem x56_ok : XSem Tryd.prog 56 xf56 := by
  intro E C o cl s a w G pt t u hm ht hdst hop hcl R hx
  obtain ⟨X, s2, r, hl, -, hu⟩ := x56_args hx
  subst hu
  obtain ⟨x0, x1, hargs, e0, e1⟩ := list2 hl
  have p0 : opd s x0 = .rsl X s2 := congrArg Prod.fst e0
  have q0 : inBox s (opd s x0) = .arrv s2 true false (.st 16 (.cons (.int .i64) (.cons (.int .i64) .unit))) r := congrArg Prod.snd e0
  have p1 : opd s x1 = .fnc 57 := congrArg Prod.fst e1
  rw [p0] at q0
  have q0 : get s (2 * X + 1) = .arrv s2 true false (.st 16 (.cons (.int .i64) (.cons (.int .i64) .unit))) r := q0
  have r0 := opd_rep R x0; rw [p0] at r0
  have r1 := opd_rep R x1; rw [p1] at r1
  have r0 : pt X s2 = some (a.eval x0) := r0
  have r1 : a.eval x1 = .func (.func 57) #[] #[] := r1
  have hB := R.bx X
  rw [q0] at hB
  have hB := hB rfl
  simp only [Bool.false_eq_true, if_false] at hB
  obtain ⟨ad, n, c, h1, hn, hbd, hsl⟩ := hB
  have hv : a.eval x0 = .slice ad n c := by rw [r0] at h1; exact Option.some.inj h1
  intro K Q hK
  have hrun : (execOp a.eval o).run Tryd.prog w = .ok (.enter 56 (cl.args.map a.eval)) w := by
    have e : execOp a.eval o = callFunc 56 (#[] ++ cl.args.map a.eval ++ #[]) := by
      simp only [execOp, hop, resolve, hcl]
      rfl
    rw [e]
    simp only [callFunc]
    have h2 : ¬ Tryd.f56.name = "runtime.NumGoroutine" := by decide
    have h3b : Tryd.f56.body.isNone = false := by kernel_rfl
    have h3 : ¬ Tryd.f56.body = none := fun h => by rw [h] at h3b; cases h3b
    simp [go_sem, Tryd.func56, h2, h3]
  unfold Oper.wp
  rw [hrun, Oper.upon_enter]
  have ha : cl.args.map a.eval = #[.slice ad n c, .func (.func 57) #[] #[]] := by
    apply Array.ext'
    rw [Array.toList_map, hargs]
    simp only [List.map_cons, List.map_nil, hv, r1]
  rw [ha]
  have hts : ∀ {w' : World} (R' : Rel E C ((2 * X + 1, .arrv s2 true false (.st 16 (.cons (.int .i64) (.cons (.int .i64) .unit))) (sortE r)) :: s) a w' G pt) (n : Nat) (os : Array Obj),
      Rel E C (applyU [(2 * X + 1, .arrv s2 true false (.st 16 (.cons (.int .i64) (.cons (.int .i64) .unit))) (sortE r)), (2 * t, .undef)] s) (a.put o.dst (.tuple #[])) (grow (Go.Sort.ahead w' n) os) G pt := by
    intro w' R' n os
    exact grow_rel (R'.world (w' := Go.Sort.ahead w' n) rfl rfl rfl rfl) os o t hdst ht _
  rcases hsl with ⟨h5, h6, h7⟩ | ⟨b, h5, h6, h7, h8, h9, h10⟩
  · subst h5 h7
    have h6 : r = [] := h6
    subst h6
    have hn : n = 0 := hn
    subst hn
    refine (f56_none).mono ?_
    rintro e w' ⟨rfl, rfl⟩
    have e0 : sortE [] = [] := (sortE_perm []).eq_nil
    have R1 : Rel E C ((2 * X + 1, .arrv s2 true false (.st 16 (.cons (.int .i64) (.cons (.int .i64) .unit))) (sortE [])) :: s) a w' G pt := by
      rw [e0]
      refine R.congr fun k => ?_
      rw [get_cons]
      split
      · rename_i hk; rw [hk, q0]
      · rfl
    have R2 := hts R1 0 #[]
    rw [show grow (Go.Sort.ahead w' 0) #[] = w' from by rw [grow_empty]; rfl] at R2
    exact hK _ _ _ _ R2
  · subst h5
    have hn : n = r.length := hn
    subst hn
    have hbd : r.length * 16 ≤ 140737488355328 := hbd
    have hroom : Room w b (r.length * 2) := by
      obtain ⟨cur, e, fr, k1, k2, k3⟩ := h7
      exact ⟨cur, e, fr, k1, Nat.le_trans (Nat.mul_le_mul_right _ h8) k2, k3⟩
    have hblk : blkOf (pt X s2) = some b := by rw [h1]; rfl
    have hbs : b < w.heap.size := by
      obtain ⟨cur, e, fr, k1, -, -⟩ := h7
      rcases Nat.lt_or_ge b w.heap.size with h | h
      · exact h
      · rw [Array.getElem?_eq_none h] at k1; cases k1
    refine (f56_cells h9 hroom hbs (by omega)).mono ?_
    rintro e w' ⟨rfl, q, os, rfl⟩
    have hlen : (sortE r).length = r.length := (sortE_perm r).length_eq
    have hvs : (flatK encE 2 (sortE r).toArray).toList.length = r.length * 2 := by simp [hlen]
    have R1 := R.storeArr (t := .st 16 (.cons (.int .i64) (.cons (.int .i64) .unit))) (l := r) (off := 0) (vs := (flatK encE 2 (sortE r).toArray).toList) (l' := sortE r) q0 hblk hlen (by
      intro i hi
      have hi : i < (sortE r).length := hi
      obtain ⟨f1, f2⟩ := flat_get (sortE r).toArray i (by simpa using hi)
      have hd : (sortE r).toArray[i]! = (sortE r)[i] := by
        rw [getElem!_pos (sortE r).toArray i (by simpa using hi)]
        simp
      rw [hd] at f1 f2
      have hsz : (flatK encE 2 (sortE r).toArray).size = r.length * 2 := by simp [hlen]
      have hmem : (sortE r)[i] ∈ r := (sortE_perm r).subset (List.getElem_mem _)
      obtain ⟨k, hk, hke⟩ := List.getElem_of_mem hmem
      obtain ⟨g1, g2, -⟩ := h9 k hk
      have hcell : ∀ j, j < r.length * 2 → (w.setCells b 0 (flatK encE 2 (sortE r).toArray).toList).cell? ⟨b, 0 + j, none⟩ = some (flatK encE 2 (sortE r).toArray)[j]! := by
        intro j hj
        rw [set_in hroom _ (by omega) (j := j) (by rw [hvs]; exact hj)]
        rw [getElem!_pos _ j (by rw [hsz]; exact hj)]
        simp
      have c0 := hcell (i * 2) (by omega)
      have c1 := hcell (i * 2 + 1) (by omega)
      rw [f1] at c0
      rw [f2] at c1
      refine ⟨⟨c0, ?_⟩, ⟨?_, ?_⟩, trivial⟩
      · have := g1.2; rw [hke] at this; exact this
      · rw [show 0 + i * (Ty.st 16 (.cons (.int .i64) (.cons (.int .i64) .unit))).nc + (Ty.int IntKind.i64).nc = 0 + (i * 2 + 1) from by show 0 + i * 2 + 1 = _; omega]; exact c1
      · have := g2.2; rw [hke] at this; exact this)
    exact hK _ _ _ _ (hts R1 q os)
end Go.Abs.C1D

namespace Go.Abs.C1D
open Go Go.Proofs Sp1D
set_option maxRecDepth 100000

theorem g18_ok   : g18  = some (true, ()) := by
  kernel_rfl
theorem g39_ok (a0 : Int) (a1 : Int) (r0 : IntKind.i64.has a0) (r1 : IntKind.i64.has a1) : g39 a0 a1 = some ((a0, 0, a1, 8, ()), ()) := by
  rfl
theorem g47_ok (a0 : Int) (a1 : Int) (a2 : Int) (r0 : IntKind.i64.has a0) (r1 : IntKind.i64.has a1) (r2 : IntKind.i64.has a2) : g47 a0 a1 a2 = some (decide (a1 = a2), ()) := by
  rfl
theorem g61v_ok (a0 : (List (Int × (Int × Unit)))) (a1 : Int) (r0 : (Ty.sl (edT)).ok a0) (r1 : IntKind.i64.has a1) : g61v a0 a1 = some (Sp1D.idx (fun e => decide (e.2.1 = a1)) a0, ()) := by
  have hl := len_ed r0
  unfold g61v
  refine find_loop (g61v_s0 a0 a1) a0 (fun e => decide (e.2.1 = a1)) zE (fun i hi => ?_) ?_
  · unfold g61v_s0
    simp only [Int.ofNat_eq_natCast, Int.toNat_natCast]
    rw [decide_eq_true (show (i : Int) < (a0.length : Int) by omega), decide_eq_true (show (0 : Int) ≤ (i : Int) by omega), wi64 (n := (i : Int) + 1) (by omega) (by omega)]
    rfl
  · unfold g61v_s0
    simp only [Int.ofNat_eq_natCast]
    rw [decide_eq_false (show ¬ (a0.length : Int) < (a0.length : Int) by omega)]
    rfl
theorem g44v_ok (a0 : (List (Int × (Int × Unit)))) (a1 : Int) (r0 : (Ty.sl (edT)).ok a0) (r1 : IntKind.i64.has a1) : g44v a0 a1 = some (a0.any (fun e => decide (e.2.1 = a1)), ()) := by
  unfold g44v
  rw [idx_any]
theorem g29_ok (a0 : Int) (a1 : Int) (a2 : (List (Int × (Int × Unit)))) (a3 : Int) (r0 : IntKind.i64.has a0) (r1 : IntKind.i64.has a1) (r2 : (Ty.sl (edT)).ok a2) (r3 : IntKind.i64.has a3) : g29 a0 a1 a2 a3 = some (Sp1D.hasE (a0, a1, a2, ()) a3, ()) := by
  rfl
theorem g28_ok (a0 : Int) (a1 : Int) (a2 : Int) (a3 : (List (Int × (Int × Unit)))) (r0 : IntKind.i64.has a0) (r1 : IntKind.i64.has a1) (r2 : IntKind.i64.has a2) (r3 : (Ty.sl (edT)).ok a3) : g28 a0 a1 a2 a3 = some (!Sp1D.hasE (a1, a2, a3, ()) a0, ()) := by
  rfl
theorem g46_ok (a0 : (List Int)) (a1 : Int) (a2 : Int) (a3 : (List (Int × (Int × Unit)))) (r0 : (Ty.sl (.int .i64)).ok a0) (r1 : IntKind.i64.has a1) (r2 : IntKind.i64.has a2) (r3 : (Ty.sl (edT)).ok a3) : g46 a0 a1 a2 a3 = some (Sp1D.idx (fun id => !Sp1D.hasE (a1, a2, a3, ()) id) a0, ()) := by
  have hl := len_i r0
  unfold g46
  refine find_loop (g46_s0 a0 a1 a2 a3) a0 (fun id => !hasE (a1, a2, a3, ()) id) 0 (fun i hi => ?_) ?_
  · unfold g46_s0
    simp only [Int.ofNat_eq_natCast, Int.toNat_natCast]
    rw [decide_eq_true (show (i : Int) < (a0.length : Int) by omega), decide_eq_true (show (0 : Int) ≤ (i : Int) by omega), wi64 (n := (i : Int) + 1) (by omega) (by omega)]
    rfl
  · unfold g46_s0
    simp only [Int.ofNat_eq_natCast]
    rw [decide_eq_false (show ¬ (a0.length : Int) < (a0.length : Int) by omega)]
    rfl
theorem g27_ok (a0 : (List Int)) (a1 : Int) (a2 : Int) (a3 : (List (Int × (Int × Unit)))) (r0 : (Ty.sl (.int .i64)).ok a0) (r1 : IntKind.i64.has a1) (r2 : IntKind.i64.has a2) (r3 : (Ty.sl (edT)).ok a3) : g27 a0 a1 a2 a3 = some (a0.any (fun id => !Sp1D.hasE (a1, a2, a3, ()) id), ()) := by
  unfold g27
  rw [idx_any]
theorem find_range {α β : Type} (p : α → Bool) (f : α → β) (l : List α) (d : α) : (List.range l.length).findSome? (fun k => bif p (l.getD k d) then some (f (l.getD k d)) else none) = (l.find? p).map f := by
  rw [← findSome_find]
  have : l = (List.range l.length).map fun k => l.getD k d := by
    refine List.ext_getElem (by simp) fun i h1 h2 => ?_
    simp [List.getD_eq_getElem?_getD, h1]
  conv => rhs; rw [this]
  rw [List.findSome?_map]
  rfl
theorem edgeF_has (p : Pn) (id : Int) : (edgeF p id).2.1 = hasE p id := by
  unfold edgeF hasE
  cases h : p.2.2.1.find? fun e => decide (e.2.1 = id) with
  | none =>
    rw [List.find?_eq_none] at h
    symm
    rw [Bool.eq_false_iff]
    intro hh
    obtain ⟨e, he, h2⟩ := List.any_eq_true.1 hh
    exact h e he h2
  | some e =>
    symm
    exact List.any_eq_true.2 ⟨e, List.mem_of_find?_eq_some h, List.find?_some (p := fun e : Ed => decide (e.2.1 = id)) h⟩
theorem g32_ok (a0 : Int) (a1 : Int) (a2 : (List (Int × (Int × Unit)))) (a3 : Int) (r0 : IntKind.i64.has a0) (r1 : IntKind.i64.has a1) (r2 : (Ty.sl (edT)).ok a2) (r3 : IntKind.i64.has a3) : g32 a0 a1 a2 a3 = some (Sp1D.edgeF (a0, a1, a2, ()) a3, ()) := by
  have hl := len_ed r2
  have hL : Loop (g32_s0 a2 a3) (((0 : Int), ((0 : Int), ())), ((0 : Int), ())) = some (((a2.find? fun e => decide (e.2.1 = a3)).map fun e => ((true, ((e, (true, ())), (((0 : Int), ((0 : Int), ())), ()))) : Bool × (Ed × Bool × Unit) × Ed × Unit)).getD (false, ((((0 : Int), ((0 : Int), ())), (false, ())), ((((0 : Int), ((0 : Int), ())), ()))))) := by
    rw [← find_range (fun e : Ed => decide (e.2.1 = a3)) _ a2 zE]
    refine Loop_seqE (step := g32_s0 a2 a3) (fun k => (((0 : Int), ((0 : Int), ())), ((k : Int), ()))) a2.length _ _ (fun k hk => ?_) ?_
    · unfold g32_s0
      simp only [Int.ofNat_eq_natCast, Int.toNat_natCast]
      rw [dT (show (k : Int) < (a2.length : Int) by omega), dT (show (0 : Int) ≤ (k : Int) by omega), wi64n (by omega)]
      cases decide ((a2.getD k (0, 0, ())).2.1 = a3) <;> rfl
    · unfold g32_s0
      simp only [Int.ofNat_eq_natCast]
      rw [dF (show ¬ (a2.length : Int) < (a2.length : Int) by omega)]
      rfl
  unfold g32 edgeF
  rw [hL]
  simp only
  cases a2.find? fun e => decide (e.2.1 = a3) <;> rfl
theorem not_upI (l : List Int) : (List.range (l.length - 1)).any (fun i => decide (l.getD (i + 1) 0 ≤ l.getD i 0)) = !upI l := by
  unfold upI
  rw [List.not_all_eq_any_not]
  congr 1
  funext i
  rw [Bool.eq_iff_iff, decide_eq_true_eq, Bool.not_eq_true', decide_eq_false_iff_not]
  omega
theorem up12 (a0 : List Int) (hl : a0.length ≤ 17592186044416) : Loop (g12_s0 a0) ((1 : Int), ()) = some (bif !upI a0 then (true, (([], (25, ())), ())) else (false, (([], (0, ())), ()))) := by
  rw [← not_upI]
  refine scan1 (g12_s0 a0) a0.length (fun i => decide (a0.getD i 0 ≤ a0.getD (i - 1) 0)) _ _ (fun i hi1 hi2 => ?_) (fun i hi1 hi2 => ?_)
  · unfold g12_s0
    simp only [Int.ofNat_eq_natCast, Int.toNat_natCast]
    rw [wi64p (by omega) (by omega), wi64n (by omega), Int.toNat_natCast, dT (show (i : Int) < (a0.length : Int) by omega), dT (show (0 : Int) ≤ (i : Int) by omega), dT (show (0 : Int) ≤ ((i - 1 : Nat) : Int) by omega), dT (show ((i - 1 : Nat) : Int) < (a0.length : Int) by omega)]
    by_cases h : a0.getD i 0 ≤ a0.getD (i - 1) 0
    · rw [dT (show a0.getD (i - 1) 0 ≥ a0.getD i 0 from h)]; first | rfl | (rw [dT h]; rfl)
    · rw [dF (show ¬ a0.getD (i - 1) 0 ≥ a0.getD i 0 from h)]; first | rfl | (rw [dF h]; rfl)
  · unfold g12_s0
    simp only [Int.ofNat_eq_natCast]
    rw [dF (show ¬ (i : Int) < (a0.length : Int) by omega)]
    rfl
theorem up11 (a0 : List Int) (hl : a0.length ≤ 17592186044416) : Loop (g11_s0 a0) ((0 : Int), ()) = some (bif !upI a0 then (true, (([], (25, ())), ())) else (false, (([], (0, ())), ()))) := by
  have h1 : Loop (g11_s0 a0) ((1 : Int), ()) = some (bif !upI a0 then (true, (([], (25, ())), ())) else (false, (([], (0, ())), ()))) := by
    rw [← not_upI]
    refine scan1 (g11_s0 a0) a0.length (fun i => decide (a0.getD i 0 ≤ a0.getD (i - 1) 0)) _ _ (fun i hi1 hi2 => ?_) (fun i hi1 hi2 => ?_)
    · unfold g11_s0
      simp only [Int.ofNat_eq_natCast, Int.toNat_natCast]
      rw [wi64p (by omega) (by omega), wi64n (by omega), Int.toNat_natCast, dT (show (i : Int) < (a0.length : Int) by omega), dT (show (i : Int) > 0 by omega), dT (show (0 : Int) ≤ (i : Int) by omega), dT (show (0 : Int) ≤ ((i - 1 : Nat) : Int) by omega), dT (show ((i - 1 : Nat) : Int) < (a0.length : Int) by omega)]
      by_cases h : a0.getD i 0 ≤ a0.getD (i - 1) 0
      · rw [dT (show a0.getD (i - 1) 0 ≥ a0.getD i 0 from h)]; first | rfl | (rw [dT h]; rfl)
      · rw [dF (show ¬ a0.getD (i - 1) 0 ≥ a0.getD i 0 from h)]; first | rfl | (rw [dF h]; rfl)
    · unfold g11_s0
      simp only [Int.ofNat_eq_natCast]
      rw [dF (show ¬ (i : Int) < (a0.length : Int) by omega)]
      rfl
  cases a0 with
  | nil =>
    rw [Loop_step]
    rfl
  | cons x r =>
    rw [Loop_step]
    have h0 : g11_s0 (x :: r) ((0 : Int), ()) = some (.inl ((1 : Int), ())) := by
      unfold g11_s0
      simp only [Int.ofNat_eq_natCast]
      rw [dT (show (0 : Int) < ((x :: r).length : Int) by simp only [List.length_cons]; omega)]
      rfl
    rw [h0]
    exact h1
theorem place_bit (id n : Int) : 0 ≤ (place id n).2.1 ∧ (place id n).2.1 ≤ 63 := by
  unfold place
  cases hv : vlen n with
  | false => exact ⟨Int.le_refl _, show (0 : Int) ≤ 63 by omega⟩
  | true =>
    cases hi : Sp1D.inside id 1 256 with
    | false => exact ⟨Int.le_refl _, show (0 : Int) ≤ 63 by omega⟩
    | true =>
      have h1 := vlen_iff.1 hv
      have h2 := inside_iff.1 hi
      simp only [Bool.not_true, Bool.or_self, cond_false]
      rcases h1 with h | h | h | h <;> subst h <;> omega
theorem shl_bit1 {k : Int} (h : 0 ≤ k ∧ k ≤ 63) : IntKind.wrap .u64 (1 * (Int.pow 2 (min k.toNat 64))) = Bt.bit1 k := by
  have hp := pow_U (k := k.toNat) (by omega)
  unfold Bt.bit1
  rw [dF (show ¬ k < 0 by omega), dF (show ¬ 63 < k by omega), show min k.toNat 64 = k.toNat by omega, pow2, Int.one_mul]
  exact wu64 hp.1 hp.2
theorem setStep_inv {n : Int} {out : List SB} {id : Int} (hu : ∀ s ∈ out, U s.2.1) : (∀ s ∈ setStep n out id, U s.2.1) ∧ (setStep n out id).length ≤ out.length + 1 ∧ 0 < (setStep n out id).length := by
  unfold setStep
  simp only
  have hu2 : ∀ s ∈ (bif decide (out.length = 0) || !decide ((out.getD (out.length - 1) zS).1 = (place id n).1) then out ++ [((place id n).1, 0, ())] else out), U s.2.1 := by
    cases decide (out.length = 0) || !decide ((out.getD (out.length - 1) zS).1 = (place id n).1) with
    | false => exact hu
    | true =>
      intro s hs
      rcases List.mem_append.1 hs with h | h
      · exact hu s h
      · rw [List.mem_singleton.1 h]; exact U0
  have hl : out.length ≤ (bif decide (out.length = 0) || !decide ((out.getD (out.length - 1) zS).1 = (place id n).1) then out ++ [((place id n).1, (0 : Int), ())] else out).length ∧ (bif decide (out.length = 0) || !decide ((out.getD (out.length - 1) zS).1 = (place id n).1) then out ++ [((place id n).1, (0 : Int), ())] else out).length ≤ out.length + 1 ∧ 0 < (bif decide (out.length = 0) || !decide ((out.getD (out.length - 1) zS).1 = (place id n).1) then out ++ [((place id n).1, (0 : Int), ())] else out).length := by
    by_cases h0 : out.length = 0
    · rw [dT h0]
      simp only [Bool.true_or, cond_true, List.length_append, List.length_cons, List.length_nil]
      omega
    · cases decide (out.length = 0) || !decide ((out.getD (out.length - 1) zS).1 = (place id n).1) with
      | false => simp only [cond_false]; omega
      | true => simp only [cond_true, List.length_append, List.length_cons, List.length_nil]; omega
  generalize (bif decide (out.length = 0) || !decide ((out.getD (out.length - 1) zS).1 = (place id n).1) then out ++ [((place id n).1, 0, ())] else out) = o at hu2 hl ⊢
  refine ⟨fun s hs => ?_, by rw [List.length_set]; omega, by rw [List.length_set]; omega⟩
  rcases List.mem_or_eq_of_mem_set hs with h | h
  · exact hu2 s h
  · rw [h]
    have h1 : U (o.getD (o.length - 1) zS).2.1 := hu2 _ (getD_mem (by omega))
    exact ucast (Nat.or_lt_two_pow (utn h1) (utn (bit1_U _)))
theorem fold_inv {n : Int} (l : List Int) (k : Nat) (hk : k ≤ l.length) : (∀ s ∈ (l.take k).foldl (setStep n) [], U s.2.1) ∧ ((l.take k).foldl (setStep n) []).length ≤ k := by
  induction k with
  | zero => exact ⟨fun s hs => (by cases hs), Nat.le_refl _⟩
  | succ k ih =>
    obtain ⟨h1, h2⟩ := ih (by omega)
    rw [fold_take (setStep n) [] l 0 k (by omega)]
    have := setStep_inv (n := n) (id := l.getD k 0) h1
    exact ⟨this.1, by omega⟩
theorem step11 (a0 : Int) (a1 : List Int) (hl : a1.length ≤ 17592186044416) (k : Nat) (hk : k < a1.length) (out : List SB) (hu : ∀ s ∈ out, U s.2.1) (ho : out.length ≤ k) (hk2 : k ≤ 1000000) :
    g11_s1 a0 a1 ((k : Int), (out, ())) = some (.inl (((k + 1 : Nat) : Int), (setStep a0 out (a1.getD k 0), ()))) ∧ g12_s2 a0 a1 (out, ((k : Int), ())) = some (.inl (setStep a0 out (a1.getD k 0), (((k + 1 : Nat) : Int), ()))) := by
  have hpb := place_bit (a1.getD k 0) a0
  have hsh := shl_bit1 hpb
  unfold setStep
  unfold g11_s1 g12_s2
  dsimp only
  generalize hkk : Int.toNat ((k : Nat) : Int) = j
  obtain rfl : k = j := by rw [← hkk, Int.toNat_natCast]
  generalize place (a1.getD k 0) a0 = p at hpb hsh ⊢
  simp only [Int.ofNat_eq_natCast]
  rw [hsh, dT (show (k : Int) < (a1.length : Int) by omega), dT (show (0 : Int) ≤ (k : Int) by omega), wi64n (by omega), dT hpb.1]
  have fin : ∀ o : List SB, (∀ s ∈ o, U s.2.1) → 0 < o.length → o.length ≤ 2000000 → (IntKind.wrap .i64 ((o.length : Int) - 1)) = ((o.length - 1 : Nat) : Int) ∧
      IntKind.wrap .u64 (((BitVec.or (BitVec.ofInt 64 (o.getD (o.length - 1) zS).2.1) (BitVec.ofInt 64 (Bt.bit1 p.2.1))).toNat : Nat) : Int) = Bt.or (o.getD (o.length - 1) zS).2.1 (Bt.bit1 p.2.1) := by
    intro o h1 h2 h3
    exact ⟨wi64p (k := o.length) h2 (by omega), bor (h1 _ (getD_mem (by omega))) (bit1_U _)⟩
  obtain ⟨f1, f2⟩ := fin (out ++ [(p.1, 0, ())]) (fun s hs => by
    rcases List.mem_append.1 hs with h | h
    · exact hu s h
    · rw [List.mem_singleton.1 h]; exact U0) (by simp) (by simp; omega)
  by_cases h0 : out.length = 0
  · rw [dT h0, dT (show (out.length : Int) = 0 by omega)]
    simp only [Bool.not_true, cond_false, cond_true, Option.bind_some, Bool.true_or, Bool.and_self]
    rw [ble_t (show (out.length + 1) * 16 ≤ 140737488355328 by omega)]
    simp only [cond_true, Option.bind_some]
    simp only [Int.ofNat_eq_natCast, f1, Int.toNat_natCast]
    rw [dT (show (0 : Int) ≤ (((out ++ [(p.1, (0 : Int), ())]).length - 1 : Nat) : Int) by omega), dT (show (((out ++ [(p.1, (0 : Int), ())]).length - 1 : Nat) : Int) < ((out ++ [(p.1, (0 : Int), ())]).length : Int) by simp only [List.length_append, List.length_cons, List.length_nil]; omega), blt_t (show (out ++ [(p.1, (0 : Int), ())]).length - 1 < (out ++ [(p.1, (0 : Int), ())]).length by simp only [List.length_append, List.length_cons, List.length_nil]; omega), f2]
    exact ⟨rfl, rfl⟩
  · rw [dF h0, dF (show ¬ (out.length : Int) = 0 by omega)]
    obtain ⟨g1, g2⟩ := fin out hu (by omega) (by omega)
    simp only [Bool.not_false, cond_true, Bool.false_or, Bool.and_self]
    simp only [Int.ofNat_eq_natCast, g1, Int.toNat_natCast]
    rw [dT (show (0 : Int) ≤ ((out.length - 1 : Nat) : Int) by omega), dT (show ((out.length - 1 : Nat) : Int) < (out.length : Int) by omega), blt_t (show out.length - 1 < out.length by omega)]
    simp only [cond_true, Option.bind_some, Bool.and_self]
    by_cases hq : (out.getD (out.length - 1) zS).1 = p.1
    · rw [dT hq]
      simp only [Bool.not_true, cond_false, Option.bind_some]
      simp only [Int.ofNat_eq_natCast, g1, Int.toNat_natCast]
      rw [dT (show (0 : Int) ≤ ((out.length - 1 : Nat) : Int) by omega), dT (show ((out.length - 1 : Nat) : Int) < (out.length : Int) by omega), blt_t (show out.length - 1 < out.length by omega), g2]
      exact ⟨rfl, rfl⟩
    · rw [dF hq]
      simp only [Bool.not_false, cond_true]
      rw [ble_t (show (out.length + 1) * 16 ≤ 140737488355328 by omega)]
      simp only [cond_true, Option.bind_some]
      simp only [Int.ofNat_eq_natCast, f1, Int.toNat_natCast]
      rw [dT (show (0 : Int) ≤ (((out ++ [(p.1, (0 : Int), ())]).length - 1 : Nat) : Int) by omega), dT (show (((out ++ [(p.1, (0 : Int), ())]).length - 1 : Nat) : Int) < ((out ++ [(p.1, (0 : Int), ())]).length : Int) by simp only [List.length_append, List.length_cons, List.length_nil]; omega), blt_t (show (out ++ [(p.1, (0 : Int), ())]).length - 1 < (out ++ [(p.1, (0 : Int), ())]).length by simp only [List.length_append, List.length_cons, List.length_nil]; omega), f2]
      exact ⟨rfl, rfl⟩
end Go.Abs.C1D

namespace Go.Abs.C1D
open Go Go.Proofs Sp1D
set_option maxRecDepth 100000

theorem upI_lt {l : List Int} (h : upI l = true) : ∀ j i, i < j → j < l.length → l.getD i 0 < l.getD j 0 := by
  have h1 : ∀ i, i + 1 < l.length → l.getD i 0 < l.getD (i + 1) 0 := by
    intro i hi
    unfold upI at h
    rw [List.all_eq_true] at h
    exact of_decide_eq_true (h i (List.mem_range.2 (by omega)))
  intro j
  induction j with
  | zero => intro i hi; omega
  | succ j ih =>
    intro i hi hj
    by_cases q : i = j
    · subst q; exact h1 i hj
    · exact Int.lt_trans (ih i (by omega) (by omega)) (h1 j hj)
theorem upI_gap {l : List Int} (h : upI l = true) : ∀ j, j < l.length → l.getD 0 0 + (j : Int) ≤ l.getD j 0
  | 0, _ => by omega
  | j + 1, hj => by
    have := upI_gap h j (by omega)
    have := upI_lt h (j + 1) j (by omega) hj
    omega
theorem valid_ids {p : Pn} (h : validP p = true) : ∀ e ∈ p.2.2.1, 1 ≤ e.2.1 ∧ e.2.1 ≤ 256 := by
  unfold validP at h
  simp only [Bool.and_eq_true] at h
  intro e he
  have := List.all_eq_true.1 h.1.1.2 e he
  rw [Bool.and_eq_true] at this
  exact inside_iff.1 this.1
theorem has_in {p : Pn} (h : validP p = true) {id : Int} (hh : hasE p id = true) : 1 ≤ id ∧ id ≤ 256 := by
  unfold hasE at hh
  obtain ⟨e, he, h2⟩ := List.any_eq_true.1 hh
  have := valid_ids h e he
  rw [of_decide_eq_true h2] at this
  exact this
theorem ids_len {p : Pn} (h : validP p = true) {l : List Int} (hu : upI l = true) (ha : l.any (fun id => !hasE p id) = false) : l.length ≤ 256 := by
  by_cases h0 : l.length = 0
  · omega
  have hin : ∀ k, k < l.length → 1 ≤ l.getD k 0 ∧ l.getD k 0 ≤ 256 := by
    intro k hk
    rw [List.any_eq_false] at ha
    have := ha _ (getD_mem (d := 0) hk)
    exact has_in h (by simpa using this)
  have h1 := upI_gap hu (l.length - 1) (by omega)
  have h2 := hin (l.length - 1) (by omega)
  have h3 := hin 0 (by omega)
  omega
theorem g11_ok (a0 : Int) (a1 : Int) (a2 : (List (Int × (Int × Unit)))) (a3 : (List Int)) (r0 : IntKind.i64.has a0) (r1 : IntKind.i64.has a1) (r2 : (Ty.sl (edT)).ok a2) (r3 : (Ty.sl (.int .i64)).ok a3) : g11 a0 a1 a2 a3 = some (Sp1D.sets (a0, a1, a2, ()) a3, ()) := by
  have hl := len_i r3
  unfold g11 sets
  cases hv : validP (a0, a1, a2, ()) with
  | false => rfl
  | true =>
    simp only [Bool.not_true, cond_false]
    rw [up11 a3 hl]
    cases hu : upI a3 with
    | false => rfl
    | true =>
      simp only [Bool.not_true, cond_false, Option.bind_some]
      cases ha : a3.any (fun id => !hasE (a0, a1, a2, ()) id) with
      | true => rfl
      | false =>
        have hlen := ids_len hv hu ha
        have hL : Loop (g11_s1 a1 a3) ((0 : Int), (([] : List SB), ())) = some (a3.foldl (setStep a1) [], ()) := by
          have h := Loop_seq (step := g11_s1 a1 a3) (fun k => ((k : Int), ((a3.take k).foldl (setStep a1) [], ()))) a3.length ((a3.foldl (setStep a1) [], ()) : List SB × Unit) (fun k hk => ?_) ?_ 0 (Nat.zero_le _)
          · exact h
          · obtain ⟨i1, i2⟩ := fold_inv (n := a1) a3 k (by omega)
            rw [fold_take (setStep a1) [] a3 0 k hk]
            exact (step11 a1 a3 hl k hk _ i1 i2 (by omega)).1
          · unfold g11_s1
            simp only [Int.ofNat_eq_natCast]
            rw [dF (show ¬ (a3.length : Int) < (a3.length : Int) by omega), List.take_length]
            rfl
        simp only [cond_false]
        rw [hL]
        rfl
theorem g12_ok (a0 : Int) (a1 : Int) (a2 : (List (Int × (Int × Unit)))) (a3 : (List Int)) (r0 : IntKind.i64.has a0) (r1 : IntKind.i64.has a1) (r2 : (Ty.sl (edT)).ok a2) (r3 : (Ty.sl (.int .i64)).ok a3) : g12 a0 a1 a2 a3 = some (Sp1D.sets (a0, a1, a2, ()) a3, ()) := by
  have hl := len_i r3
  unfold g12 sets
  cases hv : validP (a0, a1, a2, ()) with
  | false => rfl
  | true =>
    simp only [Bool.not_true, cond_false]
    rw [up12 a3 hl]
    cases hu : upI a3 with
    | false => rfl
    | true =>
      simp only [Bool.not_true, cond_false, Option.bind_some]
      have hE : Loop (g12_s1 a0 a1 a2 a3) ((0 : Int), ()) = some (bif a3.any (fun id => !hasE (a0, a1, a2, ()) id) then (true, ((4, ([], ())), ())) else (false, ((0, ([], ())), ()))) := by
        refine scan0 _ a3 0 (fun id => !hasE (a0, a1, a2, ()) id) _ _ (fun k hk => ?_) ?_
        · unfold g12_s1
          simp only [Int.ofNat_eq_natCast, Int.toNat_natCast]
          rw [dT (show (k : Int) < (a3.length : Int) by omega), dT (show (0 : Int) ≤ (k : Int) by omega), wi64n (by omega), edgeF_has]
          cases hasE (a0, a1, a2, ()) (a3.getD k 0) <;> rfl
        · unfold g12_s1
          simp only [Int.ofNat_eq_natCast]
          rw [dF (show ¬ (a3.length : Int) < (a3.length : Int) by omega)]
          rfl
      rw [hE]
      cases ha : a3.any (fun id => !hasE (a0, a1, a2, ()) id) with
      | true => rfl
      | false =>
        have hlen := ids_len hv hu ha
        have hL : Loop (g12_s2 a1 a3) (([] : List SB), ((0 : Int), ())) = some (a3.foldl (setStep a1) [], ()) := by
          have h := Loop_seq (step := g12_s2 a1 a3) (fun k => ((a3.take k).foldl (setStep a1) [], ((k : Int), ()))) a3.length ((a3.foldl (setStep a1) [], ()) : List SB × Unit) (fun k hk => ?_) ?_ 0 (Nat.zero_le _)
          · exact h
          · obtain ⟨i1, i2⟩ := fold_inv (n := a1) a3 k (by omega)
            rw [fold_take (setStep a1) [] a3 0 k hk]
            exact (step11 a1 a3 hl k hk _ i1 i2 (by omega)).2
          · unfold g12_s2
            simp only [Int.ofNat_eq_natCast]
            rw [dF (show ¬ (a3.length : Int) < (a3.length : Int) by omega), List.take_length]
            rfl
        simp only [cond_false, Option.bind_some]
        rw [hL]
        rfl
theorem blist_len (b : Int) : (Bt.list b).length ≤ 64 := by rw [list_len]; exact ones_len b
theorem names_run {n : Nat} (L : List Int) (hL : L.length = n) (hn : n ≤ 64) (ok : Int → Bool) (f : Int → Int) (step : Int × List Int × Unit → Option (Sum (Int × List Int × Unit) (Bool × (Int × List Int × Unit) × List Int × Unit)))
    (hs : ∀ k, k < n → ∀ out : List Int, out.length ≤ 64 → step ((k : Int), (out, ())) = some (bif !ok (L.getD k 0) then .inr (true, ((4, ([], ())), ([], ()))) else .inl (((k + 1 : Nat) : Int), (out ++ [f (L.getD k 0)], ()))))
    (he : ∀ out, step ((n : Int), (out, ())) = some (.inr (false, ((0, ([], ())), (out, ()))))) :
    Loop step ((0 : Int), (([] : List Int), ())) = some (bif L.all ok then (false, ((0, ([], ())), (L.map f, ()))) else (true, ((4, ([], ())), ([], ())))) := by
  have h := Loop_seqB (step := step) (fun k => ((k : Int), ((L.take k).map f, ()))) n (false, ((0, ([], ())), (L.map f, ()))) (fun k => !ok (L.getD k 0)) (true, ((4, ([], ())), ([], ()))) (fun k hk => ?_) ?_
  · have e : (List.range n).any (fun k => !ok (L.getD k 0)) = !L.all ok := by
      rw [List.not_all_eq_any_not]
      have : L = (List.range L.length).map fun k => L.getD k 0 := by
        refine List.ext_getElem (by simp) fun i h1 h2 => ?_
        simp [List.getD_eq_getElem?_getD, h1]
      conv => rhs; rw [this]
      rw [List.any_map, hL]
      rfl
    rw [e] at h
    refine Eq.trans h ?_
    cases L.all ok <;> rfl
  · have hm : (L.take (k + 1)).map f = (L.take k).map f ++ [f (L.getD k 0)] := by
      rw [take_succ_getD L k 0 (by omega), List.map_append]; rfl
    rw [hm]
    exact hs k hk _ (by rw [List.length_map, List.length_take]; omega)
  · rw [← hL, List.take_length, hL]
    exact he _
theorem g15_ok (a0 : Int) (a1 : Int) (a2 : (List (Int × (Int × Unit)))) (a3 : Int) (a4 : Int) (r0 : IntKind.i64.has a0) (r1 : IntKind.i64.has a1) (r2 : (Ty.sl (edT)).ok a2) (r3 : IntKind.i64.has a3) (r4 : IntKind.u64.has a4) : g15 a0 a1 a2 a3 a4 = some (Sp1D.names (a0, a1, a2, ()) (a3, a4, ()), ()) := by
  unfold g15 names
  cases hv : validP (a0, a1, a2, ()) with
  | false => rfl
  | true =>
    simp only [Bool.not_true, cond_false]
    have hb := blist_len a4
    rw [names_run (Bt.list a4) rfl hb (nameOk (a0, a1, a2, ()) a3) (fun bit => (at_ a3 bit a1).1) (g15_s0 a0 a1 a2 a3 a4) (fun k hk out ho => ?_) (fun out => ?_)]
    · cases (Bt.list a4).all (nameOk (a0, a1, a2, ()) a3) <;> rfl
    · unfold g15_s0 nameOk
      simp only [Int.ofNat_eq_natCast, Int.toNat_natCast]
      rw [dT (show (k : Int) < ((Bt.list a4).length : Int) by omega), dT (show (0 : Int) ≤ (k : Int) by omega), wi64n (by omega), ble_t (show (out.length + 1) * 8 ≤ 140737488355328 by omega)]
      cases (at_ a3 ((Bt.list a4).getD k 0) a1).2.1 <;> cases hasE (a0, a1, a2, ()) (at_ a3 ((Bt.list a4).getD k 0) a1).1 <;> rfl
    · unfold g15_s0
      simp only [Int.ofNat_eq_natCast]
      rw [dF (show ¬ ((Bt.list a4).length : Int) < ((Bt.list a4).length : Int) by omega)]
      rfl
theorem g16_ok (a0 : Int) (a1 : Int) (a2 : (List (Int × (Int × Unit)))) (a3 : Int) (a4 : Int) (r0 : IntKind.i64.has a0) (r1 : IntKind.i64.has a1) (r2 : (Ty.sl (edT)).ok a2) (r3 : IntKind.i64.has a3) (r4 : IntKind.u64.has a4) : g16 a0 a1 a2 a3 a4 = some (Sp1D.names (a0, a1, a2, ()) (a3, a4, ()), ()) := by
  unfold g16 names
  cases hv : validP (a0, a1, a2, ()) with
  | false => rfl
  | true =>
    simp only [Bool.not_true, cond_false]
    have hb := blist_len a4
    rw [names_run (Bt.list a4) rfl hb (nameOk (a0, a1, a2, ()) a3) (fun bit => (at_ a3 bit a1).1) (g16_s0 a0 a1 a2 a3 a4) (fun k hk out ho => ?_) (fun out => ?_)]
    · cases (Bt.list a4).all (nameOk (a0, a1, a2, ()) a3) <;> rfl
    · unfold g16_s0 nameOk
      simp only [Int.ofNat_eq_natCast, Int.toNat_natCast]
      rw [dT (show (k : Int) < ((Bt.list a4).length : Int) by omega), dT (show (0 : Int) ≤ (k : Int) by omega), wi64n (by omega), ble_t (show (out.length + 1) * 8 ≤ 140737488355328 by omega), edgeF_has]
      cases (at_ a3 ((Bt.list a4).getD k 0) a1).2.1 <;> cases hasE (a0, a1, a2, ()) (at_ a3 ((Bt.list a4).getD k 0) a1).1 <;> rfl
    · unfold g16_s0
      simp only [Int.ofNat_eq_natCast]
      rw [dF (show ¬ ((Bt.list a4).length : Int) < ((Bt.list a4).length : Int) by omega)]
      rfl
end Go.Abs.C1D

namespace Go.Abs.C1D
open Go Go.Proofs Sp1D
set_option maxRecDepth 100000

theorem sameI_self (x : List Int) : sameI x x = true := dT rfl
theorem planT_wf {t : Tp} (h : wf t = true) (g : To) (n : Int) : wf (planT t g n).2 = true ∧ (planT t g n).1.2.2.1.length ≤ g.1.length + 1 := by
  unfold planT
  simp only
  have w1 := next_wf (n := 3) h
  generalize next t 3 = x at w1 ⊢
  have w2 := length_wf w1
  have l2 := len_in x.2
  generalize Sp1D.length x.2 = b at w2 l2 ⊢
  obtain ⟨w3, l3, -⟩ := order_wf w2 g.1.length
  change wf (order b.2 g.1.length).2 = true at w3
  change (order b.2 g.1.length).1.length = _ at l3
  generalize order b.2 g.1.length = o at w3 l3 ⊢
  obtain ⟨w4, -, -, l4⟩ := edges_wf g b.1 (by omega) o.2 w3 o.1 o.1.length (Nat.le_refl _)
  rw [List.take_length] at w4 l4
  generalize edgesN g b.1 ([], 0, o.2) o.1 = e at w4 l4 ⊢
  cases decide (0 < n) with
  | false => exact ⟨w4, by simp only [cond_false]; omega⟩
  | true =>
    have w5 := one_wf (n := n) w4
    simp only [cond_true]
    generalize one e.2.2 n = q at w5 ⊢
    cases q.1 with
    | false => exact ⟨w5, by simp only [cond_false]; omega⟩
    | true =>
      simp only [cond_true]
      unfold spoilP
      simp only
      have w6 := next_wf (n := 5) w5
      generalize next q.2 5 = m at w6 ⊢
      cases decide (m.1 = 0) with
      | true => exact ⟨wild_wf w6, by simp only [cond_true]; omega⟩
      | false =>
      cases decide (m.1 = 1) with
      | true => exact ⟨pick_wf (l := [0, 8, 24, 64, 128]) w6, by simp only [cond_true, cond_false]; omega⟩
      | false =>
      cases decide (m.1 = 2) with
      | true => exact ⟨pick_wf (l := [0, 1, 256, 257]) (pick_wf (l := [0, 1, 99, 100]) w6), by simp only [cond_true, cond_false, List.length_append, List.length_cons, List.length_nil]; omega⟩
      | false =>
      cases decide (m.1 = 3) with
      | true =>
        cases decide (0 < e.1.length) with
        | true => exact ⟨wild_wf w6, by simp only [cond_true, cond_false, List.length_set]; omega⟩
        | false => exact ⟨w6, by simp only [cond_true, cond_false]; omega⟩
      | false => exact ⟨w6, by simp only [cond_false, List.length_append, List.length_cons, List.length_nil]; omega⟩
theorem bits_wf {t : Tp} (h : wf t = true) (n : Int) : wf (Bt.bits t n).2 = true := by
  unfold Bt.bits Bt.bitsV
  simp only
  have w3 := next_wf (n := 6) (raw_wf (raw_wf h))
  generalize next (raw (raw t).2).2 6 = k at w3 ⊢
  cases decide (k.1 = 0) with
  | true => exact w3
  | false =>
  cases decide (k.1 = 1) with
  | true => exact next_wf (n := n) w3
  | false =>
  cases decide (k.1 = 2) with
  | true => exact w3
  | false => exact w3
def idsN (E : List Ed) (n : Int) (p : Int → Bool) (t : Tp) : Nat → List Int × Tp
  | 0 => ([], t)
  | k + 1 => (bif p (next (idsN E n p t k).2 n).1 then (idsN E n p t k).1 ++ [(E.getD k zE).2.1] else (idsN E n p t k).1, (next (idsN E n p t k).2 n).2)
theorem idsN_wf (E : List Ed) (n : Int) (p : Int → Bool) {t : Tp} (h : wf t = true) : ∀ k, wf (idsN E n p t k).2 = true ∧ (idsN E n p t k).1.length ≤ k
  | 0 => ⟨h, Nat.le_refl _⟩
  | k + 1 => by
    obtain ⟨h1, h2⟩ := idsN_wf E n p h k
    refine ⟨next_wf (n := n) h1, ?_⟩
    rw [idsN]
    cases p (next (idsN E n p t k).2 n).1 with
    | true => simp only [cond_true, List.length_append, List.length_cons, List.length_nil]; omega
    | false => simp only [cond_false]; omega
theorem g3_ok (a0 : (List Int)) (a1 : (List Int)) (a2 : Int) (a3 : Int) (r0 : (Ty.sl (.int .i64)).ok a0) (r1 : (Ty.sl (.int .i64)).ok a1) (r2 : IntKind.i64.has a2) (r3 : IntKind.u64.has a3) : g3 a0 a1 a2 a3 = some (true, ()) := by
  unfold g3
  have w0 := tape_wf a0
  rw [on_true (show (wf (Sp1D.tape a0) && Sp1D.inside 7 1 50 && small 0) = true by rw [w0]; rfl)]
  simp only [Option.bind_some]
  have w3 := topo_wf (t := Sp1D.tape a0) (a := 7) (n := 0) w0 (by omega)
  generalize topo (Sp1D.tape a0) 7 0 = y4 at w3 ⊢
  rw [on_true (show (wf y4.2 && small 6 && decide (y4.1.1.length ≤ 1000)) = true by rw [w3.1, dT (show y4.1.1.length ≤ 1000 by have := w3.2; omega)]; rfl)]
  simp only [Option.bind_some]
  obtain ⟨w4, l4⟩ := planT_wf w3.1 y4.1 6
  generalize planT y4.2 y4.1 6 = y5 at w4 l4 ⊢
  have h0 : Loop (g3_s0 y5) ((0 : Int), (([] : List Int), (y5.2, ()))) = some ((idsN y5.1.2.2.1 2 (fun x => decide (x = 0)) y5.2 y5.1.2.2.1.length).1, ((idsN y5.1.2.2.1 2 (fun x => decide (x = 0)) y5.2 y5.1.2.2.1.length).2, ())) := by
    refine Loop_seq (step := g3_s0 y5) (fun k => ((k : Int), ((idsN y5.1.2.2.1 2 (fun x => decide (x = 0)) y5.2 k).1, ((idsN y5.1.2.2.1 2 (fun x => decide (x = 0)) y5.2 k).2, ())))) y5.1.2.2.1.length _ (fun k hk => ?_) ?_ 0 (Nat.zero_le _)
    · obtain ⟨h1, h2⟩ := idsN_wf y5.1.2.2.1 2 (fun x => decide (x = 0)) w4 k
      rw [idsN]
      generalize idsN y5.1.2.2.1 2 (fun x => decide (x = 0)) y5.2 k = s at h1 h2 ⊢
      unfold g3_s0
      simp only [Int.ofNat_eq_natCast, Int.toNat_natCast]
      rw [dT (show (k : Int) < (y5.1.2.2.1.length : Int) by omega), on_w h1, wi64n (by omega)]
      simp only [Option.bind_some, cond_true]
      rw [dT (show (0 : Int) ≤ (k : Int) by omega), ble_t (show (s.1.length + 1) * 8 ≤ 140737488355328 by omega)]
      generalize next s.2 2 = x
      cases decide (x.1 = 0) <;> rfl
    · unfold g3_s0
      simp only [Int.ofNat_eq_natCast]
      rw [dF (show ¬ (y5.1.2.2.1.length : Int) < (y5.1.2.2.1.length : Int) by omega)]
      rfl
  rw [h0]
  simp only [Option.bind_some]
  obtain ⟨w5, l5⟩ := idsN_wf y5.1.2.2.1 2 (fun x => decide (x = 0)) w4 y5.1.2.2.1.length
  generalize idsN y5.1.2.2.1 2 (fun x => decide (x = 0)) y5.2 y5.1.2.2.1.length = y6 at w5 l5 ⊢
  rw [on_ws w5 (by omega)]
  simp only [Option.bind_some]
  have w7 := one_wf (n := 4) w5
  generalize one y6.2 4 = y7 at w7 ⊢
  have h8 : ∃ y8 : Tp × List Int × Unit, wf y8.1 = true ∧ (bif y7.1 then (Option.bind (Sp1D.on (((Sp1D.wf y7.2) && (decide (0 < 6))) && (decide (6 ≤ 1000))) (Sp1D.pick y7.2 [0, 1, 8, 9, 256, 257])) (fun (y8 : (Int × Tp)) => (bif (Nat.ble ((y6.1.length + 1) * 8) 140737488355328) then (some ((y8.2, ((y6.1 ++ [y8.1]), ())) : Tp × List Int × Unit)) else none))) else (some (y7.2, (y6.1, ())))) = some y8 := by
    cases y7.1 with
    | false => exact ⟨_, w7, rfl⟩
    | true =>
      rw [on_pk w7 6 (by decide) (by decide)]
      simp only [Option.bind_some, cond_true]
      rw [ble_t (show (y6.1.length + 1) * 8 ≤ 140737488355328 by have := w3.2; omega)]
      exact ⟨_, pick_wf (l := [0, 1, 8, 9, 256, 257]) w7, rfl⟩
  obtain ⟨y8, w8, e8⟩ := h8
  refine (congrArg (fun z => Option.bind z _) e8).trans ?_
  simp only [Option.bind_some]
  have h2 : Loop (g3_s2 a1 y5) ((0 : Int), ((y8.2.1 :: (a1 :: [])), ())) = some (false, ((false, ()), ())) := by
    by_cases q : a1.length ≤ 300
    · have hin : ∀ (i : Nat) (A : Int × List (List Int) × Unit), A.1 = (i : Int) → (sets y5.1 (A.2.1.getD i [])).1.length ≤ 1000000 → Loop (g3_s1 y5 A) ((0 : Int), ()) = some (false, ((false, ()), ())) := by
        intro i A hA hlen
        refine Loop_seq (step := g3_s1 y5 A) (fun k => ((k : Int), ())) (sets y5.1 (A.2.1.getD i [])).1.length _ (fun k hk => ?_) ?_ 0 (Nat.zero_le _)
        · unfold g3_s1
          simp only [hA, Int.ofNat_eq_natCast, Int.toNat_natCast, eq_self, decide_true]
          rw [dT (show (k : Int) < ((sets y5.1 (A.2.1.getD i [])).1.length : Int) by omega), dT (show (0 : Int) ≤ (k : Int) by omega), wi64n (by omega)]
          rfl
        · unfold g3_s1
          simp only [hA, Int.ofNat_eq_natCast, Int.toNat_natCast]
          rw [dF (show ¬ ((sets y5.1 (A.2.1.getD i [])).1.length : Int) < ((sets y5.1 (A.2.1.getD i [])).1.length : Int) by omega)]
          rfl
      have hsl : ∀ l : List Int, (sets y5.1 l).1.length ≤ 1000000 := by
        intro l
        unfold sets
        cases hv : validP y5.1 with
        | false => exact Nat.zero_le _
        | true =>
          cases hu : upI l with
          | false => exact Nat.zero_le _
          | true =>
            cases ha : l.any (fun id => !hasE y5.1 id) with
            | true => exact Nat.zero_le _
            | false =>
              have := ids_len hv hu ha
              have h2 := (fold_inv (n := y5.1.2.1) l l.length (Nat.le_refl _)).2
              rw [List.take_length] at h2
              simp only [Bool.not_true, cond_false]
              omega
      refine Loop_seq (step := g3_s2 a1 y5) (fun k => ((k : Int), ((y8.2.1 :: (a1 :: [])), ()))) 2 _ (fun k hk => ?_) ?_ 0 (Nat.zero_le _)
      · have hi := hin k ((k : Int), ((y8.2.1 :: (a1 :: [])), ())) rfl (hsl _)
        unfold g3_s2
        simp only [Int.ofNat_eq_natCast, Int.toNat_natCast, eq_self, decide_true, List.length_cons, List.length_nil]
        rw [hi, dT (show (k : Int) < 2 by omega), dT (show (a1.length : Int) ≤ 300 by omega), dT (show (0 : Int) ≤ (k : Int) by omega), dT (show (k : Int) < ((0 + 1 + 1 : Nat) : Int) by omega), blt_t (show k < 0 + 1 + 1 by omega), wi64n (by omega)]
        rfl
      · rfl
    · rw [Loop_step]
      have : g3_s2 a1 y5 ((0 : Int), ((y8.2.1 :: (a1 :: [])), ())) = some (.inr (false, ((false, ()), ()))) := by
        unfold g3_s2
        simp only [Int.ofNat_eq_natCast]
        rw [dF (show ¬ (a1.length : Int) ≤ 300 by omega)]
        rfl
      rw [this]
  rw [h2]
  simp only [Option.bind_some, cond_false]
  rw [on_w w8]
  simp only [Option.bind_some]
  have w9 := next_wf (n := 3) w8
  generalize next y8.1 3 = y10 at w9 ⊢
  rw [on_w w9]
  simp only [Option.bind_some]
  have w10 := bits_wf w9 8
  generalize Bt.bits y10.2 8 = y11 at w10 ⊢
  rw [on_w w10]
  simp only [Option.bind_some]
  generalize next y11.2 8 = y12
  have h3 : ∀ (x y z : SB), Loop (g3_s3 y5) ((0 : Int), ((x :: (y :: (z :: []))), ())) = some (false, ((false, ()), ())) := by
    intro x y z
    refine Loop_seq (step := g3_s3 y5) (fun k => ((k : Int), ((x :: (y :: (z :: []))), ()))) 3 _ (fun k hk => ?_) ?_ 0 (Nat.zero_le _)
    · unfold g3_s3
      simp only [Int.ofNat_eq_natCast, Int.toNat_natCast, eq_self, decide_true, List.length_cons, List.length_nil, sameI_self]
      rw [dT (show (k : Int) < 3 by omega), dT (show (0 : Int) ≤ (k : Int) by omega), dT (show (k : Int) < ((0 + 1 + 1 + 1 : Nat) : Int) by omega), blt_t (show k < 0 + 1 + 1 + 1 by omega), wi64n (by omega)]
      rfl
    · rfl
  rw [h3]
  rfl
end Go.Abs.C1D

namespace Go.Abs.C1D
open Go Go.Proofs Sp1D
set_option maxRecDepth 100000

theorem rep_false {l : List Int} (h : l.Pairwise (fun a b => a ≠ b)) : repeats l = false := by
  rw [Bool.eq_false_iff]
  intro hr
  obtain ⟨i, j, h1, h2, h3⟩ := (rep_iff l).1 hr
  rw [List.pairwise_iff_getElem] at h
  refine h i j (by omega) h2 h1 ?_
  rwa [getD_ix (show i < l.length by omega), getD_ix h2] at h3
theorem filt_or {p q : Nat → Bool} {k : Nat} (hp : ∀ i, k ≤ i → p i = false) (hq : ∀ i, q i = (p i || decide (i = k))) : ∀ m, (List.range m).filter q = if k < m then (List.range m).filter p ++ [k] else (List.range m).filter p
  | 0 => rfl
  | m + 1 => by
    rw [List.range_succ, List.filter_append, List.filter_append, filt_or hp hq m]
    by_cases h1 : k < m
    · rw [if_pos h1, if_pos (by omega)]
      have e1 : [m].filter p = [] := by rw [List.filter_cons_of_neg (by rw [hp m (by omega)]; exact Bool.false_ne_true)]; rfl
      have e2 : [m].filter q = [] := by rw [List.filter_cons_of_neg (by rw [hq, hp m (by omega), dF (show ¬ m = k by omega)]; exact Bool.false_ne_true)]; rfl
      rw [e1, e2, List.append_nil, List.append_nil]
    · rw [if_neg h1]
      by_cases h2 : m = k
      · subst h2
        rw [if_pos (by omega)]
        have e1 : [m].filter p = [] := by rw [List.filter_cons_of_neg (by rw [hp m (by omega)]; exact Bool.false_ne_true)]; rfl
        have e2 : [m].filter q = [m] := by rw [List.filter_cons_of_pos (by rw [hq, dT rfl, Bool.or_true])]; rfl
        rw [e1, e2, List.append_nil]
      · rw [if_neg (by omega)]
        congr 1
        have e : q m = p m := by rw [hq, dF h2, Bool.or_false]
        by_cases hm : p m = true
        · rw [List.filter_cons_of_pos hm, List.filter_cons_of_pos (by rw [e]; exact hm)]; rfl
        · rw [List.filter_cons_of_neg hm, List.filter_cons_of_neg (by rw [e]; exact hm)]; rfl
theorem list_or {b k : Int} (hb : U b) (hk : 0 ≤ k ∧ k < 64) (hlt : ∀ x ∈ Bt.list b, x < k) : Bt.list (Bt.or b (Bt.bit1 k)) = Bt.list b ++ [k] := by
  obtain ⟨n, rfl, hn⟩ := nat_of hb
  obtain ⟨j, rfl⟩ : ∃ j : Nat, k = j := ⟨k.toNat, by omega⟩
  have hb1 : Bt.bit1 (j : Int) = ((2 ^ j : Nat) : Int) := by
    unfold Bt.bit1
    rw [dF (show ¬ (j : Int) < 0 by omega), dF (show ¬ 63 < (j : Int) by omega)]
    simp only [Bool.or_self, cond_false, Int.toNat_natCast]
    exact pow_cast _
  have hp : ∀ i, j ≤ i → i < 64 → n.testBit i = false := by
    intro i hi h64
    rw [Bool.eq_false_iff]
    intro ht
    have hm : (i : Int) ∈ Bt.list (n : Int) := by
      unfold Bt.list Bt.ones
      exact List.mem_map.2 ⟨i, List.mem_filter.2 ⟨List.mem_range.2 h64, by unfold Bt.tb; rw [Int.toNat_natCast]; exact ht⟩, rfl⟩
    have := hlt _ hm
    omega
  have hp2 : ∀ i, j ≤ i → n.testBit i = false := by
    intro i hi
    by_cases h : i < 64
    · exact hp i hi h
    · exact Nat.testBit_lt_two_pow (Nat.lt_of_lt_of_le hn (Nat.pow_le_pow_right (by decide) (by omega)))
  have h := filt_or (p := Bt.tb (n : Int)) (q := Bt.tb (Bt.or (n : Int) (Bt.bit1 (j : Int)))) (k := j) (fun i hi => by unfold Bt.tb; rw [Int.toNat_natCast]; exact hp2 i hi) (fun i => by
    unfold Bt.tb Bt.or
    rw [hb1, Int.toNat_natCast, Int.toNat_natCast, Int.toNat_natCast]
    show (n ||| 2 ^ j).testBit i = _
    rw [Nat.testBit_or, Nat.testBit_two_pow]
    congr 1
    by_cases q : i = j
    · rw [dT q, dT q.symm]
    · rw [dF q, dF (fun h => q h.symm)]) 64
  unfold Bt.list Bt.ones
  rw [h, if_pos (by omega), List.map_append]
  rfl
theorem list_bit {k : Int} (hk : 0 ≤ k ∧ k < 64) : Bt.list (Bt.or 0 (Bt.bit1 k)) = [k] := by
  have e : Bt.list 0 = [] := by unfold Bt.list; rw [ones_zero]; rfl
  rw [list_or U0 hk (by rw [e]; intro x hx; cases hx), e]
  rfl
def nmOf (n : Int) (s : SB) : List Int := (Bt.list s.2.1).map fun bit => s.1 * n + bit + 1
structure SInv (n : Int) (out : List SB) (pre : List Int) : Prop where
  ids : out.flatMap (nmOf n) = pre
  ok : ∀ s ∈ out, U s.2.1 ∧ (0 ≤ s.1 ∧ s.1 ≤ 31) ∧ Bt.list s.2.1 ≠ [] ∧ ∀ x ∈ Bt.list s.2.1, 0 ≤ x ∧ x < n
  up : out.Pairwise (fun a b => a.1 < b.1)
theorem div_lem {n a : Int} (hn : 0 < n) : a / n * n + a % n = a := by
  have := Int.mul_ediv_add_emod a n
  rw [Int.mul_comm] at this
  omega
theorem lt_of_mul {n a b x y : Int} (hn : 0 < n) (hx : 0 ≤ x) (hy : y < n) (h : a * n + x < b * n + y) : a ≤ b := by
  rcases Int.lt_or_le b a with h1 | h1
  · exfalso
    have : (b + 1) * n ≤ a * n := Int.mul_le_mul_of_nonneg_right (by omega) (by omega)
    rw [Int.add_mul, Int.one_mul] at this
    omega
  · exact h1
theorem setStep_ok {n : Int} (hn : vlen n = true) {out : List SB} {pre : List Int} (I : SInv n out pre) {id : Int} (hid : 1 ≤ id ∧ id ≤ 256) (hlt : ∀ x ∈ pre, x < id) : SInv n (setStep n out id) (pre ++ [id]) := by
  have hv := vlen_iff.1 hn
  have hn0 : 0 < n := by omega
  have hp : place id n = ((id - 1) / n, (id - 1) % n, true, ()) := by
    unfold place
    rw [hn, inside_iff.2 hid]
    rfl
  have hb : 0 ≤ (id - 1) % n ∧ (id - 1) % n < n := ⟨Int.emod_nonneg _ (by omega), Int.emod_lt_of_pos _ hn0⟩
  have hs : 0 ≤ (id - 1) / n ∧ (id - 1) / n ≤ 31 := by rcases hv with h | h | h | h <;> subst h <;> omega
  have he := div_lem (a := id - 1) hn0
  have hb64 : 0 ≤ (id - 1) % n ∧ (id - 1) % n < 64 := by omega
  unfold setStep
  simp only [hp]
  generalize hS : (id - 1) / n = S at hs he ⊢
  generalize hB : (id - 1) % n = B at hb he hb64 ⊢
  have hnew : (out.length = 0 ∨ ∃ init last, out = init ++ [last] ∧ last.1 ≠ S) →
      SInv n ((out ++ [(S, 0, ())]).set ((out ++ [(S, 0, ())]).length - 1) (((out ++ [(S, 0, ())]).getD ((out ++ [(S, 0, ())]).length - 1) zS).1, Bt.or ((out ++ [(S, 0, ())]).getD ((out ++ [(S, 0, ())]).length - 1) zS).2.1 (Bt.bit1 B), ())) (pre ++ [id]) := by
    intro hcase
    have e1 : (out ++ [(S, (0 : Int), ())]).length - 1 = out.length := by simp
    have e2 : (out ++ [(S, (0 : Int), ())]).getD out.length zS = (S, 0, ()) := by rw [getD_app, if_neg (by omega), Nat.sub_self]; rfl
    rw [e1, e2]
    have e3 : (out ++ [(S, (0 : Int), ())]).set out.length (S, Bt.or 0 (Bt.bit1 B), ()) = out ++ [(S, Bt.or 0 (Bt.bit1 B), ())] := by
      rw [List.set_append_right _ _ (Nat.le_refl _), Nat.sub_self]
      rfl
    show SInv n ((out ++ [(S, (0 : Int), ())]).set out.length (S, Bt.or 0 (Bt.bit1 B), ())) _
    rw [e3]
    have hlist : Bt.list (Bt.or 0 (Bt.bit1 B)) = [B] := list_bit hb64
    refine ⟨?_, fun s hs' => ?_, ?_⟩
    · rw [List.flatMap_append, I.ids]
      congr 1
      show nmOf n (S, Bt.or 0 (Bt.bit1 B), ()) ++ [] = [id]
      unfold nmOf
      rw [hlist, List.append_nil]
      show [S * n + B + 1] = [id]
      congr 1
      omega
    · rcases List.mem_append.1 hs' with h | h
      · exact I.ok s h
      · rw [List.mem_singleton.1 h]
        refine ⟨ucast (Nat.or_lt_two_pow (utn U0) (utn (bit1_U _))), hs, by rw [hlist]; exact List.cons_ne_nil _ _, fun x hx => ?_⟩
        rw [hlist] at hx
        rw [List.mem_singleton.1 hx]
        exact hb
    · rw [List.pairwise_append]
      refine ⟨I.up, List.pairwise_singleton _ _, fun a ha b hb' => ?_⟩
      rw [List.mem_singleton.1 hb']
      rcases hcase with h0 | ⟨init, last, h1, h2⟩
      · rw [List.eq_nil_of_length_eq_zero h0] at ha
        cases ha
      · have hle : ∀ s ∈ out, s.1 ≤ S := by
          intro s hs'
          obtain ⟨-, hs1, hs2, hs3⟩ := I.ok s hs'
          obtain ⟨x, hx⟩ := List.exists_mem_of_ne_nil _ hs2
          have hxm : s.1 * n + x + 1 ∈ pre := by
            rw [← I.ids]
            exact List.mem_flatMap.2 ⟨s, hs', List.mem_map.2 ⟨x, hx, rfl⟩⟩
          have := hlt _ hxm
          exact lt_of_mul hn0 (hs3 x hx).1 hb.2 (by omega)
        have hup := I.up
        rw [h1, List.pairwise_append] at hup
        have hlast := hle last (by rw [h1]; exact List.mem_append_right _ (List.mem_singleton.2 rfl))
        show a.1 < S
        rw [h1] at ha
        rcases List.mem_append.1 ha with h | h
        · have := hup.2.2 a h last (List.mem_singleton.2 rfl)
          omega
        · rw [List.mem_singleton.1 h]
          omega
  by_cases h0 : out.length = 0
  · rw [dT h0]
    exact hnew (.inl h0)
  · rw [dF h0]
    obtain ⟨init, last, hl⟩ : ∃ init last, out = init ++ [last] := ⟨out.dropLast, out.getLast (by intro h; rw [h] at h0; exact h0 rfl), (List.dropLast_concat_getLast _).symm⟩
    have el : out.length - 1 = init.length := by rw [hl]; simp
    have eg : out.getD init.length zS = last := by rw [hl, getD_app, if_neg (by omega), Nat.sub_self]; rfl
    rw [el, eg]
    by_cases h1 : last.1 = S
    · rw [dT h1]
      simp only [Bool.not_true, Bool.or_self, cond_false]
      rw [el, eg]
      have e3 : out.set init.length (last.1, Bt.or last.2.1 (Bt.bit1 B), ()) = init ++ [(last.1, Bt.or last.2.1 (Bt.bit1 B), ())] := by
        rw [hl, List.set_append_right _ _ (Nat.le_refl _), Nat.sub_self]
        rfl
      rw [e3]
      have hmem : last ∈ out := by rw [hl]; exact List.mem_append_right _ (List.mem_singleton.2 rfl)
      obtain ⟨o1, o2, o3, o4⟩ := I.ok last hmem
      have hlist : Bt.list (Bt.or last.2.1 (Bt.bit1 B)) = Bt.list last.2.1 ++ [B] := by
        refine list_or o1 hb64 fun x hx => ?_
        have hxm : last.1 * n + x + 1 ∈ pre := by
          rw [← I.ids]
          exact List.mem_flatMap.2 ⟨last, hmem, List.mem_map.2 ⟨x, hx, rfl⟩⟩
        have := hlt _ hxm
        rw [h1] at this
        omega
      refine ⟨?_, fun s hs' => ?_, ?_⟩
      · have hids := I.ids
        rw [hl, List.flatMap_append] at hids
        rw [List.flatMap_append, ← hids]
        show init.flatMap (nmOf n) ++ (nmOf n (last.1, Bt.or last.2.1 (Bt.bit1 B), ()) ++ []) = init.flatMap (nmOf n) ++ (nmOf n last ++ []) ++ [id]
        rw [List.append_nil, List.append_nil, List.append_assoc]
        congr 1
        unfold nmOf
        rw [hlist, List.map_append]
        congr 1
        show [last.1 * n + B + 1] = [id]
        congr 1
        rw [h1]
        omega
      · rcases List.mem_append.1 hs' with h | h
        · exact I.ok s (by rw [hl]; exact List.mem_append_left _ h)
        · rw [List.mem_singleton.1 h]
          refine ⟨ucast (Nat.or_lt_two_pow (utn o1) (utn (bit1_U _))), o2, by rw [hlist]; simp, fun x hx => ?_⟩
          rw [hlist] at hx
          rcases List.mem_append.1 hx with h | h
          · exact o4 x h
          · rw [List.mem_singleton.1 h]; exact hb
      · have hup := I.up
        rw [hl, List.pairwise_append] at hup
        rw [List.pairwise_append]
        refine ⟨hup.1, List.pairwise_singleton _ _, fun a ha b hb' => ?_⟩
        rw [List.mem_singleton.1 hb']
        exact hup.2.2 a ha last (List.mem_singleton.2 rfl)
    · rw [dF h1]
      exact hnew (.inr ⟨init, last, hl, h1⟩)
theorem sets_ok {n : Int} (hn : vlen n = true) (l : List Int) (hin : ∀ x ∈ l, 1 ≤ x ∧ x ≤ 256) (hup : upI l = true) : ∀ k, k ≤ l.length → SInv n ((l.take k).foldl (setStep n) []) (l.take k)
  | 0, _ => ⟨rfl, fun s hs => (by cases hs), List.Pairwise.nil⟩
  | k + 1, hk => by
    have ih := sets_ok hn l hin hup k (by omega)
    rw [fold_take (setStep n) [] l 0 k (by omega), take_succ_getD l k 0 (by omega)]
    refine setStep_ok hn ih (hin _ (getD_mem (by omega))) fun x hx => ?_
    obtain ⟨i, hi, rfl⟩ := List.getElem_of_mem hx
    rw [List.length_take] at hi
    rw [List.getElem_take, ← getD_ix (d := 0) (show i < l.length by omega)]
    exact upI_lt hup k i (by omega) (by omega)
theorem names_ok {p : Pn} (hv : validP p = true) (hn : vlen p.2.1 = true) {l : List Int} {out : List SB} (I : SInv p.2.1 out l) (hh : ∀ x ∈ l, hasE p x = true) {s : SB} (hs : s ∈ out) : names p s = (nmOf p.2.1 s, 0, ()) ∧ nmOf p.2.1 s ≠ [] := by
  obtain ⟨o1, o2, o3, o4⟩ := I.ok s hs
  have hat : ∀ x ∈ Bt.list s.2.1, at_ s.1 x p.2.1 = (s.1 * p.2.1 + x + 1, true, ()) ∧ hasE p (s.1 * p.2.1 + x + 1) = true := by
    intro x hx
    have hm : s.1 * p.2.1 + x + 1 ∈ l := by
      rw [← I.ids]
      exact List.mem_flatMap.2 ⟨s, hs, List.mem_map.2 ⟨x, hx, rfl⟩⟩
    have hE := hh _ hm
    have hb := has_in hv hE
    refine ⟨?_, hE⟩
    unfold at_
    have hx4 := o4 x hx
    rw [hn, inside_iff.2 (show 0 ≤ x ∧ x ≤ p.2.1 - 1 by omega), inside_iff.2 o2, dF (show ¬ 256 < s.1 * p.2.1 + x + 1 by omega)]
    rfl
  have hall : (Bt.list s.2.1).all (nameOk p s.1) = true := by
    rw [List.all_eq_true]
    intro x hx
    unfold nameOk
    rw [(hat x hx).1, (hat x hx).2]
    rfl
  constructor
  · unfold names
    rw [hv, hall]
    show ((Bt.list s.2.1).map (fun bit => (at_ s.1 bit p.2.1).1), 0, ()) = _
    congr 1
    unfold nmOf
    refine List.map_congr_left fun x hx => ?_
    rw [(hat x hx).1]
  · unfold nmOf
    intro h
    exact o3 (List.map_eq_nil_iff.1 h)
theorem order_nodup (t : Tp) : ∀ k, wf t = true → (orderN t k).1.Nodup
  | 0, _ => List.nodup_nil
  | k + 1, h => by
    have ih := order_nodup t k h
    obtain ⟨-, -, h3⟩ := order_wf h k
    rw [orderN]
    have hn : (k : Int) ∉ (orderN t k).1 := fun hm => by have := h3 _ hm; omega
    have hp : ((orderN t k).1.take (next (orderN t k).2 ((k : Int) + 1)).1.toNat ++ (k : Int) :: (orderN t k).1.drop (next (orderN t k).2 ((k : Int) + 1)).1.toNat).Perm ((k : Int) :: (orderN t k).1) := by
      refine List.perm_middle.trans ?_
      rw [List.take_append_drop]
    exact hp.symm.nodup (List.nodup_cons.2 ⟨hn, ih⟩)
structure EInv (g : To) (o : List Int) (k : Nat) (s : List Ed × Int × Tp) : Prop where
  id0 : 0 ≤ s.2.1
  ids : ∀ e ∈ s.1, 1 ≤ e.2.1 ∧ e.2.1 ≤ 256 ∧ e.2.1 ≤ s.2.1
  up : s.1.Pairwise (fun a b => a.2.1 < b.2.1)
  rt : (s.1.map fun e => e.1).Sublist ((o.take k).map fun x => (g.1.getD x.toNat zR).1)
theorem edges_inv (g : To) (len : Int) (hl : 8 ≤ len ∧ len ≤ 64) (t : Tp) (o : List Int) : ∀ k, k ≤ o.length → EInv g o k (edgesN g len ([], 0, t) (o.take k))
  | 0, _ => ⟨Int.le_refl _, fun e he => (by cases he), List.Pairwise.nil, List.Sublist.refl _⟩
  | k + 1, hk => by
    have I := edges_inv g len hl t o k (by omega)
    unfold edgesN at *
    rw [fold_take (edgeS g len) _ o 0 k (by omega)]
    generalize (o.take k).foldl (edgeS g len) ([], 0, t) = s at I ⊢
    have hsub : ((o.take k).map fun x => (g.1.getD x.toNat zR).1).Sublist ((o.take (k + 1)).map fun x => (g.1.getD x.toNat zR).1) := by
      rw [take_succ_getD o k 0 (by omega), List.map_append]
      exact List.sublist_append_left _ _
    unfold edgeS
    simp only
    generalize next s.2.2 4 = c
    cases decide (c.1 = 0) with
    | true => exact ⟨I.id0, I.ids, I.up, I.rt.trans hsub⟩
    | false =>
      simp only [cond_false]
      have m2 := pick_mem c.2 (l := [1, 1, 1, 2, len - 1]) (by simp)
      simp only [List.mem_cons, List.not_mem_nil, or_false] at m2
      generalize Sp1D.pick c.2 [1, 1, 1, 2, len - 1] = p at m2 ⊢
      have hp1 : 1 ≤ p.1 := by omega
      have i0 := I.id0
      by_cases hq : s.2.1 + p.1 ≤ 256
      · rw [dT hq]
        refine ⟨by simp only [cond_true]; omega, fun e he => ?_, ?_, ?_⟩
        · rcases List.mem_append.1 he with h | h
          · have := I.ids e h
            simp only [cond_true]
            omega
          · rw [List.mem_singleton.1 h]
            simp only [cond_true]
            omega
        · show (s.1 ++ [_]).Pairwise _
          rw [List.pairwise_append]
          refine ⟨I.up, List.pairwise_singleton _ _, fun a ha b hb => ?_⟩
          rw [List.mem_singleton.1 hb]
          have := I.ids a ha
          simp only
          omega
        · show ((s.1 ++ [_]).map fun e : Ed => e.1).Sublist _
          rw [List.map_append, take_succ_getD o k 0 (by omega), List.map_append]
          exact I.rt.append (List.Sublist.refl _)
      · rw [dF hq]
        exact ⟨by simp only [cond_false]; omega, fun e he => by have := I.ids e he; simp only [cond_false]; omega, I.up, I.rt.trans hsub⟩
theorem topo0 {t : Tp} (h : wf t = true) (most : Int) (hm : 1 ≤ most ∧ most ≤ 8) : ∃ (N : Nat) (ls : List Lk), 1 ≤ N ∧ N ≤ 8 ∧ (topo t most 0).1 = (routersN N, ls, ()) := by
  have b1 := range_in (t := t) (a := 1) (b := most) hm.1
  unfold topo
  simp only
  rw [dF (show ¬ (0 : Int) < 0 by omega)]
  exact ⟨_, _, by omega, by omega, rfl⟩
theorem routersN_get (N k : Nat) (hk : k < N) : ((routersN N).getD k zR).1 = (k : Int) + 1 := by
  unfold routersN
  rw [getD_range_map, if_pos hk]
theorem plan0_valid {t : Tp} (h : wf t = true) {g : To} {N : Nat} {ls : List Lk} (hg : g = (routersN N, ls, ())) (hN : N ≤ 8) : validP (planT t g 0).1 = true ∧ vlen (planT t g 0).1.2.1 = true := by
  have hgl : g.1.length = N := by rw [hg]; exact routersN_len N
  unfold planT
  simp only
  rw [dF (show ¬ (0 : Int) < 0 by omega)]
  simp only [cond_false]
  have w1 := next_wf (n := 3) h
  have b1 := next_range (t := t) (n := 3) (by omega)
  generalize next t 3 = x at w1 b1 ⊢
  have w2 := length_wf w1
  have l2 := len_in x.2
  generalize Sp1D.length x.2 = b at w2 l2 ⊢
  obtain ⟨w3, l3, m3⟩ := order_wf w2 g.1.length
  have nd := order_nodup b.2 g.1.length w2
  change wf (order b.2 g.1.length).2 = true at w3
  change (order b.2 g.1.length).1.length = _ at l3
  change ∀ x ∈ (order b.2 g.1.length).1, _ at m3
  change (order b.2 g.1.length).1.Nodup at nd
  generalize order b.2 g.1.length = o at w3 l3 m3 nd ⊢
  have I := edges_inv g b.1 (by omega) o.2 o.1 o.1.length (Nat.le_refl _)
  obtain ⟨-, -, -, l4⟩ := edges_wf g b.1 (by omega) o.2 w3 o.1 o.1.length (Nat.le_refl _)
  rw [List.take_length] at I l4
  generalize edgesN g b.1 ([], 0, o.2) o.1 = e at I l4 ⊢
  have hvl : vlen b.1 = true := vlen_iff.2 l2
  refine ⟨?_, hvl⟩
  have hrt := I.rt
  rw [List.take_length] at hrt
  have hmap : (o.1.map fun x => (g.1.getD x.toNat zR).1) = o.1.map fun x => x + 1 := by
    refine List.map_congr_left fun y hy => ?_
    have := m3 y hy
    rw [hg]
    rw [routersN_get N y.toNat (by omega)]
    omega
  rw [hmap] at hrt
  have hnd : (e.1.map fun d : Ed => d.1).Pairwise (fun a b => a ≠ b) := by
    refine List.Pairwise.sublist hrt ?_
    rw [List.pairwise_map]
    exact nd.imp fun h => by omega
  have hrng : ∀ d ∈ e.1, 1 ≤ d.1 ∧ d.1 ≤ 99 := by
    intro d hd
    have : d.1 ∈ o.1.map fun x => x + 1 := hrt.subset (List.mem_map.2 ⟨d, hd, rfl⟩)
    obtain ⟨y, hy, h2⟩ := List.mem_map.1 this
    have := m3 y hy
    omega
  unfold validP
  simp only
  have c1 : Sp1D.inside x.1 0 7 = true := inside_iff.2 (by omega)
  have c2 : (e.1.all fun e => Sp1D.inside e.2.1 1 256 && Sp1D.inside e.1 1 99) = true := by
    rw [List.all_eq_true]
    intro d hd
    have := I.ids d hd
    rw [inside_iff.2 ⟨this.1, this.2.1⟩, inside_iff.2 (hrng d hd)]
    rfl
  have c3 : upE e.1 = true := by
    unfold upE
    rw [List.all_eq_true]
    intro i hi
    have hi := List.mem_range.1 hi
    have := List.pairwise_iff_getElem.1 I.up i (i + 1) (by omega) (by omega) (by omega)
    rw [getD_ix (show i < e.1.length by omega), getD_ix (show i + 1 < e.1.length by omega)]
    exact decide_eq_true this
  rw [c1, hvl, c2, c3, rep_false hnd, dT (show e.1.length ≤ 24 by omega)]
  rfl
theorem idsN_sub (E : List Ed) (n : Int) (p : Int → Bool) (t : Tp) : ∀ k, k ≤ E.length → ((idsN E n p t k).1).Sublist ((E.take k).map fun e => e.2.1)
  | 0, _ => List.Sublist.refl _
  | k + 1, hk => by
    have ih := idsN_sub E n p t k (by omega)
    rw [idsN, take_succ_getD E k zE (by omega), List.map_append]
    cases p (next (idsN E n p t k).2 n).1 with
    | true => exact ih.append (List.Sublist.refl _)
    | false => exact ih.trans (List.sublist_append_left _ _)
theorem valid_up {p : Pn} (h : validP p = true) : (p.2.2.1.map fun e => e.2.1).Pairwise (fun a b => a < b) := by
  unfold validP at h
  simp only [Bool.and_eq_true] at h
  have hu := h.1.2
  unfold upE at hu
  rw [List.all_eq_true] at hu
  have h1 : ∀ i, i + 1 < p.2.2.1.length → (p.2.2.1.getD i zE).2.1 < (p.2.2.1.getD (i + 1) zE).2.1 := fun i hi => of_decide_eq_true (hu i (List.mem_range.2 (by omega)))
  have h2 : ∀ j i, i < j → j < p.2.2.1.length → (p.2.2.1.getD i zE).2.1 < (p.2.2.1.getD j zE).2.1 := by
    intro j
    induction j with
    | zero => intro i hi; omega
    | succ j ih =>
      intro i hi hj
      by_cases q : i = j
      · subst q; exact h1 i hj
      · exact Int.lt_trans (ih i (by omega) (by omega)) (h1 j hj)
  rw [List.pairwise_map, List.pairwise_iff_getElem]
  intro i j hi hj hij
  have := h2 j i hij hj
  rwa [getD_ix hi, getD_ix hj] at this
theorem up_of_pair {l : List Int} (h : l.Pairwise (fun a b => a < b)) : upI l = true := by
  unfold upI
  rw [List.all_eq_true]
  intro i hi
  have hi := List.mem_range.1 hi
  have := List.pairwise_iff_getElem.1 h i (i + 1) (by omega) (by omega) (by omega)
  rw [getD_ix (show i < l.length by omega), getD_ix (show i + 1 < l.length by omega)]
  exact decide_eq_true this
theorem g4_ok (a0 : (List Int)) (r0 : (Ty.sl (.int .i64)).ok a0) : g4 a0 = some (true, ()) := by
  unfold g4
  have w0 := tape_wf a0
  rw [on_true (show (wf (Sp1D.tape a0) && Sp1D.inside 8 1 50 && small 0) = true by rw [w0]; rfl)]
  simp only [Option.bind_some]
  have w3 := topo_wf (t := Sp1D.tape a0) (a := 8) (n := 0) w0 (by omega)
  obtain ⟨N, ls, hN1, hN8, hg⟩ := topo0 w0 8 (by omega)
  generalize topo (Sp1D.tape a0) 8 0 = y1 at w3 hg ⊢
  rw [on_true (show (wf y1.2 && small 0 && decide (y1.1.1.length ≤ 1000)) = true by rw [w3.1, dT (show y1.1.1.length ≤ 1000 by have := w3.2; omega)]; rfl)]
  simp only [Option.bind_some]
  obtain ⟨w4, l4⟩ := planT_wf w3.1 y1.1 0
  obtain ⟨hv, hvl⟩ := plan0_valid w3.1 hg hN8
  generalize planT y1.2 y1.1 0 = y2 at w4 l4 hv hvl ⊢
  have h0 : Loop (g4_s0 y2) ((0 : Int), (([] : List Int), (y2.2, ()))) = some ((idsN y2.1.2.2.1 3 (fun x => decide (x > 0)) y2.2 y2.1.2.2.1.length).1, ()) := by
    refine Loop_seq (step := g4_s0 y2) (fun k => ((k : Int), ((idsN y2.1.2.2.1 3 (fun x => decide (x > 0)) y2.2 k).1, ((idsN y2.1.2.2.1 3 (fun x => decide (x > 0)) y2.2 k).2, ())))) y2.1.2.2.1.length _ (fun k hk => ?_) ?_ 0 (Nat.zero_le _)
    · obtain ⟨h1, h2⟩ := idsN_wf y2.1.2.2.1 3 (fun x => decide (x > 0)) w4 k
      rw [idsN]
      generalize idsN y2.1.2.2.1 3 (fun x => decide (x > 0)) y2.2 k = s at h1 h2 ⊢
      unfold g4_s0
      simp only [Int.ofNat_eq_natCast, Int.toNat_natCast]
      rw [dT (show (k : Int) < (y2.1.2.2.1.length : Int) by omega), on_w h1, wi64n (by omega)]
      simp only [Option.bind_some, cond_true]
      rw [dT (show (0 : Int) ≤ (k : Int) by omega), ble_t (show (s.1.length + 1) * 8 ≤ 140737488355328 by omega)]
      generalize next s.2 3 = x
      cases decide (x.1 > 0) <;> rfl
    · unfold g4_s0
      simp only [Int.ofNat_eq_natCast]
      rw [dF (show ¬ (y2.1.2.2.1.length : Int) < (y2.1.2.2.1.length : Int) by omega)]
      rfl
  rw [h0]
  simp only [Option.bind_some]
  have hsub := idsN_sub y2.1.2.2.1 3 (fun x => decide (x > 0)) y2.2 y2.1.2.2.1.length (Nat.le_refl _)
  rw [List.take_length] at hsub
  generalize (idsN y2.1.2.2.1 3 (fun x => decide (x > 0)) y2.2 y2.1.2.2.1.length).1 = l at hsub ⊢
  have hup : upI l = true := up_of_pair ((valid_up hv).sublist hsub)
  have hhas : ∀ x ∈ l, hasE y2.1 x = true := by
    intro x hx
    obtain ⟨e, he, h2⟩ := List.mem_map.1 (hsub.subset hx)
    exact List.any_eq_true.2 ⟨e, he, decide_eq_true h2⟩
  have hany : l.any (fun id => !hasE y2.1 id) = false := by
    rw [List.any_eq_false]
    intro x hx
    rw [hhas x hx]
    exact Bool.false_ne_true
  have hset : sets y2.1 l = (l.foldl (setStep y2.1.2.1) [], 0, ()) := by
    unfold sets
    rw [hv, hup, hany]
    rfl
  have hlen := ids_len hv hup hany
  have I := sets_ok hvl l (fun x hx => has_in hv (hhas x hx)) hup l.length (Nat.le_refl _)
  have hfl := (fold_inv (n := y2.1.2.1) l l.length (Nat.le_refl _)).2
  rw [List.take_length] at I hfl
  generalize l.foldl (setStep y2.1.2.1) [] = out at hset I hfl
  have hpre : ∀ k, ((out.take k).flatMap (nmOf y2.1.2.1)).length ≤ 256 := by
    intro k
    have h1 : ((out.take k).flatMap (nmOf y2.1.2.1) ++ (out.drop k).flatMap (nmOf y2.1.2.1)) = l := by
      rw [← List.flatMap_append, List.take_append_drop]
      exact I.ids
    have h2 := congrArg List.length h1
    rw [List.length_append] at h2
    omega
  have hL : Loop (g4_s1 y2 (l, ())) ((0 : Int), (([] : List Int), ())) = some (false, ((false, ()), (l, ()))) := by
    have h := Loop_seq (step := g4_s1 y2 (l, ())) (fun k => ((k : Int), ((out.take k).flatMap (nmOf y2.1.2.1), ()))) out.length ((false, ((false, ()), (l, ()))) : Bool × (Bool × Unit) × List Int × Unit) (fun k hk => ?_) ?_ 0 (Nat.zero_le _)
    · exact h
    · obtain ⟨hn1, hn2⟩ := names_ok hv hvl I hhas (getD_mem (d := zS) hk)
      have hk1 := hpre (k + 1)
      have hstep : (out.take (k + 1)).flatMap (nmOf y2.1.2.1) = (out.take k).flatMap (nmOf y2.1.2.1) ++ nmOf y2.1.2.1 (out.getD k zS) := by
        rw [take_succ_getD out k zS hk, List.flatMap_append]
        simp only [List.flatMap_cons, List.flatMap_nil, List.append_nil]
      rw [hstep, List.length_append] at hk1
      rw [hstep]
      unfold g4_s1
      simp only [Int.ofNat_eq_natCast, Int.toNat_natCast, hset]
      rw [dT (show (k : Int) < (out.length : Int) by omega), dT (show (0 : Int) ≤ (k : Int) by omega), wi64n (by omega), hn1]
      simp only [eq_self, decide_true]
      have hpos : ¬ ((nmOf y2.1.2.1 (out.getD k zS)).length : Int) = 0 := by
        intro h
        exact hn2 (List.eq_nil_of_length_eq_zero (by omega))
      rw [dF hpos, ble_t (show (((out.take k).flatMap (nmOf y2.1.2.1)).length + (nmOf y2.1.2.1 (out.getD k zS)).length) * 8 ≤ 140737488355328 by omega)]
      by_cases hk0 : 0 < k
      · rw [dT (show (k : Int) > 0 by omega), wi64p hk0 (by omega), Int.toNat_natCast, dT (show (0 : Int) ≤ ((k - 1 : Nat) : Int) by omega), dT (show ((k - 1 : Nat) : Int) < (out.length : Int) by omega)]
        have hlt := List.pairwise_iff_getElem.1 I.up (k - 1) k (by omega) hk (by omega)
        rw [← getD_ix (d := zS), ← getD_ix (d := zS)] at hlt
        rw [dF (show ¬ (out.getD (k - 1) zS).1 ≥ (out.getD k zS).1 by omega)]
        rfl
      · rw [dF (show ¬ (k : Int) > 0 by omega)]
        rfl
    · unfold g4_s1
      simp only [Int.ofNat_eq_natCast, hset]
      rw [dF (show ¬ (out.length : Int) < (out.length : Int) by omega), List.take_length, I.ids]
      rfl
  rw [hL, hset]
  simp only [Option.bind_some, sameI_self]
  rfl
end Go.Abs.C1D

namespace Go.Abs.C1D
open Go Go.Proofs
theorem ok24 : FunOk Tryd.prog B 24 c24 := glue L0 gam_nil plan24 Tryd.func24 (by kernel_rfl) (by
  rintro ⟨⟨⟩, a0, a1, ⟨⟩⟩ y r h
  exact (g24_eq a0 a1).trans ((g24_ok a0 a1 r.2.1 r.2.2.1).trans h))
theorem all24 : ∀ g con, lookC L24 g = some con → FunOk Tryd.prog B (g % 1000000) con := gam_cons rfl ok24 gam_nil

theorem ok25 : FunOk Tryd.prog B 25 c25 := glue L24 all24 plan25 Tryd.func25 (by kernel_rfl) (by
  rintro ⟨⟨a0, a1, ⟨⟩⟩, ⟨⟩⟩ y r h
  obtain ⟨h1, h2⟩ := Sp1D.on_some h
  subst h2
  exact (g25_eq a0 a1).trans (g25_ok a0 a1 r.1.1 r.1.2.1 h1))
theorem all25 : ∀ g con, lookC L25 g = some con → FunOk Tryd.prog B (g % 1000000) con := gam_cons rfl ok25 all24

theorem ok8 : FunOk Tryd.prog B 8 c8 := glue L25 all25 plan8 Tryd.func8 (by kernel_rfl) (by
  rintro ⟨⟨a0, a1, ⟨⟩⟩, a2, ⟨⟩⟩ y r h
  obtain ⟨h1, h2⟩ := Sp1D.on_some h
  subst h2
  exact (g8_eq a0 a1 a2).trans (g8_ok a0 a1 a2 r.1.1 r.1.2.1 r.2.1 h1))
theorem all8 : ∀ g con, lookC L8 g = some con → FunOk Tryd.prog B (g % 1000000) con := gam_cons rfl ok8 all25

theorem ok22 : FunOk Tryd.prog B 22 c22 := glue L8 all8 plan22 Tryd.func22 (by kernel_rfl) (by
  rintro ⟨⟨a0, a1, ⟨⟩⟩, a2, a3, ⟨⟩⟩ y r h
  obtain ⟨h1, h2⟩ := Sp1D.on_some h
  subst h2
  exact (g22_eq a0 a1 a2 a3).trans (g22_ok a0 a1 a2 a3 r.1.1 r.1.2.1 r.2.1 r.2.2.1 h1))
theorem all22 : ∀ g con, lookC L22 g = some con → FunOk Tryd.prog B (g % 1000000) con := gam_cons rfl ok22 all8

theorem ok9 : FunOk Tryd.prog B 9 c9 := glue L22 all22 plan9 Tryd.func9 (by kernel_rfl) (by
  rintro ⟨⟨a0, a1, ⟨⟩⟩, a2, ⟨⟩⟩ y r h
  obtain ⟨h1, h2⟩ := Sp1D.on_some h
  subst h2
  exact (g9_eq a0 a1 a2).trans (g9_ok a0 a1 a2 r.1.1 r.1.2.1 r.2.1 h1))
theorem all9 : ∀ g con, lookC L9 g = some con → FunOk Tryd.prog B (g % 1000000) con := gam_cons rfl ok9 all22

theorem ok10 : FunOk Tryd.prog B 10 c10 := glue L9 all9 plan10 Tryd.func10 (by kernel_rfl) (by
  rintro ⟨⟨a0, a1, ⟨⟩⟩, a2, ⟨⟩⟩ y r h
  obtain ⟨h1, h2⟩ := Sp1D.on_some h
  subst h2
  exact (g10_eq a0 a1 a2).trans (g10_ok a0 a1 a2 r.1.1 r.1.2.1 r.2.1 h1))
theorem all10 : ∀ g con, lookC L10 g = some con → FunOk Tryd.prog B (g % 1000000) con := gam_cons rfl ok10 all9

theorem ok21 : FunOk Tryd.prog B 21 c21 := glue L10 all10 plan21 Tryd.func21 (by kernel_rfl) (by
  rintro ⟨⟨a0, a1, ⟨⟩⟩, ⟨⟩⟩ y r h
  obtain ⟨h1, h2⟩ := Sp1D.on_some h
  subst h2
  exact (g21_eq a0 a1).trans (g21_ok a0 a1 r.1.1 r.1.2.1 h1))
theorem all21 : ∀ g con, lookC L21 g = some con → FunOk Tryd.prog B (g % 1000000) con := gam_cons rfl ok21 all10

theorem ok5 : FunOk Tryd.prog B 5 c5 := glue L21 all21 plan5 Tryd.func5 (by kernel_rfl) (by
  rintro ⟨⟨⟩, a0, ⟨⟩⟩ y r h
  exact (g5_eq a0).trans ((g5_ok a0 r.2.1).trans h))
theorem all5 : ∀ g con, lookC L5 g = some con → FunOk Tryd.prog B (g % 1000000) con := gam_cons rfl ok5 all21

theorem ok19 : FunOk Tryd.prog B 19 c19 := glue L5 all5 plan19 Tryd.func19 (by kernel_rfl) (by
  rintro ⟨⟨a0, a1, ⟨⟩⟩, ⟨⟩⟩ y r h
  obtain ⟨h1, h2⟩ := Sp1D.on_some h
  subst h2
  exact (g19_eq a0 a1).trans (g19_ok a0 a1 r.1.1 r.1.2.1 h1))
theorem all19 : ∀ g con, lookC L19 g = some con → FunOk Tryd.prog B (g % 1000000) con := gam_cons rfl ok19 all5

theorem ok23 : FunOk Tryd.prog B 23 c23 := glue L19 all19 plan23 Tryd.func23 (by kernel_rfl) (by
  rintro ⟨⟨⟩, a0, ⟨⟩⟩ y r h
  obtain ⟨h1, h2⟩ := Sp1D.on_some h
  subst h2
  exact (g23_eq a0).trans (g23_ok a0 r.2.1 h1))
theorem all23 : ∀ g con, lookC L23 g = some con → FunOk Tryd.prog B (g % 1000000) con := gam_cons rfl ok23 all19

theorem ok7 : FunOk Tryd.prog B 7 c7 := glue L23 all23 plan7 Tryd.func7 (by kernel_rfl) (by
  rintro ⟨⟨a0, a1, ⟨⟩⟩, a2, a3, ⟨⟩⟩ y r h
  obtain ⟨h1, h2⟩ := Sp1D.on_some h
  subst h2
  exact (g7_eq a0 a1 a2 a3).trans (g7_ok a0 a1 a2 a3 r.1.1 r.1.2.1 r.2.1 r.2.2.1 h1))
theorem all7 : ∀ g con, lookC L7 g = some con → FunOk Tryd.prog B (g % 1000000) con := gam_cons rfl ok7 all23

theorem ok20 : FunOk Tryd.prog B 20 c20 := glue L7 all7 plan20 Tryd.func20 (by kernel_rfl) (by
  rintro ⟨⟨a0, a1, ⟨⟩⟩, a2, ⟨⟩⟩ y r h
  obtain ⟨h1, h2⟩ := Sp1D.on_some h
  subst h2
  exact (g20_eq a0 a1 a2).trans (g20_ok a0 a1 a2 r.1.1 r.1.2.1 r.2.1 h1))
theorem all20 : ∀ g con, lookC L20 g = some con → FunOk Tryd.prog B (g % 1000000) con := gam_cons rfl ok20 all7

theorem ok6 : FunOk Tryd.prog B 6 c6 := glue L20 all20 plan6 Tryd.func6 (by kernel_rfl) (by
  rintro ⟨⟨a0, a1, ⟨⟩⟩, ⟨a2, a3, ⟨⟩⟩, a4, ⟨⟩⟩ y r h
  obtain ⟨h1, h2⟩ := Sp1D.on_some h
  subst h2
  exact (g6_eq a0 a1 a2 a3 a4).trans (g6_ok a0 a1 a2 a3 a4 r.1.1 r.1.2.1 r.2.1.1 r.2.1.2.1 r.2.2.1 h1))
theorem all6 : ∀ g con, lookC L6 g = some con → FunOk Tryd.prog B (g % 1000000) con := gam_cons rfl ok6 all20

theorem ok43 : FunOk Tryd.prog B 43 c43 := glue L6 all6 plan43 Tryd.func43 (by kernel_rfl) (by
  rintro ⟨⟨⟩, a0, ⟨⟩⟩ y r h
  exact (g43_eq a0).trans ((g43_ok a0 r.2.1).trans h))
theorem all43 : ∀ g con, lookC L43 g = some con → FunOk Tryd.prog B (g % 1000000) con := gam_cons rfl ok43 all6

theorem ok49 : FunOk Tryd.prog B 49 c49 := glue L43 all43 plan49 Tryd.func49 (by kernel_rfl) (by
  rintro ⟨⟨⟩, a0, ⟨⟩⟩ y r h
  exact (g49_eq a0).trans ((g49_ok a0 r.2.1).trans h))
theorem all49 : ∀ g con, lookC L49 g = some con → FunOk Tryd.prog B (g % 1000000) con := gam_cons rfl ok49 all43

theorem ok42 : FunOk Tryd.prog B 42 c42 := glue L49 all49 plan42 Tryd.func42 (by kernel_rfl) (by
  rintro ⟨⟨⟩, a0, a1, a2, ⟨⟩⟩ y r h
  exact (g42_eq a0 a1 a2).trans ((g42_ok a0 a1 a2 r.2.1 r.2.2.1 r.2.2.2.1).trans h))
theorem all42 : ∀ g con, lookC L42 g = some con → FunOk Tryd.prog B (g % 1000000) con := gam_cons rfl ok42 all49

theorem ok48 : FunOk Tryd.prog B 48 c48 := glue L42 all42 plan48 Tryd.func48 (by kernel_rfl) (by
  rintro ⟨⟨⟩, a0, a1, a2, ⟨⟩⟩ y r h
  exact (g48_eq a0 a1 a2).trans ((g48_ok a0 a1 a2 r.2.1 r.2.2.1 r.2.2.2.1).trans h))
theorem all48 : ∀ g con, lookC L48 g = some con → FunOk Tryd.prog B (g % 1000000) con := gam_cons rfl ok48 all42

theorem ok68 : FunOk Tryd.prog B 68 c68 := glue L48 all48 plan68 Tryd.func68 (by kernel_rfl) (by
  rintro ⟨⟨⟩, a0, ⟨⟩⟩ y r h
  exact (g68_eq a0).trans ((g68_ok a0 r.2.1).trans h))
theorem all68 : ∀ g con, lookC L68 g = some con → FunOk Tryd.prog B (g % 1000000) con := gam_cons rfl ok68 all48

theorem ok58 : FunOk Tryd.prog B 58 c58 := glue L68 all68 plan58 Tryd.func58 (by kernel_rfl) (by
  rintro ⟨⟨⟩, a0, a1, ⟨⟩⟩ y r h
  exact (g58_eq a0 a1).trans ((g58_ok a0 a1 r.2.1 r.2.2.1).trans h))
theorem all58 : ∀ g con, lookC L58 g = some con → FunOk Tryd.prog B (g % 1000000) con := gam_cons rfl ok58 all68

theorem ok65 : FunOk Tryd.prog B 65 c65 := glue L58 all58 plan65 Tryd.func65 (by kernel_rfl) (by
  rintro ⟨⟨⟩, a0, ⟨⟩⟩ y r h
  exact (g65_eq a0).trans ((g65_ok a0 r.2.1).trans h))
theorem all65 : ∀ g con, lookC L65 g = some con → FunOk Tryd.prog B (g % 1000000) con := gam_cons rfl ok65 all58

theorem ok63 : FunOk Tryd.prog B 63 c63 := glue L65 all65 plan63 Tryd.func63 (by kernel_rfl) (by
  rintro ⟨⟨⟩, ⟨a0, a1, a2, a3, ⟨⟩⟩, ⟨⟩⟩ y r h
  exact (g63_eq a0 a1 a2 a3).trans ((g63_ok a0 a1 a2 a3 r.2.1.1 r.2.1.2.1 r.2.1.2.2.1 r.2.1.2.2.2.1).trans h))
theorem all63 : ∀ g con, lookC L63 g = some con → FunOk Tryd.prog B (g % 1000000) con := gam_cons rfl ok63 all65

theorem ok69 : FunOk Tryd.prog B 69 c69 := glue L63 all63 plan69 Tryd.func69 (by kernel_rfl) (by
  rintro ⟨⟨⟩, a0, ⟨⟩, ⟨⟩⟩ y r h
  exact (g69_eq a0).trans ((g69_ok a0 r.2.1).trans h))
theorem all69 : ∀ g con, lookC L69 g = some con → FunOk Tryd.prog B (g % 1000000) con := gam_cons rfl ok69 all63

theorem ok64 : FunOk Tryd.prog B 64 c64 := glue L69 all69 plan64 Tryd.func64 (by kernel_rfl) (by
  rintro ⟨⟨⟩, a0, ⟨⟩, ⟨⟩⟩ y r h
  exact (g64_eq a0).trans ((g64_ok a0 r.2.1).trans h))
theorem all64 : ∀ g con, lookC L64 g = some con → FunOk Tryd.prog B (g % 1000000) con := gam_cons rfl ok64 all69

theorem ok53 : FunOk Tryd.prog B 53 c53 := glue L64 all64 plan53 Tryd.func53 (by kernel_rfl) (by
  rintro ⟨⟨⟩, a0, ⟨⟩⟩ y r h
  exact (g53_eq a0).trans ((g53_ok a0 r.2.1).trans h))
theorem all53 : ∀ g con, lookC L53 g = some con → FunOk Tryd.prog B (g % 1000000) con := gam_cons rfl ok53 all64

theorem ok45 : FunOk Tryd.prog B 45 c45 := glue L53 all53 plan45 Tryd.func45 (by kernel_rfl) (by
  rintro ⟨⟨⟩, ⟨a0, a1, ⟨⟩⟩, ⟨a2, a3, ⟨⟩⟩, ⟨⟩⟩ y r h
  exact (g45_eq a0 a1 a2 a3).trans ((g45_ok a0 a1 a2 a3 r.2.1.1 r.2.1.2.1 r.2.2.1.1 r.2.2.1.2.1).trans h))
theorem all45 : ∀ g con, lookC L45 g = some con → FunOk Tryd.prog B (g % 1000000) con := gam_cons rfl ok45 all53

theorem ok61 : FunOk Tryd.prog B 61 c61 := glue L45 all45 plan61 Tryd.func61 (by kernel_rfl) (by
  rintro ⟨⟨⟩, a0, ⟨a1, a2, ⟨⟩⟩, ⟨⟩⟩ y r h
  exact (g61_eq a0 a1 a2).trans ((g61_ok a0 a1 a2 r.2.1 r.2.2.1.1 r.2.2.1.2.1).trans h))
theorem all61 : ∀ g con, lookC L61 g = some con → FunOk Tryd.prog B (g % 1000000) con := gam_cons rfl ok61 all45

theorem ok44 : FunOk Tryd.prog B 44 c44 := glue L61 all61 plan44 Tryd.func44 (by kernel_rfl) (by
  rintro ⟨⟨⟩, a0, ⟨a1, a2, ⟨⟩⟩, ⟨⟩⟩ y r h
  exact (g44_eq a0 a1 a2).trans ((g44_ok a0 a1 a2 r.2.1 r.2.2.1.1 r.2.2.1.2.1).trans h))
theorem all44 : ∀ g con, lookC L44 g = some con → FunOk Tryd.prog B (g % 1000000) con := gam_cons rfl ok44 all61

theorem ok26 : FunOk Tryd.prog B 26 c26 := glue L44 all44 plan26 Tryd.func26 (by kernel_rfl) (by
  rintro ⟨⟨⟩, ⟨a0, a1, a2, ⟨⟩⟩, ⟨⟩⟩ y r h
  exact (g26_eq a0 a1 a2).trans ((g26_ok a0 a1 a2 r.2.1.1 r.2.1.2.1 r.2.1.2.2.1).trans h))
theorem all26 : ∀ g con, lookC L26 g = some con → FunOk Tryd.prog B (g % 1000000) con := gam_cons rfl ok26 all44

theorem ok55 : FunOk Tryd.prog B 55 c55 := glue L26 all26 plan55 Tryd.func55 (by kernel_rfl) (by
  rintro ⟨⟨⟩, a0, a1, ⟨⟩⟩ y r h
  obtain ⟨h1, h2⟩ := Sp1D.on_some h
  subst h2
  exact (g55_eq a0 a1).trans (g55_ok a0 a1 r.2.1 r.2.2.1 h1))
theorem all55 : ∀ g con, lookC L55 g = some con → FunOk Tryd.prog B (g % 1000000) con := gam_cons rfl ok55 all26

theorem ok54 : FunOk Tryd.prog B 54 c54 := glue L55 all55 plan54 Tryd.func54 (by kernel_rfl) (by
  rintro ⟨⟨⟩, a0, a1, ⟨⟩⟩ y r h
  exact (g54_eq a0 a1).trans ((g54_ok a0 a1 r.2.1 r.2.2.1).trans h))
theorem all54 : ∀ g con, lookC L54 g = some con → FunOk Tryd.prog B (g % 1000000) con := gam_cons rfl ok54 all55

theorem ok56 : FunOk Tryd.prog B 56 c56 := ⟨rfl, fun h => (by cases h), fun x hx => (by cases hx; exact x56_ok), _, Tryd.func56, by kernel_rfl, by kernel_rfl⟩
theorem all56 : ∀ g con, lookC L56 g = some con → FunOk Tryd.prog B (g % 1000000) con := gam_cons rfl ok56 all54

theorem ok40 : FunOk Tryd.prog B 40 c40 := glue L56 all56 plan40 Tryd.func40 (by kernel_rfl) (by
  rintro ⟨⟨⟩, a0, a1, ⟨⟩⟩ y r h
  exact (g40_eq a0 a1).trans ((g40_ok a0 a1 r.2.1 r.2.2.1).trans h))
theorem all40 : ∀ g con, lookC L40 g = some con → FunOk Tryd.prog B (g % 1000000) con := gam_cons rfl ok40 all56

theorem ok60 : FunOk Tryd.prog B 60 c60 := glue L40 all40 plan60 Tryd.func60 (by kernel_rfl) (by
  rintro ⟨⟨⟩, a0, ⟨⟩⟩ y r h
  obtain ⟨h1, h2⟩ := Sp1D.on_some h
  subst h2
  exact (g60_eq a0).trans (g60_ok a0  h1))
theorem all60 : ∀ g con, lookC L60 g = some con → FunOk Tryd.prog B (g % 1000000) con := gam_cons rfl ok60 all40

theorem all59 : ∀ g con, lookC L59 g = some con → FunOk Tryd.prog B (g % 1000000) con := gam_cons rfl ok59 all60

theorem ok41 : FunOk Tryd.prog B 41 c41 := glue L59 all59 plan41 Tryd.func41 (by kernel_rfl) (by
  rintro ⟨⟨⟩, a0, a1, ⟨⟩⟩ y r h
  exact (g41_eq a0 a1).trans ((g41_ok a0 a1 r.2.1 r.2.2.1).trans h))
theorem all41 : ∀ g con, lookC L41 g = some con → FunOk Tryd.prog B (g % 1000000) con := gam_cons rfl ok41 all59

theorem ok30 : FunOk Tryd.prog B 30 c30 := glue L41 all41 plan30 Tryd.func30 (by kernel_rfl) (by
  rintro ⟨⟨⟩, a0, a1, ⟨⟩⟩ y r h
  exact (g30_eq a0 a1).trans ((g30_ok a0 a1 r.2.1 r.2.2.1).trans h))
theorem all30 : ∀ g con, lookC L30 g = some con → FunOk Tryd.prog B (g % 1000000) con := gam_cons rfl ok30 all41

theorem ok36 : FunOk Tryd.prog B 36 c36 := glue L30 all30 plan36 Tryd.func36 (by kernel_rfl) (by
  rintro ⟨⟨⟩, a0, a1, a2, ⟨⟩⟩ y r h
  exact (g36_eq a0 a1 a2).trans ((g36_ok a0 a1 a2 r.2.1 r.2.2.1 r.2.2.2.1).trans h))
theorem all36 : ∀ g con, lookC L36 g = some con → FunOk Tryd.prog B (g % 1000000) con := gam_cons rfl ok36 all30

theorem ok50 : FunOk Tryd.prog B 50 c50 := glue L36 all36 plan50 Tryd.func50 (by kernel_rfl) (by
  rintro ⟨⟨⟩, a0, ⟨⟩⟩ y r h
  exact (g50_eq a0).trans ((g50_ok a0 r.2.1).trans h))
theorem all50 : ∀ g con, lookC L50 g = some con → FunOk Tryd.prog B (g % 1000000) con := gam_cons rfl ok50 all36

theorem ok31 : FunOk Tryd.prog B 31 c31 := glue L50 all50 plan31 Tryd.func31 (by kernel_rfl) (by
  rintro ⟨⟨⟩, ⟨a0, a1, a2, ⟨⟩⟩, ⟨⟩⟩ y r h
  exact (g31_eq a0 a1 a2).trans ((g31_ok a0 a1 a2 r.2.1.1 r.2.1.2.1 r.2.1.2.2.1).trans h))
theorem all31 : ∀ g con, lookC L31 g = some con → FunOk Tryd.prog B (g % 1000000) con := gam_cons rfl ok31 all50

theorem ok17 : FunOk Tryd.prog B 17 c17 := glue L31 all31 plan17 Tryd.func17 (by kernel_rfl) (by
  rintro ⟨⟨⟩, a0, a1, ⟨⟩⟩ y r h
  exact (g17_eq a0 a1).trans ((g17_ok a0 a1 r.2.1 r.2.2.1).trans h))
theorem all17 : ∀ g con, lookC L17 g = some con → FunOk Tryd.prog B (g % 1000000) con := gam_cons rfl ok17 all31

theorem ok33 : FunOk Tryd.prog B 33 c33 := glue L17 all17 plan33 Tryd.func33 (by kernel_rfl) (by
  rintro ⟨⟨⟩, a0, a1, ⟨⟩⟩ y r h
  exact (g33_eq a0 a1).trans ((g33_ok a0 a1 r.2.1 r.2.2.1).trans h))
theorem all33 : ∀ g con, lookC L33 g = some con → FunOk Tryd.prog B (g % 1000000) con := gam_cons rfl ok33 all17

theorem ok38 : FunOk Tryd.prog B 38 c38 := glue L33 all33 plan38 Tryd.func38 (by kernel_rfl) (by
  rintro ⟨⟨⟩, a0, a1, a2, ⟨⟩⟩ y r h
  exact (g38_eq a0 a1 a2).trans ((g38_ok a0 a1 a2 r.2.1 r.2.2.1 r.2.2.2.1).trans h))
theorem all38 : ∀ g con, lookC L38 g = some con → FunOk Tryd.prog B (g % 1000000) con := gam_cons rfl ok38 all33

theorem ok39 : FunOk Tryd.prog B 39 c39 := glue L38 all38 plan39 Tryd.func39 (by kernel_rfl) (by
  rintro ⟨⟨⟩, a0, a1, ⟨⟩⟩ y r h
  exact (g39_eq a0 a1).trans ((g39_ok a0 a1 r.2.1 r.2.2.1).trans h))
theorem all39 : ∀ g con, lookC L39 g = some con → FunOk Tryd.prog B (g % 1000000) con := gam_cons rfl ok39 all38

theorem ok18 : FunOk Tryd.prog B 18 c18 := glue L39 all39 plan18 Tryd.func18 (by kernel_rfl) (by
  rintro ⟨⟨⟩, ⟨⟩⟩ y r h
  exact (g18_eq ).trans ((g18_ok  ).trans h))
theorem all18 : ∀ g con, lookC L18 g = some con → FunOk Tryd.prog B (g % 1000000) con := gam_cons rfl ok18 all39

theorem ok14 : FunOk Tryd.prog B 14 c14 := glue L18 all18 plan14 Tryd.func14 (by kernel_rfl) (by
  rintro ⟨⟨⟩, a0, ⟨⟩⟩ y r h
  exact (g14_eq a0).trans ((g14_ok a0 r.2.1).trans h))
theorem all14 : ∀ g con, lookC L14 g = some con → FunOk Tryd.prog B (g % 1000000) con := gam_cons rfl ok14 all18

theorem ok34 : FunOk Tryd.prog B 34 c34 := glue L14 all14 plan34 Tryd.func34 (by kernel_rfl) (by
  rintro ⟨⟨⟩, a0, ⟨⟩⟩ y r h
  exact (g34_eq a0).trans ((g34_ok a0 r.2.1).trans h))
theorem all34 : ∀ g con, lookC L34 g = some con → FunOk Tryd.prog B (g % 1000000) con := gam_cons rfl ok34 all14

theorem ok13 : FunOk Tryd.prog B 13 c13 := glue L34 all34 plan13 Tryd.func13 (by kernel_rfl) (by
  rintro ⟨⟨a0, a1, ⟨⟩⟩, a2, ⟨⟩⟩ y r h
  obtain ⟨h1, h2⟩ := Sp1D.on_some h
  subst h2
  exact (g13_eq a0 a1 a2).trans (g13_ok a0 a1 a2 r.1.1 r.1.2.1 r.2.1 h1))
theorem all13 : ∀ g con, lookC L13 g = some con → FunOk Tryd.prog B (g % 1000000) con := gam_cons rfl ok13 all34

theorem ok62 : FunOk Tryd.prog B 62 c62 := glue L13 all13 plan62 Tryd.func62 (by kernel_rfl) (by
  rintro ⟨⟨⟩, a0, ⟨⟩⟩ y r h
  obtain ⟨h1, h2⟩ := Sp1D.on_some h
  subst h2
  exact (g62_eq a0).trans (g62_ok a0 r.2.1 h1))
theorem all62 : ∀ g con, lookC L62 g = some con → FunOk Tryd.prog B (g % 1000000) con := gam_cons rfl ok62 all13

theorem ok51 : FunOk Tryd.prog B 51 c51 := glue L62 all62 plan51 Tryd.func51 (by kernel_rfl) (by
  rintro ⟨⟨⟩, a0, ⟨⟩⟩ y r h
  exact (g51_eq a0).trans ((g51_ok a0 r.2.1).trans h))
theorem all51 : ∀ g con, lookC L51 g = some con → FunOk Tryd.prog B (g % 1000000) con := gam_cons rfl ok51 all62

theorem ok52 : FunOk Tryd.prog B 52 c52 := glue L51 all51 plan52 Tryd.func52 (by kernel_rfl) (by
  rintro ⟨⟨⟩, a0, a1, ⟨⟩⟩ y r h
  exact (g52_eq a0 a1).trans ((g52_ok a0 a1 r.2.1 r.2.2.1).trans h))
theorem all52 : ∀ g con, lookC L52 g = some con → FunOk Tryd.prog B (g % 1000000) con := gam_cons rfl ok52 all51

theorem ok35 : FunOk Tryd.prog B 35 c35 := glue L52 all52 plan35 Tryd.func35 (by kernel_rfl) (by
  rintro ⟨⟨⟩, a0, ⟨⟩⟩ y r h
  exact (g35_eq a0).trans ((g35_ok a0 r.2.1).trans h))
theorem all35 : ∀ g con, lookC L35 g = some con → FunOk Tryd.prog B (g % 1000000) con := gam_cons rfl ok35 all52

theorem ok37 : FunOk Tryd.prog B 37 c37 := glue L35 all35 plan37 Tryd.func37 (by kernel_rfl) (by
  rintro ⟨⟨⟩, a0, ⟨⟩⟩ y r h
  exact (g37_eq a0).trans ((g37_ok a0 r.2.1).trans h))
theorem all37 : ∀ g con, lookC L37 g = some con → FunOk Tryd.prog B (g % 1000000) con := gam_cons rfl ok37 all35

theorem ok32 : FunOk Tryd.prog B 32 c32 := glue L37 all37 plan32 Tryd.func32 (by kernel_rfl) (by
  rintro ⟨⟨⟩, ⟨a0, a1, a2, ⟨⟩⟩, a3, ⟨⟩⟩ y r h
  exact (g32_eq a0 a1 a2 a3).trans ((g32_ok a0 a1 a2 a3 r.2.1.1 r.2.1.2.1 r.2.1.2.2.1 r.2.2.1).trans h))
theorem all32 : ∀ g con, lookC L32 g = some con → FunOk Tryd.prog B (g % 1000000) con := gam_cons rfl ok32 all37

theorem ok12 : FunOk Tryd.prog B 12 c12 := glue L32 all32 plan12 Tryd.func12 (by kernel_rfl) (by
  rintro ⟨⟨⟩, ⟨a0, a1, a2, ⟨⟩⟩, a3, ⟨⟩⟩ y r h
  exact (g12_eq a0 a1 a2 a3).trans ((g12_ok a0 a1 a2 a3 r.2.1.1 r.2.1.2.1 r.2.1.2.2.1 r.2.2.1).trans h))
theorem all12 : ∀ g con, lookC L12 g = some con → FunOk Tryd.prog B (g % 1000000) con := gam_cons rfl ok12 all32

theorem ok16 : FunOk Tryd.prog B 16 c16 := glue L12 all12 plan16 Tryd.func16 (by kernel_rfl) (by
  rintro ⟨⟨⟩, ⟨a0, a1, a2, ⟨⟩⟩, ⟨a3, a4, ⟨⟩⟩, ⟨⟩⟩ y r h
  exact (g16_eq a0 a1 a2 a3 a4).trans ((g16_ok a0 a1 a2 a3 a4 r.2.1.1 r.2.1.2.1 r.2.1.2.2.1 r.2.2.1.1 r.2.2.1.2.1).trans h))
theorem all16 : ∀ g con, lookC L16 g = some con → FunOk Tryd.prog B (g % 1000000) con := gam_cons rfl ok16 all12

theorem ok47 : FunOk Tryd.prog B 47 c47 := glue L16 all16 plan47 Tryd.func47 (by kernel_rfl) (by
  rintro ⟨⟨⟩, ⟨a0, a1, ⟨⟩⟩, ⟨a2, ⟨⟩⟩, ⟨⟩⟩ y r h
  exact (g47_eq a0 a1 a2).trans ((g47_ok a0 a1 a2 r.2.1.1 r.2.1.2.1 r.2.2.1.1).trans h))
theorem all47 : ∀ g con, lookC L47 g = some con → FunOk Tryd.prog B (g % 1000000) con := gam_cons rfl ok47 all16

theorem ok61v : FunOk Tryd.prog B 61 c61v := glue L47 all47 plan61v Tryd.func61 (by kernel_rfl) (by
  rintro ⟨⟨⟩, a0, ⟨a1, ⟨⟩⟩, ⟨⟩⟩ y r h
  exact (g61v_eq a0 a1).trans ((g61v_ok a0 a1 r.2.1 r.2.2.1.1).trans h))
theorem all61v : ∀ g con, lookC L61v g = some con → FunOk Tryd.prog B (g % 1000000) con := gam_cons rfl ok61v all47

theorem ok44v : FunOk Tryd.prog B 44 c44v := glue L61v all61v plan44v Tryd.func44 (by kernel_rfl) (by
  rintro ⟨⟨⟩, a0, ⟨a1, ⟨⟩⟩, ⟨⟩⟩ y r h
  exact (g44v_eq a0 a1).trans ((g44v_ok a0 a1 r.2.1 r.2.2.1.1).trans h))
theorem all44v : ∀ g con, lookC L44v g = some con → FunOk Tryd.prog B (g % 1000000) con := gam_cons rfl ok44v all61v

theorem ok29 : FunOk Tryd.prog B 29 c29 := glue L44v all44v plan29 Tryd.func29 (by kernel_rfl) (by
  rintro ⟨⟨⟩, ⟨a0, a1, a2, ⟨⟩⟩, a3, ⟨⟩⟩ y r h
  exact (g29_eq a0 a1 a2 a3).trans ((g29_ok a0 a1 a2 a3 r.2.1.1 r.2.1.2.1 r.2.1.2.2.1 r.2.2.1).trans h))
theorem all29 : ∀ g con, lookC L29 g = some con → FunOk Tryd.prog B (g % 1000000) con := gam_cons rfl ok29 all44v

theorem ok28 : FunOk Tryd.prog B 28 c28 := glue L29 all29 plan28 Tryd.func28 (by kernel_rfl) (by
  rintro ⟨⟨⟩, a0, ⟨a1, a2, a3, ⟨⟩⟩, ⟨⟩⟩ y r h
  exact (g28_eq a0 a1 a2 a3).trans ((g28_ok a0 a1 a2 a3 r.2.1 r.2.2.1.1 r.2.2.1.2.1 r.2.2.1.2.2.1).trans h))
theorem all28 : ∀ g con, lookC L28 g = some con → FunOk Tryd.prog B (g % 1000000) con := gam_cons rfl ok28 all29

theorem ok46 : FunOk Tryd.prog B 46 c46 := glue L28 all28 plan46 Tryd.func46 (by kernel_rfl) (by
  rintro ⟨⟨⟩, a0, ⟨a1, a2, a3, ⟨⟩⟩, ⟨⟩⟩ y r h
  exact (g46_eq a0 a1 a2 a3).trans ((g46_ok a0 a1 a2 a3 r.2.1 r.2.2.1.1 r.2.2.1.2.1 r.2.2.1.2.2.1).trans h))
theorem all46 : ∀ g con, lookC L46 g = some con → FunOk Tryd.prog B (g % 1000000) con := gam_cons rfl ok46 all28

theorem ok27 : FunOk Tryd.prog B 27 c27 := glue L46 all46 plan27 Tryd.func27 (by kernel_rfl) (by
  rintro ⟨⟨⟩, a0, ⟨a1, a2, a3, ⟨⟩⟩, ⟨⟩⟩ y r h
  exact (g27_eq a0 a1 a2 a3).trans ((g27_ok a0 a1 a2 a3 r.2.1 r.2.2.1.1 r.2.2.1.2.1 r.2.2.1.2.2.1).trans h))
theorem all27 : ∀ g con, lookC L27 g = some con → FunOk Tryd.prog B (g % 1000000) con := gam_cons rfl ok27 all46

theorem ok11 : FunOk Tryd.prog B 11 c11 := glue L27 all27 plan11 Tryd.func11 (by kernel_rfl) (by
  rintro ⟨⟨⟩, ⟨a0, a1, a2, ⟨⟩⟩, a3, ⟨⟩⟩ y r h
  exact (g11_eq a0 a1 a2 a3).trans ((g11_ok a0 a1 a2 a3 r.2.1.1 r.2.1.2.1 r.2.1.2.2.1 r.2.2.1).trans h))
theorem all11 : ∀ g con, lookC L11 g = some con → FunOk Tryd.prog B (g % 1000000) con := gam_cons rfl ok11 all27

theorem ok15 : FunOk Tryd.prog B 15 c15 := glue L11 all11 plan15 Tryd.func15 (by kernel_rfl) (by
  rintro ⟨⟨⟩, ⟨a0, a1, a2, ⟨⟩⟩, ⟨a3, a4, ⟨⟩⟩, ⟨⟩⟩ y r h
  exact (g15_eq a0 a1 a2 a3 a4).trans ((g15_ok a0 a1 a2 a3 a4 r.2.1.1 r.2.1.2.1 r.2.1.2.2.1 r.2.2.1.1 r.2.2.1.2.1).trans h))
theorem all15 : ∀ g con, lookC L15 g = some con → FunOk Tryd.prog B (g % 1000000) con := gam_cons rfl ok15 all11
end Go.Abs.C1D

namespace Go.Abs.C1D
open Go Go.Proofs
set_option maxRecDepth 100000
theorem ok3 : FunOk Tryd.prog B 3 c3 := glue L15 all15 plan3 Tryd.func3 (by kernel_rfl) (by
  rintro ⟨⟨⟩, a0, a1, ⟨a2, a3, ⟨⟩⟩, ⟨⟩⟩ y r h
  exact (g3_eq a0 a1 a2 a3).trans ((g3_ok a0 a1 a2 a3 r.2.1 r.2.2.1 r.2.2.2.1.1 r.2.2.2.1.2.1).trans h))
end Go.Abs.C1D

namespace Go.Abs.C1D
open Go Go.Proofs
set_option maxRecDepth 100000
theorem ok4 : FunOk Tryd.prog B 4 c4 := glue L15 all15 plan4 Tryd.func4 (by kernel_rfl) (by
  rintro ⟨⟨⟩, a0, ⟨⟩⟩ y r h
  exact (g4_eq a0).trans ((g4_ok a0 r.2.1).trans h))
end Go.Abs.C1D
