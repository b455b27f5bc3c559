/- Chapter 07: proved is what the rows share; no conditions but those that each theorem states. -/
import Derived.Test.YtmofipnlkfhfpaaRunC
import Derived.Test.YtmofipnlkfhfpaaRows
import Derived.LaidLaws
set_option linter.unusedVariables false
set_option linter.unusedSimpArgs false
/- Chapter 07: the law on valid adverts. -/
namespace Go.Abs.C07
open Go Go.Proofs Sp07
set_option maxRecDepth 100000

theorem inner8 (l0 l : List Ad) (i : Int) (hl : l.length ≤ 100) (h0 : 0 ≤ i) (hi : i < (l.length : Int)) : Loop (g8_s0 (i, l0, ())) ((0 : Int), l, ()) = some (false, (false, ()), l, ()) := by
  refine Loop_inv (fun v : Int × List Ad × Unit => 0 ≤ v.1 ∧ v.1 ≤ (l.length : Int) ∧ v.2.1 = l) (fun v => ((l.length : Int) - v.1).toNat) (fun v => (false, (false, ()), v.2)) ?_ (v := ((0 : Int), l, ())) ⟨by simp, by simp, rfl⟩
  rintro ⟨k, l', ⟨⟩⟩ ⟨h1, h2, h3⟩
  simp only at h1 h2 h3
  subst h3
  have e : IntKind.wrap .i64 (k + 1) = k + 1 := wi64 (by omega) (by omega)
  have b1 : Nat.blt i.toNat l'.length = true := blt_t (by omega)
  unfold g8_s0
  by_cases h4 : k < (l'.length : Int)
  · right
    have b2 : Nat.blt k.toNat l'.length = true := blt_t (by omega)
    refine ⟨(k + 1, l', ()), ?_, ⟨by simp only; omega, by simp only; omega, rfl⟩, by simp only; omega, rfl⟩
    simp only [Int.ofNat_eq_natCast, h4, hi, h0, h1, b1, b2, decide_true, cond_true, Bool.and_self, Bool.not_true, cond_false, e]
  · left
    simp only [Int.ofNat_eq_natCast, h4, decide_false, cond_false]
theorem outer8 (x : Ad) (l : List Ad) (hl : l.length ≤ 100) : Loop (g8_s1 x.1 x.2.1 x.2.2.1 x.2.2.2.1 x.2.2.2.2.1) ((0 : Int), l, ()) = some (false, (false, ()), ()) := by
  refine Loop_inv (fun v : Int × List Ad × Unit => 0 ≤ v.1 ∧ v.1 ≤ (l.length : Int) ∧ v.2.1 = l) (fun v => ((l.length : Int) - v.1).toNat) (fun _ => (false, (false, ()), ())) ?_ (v := ((0 : Int), l, ())) ⟨by simp, by simp, rfl⟩
  rintro ⟨k, l', ⟨⟩⟩ ⟨h1, h2, h3⟩
  simp only at h1 h2 h3
  subst h3
  have e : IntKind.wrap .i64 (k + 1) = k + 1 := wi64 (by omega) (by omega)
  unfold g8_s1
  by_cases h4 : k < (l'.length : Int)
  · have b2 : Nat.blt k.toNat l'.length = true := blt_t (by omega)
    simp only [Int.ofNat_eq_natCast, h4, decide_true, cond_true, Option.bind_some]
    cases Sp07.big (x.1, x.2.1, x.2.2.1, x.2.2.2.1, x.2.2.2.2.1, ()) with
    | true => left; rfl
    | false =>
      right
      refine ⟨(k + 1, l', ()), ?_, ⟨by simp only; omega, by simp only; omega, rfl⟩, by simp only; omega, trivial⟩
      rw [inner8 l' l' k hl h1 h4]
      simp only [h1, h4, b2, e, decide_true, cond_true, cond_false, Bool.and_self, Bool.not_true, Bool.not_false, Option.bind_some]
  · left
    simp only [Int.ofNat_eq_natCast, h4, decide_false, cond_false, Option.bind_some]

/-- An advert of a tape is had whenever the tape is one. -/
theorem adv_wf {t : Tp} {r n : Int} (h : wf t = true) : wf (Sp07.advert t r n).2 = true := by
  have w1 : wf (Sp07.pick t [1, 1, 2, 3, 3, 500000, 1000000]).2 = true := pick_wf h
  have w2 := next_wf (n := 3) w1
  have w3 := (links_wf (r := r) w2 6).1
  have w4 := (claims_wf w3 2).1
  have w5 : wf (plainA t r).2 = true := w4
  have p3 : ∀ (k : Tp) (x y z : List Int), wf k = true → wf (pick3 k x y z).2 = true := fun k x y z hk => pick_wf (l := z) (pick_wf (l := y) (pick_wf (l := x) hk))
  have sp : ∀ (a : Ad) (k : Tp), wf k = true → wf (spoilA a r k).2 = true := by
    intro a k hk
    have g := next_wf (n := 6) hk
    unfold spoilA
    generalize next k 6 = q at g
    simp only
    cases decide (q.1 = 0) with
    | true => exact wild_wf g
    | false =>
    cases decide (q.1 = 1) with
    | true => exact wild_wf g
    | false =>
    cases decide (q.1 = 2) with
    | true => exact p3 _ [0, r, 6, 99, 100] [0, 1, 1000, 1001] [-1, 0, 1000, 1001] g
    | false =>
    cases decide (q.1 = 3) with
    | true => exact p3 _ [-1, 0, 7, 8] [0, 1, 256, 257] [0, 8, 9, 64] g
    | false =>
    cases decide (q.1 = 4) with
    | true => exact g
    | false =>
    cases decide (0 < a.2.2.2.1.length) with
    | true => exact wild_wf g
    | false => exact g
  unfold Sp07.advert
  cases decide (0 < n) with
  | false => exact w5
  | true =>
    have w6 := one_wf (n := n) w5
    simp only [cond_true]
    generalize one (plainA t r).2 n = o at w6
    cases o.1 with
    | true => exact sp _ _ w6
    | false => exact w6
theorem on_range {t : Tp} (h : wf t = true) {a b : Int} (ha : small a = true) (hb : small b = true) : on (wf t && small a && small b) (Sp07.range t a b) = some (Sp07.range t a b) := on_true (by rw [h, ha, hb]; rfl)
theorem on_adv {t : Tp} (h : wf t = true) (r : Int) {n : Int} (hn : inside n 0 1000 = true) : on (wf t && inside n 0 1000) (Sp07.advert t r n) = some (Sp07.advert t r n) := on_true (by rw [h, hn]; rfl)

theorem g8_ok (a0 : (List Int)) (a1 : Int) (a2 : Int) (a3 : Bool) (a4 : (List (Int × (Int × (Int × Unit))))) (a5 : (List (Int × (Int × (Int × Unit))))) (r0 : (Ty.sl (.int .i64)).ok a0) (r1 : IntKind.i64.has a1) (r2 : IntKind.i64.has a2) (r4 : (Ty.sl (rc)).ok a4) (r5 : (Ty.sl (rc)).ok a5) : g8 a0 a1 a2 a3 a4 a5 = some (true, ()) := by
  unfold g8
  have w0 := tape_wf a0
  have w1 := range_wf (a := 1) (b := 6) w0
  have w2 := adv_wf (r := (Sp07.range (Sp07.tape a0) 1 6).1) (n := 2) w1
  have w3 := range_wf (a := 1) (b := 2) w2
  rw [on_range w0 (by decide) (by decide)]
  simp only [Option.bind_some]
  rw [on_adv w1 _ (by decide)]
  simp only [Option.bind_some]
  rw [on_range w2 (by decide) (by decide)]
  simp only [Option.bind_some]
  have w4 := adv_wf (r := (Sp07.range (Sp07.advert (Sp07.range (Sp07.tape a0) 1 6).2 (Sp07.range (Sp07.tape a0) 1 6).1 2).2 1 2).1) (n := 0) w3
  rw [on_adv w3 _ (by decide)]
  simp only [Option.bind_some]
  have w5 := range_wf (a := 1) (b := 2) w4
  rw [on_range w4 (by decide) (by decide)]
  simp only [Option.bind_some]
  rw [on_adv w5 _ (by decide)]
  simp only [Option.bind_some]
  rw [outer8 (a1, a2, a3, a4, a5, ()) _ (by simp only [List.length_cons, List.length_nil]; omega)]
  rfl

theorem ok8 : FunOk Try.prog B 8 c8 := glue L11 all11 plan8 Try.func8 (by kernel_rfl) (by
  rintro ⟨⟨⟩, a0, ⟨a1, a2, a3, a4, a5, ⟨⟩⟩, ⟨⟩⟩ y r h
  exact (g8_eq a0 a1 a2 a3 a4 a5).trans ((g8_ok a0 a1 a2 a3 a4 a5 r.2.1 r.2.2.1.1 r.2.2.1.2.1 r.2.2.1.2.2.2.1 r.2.2.1.2.2.2.2.1).trans h))
end Go.Abs.C07

/- Chapter 07: what the rows share. -/
namespace Go.Proofs.Ytmofipnlkfhfpaa
open Go.ChangeShapes Go.WideShapes Go.ChangeAt Go.RowKit Go.Abs Go.Abs.C07

theorem Try.own : ownKnob Try.prog.godebug = none := by kernel_rfl
theorem Try.laidOut : laidOutB Try.prog = true := by kernel_rfl
/-- The settled world. -/
noncomputable def laidWorld (os : Os) : World := World.holding Try.prog os ⟨#[], #[], []⟩
theorem glob_ok {W : World} : ∀ g k l, (B.glob g) = some (k, l) → l.length ≤ cellN W g ∧ ∀ j (h : j < l.length), W.cell? ⟨g, j, none⟩ = some (.int k l[j]) ∧ k.has l[j] := by
  intro g k l hg
  have hg' : lookG gl g = some (k, l) := hg
  simp only [gl, lookG] at hg'
  cases hg'
end Go.Proofs.Ytmofipnlkfhfpaa
