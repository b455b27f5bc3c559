/- Proved is the tied card of the law ForwardMasks: for every input the law returns true, and each argument reads as it did; the package variable that the row lists holds what the text lays, and the card ties that to the text. -/
import Derived.Test.YtmpfafdaadhabaaDoorRunQ
import Derived.Test.YtmpfafdaadhabaaDoorTie
import Derived.Test.YtmpfafdaadhabaaDoorCards
set_option linter.unusedVariables false
set_option linter.unusedSimpArgs false
namespace Go.Abs.C13
open Go Go.Abs
set_option maxRecDepth 20000
set_option linter.unusedVariables false
noncomputable def g3_s0 (a0 : ((Sp13.Tb × (Sp13.Pk × Unit)) × Sp13.Tp)) (a1 : (Int × Unit)) : (Option (Sum (Int × Unit) (Bool × ((Bool × Unit) × Unit)))) :=
  (bif (decide (a1.1 < (Int.ofNat (Sp13.fwd a0.1.1 a0.1.2.1).1.2.2.1.length))) then (bif ((decide (0 ≤ a1.1)) && (decide (a1.1 < (Int.ofNat (Sp13.fwd a0.1.1 a0.1.2.1).1.2.2.1.length)))) then (bif ((decide (0 ≤ a1.1)) && (decide (a1.1 < (Int.ofNat (Sp13.fwd a0.1.1 a0.1.2.1).1.2.2.1.length)))) then (bif (!(decide ((List.getD (Sp13.fwd a0.1.1 a0.1.2.1).1.2.2.1 (Int.toNat a1.1) (0, (([], ((0, (0, (0, (0, (0, (0, (0, (0, (0, ([], ())))))))))), ())), ()))).2.1.2.1.2.2.2.2.2.2.2.2.1 = (IntKind.wrap .u64 (Int.ofNat (BitVec.toNat (BitVec.and (BitVec.ofInt 64 a0.1.2.1.2.2.2.2.2.2.2.2.1) (BitVec.ofInt 64 (Sp13.maskR a0.1.1 (Sp13.plane a0.1.2.1) a0.1.2.1.2.2.1 (List.getD (Sp13.fwd a0.1.1 a0.1.2.1).1.2.2.1 (Int.toNat a1.1) (0, (([], ((0, (0, (0, (0, (0, (0, (0, (0, (0, ([], ())))))))))), ())), ()))).1))))))))) then (some (.inr (true, ((false, ()), ())))) else (some (.inl ((IntKind.wrap .i64 (a1.1 + 1)), ())))) else none) else none) else (some (.inr (false, ((false, ()), ())))))
noncomputable def g3 (a0 : (List Int)) : (Option (Bool × Unit)) :=
  (Option.bind (Sp13.on (Sp13.wf (Sp13.tape a0)) (((Sp13.fitT (Sp13.tape a0)).1.1, ((Sp13.fitT (Sp13.tape a0)).1.2, ())), (Sp13.fitT (Sp13.tape a0)).2)) (fun y1 => (bif (!(decide ((Sp13.fwd y1.1.1 y1.1.2.1).2.1 = 0))) then (Option.bind (bif (decide ((Sp13.fwd y1.1.1 y1.1.2.1).2.1 = 8)) then (some (true, ())) else (some (false, ()))) (fun y2 => (some y2))) else (Option.bind (Loop (@g3_s0 y1) (0, ())) (fun y2 => (bif y2.1 then (some y2.2.1) else (Option.bind (bif (decide (y1.1.2.1.2.2.2.2.1 = 0)) then (some ((IntKind.wrap .u64 (Int.ofNat (BitVec.toNat (BitVec.and (BitVec.ofInt 64 y1.1.2.1.2.2.2.2.2.2.2.2.1) (BitVec.not (BitVec.ofInt 64 (Sp13.maskR y1.1.1 0 y1.1.2.1.2.2.1 y1.1.1.1))))))), ())) else (some ((IntKind.wrap .u64 (Int.ofNat (BitVec.toNat (BitVec.and (BitVec.ofInt 64 y1.1.2.1.2.2.2.2.2.2.2.2.1) (BitVec.not (BitVec.ofInt 64 (Sp13.reachM y1.1.1 y1.1.2.1.2.2.1))))))), ()))) (fun y3 => (Option.bind (bif (decide ((Sp13.fwd y1.1.1 y1.1.2.1).1.1 = (IntKind.wrap .u64 (Int.ofNat (BitVec.toNat (BitVec.and (BitVec.ofInt 64 y1.1.2.1.2.2.2.2.2.2.2.2.1) (BitVec.ofInt 64 (Sp13.maskR y1.1.1 0 y1.1.2.1.2.2.1 y1.1.1.1)))))))) then (bif (decide ((Sp13.fwd y1.1.1 y1.1.2.1).1.1 = (IntKind.wrap .u64 (Int.ofNat (BitVec.toNat (BitVec.and (BitVec.ofInt 64 y1.1.2.1.2.2.2.2.2.2.2.2.1) (BitVec.ofInt 64 (Sp13.maskR y1.1.1 0 y1.1.2.1.2.2.1 y1.1.1.1)))))))) then (bif (decide ((Sp13.fwd y1.1.1 y1.1.2.1).1.1 = (IntKind.wrap .u64 (Int.ofNat (BitVec.toNat (BitVec.and (BitVec.ofInt 64 y1.1.2.1.2.2.2.2.2.2.2.2.1) (BitVec.ofInt 64 (Sp13.maskR y1.1.1 0 y1.1.2.1.2.2.1 y1.1.1.1)))))))) then (bif (decide ((Sp13.fwd y1.1.1 y1.1.2.1).1.1 = (IntKind.wrap .u64 (Int.ofNat (BitVec.toNat (BitVec.and (BitVec.ofInt 64 y1.1.2.1.2.2.2.2.2.2.2.2.1) (BitVec.ofInt 64 (Sp13.maskR y1.1.1 0 y1.1.2.1.2.2.1 y1.1.1.1)))))))) then (bif (decide ((Sp13.fwd y1.1.1 y1.1.2.1).1.1 = (IntKind.wrap .u64 (Int.ofNat (BitVec.toNat (BitVec.and (BitVec.ofInt 64 y1.1.2.1.2.2.2.2.2.2.2.2.1) (BitVec.ofInt 64 (Sp13.maskR y1.1.1 0 y1.1.2.1.2.2.1 y1.1.1.1)))))))) then (bif (decide ((Sp13.fwd y1.1.1 y1.1.2.1).1.2.1 = y3.1)) then (bif (decide ((Sp13.fwd y1.1.1 y1.1.2.1).1.2.1 = y3.1)) then (some (true, ())) else none) else (bif (!(decide ((Sp13.fwd y1.1.1 y1.1.2.1).1.2.1 = y3.1))) then (some (false, ())) else none)) else none) else none) else none) else none) else (bif (!(decide ((Sp13.fwd y1.1.1 y1.1.2.1).1.1 = (IntKind.wrap .u64 (Int.ofNat (BitVec.toNat (BitVec.and (BitVec.ofInt 64 y1.1.2.1.2.2.2.2.2.2.2.2.1) (BitVec.ofInt 64 (Sp13.maskR y1.1.1 0 y1.1.2.1.2.2.1 y1.1.1.1))))))))) then (bif (!(decide ((Sp13.fwd y1.1.1 y1.1.2.1).1.1 = (IntKind.wrap .u64 (Int.ofNat (BitVec.toNat (BitVec.and (BitVec.ofInt 64 y1.1.2.1.2.2.2.2.2.2.2.2.1) (BitVec.ofInt 64 (Sp13.maskR y1.1.1 0 y1.1.2.1.2.2.1 y1.1.1.1))))))))) then (bif (!(decide ((Sp13.fwd y1.1.1 y1.1.2.1).1.1 = (IntKind.wrap .u64 (Int.ofNat (BitVec.toNat (BitVec.and (BitVec.ofInt 64 y1.1.2.1.2.2.2.2.2.2.2.2.1) (BitVec.ofInt 64 (Sp13.maskR y1.1.1 0 y1.1.2.1.2.2.1 y1.1.1.1))))))))) then (bif (!(decide ((Sp13.fwd y1.1.1 y1.1.2.1).1.1 = (IntKind.wrap .u64 (Int.ofNat (BitVec.toNat (BitVec.and (BitVec.ofInt 64 y1.1.2.1.2.2.2.2.2.2.2.2.1) (BitVec.ofInt 64 (Sp13.maskR y1.1.1 0 y1.1.2.1.2.2.1 y1.1.1.1))))))))) then (some (false, ())) else none) else none) else none) else none)) (fun y4 => (some y4)))))))))))
theorem g3_eq (a0 : (List Int)) : (evF (fun _ _ => Loop) E3 G3 Go.Proofs.Tryd.f3 plan3 c3 ((), (a0, ()))).den = g3 a0 := by kernel_rfl
end Go.Abs.C13

namespace Go.Abs.C13
open Go Go.Proofs Sp13
open Sp13.Bt
set_option maxRecDepth 100000
theorem next_zero {t : Tb} (hT : TabOk t) {x : Rw} (hx : x ∈ t.2.2.2.1) (p : Int) : nextW x p = 0 ↔ x.2.1 = [] := by
  constructor
  · intro h
    by_cases h0 : x.2.1.length = 0
    · exact List.length_eq_zero_iff.1 h0
    · unfold nextW at h
      rw [dF h0] at h
      simp only [cond_false] at h
      have hm := Int.emod_nonneg p (show (x.2.1.length : Int) ≠ 0 by omega)
      have hm2 := Int.emod_lt_of_pos p (show (0 : Int) < (x.2.1.length : Int) by omega)
      have := hT.nx x hx _ (getD_mem (d := 0) (i := (p % (x.2.1.length : Int)).toNat) (by omega))
      omega
  · intro h
    unfold nextW
    rw [h]
    rfl
theorem next_self {t : Tb} (hT : TabOk t) {x : Rw} (hx : x ∈ t.2.2.2.1) (p p' : Int) (h : nextW x p = t.1) : nextW x p' = t.1 := by
  have hr := hT.r
  have hne : x.2.1 ≠ [] := by
    intro h0
    have := (next_zero hT hx p).2 h0
    omega
  have hpos := List.length_pos_iff.2 hne
  unfold nextW at h ⊢
  rw [dF (show ¬ x.2.1.length = 0 by omega)] at h ⊢
  simp only [cond_false] at h ⊢
  have hm := Int.emod_nonneg p (show (x.2.1.length : Int) ≠ 0 by omega)
  have hm2 := Int.emod_lt_of_pos p (show (0 : Int) < (x.2.1.length : Int) by omega)
  have hmem := getD_mem (l := x.2.1) (d := 0) (i := (p % (x.2.1.length : Int)).toNat) (by omega)
  rw [h] at hmem
  have h1 : ¬ 1 < x.2.1.length := by
    intro h1
    have := hT.se x hx
    unfold selfW at this
    rw [dT h1] at this
    simp only [Bool.true_and, List.any_eq_false, decide_eq_true_eq] at this
    exact this _ hmem rfl
  have e : x.2.1.length = 1 := by omega
  rw [e] at h ⊢
  have e1 : ∀ z : Int, (z % ((1 : Nat) : Int)).toNat = 0 := fun z => by
    have : z % ((1 : Nat) : Int) = 0 := Int.emod_one z
    rw [this]; rfl
  rw [e1] at h ⊢
  exact h
theorem hop_zero {t : Tb} (hT : TabOk t) (p p' set len : Int) (i : Nat) (h : hopB t p set len i = 0) : hopB t p' set len i = 0 := by
  by_cases h0 : hopB t p' set len i = 0
  · exact h0
  · have hm := (next_mem h0).1
    have := (next_zero hT hm p).1 h
    exact (next_zero hT hm p').2 this
theorem hop_self {t : Tb} (hT : TabOk t) (p p' set len : Int) (i : Nat) (h : hopB t p set len i = t.1) : hopB t p' set len i = t.1 := by
  have hr := hT.r
  have hm := (next_mem (t := t) (id := (at_ set i len).1) (p := p) (by have h' : nextW (findW t (at_ set i len).1).1 p = t.1 := h; omega)).1
  exact next_self hT hm p p' h
theorem allN_bit {t : Tb} (hT : TabOk t) (hl : vlen t.2.2.1 = true) {set : Int} (hs : 0 ≤ set ∧ set ≤ 31) (i : Nat) (a : Int) : ∀ k, k ≤ 99 →
    (tb ((allN t 0 set k).foldl (fun a m => Bt.or a m.2.1) a) i = true ↔ tb a i = true ∨ (hopB t 0 set t.2.2.1 i ≠ 0 ∧ hopB t 0 set t.2.2.1 i ≤ (k : Int)))
  | 0, _ => by
    have := hopB_in hT 0 set t.2.2.1 i
    show tb a i = true ↔ _
    constructor
    · exact .inl
    · rintro (h | h)
      · exact h
      · omega
  | k + 1, hk => by
    have ih := allN_bit hT hl hs i a k (by omega)
    have hb := maskR_bit hT hl (plane := 0) (by omega) hs (nb := (k : Int) + 1) (by omega) i
    have h0 := hopB_in hT 0 set t.2.2.1 i
    rw [allN]
    by_cases hz : maskR t 0 set ((k : Int) + 1) = 0
    · rw [dT hz]
      simp only [Bool.not_true, cond_false]
      rw [hz, tb_zero] at hb
      have := of_decide_eq_false hb.symm
      rw [ih]
      refine or_congr Iff.rfl ?_
      omega
    · rw [dF hz]
      simp only [Bool.not_false, cond_true, List.foldl_append, List.foldl_cons, List.foldl_nil]
      rw [tb_or, Bool.or_eq_true, ih, hb, decide_eq_true_eq, or_assoc]
      refine or_congr Iff.rfl ?_
      omega
theorem reach_bit {t : Tb} (hT : TabOk t) (hl : vlen t.2.2.1 = true) {set : Int} (hs : 0 ≤ set ∧ set ≤ 31) (i : Nat) : tb (reachM t set) i = !decide (hopB t 0 set t.2.2.1 i = 0) := by
  have h := allN_bit hT hl hs i 0 99 (Nat.le_refl _)
  have h0 := hopB_in hT 0 set t.2.2.1 i
  rw [Bool.eq_iff_iff]
  show tb ((allN t 0 set 99).foldl (fun a m => Bt.or a m.2.1) 0) i = true ↔ _
  rw [h, tb_zero, Bool.not_eq_true', decide_eq_false_iff_not]
  simp only [Bool.false_eq_true, false_or]
  omega
theorem reach_U (t : Tb) (set : Int) : U (reachM t set) := by
  have : ∀ (l : List Mk) (a : Int), U a → (∀ m ∈ l, U m.2.1) → U (l.foldl (fun a m => Bt.or a m.2.1) a) := by
    intro l
    induction l with
    | nil => exact fun a h _ => h
    | cons x r ih => exact fun a h k => ih _ (or_U h (k x List.mem_cons_self)) fun m hm => k m (List.mem_cons_of_mem _ hm)
  exact this _ 0 U0 (allN_U t 0 set 99)
theorem loop3 {y : ((Tb × Pk × Unit) × Tp)} {o : Oc} (h : FwOk y.1.1 y.1.2.1) (hU : U (bt y.1.2.1)) (e : fwd y.1.1 y.1.2.1 = (o, 0, ())) (D : Done y.1.1 y.1.2.1 o) :
    Loop (g3_s0 y) ((0 : Int), ()) = some (false, ((false, ()), ())) := by
  have hlen : o.2.2.1.length ≤ 99 := by
    have h1 : (o.2.2.1.map fun c => c.1).length ≤ ((List.range 99).map fun (n : Nat) => (n : Int) + 1).length := by
      refine D.nd.length_le_of_subset fun x hx => ?_
      obtain ⟨c, hc, rfl⟩ := List.mem_map.1 hx
      have := D.to_in h hc
      exact List.mem_map.2 ⟨(c.1 - 1).toNat, List.mem_range.2 (by omega), by omega⟩
    simpa using h1
  refine Loop_seq (step := g3_s0 y) (fun k => ((k : Int), ())) o.2.2.1.length _ (fun k hk => ?_) ?_ 0 (Nat.zero_le _)
  · have hc := getD_mem (l := o.2.2.1) (d := zC) hk
    have hin := D.to_in h hc
    obtain ⟨g, q1, q2, q3, q4, q5, q6⟩ := D.cps _ hc
    unfold g3_s0
    rw [e]
    simp only [Int.ofNat_eq_natCast, Int.toNat_natCast]
    rw [dT (show (k : Int) < (o.2.2.1.length : Int) by omega), dT (show (0 : Int) ≤ (k : Int) by omega), wi64n (by omega)]
    have e2 : (o.2.2.1.getD k zC).2.1.2.1.2.2.2.2.2.2.2.2.1 = Bt.and (bt y.1.2.1) (maskR y.1.1 (plane y.1.2.1) (Sp13.st y.1.2.1) (o.2.2.1.getD k zC).1) := by
      have e3 : (o.2.2.1.getD k zC).2.1.2.1.2.2.2.2.2.2.2.2.1 = g := by rw [q1]; rfl
      rw [e3]
      refine tb_ext q2 (and_Ul hU _) fun i hi => ?_
      rw [q6 i hi, tb_and, maskR_bit h.T h.l h.pl h.st hin]
    have e4 := wband hU (maskR_U y.1.1 (plane y.1.2.1) (Sp13.st y.1.2.1) (o.2.2.1.getD k zC).1)
    simp only [Int.ofNat_eq_natCast] at e4
    rw [dT (show (o.2.2.1.getD k zC).2.1.2.1.2.2.2.2.2.2.2.2.1 = IntKind.wrap .u64 (((BitVec.and (BitVec.ofInt 64 y.1.2.1.2.2.2.2.2.2.2.2.1) (BitVec.ofInt 64 (maskR y.1.1 (plane y.1.2.1) y.1.2.1.2.2.1 (o.2.2.1.getD k zC).1))).toNat : Nat) : Int) from e2.trans e4.symm)]
    rfl
  · unfold g3_s0
    rw [e]
    simp only [Int.ofNat_eq_natCast]
    rw [dF (show ¬ (o.2.2.1.length : Int) < (o.2.2.1.length : Int) by omega)]
    rfl
theorem g3_ok (a0 : (List Int)) (r0 : (Ty.sl (.int .i64)).ok a0) : g3 a0 = some (true, ()) := by
  unfold g3
  have hw := tape_wf a0
  rw [on_w hw]
  simp only [Option.bind_some]
  obtain ⟨h, hU, hE, -⟩ := fit_ok hw
  generalize fitT (Sp13.tape a0) = r at h hU hE
  obtain ⟨o, e, D⟩ := fwd_done h hU hE
  rw [loop3 (y := ((r.1.1, (r.1.2, ())), r.2)) h hU e D, e]
  rw [dT (show (o, (0 : Int), ()).2.1 = 0 from rfl)]
  simp only [Bool.not_true, cond_false, Option.bind_some]
  have hr := h.T.r
  have hm0 := maskR_U r.1.1 0 (Sp13.st r.1.2) r.1.1.1
  have b0 : ∀ i, tb (maskR r.1.1 0 (Sp13.st r.1.2) r.1.1.1) i = decide (hopB r.1.1 0 (Sp13.st r.1.2) r.1.1.2.2.1 i = r.1.1.1) := fun i => maskR_bit h.T h.l (by omega) h.st hr i
  have eL : o.1 = Bt.and (bt r.1.2) (maskR r.1.1 0 (Sp13.st r.1.2) r.1.1.1) := tb_ext D.uo (and_Ul hU _) fun i hi => by
    rw [D.loc i hi, tb_and, b0]
    have : decide (hp r.1.1 r.1.2 i = r.1.1.1) = decide (hopB r.1.1 0 (Sp13.st r.1.2) r.1.1.2.2.1 i = r.1.1.1) := decide_eq_decide.2 ⟨hop_self h.T _ _ _ _ _, hop_self h.T _ _ _ _ _⟩
    rw [this]
  have eA := wband hU hm0
  rw [dT (show o.1 = IntKind.wrap .u64 (Int.ofNat (BitVec.and (BitVec.ofInt 64 r.1.2.2.2.2.2.2.2.2.2.1) (BitVec.ofInt 64 (maskR r.1.1 0 r.1.2.2.2.1 r.1.1.1))).toNat) from eL.trans eA.symm)]
  simp only [Bool.not_true, cond_true]
  by_cases ht : Sp13.tl r.1.2 = 0
  · rw [dT (show r.1.2.2.2.2.2.1 = 0 from ht)]
    simp only [cond_true, Option.bind_some]
    have eX : o.2.1 = Bt.andn (bt r.1.2) (maskR r.1.1 0 (Sp13.st r.1.2) r.1.1.1) := tb_ext D.us (andn_U hU _) fun i hi => by
      rw [D.lost i hi, tb_andn _ hm0 hi, b0, dT ht]
      have : decide (hp r.1.1 r.1.2 i = r.1.1.1) = decide (hopB r.1.1 0 (Sp13.st r.1.2) r.1.1.2.2.1 i = r.1.1.1) := decide_eq_decide.2 ⟨hop_self h.T _ _ _ _ _, hop_self h.T _ _ _ _ _⟩
      rw [← this]
      by_cases hz : hp r.1.1 r.1.2 i = 0
      · rw [dT hz, dF (show ¬ hp r.1.1 r.1.2 i = r.1.1.1 by omega)]; simp
      · rw [dF hz]; simp
    have eB := wbandn hU hm0
    rw [dT (show o.2.1 = IntKind.wrap .u64 (Int.ofNat (BitVec.and (BitVec.ofInt 64 r.1.2.2.2.2.2.2.2.2.2.1) (BitVec.not (BitVec.ofInt 64 (maskR r.1.1 0 r.1.2.2.2.1 r.1.1.1)))).toNat) from eX.trans eB.symm)]
    rfl
  · rw [dF (show ¬ r.1.2.2.2.2.2.1 = 0 from ht)]
    simp only [cond_false, Option.bind_some]
    have hrU := reach_U r.1.1 (Sp13.st r.1.2)
    have eX : o.2.1 = Bt.andn (bt r.1.2) (reachM r.1.1 (Sp13.st r.1.2)) := tb_ext D.us (andn_U hU _) fun i hi => by
      rw [D.lost i hi, tb_andn _ hrU hi, reach_bit h.T h.l h.st, dF ht]
      have : decide (hp r.1.1 r.1.2 i = 0) = decide (hopB r.1.1 0 (Sp13.st r.1.2) r.1.1.2.2.1 i = 0) := decide_eq_decide.2 ⟨hop_zero h.T _ _ _ _ _, hop_zero h.T _ _ _ _ _⟩
      rw [← this]
      simp
    have eB := wbandn hU hrU
    rw [dT (show o.2.1 = IntKind.wrap .u64 (Int.ofNat (BitVec.and (BitVec.ofInt 64 r.1.2.2.2.2.2.2.2.2.2.1) (BitVec.not (BitVec.ofInt 64 (reachM r.1.1 r.1.2.2.2.1)))).toNat) from eX.trans eB.symm)]
    rfl
end Go.Abs.C13

namespace Go.Abs.C13
open Go Go.Proofs
set_option maxRecDepth 100000
theorem ok3 : FunOk Tryd.prog B 3 c3 := glue L11 all11 plan3 Tryd.func3 (by kernel_rfl) (by
  rintro ⟨⟨⟩, a0, ⟨⟩⟩ y r h
  exact (g3_eq a0).trans ((g3_ok a0 r.2.1).trans h))
end Go.Abs.C13

namespace Go.Proofs.YtmpfafdaadhabaaDoor
open Go.ChangeShapes Go.WideShapes Go.ChangeAt Go.RowKit Go.Abs Go.Abs.C13

set_option maxRecDepth 100000 in
theorem ForwardMasks_lifted (os : Os) (started : os.Started) (H : Type) (enc : TypeId × Value → H) :
    ReturnsInHanded {} Tryd.checked os 3 .any (fun w args => (Rows.forwardMasksSpec.pre enc Tryd.prog Tryd.f3 Rows.forwardMasksRow.domain false w args ∧ laidMet Tryd.prog Rows.forwardMasksRow.laid w) ∧ sizedMet enc Tryd.prog Tryd.f3 (OpenSpec.ofChange Rows.forwardMasksSpec) false w args)
      (Rows.forwardMasksSpec.post enc Tryd.prog Tryd.f3 false true false false) := by
  refine returnsInHanded_of_change_and (C := Tryd.checked) (X := fun w _ => laidMet Tryd.prog Rows.forwardMasksRow.laid w) (fun _ _ _ hh h => h.of_heap hh) Tryd.own started (by kernel_rfl) Tryd.func3
    (ChangeSpec.witness_at (enc := enc) (C := Tryd.checked) (os := os) (X := fun w _ => laidMet Tryd.prog Rows.forwardMasksRow.laid w) false (laidWorld os) #[.slice none 0 0] 8 rfl (by kernel_rfl) (by kernel_rfl) (by kernel_rfl) (by kernel_rfl) (by kernel_rfl) (laid_met os _)) ?_
  intro W base args ds gs before hval hW _ hwt hL _
  exact law_row 8 [.sl (.int .i64)] ok3 rfl Tryd.laidOut (by kernel_rfl) (by kernel_rfl) rfl (by kernel_rfl) (tb := 4) (by kernel_rfl)
    (fun ds hd => by
      match ds, hd with
      | [d1], _ => rfl) (glob_ok hL) hval hW hwt

set_option maxRecDepth 100000 in
theorem ForwardMasks_holds : Rows.ForwardMasksSaid :=
  OpenClaim.holds_of_wide 3 Tryd.f3 rfl rfl rfl rfl rfl rfl rfl ⟨rfl, rfl, rfl, rfl, rfl⟩ rfl rfl rfl rfl rfl (by kernel_rfl) Tryd.func3 (by kernel_rfl)
    (of_decide_eq_true (by kernel_rfl)) (by unfold Func.isWrapper; first | (rw [if_pos (by decide +kernel)]; kernel_rfl) | (rw [if_neg (by decide +kernel)]; exact ⟨rfl, rfl⟩))
    (fun os started H enc _ => ForwardMasks_lifted os started H enc)

set_option maxRecDepth 100000 in
theorem ForwardMasks_card : Rows.ForwardMasksCardSaid :=
  Claim7.holds_tied_plain_at .later [] [.data] true (true, "2a7623a7a1813104f3ae94582018a11af263d4e88501241f85eded4d736cb0d7") false
    ForwardMasks_holds (fun _ h => by cases h) (by kernel_rfl) (fun _ h => by cases h) forwardMasks_row_tie rfl ⟨rfl, rfl⟩ (by kernel_rfl) rfl
    (fun f fn hf hfn => by
      obtain rfl : f = 3 := Option.some.inj ((show Tryd.prog.funcNamed "bitcast/bitcastlaw13.ForwardMasks" = some 3 by kernel_rfl).symm.trans hf) |>.symm
      obtain rfl : fn = Tryd.f3 := (Option.some.inj (Tryd.func3.symm.trans hfn)).symm
      exact ⟨by kernel_rfl, fun j t ht => by
        have : (Tryd.f3.params.toList.all fun t => !Tryd.prog.wantsStandIn t) = true := by kernel_rfl
        have := List.all_eq_true.1 this t (List.mem_of_getElem? (by simpa using ht))
        show Tryd.prog.wantsStandIn t = false
        simpa using this⟩)
    (by kernel_rfl)
end Go.Proofs.YtmpfafdaadhabaaDoor
