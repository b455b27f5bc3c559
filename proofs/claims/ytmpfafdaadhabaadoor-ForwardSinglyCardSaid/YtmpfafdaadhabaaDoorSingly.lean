/- Proved is the tied card of the law ForwardSingly: for every input the law returns true, and each argument reads as it did; the package variable that the row lists holds what the text lays, and the card ties that to the text. -/
import Derived.Test.YtmpfafdaadhabaaDoorRunQ
import Derived.Test.YtmpfafdaadhabaaDoorTie
import Derived.Test.YtmpfafdaadhabaaDoorCards
set_option linter.unusedVariables false
set_option linter.unusedSimpArgs false
namespace Go.Abs.C13
open Go Go.Abs
set_option maxRecDepth 20000
set_option linter.unusedVariables false
noncomputable def g4_s0 (a0 : ((Sp13.Tb × (Sp13.Pk × Unit)) × Sp13.Tp)) (a1 : (Int × Unit)) (a2 : (Int × (Int × Unit))) : (Option (Sum (Int × (Int × Unit)) (Int × Unit))) :=
  (bif (decide (a2.2.1 < (Int.ofNat (Sp13.fwd a0.1.1 a0.1.2.1).1.2.2.1.length))) then (bif ((decide (0 ≤ a2.2.1)) && (decide (a2.2.1 < (Int.ofNat (Sp13.fwd a0.1.1 a0.1.2.1).1.2.2.1.length)))) then (Option.bind (bif (!(decide ((IntKind.wrap .u64 (Int.ofNat (BitVec.toNat (BitVec.and (BitVec.ofInt 64 (List.getD (Sp13.fwd a0.1.1 a0.1.2.1).1.2.2.1 (Int.toNat a2.2.1) (0, (([], ((0, (0, (0, (0, (0, (0, (0, (0, (0, ([], ())))))))))), ())), ()))).2.1.2.1.2.2.2.2.2.2.2.2.1) (BitVec.ofInt 64 (Sp13.Bt.bit1 (List.getD (Sp13.Bt.list a0.1.2.1.2.2.2.2.2.2.2.2.1) (Int.toNat a1.1) 0))))))) = 0))) then (bif ((decide (0 ≤ a2.2.1)) && (decide (a2.2.1 < (Int.ofNat (Sp13.fwd a0.1.1 a0.1.2.1).1.2.2.1.length)))) then (some ((List.getD (Sp13.fwd a0.1.1 a0.1.2.1).1.2.2.1 (Int.toNat a2.2.1) (0, (([], ((0, (0, (0, (0, (0, (0, (0, (0, (0, ([], ())))))))))), ())), ()))).1, ())) else none) else (some (a2.1, ()))) (fun y3 => (some (.inl (y3.1, ((IntKind.wrap .i64 (a2.2.1 + 1)), ())))))) else none) else (some (.inr (a2.1, ()))))
noncomputable def g4_s1 (a0 : ((Sp13.Tb × (Sp13.Pk × Unit)) × Sp13.Tp)) (a1 : (Int × Unit)) : (Option (Sum (Int × Unit) (Bool × ((Bool × Unit) × Unit)))) :=
  (bif (decide (a1.1 < (Int.ofNat (Sp13.Bt.list a0.1.2.1.2.2.2.2.2.2.2.2.1).length))) then (bif ((decide (0 ≤ a1.1)) && (decide (a1.1 < (Int.ofNat (Sp13.Bt.list a0.1.2.1.2.2.2.2.2.2.2.2.1).length)))) then (bif ((decide (0 ≤ a1.1)) && (decide (a1.1 < (Int.ofNat (Sp13.Bt.list a0.1.2.1.2.2.2.2.2.2.2.2.1).length)))) then (Option.bind (bif (!(!(decide ((Sp13.fwd a0.1.1 (Sp13.only a0.1.2.1 (List.getD (Sp13.Bt.list a0.1.2.1.2.2.2.2.2.2.2.2.1) (Int.toNat a1.1) 0))).2.1 = 0)))) then (bif (!(!(decide ((Sp13.fwd a0.1.1 (Sp13.only a0.1.2.1 (List.getD (Sp13.Bt.list a0.1.2.1.2.2.2.2.2.2.2.2.1) (Int.toNat a1.1) 0))).1.1 = (IntKind.wrap .u64 (Int.ofNat (BitVec.toNat (BitVec.and (BitVec.ofInt 64 (Sp13.fwd a0.1.1 a0.1.2.1).1.1) (BitVec.ofInt 64 (Sp13.Bt.bit1 (List.getD (Sp13.Bt.list a0.1.2.1.2.2.2.2.2.2.2.2.1) (Int.toNat a1.1) 0))))))))))) then (some ((!(decide ((Sp13.fwd a0.1.1 (Sp13.only a0.1.2.1 (List.getD (Sp13.Bt.list a0.1.2.1.2.2.2.2.2.2.2.2.1) (Int.toNat a1.1) 0))).1.2.1 = (IntKind.wrap .u64 (Int.ofNat (BitVec.toNat (BitVec.and (BitVec.ofInt 64 (Sp13.fwd a0.1.1 a0.1.2.1).1.2.1) (BitVec.ofInt 64 (Sp13.Bt.bit1 (List.getD (Sp13.Bt.list a0.1.2.1.2.2.2.2.2.2.2.2.1) (Int.toNat a1.1) 0)))))))))), ())) else (some (true, ()))) else (some (true, ()))) (fun y2 => (bif y2.1 then (some (.inr (true, ((false, ()), ())))) else (Option.bind (Loop (@g4_s0 a0 a1) (0, (0, ()))) (fun y3 => (Option.bind (bif (decide (y3.1 = 0)) then (bif (!(!(decide ((Int.ofNat (Sp13.fwd a0.1.1 (Sp13.only a0.1.2.1 (List.getD (Sp13.Bt.list a0.1.2.1.2.2.2.2.2.2.2.2.1) (Int.toNat a1.1) 0))).1.2.2.1.length) = 0)))) then (bif (!(decide (y3.1 = 0))) then (bif (!(!(decide ((Int.ofNat (Sp13.fwd a0.1.1 (Sp13.only a0.1.2.1 (List.getD (Sp13.Bt.list a0.1.2.1.2.2.2.2.2.2.2.2.1) (Int.toNat a1.1) 0))).1.2.2.1.length) = 1)))) then (bif (true && (decide (0 < (Int.ofNat (Sp13.fwd a0.1.1 (Sp13.only a0.1.2.1 (List.getD (Sp13.Bt.list a0.1.2.1.2.2.2.2.2.2.2.2.1) (Int.toNat a1.1) 0))).1.2.2.1.length)))) then (bif (!(!(decide ((List.getD (Sp13.fwd a0.1.1 (Sp13.only a0.1.2.1 (List.getD (Sp13.Bt.list a0.1.2.1.2.2.2.2.2.2.2.2.1) (Int.toNat a1.1) 0))).1.2.2.1 0 (0, (([], ((0, (0, (0, (0, (0, (0, (0, (0, (0, ([], ())))))))))), ())), ()))).1 = y3.1)))) then (bif (true && (decide (0 < (Int.ofNat (Sp13.fwd a0.1.1 (Sp13.only a0.1.2.1 (List.getD (Sp13.Bt.list a0.1.2.1.2.2.2.2.2.2.2.2.1) (Int.toNat a1.1) 0))).1.2.2.1.length)))) then (some ((!(decide ((List.getD (Sp13.fwd a0.1.1 (Sp13.only a0.1.2.1 (List.getD (Sp13.Bt.list a0.1.2.1.2.2.2.2.2.2.2.2.1) (Int.toNat a1.1) 0))).1.2.2.1 0 (0, (([], ((0, (0, (0, (0, (0, (0, (0, (0, (0, ([], ())))))))))), ())), ()))).2.1.2.1.2.2.2.2.2.2.2.2.1 = (Sp13.Bt.bit1 (List.getD (Sp13.Bt.list a0.1.2.1.2.2.2.2.2.2.2.2.1) (Int.toNat a1.1) 0))))), ())) else none) else (some (true, ()))) else none) else (some (true, ()))) else (some (false, ()))) else (some (true, ()))) else (bif (!(decide (y3.1 = 0))) then (bif (!(!(decide ((Int.ofNat (Sp13.fwd a0.1.1 (Sp13.only a0.1.2.1 (List.getD (Sp13.Bt.list a0.1.2.1.2.2.2.2.2.2.2.2.1) (Int.toNat a1.1) 0))).1.2.2.1.length) = 1)))) then (bif (true && (decide (0 < (Int.ofNat (Sp13.fwd a0.1.1 (Sp13.only a0.1.2.1 (List.getD (Sp13.Bt.list a0.1.2.1.2.2.2.2.2.2.2.2.1) (Int.toNat a1.1) 0))).1.2.2.1.length)))) then (bif (!(!(decide ((List.getD (Sp13.fwd a0.1.1 (Sp13.only a0.1.2.1 (List.getD (Sp13.Bt.list a0.1.2.1.2.2.2.2.2.2.2.2.1) (Int.toNat a1.1) 0))).1.2.2.1 0 (0, (([], ((0, (0, (0, (0, (0, (0, (0, (0, (0, ([], ())))))))))), ())), ()))).1 = y3.1)))) then (bif (true && (decide (0 < (Int.ofNat (Sp13.fwd a0.1.1 (Sp13.only a0.1.2.1 (List.getD (Sp13.Bt.list a0.1.2.1.2.2.2.2.2.2.2.2.1) (Int.toNat a1.1) 0))).1.2.2.1.length)))) then (some ((!(decide ((List.getD (Sp13.fwd a0.1.1 (Sp13.only a0.1.2.1 (List.getD (Sp13.Bt.list a0.1.2.1.2.2.2.2.2.2.2.2.1) (Int.toNat a1.1) 0))).1.2.2.1 0 (0, (([], ((0, (0, (0, (0, (0, (0, (0, (0, (0, ([], ())))))))))), ())), ()))).2.1.2.1.2.2.2.2.2.2.2.2.1 = (Sp13.Bt.bit1 (List.getD (Sp13.Bt.list a0.1.2.1.2.2.2.2.2.2.2.2.1) (Int.toNat a1.1) 0))))), ())) else none) else (some (true, ()))) else none) else (some (true, ()))) else (some (false, ())))) (fun y4 => (bif y4.1 then (some (.inr (true, ((false, ()), ())))) else (some (.inl ((IntKind.wrap .i64 (a1.1 + 1)), ()))))))))))) else none) else none) else (some (.inr (false, ((false, ()), ())))))
noncomputable def g4 (a0 : (List Int)) : (Option (Bool × Unit)) :=
  (Option.bind (Sp13.on (Sp13.wf (Sp13.tape a0)) (((Sp13.fitT (Sp13.tape a0)).1.1, ((Sp13.fitT (Sp13.tape a0)).1.2, ())), (Sp13.fitT (Sp13.tape a0)).2)) (fun y1 => (bif (!(decide ((Sp13.fwd y1.1.1 y1.1.2.1).2.1 = 0))) then (Option.bind (bif (decide ((Sp13.fwd y1.1.1 y1.1.2.1).2.1 = 8)) then (some (true, ())) else (some (false, ()))) (fun y2 => (some y2))) else (Option.bind (Loop (@g4_s1 y1) (0, ())) (fun y2 => (bif y2.1 then (some y2.2.1) else (some (true, ()))))))))
theorem g4_eq (a0 : (List Int)) : (evF (fun _ _ => Loop) E4 G4 Go.Proofs.Tryd.f4 plan4 c4 ((), (a0, ()))).den = g4 a0 := by kernel_rfl
end Go.Abs.C13

namespace Go.Abs.C13
open Go Go.Proofs Sp13
open Sp13.Bt
set_option maxRecDepth 100000
theorem fold_to (P : Cp → Bool) (v : Int) : ∀ (l : List Cp) (a : Int), (∀ c ∈ l, P c = true → c.1 = v) → l.foldl (fun a c => bif P c then c.1 else a) a = bif l.any P then v else a
  | [], _, _ => rfl
  | c :: r, a, h => by
    rw [List.foldl_cons, fold_to P v r _ fun x hx => h x (List.mem_cons_of_mem _ hx), List.any_cons]
    cases hp : P c with
    | true =>
      rw [h c List.mem_cons_self hp]
      cases r.any P <;> rfl
    | false => rfl
theorem and_bit {x : Int} (hx : U x) {k : Nat} (hk : k < 64) : decide (Bt.and x (bit1 (k : Int)) = 0) = !tb x k := by
  cases hb : tb x k with
  | true =>
    refine decide_eq_false fun h => ?_
    have : tb (Bt.and x (bit1 (k : Int))) k = true := by rw [tb_and, tb_bit1 hk, hb, dT rfl]; rfl
    rw [h, tb_zero] at this
    cases this
  | false =>
    refine decide_eq_true (tb_ext (and_Ul hx _) U0 fun i hi => ?_)
    rw [tb_and, tb_bit1 hk, tb_zero]
    by_cases h : k = i
    · subst h; rw [hb]; rfl
    · rw [dF h]; simp
def toB (o : Oc) (k : Nat) (j : Nat) : Int := (o.2.2.1.take j).foldl (fun a c => bif tb (bc c) k then c.1 else a) 0
theorem only_ok {t : Tb} {p : Pk} (h : FwOk t p) (hU : U (bt p)) (hE : fwdE t p = 0) {k : Nat} (hk : k < 64) (hb : tb (bt p) k = true) :
    FwOk t (only p (k : Int)) ∧ bt (only p (k : Int)) = bit1 (k : Int) ∧ fwdE t (only p (k : Int)) = 0 ∧ Sp13.tl (only p (k : Int)) = Sp13.tl p ∧ (∀ i, hp t (only p (k : Int)) i = hp t p i) ∧ pkB (only p (k : Int)) = pkB p := by
  have e : only p (k : Int) = (md p, sd p, Sp13.st p, ln p, Sp13.tl p, en p, ig p, pr p, bit1 (k : Int), py p, ()) := by
    unfold only
    rw [h.k, has_tb hk, hb]
    rfl
  obtain ⟨f1, f2, f3, f4, f5, f6, f7, f8, f9⟩ := fit_iff.1 h.k
  have hle : bit1 (k : Int) ≤ bt p := le_of_sub (bit1_U _) hU fun i hi h1 => by
    rw [tb_bit1 hk, decide_eq_true_eq] at h1
    subst h1; exact hb
  have hv : validK (only p (k : Int)) = true := by
    rw [e]
    exact fit_iff.2 ⟨f1, f2, f3, ⟨f4.1, Int.lt_of_le_of_lt hle f4.2⟩, f5, f6, f7, f8, f9⟩
  have hpl : plane (only p (k : Int)) = plane p := by
    unfold plane
    rw [hv, h.k, e]
    rfl
  refine ⟨⟨h.T, hv, ?_⟩, by rw [e]; rfl, ?_, by rw [e]; rfl, fun i => ?_, by rw [e]; rfl⟩
  · rw [h.n, e]; rfl
  · unfold fwdE at hE ⊢
    rw [h.k] at hE
    rw [hv, e]
    exact hE
  · show hopB t (plane _) (Sp13.st _) _ _ = hopB t (plane _) (Sp13.st _) _ _
    rw [hpl, e]
    rfl
structure One (t : Tb) (p : Pk) (o x : Oc) (k : Nat) (v : Int) : Prop where
  l : x.1 = Bt.and o.1 (bit1 (k : Int))
  s : x.2.1 = Bt.and o.2.1 (bit1 (k : Int))
  t : toB o k o.2.2.1.length = v
  z : v = 0 → x.2.2.1 = []
  c : v ≠ 0 → x.2.2.1.length = 1 ∧ (x.2.2.1.getD 0 zC).1 = v ∧ bc (x.2.2.1.getD 0 zC) = bit1 (k : Int)
theorem one_ok {t : Tb} {p : Pk} {o x : Oc} {k : Nat} (h : FwOk t p) (hU : U (bt p)) (hE : fwdE t p = 0) (hk : k < 64) (hb : tb (bt p) k = true) (D : Done t p o) (D1 : Done t (only p (k : Int)) x) : ∃ v, One t p o x k v := by
  obtain ⟨h1, e1, -, e3, e4, -⟩ := only_ok h hU hE hk hb
  have bitb : ∀ i, tb (bt (only p (k : Int))) i = decide (k = i) := fun i => by rw [e1, tb_bit1 hk]
  have hl : x.1 = Bt.and o.1 (bit1 (k : Int)) := tb_ext D1.uo (and_Ul D.uo _) fun i hi => by
    rw [D1.loc i hi, tb_and, D.loc i hi, tb_bit1 hk, bitb, e4]
    by_cases hki : k = i
    · subst hki; rw [dT rfl, hb]; simp
    · rw [dF hki]; simp
  have hs : x.2.1 = Bt.and o.2.1 (bit1 (k : Int)) := tb_ext D1.us (and_Ul D.us _) fun i hi => by
    rw [D1.lost i hi, tb_and, D.lost i hi, tb_bit1 hk, bitb, e4, e3]
    by_cases hki : k = i
    · subst hki; rw [dT rfl, hb]; simp
    · rw [dF hki]; simp
  have hall : ∀ c ∈ o.2.2.1, tb (bc c) k = true → c.1 = hp t p k := fun c hc hbb => by
    rw [(D.bit hc).2.2 k hk, Bool.and_eq_true, decide_eq_true_eq] at hbb
    exact hbb.2.symm
  have hto : toB o k o.2.2.1.length = bif o.2.2.1.any (fun c => tb (bc c) k) then hp t p k else 0 := by
    unfold toB
    rw [List.take_length]
    exact fold_to _ _ _ _ hall
  have xone : ∀ c ∈ x.2.2.1, c.1 = hp t p k ∧ c.1 ≠ 0 ∧ c.1 ≠ t.1 := fun c hc => by
    obtain ⟨g, q1, q2, q3, q4, q5, q6⟩ := D1.cps c hc
    obtain ⟨i, hi, hbi⟩ := bit_some q2 q3
    rw [q6 i hi, bitb, e4, Bool.and_eq_true, decide_eq_true_eq, decide_eq_true_eq] at hbi
    obtain ⟨h2, h3⟩ := hbi
    subst h2
    exact ⟨h3.symm, q4, q5⟩
  by_cases hg : hp t p k ≠ 0 ∧ hp t p k ≠ t.1 ∧ Sp13.tl p ≠ 0
  · obtain ⟨g1, g2, g3⟩ := hg
    refine ⟨hp t p k, hl, hs, ?_, fun hz => absurd hz g1, fun _ => ?_⟩
    · obtain ⟨c, hc, e⟩ := D.all g3 k hk hb g1 g2
      have : o.2.2.1.any (fun c => tb (bc c) k) = true := List.any_eq_true.2 ⟨c, hc, by rw [(D.bit hc).2.2 k hk, hb, dT e.symm]; rfl⟩
      rw [hto, this]
      rfl
    · obtain ⟨c, hc, e⟩ := D1.all (by rw [e3]; exact g3) k hk (by rw [bitb, dT rfl]) (by rw [e4]; exact g1) (by rw [e4]; exact g2)
      have hlen : x.2.2.1.length = 1 := by
        have hpos := List.length_pos_iff.2 (List.ne_nil_of_mem hc)
        by_cases h2 : 1 < x.2.2.1.length
        · have := D1.to_ne (j := 0) (k := 1) (by omega) h2
          rw [(xone _ (getD_mem (d := zC) (i := 0) (by omega))).1, (xone _ (getD_mem (d := zC) (i := 1) (by omega))).1] at this
          exact absurd rfl this
        · omega
      have hm := getD_mem (l := x.2.2.1) (d := zC) (i := 0) (by omega)
      refine ⟨hlen, (xone _ hm).1, ?_⟩
      obtain ⟨b1, b2, b3⟩ := D1.bit hm
      refine tb_ext b1 (bit1_U _) fun i hi => ?_
      rw [b3 i hi, bitb, e4, (xone _ hm).1, tb_bit1 hk]
      by_cases hki : k = i
      · subst hki; rw [dT rfl, dT rfl]; rfl
      · rw [dF hki]; simp
  · refine ⟨0, hl, hs, ?_, fun _ => ?_, fun h0 => absurd rfl h0⟩
    · rw [hto]
      cases ha : o.2.2.1.any (fun c => tb (bc c) k) with
      | false => rfl
      | true =>
        obtain ⟨c, hc, hbc⟩ := List.any_eq_true.1 ha
        obtain ⟨g, q1, q2, q3, q4, q5, q6⟩ := D.cps c hc
        have := hall c hc hbc
        exact absurd ⟨this ▸ q4, this ▸ q5, D.tt (List.ne_nil_of_mem hc)⟩ hg
    · cases hx : x.2.2.1 with
      | nil => rfl
      | cons c r =>
        have hc : c ∈ x.2.2.1 := by rw [hx]; exact List.mem_cons_self
        obtain ⟨q1, q2, q3⟩ := xone c hc
        have := D1.tt (List.ne_nil_of_mem hc)
        rw [e3] at this
        exact absurd ⟨q1 ▸ q2, q1 ▸ q3, this⟩ hg
theorem loop4in {y : ((Tb × Pk × Unit) × Tp)} {o : Oc} (h : FwOk y.1.1 y.1.2.1) (e : fwd y.1.1 y.1.2.1 = (o, 0, ())) (D : Done y.1.1 y.1.2.1 o) (i k : Nat) (hk : k < 64) (hi : (list (bt y.1.2.1)).getD i 0 = (k : Int)) :
    Loop (g4_s0 y ((i : Int), ())) ((0 : Int), ((0 : Int), ())) = some (toB o k o.2.2.1.length, ()) := by
  have hlen := D.len h
  refine Loop_seq (step := g4_s0 y ((i : Int), ())) (fun j => (toB o k j, ((j : Int), ()))) o.2.2.1.length _ (fun j hj => ?_) ?_ 0 (Nat.zero_le _)
  · have hc := getD_mem (l := o.2.2.1) (d := zC) hj
    obtain ⟨b1, b2, b3⟩ := D.bit hc
    have e1 : toB o k (j + 1) = bif tb (bc (o.2.2.1.getD j zC)) k then (o.2.2.1.getD j zC).1 else toB o k j := fold_take _ 0 o.2.2.1 zC j hj
    rw [e1]
    generalize toB o k j = A
    have hi' : List.getD (Sp13.Bt.list y.1.2.1.2.2.2.2.2.2.2.2.1) (Int.toNat (i : Int)) 0 = (k : Int) := hi
    have hand : IntKind.wrap .u64 (Int.ofNat (BitVec.and (BitVec.ofInt 64 (o.2.2.1.getD (Int.toNat (j : Int)) zC).2.1.2.1.2.2.2.2.2.2.2.2.1) (BitVec.ofInt 64 (bit1 (k : Int)))).toNat) = Bt.and (bc (o.2.2.1.getD j zC)) (bit1 (k : Int)) := wband b1 (bit1_U _)
    unfold g4_s0
    rw [e]
    rw [hi', hand, and_bit b1 hk, dT (show (j : Int) < Int.ofNat o.2.2.1.length by rw [Int.ofNat_eq_natCast]; omega), dT (show (0 : Int) ≤ (j : Int) by omega), wi64n (by omega)]
    cases tb (bc (o.2.2.1.getD j zC)) k <;> rfl
  · unfold g4_s0
    rw [e]
    simp only [Int.ofNat_eq_natCast]
    rw [dF (show ¬ (o.2.2.1.length : Int) < (o.2.2.1.length : Int) by omega)]
    rfl
theorem loop4 {y : ((Tb × Pk × Unit) × Tp)} {o : Oc} (h : FwOk y.1.1 y.1.2.1) (hU : U (bt y.1.2.1)) (hE : fwdE y.1.1 y.1.2.1 = 0) (e : fwd y.1.1 y.1.2.1 = (o, 0, ())) (D : Done y.1.1 y.1.2.1 o) :
    Loop (g4_s1 y) ((0 : Int), ()) = some (false, ((false, ()), ())) := by
  have hlen := ones_len (bt y.1.2.1)
  have hl2 := list_len (bt y.1.2.1)
  refine Loop_seq (step := g4_s1 y) (fun k => ((k : Int), ())) (list (bt y.1.2.1)).length _ (fun i hi => ?_) ?_ 0 (Nat.zero_le _)
  · obtain ⟨k, hik, hk, hb⟩ : ∃ k : Nat, (list (bt y.1.2.1)).getD i 0 = (k : Int) ∧ k < 64 ∧ tb (bt y.1.2.1) k = true := by
      have hm := ones_mem.1 (getD_mem (l := ones (bt y.1.2.1)) (d := 0) (i := i) (by omega))
      exact ⟨_, list_get (bt y.1.2.1) i (by omega), hm.1, hm.2⟩
    obtain ⟨h1, e1, hE1, -, -, -⟩ := only_ok h hU hE hk hb
    obtain ⟨x, ex, D1⟩ := fwd_done h1 (by rw [e1]; exact bit1_U _) hE1
    obtain ⟨v, R⟩ := one_ok h hU hE hk hb D D1
    have hin := loop4in h e D i k hk hik
    have hi' : List.getD (Sp13.Bt.list y.1.2.1.2.2.2.2.2.2.2.2.1) (Int.toNat (i : Int)) 0 = (k : Int) := hik
    have hi2 : i < (Sp13.Bt.list y.1.2.1.2.2.2.2.2.2.2.2.1).length := hi
    have hA : x.1 = IntKind.wrap .u64 (Int.ofNat (BitVec.and (BitVec.ofInt 64 o.1) (BitVec.ofInt 64 (bit1 (k : Int)))).toNat) := R.l.trans (wband D.uo (bit1_U _)).symm
    have hB : x.2.1 = IntKind.wrap .u64 (Int.ofNat (BitVec.and (BitVec.ofInt 64 o.2.1) (BitVec.ofInt 64 (bit1 (k : Int)))).toNat) := R.s.trans (wband D.us (bit1_U _)).symm
    unfold g4_s1
    rw [e]
    rw [hi', ex, dT (show (i : Int) < Int.ofNat (Sp13.Bt.list y.1.2.1.2.2.2.2.2.2.2.2.1).length by rw [Int.ofNat_eq_natCast]; omega), dT (show (0 : Int) ≤ (i : Int) by omega), dT (show (x, (0 : Int), ()).2.1 = 0 from rfl), dT hA, dT hB, hin, R.t, wi64n (by omega)]
    simp only [Bool.and_self, Bool.not_true, Bool.not_false, cond_true, cond_false, Option.bind_some]
    by_cases hv : v = 0
    · rw [dT hv, R.z hv]
      rfl
    · obtain ⟨c1, c2, c3⟩ := R.c hv
      have c3 : (x.2.2.1.getD 0 zC).2.1.2.1.2.2.2.2.2.2.2.2.1 = bit1 (k : Int) := c3
      rw [dF hv, dT (show Int.ofNat x.2.2.1.length = 1 by rw [c1]; rfl), dT (show (0 : Int) < Int.ofNat x.2.2.1.length by rw [c1]; decide), dT c2, dT c3]
      rfl
  · unfold g4_s1
    simp only [Int.ofNat_eq_natCast]
    rw [dF (show ¬ ((list (bt y.1.2.1)).length : Int) < ((Sp13.Bt.list y.1.2.1.2.2.2.2.2.2.2.2.1).length : Int) from Int.lt_irrefl _)]
    rfl
theorem g4_ok (a0 : (List Int)) (r0 : (Ty.sl (.int .i64)).ok a0) : g4 a0 = some (true, ()) := by
  unfold g4
  have hw := tape_wf a0
  rw [on_w hw]
  simp only [Option.bind_some]
  obtain ⟨h, hU, hE, -⟩ := fit_ok hw
  generalize fitT (Sp13.tape a0) = r at h hU hE
  obtain ⟨o, e, D⟩ := fwd_done h hU hE
  rw [loop4 (y := ((r.1.1, (r.1.2, ())), r.2)) h hU hE e D, e]
  rw [dT (show (o, (0 : Int), ()).2.1 = 0 from rfl)]
  rfl
end Go.Abs.C13

namespace Go.Abs.C13
open Go Go.Proofs
set_option maxRecDepth 100000
theorem ok4 : FunOk Tryd.prog B 4 c4 := glue L11 all11 plan4 Tryd.func4 (by kernel_rfl) (by
  rintro ⟨⟨⟩, a0, ⟨⟩⟩ y r h
  exact (g4_eq a0).trans ((g4_ok a0 r.2.1).trans h))
end Go.Abs.C13

namespace Go.Proofs.YtmpfafdaadhabaaDoor
open Go.ChangeShapes Go.WideShapes Go.ChangeAt Go.RowKit Go.Abs Go.Abs.C13

set_option maxRecDepth 100000 in
theorem ForwardSingly_lifted (os : Os) (started : os.Started) (H : Type) (enc : TypeId × Value → H) :
    ReturnsInHanded {} Tryd.checked os 4 .any (fun w args => (Rows.forwardSinglySpec.pre enc Tryd.prog Tryd.f4 Rows.forwardSinglyRow.domain false w args ∧ laidMet Tryd.prog Rows.forwardSinglyRow.laid w) ∧ sizedMet enc Tryd.prog Tryd.f4 (OpenSpec.ofChange Rows.forwardSinglySpec) false w args)
      (Rows.forwardSinglySpec.post enc Tryd.prog Tryd.f4 false true false false) := by
  refine returnsInHanded_of_change_and (C := Tryd.checked) (X := fun w _ => laidMet Tryd.prog Rows.forwardSinglyRow.laid w) (fun _ _ _ hh h => h.of_heap hh) Tryd.own started (by kernel_rfl) Tryd.func4
    (ChangeSpec.witness_at (enc := enc) (C := Tryd.checked) (os := os) (X := fun w _ => laidMet Tryd.prog Rows.forwardSinglyRow.laid w) false (laidWorld os) #[.slice none 0 0] 8 rfl (by kernel_rfl) (by kernel_rfl) (by kernel_rfl) (by kernel_rfl) (by kernel_rfl) (laid_met os _)) ?_
  intro W base args ds gs before hval hW _ hwt hL _
  exact law_row 8 [.sl (.int .i64)] ok4 rfl Tryd.laidOut (by kernel_rfl) (by kernel_rfl) rfl (by kernel_rfl) (tb := 4) (by kernel_rfl)
    (fun ds hd => by
      match ds, hd with
      | [d1], _ => rfl) (glob_ok hL) hval hW hwt

set_option maxRecDepth 100000 in
theorem ForwardSingly_holds : Rows.ForwardSinglySaid :=
  OpenClaim.holds_of_wide 4 Tryd.f4 rfl rfl rfl rfl rfl rfl rfl ⟨rfl, rfl, rfl, rfl, rfl⟩ rfl rfl rfl rfl rfl (by kernel_rfl) Tryd.func4 (by kernel_rfl)
    (of_decide_eq_true (by kernel_rfl)) (by unfold Func.isWrapper; first | (rw [if_pos (by decide +kernel)]; kernel_rfl) | (rw [if_neg (by decide +kernel)]; exact ⟨rfl, rfl⟩))
    (fun os started H enc _ => ForwardSingly_lifted os started H enc)

set_option maxRecDepth 100000 in
theorem ForwardSingly_card : Rows.ForwardSinglyCardSaid :=
  Claim7.holds_tied_plain_at .later [] [.data] true (true, "2a7623a7a1813104f3ae94582018a11af263d4e88501241f85eded4d736cb0d7") false
    ForwardSingly_holds (fun _ h => by cases h) (by kernel_rfl) (fun _ h => by cases h) forwardSingly_row_tie rfl ⟨rfl, rfl⟩ (by kernel_rfl) rfl
    (fun f fn hf hfn => by
      obtain rfl : f = 4 := Option.some.inj ((show Tryd.prog.funcNamed "bitcast/bitcastlaw13.ForwardSingly" = some 4 by kernel_rfl).symm.trans hf) |>.symm
      obtain rfl : fn = Tryd.f4 := (Option.some.inj (Tryd.func4.symm.trans hfn)).symm
      exact ⟨by kernel_rfl, fun j t ht => by
        have : (Tryd.f4.params.toList.all fun t => !Tryd.prog.wantsStandIn t) = true := by kernel_rfl
        have := List.all_eq_true.1 this t (List.mem_of_getElem? (by simpa using ht))
        show Tryd.prog.wantsStandIn t = false
        simpa using this⟩)
    (by kernel_rfl)
end Go.Proofs.YtmpfafdaadhabaaDoor
