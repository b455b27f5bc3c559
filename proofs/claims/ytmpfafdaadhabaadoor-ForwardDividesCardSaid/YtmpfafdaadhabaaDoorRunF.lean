/- Chapter 13 (forward): proved is that functions that the laws reach keep their contracts (all of them); no conditions but those that each theorem states. -/
import Derived.Test.YtmpfafdaadhabaaDoorRunE
set_option linter.unusedVariables false
set_option linter.unusedSimpArgs false
namespace Go.Abs.C13
open Go Go.Proofs Sp13
open Sp13.Bt
set_option maxRecDepth 100000
structure Done (t : Tb) (p : Pk) (o : Oc) : Prop where
  uo : U o.1
  us : U o.2.1
  loc : ∀ i, i < 64 → tb o.1 i = (tb (bt p) i && decide (hp t p i = t.1))
  lost : ∀ i, i < 64 → tb o.2.1 i = (tb (bt p) i && (decide (hp t p i = 0) || (decide (Sp13.tl p = 0) && !decide (hp t p i = t.1))))
  cps : ∀ c ∈ o.2.2.1, ∃ g, c = (c.1, ([], pkB p g, ()), ()) ∧ U g ∧ g ≠ 0 ∧ c.1 ≠ 0 ∧ c.1 ≠ t.1 ∧ ∀ i, i < 64 → tb g i = (tb (bt p) i && decide (hp t p i = c.1))
  all : Sp13.tl p ≠ 0 → ∀ i, i < 64 → tb (bt p) i = true → hp t p i ≠ 0 → hp t p i ≠ t.1 → ∃ c ∈ o.2.2.1, c.1 = hp t p i
  nd : (o.2.2.1.map fun c => c.1).Nodup
  tt : o.2.2.1 ≠ [] → Sp13.tl p ≠ 0
theorem fwd_done {t : Tb} {p : Pk} (h : FwOk t p) (hU : U (bt p)) (hE : fwdE t p = 0) : ∃ o, fwd t p = (o, 0, ()) ∧ Done t p o := by
  refine ⟨fwd0 t p, by unfold fwd; rw [hE]; rfl, ?_⟩
  have hI := fwd_inv h hU
  refine ⟨hI.uo, hI.us, fun i hi => ?_, fun i hi => ?_, fun c hc => ?_, fun ht i hi b n0 nr => hI.all ht i hi b (tb_zero i) n0 nr, hI.nd, hI.tt⟩
  · have := hI.loc i hi
    simp only [tb_zero, Bool.not_false, Bool.and_true] at this
    exact this
  · have := hI.lost i hi
    simp only [tb_zero, Bool.not_false, Bool.and_true] at this
    exact this
  · obtain ⟨g, q1, q2, q3, q4, q5, q6, -⟩ := hI.cps c hc
    exact ⟨g, q1, q2, q3, q4, q5, q6⟩
theorem bit_some {x : Int} (hx : U x) (h : x ≠ 0) : ∃ i, i < 64 ∧ tb x i = true := by
  obtain ⟨k, -, hk, hb⟩ := nth_low hx h
  exact ⟨k, hk, hb⟩
theorem Done.to_in {t : Tb} {p : Pk} {o : Oc} (h : FwOk t p) (D : Done t p o) {c : Cp} (hc : c ∈ o.2.2.1) : 1 ≤ c.1 ∧ c.1 ≤ 99 := by
  obtain ⟨g, q1, q2, q3, q4, q5, q6⟩ := D.cps c hc
  obtain ⟨i, hi, hb⟩ := bit_some q2 q3
  rw [q6 i hi, Bool.and_eq_true, decide_eq_true_eq] at hb
  have := hopB_in h.T (plane p) (Sp13.st p) t.2.2.1 i
  have h2 : hopB t (plane p) (Sp13.st p) t.2.2.1 i = c.1 := hb.2
  omega
theorem Done.len {t : Tb} {p : Pk} {o : Oc} (h : FwOk t p) (D : Done t p o) : o.2.2.1.length ≤ 99 := by
  have h1 : (o.2.2.1.map fun c => c.1).length ≤ ((List.range 99).map fun (n : Nat) => (n : Int) + 1).length := by
    refine D.nd.length_le_of_subset fun x hx => ?_
    obtain ⟨c, hc, rfl⟩ := List.mem_map.1 hx
    have := D.to_in h hc
    exact List.mem_map.2 ⟨(c.1 - 1).toNat, List.mem_range.2 (by omega), by omega⟩
  simpa using h1
def bc (c : Cp) : Int := bt c.2.1.2.1
theorem Done.bit {t : Tb} {p : Pk} {o : Oc} (D : Done t p o) {c : Cp} (hc : c ∈ o.2.2.1) : U (bc c) ∧ bc c ≠ 0 ∧ ∀ i, i < 64 → tb (bc c) i = (tb (bt p) i && decide (hp t p i = c.1)) := by
  obtain ⟨g, q1, q2, q3, q4, q5, q6⟩ := D.cps c hc
  have : bc c = g := by rw [q1]; rfl
  rw [this]
  exact ⟨q2, q3, q6⟩
theorem Done.to_ne {t : Tb} {p : Pk} {o : Oc} (D : Done t p o) {j k : Nat} (hj : j < k) (hk : k < o.2.2.1.length) : (o.2.2.1.getD j zC).1 ≠ (o.2.2.1.getD k zC).1 := by
  have h := List.pairwise_iff_getElem.1 D.nd j k (by rw [List.length_map]; omega) (by rw [List.length_map]; omega) hj
  rw [List.getElem_map, List.getElem_map] at h
  rw [getD_ix (show j < o.2.2.1.length by omega), getD_ix hk]
  exact h
abbrev pk0 : Pk := (1, 0, 0, 8, 4, 0, 0, 0, 35, [], ())
theorem awk : fwd t0 pk0 = ((0, 32, [(2, ([], (1, 0, 0, 8, 3, 0, 0, 0, 1, [], ()), ()), ()), (3, ([], (1, 0, 0, 8, 3, 0, 0, 0, 2, [], ()), ()), ())], ()), 0, ()) := by kernel_rfl
theorem g42_ok   : g42  = some (Sp13.t0, ()) := by
  rfl
theorem g11_ok   : g11  = some (true, ()) := by
  unfold g11
  rw [awk]
  rfl
end Go.Abs.C13

namespace Go.Abs.C13
open Go Go.Proofs
theorem ok8 : FunOk Tryd.prog B 8 c8 := glue L0 gam_nil plan8 Tryd.func8 (by kernel_rfl) (by
  rintro ⟨⟨⟩, a0, ⟨⟩⟩ y r h
  exact (g8_eq a0).trans ((g8_ok a0 r.2.1).trans h))
theorem all8 : ∀ g con, lookC L8 g = some con → FunOk Tryd.prog B (g % 1000000) con := gam_cons rfl ok8 gam_nil

theorem ok83 : FunOk Tryd.prog B 83 c83 := glue L8 all8 plan83 Tryd.func83 (by kernel_rfl) (by
  rintro ⟨⟨⟩, a0, a1, ⟨⟩⟩ y r h
  exact (g83_eq a0 a1).trans ((g83_ok a0 a1 r.2.1 r.2.2.1).trans h))
theorem all83 : ∀ g con, lookC L83 g = some con → FunOk Tryd.prog B (g % 1000000) con := gam_cons rfl ok83 all8

theorem ok17 : FunOk Tryd.prog B 17 c17 := glue L83 all83 plan17 Tryd.func17 (by kernel_rfl) (by
  rintro ⟨⟨⟩, a0, ⟨⟩⟩ y r h
  exact (g17_eq a0).trans ((g17_ok a0 r.2.1).trans h))
theorem all17 : ∀ g con, lookC L17 g = some con → FunOk Tryd.prog B (g % 1000000) con := gam_cons rfl ok17 all83

theorem ok80 : FunOk Tryd.prog B 80 c80 := glue L17 all17 plan80 Tryd.func80 (by kernel_rfl) (by
  rintro ⟨⟨⟩, a0, ⟨⟩⟩ y r h
  exact (g80_eq a0).trans ((g80_ok a0 r.2.1).trans h))
theorem all80 : ∀ g con, lookC L80 g = some con → FunOk Tryd.prog B (g % 1000000) con := gam_cons rfl ok80 all17

theorem ok54 : FunOk Tryd.prog B 54 c54 := glue L80 all80 plan54 Tryd.func54 (by kernel_rfl) (by
  rintro ⟨⟨⟩, a0, ⟨⟩⟩ y r h
  exact (g54_eq a0).trans ((g54_ok a0 r.2.1).trans h))
theorem all54 : ∀ g con, lookC L54 g = some con → FunOk Tryd.prog B (g % 1000000) con := gam_cons rfl ok54 all80

theorem ok84 : FunOk Tryd.prog B 84 c84 := glue L54 all54 plan84 Tryd.func84 (by kernel_rfl) (by
  rintro ⟨⟨⟩, a0, a1, ⟨⟩⟩ y r h
  exact (g84_eq a0 a1).trans ((g84_ok a0 a1 r.2.1 r.2.2.1).trans h))
theorem all84 : ∀ g con, lookC L84 g = some con → FunOk Tryd.prog B (g % 1000000) con := gam_cons rfl ok84 all54

theorem ok46 : FunOk Tryd.prog B 46 c46 := glue L84 all84 plan46 Tryd.func46 (by kernel_rfl) (by
  rintro ⟨⟨⟩, ⟨a0, a1, a2, a3, a4, a5, a6, a7, a8, a9, ⟨⟩⟩, ⟨⟩⟩ y r h
  exact (g46_eq a0 a1 a2 a3 a4 a5 a6 a7 a8 a9).trans ((g46_ok a0 a1 a2 a3 a4 a5 a6 a7 a8 a9 r.2.1.1 r.2.1.2.1 r.2.1.2.2.1 r.2.1.2.2.2.1 r.2.1.2.2.2.2.1 r.2.1.2.2.2.2.2.1 r.2.1.2.2.2.2.2.2.1 r.2.1.2.2.2.2.2.2.2.1 r.2.1.2.2.2.2.2.2.2.2.1 r.2.1.2.2.2.2.2.2.2.2.2.1).trans h))
theorem all46 : ∀ g con, lookC L46 g = some con → FunOk Tryd.prog B (g % 1000000) con := gam_cons rfl ok46 all84

theorem ok13 : FunOk Tryd.prog B 13 c13 := glue L46 all46 plan13 Tryd.func13 (by kernel_rfl) (by
  rintro ⟨⟨⟩, ⟨a0, a1, a2, a3, a4, a5, a6, a7, a8, a9, ⟨⟩⟩, ⟨⟩⟩ y r h
  exact (g13_eq a0 a1 a2 a3 a4 a5 a6 a7 a8 a9).trans ((g13_ok a0 a1 a2 a3 a4 a5 a6 a7 a8 a9 r.2.1.1 r.2.1.2.1 r.2.1.2.2.1 r.2.1.2.2.2.1 r.2.1.2.2.2.2.1 r.2.1.2.2.2.2.2.1 r.2.1.2.2.2.2.2.2.1 r.2.1.2.2.2.2.2.2.2.1 r.2.1.2.2.2.2.2.2.2.2.1 r.2.1.2.2.2.2.2.2.2.2.2.1).trans h))
theorem all13 : ∀ g con, lookC L13 g = some con → FunOk Tryd.prog B (g % 1000000) con := gam_cons rfl ok13 all46

theorem ok48 : FunOk Tryd.prog B 48 c48 := glue L13 all13 plan48 Tryd.func48 (by kernel_rfl) (by
  rintro ⟨⟨⟩, a0, a1, ⟨⟩⟩ y r h
  exact (g48_eq a0 a1).trans ((g48_ok a0 a1 r.2.1 r.2.2.1).trans h))
theorem all48 : ∀ g con, lookC L48 g = some con → FunOk Tryd.prog B (g % 1000000) con := gam_cons rfl ok48 all13

theorem ok16 : FunOk Tryd.prog B 16 c16 := glue L48 all48 plan16 Tryd.func16 (by kernel_rfl) (by
  rintro ⟨⟨⟩, a0, ⟨⟩⟩ y r h
  exact (g16_eq a0).trans ((g16_ok a0 r.2.1).trans h))
theorem all16 : ∀ g con, lookC L16 g = some con → FunOk Tryd.prog B (g % 1000000) con := gam_cons rfl ok16 all48

theorem ok18 : FunOk Tryd.prog B 18 c18 := glue L16 all16 plan18 Tryd.func18 (by kernel_rfl) (by
  rintro ⟨⟨⟩, ⟨a0, a1, a2, a3, a4, a5, a6, a7, a8, a9, ⟨⟩⟩, a10, ⟨⟩⟩ y r h
  exact (g18_eq a0 a1 a2 a3 a4 a5 a6 a7 a8 a9 a10).trans ((g18_ok a0 a1 a2 a3 a4 a5 a6 a7 a8 a9 a10 r.2.1.1 r.2.1.2.1 r.2.1.2.2.1 r.2.1.2.2.2.1 r.2.1.2.2.2.2.1 r.2.1.2.2.2.2.2.1 r.2.1.2.2.2.2.2.2.1 r.2.1.2.2.2.2.2.2.2.1 r.2.1.2.2.2.2.2.2.2.2.1 r.2.1.2.2.2.2.2.2.2.2.2.1 r.2.2.1).trans h))
theorem all18 : ∀ g con, lookC L18 g = some con → FunOk Tryd.prog B (g % 1000000) con := gam_cons rfl ok18 all16

theorem ok50 : FunOk Tryd.prog B 50 c50 := glue L18 all18 plan50 Tryd.func50 (by kernel_rfl) (by
  rintro ⟨⟨⟩, a0, a1, ⟨⟩⟩ y r h
  exact (g50_eq a0 a1).trans ((g50_ok a0 a1 r.2.1 r.2.2.1).trans h))
theorem all50 : ∀ g con, lookC L50 g = some con → FunOk Tryd.prog B (g % 1000000) con := gam_cons rfl ok50 all18

theorem ok51 : FunOk Tryd.prog B 51 c51 := glue L50 all50 plan51 Tryd.func51 (by kernel_rfl) (by
  rintro ⟨⟨a0, a1, ⟨⟩⟩, ⟨⟩⟩ y r h
  obtain ⟨h1, h2⟩ := Sp13.on_some h
  subst h2
  exact (g51_eq a0 a1).trans (g51_ok a0 a1 r.1.1 r.1.2.1 h1))
theorem all51 : ∀ g con, lookC L51 g = some con → FunOk Tryd.prog B (g % 1000000) con := gam_cons rfl ok51 all50

theorem ok20 : FunOk Tryd.prog B 20 c20 := glue L51 all51 plan20 Tryd.func20 (by kernel_rfl) (by
  rintro ⟨⟨a0, a1, ⟨⟩⟩, a2, ⟨⟩⟩ y r h
  obtain ⟨h1, h2⟩ := Sp13.on_some h
  subst h2
  exact (g20_eq a0 a1 a2).trans (g20_ok a0 a1 a2 r.1.1 r.1.2.1 r.2.1 h1))
theorem all20 : ∀ g con, lookC L20 g = some con → FunOk Tryd.prog B (g % 1000000) con := gam_cons rfl ok20 all51

theorem ok49 : FunOk Tryd.prog B 49 c49 := glue L20 all20 plan49 Tryd.func49 (by kernel_rfl) (by
  rintro ⟨⟨a0, a1, ⟨⟩⟩, a2, a3, ⟨⟩⟩ y r h
  obtain ⟨h1, h2⟩ := Sp13.on_some h
  subst h2
  exact (g49_eq a0 a1 a2 a3).trans (g49_ok a0 a1 a2 a3 r.1.1 r.1.2.1 r.2.1 r.2.2.1 h1))
theorem all49 : ∀ g con, lookC L49 g = some con → FunOk Tryd.prog B (g % 1000000) con := gam_cons rfl ok49 all20

theorem ok19 : FunOk Tryd.prog B 19 c19 := glue L49 all49 plan19 Tryd.func19 (by kernel_rfl) (by
  rintro ⟨⟨a0, a1, ⟨⟩⟩, a2, ⟨⟩⟩ y r h
  obtain ⟨h1, h2⟩ := Sp13.on_some h
  subst h2
  exact (g19_eq a0 a1 a2).trans (g19_ok a0 a1 a2 r.1.1 r.1.2.1 r.2.1 h1))
theorem all19 : ∀ g con, lookC L19 g = some con → FunOk Tryd.prog B (g % 1000000) con := gam_cons rfl ok19 all49

theorem ok21 : FunOk Tryd.prog B 21 c21 := glue L19 all19 plan21 Tryd.func21 (by kernel_rfl) (by
  rintro ⟨⟨⟩, a0, a1, ⟨⟩⟩ y r h
  exact (g21_eq a0 a1).trans ((g21_ok a0 a1 r.2.1 r.2.2.1).trans h))
theorem all21 : ∀ g con, lookC L21 g = some con → FunOk Tryd.prog B (g % 1000000) con := gam_cons rfl ok21 all19

theorem ok24 : FunOk Tryd.prog B 24 c24 := glue L21 all21 plan24 Tryd.func24 (by kernel_rfl) (by
  rintro ⟨⟨a0, a1, ⟨⟩⟩, a2, ⟨⟩⟩ y r h
  obtain ⟨h1, h2⟩ := Sp13.on_some h
  subst h2
  exact (g24_eq a0 a1 a2).trans (g24_ok a0 a1 a2 r.1.1 r.1.2.1 r.2.1 h1))
theorem all24 : ∀ g con, lookC L24 g = some con → FunOk Tryd.prog B (g % 1000000) con := gam_cons rfl ok24 all21

theorem ok31 : FunOk Tryd.prog B 31 c31 := glue L24 all24 plan31 Tryd.func31 (by kernel_rfl) (by
  rintro ⟨⟨a0, a1, ⟨⟩⟩, a2, ⟨⟩⟩ y r h
  obtain ⟨h1, h2⟩ := Sp13.on_some h
  subst h2
  exact (g31_eq a0 a1 a2).trans (g31_ok a0 a1 a2 r.1.1 r.1.2.1 r.2.1 h1))
theorem all31 : ∀ g con, lookC L31 g = some con → FunOk Tryd.prog B (g % 1000000) con := gam_cons rfl ok31 all24

theorem ok33 : FunOk Tryd.prog B 33 c33 := glue L31 all31 plan33 Tryd.func33 (by kernel_rfl) (by
  rintro ⟨⟨a0, a1, ⟨⟩⟩, a2, ⟨⟩⟩ y r h
  obtain ⟨h1, h2⟩ := Sp13.on_some h
  subst h2
  exact (g33_eq a0 a1 a2).trans (g33_ok a0 a1 a2 r.1.1 r.1.2.1 r.2.1 h1))
theorem all33 : ∀ g con, lookC L33 g = some con → FunOk Tryd.prog B (g % 1000000) con := gam_cons rfl ok33 all31

theorem ok52 : FunOk Tryd.prog B 52 c52 := glue L33 all33 plan52 Tryd.func52 (by kernel_rfl) (by
  rintro ⟨⟨a0, a1, ⟨⟩⟩, ⟨⟩⟩ y r h
  obtain ⟨h1, h2⟩ := Sp13.on_some h
  subst h2
  exact (g52_eq a0 a1).trans (g52_ok a0 a1 r.1.1 r.1.2.1 h1))
theorem all52 : ∀ g con, lookC L52 g = some con → FunOk Tryd.prog B (g % 1000000) con := gam_cons rfl ok52 all33

theorem ok53 : FunOk Tryd.prog B 53 c53 := glue L52 all52 plan53 Tryd.func53 (by kernel_rfl) (by
  rintro ⟨⟨a0, a1, ⟨⟩⟩, ⟨⟩⟩ y r h
  obtain ⟨h1, h2⟩ := Sp13.on_some h
  subst h2
  exact (g53_eq a0 a1).trans (g53_ok a0 a1 r.1.1 r.1.2.1 h1))
theorem all53 : ∀ g con, lookC L53 g = some con → FunOk Tryd.prog B (g % 1000000) con := gam_cons rfl ok53 all52

theorem ok23 : FunOk Tryd.prog B 23 c23 := glue L53 all53 plan23 Tryd.func23 (by kernel_rfl) (by
  rintro ⟨⟨a0, a1, ⟨⟩⟩, a2, ⟨⟩⟩ y r h
  obtain ⟨h1, h2⟩ := Sp13.on_some h
  subst h2
  exact (g23_eq a0 a1 a2).trans (g23_ok a0 a1 a2 r.1.1 r.1.2.1 r.2.1 h1))
theorem all23 : ∀ g con, lookC L23 g = some con → FunOk Tryd.prog B (g % 1000000) con := gam_cons rfl ok23 all53

theorem ok88 : FunOk Tryd.prog B 88 c88 := glue L23 all23 plan88 Tryd.func88 (by kernel_rfl) (by
  rintro ⟨⟨⟩, a0, ⟨⟩⟩ y r h
  obtain ⟨h1, h2⟩ := Sp13.on_some h
  subst h2
  exact (g88_eq a0).trans (g88_ok a0 r.2.1 h1))
theorem all88 : ∀ g con, lookC L88 g = some con → FunOk Tryd.prog B (g % 1000000) con := gam_cons rfl ok88 all23

theorem ok60 : FunOk Tryd.prog B 60 c60 := glue L88 all88 plan60 Tryd.func60 (by kernel_rfl) (by
  rintro ⟨⟨a0, a1, ⟨⟩⟩, a2, a3, ⟨⟩⟩ y r h
  obtain ⟨h1, h2⟩ := Sp13.on_some h
  subst h2
  exact (g60_eq a0 a1 a2 a3).trans (g60_ok a0 a1 a2 a3 r.1.1 r.1.2.1 r.2.1 r.2.2.1 h1))
theorem all60 : ∀ g con, lookC L60 g = some con → FunOk Tryd.prog B (g % 1000000) con := gam_cons rfl ok60 all88

theorem ok28 : FunOk Tryd.prog B 28 c28 := glue L60 all60 plan28 Tryd.func28 (by kernel_rfl) (by
  rintro ⟨⟨a0, a1, ⟨⟩⟩, a2, ⟨⟩⟩ y r h
  obtain ⟨h1, h2⟩ := Sp13.on_some h
  subst h2
  exact (g28_eq a0 a1 a2).trans (g28_ok a0 a1 a2 r.1.1 r.1.2.1 r.2.1 h1))
theorem all28 : ∀ g con, lookC L28 g = some con → FunOk Tryd.prog B (g % 1000000) con := gam_cons rfl ok28 all60

theorem ok61 : FunOk Tryd.prog B 61 c61 := glue L28 all28 plan61 Tryd.func61 (by kernel_rfl) (by
  rintro ⟨⟨a0, a1, ⟨⟩⟩, a2, ⟨⟩⟩ y r h
  obtain ⟨h1, h2⟩ := Sp13.on_some h
  subst h2
  exact (g61_eq a0 a1 a2).trans (g61_ok a0 a1 a2 r.1.1 r.1.2.1 r.2.1 h1))
theorem all61 : ∀ g con, lookC L61 g = some con → FunOk Tryd.prog B (g % 1000000) con := gam_cons rfl ok61 all28

theorem ok29 : FunOk Tryd.prog B 29 c29 := glue L61 all61 plan29 Tryd.func29 (by kernel_rfl) (by
  rintro ⟨⟨a0, a1, ⟨⟩⟩, ⟨a2, a3, ⟨⟩⟩, a4, ⟨⟩⟩ y r h
  obtain ⟨h1, h2⟩ := Sp13.on_some h
  subst h2
  exact (g29_eq a0 a1 a2 a3 a4).trans (g29_ok a0 a1 a2 a3 a4 r.1.1 r.1.2.1 r.2.1.1 r.2.1.2.1 r.2.2.1 h1))
theorem all29 : ∀ g con, lookC L29 g = some con → FunOk Tryd.prog B (g % 1000000) con := gam_cons rfl ok29 all61

theorem ok32 : FunOk Tryd.prog B 32 c32 := glue L29 all29 plan32 Tryd.func32 (by kernel_rfl) (by
  rintro ⟨⟨a0, a1, ⟨⟩⟩, ⟨a2, a3, ⟨⟩⟩, a4, ⟨⟩⟩ y r h
  obtain ⟨h1, h2⟩ := Sp13.on_some h
  subst h2
  exact (g32_eq a0 a1 a2 a3 a4).trans (g32_ok a0 a1 a2 a3 a4 r.1.1 r.1.2.1 r.2.1.1 r.2.1.2.1 r.2.2.1 h1))
theorem all32 : ∀ g con, lookC L32 g = some con → FunOk Tryd.prog B (g % 1000000) con := gam_cons rfl ok32 all29

theorem ok71 : FunOk Tryd.prog B 71 c71 := glue L32 all32 plan71 Tryd.func71 (by kernel_rfl) (by
  rintro ⟨⟨⟩, a0, a1, ⟨⟩⟩ y r h
  exact (g71_eq a0 a1).trans ((g71_ok a0 a1 r.2.1 r.2.2.1).trans h))
theorem all71 : ∀ g con, lookC L71 g = some con → FunOk Tryd.prog B (g % 1000000) con := gam_cons rfl ok71 all32

theorem ok64 : FunOk Tryd.prog B 64 c64 := glue L71 all71 plan64 Tryd.func64 (by kernel_rfl) (by
  rintro ⟨⟨⟩, a0, ⟨⟩⟩ y r h
  exact (g64_eq a0).trans ((g64_ok a0 r.2.1).trans h))
theorem all64 : ∀ g con, lookC L64 g = some con → FunOk Tryd.prog B (g % 1000000) con := gam_cons rfl ok64 all71

theorem ok94 : FunOk Tryd.prog B 94 c94 := glue L64 all64 plan94 Tryd.func94 (by kernel_rfl) (by
  rintro ⟨⟨⟩, a0, ⟨⟩⟩ y r h
  exact (g94_eq a0).trans ((g94_ok a0 r.2.1).trans h))
theorem all94 : ∀ g con, lookC L94 g = some con → FunOk Tryd.prog B (g % 1000000) con := gam_cons rfl ok94 all64

theorem ok72 : FunOk Tryd.prog B 72 c72 := glue L94 all94 plan72 Tryd.func72 (by kernel_rfl) (by
  rintro ⟨⟨⟩, a0, a1, ⟨⟩⟩ y r h
  exact (g72_eq a0 a1).trans ((g72_ok a0 a1 r.2.1 r.2.2.1).trans h))
theorem all72 : ∀ g con, lookC L72 g = some con → FunOk Tryd.prog B (g % 1000000) con := gam_cons rfl ok72 all94

theorem ok35 : FunOk Tryd.prog B 35 c35 := glue L72 all72 plan35 Tryd.func35 (by kernel_rfl) (by
  rintro ⟨⟨⟩, ⟨a0, a1, a2, a3, a4, a5, a6, a7, a8, a9, ⟨⟩⟩, ⟨⟩⟩ y r h
  exact (g35_eq a0 a1 a2 a3 a4 a5 a6 a7 a8 a9).trans ((g35_ok a0 a1 a2 a3 a4 a5 a6 a7 a8 a9 r.2.1.1 r.2.1.2.1 r.2.1.2.2.1 r.2.1.2.2.2.1 r.2.1.2.2.2.2.1 r.2.1.2.2.2.2.2.1 r.2.1.2.2.2.2.2.2.1 r.2.1.2.2.2.2.2.2.2.1 r.2.1.2.2.2.2.2.2.2.2.1 r.2.1.2.2.2.2.2.2.2.2.2.1).trans h))
theorem all35 : ∀ g con, lookC L35 g = some con → FunOk Tryd.prog B (g % 1000000) con := gam_cons rfl ok35 all72

theorem ok36 : FunOk Tryd.prog B 36 c36 := glue L35 all35 plan36 Tryd.func36 (by kernel_rfl) (by
  rintro ⟨⟨⟩, ⟨a0, a1, a2, a3, a4, a5, a6, a7, a8, a9, ⟨⟩⟩, ⟨⟩⟩ y r h
  exact (g36_eq a0 a1 a2 a3 a4 a5 a6 a7 a8 a9).trans ((g36_ok a0 a1 a2 a3 a4 a5 a6 a7 a8 a9 r.2.1.1 r.2.1.2.1 r.2.1.2.2.1 r.2.1.2.2.2.1 r.2.1.2.2.2.2.1 r.2.1.2.2.2.2.2.1 r.2.1.2.2.2.2.2.2.1 r.2.1.2.2.2.2.2.2.2.1 r.2.1.2.2.2.2.2.2.2.2.1 r.2.1.2.2.2.2.2.2.2.2.2.1).trans h))
theorem all36 : ∀ g con, lookC L36 g = some con → FunOk Tryd.prog B (g % 1000000) con := gam_cons rfl ok36 all35

theorem ok73 : FunOk Tryd.prog B 73 c73 := glue L36 all36 plan73 Tryd.func73 (by kernel_rfl) (by
  rintro ⟨⟨⟩, a0, ⟨⟩⟩ y r h
  obtain ⟨h1, h2⟩ := Sp13.on_some h
  subst h2
  exact (g73_eq a0).trans (g73_ok a0 r.2.1 h1))
theorem all73 : ∀ g con, lookC L73 g = some con → FunOk Tryd.prog B (g % 1000000) con := gam_cons rfl ok73 all36

theorem ok37 : FunOk Tryd.prog B 37 c37 := glue L73 all73 plan37 Tryd.func37 (by kernel_rfl) (by
  rintro ⟨⟨⟩, a0, ⟨⟩⟩ y r h
  exact (g37_eq a0).trans ((g37_ok a0 r.2.1).trans h))
theorem all37 : ∀ g con, lookC L37 g = some con → FunOk Tryd.prog B (g % 1000000) con := gam_cons rfl ok37 all73

theorem ok74 : FunOk Tryd.prog B 74 c74 := glue L37 all37 plan74 Tryd.func74 (by kernel_rfl) (by
  rintro ⟨⟨⟩, a0, a1, a2, ⟨⟩⟩ y r h
  exact (g74_eq a0 a1 a2).trans ((g74_ok a0 a1 a2 r.2.1 r.2.2.1 r.2.2.2.1).trans h))
theorem all74 : ∀ g con, lookC L74 g = some con → FunOk Tryd.prog B (g % 1000000) con := gam_cons rfl ok74 all37

theorem ok38 : FunOk Tryd.prog B 38 c38 := glue L74 all74 plan38 Tryd.func38 (by kernel_rfl) (by
  rintro ⟨⟨⟩, a0, a1, a2, ⟨⟩⟩ y r h
  exact (g38_eq a0 a1 a2).trans ((g38_ok a0 a1 a2 r.2.1 r.2.2.1 r.2.2.2.1).trans h))
theorem all38 : ∀ g con, lookC L38 g = some con → FunOk Tryd.prog B (g % 1000000) con := gam_cons rfl ok38 all74

theorem ok41 : FunOk Tryd.prog B 41 c41 := glue L38 all38 plan41 Tryd.func41 (by kernel_rfl) (by
  rintro ⟨⟨⟩, ⟨a0, a1, a2, a3, a4, a5, a6, a7, a8, a9, ⟨⟩⟩, a10, ⟨⟩⟩ y r h
  exact (g41_eq a0 a1 a2 a3 a4 a5 a6 a7 a8 a9 a10).trans ((g41_ok a0 a1 a2 a3 a4 a5 a6 a7 a8 a9 a10 r.2.1.1 r.2.1.2.1 r.2.1.2.2.1 r.2.1.2.2.2.1 r.2.1.2.2.2.2.1 r.2.1.2.2.2.2.2.1 r.2.1.2.2.2.2.2.2.1 r.2.1.2.2.2.2.2.2.2.1 r.2.1.2.2.2.2.2.2.2.2.1 r.2.1.2.2.2.2.2.2.2.2.2.1 r.2.2.1).trans h))
theorem all41 : ∀ g con, lookC L41 g = some con → FunOk Tryd.prog B (g % 1000000) con := gam_cons rfl ok41 all38

theorem ok89 : FunOk Tryd.prog B 89 c89 := glue L41 all41 plan89 Tryd.func89 (by kernel_rfl) (by
  rintro ⟨⟨⟩, a0, a1, a2, ⟨⟩⟩ y r h
  exact (g89_eq a0 a1 a2).trans ((g89_ok a0 a1 a2 r.2.1 r.2.2.1 r.2.2.2.1).trans h))
theorem all89 : ∀ g con, lookC L89 g = some con → FunOk Tryd.prog B (g % 1000000) con := gam_cons rfl ok89 all41

theorem ok62 : FunOk Tryd.prog B 62 c62 := glue L89 all89 plan62 Tryd.func62 (by kernel_rfl) (by
  rintro ⟨⟨⟩, a0, a1, ⟨⟩⟩ y r h
  exact (g62_eq a0 a1).trans ((g62_ok a0 a1 r.2.1 r.2.2.1).trans h))
theorem all62 : ∀ g con, lookC L62 g = some con → FunOk Tryd.prog B (g % 1000000) con := gam_cons rfl ok62 all89

theorem ok93 : FunOk Tryd.prog B 93 c93 := glue L62 all62 plan93 Tryd.func93 (by kernel_rfl) (by
  rintro ⟨⟨⟩, a0, a1, ⟨⟩⟩ y r h
  exact (g93_eq a0 a1).trans ((g93_ok a0 a1 r.2.1 r.2.2.1).trans h))
theorem all93 : ∀ g con, lookC L93 g = some con → FunOk Tryd.prog B (g % 1000000) con := gam_cons rfl ok93 all62

theorem ok70 : FunOk Tryd.prog B 70 c70 := glue L93 all93 plan70 Tryd.func70 (by kernel_rfl) (by
  rintro ⟨⟨⟩, a0, a1, ⟨⟩⟩ y r h
  exact (g70_eq a0 a1).trans ((g70_ok a0 a1 r.2.1 r.2.2.1).trans h))
theorem all70 : ∀ g con, lookC L70 g = some con → FunOk Tryd.prog B (g % 1000000) con := gam_cons rfl ok70 all93

theorem ok81 : FunOk Tryd.prog B 81 c81 := glue L70 all70 plan81 Tryd.func81 (by kernel_rfl) (by
  rintro ⟨⟨⟩, a0, a1, a2, ⟨⟩⟩ y r h
  exact (g81_eq a0 a1 a2).trans ((g81_ok a0 a1 a2 r.2.1 r.2.2.1 r.2.2.2.1).trans h))
theorem all81 : ∀ g con, lookC L81 g = some con → FunOk Tryd.prog B (g % 1000000) con := gam_cons rfl ok81 all70

theorem ok96 : FunOk Tryd.prog B 96 c96 := glue L81 all81 plan96 Tryd.func96 (by kernel_rfl) (by
  rintro ⟨⟨⟩, a0, a1, ⟨⟩⟩ y r h
  exact (g96_eq a0 a1).trans ((g96_ok a0 a1 r.2.1 r.2.2.1).trans h))
theorem all96 : ∀ g con, lookC L96 g = some con → FunOk Tryd.prog B (g % 1000000) con := gam_cons rfl ok96 all81

theorem ok63 : FunOk Tryd.prog B 63 c63 := glue L96 all96 plan63 Tryd.func63 (by kernel_rfl) (by
  rintro ⟨⟨⟩, a0, a1, a2, ⟨⟩⟩ y r h
  exact (g63_eq a0 a1 a2).trans ((g63_ok a0 a1 a2 r.2.1 r.2.2.1 r.2.2.2.1).trans h))
theorem all63 : ∀ g con, lookC L63 g = some con → FunOk Tryd.prog B (g % 1000000) con := gam_cons rfl ok63 all96

theorem ok92 : FunOk Tryd.prog B 92 c92 := glue L63 all63 plan92 Tryd.func92 (by kernel_rfl) (by
  rintro ⟨⟨⟩, a0, ⟨⟩⟩ y r h
  exact (g92_eq a0).trans ((g92_ok a0 r.2.1).trans h))
theorem all92 : ∀ g con, lookC L92 g = some con → FunOk Tryd.prog B (g % 1000000) con := gam_cons rfl ok92 all63

theorem ok103 : FunOk Tryd.prog B 103 c103 := glue L92 all92 plan103 Tryd.func103 (by kernel_rfl) (by
  rintro ⟨⟨⟩, a0, ⟨⟩, ⟨⟩⟩ y r h
  exact (g103_eq a0).trans ((g103_ok a0 r.2.1).trans h))
theorem all103 : ∀ g con, lookC L103 g = some con → FunOk Tryd.prog B (g % 1000000) con := gam_cons rfl ok103 all92

theorem ok91 : FunOk Tryd.prog B 91 c91 := glue L103 all103 plan91 Tryd.func91 (by kernel_rfl) (by
  rintro ⟨⟨⟩, a0, ⟨⟩, ⟨⟩⟩ y r h
  exact (g91_eq a0).trans ((g91_ok a0 r.2.1).trans h))
theorem all91 : ∀ g con, lookC L91 g = some con → FunOk Tryd.prog B (g % 1000000) con := gam_cons rfl ok91 all103

theorem ok66 : FunOk Tryd.prog B 66 c66 := glue L91 all91 plan66 Tryd.func66 (by kernel_rfl) (by
  rintro ⟨⟨⟩, ⟨a0, a1, ⟨⟩⟩, ⟨⟩⟩ y r h
  exact (g66_eq a0 a1).trans ((g66_ok a0 a1 r.2.1.1 r.2.1.2.1).trans h))
theorem all66 : ∀ g con, lookC L66 g = some con → FunOk Tryd.prog B (g % 1000000) con := gam_cons rfl ok66 all91

theorem ok67 : FunOk Tryd.prog B 67 c67 := glue L66 all66 plan67 Tryd.func67 (by kernel_rfl) (by
  rintro ⟨⟨⟩, ⟨a0, a1, ⟨⟩⟩, ⟨⟩⟩ y r h
  exact (g67_eq a0 a1).trans ((g67_ok a0 a1 r.2.1.1 r.2.1.2.1).trans h))
theorem all67 : ∀ g con, lookC L67 g = some con → FunOk Tryd.prog B (g % 1000000) con := gam_cons rfl ok67 all66

theorem ok69 : FunOk Tryd.prog B 69 c69 := glue L67 all67 plan69 Tryd.func69 (by kernel_rfl) (by
  rintro ⟨⟨⟩, ⟨a0, a1, ⟨⟩⟩, ⟨a2, a3, a4, a5, ⟨⟩⟩, ⟨⟩⟩ y r h
  exact (g69_eq a0 a1 a2 a3 a4 a5).trans ((g69_ok a0 a1 a2 a3 a4 a5 r.2.1.1 r.2.1.2.1 r.2.2.1.1 r.2.2.1.2.1 r.2.2.1.2.2.1 r.2.2.1.2.2.2.1).trans h))
theorem all69 : ∀ g con, lookC L69 g = some con → FunOk Tryd.prog B (g % 1000000) con := gam_cons rfl ok69 all67

theorem ok90 : FunOk Tryd.prog B 90 c90 := glue L69 all69 plan90 Tryd.func90 (by kernel_rfl) (by
  rintro ⟨⟨⟩, a0, ⟨⟩, ⟨⟩⟩ y r h
  exact (g90_eq a0).trans ((g90_ok a0 r.2.1).trans h))
theorem all90 : ∀ g con, lookC L90 g = some con → FunOk Tryd.prog B (g % 1000000) con := gam_cons rfl ok90 all69

theorem ok65 : FunOk Tryd.prog B 65 c65 := glue L90 all90 plan65 Tryd.func65 (by kernel_rfl) (by
  rintro ⟨⟨⟩, a0, ⟨⟩, ⟨⟩⟩ y r h
  exact (g65_eq a0).trans ((g65_ok a0 r.2.1).trans h))
theorem all65 : ∀ g con, lookC L65 g = some con → FunOk Tryd.prog B (g % 1000000) con := gam_cons rfl ok65 all90

theorem ok90v : FunOk Tryd.prog B 90 c90v := glue L65 all65 plan90v Tryd.func90 (by kernel_rfl) (by
  rintro ⟨⟨⟩, a0, ⟨⟩, ⟨⟩⟩ y r h
  exact (g90v_eq a0).trans ((g90v_ok a0 r.2.1).trans h))
theorem all90v : ∀ g con, lookC L90v g = some con → FunOk Tryd.prog B (g % 1000000) con := gam_cons rfl ok90v all65

theorem ok65w1 : FunOk Tryd.prog B 65 c65w1 := glue L90v all90v plan65w1 Tryd.func65 (by kernel_rfl) (by
  rintro ⟨⟨⟩, a0, ⟨⟩, ⟨⟩⟩ y r h
  exact (g65w1_eq a0).trans ((g65w1_ok a0 r.2.1).trans h))
theorem all65w1 : ∀ g con, lookC L65w1 g = some con → FunOk Tryd.prog B (g % 1000000) con := gam_cons rfl ok65w1 all90v

theorem ok90x : FunOk Tryd.prog B 90 c90x := glue L65w1 all65w1 plan90x Tryd.func90 (by kernel_rfl) (by
  rintro ⟨⟨⟩, a0, ⟨a1, a2, a3, a4, ⟨⟩⟩, ⟨⟩⟩ y r h
  exact (g90x_eq a0 a1 a2 a3 a4).trans ((g90x_ok a0 a1 a2 a3 a4 r.2.1 r.2.2.1.1 r.2.2.1.2.1 r.2.2.1.2.2.1 r.2.2.1.2.2.2.1).trans h))
theorem all90x : ∀ g con, lookC L90x g = some con → FunOk Tryd.prog B (g % 1000000) con := gam_cons rfl ok90x all65w1

theorem ok65w2 : FunOk Tryd.prog B 65 c65w2 := glue L90x all90x plan65w2 Tryd.func65 (by kernel_rfl) (by
  rintro ⟨⟨⟩, a0, ⟨a1, a2, a3, a4, ⟨⟩⟩, ⟨⟩⟩ y r h
  exact (g65w2_eq a0 a1 a2 a3 a4).trans ((g65w2_ok a0 a1 a2 a3 a4 r.2.1 r.2.2.1.1 r.2.2.1.2.1 r.2.2.1.2.2.1 r.2.2.1.2.2.2.1).trans h))
theorem all65w2 : ∀ g con, lookC L65w2 g = some con → FunOk Tryd.prog B (g % 1000000) con := gam_cons rfl ok65w2 all90x

theorem ok68 : FunOk Tryd.prog B 68 c68 := glue L65w2 all65w2 plan68 Tryd.func68 (by kernel_rfl) (by
  rintro ⟨⟨⟩, a0, ⟨⟩⟩ y r h
  exact (g68_eq a0).trans ((g68_ok a0 r.2.1).trans h))
theorem all68 : ∀ g con, lookC L68 g = some con → FunOk Tryd.prog B (g % 1000000) con := gam_cons rfl ok68 all65w2

theorem ok34 : FunOk Tryd.prog B 34 c34 := glue L68 all68 plan34 Tryd.func34 (by kernel_rfl) (by
  rintro ⟨⟨⟩, ⟨a0, a1, a2, a3, ⟨⟩⟩, ⟨⟩⟩ y r h
  exact (g34_eq a0 a1 a2 a3).trans ((g34_ok a0 a1 a2 a3 r.2.1.1 r.2.1.2.1 r.2.1.2.2.1 r.2.1.2.2.2.1).trans h))
theorem all34 : ∀ g con, lookC L34 g = some con → FunOk Tryd.prog B (g % 1000000) con := gam_cons rfl ok34 all68

theorem ok79 : FunOk Tryd.prog B 79 c79 := glue L34 all34 plan79 Tryd.func79 (by kernel_rfl) (by
  rintro ⟨⟨⟩, a0, a1, a2, ⟨⟩⟩ y r h
  exact (g79_eq a0 a1 a2).trans ((g79_ok a0 a1 a2 r.2.1 r.2.2.1 r.2.2.2.1).trans h))
theorem all79 : ∀ g con, lookC L79 g = some con → FunOk Tryd.prog B (g % 1000000) con := gam_cons rfl ok79 all34

theorem ok43 : FunOk Tryd.prog B 43 c43 := glue L79 all79 plan43 Tryd.func43 (by kernel_rfl) (by
  rintro ⟨⟨⟩, ⟨a0, a1, a2, a3, ⟨⟩⟩, ⟨⟩⟩ y r h
  exact (g43_eq a0 a1 a2 a3).trans ((g43_ok a0 a1 a2 a3 r.2.1.1 r.2.1.2.1 r.2.1.2.2.1 r.2.1.2.2.2.1).trans h))
theorem all43 : ∀ g con, lookC L43 g = some con → FunOk Tryd.prog B (g % 1000000) con := gam_cons rfl ok43 all79

theorem ok44 : FunOk Tryd.prog B 44 c44 := glue L43 all43 plan44 Tryd.func44 (by kernel_rfl) (by
  rintro ⟨⟨⟩, a0, ⟨⟩⟩ y r h
  exact (g44_eq a0).trans ((g44_ok a0 r.2.1).trans h))
theorem all44 : ∀ g con, lookC L44 g = some con → FunOk Tryd.prog B (g % 1000000) con := gam_cons rfl ok44 all43

theorem ok75 : FunOk Tryd.prog B 75 c75 := glue L44 all44 plan75 Tryd.func75 (by kernel_rfl) (by
  rintro ⟨⟨⟩, ⟨a0, a1, a2, a3, ⟨⟩⟩, a4, a5, ⟨⟩⟩ y r h
  exact (g75_eq a0 a1 a2 a3 a4 a5).trans ((g75_ok a0 a1 a2 a3 a4 a5 r.2.1.1 r.2.1.2.1 r.2.1.2.2.1 r.2.1.2.2.2.1 r.2.2.1 r.2.2.2.1).trans h))
theorem all75 : ∀ g con, lookC L75 g = some con → FunOk Tryd.prog B (g % 1000000) con := gam_cons rfl ok75 all44

theorem ok97 : FunOk Tryd.prog B 97 c97 := glue L75 all75 plan97 Tryd.func97 (by kernel_rfl) (by
  rintro ⟨⟨⟩, ⟨a0, a1, a2, a3, ⟨⟩⟩, a4, ⟨⟩⟩ y r h
  exact (g97_eq a0 a1 a2 a3 a4).trans ((g97_ok a0 a1 a2 a3 a4 r.2.1.1 r.2.1.2.1 r.2.1.2.2.1 r.2.1.2.2.2.1 r.2.2.1).trans h))
theorem all97 : ∀ g con, lookC L97 g = some con → FunOk Tryd.prog B (g % 1000000) con := gam_cons rfl ok97 all75

theorem all95 : ∀ g con, lookC L95 g = some con → FunOk Tryd.prog B (g % 1000000) con := gam_cons rfl ok95 all97

theorem ok76 : FunOk Tryd.prog B 76 c76 := glue L95 all95 plan76 Tryd.func76 (by kernel_rfl) (by
  rintro ⟨⟨⟩, ⟨a0, a1, a2, a3, ⟨⟩⟩, a4, ⟨⟩⟩ y r h
  exact (g76_eq a0 a1 a2 a3 a4).trans ((g76_ok a0 a1 a2 a3 a4 r.2.1.1 r.2.1.2.1 r.2.1.2.2.1 r.2.1.2.2.2.1 r.2.2.1).trans h))
theorem all76 : ∀ g con, lookC L76 g = some con → FunOk Tryd.prog B (g % 1000000) con := gam_cons rfl ok76 all95

theorem ok77 : FunOk Tryd.prog B 77 c77 := glue L76 all76 plan77 Tryd.func77 (by kernel_rfl) (by
  rintro ⟨⟨⟩, ⟨a0, a1, ⟨⟩⟩, a2, ⟨⟩⟩ y r h
  obtain ⟨h1, h2⟩ := Sp13.on_some h
  subst h2
  exact (g77_eq a0 a1 a2).trans (g77_ok a0 a1 a2 r.2.1.1 r.2.1.2.1 r.2.2.1 h1))
theorem all77 : ∀ g con, lookC L77 g = some con → FunOk Tryd.prog B (g % 1000000) con := gam_cons rfl ok77 all76

theorem ok82 : FunOk Tryd.prog B 82 c82 := glue L77 all77 plan82 Tryd.func82 (by kernel_rfl) (by
  rintro ⟨⟨⟩, ⟨a0, a1, a2, a3, ⟨⟩⟩, a4, a5, ⟨⟩⟩ y r h
  obtain ⟨h1, h2⟩ := Sp13.on_some h
  subst h2
  exact (g82_eq a0 a1 a2 a3 a4 a5).trans (g82_ok a0 a1 a2 a3 a4 a5 r.2.1.1 r.2.1.2.1 r.2.1.2.2.1 r.2.1.2.2.2.1 r.2.2.1 r.2.2.2.1 h1))
theorem all82 : ∀ g con, lookC L82 g = some con → FunOk Tryd.prog B (g % 1000000) con := gam_cons rfl ok82 all77

theorem ok39 : FunOk Tryd.prog B 39 c39 := glue L82 all82 plan39 Tryd.func39 (by kernel_rfl) (by
  rintro ⟨⟨⟩, ⟨a0, a1, a2, a3, ⟨⟩⟩, a4, a5, ⟨⟩⟩ y r h
  exact (g39_eq a0 a1 a2 a3 a4 a5).trans ((g39_ok a0 a1 a2 a3 a4 a5 r.2.1.1 r.2.1.2.1 r.2.1.2.2.1 r.2.1.2.2.2.1 r.2.2.1 r.2.2.2.1).trans h))
theorem all39 : ∀ g con, lookC L39 g = some con → FunOk Tryd.prog B (g % 1000000) con := gam_cons rfl ok39 all82

theorem ok22 : FunOk Tryd.prog B 22 c22 := glue L39 all39 plan22 Tryd.func22 (by kernel_rfl) (by
  rintro ⟨⟨⟩, ⟨a0, a1, a2, ⟨⟩⟩, ⟨⟩⟩ y r h
  exact (g22_eq a0 a1 a2).trans ((g22_ok a0 a1 a2 r.2.1.1 r.2.1.2.1 r.2.1.2.2.1).trans h))
theorem all22 : ∀ g con, lookC L22 g = some con → FunOk Tryd.prog B (g % 1000000) con := gam_cons rfl ok22 all39

theorem ok45 : FunOk Tryd.prog B 45 c45 := glue L22 all22 plan45 Tryd.func45 (by kernel_rfl) (by
  rintro ⟨⟨⟩, ⟨a0, a1, a2, a3, ⟨⟩⟩, a4, a5, a6, ⟨⟩⟩ y r h
  obtain ⟨h1, h2⟩ := Sp13.on_some h
  subst h2
  exact (g45_eq a0 a1 a2 a3 a4 a5 a6).trans (g45_ok a0 a1 a2 a3 a4 a5 a6 r.2.1.1 r.2.1.2.1 r.2.1.2.2.1 r.2.1.2.2.2.1 r.2.2.1 r.2.2.2.1 r.2.2.2.2.1 h1))
theorem all45 : ∀ g con, lookC L45 g = some con → FunOk Tryd.prog B (g % 1000000) con := gam_cons rfl ok45 all22

theorem ok12 : FunOk Tryd.prog B 12 c12 := glue L45 all45 plan12 Tryd.func12 (by kernel_rfl) (by
  rintro ⟨⟨⟩, ⟨a0, a1, a2, a3, ⟨⟩⟩, a4, a5, a6, ⟨⟩⟩ y r h
  exact (g12_eq a0 a1 a2 a3 a4 a5 a6).trans ((g12_ok a0 a1 a2 a3 a4 a5 a6 r.2.1.1 r.2.1.2.1 r.2.1.2.2.1 r.2.1.2.2.2.1 r.2.2.1 r.2.2.2.1 r.2.2.2.2.1).trans h))
theorem all12 : ∀ g con, lookC L12 g = some con → FunOk Tryd.prog B (g % 1000000) con := gam_cons rfl ok12 all45

theorem ok15 : FunOk Tryd.prog B 15 c15 := glue L12 all12 plan15 Tryd.func15 (by kernel_rfl) (by
  rintro ⟨⟨⟩, ⟨a0, a1, a2, a3, ⟨⟩⟩, a4, ⟨⟩⟩ y r h
  exact (g15_eq a0 a1 a2 a3 a4).trans ((g15_ok a0 a1 a2 a3 a4 r.2.1.1 r.2.1.2.1 r.2.1.2.2.1 r.2.1.2.2.2.1 r.2.2.1).trans h))
theorem all15 : ∀ g con, lookC L15 g = some con → FunOk Tryd.prog B (g % 1000000) con := gam_cons rfl ok15 all12

theorem ok47 : FunOk Tryd.prog B 47 c47 := glue L15 all15 plan47 Tryd.func47 (by kernel_rfl) (by
  rintro ⟨⟨⟩, ⟨a0, a1, a2, a3, ⟨⟩⟩, a4, a5, ⟨⟩⟩ y r h
  exact (g47_eq a0 a1 a2 a3 a4 a5).trans ((g47_ok a0 a1 a2 a3 a4 a5 r.2.1.1 r.2.1.2.1 r.2.1.2.2.1 r.2.1.2.2.2.1 r.2.2.1 r.2.2.2.1).trans h))
theorem all47 : ∀ g con, lookC L47 g = some con → FunOk Tryd.prog B (g % 1000000) con := gam_cons rfl ok47 all15

theorem ok14 : FunOk Tryd.prog B 14 c14 := glue L47 all47 plan14 Tryd.func14 (by kernel_rfl) (by
  rintro ⟨⟨⟩, ⟨a0, a1, a2, a3, ⟨⟩⟩, a4, ⟨⟩⟩ y r h
  exact (g14_eq a0 a1 a2 a3 a4).trans ((g14_ok a0 a1 a2 a3 a4 r.2.1.1 r.2.1.2.1 r.2.1.2.2.1 r.2.1.2.2.2.1 r.2.2.1).trans h))
theorem all14 : ∀ g con, lookC L14 g = some con → FunOk Tryd.prog B (g % 1000000) con := gam_cons rfl ok14 all47

theorem ok40 : FunOk Tryd.prog B 40 c40 := ⟨by decide, fun _ => sem40 (ok75.sem rfl) (ok77.sem rfl) (ok96.sem rfl), fun x h => (by cases h), Tryd.f40, Tryd.func40, by kernel_rfl, by kernel_rfl⟩
theorem all40 : ∀ g con, lookC L40 g = some con → FunOk Tryd.prog B (g % 1000000) con := gam_cons rfl ok40 all14

theorem ok10 : FunOk Tryd.prog B 10 c10 := glue L40 all40 plan10 Tryd.func10 (by kernel_rfl) (by
  rintro ⟨⟨⟩, ⟨a0, a1, a2, a3, ⟨⟩⟩, ⟨a4, a5, a6, a7, a8, a9, a10, a11, a12, a13, ⟨⟩⟩, ⟨⟩⟩ y r h
  exact (g10_eq a0 a1 a2 a3 a4 a5 a6 a7 a8 a9 a10 a11 a12 a13).trans ((g10_ok a0 a1 a2 a3 a4 a5 a6 a7 a8 a9 a10 a11 a12 a13 r.2.1.1 r.2.1.2.1 r.2.1.2.2.1 r.2.1.2.2.2.1 r.2.2.1.1 r.2.2.1.2.1 r.2.2.1.2.2.1 r.2.2.1.2.2.2.1 r.2.2.1.2.2.2.2.1 r.2.2.1.2.2.2.2.2.1 r.2.2.1.2.2.2.2.2.2.1 r.2.2.1.2.2.2.2.2.2.2.1 r.2.2.1.2.2.2.2.2.2.2.2.1 r.2.2.1.2.2.2.2.2.2.2.2.2.1).trans h))
theorem all10 : ∀ g con, lookC L10 g = some con → FunOk Tryd.prog B (g % 1000000) con := gam_cons rfl ok10 all40

theorem ok30 : FunOk Tryd.prog B 30 c30 := glue L10 all10 plan30 Tryd.func30 (by kernel_rfl) (by
  rintro ⟨⟨a0, a1, ⟨⟩⟩, ⟨a2, a3, a4, ⟨⟩⟩, ⟨⟩⟩ y r h
  obtain ⟨h1, h2⟩ := Sp13.on_some h
  subst h2
  exact (g30_eq a0 a1 a2 a3 a4).trans (g30_ok a0 a1 a2 a3 a4 r.1.1 r.1.2.1 r.2.1.1 r.2.1.2.1 r.2.1.2.2.1 h1))
theorem all30 : ∀ g con, lookC L30 g = some con → FunOk Tryd.prog B (g % 1000000) con := gam_cons rfl ok30 all10

theorem ok9 : FunOk Tryd.prog B 9 c9 := glue L30 all30 plan9 Tryd.func9 (by kernel_rfl) (by
  rintro ⟨⟨a0, a1, ⟨⟩⟩, ⟨⟩⟩ y r h
  obtain ⟨h1, h2⟩ := Sp13.on_some h
  subst h2
  exact (g9_eq a0 a1).trans (g9_ok a0 a1 r.1.1 r.1.2.1 h1))
theorem all9 : ∀ g con, lookC L9 g = some con → FunOk Tryd.prog B (g % 1000000) con := gam_cons rfl ok9 all30

theorem ok42 : FunOk Tryd.prog B 42 c42 := glue L9 all9 plan42 Tryd.func42 (by kernel_rfl) (by
  rintro ⟨⟨⟩, ⟨⟩⟩ y r h
  exact (g42_eq ).trans ((g42_ok  ).trans h))
theorem all42 : ∀ g con, lookC L42 g = some con → FunOk Tryd.prog B (g % 1000000) con := gam_cons rfl ok42 all9

theorem ok11 : FunOk Tryd.prog B 11 c11 := glue L42 all42 plan11 Tryd.func11 (by kernel_rfl) (by
  rintro ⟨⟨⟩, ⟨⟩⟩ y r h
  exact (g11_eq ).trans ((g11_ok  ).trans h))
theorem all11 : ∀ g con, lookC L11 g = some con → FunOk Tryd.prog B (g % 1000000) con := gam_cons rfl ok11 all42
end Go.Abs.C13
