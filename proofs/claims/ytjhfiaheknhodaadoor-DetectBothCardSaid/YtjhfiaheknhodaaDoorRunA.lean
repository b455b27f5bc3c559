/- Chapter 19: proved is, of each function that the laws reach, that the evaluator comes to the printed term; no conditions. -/
import Derived.Test.YtjhfiaheknhodaaDoorAbsD
import Derived.Test.YtjhfiaheknhodaaDoorProg
import Derived.KernelRfl
set_option linter.unusedVariables false
set_option linter.unusedSimpArgs false
/- Chapter 19: tables. -/
namespace Go.Abs.C19
open Go.Proofs
def tab : List (Nat × TI) := [
  (3, { size := 1, bytes := 8, agg := false, ty := (.int .i64), desc := (.int .i64), zero := [(.int .i64 0)], arr := none, cmp := none }),
  (4, { size := 1, bytes := 1, agg := false, ty := .bool, desc := .bool, zero := [(.bool false)], arr := none, cmp := none }),
  (5, { size := 1, bytes := 1, agg := false, ty := (.int .u8), desc := (.int .u8), zero := [(.int .u8 0)], arr := none, cmp := none }),
  (22, { size := 1, bytes := 24, agg := false, ty := (.sl (.int .i64)), desc := (.slice 3), zero := [(.sl 2 (.int .i64) [])], arr := none, cmp := none }),
  (24, { size := 3, bytes := 24, agg := true, ty := (.st 24 (.cons (.int .i64) (.cons (.int .i64) (.cons (.int .i64) .unit)))), desc := (.struct #[{ name := "State", type := 3, offset := 0, byteOffset := 0, embedded := false, tag := "", pkgPath := "" }, { name := "Limit", type := 3, offset := 1, byteOffset := 8, embedded := false, tag := "", pkgPath := "" }, { name := "Missed", type := 3, offset := 2, byteOffset := 16, embedded := false, tag := "", pkgPath := "" }]), zero := [(.int .i64 0), (.int .i64 0), (.int .i64 0)], arr := none, cmp := some [0, 0, 0] }),
  (25, { size := 1, bytes := 8, agg := false, ty := .unit, desc := (.pointer 51), zero := [.undef], arr := none, cmp := none }),
  (29, { size := 1, bytes := 8, agg := false, ty := (.int .i64), desc := (.int .i64), zero := [(.int .i64 0)], arr := none, cmp := none }),
  (38, { size := 1, bytes := 24, agg := false, ty := (.sl (.st 24 (.cons (.int .i64) (.cons (.int .i64) (.cons (.int .i64) .unit))))), desc := (.slice 24), zero := [(.sl 2 (.st 24 (.cons (.int .i64) (.cons (.int .i64) (.cons (.int .i64) .unit)))) [])], arr := none, cmp := none }),
  (51, { size := 2, bytes := 32, agg := true, ty := (.st 32 (.cons (.sl (.int .i64)) (.cons (.int .i64) .unit))), desc := (.struct #[{ name := "L", type := 22, offset := 0, byteOffset := 0, embedded := false, tag := "", pkgPath := "" }, { name := "At", type := 3, offset := 1, byteOffset := 24, embedded := false, tag := "", pkgPath := "" }]), zero := [(.sl 2 (.int .i64) []), (.int .i64 0)], arr := none, cmp := none }),
  (54, { size := 3, bytes := 24, agg := true, ty := (.st 24 (.cons (.int .i64) (.cons (.int .i64) (.cons (.int .i64) .unit)))), desc := (.array 3 3), zero := [(.int .i64 0), (.int .i64 0), (.int .i64 0)], arr := some (.int .i64), cmp := none }),
  (55, { size := 9, bytes := 72, agg := true, ty := (.st 72 (.cons (.st 24 (.cons (.int .i64) (.cons (.int .i64) (.cons (.int .i64) .unit)))) (.cons (.st 24 (.cons (.int .i64) (.cons (.int .i64) (.cons (.int .i64) .unit)))) (.cons (.st 24 (.cons (.int .i64) (.cons (.int .i64) (.cons (.int .i64) .unit)))) .unit)))), desc := (.array 3 54), zero := [(.int .i64 0), (.int .i64 0), (.int .i64 0), (.int .i64 0), (.int .i64 0), (.int .i64 0), (.int .i64 0), (.int .i64 0), (.int .i64 0)], arr := some (.int .i64), cmp := none })]
def cl : List (Nat × List Nat) := [(24, [0, 0, 0])]
def gl : List (Nat × (IntKind × List Int)) := [(0, (.i64, [1,2,0,1,2,2,0,2,2]))]
theorem tab_ok : tab.map (fun p => tiOf Tryd.prog cl p.1) = tab.map (fun p => some p.2) := by kernel_rfl
theorem cl_ok : cl.map (fun p => (kindsB Tryd.prog 8 p.1, Tryd.prog.eqGuardType Tryd.prog.depth p.1)) = cl.map (fun p => (some p.2, false)) := by kernel_rfl
theorem pok (n : Nat) (hp : Bool) (md : List (Nat × Nat)) : POk Tryd.prog (mkE tab gl n hp md) := pok_of cl tab_ok cl_ok n hp md
theorem mix : Tryd.prog.follows .mixedOrders = true := by kernel_rfl
abbrev E35 : Env := mkE tab gl 16 false [(15, 1), (0, 2), (4, 2)]
abbrev plan35 : Plan := (.sq .go (.sq (.sq .go (.sq .go .go)) (.sq .go (.sq (.sq .go (.cut [0, 28, 26, 24] [⟨0, [(0, (.lf (.int .i64)))], [22, 20, 18, 16, 14, 12, 10, 2]⟩] .go)) .go))))

abbrev E36 : Env := mkE tab gl 31 true [(30, 1), (17, 2), (2, 2)]
abbrev plan36 : Plan := (.sq .go (.sq (.sq .go (.sq .go .go)) (.sq .go .go)))

abbrev E18 : Env := mkE tab gl 9 true [(4, 2)]
abbrev plan18 : Plan := (.sq .go .go)

abbrev E34 : Env := mkE tab gl 9 false [(2, 2)]
abbrev plan34 : Plan := (.sq .go (.sq (.cut [6, 8, 10, 12, 14, 16, 4] [⟨0, [(4, (.lf .bool))], [0]⟩] .go) .go))

abbrev E16 : Env := mkE tab gl 38 false [(1, 2), (2, 2)]
abbrev plan16 : Plan := (.sq .go (.sq (.cut [6, 8, 10, 12, 14, 16, 18, 20, 22, 24, 26, 28, 30, 32, 34, 36, 38, 40, 42, 44, 46, 48, 50, 52, 54, 56, 58, 60, 62, 64, 66, 68, 70, 72, 74, 4] [⟨0, [(4, (.lf .bool))], [2, 0]⟩] .go) .go))

abbrev E20 : Env := mkE tab gl 27 false [(1, 2), (3, 2), (7, 2), (8, 2), (12, 2), (13, 2), (21, 2), (24, 2), (26, 2)]
abbrev plan20 : Plan := (.sq .go (.sq (.sq (.sq .go (.sq .go (.sq .go (.sq .go (.sq .go (.sq .go .go)))))) .go) (.sq .go .go)))

abbrev E19 : Env := mkE tab gl 24 false [(2, 2), (8, 2), (20, 2), (23, 2)]
abbrev plan19 : Plan := (.sq .go (.sq (.sq .go (.sq .go .go)) (.sq (.sq (.cut [18, 20, 22, 24, 26, 28] [⟨0, [(28, (.lf .bool))], [14, 12, 10, 0]⟩] .go) (.cut [30, 32, 34, 36, 38, 40, 42, 44, 5] [⟨0, [(5, (.boxv 1 true [(.int .i64), (.int .i64), (.int .i64)]))], [28, 2]⟩] .go)) .go)))

abbrev E10 : Env := mkE tab gl 11 false [(0, 2), (10, 2), (2, 2)]
abbrev plan10 : Plan := (.sq .go (.sq (.sq .go (.cut [12, 14, 0] [⟨0, [(0, (.lf (.sl 0 (.int .i64))))], [10, 8, 6]⟩] .go)) .go))

abbrev E21 : Env := mkE tab gl 15 true [(6, 2)]
abbrev plan21 : Plan := (.sq .go .go)

abbrev E32 : Env := mkE tab gl 11 true [(4, 2)]
abbrev plan32 : Plan := (.sq .go .go)

abbrev E39 : Env := mkE tab gl 6 true [(2, 2)]
abbrev plan39 : Plan := (.sq .go .go)

abbrev E40 : Env := mkE tab gl 12 true [(11, 1), (4, 2)]
abbrev plan40 : Plan := (.sq .go .go)

abbrev E33 : Env := mkE tab gl 17 true [(16, 1), (6, 2)]
abbrev plan33 : Plan := (.sq .go (.sq (.sq (.cut [1, 14, 16, 18, 20, 22, 24, 26] [⟨0, [(1, (.boxv 1 true [(.sl 0 (.int .i64)), (.int .i64)])), (26, (.lf .bool))], [4]⟩] .go) (.sq .go .go)) .go))

abbrev E17 : Env := mkE tab gl 13 true [(2, 2)]
abbrev plan17 : Plan := (.sq .go .go)

abbrev E11 : Env := mkE tab gl 41 true [(10, 2), (18, 2), (39, 2), (40, 2)]
abbrev plan11 : Plan := (.sq .go (.sq .go (.sq (.sq .go (.cut [11, 38, 1, 36, 34, 32, 30, 28] [⟨0, [(11, (.boxv 1 true [(.int .i64), (.int .i64), (.int .i64)])), (1, (.boxv 1 true [(.sl 0 (.int .i64)), (.int .i64)]))], [26, 24, 22, 20, 18, 16, 14, 12]⟩] .go)) (.sq (.sq (.cut [1, 40, 42, 44, 46, 48, 50, 52] [⟨0, [(1, (.boxv 1 true [(.sl 0 (.int .i64)), (.int .i64)])), (52, (.lf .bool))], [2]⟩] .go) (.cut [11, 78, 1, 76, 74, 72, 70, 68, 66, 64, 62, 60, 58, 56, 54] [⟨0, [(11, (.boxv 1 true [(.int .i64), (.int .i64), (.int .i64)])), (1, (.boxv 1 true [(.sl 0 (.int .i64)), (.int .i64)]))], [52]⟩] .go)) .go))))

abbrev E12 : Env := mkE tab gl 26 true [(18, 1), (25, 1), (10, 2), (9, 2), (8, 2)]
abbrev plan12 : Plan := (.sq .go (.sq .go (.sq (.sq .go (.sq (.loop [38, 40, 42, 44, 1, 46, 36, 18, 48, 32, 34, 20, 28, 30] [(1, (.boxv 1 true [(.sl 0 (.int .i64)), (.int .i64)])), (18, (.lf (.sl 2 (.int .i64)))), (20, (.lf (.int .i64)))] [26, 24, 22, 2] [⟨2, [(1, (.boxv 1 true [(.sl 0 (.int .i64)), (.int .i64)])), (18, (.lf (.sl 2 (.int .i64))))], [20, 26, 24, 22, 2, 4, 6]⟩] (.sq (.sq .go .go) (.sq .go .go))) .go)) .go)))

abbrev E13 : Env := mkE tab gl 59 false [(3, 2), (4, 2), (13, 2), (22, 2), (23, 2), (24, 2), (28, 2), (29, 2), (10, 2), (37, 2), (39, 2), (11, 2), (12, 2), (49, 2), (55, 2), (57, 2), (58, 2)]
abbrev plan13 : Plan := (.sq .go (.sq (.sq (.sq (.cut [28, 30, 32, 34, 36, 38, 40, 42, 26] [⟨0, [(26, (.lf .bool))], [0, 2]⟩] .go) (.sq .go (.sq .go (.sq .go .go)))) .go) (.sq (.sq .go (.sq (.loop [68, 70, 20, 72, 74, 76, 78, 80, 82, 84, 86, 22, 24, 88, 90, 92, 4, 26, 50, 52, 54, 48, 94, 96, 98, 9, 100, 102, 104, 106, 108, 110, 7, 112, 64, 66] [(9, (.boxv 1 true [(.int .i64), (.int .i64), (.int .i64)])), (7, (.boxv 1 true [(.int .i64), (.int .i64), (.int .i64)])), (64, (.lf (.int .i64)))] [48, 54, 52, 50, 26, 4] [⟨3, [(9, (.boxv 1 true [(.int .i64), (.int .i64), (.int .i64)])), (7, (.boxv 1 true [(.int .i64), (.int .i64), (.int .i64)]))], [64, 62, 60, 48, 54, 52, 50, 26, 4]⟩] (.sq .go (.sq .go (.sq (.sq (.sq .go (.sq .go (.sq .go (.sq (.sq .go (.cut [9, 98, 96, 94] [⟨0, [(9, (.boxv 1 true [(.int .i64), (.int .i64), (.int .i64)]))], []⟩] .go)) (.sq .go (.cut [7, 110, 108, 106] [⟨0, [(7, (.boxv 1 true [(.int .i64), (.int .i64), (.int .i64)]))], []⟩] .go)))))) .go) .go)))) .go)) .go)))

abbrev E14 : Env := mkE tab gl 61 false [(3, 2), (4, 2), (20, 2), (21, 2), (25, 2), (26, 2), (34, 2), (36, 2), (10, 2), (11, 2), (49, 2), (58, 2), (9, 2), (59, 2), (60, 2)]
abbrev plan14 : Plan := (.sq .go (.sq (.sq (.cut [24, 26, 28, 30, 32, 34, 36, 38] [⟨0, [(38, (.lf .bool))], [0, 2]⟩] .go) (.sq .go .go)) (.sq (.sq .go (.sq .go .go)) (.sq (.sq .go (.sq (.loop [18, 64, 62, 7, 116, 114, 112, 110, 108, 106, 104, 102, 100, 9, 98, 96, 94, 48, 46, 44, 38, 92, 90, 88, 86, 84, 82, 22, 20, 80, 78, 76, 74, 72, 70, 68, 66, 54, 56, 58, 60] [(18, (.lf (.int .i64))), (7, (.boxv 1 true [(.int .i64), (.int .i64), (.int .i64)])), (9, (.boxv 1 true [(.int .i64), (.int .i64), (.int .i64)]))] [48, 46, 44, 38] [⟨2, [(7, (.boxv 1 true [(.int .i64), (.int .i64), (.int .i64)])), (9, (.boxv 1 true [(.int .i64), (.int .i64), (.int .i64)]))], [18, 48, 46, 44, 38, 4]⟩] (.sq (.sq .go .go) (.sq (.sq (.sq .go (.sq .go (.sq (.sq .go (.cut [9, 98, 96, 94] [⟨0, [(9, (.boxv 1 true [(.int .i64), (.int .i64), (.int .i64)]))], []⟩] .go)) (.sq .go (.cut [7, 116, 114, 112] [⟨0, [(7, (.boxv 1 true [(.int .i64), (.int .i64), (.int .i64)]))], []⟩] .go))))) .go) .go))) .go)) .go))))

abbrev E27 : Env := mkE tab gl 10 false [(7, 2), (9, 2)]
abbrev plan27 : Plan := (.sq .go (.sq (.sq .go (.sq .go .go)) .go))

abbrev E28 : Env := mkE tab gl 10 false [(7, 2), (9, 2)]
abbrev plan28 : Plan := (.sq .go (.sq (.sq .go (.sq .go .go)) .go))

abbrev E25 : Env := mkE tab gl 8 false [(2, 2)]
abbrev plan25 : Plan := (.sq .go (.sq (.sq .go (.sq .go .go)) .go))

abbrev E26 : Env := mkE tab gl 8 false [(2, 2)]
abbrev plan26 : Plan := (.sq .go (.sq (.sq .go (.sq .go .go)) .go))

abbrev E22 : Env := mkE tab gl 33 false [(1, 2), (2, 2)]
abbrev plan22 : Plan := (.sq .go (.sq (.cut [6, 8, 10, 12, 14, 16, 18, 20, 22, 24, 26, 28, 30, 32, 34, 36, 38, 40, 42, 44, 46, 48, 50, 52, 54, 56, 58, 60, 62, 64, 4] [⟨0, [(4, (.lf .bool))], [2, 0]⟩] .go) .go))

abbrev E23 : Env := mkE tab gl 23 false [(1, 2), (6, 2), (10, 2), (13, 2), (22, 2)]
abbrev plan23 : Plan := (.sq .go (.sq (.sq .go (.sq .go .go)) (.sq (.sq .go (.sq .go .go)) (.sq .go (.sq (.sq .go (.cut [3, 42, 40] [⟨0, [(3, (.boxv 1 true [(.int .i64), (.int .i64), (.int .i64)]))], [38, 36, 34, 32, 30, 28, 26, 24, 22, 18, 16, 14, 10, 8, 6, 0]⟩] .go)) .go)))))

abbrev E24 : Env := mkE tab gl 51 false [(2, 2), (8, 2), (12, 2), (14, 2), (23, 2), (32, 2), (41, 2), (50, 2)]
abbrev plan24 : Plan := (.sq .go (.sq (.sq .go (.sq .go .go)) (.sq (.sq .go (.sq .go .go)) (.sq .go (.sq (.sq (.sq (.cut [30, 32, 34, 36, 38, 40, 42, 28] [⟨0, [(28, (.lf .bool))], [26, 22, 20, 18, 14, 12, 10, 0]⟩] .go) (.cut [44, 28, 60, 58, 56, 54, 52, 50, 48, 80, 2, 64, 96, 94, 92, 90, 88, 86, 84, 82, 98, 5, 66, 68, 70, 72, 74, 76, 78, 46, 62] [⟨0, [(5, (.boxv 1 true [(.int .i64), (.int .i64), (.int .i64)]))], [28, 2]⟩] (.sq .go (.sq (.cut [48, 50, 52, 54, 56, 58, 60, 46] [⟨0, [(46, (.lf .bool))], [28]⟩] .go) (.cut [62, 46, 78, 76, 74, 72, 70, 68, 66, 5, 98, 82, 84, 86, 88, 90, 92, 94, 96, 64, 2, 80] [⟨0, [(5, (.boxv 1 true [(.int .i64), (.int .i64), (.int .i64)]))], [46, 2]⟩] (.sq .go (.sq (.cut [66, 68, 70, 72, 74, 76, 78, 64] [⟨0, [(64, (.lf .bool))], [46]⟩] .go) (.cut [80, 2, 64, 96, 94, 92, 90, 88, 86, 84, 82, 98, 5] [⟨0, [(5, (.boxv 1 true [(.int .i64), (.int .i64), (.int .i64)]))], [64, 2]⟩] (.sq .go (.sq (.cut [84, 86, 88, 90, 92, 94, 96, 82] [⟨0, [(82, (.lf .bool))], [64, 2]⟩] .go) (.cut [5, 98] [⟨0, [(5, (.boxv 1 true [(.int .i64), (.int .i64), (.int .i64)]))], [82]⟩] .go))))))))))) .go) .go)))))

abbrev E37 : Env := mkE tab gl 9 false [(2, 2)]
abbrev plan37 : Plan := (.sq .go (.sq (.cut [6, 8, 10, 12, 14, 16, 4] [⟨0, [(4, (.lf .bool))], [0]⟩] .go) .go))

abbrev E38 : Env := mkE tab gl 9 false [(2, 2)]
abbrev plan38 : Plan := (.sq .go (.sq (.cut [6, 8, 10, 12, 14, 16, 4] [⟨0, [(4, (.lf .bool))], [0]⟩] .go) .go))

abbrev E15 : Env := mkE tab gl 64 false [(13, 2), (2, 2), (17, 2), (4, 2), (24, 2), (25, 2), (7, 2), (32, 2), (33, 2), (10, 2), (0, 2)]
abbrev plan15 : Plan := (.sq .go (.sq .go (.sq .go (.sq .go (.sq .go (.sq (.cut [70, 72, 74, 76, 78, 80, 82, 84, 86, 88, 90, 92, 94, 96, 98, 100, 102, 104, 106, 108, 110, 112, 114, 116, 118, 120, 122, 124, 126, 0] [⟨0, [(0, (.lf .bool))], [20, 18, 16, 68, 66, 64, 54, 62, 60, 58, 56, 14, 12, 10, 52, 50, 48, 38, 46, 44, 42, 40, 8, 6, 36, 34, 30, 32, 4, 2, 28, 26, 22, 24]⟩] .go) .go))))))

abbrev E29 : Env := mkE tab gl 48 false [(41, 1), (19, 1), (47, 1), (14, 2), (7, 2), (16, 2), (5, 2), (20, 2), (10, 2), (38, 2), (40, 2), (8, 2), (4, 2)]
abbrev plan29 : Plan := (.sq .go (.sq .go (.sq (.sq (.sq .go (.sq .go (.sq .go (.sq .go .go)))) .go) (.sq .go (.sq (.sq .go (.sq (.loop [52, 92, 90, 16, 82, 88, 86, 84, 76, 74, 72, 78, 80, 13, 60, 62, 64, 66, 68, 70, 40, 46, 44, 42, 32, 36, 34, 14, 30, 28, 22, 26, 24, 0, 2, 20, 58, 56, 54] [(52, (.lf (.int .i64))), (16, (.lf (.sl 2 (.int .i64)))), (13, (.boxv 1 true [(.int .i64), (.int .i64), (.int .i64)]))] [40, 46, 44, 42, 32, 36, 34, 14, 30, 28, 22, 26, 24, 0, 2] [⟨3, [(16, (.lf (.sl 2 (.int .i64))))], [52, 50, 48, 40, 46, 44, 42, 32, 36, 34, 14, 12, 30, 28, 22, 26, 24, 0, 2]⟩] (.sq .go (.sq .go (.sq (.sq (.sq .go (.sq (.sq (.cut [60, 62, 64, 66, 68, 70] [⟨0, [(60, (.lf (.int .i64))), (62, (.lf .bool)), (64, (.lf .bool)), (70, (.lf .bool))], []⟩] .go) (.cut [76, 74, 72, 78, 80, 13] [⟨0, [(13, (.boxv 1 true [(.int .i64), (.int .i64), (.int .i64)]))], []⟩] .go)) .go)) .go) .go)))) .go)) .go)))))

abbrev E30 : Env := mkE tab gl 46 false [(40, 1), (17, 1), (45, 1), (13, 2), (7, 2), (5, 2), (37, 2), (39, 2), (8, 2), (9, 2), (4, 2)]
abbrev plan30 : Plan := (.sq .go (.sq .go (.sq (.sq .go (.sq .go .go)) (.sq (.sq .go (.sq .go .go)) (.sq .go (.sq (.sq .go (.sq (.loop [18, 52, 50, 88, 16, 80, 86, 84, 82, 64, 66, 68, 70, 72, 74, 76, 78, 13, 40, 38, 36, 32, 30, 14, 28, 26, 20, 24, 22, 0, 62, 60, 58, 56, 54, 42, 44, 46, 48] [(18, (.lf (.int .i64))), (16, (.lf (.sl 2 (.int .i64)))), (13, (.boxv 1 true [(.int .i64), (.int .i64), (.int .i64)]))] [40, 38, 36, 32, 30, 14, 28, 26, 20, 24, 22, 0] [⟨2, [(16, (.lf (.sl 2 (.int .i64))))], [18, 40, 38, 36, 32, 30, 14, 12, 28, 26, 20, 24, 22, 0, 2]⟩] (.sq (.sq .go .go) (.sq (.sq (.sq (.sq .go (.cut [64, 66, 68, 70, 72, 74, 76, 78, 13] [⟨0, [(13, (.boxv 1 true [(.int .i64), (.int .i64), (.int .i64)]))], []⟩] .go)) .go) .go) .go))) .go)) .go))))))

abbrev E31 : Env := mkE tab gl 26 false [(5, 2)]
abbrev plan31 : Plan := (.sq .go (.sq (.sq .go (.sq .go .go)) (.sq (.sq .go (.sq (.loop [10, 32, 30, 50, 48, 46, 44, 42, 40, 38, 36, 34, 8, 22, 24, 26, 28] [(10, (.lf (.int .i64))), (8, (.lf .bool))] [20, 18, 16, 14, 12] [⟨1, [(8, (.lf .bool))], [10, 20, 18, 16, 14, 12, 0, 2]⟩, ⟨2, [(8, (.lf .bool))], [10, 20, 18, 16, 14, 12, 0, 2]⟩] (.sq (.sq .go .go) (.sq (.sq (.sq .go (.sq .go .go)) .go) .go))) .go)) .go)))

abbrev E3 : Env := mkE tab gl 129 false [(6, 2), (7, 2), (9, 2), (28, 2), (30, 2), (12, 2), (38, 2), (39, 2), (15, 2), (46, 2), (47, 2), (18, 2), (8, 2), (71, 2), (72, 2), (79, 2), (80, 2), (87, 2), (88, 2), (21, 2), (95, 2), (96, 2), (24, 2)]
abbrev plan3 : Plan := (.sq .go (.sq .go (.sq .go (.sq .go (.sq .go (.sq .go (.sq (.sq (.cut [98, 100, 102, 104, 106, 108, 110, 112, 114, 116, 118, 120, 122] [⟨0, [(122, (.lf .bool))], [96, 94, 92, 82, 90, 88, 86, 84, 80, 78, 76, 66, 74, 72, 70, 68, 24, 64, 62, 60, 58, 56, 54, 18, 52, 50, 0, 4, 6]⟩] .go) (.sq .go .go)) (.sq (.sq .go (.sq .go .go)) (.sq .go (.sq .go (.sq .go (.sq .go (.sq (.cut [196, 198, 200, 202, 204, 206, 208, 210, 212, 214, 216, 218, 220, 222, 224, 226, 228, 230, 232, 234, 236, 238, 240, 242, 244, 246, 248, 250, 252, 254, 256, 16] [⟨0, [(16, (.lf .bool))], [48, 46, 44, 194, 192, 190, 180, 188, 186, 184, 182, 42, 40, 38, 178, 176, 174, 164, 172, 170, 168, 166, 162, 160, 158, 148, 156, 154, 152, 150, 146, 144, 142, 132, 140, 138, 136, 134, 128, 126, 124, 122, 36, 34, 32, 30, 28, 26, 22, 20, 14, 12, 2]⟩] .go) .go)))))))))))))

abbrev E4 : Env := mkE tab gl 52 false [(5, 2), (14, 2), (16, 2), (26, 2), (27, 2), (10, 2), (4, 2)]
abbrev plan4 : Plan := (.sq .go (.sq .go (.sq .go .go)))

abbrev E5 : Env := mkE tab gl 83 false [(3, 2), (16, 2), (18, 2), (9, 2), (6, 2), (7, 2), (65, 2), (66, 2), (12, 2), (80, 2), (81, 2), (8, 2), (2, 2)]
abbrev plan5 : Plan := (.sq .go (.sq .go (.sq .go (.sq .go (.sq .go (.sq (.sq .go (.sq (.loop [16, 60, 58, 11, 9, 162, 160, 136, 138, 140, 142, 144, 146, 148, 150, 152, 154, 156, 158, 24, 23, 21, 22, 20, 118, 134, 132, 130, 128, 126, 124, 122, 120, 116, 114, 18, 112, 110, 14, 90, 92, 94, 96, 98, 100, 102, 104, 106, 108, 88, 86, 84, 82, 12, 62, 64, 66, 68, 70, 72, 74, 76, 78, 80, 4, 0, 26, 28, 30, 32, 34, 36, 38, 40, 42, 44, 56, 54, 52, 50, 48, 46, 29] [(16, (.lf (.int .i64))), (11, (.boxv 1 true [(.int .i64), (.int .i64), (.int .i64)])), (9, (.boxv 1 true [(.int .i64), (.int .i64), (.int .i64)])), (14, (.lf (.int .i64))), (12, (.lf (.int .i64))), (4, (.lf .bool)), (29, (.boxv 1 true [(.sl 0 (.int .i64)), (.int .i64)]))] [44, 42, 40, 38, 36, 34, 32, 30, 28, 26, 0] [⟨1, [(4, (.lf .bool))], [16, 14, 12, 44, 42, 40, 38, 10, 8, 36, 34, 32, 30, 6, 28, 26, 0]⟩, ⟨2, [(4, (.lf .bool))], [16, 14, 12, 44, 42, 40, 38, 10, 8, 36, 34, 32, 30, 6, 28, 26, 0]⟩] (.sq (.sq (.cut [29, 46, 48, 50, 52, 54, 56] [⟨0, [(29, (.boxv 1 true [(.sl 0 (.int .i64)), (.int .i64)])), (46, (.lf (.int .i64))), (48, (.lf .bool)), (50, (.lf .bool)), (56, (.lf .bool))], []⟩] .go) .go) (.sq (.sq (.sq .go (.sq (.sq (.cut [62, 64, 29, 66, 68, 70, 72, 74, 76, 78, 80] [⟨0, [(62, (.lf (.cst (.ptr 14 1 0)))), (64, (.lf (.int .i64))), (29, (.boxv 1 true [(.sl 0 (.int .i64)), (.int .i64)])), (66, (.lf .bool)), (68, (.lf .bool)), (80, (.lf .bool))], []⟩] .go) (.cut [88, 86, 18, 84, 82, 12] [⟨0, [(18, (.lf (.int .i64))), (12, (.lf (.int .i64)))], []⟩] (.sq .go .go))) (.sq (.sq (.cut [90, 92, 29, 94, 96, 98, 100, 102, 104, 106, 108] [⟨0, [(90, (.lf (.cst (.ptr 14 1 0)))), (92, (.lf (.int .i64))), (29, (.boxv 1 true [(.sl 0 (.int .i64)), (.int .i64)])), (94, (.lf .bool)), (96, (.lf .bool)), (108, (.lf .bool))], []⟩] .go) (.cut [116, 114, 18, 112, 110, 14] [⟨0, [(18, (.lf (.int .i64))), (14, (.lf (.int .i64)))], []⟩] (.sq .go .go))) (.sq .go (.sq (.sq (.cut [136, 138, 140, 142, 144, 146, 148, 150, 152, 154, 156, 158] [⟨0, [(136, (.lf (.int .i64))), (138, (.lf .bool)), (140, (.lf .bool)), (148, (.lf .bool)), (150, (.lf .bool)), (158, (.lf .bool))], []⟩] .go) (.sq .go .go)) .go))))) .go) .go))) .go)) .go))))))

abbrev E6 : Env := mkE tab gl 66 false [(3, 2), (5, 2), (6, 2), (26, 2), (31, 2), (7, 2), (4, 2)]
abbrev plan6 : Plan := (.sq .go (.sq .go (.sq .go (.sq (.sq .go (.sq (.loop [36, 38] [] [34, 32, 30, 28, 26, 24, 10, 22, 20, 6, 0, 2] [⟨2, [], [14, 12, 34, 32, 30, 28, 26, 24, 10, 22, 20, 6, 0, 2]⟩] (.sq (.sq .go .go) (.sq (.sq .go .go) .go))) .go)) .go))))

abbrev E7 : Env := mkE tab gl 119 false [(4, 2), (7, 2), (8, 2), (9, 2), (100, 2), (13, 2), (108, 2), (15, 2), (11, 2), (10, 2), (6, 2)]
abbrev plan7 : Plan := (.sq .go (.sq .go (.sq .go (.sq .go (.sq (.sq .go (.sq (.loop [60, 62] [] [58, 56, 54, 52, 50, 48, 46, 44, 42, 40, 38, 36, 14, 34, 32, 8, 0, 2, 4] [⟨2, [], [20, 18, 58, 56, 54, 52, 50, 48, 16, 46, 44, 42, 40, 38, 36, 14, 34, 32, 8, 0, 2, 4]⟩] (.sq (.sq .go .go) (.sq (.sq (.sq (.sq (.cut [] [] .go) .go) .go) .go) .go))) .go)) .go)))))

abbrev E8 : Env := mkE tab gl 67 false [(3, 2), (14, 2), (16, 2), (30, 2), (31, 2), (10, 2), (6, 2), (64, 2), (65, 2), (7, 2), (2, 2)]
abbrev plan8 : Plan := (.sq .go (.sq .go (.sq .go (.sq .go (.sq (.sq .go (.sq (.loop [14, 48, 46, 11, 9, 130, 128, 82, 84, 86, 88, 90, 92, 94, 96, 98, 100, 102, 104, 106, 108, 110, 112, 114, 116, 118, 120, 122, 124, 126, 70, 72, 74, 76, 78, 80, 12, 32, 30, 28, 26, 6, 24, 22, 0, 68, 66, 20, 19, 17, 18, 16, 50, 64, 62, 60, 58, 56, 54, 52, 4, 34, 36, 38, 40, 42, 44] [(14, (.lf (.int .i64))), (11, (.boxv 1 true [(.int .i64), (.int .i64), (.int .i64)])), (9, (.boxv 1 true [(.int .i64), (.int .i64), (.int .i64)])), (12, (.lf .bool)), (4, (.lf .bool))] [32, 30, 28, 26, 6, 24, 22, 0] [⟨1, [(4, (.lf .bool))], [14, 12, 10, 8, 32, 30, 28, 26, 6, 24, 22, 0]⟩, ⟨2, [(4, (.lf .bool))], [14, 12, 10, 8, 32, 30, 28, 26, 6, 24, 22, 0]⟩] (.sq (.sq .go .go) (.sq (.sq (.sq .go (.sq (.sq .go (.sq .go .go)) (.sq (.cut [70, 72, 74, 76, 78, 80, 12] [⟨0, [(70, (.lf .bool)), (72, (.lf .bool)), (80, (.lf .bool)), (12, (.lf .bool))], []⟩] .go) (.sq (.sq (.cut [82, 84, 86, 88, 90, 92, 94, 96, 98, 100, 102, 104, 106, 108, 110, 112, 114, 116, 118, 120, 122, 124, 126] [⟨0, [(82, (.lf .bool)), (84, (.lf .bool)), (102, (.lf .bool)), (104, (.lf .bool)), (126, (.lf .bool))], []⟩] .go) (.sq .go .go)) .go)))) .go) .go))) .go)) .go)))))

abbrev E9 : Env := mkE tab gl 85 false [(7, 2), (8, 2), (9, 2), (10, 2), (11, 2), (12, 2), (13, 2), (6, 2)]
abbrev plan9 : Plan := (.sq .go (.sq .go (.sq .go (.sq .go (.sq .go (.sq .go (.sq (.sq (.cut [64, 66, 68, 70, 72, 74, 76, 78, 80, 82, 84, 86, 88, 90] [⟨0, [(90, (.lf .bool))], [62, 60, 52, 58, 56, 54, 50, 48, 40, 46, 44, 42, 18, 38, 36, 16, 34, 32, 14, 30, 28, 0]⟩] .go) (.sq (.sq (.cut [92, 94, 96, 98, 100, 102, 104, 106, 108, 110, 112, 114, 116, 118, 120, 122, 12] [⟨0, [(12, (.lf .bool))], [90]⟩] .go) .go) .go)) (.sq .go (.sq .go (.sq (.cut [148, 150, 152, 154, 156, 158, 160, 162, 164, 166, 168, 12] [⟨0, [(12, (.lf .bool))], [146, 144, 136, 142, 140, 138, 134, 132, 124, 130, 128, 126, 90, 26, 24, 22, 20, 2, 4]⟩] .go) .go))))))))))
abbrev ses : List Lf := [.int .i64, .int .i64, .int .i64]
abbrev tape : List Lf := [.sl 0 (.int .i64), .int .i64]
end Go.Abs.C19

/- Chapter 19: what the functions come to. -/
namespace Sp19
abbrev S := Int × Int × Int × Unit
abbrev Tp := List Int × Int × Unit
def zs : S := (0, 0, 0, ())
def validLimit (n : Int) : Bool := decide (1 ≤ n) && decide (n ≤ 20)
def valid (s : S) : Bool := decide (0 ≤ s.1) && decide (s.1 < 3) && validLimit s.2.1 && decide (0 ≤ s.2.2.1) && decide (s.2.2.1 ≤ s.2.1) && (!decide (s.1 = 0) || decide (s.2.2.1 = 0))
def after (a b : Int) : Int := List.getD [1, 2, 0, 1, 2, 2, 0, 2, 2] (3 * a.toNat + b.toNat) 0
def hear (s : S) (r : Int) : S := bif valid s then (bif decide (0 ≤ r) && decide (r < 3) then (after s.1 r, s.2.1, 0, ()) else s) else zs
def tick (s : S) : S := bif valid s then (bif decide (s.1 = 0) then s else bif decide (s.2.2.1 = s.2.1) then (0, s.2.1, 0, ()) else (s.1, s.2.1, s.2.2.1 + 1, ())) else zs
def new (n : Int) : S × Int × Unit := bif validLimit n then ((0, n, 0, ()), 0, ()) else (zs, 2, ())
def within (n : Int) : Int := bif validLimit n then n + 2 else 0
def noBit (x k : Int) : Bool := decide (Go.IntKind.wrap .i64 ((BitVec.ofInt 64 x &&& BitVec.ofInt 64 k).toNat : Int) = 0)
def round (p : S × S) (x : Int) : S × S :=
  (bif noBit x 2 then hear (tick p.1) (tick p.2).1 else tick p.1, bif noBit x 1 then hear (tick p.2) (tick p.1).1 else tick p.2)
def rounds (p : S × S) (l : List Int) : S × S := l.foldl round p
def both (a b : S) (l : List Int) : S × S × Int × Unit :=
  bif valid a && valid b then (bif decide (l.length ≤ 300) then ((rounds (a, b) l).1, (rounds (a, b) l).2, 0, ()) else (zs, zs, 3, ())) else (zs, zs, 1, ())
/-- A tape that may be read. -/
def wf (t : Tp) : Bool := decide (0 ≤ t.2.1) && decide (t.2.1 ≤ t.1.length) && decide (t.1.length ≤ 600)
def cut (x n : Int) : Int := bif decide (n < 1) then 0 else x.emod n
def raw (t : Tp) : Int × Tp := bif decide (t.2.1 < t.1.length) then (t.1.getD t.2.1.toNat 0, t.1, t.2.1 + 1, ()) else (0, t)
def next (t : Tp) (n : Int) : Int × Tp := (cut (raw t).1 n, (raw t).2)
/-- Numbers of which none is near the ends. -/
def small (n : Int) : Bool := decide (-2305843009213693952 ≤ n) && decide (n ≤ 2305843009213693952)
def range (t : Tp) (a b : Int) : Int × Tp := (a + (next t (b - a + 1)).1, (next t (b - a + 1)).2)
def one (t : Tp) (n : Int) : Bool × Tp := (decide ((next t n).1 = n - 1), (next t n).2)
def more (t : Tp) : Bool := decide (t.2.1 < t.1.length)
def pick (t : Tp) (l : List Int) : Int × Tp := (l.getD (next t l.length).1.toNat 0, (next t l.length).2)
def wilds : List Int := [-1, 0, 1, 7, 8, 23, 24, 31, 32, 63, 64, 99, 100, 255, 256, 257, 1000, 1001, 1023, 1024, 1000000, 1000001, 1099511627776, 9223372036854775807, -9223372036854775808]
def wild (t : Tp) : Int × Tp := pick t wilds
def spoil (t : Tp) (x n : Int) : Int × Tp := bif decide (0 < n) then (bif (one t n).1 then wild (one t n).2 else (x, (one t n).2)) else (x, t)
def session0 (t : Tp) : S × Tp :=
  let a := next t 3
  let b := range a.2 1 5
  bif decide (a.1 = 0) then ((a.1, b.1, 0, ()), b.2) else
  let c := next b.2 (b.1 + 1)
  ((a.1, b.1, c.1, ()), c.2)
def session1 (s : S) (t : Tp) : S × Tp :=
  let a := spoil t s.1 2
  let b := spoil a.2 s.2.1 2
  let c := spoil b.2 s.2.2.1 2
  ((a.1, b.1, c.1, ()), c.2)
def session (t : Tp) (n : Int) : S × Tp :=
  let p := session0 t
  bif decide (0 < n) then (bif (one p.2 n).1 then session1 p.1 (one p.2 n).2 else (p.1, (one p.2 n).2)) else p
def intsN (lo hi : Int) : Nat → Tp → List Int → List Int × Tp
  | 0, t, acc => (acc, t)
  | n + 1, t, acc => intsN lo hi n (range t lo hi).2 (acc ++ [(range t lo hi).1])
def ints (t : Tp) (m lo hi : Int) : List Int × Tp := intsN lo hi (range t 0 m).1.toNat (range t 0 m).2 []
def tape (l : List Int) : Tp := (l.take 600, 0, ())
def act (s : S) (x : Int) : S := bif decide (0 ≤ x) && decide (x < 3) then hear s x else tick s
def plays (s : S) : List Int → List Int
  | [] => []
  | x :: r => (act s x).1 :: plays (act s x) r
def play (n : Int) (l : List Int) : List Int × Int × Unit := bif validLimit n then (bif decide (l.length ≤ 300) then (plays (0, n, 0, ()) l, 0, ()) else ([], 3, ())) else ([], 2, ())
def on {α : Type} (b : Bool) (x : α) : Option α := bif b then some x else none
end Sp19

/- Chapter 19: contracts, and the runs read off. -/
namespace Go.Abs.C19
open Go Go.Abs
abbrev i : Sh := .lf (.int .i64)
abbrev b : Sh := .lf .bool
abbrev ls : Sh := .lf (.sl 0 (.int .i64))
abbrev s : Sh := .agg ses
def c35 : Con := { hasP := false, pre := [], ps := [i, i], rs := .one i, post := [], F := fun x => some (Sp19.cut x.2.1 x.2.2.1, ()) }
def c36 : Con := { hasP := true, pre := tape, ps := [], rs := .one i, post := tape, F := fun x => Sp19.on (Sp19.wf x.1) (Sp19.raw x.1) }
def c18 : Con := { hasP := true, pre := tape, ps := [i], rs := .one i, post := tape, F := fun x => Sp19.on (Sp19.wf x.1) (Sp19.next x.1 x.2.1) }
def c34 : Con := { hasP := false, pre := [], ps := [i], rs := .one b, post := [], F := fun x => some (Sp19.validLimit x.2.1, ()) }
def c16 : Con := { hasP := false, pre := [], ps := [s], rs := .one b, post := [], F := fun x => some (Sp19.valid x.2.1, ()) }
def c20 : Con := { hasP := false, pre := [], ps := [s], rs := .one s, post := [], F := fun x => some (Sp19.tick x.2.1, ()) }
def c19 : Con := { hasP := false, pre := [], ps := [s, i], rs := .one s, post := [], F := fun x => some (Sp19.hear x.2.1 x.2.2.1, ()) }
def c21 : Con := { hasP := true, pre := tape, ps := [i, i], rs := .one i, post := tape, F := fun x => Sp19.on (Sp19.wf x.1 && Sp19.small x.2.1 && Sp19.small x.2.2.1) (Sp19.range x.1 x.2.1 x.2.2.1) }
def c32 : Con := { hasP := true, pre := tape, ps := [i], rs := .one b, post := tape, F := fun x => Sp19.on (Sp19.wf x.1 && Sp19.small x.2.1) (Sp19.one x.1 x.2.1) }
def c13 : Con := { hasP := false, pre := [], ps := [s, s, ls], rs := .tup [s, s, i], post := [], F := fun x => some (Sp19.both x.2.1 x.2.2.1 x.2.2.2.1, ()) }
def c14 : Con := { c13 with hasP := false }
def c37 : Con := { hasP := false, pre := [], ps := [i], rs := .one b, post := [], F := fun x => some (decide (0 ≤ x.2.1) && decide (x.2.1 < 3), ()) }
def c38 : Con := { c34 with hasP := false }
def c22 : Con := { c16 with hasP := false }
def c23 : Con := { c20 with hasP := false }
def c24 : Con := { c19 with hasP := false }
abbrev li : Sh := .lf (.sl 2 (.int .i64))
def c17 : Con := { hasP := true, pre := tape, ps := [], rs := .one b, post := tape, F := fun x => some (Sp19.more x.1, x.1) }
def c40 : Con := { hasP := true, pre := tape, ps := [ls], rs := .one i, post := tape, F := fun x => Sp19.on (Sp19.wf x.1 && decide (0 < x.2.1.length) && decide (x.2.1.length ≤ 1000)) (Sp19.pick x.1 x.2.1) }
def c39 : Con := { hasP := true, pre := tape, ps := [], rs := .one i, post := tape, F := fun x => Sp19.on (Sp19.wf x.1) (Sp19.wild x.1) }
def c33 : Con := { hasP := true, pre := tape, ps := [i, i], rs := .one i, post := tape, F := fun x => Sp19.on (Sp19.wf x.1 && Sp19.small x.2.2.1) (Sp19.spoil x.1 x.2.1 x.2.2.1) }
def c11 : Con := { hasP := true, pre := tape, ps := [i], rs := .one s, post := tape, F := fun x => Sp19.on (Sp19.wf x.1 && Sp19.small x.2.1) (Sp19.session x.1 x.2.1) }
def c12 : Con := { hasP := true, pre := tape, ps := [i, i, i], rs := .one li, post := tape, F := fun x => Sp19.on (Sp19.wf x.1 && decide (0 ≤ x.2.1) && decide (x.2.1 ≤ 1000) && Sp19.small x.2.2.1 && Sp19.small x.2.2.2.1) (Sp19.ints x.1 x.2.1 x.2.2.1 x.2.2.2.1) }
def c10 : Con := { hasP := false, pre := [], ps := [ls], rs := .newp tape, post := [], F := fun x => some (Sp19.tape x.2.1, ()) }
def c27 : Con := { hasP := false, pre := [], ps := [i], rs := .tup [s, i], post := [], F := fun x => some (Sp19.new x.2.1, ()) }
def c28 : Con := { c27 with hasP := false }
def c25 : Con := { hasP := false, pre := [], ps := [i], rs := .one i, post := [], F := fun x => some (Sp19.within x.2.1, ()) }
def c26 : Con := { c25 with hasP := false }
def c15 : Con := { hasP := false, pre := [], ps := [], rs := .one b, post := [], F := fun _ => some (true, ()) }
def c29 : Con := { hasP := false, pre := [], ps := [i, ls], rs := .tup [li, i], post := [], F := fun x => some (Sp19.play x.2.1 x.2.2.1, ()) }
def c30 : Con := { c29 with hasP := false }
def c31 : Con := { hasP := false, pre := [], ps := [ls, ls], rs := .one b, post := [], F := fun x => Sp19.on (decide (x.2.1.length ≤ 1000)) (decide (x.2.1 = x.2.2.1), ()) }
def c3 : Con := { hasP := false, pre := [], ps := [ls, ls, s, s], rs := .one b, post := [], F := fun _ => some (true, ()) }
def c4 : Con := { hasP := false, pre := [], ps := [ls, .lf (.int .u8)], rs := .one b, post := [], F := fun _ => some (true, ()) }
def c5 : Con := { hasP := false, pre := [], ps := [ls], rs := .one b, post := [], F := fun _ => some (true, ()) }
def c6 : Con := { hasP := false, pre := [], ps := [ls, s], rs := .one b, post := [], F := fun _ => some (true, ()) }
def c7 : Con := { hasP := false, pre := [], ps := [ls, s, i], rs := .one b, post := [], F := fun _ => some (true, ()) }
def c8 : Con := { c5 with hasP := false }
def c9 : Con := { hasP := false, pre := [], ps := [ls, ls, i], rs := .one b, post := [], F := fun _ => some (true, ()) }
abbrev L0 : List (Nat × Con) := []
abbrev G34 : Gam := lookC L0
abbrev L34 : List (Nat × Con) := ((34 : Nat), c34) :: L0
abbrev G16 : Gam := lookC L34
abbrev L16 : List (Nat × Con) := ((16 : Nat), c16) :: L34
abbrev G20 : Gam := lookC L16
abbrev L20 : List (Nat × Con) := ((20 : Nat), c20) :: L16
abbrev G19 : Gam := lookC L20
abbrev L19 : List (Nat × Con) := ((19 : Nat), c19) :: L20
abbrev G37 : Gam := lookC L19
abbrev L37 : List (Nat × Con) := ((37 : Nat), c37) :: L19
abbrev G38 : Gam := lookC L37
abbrev L38 : List (Nat × Con) := ((38 : Nat), c38) :: L37
abbrev G22 : Gam := lookC L38
abbrev L22 : List (Nat × Con) := ((22 : Nat), c22) :: L38
abbrev G23 : Gam := lookC L22
abbrev L23 : List (Nat × Con) := ((23 : Nat), c23) :: L22
abbrev G24 : Gam := lookC L23
abbrev L24 : List (Nat × Con) := ((24 : Nat), c24) :: L23
abbrev G35 : Gam := lookC L24
abbrev L35 : List (Nat × Con) := ((35 : Nat), c35) :: L24
abbrev G36 : Gam := lookC L35
abbrev L36 : List (Nat × Con) := ((36 : Nat), c36) :: L35
abbrev G18 : Gam := lookC L36
abbrev L18 : List (Nat × Con) := ((18 : Nat), c18) :: L36
abbrev G21 : Gam := lookC L18
abbrev L21 : List (Nat × Con) := ((21 : Nat), c21) :: L18
abbrev G32 : Gam := lookC L21
abbrev L32 : List (Nat × Con) := ((32 : Nat), c32) :: L21
abbrev G17 : Gam := lookC L32
abbrev L17 : List (Nat × Con) := ((17 : Nat), c17) :: L32
abbrev G40 : Gam := lookC L17
abbrev L40 : List (Nat × Con) := ((40 : Nat), c40) :: L17
abbrev G39 : Gam := lookC L40
abbrev L39 : List (Nat × Con) := ((39 : Nat), c39) :: L40
abbrev G33 : Gam := lookC L39
abbrev L33 : List (Nat × Con) := ((33 : Nat), c33) :: L39
abbrev G11 : Gam := lookC L33
abbrev L11 : List (Nat × Con) := ((11 : Nat), c11) :: L33
abbrev G12 : Gam := lookC L11
abbrev L12 : List (Nat × Con) := ((12 : Nat), c12) :: L11
abbrev G10 : Gam := lookC L12
abbrev L10 : List (Nat × Con) := ((10 : Nat), c10) :: L12
abbrev G13 : Gam := lookC L10
abbrev L13 : List (Nat × Con) := ((13 : Nat), c13) :: L10
abbrev G14 : Gam := lookC L13
abbrev L14 : List (Nat × Con) := ((14 : Nat), c14) :: L13
abbrev G27 : Gam := lookC L14
abbrev L27 : List (Nat × Con) := ((27 : Nat), c27) :: L14
abbrev G28 : Gam := lookC L27
abbrev L28 : List (Nat × Con) := ((28 : Nat), c28) :: L27
abbrev G25 : Gam := lookC L28
abbrev L25 : List (Nat × Con) := ((25 : Nat), c25) :: L28
abbrev G26 : Gam := lookC L25
abbrev L26 : List (Nat × Con) := ((26 : Nat), c26) :: L25
abbrev G15 : Gam := lookC L26
abbrev L15 : List (Nat × Con) := ((15 : Nat), c15) :: L26
abbrev G29 : Gam := lookC L15
abbrev L29 : List (Nat × Con) := ((29 : Nat), c29) :: L15
abbrev G30 : Gam := lookC L29
abbrev L30 : List (Nat × Con) := ((30 : Nat), c30) :: L29
abbrev G31 : Gam := lookC L30
abbrev L31 : List (Nat × Con) := ((31 : Nat), c31) :: L30
abbrev G3 : Gam := lookC L31
abbrev L3 : List (Nat × Con) := ((3 : Nat), c3) :: L31
abbrev G4 : Gam := lookC L3
abbrev L4 : List (Nat × Con) := ((4 : Nat), c4) :: L3
abbrev G5 : Gam := lookC L4
abbrev L5 : List (Nat × Con) := ((5 : Nat), c5) :: L4
abbrev G6 : Gam := lookC L5
abbrev L6 : List (Nat × Con) := ((6 : Nat), c6) :: L5
abbrev G7 : Gam := lookC L6
abbrev L7 : List (Nat × Con) := ((7 : Nat), c7) :: L6
abbrev G8 : Gam := lookC L7
abbrev L8 : List (Nat × Con) := ((8 : Nat), c8) :: L7
abbrev G9 : Gam := lookC L8
abbrev L9 : List (Nat × Con) := ((9 : Nat), c9) :: L8
noncomputable def g34 (a0 : Int) : (Option (Bool × Unit)) :=
  (Option.bind (bif (decide (a0 ≥ (1 : Int))) then (some ((decide (a0 ≤ (20 : Int))), ())) else (some (false, ()))) (fun y1 => (some y1)))
theorem g34_eq (a0 : Int) : (evF (fun _ _ => Loop) Go.Abs.C19.E34 Go.Abs.C19.G34 Go.Proofs.Tryd.f34 Go.Abs.C19.plan34 Go.Abs.C19.c34 ((), (a0, ()))).den = g34 a0 := by kernel_rfl

noncomputable def g16 (a0 : Int) (a1 : Int) (a2 : Int) : (Option (Bool × Unit)) :=
  (Option.bind (bif (decide (a0 ≥ (0 : Int))) then (bif (decide (a0 < (3 : Int))) then (bif (@Sp19.validLimit a1) then (bif (decide (a2 ≥ (0 : Int))) then (bif (decide (a2 ≤ a1)) then (bif (!(!(decide (a0 = (0 : Int))))) then (some ((decide (a2 = (0 : Int))), ())) else (some (true, ()))) else (some (false, ()))) else (some (false, ()))) else (some (false, ()))) else (some (false, ()))) else (some (false, ()))) (fun y3 => (some y3)))
theorem g16_eq (a0 : Int) (a1 : Int) (a2 : Int) : (evF (fun _ _ => Loop) Go.Abs.C19.E16 Go.Abs.C19.G16 Go.Proofs.Tryd.f16 Go.Abs.C19.plan16 Go.Abs.C19.c16 ((), ((a0, (a1, (a2, ()))), ()))).den = g16 a0 a1 a2 := by kernel_rfl

noncomputable def g20 (a0 : Int) (a1 : Int) (a2 : Int) : (Option ((Int × (Int × (Int × Unit))) × Unit)) :=
  (bif (!(@Sp19.valid (a0, (a1, (a2, ()))))) then (some (((0 : Int), ((0 : Int), ((0 : Int), ()))), ())) else (bif (decide (a0 = (0 : Int))) then (some ((a0, (a1, (a2, ()))), ())) else (bif (decide (a2 = a1)) then (some (((0 : Int), (a1, ((0 : Int), ()))), ())) else (some ((a0, (a1, ((IntKind.wrap Go.IntKind.i64 (a2 + (1 : Int))), ()))), ())))))
theorem g20_eq (a0 : Int) (a1 : Int) (a2 : Int) : (evF (fun _ _ => Loop) Go.Abs.C19.E20 Go.Abs.C19.G20 Go.Proofs.Tryd.f20 Go.Abs.C19.plan20 Go.Abs.C19.c20 ((), ((a0, (a1, (a2, ()))), ()))).den = g20 a0 a1 a2 := by kernel_rfl

noncomputable def g19 (a0 : Int) (a1 : Int) (a2 : Int) (a3 : Int) : (Option ((Int × (Int × (Int × Unit))) × Unit)) :=
  (bif (!(@Sp19.valid (a0, (a1, (a2, ()))))) then (some (((0 : Int), ((0 : Int), ((0 : Int), ()))), ())) else (Option.bind (bif (decide (a3 ≥ (0 : Int))) then (some ((decide (a3 < (3 : Int))), ())) else (some (false, ()))) (fun y4 => (Option.bind (bif y4.1 then (bif ((decide ((0 : Int) ≤ a0)) && (decide (a0 < (3 : Int)))) then (bif ((decide ((0 : Int) ≤ a3)) && (decide (a3 < (3 : Int)))) then (bif (@Nat.blt ((0 + ((Int.toNat a0) * 3)) + ((Int.toNat a3) * 1)) 9) then (some (((List.getD ((1 : Int) :: ((2 : Int) :: ((0 : Int) :: ((1 : Int) :: ((2 : Int) :: ((2 : Int) :: ((0 : Int) :: ((2 : Int) :: ((2 : Int) :: []))))))))) ((0 + ((Int.toNat a0) * 3)) + ((Int.toNat a3) * 1)) (0 : Int)), (a1, ((0 : Int), ()))), ())) else none) else none) else none) else (some ((a0, (a1, (a2, ()))), ()))) (fun y5 => (some y5))))))
theorem g19_eq (a0 : Int) (a1 : Int) (a2 : Int) (a3 : Int) : (evF (fun _ _ => Loop) Go.Abs.C19.E19 Go.Abs.C19.G19 Go.Proofs.Tryd.f19 Go.Abs.C19.plan19 Go.Abs.C19.c19 ((), ((a0, (a1, (a2, ()))), (a3, ())))).den = g19 a0 a1 a2 a3 := by kernel_rfl

noncomputable def g37 (a0 : Int) : (Option (Bool × Unit)) :=
  (Option.bind (bif (decide (a0 ≥ (0 : Int))) then (some ((decide (a0 ≤ (2 : Int))), ())) else (some (false, ()))) (fun y1 => (some y1)))
theorem g37_eq (a0 : Int) : (evF (fun _ _ => Loop) Go.Abs.C19.E37 Go.Abs.C19.G37 Go.Proofs.Tryd.f37 Go.Abs.C19.plan37 Go.Abs.C19.c37 ((), (a0, ()))).den = g37 a0 := by kernel_rfl

noncomputable def g38 (a0 : Int) : (Option (Bool × Unit)) :=
  (Option.bind (bif (decide (a0 ≥ (1 : Int))) then (some ((decide (a0 ≤ (20 : Int))), ())) else (some (false, ()))) (fun y1 => (some y1)))
theorem g38_eq (a0 : Int) : (evF (fun _ _ => Loop) Go.Abs.C19.E38 Go.Abs.C19.G38 Go.Proofs.Tryd.f38 Go.Abs.C19.plan38 Go.Abs.C19.c38 ((), (a0, ()))).den = g38 a0 := by kernel_rfl

noncomputable def g22 (a0 : Int) (a1 : Int) (a2 : Int) : (Option (Bool × Unit)) :=
  (Option.bind (bif ((decide ((0 : Int) ≤ a0)) && (decide (a0 < (3 : Int)))) then (bif (@Sp19.validLimit a1) then (bif (decide (a2 ≥ (0 : Int))) then (bif (decide (a2 ≤ a1)) then (bif (!(!(decide (a0 = (0 : Int))))) then (some ((decide (a2 = (0 : Int))), ())) else (some (true, ()))) else (some (false, ()))) else (some (false, ()))) else (some (false, ()))) else (some (false, ()))) (fun y3 => (some y3)))
theorem g22_eq (a0 : Int) (a1 : Int) (a2 : Int) : (evF (fun _ _ => Loop) Go.Abs.C19.E22 Go.Abs.C19.G22 Go.Proofs.Tryd.f22 Go.Abs.C19.plan22 Go.Abs.C19.c22 ((), ((a0, (a1, (a2, ()))), ()))).den = g22 a0 a1 a2 := by kernel_rfl

noncomputable def g23 (a0 : Int) (a1 : Int) (a2 : Int) : (Option ((Int × (Int × (Int × Unit))) × Unit)) :=
  (bif (!(@Sp19.valid (a0, (a1, (a2, ()))))) then (some (((0 : Int), ((0 : Int), ((0 : Int), ()))), ())) else (bif (decide (a0 = (0 : Int))) then (some ((a0, (a1, (a2, ()))), ())) else (Option.bind (bif (decide ((IntKind.wrap Go.IntKind.i64 (a2 + (1 : Int))) > a1)) then (some (((0 : Int), (a1, ((0 : Int), ()))), ())) else (some ((a0, (a1, ((IntKind.wrap Go.IntKind.i64 (a2 + (1 : Int))), ()))), ()))) (fun y3 => (some y3)))))
theorem g23_eq (a0 : Int) (a1 : Int) (a2 : Int) : (evF (fun _ _ => Loop) Go.Abs.C19.E23 Go.Abs.C19.G23 Go.Proofs.Tryd.f23 Go.Abs.C19.plan23 Go.Abs.C19.c23 ((), ((a0, (a1, (a2, ()))), ()))).den = g23 a0 a1 a2 := by kernel_rfl

noncomputable def g24 (a0 : Int) (a1 : Int) (a2 : Int) (a3 : Int) : (Option ((Int × (Int × (Int × Unit))) × Unit)) :=
  (bif (!(@Sp19.valid (a0, (a1, (a2, ()))))) then (some (((0 : Int), ((0 : Int), ((0 : Int), ()))), ())) else (bif (!((decide ((0 : Int) ≤ a3)) && (decide (a3 < (3 : Int))))) then (some ((a0, (a1, (a2, ()))), ())) else (Option.bind (bif (decide (a0 = (0 : Int))) then (some ((decide (a3 = (0 : Int))), ())) else (some (false, ()))) (fun y4 => (Option.bind (bif y4.1 then (some (((1 : Int), (a1, ((0 : Int), ()))), ())) else (Option.bind (bif (decide (a0 = (0 : Int))) then (some ((decide (a3 = (1 : Int))), ())) else (some (false, ()))) (fun y5 => (Option.bind (bif y5.1 then (some (((2 : Int), (a1, ((0 : Int), ()))), ())) else (Option.bind (bif (decide (a0 = (1 : Int))) then (some ((!(decide (a3 = (0 : Int)))), ())) else (some (false, ()))) (fun y6 => (Option.bind (bif y6.1 then (some (((2 : Int), (a1, ((0 : Int), ()))), ())) else (Option.bind (bif (decide (a0 = (2 : Int))) then (some ((decide (a3 = (0 : Int))), ())) else (some (false, ()))) (fun y7 => (Option.bind (bif y7.1 then (some (((0 : Int), (a1, ((0 : Int), ()))), ())) else (some ((a0, (a1, ((0 : Int), ()))), ()))) (fun y8 => (some y8)))))) (fun y7 => (some y7)))))) (fun y6 => (some y6)))))) (fun y5 => (some y5)))))))
theorem g24_eq (a0 : Int) (a1 : Int) (a2 : Int) (a3 : Int) : (evF (fun _ _ => Loop) Go.Abs.C19.E24 Go.Abs.C19.G24 Go.Proofs.Tryd.f24 Go.Abs.C19.plan24 Go.Abs.C19.c24 ((), ((a0, (a1, (a2, ()))), (a3, ())))).den = g24 a0 a1 a2 a3 := by kernel_rfl

noncomputable def g35 (a0 : Int) (a1 : Int) : (Option (Int × Unit)) :=
  (bif (decide (a1 < (1 : Int))) then (some ((0 : Int), ())) else (bif (!(decide (a1 = (0 : Int)))) then (Option.bind (bif (decide ((@Int.tmod a0 a1) < (0 : Int))) then (some ((IntKind.wrap Go.IntKind.i64 ((@Int.tmod a0 a1) + a1)), ())) else (some ((@Int.tmod a0 a1), ()))) (fun y2 => (some y2))) else none))
theorem g35_eq (a0 : Int) (a1 : Int) : (evF (fun _ _ => Loop) Go.Abs.C19.E35 Go.Abs.C19.G35 Go.Proofs.Tryd.f35 Go.Abs.C19.plan35 Go.Abs.C19.c35 ((), (a0, (a1, ())))).den = g35 a0 a1 := by kernel_rfl

noncomputable def g36 (a0 : (@List Int)) (a1 : Int) : (Option (Int × ((@List Int) × (Int × Unit)))) :=
  (bif (decide (a1 ≥ (Int.ofNat a0.length))) then (some ((0 : Int), (a0, (a1, ())))) else (bif ((decide ((0 : Int) ≤ (IntKind.wrap Go.IntKind.i64 ((IntKind.wrap Go.IntKind.i64 (a1 + (1 : Int))) - (1 : Int))))) && (decide ((IntKind.wrap Go.IntKind.i64 ((IntKind.wrap Go.IntKind.i64 (a1 + (1 : Int))) - (1 : Int))) < (Int.ofNat a0.length)))) then (some ((List.getD a0 (Int.toNat (IntKind.wrap Go.IntKind.i64 ((IntKind.wrap Go.IntKind.i64 (a1 + (1 : Int))) - (1 : Int)))) (0 : Int)), (a0, ((IntKind.wrap Go.IntKind.i64 (a1 + (1 : Int))), ())))) else none))
theorem g36_eq (a0 : (@List Int)) (a1 : Int) : (evF (fun _ _ => Loop) Go.Abs.C19.E36 Go.Abs.C19.G36 Go.Proofs.Tryd.f36 Go.Abs.C19.plan36 Go.Abs.C19.c36 ((a0, (a1, ())), ())).den = g36 a0 a1 := by kernel_rfl

noncomputable def g18 (a0 : (@List Int)) (a1 : Int) (a2 : Int) : (Option (Int × ((@List Int) × (Int × Unit)))) :=
  (Option.bind (@Sp19.on (Int × ((@List Int) × (Int × Unit))) (@Sp19.wf (a0, (a1, ()))) (@Sp19.raw (a0, (a1, ())))) (fun y3 => (some ((@Sp19.cut y3.1 a2), y3.2))))
theorem g18_eq (a0 : (@List Int)) (a1 : Int) (a2 : Int) : (evF (fun _ _ => Loop) Go.Abs.C19.E18 Go.Abs.C19.G18 Go.Proofs.Tryd.f18 Go.Abs.C19.plan18 Go.Abs.C19.c18 ((a0, (a1, ())), (a2, ()))).den = g18 a0 a1 a2 := by kernel_rfl

noncomputable def g21 (a0 : (@List Int)) (a1 : Int) (a2 : Int) (a3 : Int) : (Option (Int × ((@List Int) × (Int × Unit)))) :=
  (Option.bind (@Sp19.on (Int × ((@List Int) × (Int × Unit))) (@Sp19.wf (a0, (a1, ()))) (@Sp19.next (a0, (a1, ())) (IntKind.wrap Go.IntKind.i64 ((IntKind.wrap Go.IntKind.i64 (a3 - a2)) + (1 : Int))))) (fun y4 => (some ((IntKind.wrap Go.IntKind.i64 (a2 + y4.1)), y4.2))))
theorem g21_eq (a0 : (@List Int)) (a1 : Int) (a2 : Int) (a3 : Int) : (evF (fun _ _ => Loop) Go.Abs.C19.E21 Go.Abs.C19.G21 Go.Proofs.Tryd.f21 Go.Abs.C19.plan21 Go.Abs.C19.c21 ((a0, (a1, ())), (a2, (a3, ())))).den = g21 a0 a1 a2 a3 := by kernel_rfl

noncomputable def g32 (a0 : (@List Int)) (a1 : Int) (a2 : Int) : (Option (Bool × ((@List Int) × (Int × Unit)))) :=
  (Option.bind (@Sp19.on (Int × ((@List Int) × (Int × Unit))) (@Sp19.wf (a0, (a1, ()))) (@Sp19.next (a0, (a1, ())) a2)) (fun y3 => (some ((decide (y3.1 = (IntKind.wrap Go.IntKind.i64 (a2 - (1 : Int))))), y3.2))))
theorem g32_eq (a0 : (@List Int)) (a1 : Int) (a2 : Int) : (evF (fun _ _ => Loop) Go.Abs.C19.E32 Go.Abs.C19.G32 Go.Proofs.Tryd.f32 Go.Abs.C19.plan32 Go.Abs.C19.c32 ((a0, (a1, ())), (a2, ()))).den = g32 a0 a1 a2 := by kernel_rfl

noncomputable def g17 (a0 : (@List Int)) (a1 : Int) : (Option (Bool × ((@List Int) × (Int × Unit)))) :=
  (some ((decide (a1 < (Int.ofNat a0.length))), (a0, (a1, ()))))
theorem g17_eq (a0 : (@List Int)) (a1 : Int) : (evF (fun _ _ => Loop) Go.Abs.C19.E17 Go.Abs.C19.G17 Go.Proofs.Tryd.f17 Go.Abs.C19.plan17 Go.Abs.C19.c17 ((a0, (a1, ())), ())).den = g17 a0 a1 := by kernel_rfl

noncomputable def g40 (a0 : (@List Int)) (a1 : Int) (a2 : (@List Int)) : (Option (Int × ((@List Int) × (Int × Unit)))) :=
  (Option.bind (@Sp19.on (Int × ((@List Int) × (Int × Unit))) (@Sp19.wf (a0, (a1, ()))) (@Sp19.next (a0, (a1, ())) (Int.ofNat a2.length))) (fun y3 => (bif ((decide ((0 : Int) ≤ y3.1)) && (decide (y3.1 < (Int.ofNat a2.length)))) then (some ((List.getD a2 (Int.toNat y3.1) (0 : Int)), y3.2)) else none)))
theorem g40_eq (a0 : (@List Int)) (a1 : Int) (a2 : (@List Int)) : (evF (fun _ _ => Loop) Go.Abs.C19.E40 Go.Abs.C19.G40 Go.Proofs.Tryd.f40 Go.Abs.C19.plan40 Go.Abs.C19.c40 ((a0, (a1, ())), (a2, ()))).den = g40 a0 a1 a2 := by kernel_rfl

noncomputable def g33 (a0 : (@List Int)) (a1 : Int) (a2 : Int) (a3 : Int) : (Option (Int × ((@List Int) × (Int × Unit)))) :=
  (Option.bind (bif (decide (a3 > (0 : Int))) then (Option.bind (@Sp19.on (Bool × ((@List Int) × (Int × Unit))) ((@Sp19.wf (a0, (a1, ()))) && (@Sp19.small a3)) (@Sp19.one (a0, (a1, ())) a3)) (fun y4 => (some (y4.2, (y4.1, ()))))) else (some ((a0, (a1, ())), (false, ())))) (fun y4 => (bif y4.2.1 then (Option.bind (@Sp19.on (Int × ((@List Int) × (Int × Unit))) (@Sp19.wf y4.1) (@Sp19.wild y4.1)) (fun y5 => (some y5))) else (some (a2, y4.1)))))
theorem g33_eq (a0 : (@List Int)) (a1 : Int) (a2 : Int) (a3 : Int) : (evF (fun _ _ => Loop) Go.Abs.C19.E33 Go.Abs.C19.G33 Go.Proofs.Tryd.f33 Go.Abs.C19.plan33 Go.Abs.C19.c33 ((a0, (a1, ())), (a2, (a3, ())))).den = g33 a0 a1 a2 a3 := by kernel_rfl

noncomputable def g11 (a0 : (@List Int)) (a1 : Int) (a2 : Int) : (Option ((Int × (Int × (Int × Unit))) × ((@List Int) × (Int × Unit)))) :=
  (Option.bind (@Sp19.on (Int × ((@List Int) × (Int × Unit))) (@Sp19.wf (a0, (a1, ()))) (@Sp19.next (a0, (a1, ())) (3 : Int))) (fun y3 => (Option.bind (@Sp19.on (Int × ((@List Int) × (Int × Unit))) (((@Sp19.wf y3.2) && (@Sp19.small (1 : Int))) && (@Sp19.small (5 : Int))) (@Sp19.range y3.2 (1 : Int) (5 : Int))) (fun y4 => (Option.bind (bif (!(decide (y3.1 = (0 : Int)))) then (Option.bind (@Sp19.on (Int × ((@List Int) × (Int × Unit))) (@Sp19.wf y4.2) (@Sp19.next y4.2 (IntKind.wrap Go.IntKind.i64 (y4.1 + (1 : Int))))) (fun y5 => (some ((y3.1, (y4.1, (y5.1, ()))), (y5.2, ()))))) else (some ((y3.1, (y4.1, ((0 : Int), ()))), (y4.2, ())))) (fun y5 => (Option.bind (bif (decide (a2 > (0 : Int))) then (Option.bind (@Sp19.on (Bool × ((@List Int) × (Int × Unit))) ((@Sp19.wf y5.2.1) && (@Sp19.small a2)) (@Sp19.one y5.2.1 a2)) (fun y6 => (some (y6.2, (y6.1, ()))))) else (some (y5.2.1, (false, ())))) (fun y6 => (Option.bind (bif y6.2.1 then (Option.bind (@Sp19.on (Int × ((@List Int) × (Int × Unit))) ((@Sp19.wf y6.1) && (@Sp19.small (2 : Int))) (@Sp19.spoil y6.1 y5.1.1 (2 : Int))) (fun y7 => (Option.bind (@Sp19.on (Int × ((@List Int) × (Int × Unit))) ((@Sp19.wf y7.2) && (@Sp19.small (2 : Int))) (@Sp19.spoil y7.2 y5.1.2.1 (2 : Int))) (fun y8 => (Option.bind (@Sp19.on (Int × ((@List Int) × (Int × Unit))) ((@Sp19.wf y8.2) && (@Sp19.small (2 : Int))) (@Sp19.spoil y8.2 y5.1.2.2.1 (2 : Int))) (fun y9 => (some ((y7.1, (y8.1, (y9.1, ()))), (y9.2, ()))))))))) else (some (y5.1, (y6.1, ())))) (fun y7 => (some (y7.1, y7.2.1))))))))))))
theorem g11_eq (a0 : (@List Int)) (a1 : Int) (a2 : Int) : (evF (fun _ _ => Loop) Go.Abs.C19.E11 Go.Abs.C19.G11 Go.Proofs.Tryd.f11 Go.Abs.C19.plan11 Go.Abs.C19.c11 ((a0, (a1, ())), (a2, ()))).den = g11 a0 a1 a2 := by kernel_rfl

noncomputable def g12_s0 (a0 : Int) (a1 : Int) (a2 : (((@List Int) × (Int × Unit)) × ((@List Int) × (Int × Unit)))) : (Option (Sum (((@List Int) × (Int × Unit)) × ((@List Int) × (Int × Unit))) (((@List Int) × (Int × Unit)) × ((@List Int) × Unit)))) :=
  (bif (decide (a2.2.2.1 > (0 : Int))) then (Option.bind (@Sp19.on (Int × ((@List Int) × (Int × Unit))) (((@Sp19.wf a2.1) && (@Sp19.small a0)) && (@Sp19.small a1)) (@Sp19.range a2.1 a0 a1)) (fun y3 => (bif (@Nat.ble ((a2.2.1.length + 1) * 8) 140737488355328) then (some (.inl (y3.2, ((a2.2.1 ++ (y3.1 :: [])), ((IntKind.wrap Go.IntKind.i64 (a2.2.2.1 - (1 : Int))), ()))))) else none))) else (some (.inr (a2.1, (a2.2.1, ())))))
noncomputable def g12 (a0 : (@List Int)) (a1 : Int) (a2 : Int) (a3 : Int) (a4 : Int) : (Option ((@List Int) × ((@List Int) × (Int × Unit)))) :=
  (Option.bind (@Sp19.on (Int × ((@List Int) × (Int × Unit))) (((@Sp19.wf (a0, (a1, ()))) && (@Sp19.small (0 : Int))) && (@Sp19.small a2)) (@Sp19.range (a0, (a1, ())) (0 : Int) a2)) (fun y5 => (Option.bind (Loop (@g12_s0 a3 a4) (y5.2, ([], (y5.1, ())))) (fun y6 => (some (y6.2.1, y6.1))))))
theorem g12_eq (a0 : (@List Int)) (a1 : Int) (a2 : Int) (a3 : Int) (a4 : Int) : (evF (fun _ _ => Loop) Go.Abs.C19.E12 Go.Abs.C19.G12 Go.Proofs.Tryd.f12 Go.Abs.C19.plan12 Go.Abs.C19.c12 ((a0, (a1, ())), (a2, (a3, (a4, ()))))).den = g12 a0 a1 a2 a3 a4 := by kernel_rfl

noncomputable def g10 (a0 : (@List Int)) : (Option (((@List Int) × (Int × Unit)) × Unit)) :=
  (Option.bind (bif (decide ((Int.ofNat a0.length) > (600 : Int))) then (bif (true && (decide ((600 : Int) ≤ (Int.ofNat a0.length)))) then (some ((List.drop 0 (List.take 600 a0)), ())) else none) else (some (a0, ()))) (fun y1 => (some ((y1.1, ((0 : Int), ())), ()))))
theorem g10_eq (a0 : (@List Int)) : (evF (fun _ _ => Loop) Go.Abs.C19.E10 Go.Abs.C19.G10 Go.Proofs.Tryd.f10 Go.Abs.C19.plan10 Go.Abs.C19.c10 ((), (a0, ()))).den = g10 a0 := by kernel_rfl

noncomputable def g13_s0 (a0 : (@List Int)) (a1 : ((Int × (Int × (Int × Unit))) × ((Int × (Int × (Int × Unit))) × (Int × Unit)))) : (Option (Sum ((Int × (Int × (Int × Unit))) × ((Int × (Int × (Int × Unit))) × (Int × Unit))) ((Int × (Int × (Int × Unit))) × ((Int × (Int × (Int × Unit))) × Unit)))) :=
  (bif (decide (a1.2.2.1 < (Int.ofNat a0.length))) then (bif ((decide ((0 : Int) ≤ a1.2.2.1)) && (decide (a1.2.2.1 < (Int.ofNat a0.length)))) then (Option.bind (bif (decide ((IntKind.wrap Go.IntKind.i64 (Int.ofNat (@BitVec.toNat 64 (@BitVec.and 64 (@BitVec.ofInt 64 (List.getD a0 (Int.toNat a1.2.2.1) (0 : Int))) (@BitVec.ofInt 64 (1 : Int)))))) = (0 : Int))) then (some ((@Sp19.hear (@Sp19.tick a1.1) (@Sp19.tick a1.2.1).1), ())) else (some ((@Sp19.tick a1.1), ()))) (fun y2 => (Option.bind (bif (decide ((IntKind.wrap Go.IntKind.i64 (Int.ofNat (@BitVec.toNat 64 (@BitVec.and 64 (@BitVec.ofInt 64 (List.getD a0 (Int.toNat a1.2.2.1) (0 : Int))) (@BitVec.ofInt 64 (2 : Int)))))) = (0 : Int))) then (some ((@Sp19.hear (@Sp19.tick a1.2.1) (@Sp19.tick a1.1).1), ())) else (some ((@Sp19.tick a1.2.1), ()))) (fun y3 => (some (.inl (y2.1, (y3.1, ((IntKind.wrap Go.IntKind.i64 (a1.2.2.1 + (1 : Int))), ()))))))))) else none) else (some (.inr (a1.1, (a1.2.1, ())))))
noncomputable def g13 (a0 : Int) (a1 : Int) (a2 : Int) (a3 : Int) (a4 : Int) (a5 : Int) (a6 : (@List Int)) : (Option (((Int × (Int × (Int × Unit))) × ((Int × (Int × (Int × Unit))) × (Int × Unit))) × Unit)) :=
  (Option.bind (bif (!(!(@Sp19.valid (a0, (a1, (a2, ())))))) then (some ((!(@Sp19.valid (a3, (a4, (a5, ()))))), ())) else (some (true, ()))) (fun y7 => (bif y7.1 then (some ((((0 : Int), ((0 : Int), ((0 : Int), ()))), (((0 : Int), ((0 : Int), ((0 : Int), ()))), ((1 : Int), ()))), ())) else (bif (decide ((Int.ofNat a6.length) > (300 : Int))) then (some ((((0 : Int), ((0 : Int), ((0 : Int), ()))), (((0 : Int), ((0 : Int), ((0 : Int), ()))), ((3 : Int), ()))), ())) else (Option.bind (Loop (@g13_s0 a6) ((a3, (a4, (a5, ()))), ((a0, (a1, (a2, ()))), ((0 : Int), ())))) (fun y8 => (some ((y8.2.1, (y8.1, ((0 : Int), ()))), ()))))))))
theorem g13_eq (a0 : Int) (a1 : Int) (a2 : Int) (a3 : Int) (a4 : Int) (a5 : Int) (a6 : (@List Int)) : (evF (fun _ _ => Loop) Go.Abs.C19.E13 Go.Abs.C19.G13 Go.Proofs.Tryd.f13 Go.Abs.C19.plan13 Go.Abs.C19.c13 ((), ((a0, (a1, (a2, ()))), ((a3, (a4, (a5, ()))), (a6, ()))))).den = g13 a0 a1 a2 a3 a4 a5 a6 := by kernel_rfl

noncomputable def g14_s0 (a0 : (@List Int)) (a1 : (Int × ((Int × (Int × (Int × Unit))) × ((Int × (Int × (Int × Unit))) × Unit)))) : (Option (Sum (Int × ((Int × (Int × (Int × Unit))) × ((Int × (Int × (Int × Unit))) × Unit))) ((Int × (Int × (Int × Unit))) × ((Int × (Int × (Int × Unit))) × Unit)))) :=
  (bif (decide (a1.1 < (Int.ofNat a0.length))) then (bif ((decide ((0 : Int) ≤ a1.1)) && (decide (a1.1 < (Int.ofNat a0.length)))) then (Option.bind (bif (decide ((IntKind.wrap Go.IntKind.i64 (Int.ofNat (@BitVec.toNat 64 (@BitVec.and 64 (@BitVec.ofInt 64 (List.getD a0 (Int.toNat a1.1) (0 : Int))) (@BitVec.ofInt 64 (1 : Int)))))) = (0 : Int))) then (some ((@Sp19.hear (@Sp19.tick a1.2.2.1) (@Sp19.tick a1.2.1).1), ())) else (some ((@Sp19.tick a1.2.2.1), ()))) (fun y2 => (bif ((decide ((0 : Int) ≤ a1.1)) && (decide (a1.1 < (Int.ofNat a0.length)))) then (Option.bind (bif (decide ((IntKind.wrap Go.IntKind.i64 (Int.ofNat (@BitVec.toNat 64 (@BitVec.and 64 (@BitVec.ofInt 64 (List.getD a0 (Int.toNat a1.1) (0 : Int))) (@BitVec.ofInt 64 (2 : Int)))))) = (0 : Int))) then (some ((@Sp19.hear (@Sp19.tick a1.2.1) (@Sp19.tick a1.2.2.1).1), ())) else (some ((@Sp19.tick a1.2.1), ()))) (fun y3 => (some (.inl ((IntKind.wrap Go.IntKind.i64 (a1.1 + (1 : Int))), (y3.1, y2)))))) else none))) else none) else (some (.inr a1.2)))
noncomputable def g14 (a0 : Int) (a1 : Int) (a2 : Int) (a3 : Int) (a4 : Int) (a5 : Int) (a6 : (@List Int)) : (Option (((Int × (Int × (Int × Unit))) × ((Int × (Int × (Int × Unit))) × (Int × Unit))) × Unit)) :=
  (Option.bind (bif (!(!(@Sp19.valid (a0, (a1, (a2, ())))))) then (some ((!(@Sp19.valid (a3, (a4, (a5, ()))))), ())) else (some (true, ()))) (fun y7 => (bif y7.1 then (some ((((0 : Int), ((0 : Int), ((0 : Int), ()))), (((0 : Int), ((0 : Int), ((0 : Int), ()))), ((1 : Int), ()))), ())) else (bif (decide ((Int.ofNat a6.length) > (300 : Int))) then (some ((((0 : Int), ((0 : Int), ((0 : Int), ()))), (((0 : Int), ((0 : Int), ((0 : Int), ()))), ((3 : Int), ()))), ())) else (Option.bind (Loop (@g14_s0 a6) ((0 : Int), ((a0, (a1, (a2, ()))), ((a3, (a4, (a5, ()))), ())))) (fun y8 => (some ((y8.1, (y8.2.1, ((0 : Int), ()))), ()))))))))
theorem g14_eq (a0 : Int) (a1 : Int) (a2 : Int) (a3 : Int) (a4 : Int) (a5 : Int) (a6 : (@List Int)) : (evF (fun _ _ => Loop) Go.Abs.C19.E14 Go.Abs.C19.G14 Go.Proofs.Tryd.f14 Go.Abs.C19.plan14 Go.Abs.C19.c14 ((), ((a0, (a1, (a2, ()))), ((a3, (a4, (a5, ()))), (a6, ()))))).den = g14 a0 a1 a2 a3 a4 a5 a6 := by kernel_rfl

noncomputable def g27 (a0 : Int) : (Option (((Int × (Int × (Int × Unit))) × (Int × Unit)) × Unit)) :=
  (bif (!(@Sp19.validLimit a0)) then (some ((((0 : Int), ((0 : Int), ((0 : Int), ()))), ((2 : Int), ())), ())) else (some ((((0 : Int), (a0, ((0 : Int), ()))), ((0 : Int), ())), ())))
theorem g27_eq (a0 : Int) : (evF (fun _ _ => Loop) Go.Abs.C19.E27 Go.Abs.C19.G27 Go.Proofs.Tryd.f27 Go.Abs.C19.plan27 Go.Abs.C19.c27 ((), (a0, ()))).den = g27 a0 := by kernel_rfl

noncomputable def g28 (a0 : Int) : (Option (((Int × (Int × (Int × Unit))) × (Int × Unit)) × Unit)) :=
  (bif (!(@Sp19.validLimit a0)) then (some ((((0 : Int), ((0 : Int), ((0 : Int), ()))), ((2 : Int), ())), ())) else (some ((((0 : Int), (a0, ((0 : Int), ()))), ((0 : Int), ())), ())))
theorem g28_eq (a0 : Int) : (evF (fun _ _ => Loop) Go.Abs.C19.E28 Go.Abs.C19.G28 Go.Proofs.Tryd.f28 Go.Abs.C19.plan28 Go.Abs.C19.c28 ((), (a0, ()))).den = g28 a0 := by kernel_rfl

noncomputable def g25 (a0 : Int) : (Option (Int × Unit)) :=
  (bif (!(@Sp19.validLimit a0)) then (some ((0 : Int), ())) else (some ((IntKind.wrap Go.IntKind.i64 (a0 + (2 : Int))), ())))
theorem g25_eq (a0 : Int) : (evF (fun _ _ => Loop) Go.Abs.C19.E25 Go.Abs.C19.G25 Go.Proofs.Tryd.f25 Go.Abs.C19.plan25 Go.Abs.C19.c25 ((), (a0, ()))).den = g25 a0 := by kernel_rfl

noncomputable def g26 (a0 : Int) : (Option (Int × Unit)) :=
  (bif (!(@Sp19.validLimit a0)) then (some ((0 : Int), ())) else (some ((IntKind.wrap Go.IntKind.i64 (a0 + (2 : Int))), ())))
theorem g26_eq (a0 : Int) : (evF (fun _ _ => Loop) Go.Abs.C19.E26 Go.Abs.C19.G26 Go.Proofs.Tryd.f26 Go.Abs.C19.plan26 Go.Abs.C19.c26 ((), (a0, ()))).den = g26 a0 := by kernel_rfl

noncomputable def g29_s0 (a0 : (@List Int)) (a1 : (Int × ((@List Int) × ((Int × (Int × (Int × Unit))) × Unit)))) : (Option (Sum (Int × ((@List Int) × ((Int × (Int × (Int × Unit))) × Unit))) ((@List Int) × Unit))) :=
  (bif (decide (a1.1 < (Int.ofNat a0.length))) then (bif ((decide ((0 : Int) ≤ a1.1)) && (decide (a1.1 < (Int.ofNat a0.length)))) then (Option.bind (bif (decide ((List.getD a0 (Int.toNat a1.1) (0 : Int)) ≥ (0 : Int))) then (some ((List.getD a0 (Int.toNat a1.1) (0 : Int)), ((decide ((List.getD a0 (Int.toNat a1.1) (0 : Int)) ≥ (0 : Int))), (true, ((decide ((List.getD a0 (Int.toNat a1.1) (0 : Int)) < (3 : Int))), ()))))) else (some ((List.getD a0 (Int.toNat a1.1) (0 : Int)), ((decide ((List.getD a0 (Int.toNat a1.1) (0 : Int)) ≥ (0 : Int))), (false, (false, ())))))) (fun y2 => (Option.bind (bif y2.2.2.2.1 then (some ((@Sp19.hear a1.2.2.1 (List.getD a0 (Int.toNat a1.1) (0 : Int))), ())) else (some ((@Sp19.tick a1.2.2.1), ()))) (fun y3 => (bif (@Nat.ble ((a1.2.1.length + 1) * 8) 140737488355328) then (some (.inl ((IntKind.wrap Go.IntKind.i64 (a1.1 + (1 : Int))), ((a1.2.1 ++ (y3.1.1 :: [])), y3)))) else none))))) else none) else (some (.inr (a1.2.1, ()))))
noncomputable def g29 (a0 : Int) (a1 : (@List Int)) : (Option (((@List Int) × (Int × Unit)) × Unit)) :=
  (bif (!(decide ((@Sp19.new a0).2.1 = (0 : Int)))) then (some (([], (@Sp19.new a0).2), ())) else (bif (decide ((Int.ofNat a1.length) > (300 : Int))) then (some (([], ((3 : Int), ())), ())) else (Option.bind (Loop (@g29_s0 a1) ((0 : Int), ([], ((@Sp19.new a0).1, ())))) (fun y2 => (some ((y2.1, ((0 : Int), ())), ()))))))
theorem g29_eq (a0 : Int) (a1 : (@List Int)) : (evF (fun _ _ => Loop) Go.Abs.C19.E29 Go.Abs.C19.G29 Go.Proofs.Tryd.f29 Go.Abs.C19.plan29 Go.Abs.C19.c29 ((), (a0, (a1, ())))).den = g29 a0 a1 := by kernel_rfl

noncomputable def g30_s0 (a0 : (@List Int)) (a1 : (Int × ((@List Int) × ((Int × (Int × (Int × Unit))) × Unit)))) : (Option (Sum (Int × ((@List Int) × ((Int × (Int × (Int × Unit))) × Unit))) ((@List Int) × Unit))) :=
  (bif (decide (a1.1 < (Int.ofNat a0.length))) then (bif ((decide ((0 : Int) ≤ a1.1)) && (decide (a1.1 < (Int.ofNat a0.length)))) then (Option.bind (bif ((decide ((0 : Int) ≤ (List.getD a0 (Int.toNat a1.1) (0 : Int)))) && (decide ((List.getD a0 (Int.toNat a1.1) (0 : Int)) < (3 : Int)))) then (bif ((decide ((0 : Int) ≤ a1.1)) && (decide (a1.1 < (Int.ofNat a0.length)))) then (some ((@Sp19.hear a1.2.2.1 (List.getD a0 (Int.toNat a1.1) (0 : Int))), ())) else none) else (some ((@Sp19.tick a1.2.2.1), ()))) (fun y2 => (bif (@Nat.ble ((a1.2.1.length + 1) * 8) 140737488355328) then (some (.inl ((IntKind.wrap Go.IntKind.i64 (a1.1 + (1 : Int))), ((a1.2.1 ++ (y2.1.1 :: [])), y2)))) else none))) else none) else (some (.inr (a1.2.1, ()))))
noncomputable def g30 (a0 : Int) (a1 : (@List Int)) : (Option (((@List Int) × (Int × Unit)) × Unit)) :=
  (bif (!(decide ((@Sp19.new a0).2.1 = (0 : Int)))) then (some (([], (@Sp19.new a0).2), ())) else (bif (decide ((Int.ofNat a1.length) > (300 : Int))) then (some (([], ((3 : Int), ())), ())) else (Option.bind (Loop (@g30_s0 a1) ((0 : Int), ([], ((@Sp19.new a0).1, ())))) (fun y2 => (some ((y2.1, ((0 : Int), ())), ()))))))
theorem g30_eq (a0 : Int) (a1 : (@List Int)) : (evF (fun _ _ => Loop) Go.Abs.C19.E30 Go.Abs.C19.G30 Go.Proofs.Tryd.f30 Go.Abs.C19.plan30 Go.Abs.C19.c30 ((), (a0, (a1, ())))).den = g30 a0 a1 := by kernel_rfl

noncomputable def g31_s0 (a0 : (@List Int)) (a1 : (@List Int)) (a2 : (Int × (Bool × Unit))) : (Option (Sum (Int × (Bool × Unit)) (Bool × ((Bool × Unit) × (Bool × Unit))))) :=
  (bif (decide (a2.1 < (Int.ofNat a0.length))) then (bif ((decide ((0 : Int) ≤ a2.1)) && (decide (a2.1 < (Int.ofNat a0.length)))) then (bif ((decide ((0 : Int) ≤ a2.1)) && (decide (a2.1 < (Int.ofNat a1.length)))) then (bif (!(decide ((List.getD a0 (Int.toNat a2.1) (0 : Int)) = (List.getD a1 (Int.toNat a2.1) (0 : Int))))) then (some (.inr (true, ((false, ()), (false, ()))))) else (some (.inl ((IntKind.wrap Go.IntKind.i64 (a2.1 + (1 : Int))), a2.2)))) else none) else none) else (some (.inr (false, ((false, ()), a2.2)))))
noncomputable def g31 (a0 : (@List Int)) (a1 : (@List Int)) : (Option (Bool × Unit)) :=
  (bif (!(decide ((Int.ofNat a0.length) = (Int.ofNat a1.length)))) then (some (false, ())) else (Option.bind (Loop (@g31_s0 a0 a1) ((0 : Int), (false, ()))) (fun y2 => (bif y2.1 then (some y2.2.1) else (some (true, ()))))))
theorem g31_eq (a0 : (@List Int)) (a1 : (@List Int)) : (evF (fun _ _ => Loop) Go.Abs.C19.E31 Go.Abs.C19.G31 Go.Proofs.Tryd.f31 Go.Abs.C19.plan31 Go.Abs.C19.c31 ((), (a0, (a1, ())))).den = g31 a0 a1 := by kernel_rfl

noncomputable def g3 (a0 : (@List Int)) (a1 : (@List Int)) (a2 : Int) (a3 : Int) (a4 : Int) (a5 : Int) (a6 : Int) (a7 : Int) : (Option (Bool × Unit)) :=
  (Option.bind (@Sp19.on ((Int × (Int × (Int × Unit))) × ((@List Int) × (Int × Unit))) ((@Sp19.wf (@Sp19.tape a0)) && (@Sp19.small (6 : Int))) (@Sp19.session (@Sp19.tape a0) (6 : Int))) (fun y8 => (Option.bind (@Sp19.on ((Int × (Int × (Int × Unit))) × ((@List Int) × (Int × Unit))) ((@Sp19.wf y8.2) && (@Sp19.small (6 : Int))) (@Sp19.session y8.2 (6 : Int))) (fun y9 => (Option.bind (@Sp19.on ((@List Int) × ((@List Int) × (Int × Unit))) (((((@Sp19.wf y9.2) && (decide ((0 : Int) ≤ (20 : Int)))) && (decide ((20 : Int) ≤ (1000 : Int)))) && (@Sp19.small (0 : Int))) && (@Sp19.small (3 : Int))) (@Sp19.ints y9.2 (20 : Int) (0 : Int) (3 : Int))) (fun y10 => (Option.bind (bif (!(!((decide ((@Sp19.both y8.1 y9.1 y10.1).1.1 = (@Sp19.both y8.1 y9.1 y10.1).1.1)) && ((decide ((@Sp19.both y8.1 y9.1 y10.1).1.2.1 = (@Sp19.both y8.1 y9.1 y10.1).1.2.1)) && ((decide ((@Sp19.both y8.1 y9.1 y10.1).1.2.2.1 = (@Sp19.both y8.1 y9.1 y10.1).1.2.2.1)) && true))))) then (bif (!(!((decide ((@Sp19.both y8.1 y9.1 y10.1).2.1.1 = (@Sp19.both y8.1 y9.1 y10.1).2.1.1)) && ((decide ((@Sp19.both y8.1 y9.1 y10.1).2.1.2.1 = (@Sp19.both y8.1 y9.1 y10.1).2.1.2.1)) && ((decide ((@Sp19.both y8.1 y9.1 y10.1).2.1.2.2.1 = (@Sp19.both y8.1 y9.1 y10.1).2.1.2.2.1)) && true))))) then (some ((!(decide ((@Sp19.both y8.1 y9.1 y10.1).2.2.1 = (@Sp19.both y8.1 y9.1 y10.1).2.2.1))), ())) else (some (true, ()))) else (some (true, ()))) (fun y11 => (bif y11.1 then (some (false, ())) else (bif (decide ((Int.ofNat a1.length) > (1000 : Int))) then (some (true, ())) else (Option.bind (bif ((decide ((@Sp19.both (a2, (a3, (a4, ()))) (a5, (a6, (a7, ()))) a1).1.1 = (@Sp19.both (a2, (a3, (a4, ()))) (a5, (a6, (a7, ()))) a1).1.1)) && ((decide ((@Sp19.both (a2, (a3, (a4, ()))) (a5, (a6, (a7, ()))) a1).1.2.1 = (@Sp19.both (a2, (a3, (a4, ()))) (a5, (a6, (a7, ()))) a1).1.2.1)) && ((decide ((@Sp19.both (a2, (a3, (a4, ()))) (a5, (a6, (a7, ()))) a1).1.2.2.1 = (@Sp19.both (a2, (a3, (a4, ()))) (a5, (a6, (a7, ()))) a1).1.2.2.1)) && true))) then (bif ((decide ((@Sp19.both (a2, (a3, (a4, ()))) (a5, (a6, (a7, ()))) a1).2.1.1 = (@Sp19.both (a2, (a3, (a4, ()))) (a5, (a6, (a7, ()))) a1).2.1.1)) && ((decide ((@Sp19.both (a2, (a3, (a4, ()))) (a5, (a6, (a7, ()))) a1).2.1.2.1 = (@Sp19.both (a2, (a3, (a4, ()))) (a5, (a6, (a7, ()))) a1).2.1.2.1)) && ((decide ((@Sp19.both (a2, (a3, (a4, ()))) (a5, (a6, (a7, ()))) a1).2.1.2.2.1 = (@Sp19.both (a2, (a3, (a4, ()))) (a5, (a6, (a7, ()))) a1).2.1.2.2.1)) && true))) then (bif (decide ((@Sp19.both (a2, (a3, (a4, ()))) (a5, (a6, (a7, ()))) a1).2.2.1 = (@Sp19.both (a2, (a3, (a4, ()))) (a5, (a6, (a7, ()))) a1).2.2.1)) then (bif ((decide ((@Sp19.both y8.1 y9.1 a1).1.1 = (@Sp19.both y8.1 y9.1 a1).1.1)) && ((decide ((@Sp19.both y8.1 y9.1 a1).1.2.1 = (@Sp19.both y8.1 y9.1 a1).1.2.1)) && ((decide ((@Sp19.both y8.1 y9.1 a1).1.2.2.1 = (@Sp19.both y8.1 y9.1 a1).1.2.2.1)) && true))) then (bif ((decide ((@Sp19.both y8.1 y9.1 a1).2.1.1 = (@Sp19.both y8.1 y9.1 a1).2.1.1)) && ((decide ((@Sp19.both y8.1 y9.1 a1).2.1.2.1 = (@Sp19.both y8.1 y9.1 a1).2.1.2.1)) && ((decide ((@Sp19.both y8.1 y9.1 a1).2.1.2.2.1 = (@Sp19.both y8.1 y9.1 a1).2.1.2.2.1)) && true))) then (bif (decide ((@Sp19.both y8.1 y9.1 a1).2.2.1 = (@Sp19.both y8.1 y9.1 a1).2.2.1)) then (some (true, ())) else (some (false, ()))) else (some (false, ()))) else (some (false, ()))) else (some (false, ()))) else (some (false, ()))) else (some (false, ()))) (fun y12 => (some y12)))))))))))))
theorem g3_eq (a0 : (@List Int)) (a1 : (@List Int)) (a2 : Int) (a3 : Int) (a4 : Int) (a5 : Int) (a6 : Int) (a7 : Int) : (evF (fun _ _ => Loop) Go.Abs.C19.E3 Go.Abs.C19.G3 Go.Proofs.Tryd.f3 Go.Abs.C19.plan3 Go.Abs.C19.c3 ((), (a0, (a1, ((a2, (a3, (a4, ()))), ((a5, (a6, (a7, ()))), ())))))).den = g3 a0 a1 a2 a3 a4 a5 a6 a7 := by kernel_rfl

noncomputable def g5_s0 (a0 : (Int × ((Int × (Int × (Int × Unit))) × ((Int × (Int × (Int × Unit))) × (Int × (Int × (Bool × (((@List Int) × (Int × Unit)) × Unit)))))))) : (Option (Sum (Int × ((Int × (Int × (Int × Unit))) × ((Int × (Int × (Int × Unit))) × (Int × (Int × (Bool × (((@List Int) × (Int × Unit)) × Unit))))))) (Bool × ((Bool × Unit) × (Bool × Unit))))) :=
  (Option.bind (bif (decide (a0.1 < (40 : Int))) then (some (a0.2.2.2.2.2.2.1, (a0.1, ((decide (a0.1 < (40 : Int))), (true, ((@Sp19.more a0.2.2.2.2.2.2.1), ())))))) else (some (a0.2.2.2.2.2.2.1, (a0.1, ((decide (a0.1 < (40 : Int))), (false, (false, ()))))))) (fun y1 => (bif y1.2.2.2.2.1 then (Option.bind (Option.bind (@Sp19.on (Int × ((@List Int) × (Int × Unit))) (@Sp19.wf y1.1) (@Sp19.next y1.1 (3 : Int))) (fun y2 => (bif (decide (y2.1 > (0 : Int))) then (some ((), (y2.1, (y2.2, ((decide (y2.1 > (0 : Int))), (true, ((decide ((IntKind.wrap Go.IntKind.i64 (a0.2.2.2.2.1 + (1 : Int))) < a0.2.1.2.1)), ()))))))) else (some ((), (y2.1, (y2.2, ((decide (y2.1 > (0 : Int))), (false, (false, ())))))))))) (fun y2 => (Option.bind (bif y2.2.2.2.2.2.1 then (some ((1 : Int), ((IntKind.wrap Go.IntKind.i64 (a0.2.2.2.2.1 + (1 : Int))), ()))) else (some ((0 : Int), ((0 : Int), ())))) (fun y3 => (Option.bind (Option.bind (@Sp19.on (Int × ((@List Int) × (Int × Unit))) (@Sp19.wf y2.2.2.1) (@Sp19.next y2.2.2.1 (3 : Int))) (fun y4 => (bif (decide (y4.1 > (0 : Int))) then (some ((), (y4.1, (y4.2, ((decide (y4.1 > (0 : Int))), (true, ((decide ((IntKind.wrap Go.IntKind.i64 (a0.2.2.2.1 + (1 : Int))) < a0.2.2.1.2.1)), ()))))))) else (some ((), (y4.1, (y4.2, ((decide (y4.1 > (0 : Int))), (false, (false, ())))))))))) (fun y4 => (Option.bind (bif y4.2.2.2.2.2.1 then (some ((IntKind.wrap Go.IntKind.i64 (Int.ofNat (@BitVec.toNat 64 (@BitVec.or 64 (@BitVec.ofInt 64 y3.1) (@BitVec.ofInt 64 (2 : Int)))))), ((IntKind.wrap Go.IntKind.i64 (a0.2.2.2.1 + (1 : Int))), ()))) else (some (y3.1, ((0 : Int), ())))) (fun y5 => (Option.bind (bif (!(!(decide ((@Sp19.both a0.2.2.1 a0.2.1 (y5.1 :: [])).2.2.1 = (0 : Int))))) then (bif (!(!(decide ((@Sp19.both a0.2.2.1 a0.2.1 (y5.1 :: [])).1.1 = (2 : Int))))) then (some ((@Sp19.both a0.2.2.1 a0.2.1 (y5.1 :: [])).2.2.1, ((!(decide ((@Sp19.both a0.2.2.1 a0.2.1 (y5.1 :: [])).2.2.1 = (0 : Int)))), (false, ((!(decide ((@Sp19.both a0.2.2.1 a0.2.1 (y5.1 :: [])).1.1 = (2 : Int)))), (false, ((!(decide ((@Sp19.both a0.2.2.1 a0.2.1 (y5.1 :: [])).2.1.1 = (2 : Int)))), ()))))))) else (some ((@Sp19.both a0.2.2.1 a0.2.1 (y5.1 :: [])).2.2.1, ((!(decide ((@Sp19.both a0.2.2.1 a0.2.1 (y5.1 :: [])).2.2.1 = (0 : Int)))), (false, ((!(decide ((@Sp19.both a0.2.2.1 a0.2.1 (y5.1 :: [])).1.1 = (2 : Int)))), (true, (true, ())))))))) else (some ((@Sp19.both a0.2.2.1 a0.2.1 (y5.1 :: [])).2.2.1, ((!(decide ((@Sp19.both a0.2.2.1 a0.2.1 (y5.1 :: [])).2.2.1 = (0 : Int)))), (true, (true, (true, (true, ())))))))) (fun y6 => (bif y6.2.2.2.2.2.1 then (some (.inr (true, ((false, ()), (false, ()))))) else (some (.inl ((IntKind.wrap Go.IntKind.i64 (a0.1 + (1 : Int))), ((@Sp19.both a0.2.2.1 a0.2.1 (y5.1 :: [])).2.1, ((@Sp19.both a0.2.2.1 a0.2.1 (y5.1 :: [])).1, (y5.2.1, (y3.2.1, (a0.2.2.2.2.2.1, (y4.2.2.1, ())))))))))))))))))))) else (some (.inr (false, ((false, ()), (a0.2.2.2.2.2.1, ()))))))))
noncomputable def g5 (a0 : (@List Int)) : (Option (Bool × Unit)) :=
  (Option.bind (@Sp19.on ((Int × (Int × (Int × Unit))) × ((@List Int) × (Int × Unit))) ((@Sp19.wf (@Sp19.tape a0)) && (@Sp19.small (0 : Int))) (@Sp19.session (@Sp19.tape a0) (0 : Int))) (fun y1 => (Option.bind (@Sp19.on ((Int × (Int × (Int × Unit))) × ((@List Int) × (Int × Unit))) ((@Sp19.wf y1.2) && (@Sp19.small (0 : Int))) (@Sp19.session y1.2 (0 : Int))) (fun y2 => (Option.bind (Loop g5_s0 ((0 : Int), (((2 : Int), (y2.1.2.1, ((0 : Int), ()))), (((2 : Int), (y1.1.2.1, ((0 : Int), ()))), ((0 : Int), ((0 : Int), (false, (y2.2, ())))))))) (fun y3 => (bif y3.1 then (some y3.2.1) else (some (true, ())))))))))
theorem g5_eq (a0 : (@List Int)) : (evF (fun _ _ => Loop) Go.Abs.C19.E5 Go.Abs.C19.G5 Go.Proofs.Tryd.f5 Go.Abs.C19.plan5 Go.Abs.C19.c5 ((), (a0, ()))).den = g5 a0 := by kernel_rfl

noncomputable def g8_s0 (a0 : (Int × ((Int × (Int × (Int × Unit))) × ((Int × (Int × (Int × Unit))) × (Bool × (Bool × Unit)))))) : (Option (Sum (Int × ((Int × (Int × (Int × Unit))) × ((Int × (Int × (Int × Unit))) × (Bool × (Bool × Unit))))) (Bool × ((Bool × Unit) × (Bool × Unit))))) :=
  (bif (decide (a0.1 < (IntKind.wrap Go.IntKind.i64 ((@Sp19.within a0.2.1.2.1) + (3 : Int))))) then (bif (!(decide ((@Sp19.both a0.2.2.1 a0.2.1 ((1 : Int) :: [])).2.2.1 = (0 : Int)))) then (some (.inr (true, ((false, ()), (false, ()))))) else (Option.bind (bif (!a0.2.2.2.1) then (some (a0.2.2.2.1, (false, ((decide ((@Sp19.both a0.2.2.1 a0.2.1 ((1 : Int) :: [])).2.1.1 = (0 : Int))), ((decide ((@Sp19.both a0.2.2.1 a0.2.1 ((1 : Int) :: [])).2.1.1 = (0 : Int))), ()))))) else (some (a0.2.2.2.1, (true, (true, (true, ())))))) (fun y1 => (Option.bind (bif y1.2.2.2.1 then (bif (!(decide ((@Sp19.both a0.2.2.1 a0.2.1 ((1 : Int) :: [])).1.1 = (2 : Int)))) then (bif (!(!(decide ((@Sp19.both a0.2.2.1 a0.2.1 ((1 : Int) :: [])).2.1.1 = (0 : Int))))) then (bif (decide ((IntKind.wrap Go.IntKind.i64 (a0.1 + (1 : Int))) ≥ (@Sp19.within a0.2.1.2.1))) then (some (y1.2.2.2.1, (true, ((!(decide ((@Sp19.both a0.2.2.1 a0.2.1 ((1 : Int) :: [])).2.1.1 = (0 : Int)))), (false, ((!y1.2.2.2.1), ())))))) else (some (y1.2.2.2.1, (true, ((!(decide ((@Sp19.both a0.2.2.1 a0.2.1 ((1 : Int) :: [])).2.1.1 = (0 : Int)))), (false, (false, ()))))))) else (some (y1.2.2.2.1, (true, ((!(decide ((@Sp19.both a0.2.2.1 a0.2.1 ((1 : Int) :: [])).2.1.1 = (0 : Int)))), (true, (true, ()))))))) else (some (y1.2.2.2.1, (true, (true, (true, (true, ()))))))) else (bif (decide ((IntKind.wrap Go.IntKind.i64 (a0.1 + (1 : Int))) ≥ (@Sp19.within a0.2.1.2.1))) then (some (y1.2.2.2.1, (false, (false, (false, ((!y1.2.2.2.1), ())))))) else (some (y1.2.2.2.1, (false, (false, (false, (false, ())))))))) (fun y2 => (bif y2.2.2.2.2.1 then (some (.inr (true, ((false, ()), (false, ()))))) else (some (.inl ((IntKind.wrap Go.IntKind.i64 (a0.1 + (1 : Int))), ((@Sp19.both a0.2.2.1 a0.2.1 ((1 : Int) :: [])).2.1, ((@Sp19.both a0.2.2.1 a0.2.1 ((1 : Int) :: [])).1, (y1.2.2.2.1, a0.2.2.2.2)))))))))))) else (some (.inr (false, ((false, ()), a0.2.2.2.2)))))
noncomputable def g8 (a0 : (@List Int)) : (Option (Bool × Unit)) :=
  (Option.bind (@Sp19.on ((Int × (Int × (Int × Unit))) × ((@List Int) × (Int × Unit))) ((@Sp19.wf (@Sp19.tape a0)) && (@Sp19.small (0 : Int))) (@Sp19.session (@Sp19.tape a0) (0 : Int))) (fun y1 => (Option.bind (@Sp19.on ((Int × (Int × (Int × Unit))) × ((@List Int) × (Int × Unit))) ((@Sp19.wf y1.2) && (@Sp19.small (0 : Int))) (@Sp19.session y1.2 (0 : Int))) (fun y2 => (Option.bind (Loop g8_s0 ((0 : Int), (y2.1, (y1.1, (false, (false, ())))))) (fun y3 => (bif y3.1 then (some y3.2.1) else (some (true, ())))))))))
theorem g8_eq (a0 : (@List Int)) : (evF (fun _ _ => Loop) Go.Abs.C19.E8 Go.Abs.C19.G8 Go.Proofs.Tryd.f8 Go.Abs.C19.plan8 Go.Abs.C19.c8 ((), (a0, ()))).den = g8 a0 := by kernel_rfl


end Go.Abs.C19
