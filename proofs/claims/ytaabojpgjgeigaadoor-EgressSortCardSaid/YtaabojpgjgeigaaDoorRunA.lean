/- Chapter 29 (sort): proved is, of functions that the law reaches, that the evaluator comes to the printed term; no conditions. -/
import Derived.Test.YtaabojpgjgeigaaDoorAbsD
import Derived.Test.YtaabojpgjgeigaaDoorProg
import Derived.KernelRfl
import Derived.Sort.Defs
import Derived.Lib.BitFns
set_option linter.unusedVariables false
set_option linter.unusedSimpArgs false
namespace Go.Abs.C29
open Go.Proofs
def tab : List (Nat × TI) := [
  (3, { size := 1, bytes := 8, agg := false, ty := (.int .i64), desc := (.int .i64), zero := [(.int .i64 0)], arr := none, cmp := none }),
  (4, { size := 1, bytes := 1, agg := false, ty := .bool, desc := .bool, zero := [(.bool false)], arr := none, cmp := none }),
  (5, { size := 1, bytes := 1, agg := false, ty := (.int .u8), desc := (.int .u8), zero := [(.int .u8 0)], arr := none, cmp := none }),
  (9, { size := 1, bytes := 16, agg := false, ty := .str, desc := .string, zero := [(.str [])], arr := none, cmp := none }),
  (22, { size := 1, bytes := 24, agg := false, ty := (.sl (.int .i64)), desc := (.slice 3), zero := [(.sl 2 (.int .i64) [])], arr := none, cmp := none }),
  (23, { size := 1, bytes := 24, agg := false, ty := (.sl (.st 48 (.cons (.int .i64) (.cons (.int .i64) (.cons (.st 16 (.cons (.int .i64) (.cons (.int .i64) .unit))) (.cons .str .unit)))))), desc := (.slice 31), zero := [(.sl 2 (.st 48 (.cons (.int .i64) (.cons (.int .i64) (.cons (.st 16 (.cons (.int .i64) (.cons (.int .i64) .unit))) (.cons .str .unit))))) [])], arr := none, cmp := none }),
  (25, { size := 1, bytes := 8, agg := false, ty := .unit, desc := (.pointer 56), zero := [.undef], arr := none, cmp := none }),
  (29, { size := 2, bytes := 16, agg := true, ty := (.st 16 (.cons (.int .i64) (.cons (.int .i64) .unit))), desc := (.struct #[{ name := "Source", type := 3, offset := 0, byteOffset := 0, embedded := false, tag := "", pkgPath := "" }, { name := "Group", type := 3, offset := 1, byteOffset := 8, embedded := false, tag := "", pkgPath := "" }]), zero := [(.int .i64 0), (.int .i64 0)], arr := none, cmp := some [0, 0] }),
  (31, { size := 5, bytes := 48, agg := true, ty := (.st 48 (.cons (.int .i64) (.cons (.int .i64) (.cons (.st 16 (.cons (.int .i64) (.cons (.int .i64) .unit))) (.cons .str .unit))))), desc := (.struct #[{ name := "Host", type := 3, offset := 0, byteOffset := 0, embedded := false, tag := "", pkgPath := "" }, { name := "Router", type := 3, offset := 1, byteOffset := 8, embedded := false, tag := "", pkgPath := "" }, { name := "Flow", type := 29, offset := 2, byteOffset := 16, embedded := false, tag := "", pkgPath := "" }, { name := "Data", type := 9, offset := 4, byteOffset := 32, embedded := false, tag := "", pkgPath := "" }]), zero := [(.int .i64 0), (.int .i64 0), (.int .i64 0), (.int .i64 0), (.str [])], arr := none, cmp := some [0, 0, 0, 0, 2] }),
  (36, { size := 2, bytes := 16, agg := true, ty := (.st 16 (.cons (.int .i64) (.cons (.int .i64) .unit))), desc := (.struct #[{ name := "Router", type := 3, offset := 0, byteOffset := 0, embedded := false, tag := "", pkgPath := "" }, { name := "ID", type := 3, offset := 1, byteOffset := 8, embedded := false, tag := "", pkgPath := "" }]), zero := [(.int .i64 0), (.int .i64 0)], arr := none, cmp := some [0, 0] }),
  (37, { size := 1, bytes := 24, agg := false, ty := (.sl (.st 16 (.cons (.int .i64) (.cons (.int .i64) .unit)))), desc := (.slice 36), zero := [(.sl 2 (.st 16 (.cons (.int .i64) (.cons (.int .i64) .unit))) [])], arr := none, cmp := none }),
  (39, { size := 3, bytes := 40, agg := true, ty := (.st 40 (.cons (.int .i64) (.cons (.int .i64) (.cons (.sl (.st 16 (.cons (.int .i64) (.cons (.int .i64) .unit)))) .unit)))), desc := (.struct #[{ name := "Subdomain", type := 3, offset := 0, byteOffset := 0, embedded := false, tag := "", pkgPath := "" }, { name := "Length", type := 3, offset := 1, byteOffset := 8, embedded := false, tag := "", pkgPath := "" }, { name := "Edges", type := 37, offset := 2, byteOffset := 16, embedded := false, tag := "", pkgPath := "" }]), zero := [(.int .i64 0), (.int .i64 0), (.sl 2 (.st 16 (.cons (.int .i64) (.cons (.int .i64) .unit))) [])], arr := none, cmp := none }),
  (41, { size := 2, bytes := 32, agg := true, ty := (.st 32 (.cons (.int .i64) (.cons (.sl (.int .i64)) .unit))), desc := (.struct #[{ name := "Mode", type := 3, offset := 0, byteOffset := 0, embedded := false, tag := "", pkgPath := "" }, { name := "Sources", type := 22, offset := 1, byteOffset := 8, embedded := false, tag := "", pkgPath := "" }]), zero := [(.int .i64 0), (.sl 2 (.int .i64) [])], arr := none, cmp := none }),
  (43, { size := 5, bytes := 56, agg := true, ty := (.st 56 (.cons (.int .i64) (.cons (.int .i64) (.cons (.st 32 (.cons (.int .i64) (.cons (.sl (.int .i64)) .unit))) (.cons (.int .i64) .unit))))), desc := (.struct #[{ name := "Host", type := 3, offset := 0, byteOffset := 0, embedded := false, tag := "", pkgPath := "" }, { name := "Group", type := 3, offset := 1, byteOffset := 8, embedded := false, tag := "", pkgPath := "" }, { name := "Filter", type := 41, offset := 2, byteOffset := 16, embedded := false, tag := "", pkgPath := "" }, { name := "Until", type := 3, offset := 4, byteOffset := 48, embedded := false, tag := "", pkgPath := "" }]), zero := [(.int .i64 0), (.int .i64 0), (.int .i64 0), (.sl 2 (.int .i64) []), (.int .i64 0)], arr := none, cmp := none }),
  (44, { size := 1, bytes := 24, agg := false, ty := (.sl (.st 56 (.cons (.int .i64) (.cons (.int .i64) (.cons (.st 32 (.cons (.int .i64) (.cons (.sl (.int .i64)) .unit))) (.cons (.int .i64) .unit)))))), desc := (.slice 43), zero := [(.sl 2 (.st 56 (.cons (.int .i64) (.cons (.int .i64) (.cons (.st 32 (.cons (.int .i64) (.cons (.sl (.int .i64)) .unit))) (.cons (.int .i64) .unit))))) [])], arr := none, cmp := none }),
  (46, { size := 2, bytes := 32, agg := true, ty := (.st 32 (.cons (.int .i64) (.cons (.sl (.st 56 (.cons (.int .i64) (.cons (.int .i64) (.cons (.st 32 (.cons (.int .i64) (.cons (.sl (.int .i64)) .unit))) (.cons (.int .i64) .unit)))))) .unit))), desc := (.struct #[{ name := "Now", type := 3, offset := 0, byteOffset := 0, embedded := false, tag := "", pkgPath := "" }, { name := "List", type := 44, offset := 1, byteOffset := 8, embedded := false, tag := "", pkgPath := "" }]), zero := [(.int .i64 0), (.sl 2 (.st 56 (.cons (.int .i64) (.cons (.int .i64) (.cons (.st 32 (.cons (.int .i64) (.cons (.sl (.int .i64)) .unit))) (.cons (.int .i64) .unit))))) [])], arr := none, cmp := none }),
  (47, { size := 1, bytes := 8, agg := false, ty := (.int .u64), desc := (.int .u64), zero := [(.int .u64 0)], arr := none, cmp := none }),
  (49, { size := 10, bytes := 88, agg := true, ty := (.st 88 (.cons (.int .i64) (.cons (.int .i64) (.cons (.int .i64) (.cons (.int .i64) (.cons (.int .i64) (.cons (.int .i64) (.cons (.int .i64) (.cons (.int .i64) (.cons (.int .u64) (.cons .str .unit))))))))))), desc := (.struct #[{ name := "Mode", type := 3, offset := 0, byteOffset := 0, embedded := false, tag := "", pkgPath := "" }, { name := "Subdomain", type := 3, offset := 1, byteOffset := 8, embedded := false, tag := "", pkgPath := "" }, { name := "Set", type := 3, offset := 2, byteOffset := 16, embedded := false, tag := "", pkgPath := "" }, { name := "Length", type := 3, offset := 3, byteOffset := 24, embedded := false, tag := "", pkgPath := "" }, { name := "TTL", type := 3, offset := 4, byteOffset := 32, embedded := false, tag := "", pkgPath := "" }, { name := "Entropy", type := 3, offset := 5, byteOffset := 40, embedded := false, tag := "", pkgPath := "" }, { name := "Ingress", type := 3, offset := 6, byteOffset := 48, embedded := false, tag := "", pkgPath := "" }, { name := "Proto", type := 3, offset := 7, byteOffset := 56, embedded := false, tag := "", pkgPath := "" }, { name := "Bits", type := 47, offset := 8, byteOffset := 64, embedded := false, tag := "", pkgPath := "" }, { name := "Payload", type := 9, offset := 9, byteOffset := 72, embedded := false, tag := "", pkgPath := "" }]), zero := [(.int .i64 0), (.int .i64 0), (.int .i64 0), (.int .i64 0), (.int .i64 0), (.int .i64 0), (.int .i64 0), (.int .i64 0), (.int .u64 0), (.str [])], arr := none, cmp := some [0, 0, 0, 0, 0, 0, 0, 0, 0, 2] }),
  (51, { size := 11, bytes := 96, agg := true, ty := (.st 96 (.cons (.int .i64) (.cons (.st 88 (.cons (.int .i64) (.cons (.int .i64) (.cons (.int .i64) (.cons (.int .i64) (.cons (.int .i64) (.cons (.int .i64) (.cons (.int .i64) (.cons (.int .i64) (.cons (.int .u64) (.cons .str .unit))))))))))) .unit))), desc := (.struct #[{ name := "Router", type := 3, offset := 0, byteOffset := 0, embedded := false, tag := "", pkgPath := "" }, { name := "Packet", type := 49, offset := 1, byteOffset := 8, embedded := false, tag := "", pkgPath := "" }]), zero := [(.int .i64 0), (.int .i64 0), (.int .i64 0), (.int .i64 0), (.int .i64 0), (.int .i64 0), (.int .i64 0), (.int .i64 0), (.int .i64 0), (.int .u64 0), (.str [])], arr := none, cmp := some [0, 0, 0, 0, 0, 0, 0, 0, 0, 0, 2] }),
  (52, { size := 1, bytes := 8, agg := false, ty := (.int .i64), desc := (.int .i64), zero := [(.int .i64 0)], arr := none, cmp := none }),
  (56, { size := 2, bytes := 32, agg := true, ty := (.st 32 (.cons (.sl (.int .i64)) (.cons (.int .i64) .unit))), desc := (.struct #[{ name := "L", type := 22, offset := 0, byteOffset := 0, embedded := false, tag := "", pkgPath := "" }, { name := "At", type := 3, offset := 1, byteOffset := 24, embedded := false, tag := "", pkgPath := "" }]), zero := [(.sl 2 (.int .i64) []), (.int .i64 0)], arr := none, cmp := none }),
  (59, { size := 1, bytes := 8, agg := false, ty := .unit, desc := (.func #[31, 31] #[3] false), zero := [.undef], arr := none, cmp := none }),
  (69, { size := 1, bytes := 8, agg := false, ty := (.int .u64), desc := (.int .u64), zero := [(.int .u64 0)], arr := none, cmp := none }),
  (77, { size := 2, bytes := 16, agg := true, ty := (.st 16 (.cons (.int .i64) (.cons (.int .i64) .unit))), desc := (.struct #[{ name := "group", type := 3, offset := 0, byteOffset := 0, embedded := false, tag := "", pkgPath := "bitcast/member" }, { name := "host", type := 3, offset := 1, byteOffset := 8, embedded := false, tag := "", pkgPath := "bitcast/member" }]), zero := [(.int .i64 0), (.int .i64 0)], arr := none, cmp := some [0, 0] }),
  (98, { size := 1, bytes := 8, agg := false, ty := .unit, desc := (.func #[36] #[4] false), zero := [.undef], arr := none, cmp := none }),
  (101, { size := 64, bytes := 64, agg := true, ty := (.st 64 (.cons (.int .u8) (.cons (.int .u8) (.cons (.int .u8) (.cons (.int .u8) (.cons (.int .u8) (.cons (.int .u8) (.cons (.int .u8) (.cons (.int .u8) (.cons (.int .u8) (.cons (.int .u8) (.cons (.int .u8) (.cons (.int .u8) (.cons (.int .u8) (.cons (.int .u8) (.cons (.int .u8) (.cons (.int .u8) (.cons (.int .u8) (.cons (.int .u8) (.cons (.int .u8) (.cons (.int .u8) (.cons (.int .u8) (.cons (.int .u8) (.cons (.int .u8) (.cons (.int .u8) (.cons (.int .u8) (.cons (.int .u8) (.cons (.int .u8) (.cons (.int .u8) (.cons (.int .u8) (.cons (.int .u8) (.cons (.int .u8) (.cons (.int .u8) (.cons (.int .u8) (.cons (.int .u8) (.cons (.int .u8) (.cons (.int .u8) (.cons (.int .u8) (.cons (.int .u8) (.cons (.int .u8) (.cons (.int .u8) (.cons (.int .u8) (.cons (.int .u8) (.cons (.int .u8) (.cons (.int .u8) (.cons (.int .u8) (.cons (.int .u8) (.cons (.int .u8) (.cons (.int .u8) (.cons (.int .u8) (.cons (.int .u8) (.cons (.int .u8) (.cons (.int .u8) (.cons (.int .u8) (.cons (.int .u8) (.cons (.int .u8) (.cons (.int .u8) (.cons (.int .u8) (.cons (.int .u8) (.cons (.int .u8) (.cons (.int .u8) (.cons (.int .u8) (.cons (.int .u8) (.cons (.int .u8) (.cons (.int .u8) .unit))))))))))))))))))))))))))))))))))))))))))))))))))))))))))))))))), desc := (.array 64 5), zero := [(.int .u8 0), (.int .u8 0), (.int .u8 0), (.int .u8 0), (.int .u8 0), (.int .u8 0), (.int .u8 0), (.int .u8 0), (.int .u8 0), (.int .u8 0), (.int .u8 0), (.int .u8 0), (.int .u8 0), (.int .u8 0), (.int .u8 0), (.int .u8 0), (.int .u8 0), (.int .u8 0), (.int .u8 0), (.int .u8 0), (.int .u8 0), (.int .u8 0), (.int .u8 0), (.int .u8 0), (.int .u8 0), (.int .u8 0), (.int .u8 0), (.int .u8 0), (.int .u8 0), (.int .u8 0), (.int .u8 0), (.int .u8 0), (.int .u8 0), (.int .u8 0), (.int .u8 0), (.int .u8 0), (.int .u8 0), (.int .u8 0), (.int .u8 0), (.int .u8 0), (.int .u8 0), (.int .u8 0), (.int .u8 0), (.int .u8 0), (.int .u8 0), (.int .u8 0), (.int .u8 0), (.int .u8 0), (.int .u8 0), (.int .u8 0), (.int .u8 0), (.int .u8 0), (.int .u8 0), (.int .u8 0), (.int .u8 0), (.int .u8 0), (.int .u8 0), (.int .u8 0), (.int .u8 0), (.int .u8 0), (.int .u8 0), (.int .u8 0), (.int .u8 0), (.int .u8 0)], arr := some (.int .u8), cmp := none })]
def cl : List (Nat × List Nat) := [(29, [0, 0]), (31, [0, 0, 0, 0, 2]), (36, [0, 0]), (49, [0, 0, 0, 0, 0, 0, 0, 0, 0, 2]), (51, [0, 0, 0, 0, 0, 0, 0, 0, 0, 0, 2]), (77, [0, 0])]
def gl : List (Nat × (IntKind × List Int)) := [(0, (.u8, [0,1,56,2,57,49,28,3,61,58,42,50,38,29,17,4,62,47,59,36,45,43,51,22,53,39,33,30,24,18,12,5,63,55,48,27,60,41,37,16,46,35,44,21,52,32,23,11,54,26,40,15,34,20,31,10,25,14,19,9,13,8,7,6]))]
theorem tab_ok : tab.map (fun p => tiOf Tryd.prog cl p.1) = tab.map (fun p => some p.2) := by kernel_rfl
theorem cl_ok : cl.map (fun p => (kindsB Tryd.prog 8 p.1, Tryd.prog.eqGuardType Tryd.prog.depth p.1)) = cl.map (fun p => (some p.2, false)) := by kernel_rfl
theorem pok (n : Nat) (hp : Bool) (md : List (Nat × Nat)) : POk Tryd.prog (mkE tab gl n hp md) := pok_of cl tab_ok cl_ok n hp md
theorem mix : Tryd.prog.follows .mixedOrders = true := by kernel_rfl
abbrev E19 : Env := mkE tab gl 16 false [(15, 1), (7, 1), (12, 1), (13, 1), (0, 2), (4, 2)]
abbrev plan19 : Plan := (.sq .go (.sq (.sq .go (.sq .go .go)) (.sq .go (.sq (.sq .go (.cut [0, 28, 26, 24] [⟨0, [(0, (.lf (.int .i64)))], [22, 20, 18, 16, 14, 12, 10, 2]⟩] .go)) .go))))

abbrev E20 : Env := mkE tab gl 31 true [(30, 1), (17, 2), (2, 2)]
abbrev plan20 : Plan := (.sq .go (.sq (.sq .go (.sq .go .go)) (.sq .go .go)))

abbrev E11 : Env := mkE tab gl 9 true [(5, 1), (7, 1), (4, 2)]
abbrev plan11 : Plan := (.sq .go .go)

abbrev E5 : Env := mkE tab gl 10 false [(9, 2), (2, 2)]
abbrev plan5 : Plan := (.sq .go .go)

abbrev E6 : Env := mkE tab gl 32 true [(31, 1), (25, 1), (29, 1), (12, 1), (7, 2), (8, 2), (5, 2), (6, 2), (4, 2)]
abbrev plan6 : Plan := (.sq .go (.sq .go (.sq (.sq .go (.sq (.loop [12, 26, 24, 16, 17, 60, 10, 58, 56, 54, 52, 50, 48, 40, 46, 44, 42, 38, 11, 14, 1, 36, 34, 32, 30, 28, 18, 20, 22] [(12, (.lf (.int .i64))), (10, (.lf (.sl 2 (.int .i64)))), (1, (.boxv 1 true [(.sl 0 (.int .i64)), (.int .i64)]))] [8] [⟨2, [(10, (.lf (.sl 2 (.int .i64)))), (1, (.boxv 1 true [(.sl 0 (.int .i64)), (.int .i64)]))], [12, 2]⟩] (.sq (.sq .go .go) (.sq (.sq (.sq (.opn [(10, 0, 5)]) (.sq .go (.opn [(16, 0, 8)]))) .go) .go))) .go)) .go)))

abbrev E48 : Env := mkE tab gl 6 false [(2, 2)]
abbrev plan48 : Plan := (.sq .go .go)

abbrev E49 : Env := mkE tab gl 6 false [(2, 2)]
abbrev plan49 : Plan := (.sq .go .go)

abbrev E24 : Env := mkE tab gl 20 false [(11, 1), (12, 1), (13, 1), (17, 1), (18, 1), (5, 2), (6, 2)]
abbrev plan24 : Plan := (.sq .go (.sq .go (.sq .go (.sq (.sq .go (.sq (.sq (.sq .go (.sq .go .go)) .go) .go)) (.sq (.sq .go (.sq .go .go)) (.sq (.sq .go (.sq .go .go)) (.sq (.sq .go (.sq .go .go)) .go)))))))

abbrev E25 : Env := mkE tab gl 20 false [(11, 1), (12, 1), (13, 1), (17, 1), (18, 1), (5, 2), (6, 2)]
abbrev plan25 : Plan := (.sq .go (.sq .go (.sq .go (.sq (.sq .go (.sq (.sq (.sq .go (.sq .go .go)) .go) .go)) (.sq (.sq .go (.sq .go .go)) (.sq (.sq .go (.sq .go .go)) (.sq (.sq .go (.sq .go .go)) .go)))))))

abbrev E23 : Env := mkE tab gl 18 false [(15, 1), (17, 1), (6, 1), (8, 1), (5, 2), (2, 2)]
abbrev plan23 : Plan := (.sq .go (.sq .go (.sq (.sq .go (.sq (.loop [4, 30, 20, 22, 10, 24, 26, 28, 32, 16, 18] [(16, (.lf (.int .i64)))] [4, 0] [⟨1, [(4, (.lf (.int .i64)))], [16, 14, 12, 0]⟩, ⟨2, [], [16, 14, 12, 0]⟩] (.sq .go (.sq .go (.sq (.sq (.sq .go (.sq .go (.sq .go .go))) .go) .go)))) .go)) .go)))

abbrev E14 : Env := mkE tab gl 36 false [(2, 2), (3, 2), (4, 2)]
abbrev plan14 : Plan := (.sq .go .go)

abbrev E7 : Env := mkE tab gl 9 false [(8, 1), (4, 1), (3, 2), (2, 2)]
abbrev plan7 : Plan := (.sq .go (.sq .go (.sq (.opn [(6, 0, 3)]) .go)))

abbrev E8 : Env := mkE tab gl 26 false [(13, 1), (5, 2)]
abbrev plan8 : Plan := (.sq .go (.sq (.sq .go (.sq .go .go)) (.sq (.sq .go (.sq (.loop [26, 50, 48, 46, 44, 42, 40, 38, 36, 34, 32, 10, 30, 8, 28] [(26, (.lf (.int .i64)))] [22, 20, 18, 16, 14, 12, 8] [⟨1, [(8, (.lf .bool))], [26, 24, 22, 20, 18, 16, 14, 12, 0, 2]⟩, ⟨2, [], [26, 24, 22, 20, 18, 16, 14, 12, 0, 2]⟩] (.sq .go (.sq .go (.sq (.sq (.sq .go (.sq .go (.sq .go .go))) .go) .go)))) .go)) .go)))

abbrev E9 : Env := mkE tab gl 32 false [(24, 1), (31, 1), (6, 1), (12, 1), (4, 2), (3, 2), (5, 2), (2, 2)]
abbrev plan9 : Plan := (.sq .go (.sq .go (.sq .go (.sq (.sq .go (.sq (.loop [10, 26, 24, 60, 6, 48, 58, 56, 54, 52, 50, 46, 44, 42, 40, 38, 36, 34, 32, 30, 28, 14, 12, 0, 16, 18, 20, 22] [(10, (.lf (.int .i64))), (6, (.lf (.sl 2 (.st 48 (.cons (.int .i64) (.cons (.int .i64) (.cons (.st 16 (.cons (.int .i64) (.cons (.int .i64) .unit))) (.cons .str .unit))))))))] [14, 12, 4, 0] [⟨2, [(6, (.lf (.sl 2 (.st 48 (.cons (.int .i64) (.cons (.int .i64) (.cons (.st 16 (.cons (.int .i64) (.cons (.int .i64) .unit))) (.cons .str .unit))))))))], [10, 8, 14, 12, 0]⟩] (.sq (.sq .go .go) (.sq (.sq (.sq .go (.cut [60, 6, 48, 58, 56, 54, 52, 50] [⟨0, [(6, (.lf (.sl 2 (.st 48 (.cons (.int .i64) (.cons (.int .i64) (.cons (.st 16 (.cons (.int .i64) (.cons (.int .i64) .unit))) (.cons .str .unit))))))))], [46, 44, 42, 40, 38, 36, 34, 32, 30, 28, 22, 20, 18, 16]⟩] .go)) .go) .go))) .go)) .go))))

abbrev E26 : Env := mkE tab gl 15 false [(8, 1), (10, 1), (6, 2)]
abbrev plan26 : Plan := (.sq .go (.sq (.cut [12, 28, 26, 24, 22, 20, 18, 16, 14] [⟨0, [(12, (.lf .bool))], [0, 2, 4]⟩] .go) .go))

abbrev E50 : Env := mkE tab gl 15 false [(8, 1), (10, 1), (6, 2)]
abbrev plan50 : Plan := (.sq .go (.sq (.cut [12, 28, 26, 24, 22, 20, 18, 16, 14] [⟨0, [(12, (.lf .bool))], [0, 2, 4]⟩] .go) .go))

abbrev E51 : Env := mkE tab gl 17 false [(5, 1), (9, 1), (13, 1), (2, 2)]
abbrev plan51 : Plan := (.sq .go (.sq (.cut [4, 32, 30, 28, 26, 24, 22, 20, 18, 16, 14, 12, 10, 8, 6] [⟨0, [(4, (.lf .bool))], [0]⟩] .go) .go))

abbrev E27 : Env := mkE tab gl 47 false [(9, 1), (23, 1), (17, 1), (33, 1), (1, 2), (4, 2), (5, 2)]
abbrev plan27 : Plan := (.sq .go (.sq (.sq (.cut [26, 24, 22, 20, 18, 16, 14, 12] [⟨0, [(26, (.lf .bool))], [0]⟩] .go) (.sq .go .go)) (.sq (.sq .go (.sq (.loop [4, 26, 28, 38, 40, 8, 42, 44, 46, 48, 50, 52, 54, 34, 36] [(34, (.lf (.int .i64)))] [28, 26, 4] [⟨1, [(4, (.lf (.int .i64)))], [34, 32, 30, 28, 26]⟩, ⟨2, [], [34, 32, 30, 28, 26]⟩] (.sq .go (.sq .go (.sq (.sq (.sq .go (.sq (.cut [52, 50, 48, 46, 44, 42] [⟨0, [(52, (.lf .bool))], [8, 40, 38, 36]⟩] .go) (.sq .go .go))) .go) .go)))) .go)) (.sq (.sq .go (.sq (.loop [10, 68, 66, 92, 90, 88, 86, 84, 82, 80, 78, 76, 74, 72, 70, 4, 56, 58, 60, 62, 64] [(10, (.lf (.int .i64)))] [] [⟨1, [(4, (.lf (.int .i64)))], [10, 2]⟩, ⟨4, [], [10, 2]⟩] (.sq (.sq .go .go) (.sq (.sq (.sq .go (.sq .go .go)) .go) .go))) .go)) .go))))

abbrev E28 : Env := mkE tab gl 12 false [(6, 1), (1, 2), (2, 2)]
abbrev plan28 : Plan := (.sq .go (.sq (.cut [4, 22, 20, 18, 16, 14, 12, 10, 8, 6] [⟨0, [(4, (.lf .bool))], [2, 0]⟩] .go) .go))

abbrev E15 : Env := mkE tab gl 99 false [(61, 1), (31, 1), (37, 1), (23, 1), (52, 1), (66, 1), (79, 1), (1, 2), (26, 2), (55, 2), (7, 2), (2, 2), (69, 2), (85, 2), (10, 2)]
abbrev plan15 : Plan := (.sq .go (.sq (.sq .go (.sq .go .go)) (.sq (.sq .go (.sq .go .go)) (.sq (.sq .go (.sq (.loop [4, 9, 0, 24, 26, 28, 30, 32, 34, 36, 38, 40, 50, 52, 8, 94, 92, 90, 88, 86, 84, 82, 80, 78, 76, 74, 72, 70, 68, 66, 64, 62, 60, 58, 56, 54, 96, 46, 48] [(46, (.lf (.int .i64)))] [40, 38, 36, 34, 32, 30, 28, 26, 24, 4, 0] [⟨1, [(4, (.lf (.int .i64)))], [46, 44, 42, 40, 38, 36, 34, 32, 30, 28, 26, 24, 0]⟩, ⟨2, [], [46, 44, 42, 40, 38, 36, 34, 32, 30, 28, 26, 24, 0]⟩] (.sq .go (.sq .go (.sq (.sq (.sq .go (.sq (.cut [54, 56, 58, 60, 62, 64, 66, 68, 70, 72, 74, 76, 78, 80, 82, 84, 86, 88, 90, 92, 94] [⟨0, [(94, (.lf .bool))], [8, 52, 50, 48]⟩] .go) (.sq .go .go))) .go) .go)))) .go)) (.sq (.sq .go (.sq (.loop [4, 122, 108, 110, 12, 13, 112, 114, 116, 14, 118, 120, 124, 104, 106] [(104, (.lf (.int .i64)))] [98] [⟨1, [(4, (.lf (.int .i64)))], [104, 102, 100, 98]⟩, ⟨4, [], [104, 102, 100, 98]⟩] (.sq .go (.sq .go (.sq (.sq (.sq .go (.sq .go (.sq .go (.sq .go .go)))) .go) .go)))) .go)) (.sq (.sq .go (.sq (.loop [4, 136, 138, 18, 19, 140, 142, 144, 146, 132, 134] [(132, (.lf (.int .i64)))] [126] [⟨1, [(4, (.lf (.int .i64)))], [132, 130, 128, 126]⟩, ⟨6, [], [132, 130, 128, 126]⟩] (.sq .go (.sq .go (.sq (.sq (.sq .go (.sq .go (.sq .go .go))) .go) .go)))) .go)) (.sq (.sq .go (.sq (.loop [148, 150, 152, 154, 156] [] [] [⟨8, [], [20, 2]⟩] (.sq (.sq .go .go) (.sq (.sq (.sq .go .go) .go) .go))) .go)) .go)))))))

abbrev E53 : Env := mkE tab gl 9 false [(2, 2), (3, 2)]
abbrev plan53 : Plan := (.sq .go .go)

abbrev E63 : Env := mkE tab gl 19 false [(17, 1), (8, 1), (5, 2), (4, 2)]
abbrev plan63 : Plan := (.sq .go (.sq (.sq .go (.sq (.loop [8, 34, 20, 10, 22, 24, 26, 28, 30, 32, 36, 16, 18] [(16, (.lf (.int .i64)))] [12, 8] [⟨1, [(8, (.lf (.int .i64)))], [16, 14, 12, 0, 2]⟩, ⟨2, [], [16, 14, 12, 0, 2]⟩] (.sq .go (.sq .go (.sq (.sq (.sq .go (.sq .go (.sq .go .go))) .go) .go)))) .go)) .go))

abbrev E52 : Env := mkE tab gl 9 false [(5, 1), (6, 1), (4, 2)]
abbrev plan52 : Plan := (.sq .go .go)

abbrev E30 : Env := mkE tab gl 77 false [(10, 1), (27, 1), (51, 1), (57, 1), (60, 1), (36, 1), (1, 2), (3, 2), (40, 2), (5, 2)]
abbrev plan30 : Plan := (.sq .go (.sq (.sq (.cut [12, 14, 16, 18, 20, 22, 24, 26, 28, 30, 32, 34, 36, 38, 40, 42, 44, 46, 48, 50, 52, 54, 56, 58, 60, 62, 64] [⟨0, [(64, (.lf .bool))], [0]⟩] .go) (.sq .go .go)) (.sq (.sq .go (.sq (.loop [72, 152, 150, 148, 146, 144, 142, 140, 138, 136, 134, 132, 130, 128, 126, 124, 122, 120, 118, 116, 114, 112, 110, 108, 106, 104, 102, 100, 98, 96, 94, 10, 92, 90, 88, 86, 84, 82, 6, 8, 80, 78, 76, 66, 64, 9, 4, 74] [(72, (.lf (.int .i64)))] [66, 64, 4] [⟨1, [(4, (.lf .bool))], [72, 70, 68, 66, 64, 2]⟩, ⟨2, [], [72, 70, 68, 66, 64, 2]⟩] (.sq .go (.sq .go (.sq (.sq (.sq .go (.sq (.opk [(8, 0, 0)]) (.sq (.cut [150, 148, 146, 144, 142, 140, 138, 136, 134, 132, 130, 128, 126, 124, 122, 120, 118, 116, 114, 112, 110, 108, 106, 104, 102, 100, 98, 96, 94] [⟨0, [(150, (.lf .bool))], [10, 92, 90, 88, 86, 84, 82, 6, 8, 80, 78, 76, 74]⟩] .go) (.sq .go .go)))) .go) .go)))) .go)) .go)))

abbrev E54 : Env := mkE tab gl 12 false [(7, 1), (4, 2)]
abbrev plan54 : Plan := (.sq .go (.sq (.cut [8, 22, 20, 18, 16, 14, 12, 10] [⟨0, [(8, (.lf .bool))], [0, 2]⟩] .go) .go))

abbrev E64 : Env := mkE tab gl 9 false [(6, 1), (2, 2)]
abbrev plan64 : Plan := (.sq .go (.sq (.sq .go (.sq .go .go)) .go))

abbrev E55 : Env := mkE tab gl 14 false [(7, 1), (4, 2)]
abbrev plan55 : Plan := (.sq .go (.sq (.cut [8, 26, 24, 22, 20, 18, 16, 14, 12, 10] [⟨0, [(8, (.lf .bool))], [0, 2]⟩] .go) .go))

abbrev E31 : Env := mkE tab gl 54 false [(6, 1), (11, 1), (16, 1), (21, 1), (28, 1), (33, 1), (38, 1), (43, 1), (48, 1), (1, 2), (2, 2)]
abbrev plan31 : Plan := (.sq .go (.sq (.cut [4, 106, 104, 102, 100, 98, 96, 94, 92, 90, 88, 86, 84, 82, 80, 78, 76, 74, 72, 70, 68, 66, 64, 62, 60, 58, 56, 54, 52, 50, 48, 46, 44, 42, 40, 38, 36, 34, 32, 30, 28, 26, 24, 22, 20, 18, 16, 14, 12, 10, 8, 6] [⟨0, [(4, (.lf .bool))], [2, 0]⟩] .go) .go))

abbrev E32 : Env := mkE tab gl 35 false [(32, 1), (0, 2), (2, 2)]
abbrev plan32 : Plan := (.sq .go (.sq .go (.sq .go (.sq .go (.sq .go (.sq .go (.sq .go .go)))))))

abbrev E34 : Env := mkE tab gl 14 false [(2, 2)]
abbrev plan34 : Plan := (.sq .go (.sq (.sq .go (.sq .go .go)) .go))

abbrev E33 : Env := mkE tab gl 33 false [(32, 1), (12, 1), (19, 1), (24, 1), (25, 1), (27, 1), (8, 2), (6, 2)]
abbrev plan33 : Plan := (.sq .go (.sq (.sq (.cut [18, 20, 22, 24, 26, 28, 30, 32, 34, 36, 38, 40, 42, 44, 46] [⟨0, [(46, (.lf .bool))], []⟩] .go) (.sq .go .go)) (.sq .go (.sq (.sq .go (.sq .go .go)) .go))))

abbrev E56 : Env := mkE tab gl 19 false [(17, 1), (8, 1), (3, 2), (5, 2), (4, 2)]
abbrev plan56 : Plan := (.sq .go (.sq (.sq .go (.sq (.loop [8, 34, 20, 10, 22, 24, 26, 28, 30, 32, 36, 16, 18] [(16, (.lf (.int .i64)))] [12, 8, 2] [⟨1, [(8, (.lf (.int .i64)))], [16, 14, 12, 6, 0, 2]⟩, ⟨2, [], [16, 14, 12, 6, 0, 2]⟩] (.sq .go (.sq .go (.sq (.sq (.sq .go (.sq .go (.sq .go .go))) .go) .go)))) .go)) .go))

abbrev E35 : Env := mkE tab gl 9 false [(5, 1), (6, 1), (3, 2), (4, 2)]
abbrev plan35 : Plan := (.sq .go .go)

abbrev E16 : Env := mkE tab gl 64 false [(13, 1), (18, 1), (23, 1), (30, 1), (37, 1), (43, 1), (54, 1), (55, 1), (2, 2), (3, 2), (9, 2), (6, 2), (7, 2), (4, 2)]
abbrev plan16 : Plan := (.sq .go (.sq .go (.sq (.sq (.cut [84, 82, 80, 78, 76, 74, 72, 70, 68, 66, 64, 62, 60, 58, 56, 54, 52, 50, 48, 46, 44, 42, 40, 38, 36, 34, 32, 30, 28, 26, 24, 22, 20] [⟨0, [(84, (.lf .bool))], [18, 16, 0, 2]⟩] .go) (.sq .go .go)) (.sq .go (.sq (.cut [8, 126, 124, 122, 120, 118, 116, 114, 112, 110, 108] [⟨0, [(8, (.lf .bool))], [14, 12, 106, 104, 86, 102, 100, 98, 96, 94, 92, 90, 88, 84, 10, 6, 4]⟩] .go) .go)))))

abbrev E36 : Env := mkE tab gl 21 false [(6, 1), (11, 1), (16, 1), (1, 2), (2, 2)]
abbrev plan36 : Plan := (.sq .go (.sq (.cut [4, 40, 38, 36, 34, 32, 30, 28, 26, 24, 22, 20, 18, 16, 14, 12, 10, 8, 6] [⟨0, [(4, (.lf .bool))], [2, 0]⟩] .go) .go))

abbrev E17 : Env := mkE tab gl 24 false [(21, 5), (21, 1), (22, 1), (9, 2), (16, 2), (20, 2), (3, 2)]
abbrev plan17 : Plan := (.sq .go (.sq (.sq .go (.sq .go .go)) (.sq .go (.sq (.sq .go (.sq .go .go)) .go))))

abbrev E68 : Env := mkE tab gl 19 false [(17, 1), (8, 1), (5, 2), (4, 2)]
abbrev plan68 : Plan := (.sq .go (.sq (.sq .go (.sq (.loop [8, 34, 20, 10, 22, 24, 26, 28, 30, 32, 36, 16, 18] [(16, (.lf (.int .i64)))] [12, 8] [⟨1, [(8, (.lf (.int .i64)))], [16, 14, 12, 0, 2]⟩, ⟨2, [], [16, 14, 12, 0, 2]⟩] (.sq .go (.sq .go (.sq (.sq (.sq .go (.sq .go (.sq .go .go))) .go) .go)))) .go)) .go))

abbrev E67 : Env := mkE tab gl 9 false [(5, 1), (6, 1), (4, 2)]
abbrev plan67 : Plan := (.sq .go .go)

abbrev E65 : Env := mkE tab gl 13 false [(7, 1), (2, 2), (4, 2)]
abbrev plan65 : Plan := (.sq .go .go)

abbrev E57 : Env := mkE tab gl 17 false [(8, 1), (12, 1), (2, 2), (4, 2)]
abbrev plan57 : Plan := (.sq .go (.sq (.cut [10, 12, 14, 16, 18, 20, 22, 24, 26, 28, 30, 32, 8] [⟨0, [(8, (.lf .bool))], [4, 0, 2]⟩] .go) .go))

abbrev E37 : Env := mkE tab gl 44 false [(37, 1), (43, 1), (23, 1), (30, 1), (14, 1), (2, 2), (3, 2), (17, 2), (5, 2), (4, 2)]
abbrev plan37 : Plan := (.sq .go (.sq (.sq .go (.sq .go .go)) (.sq .go (.sq (.sq .go (.sq (.loop [15, 2, 0, 4, 16, 18, 20, 22, 32, 34, 70, 68, 66, 64, 62, 60, 58, 56, 54, 52, 50, 48, 46, 44, 42, 40, 38, 36, 14, 72, 82, 10, 74, 80, 78, 76, 84, 28, 30] [(10, (.lf (.sl 2 (.int .i64)))), (28, (.lf (.int .i64)))] [22, 20, 18, 16, 8, 4, 0, 2] [⟨2, [(10, (.lf (.sl 2 (.int .i64))))], [28, 26, 24, 22, 20, 18, 16, 6, 4, 0, 2]⟩] (.sq .go (.sq .go (.sq (.sq (.sq .go (.sq (.cut [36, 38, 40, 42, 44, 46, 48, 50, 52, 54, 56, 58, 60, 62, 64, 66, 68, 70, 72] [⟨0, [(72, (.lf .bool))], [34, 32, 30]⟩] .go) (.cut [76, 78, 80, 74, 10, 82] [⟨0, [(10, (.lf (.sl 2 (.int .i64))))], [72, 14]⟩] .go))) .go) .go)))) .go)) .go))))

abbrev E18 : Env := mkE tab gl 30 false [(20, 1), (29, 1), (12, 1), (21, 1), (16, 1), (4, 2), (6, 2), (11, 2), (9, 2), (8, 2)]
abbrev plan18 : Plan := (.sq .go (.sq .go (.sq (.sq .go (.sq (.loop [32, 56, 54, 18, 40, 52, 50, 48, 46, 44, 42, 22, 38, 36, 34] [(32, (.lf (.int .i64))), (18, (.lf (.sl 2 (.st 48 (.cons (.int .i64) (.cons (.int .i64) (.cons (.st 16 (.cons (.int .i64) (.cons (.int .i64) .unit))) (.cons .str .unit))))))))] [26, 24, 16, 8, 0, 4] [⟨2, [(18, (.lf (.sl 2 (.st 48 (.cons (.int .i64) (.cons (.int .i64) (.cons (.st 16 (.cons (.int .i64) (.cons (.int .i64) .unit))) (.cons .str .unit))))))))], [32, 30, 28, 26, 24, 12, 8, 0, 2, 4, 6]⟩] (.sq .go (.sq .go (.sq (.sq .go .go) .go)))) .go)) .go)))

abbrev E10 : Env := mkE tab gl 38 false [(16, 1), (31, 1), (17, 1), (21, 1), (32, 1), (35, 1), (36, 1), (3, 2), (4, 2), (5, 2), (8, 2), (7, 2), (26, 2), (10, 2), (11, 2), (6, 2)]
abbrev plan10 : Plan := (.sq .go (.sq (.sq .go (.sq .go (.sq .go .go))) (.sq (.sq .go (.sq .go .go)) (.sq .go (.sq (.sq .go (.sq .go .go)) .go)))))

abbrev E4 : Env := mkE tab gl 57 false [(17, 1), (27, 1), (28, 1), (29, 1), (26, 1), (33, 1), (35, 1), (39, 1), (44, 1), (52, 1), (10, 2), (14, 2), (16, 2), (4, 2), (5, 2), (6, 2), (7, 2), (0, 2)]
abbrev plan4 : Plan := (.sq .go (.sq .go (.sq .go (.sq .go (.sq .go (.sq .go (.sq .go (.sq (.cut [66, 68, 70, 72, 74, 76, 78, 80, 82, 84, 86, 88, 90, 92, 94, 96, 98, 100, 102, 104, 106, 108, 110, 112, 0] [⟨0, [(0, (.lf .bool))], [14, 12, 64, 62, 52, 60, 58, 56, 54, 50, 48, 10, 8, 46, 44, 34, 42, 40, 38, 36, 6, 32, 30, 4, 28, 26, 24, 22, 2, 20, 18, 16]⟩] .go) .go))))))))

abbrev E3 : Env := mkE tab gl 100 false [(30, 1), (76, 1), (19, 1), (21, 1), (32, 1), (26, 1), (43, 1), (46, 1), (56, 1), (67, 1), (77, 1), (60, 1), (85, 1), (97, 1), (4, 2), (5, 2), (8, 2), (6, 2), (9, 2), (10, 2), (11, 2), (13, 2), (64, 2), (12, 2)]
abbrev plan3 : Plan := (.sq .go (.sq (.sq .go (.sq .go .go)) (.sq .go (.sq .go (.sq (.sq .go (.sq (.loop [52, 74, 72, 12, 60, 70, 68, 66, 64, 62, 48, 49, 16, 58, 56, 54] [(52, (.lf (.int .i64))), (12, (.lf (.sl 2 (.st 48 (.cons (.int .i64) (.cons (.int .i64) (.cons (.st 16 (.cons (.int .i64) (.cons (.int .i64) .unit))) (.cons .str .unit)))))))), (48, (.lf (.sl 2 (.int .i64))))] [46, 44, 42, 10, 40, 38, 34, 32, 30, 8, 0] [⟨2, [(12, (.lf (.sl 2 (.st 48 (.cons (.int .i64) (.cons (.int .i64) (.cons (.st 16 (.cons (.int .i64) (.cons (.int .i64) .unit))) (.cons .str .unit))))))))], [52, 50, 48, 46, 44, 42, 10, 40, 38, 34, 32, 30, 0]⟩] (.sq .go (.sq .go (.sq (.sq (.sq (.opn [(48, 0, 24)]) .go) .go) .go)))) .go)) (.sq .go (.sq (.sq (.cut [104, 102, 100, 98, 96, 94, 92, 90, 88, 86, 84] [⟨0, [(104, (.lf .bool))], [20, 82, 80, 78, 76]⟩] .go) (.sq .go .go)) (.sq .go (.sq .go (.sq (.sq .go (.sq (.loop [12, 104, 106, 108, 110, 112, 114, 124, 126, 128, 26, 130, 132, 134, 136, 138, 140, 142, 144, 146, 148, 28, 150, 158, 24, 152, 156, 29, 154, 160, 120, 122] [(24, (.lf (.sl 2 (.st 48 (.cons (.int .i64) (.cons (.int .i64) (.cons (.st 16 (.cons (.int .i64) (.cons (.int .i64) .unit))) (.cons .str .unit)))))))), (120, (.lf (.int .i64)))] [114, 112, 110, 108, 106, 104, 12] [⟨4, [(24, (.lf (.sl 2 (.st 48 (.cons (.int .i64) (.cons (.int .i64) (.cons (.st 16 (.cons (.int .i64) (.cons (.int .i64) .unit))) (.cons .str .unit))))))))], [120, 118, 116, 114, 112, 110, 108, 106, 104, 18, 12]⟩] (.sq .go (.sq .go (.sq (.sq (.sq .go (.sq (.cut [150, 148, 146, 144, 142, 140, 138, 136, 134, 132, 130] [⟨0, [(150, (.lf .bool))], [26, 128, 126, 124, 122]⟩] .go) (.cut [154, 29, 156, 152, 24, 158] [⟨0, [(24, (.lf (.sl 2 (.st 48 (.cons (.int .i64) (.cons (.int .i64) (.cons (.st 16 (.cons (.int .i64) (.cons (.int .i64) .unit))) (.cons .str .unit))))))))], [150, 28]⟩] .go))) .go) .go)))) .go)) (.sq (.cut [22, 162, 24, 164, 166, 168, 170, 172, 174, 176, 178, 180, 182, 184, 186, 188, 190, 192, 194, 196, 198, 8] [⟨0, [(8, (.lf .bool))], [24, 22, 2]⟩] .go) .go)))))))))))
end Go.Abs.C29

namespace Sp29
abbrev Tp := List Int × Int × Unit
def on {α : Type} (b : Bool) (x : α) : Option α := bif b then some x else none
def wf (t : Tp) : Bool := decide (0 ≤ t.2.1) && decide (t.2.1 ≤ t.1.length) && decide (t.1.length ≤ 2000)
def cut (x n : Int) : Int := bif decide (n < 1) then 0 else x.emod n
def raw (t : Tp) : Int × Tp := bif decide (t.2.1 < t.1.length) then (t.1.getD t.2.1.toNat 0, t.1, t.2.1 + 1, ()) else (0, t)
def next (t : Tp) (n : Int) : Int × Tp := (cut (raw t).1 n, (raw t).2)
def tape (l : List Int) : Tp := (l.take 2000, 0, ())
def inside (n lo hi : Int) : Bool := decide (lo ≤ n) && decide (n ≤ hi)
def vlen (n : Int) : Bool := decide (n = 8) || decide (n = 16) || decide (n = 32) || decide (n = 64)
def orderN (t : Tp) : Nat → List Int × Tp
  | 0 => ([], t)
  | k + 1 => let s := orderN t k; let a := next s.2 ((k : Int) + 1); (s.1.take a.1.toNat ++ (k : Int) :: s.1.drop a.1.toNat, a.2)
def order (t : Tp) (n : Nat) : List Int × Tp := orderN t n
def cmpI (a b : Int) : Int := bif decide (a < b) then -1 else bif decide (b < a) then 1 else 0
def cmpS (a b : List Int) : Int := bif Go.Abs.ltBytes a b then -1 else bif !(Go.Abs.ltBytes a b || a == b) then 1 else 0
def firstNZ : List Int → Int
  | [] => 0
  | x :: r => bif decide (x = 0) then firstNZ r else x
abbrev Rc := Int × Int × (Int × Int × Unit) × List Int × Unit
abbrev zR : Rc := (0, 0, (0, 0, ()), [], ())
abbrev Rf := Int × Int × Int × Int × List Int × Unit
def cmpF (a b : Rf) : Int := firstNZ [cmpI a.1 b.1, cmpI a.2.1 b.2.1, cmpI a.2.2.1 b.2.2.1, cmpI a.2.2.2.1 b.2.2.2.1, cmpS a.2.2.2.2.1 b.2.2.2.2.1]
def flat (a : Rc) : Rf := (a.1, a.2.1, a.2.2.1.1, a.2.2.1.2.1, a.2.2.2.1, ())
def cmpR (a b : Rc) : Int := cmpF (flat a) (flat b)
def rep (l : List Rc) : List Rc := ((List.range (l.length - 1)).filter fun i => decide (l.getD (i + 1) zR = l.getD i zR)).map fun i => l.getD (i + 1) zR
def dis (l : List Rc) : List Rc := ((List.range l.length).filter fun i => decide (i = 0) || !decide (l.getD (i - 1) zR = l.getD i zR)).map fun i => l.getD i zR
abbrev f0 : Int × List Int × Unit := (2, [], ())
abbrev m0 : Int × List (Int × Int × (Int × List Int × Unit) × Int × Unit) × Unit := (0, [(7, 4, (2, [], ()), 9, ())], ())
abbrev e0 : List (Int × Int × Unit) := [(3, 2, ())]
abbrev p0 : Int × Int × List (Int × Int × Unit) × Unit := (0, 8, e0, ())
abbrev Pk := Int × Int × Int × Int × Int × Int × Int × Int × Int × List Int × Unit
abbrev pk (a : Int) : Pk := (1, 0, 0, 8, 0, 0, 0, 0, 2, [a, 4, 120], ())
abbrev dl (a : Int) : Int × Pk := (3, pk a)
set_option synthInstance.maxSize 100000
set_option synthInstance.maxHeartbeats 200000
set_option maxSynthPendingDepth 100
def eqM (x y : Int × Int × Int × Int × Int × List Int × Unit) : Bool := decide (x = y)
def eqK (p q : Pk) : Bool := decide (p.1 = q.1) && decide (p.2.1 = q.2.1) && decide (p.2.2.1 = q.2.2.1) && decide (p.2.2.2.1 = q.2.2.2.1) && eqM p.2.2.2.2 q.2.2.2.2
theorem of_eqK {p q : Pk} (h : eqK p q = true) : p = q := by
  obtain ⟨a, b, c, d, e⟩ := p
  obtain ⟨a', b', c', d', e'⟩ := q
  unfold eqK eqM at h
  simp only [Bool.and_eq_true, decide_eq_true_eq] at h
  obtain ⟨⟨⟨⟨h1, h2⟩, h3⟩, h4⟩, h5⟩ := h
  subst h1 h2 h3 h4 h5
  rfl
def isK (p : Pk) : Bool := eqK p (pk 1) || eqK p (pk 7)
def isD (d : Int × Pk) : Bool := decide (d.1 = 3) && isK d.2
def isF (x : Int × List Int × Unit) : Bool := decide (x = f0)
def isM (x : Int × List (Int × Int × (Int × List Int × Unit) × Int × Unit) × Unit) : Bool := decide (x = m0)
def isE (x : List (Int × Int × Unit)) : Bool := decide (x = e0)
def isX (x : Int × Int × Unit) : Bool := decide (x = (3, 2, ()))
def isP (x : Int × Int × List (Int × Int × Unit) × Unit) : Bool := decide (x = p0)
def sameR (x y : List Rc) : Bool := decide (x = y)
def none_ {α : Type} (x : List α) : Bool := x.isEmpty
end Sp29

namespace Go.Abs.C29
open Go Go.Abs
abbrev rcX : Ty := .st 48 (.cons (.int .i64) (.cons (.int .i64) (.cons (.st 16 (.cons (.int .i64) (.cons (.int .i64) .unit))) (.cons .str .unit))))
def bs (l : List Int) : ByteArray := ⟨(l.map fun n => UInt8.ofNat n.toNat).toArray⟩
def nrm (x : Sp29.Rc) : Sp29.Rc := (x.1, x.2.1, x.2.2.1, sby (bs x.2.2.2.1), ())
def ltR (x y : Sp29.Rc) : Bool := decide (Sp29.cmpR (nrm x) (nrm y) < 0)
def sortR (l : List Sp29.Rc) : List Sp29.Rc := (Go.Sort.pdq ltR l.toArray 0 l.length (Go.Lib.bitLen l.length) true true).toList
def xf13 : XF := fun dst _ args => match args with
  | [(.rsl X sx, .arrv s2 true false (.st 48 (.cons (.int .i64) (.cons (.int .i64) (.cons (.st 16 (.cons (.int .i64) (.cons (.int .i64) .unit))) (.cons .str .unit))))) l), (.fnc 14, _)] => bif Nat.beq sx s2 then
      some (true, [(2 * X + 1, .arrv s2 true false rcX (sortR l)), (2 * dst, .undef)]) else none
  | _ => none
theorem sby_bs {l : List Int} (h : ∀ c ∈ l, 0 ≤ c ∧ c < 256) : sby (bs l) = l := by
  unfold sby bs
  simp only [List.map_map]
  refine (List.map_congr_left (g := id) fun c hc => ?_).trans (List.map_id _)
  obtain ⟨h1, h2⟩ := h c hc
  show ((UInt8.ofNat c.toNat).toNat : Int) = c
  rw [UInt8.toNat_ofNat']
  omega
theorem bs_sby (s : ByteArray) : bs (sby s) = s := by
  unfold bs sby
  obtain ⟨⟨l⟩⟩ := s
  simp only [List.map_map]
  congr 1
  congr 1
  refine (List.map_congr_left (g := id) fun c hc => ?_).trans (List.map_id _)
  show UInt8.ofNat ((c.toNat : Int)).toNat = c
  simp
end Go.Abs.C29

namespace Go.Abs.C29
open Go Go.Abs
abbrev tape : List Lf := [.sl 0 (.int .i64), .int .i64]
abbrev rcF : Ty := .cons (.int .i64) (.cons (.int .i64) (.cons (.st 16 (.cons (.int .i64) (.cons (.int .i64) .unit))) (.cons .str .unit)))
abbrev rcT : Ty := .st 48 rcF
abbrev edT : Ty := .st 16 (.cons (.int .i64) (.cons (.int .i64) .unit))
abbrev mbT : Ty := .st 56 (.cons (.int .i64) (.cons (.int .i64) (.cons (.st 32 (.cons (.int .i64) (.cons (.sl (.int .i64)) .unit))) (.cons (.int .i64) .unit))))
abbrev edF : Ty := .cons (.int .i64) (.cons (.int .i64) .unit)
abbrev rcl : List Lf := [.int .i64, .int .i64, .int .i64, .int .i64, .str]
abbrev edl : List Lf := [.int .i64, .int .i64]
abbrev pnl : List Lf := [.int .i64, .int .i64, .sl 0 edT]
abbrev fll : List Lf := [.int .i64, .sl 0 (.int .i64)]
abbrev msl : List Lf := [.int .i64, .sl 0 mbT]
abbrev pkl : List Lf := [.int .i64, .int .i64, .int .i64, .int .i64, .int .i64, .int .i64, .int .i64, .int .i64, .int .u64, .str]
abbrev dll : List Lf := [.int .i64, .int .i64, .int .i64, .int .i64, .int .i64, .int .i64, .int .i64, .int .i64, .int .i64, .int .u64, .str]
abbrev i : Sh := .lf (.int .i64)
abbrev b : Sh := .lf .bool
abbrev u : Sh := .lf (.int .u64)
abbrev st : Sh := .lf .str
abbrev ls : Sh := .lf (.sl 0 (.int .i64))
abbrev lso : Sh := .lf (.sl 2 (.int .i64))
abbrev lr : Sh := .lf (.sl 0 rcT)
abbrev lro : Sh := .lf (.sl 2 rcT)
abbrev les : Sh := .lf (.sl 0 edT)
abbrev rc : Sh := .agg rcl
abbrev ed : Sh := .agg edl
abbrev pn : Sh := .agg pnl
abbrev fl : Sh := .agg fll
abbrev ms : Sh := .agg msl
abbrev pk : Sh := .agg pkl
abbrev dl : Sh := .agg dll
abbrev vE : Sh := .lf (.vp edF)
abbrev kl53 : Sh := .lf (.clo 53 edF)
def c19 : Con := { hasP := false, pre := [], ps := [i, i], rs := (.one i), post := [], F := fun x => some (Sp29.cut x.2.1 x.2.2.1, ()) }
def c20 : Con := { hasP := true, pre := tape, ps := [], rs := (.one i), post := tape, F := fun x => Sp29.on (Sp29.wf x.1) (Sp29.raw x.1) }
def c11 : Con := { hasP := true, pre := tape, ps := [i], rs := (.one i), post := tape, F := fun x => Sp29.on (Sp29.wf x.1) (Sp29.next x.1 x.2.1) }
def c5 : Con := { hasP := false, pre := [], ps := [ls], rs := (.newp tape), post := [], F := fun x => some (Sp29.tape x.2.1, ()) }
def c6 : Con := { hasP := true, pre := tape, ps := [i], rs := (.one lso), post := tape, F := fun x => Sp29.on (Sp29.wf x.1 && Sp29.inside x.2.1 0 1000) (Sp29.order x.1 x.2.1.toNat) }
def c48 : Con := { hasP := false, pre := [], ps := [i], rs := (.one b), post := [], F := fun x => some (false, ()) }
def c49 : Con := { hasP := false, pre := [], ps := [st], rs := (.one b), post := [], F := fun x => some (false, ()) }
def c24 : Con := { hasP := false, pre := [], ps := [i, i], rs := (.one i), post := [], F := fun x => some (Sp29.cmpI x.2.1 x.2.2.1, ()) }
def c25 : Con := { hasP := false, pre := [], ps := [st, st], rs := (.one i), post := [], F := fun x => some (Sp29.cmpS x.2.1 x.2.2.1, ()) }
def c23 : Con := { hasP := false, pre := [], ps := [ls], rs := (.one i), post := [], F := fun x => some (Sp29.firstNZ x.2.1, ()) }
def c14 : Con := { hasP := false, pre := [], ps := [rc, rc], rs := (.one i), post := [], F := fun x => some (Sp29.cmpF x.2.1 x.2.2.1, ()) }
def c12 : Con := { hasP := false, pre := [], ps := [lr], rs := (.one lro), post := [], F := fun x => some (x.2.1, ()) }
def c13 : Con := { hasP := false, pre := [], ps := [], rs := .none, post := [], F := fun _ => none, xf := some xf13 }
def c7 : Con := { hasP := false, pre := [], ps := [lr], rs := (.one lr), post := [], F := fun x => some (Go.Abs.C29.sortR x.2.1, ()) }
def c8 : Con := { hasP := false, pre := [], ps := [lr, lr], rs := (.one b), post := [], F := fun x => some (Sp29.sameR x.2.1 x.2.2.1, ()) }
def c9 : Con := { hasP := false, pre := [], ps := [lr], rs := (.one lr), post := [], F := fun x => some (Sp29.rep (Go.Abs.C29.sortR x.2.1), ()) }
def c26 : Con := { hasP := false, pre := [], ps := [i, i, i], rs := (.one b), post := [], F := fun x => some (Sp29.inside x.2.1 x.2.2.1 x.2.2.2.1, ()) }
def c50 : Con := { hasP := false, pre := [], ps := [i, i, i], rs := (.one b), post := [], F := fun x => some (Sp29.inside x.2.1 x.2.2.1 x.2.2.2.1, ()) }
def c51 : Con := { hasP := false, pre := [], ps := [i], rs := (.one b), post := [], F := fun x => some (Sp29.vlen x.2.1, ()) }
def c27 : Con := { hasP := false, pre := [], ps := [fl], rs := (.one i), post := [], F := fun x => Sp29.on (Sp29.isF x.2.1) (0, ()) }
def c28 : Con := { hasP := false, pre := [], ps := [fl], rs := (.one b), post := [], F := fun x => Sp29.on (Sp29.isF x.2.1) (false, ()) }
def c15 : Con := { hasP := false, pre := [], ps := [ms], rs := (.one i), post := [], F := fun x => Sp29.on (Sp29.isM x.2.1) (0, ()) }
def c53 : Con := { hasP := false, pre := [], ps := [ed, vE], rs := (.one b), post := [], F := fun x => some (decide (x.2.1.1 = x.2.2.1.1), ()) }
def c63 : Con := { hasP := false, pre := [], ps := [les, kl53], rs := (.one i), post := [], F := fun x => Sp29.on (Sp29.none_ x.2.1) (-1, ()) }
def c52 : Con := { hasP := false, pre := [], ps := [les, kl53], rs := (.one b), post := [], F := fun x => Sp29.on (Sp29.none_ x.2.1) (false, ()) }
def c30 : Con := { hasP := false, pre := [], ps := [pn], rs := (.one b), post := [], F := fun x => Sp29.on (Sp29.isP x.2.1) (true, ()) }
def c54 : Con := { hasP := false, pre := [], ps := [i, i], rs := (.one b), post := [], F := fun x => some (Sp29.inside x.2.1 0 x.2.2.1, ()) }
def c64 : Con := { hasP := false, pre := [], ps := [i], rs := (.one u), post := [], F := fun x => Sp29.on (decide (x.2.1 = 8)) (255, ()) }
def c55 : Con := { hasP := false, pre := [], ps := [u, i], rs := (.one b), post := [], F := fun x => Sp29.on (decide (x.2.1 = 2) && decide (x.2.2.1 = 8)) (true, ()) }
def c31 : Con := { hasP := false, pre := [], ps := [pk], rs := (.one b), post := [], F := fun x => Sp29.on (Sp29.isK x.2.1) (true, ()) }
def c32 : Con := { hasP := false, pre := [], ps := [u], rs := (.one i), post := [], F := fun x => Sp29.on (decide (x.2.1 = 2)) (1, ()) }
def c34 : Con := { hasP := false, pre := [], ps := [u], rs := (.one i), post := [], F := fun x => Sp29.on (decide (x.2.1 = 2)) (1, ()) }
def c33 : Con := { hasP := false, pre := [], ps := [i, i, i], rs := (.tup [i, b]), post := [], F := fun x => Sp29.on (decide (x.2.1 = 0) && decide (x.2.2.1 = 1) && decide (x.2.2.2.1 = 8)) ((2, true, ()), ()) }
def c56 : Con := { hasP := false, pre := [], ps := [les, ed], rs := (.one i), post := [], F := fun x => Sp29.on (Sp29.isE x.2.1 && Sp29.isX x.2.2.1) (0, ()) }
def c35 : Con := { hasP := false, pre := [], ps := [les, ed], rs := (.one b), post := [], F := fun x => Sp29.on (Sp29.isE x.2.1 && Sp29.isX x.2.2.1) (true, ()) }
def c16 : Con := { hasP := false, pre := [], ps := [pn, dl], rs := (.one b), post := [], F := fun x => Sp29.on (Sp29.isP x.2.1 && Sp29.isD x.2.2.1) (true, ()) }
def c36 : Con := { hasP := false, pre := [], ps := [ed], rs := (.one b), post := [], F := fun x => some (Sp29.inside x.2.1.1 1 99 && Sp29.inside x.2.1.2.1 1 99, ()) }
def c17 : Con := { hasP := false, pre := [], ps := [st], rs := (.tup [ed, st, i]), post := [], F := fun x => Sp29.on (decide (x.2.1 = [1, 4, 120]) || decide (x.2.1 = [7, 4, 120])) (((x.2.1.getD 0 0, 4, ()), [120], 0, ()), ()) }
def c68 : Con := { hasP := false, pre := [], ps := [ls, i], rs := (.one i), post := [], F := fun x => Sp29.on (Sp29.none_ x.2.1) (-1, ()) }
def c67 : Con := { hasP := false, pre := [], ps := [ls, i], rs := (.one b), post := [], F := fun x => Sp29.on (Sp29.none_ x.2.1) (false, ()) }
def c65 : Con := { hasP := false, pre := [], ps := [fl, i], rs := (.one b), post := [], F := fun x => Sp29.on (Sp29.isF x.2.1) (true, ()) }
def c57 : Con := { hasP := false, pre := [], ps := [fl, i], rs := (.one b), post := [], F := fun x => Sp29.on (Sp29.isF x.2.1 && decide (0 < x.2.2.1)) (true, ()) }
def c37 : Con := { hasP := false, pre := [], ps := [ms, ed], rs := (.one ls), post := [], F := fun x => Sp29.on (Sp29.isM x.2.1 && decide (x.2.2.1.2.1 = 4) && decide (0 < x.2.2.1.1)) (bif decide (x.2.2.1.1 = 7) then [] else [7], ()) }
def c18 : Con := { hasP := false, pre := [], ps := [ms, i, ed, st], rs := (.one lr), post := [], F := fun x => Sp29.on (Sp29.isM x.2.1 && decide (x.2.2.2.1.2.1 = 4) && decide (0 < x.2.2.2.1.1)) (bif decide (x.2.2.2.1.1 = 7) then [] else [(7, x.2.2.1, (x.2.2.2.1.1, 4, ()), x.2.2.2.2.1, ())], ()) }
def c10 : Con := { hasP := false, pre := [], ps := [pn, ms, dl], rs := (.tup [lr, i]), post := [], F := fun x => Sp29.on (Sp29.isP x.2.1 && Sp29.isM x.2.2.1 && Sp29.isD x.2.2.2.1) ((bif Sp29.eqK x.2.2.2.1.2 (Sp29.pk 7) then [] else [(7, 3, (1, 4, ()), [120], ())], 0, ()), ()) }
def c4 : Con := { hasP := false, pre := [], ps := [], rs := (.one b), post := [], F := fun x => some (true, ()) }
def c3 : Con := { hasP := false, pre := [], ps := [ls, lr], rs := (.one b), post := [], F := fun x => some (true, ()) }
abbrev L0 : List (Nat × Con) := []
abbrev G19 : Gam := lookC L0
abbrev L19 : List (Nat × Con) := ((19 : Nat), c19) :: L0
abbrev G20 : Gam := lookC L19
abbrev L20 : List (Nat × Con) := ((20 : Nat), c20) :: L19
abbrev G11 : Gam := lookC L20
abbrev L11 : List (Nat × Con) := ((11 : Nat), c11) :: L20
abbrev G5 : Gam := lookC L11
abbrev L5 : List (Nat × Con) := ((5 : Nat), c5) :: L11
abbrev G6 : Gam := lookC L5
abbrev L6 : List (Nat × Con) := ((6 : Nat), c6) :: L5
abbrev G48 : Gam := lookC L6
abbrev L48 : List (Nat × Con) := ((48 : Nat), c48) :: L6
abbrev G49 : Gam := lookC L48
abbrev L49 : List (Nat × Con) := ((49 : Nat), c49) :: L48
abbrev G24 : Gam := lookC L49
abbrev L24 : List (Nat × Con) := ((24 : Nat), c24) :: L49
abbrev G25 : Gam := lookC L24
abbrev L25 : List (Nat × Con) := ((25 : Nat), c25) :: L24
abbrev G23 : Gam := lookC L25
abbrev L23 : List (Nat × Con) := ((23 : Nat), c23) :: L25
abbrev G14 : Gam := lookC L23
abbrev L14 : List (Nat × Con) := ((14 : Nat), c14) :: L23
abbrev L12 : List (Nat × Con) := ((12 : Nat), c12) :: L14
abbrev L13 : List (Nat × Con) := ((13 : Nat), c13) :: L12
abbrev G7 : Gam := lookC L13
abbrev L7 : List (Nat × Con) := ((7 : Nat), c7) :: L13
abbrev G8 : Gam := lookC L7
abbrev L8 : List (Nat × Con) := ((8 : Nat), c8) :: L7
abbrev G9 : Gam := lookC L8
abbrev L9 : List (Nat × Con) := ((9 : Nat), c9) :: L8
abbrev G26 : Gam := lookC L9
abbrev L26 : List (Nat × Con) := ((26 : Nat), c26) :: L9
abbrev G50 : Gam := lookC L26
abbrev L50 : List (Nat × Con) := ((50 : Nat), c50) :: L26
abbrev G51 : Gam := lookC L50
abbrev L51 : List (Nat × Con) := ((51 : Nat), c51) :: L50
abbrev G27 : Gam := lookC L51
abbrev L27 : List (Nat × Con) := ((27 : Nat), c27) :: L51
abbrev G28 : Gam := lookC L27
abbrev L28 : List (Nat × Con) := ((28 : Nat), c28) :: L27
abbrev G15 : Gam := lookC L28
abbrev L15 : List (Nat × Con) := ((15 : Nat), c15) :: L28
abbrev G53 : Gam := lookC L15
abbrev L53 : List (Nat × Con) := ((53 : Nat), c53) :: L15
abbrev G63 : Gam := lookC L53
abbrev L63 : List (Nat × Con) := ((63 : Nat), c63) :: L53
abbrev G52 : Gam := lookC L63
abbrev L52 : List (Nat × Con) := ((52 : Nat), c52) :: L63
abbrev G30 : Gam := lookC L52
abbrev L30 : List (Nat × Con) := ((30 : Nat), c30) :: L52
abbrev G54 : Gam := lookC L30
abbrev L54 : List (Nat × Con) := ((54 : Nat), c54) :: L30
abbrev G64 : Gam := lookC L54
abbrev L64 : List (Nat × Con) := ((64 : Nat), c64) :: L54
abbrev G55 : Gam := lookC L64
abbrev L55 : List (Nat × Con) := ((55 : Nat), c55) :: L64
abbrev G31 : Gam := lookC L55
abbrev L31 : List (Nat × Con) := ((31 : Nat), c31) :: L55
abbrev G32 : Gam := lookC L31
abbrev L32 : List (Nat × Con) := ((32 : Nat), c32) :: L31
abbrev G34 : Gam := lookC L32
abbrev L34 : List (Nat × Con) := ((34 : Nat), c34) :: L32
abbrev G33 : Gam := lookC L34
abbrev L33 : List (Nat × Con) := ((33 : Nat), c33) :: L34
abbrev G56 : Gam := lookC L33
abbrev L56 : List (Nat × Con) := ((56 : Nat), c56) :: L33
abbrev G35 : Gam := lookC L56
abbrev L35 : List (Nat × Con) := ((35 : Nat), c35) :: L56
abbrev G16 : Gam := lookC L35
abbrev L16 : List (Nat × Con) := ((16 : Nat), c16) :: L35
abbrev G36 : Gam := lookC L16
abbrev L36 : List (Nat × Con) := ((36 : Nat), c36) :: L16
abbrev G17 : Gam := lookC L36
abbrev L17 : List (Nat × Con) := ((17 : Nat), c17) :: L36
abbrev G68 : Gam := lookC L17
abbrev L68 : List (Nat × Con) := ((68 : Nat), c68) :: L17
abbrev G67 : Gam := lookC L68
abbrev L67 : List (Nat × Con) := ((67 : Nat), c67) :: L68
abbrev G65 : Gam := lookC L67
abbrev L65 : List (Nat × Con) := ((65 : Nat), c65) :: L67
abbrev G57 : Gam := lookC L65
abbrev L57 : List (Nat × Con) := ((57 : Nat), c57) :: L65
abbrev G37 : Gam := lookC L57
abbrev L37 : List (Nat × Con) := ((37 : Nat), c37) :: L57
abbrev G18 : Gam := lookC L37
abbrev L18 : List (Nat × Con) := ((18 : Nat), c18) :: L37
abbrev G10 : Gam := lookC L18
abbrev L10 : List (Nat × Con) := ((10 : Nat), c10) :: L18
abbrev G4 : Gam := lookC L10
abbrev L4 : List (Nat × Con) := ((4 : Nat), c4) :: L10
abbrev G3 : Gam := lookC L4
end Go.Abs.C29

namespace Go.Abs.C29
open Go Go.Abs
set_option maxRecDepth 20000
set_option linter.unusedVariables false
noncomputable def g32 (a0 : Int) : (Option (Int × Unit)) :=
  (some ((IntKind.wrap Go.IntKind.i64 (Int.ofNat (@BitVec.toNat 64 (@BitVec.and 64 (@BitVec.ofInt 64 (IntKind.wrap Go.IntKind.i64 (IntKind.wrap Go.IntKind.u64 ((IntKind.wrap Go.IntKind.u64 ((IntKind.wrap Go.IntKind.u64 ((IntKind.wrap Go.IntKind.u64 (Int.ofNat (@BitVec.toNat 64 (@BitVec.and 64 (@BitVec.ofInt 64 (IntKind.wrap Go.IntKind.u64 ((@Int.fdiv (IntKind.wrap Go.IntKind.u64 ((IntKind.wrap Go.IntKind.u64 (Int.ofNat (@BitVec.toNat 64 (@BitVec.and 64 (@BitVec.ofInt 64 (@Int.fdiv (IntKind.wrap Go.IntKind.u64 ((IntKind.wrap Go.IntKind.u64 (Int.ofNat (@BitVec.toNat 64 (@BitVec.and 64 (@BitVec.ofInt 64 (@Int.fdiv a0 (2 : Int))) (@BitVec.ofInt 64 (6148914691236517205 : Int)))))) + (IntKind.wrap Go.IntKind.u64 (Int.ofNat (@BitVec.toNat 64 (@BitVec.and 64 (@BitVec.ofInt 64 a0) (@BitVec.ofInt 64 (6148914691236517205 : Int)))))))) (4 : Int))) (@BitVec.ofInt 64 (3689348814741910323 : Int)))))) + (IntKind.wrap Go.IntKind.u64 (Int.ofNat (@BitVec.toNat 64 (@BitVec.and 64 (@BitVec.ofInt 64 (IntKind.wrap Go.IntKind.u64 ((IntKind.wrap Go.IntKind.u64 (Int.ofNat (@BitVec.toNat 64 (@BitVec.and 64 (@BitVec.ofInt 64 (@Int.fdiv a0 (2 : Int))) (@BitVec.ofInt 64 (6148914691236517205 : Int)))))) + (IntKind.wrap Go.IntKind.u64 (Int.ofNat (@BitVec.toNat 64 (@BitVec.and 64 (@BitVec.ofInt 64 a0) (@BitVec.ofInt 64 (6148914691236517205 : Int))))))))) (@BitVec.ofInt 64 (3689348814741910323 : Int)))))))) (16 : Int)) + (IntKind.wrap Go.IntKind.u64 ((IntKind.wrap Go.IntKind.u64 (Int.ofNat (@BitVec.toNat 64 (@BitVec.and 64 (@BitVec.ofInt 64 (@Int.fdiv (IntKind.wrap Go.IntKind.u64 ((IntKind.wrap Go.IntKind.u64 (Int.ofNat (@BitVec.toNat 64 (@BitVec.and 64 (@BitVec.ofInt 64 (@Int.fdiv a0 (2 : Int))) (@BitVec.ofInt 64 (6148914691236517205 : Int)))))) + (IntKind.wrap Go.IntKind.u64 (Int.ofNat (@BitVec.toNat 64 (@BitVec.and 64 (@BitVec.ofInt 64 a0) (@BitVec.ofInt 64 (6148914691236517205 : Int)))))))) (4 : Int))) (@BitVec.ofInt 64 (3689348814741910323 : Int)))))) + (IntKind.wrap Go.IntKind.u64 (Int.ofNat (@BitVec.toNat 64 (@BitVec.and 64 (@BitVec.ofInt 64 (IntKind.wrap Go.IntKind.u64 ((IntKind.wrap Go.IntKind.u64 (Int.ofNat (@BitVec.toNat 64 (@BitVec.and 64 (@BitVec.ofInt 64 (@Int.fdiv a0 (2 : Int))) (@BitVec.ofInt 64 (6148914691236517205 : Int)))))) + (IntKind.wrap Go.IntKind.u64 (Int.ofNat (@BitVec.toNat 64 (@BitVec.and 64 (@BitVec.ofInt 64 a0) (@BitVec.ofInt 64 (6148914691236517205 : Int))))))))) (@BitVec.ofInt 64 (3689348814741910323 : Int))))))))))) (@BitVec.ofInt 64 (1085102592571150095 : Int)))))) + (@Int.fdiv (IntKind.wrap Go.IntKind.u64 (Int.ofNat (@BitVec.toNat 64 (@BitVec.and 64 (@BitVec.ofInt 64 (IntKind.wrap Go.IntKind.u64 ((@Int.fdiv (IntKind.wrap Go.IntKind.u64 ((IntKind.wrap Go.IntKind.u64 (Int.ofNat (@BitVec.toNat 64 (@BitVec.and 64 (@BitVec.ofInt 64 (@Int.fdiv (IntKind.wrap Go.IntKind.u64 ((IntKind.wrap Go.IntKind.u64 (Int.ofNat (@BitVec.toNat 64 (@BitVec.and 64 (@BitVec.ofInt 64 (@Int.fdiv a0 (2 : Int))) (@BitVec.ofInt 64 (6148914691236517205 : Int)))))) + (IntKind.wrap Go.IntKind.u64 (Int.ofNat (@BitVec.toNat 64 (@BitVec.and 64 (@BitVec.ofInt 64 a0) (@BitVec.ofInt 64 (6148914691236517205 : Int)))))))) (4 : Int))) (@BitVec.ofInt 64 (3689348814741910323 : Int)))))) + (IntKind.wrap Go.IntKind.u64 (Int.ofNat (@BitVec.toNat 64 (@BitVec.and 64 (@BitVec.ofInt 64 (IntKind.wrap Go.IntKind.u64 ((IntKind.wrap Go.IntKind.u64 (Int.ofNat (@BitVec.toNat 64 (@BitVec.and 64 (@BitVec.ofInt 64 (@Int.fdiv a0 (2 : Int))) (@BitVec.ofInt 64 (6148914691236517205 : Int)))))) + (IntKind.wrap Go.IntKind.u64 (Int.ofNat (@BitVec.toNat 64 (@BitVec.and 64 (@BitVec.ofInt 64 a0) (@BitVec.ofInt 64 (6148914691236517205 : Int))))))))) (@BitVec.ofInt 64 (3689348814741910323 : Int)))))))) (16 : Int)) + (IntKind.wrap Go.IntKind.u64 ((IntKind.wrap Go.IntKind.u64 (Int.ofNat (@BitVec.toNat 64 (@BitVec.and 64 (@BitVec.ofInt 64 (@Int.fdiv (IntKind.wrap Go.IntKind.u64 ((IntKind.wrap Go.IntKind.u64 (Int.ofNat (@BitVec.toNat 64 (@BitVec.and 64 (@BitVec.ofInt 64 (@Int.fdiv a0 (2 : Int))) (@BitVec.ofInt 64 (6148914691236517205 : Int)))))) + (IntKind.wrap Go.IntKind.u64 (Int.ofNat (@BitVec.toNat 64 (@BitVec.and 64 (@BitVec.ofInt 64 a0) (@BitVec.ofInt 64 (6148914691236517205 : Int)))))))) (4 : Int))) (@BitVec.ofInt 64 (3689348814741910323 : Int)))))) + (IntKind.wrap Go.IntKind.u64 (Int.ofNat (@BitVec.toNat 64 (@BitVec.and 64 (@BitVec.ofInt 64 (IntKind.wrap Go.IntKind.u64 ((IntKind.wrap Go.IntKind.u64 (Int.ofNat (@BitVec.toNat 64 (@BitVec.and 64 (@BitVec.ofInt 64 (@Int.fdiv a0 (2 : Int))) (@BitVec.ofInt 64 (6148914691236517205 : Int)))))) + (IntKind.wrap Go.IntKind.u64 (Int.ofNat (@BitVec.toNat 64 (@BitVec.and 64 (@BitVec.ofInt 64 a0) (@BitVec.ofInt 64 (6148914691236517205 : Int))))))))) (@BitVec.ofInt 64 (3689348814741910323 : Int))))))))))) (@BitVec.ofInt 64 (1085102592571150095 : Int)))))) (256 : Int)))) + (@Int.fdiv (IntKind.wrap Go.IntKind.u64 ((IntKind.wrap Go.IntKind.u64 (Int.ofNat (@BitVec.toNat 64 (@BitVec.and 64 (@BitVec.ofInt 64 (IntKind.wrap Go.IntKind.u64 ((@Int.fdiv (IntKind.wrap Go.IntKind.u64 ((IntKind.wrap Go.IntKind.u64 (Int.ofNat (@BitVec.toNat 64 (@BitVec.and 64 (@BitVec.ofInt 64 (@Int.fdiv (IntKind.wrap Go.IntKind.u64 ((IntKind.wrap Go.IntKind.u64 (Int.ofNat (@BitVec.toNat 64 (@BitVec.and 64 (@BitVec.ofInt 64 (@Int.fdiv a0 (2 : Int))) (@BitVec.ofInt 64 (6148914691236517205 : Int)))))) + (IntKind.wrap Go.IntKind.u64 (Int.ofNat (@BitVec.toNat 64 (@BitVec.and 64 (@BitVec.ofInt 64 a0) (@BitVec.ofInt 64 (6148914691236517205 : Int)))))))) (4 : Int))) (@BitVec.ofInt 64 (3689348814741910323 : Int)))))) + (IntKind.wrap Go.IntKind.u64 (Int.ofNat (@BitVec.toNat 64 (@BitVec.and 64 (@BitVec.ofInt 64 (IntKind.wrap Go.IntKind.u64 ((IntKind.wrap Go.IntKind.u64 (Int.ofNat (@BitVec.toNat 64 (@BitVec.and 64 (@BitVec.ofInt 64 (@Int.fdiv a0 (2 : Int))) (@BitVec.ofInt 64 (6148914691236517205 : Int)))))) + (IntKind.wrap Go.IntKind.u64 (Int.ofNat (@BitVec.toNat 64 (@BitVec.and 64 (@BitVec.ofInt 64 a0) (@BitVec.ofInt 64 (6148914691236517205 : Int))))))))) (@BitVec.ofInt 64 (3689348814741910323 : Int)))))))) (16 : Int)) + (IntKind.wrap Go.IntKind.u64 ((IntKind.wrap Go.IntKind.u64 (Int.ofNat (@BitVec.toNat 64 (@BitVec.and 64 (@BitVec.ofInt 64 (@Int.fdiv (IntKind.wrap Go.IntKind.u64 ((IntKind.wrap Go.IntKind.u64 (Int.ofNat (@BitVec.toNat 64 (@BitVec.and 64 (@BitVec.ofInt 64 (@Int.fdiv a0 (2 : Int))) (@BitVec.ofInt 64 (6148914691236517205 : Int)))))) + (IntKind.wrap Go.IntKind.u64 (Int.ofNat (@BitVec.toNat 64 (@BitVec.and 64 (@BitVec.ofInt 64 a0) (@BitVec.ofInt 64 (6148914691236517205 : Int)))))))) (4 : Int))) (@BitVec.ofInt 64 (3689348814741910323 : Int)))))) + (IntKind.wrap Go.IntKind.u64 (Int.ofNat (@BitVec.toNat 64 (@BitVec.and 64 (@BitVec.ofInt 64 (IntKind.wrap Go.IntKind.u64 ((IntKind.wrap Go.IntKind.u64 (Int.ofNat (@BitVec.toNat 64 (@BitVec.and 64 (@BitVec.ofInt 64 (@Int.fdiv a0 (2 : Int))) (@BitVec.ofInt 64 (6148914691236517205 : Int)))))) + (IntKind.wrap Go.IntKind.u64 (Int.ofNat (@BitVec.toNat 64 (@BitVec.and 64 (@BitVec.ofInt 64 a0) (@BitVec.ofInt 64 (6148914691236517205 : Int))))))))) (@BitVec.ofInt 64 (3689348814741910323 : Int))))))))))) (@BitVec.ofInt 64 (1085102592571150095 : Int)))))) + (@Int.fdiv (IntKind.wrap Go.IntKind.u64 (Int.ofNat (@BitVec.toNat 64 (@BitVec.and 64 (@BitVec.ofInt 64 (IntKind.wrap Go.IntKind.u64 ((@Int.fdiv (IntKind.wrap Go.IntKind.u64 ((IntKind.wrap Go.IntKind.u64 (Int.ofNat (@BitVec.toNat 64 (@BitVec.and 64 (@BitVec.ofInt 64 (@Int.fdiv (IntKind.wrap Go.IntKind.u64 ((IntKind.wrap Go.IntKind.u64 (Int.ofNat (@BitVec.toNat 64 (@BitVec.and 64 (@BitVec.ofInt 64 (@Int.fdiv a0 (2 : Int))) (@BitVec.ofInt 64 (6148914691236517205 : Int)))))) + (IntKind.wrap Go.IntKind.u64 (Int.ofNat (@BitVec.toNat 64 (@BitVec.and 64 (@BitVec.ofInt 64 a0) (@BitVec.ofInt 64 (6148914691236517205 : Int)))))))) (4 : Int))) (@BitVec.ofInt 64 (3689348814741910323 : Int)))))) + (IntKind.wrap Go.IntKind.u64 (Int.ofNat (@BitVec.toNat 64 (@BitVec.and 64 (@BitVec.ofInt 64 (IntKind.wrap Go.IntKind.u64 ((IntKind.wrap Go.IntKind.u64 (Int.ofNat (@BitVec.toNat 64 (@BitVec.and 64 (@BitVec.ofInt 64 (@Int.fdiv a0 (2 : Int))) (@BitVec.ofInt 64 (6148914691236517205 : Int)))))) + (IntKind.wrap Go.IntKind.u64 (Int.ofNat (@BitVec.toNat 64 (@BitVec.and 64 (@BitVec.ofInt 64 a0) (@BitVec.ofInt 64 (6148914691236517205 : Int))))))))) (@BitVec.ofInt 64 (3689348814741910323 : Int)))))))) (16 : Int)) + (IntKind.wrap Go.IntKind.u64 ((IntKind.wrap Go.IntKind.u64 (Int.ofNat (@BitVec.toNat 64 (@BitVec.and 64 (@BitVec.ofInt 64 (@Int.fdiv (IntKind.wrap Go.IntKind.u64 ((IntKind.wrap Go.IntKind.u64 (Int.ofNat (@BitVec.toNat 64 (@BitVec.and 64 (@BitVec.ofInt 64 (@Int.fdiv a0 (2 : Int))) (@BitVec.ofInt 64 (6148914691236517205 : Int)))))) + (IntKind.wrap Go.IntKind.u64 (Int.ofNat (@BitVec.toNat 64 (@BitVec.and 64 (@BitVec.ofInt 64 a0) (@BitVec.ofInt 64 (6148914691236517205 : Int)))))))) (4 : Int))) (@BitVec.ofInt 64 (3689348814741910323 : Int)))))) + (IntKind.wrap Go.IntKind.u64 (Int.ofNat (@BitVec.toNat 64 (@BitVec.and 64 (@BitVec.ofInt 64 (IntKind.wrap Go.IntKind.u64 ((IntKind.wrap Go.IntKind.u64 (Int.ofNat (@BitVec.toNat 64 (@BitVec.and 64 (@BitVec.ofInt 64 (@Int.fdiv a0 (2 : Int))) (@BitVec.ofInt 64 (6148914691236517205 : Int)))))) + (IntKind.wrap Go.IntKind.u64 (Int.ofNat (@BitVec.toNat 64 (@BitVec.and 64 (@BitVec.ofInt 64 a0) (@BitVec.ofInt 64 (6148914691236517205 : Int))))))))) (@BitVec.ofInt 64 (3689348814741910323 : Int))))))))))) (@BitVec.ofInt 64 (1085102592571150095 : Int)))))) (256 : Int)))) (65536 : Int)))) + (@Int.fdiv (IntKind.wrap Go.IntKind.u64 ((IntKind.wrap Go.IntKind.u64 ((IntKind.wrap Go.IntKind.u64 (Int.ofNat (@BitVec.toNat 64 (@BitVec.and 64 (@BitVec.ofInt 64 (IntKind.wrap Go.IntKind.u64 ((@Int.fdiv (IntKind.wrap Go.IntKind.u64 ((IntKind.wrap Go.IntKind.u64 (Int.ofNat (@BitVec.toNat 64 (@BitVec.and 64 (@BitVec.ofInt 64 (@Int.fdiv (IntKind.wrap Go.IntKind.u64 ((IntKind.wrap Go.IntKind.u64 (Int.ofNat (@BitVec.toNat 64 (@BitVec.and 64 (@BitVec.ofInt 64 (@Int.fdiv a0 (2 : Int))) (@BitVec.ofInt 64 (6148914691236517205 : Int)))))) + (IntKind.wrap Go.IntKind.u64 (Int.ofNat (@BitVec.toNat 64 (@BitVec.and 64 (@BitVec.ofInt 64 a0) (@BitVec.ofInt 64 (6148914691236517205 : Int)))))))) (4 : Int))) (@BitVec.ofInt 64 (3689348814741910323 : Int)))))) + (IntKind.wrap Go.IntKind.u64 (Int.ofNat (@BitVec.toNat 64 (@BitVec.and 64 (@BitVec.ofInt 64 (IntKind.wrap Go.IntKind.u64 ((IntKind.wrap Go.IntKind.u64 (Int.ofNat (@BitVec.toNat 64 (@BitVec.and 64 (@BitVec.ofInt 64 (@Int.fdiv a0 (2 : Int))) (@BitVec.ofInt 64 (6148914691236517205 : Int)))))) + (IntKind.wrap Go.IntKind.u64 (Int.ofNat (@BitVec.toNat 64 (@BitVec.and 64 (@BitVec.ofInt 64 a0) (@BitVec.ofInt 64 (6148914691236517205 : Int))))))))) (@BitVec.ofInt 64 (3689348814741910323 : Int)))))))) (16 : Int)) + (IntKind.wrap Go.IntKind.u64 ((IntKind.wrap Go.IntKind.u64 (Int.ofNat (@BitVec.toNat 64 (@BitVec.and 64 (@BitVec.ofInt 64 (@Int.fdiv (IntKind.wrap Go.IntKind.u64 ((IntKind.wrap Go.IntKind.u64 (Int.ofNat (@BitVec.toNat 64 (@BitVec.and 64 (@BitVec.ofInt 64 (@Int.fdiv a0 (2 : Int))) (@BitVec.ofInt 64 (6148914691236517205 : Int)))))) + (IntKind.wrap Go.IntKind.u64 (Int.ofNat (@BitVec.toNat 64 (@BitVec.and 64 (@BitVec.ofInt 64 a0) (@BitVec.ofInt 64 (6148914691236517205 : Int)))))))) (4 : Int))) (@BitVec.ofInt 64 (3689348814741910323 : Int)))))) + (IntKind.wrap Go.IntKind.u64 (Int.ofNat (@BitVec.toNat 64 (@BitVec.and 64 (@BitVec.ofInt 64 (IntKind.wrap Go.IntKind.u64 ((IntKind.wrap Go.IntKind.u64 (Int.ofNat (@BitVec.toNat 64 (@BitVec.and 64 (@BitVec.ofInt 64 (@Int.fdiv a0 (2 : Int))) (@BitVec.ofInt 64 (6148914691236517205 : Int)))))) + (IntKind.wrap Go.IntKind.u64 (Int.ofNat (@BitVec.toNat 64 (@BitVec.and 64 (@BitVec.ofInt 64 a0) (@BitVec.ofInt 64 (6148914691236517205 : Int))))))))) (@BitVec.ofInt 64 (3689348814741910323 : Int))))))))))) (@BitVec.ofInt 64 (1085102592571150095 : Int)))))) + (@Int.fdiv (IntKind.wrap Go.IntKind.u64 (Int.ofNat (@BitVec.toNat 64 (@BitVec.and 64 (@BitVec.ofInt 64 (IntKind.wrap Go.IntKind.u64 ((@Int.fdiv (IntKind.wrap Go.IntKind.u64 ((IntKind.wrap Go.IntKind.u64 (Int.ofNat (@BitVec.toNat 64 (@BitVec.and 64 (@BitVec.ofInt 64 (@Int.fdiv (IntKind.wrap Go.IntKind.u64 ((IntKind.wrap Go.IntKind.u64 (Int.ofNat (@BitVec.toNat 64 (@BitVec.and 64 (@BitVec.ofInt 64 (@Int.fdiv a0 (2 : Int))) (@BitVec.ofInt 64 (6148914691236517205 : Int)))))) + (IntKind.wrap Go.IntKind.u64 (Int.ofNat (@BitVec.toNat 64 (@BitVec.and 64 (@BitVec.ofInt 64 a0) (@BitVec.ofInt 64 (6148914691236517205 : Int)))))))) (4 : Int))) (@BitVec.ofInt 64 (3689348814741910323 : Int)))))) + (IntKind.wrap Go.IntKind.u64 (Int.ofNat (@BitVec.toNat 64 (@BitVec.and 64 (@BitVec.ofInt 64 (IntKind.wrap Go.IntKind.u64 ((IntKind.wrap Go.IntKind.u64 (Int.ofNat (@BitVec.toNat 64 (@BitVec.and 64 (@BitVec.ofInt 64 (@Int.fdiv a0 (2 : Int))) (@BitVec.ofInt 64 (6148914691236517205 : Int)))))) + (IntKind.wrap Go.IntKind.u64 (Int.ofNat (@BitVec.toNat 64 (@BitVec.and 64 (@BitVec.ofInt 64 a0) (@BitVec.ofInt 64 (6148914691236517205 : Int))))))))) (@BitVec.ofInt 64 (3689348814741910323 : Int)))))))) (16 : Int)) + (IntKind.wrap Go.IntKind.u64 ((IntKind.wrap Go.IntKind.u64 (Int.ofNat (@BitVec.toNat 64 (@BitVec.and 64 (@BitVec.ofInt 64 (@Int.fdiv (IntKind.wrap Go.IntKind.u64 ((IntKind.wrap Go.IntKind.u64 (Int.ofNat (@BitVec.toNat 64 (@BitVec.and 64 (@BitVec.ofInt 64 (@Int.fdiv a0 (2 : Int))) (@BitVec.ofInt 64 (6148914691236517205 : Int)))))) + (IntKind.wrap Go.IntKind.u64 (Int.ofNat (@BitVec.toNat 64 (@BitVec.and 64 (@BitVec.ofInt 64 a0) (@BitVec.ofInt 64 (6148914691236517205 : Int)))))))) (4 : Int))) (@BitVec.ofInt 64 (3689348814741910323 : Int)))))) + (IntKind.wrap Go.IntKind.u64 (Int.ofNat (@BitVec.toNat 64 (@BitVec.and 64 (@BitVec.ofInt 64 (IntKind.wrap Go.IntKind.u64 ((IntKind.wrap Go.IntKind.u64 (Int.ofNat (@BitVec.toNat 64 (@BitVec.and 64 (@BitVec.ofInt 64 (@Int.fdiv a0 (2 : Int))) (@BitVec.ofInt 64 (6148914691236517205 : Int)))))) + (IntKind.wrap Go.IntKind.u64 (Int.ofNat (@BitVec.toNat 64 (@BitVec.and 64 (@BitVec.ofInt 64 a0) (@BitVec.ofInt 64 (6148914691236517205 : Int))))))))) (@BitVec.ofInt 64 (3689348814741910323 : Int))))))))))) (@BitVec.ofInt 64 (1085102592571150095 : Int)))))) (256 : Int)))) + (@Int.fdiv (IntKind.wrap Go.IntKind.u64 ((IntKind.wrap Go.IntKind.u64 (Int.ofNat (@BitVec.toNat 64 (@BitVec.and 64 (@BitVec.ofInt 64 (IntKind.wrap Go.IntKind.u64 ((@Int.fdiv (IntKind.wrap Go.IntKind.u64 ((IntKind.wrap Go.IntKind.u64 (Int.ofNat (@BitVec.toNat 64 (@BitVec.and 64 (@BitVec.ofInt 64 (@Int.fdiv (IntKind.wrap Go.IntKind.u64 ((IntKind.wrap Go.IntKind.u64 (Int.ofNat (@BitVec.toNat 64 (@BitVec.and 64 (@BitVec.ofInt 64 (@Int.fdiv a0 (2 : Int))) (@BitVec.ofInt 64 (6148914691236517205 : Int)))))) + (IntKind.wrap Go.IntKind.u64 (Int.ofNat (@BitVec.toNat 64 (@BitVec.and 64 (@BitVec.ofInt 64 a0) (@BitVec.ofInt 64 (6148914691236517205 : Int)))))))) (4 : Int))) (@BitVec.ofInt 64 (3689348814741910323 : Int)))))) + (IntKind.wrap Go.IntKind.u64 (Int.ofNat (@BitVec.toNat 64 (@BitVec.and 64 (@BitVec.ofInt 64 (IntKind.wrap Go.IntKind.u64 ((IntKind.wrap Go.IntKind.u64 (Int.ofNat (@BitVec.toNat 64 (@BitVec.and 64 (@BitVec.ofInt 64 (@Int.fdiv a0 (2 : Int))) (@BitVec.ofInt 64 (6148914691236517205 : Int)))))) + (IntKind.wrap Go.IntKind.u64 (Int.ofNat (@BitVec.toNat 64 (@BitVec.and 64 (@BitVec.ofInt 64 a0) (@BitVec.ofInt 64 (6148914691236517205 : Int))))))))) (@BitVec.ofInt 64 (3689348814741910323 : Int)))))))) (16 : Int)) + (IntKind.wrap Go.IntKind.u64 ((IntKind.wrap Go.IntKind.u64 (Int.ofNat (@BitVec.toNat 64 (@BitVec.and 64 (@BitVec.ofInt 64 (@Int.fdiv (IntKind.wrap Go.IntKind.u64 ((IntKind.wrap Go.IntKind.u64 (Int.ofNat (@BitVec.toNat 64 (@BitVec.and 64 (@BitVec.ofInt 64 (@Int.fdiv a0 (2 : Int))) (@BitVec.ofInt 64 (6148914691236517205 : Int)))))) + (IntKind.wrap Go.IntKind.u64 (Int.ofNat (@BitVec.toNat 64 (@BitVec.and 64 (@BitVec.ofInt 64 a0) (@BitVec.ofInt 64 (6148914691236517205 : Int)))))))) (4 : Int))) (@BitVec.ofInt 64 (3689348814741910323 : Int)))))) + (IntKind.wrap Go.IntKind.u64 (Int.ofNat (@BitVec.toNat 64 (@BitVec.and 64 (@BitVec.ofInt 64 (IntKind.wrap Go.IntKind.u64 ((IntKind.wrap Go.IntKind.u64 (Int.ofNat (@BitVec.toNat 64 (@BitVec.and 64 (@BitVec.ofInt 64 (@Int.fdiv a0 (2 : Int))) (@BitVec.ofInt 64 (6148914691236517205 : Int)))))) + (IntKind.wrap Go.IntKind.u64 (Int.ofNat (@BitVec.toNat 64 (@BitVec.and 64 (@BitVec.ofInt 64 a0) (@BitVec.ofInt 64 (6148914691236517205 : Int))))))))) (@BitVec.ofInt 64 (3689348814741910323 : Int))))))))))) (@BitVec.ofInt 64 (1085102592571150095 : Int)))))) + (@Int.fdiv (IntKind.wrap Go.IntKind.u64 (Int.ofNat (@BitVec.toNat 64 (@BitVec.and 64 (@BitVec.ofInt 64 (IntKind.wrap Go.IntKind.u64 ((@Int.fdiv (IntKind.wrap Go.IntKind.u64 ((IntKind.wrap Go.IntKind.u64 (Int.ofNat (@BitVec.toNat 64 (@BitVec.and 64 (@BitVec.ofInt 64 (@Int.fdiv (IntKind.wrap Go.IntKind.u64 ((IntKind.wrap Go.IntKind.u64 (Int.ofNat (@BitVec.toNat 64 (@BitVec.and 64 (@BitVec.ofInt 64 (@Int.fdiv a0 (2 : Int))) (@BitVec.ofInt 64 (6148914691236517205 : Int)))))) + (IntKind.wrap Go.IntKind.u64 (Int.ofNat (@BitVec.toNat 64 (@BitVec.and 64 (@BitVec.ofInt 64 a0) (@BitVec.ofInt 64 (6148914691236517205 : Int)))))))) (4 : Int))) (@BitVec.ofInt 64 (3689348814741910323 : Int)))))) + (IntKind.wrap Go.IntKind.u64 (Int.ofNat (@BitVec.toNat 64 (@BitVec.and 64 (@BitVec.ofInt 64 (IntKind.wrap Go.IntKind.u64 ((IntKind.wrap Go.IntKind.u64 (Int.ofNat (@BitVec.toNat 64 (@BitVec.and 64 (@BitVec.ofInt 64 (@Int.fdiv a0 (2 : Int))) (@BitVec.ofInt 64 (6148914691236517205 : Int)))))) + (IntKind.wrap Go.IntKind.u64 (Int.ofNat (@BitVec.toNat 64 (@BitVec.and 64 (@BitVec.ofInt 64 a0) (@BitVec.ofInt 64 (6148914691236517205 : Int))))))))) (@BitVec.ofInt 64 (3689348814741910323 : Int)))))))) (16 : Int)) + (IntKind.wrap Go.IntKind.u64 ((IntKind.wrap Go.IntKind.u64 (Int.ofNat (@BitVec.toNat 64 (@BitVec.and 64 (@BitVec.ofInt 64 (@Int.fdiv (IntKind.wrap Go.IntKind.u64 ((IntKind.wrap Go.IntKind.u64 (Int.ofNat (@BitVec.toNat 64 (@BitVec.and 64 (@BitVec.ofInt 64 (@Int.fdiv a0 (2 : Int))) (@BitVec.ofInt 64 (6148914691236517205 : Int)))))) + (IntKind.wrap Go.IntKind.u64 (Int.ofNat (@BitVec.toNat 64 (@BitVec.and 64 (@BitVec.ofInt 64 a0) (@BitVec.ofInt 64 (6148914691236517205 : Int)))))))) (4 : Int))) (@BitVec.ofInt 64 (3689348814741910323 : Int)))))) + (IntKind.wrap Go.IntKind.u64 (Int.ofNat (@BitVec.toNat 64 (@BitVec.and 64 (@BitVec.ofInt 64 (IntKind.wrap Go.IntKind.u64 ((IntKind.wrap Go.IntKind.u64 (Int.ofNat (@BitVec.toNat 64 (@BitVec.and 64 (@BitVec.ofInt 64 (@Int.fdiv a0 (2 : Int))) (@BitVec.ofInt 64 (6148914691236517205 : Int)))))) + (IntKind.wrap Go.IntKind.u64 (Int.ofNat (@BitVec.toNat 64 (@BitVec.and 64 (@BitVec.ofInt 64 a0) (@BitVec.ofInt 64 (6148914691236517205 : Int))))))))) (@BitVec.ofInt 64 (3689348814741910323 : Int))))))))))) (@BitVec.ofInt 64 (1085102592571150095 : Int)))))) (256 : Int)))) (65536 : Int)))) (4294967296 : Int)))))) (@BitVec.ofInt 64 (127 : Int)))))), ()))
theorem g32_eq (a0 : Int) : (evF (fun _ _ => Loop) Go.Abs.C29.E32 Go.Abs.C29.G32 Go.Proofs.Tryd.f32 Go.Abs.C29.plan32 Go.Abs.C29.c32 ((), (a0, ()))).den = g32 a0 := by kernel_rfl

noncomputable def g28 (a0 : Int) (a1 : (@List Int)) : (Option (Bool × Unit)) :=
  (Option.bind (bif (decide (a0 = (1 : Int))) then (some ((decide ((Int.ofNat a1.length) = (0 : Int))), ())) else (some (false, ()))) (fun (y2 : (Bool × Unit)) => (some y2)))
theorem g28_eq (a0 : Int) (a1 : (@List Int)) : (evF (fun _ _ => Loop) Go.Abs.C29.E28 Go.Abs.C29.G28 Go.Proofs.Tryd.f28 Go.Abs.C29.plan28 Go.Abs.C29.c28 ((), ((a0, (a1, ())), ()))).den = g28 a0 a1 := by kernel_rfl

noncomputable def g67 (a0 : (@List Int)) (a1 : Int) : (Option (Bool × Unit)) :=
  (Option.bind (@Sp29.on (Int × Unit) (@Sp29.none_ Int a0) ((-1 : Int), ())) (fun (y2 : (Int × Unit)) => (some ((decide (y2.1 ≥ (0 : Int))), ()))))
theorem g67_eq (a0 : (@List Int)) (a1 : Int) : (evF (fun _ _ => Loop) Go.Abs.C29.E67 Go.Abs.C29.G67 Go.Proofs.Tryd.f67 Go.Abs.C29.plan67 Go.Abs.C29.c67 ((), (a0, (a1, ())))).den = g67 a0 a1 := by kernel_rfl

noncomputable def g49 (a0 : (@List Int)) : (Option (Bool × Unit)) :=
  (some ((!(@List.beq Int (@instBEqOfDecidableEq Int Int.instDecidableEq) a0 a0)), ()))
theorem g49_eq (a0 : (@List Int)) : (evF (fun _ _ => Loop) Go.Abs.C29.E49 Go.Abs.C29.G49 Go.Proofs.Tryd.f49 Go.Abs.C29.plan49 Go.Abs.C29.c49 ((), (a0, ()))).den = g49 a0 := by kernel_rfl
end Go.Abs.C29

namespace Go.Abs.C29
open Go Go.Abs
set_option maxRecDepth 20000
set_option linter.unusedVariables false
noncomputable def g3_s0 (a0 : (@List (Int × (Int × ((Int × (Int × Unit)) × ((@List Int) × Unit)))))) (a1 : ((@List Int) × ((@List Int) × (Int × Unit)))) (a2 : (Int × ((@List (Int × (Int × ((Int × (Int × Unit)) × ((@List Int) × Unit))))) × ((@List Int) × Unit)))) : (Option (Sum (Int × ((@List (Int × (Int × ((Int × (Int × Unit)) × ((@List Int) × Unit))))) × ((@List Int) × Unit))) ((@List (Int × (Int × ((Int × (Int × Unit)) × ((@List Int) × Unit))))) × Unit))) :=
  (bif (decide (a2.1 < (Int.ofNat a1.1.length))) then (bif ((decide ((0 : Int) ≤ a2.1)) && (decide (a2.1 < (Int.ofNat a2.2.2.1.length)))) then (bif (@Nat.blt (Int.toNat a2.1) a2.2.2.1.length) then (bif ((decide ((0 : Int) ≤ (List.getD a2.2.2.1 (Int.toNat a2.1) (0 : Int)))) && (decide ((List.getD a2.2.2.1 (Int.toNat a2.1) (0 : Int)) < (Int.ofNat a0.length)))) then (bif (@Nat.ble ((a2.2.1.length + 1) * 48) 140737488355328) then (some (.inl ((IntKind.wrap Go.IntKind.i64 (a2.1 + (1 : Int))), ((a2.2.1 ++ ((List.getD a0 (Int.toNat (List.getD a2.2.2.1 (Int.toNat a2.1) (0 : Int))) ((0 : Int), ((0 : Int), (((0 : Int), ((0 : Int), ())), ([], ()))))) :: [])), a2.2.2)))) else none) else none) else none) else none) else (some (.inr (a2.2.1, ()))))
noncomputable def g3_s1 (a0 : (@List (Int × (Int × ((Int × (Int × Unit)) × ((@List Int) × Unit)))))) (a1 : ((@List (Int × (Int × ((Int × (Int × Unit)) × ((@List Int) × Unit))))) × (Int × Unit))) : (Option (Sum ((@List (Int × (Int × ((Int × (Int × Unit)) × ((@List Int) × Unit))))) × (Int × Unit)) ((@List (Int × (Int × ((Int × (Int × Unit)) × ((@List Int) × Unit))))) × Unit))) :=
  (bif (decide (a1.2.1 < (Int.ofNat (@Go.Abs.C29.sortR a0).length))) then (bif ((decide ((0 : Int) ≤ a1.2.1)) && (decide (a1.2.1 < (Int.ofNat (@Go.Abs.C29.sortR a0).length)))) then (Option.bind (bif (!(decide (a1.2.1 = (0 : Int)))) then (bif (!(decide (a1.2.1 = (0 : Int)))) then (bif (!(decide (a1.2.1 = (0 : Int)))) then (bif (!(decide (a1.2.1 = (0 : Int)))) then (bif ((decide ((0 : Int) ≤ (IntKind.wrap Go.IntKind.i64 (a1.2.1 - (1 : Int))))) && (decide ((IntKind.wrap Go.IntKind.i64 (a1.2.1 - (1 : Int))) < (Int.ofNat (@Go.Abs.C29.sortR a0).length)))) then (bif (!(decide (a1.2.1 = (0 : Int)))) then (bif (!(decide (a1.2.1 = (0 : Int)))) then (bif (!(decide (a1.2.1 = (0 : Int)))) then (bif (!(decide (a1.2.1 = (0 : Int)))) then (some ((!((decide ((List.getD (@Go.Abs.C29.sortR a0) (Int.toNat (IntKind.wrap Go.IntKind.i64 (a1.2.1 - (1 : Int)))) ((0 : Int), ((0 : Int), (((0 : Int), ((0 : Int), ())), ([], ()))))).1 = (List.getD (@Go.Abs.C29.sortR a0) (Int.toNat a1.2.1) ((0 : Int), ((0 : Int), (((0 : Int), ((0 : Int), ())), ([], ()))))).1)) && ((decide ((List.getD (@Go.Abs.C29.sortR a0) (Int.toNat (IntKind.wrap Go.IntKind.i64 (a1.2.1 - (1 : Int)))) ((0 : Int), ((0 : Int), (((0 : Int), ((0 : Int), ())), ([], ()))))).2.1 = (List.getD (@Go.Abs.C29.sortR a0) (Int.toNat a1.2.1) ((0 : Int), ((0 : Int), (((0 : Int), ((0 : Int), ())), ([], ()))))).2.1)) && ((decide ((List.getD (@Go.Abs.C29.sortR a0) (Int.toNat (IntKind.wrap Go.IntKind.i64 (a1.2.1 - (1 : Int)))) ((0 : Int), ((0 : Int), (((0 : Int), ((0 : Int), ())), ([], ()))))).2.2.1.1 = (List.getD (@Go.Abs.C29.sortR a0) (Int.toNat a1.2.1) ((0 : Int), ((0 : Int), (((0 : Int), ((0 : Int), ())), ([], ()))))).2.2.1.1)) && ((decide ((List.getD (@Go.Abs.C29.sortR a0) (Int.toNat (IntKind.wrap Go.IntKind.i64 (a1.2.1 - (1 : Int)))) ((0 : Int), ((0 : Int), (((0 : Int), ((0 : Int), ())), ([], ()))))).2.2.1.2.1 = (List.getD (@Go.Abs.C29.sortR a0) (Int.toNat a1.2.1) ((0 : Int), ((0 : Int), (((0 : Int), ((0 : Int), ())), ([], ()))))).2.2.1.2.1)) && ((@List.beq Int (@instBEqOfDecidableEq Int Int.instDecidableEq) (List.getD (@Go.Abs.C29.sortR a0) (Int.toNat (IntKind.wrap Go.IntKind.i64 (a1.2.1 - (1 : Int)))) ((0 : Int), ((0 : Int), (((0 : Int), ((0 : Int), ())), ([], ()))))).2.2.2.1 (List.getD (@Go.Abs.C29.sortR a0) (Int.toNat a1.2.1) ((0 : Int), ((0 : Int), (((0 : Int), ((0 : Int), ())), ([], ()))))).2.2.2.1) && true)))))), ())) else none) else none) else none) else none) else none) else none) else none) else none) else (bif (decide (a1.2.1 = (0 : Int))) then (bif (decide (a1.2.1 = (0 : Int))) then (bif (decide (a1.2.1 = (0 : Int))) then (bif (decide (a1.2.1 = (0 : Int))) then (bif (decide (a1.2.1 = (0 : Int))) then (bif (decide (a1.2.1 = (0 : Int))) then (bif (decide (a1.2.1 = (0 : Int))) then (some (true, ())) else none) else none) else none) else none) else none) else none) else none)) (fun (y2 : (Bool × Unit)) => (Option.bind (bif y2.1 then (bif (@Nat.ble ((a1.1.length + 1) * 48) 140737488355328) then (some ((a1.1 ++ ((List.getD (@Go.Abs.C29.sortR a0) (Int.toNat a1.2.1) ((0 : Int), ((0 : Int), (((0 : Int), ((0 : Int), ())), ([], ()))))) :: [])), ())) else none) else (some (a1.1, ()))) (fun (y3 : ((@List (Int × (Int × ((Int × (Int × Unit)) × ((@List Int) × Unit))))) × Unit)) => (some (.inl (y3.1, ((IntKind.wrap Go.IntKind.i64 (a1.2.1 + (1 : Int))), ())))))))) else none) else (some (.inr (a1.1, ()))))
noncomputable def g3 (a0 : (@List Int)) (a1 : (@List (Int × (Int × ((Int × (Int × Unit)) × ((@List Int) × Unit)))))) : (Option (Bool × Unit)) :=
  (bif (decide ((Int.ofNat a1.length) > (40 : Int))) then (some (true, ())) else (Option.bind (@Sp29.on ((@List Int) × ((@List Int) × (Int × Unit))) ((@Sp29.wf (@Sp29.tape a0)) && (@Sp29.inside (Int.ofNat a1.length) (0 : Int) (1000 : Int))) (@Sp29.order (@Sp29.tape a0) (Int.toNat (Int.ofNat a1.length)))) (fun (y2 : ((@List Int) × ((@List Int) × (Int × Unit)))) => (Option.bind (Loop (@g3_s0 a1 y2) ((0 : Int), ([], (y2.1, ())))) (fun (y3 : ((@List (Int × (Int × ((Int × (Int × Unit)) × ((@List Int) × Unit))))) × Unit)) => (Option.bind (bif (!(!(@Sp29.sameR (@Go.Abs.C29.sortR a1) (@Go.Abs.C29.sortR y3.1)))) then (some ((!(decide ((Int.ofNat (@Go.Abs.C29.sortR a1).length) = (Int.ofNat a1.length)))), ())) else (some (true, ()))) (fun (y4 : (Bool × Unit)) => (bif y4.1 then (some (false, ())) else (bif (@Nat.ble ((0 + a1.length) * 48) 140737488355328) then (bif (@Nat.ble ((([] ++ a1).length + y3.1.length) * 48) 140737488355328) then (Option.bind (Loop (@g3_s1 a1) ([], ((0 : Int), ()))) (fun (y5 : ((@List (Int × (Int × ((Int × (Int × Unit)) × ((@List Int) × Unit))))) × Unit)) => (Option.bind (bif (decide ((Int.ofNat (@Sp29.rep (@Go.Abs.C29.sortR y5.1)).length) = (0 : Int))) then (bif (decide ((Int.ofNat (@Sp29.rep (@Go.Abs.C29.sortR (([] ++ a1) ++ y3.1))).length) = (IntKind.wrap Go.IntKind.i64 ((IntKind.wrap Go.IntKind.i64 ((2 : Int) * (Int.ofNat a1.length))) - (Int.ofNat y5.1.length))))) then (some (true, ())) else (some (false, ()))) else (some (false, ()))) (fun (y6 : (Bool × Unit)) => (some y6))))) else none) else none)))))))))
theorem g3_eq (a0 : (@List Int)) (a1 : (@List (Int × (Int × ((Int × (Int × Unit)) × ((@List Int) × Unit)))))) : (evF (fun _ _ => Loop) Go.Abs.C29.E3 Go.Abs.C29.G3 Go.Proofs.Tryd.f3 Go.Abs.C29.plan3 Go.Abs.C29.c3 ((), (a0, (a1, ())))).den = g3 a0 a1 := by kernel_rfl

noncomputable def g8_s0 (a0 : (@List (Int × (Int × ((Int × (Int × Unit)) × ((@List Int) × Unit)))))) (a1 : (@List (Int × (Int × ((Int × (Int × Unit)) × ((@List Int) × Unit)))))) (a2 : (Int × Unit)) : (Option (Sum (Int × Unit) (Bool × ((Bool × Unit) × Unit)))) :=
  (bif (decide (a2.1 < (Int.ofNat a0.length))) then (bif ((decide ((0 : Int) ≤ a2.1)) && (decide (a2.1 < (Int.ofNat a0.length)))) then (bif ((decide ((0 : Int) ≤ a2.1)) && (decide (a2.1 < (Int.ofNat a1.length)))) then (bif (!((decide ((List.getD a0 (Int.toNat a2.1) ((0 : Int), ((0 : Int), (((0 : Int), ((0 : Int), ())), ([], ()))))).1 = (List.getD a1 (Int.toNat a2.1) ((0 : Int), ((0 : Int), (((0 : Int), ((0 : Int), ())), ([], ()))))).1)) && ((decide ((List.getD a0 (Int.toNat a2.1) ((0 : Int), ((0 : Int), (((0 : Int), ((0 : Int), ())), ([], ()))))).2.1 = (List.getD a1 (Int.toNat a2.1) ((0 : Int), ((0 : Int), (((0 : Int), ((0 : Int), ())), ([], ()))))).2.1)) && ((decide ((List.getD a0 (Int.toNat a2.1) ((0 : Int), ((0 : Int), (((0 : Int), ((0 : Int), ())), ([], ()))))).2.2.1.1 = (List.getD a1 (Int.toNat a2.1) ((0 : Int), ((0 : Int), (((0 : Int), ((0 : Int), ())), ([], ()))))).2.2.1.1)) && ((decide ((List.getD a0 (Int.toNat a2.1) ((0 : Int), ((0 : Int), (((0 : Int), ((0 : Int), ())), ([], ()))))).2.2.1.2.1 = (List.getD a1 (Int.toNat a2.1) ((0 : Int), ((0 : Int), (((0 : Int), ((0 : Int), ())), ([], ()))))).2.2.1.2.1)) && ((@List.beq Int (@instBEqOfDecidableEq Int Int.instDecidableEq) (List.getD a0 (Int.toNat a2.1) ((0 : Int), ((0 : Int), (((0 : Int), ((0 : Int), ())), ([], ()))))).2.2.2.1 (List.getD a1 (Int.toNat a2.1) ((0 : Int), ((0 : Int), (((0 : Int), ((0 : Int), ())), ([], ()))))).2.2.2.1) && true)))))) then (some (.inr (true, ((false, ()), ())))) else (some (.inl ((IntKind.wrap Go.IntKind.i64 (a2.1 + (1 : Int))), ())))) else none) else none) else (some (.inr (false, ((false, ()), ())))))
noncomputable def g8 (a0 : (@List (Int × (Int × ((Int × (Int × Unit)) × ((@List Int) × Unit)))))) (a1 : (@List (Int × (Int × ((Int × (Int × Unit)) × ((@List Int) × Unit)))))) : (Option (Bool × Unit)) :=
  (bif (!(decide ((Int.ofNat a0.length) = (Int.ofNat a1.length)))) then (some (false, ())) else (Option.bind (Loop (@g8_s0 a0 a1) ((0 : Int), ())) (fun (y2 : (Bool × ((Bool × Unit) × Unit))) => (bif y2.1 then (some y2.2.1) else (some (true, ()))))))
theorem g8_eq (a0 : (@List (Int × (Int × ((Int × (Int × Unit)) × ((@List Int) × Unit)))))) (a1 : (@List (Int × (Int × ((Int × (Int × Unit)) × ((@List Int) × Unit)))))) : (evF (fun _ _ => Loop) Go.Abs.C29.E8 Go.Abs.C29.G8 Go.Proofs.Tryd.f8 Go.Abs.C29.plan8 Go.Abs.C29.c8 ((), (a0, (a1, ())))).den = g8 a0 a1 := by kernel_rfl

noncomputable def g27_s0 (a0 : (@List Int)) (a1 : (Int × Unit)) : (Option (Sum (Int × Unit) (Bool × ((Int × Unit) × Unit)))) :=
  (bif (decide (a1.1 < (Int.ofNat a0.length))) then (bif ((decide ((0 : Int) ≤ a1.1)) && (decide (a1.1 < (Int.ofNat a0.length)))) then (Option.bind (bif (!(decide ((List.getD a0 (Int.toNat a1.1) (0 : Int)) < (1 : Int)))) then (some ((decide ((List.getD a0 (Int.toNat a1.1) (0 : Int)) > (99 : Int))), ())) else (some (true, ()))) (fun (y2 : (Bool × Unit)) => (bif y2.1 then (some (.inr (true, (((2 : Int), ()), ())))) else (some (.inl ((IntKind.wrap Go.IntKind.i64 (a1.1 + (1 : Int))), ())))))) else none) else (some (.inr (false, (((0 : Int), ()), ())))))
noncomputable def g27_s1 (a0 : (@List Int)) (a1 : (Int × Unit)) : (Option (Sum (Int × Unit) (Bool × ((Int × Unit) × Unit)))) :=
  (bif (decide (a1.1 < (Int.ofNat a0.length))) then (bif ((decide ((0 : Int) ≤ (IntKind.wrap Go.IntKind.i64 (a1.1 - (1 : Int))))) && (decide ((IntKind.wrap Go.IntKind.i64 (a1.1 - (1 : Int))) < (Int.ofNat a0.length)))) then (bif ((decide ((0 : Int) ≤ a1.1)) && (decide (a1.1 < (Int.ofNat a0.length)))) then (bif (decide ((List.getD a0 (Int.toNat (IntKind.wrap Go.IntKind.i64 (a1.1 - (1 : Int)))) (0 : Int)) ≥ (List.getD a0 (Int.toNat a1.1) (0 : Int)))) then (some (.inr (true, (((25 : Int), ()), ())))) else (some (.inl ((IntKind.wrap Go.IntKind.i64 (a1.1 + (1 : Int))), ())))) else none) else none) else (some (.inr (false, (((0 : Int), ()), ())))))
noncomputable def g27 (a0 : Int) (a1 : (@List Int)) : (Option (Int × Unit)) :=
  (Option.bind (bif (!(decide (a0 = (1 : Int)))) then (some ((!(decide (a0 = (2 : Int)))), ())) else (some (false, ()))) (fun (y2 : (Bool × Unit)) => (bif y2.1 then (some ((1 : Int), ())) else (Option.bind (Loop (@g27_s0 a1) ((0 : Int), ())) (fun (y3 : (Bool × ((Int × Unit) × Unit))) => (bif y3.1 then (some y3.2.1) else (Option.bind (Loop (@g27_s1 a1) ((1 : Int), ())) (fun (y4 : (Bool × ((Int × Unit) × Unit))) => (bif y4.1 then (some y4.2.1) else (some ((0 : Int), ())))))))))))
theorem g27_eq (a0 : Int) (a1 : (@List Int)) : (evF (fun _ _ => Loop) Go.Abs.C29.E27 Go.Abs.C29.G27 Go.Proofs.Tryd.f27 Go.Abs.C29.plan27 Go.Abs.C29.c27 ((), ((a0, (a1, ())), ()))).den = g27 a0 a1 := by kernel_rfl

noncomputable def g6_s0 (a0 : Int) (a1 : (Int × ((@List Int) × (((@List Int) × (Int × Unit)) × Unit)))) : (Option (Sum (Int × ((@List Int) × (((@List Int) × (Int × Unit)) × Unit))) ((@List Int) × (((@List Int) × (Int × Unit)) × Unit)))) :=
  (bif (decide (a1.1 < a0)) then (Option.bind (@Sp29.on (Int × ((@List Int) × (Int × Unit))) (@Sp29.wf a1.2.2.1) (@Sp29.next a1.2.2.1 (IntKind.wrap Go.IntKind.i64 ((Int.ofNat a1.2.1.length) + (1 : Int))))) (fun (y2 : (Int × ((@List Int) × (Int × Unit)))) => (bif (((decide ((0 : Int) ≤ y2.1)) && (decide (y2.1 ≤ (Int.ofNat a1.2.1.length)))) && (decide ((Int.ofNat a1.2.1.length) ≤ (Int.ofNat a1.2.1.length)))) then (bif (@Nat.ble ((1 + (List.drop (Int.toNat y2.1) (List.take (Int.toNat (Int.ofNat a1.2.1.length)) a1.2.1)).length) * 8) 140737488355328) then (bif (((true && (decide ((0 : Int) ≤ y2.1))) && (decide (y2.1 ≤ (Int.ofNat a1.2.1.length)))) && (decide (y2.1 = y2.1))) then (bif (true && (@Nat.ble (((List.drop 0 (List.take (Int.toNat y2.1) a1.2.1)).length + (a1.1 :: ([] ++ (List.drop (Int.toNat y2.1) (List.take (Int.toNat (Int.ofNat a1.2.1.length)) a1.2.1)))).length) * 8) 140737488355328)) then (some (.inl ((IntKind.wrap Go.IntKind.i64 (a1.1 + (1 : Int))), (((List.drop 0 (List.take (Int.toNat y2.1) a1.2.1)) ++ (a1.1 :: ([] ++ (List.drop (Int.toNat y2.1) (List.take (Int.toNat (Int.ofNat a1.2.1.length)) a1.2.1))))), (y2.2, ()))))) else none) else none) else none) else none))) else (some (.inr a1.2)))
noncomputable def g6 (a0 : (@List Int)) (a1 : Int) (a2 : Int) : (Option ((@List Int) × ((@List Int) × (Int × Unit)))) :=
  (Option.bind (Loop (@g6_s0 a2) ((0 : Int), ([], ((a0, (a1, ())), ())))) (fun (y3 : ((@List Int) × (((@List Int) × (Int × Unit)) × Unit))) => (some (y3.1, y3.2.1))))
theorem g6_eq (a0 : (@List Int)) (a1 : Int) (a2 : Int) : (evF (fun _ _ => Loop) Go.Abs.C29.E6 Go.Abs.C29.G6 Go.Proofs.Tryd.f6 Go.Abs.C29.plan6 Go.Abs.C29.c6 ((a0, (a1, ())), (a2, ()))).den = g6 a0 a1 a2 := by kernel_rfl

noncomputable def g17 (a0 : (@List Int)) : (Option (((Int × (Int × Unit)) × ((@List Int) × (Int × Unit))) × Unit)) :=
  (bif (decide ((Int.ofNat a0.length) < (2 : Int))) then (some ((((0 : Int), ((0 : Int), ())), ([], ((20 : Int), ()))), ())) else (bif (true && (decide ((0 : Int) < (Int.ofNat a0.length)))) then (bif (true && (decide ((1 : Int) < (Int.ofNat a0.length)))) then (bif (!((@Sp29.inside (IntKind.wrap Go.IntKind.i64 (List.getD a0 0 (0 : Int))) (1 : Int) (99 : Int)) && (@Sp29.inside (IntKind.wrap Go.IntKind.i64 (List.getD a0 1 (0 : Int))) (1 : Int) (99 : Int)))) then (some ((((0 : Int), ((0 : Int), ())), ([], ((2 : Int), ()))), ())) else (bif ((true && (decide ((2 : Int) ≤ (Int.ofNat a0.length)))) && (decide ((Int.ofNat a0.length) ≤ (Int.ofNat a0.length)))) then (some ((((IntKind.wrap Go.IntKind.i64 (List.getD a0 0 (0 : Int))), ((IntKind.wrap Go.IntKind.i64 (List.getD a0 1 (0 : Int))), ())), ((List.drop 2 (List.take (Int.toNat (Int.ofNat a0.length)) a0)), ((0 : Int), ()))), ())) else none)) else none) else none))
theorem g17_eq (a0 : (@List Int)) : (evF (fun _ _ => Loop) Go.Abs.C29.E17 Go.Abs.C29.G17 Go.Proofs.Tryd.f17 Go.Abs.C29.plan17 Go.Abs.C29.c17 ((), (a0, ()))).den = g17 a0 := by kernel_rfl

noncomputable def g33 (a0 : Int) (a1 : Int) (a2 : Int) : (Option ((Int × (Bool × Unit)) × Unit)) :=
  (Option.bind (bif (!(!(@Sp29.vlen a2))) then (bif (!(!(@Sp29.inside a1 (0 : Int) (IntKind.wrap Go.IntKind.i64 (a2 - (1 : Int)))))) then (some ((!(@Sp29.inside a0 (0 : Int) (31 : Int))), ())) else (some (true, ()))) else (some (true, ()))) (fun (y3 : (Bool × Unit)) => (bif y3.1 then (some (((0 : Int), (false, ())), ())) else (bif (decide ((IntKind.wrap Go.IntKind.i64 ((IntKind.wrap Go.IntKind.i64 ((IntKind.wrap Go.IntKind.i64 (a0 * a2)) + a1)) + (1 : Int))) > (256 : Int))) then (some (((0 : Int), (false, ())), ())) else (some (((IntKind.wrap Go.IntKind.i64 ((IntKind.wrap Go.IntKind.i64 ((IntKind.wrap Go.IntKind.i64 (a0 * a2)) + a1)) + (1 : Int))), (true, ())), ()))))))
theorem g33_eq (a0 : Int) (a1 : Int) (a2 : Int) : (evF (fun _ _ => Loop) Go.Abs.C29.E33 Go.Abs.C29.G33 Go.Proofs.Tryd.f33 Go.Abs.C29.plan33 Go.Abs.C29.c33 ((), (a0, (a1, (a2, ()))))).den = g33 a0 a1 a2 := by kernel_rfl

noncomputable def g68_s0 (a0 : (@List Int)) (a1 : Int) (a2 : (Int × Unit)) : (Option (Sum (Int × Unit) (Bool × ((Int × Unit) × Unit)))) :=
  (bif (decide (a2.1 < (Int.ofNat a0.length))) then (bif ((decide ((0 : Int) ≤ a2.1)) && (decide (a2.1 < (Int.ofNat a0.length)))) then (bif (decide (a1 = (List.getD a0 (Int.toNat a2.1) (0 : Int)))) then (some (.inr (true, (a2, ())))) else (some (.inl ((IntKind.wrap Go.IntKind.i64 (a2.1 + (1 : Int))), ())))) else none) else (some (.inr (false, (((0 : Int), ()), ())))))
noncomputable def g68 (a0 : (@List Int)) (a1 : Int) : (Option (Int × Unit)) :=
  (Option.bind (Loop (@g68_s0 a0 a1) ((0 : Int), ())) (fun (y2 : (Bool × ((Int × Unit) × Unit))) => (bif y2.1 then (some y2.2.1) else (some ((-1 : Int), ())))))
theorem g68_eq (a0 : (@List Int)) (a1 : Int) : (evF (fun _ _ => Loop) Go.Abs.C29.E68 Go.Abs.C29.G68 Go.Proofs.Tryd.f68 Go.Abs.C29.plan68 Go.Abs.C29.c68 ((), (a0, (a1, ())))).den = g68 a0 a1 := by kernel_rfl

noncomputable def g14 (a0 : Int) (a1 : Int) (a2 : Int) (a3 : Int) (a4 : (@List Int)) (a5 : Int) (a6 : Int) (a7 : Int) (a8 : Int) (a9 : (@List Int)) : (Option (Int × Unit)) :=
  (some ((@Sp29.firstNZ ((@Sp29.cmpI a0 a5) :: ((@Sp29.cmpI a1 a6) :: ((@Sp29.cmpI a2 a7) :: ((@Sp29.cmpI a3 a8) :: ((@Sp29.cmpS a4 a9) :: [])))))), ()))
theorem g14_eq (a0 : Int) (a1 : Int) (a2 : Int) (a3 : Int) (a4 : (@List Int)) (a5 : Int) (a6 : Int) (a7 : Int) (a8 : Int) (a9 : (@List Int)) : (evF (fun _ _ => Loop) Go.Abs.C29.E14 Go.Abs.C29.G14 Go.Proofs.Tryd.f14 Go.Abs.C29.plan14 Go.Abs.C29.c14 ((), ((a0, (a1, (a2, (a3, (a4, ()))))), ((a5, (a6, (a7, (a8, (a9, ()))))), ())))).den = g14 a0 a1 a2 a3 a4 a5 a6 a7 a8 a9 := by kernel_rfl

noncomputable def g36 (a0 : Int) (a1 : Int) : (Option (Bool × Unit)) :=
  (Option.bind (bif (decide (a0 ≥ (1 : Int))) then (bif (decide (a0 ≤ (99 : Int))) then (bif (decide (a1 ≥ (1 : Int))) then (some ((decide (a1 ≤ (99 : Int))), ())) else (some (false, ()))) else (some (false, ()))) else (some (false, ()))) (fun (y2 : (Bool × Unit)) => (some y2)))
theorem g36_eq (a0 : Int) (a1 : Int) : (evF (fun _ _ => Loop) Go.Abs.C29.E36 Go.Abs.C29.G36 Go.Proofs.Tryd.f36 Go.Abs.C29.plan36 Go.Abs.C29.c36 ((), ((a0, (a1, ())), ()))).den = g36 a0 a1 := by kernel_rfl

noncomputable def g25 (a0 : (@List Int)) (a1 : (@List Int)) : (Option (Int × Unit)) :=
  (bif (@Go.Abs.ltBytes a0 a1) then (some ((-1 : Int), ())) else (bif (!((@Go.Abs.ltBytes a0 a1) || (@List.beq Int (@instBEqOfDecidableEq Int Int.instDecidableEq) a0 a1))) then (some ((1 : Int), ())) else (some ((0 : Int), ()))))
theorem g25_eq (a0 : (@List Int)) (a1 : (@List Int)) : (evF (fun _ _ => Loop) Go.Abs.C29.E25 Go.Abs.C29.G25 Go.Proofs.Tryd.f25 Go.Abs.C29.plan25 Go.Abs.C29.c25 ((), (a0, (a1, ())))).den = g25 a0 a1 := by kernel_rfl

noncomputable def g51 (a0 : Int) : (Option (Bool × Unit)) :=
  (Option.bind (bif (!(decide (a0 = (8 : Int)))) then (bif (!(decide (a0 = (16 : Int)))) then (bif (!(decide (a0 = (32 : Int)))) then (some ((decide (a0 = (64 : Int))), ())) else (some (true, ()))) else (some (true, ()))) else (some (true, ()))) (fun (y1 : (Bool × Unit)) => (some y1)))
theorem g51_eq (a0 : Int) : (evF (fun _ _ => Loop) Go.Abs.C29.E51 Go.Abs.C29.G51 Go.Proofs.Tryd.f51 Go.Abs.C29.plan51 Go.Abs.C29.c51 ((), (a0, ()))).den = g51 a0 := by kernel_rfl

noncomputable def g26 (a0 : Int) (a1 : Int) (a2 : Int) : (Option (Bool × Unit)) :=
  (Option.bind (bif (decide (a0 ≥ a1)) then (some ((decide (a0 ≤ a2)), ())) else (some (false, ()))) (fun (y3 : (Bool × Unit)) => (some y3)))
theorem g26_eq (a0 : Int) (a1 : Int) (a2 : Int) : (evF (fun _ _ => Loop) Go.Abs.C29.E26 Go.Abs.C29.G26 Go.Proofs.Tryd.f26 Go.Abs.C29.plan26 Go.Abs.C29.c26 ((), (a0, (a1, (a2, ()))))).den = g26 a0 a1 a2 := by kernel_rfl

noncomputable def g54 (a0 : Int) (a1 : Int) : (Option (Bool × Unit)) :=
  (Option.bind (bif (decide (a0 ≥ (0 : Int))) then (some ((decide (a0 ≤ a1)), ())) else (some (false, ()))) (fun (y2 : (Bool × Unit)) => (some y2)))
theorem g54_eq (a0 : Int) (a1 : Int) : (evF (fun _ _ => Loop) Go.Abs.C29.E54 Go.Abs.C29.G54 Go.Proofs.Tryd.f54 Go.Abs.C29.plan54 Go.Abs.C29.c54 ((), (a0, (a1, ())))).den = g54 a0 a1 := by kernel_rfl
end Go.Abs.C29
