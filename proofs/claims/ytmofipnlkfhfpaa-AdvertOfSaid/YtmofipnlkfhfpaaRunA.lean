/- Chapter 07: proved is, of functions that the law reaches, that the evaluator comes to the printed term; no conditions. -/
import Derived.Test.YtmofipnlkfhfpaaAbsD
import Derived.Test.YtmofipnlkfhfpaaProg
import Derived.KernelRfl
set_option linter.unusedVariables false
set_option linter.unusedSimpArgs false
namespace Go.Abs.C07
open Go.Proofs
def tab : List (Nat × TI) := [
  (3,{ size := 1,bytes := 8,agg := false,ty := (.int .i64),desc := (.int .i64),zero := [(.int .i64 0)],arr := none,cmp := none }),
  (4,{ size := 1,bytes := 1,agg := false,ty := .bool,desc := .bool,zero := [(.bool false)],arr := none,cmp := none }),
  (5,{ size := 1,bytes := 1,agg := false,ty := (.int .u8),desc := (.int .u8),zero := [(.int .u8 0)],arr := none,cmp := none }),
  (9,{ size := 1,bytes := 16,agg := false,ty := .str,desc := .string,zero := [(.str [])],arr := none,cmp := none }),
  (22,{ size := 1,bytes := 24,agg := false,ty := (.sl (.int .i64)),desc := (.slice 3),zero := [(.sl 2 (.int .i64) [])],arr := none,cmp := none }),
  (23,{ size := 1,bytes := 24,agg := false,ty := (.sl (.st 24 (.cons (.int .i64) (.cons (.int .i64) (.cons (.int .i64) .unit))))),desc := (.slice 70),zero := [(.sl 2 (.st 24 (.cons (.int .i64) (.cons (.int .i64) (.cons (.int .i64) .unit)))) [])],arr := none,cmp := none }),
  (24,{ size := 1,bytes := 24,agg := false,ty := (.sl (.st 24 (.cons (.int .i64) (.cons (.int .i64) (.cons (.int .i64) .unit))))),desc := (.slice 73),zero := [(.sl 2 (.st 24 (.cons (.int .i64) (.cons (.int .i64) (.cons (.int .i64) .unit)))) [])],arr := none,cmp := none }),
  (26,{ size := 5,bytes := 72,agg := true,ty := (.st 72 (.cons (.int .i64) (.cons (.int .i64) (.cons .bool (.cons (.sl (.st 24 (.cons (.int .i64) (.cons (.int .i64) (.cons (.int .i64) .unit))))) (.cons (.sl (.st 24 (.cons (.int .i64) (.cons (.int .i64) (.cons (.int .i64) .unit))))) .unit)))))),desc := (.struct #[{ name := "Router",type := 3,offset := 0,byteOffset := 0,embedded := false,tag := "",pkgPath := "" },{ name := "Seq",type := 3,offset := 1,byteOffset := 8,embedded := false,tag := "",pkgPath := "" },{ name := "Capable",type := 4,offset := 2,byteOffset := 16,embedded := false,tag := "",pkgPath := "" },{ name := "Links",type := 23,offset := 3,byteOffset := 24,embedded := false,tag := "",pkgPath := "" },{ name := "Claims",type := 24,offset := 4,byteOffset := 48,embedded := false,tag := "",pkgPath := "" }]),zero := [(.int .i64 0),(.int .i64 0),(.bool false),(.sl 2 (.st 24 (.cons (.int .i64) (.cons (.int .i64) (.cons (.int .i64) .unit)))) []),(.sl 2 (.st 24 (.cons (.int .i64) (.cons (.int .i64) (.cons (.int .i64) .unit)))) [])],arr := none,cmp := none }),
  (27,{ size := 1,bytes := 8,agg := false,ty := .unit,desc := (.pointer 68),zero := [.undef],arr := none,cmp := none }),
  (31,{ size := 1,bytes := 24,agg := false,ty := (.sl (.st 72 (.cons (.int .i64) (.cons (.int .i64) (.cons .bool (.cons (.sl (.st 24 (.cons (.int .i64) (.cons (.int .i64) (.cons (.int .i64) .unit))))) (.cons (.sl (.st 24 (.cons (.int .i64) (.cons (.int .i64) (.cons (.int .i64) .unit))))) .unit))))))),desc := (.slice 26),zero := [(.sl 2 (.st 72 (.cons (.int .i64) (.cons (.int .i64) (.cons .bool (.cons (.sl (.st 24 (.cons (.int .i64) (.cons (.int .i64) (.cons (.int .i64) .unit))))) (.cons (.sl (.st 24 (.cons (.int .i64) (.cons (.int .i64) (.cons (.int .i64) .unit))))) .unit)))))) [])],arr := none,cmp := none }),
  (33,{ size := 1,bytes := 24,agg := false,ty := (.sl (.int .u8)),desc := (.slice 5),zero := [(.sl 2 (.int .u8) [])],arr := none,cmp := none }),
  (34,{ size := 1,bytes := 8,agg := false,ty := (.int .i64),desc := (.int .i64),zero := [(.int .i64 0)],arr := none,cmp := none }),
  (43,{ size := 1,bytes := 8,agg := false,ty := (.int .u64),desc := (.int .u64),zero := [(.int .u64 0)],arr := none,cmp := none }),
  (44,{ size := 1,bytes := 24,agg := false,ty := (.sl (.sl (.int .u8))),desc := (.slice 33),zero := [(.sl 2 (.sl (.int .u8)) [])],arr := none,cmp := none }),
  (47,{ size := 2,bytes := 32,agg := true,ty := (.st 32 (.cons (.sl (.int .u8)) (.cons (.int .i64) .unit))),desc := (.struct #[{ name := "Data",type := 33,offset := 0,byteOffset := 0,embedded := false,tag := "",pkgPath := "" },{ name := "Bits",type := 3,offset := 1,byteOffset := 24,embedded := false,tag := "",pkgPath := "" }]),zero := [(.sl 2 (.int .u8) []),(.int .i64 0)],arr := none,cmp := none }),
  (50,{ size := 1,bytes := 8,agg := false,ty := (.int .u64),desc := (.int .u64),zero := [(.int .u64 0)],arr := none,cmp := none }),
  (57,{ size := 20,bytes := 288,agg := true,ty := (.st 288 (.cons (.st 72 (.cons (.int .i64) (.cons (.int .i64) (.cons .bool (.cons (.sl (.st 24 (.cons (.int .i64) (.cons (.int .i64) (.cons (.int .i64) .unit))))) (.cons (.sl (.st 24 (.cons (.int .i64) (.cons (.int .i64) (.cons (.int .i64) .unit))))) .unit)))))) (.cons (.st 72 (.cons (.int .i64) (.cons (.int .i64) (.cons .bool (.cons (.sl (.st 24 (.cons (.int .i64) (.cons (.int .i64) (.cons (.int .i64) .unit))))) (.cons (.sl (.st 24 (.cons (.int .i64) (.cons (.int .i64) (.cons (.int .i64) .unit))))) .unit)))))) (.cons (.st 72 (.cons (.int .i64) (.cons (.int .i64) (.cons .bool (.cons (.sl (.st 24 (.cons (.int .i64) (.cons (.int .i64) (.cons (.int .i64) .unit))))) (.cons (.sl (.st 24 (.cons (.int .i64) (.cons (.int .i64) (.cons (.int .i64) .unit))))) .unit)))))) (.cons (.st 72 (.cons (.int .i64) (.cons (.int .i64) (.cons .bool (.cons (.sl (.st 24 (.cons (.int .i64) (.cons (.int .i64) (.cons (.int .i64) .unit))))) (.cons (.sl (.st 24 (.cons (.int .i64) (.cons (.int .i64) (.cons (.int .i64) .unit))))) .unit)))))) .unit))))),desc := (.array 4 26),zero := [(.int .i64 0),(.int .i64 0),(.bool false),(.sl 2 (.st 24 (.cons (.int .i64) (.cons (.int .i64) (.cons (.int .i64) .unit)))) []),(.sl 2 (.st 24 (.cons (.int .i64) (.cons (.int .i64) (.cons (.int .i64) .unit)))) []),(.int .i64 0),(.int .i64 0),(.bool false),(.sl 2 (.st 24 (.cons (.int .i64) (.cons (.int .i64) (.cons (.int .i64) .unit)))) []),(.sl 2 (.st 24 (.cons (.int .i64) (.cons (.int .i64) (.cons (.int .i64) .unit)))) []),(.int .i64 0),(.int .i64 0),(.bool false),(.sl 2 (.st 24 (.cons (.int .i64) (.cons (.int .i64) (.cons (.int .i64) .unit)))) []),(.sl 2 (.st 24 (.cons (.int .i64) (.cons (.int .i64) (.cons (.int .i64) .unit)))) []),(.int .i64 0),(.int .i64 0),(.bool false),(.sl 2 (.st 24 (.cons (.int .i64) (.cons (.int .i64) (.cons (.int .i64) .unit)))) []),(.sl 2 (.st 24 (.cons (.int .i64) (.cons (.int .i64) (.cons (.int .i64) .unit)))) [])],arr := some (.st 72 (.cons (.int .i64) (.cons (.int .i64) (.cons .bool (.cons (.sl (.st 24 (.cons (.int .i64) (.cons (.int .i64) (.cons (.int .i64) .unit))))) (.cons (.sl (.st 24 (.cons (.int .i64) (.cons (.int .i64) (.cons (.int .i64) .unit))))) .unit)))))),cmp := none }),
  (58,{ size := 1,bytes := 24,agg := false,ty := (.sl (.st 16 (.cons (.int .i64) (.cons .bool .unit)))),desc := (.slice 92),zero := [(.sl 2 (.st 16 (.cons (.int .i64) (.cons .bool .unit))) [])],arr := none,cmp := none }),
  (59,{ size := 1,bytes := 24,agg := false,ty := (.sl (.st 40 (.cons (.int .i64) (.cons (.int .i64) (.cons (.int .i64) (.cons (.int .i64) (.cons (.int .i64) .unit))))))),desc := (.slice 94),zero := [(.sl 2 (.st 40 (.cons (.int .i64) (.cons (.int .i64) (.cons (.int .i64) (.cons (.int .i64) (.cons (.int .i64) .unit)))))) [])],arr := none,cmp := none }),
  (61,{ size := 2,bytes := 48,agg := true,ty := (.st 48 (.cons (.sl (.st 16 (.cons (.int .i64) (.cons .bool .unit)))) (.cons (.sl (.st 40 (.cons (.int .i64) (.cons (.int .i64) (.cons (.int .i64) (.cons (.int .i64) (.cons (.int .i64) .unit))))))) .unit))),desc := (.struct #[{ name := "Routers",type := 58,offset := 0,byteOffset := 0,embedded := false,tag := "",pkgPath := "" },{ name := "Links",type := 59,offset := 1,byteOffset := 24,embedded := false,tag := "",pkgPath := "" }]),zero := [(.sl 2 (.st 16 (.cons (.int .i64) (.cons .bool .unit))) []),(.sl 2 (.st 40 (.cons (.int .i64) (.cons (.int .i64) (.cons (.int .i64) (.cons (.int .i64) (.cons (.int .i64) .unit)))))) [])],arr := none,cmp := none }),
  (68,{ size := 2,bytes := 32,agg := true,ty := (.st 32 (.cons (.sl (.int .i64)) (.cons (.int .i64) .unit))),desc := (.struct #[{ name := "L",type := 22,offset := 0,byteOffset := 0,embedded := false,tag := "",pkgPath := "" },{ name := "At",type := 3,offset := 1,byteOffset := 24,embedded := false,tag := "",pkgPath := "" }]),zero := [(.sl 2 (.int .i64) []),(.int .i64 0)],arr := none,cmp := none }),
  (70,{ size := 3,bytes := 24,agg := true,ty := (.st 24 (.cons (.int .i64) (.cons (.int .i64) (.cons (.int .i64) .unit)))),desc := (.struct #[{ name := "Neighbour",type := 3,offset := 0,byteOffset := 0,embedded := false,tag := "",pkgPath := "" },{ name := "Cost",type := 3,offset := 1,byteOffset := 8,embedded := false,tag := "",pkgPath := "" },{ name := "Capacity",type := 3,offset := 2,byteOffset := 16,embedded := false,tag := "",pkgPath := "" }]),zero := [(.int .i64 0),(.int .i64 0),(.int .i64 0)],arr := none,cmp := some [0,0,0] }),
  (73,{ size := 3,bytes := 24,agg := true,ty := (.st 24 (.cons (.int .i64) (.cons (.int .i64) (.cons (.int .i64) .unit)))),desc := (.struct #[{ name := "Subdomain",type := 3,offset := 0,byteOffset := 0,embedded := false,tag := "",pkgPath := "" },{ name := "ID",type := 3,offset := 1,byteOffset := 8,embedded := false,tag := "",pkgPath := "" },{ name := "Length",type := 3,offset := 2,byteOffset := 16,embedded := false,tag := "",pkgPath := "" }]),zero := [(.int .i64 0),(.int .i64 0),(.int .i64 0)],arr := none,cmp := some [0,0,0] }),
  (74,{ size := 1,bytes := 8,agg := false,ty := .unit,desc := (.func #[3] #[4] false),zero := [.undef],arr := none,cmp := none }),
  (76,{ size := 2,bytes := 32,agg := true,ty := (.st 32 (.cons (.st 32 (.cons (.sl (.int .u8)) (.cons (.int .i64) .unit))) .unit)),desc := (.struct #[{ name := "s",type := 47,offset := 0,byteOffset := 0,embedded := false,tag := "",pkgPath := "bitcast/advert" }]),zero := [(.sl 2 (.int .u8) []),(.int .i64 0)],arr := none,cmp := none }),
  (79,{ size := 4,bytes := 48,agg := true,ty := (.st 48 (.cons (.st 32 (.cons (.sl (.int .u8)) (.cons (.int .i64) .unit))) (.cons (.int .i64) (.cons .bool .unit)))),desc := (.struct #[{ name := "s",type := 47,offset := 0,byteOffset := 0,embedded := false,tag := "",pkgPath := "bitcast/advert" },{ name := "at",type := 3,offset := 2,byteOffset := 32,embedded := false,tag := "",pkgPath := "bitcast/advert" },{ name := "short",type := 4,offset := 3,byteOffset := 40,embedded := false,tag := "",pkgPath := "bitcast/advert" }]),zero := [(.sl 2 (.int .u8) []),(.int .i64 0),(.int .i64 0),(.bool false)],arr := none,cmp := none }),
  (92,{ size := 2,bytes := 16,agg := true,ty := (.st 16 (.cons (.int .i64) (.cons .bool .unit))),desc := (.struct #[{ name := "ID",type := 3,offset := 0,byteOffset := 0,embedded := false,tag := "",pkgPath := "" },{ name := "Capable",type := 4,offset := 1,byteOffset := 8,embedded := false,tag := "",pkgPath := "" }]),zero := [(.int .i64 0),(.bool false)],arr := none,cmp := some [0,1] }),
  (94,{ size := 5,bytes := 40,agg := true,ty := (.st 40 (.cons (.int .i64) (.cons (.int .i64) (.cons (.int .i64) (.cons (.int .i64) (.cons (.int .i64) .unit)))))),desc := (.struct #[{ name := "A",type := 3,offset := 0,byteOffset := 0,embedded := false,tag := "",pkgPath := "" },{ name := "B",type := 3,offset := 1,byteOffset := 8,embedded := false,tag := "",pkgPath := "" },{ name := "CostA",type := 3,offset := 2,byteOffset := 16,embedded := false,tag := "",pkgPath := "" },{ name := "CostB",type := 3,offset := 3,byteOffset := 24,embedded := false,tag := "",pkgPath := "" },{ name := "Capacity",type := 3,offset := 4,byteOffset := 32,embedded := false,tag := "",pkgPath := "" }]),zero := [(.int .i64 0),(.int .i64 0),(.int .i64 0),(.int .i64 0),(.int .i64 0)],arr := none,cmp := some [0,0,0,0,0] }),
  (101,{ size := 1,bytes := 8,agg := false,ty := .unit,desc := (.pointer 76),zero := [.undef],arr := none,cmp := none }),
  (103,{ size := 1,bytes := 8,agg := false,ty := .unit,desc := (.pointer 79),zero := [.undef],arr := none,cmp := none }),
  (106,{ size := 1,bytes := 8,agg := false,ty := .unit,desc := (.pointer 47),zero := [.undef],arr := none,cmp := none }),
  (108,{ size := 1,bytes := 8,agg := false,ty := .unit,desc := (.func #[92] #[4] false),zero := [.undef],arr := none,cmp := none }),
  (110,{ size := 1,bytes := 8,agg := false,ty := .unit,desc := (.func #[92,3] #[3] false),zero := [.undef],arr := none,cmp := none }),
  (112,{ size := 1,bytes := 8,agg := false,ty := .unit,desc := (.func #[94] #[4] false),zero := [.undef],arr := none,cmp := none })]
def cl : List (Nat × List Nat) := [(70, [0, 0, 0]), (73, [0, 0, 0]), (92, [0, 1]), (94, [0, 0, 0, 0, 0])]
def gl : List (Nat × (IntKind × List Int)) := []
theorem tab_ok : tab.map (fun p => tiOf Try.prog cl p.1) = tab.map (fun p => some p.2) := by kernel_rfl
theorem cl_ok : cl.map (fun p => (kindsB Try.prog 8 p.1, Try.prog.eqGuardType Try.prog.depth p.1)) = cl.map (fun p => (some p.2, false)) := by kernel_rfl
theorem pok (n : Nat) (hp : Bool) (md : List (Nat × Nat)) : POk Try.prog (mkE tab gl n hp md) := pok_of cl tab_ok cl_ok n hp md
theorem mix : Try.prog.follows .mixedOrders = true := by kernel_rfl
abbrev E94 : Env := mkE tab gl 6 false [(3,1),(2,2)]
abbrev plan94 : Plan := (.sq .go .go)

abbrev E51 : Env := mkE tab gl 17 false [(5,1),(4,2)]
abbrev plan51 : Plan := (.sq .go .go)

abbrev E71 : Env := mkE tab gl 17 false [(2,2),(4,2)]
abbrev plan71 : Plan := (.sq .go .go)

abbrev E70 : Env := mkE tab gl 44 false [(7,1),(12,1),(30,1),(1,2),(3,2),(2,2)]
abbrev plan70 : Plan := (.sq .go (.sq (.sq (.cut [40,38,36,34,32,30,28,26,24,22,20,18,16,14,12,10,8] [⟨0,[(40,(.lf .bool))],[0]⟩] .go) (.sq .go .go)) (.sq .go (.sq (.cut [4,86,84,82,80,78,76,74,72,70,68,66,64,62,60,58,56] [⟨0,[(4,(.lf .bool))],[6,54,52,50,48,46,44,42,40,2]⟩] .go) .go))))

abbrev E50 : Env := mkE tab gl 37 false [(7,1),(12,1),(30,1),(1,2),(3,2)]
abbrev plan50 : Plan := (.sq .go (.sq (.sq (.cut [8,10,12,14,16,18,20,22,24,26,28,30,32,34,36,38,40,42] [⟨0,[(42,(.lf .bool))],[0]⟩] .go) (.sq .go .go)) (.sq (.sq .go (.sq (.loop [6,62,60,72,70,68,66,64,4,48,50,52,54,56,58] [(6,(.lf (.int .i64)))] [46,44,42,4] [⟨1,[(4,(.lf .bool))],[6,46,44,42,2]⟩,⟨2,[],[6,46,44,42,2]⟩] (.sq (.sq .go .go) (.sq (.sq (.sq .go (.sq .go .go)) .go) .go))) .go)) .go)))

abbrev E45 : Env := mkE tab gl 31 true [(30,1),(17,2),(2,2)]
abbrev plan45 : Plan := (.sq .go (.sq (.sq .go (.sq .go .go)) (.sq .go .go)))

abbrev E44 : Env := mkE tab gl 16 false [(15,1),(7,1),(12,1),(13,1),(0,2),(4,2)]
abbrev plan44 : Plan := (.sq .go (.sq (.sq .go (.sq .go .go)) (.sq .go (.sq (.sq .go (.cut [0,28,26,24] [⟨0,[(0,(.lf (.int .i64)))],[22,20,18,16,14,12,10,2]⟩] .go)) .go))))

abbrev E19 : Env := mkE tab gl 9 true [(5,1),(7,1),(4,2)]
abbrev plan19 : Plan := (.sq .go .go)

abbrev E12 : Env := mkE tab gl 15 true [(8,1),(9,1),(6,2)]
abbrev plan12 : Plan := (.sq .go .go)

abbrev E36 : Env := mkE tab gl 11 true [(5,1),(4,2)]
abbrev plan36 : Plan := (.sq .go .go)

abbrev E22 : Env := mkE tab gl 12 true [(11,1),(6,1),(4,2)]
abbrev plan22 : Plan := (.sq .go .go)

abbrev E37 : Env := mkE tab gl 6 true [(3,1),(2,2)]
abbrev plan37 : Plan := (.sq .go .go)

abbrev E52 : Env := mkE tab gl 38 false [(6,1),(14,1),(17,1),(33,1),(2,2),(5,2),(31,2),(37,2)]
abbrev plan52 : Plan := (.sq .go (.sq .go (.sq .go (.sq (.sq .go (.cut [30,28,10,32] [⟨0,[(10,(.lf (.sl 2 (.int .u8))))],[26,24,22,20,18,16,14,12,0]⟩] .go)) (.sq (.sq .go (.cut [38,40,42,44,46,48,50,52,54,56,58,60,62,64,11,10] [⟨0,[(10,(.lf (.sl 2 (.int .u8))))],[36,34,2]⟩] (.sq (.opn [(10,0,5)]) .go))) .go)))))

abbrev E48 : Env := mkE tab gl 41 false [(40,5),(16,1),(21,1),(28,1),(32,1),(40,1),(3,2),(13,2),(27,2),(9,2),(39,2)]
abbrev plan48 : Plan := (.sq .go (.sq (.sq .go (.sq .go .go)) (.sq (.sq (.cut [28,30,32,34,36,38,40,42,44,46,48,50,52] [⟨0,[(52,(.lf .bool))],[24,22,20,0]⟩] .go) (.sq .go .go)) (.sq .go (.sq (.sq .go (.sq (.loop [18,66,64,78,17,76,74,72,70,68,58,60,62] [(18,(.lf (.int .i64))),(17,(.boxv 1 true [(.sl 2 (.int .u8)),(.int .i64)]))] [56,52,14,2] [⟨2,[(17,(.boxv 1 true [(.sl 2 (.int .u8)),(.int .i64)]))],[18,56,52,6,2,4]⟩] (.sq (.sq .go .go) (.sq .go .go))) .go)) .go)))))

abbrev E92 : Env := mkE tab gl 9 false [(1,2),(8,2)]
abbrev plan92 : Plan := (.sq .go .go)

abbrev E93 : Env := mkE tab gl 76 true [(28,1),(57,1),(58,1),(73,1),(74,1),(6,2),(30,2),(7,2),(8,2),(63,2),(70,2),(2,2)]
abbrev plan93 : Plan := (.sq (.loop [23,22,24,26,28,30,32,34,36,38,40,42,44,46,12,60,64,62,56,58,54,52,50,48,66,68,70,14,72,74,76,78,80,82,84,86,88,16,90,92,94,96,98,100,102,104,106,108,110,112,114,116,118,120,122,124,126,128,91,130,132,134,136,138,140,142,144,1,146,148,150,4,18,20] [(1,(.boxv 1 true [(.sl 2 (.int .u8)),(.int .i64)])),(4,(.lf (.int .i64)))] [] [⟨2,[(1,(.boxv 1 true [(.sl 2 (.int .u8)),(.int .i64)]))],[2,4]⟩] (.sq (.sq .go .go) (.sq (.sq (.opn [(1,0,11)]) (.sq (.sq .go (.cut [48,50,52,54,58,56,62,64,1,60,12] [⟨0,[(1,(.boxv 1 true [(.sl 2 (.int .u8)),(.int .i64)])),(12,(.lf (.int .i64)))],[46,44,42,40,38,36,34,32,30,28,26,24,22,20,18]⟩] .go)) (.sq .go (.sq .go (.sq (.opn [(1,0,45)]) .go))))) .go))) .go)

abbrev E95 : Env := mkE tab gl 23 false [(22,1),(9,1),(13,1),(17,1),(10,1),(3,2),(8,2),(7,2),(6,2)]
abbrev plan95 : Plan := (.sq .go (.sq .go (.sq (.sq .go (.sq (.loop [20,42,14,40,38,36,34,32,30,28,26,16,24,22] [(20,(.lf (.int .i64))),(14,(.lf (.int .u64)))] [12,0,4] [⟨2,[(14,(.lf (.int .u64)))],[20,18,6,0,2,4]⟩] (.sq .go (.sq .go (.sq (.sq .go .go) .go)))) .go)) .go)))

abbrev E73 : Env := mkE tab gl 26 true [(23,1),(24,1),(5,2),(8,2),(2,2)]
abbrev plan73 : Plan := (.sq .go (.sq (.loop [4,50,48,46,1,44,42,40,38,36,34,32,16,30,28,26,24,18,20,22] [(4,(.lf (.int .i64))),(1,(.boxv 1 true [(.sl 2 (.int .u8)),(.int .i64)]))] [2] [⟨2,[(1,(.boxv 1 true [(.sl 2 (.int .u8)),(.int .i64)]))],[10,2,4,6]⟩] (.sq (.sq .go .go) (.sq (.sq .go .go) .go))) .go))

abbrev E69 : Env := mkE tab gl 45 false [(44,5),(17,1),(21,1),(39,1),(41,1),(42,1),(44,1),(3,2),(9,2),(13,2),(14,2),(31,2),(32,2),(38,2),(40,2)]
abbrev plan69 : Plan := (.sq .go (.sq (.sq (.sq .go (.sq .go (.sq (.cut [30,32,34,36,38,40,42,44,46,48,50,52,54,56,58,60,28] [⟨0,[(28,(.lf .bool))],[18,24,22,20,0]⟩] .go) (.sq .go (.sq .go (.sq .go .go)))))) .go) (.sq .go (.sq .go .go))))

abbrev E49 : Env := mkE tab gl 51 false [(50,5),(15,1),(19,1),(37,1),(41,1),(50,1),(3,2),(12,2),(30,2),(36,2),(8,2),(49,2)]
abbrev plan49 : Plan := (.sq .go (.sq (.sq (.opn [(7,0,9)]) (.sq .go .go)) (.sq (.sq (.cut [26,28,30,32,34,36,38,40,42,44,46,48,50,52,54,56,58] [⟨0,[(58,(.lf .bool))],[22,20,18,0]⟩] .go) (.sq .go .go)) (.sq (.sq .go (.sq .go .go)) (.sq (.sq .go (.sq (.loop [86,88,90,92,94,96,7,98,82,84,16,78,80] [(7,(.boxv 1 true [(.sl 2 (.int .u8)),(.int .i64)])),(16,(.lf (.int .i64)))] [76,74,70,68,66,64,62,58,14,4] [⟨2,[(7,(.boxv 1 true [(.sl 2 (.int .u8)),(.int .i64)]))],[16,76,74,70,68,66,64,62,58,2,4]⟩] (.sq (.sq .go .go) (.sq .go .go))) .go)) .go)))))

abbrev E72 : Env := mkE tab gl 40 false [(15,1),(19,1),(28,1),(36,1),(37,1),(38,1),(3,2),(8,2),(12,2),(23,2),(6,2)]
abbrev plan72 : Plan := (.sq .go (.sq (.sq (.sq .go (.sq .go (.sq (.cut [26,28,30,32,34,36,38,40,42,44,24] [⟨0,[(24,(.lf .bool))],[16,22,20,18,0]⟩] .go) (.sq .go (.sq (.cut [46,70,68,66,64,62,60,58,56,54,52,50,48] [⟨0,[(46,(.lf .bool))],[24]⟩] .go) (.sq .go .go)))))) .go) .go))

abbrev E74 : Env := mkE tab gl 45 false [(44,1),(15,1),(19,1),(37,1),(35,1),(3,2),(9,2),(8,2),(6,2)]
abbrev plan74 : Plan := (.sq .go (.sq (.sq .go (.sq .go .go)) (.sq (.sq (.cut [26,28,30,32,34,36,38,40,42,44] [⟨0,[(44,(.lf .bool))],[24,22,20,0]⟩] .go) (.sq .go .go)) (.sq (.sq .go (.sq .go .go)) (.sq .go (.sq (.sq .go (.sq (.loop [18,72,70,16,86,84,82,80,78,76,74,60,62,64,66,68] [(18,(.lf (.int .i64))),(16,(.lf (.int .u64)))] [58,56,54,52,50,48,46,44,14,12] [⟨2,[(16,(.lf (.int .u64)))],[18,58,56,54,52,50,48,46,44,6,2,4]⟩] (.sq (.sq .go .go) (.sq .go .go))) .go)) .go))))))

abbrev E39 : Env := mkE tab gl 29 false [(28,1),(17,1),(20,1),(22,1),(25,1),(12,1),(1,2),(5,2),(6,2),(4,2),(2,2)]
abbrev plan39 : Plan := (.sq .go (.sq (.sq .go (.sq .go .go)) (.sq .go (.sq .go (.sq (.sq .go (.sq (.loop [24,54,8,52,50,48,46,44,42,40,38,36,34,12,32,30,10,28,26] [(24,(.lf (.int .i64))),(8,(.lf (.int .u64)))] [20,18,16,14,6,4,0] [⟨2,[(8,(.lf (.int .u64)))],[24,22,20,18,16,14,2,0]⟩] (.sq .go (.sq .go (.sq (.sq (.sq .go (.sq .go (.sq .go (.sq (.sq .go .go) .go)))) .go) .go)))) .go)) .go)))))

abbrev E23 : Env := mkE tab gl 30 false [(29,1),(18,1),(21,1),(27,1),(14,1),(1,2),(6,2),(4,2),(5,2),(2,2)]
abbrev plan23 : Plan := (.sq .go (.sq (.sq .go (.sq .go .go)) (.sq .go (.sq (.sq .go (.sq (.loop [10,30,28,8,56,54,52,50,48,46,44,42,40,38,36,12,34,32,18,16,14,0,20,22,24,26] [(10,(.lf (.int .i64))),(8,(.lf (.int .u64)))] [18,16,14,6,4,0] [⟨2,[(8,(.lf (.int .u64)))],[10,18,16,14,2,0]⟩] (.sq (.sq .go .go) (.sq (.sq (.sq .go (.sq .go (.sq .go (.cut [8,56,54] [⟨0,[(8,(.lf (.int .u64)))],[52,50,48,46,44,42,40,38,36,12,34,32,26,24,22,20]⟩] .go)))) .go) .go))) .go)) .go))))

abbrev E10 : Env := mkE tab gl 11 false [(6,1),(8,1),(0,2),(10,2),(2,2)]
abbrev plan10 : Plan := (.sq .go (.sq (.sq .go (.cut [12,14,0] [⟨0,[(0,(.lf (.sl 0 (.int .i64))))],[10,8,6]⟩] .go)) .go))

abbrev E24 : Env := mkE tab gl 15 false [(14,5),(14,1),(1,2),(7,2),(13,2)]
abbrev plan24 : Plan := (.sq .go (.sq (.sq (.opn [(3,0,4)]) (.sq .go .go)) (.sq (.sq (.loop [26,3,24,16,18,20,22] [(3,(.boxv 1 true [(.sl 2 (.int .u8)),(.int .i64)]))] [12,10,8,6,0] [⟨2,[(3,(.boxv 1 true [(.sl 2 (.int .u8)),(.int .i64)]))],[12,10,8,0]⟩] (.sq (.sq .go .go) .go)) .go) .go)))

abbrev E43 : Env := mkE tab gl 34 false [(33,5),(17,1),(22,1),(29,1),(30,1),(31,1),(33,1),(3,2),(9,2),(13,2),(14,2),(28,2)]
abbrev plan43 : Plan := (.sq .go (.sq (.sq (.sq .go (.sq .go (.sq (.cut [30,32,34,36,38,40,42,44,46,48,50,52,54,28] [⟨0,[(28,(.lf .bool))],[18,24,22,20,0]⟩] .go) (.sq .go .go)))) .go) (.sq .go (.sq .go .go))))

abbrev E54 : Env := mkE tab gl 15 false [(8,1),(10,1),(6,2)]
abbrev plan54 : Plan := (.sq .go (.sq (.cut [12,28,26,24,22,20,18,16,14] [⟨0,[(12,(.lf .bool))],[0,2,4]⟩] .go) .go))

abbrev E56 : Env := mkE tab gl 15 false [(8,1),(10,1),(6,2)]
abbrev plan56 : Plan := (.sq .go (.sq (.cut [12,28,26,24,22,20,18,16,14] [⟨0,[(12,(.lf .bool))],[0,2,4]⟩] .go) .go))

abbrev E55 : Env := mkE tab gl 17 false [(5,1),(9,1),(13,1),(2,2)]
abbrev plan55 : Plan := (.sq .go (.sq (.cut [4,32,30,28,26,24,22,20,18,16,14,12,10,8,6] [⟨0,[(4,(.lf .bool))],[0]⟩] .go) .go))

abbrev E76 : Env := mkE tab gl 17 false [(5,1),(9,1),(13,1),(2,2)]
abbrev plan76 : Plan := (.sq .go (.sq (.cut [4,32,30,28,26,24,22,20,18,16,14,12,10,8,6] [⟨0,[(4,(.lf .bool))],[0]⟩] .go) .go))

abbrev E57 : Env := mkE tab gl 56 false [(20,1),(29,1),(38,1),(11,1),(3,2)]
abbrev plan57 : Plan := (.sq .go (.sq (.sq .go (.sq .go .go)) (.sq (.sq .go (.sq (.loop [6,24,22,110,108,106,104,102,100,98,96,94,92,90,88,86,84,82,80,78,76,74,72,70,68,66,64,62,60,58,56,54,52,50,48,46,44,42,40,38,36,34,32,30,28,26,12,10,8,4,14,16,18,20] [(6,(.lf (.int .i64)))] [12,10,8,4] [⟨1,[(4,(.lf .bool))],[6,12,10,8,0]⟩,⟨2,[],[6,12,10,8,0]⟩] (.sq (.sq .go .go) (.sq (.sq (.sq (.cut [110,108,106,104,102,100,98,96,94,92,90,88,86,84,82,80,78,76,74,72,70,68,66,64,62,60,58,56,54,52,50,48,46,44,42,40,38,36,34,32,30,28,26] [⟨0,[(110,(.lf .bool))],[20,18,16,14]⟩] .go) (.sq .go .go)) .go) .go))) .go)) .go)))

abbrev E27 : Env := mkE tab gl 118 false [(11,1),(17,1),(23,1),(41,1),(48,1),(54,1),(60,1),(32,1),(89,1),(95,1),(101,1),(80,1),(1,2),(3,2),(36,2),(5,2),(84,2)]
abbrev plan27 : Plan := (.sq .go (.sq (.sq (.cut [56,54,52,50,48,46,44,42,40,38,36,34,32,30,28,26,24,22,20,18,16,14] [⟨0,[(56,(.lf .bool))],[0]⟩] .go) (.sq .go .go)) (.sq (.sq .go (.sq (.loop [4,9,56,58,68,70,72,8,6,150,148,146,144,142,140,138,136,134,132,130,128,126,124,122,120,118,116,114,112,110,108,106,104,102,100,98,96,94,92,90,88,86,84,82,80,78,76,74,152,64,66] [(64,(.lf (.int .i64)))] [58,56,4] [⟨1,[(4,(.lf .bool))],[64,62,60,58,56]⟩,⟨2,[],[64,62,60,58,56]⟩] (.sq .go (.sq .go (.sq (.sq (.sq .go (.sq (.cut [74,76,78,80,82,84,86,88,90,92,94,96,98,100,102,104,106,108,110,112,114,116,118,120,122,124,126,128,130,132,134,136,138,140,142,144,146,148,150] [⟨0,[(150,(.lf .bool))],[6,8,72,70,68,66]⟩] .go) (.sq .go .go))) .go) .go)))) .go)) (.sq (.sq .go (.sq (.loop [4,13,154,164,166,168,12,10,232,230,228,226,224,222,220,218,216,214,212,210,208,206,204,202,200,198,196,194,192,190,188,186,184,182,180,178,176,174,172,170,234,160,162] [(160,(.lf (.int .i64)))] [154] [⟨1,[(4,(.lf .bool))],[160,158,156,154,2]⟩,⟨4,[],[160,158,156,154,2]⟩] (.sq .go (.sq .go (.sq (.sq (.sq .go (.sq (.cut [170,172,174,176,178,180,182,184,186,188,190,192,194,196,198,200,202,204,206,208,210,212,214,216,218,220,222,224,226,228,230,232] [⟨0,[(232,(.lf .bool))],[10,12,168,166,164,162]⟩] .go) (.sq .go .go))) .go) .go)))) .go)) .go))))

abbrev E28 : Env := mkE tab gl 75 false [(9,1),(15,1),(37,1),(44,1),(50,1),(56,1),(26,1),(1,2),(32,2),(3,2),(2,2)]
abbrev plan28 : Plan := (.sq .go (.sq (.sq (.cut [10,12,14,16,18,20,22,24,26,28,30,32,34,36,38,40] [⟨0,[(40,(.lf .bool))],[0]⟩] .go) (.sq .go .go)) (.sq (.sq .go (.sq (.loop [4,9,40,56,58,60,62,64,8,142,140,138,136,134,132,130,128,126,124,122,120,118,116,114,112,110,108,106,104,102,100,98,96,94,92,90,88,86,84,82,80,78,76,74,72,70,68,66,52,54,6,42,44,46,48,50] [(6,(.lf (.int .i64)))] [40,4] [⟨1,[(4,(.lf .bool))],[6,40]⟩,⟨2,[],[6,40]⟩] (.sq (.sq .go .go) (.sq (.sq (.sq .go (.sq (.cut [66,68,70,72,74,76,78,80,82,84,86,88,90,92,94,96,98,100,102,104,106,108,110,112,114,116,118,120,122,124,126,128,130,132,134,136,138,140,142] [⟨0,[(142,(.lf .bool))],[8,64,62,60,58,56,50,48,46,44,42]⟩] .go) (.sq .go .go))) .go) .go))) .go)) .go)))

abbrev E58 : Env := mkE tab gl 26 false [(12,1),(19,1),(21,1),(14,1),(5,2),(18,2)]
abbrev plan58 : Plan := (.sq .go (.sq (.sq .go (.sq .go .go)) (.sq (.sq .go (.sq (.loop [28,50,48,46,44,42,40,13,38,10,12,36,34,32,8,30] [(28,(.lf (.int .i64)))] [22,20,18,16,14,8,0] [⟨1,[(8,(.lf .bool))],[28,26,24,22,20,18,16,14,0,2]⟩,⟨2,[],[28,26,24,22,20,18,16,14,0,2]⟩] (.sq .go (.sq .go (.sq (.sq (.sq .go (.sq .go (.sq .go .go))) .go) .go)))) .go)) .go)))

abbrev E59 : Env := mkE tab gl 26 false [(12,1),(19,1),(21,1),(14,1),(5,2),(18,2)]
abbrev plan59 : Plan := (.sq .go (.sq (.sq .go (.sq .go .go)) (.sq (.sq .go (.sq (.loop [28,50,48,46,44,42,40,13,38,10,12,36,34,32,8,30] [(28,(.lf (.int .i64)))] [22,20,18,16,14,8,0] [⟨1,[(8,(.lf .bool))],[28,26,24,22,20,18,16,14,0,2]⟩,⟨2,[],[28,26,24,22,20,18,16,14,0,2]⟩] (.sq .go (.sq .go (.sq (.sq (.sq .go (.sq .go (.sq .go .go))) .go) .go)))) .go)) .go)))

abbrev E29 : Env := mkE tab gl 38 false [(10,1),(17,1),(24,1),(31,1),(2,2),(3,2),(4,2)]
abbrev plan29 : Plan := (.sq .go (.sq (.cut [10,12,14,16,18,20,22,24,26,28,30,32,34,36,38,40,42,44,46,48,50,52,54,56,58,60,62,64,66,68,70,72,74,8] [⟨0,[(8,(.lf .bool))],[6,4,0,2]⟩] .go) .go))

abbrev E17 : Env := mkE tab gl 80 false [(12,1),(19,1),(26,1),(35,1),(49,1),(67,1),(2,2),(3,2),(5,2),(6,2)]
abbrev plan17 : Plan := (.sq .go (.sq (.sq (.cut [14,16,18,20,22,24,26,28,30,32,34,36,38,40,42,44,46,48,50,52,54,56,58,60,62,64,66,68,70,72,74,76,78,80,82,84,86] [⟨0,[(86,(.lf .bool))],[0,2]⟩] .go) (.sq .go .go)) (.sq (.sq .go (.sq (.loop [10,100,98,122,120,118,116,114,112,110,108,106,104,102,8,88,90,92,94,96] [(10,(.lf (.int .i64)))] [86,8] [⟨1,[(8,(.lf .bool))],[10,86]⟩,⟨2,[],[10,86]⟩] (.sq (.sq .go .go) (.sq (.sq (.sq .go (.sq .go .go)) .go) .go))) .go)) (.sq (.sq .go (.sq (.loop [12,136,134,158,156,154,152,150,148,146,144,142,140,138,8,124,126,128,130,132] [(12,(.lf (.int .i64)))] [] [⟨1,[(8,(.lf .bool))],[12,6,4]⟩,⟨4,[],[12,6,4]⟩] (.sq (.sq .go .go) (.sq (.sq (.sq .go (.sq .go .go)) .go) .go))) .go)) .go))))

abbrev E13 : Env := mkE tab gl 13 false [(7,1),(1,2),(2,2)]
abbrev plan13 : Plan := (.sq .go (.sq (.cut [4,24,22,20,18,16,14,12,10,8,6] [⟨0,[(4,(.lf .bool))],[2,0]⟩] .go) .go))

abbrev E38 : Env := mkE tab gl 20 true [(12,1),(14,1),(6,1),(16,2)]
abbrev plan38 : Plan := .go

abbrev E40 : Env := mkE tab gl 18 false [(17,5),(10,1),(11,1),(13,1),(9,1),(17,1),(3,2),(15,2),(8,2)]
abbrev plan40 : Plan := (.sq .go (.sq .go .go))

abbrev E21 : Env := mkE tab gl 18 false [(17,5),(10,1),(11,1),(13,1),(9,1),(17,1),(3,2),(15,2),(8,2)]
abbrev plan21 : Plan := (.sq .go (.sq .go .go))

abbrev E41 : Env := mkE tab gl 11 false [(10,1),(6,1),(8,1),(0,2),(3,2),(2,2)]
abbrev plan41 : Plan := (.sq .go (.sq .go (.sq (.sq (.loop [6,18,16,0,14,12,8,10] [(6,(.lf (.int .i64))),(0,(.lf (.int .i64)))] [4] [⟨2,[(6,(.lf (.int .i64)))],[0]⟩] (.sq (.sq .go .go) (.sq .go .go))) .go) .go)))

abbrev E47 : Env := mkE tab gl 6 false [(3,1),(2,2)]
abbrev plan47 : Plan := (.sq .go .go)

abbrev E14 : Env := mkE tab gl 86 false [(85,1),(24,1),(33,1),(63,1),(71,1),(54,1),(74,1),(80,1),(1,2),(36,2),(57,2),(10,2),(11,2),(12,2),(2,2)]
abbrev plan14 : Plan := (.sq .go (.sq (.sq .go (.sq .go .go)) (.sq .go (.sq .go (.sq .go (.sq .go (.sq (.sq .go (.cut [10] [⟨0,[(10,(.lf (.int .i64)))],[46,44,42,40,38,36,34,32,30,28,26,0]⟩] .go)) (.sq .go (.sq .go (.sq (.sq .go (.sq (.loop [70,72,14,15,74,76,78,80,82,84,86,88,90,9,92,66,68] [(9,(.boxv 1 true [(.sl 2 (.int .u8)),(.int .i64)])),(66,(.lf (.int .i64)))] [60,58,56,54,52,50,48,10,6,4] [⟨2,[(9,(.boxv 1 true [(.sl 2 (.int .u8)),(.int .i64)]))],[66,64,62,60,58,56,54,52,50,48,10]⟩] (.sq .go (.sq .go (.sq (.sq (.sq .go (.sq .go .go)) .go) .go)))) .go)) (.sq .go (.sq (.sq .go (.sq (.loop [18,19,2,94,96,98,100,102,112,114,20,128,126,116,118,120,122,124,130,132,134,136,138,140,142,144,9,146,108,110] [(9,(.boxv 1 true [(.sl 2 (.int .u8)),(.int .i64)])),(108,(.lf (.int .i64)))] [102,100,98,96,94,2] [⟨4,[(9,(.boxv 1 true [(.sl 2 (.int .u8)),(.int .i64)]))],[108,106,104,102,100,98,96,94,2]⟩] (.sq .go (.sq .go (.sq (.sq (.sq .go (.sq .go (.sq (.sq (.loop [124,122,120,118,116,126,128,20] [(20,(.lf (.int .i64)))] [114,112,110] [⟨6,[(20,(.lf (.int .i64)))],[114,112,110]⟩] (.sq (.sq .go .go) .go)) .go) (.sq .go .go)))) .go) .go)))) .go)) (.sq (.opn [(9,0,75)]) (.sq .go .go))))))))))))))

abbrev E15 : Env := mkE tab gl 107 false [(35,1),(57,1),(69,1),(98,1),(106,1),(22,1),(33,1),(67,1),(92,1),(99,1),(97,1),(1,2),(27,2),(56,2),(6,2),(61,2),(91,2),(7,2),(8,2),(9,2),(103,2),(2,2)]
abbrev plan15 : Plan := (.sq .go (.sq (.sq .go (.sq .go .go)) (.sq .go (.sq (.sq .go (.cut [8] [⟨0,[(8,(.lf (.int .i64)))],[28,26,24,22,20,0]⟩] .go)) (.sq .go (.sq (.sq .go (.sq (.loop [72,74,76,78,80,82,70,86,88,90,92,94,96,84,100,102,104,106,108,110,98,11,112,66,68,12,56,58,60,62,64] [(11,(.boxv 1 true [(.sl 2 (.int .u8)),(.int .i64)])),(12,(.lf (.int .i64)))] [54,52,50,48,46,44,42,40,38,36,34,32,30,8,6,4] [⟨2,[(11,(.boxv 1 true [(.sl 2 (.int .u8)),(.int .i64)]))],[12,54,52,50,48,46,44,42,40,38,36,34,32,30,8]⟩] (.sq (.sq .go .go) (.sq .go .go))) .go)) (.sq .go (.sq (.sq .go (.sq (.loop [140,142,144,146,148,150,138,154,156,158,160,162,164,152,168,170,172,174,176,178,180,166,11,182,134,136,14,124,126,128,130,132] [(11,(.boxv 1 true [(.sl 2 (.int .u8)),(.int .i64)])),(14,(.lf (.int .i64)))] [122,120,118,116,114] [⟨4,[(11,(.boxv 1 true [(.sl 2 (.int .u8)),(.int .i64)]))],[14,122,120,118,116,114,2]⟩] (.sq (.sq .go .go) (.sq .go .go))) .go)) (.sq (.opn [(11,0,93)]) (.sq .go .go))))))))))

abbrev E42 : Env := mkE tab gl 41 true [(7,1),(25,1),(31,1),(35,1),(39,1),(5,2),(6,2),(28,2),(36,2),(4,2)]
abbrev plan42 : Plan := (.sq .go (.sq .go (.sq (.cut [1,60,58,56,54,52,50,48,46,44,42,40] [⟨0,[(1,(.boxv 1 true [(.sl 0 (.int .u8)),(.int .i64),(.int .i64),.bool]))],[12,38,36,14,34,32,30,28,26,24,22,20,18,16]⟩] .go) (.sq .go .go))))

abbrev E46 : Env := mkE tab gl 20 false [(10,1),(11,1),(12,1),(9,1),(16,1),(18,1),(3,2),(7,2),(8,2),(6,2)]
abbrev plan46 : Plan := (.sq .go (.sq .go (.sq (.sq .go (.sq .go .go)) .go)))

abbrev E16 : Env := mkE tab gl 112 false [(111,5),(41,1),(55,1),(38,1),(52,1),(73,1),(70,1),(78,1),(77,1),(86,1),(89,1),(90,1),(95,1),(99,1),(111,1),(22,2),(27,2),(34,2),(6,2),(47,2),(7,2),(62,2),(8,2),(9,2),(69,2),(75,2),(11,2),(12,2),(13,2),(14,2),(15,2),(88,2),(93,2),(94,2),(97,2),(98,2),(105,2),(106,2),(110,2)]
abbrev plan16 : Plan := (.sq .go (.sq .go (.sq .go (.sq .go (.sq (.sq .go (.sq (.loop [80,84,86,88,9,90,92,82,96,11,94,76,78,12,72,74] [(9,(.boxv 1 true [(.sl 0 (.int .u8)),(.int .i64),(.int .i64),.bool])),(11,(.boxv 1 true [(.int .i64),(.int .i64),.bool,(.sl 2 (.st 24 (.cons (.int .i64) (.cons (.int .i64) (.cons (.int .i64) .unit))))),(.sl 2 (.st 24 (.cons (.int .i64) (.cons (.int .i64) (.cons (.int .i64) .unit)))))])),(12,(.lf (.int .i64)))] [70,68,66,64,62,60,58,56,54,52,50,48,46,44,42,40,38,36,34,32,6] [⟨2,[(9,(.boxv 1 true [(.sl 0 (.int .u8)),(.int .i64),(.int .i64),.bool])),(11,(.boxv 1 true [(.int .i64),(.int .i64),.bool,(.sl 2 (.st 24 (.cons (.int .i64) (.cons (.int .i64) (.cons (.int .i64) .unit))))),(.sl 2 (.st 24 (.cons (.int .i64) (.cons (.int .i64) (.cons (.int .i64) .unit)))))]))],[12,70,68,66,64,62,60,58,56,54,52,50,48,46,44,42,40,38,36,34,32]⟩] (.sq (.sq .go .go) (.sq .go .go))) .go)) (.sq (.sq .go (.sq (.loop [14,106,104,124,11,126,110,122,120,118,9,116,114,112,108,100,102] [(14,(.lf (.int .i64))),(11,(.boxv 1 true [(.int .i64),(.int .i64),.bool,(.sl 2 (.st 24 (.cons (.int .i64) (.cons (.int .i64) (.cons (.int .i64) .unit))))),(.sl 2 (.st 24 (.cons (.int .i64) (.cons (.int .i64) (.cons (.int .i64) .unit)))))])),(9,(.boxv 1 true [(.sl 0 (.int .u8)),(.int .i64),(.int .i64),.bool]))] [98] [⟨4,[(11,(.boxv 1 true [(.int .i64),(.int .i64),.bool,(.sl 2 (.st 24 (.cons (.int .i64) (.cons (.int .i64) (.cons (.int .i64) .unit))))),(.sl 2 (.st 24 (.cons (.int .i64) (.cons (.int .i64) (.cons (.int .i64) .unit)))))])),(9,(.boxv 1 true [(.sl 0 (.int .u8)),(.int .i64),(.int .i64),.bool]))],[14,98]⟩] (.sq (.sq .go .go) (.sq .go .go))) .go)) (.sq .go (.sq .go (.sq (.sq .go (.sq .go .go)) (.sq .go (.sq .go (.sq .go (.sq .go (.sq (.sq (.sq .go (.sq .go (.sq .go (.sq .go (.sq .go (.sq .go (.sq (.opn [(11,3,107)]) (.sq .go .go)))))))) .go) .go))))))))))))))

abbrev E20 : Env := mkE tab gl 168 false [(167,5),(74,1),(101,1),(26,1),(46,1),(68,1),(93,1),(118,1),(120,1),(123,1),(130,1),(129,1),(137,1),(145,1),(156,1),(158,1),(160,1),(167,1),(4,2),(0,2),(32,2),(6,2),(37,2),(7,2),(8,2),(56,2),(64,2),(11,2),(88,2),(10,2),(13,2),(116,2),(12,2),(14,2),(127,2),(16,2),(17,2),(18,2),(140,2),(19,2),(155,2),(162,2),(166,2)]
abbrev plan20 : Plan := (.sq .go (.sq .go (.sq (.sq .go (.cut [46,48,50,8,52,54,0] [⟨0,[(8,(.lf (.int .i64))),(0,(.lf (.sl 0 (.int .u8))))],[44,42,40]⟩] (.sq .go .go))) (.sq .go (.sq .go (.sq (.sq .go (.sq .go .go)) (.sq .go (.sq .go (.sq (.sq (.cut [110,108,106,104,102,100,98,96,94,92,90,88] [⟨0,[(110,(.lf .bool))],[86,84,82,80,78,76,72,70,68,66,64,62,60,58,56]⟩] .go) (.sq .go .go)) (.sq .go (.sq (.sq .go (.sq (.loop [140,142,144,22,146,150,152,154,156,158,160,162,164,166,168,170,172,174,148,178,19,176,136,138,20,130,132,134] [(19,(.boxv 1 true [(.int .i64),(.int .i64),.bool,(.sl 2 (.st 24 (.cons (.int .i64) (.cons (.int .i64) (.cons (.int .i64) .unit))))),(.sl 2 (.st 24 (.cons (.int .i64) (.cons (.int .i64) (.cons (.int .i64) .unit)))))])),(20,(.lf (.int .i64)))] [128,126,124,122,120,118,116,114,110,6] [⟨2,[(19,(.boxv 1 true [(.int .i64),(.int .i64),.bool,(.sl 2 (.st 24 (.cons (.int .i64) (.cons (.int .i64) (.cons (.int .i64) .unit))))),(.sl 2 (.st 24 (.cons (.int .i64) (.cons (.int .i64) (.cons (.int .i64) .unit)))))]))],[20,128,126,124,122,120,118,116,114,110,12]⟩] (.sq (.sq .go .go) (.sq (.sq .go .go) .go))) .go)) (.sq (.sq .go (.sq (.loop [190,192,194,196,198,26,200,204,206,208,210,212,214,216,218,220,222,224,226,228,230,202,234,19,232,186,188,24,180,182,184] [(19,(.boxv 1 true [(.int .i64),(.int .i64),.bool,(.sl 2 (.st 24 (.cons (.int .i64) (.cons (.int .i64) (.cons (.int .i64) .unit))))),(.sl 2 (.st 24 (.cons (.int .i64) (.cons (.int .i64) (.cons (.int .i64) .unit)))))])),(24,(.lf (.int .i64)))] [] [⟨4,[(19,(.boxv 1 true [(.int .i64),(.int .i64),.bool,(.sl 2 (.st 24 (.cons (.int .i64) (.cons (.int .i64) (.cons (.int .i64) .unit))))),(.sl 2 (.st 24 (.cons (.int .i64) (.cons (.int .i64) (.cons (.int .i64) .unit)))))]))],[24]⟩] (.sq (.sq .go .go) (.sq (.sq .go .go) .go))) .go)) (.sq .go (.sq .go (.sq .go (.sq (.sq .go (.sq .go .go)) (.sq .go (.sq (.sq .go (.sq .go .go)) (.sq (.sq .go (.sq .go .go)) (.sq (.sq (.opn [(19,3,163)]) (.sq .go .go)) .go))))))))))))))))))))

abbrev E25 : Env := mkE tab gl 50 false [(9,1),(14,1),(19,1),(21,1),(25,1),(37,1),(2,2),(3,2),(5,2),(6,2),(7,2),(8,2),(4,2)]
abbrev plan25 : Plan := (.sq .go (.sq .go (.sq .go (.sq (.sq (.cut [38,40,42,44,46,48,50,52,54,56,58,60,62] [⟨0,[(62,(.lf .bool))],[16,36,34,28,32,30,12,26,24,18,22,20,0,2]⟩] .go) (.sq .go .go)) (.sq (.cut [8,98,96,94,92,90,88,86,84,82,80,78,76,74,72,70,68,66,64] [⟨0,[(8,(.lf .bool))],[62,14,10,6,4]⟩] .go) .go)))))

abbrev E26 : Env := mkE tab gl 53 false [(12,1),(17,1),(24,1),(29,1),(39,1),(2,2),(3,2),(5,2),(6,2),(7,2),(8,2),(4,2)]
abbrev plan26 : Plan := (.sq .go (.sq (.sq (.cut [18,20,22,24,26,28,30,32,34,36,38,40,42,44,46] [⟨0,[(46,(.lf .bool))],[0,2]⟩] .go) (.sq .go .go)) (.sq .go (.sq .go (.sq (.cut [10,11,14,15,8,104,102,100,98,96,94,92,90,88,86,84,82,80,78,76,74,72,70,68] [⟨0,[(8,(.lf .bool))],[16,14,66,64,58,62,60,12,10,56,54,48,52,50,46,6,4]⟩] (.opn [(14,0,7),(10,0,5)])) .go)))))

abbrev E18 : Env := mkE tab gl 38 false [(7,1),(12,1),(17,1),(19,1),(23,1),(28,1),(33,1),(6,2),(2,2),(3,2),(15,2),(5,2),(0,2)]
abbrev plan18 : Plan := (.sq .go (.sq .go (.sq .go (.sq .go (.sq (.cut [34,36,38,40,42,44,46,48,50,52,54,56,58,60,62,64,66,68,70,72,74,0] [⟨0,[(0,(.lf .bool))],[10,8,32,30,24,28,26,6,4,22,20,14,18,16,2,12]⟩] .go) .go)))))

abbrev E35 : Env := mkE tab gl 6 true [(3,1),(2,2)]
abbrev plan35 : Plan := (.sq .go .go)

abbrev E11 : Env := mkE tab gl 138 true [(137,5),(32,1),(50,1),(92,1),(110,1),(131,1),(26,1),(21,1),(44,1),(62,1),(81,1),(86,1),(94,1),(128,1),(75,1),(137,1),(18,2),(40,2),(8,2),(58,2),(9,2),(79,2),(82,2),(84,2),(87,2),(89,2),(105,2),(107,2),(122,2),(124,2),(135,2),(10,2),(76,2)]
abbrev plan11 : Plan := (.sq .go (.sq .go (.sq (.sq .go (.sq (.loop [16,44,42,62,66,68,70,72,74,1,76,78,64,82,15,80,60,58,56,54,52,50,48,46,36,34,32,30,28,26,24,22,38,40] [(16,(.lf (.int .i64))),(1,(.boxv 1 true [(.sl 0 (.int .i64)),(.int .i64)])),(15,(.boxv 1 true [(.int .i64),(.int .i64),.bool,(.sl 2 (.st 24 (.cons (.int .i64) (.cons (.int .i64) (.cons (.int .i64) .unit))))),(.sl 2 (.st 24 (.cons (.int .i64) (.cons (.int .i64) (.cons (.int .i64) .unit)))))]))] [36,34,32,30,28,26,24,22] [⟨2,[(1,(.boxv 1 true [(.sl 0 (.int .i64)),(.int .i64)])),(15,(.boxv 1 true [(.int .i64),(.int .i64),.bool,(.sl 2 (.st 24 (.cons (.int .i64) (.cons (.int .i64) (.cons (.int .i64) .unit))))),(.sl 2 (.st 24 (.cons (.int .i64) (.cons (.int .i64) (.cons (.int .i64) .unit)))))]))],[16,36,34,32,30,28,26,24,22]⟩] (.sq (.sq .go .go) (.sq (.sq (.sq (.cut [1,60,58,56,54,52,50,48,46] [⟨0,[(1,(.boxv 1 true [(.sl 0 (.int .i64)),(.int .i64)])),(60,(.lf .bool))],[40,38]⟩] .go) (.cut [62,66,68,70,72,74,1,76,78,64,82,15,80] [⟨0,[(1,(.boxv 1 true [(.sl 0 (.int .i64)),(.int .i64)])),(15,(.boxv 1 true [(.int .i64),(.int .i64),.bool,(.sl 2 (.st 24 (.cons (.int .i64) (.cons (.int .i64) (.cons (.int .i64) .unit))))),(.sl 2 (.st 24 (.cons (.int .i64) (.cons (.int .i64) (.cons (.int .i64) .unit)))))]))],[60]⟩] .go)) .go) .go))) .go)) (.sq (.sq .go (.sq (.loop [18,90,88,98,102,104,106,108,110,1,112,114,100,118,15,116,96,94,92,84,86] [(18,(.lf (.int .i64))),(1,(.boxv 1 true [(.sl 0 (.int .i64)),(.int .i64)])),(15,(.boxv 1 true [(.int .i64),(.int .i64),.bool,(.sl 2 (.st 24 (.cons (.int .i64) (.cons (.int .i64) (.cons (.int .i64) .unit))))),(.sl 2 (.st 24 (.cons (.int .i64) (.cons (.int .i64) (.cons (.int .i64) .unit)))))]))] [] [⟨4,[(1,(.boxv 1 true [(.sl 0 (.int .i64)),(.int .i64)])),(15,(.boxv 1 true [(.int .i64),(.int .i64),.bool,(.sl 2 (.st 24 (.cons (.int .i64) (.cons (.int .i64) (.cons (.int .i64) .unit))))),(.sl 2 (.st 24 (.cons (.int .i64) (.cons (.int .i64) (.cons (.int .i64) .unit)))))]))],[18]⟩] (.sq (.sq .go .go) (.sq (.sq (.sq .go (.cut [98,102,104,106,108,110,1,112,114,100,118,15,116] [⟨0,[(1,(.boxv 1 true [(.sl 0 (.int .i64)),(.int .i64)])),(15,(.boxv 1 true [(.int .i64),(.int .i64),.bool,(.sl 2 (.st 24 (.cons (.int .i64) (.cons (.int .i64) (.cons (.int .i64) .unit))))),(.sl 2 (.st 24 (.cons (.int .i64) (.cons (.int .i64) (.cons (.int .i64) .unit)))))]))],[96,94,92,86,84]⟩] .go)) .go) .go))) .go)) (.sq (.sq (.cut [1,132,130,128,126,124,122,120] [⟨0,[(1,(.boxv 1 true [(.sl 0 (.int .i64)),(.int .i64)])),(132,(.lf .bool))],[4]⟩] .go) (.cut [166,164,162,182,186,188,192,190,194,198,196,200,204,202,206,208,184,212,210,260,264,266,268,262,272,270,256,258,20,252,254,139,2,132,134,136,160,158,170,168,180,178,216,214,250,248,138,140,142,144,146,148,150,152,1,154,156,147,15,244,246,220,242,240,236,238,234,230,232,228,224,226,222,218,172,174,176] [⟨0,[(1,(.boxv 1 true [(.sl 0 (.int .i64)),(.int .i64)])),(15,(.boxv 1 true [(.int .i64),(.int .i64),.bool,(.sl 2 (.st 24 (.cons (.int .i64) (.cons (.int .i64) (.cons (.int .i64) .unit))))),(.sl 2 (.st 24 (.cons (.int .i64) (.cons (.int .i64) (.cons (.int .i64) .unit)))))]))],[132,2]⟩] (.sq (.sq .go (.sq (.sq .go (.cut [166,164,162,182,186,188,192,190,194,198,196,200,204,202,206,208,184,212,210,260,264,266,268,262,272,270,256,258,20,252,254,139,2,132,134,136,160,158,170,168,180,178,216,214,250,248,138,140,142,144,146,148,150,152,1,154,156,147,15,244,246,220,242,240,236,238,234,230,232,228,224,226,222,218,172,174,176] [⟨0,[(1,(.boxv 1 true [(.sl 0 (.int .i64)),(.int .i64)])),(15,(.boxv 1 true [(.int .i64),(.int .i64),.bool,(.sl 2 (.st 24 (.cons (.int .i64) (.cons (.int .i64) (.cons (.int .i64) .unit))))),(.sl 2 (.st 24 (.cons (.int .i64) (.cons (.int .i64) (.cons (.int .i64) .unit)))))]))],[158,160,136,134,132,2]⟩] (.sq .go (.sq .go (.cut [176,174,172,218,222,226,224,228,232,230,234,238,236,240,242,220,246,244,15,147,156,154,1,152,150,148,146,144,142,140,138,248,250,214,216,178,180,168,170,158,160,136,134,132,2,139,254,252,20,258,256,270,272,262,268,266,264,260,210,212,184,208,206,202,204,200,196,198,194,190,192,188,186,182] [⟨0,[(15,(.boxv 1 true [(.int .i64),(.int .i64),.bool,(.sl 2 (.st 24 (.cons (.int .i64) (.cons (.int .i64) (.cons (.int .i64) .unit))))),(.sl 2 (.st 24 (.cons (.int .i64) (.cons (.int .i64) (.cons (.int .i64) .unit)))))])),(1,(.boxv 1 true [(.sl 0 (.int .i64)),(.int .i64)]))],[168,170,158,160,136,134,132,2]⟩] (.sq .go (.sq .go (.cut [182,186,188,192,190,194,198,196,200,204,202,206,208,184,212,210,260,264,266,268,262,272,270,256,258,20,252,254,139,2,132,134,136,160,158,170,168,180,178,216,214,250,248,138,140,142,144,146,148,150,152,1,154,156,147,15,244,246,220,242,240,236,238,234,230,232,228,224,226,222,218] [⟨0,[(1,(.boxv 1 true [(.sl 0 (.int .i64)),(.int .i64)])),(15,(.boxv 1 true [(.int .i64),(.int .i64),.bool,(.sl 2 (.st 24 (.cons (.int .i64) (.cons (.int .i64) (.cons (.int .i64) .unit))))),(.sl 2 (.st 24 (.cons (.int .i64) (.cons (.int .i64) (.cons (.int .i64) .unit)))))]))],[178,180,168,170,158,160,136,134,132,2]⟩] (.sq .go (.sq .go (.cut [218,222,226,224,228,232,230,234,238,236,240,242,220,246,244,15,147,156,154,1,152,150,148,146,144,142,140,138,248,250,214,216,178,180,168,170,158,160,136,134,132,2,139,254,252,20,258,256,270,272,262,268,266,264,260] [⟨0,[(15,(.boxv 1 true [(.int .i64),(.int .i64),.bool,(.sl 2 (.st 24 (.cons (.int .i64) (.cons (.int .i64) (.cons (.int .i64) .unit))))),(.sl 2 (.st 24 (.cons (.int .i64) (.cons (.int .i64) (.cons (.int .i64) .unit)))))])),(1,(.boxv 1 true [(.sl 0 (.int .i64)),(.int .i64)]))],[214,216,178,180,168,170,158,160,136,134,132,2]⟩] (.sq .go (.sq .go (.cut [260,264,266,268,262,272,270,256,258,20,252,254,139,2,132,134,136,160,158,170,168,180,178,216,214,250,248,138,140,142,144,146,148,150,152,1,154,156,147,15] [⟨0,[(1,(.boxv 1 true [(.sl 0 (.int .i64)),(.int .i64)])),(15,(.boxv 1 true [(.int .i64),(.int .i64),.bool,(.sl 2 (.st 24 (.cons (.int .i64) (.cons (.int .i64) (.cons (.int .i64) .unit))))),(.sl 2 (.st 24 (.cons (.int .i64) (.cons (.int .i64) (.cons (.int .i64) .unit)))))]))],[248,250,214,216,178,180,168,170,158,160,136,134,132,2]⟩] (.sq (.sq .go (.sq (.loop [260,264,266,268,262,272,15,270,256,258,20,252,254] [(15,(.boxv 1 true [(.int .i64),(.int .i64),.bool,(.sl 2 (.st 24 (.cons (.int .i64) (.cons (.int .i64) (.cons (.int .i64) .unit))))),(.sl 2 (.st 24 (.cons (.int .i64) (.cons (.int .i64) (.cons (.int .i64) .unit)))))])),(20,(.lf (.int .i64)))] [248,250,214,216,178,180,168,170,158,160,136,134,132,2] [⟨7,[(15,(.boxv 1 true [(.int .i64),(.int .i64),.bool,(.sl 2 (.st 24 (.cons (.int .i64) (.cons (.int .i64) (.cons (.int .i64) .unit))))),(.sl 2 (.st 24 (.cons (.int .i64) (.cons (.int .i64) (.cons (.int .i64) .unit)))))]))],[20,248,250,214,216,178,180,168,170,158,160,136,134,132,2]⟩] (.sq (.sq .go .go) (.sq .go .go))) .go)) (.sq (.opn [(15,3,69)]) (.cut [15,147,156,154,1,152,150,148,146] [⟨0,[(15,(.boxv 1 true [(.int .i64),(.int .i64),.bool,(.sl 2 (.st 24 (.cons (.int .i64) (.cons (.int .i64) (.cons (.int .i64) .unit))))),(.sl 2 (.st 24 (.cons (.int .i64) (.cons (.int .i64) (.cons (.int .i64) .unit)))))])),(1,(.boxv 1 true [(.sl 0 (.int .i64)),(.int .i64)]))],[144,142,140,138,248,250,214,216,178,180,168,170,158,160,136,134,132,2]⟩] (.sq (.opn [(15,3,73)]) .go)))))))))))))))))) .go)) .go))) .go)))))

abbrev E100 : Env := mkE tab gl 6 false [(2,2)]
abbrev plan100 : Plan := (.sq .go .go)

abbrev E97 : Env := mkE tab gl 20 false [(11,1),(12,1),(13,1),(17,1),(18,1),(5,2),(6,2)]
abbrev plan97 : Plan := (.sq .go (.sq .go (.sq .go (.sq (.sq .go (.sq (.sq (.sq .go (.sq .go .go)) .go) .go)) (.sq (.sq .go (.sq .go .go)) (.sq (.sq .go (.sq .go .go)) (.sq (.sq .go (.sq .go .go)) .go)))))))

abbrev E99 : Env := mkE tab gl 18 false [(15,1),(17,1),(6,1),(8,1),(5,2),(2,2)]
abbrev plan99 : Plan := (.sq .go (.sq .go (.sq (.sq .go (.sq (.loop [4,30,20,22,10,24,26,28,32,16,18] [(16,(.lf (.int .i64)))] [4,0] [⟨1,[(4,(.lf (.int .i64)))],[16,14,12,0]⟩,⟨2,[],[16,14,12,0]⟩] (.sq .go (.sq .go (.sq (.sq (.sq .go (.sq .go (.sq .go .go))) .go) .go)))) .go)) .go)))

abbrev E79 : Env := mkE tab gl 15 false [(8,1),(10,1),(6,2)]
abbrev plan79 : Plan := (.sq .go (.sq (.cut [12,28,26,24,22,20,18,16,14] [⟨0,[(12,(.lf .bool))],[0,2,4]⟩] .go) .go))

abbrev E82 : Env := mkE tab gl 9 false [(7,1),(2,2),(4,2)]
abbrev plan82 : Plan := (.sq .go .go)

abbrev E87 : Env := mkE tab gl 17 false [(2,2),(3,2),(4,2)]
abbrev plan87 : Plan := (.sq .go .go)

abbrev E78 : Env := mkE tab gl 7 false [(1,2),(2,2)]
abbrev plan78 : Plan := (.sq .go .go)

abbrev E96 : Env := mkE tab gl 19 false [(17,1),(8,1),(5,2),(4,2)]
abbrev plan96 : Plan := (.sq .go (.sq (.sq .go (.sq (.loop [8,34,20,10,22,24,26,28,30,32,36,16,18] [(16,(.lf (.int .i64)))] [12,8] [⟨1,[(8,(.lf (.int .i64)))],[16,14,12,0,2]⟩,⟨2,[],[16,14,12,0,2]⟩] (.sq .go (.sq .go (.sq (.sq (.sq .go (.sq .go (.sq .go .go))) .go) .go)))) .go)) .go))

abbrev E77 : Env := mkE tab gl 9 false [(5,1),(6,1),(4,2)]
abbrev plan77 : Plan := (.sq .go .go)

abbrev E84 : Env := mkE tab gl 19 false [(7,1),(13,1),(1,2),(2,2)]
abbrev plan84 : Plan := (.sq .go (.sq (.cut [6,8,10,12,14,16,18,20,22,24,26,28,30,32,34,36,4] [⟨0,[(4,(.lf .bool))],[2,0]⟩] .go) .go))

abbrev E98 : Env := mkE tab gl 19 false [(17,1),(8,1),(5,2),(4,2)]
abbrev plan98 : Plan := (.sq .go (.sq (.sq .go (.sq (.loop [8,34,20,10,22,24,26,28,30,32,36,16,18] [(16,(.lf (.int .i64)))] [12,8] [⟨1,[(8,(.lf (.int .i64)))],[16,14,12,0,2]⟩,⟨2,[],[16,14,12,0,2]⟩] (.sq .go (.sq .go (.sq (.sq (.sq .go (.sq .go (.sq .go .go))) .go) .go)))) .go)) .go))

abbrev E83 : Env := mkE tab gl 9 false [(5,1),(6,1),(4,2)]
abbrev plan83 : Plan := (.sq .go .go)

abbrev E81 : Env := mkE tab gl 49 false [(35,1),(32,1),(34,1),(37,1),(39,1),(8,2),(10,2),(11,2),(9,2),(6,2),(7,2)]
abbrev plan81 : Plan := (.sq .go (.sq .go (.sq .go (.sq (.sq (.loop [24,26,28,36,38,40,42,44,46,22,48,50,52,54,56,58,60,62,20,68,64,66,18,30,32,34] [(20,(.lf (.int .i64))),(18,(.lf (.int .i64)))] [28,26,24,14,12] [⟨2,[(18,(.lf (.int .i64)))],[20,28,26,24]⟩] (.sq (.sq .go .go) (.sq (.sq .go (.sq .go (.cut [18,66,64,68,20] [⟨0,[(18,(.lf (.int .i64))),(20,(.lf (.int .i64)))],[62,60,58,56,54,52,50,48,22,46,44,42,40,38,36,34,32,30]⟩] .go))) .go))) .go) (.sq (.cut [14,12,96,94,92,90,88,86,84,82,80,78,76,74,72,70] [⟨0,[(14,(.lf .bool)),(12,(.lf (.int .i64)))],[18,16,0,2,4]⟩] .go) .go)))))

abbrev E80 : Env := mkE tab gl 15 false [(9,1),(6,1),(13,1),(4,2),(5,2),(3,2)]
abbrev plan80 : Plan := (.sq .go (.sq .go .go))

abbrev E85 : Env := mkE tab gl 14 false [(8,1),(2,2),(3,2)]
abbrev plan85 : Plan := (.sq .go (.sq (.cut [6,26,24,22,20,18,16,14,12,10,8] [⟨0,[(6,(.lf .bool))],[4,0,2]⟩] .go) .go))

abbrev E98v : Env := mkE tab gl 19 false [(17,1),(8,1),(5,2),(4,2)]
abbrev plan98v : Plan := (.sq .go (.sq (.sq .go (.sq (.loop [8,34,20,10,22,24,26,28,30,32,36,16,18] [(16,(.lf (.int .i64)))] [12,8] [⟨1,[(8,(.lf (.int .i64)))],[16,14,12,0,2]⟩,⟨2,[],[16,14,12,0,2]⟩] (.sq .go (.sq .go (.sq (.sq (.sq .go (.sq .go (.sq .go .go))) .go) .go)))) .go)) .go))

abbrev E83w1 : Env := mkE tab gl 9 false [(5,1),(6,1),(4,2)]
abbrev plan83w1 : Plan := (.sq .go .go)

abbrev E86 : Env := mkE tab gl 8 false [(1,2),(2,2)]
abbrev plan86 : Plan := (.sq .go .go)

abbrev E98x : Env := mkE tab gl 19 false [(17,1),(8,1),(5,2),(4,2)]
abbrev plan98x : Plan := (.sq .go (.sq (.sq .go (.sq (.loop [8,34,20,10,22,24,26,28,30,32,36,16,18] [(16,(.lf (.int .i64)))] [12,8] [⟨1,[(8,(.lf (.int .i64)))],[16,14,12,0,2]⟩,⟨2,[],[16,14,12,0,2]⟩] (.sq .go (.sq .go (.sq (.sq (.sq .go (.sq .go (.sq .go .go))) .go) .go)))) .go)) .go))

abbrev E83w2 : Env := mkE tab gl 9 false [(5,1),(6,1),(4,2)]
abbrev plan83w2 : Plan := (.sq .go .go)

abbrev E61 : Env := mkE tab gl 84 false [(55,101),(59,102),(11,1),(29,1),(24,1),(68,1),(63,1),(1,2),(6,2),(17,2),(3,2),(46,2),(47,2),(51,2),(56,2),(5,2)]
abbrev plan61 : Plan := (.sq .go (.sq (.sq (.sq (.cut [12,32,30,28,26,24,22,20,18,16,14] [⟨0,[(12,(.lf .bool))],[0]⟩] .go) (.sq .go (.sq .go (.sq .go .go)))) .go) (.sq (.sq .go (.sq (.loop [48,90,54,56,58,60,62,64,66,68,70,72,74,76,78,80,82,84,86,88,6,52,44,42,34,40,38,36,12,4,50] [(48,(.lf (.int .i64)))] [44,42,34,40,38,36,12,4] [⟨1,[(4,(.lf (.int .i64)))],[48,46,44,42,34,40,38,36,12]⟩,⟨3,[],[48,46,44,42,34,40,38,36,12]⟩] (.sq .go (.sq .go (.sq (.sq (.sq .go (.sq (.cut [54,56,58,60,62,64,66,68,70,72,74,76,78,80,82,84,86,88] [⟨0,[(88,(.lf .bool))],[6,52,50]⟩] .go) (.sq .go .go))) .go) .go)))) .go)) (.sq (.opk [(2,0,0)]) (.sq (.sq (.sq (.opk [(8,0,0)]) (.sq .go (.sq .go (.sq .go (.sq .go (.sq .go .go)))))) .go) (.sq (.sq .go (.sq (.loop [126,166,164,162,160,158,156,154,152,150,148,146,144,142,140,138,136,134,132,10,130,122,120,112,118,116,114,102,110,108,106,104,94,100,98,96,8,92,4,128] [(126,(.lf (.int .i64)))] [122,120,112,118,116,114,102,110,108,106,104,94,100,98,96,8,92] [⟨1,[(4,(.lf (.int .i64)))],[126,124,122,120,112,118,116,114,102,110,108,106,104,94,100,98,96,8,92,2]⟩,⟨6,[],[126,124,122,120,112,118,116,114,102,110,108,106,104,94,100,98,96,8,92,2]⟩] (.sq .go (.sq .go (.sq (.sq (.sq .go (.sq (.cut [164,162,160,158,156,154,152,150,148,146,144,142,140,138,136,134,132] [⟨0,[(164,(.lf .bool))],[10,130,128]⟩] .go) (.sq .go .go))) .go) .go)))) .go)) .go))))))

abbrev E88 : Env := mkE tab gl 23 false [(11,1),(8,1),(15,1),(20,1),(2,2),(6,2),(7,2),(17,2),(22,2)]
abbrev plan88 : Plan := (.sq .go (.sq .go (.sq (.sq .go (.sq .go .go)) .go)))

abbrev E89 : Env := mkE tab gl 6 false [(3,1),(1,2),(2,2)]
abbrev plan89 : Plan := (.sq .go .go)

abbrev E62 : Env := mkE tab gl 18 false [(9,1),(7,1),(13,1),(15,1),(2,2),(11,2),(6,2),(4,2)]
abbrev plan62 : Plan := (.sq .go (.sq .go (.sq (.cut [8,34,32,30,28,5,26] [⟨0,[(8,(.lf .bool))],[12,10,24,22,14,20,18,16,4,0,2]⟩] .go) .go)))

abbrev E63 : Env := mkE tab gl 19 false [(9,1),(7,1),(13,1),(15,1),(2,2),(11,2),(6,2),(4,2)]
abbrev plan63 : Plan := (.sq .go (.sq .go (.sq (.cut [8,36,34,32,30,28,5,26] [⟨0,[(8,(.lf .bool))],[12,10,24,22,14,20,18,16,4,0,2]⟩] .go) .go)))

abbrev E90 : Env := mkE tab gl 9 false [(5,1),(2,2)]
abbrev plan90 : Plan := (.sq .go (.sq (.cut [4,16,14,12,10,8,6] [⟨0,[(4,(.lf .bool))],[0]⟩] .go) .go))

abbrev E91 : Env := mkE tab gl 21 false [(11,1),(2,2),(5,2)]
abbrev plan91 : Plan := (.sq .go (.sq (.sq .go (.sq (.loop [8,26,28,30,32,34,36,38,40,22,24,10,12,14,16,18,20] [(10,(.lf (.int .i64)))] [8,0] [⟨1,[(8,(.lf .bool))],[10,4,0,2]⟩,⟨2,[],[10,4,0,2]⟩] (.sq (.sq .go .go) (.sq (.sq (.sq .go (.sq .go .go)) .go) .go))) .go)) .go))

abbrev E64 : Env := mkE tab gl 182 false [(16,1),(36,1),(27,1),(50,1),(82,1),(88,1),(93,1),(71,1),(114,1),(103,1),(130,1),(168,1),(150,1),(1,2),(3,2),(4,2),(77,2),(5,2),(7,2),(8,2),(157,2),(162,2),(9,2)]
abbrev plan64 : Plan := (.sq .go (.sq (.sq (.cut [42,40,38,36,34,32,30,28,26,24] [⟨0,[(42,(.lf .bool))],[0]⟩] .go) (.sq .go .go)) (.sq (.sq .go (.sq (.loop [6,56,54,58,60,62,64,66,68,70,72,74,76,78,80,82,84,86,88,42,4,44,46,48,50,52] [(6,(.lf (.int .i64)))] [42,4] [⟨1,[(4,(.lf (.int .i64)))],[6,42]⟩,⟨2,[],[6,42]⟩] (.sq (.sq .go .go) (.sq (.sq (.sq (.cut [58,60,62,64,66,68,70,72,74,76,78,80,82,84,86,88] [⟨0,[(88,(.lf .bool))],[52,50,48,46,44]⟩] .go) (.sq .go .go)) .go) .go))) .go)) (.sq (.sq .go (.sq (.loop [8,102,100,130,128,126,124,122,120,118,116,114,112,110,108,106,104,4,90,92,94,96,98] [(8,(.lf (.int .i64)))] [] [⟨1,[(4,(.lf (.int .i64)))],[8]⟩,⟨4,[],[8]⟩] (.sq (.sq .go .go) (.sq (.sq (.sq .go (.sq .go .go)) .go) .go))) .go)) (.sq (.sq .go (.sq (.loop [4,13,146,148,150,152,154,12,156,158,160,162,164,166,168,170,172,174,176,178,180,182,184,186,188,190,192,194,142,144,10,132,134,136,138,140] [(10,(.lf (.int .i64)))] [] [⟨1,[(4,(.lf (.int .i64)))],[10]⟩,⟨6,[],[10]⟩] (.sq (.sq .go .go) (.sq (.sq (.sq .go (.sq (.cut [194,192,190,188,186,184,182,180,178,176,174,172,170,168,166,164,162,160,158,156] [⟨0,[(194,(.lf .bool))],[12,154,152,150,148,146,140,138,136,134,132]⟩] .go) (.sq .go .go))) .go) .go))) .go)) (.sq (.sq .go (.sq (.loop [14,208,206,210,212,214,216,218,220,222,224,226,228,230,232,234,236,238,240,242,244,246,248,4,196,198,200,202,204] [(14,(.lf (.int .i64)))] [] [⟨1,[(4,(.lf (.int .i64)))],[14]⟩,⟨8,[],[14]⟩] (.sq (.sq .go .go) (.sq (.sq (.sq (.cut [210,212,214,216,218,220,222,224,226,228,230,232,234,236,238,240,242,244,246,248] [⟨0,[(248,(.lf .bool))],[204,202,200,198,196]⟩] .go) (.sq .go .go)) .go) .go))) .go)) (.sq (.sq .go (.sq (.loop [16,262,260,288,286,284,282,280,278,276,274,272,270,268,266,264,4,250,252,254,256,258] [(16,(.lf (.int .i64)))] [] [⟨1,[(4,(.lf (.int .i64)))],[16]⟩,⟨10,[],[16]⟩] (.sq (.sq .go .go) (.sq (.sq (.sq .go (.sq .go .go)) .go) .go))) .go)) (.sq (.sq .go (.sq (.loop [18,302,300,362,360,358,356,354,352,350,348,346,344,342,340,338,336,334,332,330,328,326,22,20,324,322,320,318,316,314,312,310,308,306,304,23,21,4,290,292,294,296,298] [(18,(.lf (.int .i64)))] [] [⟨1,[(4,(.lf (.int .i64)))],[18,2]⟩,⟨12,[],[18,2]⟩] (.sq (.sq .go .go) (.sq (.sq (.sq .go (.sq (.cut [362,360,358,356,354,352,350,348,346,344,342,340,338,336,334,332,330,328,326] [⟨0,[(362,(.lf .bool))],[22,20,324,322,320,318,316,314,312,310,308,306,304,298,296,294,292,290]⟩] .go) (.sq .go .go))) .go) .go))) .go)) .go))))))))

abbrev E65 : Env := mkE tab gl 13 false [(8,1),(2,2),(4,2)]
abbrev plan65 : Plan := (.sq .go (.sq (.cut [8,24,22,20,18,16,14,12,10] [⟨0,[(8,(.lf .bool))],[4,0,2]⟩] .go) .go))

abbrev E66 : Env := mkE tab gl 30 false [(29,1),(26,1),(14,1),(2,2),(4,2),(5,2)]
abbrev plan66 : Plan := (.sq .go (.sq (.sq .go (.sq .go .go)) (.sq (.sq .go (.sq (.loop [48,50,52,54,56,58,8,32,34,36,38,40,42,44,46,28,30,10,18,20,22,24,26] [(10,(.lf (.int .i64)))] [16,14,12,8,0] [⟨1,[(8,(.lf .bool))],[10,16,14,12,4,0,2]⟩,⟨2,[],[10,16,14,12,4,0,2]⟩] (.sq (.sq .go .go) (.sq (.sq (.sq .go (.sq .go .go)) .go) .go))) .go)) .go)))

abbrev E68 : Env := mkE tab gl 46 false [(33,1),(45,1),(26,1),(38,1),(15,1),(3,2),(21,2),(6,2),(8,2)]
abbrev plan68 : Plan := (.sq .go (.sq (.sq .go (.sq (.loop [66,64,14,12,90,88,18,19,0,34,36,38,40,42,44,46,48,50,52,54,56,58,60,62,68,70,72,74,76,78,80,82,84,86,30,32,16,20,22,24,26,28] [(16,(.lf (.int .i64)))] [14,12,0] [⟨1,[(14,(.lf .bool)),(12,(.lf (.int .i64)))],[16,6,0,2,4]⟩,⟨2,[],[16,6,0,2,4]⟩] (.sq (.sq .go .go) (.sq (.sq (.sq .go (.sq (.sq (.cut [62,60,58,56,54,52,50,48,46,44] [⟨0,[(62,(.lf .bool))],[42,40,38,36,34,28,26,24,22,20]⟩] .go) (.sq .go .go)) (.sq (.cut [86,84,82,80,78,76,74,72,70,68] [⟨0,[(86,(.lf .bool))],[62]⟩] .go) (.sq .go .go)))) .go) .go))) .go)) .go))

abbrev E67 : Env := mkE tab gl 39 false [(29,1),(38,1),(16,1),(28,1),(14,1),(2,2),(7,2),(8,2),(5,2),(6,2),(4,2)]
abbrev plan67 : Plan := (.sq .go (.sq .go (.sq (.sq .go (.sq (.loop [0,34,36,38,40,42,44,46,48,50,32,52,54,14,16,56,60,62,64,66,68,70,72,58,10,74,28,30,12,18,20,22,24,26] [(10,(.lf (.sl 2 (.int .i64)))),(12,(.lf (.int .i64)))] [8,0] [⟨2,[(10,(.lf (.sl 2 (.int .i64))))],[12,4,0,2]⟩] (.sq (.sq .go .go) (.sq (.sq (.sq .go (.sq .go (.cut [74,10,58,72,70,68,66,64,62,60] [⟨0,[(10,(.lf (.sl 2 (.int .i64))))],[56,16,14,54,52,32,50,48,46,44,42,40,38,36,34,26,24,22,20,18]⟩] .go))) .go) .go))) .go)) .go)))

abbrev E33 : Env := mkE tab gl 78 false [(77,5),(45,1),(61,1),(25,1),(29,1),(35,1),(77,1),(4,2),(13,2),(17,2),(18,2),(23,2),(31,2),(38,2),(40,2),(54,2),(56,2),(70,2),(76,2)]
abbrev plan33 : Plan := (.sq .go (.sq (.sq (.sq .go (.sq .go (.sq .go (.sq .go .go)))) .go) (.sq .go (.sq (.sq .go (.sq (.loop [25,120,124,126,128,130,132,134,136,138,122,142,21,140,112,118,116,114,80,86,84,82,78,24,76,74,64,62,60,58,56,54,52,50,48,36,44,42,40,38,26,32,30,28,8,0,4,6,108,110,90,106,104,102,100,98,96,94,92,88,144,70,72] [(21,(.boxv 1 true [(.int .i64),(.int .i64),.bool,(.sl 2 (.st 24 (.cons (.int .i64) (.cons (.int .i64) (.cons (.int .i64) .unit))))),(.sl 2 (.st 24 (.cons (.int .i64) (.cons (.int .i64) (.cons (.int .i64) .unit)))))])),(70,(.lf (.int .i64)))] [64,62,60,58,56,54,52,50,48,36,44,42,40,38,26,32,30,28,18,8,0,4,6] [⟨3,[(21,(.boxv 1 true [(.int .i64),(.int .i64),.bool,(.sl 2 (.st 24 (.cons (.int .i64) (.cons (.int .i64) (.cons (.int .i64) .unit))))),(.sl 2 (.st 24 (.cons (.int .i64) (.cons (.int .i64) (.cons (.int .i64) .unit)))))]))],[70,68,66,64,62,60,58,56,54,52,50,48,36,44,42,40,38,26,32,30,28,8,0,2,4,6]⟩] (.sq .go (.sq .go (.sq (.sq (.sq .go (.sq .go (.sq (.sq .go (.cut [88,92,94,96,98,100,102,104,106,90,110,108,72,74,76,24,78,82,84,86,80,114,116,118,112,140,21,142,122,138,136,134,132,130,128,126,124,120] [⟨0,[(21,(.boxv 1 true [(.int .i64),(.int .i64),.bool,(.sl 2 (.st 24 (.cons (.int .i64) (.cons (.int .i64) (.cons (.int .i64) .unit))))),(.sl 2 (.st 24 (.cons (.int .i64) (.cons (.int .i64) (.cons (.int .i64) .unit)))))]))],[80,86,84,82,78,24,76,74,72]⟩] (.sq .go (.sq .go (.cut [120,124,126,128,130,132,134,136,138,122,142,21,140] [⟨0,[(21,(.boxv 1 true [(.int .i64),(.int .i64),.bool,(.sl 2 (.st 24 (.cons (.int .i64) (.cons (.int .i64) (.cons (.int .i64) .unit))))),(.sl 2 (.st 24 (.cons (.int .i64) (.cons (.int .i64) (.cons (.int .i64) .unit)))))]))],[112,118,116,114,80,86,84,82,78,24,76,74,72]⟩] .go))))) .go))) .go) .go)))) .go)) (.sq (.sq (.opn [(21,3,73)]) (.sq .go .go)) .go)))))

abbrev E34 : Env := mkE tab gl 105 false [(104,5),(95,1),(28,1),(32,1),(43,1),(57,1),(80,1),(64,1),(96,1),(41,1),(104,1),(4,2),(21,2),(26,2),(33,2),(11,2),(13,2),(14,2),(58,2),(70,2),(92,2),(16,2),(98,2),(12,2),(103,2)]
abbrev plan34 : Plan := (.sq .go (.sq (.sq .go (.sq .go .go)) (.sq (.sq .go (.sq .go .go)) (.sq .go (.sq .go (.sq (.sq .go (.sq (.loop [30,18,126,124,122,120,118,32,130,128,186,184,182,180,34,178,176,174,172,170,168,166,164,162,160,158,156,154,152,150,148,146,144,142,140,138,136,134,132,116,114,112,110,108,106,28,26,104,102,86,100,98,96,94,92,90,88,72,70,68,66,64,62,60,58,56,54,50,48,46,44,40,38,36,0,4,6,35,188,192,31,194,190,198,21,196,82,84,24,74,76,78,80,23,22] [(21,(.boxv 1 true [(.int .i64),(.int .i64),.bool,(.sl 2 (.st 24 (.cons (.int .i64) (.cons (.int .i64) (.cons (.int .i64) .unit))))),(.sl 0 (.st 24 (.cons (.int .i64) (.cons (.int .i64) (.cons (.int .i64) .unit)))))])),(24,(.lf (.int .i64))),(22,(.lf (.sl 2 (.int .i64))))] [72,70,68,66,64,62,60,58,56,54,50,48,46,44,40,38,36,18,0,4,6] [⟨2,[(21,(.boxv 1 true [(.int .i64),(.int .i64),.bool,(.sl 2 (.st 24 (.cons (.int .i64) (.cons (.int .i64) (.cons (.int .i64) .unit))))),(.sl 0 (.st 24 (.cons (.int .i64) (.cons (.int .i64) (.cons (.int .i64) .unit)))))]))],[24,22,72,70,68,66,64,62,60,58,56,54,50,48,46,44,40,38,36,8,0,2,4,6]⟩] (.sq (.sq (.opn [(22,0,11)]) .go) (.sq (.sq (.sq (.opn [(22,0,11)]) (.sq (.opn [(22,0,11)]) (.sq (.sq .go (.sq (.loop [35,74,76,78,80,88,90,92,94,96,98,100,86,102,104,26,28,106,108,110,112,114,116,132,134,136,138,140,142,144,146,148,150,152,154,156,158,160,162,164,166,168,170,172,174,176,178,23,22,34,180,182,184,186,31,128,130,32,118,120,122,124,126] [(22,(.lf (.sl 2 (.int .i64)))),(31,(.boxv 1 true [(.int .i64),(.int .i64),(.int .i64)])),(32,(.lf (.int .i64)))] [116,114,112,110,108,106,28,26,104,102,86,100,98,96,94,92,90,88,80,78,76,74] [⟨4,[(22,(.lf (.sl 2 (.int .i64)))),(31,(.boxv 1 true [(.int .i64),(.int .i64),(.int .i64)]))],[32,116,114,112,110,108,106,28,26,104,102,86,100,98,96,94,92,90,88,80,78,76,74]⟩] (.sq (.sq .go .go) (.sq (.sq (.sq .go (.sq (.cut [22,23,180,178,176,174,172,170,168,166,164,162,160,158,156,154,152,150,148,146,144,142] [⟨0,[(22,(.lf (.sl 2 (.int .i64)))),(180,(.lf .bool))],[140,138,136,134,132,126,124,122,120,118]⟩] (.opn [(22,0,11)])) (.cut [31,186,184,182] [⟨0,[(31,(.boxv 1 true [(.int .i64),(.int .i64),(.int .i64)]))],[180,34]⟩] .go))) .go) .go))) .go)) .go))) .go) .go))) .go)) (.sq (.sq (.opn [(21,3,100)]) (.sq .go .go)) .go)))))))

abbrev E60 : Env := mkE tab gl 76 false [(58,1),(63,1),(70,1),(75,1),(17,1),(56,1),(71,1),(72,1),(11,1),(5,2),(6,2),(3,2),(4,2),(2,2)]
abbrev plan60 : Plan := (.sq .go (.sq .go (.sq (.sq .go (.sq (.loop [8,24,22,148,6,140,146,144,142,12,138,126,136,134,132,130,128,124,116,122,120,118,10,114,112,26,28,30,32,34,36,38,40,42,44,46,48,50,52,54,56,58,60,62,64,66,68,70,72,74,76,78,80,82,84,86,88,90,92,94,96,98,100,102,104,106,108,110,7,4,14,16,18,20] [(8,(.lf (.int .i64))),(6,(.lf (.sl 2 (.st 40 (.cons (.int .i64) (.cons (.int .i64) (.cons (.int .i64) (.cons (.int .i64) (.cons (.int .i64) .unit)))))))))] [4] [⟨2,[(6,(.lf (.sl 2 (.st 40 (.cons (.int .i64) (.cons (.int .i64) (.cons (.int .i64) (.cons (.int .i64) (.cons (.int .i64) .unit)))))))))],[8,0]⟩] (.sq (.sq .go .go) (.sq (.sq (.sq .go (.sq (.sq (.loop [10,114,112,14,16,18,20,26,28,30,32,34,36,38,40,42,44,46,48,50,52,54,56,58,60,62,64,66,68,70,72,74,76,78,80,82,84,86,88,90,92,94,96,98,100,102,104,106,108,110,7,6] [(10,(.lf (.int .i64))),(6,(.lf (.sl 2 (.st 40 (.cons (.int .i64) (.cons (.int .i64) (.cons (.int .i64) (.cons (.int .i64) (.cons (.int .i64) .unit)))))))))] [20,18,16,14] [⟨4,[(10,(.lf (.int .i64))),(6,(.lf (.sl 2 (.st 40 (.cons (.int .i64) (.cons (.int .i64) (.cons (.int .i64) (.cons (.int .i64) (.cons (.int .i64) .unit)))))))))],[20,18,16,14]⟩] (.sq (.sq (.cut [6,7,110,108,106,104,102,100,98,96,94,92,90,88,86,84,82,80,78,76,74,72,70,68,66,64,62,60,58,56,54,52,50,48,46,44,42,40,38,36,34,32,30,28,26] [⟨0,[(6,(.lf (.sl 2 (.st 40 (.cons (.int .i64) (.cons (.int .i64) (.cons (.int .i64) (.cons (.int .i64) (.cons (.int .i64) .unit))))))))),(110,(.lf .bool))],[]⟩] (.opn [(6,0,3)])) .go) .go)) .go) (.sq .go (.sq .go .go)))) .go) .go))) .go)) .go)))

abbrev E30 : Env := mkE tab gl 196 true [(182,0),(195,5),(25,1),(62,1),(104,1),(115,1),(182,1),(95,1),(17,1),(22,1),(53,1),(57,1),(48,1),(37,1),(83,1),(105,1),(185,1),(92,1),(195,1),(8,2),(29,2),(9,2),(10,2),(12,2),(13,2),(75,2),(14,2),(11,2),(79,2),(101,2),(110,2),(112,2),(122,2),(124,2),(138,2),(141,2),(155,2),(158,2),(172,2),(175,2),(193,2),(99,2),(15,2)]
abbrev plan30 : Plan := (.sq .go (.sq .go (.sq .go (.sq (.sq .go (.sq (.loop [48,52,54,56,50,60,15,58,44,46,18,38,40,42] [(15,(.boxv 1 true [(.sl 2 (.st 16 (.cons (.int .i64) (.cons .bool .unit)))),(.sl 2 (.st 40 (.cons (.int .i64) (.cons (.int .i64) (.cons (.int .i64) (.cons (.int .i64) (.cons (.int .i64) .unit)))))))])),(18,(.lf (.int .i64)))] [36,34,32,2] [⟨2,[(15,(.boxv 1 true [(.sl 2 (.st 16 (.cons (.int .i64) (.cons .bool .unit)))),(.sl 2 (.st 40 (.cons (.int .i64) (.cons (.int .i64) (.cons (.int .i64) (.cons (.int .i64) (.cons (.int .i64) .unit)))))))]))],[18,36,34,32,2]⟩] (.sq (.sq .go .go) (.sq .go .go))) .go)) (.sq .go (.sq (.sq .go (.sq (.loop [22,76,74,28,98,96,122,126,128,130,132,134,136,138,140,142,144,1,146,148,124,152,15,150,120,100,102,104,106,108,110,112,114,116,118,88,86,84,82,80,78,66,64,62,90,92,94,26,24,68,70,72] [(22,(.lf (.int .i64))),(1,(.boxv 1 true [(.sl 0 (.int .i64)),(.int .i64)])),(15,(.boxv 1 true [(.sl 2 (.st 16 (.cons (.int .i64) (.cons .bool .unit)))),(.sl 2 (.st 40 (.cons (.int .i64) (.cons (.int .i64) (.cons (.int .i64) (.cons (.int .i64) (.cons (.int .i64) .unit)))))))]))] [66,64,62] [⟨4,[(1,(.boxv 1 true [(.sl 0 (.int .i64)),(.int .i64)])),(15,(.boxv 1 true [(.sl 2 (.st 16 (.cons (.int .i64) (.cons .bool .unit)))),(.sl 2 (.st 40 (.cons (.int .i64) (.cons (.int .i64) (.cons (.int .i64) (.cons (.int .i64) (.cons (.int .i64) .unit)))))))]))],[22,20,66,64,62,16]⟩] (.sq (.sq .go .go) (.sq (.sq (.sq .go (.sq .go (.sq .go (.sq (.loop [28,98,96,122,126,128,130,132,134,136,138,140,142,144,1,146,148,124,152,15,150,120,100,102,104,106,108,110,112,114,116,118,88,86,84,82,80,78,72,70,68,90,92,94] [(28,(.lf (.int .i64))),(1,(.boxv 1 true [(.sl 0 (.int .i64)),(.int .i64)])),(15,(.boxv 1 true [(.sl 2 (.st 16 (.cons (.int .i64) (.cons .bool .unit)))),(.sl 2 (.st 40 (.cons (.int .i64) (.cons (.int .i64) (.cons (.int .i64) (.cons (.int .i64) (.cons (.int .i64) .unit)))))))]))] [88,86,84,82,80,78,72,70,68] [⟨6,[(1,(.boxv 1 true [(.sl 0 (.int .i64)),(.int .i64)])),(15,(.boxv 1 true [(.sl 2 (.st 16 (.cons (.int .i64) (.cons .bool .unit)))),(.sl 2 (.st 40 (.cons (.int .i64) (.cons (.int .i64) (.cons (.int .i64) (.cons (.int .i64) (.cons (.int .i64) .unit)))))))]))],[28,26,88,86,24,84,82,80,78,72,70,68]⟩] (.sq (.sq .go .go) (.sq (.sq (.sq (.cut [100,102,104,106,108,110,112,114,116,118,1,120] [⟨0,[(1,(.boxv 1 true [(.sl 0 (.int .i64)),(.int .i64)])),(120,(.lf .bool))],[94,92,90]⟩] .go) (.cut [122,126,128,130,132,134,136,138,140,142,144,1,146,148,124,152,15,150] [⟨0,[(1,(.boxv 1 true [(.sl 0 (.int .i64)),(.int .i64)])),(15,(.boxv 1 true [(.sl 2 (.st 16 (.cons (.int .i64) (.cons .bool .unit)))),(.sl 2 (.st 40 (.cons (.int .i64) (.cons (.int .i64) (.cons (.int .i64) (.cons (.int .i64) (.cons (.int .i64) .unit)))))))]))],[120]⟩] .go)) .go) .go))) .go)))) .go) .go))) .go)) (.sq .go (.sq (.sq (.cut [1,174,172,170,168,166,164,162] [⟨0,[(1,(.boxv 1 true [(.sl 0 (.int .i64)),(.int .i64)])),(174,(.lf .bool))],[160,158,156,154,4]⟩] .go) (.cut [206,210,214,212,216,218,208,222,220,263,280,278,276,274,272,270,268,266,264,262,260,258,256,254,252,253,331,348,346,344,342,340,338,336,334,332,330,328,326,324,322,320,321,188,192,194,196,190,200,15,198,184,186,30,180,182,350,352,316,318,282,284,248,250,224,226,202,204,178,176,174,355,354,356,358,360,386,388,365,384,382,380,1,378,376,374,372,370,368,366,364,362,287,286,288,290,292,294,296,298,300,302,304,306,308,310,312,314,297,244,246,230,242,240,238,236,234,232,228] [⟨0,[(15,(.boxv 1 true [(.sl 2 (.st 16 (.cons (.int .i64) (.cons .bool .unit)))),(.sl 2 (.st 40 (.cons (.int .i64) (.cons (.int .i64) (.cons (.int .i64) (.cons (.int .i64) (.cons (.int .i64) .unit)))))))])),(1,(.boxv 1 true [(.sl 0 (.int .i64)),(.int .i64)]))],[174]⟩] (.sq (.sq .go (.sq (.sq .go (.cut [206,210,214,212,216,218,208,222,220,263,280,278,276,274,272,270,268,266,264,262,260,258,256,254,252,253,331,348,346,344,342,340,338,336,334,332,330,328,326,324,322,320,321,188,192,194,196,190,200,15,198,184,186,30,180,182,350,352,316,318,282,284,248,250,224,226,202,204,178,176,174,355,354,356,358,360,386,388,365,384,382,380,1,378,376,374,372,370,368,366,364,362,287,286,288,290,292,294,296,298,300,302,304,306,308,310,312,314,297,244,246,230,242,240,238,236,234,232,228] [⟨0,[(15,(.boxv 1 true [(.sl 2 (.st 16 (.cons (.int .i64) (.cons .bool .unit)))),(.sl 2 (.st 40 (.cons (.int .i64) (.cons (.int .i64) (.cons (.int .i64) (.cons (.int .i64) (.cons (.int .i64) .unit)))))))])),(1,(.boxv 1 true [(.sl 0 (.int .i64)),(.int .i64)]))],[202,204,178,176,174]⟩] (.sq .go (.sq .go (.cut [228,232,234,236,238,240,242,230,246,244,297,314,312,310,308,306,304,302,300,298,296,294,292,290,288,286,287,362,364,366,368,370,372,374,376,378,1,380,382,384,365,388,386,360,358,356,354,355,174,176,178,204,202,226,224,250,248,284,282,318,316,352,350,182,180,30,186,184,198,15,200,190,196,194,192,188,321,320,322,324,326,328,330,332,334,336,338,340,342,344,346,348,331,253,252,254,256,258,260,262,264,266,268,270,272,274,276,278,280,263] [⟨0,[(1,(.boxv 1 true [(.sl 0 (.int .i64)),(.int .i64)])),(15,(.boxv 1 true [(.sl 2 (.st 16 (.cons (.int .i64) (.cons .bool .unit)))),(.sl 2 (.st 40 (.cons (.int .i64) (.cons (.int .i64) (.cons (.int .i64) (.cons (.int .i64) (.cons (.int .i64) .unit)))))))]))],[224,226,202,204,178,176,174]⟩] (.sq .go (.sq .go (.cut [263,280,278,276,274,272,270,268,266,264,262,260,258,256,254,252,253,331,348,346,344,342,340,338,336,334,332,330,328,326,324,322,320,321,188,192,194,196,190,200,15,198,184,186,30,180,182,350,352,316,318,282,284,248,250,224,226,202,204,178,176,174,355,354,356,358,360,386,388,365,384,382,380,1,378,376,374,372,370,368,366,364,362,287,286,288,290,292,294,296,298,300,302,304,306,308,310,312,314,297] [⟨0,[(15,(.boxv 1 true [(.sl 2 (.st 16 (.cons (.int .i64) (.cons .bool .unit)))),(.sl 2 (.st 40 (.cons (.int .i64) (.cons (.int .i64) (.cons (.int .i64) (.cons (.int .i64) (.cons (.int .i64) .unit)))))))])),(1,(.boxv 1 true [(.sl 0 (.int .i64)),(.int .i64)]))],[248,250,224,226,202,204,178,176,174]⟩] (.sq (.sq (.opn [(15,1,126)]) (.cut [15,263,280,278,1,276,274,272,270,268,266,264,262,260] [⟨0,[(15,(.boxv 1 true [(.sl 2 (.st 16 (.cons (.int .i64) (.cons .bool .unit)))),(.sl 2 (.st 40 (.cons (.int .i64) (.cons (.int .i64) (.cons (.int .i64) (.cons (.int .i64) (.cons (.int .i64) .unit)))))))])),(1,(.boxv 1 true [(.sl 0 (.int .i64)),(.int .i64)]))],[258,256,254,252,248,250,224,226,202,204,178,176,174]⟩] (.sq (.opn [(15,1,131)]) .go))) (.sq .go (.cut [297,314,312,310,308,306,304,302,300,298,296,294,292,290,288,286,287,362,364,366,368,370,372,374,376,378,1,380,382,384,365,388,386,360,358,356,354,355,174,176,178,204,202,226,224,250,248,284,282,318,316,352,350,182,180,30,186,184,198,15,200,190,196,194,192,188,321,320,322,324,326,328,330,332,334,336,338,340,342,344,346,348,331] [⟨0,[(1,(.boxv 1 true [(.sl 0 (.int .i64)),(.int .i64)])),(15,(.boxv 1 true [(.sl 2 (.st 16 (.cons (.int .i64) (.cons .bool .unit)))),(.sl 2 (.st 40 (.cons (.int .i64) (.cons (.int .i64) (.cons (.int .i64) (.cons (.int .i64) (.cons (.int .i64) .unit)))))))]))],[282,284,248,250,224,226,202,204,178,176,174]⟩] (.sq (.sq (.opn [(15,1,143)]) (.cut [15,297,314,312,1,310,308,306,304,302,300,298,296,294] [⟨0,[(15,(.boxv 1 true [(.sl 2 (.st 16 (.cons (.int .i64) (.cons .bool .unit)))),(.sl 2 (.st 40 (.cons (.int .i64) (.cons (.int .i64) (.cons (.int .i64) (.cons (.int .i64) (.cons (.int .i64) .unit)))))))])),(1,(.boxv 1 true [(.sl 0 (.int .i64)),(.int .i64)]))],[292,290,288,286,282,284,248,250,224,226,202,204,178,176,174]⟩] (.sq (.opn [(15,1,148)]) .go))) (.sq .go (.cut [331,348,346,344,342,340,338,336,334,332,330,328,326,324,322,320,321,188,192,194,196,190,200,15,198,184,186,30,180,182,350,352,316,318,282,284,248,250,224,226,202,204,178,176,174,355,354,356,358,360,386,388,365,384,382,380,1,378,376,374,372,370,368,366,364,362] [⟨0,[(15,(.boxv 1 true [(.sl 2 (.st 16 (.cons (.int .i64) (.cons .bool .unit)))),(.sl 2 (.st 40 (.cons (.int .i64) (.cons (.int .i64) (.cons (.int .i64) (.cons (.int .i64) (.cons (.int .i64) .unit)))))))])),(1,(.boxv 1 true [(.sl 0 (.int .i64)),(.int .i64)]))],[316,318,282,284,248,250,224,226,202,204,178,176,174]⟩] (.sq (.sq (.opn [(15,1,160)]) (.cut [15,331,348,346,1,344,342,340,338,336,334,332,330,328] [⟨0,[(15,(.boxv 1 true [(.sl 2 (.st 16 (.cons (.int .i64) (.cons .bool .unit)))),(.sl 2 (.st 40 (.cons (.int .i64) (.cons (.int .i64) (.cons (.int .i64) (.cons (.int .i64) (.cons (.int .i64) .unit)))))))])),(1,(.boxv 1 true [(.sl 0 (.int .i64)),(.int .i64)]))],[326,324,322,320,316,318,282,284,248,250,224,226,202,204,178,176,174]⟩] (.sq (.opn [(15,1,165)]) .go))) (.sq .go (.cut [362,364,366,368,370,372,374,376,378,1,380,382,384,365,388,386,360,358,356,354,355,174,176,178,204,202,226,224,250,248,284,282,318,316,352,350,182,180,30,186,184,198,15,200,190,196,194,192,188] [⟨0,[(1,(.boxv 1 true [(.sl 0 (.int .i64)),(.int .i64)])),(15,(.boxv 1 true [(.sl 2 (.st 16 (.cons (.int .i64) (.cons .bool .unit)))),(.sl 2 (.st 40 (.cons (.int .i64) (.cons (.int .i64) (.cons (.int .i64) (.cons (.int .i64) (.cons (.int .i64) .unit)))))))]))],[350,352,316,318,282,284,248,250,224,226,202,204,178,176,174]⟩] (.sq (.sq (.opn [(15,1,177)]) (.cut [362,364,366,368,370,372,374,376,378,1,380,382,384,365,388,15,386] [⟨0,[(1,(.boxv 1 true [(.sl 0 (.int .i64)),(.int .i64)])),(15,(.boxv 1 true [(.sl 2 (.st 16 (.cons (.int .i64) (.cons .bool .unit)))),(.sl 2 (.st 40 (.cons (.int .i64) (.cons (.int .i64) (.cons (.int .i64) (.cons (.int .i64) (.cons (.int .i64) .unit)))))))]))],[360,358,356,354,350,352,316,318,282,284,248,250,224,226,202,204,178,176,174]⟩] (.sq (.opn [(15,1,182)]) .go))) (.sq .go (.sq (.loop [188,192,194,196,190,200,15,198,184,186,30,180,182] [(15,(.boxv 1 true [(.sl 2 (.st 16 (.cons (.int .i64) (.cons .bool .unit)))),(.sl 2 (.st 40 (.cons (.int .i64) (.cons (.int .i64) (.cons (.int .i64) (.cons (.int .i64) (.cons (.int .i64) .unit)))))))])),(30,(.lf (.int .i64)))] [350,352,316,318,282,284,248,250,224,226,202,204,178,176,174] [⟨9,[(15,(.boxv 1 true [(.sl 2 (.st 16 (.cons (.int .i64) (.cons .bool .unit)))),(.sl 2 (.st 40 (.cons (.int .i64) (.cons (.int .i64) (.cons (.int .i64) (.cons (.int .i64) (.cons (.int .i64) .unit)))))))]))],[30,350,352,316,318,282,284,248,250,224,226,202,204,178,176,174]⟩] (.sq (.sq .go .go) (.sq .go .go))) .go)))))))))))))))))))) .go)) .go))) .go))))))))

abbrev E31 : Env := mkE tab gl 26 true [(25,5),(8,1),(15,1),(25,1),(9,2),(22,2),(6,2)]
abbrev plan31 : Plan := (.sq .go (.sq .go (.sq (.sq .go (.sq (.loop [12,32,30,35,48,46,44,1,42,40,38,36,34,20,22,24,26,28,21,11] [(12,(.lf (.int .i64))),(1,(.boxv 1 true [(.sl 0 (.int .i64)),(.int .i64)])),(11,(.boxv 1 true [(.sl 2 (.st 16 (.cons (.int .i64) (.cons .bool .unit)))),(.sl 2 (.st 40 (.cons (.int .i64) (.cons (.int .i64) (.cons (.int .i64) (.cons (.int .i64) (.cons (.int .i64) .unit)))))))]))] [18,16,14,2] [⟨2,[(1,(.boxv 1 true [(.sl 0 (.int .i64)),(.int .i64)])),(11,(.boxv 1 true [(.sl 2 (.st 16 (.cons (.int .i64) (.cons .bool .unit)))),(.sl 2 (.st 40 (.cons (.int .i64) (.cons (.int .i64) (.cons (.int .i64) (.cons (.int .i64) (.cons (.int .i64) .unit)))))))]))],[12,18,16,14,2]⟩] (.sq (.sq (.opn [(11,0,10)]) .go) (.sq (.sq (.opn [(11,0,17)]) .go) .go))) .go)) .go)))

abbrev E32 : Env := mkE tab gl 33 true [(32,1),(9,1),(14,1),(20,1),(25,1),(4,2),(6,2)]
abbrev plan32 : Plan := (.sq .go (.sq (.sq (.cut [1,14,16,18,20,22,24,26,28,30,32,34,36,38] [⟨0,[(1,(.boxv 1 true [(.sl 0 (.int .i64)),(.int .i64)])),(38,(.lf .bool))],[2,4]⟩] .go) (.sq .go .go)) .go))

abbrev E9 : Env := mkE tab gl 100 false [(34,1),(23,1),(41,1),(44,1),(54,1),(55,1),(56,1),(52,1),(60,1),(61,1),(64,1),(73,1),(82,1),(83,1),(84,1),(85,1),(81,1),(89,1),(90,1),(92,1),(97,1),(9,2),(26,2),(31,2),(33,2),(11,2),(13,2),(14,2),(50,2),(16,2),(58,2),(18,2),(8,2),(79,2),(20,2),(87,2),(22,2)]
abbrev plan9 : Plan := (.sq .go (.sq .go (.sq .go (.sq (.sq .go (.cut [62,21,49,60] [⟨0,[(21,(.boxv 1 true [(.sl 2 (.st 16 (.cons (.int .i64) (.cons .bool .unit)))),(.sl 2 (.st 40 (.cons (.int .i64) (.cons (.int .i64) (.cons (.int .i64) (.cons (.int .i64) (.cons (.int .i64) .unit)))))))])),(49,(.boxv 1 true [(.sl 0 (.int .i64)),(.int .i64)]))],[58,56,54,52,50,48,46,0]⟩] .go)) (.sq .go (.sq .go (.sq .go (.sq .go (.sq .go (.sq .go (.sq .go (.sq (.sq (.cut [136,134,132,130,128,126,124,35,122,31,120] [⟨0,[(136,(.lf .bool))],[36,34,118,116,104,114,112,110,108,106,32,30,102,100,88,98,96,94,92,90,28,86,84,82,26,80,78,76,74,72,70,68,24,66,64,22,18]⟩] .go) (.sq .go .go)) (.sq (.sq .go (.sq .go .go)) (.sq .go (.sq .go (.sq (.cut [178,39,180,43,182,184,186,188,190,192,194,196,198,16] [⟨0,[(16,(.lf .bool))],[44,42,176,174,162,172,170,168,166,164,40,38,160,158,146,156,154,152,150,148,142,140,138,136,20,2,4,6]⟩] .go) .go))))))))))))))))
end Go.Abs.C07

namespace Sp07
abbrev S := List Int × Int × Unit
abbrev Tp := List Int × Int × Unit
def zs : S := ([], 0, ())
def on {α : Type} (b : Bool) (x : α) : Option α := bif b then some x else none
def bitOf (x : Int) (j : Nat) : Bool := decide ((x / 2 ^ j) % 2 = 1)
def bitAt (l : List Int) (i : Nat) : Bool := bitOf (l.getD (i / 8) 0) (7 - i % 8)
def b2i (b : Bool) : Int := bif b then 1 else 0
def bitsR (l : List Int) (i n : Nat) : List Bool := (List.range n).map fun j => bitAt l (i + j)
def bits (s : S) : List Bool := bitsR s.1 0 s.2.1.toNat
def byteOf (f : Nat → Bool) : Nat := (f 0).toNat * 128 + (f 1).toNat * 64 + (f 2).toNat * 32 + (f 3).toNat * 16 + (f 4).toNat * 8 + (f 5).toNat * 4 + (f 6).toNat * 2 + (f 7).toNat
def pack (bs : List Bool) : List Int := (List.range ((bs.length + 7) / 8)).map fun i => (byteOf fun j => bs.getD (8 * i + j) false : Nat)
def enc (bs : List Bool) : S := (pack bs, bs.length, ())
def vbits (v n : Nat) : List Bool := (List.range n).map fun i => v.testBit (n - 1 - i)
def valOf (bs : List Bool) : Nat := bs.foldl (fun a b => 2 * a + b.toNat) 0
def shape (s : S) : Bool := decide (0 ≤ s.2.1) && decide (s.2.1 ≤ 8192) && decide ((s.1.length : Int) = (s.2.1 + 7) / 8)
def tail (l : List Int) (n : Nat) : Bool := (List.range 8).all fun j => decide (8 * l.length ≤ n + j) || !bitAt l (n + j)
def valid (s : S) : Bool := shape s && tail s.1 s.2.1.toNat
def append (s : S) (v n : Int) : S × Int × Unit :=
  bif !valid s then (zs, 1, ()) else
  bif decide (n < 0) || decide (64 < n) || (decide (n < 64) && !decide (v / 2 ^ n.toNat = 0)) then (zs, 2, ()) else
  bif decide (8192 < s.2.1 + n) then (zs, 3, ()) else (enc (bits s ++ vbits v.toNat n.toNat), 0, ())
def take (s : S) (at_ n : Int) : Int × Int × Unit :=
  bif !valid s then (0, 1, ()) else
  bif decide (n < 0) || decide (64 < n) || decide (at_ < 0) then (0, 2, ()) else
  bif decide (s.2.1 - n < at_) then (0, 20, ()) else (valOf (bitsR s.1 at_.toNat n.toNat), 0, ())
def slice (s : S) (a b : Int) : S × Int × Unit :=
  bif !valid s then (zs, 1, ()) else
  bif decide (a < 0) || decide (b < a) || decide (s.2.1 < b) then (zs, 2, ()) else (enc (bitsR s.1 a.toNat (b - a).toNat), 0, ())
def align (s : S) : S × Int × Unit :=
  bif !valid s then (zs, 1, ()) else ((s.1, 8 * (s.1.length : Int), ()), 0, ())
def crcB (r : Nat) (b : Bool) : Nat := bif (Nat.testBit r 15) == b then 2 * r % 65536 else Nat.xor (2 * r % 65536) 4129
def crc (bs : List Bool) : Nat := bs.foldl crcB 65535
def check (s : S) : Int × Int × Unit := bif !valid s then (0, 1, ()) else (crc (bits s), 0, ())
def same (a b : S) : Bool := decide (a.2.1 = b.2.1) && decide (a.1 = b.1)
def wf (t : Tp) : Bool := decide (0 ≤ t.2.1) && decide (t.2.1 ≤ t.1.length) && decide (t.1.length ≤ 600)
def cut (x n : Int) : Int := bif decide (n < 1) then 0 else x.emod n
def raw (t : Tp) : Int × Tp := bif decide (t.2.1 < t.1.length) then (t.1.getD t.2.1.toNat 0, t.1, t.2.1 + 1, ()) else (0, t)
def next (t : Tp) (n : Int) : Int × Tp := (cut (raw t).1 n, (raw t).2)
def small (n : Int) : Bool := decide (-2305843009213693952 ≤ n) && decide (n ≤ 2305843009213693952)
def range (t : Tp) (a b : Int) : Int × Tp := (a + (next t (b - a + 1)).1, (next t (b - a + 1)).2)
def one (t : Tp) (n : Int) : Bool × Tp := (decide ((next t n).1 = n - 1), (next t n).2)
def pick (t : Tp) (l : List Int) : Int × Tp := (l.getD (next t l.length).1.toNat 0, (next t l.length).2)
def wilds : List Int := [-1, 0, 1, 7, 8, 23, 24, 31, 32, 63, 64, 99, 100, 255, 256, 257, 1000, 1001, 1023, 1024, 1000000, 1000001, 1099511627776, 9223372036854775807, -9223372036854775808]
def wild (t : Tp) : Int × Tp := pick t wilds
def tape (l : List Int) : Tp := (l.take 600, 0, ())
def length (t : Tp) : Int × Tp := pick t [8, 8, 16, 32, 64]
abbrev Rc := Int × Int × Int × Unit
abbrev Ad := Int × Int × Bool × List Rc × List Rc × Unit
def zr : Rc := (0, 0, 0, ())
def za : Ad := (0, 0, false, [], [], ())
def inside (n lo hi : Int) : Bool := decide (lo ≤ n) && decide (n ≤ hi)
def vlen (n : Int) : Bool := decide (n = 8) || decide (n = 16) || decide (n = 32) || decide (n = 64)
def badL (r : Int) (l : List Rc) (i : Nat) : Bool :=
  !inside (l.getD i zr).1 1 99 || decide ((l.getD i zr).1 = r) || !inside (l.getD i zr).2.1 1 1000 || !inside (l.getD i zr).2.2.1 0 1000 || (decide (0 < i) && decide ((l.getD i zr).1 ≤ (l.getD (i - 1) zr).1))
def badC (l : List Rc) (i : Nat) : Bool :=
  !inside (l.getD i zr).1 0 7 || !inside (l.getD i zr).2.1 1 256 || !vlen (l.getD i zr).2.2.1 || (decide (0 < i) && decide ((l.getD i zr).1 ≤ (l.getD (i - 1) zr).1))
def validC (l : List Rc) : Bool := decide (l.length ≤ 8) && (List.range l.length).all fun i => !badC l i
def validA (a : Ad) : Bool := inside a.1 1 99 && inside a.2.1 1 1000000 && decide (a.2.2.2.1.length ≤ 23) && ((List.range a.2.2.2.1.length).all fun i => !badL a.1 a.2.2.2.1 i) && validC a.2.2.2.2.1
def sameR : List Rc → List Rc → Bool
  | [], [] => true
  | x :: a, y :: b => decide (x.1 = y.1) && decide (x.2.1 = y.2.1) && decide (x.2.2.1 = y.2.2.1) && sameR a b
  | _, _ => false
def sameA (a b : Ad) : Bool := decide (a.1 = b.1) && decide (a.2.1 = b.2.1) && (a.2.2.1 == b.2.2.1) && sameR a.2.2.2.1 b.2.2.2.1 && sameR a.2.2.2.2.1 b.2.2.2.2.1
def big (a : Ad) : Bool := decide (100 < a.2.2.2.1.length) || decide (100 < a.2.2.2.2.1.length)
def code (n : Int) : Int := bif decide (n = 64) then 3 else bif decide (n = 32) then 2 else bif decide (n = 16) then 1 else 0
def decoded (n : Int) : Int := 8 * 2 ^ n.toNat
def bitsL (r : Rc) : List Bool := vbits r.1.toNat 7 ++ (vbits r.2.1.toNat 10 ++ vbits r.2.2.1.toNat 10)
def bitsC (r : Rc) : List Bool := vbits r.1.toNat 3 ++ (vbits r.2.1.toNat 9 ++ vbits (code r.2.2.1).toNat 2)
def head (a : Ad) : List Bool := vbits a.1.toNat 7 ++ (vbits a.2.1.toNat 20 ++ ([a.2.2.1] ++ vbits a.2.2.2.1.length 5))
def body (a : Ad) : List Bool := head a ++ ((a.2.2.2.1.flatMap bitsL) ++ (vbits a.2.2.2.2.1.length 4 ++ a.2.2.2.2.1.flatMap bitsC))
def sealed (bs : List Bool) : List Bool := bs ++ vbits (crc bs) 16
def encode (a : Ad) : List Int × Int × Unit := bif !validA a then ([], 1, ()) else (pack (sealed (body a)), 0, ())
abbrev Rd := List Int × Int × Int × Bool × Unit
def rtake (r : Rd) (n : Int) : Int × Rd := ((take (r.1, r.2.1, ()) r.2.2.1 n).1, r.1, r.2.1, r.2.2.1 + n, r.2.2.2.1 || !decide ((take (r.1, r.2.1, ()) r.2.2.1 n).2.1 = 0), ())
def getR (s : S) (at_ n : Int) : Int := bif decide ((take s at_ n).2.1 = 0) then (take s at_ n).1 else -1
def gv (b : List Int) (at_ w : Nat) : Int := bif decide (at_ + w ≤ 8 * b.length) then (valOf (bitsR b at_ w) : Int) else 0
def nL (b : List Int) : Nat := (gv b 28 5).toNat
def atC (b : List Int) : Nat := 33 + 27 * nL b
def nC (b : List Int) : Nat := (gv b (atC b) 4).toNat
def endB (b : List Int) : Nat := atC b + 4 + 14 * nC b
def rdL (b : List Int) (p : Nat) : Rc := (gv b p 7, gv b (p + 7) 10, gv b (p + 17) 10, ())
def rdC (b : List Int) (p : Nat) : Rc := (gv b p 3, gv b (p + 3) 9, decoded (gv b (p + 12) 2), ())
def fields (b : List Int) : Ad := (gv b 0 7, gv b 7 20, decide (gv b 27 1 = 1), (List.range (nL b)).map (fun i => rdL b (33 + 27 * i)), (List.range (nC b)).map (fun i => rdC b (atC b + 4 + 14 * i)), ())
def free (e : Nat) : Nat := (8 - (e + 16) % 8) % 8
def decode (b : List Int) : Ad × Int × Unit :=
  bif decide (8 * b.length < endB b + 16) then (za, 20, ()) else
  bif !decide (gv b (endB b) 16 = (crc (bitsR b 0 (endB b)) : Nat)) then (za, 23, ()) else
  bif !decide (gv b (endB b + 16) (free (endB b)) = 0) then (za, 24, ()) else
  bif decide (8 * ((endB b + 23) / 8) < 8 * b.length) then (za, 21, ()) else
  bif !validA (fields b) then (za, 1, ()) else (fields b, 0, ())
def gtB (x y : List Int) : Bool := !(Go.Abs.ltBytes x y || x == y)
def cmpB (x y : List Int) : Int := bif Go.Abs.ltBytes x y then -1 else bif x == y then 0 else 1
def newer (a b : Ad) : Bool :=
  bif !validA a || !validA b || !decide (a.1 = b.1) then false else
  decide (b.2.1 < a.2.1) || (decide (a.2.1 = b.2.1) && gtB (encode a).1 (encode b).1)
def linkS (r i : Int) (s : List Rc × Tp) : List Rc × Tp :=
  bif decide (i = r) then s else
  bif decide ((next s.2 2).1 = 0) then
    (s.1 ++ [(i, (range (next s.2 2).2 1 3).1, (next (range (next s.2 2).2 1 3).2 3).1, ())], (next (range (next s.2 2).2 1 3).2 3).2)
  else (s.1, (next s.2 2).2)
def linksN (r : Int) (t : Tp) : Nat → List Rc × Tp
  | 0 => ([], t)
  | k + 1 => linkS r (k + 1) (linksN r t k)
def claimS (i : Int) (s : List Rc × Tp) : List Rc × Tp :=
  bif decide ((next s.2 2).1 = 0) then
    (s.1 ++ [(i, (range (next s.2 2).2 1 9).1, (length (range (next s.2 2).2 1 9).2).1, ())], (length (range (next s.2 2).2 1 9).2).2)
  else (s.1, (next s.2 2).2)
def claimsN (t : Tp) : Nat → List Rc × Tp
  | 0 => ([], t)
  | k + 1 => claimS k (claimsN t k)
def pick3 (t : Tp) (x y z : List Int) : Rc × Tp :=
  (((pick t x).1, (pick (pick t x).2 y).1, (pick (pick (pick t x).2 y).2 z).1, ()), (pick (pick (pick t x).2 y).2 z).2)
def setCost (l : List Rc) (c : Int) : List Rc := l.set 0 ((l.getD 0 zr).1, c, (l.getD 0 zr).2.2.1, ())
def many (l : List Rc) : Nat → List Rc
  | 0 => l
  | k + 1 => many l k ++ [(30 + (k : Int), 1, 0, ())]
def spoilA (a : Ad) (router : Int) (t : Tp) : Ad × Tp :=
  let k := next t 6
  bif decide (k.1 = 0) then (((wild k.2).1, a.2), (wild k.2).2) else
  bif decide (k.1 = 1) then ((a.1, (wild k.2).1, a.2.2), (wild k.2).2) else
  bif decide (k.1 = 2) then ((a.1, a.2.1, a.2.2.1, a.2.2.2.1 ++ [(pick3 k.2 [0, router, 6, 99, 100] [0, 1, 1000, 1001] [-1, 0, 1000, 1001]).1], a.2.2.2.2), (pick3 k.2 [0, router, 6, 99, 100] [0, 1, 1000, 1001] [-1, 0, 1000, 1001]).2) else
  bif decide (k.1 = 3) then ((a.1, a.2.1, a.2.2.1, a.2.2.2.1, a.2.2.2.2.1 ++ [(pick3 k.2 [-1, 0, 7, 8] [0, 1, 256, 257] [0, 8, 9, 64]).1], ()), (pick3 k.2 [-1, 0, 7, 8] [0, 1, 256, 257] [0, 8, 9, 64]).2) else
  bif decide (k.1 = 4) then ((a.1, a.2.1, a.2.2.1, many a.2.2.2.1 24, a.2.2.2.2), k.2) else
  bif decide (0 < a.2.2.2.1.length) then ((a.1, a.2.1, a.2.2.1, setCost a.2.2.2.1 (wild k.2).1, a.2.2.2.2), (wild k.2).2) else (a, k.2)
def plainA (t : Tp) (router : Int) : Ad × Tp :=
  let s := pick t [1, 1, 2, 3, 3, 500000, 1000000]
  let c := next s.2 3
  let l := linksN router c.2 6
  let m := claimsN l.2 2
  ((router, s.1, decide (0 < c.1), l.1, m.1, ()), m.2)
def advert (t : Tp) (router n : Int) : Ad × Tp :=
  let p := plainA t router
  bif decide (0 < n) then (bif (one p.2 n).1 then spoilA p.1 router (one p.2 n).2 else (p.1, (one p.2 n).2)) else p
abbrev Rt := Int × Bool × Unit
abbrev Lk := Int × Int × Int × Int × Int × Unit
abbrev To := List Rt × List Lk × Unit
def zR : Rt := (0, false, ())
def zL : Lk := (0, 0, 0, 0, 0, ())
def cmpI (a b : Int) : Int := bif decide (a < b) then -1 else bif decide (b < a) then 1 else 0
def firstNZ : List Int → Int
  | [] => 0
  | x :: r => bif decide (x = 0) then firstNZ r else x
def lkCmp (a b : Lk) : Int := firstNZ [cmpI a.1 b.1, cmpI a.2.1 b.2.1]
def idx {α : Type} (p : α → Bool) (l : List α) : Int := bif l.any p then (l.findIdx p : Nat) else -1
def badR (r : Rt) : Bool := !inside r.1 1 99
def badK (l : Lk) : Bool := !inside l.2.2.1 1 1000 || !inside l.2.2.2.1 1 1000 || !inside l.2.2.2.2.1 0 1000
def down (l : Lk) : Bool := decide (l.2.1 ≤ l.1)
def bsGo (l : List Rt) (id : Int) : Nat → Nat → Nat → Nat
  | 0, i, _ => i
  | f + 1, i, j => bif decide (i < j) then (bif decide (cmpI (l.getD ((i + j) / 2) zR).1 id < 0) then bsGo l id f ((i + j) / 2 + 1) j else bsGo l id f i ((i + j) / 2)) else i
def bs (l : List Rt) (id : Int) : Int × Bool × Unit :=
  let i := bsGo l id l.length 0 l.length
  ((i : Int), decide (i < l.length) && decide (cmpI (l.getD i zR).1 id = 0), ())
def unk (g : To) (id : Int) : Bool := !(bs g.1 id).2.1
def hasR (l : List Rt) (id : Int) : Bool := l.any fun r => decide (r.1 = id)
def upR (l : List Rt) : Bool := (List.range (l.length - 1)).all fun i => decide ((l.getD i zR).1 < (l.getD (i + 1) zR).1)
def lessL (a b : Lk) : Bool := decide (a.1 < b.1) || (decide (a.1 = b.1) && decide (a.2.1 < b.2.1))
def upL (l : List Lk) : Bool := (List.range (l.length - 1)).all fun i => lessL (l.getD i zL) (l.getD (i + 1) zL)
def chk (g : To) : Int :=
  bif decide (24 < g.1.length) || decide (60 < g.2.1.length) then 3 else
  bif g.1.any badR then 2 else
  bif !upR g.1 then 25 else
  bif g.2.1.any badK then 2 else
  bif g.2.1.any (fun l => !hasR g.1 l.1 || !hasR g.1 l.2.1) then 4 else
  bif g.2.1.any down then 8 else
  bif !upL g.2.1 then 25 else 0
def capR (l : List Rt) (id : Int) : Bool := (l.getD (l.findIdx fun r => decide (r.1 = id)) zR).2.1
def okT (g : To) : Bool := decide (chk g = 0)
def hasT (g : To) (id : Int) : Bool := okT g && hasR g.1 id
def capT (g : To) (id : Int) : Bool := okT g && capR g.1 id
def find (g : To) (id : Int) : Rt × Bool × Unit := let s := bs g.1 id; bif s.2.1 then (g.1.getD s.1.toNat zR, true, ()) else (zR, false, ())
def price : List Lk → Int → Int → Int × Bool × Unit
  | [], _, _ => (0, false, ())
  | l :: r, a, b => bif decide (l.1 = a) && decide (l.2.1 = b) then (l.2.2.1, true, ()) else bif decide (l.2.1 = a) && decide (l.1 = b) then (l.2.2.2.1, true, ()) else price r a b
def near (g : To) (r : Int) : List Int := (g.1.filter fun x => (price g.2.1 r x.1).2.1).map fun x => x.1
def reachOf (r : Int) (l : Lk) : List Rc := bif decide (r = l.1) then [(l.2.1, l.2.2.1, l.2.2.2.2.1, ())] else bif decide (r = l.2.1) then [(l.1, l.2.2.2.1, l.2.2.2.2.1, ())] else []
def advOf (g : To) (r q : Int) (c : List Rc) : Ad × Int × Unit :=
  bif !okT g then (za, 1, ()) else bif !hasR g.1 r then (za, 4, ()) else
  let a : Ad := (r, q, capR g.1 r, g.2.1.flatMap (reachOf r), c, ())
  bif !validA a then (za, 2, ()) else (a, 0, ())
def linkIn (cost tree : Int) (skip : Bool) (b a : Int) (s : List Lk × Tp) : List Lk × Tp :=
  let c : Bool × Tp := bif decide (a = tree) && !skip then (true, s.2) else one s.2 3
  bif c.1 then (let x := range c.2 1 cost; let y := range x.2 1 cost; let z := next y.2 4; (s.1 ++ [(a, b, x.1, y.1, z.1, ())], z.2)) else (s.1, c.2)
def linksRow (cost tree : Int) (skip : Bool) (b : Int) (s : List Lk × Tp) : Nat → List Lk × Tp
  | 0 => s
  | k + 1 => linkIn cost tree skip b (k + 1) (linksRow cost tree skip b s k)
def linksAll (cost : Int) (t : Tp) : Nat → List Lk × Tp
  | 0 => ([], t)
  | k + 1 => let s := linksAll cost t k; let tr := range s.2 1 (k + 1); let sk := one tr.2 9; linksRow cost tr.1 sk.1 (k + 2) (s.1, sk.2) (k + 1)
def routersN (k : Nat) : List Rt := (List.range k).map fun (i : Nat) => ((i : Int) + 1, true, ())
def ins (x : Lk) (l : List Lk) : List Lk := l.takeWhile (fun y => lessL y x) ++ x :: l.dropWhile (fun y => lessL y x)
def ordN (l : List Lk) : Nat → List Lk
  | 0 => []
  | k + 1 => ins (l.getD k zL) (ordN l k)
def ord (l : List Lk) : List Lk := ordN l l.length
def setA (l : List Lk) (i : Nat) (c : Int) : List Lk := l.set i ((l.getD i zL).1, (l.getD i zL).2.1, c, (l.getD i zL).2.2.2)
def setB (l : List Lk) (i : Nat) (c : Int) : List Lk := l.set i ((l.getD i zL).1, (l.getD i zL).2.1, (l.getD i zL).2.2.1, c, (l.getD i zL).2.2.2.2)
def setC (l : List Lk) (i : Nat) (c : Int) : List Lk := l.set i ((l.getD i zL).1, (l.getD i zL).2.1, (l.getD i zL).2.2.1, (l.getD i zL).2.2.2.1, c, ())
def manyR : Nat → List Rt → List Rt
  | 0, l => l
  | k + 1, l => manyR k l ++ [(50 + (k : Int), false, ())]
def spoilT (g : To) (t : Tp) : To × Tp :=
  let m := next t 7
  bif decide (m.1 = 0) then (let a := pick m.2 [0, 1, 99, 100, -1]; ((g.1 ++ [(a.1, false, ())], g.2), a.2)) else
  bif decide (m.1 = 1) then (let a := next m.2 4; let b := next a.2 4; ((g.1, g.2.1 ++ [(a.1, b.1, 1, 1, 0, ())], ()), b.2)) else
  bif decide (m.1 = 2) then (bif decide (0 < g.2.1.length) then (let a := next m.2 g.2.1.length; let b := wild a.2; ((g.1, setA g.2.1 a.1.toNat b.1, ()), b.2)) else (g, m.2)) else
  bif decide (m.1 = 3) then (bif decide (0 < g.2.1.length) then (let a := next m.2 g.2.1.length; let b := wild a.2; ((g.1, setB g.2.1 a.1.toNat b.1, ()), b.2)) else (g, m.2)) else
  bif decide (m.1 = 4) then (bif decide (0 < g.2.1.length) then (let a := next m.2 g.2.1.length; let b := wild a.2; ((g.1, setC g.2.1 a.1.toNat b.1, ()), b.2)) else (g, m.2)) else
  bif decide (m.1 = 5) then (bif decide (0 < g.2.1.length) then (let a := next m.2 g.2.1.length; ((g.1, g.2.1 ++ [g.2.1.getD a.1.toNat zL], ()), a.2)) else (g, m.2)) else
  ((manyR 25 g.1, g.2), m.2)
def topo (t : Tp) (most n : Int) : To × Tp :=
  let k := range t 1 most
  let c := pick k.2 [1, 2, 2, 5]
  let s := linksAll c.1 c.2 (k.1.toNat - 1)
  let g : To := (routersN k.1.toNat, ord s.1, ())
  bif decide (0 < n) then (let o := one s.2 n; bif o.1 then spoilT g o.2 else (g, o.2)) else (g, s.2)
def mixN (l : List Rt) (t : Tp) : Nat → List Rt × Tp
  | 0 => (l, t)
  | k + 1 => let s := mixN l t k; let o := one s.2 3; (s.1.set k ((s.1.getD k zR).1, !o.1, ()), o.2)
def mixed (t : Tp) (most : Int) : To × Tp :=
  let g := topo t most 0
  let m := mixN g.1.1 g.2 g.1.1.length
  ((m.1, g.1.2), m.2)
def routerT (t : Tp) (g : To) (n : Int) : Int × Tp :=
  let o : Bool × Tp := bif decide (0 < n) then one t n else (false, t)
  bif o.1 || decide (g.1.length = 0) then pick o.2 [0, 1, 2, 7, 77, -1] else (let i := next o.2 g.1.length; ((g.1.getD i.1.toNat zR).1, i.2))
end Sp07

namespace Go.Abs.C07
open Go Go.Abs
abbrev tape : List Lf := [.sl 0 (.int .i64), .int .i64]
abbrev str : List Lf := [.sl 0 (.int .u8), .int .i64]
abbrev stro : List Lf := [.sl 2 (.int .u8), .int .i64]
abbrev rdr : List Lf := [.sl 0 (.int .u8), .int .i64, .int .i64, .bool]
abbrev rc : Ty := .st 24 (.cons (.int .i64) (.cons (.int .i64) (.cons (.int .i64) .unit)))
abbrev adl : List Lf := [.int .i64, .int .i64, .bool, .sl 0 rc, .sl 0 rc]
abbrev rtT : Ty := .st 16 (.cons (.int .i64) (.cons .bool .unit))
abbrev lkT : Ty := .st 40 (.cons (.int .i64) (.cons (.int .i64) (.cons (.int .i64) (.cons (.int .i64) (.cons (.int .i64) .unit)))))
abbrev toF : Ty := .cons (.sl rtT) (.cons (.sl lkT) .unit)
abbrev rtl : List Lf := [.int .i64, .bool]
abbrev lkl : List Lf := [.int .i64, .int .i64, .int .i64, .int .i64, .int .i64]
abbrev tol : List Lf := [.sl 0 rtT, .sl 0 lkT]
abbrev togl : List Lf := [.sl 2 rtT, .sl 2 lkT]
abbrev i : Sh := .lf (.int .i64)
abbrev u : Sh := .lf (.int .u64)
abbrev b : Sh := .lf .bool
abbrev ls : Sh := .lf (.sl 0 (.int .i64))
abbrev lb : Sh := .lf (.sl 0 (.int .u8))
abbrev lbo : Sh := .lf (.sl 2 (.int .u8))
abbrev lr : Sh := .lf (.sl 0 rc)
abbrev s : Sh := .agg str
abbrev so : Sh := .agg stro
abbrev a : Sh := .agg adl
abbrev rtr : Sh := .agg rtl
abbrev lnk : Sh := .agg lkl
abbrev tpo : Sh := .agg tol
abbrev tpg : Sh := .agg togl
abbrev rts : Sh := .lf (.sl 0 rtT)
abbrev lks : Sh := .lf (.sl 0 lkT)
abbrev lko : Sh := .lf (.sl 2 lkT)
abbrev lso : Sh := .lf (.sl 2 (.int .i64))
abbrev k78 : Sh := .lf (.cst (.fnc 78))
abbrev k82 : Sh := .lf (.cst (.fnc 82))
abbrev k84 : Sh := .lf (.cst (.fnc 84))
abbrev k86 : Sh := .lf (.cst (.fnc 86))
abbrev vT : Sh := .lf (.vp toF)
abbrev vU : Sh := .lf (.vp (.cons (.clo 80 toF) .unit))
abbrev kl85 : Sh := .lf (.clo 85 (.cons (.clo 80 toF) .unit))
def c94 : Con := { hasP := false, pre := [], ps := [i], rs := (.one i), post := [], F := fun x => Sp07.on (decide (0 ≤ x.2.1) && decide (x.2.1 ≤ 1099511627776)) ((x.2.1 + 7) / 8, ()) }
def c51 : Con := { hasP := false, pre := [], ps := [lb, i], rs := (.one u), post := [], F := fun x => Sp07.on (decide (0 ≤ x.2.2.1) && decide (x.2.2.1 < 8 * (x.2.1.length : Int))) (Sp07.b2i (Sp07.bitAt x.2.1 x.2.2.1.toNat), ()) }
def c71 : Con := { hasP := false, pre := [], ps := [s, i], rs := (.one u), post := [], F := fun x => Sp07.on (decide (0 ≤ x.2.2.1) && decide (x.2.2.1 < 8 * (x.2.1.1.length : Int))) (Sp07.b2i (Sp07.bitAt x.2.1.1 x.2.2.1.toNat), ()) }
def c70 : Con := { hasP := false, pre := [], ps := [s], rs := (.one b), post := [], F := fun x => some (Sp07.valid x.2.1, ()) }
def c50 : Con := { hasP := false, pre := [], ps := [s], rs := (.one b), post := [], F := fun x => some (Sp07.valid x.2.1, ()) }
def c45 : Con := { hasP := true, pre := tape, ps := [], rs := (.one i), post := tape, F := fun x => Sp07.on (Sp07.wf x.1) (Sp07.raw x.1) }
def c44 : Con := { hasP := false, pre := [], ps := [i, i], rs := (.one i), post := [], F := fun x => some (Sp07.cut x.2.1 x.2.2.1, ()) }
def c19 : Con := { hasP := true, pre := tape, ps := [i], rs := (.one i), post := tape, F := fun x => Sp07.on (Sp07.wf x.1) (Sp07.next x.1 x.2.1) }
def c12 : Con := { hasP := true, pre := tape, ps := [i, i], rs := (.one i), post := tape, F := fun x => Sp07.on (Sp07.wf x.1 && Sp07.small x.2.1 && Sp07.small x.2.2.1) (Sp07.range x.1 x.2.1 x.2.2.1) }
def c36 : Con := { hasP := true, pre := tape, ps := [i], rs := (.one b), post := tape, F := fun x => Sp07.on (Sp07.wf x.1 && Sp07.small x.2.1) (Sp07.one x.1 x.2.1) }
def c22 : Con := { hasP := true, pre := tape, ps := [ls], rs := (.one i), post := tape, F := fun x => Sp07.on (Sp07.wf x.1 && decide (0 < x.2.1.length) && decide (x.2.1.length ≤ 1000)) (Sp07.pick x.1 x.2.1) }
def c37 : Con := { hasP := true, pre := tape, ps := [], rs := (.one i), post := tape, F := fun x => Sp07.on (Sp07.wf x.1) (Sp07.wild x.1) }
def c52 : Con := { hasP := false, pre := [], ps := [s, u], rs := (.one so), post := [], F := fun x => Sp07.on (Sp07.valid x.2.1) (Sp07.enc (Sp07.bits x.2.1 ++ [decide (x.2.2.1 = 1)]), ()) }
def c48 : Con := { hasP := false, pre := [], ps := [s, i, i], rs := (.tup [s, i]), post := [], F := fun x => some (Sp07.slice x.2.1 x.2.2.1 x.2.2.2.1, ()) }
def c92 : Con := { hasP := false, pre := [], ps := [s], rs := (.one so), post := [], F := fun x => some (x.2.1, ()) }
def c93 : Con := { hasP := true, pre := stro, ps := [u, i], rs := .none, post := stro, F := fun x => Sp07.on (Sp07.valid x.1 && decide (0 ≤ x.2.2.1) && decide (x.2.2.1 ≤ 64) && decide (x.1.2.1 + x.2.2.1 ≤ 8192)) ((), Sp07.enc (Sp07.bits x.1 ++ Sp07.vbits x.2.1.toNat x.2.2.1.toNat)) }
def c95 : Con := { hasP := false, pre := [], ps := [s, i, i], rs := (.one u), post := [], F := fun x => Sp07.on (decide (0 ≤ x.2.2.1) && decide (0 ≤ x.2.2.2.1) && decide (x.2.2.2.1 ≤ 64) && decide (x.2.2.1 + x.2.2.2.1 ≤ 8 * (x.2.1.1.length : Int))) ((Sp07.valOf (Sp07.bitsR x.2.1.1 x.2.2.1.toNat x.2.2.2.1.toNat) : Int), ()) }
def c73 : Con := { hasP := true, pre := stro, ps := [s, i, i], rs := .none, post := stro, F := fun x => Sp07.on (Sp07.valid x.1 && decide (0 ≤ x.2.2.1) && decide (x.2.2.2.1 ≤ 8 * (x.2.1.1.length : Int)) && decide (x.1.2.1 + (x.2.2.2.1 - x.2.2.1) ≤ 8192)) ((), Sp07.enc (Sp07.bits x.1 ++ Sp07.bitsR x.2.1.1 x.2.2.1.toNat (x.2.2.2.1 - x.2.2.1).toNat)) }
def c69 : Con := { hasP := false, pre := [], ps := [s, u, i], rs := (.tup [so, i]), post := [], F := fun x => some (Sp07.append x.2.1 x.2.2.1 x.2.2.2.1, ()) }
def c49 : Con := { hasP := false, pre := [], ps := [so, u, i], rs := (.tup [so, i]), post := [], F := fun x => some (Sp07.append x.2.1 x.2.2.1 x.2.2.2.1, ()) }
def c72 : Con := { hasP := false, pre := [], ps := [s, i, i], rs := (.tup [u, i]), post := [], F := fun x => some (Sp07.take x.2.1 x.2.2.1 x.2.2.2.1, ()) }
def c74 : Con := { hasP := false, pre := [], ps := [s, i, i], rs := (.tup [u, i]), post := [], F := fun x => some (Sp07.take x.2.1 x.2.2.1 x.2.2.2.1, ()) }
def c39 : Con := { hasP := false, pre := [], ps := [s], rs := (.tup [u, i]), post := [], F := fun x => some (Sp07.check x.2.1, ()) }
def c23 : Con := { hasP := false, pre := [], ps := [s], rs := (.tup [u, i]), post := [], F := fun x => some (Sp07.check x.2.1, ()) }
def c10 : Con := { hasP := false, pre := [], ps := [ls], rs := (.newp tape), post := [], F := fun x => some (Sp07.tape x.2.1, ()) }
def c24 : Con := { hasP := false, pre := [], ps := [so], rs := (.tup [so, i]), post := [], F := fun x => some (Sp07.align x.2.1, ()) }
def c43 : Con := { hasP := false, pre := [], ps := [s, i, i], rs := (.tup [s, i]), post := [], F := fun x => some (Sp07.slice x.2.1 x.2.2.1 x.2.2.2.1, ()) }
def c54 : Con := { hasP := false, pre := [], ps := [i, i, i], rs := (.one b), post := [], F := fun x => some (Sp07.inside x.2.1 x.2.2.1 x.2.2.2.1, ()) }
def c56 : Con := { hasP := false, pre := [], ps := [i, i, i], rs := (.one b), post := [], F := fun x => some (Sp07.inside x.2.1 x.2.2.1 x.2.2.2.1, ()) }
def c55 : Con := { hasP := false, pre := [], ps := [i], rs := (.one b), post := [], F := fun x => some (Sp07.vlen x.2.1, ()) }
def c76 : Con := { hasP := false, pre := [], ps := [i], rs := (.one b), post := [], F := fun x => some (Sp07.vlen x.2.1, ()) }
def c57 : Con := { hasP := false, pre := [], ps := [lr], rs := (.one b), post := [], F := fun x => some (Sp07.validC x.2.1, ()) }
def c27 : Con := { hasP := false, pre := [], ps := [a], rs := (.one b), post := [], F := fun x => some (Sp07.validA x.2.1, ()) }
def c28 : Con := { hasP := false, pre := [], ps := [a], rs := (.one b), post := [], F := fun x => some (Sp07.validA x.2.1, ()) }
def c58 : Con := { hasP := false, pre := [], ps := [lr, lr], rs := (.one b), post := [], F := fun x => some (Sp07.sameR x.2.1 x.2.2.1, ()) }
def c59 : Con := { hasP := false, pre := [], ps := [lr, lr], rs := (.one b), post := [], F := fun x => some (Sp07.sameR x.2.1 x.2.2.1, ()) }
def c29 : Con := { hasP := false, pre := [], ps := [a, a], rs := (.one b), post := [], F := fun x => some (Sp07.sameA x.2.1 x.2.2.1, ()) }
def c17 : Con := { hasP := false, pre := [], ps := [a, a], rs := (.one b), post := [], F := fun x => some (Sp07.sameA x.2.1 x.2.2.1, ()) }
def c13 : Con := { hasP := false, pre := [], ps := [a], rs := (.one b), post := [], F := fun x => some (Sp07.big x.2.1, ()) }
def c38 : Con := { hasP := true, pre := stro, ps := [i, i], rs := .none, post := stro, F := fun x => some ((), (Sp07.append x.1 (Go.IntKind.wrap .u64 x.2.1) x.2.2.1).1) }
def c40 : Con := { hasP := false, pre := [], ps := [so, i, i], rs := (.one so), post := [], F := fun x => some ((Sp07.append x.2.1 (Go.IntKind.wrap .u64 x.2.2.1) x.2.2.2.1).1, ()) }
def c21 : Con := { hasP := false, pre := [], ps := [so, i, i], rs := (.one so), post := [], F := fun x => some ((Sp07.append x.2.1 (Go.IntKind.wrap .u64 x.2.2.1) x.2.2.2.1).1, ()) }
def c41 : Con := { hasP := false, pre := [], ps := [i], rs := (.one i), post := [], F := fun x => Sp07.on (Sp07.vlen x.2.1) (Sp07.code x.2.1, ()) }
def c47 : Con := { hasP := false, pre := [], ps := [i], rs := (.one i), post := [], F := fun x => Sp07.on (Sp07.inside x.2.1 0 3) (Sp07.decoded x.2.1, ()) }
def c14 : Con := { hasP := false, pre := [], ps := [a], rs := (.tup [lb, i]), post := [], F := fun x => some (Sp07.encode x.2.1, ()) }
def c15 : Con := { hasP := false, pre := [], ps := [a], rs := (.tup [lbo, i]), post := [], F := fun x => some (Sp07.encode x.2.1, ()) }
def c42 : Con := { hasP := true, pre := rdr, ps := [i], rs := (.one i), post := rdr, F := fun x => Sp07.on (Sp07.inside x.2.1 0 63 && Sp07.inside x.1.2.2.1 0 100000) (Sp07.rtake x.1 x.2.1) }
def c46 : Con := { hasP := false, pre := [], ps := [s, i, i], rs := (.one i), post := [], F := fun x => Sp07.on (Sp07.inside x.2.2.2.1 0 63) (Sp07.getR x.2.1 x.2.2.1 x.2.2.2.1, ()) }
def c16 : Con := { hasP := false, pre := [], ps := [lb], rs := (.tup [a, i]), post := [], F := fun x => some (Sp07.decode x.2.1, ()) }
def c20 : Con := { hasP := false, pre := [], ps := [lb], rs := (.tup [a, i]), post := [], F := fun x => some (Sp07.decode x.2.1, ()) }
def c53 : Con := { hasP := false, pre := [], ps := [lb, lb], rs := (.one i), post := [], F := fun x => some (Sp07.cmpB x.2.1 x.2.2.1, ()) }
def c25 : Con := { hasP := false, pre := [], ps := [a, a], rs := (.one b), post := [], F := fun x => some (Sp07.newer x.2.1 x.2.2.1, ()) }
def c26 : Con := { hasP := false, pre := [], ps := [a, a], rs := (.one b), post := [], F := fun x => some (Sp07.newer x.2.1 x.2.2.1, ()) }
def c18 : Con := { hasP := false, pre := [], ps := [], rs := (.one b), post := [], F := fun x => some (true, ()) }
def c35 : Con := { hasP := true, pre := tape, ps := [], rs := (.one i), post := tape, F := fun x => Sp07.on (Sp07.wf x.1) (Sp07.length x.1) }
def c11 : Con := { hasP := true, pre := tape, ps := [i, i], rs := (.one a), post := tape, F := fun x => Sp07.on (Sp07.wf x.1 && Sp07.inside x.2.2.1 0 1000) (Sp07.advert x.1 x.2.1 x.2.2.1) }
def c100 : Con := { hasP := false, pre := [], ps := [i], rs := (.one b), post := [], F := fun x => some (false, ()) }
def c97 : Con := { hasP := false, pre := [], ps := [i, i], rs := (.one i), post := [], F := fun x => some (Sp07.cmpI x.2.1 x.2.2.1, ()) }
def c99 : Con := { hasP := false, pre := [], ps := [ls], rs := (.one i), post := [], F := fun x => some (Sp07.firstNZ x.2.1, ()) }
def c79 : Con := { hasP := false, pre := [], ps := [i, i, i], rs := (.one b), post := [], F := fun x => some (Sp07.inside x.2.1 x.2.2.1 x.2.2.2.1, ()) }
def c82 : Con := { hasP := false, pre := [], ps := [rtr, i], rs := (.one i), post := [], F := fun x => some (Sp07.cmpI x.2.1.1 x.2.2.1, ()) }
def c87 : Con := { hasP := false, pre := [], ps := [lnk, lnk], rs := (.one i), post := [], F := fun x => some (Sp07.lkCmp x.2.1 x.2.2.1, ()) }
def c78 : Con := { hasP := false, pre := [], ps := [rtr], rs := (.one b), post := [], F := fun x => some (Sp07.badR x.2.1, ()) }
def c96 : Con := { hasP := false, pre := [], ps := [rts, k78], rs := (.one i), post := [], F := fun x => some (Sp07.idx Sp07.badR x.2.1, ()) }
def c77 : Con := { hasP := false, pre := [], ps := [rts, k78], rs := (.one b), post := [], F := fun x => some (x.2.1.any Sp07.badR, ()) }
def c84 : Con := { hasP := false, pre := [], ps := [lnk], rs := (.one b), post := [], F := fun x => some (Sp07.badK x.2.1, ()) }
def c98 : Con := { hasP := false, pre := [], ps := [lks, k84], rs := (.one i), post := [], F := fun x => some (Sp07.idx Sp07.badK x.2.1, ()) }
def c83 : Con := { hasP := false, pre := [], ps := [lks, k84], rs := (.one b), post := [], F := fun x => some (x.2.1.any Sp07.badK, ()) }
def c81 : Con := { hasP := false, pre := [], ps := [rts, i, k82], rs := (.tup [i, b]), post := [], F := fun x => some (Sp07.bs x.2.1 x.2.2.1, ()) }
def c80 : Con := { hasP := false, pre := [], ps := [i, vT], rs := (.one b), post := [], F := fun x => some (Sp07.unk x.2.2.1 x.2.1, ()) }
def c85 : Con := { hasP := false, pre := [], ps := [lnk, vU], rs := (.one b), post := [], F := fun x => some (Sp07.unk x.2.2.1.1 x.2.1.1 || Sp07.unk x.2.2.1.1 x.2.1.2.1, ()) }
def c98v : Con := { hasP := false, pre := [], ps := [lks, kl85], rs := (.one i), post := [], F := fun x => some (Sp07.idx (fun l => Sp07.unk x.2.2.1.1 l.1 || Sp07.unk x.2.2.1.1 l.2.1) x.2.1, ()) }
def c83w1 : Con := { hasP := false, pre := [], ps := [lks, kl85], rs := (.one b), post := [], F := fun x => some (x.2.1.any (fun l => Sp07.unk x.2.2.1.1 l.1 || Sp07.unk x.2.2.1.1 l.2.1), ()) }
def c86 : Con := { hasP := false, pre := [], ps := [lnk], rs := (.one b), post := [], F := fun x => some (Sp07.down x.2.1, ()) }
def c98x : Con := { hasP := false, pre := [], ps := [lks, k86], rs := (.one i), post := [], F := fun x => some (Sp07.idx Sp07.down x.2.1, ()) }
def c83w2 : Con := { hasP := false, pre := [], ps := [lks, k86], rs := (.one b), post := [], F := fun x => some (x.2.1.any Sp07.down, ()) }
def c61 : Con := { hasP := false, pre := [], ps := [tpo], rs := (.one i), post := [], F := fun x => some (Sp07.chk x.2.1, ()) }
def c88 : Con := { hasP := false, pre := [], ps := [tpo, i], rs := (.tup [rtr, b]), post := [], F := fun x => some (Sp07.find x.2.1 x.2.2.1, ()) }
def c89 : Con := { hasP := false, pre := [], ps := [tpo], rs := (.one b), post := [], F := fun x => some (Sp07.okT x.2.1, ()) }
def c62 : Con := { hasP := false, pre := [], ps := [tpo, i], rs := (.one b), post := [], F := fun x => some (Sp07.hasT x.2.1 x.2.2.1, ()) }
def c63 : Con := { hasP := false, pre := [], ps := [tpo, i], rs := (.one b), post := [], F := fun x => some (Sp07.capT x.2.1 x.2.2.1, ()) }
def c90 : Con := { hasP := false, pre := [], ps := [i], rs := (.one b), post := [], F := fun x => some (Sp07.inside x.2.1 1 1000, ()) }
def c91 : Con := { hasP := false, pre := [], ps := [tpo, i], rs := (.one b), post := [], F := fun x => some (Sp07.hasR x.2.1.1 x.2.2.1, ()) }
def c64 : Con := { hasP := false, pre := [], ps := [tpo], rs := (.one i), post := [], F := fun x => some (Sp07.chk x.2.1, ()) }
def c65 : Con := { hasP := false, pre := [], ps := [tpo, i], rs := (.one b), post := [], F := fun x => some (Sp07.hasT x.2.1 x.2.2.1, ()) }
def c66 : Con := { hasP := false, pre := [], ps := [tpo, i], rs := (.one b), post := [], F := fun x => some (Sp07.capT x.2.1 x.2.2.1, ()) }
def c68 : Con := { hasP := false, pre := [], ps := [tpo, i, i], rs := (.tup [i, b]), post := [], F := fun x => some (Sp07.price x.2.1.2.1 x.2.2.1 x.2.2.2.1, ()) }
def c67 : Con := { hasP := false, pre := [], ps := [tpo, i], rs := (.one lso), post := [], F := fun x => some (Sp07.near x.2.1 x.2.2.1, ()) }
def c33 : Con := { hasP := false, pre := [], ps := [tpo, i, i, lr], rs := (.tup [a, i]), post := [], F := fun x => some (Sp07.advOf x.2.1 x.2.2.1 x.2.2.2.1 x.2.2.2.2.1, ()) }
def c34 : Con := { hasP := false, pre := [], ps := [tpo, i, i, lr], rs := (.tup [a, i]), post := [], F := fun x => some (Sp07.advOf x.2.1 x.2.2.1 x.2.2.2.1 x.2.2.2.2.1, ()) }
def c60 : Con := { hasP := false, pre := [], ps := [lks], rs := (.one lko), post := [], F := fun x => Sp07.on (decide (x.2.1.length ≤ 10000)) (Sp07.ord x.2.1, ()) }
def c30 : Con := { hasP := true, pre := tape, ps := [i, i], rs := (.one tpg), post := tape, F := fun x => Sp07.on (Sp07.wf x.1 && Sp07.inside x.2.1 1 50 && Sp07.small x.2.2.1) (Sp07.topo x.1 x.2.1 x.2.2.1) }
def c31 : Con := { hasP := true, pre := tape, ps := [i], rs := (.one tpg), post := tape, F := fun x => Sp07.on (Sp07.wf x.1 && Sp07.inside x.2.1 1 50) (Sp07.mixed x.1 x.2.1) }
def c32 : Con := { hasP := true, pre := tape, ps := [tpo, i], rs := (.one i), post := tape, F := fun x => Sp07.on (Sp07.wf x.1 && Sp07.small x.2.2.1 && decide (x.2.1.1.length ≤ 1000)) (Sp07.routerT x.1 x.2.1 x.2.2.1) }
def c3 : Con := { hasP := false, pre := [], ps := [ls, a], rs := (.one b), post := [], F := fun x => some (true, ()) }
def c4 : Con := { hasP := false, pre := [], ps := [ls, lb], rs := (.one b), post := [], F := fun x => some (true, ()) }
def c5 : Con := { hasP := false, pre := [], ps := [ls], rs := (.one b), post := [], F := fun x => some (true, ()) }
def c6 : Con := { hasP := false, pre := [], ps := [ls, a, a], rs := (.one b), post := [], F := fun x => some (true, ()) }
def c9 : Con := { hasP := false, pre := [], ps := [ls, i, i, lr], rs := (.one b), post := [], F := fun x => some (true, ()) }
abbrev L0 : List (Nat × Con) := []
abbrev G94 : Gam := lookC L0
abbrev L94 : List (Nat × Con) := ((94 : Nat), c94) :: L0
abbrev G51 : Gam := lookC L94
abbrev L51 : List (Nat × Con) := ((51 : Nat), c51) :: L94
abbrev G71 : Gam := lookC L51
abbrev L71 : List (Nat × Con) := ((71 : Nat), c71) :: L51
abbrev G70 : Gam := lookC L71
abbrev L70 : List (Nat × Con) := ((70 : Nat), c70) :: L71
abbrev G50 : Gam := lookC L70
abbrev L50 : List (Nat × Con) := ((50 : Nat), c50) :: L70
abbrev G45 : Gam := lookC L50
abbrev L45 : List (Nat × Con) := ((45 : Nat), c45) :: L50
abbrev G44 : Gam := lookC L45
abbrev L44 : List (Nat × Con) := ((44 : Nat), c44) :: L45
abbrev G19 : Gam := lookC L44
abbrev L19 : List (Nat × Con) := ((19 : Nat), c19) :: L44
abbrev G12 : Gam := lookC L19
abbrev L12 : List (Nat × Con) := ((12 : Nat), c12) :: L19
abbrev G36 : Gam := lookC L12
abbrev L36 : List (Nat × Con) := ((36 : Nat), c36) :: L12
abbrev G22 : Gam := lookC L36
abbrev L22 : List (Nat × Con) := ((22 : Nat), c22) :: L36
abbrev G37 : Gam := lookC L22
abbrev L37 : List (Nat × Con) := ((37 : Nat), c37) :: L22
abbrev G52 : Gam := lookC L37
abbrev L52 : List (Nat × Con) := ((52 : Nat), c52) :: L37
abbrev G48 : Gam := lookC L52
abbrev L48 : List (Nat × Con) := ((48 : Nat), c48) :: L52
abbrev G92 : Gam := lookC L48
abbrev L92 : List (Nat × Con) := ((92 : Nat), c92) :: L48
abbrev G93 : Gam := lookC L92
abbrev L93 : List (Nat × Con) := ((93 : Nat), c93) :: L92
abbrev G95 : Gam := lookC L93
abbrev L95 : List (Nat × Con) := ((95 : Nat), c95) :: L93
abbrev G73 : Gam := lookC L95
abbrev L73 : List (Nat × Con) := ((73 : Nat), c73) :: L95
abbrev G69 : Gam := lookC L73
abbrev L69 : List (Nat × Con) := ((69 : Nat), c69) :: L73
abbrev G49 : Gam := lookC L69
abbrev L49 : List (Nat × Con) := ((49 : Nat), c49) :: L69
abbrev G72 : Gam := lookC L49
abbrev L72 : List (Nat × Con) := ((72 : Nat), c72) :: L49
abbrev G74 : Gam := lookC L72
abbrev L74 : List (Nat × Con) := ((74 : Nat), c74) :: L72
abbrev G39 : Gam := lookC L74
abbrev L39 : List (Nat × Con) := ((39 : Nat), c39) :: L74
abbrev G23 : Gam := lookC L39
abbrev L23 : List (Nat × Con) := ((23 : Nat), c23) :: L39
abbrev G10 : Gam := lookC L23
abbrev L10 : List (Nat × Con) := ((10 : Nat), c10) :: L23
abbrev G24 : Gam := lookC L10
abbrev L24 : List (Nat × Con) := ((24 : Nat), c24) :: L10
abbrev G43 : Gam := lookC L24
abbrev L43 : List (Nat × Con) := ((43 : Nat), c43) :: L24
abbrev G54 : Gam := lookC L43
abbrev L54 : List (Nat × Con) := ((54 : Nat), c54) :: L43
abbrev G56 : Gam := lookC L54
abbrev L56 : List (Nat × Con) := ((56 : Nat), c56) :: L54
abbrev G55 : Gam := lookC L56
abbrev L55 : List (Nat × Con) := ((55 : Nat), c55) :: L56
abbrev G76 : Gam := lookC L55
abbrev L76 : List (Nat × Con) := ((76 : Nat), c76) :: L55
abbrev G57 : Gam := lookC L76
abbrev L57 : List (Nat × Con) := ((57 : Nat), c57) :: L76
abbrev G27 : Gam := lookC L57
abbrev L27 : List (Nat × Con) := ((27 : Nat), c27) :: L57
abbrev G28 : Gam := lookC L27
abbrev L28 : List (Nat × Con) := ((28 : Nat), c28) :: L27
abbrev G58 : Gam := lookC L28
abbrev L58 : List (Nat × Con) := ((58 : Nat), c58) :: L28
abbrev G59 : Gam := lookC L58
abbrev L59 : List (Nat × Con) := ((59 : Nat), c59) :: L58
abbrev G29 : Gam := lookC L59
abbrev L29 : List (Nat × Con) := ((29 : Nat), c29) :: L59
abbrev G17 : Gam := lookC L29
abbrev L17 : List (Nat × Con) := ((17 : Nat), c17) :: L29
abbrev G13 : Gam := lookC L17
abbrev L13 : List (Nat × Con) := ((13 : Nat), c13) :: L17
abbrev G38 : Gam := lookC L13
abbrev L38 : List (Nat × Con) := ((38 : Nat), c38) :: L13
abbrev G40 : Gam := lookC L38
abbrev L40 : List (Nat × Con) := ((40 : Nat), c40) :: L38
abbrev G21 : Gam := lookC L40
abbrev L21 : List (Nat × Con) := ((21 : Nat), c21) :: L40
abbrev G41 : Gam := lookC L21
abbrev L41 : List (Nat × Con) := ((41 : Nat), c41) :: L21
abbrev G47 : Gam := lookC L41
abbrev L47 : List (Nat × Con) := ((47 : Nat), c47) :: L41
abbrev G14 : Gam := lookC L47
abbrev L14 : List (Nat × Con) := ((14 : Nat), c14) :: L47
abbrev G15 : Gam := lookC L14
abbrev L15 : List (Nat × Con) := ((15 : Nat), c15) :: L14
abbrev G42 : Gam := lookC L15
abbrev L42 : List (Nat × Con) := ((42 : Nat), c42) :: L15
abbrev G46 : Gam := lookC L42
abbrev L46 : List (Nat × Con) := ((46 : Nat), c46) :: L42
abbrev G16 : Gam := lookC L46
abbrev L16 : List (Nat × Con) := ((16 : Nat), c16) :: L46
abbrev G20 : Gam := lookC L16
abbrev L20 : List (Nat × Con) := ((20 : Nat), c20) :: L16
abbrev L53 : List (Nat × Con) := ((53 : Nat), c53) :: L20
abbrev G25 : Gam := lookC L53
abbrev L25 : List (Nat × Con) := ((25 : Nat), c25) :: L53
abbrev G26 : Gam := lookC L25
abbrev L26 : List (Nat × Con) := ((26 : Nat), c26) :: L25
abbrev G18 : Gam := lookC L26
abbrev L18 : List (Nat × Con) := ((18 : Nat), c18) :: L26
abbrev G35 : Gam := lookC L18
abbrev L35 : List (Nat × Con) := ((35 : Nat), c35) :: L18
abbrev G11 : Gam := lookC L35
abbrev L11 : List (Nat × Con) := ((11 : Nat), c11) :: L35
abbrev G100 : Gam := lookC L11
abbrev L100 : List (Nat × Con) := ((100 : Nat), c100) :: L11
abbrev G97 : Gam := lookC L100
abbrev L97 : List (Nat × Con) := ((97 : Nat), c97) :: L100
abbrev G99 : Gam := lookC L97
abbrev L99 : List (Nat × Con) := ((99 : Nat), c99) :: L97
abbrev G79 : Gam := lookC L99
abbrev L79 : List (Nat × Con) := ((79 : Nat), c79) :: L99
abbrev G82 : Gam := lookC L79
abbrev L82 : List (Nat × Con) := ((82 : Nat), c82) :: L79
abbrev G87 : Gam := lookC L82
abbrev L87 : List (Nat × Con) := ((87 : Nat), c87) :: L82
abbrev G78 : Gam := lookC L87
abbrev L78 : List (Nat × Con) := ((78 : Nat), c78) :: L87
abbrev G96 : Gam := lookC L78
abbrev L96 : List (Nat × Con) := ((96 : Nat), c96) :: L78
abbrev G77 : Gam := lookC L96
abbrev L77 : List (Nat × Con) := ((77 : Nat), c77) :: L96
abbrev G84 : Gam := lookC L77
abbrev L84 : List (Nat × Con) := ((84 : Nat), c84) :: L77
abbrev G98 : Gam := lookC L84
abbrev L98 : List (Nat × Con) := ((98 : Nat), c98) :: L84
abbrev G83 : Gam := lookC L98
abbrev L83 : List (Nat × Con) := ((83 : Nat), c83) :: L98
abbrev G81 : Gam := lookC L83
abbrev L81 : List (Nat × Con) := ((81 : Nat), c81) :: L83
abbrev G80 : Gam := lookC L81
abbrev L80 : List (Nat × Con) := ((80 : Nat), c80) :: L81
abbrev G85 : Gam := lookC L80
abbrev L85 : List (Nat × Con) := ((85 : Nat), c85) :: L80
abbrev G98v : Gam := lookC L85
abbrev L98v : List (Nat × Con) := ((98 : Nat), c98v) :: L85
abbrev G83w1 : Gam := lookC L98v
abbrev L83w1 : List (Nat × Con) := ((1000083 : Nat), c83w1) :: L98v
abbrev G86 : Gam := lookC L83w1
abbrev L86 : List (Nat × Con) := ((86 : Nat), c86) :: L83w1
abbrev G98x : Gam := lookC L86
abbrev L98x : List (Nat × Con) := ((98 : Nat), c98x) :: L86
abbrev G83w2 : Gam := lookC L98x
abbrev L83w2 : List (Nat × Con) := ((2000083 : Nat), c83w2) :: L98x
abbrev G61 : Gam := lookC L83w2
abbrev L61 : List (Nat × Con) := ((61 : Nat), c61) :: L83w2
abbrev G88 : Gam := lookC L61
abbrev L88 : List (Nat × Con) := ((88 : Nat), c88) :: L61
abbrev G89 : Gam := lookC L88
abbrev L89 : List (Nat × Con) := ((89 : Nat), c89) :: L88
abbrev G62 : Gam := lookC L89
abbrev L62 : List (Nat × Con) := ((62 : Nat), c62) :: L89
abbrev G63 : Gam := lookC L62
abbrev L63 : List (Nat × Con) := ((63 : Nat), c63) :: L62
abbrev G90 : Gam := lookC L63
abbrev L90 : List (Nat × Con) := ((90 : Nat), c90) :: L63
abbrev G91 : Gam := lookC L90
abbrev L91 : List (Nat × Con) := ((91 : Nat), c91) :: L90
abbrev G64 : Gam := lookC L91
abbrev L64 : List (Nat × Con) := ((64 : Nat), c64) :: L91
abbrev G65 : Gam := lookC L64
abbrev L65 : List (Nat × Con) := ((65 : Nat), c65) :: L64
abbrev G66 : Gam := lookC L65
abbrev L66 : List (Nat × Con) := ((66 : Nat), c66) :: L65
abbrev G68 : Gam := lookC L66
abbrev L68 : List (Nat × Con) := ((68 : Nat), c68) :: L66
abbrev G67 : Gam := lookC L68
abbrev L67 : List (Nat × Con) := ((67 : Nat), c67) :: L68
abbrev G33 : Gam := lookC L67
abbrev L33 : List (Nat × Con) := ((33 : Nat), c33) :: L67
abbrev G34 : Gam := lookC L33
abbrev L34 : List (Nat × Con) := ((34 : Nat), c34) :: L33
abbrev G60 : Gam := lookC L34
abbrev L60 : List (Nat × Con) := ((60 : Nat), c60) :: L34
abbrev G30 : Gam := lookC L60
abbrev L30 : List (Nat × Con) := ((30 : Nat), c30) :: L60
abbrev G31 : Gam := lookC L30
abbrev L31 : List (Nat × Con) := ((31 : Nat), c31) :: L30
abbrev G32 : Gam := lookC L31
abbrev L32 : List (Nat × Con) := ((32 : Nat), c32) :: L31
abbrev G3 : Gam := lookC L32
abbrev G9 : Gam := lookC L32
end Go.Abs.C07

namespace Go.Abs.C07
open Go Go.Proofs Go.Abs
noncomputable def g37 (a0 : List Int) (a1 : Int) : Option (Int × List Int × Int × Unit) := Option.bind (Sp07.on (Sp07.wf (a0, a1, ()) && true && true) (Sp07.pick (a0, a1, ()) Sp07.wilds)) (fun y => some y)
theorem g37_eq (a0 : List Int) (a1 : Int) : (evF (fun _ _ => Loop) E37 G37 Try.f37 plan37 c37 ((a0, (a1, ())), ())).den = g37 a0 a1 := by kernel_rfl
end Go.Abs.C07

namespace Go.Abs.C07
open Go Go.Abs
set_option maxRecDepth 20000
set_option linter.unusedVariables false
noncomputable def g27_s0 (a0 : Int) (a1 : (List Sp07.Rc)) (a2 : (Int × Unit)) : (Option (Sum (Int × Unit) (Bool × ((Bool × Unit) × Unit)))) :=
  (bif (decide (a2.1 < (Int.ofNat a1.length))) then (bif ((decide (0 ≤ a2.1)) && (decide (a2.1 < (Int.ofNat a1.length)))) then (Option.bind (bif (!(!(Sp07.inside (List.getD a1 (Int.toNat a2.1) (0, 0, 0, ())).1 (1 : Int) (99 : Int)))) then (bif (!(!(Sp07.inside (List.getD a1 (Int.toNat a2.1) (0, 0, 0, ())).1 (1 : Int) (99 : Int)))) then (bif (!(!(Sp07.inside (List.getD a1 (Int.toNat a2.1) (0, 0, 0, ())).1 (1 : Int) (99 : Int)))) then (bif (!(!(Sp07.inside (List.getD a1 (Int.toNat a2.1) (0, 0, 0, ())).1 (1 : Int) (99 : Int)))) then (bif (!(!(Sp07.inside (List.getD a1 (Int.toNat a2.1) (0, 0, 0, ())).1 (1 : Int) (99 : Int)))) then (bif (!(!(Sp07.inside (List.getD a1 (Int.toNat a2.1) (0, 0, 0, ())).1 (1 : Int) (99 : Int)))) then (bif (!(decide ((List.getD a1 (Int.toNat a2.1) (0, 0, 0, ())).1 = a0))) then (bif (!(decide ((List.getD a1 (Int.toNat a2.1) (0, 0, 0, ())).1 = a0))) then (bif (!(decide ((List.getD a1 (Int.toNat a2.1) (0, 0, 0, ())).1 = a0))) then (bif (!(decide ((List.getD a1 (Int.toNat a2.1) (0, 0, 0, ())).1 = a0))) then (bif (!(decide ((List.getD a1 (Int.toNat a2.1) (0, 0, 0, ())).1 = a0))) then (bif (!(!(Sp07.inside (List.getD a1 (Int.toNat a2.1) (0, 0, 0, ())).2.1 (1 : Int) (1000 : Int)))) then (bif (!(!(Sp07.inside (List.getD a1 (Int.toNat a2.1) (0, 0, 0, ())).2.1 (1 : Int) (1000 : Int)))) then (bif (!(!(Sp07.inside (List.getD a1 (Int.toNat a2.1) (0, 0, 0, ())).2.1 (1 : Int) (1000 : Int)))) then (bif (!(!(Sp07.inside (List.getD a1 (Int.toNat a2.1) (0, 0, 0, ())).2.1 (1 : Int) (1000 : Int)))) then (bif (!(!(Sp07.inside (List.getD a1 (Int.toNat a2.1) (0, 0, 0, ())).2.1 (1 : Int) (1000 : Int)))) then (bif (!(!(Sp07.inside (List.getD a1 (Int.toNat a2.1) (0, 0, 0, ())).2.2.1 (0 : Int) (1000 : Int)))) then (bif (!(!(Sp07.inside (List.getD a1 (Int.toNat a2.1) (0, 0, 0, ())).2.2.1 (0 : Int) (1000 : Int)))) then (bif (!(!(Sp07.inside (List.getD a1 (Int.toNat a2.1) (0, 0, 0, ())).2.2.1 (0 : Int) (1000 : Int)))) then (bif (decide (a2.1 > (0 : Int))) then (bif (decide (a2.1 > (0 : Int))) then (bif (decide (a2.1 > (0 : Int))) then (bif (decide (a2.1 > (0 : Int))) then (bif (decide (a2.1 > (0 : Int))) then (bif ((decide (0 ≤ (IntKind.wrap .i64 (a2.1 - (1 : Int))))) && (decide ((IntKind.wrap .i64 (a2.1 - (1 : Int))) < (Int.ofNat a1.length)))) then (bif (decide (a2.1 > (0 : Int))) then (bif (decide (a2.1 > (0 : Int))) then (bif (decide (a2.1 > (0 : Int))) then (bif (decide (a2.1 > (0 : Int))) then (bif (decide (a2.1 > (0 : Int))) then (bif (!(!(Sp07.inside (List.getD a1 (Int.toNat a2.1) (0, 0, 0, ())).2.2.1 (0 : Int) (1000 : Int)))) then (bif (decide (a2.1 > (0 : Int))) then (bif (!(!(Sp07.inside (List.getD a1 (Int.toNat a2.1) (0, 0, 0, ())).2.2.1 (0 : Int) (1000 : Int)))) then (some ((decide ((List.getD a1 (Int.toNat (IntKind.wrap .i64 (a2.1 - (1 : Int)))) (0, 0, 0, ())).1 ≥ (List.getD a1 (Int.toNat a2.1) (0, 0, 0, ())).1)), ())) else none) else none) else none) else none) else none) else none) else none) else none) else none) else none) else none) else none) else none) else (bif (!(decide (a2.1 > (0 : Int)))) then (bif (!(decide (a2.1 > (0 : Int)))) then (bif (!(decide (a2.1 > (0 : Int)))) then (bif (!(decide (a2.1 > (0 : Int)))) then (bif (!(decide (a2.1 > (0 : Int)))) then (bif (!(decide (a2.1 > (0 : Int)))) then (bif (!(decide (a2.1 > (0 : Int)))) then (bif (!(decide (a2.1 > (0 : Int)))) then (bif (!(decide (a2.1 > (0 : Int)))) then (bif (!(!(Sp07.inside (List.getD a1 (Int.toNat a2.1) (0, 0, 0, ())).2.2.1 (0 : Int) (1000 : Int)))) then (bif (!(decide (a2.1 > (0 : Int)))) then (bif (!(!(Sp07.inside (List.getD a1 (Int.toNat a2.1) (0, 0, 0, ())).2.2.1 (0 : Int) (1000 : Int)))) then (some (false, ())) else none) else none) else none) else none) else none) else none) else none) else none) else none) else none) else none) else none)) else none) else none) else (bif (!(Sp07.inside (List.getD a1 (Int.toNat a2.1) (0, 0, 0, ())).2.2.1 (0 : Int) (1000 : Int))) then (bif (!(Sp07.inside (List.getD a1 (Int.toNat a2.1) (0, 0, 0, ())).2.2.1 (0 : Int) (1000 : Int))) then (bif (!(Sp07.inside (List.getD a1 (Int.toNat a2.1) (0, 0, 0, ())).2.2.1 (0 : Int) (1000 : Int))) then (bif (!(Sp07.inside (List.getD a1 (Int.toNat a2.1) (0, 0, 0, ())).2.2.1 (0 : Int) (1000 : Int))) then (some (true, ())) else none) else none) else none) else none)) else none) else none) else none) else none) else (bif (!(Sp07.inside (List.getD a1 (Int.toNat a2.1) (0, 0, 0, ())).2.1 (1 : Int) (1000 : Int))) then (bif (!(Sp07.inside (List.getD a1 (Int.toNat a2.1) (0, 0, 0, ())).2.1 (1 : Int) (1000 : Int))) then (bif (!(Sp07.inside (List.getD a1 (Int.toNat a2.1) (0, 0, 0, ())).2.1 (1 : Int) (1000 : Int))) then (bif (!(Sp07.inside (List.getD a1 (Int.toNat a2.1) (0, 0, 0, ())).2.1 (1 : Int) (1000 : Int))) then (some (true, ())) else none) else none) else none) else none)) else none) else none) else none) else none) else (bif (decide ((List.getD a1 (Int.toNat a2.1) (0, 0, 0, ())).1 = a0)) then (bif (decide ((List.getD a1 (Int.toNat a2.1) (0, 0, 0, ())).1 = a0)) then (bif (decide ((List.getD a1 (Int.toNat a2.1) (0, 0, 0, ())).1 = a0)) then (bif (decide ((List.getD a1 (Int.toNat a2.1) (0, 0, 0, ())).1 = a0)) then (some (true, ())) else none) else none) else none) else none)) else none) else none) else none) else none) else none) else (bif (!(Sp07.inside (List.getD a1 (Int.toNat a2.1) (0, 0, 0, ())).1 (1 : Int) (99 : Int))) then (bif (!(Sp07.inside (List.getD a1 (Int.toNat a2.1) (0, 0, 0, ())).1 (1 : Int) (99 : Int))) then (bif (!(Sp07.inside (List.getD a1 (Int.toNat a2.1) (0, 0, 0, ())).1 (1 : Int) (99 : Int))) then (bif (!(Sp07.inside (List.getD a1 (Int.toNat a2.1) (0, 0, 0, ())).1 (1 : Int) (99 : Int))) then (bif (!(Sp07.inside (List.getD a1 (Int.toNat a2.1) (0, 0, 0, ())).1 (1 : Int) (99 : Int))) then (some (true, ())) else none) else none) else none) else none) else none)) (fun y3 => (bif y3.1 then (some (.inr (true, ((false, ()), ())))) else (some (.inl ((IntKind.wrap .i64 (a2.1 + (1 : Int))), ())))))) else none) else (some (.inr (false, ((false, ()), ())))))
noncomputable def g27_s1 (a0 : (List Sp07.Rc)) (a1 : (Int × Unit)) : (Option (Sum (Int × Unit) (Bool × ((Bool × Unit) × Unit)))) :=
  (bif (decide (a1.1 < (Int.ofNat a0.length))) then (bif ((decide (0 ≤ a1.1)) && (decide (a1.1 < (Int.ofNat a0.length)))) then (Option.bind (bif (!(!(Sp07.inside (List.getD a0 (Int.toNat a1.1) (0, 0, 0, ())).1 (0 : Int) (7 : Int)))) then (bif (!(!(Sp07.inside (List.getD a0 (Int.toNat a1.1) (0, 0, 0, ())).1 (0 : Int) (7 : Int)))) then (bif (!(!(Sp07.inside (List.getD a0 (Int.toNat a1.1) (0, 0, 0, ())).1 (0 : Int) (7 : Int)))) then (bif (!(!(Sp07.inside (List.getD a0 (Int.toNat a1.1) (0, 0, 0, ())).1 (0 : Int) (7 : Int)))) then (bif (!(!(Sp07.inside (List.getD a0 (Int.toNat a1.1) (0, 0, 0, ())).1 (0 : Int) (7 : Int)))) then (bif (!(!(Sp07.inside (List.getD a0 (Int.toNat a1.1) (0, 0, 0, ())).2.1 (1 : Int) (256 : Int)))) then (bif (!(!(Sp07.inside (List.getD a0 (Int.toNat a1.1) (0, 0, 0, ())).2.1 (1 : Int) (256 : Int)))) then (bif (!(!(Sp07.inside (List.getD a0 (Int.toNat a1.1) (0, 0, 0, ())).2.1 (1 : Int) (256 : Int)))) then (bif (!(!(Sp07.inside (List.getD a0 (Int.toNat a1.1) (0, 0, 0, ())).2.1 (1 : Int) (256 : Int)))) then (bif (!(!(Sp07.inside (List.getD a0 (Int.toNat a1.1) (0, 0, 0, ())).2.1 (1 : Int) (256 : Int)))) then (bif (!(!(Sp07.vlen (List.getD a0 (Int.toNat a1.1) (0, 0, 0, ())).2.2.1))) then (bif (!(!(Sp07.vlen (List.getD a0 (Int.toNat a1.1) (0, 0, 0, ())).2.2.1))) then (bif (!(!(Sp07.vlen (List.getD a0 (Int.toNat a1.1) (0, 0, 0, ())).2.2.1))) then (bif (decide (a1.1 > (0 : Int))) then (bif (decide (a1.1 > (0 : Int))) then (bif (decide (a1.1 > (0 : Int))) then (bif (decide (a1.1 > (0 : Int))) then (bif (decide (a1.1 > (0 : Int))) then (bif ((decide (0 ≤ (IntKind.wrap .i64 (a1.1 - (1 : Int))))) && (decide ((IntKind.wrap .i64 (a1.1 - (1 : Int))) < (Int.ofNat a0.length)))) then (bif (decide (a1.1 > (0 : Int))) then (bif (decide (a1.1 > (0 : Int))) then (bif (decide (a1.1 > (0 : Int))) then (bif (decide (a1.1 > (0 : Int))) then (bif (decide (a1.1 > (0 : Int))) then (bif (!(!(Sp07.vlen (List.getD a0 (Int.toNat a1.1) (0, 0, 0, ())).2.2.1))) then (bif (decide (a1.1 > (0 : Int))) then (bif (!(!(Sp07.vlen (List.getD a0 (Int.toNat a1.1) (0, 0, 0, ())).2.2.1))) then (some ((decide ((List.getD a0 (Int.toNat (IntKind.wrap .i64 (a1.1 - (1 : Int)))) (0, 0, 0, ())).1 ≥ (List.getD a0 (Int.toNat a1.1) (0, 0, 0, ())).1)), ())) else none) else none) else none) else none) else none) else none) else none) else none) else none) else none) else none) else none) else none) else (bif (!(decide (a1.1 > (0 : Int)))) then (bif (!(decide (a1.1 > (0 : Int)))) then (bif (!(decide (a1.1 > (0 : Int)))) then (bif (!(decide (a1.1 > (0 : Int)))) then (bif (!(decide (a1.1 > (0 : Int)))) then (bif (!(decide (a1.1 > (0 : Int)))) then (bif (!(decide (a1.1 > (0 : Int)))) then (bif (!(decide (a1.1 > (0 : Int)))) then (bif (!(decide (a1.1 > (0 : Int)))) then (bif (!(!(Sp07.vlen (List.getD a0 (Int.toNat a1.1) (0, 0, 0, ())).2.2.1))) then (bif (!(decide (a1.1 > (0 : Int)))) then (bif (!(!(Sp07.vlen (List.getD a0 (Int.toNat a1.1) (0, 0, 0, ())).2.2.1))) then (some (false, ())) else none) else none) else none) else none) else none) else none) else none) else none) else none) else none) else none) else none)) else none) else none) else (bif (!(Sp07.vlen (List.getD a0 (Int.toNat a1.1) (0, 0, 0, ())).2.2.1)) then (bif (!(Sp07.vlen (List.getD a0 (Int.toNat a1.1) (0, 0, 0, ())).2.2.1)) then (bif (!(Sp07.vlen (List.getD a0 (Int.toNat a1.1) (0, 0, 0, ())).2.2.1)) then (bif (!(Sp07.vlen (List.getD a0 (Int.toNat a1.1) (0, 0, 0, ())).2.2.1)) then (some (true, ())) else none) else none) else none) else none)) else none) else none) else none) else none) else (bif (!(Sp07.inside (List.getD a0 (Int.toNat a1.1) (0, 0, 0, ())).2.1 (1 : Int) (256 : Int))) then (bif (!(Sp07.inside (List.getD a0 (Int.toNat a1.1) (0, 0, 0, ())).2.1 (1 : Int) (256 : Int))) then (bif (!(Sp07.inside (List.getD a0 (Int.toNat a1.1) (0, 0, 0, ())).2.1 (1 : Int) (256 : Int))) then (bif (!(Sp07.inside (List.getD a0 (Int.toNat a1.1) (0, 0, 0, ())).2.1 (1 : Int) (256 : Int))) then (some (true, ())) else none) else none) else none) else none)) else none) else none) else none) else none) else (bif (!(Sp07.inside (List.getD a0 (Int.toNat a1.1) (0, 0, 0, ())).1 (0 : Int) (7 : Int))) then (bif (!(Sp07.inside (List.getD a0 (Int.toNat a1.1) (0, 0, 0, ())).1 (0 : Int) (7 : Int))) then (bif (!(Sp07.inside (List.getD a0 (Int.toNat a1.1) (0, 0, 0, ())).1 (0 : Int) (7 : Int))) then (bif (!(Sp07.inside (List.getD a0 (Int.toNat a1.1) (0, 0, 0, ())).1 (0 : Int) (7 : Int))) then (some (true, ())) else none) else none) else none) else none)) (fun y2 => (bif y2.1 then (some (.inr (true, ((false, ()), ())))) else (some (.inl ((IntKind.wrap .i64 (a1.1 + (1 : Int))), ())))))) else none) else (some (.inr (false, ((false, ()), ())))))
noncomputable def g27 (a0 : Int) (a1 : Int) (a2 : Bool) (a3 : (List Sp07.Rc)) (a4 : (List Sp07.Rc)) : (Option (Bool × Unit)) :=
  (Option.bind (bif (!(!(Sp07.inside a0 (1 : Int) (99 : Int)))) then (bif (!(!(Sp07.inside a1 (1 : Int) (1000000 : Int)))) then (bif (!(decide ((Int.ofNat a3.length) > (23 : Int)))) then (some ((decide ((Int.ofNat a4.length) > (8 : Int))), ())) else (some (true, ()))) else (some (true, ()))) else (some (true, ()))) (fun y5 => (bif y5.1 then (some (false, ())) else (Option.bind (Loop (@g27_s0 a0 a3) ((0 : Int), ())) (fun y6 => (bif y6.1 then (some y6.2.1) else (Option.bind (Loop (@g27_s1 a4) ((0 : Int), ())) (fun y7 => (bif y7.1 then (some y7.2.1) else (some (true, ())))))))))))
theorem g27_eq (a0 : Int) (a1 : Int) (a2 : Bool) (a3 : (List Sp07.Rc)) (a4 : (List Sp07.Rc)) : (evF (fun _ _ => Loop) E27 G27 Go.Proofs.Try.f27 plan27 c27 ((), ((a0, (a1, (a2, (a3, (a4, ()))))), ()))).den = g27 a0 a1 a2 a3 a4 := by kernel_rfl

noncomputable def g16_s0 (a0 : (((List Int) × (Int × (Int × (Bool × Unit)))) × (Sp07.Ad × (Int × Unit)))) : (Option (Sum (((List Int) × (Int × (Int × (Bool × Unit)))) × (Sp07.Ad × (Int × Unit))) (((List Int) × (Int × (Int × (Bool × Unit)))) × (Sp07.Ad × Unit)))) :=
  (bif (decide (a0.2.2.1 > (0 : Int))) then (Option.bind (Sp07.on ((Sp07.inside (7 : Int) (0 : Int) (63 : Int)) && (Sp07.inside a0.1.2.2.1 (0 : Int) (100000 : Int))) (Sp07.rtake a0.1 (7 : Int))) (fun (y1 : (Int × ((List Int) × (Int × (Int × (Bool × Unit)))))) => (Option.bind (Sp07.on ((Sp07.inside (10 : Int) (0 : Int) (63 : Int)) && (Sp07.inside y1.2.2.2.1 (0 : Int) (100000 : Int))) (Sp07.rtake y1.2 (10 : Int))) (fun (y2 : (Int × ((List Int) × (Int × (Int × (Bool × Unit)))))) => (Option.bind (Sp07.on ((Sp07.inside (10 : Int) (0 : Int) (63 : Int)) && (Sp07.inside y2.2.2.2.1 (0 : Int) (100000 : Int))) (Sp07.rtake y2.2 (10 : Int))) (fun (y3 : (Int × ((List Int) × (Int × (Int × (Bool × Unit)))))) => (bif (Nat.ble ((a0.2.1.2.2.2.1.length + 1) * 24) 140737488355328) then (some (.inl (y3.2, ((a0.2.1.1, (a0.2.1.2.1, (a0.2.1.2.2.1, ((a0.2.1.2.2.2.1 ++ ((y1.1, (y2.1, (y3.1, ()))) :: [])), a0.2.1.2.2.2.2)))), ((IntKind.wrap .i64 (a0.2.2.1 - (1 : Int))), ()))))) else none))))))) else (some (.inr (a0.1, (a0.2.1, ())))))
noncomputable def g16_s1 (a0 : (Int × (Sp07.Ad × (((List Int) × (Int × (Int × (Bool × Unit)))) × Unit)))) : (Option (Sum (Int × (Sp07.Ad × (((List Int) × (Int × (Int × (Bool × Unit)))) × Unit))) (Sp07.Ad × (((List Int) × (Int × (Int × (Bool × Unit)))) × Unit)))) :=
  (bif (decide (a0.1 > (0 : Int))) then (Option.bind (Sp07.on ((Sp07.inside (3 : Int) (0 : Int) (63 : Int)) && (Sp07.inside a0.2.2.1.2.2.1 (0 : Int) (100000 : Int))) (Sp07.rtake a0.2.2.1 (3 : Int))) (fun (y1 : (Int × ((List Int) × (Int × (Int × (Bool × Unit)))))) => (Option.bind (Sp07.on ((Sp07.inside (9 : Int) (0 : Int) (63 : Int)) && (Sp07.inside y1.2.2.2.1 (0 : Int) (100000 : Int))) (Sp07.rtake y1.2 (9 : Int))) (fun (y2 : (Int × ((List Int) × (Int × (Int × (Bool × Unit)))))) => (Option.bind (Sp07.on ((Sp07.inside (2 : Int) (0 : Int) (63 : Int)) && (Sp07.inside y2.2.2.2.1 (0 : Int) (100000 : Int))) (Sp07.rtake y2.2 (2 : Int))) (fun (y3 : (Int × ((List Int) × (Int × (Int × (Bool × Unit)))))) => (bif (decide (0 ≤ y3.1)) then (bif (Nat.ble ((a0.2.1.2.2.2.2.1.length + 1) * 24) 140737488355328) then (some (.inl ((IntKind.wrap .i64 (a0.1 - (1 : Int))), ((a0.2.1.1, (a0.2.1.2.1, (a0.2.1.2.2.1, (a0.2.1.2.2.2.1, ((a0.2.1.2.2.2.2.1 ++ ((y1.1, (y2.1, ((IntKind.wrap .i64 ((8 : Int) * (@Int.pow (2 : Int) (@Min.min Nat instMinNat (Int.toNat y3.1) 64)))), ()))) :: [])), ()))))), (y3.2, ()))))) else none) else none))))))) else (some (.inr a0.2)))
noncomputable def g16 (a0 : (List Int)) : (Option ((Sp07.Ad × (Int × Unit)) × Unit)) :=
  (bif ((true && (decide (0 ≤ (bif (decide ((1024 : Int) < (Int.ofNat a0.length))) then (1024 : Int) else (Int.ofNat a0.length))))) && (decide ((bif (decide ((1024 : Int) < (Int.ofNat a0.length))) then (1024 : Int) else (Int.ofNat a0.length)) ≤ (Int.ofNat a0.length)))) then (Option.bind (Sp07.on ((Sp07.inside (7 : Int) (0 : Int) (63 : Int)) && (Sp07.inside (0 : Int) (0 : Int) (100000 : Int))) (Sp07.rtake ((List.drop 0 (List.take (Int.toNat (bif (decide ((1024 : Int) < (Int.ofNat a0.length))) then (1024 : Int) else (Int.ofNat a0.length))) a0)), ((IntKind.wrap .i64 ((8 : Int) * (Int.ofNat (List.drop 0 (List.take (Int.toNat (bif (decide ((1024 : Int) < (Int.ofNat a0.length))) then (1024 : Int) else (Int.ofNat a0.length))) a0)).length))), (0, false, ()))) (7 : Int))) (fun (y1 : (Int × ((List Int) × (Int × (Int × (Bool × Unit)))))) => (Option.bind (Sp07.on ((Sp07.inside (20 : Int) (0 : Int) (63 : Int)) && (Sp07.inside y1.2.2.2.1 (0 : Int) (100000 : Int))) (Sp07.rtake y1.2 (20 : Int))) (fun (y2 : (Int × ((List Int) × (Int × (Int × (Bool × Unit)))))) => (Option.bind (Sp07.on ((Sp07.inside (1 : Int) (0 : Int) (63 : Int)) && (Sp07.inside y2.2.2.2.1 (0 : Int) (100000 : Int))) (Sp07.rtake y2.2 (1 : Int))) (fun (y3 : (Int × ((List Int) × (Int × (Int × (Bool × Unit)))))) => (Option.bind (Sp07.on ((Sp07.inside (5 : Int) (0 : Int) (63 : Int)) && (Sp07.inside y3.2.2.2.1 (0 : Int) (100000 : Int))) (Sp07.rtake y3.2 (5 : Int))) (fun (y4 : (Int × ((List Int) × (Int × (Int × (Bool × Unit)))))) => (Option.bind (Loop g16_s0 (y4.2, ((y1.1, (y2.1, ((decide (y3.1 = (1 : Int))), ([], ([], ()))))), (y4.1, ())))) (fun (y5 : (((List Int) × (Int × (Int × (Bool × Unit)))) × (Sp07.Ad × Unit))) => (Option.bind (Sp07.on ((Sp07.inside (4 : Int) (0 : Int) (63 : Int)) && (Sp07.inside y5.1.2.2.1 (0 : Int) (100000 : Int))) (Sp07.rtake y5.1 (4 : Int))) (fun (y6 : (Int × ((List Int) × (Int × (Int × (Bool × Unit)))))) => (Option.bind (Loop g16_s1 (y6.1, (y5.2.1, (y6.2, ())))) (fun (y7 : (Sp07.Ad × (((List Int) × (Int × (Int × (Bool × Unit)))) × Unit))) => (Option.bind (Sp07.on ((Sp07.inside (16 : Int) (0 : Int) (63 : Int)) && (Sp07.inside y7.2.1.2.2.1 (0 : Int) (100000 : Int))) (Sp07.rtake y7.2.1 (16 : Int))) (fun (y8 : (Int × ((List Int) × (Int × (Int × (Bool × Unit)))))) => (bif y8.2.2.2.2.1 then (some ((((0 : Int), ((0 : Int), (false, ([], ([], ()))))), ((20 : Int), ())), ())) else (Option.bind (Sp07.on ((Sp07.inside (IntKind.wrap .i64 (Int.ofNat (@BitVec.toNat 64 (@BitVec.and 64 (@BitVec.ofInt 64 (IntKind.wrap .i64 ((0 : Int) - y8.2.2.2.1))) (@BitVec.ofInt 64 (7 : Int)))))) (0 : Int) (63 : Int)) && (Sp07.inside y8.2.2.2.1 (0 : Int) (100000 : Int))) (Sp07.rtake y8.2 (IntKind.wrap .i64 (Int.ofNat (@BitVec.toNat 64 (@BitVec.and 64 (@BitVec.ofInt 64 (IntKind.wrap .i64 ((0 : Int) - y8.2.2.2.1))) (@BitVec.ofInt 64 (7 : Int)))))))) (fun (y9 : (Int × ((List Int) × (Int × (Int × (Bool × Unit)))))) => (bif (!(decide (y8.1 = (IntKind.wrap .i64 (Sp07.check (Sp07.slice (y8.2.1, (y8.2.2.1, ())) (0 : Int) y7.2.1.2.2.1).1).1)))) then (some ((((0 : Int), ((0 : Int), (false, ([], ([], ()))))), ((23 : Int), ())), ())) else (bif (!(decide (y9.1 = (0 : Int)))) then (some ((((0 : Int), ((0 : Int), (false, ([], ([], ()))))), ((24 : Int), ())), ())) else (bif (decide ((IntKind.wrap .i64 ((8 : Int) * (Int.ofNat a0.length))) > y9.2.2.2.1)) then (some ((((0 : Int), ((0 : Int), (false, ([], ([], ()))))), ((21 : Int), ())), ())) else (bif (!(Sp07.validA y7.1)) then (some ((((0 : Int), ((0 : Int), (false, ([], ([], ()))))), ((1 : Int), ())), ())) else (some ((y7.1, ((0 : Int), ())), ()))))))))))))))))))))))))) else none)
theorem g16_eq (a0 : (List Int)) : (evF (fun _ _ => Loop) E16 G16 Go.Proofs.Try.f16 plan16 c16 ((), (a0, ()))).den = g16 a0 := by kernel_rfl

noncomputable def g5_s0 (a0 : (Int × Sp07.Tp)) (a1 : (Int × (Sp07.Tp × (Sp07.Tp × Unit)))) : (Option (Sum (Int × (Sp07.Tp × (Sp07.Tp × Unit))) (Sp07.Tp × (Sp07.Tp × Unit)))) :=
  (bif (decide (a1.1 < a0.1)) then (Option.bind (Sp07.on (((Sp07.wf a1.2.2.1) && (decide (0 < 5))) && (decide (5 ≤ 1000))) (Sp07.pick a1.2.2.1 ((IntKind.wrap .i64 ((3 : Int) + a1.1)) :: ((3 : Int) :: ((0 : Int) :: ((1 : Int) :: ((100 : Int) :: []))))))) (fun (y2 : (Int × Sp07.Tp)) => (Option.bind (Sp07.on (((Sp07.wf y2.2) && (decide (0 < 4))) && (decide (4 ≤ 1000))) (Sp07.pick y2.2 ((1 : Int) :: ((0 : Int) :: ((1000 : Int) :: ((1001 : Int) :: [])))))) (fun (y3 : (Int × Sp07.Tp)) => (Option.bind (Sp07.on (((Sp07.wf y3.2) && (decide (0 < 3))) && (decide (3 ≤ 1000))) (Sp07.pick y3.2 ((0 : Int) :: ((1000 : Int) :: ((1001 : Int) :: []))))) (fun (y4 : (Int × Sp07.Tp)) => (some (.inl ((IntKind.wrap .i64 (a1.1 + (1 : Int))), ((Sp07.append (Sp07.append (Sp07.append a1.2.1 (IntKind.wrap .u64 y2.1) (7 : Int)).1 (IntKind.wrap .u64 y3.1) (10 : Int)).1 (IntKind.wrap .u64 y4.1) (10 : Int)).1, (y4.2, ()))))))))))) else (some (.inr a1.2)))
noncomputable def g5_s1 (a0 : (Int × Sp07.Tp)) (a1 : (Int × (Sp07.Tp × (Sp07.Tp × Unit)))) : (Option (Sum (Int × (Sp07.Tp × (Sp07.Tp × Unit))) (Sp07.Tp × Unit))) :=
  (bif (decide (a1.1 < a0.1)) then (Option.bind (Sp07.on (((Sp07.wf a1.2.2.1) && (decide (0 < 3))) && (decide (3 ≤ 1000))) (Sp07.pick a1.2.2.1 (a1.1 :: ((0 : Int) :: ((7 : Int) :: []))))) (fun (y2 : (Int × Sp07.Tp)) => (Option.bind (Sp07.on (((Sp07.wf y2.2) && (decide (0 < 4))) && (decide (4 ≤ 1000))) (Sp07.pick y2.2 ((1 : Int) :: ((0 : Int) :: ((256 : Int) :: ((257 : Int) :: [])))))) (fun (y3 : (Int × Sp07.Tp)) => (Option.bind (Sp07.on (Sp07.wf y3.2) (Sp07.next y3.2 (4 : Int))) (fun (y4 : (Int × Sp07.Tp)) => (some (.inl ((IntKind.wrap .i64 (a1.1 + (1 : Int))), ((Sp07.append (Sp07.append (Sp07.append a1.2.1 (IntKind.wrap .u64 y2.1) (3 : Int)).1 (IntKind.wrap .u64 y3.1) (9 : Int)).1 (IntKind.wrap .u64 y4.1) (2 : Int)).1, (y4.2, ()))))))))))) else (some (.inr (a1.2.1, ()))))
noncomputable def g5 (a0 : (List Int)) : (Option (Bool × Unit)) :=
  (Option.bind (Sp07.on (Sp07.wf (Sp07.tape a0)) (Sp07.next (Sp07.tape a0) (3 : Int))) (fun (y1 : (Int × Sp07.Tp)) => (Option.bind (Sp07.on (Sp07.wf y1.2) (Sp07.next y1.2 (3 : Int))) (fun (y2 : (Int × Sp07.Tp)) => (Option.bind (Sp07.on (((Sp07.wf y2.2) && (decide (0 < 6))) && (decide (6 ≤ 1000))) (Sp07.pick y2.2 ((1 : Int) :: ((2 : Int) :: ((0 : Int) :: ((99 : Int) :: ((100 : Int) :: ((127 : Int) :: [])))))))) (fun (y3 : (Int × Sp07.Tp)) => (Option.bind (Sp07.on (((Sp07.wf y3.2) && (decide (0 < 4))) && (decide (4 ≤ 1000))) (Sp07.pick y3.2 ((1 : Int) :: ((0 : Int) :: ((1000000 : Int) :: ((1000001 : Int) :: [])))))) (fun (y4 : (Int × Sp07.Tp)) => (Option.bind (Sp07.on (Sp07.wf y4.2) (Sp07.next y4.2 (2 : Int))) (fun (y5 : (Int × Sp07.Tp)) => (Option.bind (Loop (@g5_s0 y1) ((0 : Int), ((Sp07.append (Sp07.append (Sp07.append (Sp07.append ([], ((0 : Int), ())) (IntKind.wrap .u64 y3.1) (7 : Int)).1 (IntKind.wrap .u64 y4.1) (20 : Int)).1 (IntKind.wrap .u64 y5.1) (1 : Int)).1 (IntKind.wrap .u64 y1.1) (5 : Int)).1, (y5.2, ())))) (fun (y6 : (Sp07.Tp × (Sp07.Tp × Unit))) => (Option.bind (Loop (@g5_s1 y2) ((0 : Int), ((Sp07.append y6.1 (IntKind.wrap .u64 y2.1) (4 : Int)).1, y6.2))) (fun (y7 : (Sp07.Tp × Unit)) => (Option.bind (bif (Sp07.sameA (Sp07.decode (Sp07.align (Sp07.append y7.1 (IntKind.wrap .u64 (IntKind.wrap .i64 (Sp07.check y7.1).1)) (16 : Int)).1).1.1).1 (Sp07.decode (Sp07.align (Sp07.append y7.1 (IntKind.wrap .u64 (IntKind.wrap .i64 (Sp07.check y7.1).1)) (16 : Int)).1).1.1).1) then (bif (decide ((Sp07.decode (Sp07.align (Sp07.append y7.1 (IntKind.wrap .u64 (IntKind.wrap .i64 (Sp07.check y7.1).1)) (16 : Int)).1).1.1).2.1 = (Sp07.decode (Sp07.align (Sp07.append y7.1 (IntKind.wrap .u64 (IntKind.wrap .i64 (Sp07.check y7.1).1)) (16 : Int)).1).1.1).2.1)) then (bif (!(decide ((Sp07.decode (Sp07.align (Sp07.append y7.1 (IntKind.wrap .u64 (IntKind.wrap .i64 (Sp07.check y7.1).1)) (16 : Int)).1).1.1).2.1 = (0 : Int)))) then (bif (decide ((Sp07.decode (Sp07.align (Sp07.append y7.1 (IntKind.wrap .u64 (IntKind.wrap .i64 (Sp07.check y7.1).1)) (16 : Int)).1).1.1).2.1 = (1 : Int))) then (some (true, ())) else (some (false, ()))) else (some (true, ()))) else (some (false, ()))) else (some (false, ()))) (fun (y8 : (Bool × Unit)) => (some y8)))))))))))))))))
noncomputable def g93_s0 (a0 : Int) (a1 : (Sp07.Tp × (Int × Unit))) : (Option (Sum (Sp07.Tp × (Int × Unit)) (Sp07.Tp × Unit))) :=
  (bif (decide (a1.2.1 > (0 : Int))) then (Option.bind (bif (decide ((IntKind.wrap .i64 ((IntKind.wrap .i64 ((8 : Int) * (Int.ofNat a1.1.1.length))) - a1.1.2.1)) = (0 : Int))) then (bif (Nat.ble ((a1.1.1.length + 1) * 1) 140737488355328) then (some (((a1.1.1 ++ ((0 : Int) :: [])), a1.1.2), ((8 : Int), ()))) else none) else (some (a1.1, ((IntKind.wrap .i64 ((IntKind.wrap .i64 ((8 : Int) * (Int.ofNat a1.1.1.length))) - a1.1.2.1)), ())))) (fun (y2 : (Sp07.Tp × (Int × Unit))) => (bif (decide (0 ≤ (IntKind.wrap .i64 (a1.2.1 - (bif (decide (y2.2.1 < a1.2.1)) then y2.2.1 else a1.2.1))))) then (bif (decide (0 ≤ (bif (decide (y2.2.1 < a1.2.1)) then y2.2.1 else a1.2.1))) then (bif ((decide (0 ≤ (IntKind.wrap .i64 ((Int.ofNat y2.1.1.length) - (1 : Int))))) && (decide ((IntKind.wrap .i64 ((Int.ofNat y2.1.1.length) - (1 : Int))) < (Int.ofNat y2.1.1.length)))) then (bif (Nat.blt (Int.toNat (IntKind.wrap .i64 ((Int.ofNat y2.1.1.length) - (1 : Int)))) y2.1.1.length) then (bif (decide (0 ≤ (IntKind.wrap .i64 (y2.2.1 - (bif (decide (y2.2.1 < a1.2.1)) then y2.2.1 else a1.2.1))))) then (bif ((decide (0 ≤ (IntKind.wrap .i64 ((Int.ofNat y2.1.1.length) - (1 : Int))))) && (decide ((IntKind.wrap .i64 ((Int.ofNat y2.1.1.length) - (1 : Int))) < (Int.ofNat y2.1.1.length)))) then (bif (Nat.blt (Int.toNat (IntKind.wrap .i64 ((Int.ofNat y2.1.1.length) - (1 : Int)))) y2.1.1.length) then (some (.inl (((List.set y2.1.1 (Int.toNat (IntKind.wrap .i64 ((Int.ofNat y2.1.1.length) - (1 : Int)))) (IntKind.wrap .u8 (Int.ofNat (@BitVec.toNat 8 (@BitVec.or 8 (@BitVec.ofInt 8 (List.getD y2.1.1 (Int.toNat (IntKind.wrap .i64 ((Int.ofNat y2.1.1.length) - (1 : Int)))) (0 : Int))) (@BitVec.ofInt 8 (IntKind.wrap .u8 (IntKind.wrap .u64 ((IntKind.wrap .u64 (Int.ofNat (@BitVec.toNat 64 (@BitVec.and 64 (@BitVec.ofInt 64 (@Int.fdiv a0 (@Int.pow (2 : Int) (@Min.min Nat instMinNat (Int.toNat (IntKind.wrap .i64 (a1.2.1 - (bif (decide (y2.2.1 < a1.2.1)) then y2.2.1 else a1.2.1)))) 64)))) (@BitVec.ofInt 64 (IntKind.wrap .u64 ((IntKind.wrap .u64 ((1 : Int) * (@Int.pow (2 : Int) (@Min.min Nat instMinNat (Int.toNat (bif (decide (y2.2.1 < a1.2.1)) then y2.2.1 else a1.2.1)) 64)))) - (1 : Int)))))))) * (@Int.pow (2 : Int) (@Min.min Nat instMinNat (Int.toNat (IntKind.wrap .i64 (y2.2.1 - (bif (decide (y2.2.1 < a1.2.1)) then y2.2.1 else a1.2.1)))) 64))))))))))), ((IntKind.wrap .i64 (y2.1.2.1 + (bif (decide (y2.2.1 < a1.2.1)) then y2.2.1 else a1.2.1))), ())), ((IntKind.wrap .i64 (a1.2.1 - (bif (decide (y2.2.1 < a1.2.1)) then y2.2.1 else a1.2.1))), ())))) else none) else none) else none) else none) else none) else none) else none))) else (some (.inr (a1.1, ()))))
noncomputable def g93 (a0 : (List Int)) (a1 : Int) (a2 : Int) (a3 : Int) : (Option (Unit × Sp07.Tp)) :=
  (Option.bind (Loop (@g93_s0 a2) ((a0, (a1, ())), (a3, ()))) (fun y4 => (some ((), y4.1))))
theorem g93_eq (a0 : (List Int)) (a1 : Int) (a2 : Int) (a3 : Int) : (evF (fun _ _ => Loop) E93 G93 Go.Proofs.Try.f93 plan93 c93 ((a0, (a1, ())), (a2, (a3, ())))).den = g93 a0 a1 a2 a3 := by kernel_rfl

noncomputable def g49_s0 (a0 : Int) (a1 : (Sp07.Tp × (Int × Unit))) : (Option (Sum (Sp07.Tp × (Int × Unit)) (Sp07.Tp × Unit))) :=
  (bif (decide (a1.2.1 ≥ (0 : Int))) then (bif (decide (0 ≤ (IntKind.wrap .u64 a1.2.1))) then (Option.bind (Sp07.on (Sp07.valid a1.1) ((Sp07.enc ((Sp07.bits a1.1) ++ ((decide ((IntKind.wrap .u64 (Int.ofNat (@BitVec.toNat 64 (@BitVec.and 64 (@BitVec.ofInt 64 (@Int.fdiv a0 (@Int.pow (2 : Int) (@Min.min Nat instMinNat (Int.toNat (IntKind.wrap .u64 a1.2.1)) 64)))) (@BitVec.ofInt 64 (1 : Int)))))) = (1 : Int))) :: []))), ())) (fun (y2 : (Sp07.Tp × Unit)) => (some (.inl (y2.1, ((IntKind.wrap .i64 (a1.2.1 - (1 : Int))), ())))))) else none) else (some (.inr (a1.1, ()))))
noncomputable def g49 (a0 : (List Int)) (a1 : Int) (a2 : Int) (a3 : Int) : (Option ((Sp07.Tp × (Int × Unit)) × Unit)) :=
  (bif (!(Sp07.valid (a0, (a1, ())))) then (some ((([], ((0 : Int), ())), ((1 : Int), ())), ())) else (Option.bind (bif (!(decide (a3 < (0 : Int)))) then (bif (!(decide (a3 > (64 : Int)))) then (bif (decide (a3 < (64 : Int))) then (bif (decide (0 ≤ (IntKind.wrap .u64 a3))) then (some ((!(decide ((@Int.fdiv a2 (@Int.pow (2 : Int) (@Min.min Nat instMinNat (Int.toNat (IntKind.wrap .u64 a3)) 64))) = (0 : Int)))), ())) else none) else (some (false, ()))) else (some (true, ()))) else (some (true, ()))) (fun (y4 : (Bool × Unit)) => (bif y4.1 then (some ((([], ((0 : Int), ())), ((2 : Int), ())), ())) else (bif (decide ((IntKind.wrap .i64 (a1 + a3)) > (8192 : Int))) then (some ((([], ((0 : Int), ())), ((3 : Int), ())), ())) else (Option.bind (Loop (@g49_s0 a2) ((a0, (a1, ())), ((IntKind.wrap .i64 (a3 - (1 : Int))), ()))) (fun (y5 : (Sp07.Tp × Unit)) => (some ((y5.1, ((0 : Int), ())), ())))))))))
theorem g49_eq (a0 : (List Int)) (a1 : Int) (a2 : Int) (a3 : Int) : (evF (fun _ _ => Loop) E49 G49 Go.Proofs.Try.f49 plan49 c49 ((), ((a0, (a1, ())), (a2, (a3, ()))))).den = g49 a0 a1 a2 a3 := by kernel_rfl

noncomputable def g74_s0 (a0 : (List Int)) (a1 : Int) (a2 : Int) (a3 : (Int × (Int × Unit))) : (Option (Sum (Int × (Int × Unit)) (Int × Unit))) :=
  (bif (decide (a3.1 < (IntKind.wrap .i64 (a1 + a2)))) then (Option.bind (Sp07.on ((decide (0 ≤ a3.1)) && (decide (a3.1 < ((8 : Int) * (Int.ofNat a0.length))))) ((Sp07.b2i (Sp07.bitAt a0 (Int.toNat a3.1))), ())) (fun y4 => (some (.inl ((IntKind.wrap .i64 (a3.1 + (1 : Int))), ((IntKind.wrap .u64 (Int.ofNat (@BitVec.toNat 64 (@BitVec.or 64 (@BitVec.ofInt 64 (IntKind.wrap .u64 (a3.2.1 * (2 : Int)))) (@BitVec.ofInt 64 y4.1))))), ())))))) else (some (.inr a3.2)))
noncomputable def g74 (a0 : (List Int)) (a1 : Int) (a2 : Int) (a3 : Int) : (Option ((Int × (Int × Unit)) × Unit)) :=
  (bif (!(Sp07.valid (a0, (a1, ())))) then (some (((0 : Int), ((1 : Int), ())), ())) else (Option.bind (bif (!(decide (a3 < (0 : Int)))) then (bif (!(decide (a3 > (64 : Int)))) then (some ((decide (a2 < (0 : Int))), ())) else (some (true, ()))) else (some (true, ()))) (fun y4 => (bif y4.1 then (some (((0 : Int), ((2 : Int), ())), ())) else (bif (decide (a2 > (IntKind.wrap .i64 (a1 - a3)))) then (some (((0 : Int), ((20 : Int), ())), ())) else (Option.bind (Loop (@g74_s0 a0 a2 a3) (a2, ((0 : Int), ()))) (fun y5 => (some ((y5.1, ((0 : Int), ())), ())))))))))
theorem g74_eq (a0 : (List Int)) (a1 : Int) (a2 : Int) (a3 : Int) : (evF (fun _ _ => Loop) E74 G74 Go.Proofs.Try.f74 plan74 c74 ((), ((a0, (a1, ())), (a2, (a3, ()))))).den = g74 a0 a1 a2 a3 := by kernel_rfl

noncomputable def g69 (a0 : (List Int)) (a1 : Int) (a2 : Int) (a3 : Int) : (Option ((Sp07.Tp × (Int × Unit)) × Unit)) :=
  (bif (!(Sp07.valid (a0, (a1, ())))) then (some ((([], ((0 : Int), ())), ((1 : Int), ())), ())) else (Option.bind (bif (!(decide (a3 < (0 : Int)))) then (bif (!(decide (a3 > (64 : Int)))) then (bif (decide (a3 < (64 : Int))) then (bif (decide (0 ≤ a3)) then (some ((!(decide ((@Int.fdiv a2 (@Int.pow (2 : Int) (@Min.min Nat instMinNat (Int.toNat a3) 64))) = (0 : Int)))), ())) else none) else (some (false, ()))) else (some (true, ()))) else (some (true, ()))) (fun (y4 : (Bool × Unit)) => (bif y4.1 then (some ((([], ((0 : Int), ())), ((2 : Int), ())), ())) else (bif (decide ((IntKind.wrap .i64 (a1 + a3)) > (8192 : Int))) then (some ((([], ((0 : Int), ())), ((3 : Int), ())), ())) else (Option.bind (Sp07.on ((((Sp07.valid (a0, (a1, ()))) && (decide (0 ≤ a3))) && (decide (a3 ≤ (64 : Int)))) && (decide ((a1 + a3) ≤ (8192 : Int)))) ((), (Sp07.enc ((Sp07.bits (a0, (a1, ()))) ++ (Sp07.vbits (Int.toNat a2) (Int.toNat a3)))))) (fun (y5 : (Unit × Sp07.Tp)) => (some ((y5.2, ((0 : Int), ())), ())))))))))
theorem g69_eq (a0 : (List Int)) (a1 : Int) (a2 : Int) (a3 : Int) : (evF (fun _ _ => Loop) E69 G69 Go.Proofs.Try.f69 plan69 c69 ((), ((a0, (a1, ())), (a2, (a3, ()))))).den = g69 a0 a1 a2 a3 := by kernel_rfl

noncomputable def g95_s0 (a0 : (List Int)) (a1 : Int) (a2 : Int) (a3 : Int) (a4 : (Int × (Int × Unit))) : (Option (Sum (Int × (Int × Unit)) (Int × Unit))) :=
  (bif (decide (a4.1 < a3)) then (Option.bind (Sp07.on ((decide (0 ≤ (IntKind.wrap .i64 (a2 + a4.1)))) && (decide ((IntKind.wrap .i64 (a2 + a4.1)) < ((8 : Int) * (Int.ofNat a0.length))))) ((Sp07.b2i (Sp07.bitAt a0 (Int.toNat (IntKind.wrap .i64 (a2 + a4.1))))), ())) (fun y5 => (some (.inl ((IntKind.wrap .i64 (a4.1 + (1 : Int))), ((IntKind.wrap .u64 (Int.ofNat (@BitVec.toNat 64 (@BitVec.or 64 (@BitVec.ofInt 64 (IntKind.wrap .u64 (a4.2.1 * (2 : Int)))) (@BitVec.ofInt 64 y5.1))))), ())))))) else (some (.inr a4.2)))
noncomputable def g95 (a0 : (List Int)) (a1 : Int) (a2 : Int) (a3 : Int) : (Option (Int × Unit)) :=
  (Option.bind (Loop (@g95_s0 a0 a1 a2 a3) ((0 : Int), ((0 : Int), ()))) (fun y4 => (some y4)))
theorem g95_eq (a0 : (List Int)) (a1 : Int) (a2 : Int) (a3 : Int) : (evF (fun _ _ => Loop) E95 G95 Go.Proofs.Try.f95 plan95 c95 ((), ((a0, (a1, ())), (a2, (a3, ()))))).den = g95 a0 a1 a2 a3 := by kernel_rfl

noncomputable def g29 (a0 : Int) (a1 : Int) (a2 : Bool) (a3 : (List Sp07.Rc)) (a4 : (List Sp07.Rc)) (a5 : Int) (a6 : Int) (a7 : Bool) (a8 : (List Sp07.Rc)) (a9 : (List Sp07.Rc)) : (Option (Bool × Unit)) :=
  (Option.bind (bif (decide (a0 = a5)) then (bif (decide (a1 = a6)) then (bif (decide (a2 = a7)) then (bif (Sp07.sameR a3 a8) then (some ((Sp07.sameR a4 a9), ())) else (some (false, ()))) else (some (false, ()))) else (some (false, ()))) else (some (false, ()))) (fun y10 => (some y10)))
theorem g29_eq (a0 : Int) (a1 : Int) (a2 : Bool) (a3 : (List Sp07.Rc)) (a4 : (List Sp07.Rc)) (a5 : Int) (a6 : Int) (a7 : Bool) (a8 : (List Sp07.Rc)) (a9 : (List Sp07.Rc)) : (evF (fun _ _ => Loop) E29 G29 Go.Proofs.Try.f29 plan29 c29 ((), ((a0, (a1, (a2, (a3, (a4, ()))))), ((a5, (a6, (a7, (a8, (a9, ()))))), ())))).den = g29 a0 a1 a2 a3 a4 a5 a6 a7 a8 a9 := by kernel_rfl

noncomputable def g18 : (Option (Bool × Unit)) :=
  (Option.bind (bif (decide ((Sp07.encode ((1 : Int), ((1 : Int), (false, ([], ([], ())))))).2.1 = (0 : Int))) then (bif (decide ((Sp07.decode (Sp07.encode ((1 : Int), ((1 : Int), (false, ([], ([], ())))))).1).2.1 = (0 : Int))) then (bif (decide ((Int.ofNat (Sp07.encode ((1 : Int), ((1 : Int), (false, ([], ([], ())))))).1.length) = (7 : Int))) then (bif (Sp07.sameA ((1 : Int), ((1 : Int), (false, ([], ([], ()))))) (Sp07.decode (Sp07.encode ((1 : Int), ((1 : Int), (false, ([], ([], ())))))).1).1) then (some ((Sp07.newer ((1 : Int), ((2 : Int), (false, ([], ([], ()))))) ((1 : Int), ((1 : Int), (false, ([], ([], ())))))), ())) else (some (false, ()))) else (some (false, ()))) else (some (false, ()))) else (some (false, ()))) (fun (y0 : (Bool × Unit)) => (some y0)))
theorem g18_eq : (evF (fun _ _ => Loop) E18 G18 Go.Proofs.Try.f18 plan18 c18 ((), ())).den = g18  := by kernel_rfl

noncomputable def g12 (a0 : (List Int)) (a1 : Int) (a2 : Int) (a3 : Int) : (Option (Int × Sp07.Tp)) :=
  (Option.bind (Sp07.on (Sp07.wf (a0, (a1, ()))) (Sp07.next (a0, (a1, ())) (IntKind.wrap .i64 ((IntKind.wrap .i64 (a3 - a2)) + (1 : Int))))) (fun y4 => (some ((IntKind.wrap .i64 (a2 + y4.1)), y4.2))))
theorem g12_eq (a0 : (List Int)) (a1 : Int) (a2 : Int) (a3 : Int) : (evF (fun _ _ => Loop) E12 G12 Go.Proofs.Try.f12 plan12 c12 ((a0, (a1, ())), (a2, (a3, ())))).den = g12 a0 a1 a2 a3 := by kernel_rfl

noncomputable def g10 (a0 : (List Int)) : (Option (Sp07.Tp × Unit)) :=
  (Option.bind (bif (decide ((Int.ofNat a0.length) > (600 : Int))) then (bif (true && (decide ((600 : Int) ≤ (Int.ofNat a0.length)))) then (some ((List.drop 0 (List.take 600 a0)), ())) else none) else (some (a0, ()))) (fun y1 => (some ((y1.1, ((0 : Int), ())), ()))))
theorem g10_eq (a0 : (List Int)) : (evF (fun _ _ => Loop) E10 G10 Go.Proofs.Try.f10 plan10 c10 ((), (a0, ()))).den = g10 a0 := by kernel_rfl

noncomputable def g76 (a0 : Int) : (Option (Bool × Unit)) :=
  (Option.bind (bif (!(decide (a0 = (8 : Int)))) then (bif (!(decide (a0 = (16 : Int)))) then (bif (!(decide (a0 = (32 : Int)))) then (some ((decide (a0 = (64 : Int))), ())) else (some (true, ()))) else (some (true, ()))) else (some (true, ()))) (fun y1 => (some y1)))
theorem g76_eq (a0 : Int) : (evF (fun _ _ => Loop) E76 G76 Go.Proofs.Try.f76 plan76 c76 ((), (a0, ()))).den = g76 a0 := by kernel_rfl

noncomputable def g38 (a0 : (List Int)) (a1 : Int) (a2 : Int) (a3 : Int) : (Option (Unit × Sp07.Tp)) :=
  (some ((), (Sp07.append (a0, (a1, ())) (IntKind.wrap .u64 a2) a3).1))
theorem g38_eq (a0 : (List Int)) (a1 : Int) (a2 : Int) (a3 : Int) : (evF (fun _ _ => Loop) E38 G38 Go.Proofs.Try.f38 plan38 c38 ((a0, (a1, ())), (a2, (a3, ())))).den = g38 a0 a1 a2 a3 := by kernel_rfl

noncomputable def g94 (a0 : Int) : (Option (Int × Unit)) :=
  (some ((IntKind.wrap .i64 (@Int.tdiv (IntKind.wrap .i64 (a0 + (7 : Int))) (8 : Int))), ()))
theorem g94_eq (a0 : Int) : (evF (fun _ _ => Loop) E94 G94 Go.Proofs.Try.f94 plan94 c94 ((), (a0, ()))).den = g94 a0 := by kernel_rfl
end Go.Abs.C07

namespace Go.Abs.C07
open Go Go.Abs
set_option maxRecDepth 20000
set_option linter.unusedVariables false
noncomputable def g28_s0 (a0 : Int) (a1 : (List Sp07.Rc)) (a2 : (Int × Unit)) : (Option (Sum (Int × Unit) (Bool × ((Bool × Unit) × Unit)))) :=
  (bif (decide (a2.1 < (Int.ofNat a1.length))) then (bif ((decide (0 ≤ a2.1)) && (decide (a2.1 < (Int.ofNat a1.length)))) then (Option.bind (bif (!(!(Sp07.inside (List.getD a1 (Int.toNat a2.1) (0, 0, 0, ())).1 (1 : Int) (99 : Int)))) then (bif (!(!(Sp07.inside (List.getD a1 (Int.toNat a2.1) (0, 0, 0, ())).1 (1 : Int) (99 : Int)))) then (bif (!(!(Sp07.inside (List.getD a1 (Int.toNat a2.1) (0, 0, 0, ())).1 (1 : Int) (99 : Int)))) then (bif (!(!(Sp07.inside (List.getD a1 (Int.toNat a2.1) (0, 0, 0, ())).1 (1 : Int) (99 : Int)))) then (bif (!(!(Sp07.inside (List.getD a1 (Int.toNat a2.1) (0, 0, 0, ())).1 (1 : Int) (99 : Int)))) then (bif (!(!(Sp07.inside (List.getD a1 (Int.toNat a2.1) (0, 0, 0, ())).1 (1 : Int) (99 : Int)))) then (bif (!(decide ((List.getD a1 (Int.toNat a2.1) (0, 0, 0, ())).1 = a0))) then (bif (!(decide ((List.getD a1 (Int.toNat a2.1) (0, 0, 0, ())).1 = a0))) then (bif (!(decide ((List.getD a1 (Int.toNat a2.1) (0, 0, 0, ())).1 = a0))) then (bif (!(decide ((List.getD a1 (Int.toNat a2.1) (0, 0, 0, ())).1 = a0))) then (bif (!(decide ((List.getD a1 (Int.toNat a2.1) (0, 0, 0, ())).1 = a0))) then (bif (!(!(Sp07.inside (List.getD a1 (Int.toNat a2.1) (0, 0, 0, ())).2.1 (1 : Int) (1000 : Int)))) then (bif (!(!(Sp07.inside (List.getD a1 (Int.toNat a2.1) (0, 0, 0, ())).2.1 (1 : Int) (1000 : Int)))) then (bif (!(!(Sp07.inside (List.getD a1 (Int.toNat a2.1) (0, 0, 0, ())).2.1 (1 : Int) (1000 : Int)))) then (bif (!(!(Sp07.inside (List.getD a1 (Int.toNat a2.1) (0, 0, 0, ())).2.1 (1 : Int) (1000 : Int)))) then (bif (!(!(Sp07.inside (List.getD a1 (Int.toNat a2.1) (0, 0, 0, ())).2.1 (1 : Int) (1000 : Int)))) then (bif (!(!(Sp07.inside (List.getD a1 (Int.toNat a2.1) (0, 0, 0, ())).2.2.1 (0 : Int) (1000 : Int)))) then (bif (!(!(Sp07.inside (List.getD a1 (Int.toNat a2.1) (0, 0, 0, ())).2.2.1 (0 : Int) (1000 : Int)))) then (bif (!(!(Sp07.inside (List.getD a1 (Int.toNat a2.1) (0, 0, 0, ())).2.2.1 (0 : Int) (1000 : Int)))) then (bif (decide (a2.1 > (0 : Int))) then (bif (decide (a2.1 > (0 : Int))) then (bif (decide (a2.1 > (0 : Int))) then (bif (decide (a2.1 > (0 : Int))) then (bif (decide (a2.1 > (0 : Int))) then (bif ((decide (0 ≤ (IntKind.wrap .i64 (a2.1 - (1 : Int))))) && (decide ((IntKind.wrap .i64 (a2.1 - (1 : Int))) < (Int.ofNat a1.length)))) then (bif (decide (a2.1 > (0 : Int))) then (bif (decide (a2.1 > (0 : Int))) then (bif (decide (a2.1 > (0 : Int))) then (bif (decide (a2.1 > (0 : Int))) then (bif (decide (a2.1 > (0 : Int))) then (bif (!(!(Sp07.inside (List.getD a1 (Int.toNat a2.1) (0, 0, 0, ())).2.2.1 (0 : Int) (1000 : Int)))) then (bif (decide (a2.1 > (0 : Int))) then (bif (!(!(Sp07.inside (List.getD a1 (Int.toNat a2.1) (0, 0, 0, ())).2.2.1 (0 : Int) (1000 : Int)))) then (some ((decide ((List.getD a1 (Int.toNat (IntKind.wrap .i64 (a2.1 - (1 : Int)))) (0, 0, 0, ())).1 ≥ (List.getD a1 (Int.toNat a2.1) (0, 0, 0, ())).1)), ())) else none) else none) else none) else none) else none) else none) else none) else none) else none) else none) else none) else none) else none) else (bif (!(decide (a2.1 > (0 : Int)))) then (bif (!(decide (a2.1 > (0 : Int)))) then (bif (!(decide (a2.1 > (0 : Int)))) then (bif (!(decide (a2.1 > (0 : Int)))) then (bif (!(decide (a2.1 > (0 : Int)))) then (bif (!(decide (a2.1 > (0 : Int)))) then (bif (!(decide (a2.1 > (0 : Int)))) then (bif (!(decide (a2.1 > (0 : Int)))) then (bif (!(decide (a2.1 > (0 : Int)))) then (bif (!(!(Sp07.inside (List.getD a1 (Int.toNat a2.1) (0, 0, 0, ())).2.2.1 (0 : Int) (1000 : Int)))) then (bif (!(decide (a2.1 > (0 : Int)))) then (bif (!(!(Sp07.inside (List.getD a1 (Int.toNat a2.1) (0, 0, 0, ())).2.2.1 (0 : Int) (1000 : Int)))) then (some (false, ())) else none) else none) else none) else none) else none) else none) else none) else none) else none) else none) else none) else none)) else none) else none) else (bif (!(Sp07.inside (List.getD a1 (Int.toNat a2.1) (0, 0, 0, ())).2.2.1 (0 : Int) (1000 : Int))) then (bif (!(Sp07.inside (List.getD a1 (Int.toNat a2.1) (0, 0, 0, ())).2.2.1 (0 : Int) (1000 : Int))) then (bif (!(Sp07.inside (List.getD a1 (Int.toNat a2.1) (0, 0, 0, ())).2.2.1 (0 : Int) (1000 : Int))) then (bif (!(Sp07.inside (List.getD a1 (Int.toNat a2.1) (0, 0, 0, ())).2.2.1 (0 : Int) (1000 : Int))) then (some (true, ())) else none) else none) else none) else none)) else none) else none) else none) else none) else (bif (!(Sp07.inside (List.getD a1 (Int.toNat a2.1) (0, 0, 0, ())).2.1 (1 : Int) (1000 : Int))) then (bif (!(Sp07.inside (List.getD a1 (Int.toNat a2.1) (0, 0, 0, ())).2.1 (1 : Int) (1000 : Int))) then (bif (!(Sp07.inside (List.getD a1 (Int.toNat a2.1) (0, 0, 0, ())).2.1 (1 : Int) (1000 : Int))) then (bif (!(Sp07.inside (List.getD a1 (Int.toNat a2.1) (0, 0, 0, ())).2.1 (1 : Int) (1000 : Int))) then (some (true, ())) else none) else none) else none) else none)) else none) else none) else none) else none) else (bif (decide ((List.getD a1 (Int.toNat a2.1) (0, 0, 0, ())).1 = a0)) then (bif (decide ((List.getD a1 (Int.toNat a2.1) (0, 0, 0, ())).1 = a0)) then (bif (decide ((List.getD a1 (Int.toNat a2.1) (0, 0, 0, ())).1 = a0)) then (bif (decide ((List.getD a1 (Int.toNat a2.1) (0, 0, 0, ())).1 = a0)) then (some (true, ())) else none) else none) else none) else none)) else none) else none) else none) else none) else none) else (bif (!(Sp07.inside (List.getD a1 (Int.toNat a2.1) (0, 0, 0, ())).1 (1 : Int) (99 : Int))) then (bif (!(Sp07.inside (List.getD a1 (Int.toNat a2.1) (0, 0, 0, ())).1 (1 : Int) (99 : Int))) then (bif (!(Sp07.inside (List.getD a1 (Int.toNat a2.1) (0, 0, 0, ())).1 (1 : Int) (99 : Int))) then (bif (!(Sp07.inside (List.getD a1 (Int.toNat a2.1) (0, 0, 0, ())).1 (1 : Int) (99 : Int))) then (bif (!(Sp07.inside (List.getD a1 (Int.toNat a2.1) (0, 0, 0, ())).1 (1 : Int) (99 : Int))) then (some (true, ())) else none) else none) else none) else none) else none)) (fun y3 => (bif y3.1 then (some (.inr (true, ((false, ()), ())))) else (some (.inl ((IntKind.wrap .i64 (a2.1 + (1 : Int))), ())))))) else none) else (some (.inr (false, ((false, ()), ())))))
noncomputable def g28 (a0 : Int) (a1 : Int) (a2 : Bool) (a3 : (List Sp07.Rc)) (a4 : (List Sp07.Rc)) : (Option (Bool × Unit)) :=
  (Option.bind (bif (!(!(Sp07.inside a0 (1 : Int) (99 : Int)))) then (bif (!(!(Sp07.inside a1 (1 : Int) (1000000 : Int)))) then (some ((decide ((Int.ofNat a3.length) > (23 : Int))), ())) else (some (true, ()))) else (some (true, ()))) (fun y5 => (bif y5.1 then (some (false, ())) else (Option.bind (Loop (@g28_s0 a0 a3) ((0 : Int), ())) (fun y6 => (bif y6.1 then (some y6.2.1) else (some ((Sp07.validC a4), ()))))))))
theorem g28_eq (a0 : Int) (a1 : Int) (a2 : Bool) (a3 : (List Sp07.Rc)) (a4 : (List Sp07.Rc)) : (evF (fun _ _ => Loop) E28 G28 Go.Proofs.Try.f28 plan28 c28 ((), ((a0, (a1, (a2, (a3, (a4, ()))))), ()))).den = g28 a0 a1 a2 a3 a4 := by kernel_rfl

noncomputable def g17_s0 (a0 : (List Sp07.Rc)) (a1 : (List Sp07.Rc)) (a2 : (Int × Unit)) : (Option (Sum (Int × Unit) (Bool × ((Bool × Unit) × Unit)))) :=
  (bif (decide (a2.1 < (Int.ofNat a0.length))) then (bif ((decide (0 ≤ a2.1)) && (decide (a2.1 < (Int.ofNat a0.length)))) then (bif ((decide (0 ≤ a2.1)) && (decide (a2.1 < (Int.ofNat a1.length)))) then (bif (!((decide ((List.getD a0 (Int.toNat a2.1) (0, 0, 0, ())).1 = (List.getD a1 (Int.toNat a2.1) (0, 0, 0, ())).1)) && ((decide ((List.getD a0 (Int.toNat a2.1) (0, 0, 0, ())).2.1 = (List.getD a1 (Int.toNat a2.1) (0, 0, 0, ())).2.1)) && ((decide ((List.getD a0 (Int.toNat a2.1) (0, 0, 0, ())).2.2.1 = (List.getD a1 (Int.toNat a2.1) (0, 0, 0, ())).2.2.1)) && true)))) then (some (.inr (true, ((false, ()), ())))) else (some (.inl ((IntKind.wrap .i64 (a2.1 + (1 : Int))), ())))) else none) else none) else (some (.inr (false, ((false, ()), ())))))
noncomputable def g17_s1 (a0 : (List Sp07.Rc)) (a1 : (List Sp07.Rc)) (a2 : (Int × Unit)) : (Option (Sum (Int × Unit) (Bool × ((Bool × Unit) × Unit)))) :=
  (bif (decide (a2.1 < (Int.ofNat a0.length))) then (bif ((decide (0 ≤ a2.1)) && (decide (a2.1 < (Int.ofNat a0.length)))) then (bif ((decide (0 ≤ a2.1)) && (decide (a2.1 < (Int.ofNat a1.length)))) then (bif (!((decide ((List.getD a0 (Int.toNat a2.1) (0, 0, 0, ())).1 = (List.getD a1 (Int.toNat a2.1) (0, 0, 0, ())).1)) && ((decide ((List.getD a0 (Int.toNat a2.1) (0, 0, 0, ())).2.1 = (List.getD a1 (Int.toNat a2.1) (0, 0, 0, ())).2.1)) && ((decide ((List.getD a0 (Int.toNat a2.1) (0, 0, 0, ())).2.2.1 = (List.getD a1 (Int.toNat a2.1) (0, 0, 0, ())).2.2.1)) && true)))) then (some (.inr (true, ((false, ()), ())))) else (some (.inl ((IntKind.wrap .i64 (a2.1 + (1 : Int))), ())))) else none) else none) else (some (.inr (false, ((false, ()), ())))))
noncomputable def g17 (a0 : Int) (a1 : Int) (a2 : Bool) (a3 : (List Sp07.Rc)) (a4 : (List Sp07.Rc)) (a5 : Int) (a6 : Int) (a7 : Bool) (a8 : (List Sp07.Rc)) (a9 : (List Sp07.Rc)) : (Option (Bool × Unit)) :=
  (Option.bind (bif (!(!(decide (a0 = a5)))) then (bif (!(!(decide (a1 = a6)))) then (bif (!(!(decide (a2 = a7)))) then (bif (!(!(decide ((Int.ofNat a3.length) = (Int.ofNat a8.length))))) then (some ((!(decide ((Int.ofNat a4.length) = (Int.ofNat a9.length)))), ())) else (some (true, ()))) else (some (true, ()))) else (some (true, ()))) else (some (true, ()))) (fun y10 => (bif y10.1 then (some (false, ())) else (Option.bind (Loop (@g17_s0 a3 a8) ((0 : Int), ())) (fun y11 => (bif y11.1 then (some y11.2.1) else (Option.bind (Loop (@g17_s1 a4 a9) ((0 : Int), ())) (fun y12 => (bif y12.1 then (some y12.2.1) else (some (true, ())))))))))))
theorem g17_eq (a0 : Int) (a1 : Int) (a2 : Bool) (a3 : (List Sp07.Rc)) (a4 : (List Sp07.Rc)) (a5 : Int) (a6 : Int) (a7 : Bool) (a8 : (List Sp07.Rc)) (a9 : (List Sp07.Rc)) : (evF (fun _ _ => Loop) E17 G17 Go.Proofs.Try.f17 plan17 c17 ((), ((a0, (a1, (a2, (a3, (a4, ()))))), ((a5, (a6, (a7, (a8, (a9, ()))))), ())))).den = g17 a0 a1 a2 a3 a4 a5 a6 a7 a8 a9 := by kernel_rfl

noncomputable def g52 (a0 : (List Int)) (a1 : Int) (a2 : Int) : (Option (Sp07.Tp × Unit)) :=
  (bif (Nat.ble ((0 + a0.length) * 1) 140737488355328) then (Option.bind (bif (decide ((@Int.tmod a1 (8 : Int)) = (0 : Int))) then (bif (Nat.ble ((([] ++ a0).length + 1) * 1) 140737488355328) then (some ((([] ++ a0) ++ ((0 : Int) :: [])), ())) else none) else (some (([] ++ a0), ()))) (fun (y3 : ((List Int) × Unit)) => (Option.bind (bif (decide (a2 = (1 : Int))) then (bif ((decide (0 ≤ (IntKind.wrap .i64 (@Int.tdiv a1 (8 : Int))))) && (decide ((IntKind.wrap .i64 (@Int.tdiv a1 (8 : Int))) < (Int.ofNat y3.1.length)))) then (bif (Nat.blt (Int.toNat (IntKind.wrap .i64 (@Int.tdiv a1 (8 : Int)))) y3.1.length) then (bif (decide (0 ≤ (IntKind.wrap .u64 (IntKind.wrap .i64 ((7 : Int) - (@Int.tmod a1 (8 : Int))))))) then (bif ((decide (0 ≤ (IntKind.wrap .i64 (@Int.tdiv a1 (8 : Int))))) && (decide ((IntKind.wrap .i64 (@Int.tdiv a1 (8 : Int))) < (Int.ofNat y3.1.length)))) then (bif (Nat.blt (Int.toNat (IntKind.wrap .i64 (@Int.tdiv a1 (8 : Int)))) y3.1.length) then (some ((List.set y3.1 (Int.toNat (IntKind.wrap .i64 (@Int.tdiv a1 (8 : Int)))) (IntKind.wrap .u8 (Int.ofNat (@BitVec.toNat 8 (@BitVec.or 8 (@BitVec.ofInt 8 (List.getD y3.1 (Int.toNat (IntKind.wrap .i64 (@Int.tdiv a1 (8 : Int)))) (0 : Int))) (@BitVec.ofInt 8 (IntKind.wrap .u8 ((1 : Int) * (@Int.pow (2 : Int) (@Min.min Nat instMinNat (Int.toNat (IntKind.wrap .u64 (IntKind.wrap .i64 ((7 : Int) - (@Int.tmod a1 (8 : Int)))))) 8)))))))))), ())) else none) else none) else none) else none) else none) else (some y3)) (fun (y4 : ((List Int) × Unit)) => (some ((y4.1, ((IntKind.wrap .i64 (a1 + (1 : Int))), ())), ())))))) else none)
theorem g52_eq (a0 : (List Int)) (a1 : Int) (a2 : Int) : (evF (fun _ _ => Loop) E52 G52 Go.Proofs.Try.f52 plan52 c52 ((), ((a0, (a1, ())), (a2, ())))).den = g52 a0 a1 a2 := by kernel_rfl

noncomputable def g48_s0 (a0 : (List Int)) (a1 : Int) (a2 : (Int × (Sp07.Tp × Unit))) : (Option (Sum (Int × (Sp07.Tp × Unit)) (Sp07.Tp × Unit))) :=
  (bif (decide (a2.1 < a1)) then (Option.bind (Sp07.on ((decide (0 ≤ a2.1)) && (decide (a2.1 < ((8 : Int) * (Int.ofNat a0.length))))) ((Sp07.b2i (Sp07.bitAt a0 (Int.toNat a2.1))), ())) (fun (y3 : (Int × Unit)) => (Option.bind (Sp07.on (Sp07.valid a2.2.1) ((Sp07.enc ((Sp07.bits a2.2.1) ++ ((decide (y3.1 = (1 : Int))) :: []))), ())) (fun (y4 : (Sp07.Tp × Unit)) => (some (.inl ((IntKind.wrap .i64 (a2.1 + (1 : Int))), y4))))))) else (some (.inr a2.2)))
noncomputable def g48 (a0 : (List Int)) (a1 : Int) (a2 : Int) (a3 : Int) : (Option ((Sp07.Tp × (Int × Unit)) × Unit)) :=
  (bif (!(Sp07.valid (a0, (a1, ())))) then (some ((([], ((0 : Int), ())), ((1 : Int), ())), ())) else (Option.bind (bif (!(decide (a2 < (0 : Int)))) then (bif (!(decide (a2 > a3))) then (some ((decide (a3 > a1)), ())) else (some (true, ()))) else (some (true, ()))) (fun (y4 : (Bool × Unit)) => (bif y4.1 then (some ((([], ((0 : Int), ())), ((2 : Int), ())), ())) else (Option.bind (Loop (@g48_s0 a0 a3) (a2, (([], ((0 : Int), ())), ()))) (fun (y5 : (Sp07.Tp × Unit)) => (some ((y5.1, ((0 : Int), ())), ()))))))))
theorem g48_eq (a0 : (List Int)) (a1 : Int) (a2 : Int) (a3 : Int) : (evF (fun _ _ => Loop) E48 G48 Go.Proofs.Try.f48 plan48 c48 ((), ((a0, (a1, ())), (a2, (a3, ()))))).den = g48 a0 a1 a2 a3 := by kernel_rfl

noncomputable def g26 (a0 : Int) (a1 : Int) (a2 : Bool) (a3 : (List Sp07.Rc)) (a4 : (List Sp07.Rc)) (a5 : Int) (a6 : Int) (a7 : Bool) (a8 : (List Sp07.Rc)) (a9 : (List Sp07.Rc)) : (Option (Bool × Unit)) :=
  (Option.bind (bif (!(!(Sp07.validA (a0, (a1, (a2, (a3, (a4, ())))))))) then (bif (!(!(Sp07.validA (a5, (a6, (a7, (a8, (a9, ())))))))) then (some ((!(decide (a0 = a5))), ())) else (some (true, ()))) else (some (true, ()))) (fun y10 => (bif y10.1 then (some (false, ())) else (Option.bind (bif (!(decide (a1 > a6))) then (bif (decide (a1 = a6)) then (some ((!((@Go.Abs.ltBytes (Sp07.encode (a0, (a1, (a2, (a3, (a4, ())))))).1 (Sp07.encode (a5, (a6, (a7, (a8, (a9, ())))))).1) || (@List.beq Int (@instBEqOfDecidableEq Int Int.instDecidableEq) (Sp07.encode (a0, (a1, (a2, (a3, (a4, ())))))).1 (Sp07.encode (a5, (a6, (a7, (a8, (a9, ())))))).1))), ())) else (some (false, ()))) else (some (true, ()))) (fun y11 => (some y11))))))
theorem g26_eq (a0 : Int) (a1 : Int) (a2 : Bool) (a3 : (List Sp07.Rc)) (a4 : (List Sp07.Rc)) (a5 : Int) (a6 : Int) (a7 : Bool) (a8 : (List Sp07.Rc)) (a9 : (List Sp07.Rc)) : (evF (fun _ _ => Loop) E26 G26 Go.Proofs.Try.f26 plan26 c26 ((), ((a0, (a1, (a2, (a3, (a4, ()))))), ((a5, (a6, (a7, (a8, (a9, ()))))), ())))).den = g26 a0 a1 a2 a3 a4 a5 a6 a7 a8 a9 := by kernel_rfl

noncomputable def g72 (a0 : (List Int)) (a1 : Int) (a2 : Int) (a3 : Int) : (Option ((Int × (Int × Unit)) × Unit)) :=
  (bif (!(Sp07.valid (a0, (a1, ())))) then (some (((0 : Int), ((1 : Int), ())), ())) else (Option.bind (bif (!(decide (a3 < (0 : Int)))) then (bif (!(decide (a3 > (64 : Int)))) then (some ((decide (a2 < (0 : Int))), ())) else (some (true, ()))) else (some (true, ()))) (fun y4 => (bif y4.1 then (some (((0 : Int), ((2 : Int), ())), ())) else (Option.bind (bif (!(decide (a2 > a1))) then (some ((decide (a3 > (IntKind.wrap .i64 (a1 - a2)))), ())) else (some (true, ()))) (fun y5 => (bif y5.1 then (some (((0 : Int), ((20 : Int), ())), ())) else (Option.bind (Sp07.on ((((decide (0 ≤ a2)) && (decide (0 ≤ a3))) && (decide (a3 ≤ (64 : Int)))) && (decide ((a2 + a3) ≤ ((8 : Int) * (Int.ofNat a0.length))))) ((Int.ofNat (Sp07.valOf (Sp07.bitsR a0 (Int.toNat a2) (Int.toNat a3)))), ())) (fun y6 => (some ((y6.1, ((0 : Int), ())), ())))))))))))
theorem g72_eq (a0 : (List Int)) (a1 : Int) (a2 : Int) (a3 : Int) : (evF (fun _ _ => Loop) E72 G72 Go.Proofs.Try.f72 plan72 c72 ((), ((a0, (a1, ())), (a2, (a3, ()))))).den = g72 a0 a1 a2 a3 := by kernel_rfl

noncomputable def g24_s0 (a0 : (Sp07.Tp × Unit)) : (Option (Sum (Sp07.Tp × Unit) (Sp07.Tp × Unit))) :=
  (bif (!(decide ((@Int.tmod a0.1.2.1 (8 : Int)) = (0 : Int)))) then (Option.bind (Sp07.on (Sp07.valid a0.1) ((Sp07.enc ((Sp07.bits a0.1) ++ ((decide ((0 : Int) = (1 : Int))) :: []))), ())) (fun (y1 : (Sp07.Tp × Unit)) => (some (.inl y1)))) else (some (.inr a0)))
noncomputable def g24 (a0 : (List Int)) (a1 : Int) : (Option ((Sp07.Tp × (Int × Unit)) × Unit)) :=
  (bif (!(Sp07.valid (a0, (a1, ())))) then (some ((([], ((0 : Int), ())), ((1 : Int), ())), ())) else (Option.bind (Loop g24_s0 ((a0, (a1, ())), ())) (fun (y2 : (Sp07.Tp × Unit)) => (some ((y2.1, ((0 : Int), ())), ())))))
theorem g24_eq (a0 : (List Int)) (a1 : Int) : (evF (fun _ _ => Loop) E24 G24 Go.Proofs.Try.f24 plan24 c24 ((), ((a0, (a1, ())), ()))).den = g24 a0 a1 := by kernel_rfl

noncomputable def g45 (a0 : (List Int)) (a1 : Int) : (Option (Int × Sp07.Tp)) :=
  (bif (decide (a1 ≥ (Int.ofNat a0.length))) then (some ((0 : Int), (a0, (a1, ())))) else (bif ((decide (0 ≤ (IntKind.wrap .i64 ((IntKind.wrap .i64 (a1 + (1 : Int))) - (1 : Int))))) && (decide ((IntKind.wrap .i64 ((IntKind.wrap .i64 (a1 + (1 : Int))) - (1 : Int))) < (Int.ofNat a0.length)))) then (some ((List.getD a0 (Int.toNat (IntKind.wrap .i64 ((IntKind.wrap .i64 (a1 + (1 : Int))) - (1 : Int)))) (0 : Int)), (a0, ((IntKind.wrap .i64 (a1 + (1 : Int))), ())))) else none))
theorem g45_eq (a0 : (List Int)) (a1 : Int) : (evF (fun _ _ => Loop) E45 G45 Go.Proofs.Try.f45 plan45 c45 ((a0, (a1, ())), ())).den = g45 a0 a1 := by kernel_rfl

noncomputable def g22 (a0 : (List Int)) (a1 : Int) (a2 : (List Int)) : (Option (Int × Sp07.Tp)) :=
  (Option.bind (Sp07.on (Sp07.wf (a0, (a1, ()))) (Sp07.next (a0, (a1, ())) (Int.ofNat a2.length))) (fun y3 => (bif ((decide (0 ≤ y3.1)) && (decide (y3.1 < (Int.ofNat a2.length)))) then (some ((List.getD a2 (Int.toNat y3.1) (0 : Int)), y3.2)) else none)))
theorem g22_eq (a0 : (List Int)) (a1 : Int) (a2 : (List Int)) : (evF (fun _ _ => Loop) E22 G22 Go.Proofs.Try.f22 plan22 c22 ((a0, (a1, ())), (a2, ()))).den = g22 a0 a1 a2 := by kernel_rfl

noncomputable def g35 (a0 : (List Int)) (a1 : Int) : (Option (Int × Sp07.Tp)) :=
  (Option.bind (Sp07.on (((Sp07.wf (a0, (a1, ()))) && (decide (0 < 5))) && (decide (5 ≤ 1000))) (Sp07.pick (a0, (a1, ())) ((8 : Int) :: ((8 : Int) :: ((16 : Int) :: ((32 : Int) :: ((64 : Int) :: []))))))) (fun (y2 : (Int × Sp07.Tp)) => (some y2)))
theorem g35_eq (a0 : (List Int)) (a1 : Int) : (evF (fun _ _ => Loop) E35 G35 Go.Proofs.Try.f35 plan35 c35 ((a0, (a1, ())), ())).den = g35 a0 a1 := by kernel_rfl

noncomputable def g46 (a0 : (List Int)) (a1 : Int) (a2 : Int) (a3 : Int) : (Option (Int × Unit)) :=
  (bif (!(decide ((Sp07.take (a0, (a1, ())) a2 a3).2.1 = (0 : Int)))) then (some ((-1 : Int), ())) else (some ((IntKind.wrap .i64 (Sp07.take (a0, (a1, ())) a2 a3).1), ())))
theorem g46_eq (a0 : (List Int)) (a1 : Int) (a2 : Int) (a3 : Int) : (evF (fun _ _ => Loop) E46 G46 Go.Proofs.Try.f46 plan46 c46 ((), ((a0, (a1, ())), (a2, (a3, ()))))).den = g46 a0 a1 a2 a3 := by kernel_rfl

noncomputable def g40 (a0 : (List Int)) (a1 : Int) (a2 : Int) (a3 : Int) : (Option (Sp07.Tp × Unit)) :=
  (some ((Sp07.append (a0, (a1, ())) (IntKind.wrap .u64 a2) a3).1, ()))
theorem g40_eq (a0 : (List Int)) (a1 : Int) (a2 : Int) (a3 : Int) : (evF (fun _ _ => Loop) E40 G40 Go.Proofs.Try.f40 plan40 c40 ((), ((a0, (a1, ())), (a2, (a3, ()))))).den = g40 a0 a1 a2 a3 := by kernel_rfl

noncomputable def g56 (a0 : Int) (a1 : Int) (a2 : Int) : (Option (Bool × Unit)) :=
  (Option.bind (bif (decide (a0 ≥ a1)) then (some ((decide (a0 ≤ a2)), ())) else (some (false, ()))) (fun y3 => (some y3)))
theorem g56_eq (a0 : Int) (a1 : Int) (a2 : Int) : (evF (fun _ _ => Loop) E56 G56 Go.Proofs.Try.f56 plan56 c56 ((), (a0, (a1, (a2, ()))))).den = g56 a0 a1 a2 := by kernel_rfl
end Go.Abs.C07

namespace Go.Abs.C07
open Go Go.Abs
set_option maxRecDepth 20000
set_option linter.unusedVariables false
noncomputable def g11_s0 (a0 : Int) (a1 : (Int × (Sp07.Tp × (Sp07.Ad × Unit)))) : (Option (Sum (Int × (Sp07.Tp × (Sp07.Ad × Unit))) (Sp07.Tp × (Sp07.Ad × Unit)))) :=
  (bif (decide (a1.1 ≤ (6 : Int))) then (Option.bind (bif (!(decide (a1.1 = a0))) then (Option.bind (Sp07.on (Sp07.wf a1.2.1) (Sp07.next a1.2.1 (2 : Int))) (fun (y2 : (Int × Sp07.Tp)) => (some (y2.2, ((decide (y2.1 = (0 : Int))), ()))))) else (some (a1.2.1, (false, ())))) (fun (y2 : (Sp07.Tp × (Bool × Unit))) => (Option.bind (bif y2.2.1 then (Option.bind (Sp07.on (((Sp07.wf y2.1) && (Sp07.small (1 : Int))) && (Sp07.small (3 : Int))) (Sp07.range y2.1 (1 : Int) (3 : Int))) (fun (y3 : (Int × Sp07.Tp)) => (Option.bind (Sp07.on (Sp07.wf y3.2) (Sp07.next y3.2 (3 : Int))) (fun (y4 : (Int × Sp07.Tp)) => (bif (Nat.ble ((a1.2.2.1.2.2.2.1.length + 1) * 24) 140737488355328) then (some (y4.2, ((a1.2.2.1.1, (a1.2.2.1.2.1, (a1.2.2.1.2.2.1, ((a1.2.2.1.2.2.2.1 ++ ((a1.1, (y3.1, (y4.1, ()))) :: [])), a1.2.2.1.2.2.2.2)))), ()))) else none))))) else (some (y2.1, a1.2.2))) (fun (y3 : (Sp07.Tp × (Sp07.Ad × Unit))) => (some (.inl ((IntKind.wrap .i64 (a1.1 + (1 : Int))), y3))))))) else (some (.inr a1.2)))
noncomputable def g11_s1 (a0 : (Int × (Sp07.Tp × (Sp07.Ad × Unit)))) : (Option (Sum (Int × (Sp07.Tp × (Sp07.Ad × Unit))) (Sp07.Tp × (Sp07.Ad × Unit)))) :=
  (bif (decide (a0.1 < (2 : Int))) then (Option.bind (Sp07.on (Sp07.wf a0.2.1) (Sp07.next a0.2.1 (2 : Int))) (fun (y1 : (Int × Sp07.Tp)) => (Option.bind (bif (decide (y1.1 = (0 : Int))) then (Option.bind (Sp07.on (((Sp07.wf y1.2) && (Sp07.small (1 : Int))) && (Sp07.small (9 : Int))) (Sp07.range y1.2 (1 : Int) (9 : Int))) (fun (y2 : (Int × Sp07.Tp)) => (Option.bind (Sp07.on (Sp07.wf y2.2) (Sp07.length y2.2)) (fun (y3 : (Int × Sp07.Tp)) => (bif (Nat.ble ((a0.2.2.1.2.2.2.2.1.length + 1) * 24) 140737488355328) then (some (y3.2, ((a0.2.2.1.1, (a0.2.2.1.2.1, (a0.2.2.1.2.2.1, (a0.2.2.1.2.2.2.1, ((a0.2.2.1.2.2.2.2.1 ++ ((a0.1, (y2.1, (y3.1, ()))) :: [])), ()))))), ()))) else none))))) else (some (y1.2, a0.2.2))) (fun (y2 : (Sp07.Tp × (Sp07.Ad × Unit))) => (some (.inl ((IntKind.wrap .i64 (a0.1 + (1 : Int))), y2))))))) else (some (.inr a0.2)))
noncomputable def g11_s2 (a0 : (Sp07.Ad × (Int × Unit))) : (Option (Sum (Sp07.Ad × (Int × Unit)) (Sp07.Ad × Unit))) :=
  (bif (decide (a0.2.1 < (54 : Int))) then (bif (Nat.ble ((a0.1.2.2.2.1.length + 1) * 24) 140737488355328) then (some (.inl ((a0.1.1, (a0.1.2.1, (a0.1.2.2.1, ((a0.1.2.2.2.1 ++ ((a0.2.1, ((1 : Int), ((0 : Int), ()))) :: [])), a0.1.2.2.2.2)))), ((IntKind.wrap .i64 (a0.2.1 + (1 : Int))), ())))) else none) else (some (.inr (a0.1, ()))))
noncomputable def g11 (a0 : (List Int)) (a1 : Int) (a2 : Int) (a3 : Int) : (Option (Sp07.Ad × Sp07.Tp)) :=
  (Option.bind (Sp07.on (((Sp07.wf (a0, (a1, ()))) && (decide (0 < 7))) && (decide (7 ≤ 1000))) (Sp07.pick (a0, (a1, ())) ((1 : Int) :: ((1 : Int) :: ((2 : Int) :: ((3 : Int) :: ((3 : Int) :: ((500000 : Int) :: ((1000000 : Int) :: []))))))))) (fun (y4 : (Int × Sp07.Tp)) => (Option.bind (Sp07.on (Sp07.wf y4.2) (Sp07.next y4.2 (3 : Int))) (fun (y5 : (Int × Sp07.Tp)) => (Option.bind (Loop (@g11_s0 a2) ((1 : Int), (y5.2, ((a2, (y4.1, ((decide (y5.1 > (0 : Int))), ([], ([], ()))))), ())))) (fun (y6 : (Sp07.Tp × (Sp07.Ad × Unit))) => (Option.bind (Loop g11_s1 ((0 : Int), y6)) (fun (y7 : (Sp07.Tp × (Sp07.Ad × Unit))) => (Option.bind (bif (decide (a3 > (0 : Int))) then (Option.bind (Sp07.on ((Sp07.wf y7.1) && (Sp07.small a3)) (Sp07.one y7.1 a3)) (fun (y8 : (Bool × Sp07.Tp)) => (some (y8.2, (y8.1, ()))))) else (some (y7.1, (false, ())))) (fun (y8 : (Sp07.Tp × (Bool × Unit))) => (Option.bind (bif y8.2.1 then (Option.bind (Sp07.on (Sp07.wf y8.1) (Sp07.next y8.1 (6 : Int))) (fun (y9 : (Int × Sp07.Tp)) => (Option.bind (bif (decide (y9.1 = (0 : Int))) then (Option.bind (Sp07.on (Sp07.wf y9.2) (Sp07.wild y9.2)) (fun (y10 : (Int × Sp07.Tp)) => (some (y10.2, ((y10.1, y7.2.1.2), ()))))) else (Option.bind (bif (decide (y9.1 = (1 : Int))) then (Option.bind (Sp07.on (Sp07.wf y9.2) (Sp07.wild y9.2)) (fun (y10 : (Int × Sp07.Tp)) => (some ((y7.2.1.1, (y10.1, y7.2.1.2.2)), (y10.2, ()))))) else (Option.bind (bif (decide (y9.1 = (2 : Int))) then (Option.bind (Sp07.on (((Sp07.wf y9.2) && (decide (0 < ((0 : Int) :: (a2 :: ((6 : Int) :: ((99 : Int) :: ((100 : Int) :: []))))).length))) && (decide (((0 : Int) :: (a2 :: ((6 : Int) :: ((99 : Int) :: ((100 : Int) :: []))))).length ≤ 1000))) (Sp07.pick y9.2 ((0 : Int) :: (a2 :: ((6 : Int) :: ((99 : Int) :: ((100 : Int) :: []))))))) (fun (y10 : (Int × Sp07.Tp)) => (Option.bind (Sp07.on (((Sp07.wf y10.2) && (decide (0 < 4))) && (decide (4 ≤ 1000))) (Sp07.pick y10.2 ((0 : Int) :: ((1 : Int) :: ((1000 : Int) :: ((1001 : Int) :: [])))))) (fun (y11 : (Int × Sp07.Tp)) => (Option.bind (Sp07.on (((Sp07.wf y11.2) && (decide (0 < 4))) && (decide (4 ≤ 1000))) (Sp07.pick y11.2 ((-1 : Int) :: ((0 : Int) :: ((1000 : Int) :: ((1001 : Int) :: [])))))) (fun (y12 : (Int × Sp07.Tp)) => (bif (Nat.ble ((y7.2.1.2.2.2.1.length + 1) * 24) 140737488355328) then (some (y12.2, ((y7.2.1.1, (y7.2.1.2.1, (y7.2.1.2.2.1, ((y7.2.1.2.2.2.1 ++ ((y10.1, (y11.1, (y12.1, ()))) :: [])), y7.2.1.2.2.2.2)))), ()))) else none))))))) else (Option.bind (bif (decide (y9.1 = (3 : Int))) then (Option.bind (Sp07.on (((Sp07.wf y9.2) && (decide (0 < 4))) && (decide (4 ≤ 1000))) (Sp07.pick y9.2 ((-1 : Int) :: ((0 : Int) :: ((7 : Int) :: ((8 : Int) :: [])))))) (fun (y10 : (Int × Sp07.Tp)) => (Option.bind (Sp07.on (((Sp07.wf y10.2) && (decide (0 < 4))) && (decide (4 ≤ 1000))) (Sp07.pick y10.2 ((0 : Int) :: ((1 : Int) :: ((256 : Int) :: ((257 : Int) :: [])))))) (fun (y11 : (Int × Sp07.Tp)) => (Option.bind (Sp07.on (((Sp07.wf y11.2) && (decide (0 < 4))) && (decide (4 ≤ 1000))) (Sp07.pick y11.2 ((0 : Int) :: ((8 : Int) :: ((9 : Int) :: ((64 : Int) :: [])))))) (fun (y12 : (Int × Sp07.Tp)) => (bif (Nat.ble ((y7.2.1.2.2.2.2.1.length + 1) * 24) 140737488355328) then (some ((y7.2.1.1, (y7.2.1.2.1, (y7.2.1.2.2.1, (y7.2.1.2.2.2.1, ((y7.2.1.2.2.2.2.1 ++ ((y10.1, (y11.1, (y12.1, ()))) :: [])), ()))))), (y12.2, ()))) else none))))))) else (Option.bind (bif (decide (y9.1 = (4 : Int))) then (Option.bind (Loop g11_s2 (y7.2.1, ((30 : Int), ()))) (fun (y10 : (Sp07.Ad × Unit)) => (some (y9.2, y10)))) else (Option.bind (bif (decide ((Int.ofNat y7.2.1.2.2.2.1.length) > (0 : Int))) then (Option.bind (Sp07.on (Sp07.wf y9.2) (Sp07.wild y9.2)) (fun (y10 : (Int × Sp07.Tp)) => (bif (true && (decide ((0 : Int) < (Int.ofNat y7.2.1.2.2.2.1.length)))) then (bif (Nat.blt 0 y7.2.1.2.2.2.1.length) then (some ((y7.2.1.1, (y7.2.1.2.1, (y7.2.1.2.2.1, ((List.set y7.2.1.2.2.2.1 0 ((List.getD y7.2.1.2.2.2.1 0 (0, 0, 0, ())).1, (y10.1, (List.getD y7.2.1.2.2.2.1 0 (0, 0, 0, ())).2.2))), y7.2.1.2.2.2.2)))), (y10.2, ()))) else none) else none))) else (some (y7.2.1, (y9.2, ())))) (fun (y10 : (Sp07.Ad × (Sp07.Tp × Unit))) => (some (y10.2.1, (y10.1, ())))))) (fun (y10 : (Sp07.Tp × (Sp07.Ad × Unit))) => (some (y10.2.1, (y10.1, ())))))) (fun (y10 : (Sp07.Ad × (Sp07.Tp × Unit))) => (some (y10.2.1, (y10.1, ())))))) (fun (y10 : (Sp07.Tp × (Sp07.Ad × Unit))) => (some (y10.2.1, (y10.1, ())))))) (fun (y10 : (Sp07.Ad × (Sp07.Tp × Unit))) => (some (y10.2.1, (y10.1, ())))))) (fun (y10 : (Sp07.Tp × (Sp07.Ad × Unit))) => (some y10))))) else (some (y8.1, y7.2))) (fun (y9 : (Sp07.Tp × (Sp07.Ad × Unit))) => (some (y9.2.1, y9.1))))))))))))))
theorem g11_eq (a0 : (List Int)) (a1 : Int) (a2 : Int) (a3 : Int) : (evF (fun _ _ => Loop) E11 G11 Go.Proofs.Try.f11 plan11 c11 ((a0, (a1, ())), (a2, (a3, ())))).den = g11 a0 a1 a2 a3 := by kernel_rfl

noncomputable def g57_s0 (a0 : (List Sp07.Rc)) (a1 : (Int × Unit)) : (Option (Sum (Int × Unit) (Bool × ((Bool × Unit) × Unit)))) :=
  (bif (decide (a1.1 < (Int.ofNat a0.length))) then (Option.bind (bif ((decide (0 ≤ a1.1)) && (decide (a1.1 < (Int.ofNat a0.length)))) then (bif (!(!(Sp07.inside (List.getD a0 (Int.toNat a1.1) (0, 0, 0, ())).1 (0 : Int) (7 : Int)))) then (bif (!(!(Sp07.inside (List.getD a0 (Int.toNat a1.1) (0, 0, 0, ())).1 (0 : Int) (7 : Int)))) then (bif (!(!(Sp07.inside (List.getD a0 (Int.toNat a1.1) (0, 0, 0, ())).1 (0 : Int) (7 : Int)))) then (bif ((decide (0 ≤ a1.1)) && (decide (a1.1 < (Int.ofNat a0.length)))) then (bif (!(!(Sp07.inside (List.getD a0 (Int.toNat a1.1) (0, 0, 0, ())).1 (0 : Int) (7 : Int)))) then (bif (!(!(Sp07.inside (List.getD a0 (Int.toNat a1.1) (0, 0, 0, ())).1 (0 : Int) (7 : Int)))) then (bif (!(!(Sp07.inside (List.getD a0 (Int.toNat a1.1) (0, 0, 0, ())).1 (0 : Int) (7 : Int)))) then (bif (!(!(Sp07.inside (List.getD a0 (Int.toNat a1.1) (0, 0, 0, ())).1 (0 : Int) (7 : Int)))) then (bif (!(!(Sp07.inside (List.getD a0 (Int.toNat a1.1) (0, 0, 0, ())).1 (0 : Int) (7 : Int)))) then (bif (!(!(Sp07.inside (List.getD a0 (Int.toNat a1.1) (0, 0, 0, ())).2.1 (1 : Int) (256 : Int)))) then (bif (!(!(Sp07.inside (List.getD a0 (Int.toNat a1.1) (0, 0, 0, ())).2.1 (1 : Int) (256 : Int)))) then (bif (!(!(Sp07.inside (List.getD a0 (Int.toNat a1.1) (0, 0, 0, ())).2.1 (1 : Int) (256 : Int)))) then (bif ((decide (0 ≤ a1.1)) && (decide (a1.1 < (Int.ofNat a0.length)))) then (bif (!(!(Sp07.inside (List.getD a0 (Int.toNat a1.1) (0, 0, 0, ())).2.1 (1 : Int) (256 : Int)))) then (bif (!(!(Sp07.inside (List.getD a0 (Int.toNat a1.1) (0, 0, 0, ())).2.1 (1 : Int) (256 : Int)))) then (bif (!(!(Sp07.inside (List.getD a0 (Int.toNat a1.1) (0, 0, 0, ())).2.1 (1 : Int) (256 : Int)))) then (bif (!(!(Sp07.inside (List.getD a0 (Int.toNat a1.1) (0, 0, 0, ())).2.1 (1 : Int) (256 : Int)))) then (bif (!(!(Sp07.inside (List.getD a0 (Int.toNat a1.1) (0, 0, 0, ())).2.1 (1 : Int) (256 : Int)))) then (bif (!(!(Sp07.vlen (List.getD a0 (Int.toNat a1.1) (0, 0, 0, ())).2.2.1))) then (bif (!(!(Sp07.vlen (List.getD a0 (Int.toNat a1.1) (0, 0, 0, ())).2.2.1))) then (bif (!(!(Sp07.vlen (List.getD a0 (Int.toNat a1.1) (0, 0, 0, ())).2.2.1))) then (bif (decide (a1.1 > (0 : Int))) then (bif (decide (a1.1 > (0 : Int))) then (bif (decide (a1.1 > (0 : Int))) then (bif (decide (a1.1 > (0 : Int))) then (bif ((decide (0 ≤ (IntKind.wrap .i64 (a1.1 - (1 : Int))))) && (decide ((IntKind.wrap .i64 (a1.1 - (1 : Int))) < (Int.ofNat a0.length)))) then (bif (decide (a1.1 > (0 : Int))) then (bif (decide (a1.1 > (0 : Int))) then (bif (decide (a1.1 > (0 : Int))) then (bif (decide (a1.1 > (0 : Int))) then (bif (decide (a1.1 > (0 : Int))) then (bif ((decide (0 ≤ a1.1)) && (decide (a1.1 < (Int.ofNat a0.length)))) then (bif (decide (a1.1 > (0 : Int))) then (bif (decide (a1.1 > (0 : Int))) then (bif (decide (a1.1 > (0 : Int))) then (bif (!(!(Sp07.vlen (List.getD a0 (Int.toNat a1.1) (0, 0, 0, ())).2.2.1))) then (bif (decide (a1.1 > (0 : Int))) then (bif (!(!(Sp07.vlen (List.getD a0 (Int.toNat a1.1) (0, 0, 0, ())).2.2.1))) then (some ((decide ((List.getD a0 (Int.toNat (IntKind.wrap .i64 (a1.1 - (1 : Int)))) (0, 0, 0, ())).1 ≥ (List.getD a0 (Int.toNat a1.1) (0, 0, 0, ())).1)), ())) else none) else none) else none) else none) else none) else none) else none) else none) else none) else none) else none) else none) else none) else none) else none) else none) else (bif (!(decide (a1.1 > (0 : Int)))) then (bif (!(decide (a1.1 > (0 : Int)))) then (bif (!(decide (a1.1 > (0 : Int)))) then (bif (!(decide (a1.1 > (0 : Int)))) then (bif (!(decide (a1.1 > (0 : Int)))) then (bif (!(decide (a1.1 > (0 : Int)))) then (bif (!(decide (a1.1 > (0 : Int)))) then (bif (!(decide (a1.1 > (0 : Int)))) then (bif (!(decide (a1.1 > (0 : Int)))) then (bif (!(decide (a1.1 > (0 : Int)))) then (bif (!(decide (a1.1 > (0 : Int)))) then (bif (!(!(Sp07.vlen (List.getD a0 (Int.toNat a1.1) (0, 0, 0, ())).2.2.1))) then (bif (!(decide (a1.1 > (0 : Int)))) then (bif (!(!(Sp07.vlen (List.getD a0 (Int.toNat a1.1) (0, 0, 0, ())).2.2.1))) then (some (false, ())) else none) else none) else none) else none) else none) else none) else none) else none) else none) else none) else none) else none) else none) else none)) else none) else none) else (bif (!(Sp07.vlen (List.getD a0 (Int.toNat a1.1) (0, 0, 0, ())).2.2.1)) then (bif (!(Sp07.vlen (List.getD a0 (Int.toNat a1.1) (0, 0, 0, ())).2.2.1)) then (bif (!(Sp07.vlen (List.getD a0 (Int.toNat a1.1) (0, 0, 0, ())).2.2.1)) then (bif (!(Sp07.vlen (List.getD a0 (Int.toNat a1.1) (0, 0, 0, ())).2.2.1)) then (some (true, ())) else none) else none) else none) else none)) else none) else none) else none) else none) else none) else none) else none) else none) else (bif (!(Sp07.inside (List.getD a0 (Int.toNat a1.1) (0, 0, 0, ())).2.1 (1 : Int) (256 : Int))) then (bif (!(Sp07.inside (List.getD a0 (Int.toNat a1.1) (0, 0, 0, ())).2.1 (1 : Int) (256 : Int))) then (bif (!(Sp07.inside (List.getD a0 (Int.toNat a1.1) (0, 0, 0, ())).2.1 (1 : Int) (256 : Int))) then (bif (!(Sp07.inside (List.getD a0 (Int.toNat a1.1) (0, 0, 0, ())).2.1 (1 : Int) (256 : Int))) then (bif (!(Sp07.inside (List.getD a0 (Int.toNat a1.1) (0, 0, 0, ())).2.1 (1 : Int) (256 : Int))) then (bif (!(Sp07.inside (List.getD a0 (Int.toNat a1.1) (0, 0, 0, ())).2.1 (1 : Int) (256 : Int))) then (bif (!(Sp07.inside (List.getD a0 (Int.toNat a1.1) (0, 0, 0, ())).2.1 (1 : Int) (256 : Int))) then (some (true, ())) else none) else none) else none) else none) else none) else none) else none)) else none) else none) else none) else none) else none) else none) else none) else none) else (bif (!(Sp07.inside (List.getD a0 (Int.toNat a1.1) (0, 0, 0, ())).1 (0 : Int) (7 : Int))) then (bif (!(Sp07.inside (List.getD a0 (Int.toNat a1.1) (0, 0, 0, ())).1 (0 : Int) (7 : Int))) then (bif (!(Sp07.inside (List.getD a0 (Int.toNat a1.1) (0, 0, 0, ())).1 (0 : Int) (7 : Int))) then (bif (!(Sp07.inside (List.getD a0 (Int.toNat a1.1) (0, 0, 0, ())).1 (0 : Int) (7 : Int))) then (bif (!(Sp07.inside (List.getD a0 (Int.toNat a1.1) (0, 0, 0, ())).1 (0 : Int) (7 : Int))) then (bif (!(Sp07.inside (List.getD a0 (Int.toNat a1.1) (0, 0, 0, ())).1 (0 : Int) (7 : Int))) then (bif (!(Sp07.inside (List.getD a0 (Int.toNat a1.1) (0, 0, 0, ())).1 (0 : Int) (7 : Int))) then (some (true, ())) else none) else none) else none) else none) else none) else none) else none)) else none) (fun y2 => (bif y2.1 then (some (.inr (true, ((false, ()), ())))) else (some (.inl ((IntKind.wrap .i64 (a1.1 + (1 : Int))), ())))))) else (some (.inr (false, ((false, ()), ())))))
noncomputable def g57 (a0 : (List Sp07.Rc)) : (Option (Bool × Unit)) :=
  (bif (decide ((Int.ofNat a0.length) > (8 : Int))) then (some (false, ())) else (Option.bind (Loop (@g57_s0 a0) ((0 : Int), ())) (fun y1 => (bif y1.1 then (some y1.2.1) else (some (true, ()))))))
theorem g57_eq (a0 : (List Sp07.Rc)) : (evF (fun _ _ => Loop) E57 G57 Go.Proofs.Try.f57 plan57 c57 ((), (a0, ()))).den = g57 a0 := by kernel_rfl

noncomputable def g3_s0 (a0 : Int) (a1 : Int) (a2 : Bool) (a3 : (List Sp07.Rc)) (a4 : (List Sp07.Rc)) (a5 : (Int × ((@List Sp07.Ad) × Unit))) : (Option (Sum (Int × ((@List Sp07.Ad) × Unit)) (Bool × ((Bool × Unit) × Unit)))) :=
  (Option.bind (bif (decide (a5.1 < (Int.ofNat a5.2.1.length))) then (some (a5.2.1, ((!(Sp07.big (a0, (a1, (a2, (a3, (a4, ()))))))), ()))) else (some (a5.2.1, (false, ())))) (fun (y6 : ((@List Sp07.Ad) × (Bool × Unit))) => (bif y6.2.1 then (bif ((decide (0 ≤ a5.1)) && (decide (a5.1 < (Int.ofNat y6.1.length)))) then (bif (Nat.blt (Int.toNat a5.1) y6.1.length) then (bif ((decide (0 ≤ a5.1)) && (decide (a5.1 < (Int.ofNat y6.1.length)))) then (bif (Nat.blt (Int.toNat a5.1) y6.1.length) then (Option.bind (bif (!(!(@List.beq Int (@instBEqOfDecidableEq Int Int.instDecidableEq) (Sp07.encode (List.getD y6.1 (Int.toNat a5.1) ((0 : Int), ((0 : Int), (false, ([], ([], ()))))))).1 (Sp07.encode (List.getD y6.1 (Int.toNat a5.1) ((0 : Int), ((0 : Int), (false, ([], ([], ()))))))).1))) then (some ((!(decide ((Sp07.encode (List.getD y6.1 (Int.toNat a5.1) ((0 : Int), ((0 : Int), (false, ([], ([], ()))))))).2.1 = (Sp07.encode (List.getD y6.1 (Int.toNat a5.1) ((0 : Int), ((0 : Int), (false, ([], ([], ()))))))).2.1))), ())) else (some (true, ()))) (fun (y7 : (Bool × Unit)) => (bif y7.1 then (some (.inr (true, ((false, ()), ())))) else (Option.bind (bif (decide ((Sp07.encode (List.getD y6.1 (Int.toNat a5.1) ((0 : Int), ((0 : Int), (false, ([], ([], ()))))))).2.1 = (0 : Int))) then (Option.bind (bif (!(!(decide ((Sp07.decode (Sp07.encode (List.getD y6.1 (Int.toNat a5.1) ((0 : Int), ((0 : Int), (false, ([], ([], ()))))))).1).2.1 = (0 : Int))))) then (bif (!(!(decide ((Sp07.decode (Sp07.encode (List.getD y6.1 (Int.toNat a5.1) ((0 : Int), ((0 : Int), (false, ([], ([], ()))))))).1).2.1 = (0 : Int))))) then (bif (!(!(decide ((Sp07.decode (Sp07.encode (List.getD y6.1 (Int.toNat a5.1) ((0 : Int), ((0 : Int), (false, ([], ([], ()))))))).1).2.1 = (0 : Int))))) then (bif (!(!(decide ((Sp07.decode (Sp07.encode (List.getD y6.1 (Int.toNat a5.1) ((0 : Int), ((0 : Int), (false, ([], ([], ()))))))).1).2.1 = (0 : Int))))) then (bif ((decide (0 ≤ a5.1)) && (decide (a5.1 < (Int.ofNat y6.1.length)))) then (bif (!(!(decide ((Sp07.decode (Sp07.encode (List.getD y6.1 (Int.toNat a5.1) ((0 : Int), ((0 : Int), (false, ([], ([], ()))))))).1).2.1 = (0 : Int))))) then (bif (Nat.blt (Int.toNat a5.1) y6.1.length) then (bif (!(!(decide ((Sp07.decode (Sp07.encode (List.getD y6.1 (Int.toNat a5.1) ((0 : Int), ((0 : Int), (false, ([], ([], ()))))))).1).2.1 = (0 : Int))))) then (bif (!(!(decide ((Sp07.decode (Sp07.encode (List.getD y6.1 (Int.toNat a5.1) ((0 : Int), ((0 : Int), (false, ([], ([], ()))))))).1).2.1 = (0 : Int))))) then (bif (!(!(decide ((Sp07.decode (Sp07.encode (List.getD y6.1 (Int.toNat a5.1) ((0 : Int), ((0 : Int), (false, ([], ([], ()))))))).1).2.1 = (0 : Int))))) then (some (y6.1, ((!(Sp07.sameA (Sp07.decode (Sp07.encode (List.getD y6.1 (Int.toNat a5.1) ((0 : Int), ((0 : Int), (false, ([], ([], ()))))))).1).1 (List.getD y6.1 (Int.toNat a5.1) ((0 : Int), ((0 : Int), (false, ([], ([], ())))))))), ()))) else none) else none) else none) else none) else none) else none) else none) else none) else none) else (bif (!(decide ((Sp07.decode (Sp07.encode (List.getD y6.1 (Int.toNat a5.1) ((0 : Int), ((0 : Int), (false, ([], ([], ()))))))).1).2.1 = (0 : Int)))) then (bif (!(decide ((Sp07.decode (Sp07.encode (List.getD y6.1 (Int.toNat a5.1) ((0 : Int), ((0 : Int), (false, ([], ([], ()))))))).1).2.1 = (0 : Int)))) then (bif (!(decide ((Sp07.decode (Sp07.encode (List.getD y6.1 (Int.toNat a5.1) ((0 : Int), ((0 : Int), (false, ([], ([], ()))))))).1).2.1 = (0 : Int)))) then (bif (!(decide ((Sp07.decode (Sp07.encode (List.getD y6.1 (Int.toNat a5.1) ((0 : Int), ((0 : Int), (false, ([], ([], ()))))))).1).2.1 = (0 : Int)))) then (bif (!(decide ((Sp07.decode (Sp07.encode (List.getD y6.1 (Int.toNat a5.1) ((0 : Int), ((0 : Int), (false, ([], ([], ()))))))).1).2.1 = (0 : Int)))) then (bif (!(decide ((Sp07.decode (Sp07.encode (List.getD y6.1 (Int.toNat a5.1) ((0 : Int), ((0 : Int), (false, ([], ([], ()))))))).1).2.1 = (0 : Int)))) then (bif (!(decide ((Sp07.decode (Sp07.encode (List.getD y6.1 (Int.toNat a5.1) ((0 : Int), ((0 : Int), (false, ([], ([], ()))))))).1).2.1 = (0 : Int)))) then (some (y6.1, (true, ()))) else none) else none) else none) else none) else none) else none) else none)) (fun (y8 : ((@List Sp07.Ad) × (Bool × Unit))) => (bif y8.2.1 then (some (true, ((false, ()), ([], ())))) else (some (false, ((false, ()), (y8.1, ()))))))) else (some (false, ((false, ()), (y6.1, ()))))) (fun (y8 : (Bool × ((Bool × Unit) × ((@List Sp07.Ad) × Unit)))) => (bif y8.1 then (some (.inr (true, (y8.2.1, ())))) else (some (.inl ((IntKind.wrap .i64 (a5.1 + (1 : Int))), y8.2.2))))))))) else none) else none) else none) else none) else (some (.inr (false, ((false, ()), ())))))))
noncomputable def g3 (a0 : (List Int)) (a1 : Int) (a2 : Int) (a3 : Bool) (a4 : (List Sp07.Rc)) (a5 : (List Sp07.Rc)) : (Option (Bool × Unit)) :=
  (Option.bind (Sp07.on (((Sp07.wf (Sp07.tape a0)) && (Sp07.small (1 : Int))) && (Sp07.small (6 : Int))) (Sp07.range (Sp07.tape a0) (1 : Int) (6 : Int))) (fun (y6 : (Int × Sp07.Tp)) => (Option.bind (Sp07.on ((Sp07.wf y6.2) && (Sp07.inside (3 : Int) (0 : Int) (1000 : Int))) (Sp07.advert y6.2 y6.1 (3 : Int))) (fun (y7 : (Sp07.Ad × Sp07.Tp)) => (Option.bind (Sp07.on (((Sp07.wf y7.2) && (Sp07.small (1 : Int))) && (Sp07.small (6 : Int))) (Sp07.range y7.2 (1 : Int) (6 : Int))) (fun (y8 : (Int × Sp07.Tp)) => (Option.bind (Sp07.on ((Sp07.wf y8.2) && (Sp07.inside (0 : Int) (0 : Int) (1000 : Int))) (Sp07.advert y8.2 y8.1 (0 : Int))) (fun (y9 : (Sp07.Ad × Sp07.Tp)) => (Option.bind (Loop (@g3_s0 a1 a2 a3 a4 a5) ((0 : Int), ((y7.1 :: (y9.1 :: ((a1, (a2, (a3, (a4, (a5, ()))))) :: []))), ()))) (fun (y10 : (Bool × ((Bool × Unit) × Unit))) => (bif y10.1 then (some y10.2.1) else (some (true, ())))))))))))))
noncomputable def g14_s0 (a0 : (List Sp07.Rc)) (a1 : (Sp07.Tp × (Int × Unit))) : (Option (Sum (Sp07.Tp × (Int × Unit)) (Sp07.Tp × Unit))) :=
  (bif (decide (a1.2.1 < (Int.ofNat a0.length))) then (bif ((decide (0 ≤ a1.2.1)) && (decide (a1.2.1 < (Int.ofNat a0.length)))) then (some (.inl ((Sp07.append (Sp07.append (Sp07.append a1.1 (IntKind.wrap .u64 (List.getD a0 (Int.toNat a1.2.1) (0, 0, 0, ())).1) (7 : Int)).1 (IntKind.wrap .u64 (List.getD a0 (Int.toNat a1.2.1) (0, 0, 0, ())).2.1) (10 : Int)).1 (IntKind.wrap .u64 (List.getD a0 (Int.toNat a1.2.1) (0, 0, 0, ())).2.2.1) (10 : Int)).1, ((IntKind.wrap .i64 (a1.2.1 + (1 : Int))), ())))) else none) else (some (.inr (a1.1, ()))))
noncomputable def g14_s1 (a0 : (List Sp07.Rc)) (a1 : (Sp07.Tp × (Int × Unit))) (a2 : (Int × Unit)) : (Option (Sum (Int × Unit) (Int × Unit))) :=
  (bif (decide (0 ≤ a2.1)) then (bif (decide ((IntKind.wrap .i64 ((8 : Int) * (@Int.pow (2 : Int) (@Min.min Nat instMinNat (Int.toNat a2.1) 64)))) < (List.getD a0 (Int.toNat a1.2.1) (0, 0, 0, ())).2.2.1)) then (some (.inl ((IntKind.wrap .i64 (a2.1 + (1 : Int))), ()))) else (some (.inr a2))) else none)
noncomputable def g14_s2 (a0 : (List Sp07.Rc)) (a1 : (Sp07.Tp × (Int × Unit))) : (Option (Sum (Sp07.Tp × (Int × Unit)) (Sp07.Tp × Unit))) :=
  (bif (decide (a1.2.1 < (Int.ofNat a0.length))) then (bif ((decide (0 ≤ a1.2.1)) && (decide (a1.2.1 < (Int.ofNat a0.length)))) then (Option.bind (Loop (@g14_s1 a0 a1) ((0 : Int), ())) (fun y2 => (some (.inl ((Sp07.append (Sp07.append (Sp07.append a1.1 (IntKind.wrap .u64 (List.getD a0 (Int.toNat a1.2.1) (0, 0, 0, ())).1) (3 : Int)).1 (IntKind.wrap .u64 (List.getD a0 (Int.toNat a1.2.1) (0, 0, 0, ())).2.1) (9 : Int)).1 (IntKind.wrap .u64 y2.1) (2 : Int)).1, ((IntKind.wrap .i64 (a1.2.1 + (1 : Int))), ())))))) else none) else (some (.inr (a1.1, ()))))
noncomputable def g14 (a0 : Int) (a1 : Int) (a2 : Bool) (a3 : (List Sp07.Rc)) (a4 : (List Sp07.Rc)) : (Option (Sp07.Tp × Unit)) :=
  (bif (!(Sp07.validA (a0, (a1, (a2, (a3, (a4, ()))))))) then (some (([], ((1 : Int), ())), ())) else (Option.bind (bif a2 then (some ((1 : Int), ())) else (some ((0 : Int), ()))) (fun (y5 : (Int × Unit)) => (Option.bind (Loop (@g14_s0 a3) ((Sp07.append (Sp07.append (Sp07.append (Sp07.append ([], ((0 : Int), ())) (IntKind.wrap .u64 a0) (7 : Int)).1 (IntKind.wrap .u64 a1) (20 : Int)).1 (IntKind.wrap .u64 y5.1) (1 : Int)).1 (IntKind.wrap .u64 (Int.ofNat a3.length)) (5 : Int)).1, ((0 : Int), ()))) (fun (y6 : (Sp07.Tp × Unit)) => (Option.bind (Loop (@g14_s2 a4) ((Sp07.append y6.1 (IntKind.wrap .u64 (Int.ofNat a4.length)) (4 : Int)).1, ((0 : Int), ()))) (fun (y7 : (Sp07.Tp × Unit)) => (some (((Sp07.append y7.1 (IntKind.wrap .u64 (IntKind.wrap .i64 (Sp07.check y7.1).1)) (16 : Int)).1.1, ((0 : Int), ())), ())))))))))
theorem g14_eq (a0 : Int) (a1 : Int) (a2 : Bool) (a3 : (List Sp07.Rc)) (a4 : (List Sp07.Rc)) : (evF (fun _ _ => Loop) E14 G14 Go.Proofs.Try.f14 plan14 c14 ((), ((a0, (a1, (a2, (a3, (a4, ()))))), ()))).den = g14 a0 a1 a2 a3 a4 := by kernel_rfl

noncomputable def g70 (a0 : (List Int)) (a1 : Int) : (Option (Bool × Unit)) :=
  (Option.bind (bif (!(decide (a1 < (0 : Int)))) then (bif (!(decide (a1 < (0 : Int)))) then (bif (!(decide (a1 < (0 : Int)))) then (bif (!(decide (a1 < (0 : Int)))) then (bif (!(decide (a1 > (8192 : Int)))) then (bif (!(decide (a1 > (8192 : Int)))) then (bif (!(decide (a1 > (8192 : Int)))) then (bif (!(decide (a1 > (8192 : Int)))) then (bif (!(decide (a1 > (8192 : Int)))) then (bif (!(decide (a1 > (8192 : Int)))) then (Option.bind (Sp07.on ((decide (0 ≤ a1)) && (decide (a1 ≤ (1099511627776 : Int)))) ((@Int.ediv (a1 + (7 : Int)) (8 : Int)), ())) (fun y2 => (bif (!(decide (a1 > (8192 : Int)))) then (bif (!(decide (a1 > (8192 : Int)))) then (some ((!(decide ((Int.ofNat a0.length) = y2.1))), ())) else none) else none))) else none) else none) else none) else none) else none) else (bif (decide (a1 > (8192 : Int))) then (bif (decide (a1 > (8192 : Int))) then (bif (decide (a1 > (8192 : Int))) then (bif (decide (a1 > (8192 : Int))) then (bif (decide (a1 > (8192 : Int))) then (bif (decide (a1 > (8192 : Int))) then (bif (decide (a1 > (8192 : Int))) then (some (true, ())) else none) else none) else none) else none) else none) else none) else none)) else none) else none) else none) else (bif (decide (a1 < (0 : Int))) then (bif (decide (a1 < (0 : Int))) then (bif (decide (a1 < (0 : Int))) then (some (true, ())) else none) else none) else none)) (fun y2 => (bif y2.1 then (some (false, ())) else (Option.bind (bif (!(decide ((IntKind.wrap .i64 ((IntKind.wrap .i64 ((8 : Int) * (Int.ofNat a0.length))) - a1)) = (0 : Int)))) then (bif ((decide (0 ≤ (IntKind.wrap .i64 ((Int.ofNat a0.length) - (1 : Int))))) && (decide ((IntKind.wrap .i64 ((Int.ofNat a0.length) - (1 : Int))) < (Int.ofNat a0.length)))) then (bif (decide (0 ≤ (IntKind.wrap .i64 ((8 : Int) - (IntKind.wrap .i64 ((IntKind.wrap .i64 ((8 : Int) * (Int.ofNat a0.length))) - a1)))))) then (some ((decide ((IntKind.wrap .u8 ((List.getD a0 (Int.toNat (IntKind.wrap .i64 ((Int.ofNat a0.length) - (1 : Int)))) (0 : Int)) * (@Int.pow (2 : Int) (@Min.min Nat instMinNat (Int.toNat (IntKind.wrap .i64 ((8 : Int) - (IntKind.wrap .i64 ((IntKind.wrap .i64 ((8 : Int) * (Int.ofNat a0.length))) - a1))))) 8)))) = (0 : Int))), ())) else none) else none) else (some (true, ()))) (fun y3 => (some y3))))))
theorem g70_eq (a0 : (List Int)) (a1 : Int) : (evF (fun _ _ => Loop) E70 G70 Go.Proofs.Try.f70 plan70 c70 ((), ((a0, (a1, ())), ()))).den = g70 a0 a1 := by kernel_rfl

noncomputable def g59_s0 (a0 : (List Sp07.Rc)) (a1 : (List Sp07.Rc)) (a2 : (Int × Unit)) : (Option (Sum (Int × Unit) (Bool × ((Bool × Unit) × Unit)))) :=
  (bif (decide (a2.1 < (Int.ofNat a0.length))) then (bif ((decide (0 ≤ a2.1)) && (decide (a2.1 < (Int.ofNat a0.length)))) then (bif ((decide (0 ≤ a2.1)) && (decide (a2.1 < (Int.ofNat a1.length)))) then (bif (!((decide ((List.getD a0 (Int.toNat a2.1) (0, 0, 0, ())).1 = (List.getD a1 (Int.toNat a2.1) (0, 0, 0, ())).1)) && ((decide ((List.getD a0 (Int.toNat a2.1) (0, 0, 0, ())).2.1 = (List.getD a1 (Int.toNat a2.1) (0, 0, 0, ())).2.1)) && ((decide ((List.getD a0 (Int.toNat a2.1) (0, 0, 0, ())).2.2.1 = (List.getD a1 (Int.toNat a2.1) (0, 0, 0, ())).2.2.1)) && true)))) then (some (.inr (true, ((false, ()), ())))) else (some (.inl ((IntKind.wrap .i64 (a2.1 + (1 : Int))), ())))) else none) else none) else (some (.inr (false, ((false, ()), ())))))
noncomputable def g59 (a0 : (List Sp07.Rc)) (a1 : (List Sp07.Rc)) : (Option (Bool × Unit)) :=
  (bif (!(decide ((Int.ofNat a0.length) = (Int.ofNat a1.length)))) then (some (false, ())) else (Option.bind (Loop (@g59_s0 a0 a1) ((0 : Int), ())) (fun y2 => (bif y2.1 then (some y2.2.1) else (some (true, ()))))))
theorem g59_eq (a0 : (List Sp07.Rc)) (a1 : (List Sp07.Rc)) : (evF (fun _ _ => Loop) E59 G59 Go.Proofs.Try.f59 plan59 c59 ((), (a0, (a1, ())))).den = g59 a0 a1 := by kernel_rfl

noncomputable def g23_s0 (a0 : (List Int)) (a1 : Int) (a2 : (Int × (Int × Unit))) : (Option (Sum (Int × (Int × Unit)) (Int × Unit))) :=
  (bif (decide (a2.1 < a1)) then (Option.bind (Sp07.on ((decide (0 ≤ a2.1)) && (decide (a2.1 < ((8 : Int) * (Int.ofNat a0.length))))) ((Sp07.b2i (Sp07.bitAt a0 (Int.toNat a2.1))), ())) (fun y3 => (Option.bind (bif (!(decide ((@Int.fdiv a2.2.1 (32768 : Int)) = y3.1))) then (some ((IntKind.wrap .u64 (Int.ofNat (@BitVec.toNat 64 (@BitVec.xor 64 (@BitVec.ofInt 64 (IntKind.wrap .u64 (Int.ofNat (@BitVec.toNat 64 (@BitVec.and 64 (@BitVec.ofInt 64 (IntKind.wrap .u64 (a2.2.1 * (2 : Int)))) (@BitVec.ofInt 64 (65535 : Int))))))) (@BitVec.ofInt 64 (4129 : Int)))))), ())) else (some ((IntKind.wrap .u64 (Int.ofNat (@BitVec.toNat 64 (@BitVec.and 64 (@BitVec.ofInt 64 (IntKind.wrap .u64 (a2.2.1 * (2 : Int)))) (@BitVec.ofInt 64 (65535 : Int)))))), ()))) (fun y4 => (some (.inl ((IntKind.wrap .i64 (a2.1 + (1 : Int))), y4))))))) else (some (.inr a2.2)))
noncomputable def g23 (a0 : (List Int)) (a1 : Int) : (Option ((Int × (Int × Unit)) × Unit)) :=
  (bif (!(Sp07.valid (a0, (a1, ())))) then (some (((0 : Int), ((1 : Int), ())), ())) else (Option.bind (Loop (@g23_s0 a0 a1) ((0 : Int), ((65535 : Int), ()))) (fun y2 => (some ((y2.1, ((0 : Int), ())), ())))))
theorem g23_eq (a0 : (List Int)) (a1 : Int) : (evF (fun _ _ => Loop) E23 G23 Go.Proofs.Try.f23 plan23 c23 ((), ((a0, (a1, ())), ()))).den = g23 a0 a1 := by kernel_rfl

noncomputable def g50_s0 (a0 : (List Int)) (a1 : (Int × Unit)) : (Option (Sum (Int × Unit) (Bool × ((Bool × Unit) × Unit)))) :=
  (bif (decide (a1.1 < (IntKind.wrap .i64 ((8 : Int) * (Int.ofNat a0.length))))) then (Option.bind (Sp07.on ((decide (0 ≤ a1.1)) && (decide (a1.1 < ((8 : Int) * (Int.ofNat a0.length))))) ((Sp07.b2i (Sp07.bitAt a0 (Int.toNat a1.1))), ())) (fun y2 => (bif (!(decide (y2.1 = (0 : Int)))) then (some (.inr (true, ((false, ()), ())))) else (some (.inl ((IntKind.wrap .i64 (a1.1 + (1 : Int))), ())))))) else (some (.inr (false, ((false, ()), ())))))
noncomputable def g50 (a0 : (List Int)) (a1 : Int) : (Option (Bool × Unit)) :=
  (Option.bind (bif (!(decide (a1 < (0 : Int)))) then (bif (!(decide (a1 > (8192 : Int)))) then (some ((!(decide ((Int.ofNat a0.length) = (IntKind.wrap .i64 (@Int.tdiv (IntKind.wrap .i64 (a1 + (7 : Int))) (8 : Int)))))), ())) else (some (true, ()))) else (some (true, ()))) (fun y2 => (bif y2.1 then (some (false, ())) else (Option.bind (Loop (@g50_s0 a0) (a1, ())) (fun y3 => (bif y3.1 then (some y3.2.1) else (some (true, ()))))))))
theorem g50_eq (a0 : (List Int)) (a1 : Int) : (evF (fun _ _ => Loop) E50 G50 Go.Proofs.Try.f50 plan50 c50 ((), ((a0, (a1, ())), ()))).den = g50 a0 a1 := by kernel_rfl

noncomputable def g51 (a0 : (List Int)) (a1 : Int) : (Option (Int × Unit)) :=
  (bif ((decide (0 ≤ (IntKind.wrap .i64 (@Int.tdiv a1 (8 : Int))))) && (decide ((IntKind.wrap .i64 (@Int.tdiv a1 (8 : Int))) < (Int.ofNat a0.length)))) then (bif (decide (0 ≤ (IntKind.wrap .u64 (IntKind.wrap .i64 ((7 : Int) - (@Int.tmod a1 (8 : Int))))))) then (some ((IntKind.wrap .u64 (Int.ofNat (@BitVec.toNat 64 (@BitVec.and 64 (@BitVec.ofInt 64 (IntKind.wrap .u64 (@Int.fdiv (List.getD a0 (Int.toNat (IntKind.wrap .i64 (@Int.tdiv a1 (8 : Int)))) (0 : Int)) (@Int.pow (2 : Int) (@Min.min Nat instMinNat (Int.toNat (IntKind.wrap .u64 (IntKind.wrap .i64 ((7 : Int) - (@Int.tmod a1 (8 : Int)))))) 8))))) (@BitVec.ofInt 64 (1 : Int)))))), ())) else none) else none)
theorem g51_eq (a0 : (List Int)) (a1 : Int) : (evF (fun _ _ => Loop) E51 G51 Go.Proofs.Try.f51 plan51 c51 ((), (a0, (a1, ())))).den = g51 a0 a1 := by kernel_rfl

noncomputable def g42 (a0 : (List Int)) (a1 : Int) (a2 : Int) (a3 : Bool) (a4 : Int) : (Option (Int × ((List Int) × (Int × (Int × (Bool × Unit)))))) :=
  (Option.bind (bif (!a3) then (some ((a0, (a1, (a2, ((!(decide ((Sp07.take (a0, (a1, ())) a2 a4).2.1 = (0 : Int)))), ())))), ())) else (some ((a0, (a1, (a2, (true, ())))), ()))) (fun y5 => (some ((IntKind.wrap .i64 (Sp07.take (a0, (a1, ())) a2 a4).1), (y5.1.1, (y5.1.2.1, ((IntKind.wrap .i64 (y5.1.2.2.1 + a4)), y5.1.2.2.2)))))))
theorem g42_eq (a0 : (List Int)) (a1 : Int) (a2 : Int) (a3 : Bool) (a4 : Int) : (evF (fun _ _ => Loop) E42 G42 Go.Proofs.Try.f42 plan42 c42 ((a0, (a1, (a2, (a3, ())))), (a4, ()))).den = g42 a0 a1 a2 a3 a4 := by kernel_rfl

noncomputable def g13 (a0 : Int) (a1 : Int) (a2 : Bool) (a3 : (List Sp07.Rc)) (a4 : (List Sp07.Rc)) : (Option (Bool × Unit)) :=
  (Option.bind (bif (!(decide ((Int.ofNat a3.length) > (100 : Int)))) then (some ((decide ((Int.ofNat a4.length) > (100 : Int))), ())) else (some (true, ()))) (fun y5 => (some y5)))
theorem g13_eq (a0 : Int) (a1 : Int) (a2 : Bool) (a3 : (List Sp07.Rc)) (a4 : (List Sp07.Rc)) : (evF (fun _ _ => Loop) E13 G13 Go.Proofs.Try.f13 plan13 c13 ((), ((a0, (a1, (a2, (a3, (a4, ()))))), ()))).den = g13 a0 a1 a2 a3 a4 := by kernel_rfl

noncomputable def g44 (a0 : Int) (a1 : Int) : (Option (Int × Unit)) :=
  (bif (decide (a1 < (1 : Int))) then (some ((0 : Int), ())) else (bif (!(decide (a1 = (0 : Int)))) then (Option.bind (bif (decide ((@Int.tmod a0 a1) < (0 : Int))) then (some ((IntKind.wrap .i64 ((@Int.tmod a0 a1) + a1)), ())) else (some ((@Int.tmod a0 a1), ()))) (fun y2 => (some y2))) else none))
theorem g44_eq (a0 : Int) (a1 : Int) : (evF (fun _ _ => Loop) E44 G44 Go.Proofs.Try.f44 plan44 c44 ((), (a0, (a1, ())))).den = g44 a0 a1 := by kernel_rfl

noncomputable def g19 (a0 : (List Int)) (a1 : Int) (a2 : Int) : (Option (Int × Sp07.Tp)) :=
  (Option.bind (Sp07.on (Sp07.wf (a0, (a1, ()))) (Sp07.raw (a0, (a1, ())))) (fun y3 => (some ((Sp07.cut y3.1 a2), y3.2))))
theorem g19_eq (a0 : (List Int)) (a1 : Int) (a2 : Int) : (evF (fun _ _ => Loop) E19 G19 Go.Proofs.Try.f19 plan19 c19 ((a0, (a1, ())), (a2, ()))).den = g19 a0 a1 a2 := by kernel_rfl

noncomputable def g47 (a0 : Int) : (Option (Int × Unit)) :=
  (bif (decide (0 ≤ (IntKind.wrap .u64 a0))) then (some ((IntKind.wrap .i64 ((8 : Int) * (@Int.pow (2 : Int) (@Min.min Nat instMinNat (Int.toNat (IntKind.wrap .u64 a0)) 64)))), ())) else none)
theorem g47_eq (a0 : Int) : (evF (fun _ _ => Loop) E47 G47 Go.Proofs.Try.f47 plan47 c47 ((), (a0, ()))).den = g47 a0 := by kernel_rfl

noncomputable def g54 (a0 : Int) (a1 : Int) (a2 : Int) : (Option (Bool × Unit)) :=
  (Option.bind (bif (decide (a0 ≥ a1)) then (some ((decide (a0 ≤ a2)), ())) else (some (false, ()))) (fun y3 => (some y3)))
theorem g54_eq (a0 : Int) (a1 : Int) (a2 : Int) : (evF (fun _ _ => Loop) E54 G54 Go.Proofs.Try.f54 plan54 c54 ((), (a0, (a1, (a2, ()))))).den = g54 a0 a1 a2 := by kernel_rfl
end Go.Abs.C07

namespace Go.Abs.C07
open Go Go.Abs
set_option maxRecDepth 20000
set_option linter.unusedVariables false
noncomputable def g20_s0 (a0 : (Int × ((List Int) × Unit))) (a1 : (Int × Unit)) (a2 : (Sp07.Ad × (Int × Unit))) : (Option (Sum (Sp07.Ad × (Int × Unit)) (Sp07.Ad × Unit))) :=
  (bif (decide (a2.2.1 < a1.1)) then (Option.bind (Sp07.on (Sp07.inside (7 : Int) (0 : Int) (63 : Int)) ((Sp07.getR (a0.2.1, ((IntKind.wrap .i64 ((8 : Int) * (Int.ofNat a0.2.1.length))), ())) (IntKind.wrap .i64 ((33 : Int) + (IntKind.wrap .i64 ((27 : Int) * a2.2.1)))) (7 : Int)), ())) (fun (y3 : (Int × Unit)) => (Option.bind (Sp07.on (Sp07.inside (10 : Int) (0 : Int) (63 : Int)) ((Sp07.getR (a0.2.1, ((IntKind.wrap .i64 ((8 : Int) * (Int.ofNat a0.2.1.length))), ())) (IntKind.wrap .i64 ((IntKind.wrap .i64 ((33 : Int) + (IntKind.wrap .i64 ((27 : Int) * a2.2.1)))) + (7 : Int))) (10 : Int)), ())) (fun (y4 : (Int × Unit)) => (Option.bind (Sp07.on (Sp07.inside (10 : Int) (0 : Int) (63 : Int)) ((Sp07.getR (a0.2.1, ((IntKind.wrap .i64 ((8 : Int) * (Int.ofNat a0.2.1.length))), ())) (IntKind.wrap .i64 ((IntKind.wrap .i64 ((33 : Int) + (IntKind.wrap .i64 ((27 : Int) * a2.2.1)))) + (17 : Int))) (10 : Int)), ())) (fun (y5 : (Int × Unit)) => (bif (Nat.ble ((a2.1.2.2.2.1.length + 1) * 24) 140737488355328) then (some (.inl ((a2.1.1, (a2.1.2.1, (a2.1.2.2.1, ((a2.1.2.2.2.1 ++ ((y3.1, (y4.1, y5)) :: [])), a2.1.2.2.2.2)))), ((IntKind.wrap .i64 (a2.2.1 + (1 : Int))), ())))) else none))))))) else (some (.inr (a2.1, ()))))
noncomputable def g20_s1 (a0 : (Int × ((List Int) × Unit))) (a1 : (Int × Unit)) (a2 : (Int × Unit)) (a3 : (Sp07.Ad × (Int × Unit))) : (Option (Sum (Sp07.Ad × (Int × Unit)) (Sp07.Ad × Unit))) :=
  (bif (decide (a3.2.1 < a2.1)) then (Option.bind (Sp07.on (Sp07.inside (3 : Int) (0 : Int) (63 : Int)) ((Sp07.getR (a0.2.1, ((IntKind.wrap .i64 ((8 : Int) * (Int.ofNat a0.2.1.length))), ())) (IntKind.wrap .i64 ((IntKind.wrap .i64 ((IntKind.wrap .i64 ((33 : Int) + (IntKind.wrap .i64 ((27 : Int) * a1.1)))) + (4 : Int))) + (IntKind.wrap .i64 ((14 : Int) * a3.2.1)))) (3 : Int)), ())) (fun (y4 : (Int × Unit)) => (Option.bind (Sp07.on (Sp07.inside (9 : Int) (0 : Int) (63 : Int)) ((Sp07.getR (a0.2.1, ((IntKind.wrap .i64 ((8 : Int) * (Int.ofNat a0.2.1.length))), ())) (IntKind.wrap .i64 ((IntKind.wrap .i64 ((IntKind.wrap .i64 ((IntKind.wrap .i64 ((33 : Int) + (IntKind.wrap .i64 ((27 : Int) * a1.1)))) + (4 : Int))) + (IntKind.wrap .i64 ((14 : Int) * a3.2.1)))) + (3 : Int))) (9 : Int)), ())) (fun (y5 : (Int × Unit)) => (Option.bind (Sp07.on (Sp07.inside (2 : Int) (0 : Int) (63 : Int)) ((Sp07.getR (a0.2.1, ((IntKind.wrap .i64 ((8 : Int) * (Int.ofNat a0.2.1.length))), ())) (IntKind.wrap .i64 ((IntKind.wrap .i64 ((IntKind.wrap .i64 ((IntKind.wrap .i64 ((33 : Int) + (IntKind.wrap .i64 ((27 : Int) * a1.1)))) + (4 : Int))) + (IntKind.wrap .i64 ((14 : Int) * a3.2.1)))) + (12 : Int))) (2 : Int)), ())) (fun (y6 : (Int × Unit)) => (Option.bind (Sp07.on (Sp07.inside y6.1 (0 : Int) (3 : Int)) ((Sp07.decoded y6.1), ())) (fun (y7 : (Int × Unit)) => (bif (Nat.ble ((a3.1.2.2.2.2.1.length + 1) * 24) 140737488355328) then (some (.inl ((a3.1.1, (a3.1.2.1, (a3.1.2.2.1, (a3.1.2.2.2.1, ((a3.1.2.2.2.2.1 ++ ((y4.1, (y5.1, y7)) :: [])), ()))))), ((IntKind.wrap .i64 (a3.2.1 + (1 : Int))), ())))) else none))))))))) else (some (.inr (a3.1, ()))))
noncomputable def g20 (a0 : (List Int)) : (Option ((Sp07.Ad × (Int × Unit)) × Unit)) :=
  (Option.bind (bif (decide ((Int.ofNat a0.length) > (200 : Int))) then (bif (true && (decide ((200 : Int) ≤ (Int.ofNat a0.length)))) then (some ((IntKind.wrap .i64 ((Int.ofNat a0.length) - (200 : Int))), ((List.drop 0 (List.take 200 a0)), ()))) else none) else (some ((0 : Int), (a0, ())))) (fun (y1 : (Int × ((List Int) × Unit))) => (Option.bind (Sp07.on (Sp07.inside (5 : Int) (0 : Int) (63 : Int)) ((Sp07.getR (y1.2.1, ((IntKind.wrap .i64 ((8 : Int) * (Int.ofNat y1.2.1.length))), ())) (28 : Int) (5 : Int)), ())) (fun (y2 : (Int × Unit)) => (bif (decide (y2.1 < (0 : Int))) then (some ((((0 : Int), ((0 : Int), (false, ([], ([], ()))))), ((20 : Int), ())), ())) else (Option.bind (Sp07.on (Sp07.inside (4 : Int) (0 : Int) (63 : Int)) ((Sp07.getR (y1.2.1, ((IntKind.wrap .i64 ((8 : Int) * (Int.ofNat y1.2.1.length))), ())) (IntKind.wrap .i64 ((33 : Int) + (IntKind.wrap .i64 ((27 : Int) * y2.1)))) (4 : Int)), ())) (fun (y3 : (Int × Unit)) => (Option.bind (bif (!(decide (y3.1 < (0 : Int)))) then (Option.bind (Sp07.on (Sp07.inside (16 : Int) (0 : Int) (63 : Int)) ((Sp07.getR (y1.2.1, ((IntKind.wrap .i64 ((8 : Int) * (Int.ofNat y1.2.1.length))), ())) (IntKind.wrap .i64 ((IntKind.wrap .i64 ((IntKind.wrap .i64 ((33 : Int) + (IntKind.wrap .i64 ((27 : Int) * y2.1)))) + (4 : Int))) + (IntKind.wrap .i64 ((14 : Int) * y3.1)))) (16 : Int)), ())) (fun (y4 : (Int × Unit)) => (some ((decide (y4.1 < (0 : Int))), ())))) else (some (true, ()))) (fun (y4 : (Bool × Unit)) => (bif y4.1 then (some ((((0 : Int), ((0 : Int), (false, ([], ([], ()))))), ((20 : Int), ())), ())) else (Option.bind (Sp07.on (Sp07.inside (7 : Int) (0 : Int) (63 : Int)) ((Sp07.getR (y1.2.1, ((IntKind.wrap .i64 ((8 : Int) * (Int.ofNat y1.2.1.length))), ())) (0 : Int) (7 : Int)), ())) (fun (y5 : (Int × Unit)) => (Option.bind (Sp07.on (Sp07.inside (20 : Int) (0 : Int) (63 : Int)) ((Sp07.getR (y1.2.1, ((IntKind.wrap .i64 ((8 : Int) * (Int.ofNat y1.2.1.length))), ())) (7 : Int) (20 : Int)), ())) (fun (y6 : (Int × Unit)) => (Option.bind (Sp07.on (Sp07.inside (1 : Int) (0 : Int) (63 : Int)) ((Sp07.getR (y1.2.1, ((IntKind.wrap .i64 ((8 : Int) * (Int.ofNat y1.2.1.length))), ())) (27 : Int) (1 : Int)), ())) (fun (y7 : (Int × Unit)) => (Option.bind (Loop (@g20_s0 y1 y2) ((y5.1, (y6.1, ((decide (y7.1 = (1 : Int))), ([], ([], ()))))), ((0 : Int), ()))) (fun (y8 : (Sp07.Ad × Unit)) => (Option.bind (Loop (@g20_s1 y1 y2 y3) (y8.1, ((0 : Int), ()))) (fun (y9 : (Sp07.Ad × Unit)) => (Option.bind (Sp07.on (Sp07.inside (16 : Int) (0 : Int) (63 : Int)) ((Sp07.getR (y1.2.1, ((IntKind.wrap .i64 ((8 : Int) * (Int.ofNat y1.2.1.length))), ())) (IntKind.wrap .i64 ((IntKind.wrap .i64 ((IntKind.wrap .i64 ((33 : Int) + (IntKind.wrap .i64 ((27 : Int) * y2.1)))) + (4 : Int))) + (IntKind.wrap .i64 ((14 : Int) * y3.1)))) (16 : Int)), ())) (fun (y10 : (Int × Unit)) => (bif (!(decide (y10.1 = (IntKind.wrap .i64 (Sp07.check (Sp07.slice (y1.2.1, ((IntKind.wrap .i64 ((8 : Int) * (Int.ofNat y1.2.1.length))), ())) (0 : Int) (IntKind.wrap .i64 ((IntKind.wrap .i64 ((IntKind.wrap .i64 ((33 : Int) + (IntKind.wrap .i64 ((27 : Int) * y2.1)))) + (4 : Int))) + (IntKind.wrap .i64 ((14 : Int) * y3.1))))).1).1)))) then (some ((((0 : Int), ((0 : Int), (false, ([], ([], ()))))), ((23 : Int), ())), ())) else (Option.bind (Sp07.on (Sp07.inside (IntKind.wrap .i64 ((IntKind.wrap .i64 ((IntKind.wrap .i64 ((8 : Int) * (IntKind.wrap .i64 (@Int.tdiv (IntKind.wrap .i64 ((IntKind.wrap .i64 ((IntKind.wrap .i64 ((IntKind.wrap .i64 ((IntKind.wrap .i64 ((33 : Int) + (IntKind.wrap .i64 ((27 : Int) * y2.1)))) + (4 : Int))) + (IntKind.wrap .i64 ((14 : Int) * y3.1)))) + (16 : Int))) + (7 : Int))) (8 : Int))))) - (IntKind.wrap .i64 ((IntKind.wrap .i64 ((IntKind.wrap .i64 ((33 : Int) + (IntKind.wrap .i64 ((27 : Int) * y2.1)))) + (4 : Int))) + (IntKind.wrap .i64 ((14 : Int) * y3.1)))))) - (16 : Int))) (0 : Int) (63 : Int)) ((Sp07.getR (y1.2.1, ((IntKind.wrap .i64 ((8 : Int) * (Int.ofNat y1.2.1.length))), ())) (IntKind.wrap .i64 ((IntKind.wrap .i64 ((IntKind.wrap .i64 ((IntKind.wrap .i64 ((33 : Int) + (IntKind.wrap .i64 ((27 : Int) * y2.1)))) + (4 : Int))) + (IntKind.wrap .i64 ((14 : Int) * y3.1)))) + (16 : Int))) (IntKind.wrap .i64 ((IntKind.wrap .i64 ((IntKind.wrap .i64 ((8 : Int) * (IntKind.wrap .i64 (@Int.tdiv (IntKind.wrap .i64 ((IntKind.wrap .i64 ((IntKind.wrap .i64 ((IntKind.wrap .i64 ((IntKind.wrap .i64 ((33 : Int) + (IntKind.wrap .i64 ((27 : Int) * y2.1)))) + (4 : Int))) + (IntKind.wrap .i64 ((14 : Int) * y3.1)))) + (16 : Int))) + (7 : Int))) (8 : Int))))) - (IntKind.wrap .i64 ((IntKind.wrap .i64 ((IntKind.wrap .i64 ((33 : Int) + (IntKind.wrap .i64 ((27 : Int) * y2.1)))) + (4 : Int))) + (IntKind.wrap .i64 ((14 : Int) * y3.1)))))) - (16 : Int)))), ())) (fun (y11 : (Int × Unit)) => (bif (!(decide (y11.1 = (0 : Int)))) then (some ((((0 : Int), ((0 : Int), (false, ([], ([], ()))))), ((24 : Int), ())), ())) else (bif (decide ((IntKind.wrap .i64 ((Int.ofNat y1.2.1.length) + y1.1)) > (IntKind.wrap .i64 (@Int.tdiv (IntKind.wrap .i64 ((IntKind.wrap .i64 ((IntKind.wrap .i64 ((IntKind.wrap .i64 ((IntKind.wrap .i64 ((33 : Int) + (IntKind.wrap .i64 ((27 : Int) * y2.1)))) + (4 : Int))) + (IntKind.wrap .i64 ((14 : Int) * y3.1)))) + (16 : Int))) + (7 : Int))) (8 : Int))))) then (some ((((0 : Int), ((0 : Int), (false, ([], ([], ()))))), ((21 : Int), ())), ())) else (bif (!(Sp07.validA y9.1)) then (some ((((0 : Int), ((0 : Int), (false, ([], ([], ()))))), ((1 : Int), ())), ())) else (some ((y9.1, ((0 : Int), ())), ()))))))))))))))))))))))))))))))
theorem g20_eq (a0 : (List Int)) : (evF (fun _ _ => Loop) E20 G20 Go.Proofs.Try.f20 plan20 c20 ((), (a0, ()))).den = g20 a0 := by kernel_rfl

noncomputable def g4_s0 (a0 : (Int × (Sp07.Tp × ((List Int) × Unit)))) : (Option (Sum (Int × (Sp07.Tp × ((List Int) × Unit))) ((List Int) × Unit))) :=
  (Option.bind (bif (decide (a0.1 > (0 : Int))) then (some (a0.2.2.1, ((decide ((Int.ofNat a0.2.2.1.length) > (0 : Int))), ()))) else (some (a0.2.2.1, (false, ())))) (fun (y1 : ((List Int) × (Bool × Unit))) => (bif y1.2.1 then (Option.bind (Sp07.on (Sp07.wf a0.2.1) (Sp07.next a0.2.1 (4 : Int))) (fun (y2 : (Int × Sp07.Tp)) => (Option.bind (bif (decide (y2.1 = (0 : Int))) then (Option.bind (Sp07.on (Sp07.wf y2.2) (Sp07.next y2.2 (Int.ofNat y1.1.length))) (fun (y3 : (Int × Sp07.Tp)) => (bif ((decide (0 ≤ y3.1)) && (decide (y3.1 < (Int.ofNat y1.1.length)))) then (bif (Nat.blt (Int.toNat y3.1) y1.1.length) then (Option.bind (Sp07.on (Sp07.wf y3.2) (Sp07.next y3.2 (8 : Int))) (fun (y4 : (Int × Sp07.Tp)) => (bif (decide (0 ≤ (IntKind.wrap .u64 y4.1))) then (bif ((decide (0 ≤ y3.1)) && (decide (y3.1 < (Int.ofNat y1.1.length)))) then (bif (Nat.blt (Int.toNat y3.1) y1.1.length) then (some (y4.2, ((List.set y1.1 (Int.toNat y3.1) (IntKind.wrap .u8 (Int.ofNat (@BitVec.toNat 8 (@BitVec.xor 8 (@BitVec.ofInt 8 (List.getD y1.1 (Int.toNat y3.1) (0 : Int))) (@BitVec.ofInt 8 (IntKind.wrap .u8 ((1 : Int) * (@Int.pow (2 : Int) (@Min.min Nat instMinNat (Int.toNat (IntKind.wrap .u64 y4.1)) 8)))))))))), ()))) else none) else none) else none))) else none) else none))) else (Option.bind (bif (decide (y2.1 = (1 : Int))) then (Option.bind (Sp07.on (Sp07.wf y2.2) (Sp07.next y2.2 (IntKind.wrap .i64 ((Int.ofNat y1.1.length) + (1 : Int))))) (fun (y3 : (Int × Sp07.Tp)) => (bif ((decide (0 ≤ y3.1)) && (decide (y3.1 ≤ (Int.ofNat y1.1.length)))) then (some ((List.take (Int.toNat y3.1) y1.1), (y3.2, ()))) else none))) else (Option.bind (bif (decide (y2.1 = (2 : Int))) then (Option.bind (Sp07.on (Sp07.wf y2.2) (Sp07.next y2.2 (2 : Int))) (fun (y3 : (Int × Sp07.Tp)) => (bif (Nat.ble ((y1.1.length + 1) * 1) 140737488355328) then (some (y3.2, ((y1.1 ++ ((IntKind.wrap .u8 y3.1) :: [])), ()))) else none))) else (bif ((decide (0 ≤ (IntKind.wrap .i64 ((Int.ofNat y1.1.length) - (1 : Int))))) && (decide ((IntKind.wrap .i64 ((Int.ofNat y1.1.length) - (1 : Int))) < (Int.ofNat y1.1.length)))) then (bif (Nat.blt (Int.toNat (IntKind.wrap .i64 ((Int.ofNat y1.1.length) - (1 : Int)))) y1.1.length) then (Option.bind (Sp07.on (Sp07.wf y2.2) (Sp07.next y2.2 (4 : Int))) (fun (y3 : (Int × Sp07.Tp)) => (bif ((decide (0 ≤ (IntKind.wrap .i64 ((Int.ofNat y1.1.length) - (1 : Int))))) && (decide ((IntKind.wrap .i64 ((Int.ofNat y1.1.length) - (1 : Int))) < (Int.ofNat y1.1.length)))) then (bif (Nat.blt (Int.toNat (IntKind.wrap .i64 ((Int.ofNat y1.1.length) - (1 : Int)))) y1.1.length) then (some (y3.2, ((List.set y1.1 (Int.toNat (IntKind.wrap .i64 ((Int.ofNat y1.1.length) - (1 : Int)))) (IntKind.wrap .u8 (Int.ofNat (@BitVec.toNat 8 (@BitVec.xor 8 (@BitVec.ofInt 8 (List.getD y1.1 (Int.toNat (IntKind.wrap .i64 ((Int.ofNat y1.1.length) - (1 : Int)))) (0 : Int))) (@BitVec.ofInt 8 (IntKind.wrap .u8 y3.1))))))), ()))) else none) else none))) else none) else none)) (fun (y3 : (Sp07.Tp × ((List Int) × Unit))) => (some (y3.2.1, (y3.1, ())))))) (fun (y3 : ((List Int) × (Sp07.Tp × Unit))) => (some (y3.2.1, (y3.1, ())))))) (fun (y3 : (Sp07.Tp × ((List Int) × Unit))) => (some (.inl ((IntKind.wrap .i64 (a0.1 - (1 : Int))), y3))))))) else (some (.inr (y1.1, ()))))))
noncomputable def g4_s1 (a0 : (List Int)) (a1 : (Int × ((@List (List Int)) × Unit))) : (Option (Sum (Int × ((@List (List Int)) × Unit)) (Bool × ((Bool × Unit) × Unit)))) :=
  (Option.bind (bif (decide (a1.1 < (2 : Int))) then (some ((decide ((Int.ofNat a0.length) ≤ (400 : Int))), ())) else (some (false, ()))) (fun (y2 : (Bool × Unit)) => (bif y2.1 then (bif ((decide (0 ≤ a1.1)) && (decide (a1.1 < (Int.ofNat a1.2.1.length)))) then (bif (Nat.blt (Int.toNat a1.1) a1.2.1.length) then (bif ((decide (0 ≤ a1.1)) && (decide (a1.1 < (Int.ofNat a1.2.1.length)))) then (bif (Nat.blt (Int.toNat a1.1) a1.2.1.length) then (Option.bind (bif (!(!(Sp07.sameA (Sp07.decode (List.getD a1.2.1 (Int.toNat a1.1) [])).1 (Sp07.decode (List.getD a1.2.1 (Int.toNat a1.1) [])).1))) then (some ((!(decide ((Sp07.decode (List.getD a1.2.1 (Int.toNat a1.1) [])).2.1 = (Sp07.decode (List.getD a1.2.1 (Int.toNat a1.1) [])).2.1))), ())) else (some (true, ()))) (fun (y3 : (Bool × Unit)) => (bif y3.1 then (some (.inr (true, ((false, ()), ())))) else (Option.bind (bif (decide ((Sp07.decode (List.getD a1.2.1 (Int.toNat a1.1) [])).2.1 = (0 : Int))) then (Option.bind (bif (!(!(decide ((Sp07.encode (Sp07.decode (List.getD a1.2.1 (Int.toNat a1.1) [])).1).2.1 = (0 : Int))))) then (bif (!(!(decide ((Sp07.encode (Sp07.decode (List.getD a1.2.1 (Int.toNat a1.1) [])).1).2.1 = (0 : Int))))) then (bif (!(!(decide ((Sp07.encode (Sp07.decode (List.getD a1.2.1 (Int.toNat a1.1) [])).1).2.1 = (0 : Int))))) then (bif (!(!(decide ((Sp07.encode (Sp07.decode (List.getD a1.2.1 (Int.toNat a1.1) [])).1).2.1 = (0 : Int))))) then (bif (!(!(decide ((Sp07.encode (Sp07.decode (List.getD a1.2.1 (Int.toNat a1.1) [])).1).2.1 = (0 : Int))))) then (bif ((decide (0 ≤ a1.1)) && (decide (a1.1 < (Int.ofNat a1.2.1.length)))) then (bif (!(!(decide ((Sp07.encode (Sp07.decode (List.getD a1.2.1 (Int.toNat a1.1) [])).1).2.1 = (0 : Int))))) then (bif (Nat.blt (Int.toNat a1.1) a1.2.1.length) then (bif (!(!(decide ((Sp07.encode (Sp07.decode (List.getD a1.2.1 (Int.toNat a1.1) [])).1).2.1 = (0 : Int))))) then (bif (!(!(decide ((Sp07.encode (Sp07.decode (List.getD a1.2.1 (Int.toNat a1.1) [])).1).2.1 = (0 : Int))))) then (bif (!(!(decide ((Sp07.encode (Sp07.decode (List.getD a1.2.1 (Int.toNat a1.1) [])).1).2.1 = (0 : Int))))) then (some ((!(@List.beq Int (@instBEqOfDecidableEq Int Int.instDecidableEq) (Sp07.encode (Sp07.decode (List.getD a1.2.1 (Int.toNat a1.1) [])).1).1 (List.getD a1.2.1 (Int.toNat a1.1) []))), a1.2)) else none) else none) else none) else none) else none) else none) else none) else none) else none) else none) else (bif (!(decide ((Sp07.encode (Sp07.decode (List.getD a1.2.1 (Int.toNat a1.1) [])).1).2.1 = (0 : Int)))) then (bif (!(decide ((Sp07.encode (Sp07.decode (List.getD a1.2.1 (Int.toNat a1.1) [])).1).2.1 = (0 : Int)))) then (bif (!(decide ((Sp07.encode (Sp07.decode (List.getD a1.2.1 (Int.toNat a1.1) [])).1).2.1 = (0 : Int)))) then (bif (!(decide ((Sp07.encode (Sp07.decode (List.getD a1.2.1 (Int.toNat a1.1) [])).1).2.1 = (0 : Int)))) then (bif (!(decide ((Sp07.encode (Sp07.decode (List.getD a1.2.1 (Int.toNat a1.1) [])).1).2.1 = (0 : Int)))) then (bif (!(decide ((Sp07.encode (Sp07.decode (List.getD a1.2.1 (Int.toNat a1.1) [])).1).2.1 = (0 : Int)))) then (bif (!(decide ((Sp07.encode (Sp07.decode (List.getD a1.2.1 (Int.toNat a1.1) [])).1).2.1 = (0 : Int)))) then (bif (!(decide ((Sp07.encode (Sp07.decode (List.getD a1.2.1 (Int.toNat a1.1) [])).1).2.1 = (0 : Int)))) then (some (true, a1.2)) else none) else none) else none) else none) else none) else none) else none) else none)) (fun (y4 : (Bool × ((@List (List Int)) × Unit))) => (bif y4.1 then (some (true, ((false, ()), ([], ())))) else (some (false, ((false, ()), y4.2)))))) else (some (false, ((false, ()), a1.2)))) (fun (y4 : (Bool × ((Bool × Unit) × ((@List (List Int)) × Unit)))) => (bif y4.1 then (some (.inr (true, (y4.2.1, ())))) else (some (.inl ((IntKind.wrap .i64 (a1.1 + (1 : Int))), y4.2.2))))))))) else none) else none) else none) else none) else (some (.inr (false, ((false, ()), ())))))))
noncomputable def g4 (a0 : (List Int)) (a1 : (List Int)) : (Option (Bool × Unit)) :=
  (Option.bind (Sp07.on (((Sp07.wf (Sp07.tape a0)) && (Sp07.small (1 : Int))) && (Sp07.small (6 : Int))) (Sp07.range (Sp07.tape a0) (1 : Int) (6 : Int))) (fun (y2 : (Int × Sp07.Tp)) => (Option.bind (Sp07.on ((Sp07.wf y2.2) && (Sp07.inside (0 : Int) (0 : Int) (1000 : Int))) (Sp07.advert y2.2 y2.1 (0 : Int))) (fun (y3 : (Sp07.Ad × Sp07.Tp)) => (Option.bind (Sp07.on (Sp07.wf y3.2) (Sp07.next y3.2 (4 : Int))) (fun (y4 : (Int × Sp07.Tp)) => (Option.bind (Loop g4_s0 (y4.1, (y4.2, ((Sp07.encode y3.1).1, ())))) (fun (y5 : ((List Int) × Unit)) => (Option.bind (Loop (@g4_s1 a1) ((0 : Int), ((y5.1 :: (a1 :: [])), ()))) (fun (y6 : (Bool × ((Bool × Unit) × Unit))) => (bif y6.1 then (some y6.2.1) else (some (true, ())))))))))))))
noncomputable def g15_s0 (a0 : (List Sp07.Rc)) (a1 : (Sp07.Tp × (Int × Unit))) : (Option (Sum (Sp07.Tp × (Int × Unit)) (Sp07.Tp × Unit))) :=
  (bif (decide (a1.2.1 < (Int.ofNat a0.length))) then (bif ((decide (0 ≤ a1.2.1)) && (decide (a1.2.1 < (Int.ofNat a0.length)))) then (bif ((decide (0 ≤ a1.2.1)) && (decide (a1.2.1 < (Int.ofNat a0.length)))) then (bif ((decide (0 ≤ a1.2.1)) && (decide (a1.2.1 < (Int.ofNat a0.length)))) then (some (.inl ((Sp07.append (Sp07.append (Sp07.append a1.1 (IntKind.wrap .u64 (List.getD a0 (Int.toNat a1.2.1) (0, 0, 0, ())).1) (7 : Int)).1 (IntKind.wrap .u64 (List.getD a0 (Int.toNat a1.2.1) (0, 0, 0, ())).2.1) (10 : Int)).1 (IntKind.wrap .u64 (List.getD a0 (Int.toNat a1.2.1) (0, 0, 0, ())).2.2.1) (10 : Int)).1, ((IntKind.wrap .i64 (a1.2.1 + (1 : Int))), ())))) else none) else none) else none) else (some (.inr (a1.1, ()))))
noncomputable def g15_s1 (a0 : (List Sp07.Rc)) (a1 : (Sp07.Tp × (Int × Unit))) : (Option (Sum (Sp07.Tp × (Int × Unit)) (Sp07.Tp × Unit))) :=
  (bif (decide (a1.2.1 < (Int.ofNat a0.length))) then (bif ((decide (0 ≤ a1.2.1)) && (decide (a1.2.1 < (Int.ofNat a0.length)))) then (bif ((decide (0 ≤ a1.2.1)) && (decide (a1.2.1 < (Int.ofNat a0.length)))) then (bif ((decide (0 ≤ a1.2.1)) && (decide (a1.2.1 < (Int.ofNat a0.length)))) then (Option.bind (Sp07.on (Sp07.vlen (List.getD a0 (Int.toNat a1.2.1) (0, 0, 0, ())).2.2.1) ((Sp07.code (List.getD a0 (Int.toNat a1.2.1) (0, 0, 0, ())).2.2.1), ())) (fun y2 => (some (.inl ((Sp07.append (Sp07.append (Sp07.append a1.1 (IntKind.wrap .u64 (List.getD a0 (Int.toNat a1.2.1) (0, 0, 0, ())).1) (3 : Int)).1 (IntKind.wrap .u64 (List.getD a0 (Int.toNat a1.2.1) (0, 0, 0, ())).2.1) (9 : Int)).1 (IntKind.wrap .u64 y2.1) (2 : Int)).1, ((IntKind.wrap .i64 (a1.2.1 + (1 : Int))), ())))))) else none) else none) else none) else (some (.inr (a1.1, ()))))
noncomputable def g15 (a0 : Int) (a1 : Int) (a2 : Bool) (a3 : (List Sp07.Rc)) (a4 : (List Sp07.Rc)) : (Option (Sp07.Tp × Unit)) :=
  (bif (!(Sp07.validA (a0, (a1, (a2, (a3, (a4, ()))))))) then (some (([], ((1 : Int), ())), ())) else (Option.bind (bif a2 then (some ((1 : Int), ())) else (some ((0 : Int), ()))) (fun (y5 : (Int × Unit)) => (Option.bind (Loop (@g15_s0 a3) ((Sp07.append (Sp07.append (Sp07.append (Sp07.append ([], ((0 : Int), ())) (IntKind.wrap .u64 a0) (7 : Int)).1 (IntKind.wrap .u64 a1) (20 : Int)).1 (IntKind.wrap .u64 y5.1) (1 : Int)).1 (IntKind.wrap .u64 (Int.ofNat a3.length)) (5 : Int)).1, ((0 : Int), ()))) (fun (y6 : (Sp07.Tp × Unit)) => (Option.bind (Loop (@g15_s1 a4) ((Sp07.append y6.1 (IntKind.wrap .u64 (Int.ofNat a4.length)) (4 : Int)).1, ((0 : Int), ()))) (fun (y7 : (Sp07.Tp × Unit)) => (some (((Sp07.align (Sp07.append y7.1 (IntKind.wrap .u64 (IntKind.wrap .i64 (Sp07.check y7.1).1)) (16 : Int)).1).1.1, ((0 : Int), ())), ())))))))))
theorem g15_eq (a0 : Int) (a1 : Int) (a2 : Bool) (a3 : (List Sp07.Rc)) (a4 : (List Sp07.Rc)) : (evF (fun _ _ => Loop) E15 G15 Go.Proofs.Try.f15 plan15 c15 ((), ((a0, (a1, (a2, (a3, (a4, ()))))), ()))).den = g15 a0 a1 a2 a3 a4 := by kernel_rfl

noncomputable def g73_s0 (a0 : (List Int)) (a1 : Int) (a2 : Int) (a3 : (Int × (Sp07.Tp × Unit))) : (Option (Sum (Int × (Sp07.Tp × Unit)) (Sp07.Tp × Unit))) :=
  (bif (decide (a3.1 < a2)) then (Option.bind (Sp07.on ((((decide (0 ≤ a3.1)) && (decide (0 ≤ (bif (decide ((IntKind.wrap .i64 (a2 - a3.1)) < (64 : Int))) then (IntKind.wrap .i64 (a2 - a3.1)) else (64 : Int))))) && (decide ((bif (decide ((IntKind.wrap .i64 (a2 - a3.1)) < (64 : Int))) then (IntKind.wrap .i64 (a2 - a3.1)) else (64 : Int)) ≤ (64 : Int)))) && (decide ((a3.1 + (bif (decide ((IntKind.wrap .i64 (a2 - a3.1)) < (64 : Int))) then (IntKind.wrap .i64 (a2 - a3.1)) else (64 : Int))) ≤ ((8 : Int) * (Int.ofNat a0.length))))) ((Int.ofNat (Sp07.valOf (Sp07.bitsR a0 (Int.toNat a3.1) (Int.toNat (bif (decide ((IntKind.wrap .i64 (a2 - a3.1)) < (64 : Int))) then (IntKind.wrap .i64 (a2 - a3.1)) else (64 : Int)))))), ())) (fun y4 => (Option.bind (Sp07.on ((((Sp07.valid a3.2.1) && (decide (0 ≤ (bif (decide ((IntKind.wrap .i64 (a2 - a3.1)) < (64 : Int))) then (IntKind.wrap .i64 (a2 - a3.1)) else (64 : Int))))) && (decide ((bif (decide ((IntKind.wrap .i64 (a2 - a3.1)) < (64 : Int))) then (IntKind.wrap .i64 (a2 - a3.1)) else (64 : Int)) ≤ (64 : Int)))) && (decide ((a3.2.1.2.1 + (bif (decide ((IntKind.wrap .i64 (a2 - a3.1)) < (64 : Int))) then (IntKind.wrap .i64 (a2 - a3.1)) else (64 : Int))) ≤ (8192 : Int)))) ((), (Sp07.enc ((Sp07.bits a3.2.1) ++ (Sp07.vbits (Int.toNat y4.1) (Int.toNat (bif (decide ((IntKind.wrap .i64 (a2 - a3.1)) < (64 : Int))) then (IntKind.wrap .i64 (a2 - a3.1)) else (64 : Int)))))))) (fun y5 => (some (.inl ((IntKind.wrap .i64 (a3.1 + (bif (decide ((IntKind.wrap .i64 (a2 - a3.1)) < (64 : Int))) then (IntKind.wrap .i64 (a2 - a3.1)) else (64 : Int)))), (y5.2, ())))))))) else (some (.inr a3.2)))
noncomputable def g73 (a0 : (List Int)) (a1 : Int) (a2 : (List Int)) (a3 : Int) (a4 : Int) (a5 : Int) : (Option (Unit × Sp07.Tp)) :=
  (Option.bind (Loop (@g73_s0 a2 a3 a5) (a4, ((a0, (a1, ())), ()))) (fun y6 => (some ((), y6.1))))
theorem g73_eq (a0 : (List Int)) (a1 : Int) (a2 : (List Int)) (a3 : Int) (a4 : Int) (a5 : Int) : (evF (fun _ _ => Loop) E73 G73 Go.Proofs.Try.f73 plan73 c73 ((a0, (a1, ())), ((a2, (a3, ())), (a4, (a5, ()))))).den = g73 a0 a1 a2 a3 a4 a5 := by kernel_rfl

noncomputable def g58_s0 (a0 : (List Sp07.Rc)) (a1 : (List Sp07.Rc)) (a2 : (Int × Unit)) : (Option (Sum (Int × Unit) (Bool × ((Bool × Unit) × Unit)))) :=
  (bif (decide (a2.1 < (Int.ofNat a0.length))) then (bif ((decide (0 ≤ a2.1)) && (decide (a2.1 < (Int.ofNat a0.length)))) then (bif ((decide (0 ≤ a2.1)) && (decide (a2.1 < (Int.ofNat a1.length)))) then (bif (!((decide ((List.getD a0 (Int.toNat a2.1) (0, 0, 0, ())).1 = (List.getD a1 (Int.toNat a2.1) (0, 0, 0, ())).1)) && ((decide ((List.getD a0 (Int.toNat a2.1) (0, 0, 0, ())).2.1 = (List.getD a1 (Int.toNat a2.1) (0, 0, 0, ())).2.1)) && ((decide ((List.getD a0 (Int.toNat a2.1) (0, 0, 0, ())).2.2.1 = (List.getD a1 (Int.toNat a2.1) (0, 0, 0, ())).2.2.1)) && true)))) then (some (.inr (true, ((false, ()), ())))) else (some (.inl ((IntKind.wrap .i64 (a2.1 + (1 : Int))), ())))) else none) else none) else (some (.inr (false, ((false, ()), ())))))
noncomputable def g58 (a0 : (List Sp07.Rc)) (a1 : (List Sp07.Rc)) : (Option (Bool × Unit)) :=
  (bif (!(decide ((Int.ofNat a0.length) = (Int.ofNat a1.length)))) then (some (false, ())) else (Option.bind (Loop (@g58_s0 a0 a1) ((0 : Int), ())) (fun y2 => (bif y2.1 then (some y2.2.1) else (some (true, ()))))))
theorem g58_eq (a0 : (List Sp07.Rc)) (a1 : (List Sp07.Rc)) : (evF (fun _ _ => Loop) E58 G58 Go.Proofs.Try.f58 plan58 c58 ((), (a0, (a1, ())))).den = g58 a0 a1 := by kernel_rfl

noncomputable def g39_s0 (a0 : (List Int)) (a1 : Int) (a2 : (Int × (Int × Unit))) : (Option (Sum (Int × (Int × Unit)) (Int × Unit))) :=
  (bif (decide (a2.1 < a1)) then (Option.bind (Sp07.on ((decide (0 ≤ a2.1)) && (decide (a2.1 < ((8 : Int) * (Int.ofNat a0.length))))) ((Sp07.b2i (Sp07.bitAt a0 (Int.toNat a2.1))), ())) (fun y3 => (bif (decide ((@Int.fdiv a2.2.1 (32768 : Int)) = y3.1)) then (some (.inl ((IntKind.wrap .i64 (a2.1 + (1 : Int))), ((IntKind.wrap .u64 (Int.ofNat (@BitVec.toNat 64 (@BitVec.and 64 (@BitVec.ofInt 64 (IntKind.wrap .u64 (a2.2.1 * (2 : Int)))) (@BitVec.ofInt 64 (65535 : Int)))))), ())))) else (some (.inl ((IntKind.wrap .i64 (a2.1 + (1 : Int))), ((IntKind.wrap .u64 (Int.ofNat (@BitVec.toNat 64 (@BitVec.xor 64 (@BitVec.ofInt 64 (IntKind.wrap .u64 (Int.ofNat (@BitVec.toNat 64 (@BitVec.and 64 (@BitVec.ofInt 64 (IntKind.wrap .u64 (a2.2.1 * (2 : Int)))) (@BitVec.ofInt 64 (65535 : Int))))))) (@BitVec.ofInt 64 (4129 : Int)))))), ()))))))) else (some (.inr a2.2)))
noncomputable def g39 (a0 : (List Int)) (a1 : Int) : (Option ((Int × (Int × Unit)) × Unit)) :=
  (bif (!(Sp07.valid (a0, (a1, ())))) then (some (((0 : Int), ((1 : Int), ())), ())) else (Option.bind (Loop (@g39_s0 a0 a1) ((0 : Int), ((65535 : Int), ()))) (fun y2 => (some ((y2.1, ((0 : Int), ())), ())))))
theorem g39_eq (a0 : (List Int)) (a1 : Int) : (evF (fun _ _ => Loop) E39 G39 Go.Proofs.Try.f39 plan39 c39 ((), ((a0, (a1, ())), ()))).den = g39 a0 a1 := by kernel_rfl

noncomputable def g25 (a0 : Int) (a1 : Int) (a2 : Bool) (a3 : (List Sp07.Rc)) (a4 : (List Sp07.Rc)) (a5 : Int) (a6 : Int) (a7 : Bool) (a8 : (List Sp07.Rc)) (a9 : (List Sp07.Rc)) : (Option (Bool × Unit)) :=
  (Option.bind (bif (!(!(decide ((Sp07.encode (a0, (a1, (a2, (a3, (a4, ())))))).2.1 = (0 : Int))))) then (bif (!(!(decide ((Sp07.encode (a5, (a6, (a7, (a8, (a9, ())))))).2.1 = (0 : Int))))) then (some ((!(decide (a0 = a5))), ())) else (some (true, ()))) else (some (true, ()))) (fun y10 => (bif y10.1 then (some (false, ())) else (Option.bind (bif (!(decide (a1 > a6))) then (bif (decide (a1 = a6)) then (some ((decide ((Sp07.cmpB (Sp07.encode (a0, (a1, (a2, (a3, (a4, ())))))).1 (Sp07.encode (a5, (a6, (a7, (a8, (a9, ())))))).1) > (0 : Int))), ())) else (some (false, ()))) else (some (true, ()))) (fun y11 => (some y11))))))
theorem g25_eq (a0 : Int) (a1 : Int) (a2 : Bool) (a3 : (List Sp07.Rc)) (a4 : (List Sp07.Rc)) (a5 : Int) (a6 : Int) (a7 : Bool) (a8 : (List Sp07.Rc)) (a9 : (List Sp07.Rc)) : (evF (fun _ _ => Loop) E25 G25 Go.Proofs.Try.f25 plan25 c25 ((), ((a0, (a1, (a2, (a3, (a4, ()))))), ((a5, (a6, (a7, (a8, (a9, ()))))), ())))).den = g25 a0 a1 a2 a3 a4 a5 a6 a7 a8 a9 := by kernel_rfl

noncomputable def g43 (a0 : (List Int)) (a1 : Int) (a2 : Int) (a3 : Int) : (Option ((Sp07.Tp × (Int × Unit)) × Unit)) :=
  (bif (!(Sp07.valid (a0, (a1, ())))) then (some ((([], ((0 : Int), ())), ((1 : Int), ())), ())) else (Option.bind (bif (!(decide (a2 < (0 : Int)))) then (bif (!(decide (a2 > a3))) then (some ((decide (a3 > a1)), ())) else (some (true, ()))) else (some (true, ()))) (fun (y4 : (Bool × Unit)) => (bif y4.1 then (some ((([], ((0 : Int), ())), ((2 : Int), ())), ())) else (Option.bind (Sp07.on ((((Sp07.valid ([], ((0 : Int), ()))) && (decide (0 ≤ a2))) && (decide (a3 ≤ ((8 : Int) * (Int.ofNat a0.length))))) && (decide (((0 : Int) + (a3 - a2)) ≤ (8192 : Int)))) ((), (Sp07.enc ((Sp07.bits ([], ((0 : Int), ()))) ++ (Sp07.bitsR a0 (Int.toNat a2) (Int.toNat (a3 - a2))))))) (fun (y5 : (Unit × Sp07.Tp)) => (some ((y5.2, ((0 : Int), ())), ()))))))))
theorem g43_eq (a0 : (List Int)) (a1 : Int) (a2 : Int) (a3 : Int) : (evF (fun _ _ => Loop) E43 G43 Go.Proofs.Try.f43 plan43 c43 ((), ((a0, (a1, ())), (a2, (a3, ()))))).den = g43 a0 a1 a2 a3 := by kernel_rfl

noncomputable def g71 (a0 : (List Int)) (a1 : Int) (a2 : Int) : (Option (Int × Unit)) :=
  (bif ((decide (0 ≤ (IntKind.wrap .i64 (@Int.tdiv a2 (8 : Int))))) && (decide ((IntKind.wrap .i64 (@Int.tdiv a2 (8 : Int))) < (Int.ofNat a0.length)))) then (bif (decide (0 ≤ (IntKind.wrap .i64 ((7 : Int) - (@Int.tmod a2 (8 : Int)))))) then (some ((IntKind.wrap .u64 (IntKind.wrap .u8 (Int.ofNat (@BitVec.toNat 8 (@BitVec.and 8 (@BitVec.ofInt 8 (@Int.fdiv (List.getD a0 (Int.toNat (IntKind.wrap .i64 (@Int.tdiv a2 (8 : Int)))) (0 : Int)) (@Int.pow (2 : Int) (@Min.min Nat instMinNat (Int.toNat (IntKind.wrap .i64 ((7 : Int) - (@Int.tmod a2 (8 : Int))))) 8)))) (@BitVec.ofInt 8 (1 : Int))))))), ())) else none) else none)
theorem g71_eq (a0 : (List Int)) (a1 : Int) (a2 : Int) : (evF (fun _ _ => Loop) E71 G71 Go.Proofs.Try.f71 plan71 c71 ((), ((a0, (a1, ())), (a2, ())))).den = g71 a0 a1 a2 := by kernel_rfl

noncomputable def g41_s0 (a0 : (Int × (Int × Unit))) : (Option (Sum (Int × (Int × Unit)) (Int × Unit))) :=
  (bif (decide (a0.2.1 > (8 : Int))) then (some (.inl ((IntKind.wrap .i64 (a0.1 + (1 : Int))), ((IntKind.wrap .i64 (@Int.tdiv a0.2.1 (2 : Int))), ())))) else (some (.inr (a0.1, ()))))
noncomputable def g41 (a0 : Int) : (Option (Int × Unit)) :=
  (Option.bind (Loop g41_s0 ((0 : Int), (a0, ()))) (fun y1 => (some y1)))
theorem g41_eq (a0 : Int) : (evF (fun _ _ => Loop) E41 G41 Go.Proofs.Try.f41 plan41 c41 ((), (a0, ()))).den = g41 a0 := by kernel_rfl

noncomputable def g36 (a0 : (List Int)) (a1 : Int) (a2 : Int) : (Option (Bool × Sp07.Tp)) :=
  (Option.bind (Sp07.on (Sp07.wf (a0, (a1, ()))) (Sp07.next (a0, (a1, ())) a2)) (fun y3 => (some ((decide (y3.1 = (IntKind.wrap .i64 (a2 - (1 : Int))))), y3.2))))
theorem g36_eq (a0 : (List Int)) (a1 : Int) (a2 : Int) : (evF (fun _ _ => Loop) E36 G36 Go.Proofs.Try.f36 plan36 c36 ((a0, (a1, ())), (a2, ()))).den = g36 a0 a1 a2 := by kernel_rfl

noncomputable def g55 (a0 : Int) : (Option (Bool × Unit)) :=
  (Option.bind (bif (!(decide (a0 = (8 : Int)))) then (bif (!(decide (a0 = (16 : Int)))) then (bif (!(decide (a0 = (32 : Int)))) then (some ((decide (a0 = (64 : Int))), ())) else (some (true, ()))) else (some (true, ()))) else (some (true, ()))) (fun y1 => (some y1)))
theorem g55_eq (a0 : Int) : (evF (fun _ _ => Loop) E55 G55 Go.Proofs.Try.f55 plan55 c55 ((), (a0, ()))).den = g55 a0 := by kernel_rfl

noncomputable def g21 (a0 : (List Int)) (a1 : Int) (a2 : Int) (a3 : Int) : (Option (Sp07.Tp × Unit)) :=
  (some ((Sp07.append (a0, (a1, ())) (IntKind.wrap .u64 a2) a3).1, ()))
theorem g21_eq (a0 : (List Int)) (a1 : Int) (a2 : Int) (a3 : Int) : (evF (fun _ _ => Loop) E21 G21 Go.Proofs.Try.f21 plan21 c21 ((), ((a0, (a1, ())), (a2, (a3, ()))))).den = g21 a0 a1 a2 a3 := by kernel_rfl

noncomputable def g92 (a0 : (List Int)) (a1 : Int) : (Option (Sp07.Tp × Unit)) :=
  (bif (Nat.ble (a0.length * 1) 140737488355328) then (some ((a0, (a1, ())), ())) else none)
theorem g92_eq (a0 : (List Int)) (a1 : Int) : (evF (fun _ _ => Loop) E92 G92 Go.Proofs.Try.f92 plan92 c92 ((), ((a0, (a1, ())), ()))).den = g92 a0 a1 := by kernel_rfl
end Go.Abs.C07
