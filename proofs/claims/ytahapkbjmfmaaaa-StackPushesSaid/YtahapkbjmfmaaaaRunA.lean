/- Chapter 04: proved is, of functions that the laws reach, that the evaluator comes to the printed term; no conditions. -/
import Derived.Test.YtahapkbjmfmaaaaAbsD
import Derived.Test.YtahapkbjmfmaaaaProg
import Derived.KernelRfl
set_option linter.unusedVariables false
set_option linter.unusedSimpArgs false
namespace Go.Abs.C04
open Go.Proofs
def tab : List (Nat × TI) := [
  (3,{ size := 1,bytes := 8,agg := false,ty := (.int .i64),desc := (.int .i64),zero := [(.int .i64 0)],arr := none,cmp := none }),
  (4,{ size := 1,bytes := 1,agg := false,ty := .bool,desc := .bool,zero := [(.bool false)],arr := none,cmp := none }),
  (5,{ size := 1,bytes := 1,agg := false,ty := (.int .u8),desc := (.int .u8),zero := [(.int .u8 0)],arr := none,cmp := none }),
  (9,{ size := 1,bytes := 16,agg := false,ty := .str,desc := .string,zero := [(.str [])],arr := none,cmp := none }),
  (22,{ size := 1,bytes := 24,agg := false,ty := (.sl (.int .i64)),desc := (.slice 3),zero := [(.sl 2 (.int .i64) [])],arr := none,cmp := none }),
  (24,{ size := 3,bytes := 24,agg := true,ty := (.st 24 (.cons (.int .i64) (.cons (.int .i64) (.cons (.int .i64) .unit)))),desc := (.struct #[{ name := "Value",type := 3,offset := 0,byteOffset := 0,embedded := false,tag := "",pkgPath := "" },{ name := "Class",type := 3,offset := 1,byteOffset := 8,embedded := false,tag := "",pkgPath := "" },{ name := "Hops",type := 3,offset := 2,byteOffset := 16,embedded := false,tag := "",pkgPath := "" }]),zero := [(.int .i64 0),(.int .i64 0),(.int .i64 0)],arr := none,cmp := some [0,0,0] }),
  (25,{ size := 1,bytes := 8,agg := false,ty := (.int .u64),desc := (.int .u64),zero := [(.int .u64 0)],arr := none,cmp := none }),
  (27,{ size := 10,bytes := 88,agg := true,ty := (.st 88 (.cons (.int .i64) (.cons (.int .i64) (.cons (.int .i64) (.cons (.int .i64) (.cons (.int .i64) (.cons (.int .i64) (.cons (.int .i64) (.cons (.int .i64) (.cons (.int .u64) (.cons .str .unit))))))))))),desc := (.struct #[{ name := "Mode",type := 3,offset := 0,byteOffset := 0,embedded := false,tag := "",pkgPath := "" },{ name := "Subdomain",type := 3,offset := 1,byteOffset := 8,embedded := false,tag := "",pkgPath := "" },{ name := "Set",type := 3,offset := 2,byteOffset := 16,embedded := false,tag := "",pkgPath := "" },{ name := "Length",type := 3,offset := 3,byteOffset := 24,embedded := false,tag := "",pkgPath := "" },{ name := "TTL",type := 3,offset := 4,byteOffset := 32,embedded := false,tag := "",pkgPath := "" },{ name := "Entropy",type := 3,offset := 5,byteOffset := 40,embedded := false,tag := "",pkgPath := "" },{ name := "Ingress",type := 3,offset := 6,byteOffset := 48,embedded := false,tag := "",pkgPath := "" },{ name := "Proto",type := 3,offset := 7,byteOffset := 56,embedded := false,tag := "",pkgPath := "" },{ name := "Bits",type := 25,offset := 8,byteOffset := 64,embedded := false,tag := "",pkgPath := "" },{ name := "Payload",type := 9,offset := 9,byteOffset := 72,embedded := false,tag := "",pkgPath := "" }]),zero := [(.int .i64 0),(.int .i64 0),(.int .i64 0),(.int .i64 0),(.int .i64 0),(.int .i64 0),(.int .i64 0),(.int .i64 0),(.int .u64 0),(.str [])],arr := none,cmp := some [0,0,0,0,0,0,0,0,0,2] }),
  (29,{ size := 11,bytes := 112,agg := true,ty := (.st 112 (.cons (.sl (.int .i64)) (.cons (.st 88 (.cons (.int .i64) (.cons (.int .i64) (.cons (.int .i64) (.cons (.int .i64) (.cons (.int .i64) (.cons (.int .i64) (.cons (.int .i64) (.cons (.int .i64) (.cons (.int .u64) (.cons .str .unit))))))))))) .unit))),desc := (.struct #[{ name := "Route",type := 22,offset := 0,byteOffset := 0,embedded := false,tag := "",pkgPath := "" },{ name := "Packet",type := 27,offset := 1,byteOffset := 24,embedded := false,tag := "",pkgPath := "" }]),zero := [(.sl 2 (.int .i64) []),(.int .i64 0),(.int .i64 0),(.int .i64 0),(.int .i64 0),(.int .i64 0),(.int .i64 0),(.int .i64 0),(.int .i64 0),(.int .u64 0),(.str [])],arr := none,cmp := none }),
  (30,{ size := 1,bytes := 8,agg := false,ty := .unit,desc := (.pointer 66),zero := [.undef],arr := none,cmp := none }),
  (38,{ size := 1,bytes := 24,agg := false,ty := (.sl (.st 24 (.cons (.int .i64) (.cons (.int .i64) (.cons (.int .i64) .unit))))),desc := (.slice 24),zero := [(.sl 2 (.st 24 (.cons (.int .i64) (.cons (.int .i64) (.cons (.int .i64) .unit)))) [])],arr := none,cmp := none }),
  (39,{ size := 1,bytes := 24,agg := false,ty := (.sl (.int .u8)),desc := (.slice 5),zero := [(.sl 2 (.int .u8) [])],arr := none,cmp := none }),
  (43,{ size := 1,bytes := 24,agg := false,ty := (.sl (.sl (.st 24 (.cons (.int .i64) (.cons (.int .i64) (.cons (.int .i64) .unit)))))),desc := (.slice 38),zero := [(.sl 2 (.sl (.st 24 (.cons (.int .i64) (.cons (.int .i64) (.cons (.int .i64) .unit))))) [])],arr := none,cmp := none }),
  (44,{ size := 1,bytes := 8,agg := false,ty := (.int .i64),desc := (.int .i64),zero := [(.int .i64 0)],arr := none,cmp := none }),
  (51,{ size := 1,bytes := 24,agg := false,ty := (.sl (.sl (.int .u8))),desc := (.slice 39),zero := [(.sl 2 (.sl (.int .u8)) [])],arr := none,cmp := none }),
  (53,{ size := 1,bytes := 24,agg := false,ty := (.sl (.st 112 (.cons (.sl (.int .i64)) (.cons (.st 88 (.cons (.int .i64) (.cons (.int .i64) (.cons (.int .i64) (.cons (.int .i64) (.cons (.int .i64) (.cons (.int .i64) (.cons (.int .i64) (.cons (.int .i64) (.cons (.int .u64) (.cons .str .unit))))))))))) .unit)))),desc := (.slice 29),zero := [(.sl 2 (.st 112 (.cons (.sl (.int .i64)) (.cons (.st 88 (.cons (.int .i64) (.cons (.int .i64) (.cons (.int .i64) (.cons (.int .i64) (.cons (.int .i64) (.cons (.int .i64) (.cons (.int .i64) (.cons (.int .i64) (.cons (.int .u64) (.cons .str .unit))))))))))) .unit))) [])],arr := none,cmp := none }),
  (66,{ size := 2,bytes := 32,agg := true,ty := (.st 32 (.cons (.sl (.int .i64)) (.cons (.int .i64) .unit))),desc := (.struct #[{ name := "L",type := 22,offset := 0,byteOffset := 0,embedded := false,tag := "",pkgPath := "" },{ name := "At",type := 3,offset := 1,byteOffset := 24,embedded := false,tag := "",pkgPath := "" }]),zero := [(.sl 2 (.int .i64) []),(.int .i64 0)],arr := none,cmp := none }),
  (75,{ size := 1,bytes := 8,agg := false,ty := (.int .u64),desc := (.int .u64),zero := [(.int .u64 0)],arr := none,cmp := none }),
  (92,{ size := 2,bytes := 32,agg := true,ty := (.st 32 (.cons (.sl (.int .u8)) (.cons (.int .i64) .unit))),desc := (.struct #[{ name := "Data",type := 39,offset := 0,byteOffset := 0,embedded := false,tag := "",pkgPath := "" },{ name := "Bits",type := 3,offset := 1,byteOffset := 24,embedded := false,tag := "",pkgPath := "" }]),zero := [(.sl 2 (.int .u8) []),(.int .i64 0)],arr := none,cmp := none }),
  (93,{ size := 1,bytes := 24,agg := false,ty := (.sl (.st 16 (.cons .unit (.cons (.int .i64) .unit)))),desc := (.slice 98),zero := [(.sl 2 (.st 16 (.cons .unit (.cons (.int .i64) .unit))) [])],arr := none,cmp := none }),
  (95,{ size := 1,bytes := 8,agg := false,ty := .unit,desc := (.pointer 27),zero := [.undef],arr := none,cmp := none }),
  (96,{ size := 1,bytes := 8,agg := false,ty := .unit,desc := (.pointer 3),zero := [.undef],arr := none,cmp := none }),
  (98,{ size := 2,bytes := 16,agg := true,ty := (.st 16 (.cons .unit (.cons (.int .i64) .unit))),desc := (.struct #[{ name := "value",type := 96,offset := 0,byteOffset := 0,embedded := false,tag := "",pkgPath := "bitcast/packet" },{ name := "bits",type := 3,offset := 1,byteOffset := 8,embedded := false,tag := "",pkgPath := "bitcast/packet" }]),zero := [.undef,(.int .i64 0)],arr := none,cmp := none }),
  (108,{ size := 1,bytes := 24,agg := false,ty := (.sl (.sl (.int .i64))),desc := (.slice 22),zero := [(.sl 2 (.sl (.int .i64)) [])],arr := none,cmp := none }),
  (114,{ size := 1,bytes := 8,agg := false,ty := .unit,desc := (.pointer 92),zero := [.undef],arr := none,cmp := none })]
def cl : List (Nat × List Nat) := [(24,[0,0,0]),(27,[0,0,0,0,0,0,0,0,0,2])]
def gl : List (Nat × (IntKind × List Int)) := []
abbrev bT : Sh := (.boxv 1 true [(.sl 0 (.int .i64)),(.int .i64)])
abbrev bP : Sh := (.boxv 1 true [(.int .i64),(.int .i64),(.int .i64),(.int .i64),(.int .i64),(.int .i64),(.int .i64),(.int .i64),(.int .u64),.str])
abbrev bF : Sh := (.boxv 1 true [(.sl 2 (.int .i64)),(.int .i64),(.int .i64),(.int .i64),(.int .i64),(.int .i64),(.int .i64),(.int .i64),(.int .i64),(.int .u64),.str])
theorem tab_ok : tab.map (fun p => tiOf Try.prog cl p.1) = tab.map (fun p => some p.2) := by kernel_rfl
theorem cl_ok : cl.map (fun p => (kindsB Try.prog 8 p.1,Try.prog.eqGuardType Try.prog.depth p.1)) = cl.map (fun p => (some p.2,false)) := by kernel_rfl
theorem pok (n : Nat) (hp : Bool) (md : List (Nat × Nat)) : POk Try.prog (mkE tab gl n hp md) := pok_of cl tab_ok cl_ok n hp md
theorem mix : Try.prog.follows .mixedOrders = true := by kernel_rfl
abbrev E106 : Env := mkE tab gl 6 false [(3,1),(2,2)]
abbrev plan106 : Plan := (.sq .go .go)

abbrev E103 : Env := mkE tab gl 17 false [(5,1),(4,2)]
abbrev plan103 : Plan := (.sq .go .go)

abbrev E100 : Env := mkE tab gl 17 false [(2,2),(4,2)]
abbrev plan100 : Plan := (.sq .go .go)

abbrev E97 : Env := mkE tab gl 44 false [(7,1),(12,1),(30,1),(1,2),(3,2),(2,2)]
abbrev plan97 : Plan := (.sq .go (.sq (.sq (.cut [40,38,36,34,32,30,28,26,24,22,20,18,16,14,12,10,8] [⟨0,[(40,(.lf .bool))],[0]⟩] .go) (.sq .go .go)) (.sq .go (.sq (.cut [4,86,84,82,80,78,76,74,72,70,68,66,64,62,60,58,56] [⟨0,[(4,(.lf .bool))],[6,54,52,50,48,46,44,42,40,2]⟩] .go) .go))))

abbrev E101 : Env := mkE tab gl 37 false [(7,1),(12,1),(30,1),(1,2),(3,2)]
abbrev plan101 : Plan := (.sq .go (.sq (.sq (.cut [8,10,12,14,16,18,20,22,24,26,28,30,32,34,36,38,40,42] [⟨0,[(42,(.lf .bool))],[0]⟩] .go) (.sq .go .go)) (.sq (.sq .go (.sq (.loop [6,62,60,72,70,68,66,64,4,48,50,52,54,56,58] [(6,(.lf (.int .i64)))] [46,44,42,4] [⟨1,[(4,(.lf .bool))],[6,46,44,42,2]⟩,⟨2,[],[6,46,44,42,2]⟩] (.sq (.sq .go .go) (.sq (.sq (.sq .go (.sq .go .go)) .go) .go))) .go)) .go)))

abbrev E48 : Env := mkE tab gl 31 true [(30,1),(17,2),(2,2)]
abbrev plan48 : Plan := (.sq .go (.sq (.sq .go (.sq .go .go)) (.sq .go .go)))

abbrev E47 : Env := mkE tab gl 16 false [(15,1),(7,1),(12,1),(13,1),(0,2),(4,2)]
abbrev plan47 : Plan := (.sq .go (.sq (.sq .go (.sq .go .go)) (.sq .go (.sq (.sq .go (.cut [0,28,26,24] [⟨0,[(0,(.lf (.int .i64)))],[22,20,18,16,14,12,10,2]⟩] .go)) .go))))

abbrev E19 : Env := mkE tab gl 9 true [(5,1),(7,1),(4,2)]
abbrev plan19 : Plan := (.sq .go .go)

abbrev E59 : Env := mkE tab gl 15 true [(8,1),(9,1),(6,2)]
abbrev plan59 : Plan := (.sq .go .go)

abbrev E18 : Env := mkE tab gl 11 true [(5,1),(4,2)]
abbrev plan18 : Plan := (.sq .go .go)

abbrev E17 : Env := mkE tab gl 12 true [(11,1),(6,1),(4,2)]
abbrev plan17 : Plan := (.sq .go .go)

abbrev E31 : Env := mkE tab gl 6 true [(3,1),(2,2)]
abbrev plan31 : Plan := (.sq .go .go)

abbrev E102 : Env := mkE tab gl 38 false [(6,1),(14,1),(17,1),(33,1),(2,2),(5,2),(31,2),(37,2)]
abbrev plan102 : Plan := (.sq .go (.sq .go (.sq .go (.sq (.sq .go (.cut [30,28,10,32] [⟨0,[(10,(.lf (.sl 2 (.int .u8))))],[26,24,22,20,18,16,14,12,0]⟩] .go)) (.sq (.sq .go (.cut [38,40,42,44,46,48,50,52,54,56,58,60,62,64,11,10] [⟨0,[(10,(.lf (.sl 2 (.int .u8))))],[36,34,2]⟩] (.sq (.opn [(10,0,5)]) .go))) .go)))))

abbrev E89 : Env := mkE tab gl 41 false [(40,5),(16,1),(21,1),(28,1),(32,1),(40,1),(3,2),(13,2),(27,2),(9,2),(39,2)]
abbrev plan89 : Plan := (.sq .go (.sq (.sq .go (.sq .go .go)) (.sq (.sq (.cut [28,30,32,34,36,38,40,42,44,46,48,50,52] [⟨0,[(52,(.lf .bool))],[24,22,20,0]⟩] .go) (.sq .go .go)) (.sq .go (.sq (.sq .go (.sq (.loop [18,66,64,78,17,76,74,72,70,68,58,60,62] [(18,(.lf (.int .i64))),(17,(.boxv 1 true [(.sl 2 (.int .u8)),(.int .i64)]))] [56,52,14,2] [⟨2,[(17,(.boxv 1 true [(.sl 2 (.int .u8)),(.int .i64)]))],[18,56,52,6,2,4]⟩] (.sq (.sq .go .go) (.sq .go .go))) .go)) .go)))))

abbrev E98 : Env := mkE tab gl 9 false [(1,2),(8,2)]
abbrev plan98 : Plan := (.sq .go .go)

abbrev E99 : Env := mkE tab gl 76 true [(28,1),(57,1),(58,1),(73,1),(74,1),(6,2),(30,2),(7,2),(8,2),(63,2),(70,2),(2,2)]
abbrev plan99 : Plan := (.sq (.loop [23,22,24,26,28,30,32,34,36,38,40,42,44,46,12,60,64,62,56,58,54,52,50,48,66,68,70,14,72,74,76,78,80,82,84,86,88,16,90,92,94,96,98,100,102,104,106,108,110,112,114,116,118,120,122,124,126,128,91,130,132,134,136,138,140,142,144,1,146,148,150,4,18,20] [(1,(.boxv 1 true [(.sl 2 (.int .u8)),(.int .i64)])),(4,(.lf (.int .i64)))] [] [⟨2,[(1,(.boxv 1 true [(.sl 2 (.int .u8)),(.int .i64)]))],[2,4]⟩] (.sq (.sq .go .go) (.sq (.sq (.opn [(1,0,11)]) (.sq (.sq .go (.cut [48,50,52,54,58,56,62,64,1,60,12] [⟨0,[(1,(.boxv 1 true [(.sl 2 (.int .u8)),(.int .i64)])),(12,(.lf (.int .i64)))],[46,44,42,40,38,36,34,32,30,28,26,24,22,20,18]⟩] .go)) (.sq .go (.sq .go (.sq (.opn [(1,0,45)]) .go))))) .go))) .go)

abbrev E104 : Env := mkE tab gl 23 false [(22,1),(9,1),(13,1),(17,1),(10,1),(3,2),(8,2),(7,2),(6,2)]
abbrev plan104 : Plan := (.sq .go (.sq .go (.sq (.sq .go (.sq (.loop [20,42,14,40,38,36,34,32,30,28,26,16,24,22] [(20,(.lf (.int .i64))),(14,(.lf (.int .u64)))] [12,0,4] [⟨2,[(14,(.lf (.int .u64)))],[20,18,6,0,2,4]⟩] (.sq .go (.sq .go (.sq (.sq .go .go) .go)))) .go)) .go)))

abbrev E105 : Env := mkE tab gl 26 true [(23,1),(24,1),(5,2),(8,2),(2,2)]
abbrev plan105 : Plan := (.sq .go (.sq (.loop [4,50,48,46,1,44,42,40,38,36,34,32,16,30,28,26,24,18,20,22] [(4,(.lf (.int .i64))),(1,(.boxv 1 true [(.sl 2 (.int .u8)),(.int .i64)]))] [2] [⟨2,[(1,(.boxv 1 true [(.sl 2 (.int .u8)),(.int .i64)]))],[10,2,4,6]⟩] (.sq (.sq .go .go) (.sq (.sq .go .go) .go))) .go))

abbrev E75 : Env := mkE tab gl 45 false [(44,5),(17,1),(21,1),(39,1),(41,1),(42,1),(44,1),(3,2),(9,2),(13,2),(14,2),(31,2),(32,2),(38,2),(40,2)]
abbrev plan75 : Plan := (.sq .go (.sq (.sq (.sq .go (.sq .go (.sq (.cut [30,32,34,36,38,40,42,44,46,48,50,52,54,56,58,60,28] [⟨0,[(28,(.lf .bool))],[18,24,22,20,0]⟩] .go) (.sq .go (.sq .go (.sq .go .go)))))) .go) (.sq .go (.sq .go .go))))

abbrev E75w1 : Env := mkE tab gl 45 false [(44,5),(17,1),(21,1),(39,1),(41,1),(42,1),(44,1),(3,2),(9,2),(13,2),(14,2),(31,2),(32,2),(38,2),(40,2)]
abbrev plan75w1 : Plan := (.sq .go (.sq (.sq (.sq .go (.sq .go (.sq (.cut [30,32,34,36,38,40,42,44,46,48,50,52,54,56,58,60,28] [⟨0,[(28,(.lf .bool))],[18,24,22,20,0]⟩] .go) (.sq .go (.sq .go (.sq .go .go)))))) .go) (.sq .go (.sq .go .go))))

abbrev E80 : Env := mkE tab gl 51 false [(50,5),(15,1),(19,1),(37,1),(41,1),(50,1),(3,2),(12,2),(30,2),(36,2),(8,2),(49,2)]
abbrev plan80 : Plan := (.sq .go (.sq (.sq (.opn [(7,0,9)]) (.sq .go .go)) (.sq (.sq (.cut [26,28,30,32,34,36,38,40,42,44,46,48,50,52,54,56,58] [⟨0,[(58,(.lf .bool))],[22,20,18,0]⟩] .go) (.sq .go .go)) (.sq (.sq .go (.sq .go .go)) (.sq (.sq .go (.sq (.loop [86,88,90,92,94,96,7,98,82,84,16,78,80] [(7,(.boxv 1 true [(.sl 2 (.int .u8)),(.int .i64)])),(16,(.lf (.int .i64)))] [76,74,70,68,66,64,62,58,14,4] [⟨2,[(7,(.boxv 1 true [(.sl 2 (.int .u8)),(.int .i64)]))],[16,76,74,70,68,66,64,62,58,2,4]⟩] (.sq (.sq .go .go) (.sq .go .go))) .go)) .go)))))

abbrev E83 : Env := mkE tab gl 40 false [(15,1),(19,1),(28,1),(36,1),(37,1),(38,1),(3,2),(8,2),(12,2),(23,2),(6,2)]
abbrev plan83 : Plan := (.sq .go (.sq (.sq (.sq .go (.sq .go (.sq (.cut [26,28,30,32,34,36,38,40,42,44,24] [⟨0,[(24,(.lf .bool))],[16,22,20,18,0]⟩] .go) (.sq .go (.sq (.cut [46,70,68,66,64,62,60,58,56,54,52,50,48] [⟨0,[(46,(.lf .bool))],[24]⟩] .go) (.sq .go .go)))))) .go) .go))

abbrev E86 : Env := mkE tab gl 45 false [(44,1),(15,1),(19,1),(37,1),(35,1),(3,2),(9,2),(8,2),(6,2)]
abbrev plan86 : Plan := (.sq .go (.sq (.sq .go (.sq .go .go)) (.sq (.sq (.cut [26,28,30,32,34,36,38,40,42,44] [⟨0,[(44,(.lf .bool))],[24,22,20,0]⟩] .go) (.sq .go .go)) (.sq (.sq .go (.sq .go .go)) (.sq .go (.sq (.sq .go (.sq (.loop [18,72,70,16,86,84,82,80,78,76,74,60,62,64,66,68] [(18,(.lf (.int .i64))),(16,(.lf (.int .u64)))] [58,56,54,52,50,48,46,44,14,12] [⟨2,[(16,(.lf (.int .u64)))],[18,58,56,54,52,50,48,46,44,6,2,4]⟩] (.sq (.sq .go .go) (.sq .go .go))) .go)) .go))))))

abbrev E76 : Env := mkE tab gl 29 false [(28,1),(17,1),(20,1),(22,1),(25,1),(12,1),(1,2),(5,2),(6,2),(4,2),(2,2)]
abbrev plan76 : Plan := (.sq .go (.sq (.sq .go (.sq .go .go)) (.sq .go (.sq .go (.sq (.sq .go (.sq (.loop [24,54,8,52,50,48,46,44,42,40,38,36,34,12,32,30,10,28,26] [(24,(.lf (.int .i64))),(8,(.lf (.int .u64)))] [20,18,16,14,6,4,0] [⟨2,[(8,(.lf (.int .u64)))],[24,22,20,18,16,14,2,0]⟩] (.sq .go (.sq .go (.sq (.sq (.sq .go (.sq .go (.sq .go (.sq (.sq .go .go) .go)))) .go) .go)))) .go)) .go)))))

abbrev E81 : Env := mkE tab gl 30 false [(29,1),(18,1),(21,1),(27,1),(14,1),(1,2),(6,2),(4,2),(5,2),(2,2)]
abbrev plan81 : Plan := (.sq .go (.sq (.sq .go (.sq .go .go)) (.sq .go (.sq (.sq .go (.sq (.loop [10,30,28,8,56,54,52,50,48,46,44,42,40,38,36,12,34,32,18,16,14,0,20,22,24,26] [(10,(.lf (.int .i64))),(8,(.lf (.int .u64)))] [18,16,14,6,4,0] [⟨2,[(8,(.lf (.int .u64)))],[10,18,16,14,2,0]⟩] (.sq (.sq .go .go) (.sq (.sq (.sq .go (.sq .go (.sq .go (.cut [8,56,54] [⟨0,[(8,(.lf (.int .u64)))],[52,50,48,46,44,42,40,38,36,12,34,32,26,24,22,20]⟩] .go)))) .go) .go))) .go)) .go))))

abbrev E9 : Env := mkE tab gl 11 false [(6,1),(8,1),(0,2),(10,2),(2,2)]
abbrev plan9 : Plan := (.sq .go (.sq (.sq .go (.cut [12,14,0] [⟨0,[(0,(.lf (.sl 0 (.int .i64))))],[10,8,6]⟩] .go)) .go))

abbrev E82 : Env := mkE tab gl 15 false [(14,5),(14,1),(1,2),(7,2),(13,2)]
abbrev plan82 : Plan := (.sq .go (.sq (.sq (.opn [(3,0,4)]) (.sq .go .go)) (.sq (.sq (.loop [26,3,24,16,18,20,22] [(3,(.boxv 1 true [(.sl 2 (.int .u8)),(.int .i64)]))] [12,10,8,6,0] [⟨2,[(3,(.boxv 1 true [(.sl 2 (.int .u8)),(.int .i64)]))],[12,10,8,0]⟩] (.sq (.sq .go .go) .go)) .go) .go)))

abbrev E85 : Env := mkE tab gl 34 false [(33,5),(17,1),(22,1),(29,1),(30,1),(31,1),(33,1),(3,2),(9,2),(13,2),(14,2),(28,2)]
abbrev plan85 : Plan := (.sq .go (.sq (.sq (.sq .go (.sq .go (.sq (.cut [30,32,34,36,38,40,42,44,46,48,50,52,54,28] [⟨0,[(28,(.lf .bool))],[18,24,22,20,0]⟩] .go) (.sq .go .go)))) .go) (.sq .go (.sq .go .go))))

abbrev E94 : Env := mkE tab gl 17 false [(5,1),(9,1),(13,1),(2,2)]
abbrev plan94 : Plan := (.sq .go (.sq (.cut [4,32,30,28,26,24,22,20,18,16,14,12,10,8,6] [⟨0,[(4,(.lf .bool))],[0]⟩] .go) .go))

abbrev E96 : Env := mkE tab gl 17 false [(5,1),(9,1),(13,1),(2,2)]
abbrev plan96 : Plan := (.sq .go (.sq (.cut [4,32,30,28,26,24,22,20,18,16,14,12,10,8,6] [⟨0,[(4,(.lf .bool))],[0]⟩] .go) .go))

abbrev E78 : Env := mkE tab gl 11 false [(10,1),(6,1),(8,1),(0,2),(3,2),(2,2)]
abbrev plan78 : Plan := (.sq .go (.sq .go (.sq (.sq (.loop [6,18,16,0,14,12,8,10] [(6,(.lf (.int .i64))),(0,(.lf (.int .i64)))] [4] [⟨2,[(6,(.lf (.int .i64)))],[0]⟩] (.sq (.sq .go .go) (.sq .go .go))) .go) .go)))

abbrev E87 : Env := mkE tab gl 6 false [(3,1),(2,2)]
abbrev plan87 : Plan := (.sq .go .go)

abbrev E63 : Env := mkE tab gl 6 true [(3,1),(2,2)]
abbrev plan63 : Plan := (.sq .go .go)

abbrev E68 : Env := mkE tab gl 12 false [(7,1),(4,2)]
abbrev plan68 : Plan := (.sq .go (.sq (.cut [8,22,20,18,16,14,12,10] [⟨0,[(8,(.lf .bool))],[0,2]⟩] .go) .go))

abbrev E70 : Env := mkE tab gl 12 false [(7,1),(4,2)]
abbrev plan70 : Plan := (.sq .go (.sq (.cut [8,22,20,18,16,14,12,10] [⟨0,[(8,(.lf .bool))],[0,2]⟩] .go) .go))

abbrev E91 : Env := mkE tab gl 12 false [(5,1),(9,1),(2,2)]
abbrev plan91 : Plan := (.sq .go (.sq (.sq (.cut [16,14,12,10,8,6] [⟨0,[(16,(.lf .bool))],[]⟩] .go) (.sq .go .go)) .go))

abbrev E95 : Env := mkE tab gl 9 false [(6,1),(2,2)]
abbrev plan95 : Plan := (.sq .go (.sq (.sq .go (.sq .go .go)) .go))

abbrev E92 : Env := mkE tab gl 18 false [(17,1),(13,1),(11,1),(3,2),(4,2),(2,2)]
abbrev plan92 : Plan := (.sq .go (.sq (.sq .go (.sq .go .go)) (.sq .go (.sq (.sq .go (.sq (.loop [8,24,22,6,32,30,28,26,16,18,20] [(8,(.lf (.int .i64))),(6,(.lf (.int .u64)))] [14,12,10,4] [⟨2,[(6,(.lf (.int .u64)))],[8,14,12,10,0]⟩] (.sq (.sq .go .go) (.sq .go .go))) .go)) .go))))

abbrev E69 : Env := mkE tab gl 14 false [(7,1),(4,2)]
abbrev plan69 : Plan := (.sq .go (.sq (.cut [8,26,24,22,20,18,16,14,12,10] [⟨0,[(8,(.lf .bool))],[0,2]⟩] .go) .go))

abbrev E71 : Env := mkE tab gl 14 false [(7,1),(4,2)]
abbrev plan71 : Plan := (.sq .go (.sq (.cut [8,26,24,22,20,18,16,14,12,10] [⟨0,[(8,(.lf .bool))],[0,2]⟩] .go) .go))

abbrev E64 : Env := mkE tab gl 30 true [(20,1),(26,1),(27,1),(5,2),(16,2),(18,2),(24,2),(4,2)]
abbrev plan64 : Plan := (.sq .go (.sq .go (.sq (.sq .go (.sq (.sq .go (.cut [10,48,50,36,38,32,34,30,28,26,24,22,20,18,16,14,12,40,42,44,1,46] [⟨0,[(10,(.lf (.int .u64))),(1,bT)],[32,34,30,28,26,24,22,20,18,16,14,12]⟩] (.sq .go (.sq .go (.cut [46,1,44,42,40,12,14,16,18,20,22,24,26,28,30,34,32,38,36,50,48,10] [⟨0,[(1,bT),(10,(.lf (.int .u64)))],[36,38,32,34,30,28,26,24,22,20,18,16,14,12]⟩] (.sq .go (.sq .go (.cut [10] [⟨0,[(10,(.lf (.int .u64)))],[48,50,36,38,32,34,30,28,26,24,22,20,18,16,14,12]⟩] .go)))))))) .go)) .go)))

abbrev E65 : Env := mkE tab gl 22 true [(14,1),(8,1),(12,1),(20,1),(6,2),(5,2),(4,2)]
abbrev plan65 : Plan := (.sq .go (.sq .go (.sq (.sq .go (.sq (.loop [30,32,1,34,36,28,10,38,24,26,12,20,22] [(1,bT),(10,(.lf (.sl 2 (.int .u8)))),(12,(.lf (.int .i64)))] [18,16,14,8,2] [⟨2,[(1,bT),(10,(.lf (.sl 2 (.int .u8))))],[12,18,16,14,2]⟩] (.sq (.sq .go .go) (.sq .go .go))) .go)) (.sq (.opn [(10,0,5)]) .go))))

abbrev E38 : Env := mkE tab gl 33 true [(18,1),(23,1),(27,1),(32,1),(28,1),(29,1),(12,1),(7,2),(8,2),(5,2),(6,2),(4,2)]
abbrev plan38 : Plan := (.sq .go (.sq .go (.sq (.sq .go (.sq (.loop [28,30,32,34,1,14,38,40,42,36,44,48,50,46,52,16,56,58,60,54,10,62,24,26,12,18,20,22] [(1,bT),(10,(.lf (.sl 2 (.int .i64)))),(12,(.lf (.int .i64)))] [8] [⟨2,[(1,bT),(10,(.lf (.sl 2 (.int .i64))))],[12,2]⟩] (.sq (.sq .go .go) (.sq (.sq (.sq .go (.sq .go (.sq .go .go))) .go) .go))) .go)) .go)))

abbrev E44 : Env := mkE tab gl 54 false [(6,1),(11,1),(16,1),(21,1),(28,1),(33,1),(38,1),(43,1),(48,1),(1,2),(2,2)]
abbrev plan44 : Plan := (.sq .go (.sq (.cut [4,106,104,102,100,98,96,94,92,90,88,86,84,82,80,78,76,74,72,70,68,66,64,62,60,58,56,54,52,50,48,46,44,42,40,38,36,34,32,30,28,26,24,22,20,18,16,14,12,10,8,6] [⟨0,[(4,(.lf .bool))],[2,0]⟩] .go) .go))

abbrev E46 : Env := mkE tab gl 54 false [(6,1),(11,1),(16,1),(21,1),(28,1),(33,1),(38,1),(43,1),(48,1),(1,2),(2,2)]
abbrev plan46 : Plan := (.sq .go (.sq (.cut [4,106,104,102,100,98,96,94,92,90,88,86,84,82,80,78,76,74,72,70,68,66,64,62,60,58,56,54,52,50,48,46,44,42,40,38,36,34,32,30,28,26,24,22,20,18,16,14,12,10,8,6] [⟨0,[(4,(.lf .bool))],[2,0]⟩] .go) .go))

abbrev E84 : Env := mkE tab gl 11 false [(5,1),(7,1),(4,2)]
abbrev plan84 : Plan := (.sq .go .go)

abbrev E88 : Env := mkE tab gl 13 false [(5,1),(7,1),(4,2)]
abbrev plan88 : Plan := (.sq .go .go)

abbrev E73 : Env := mkE tab gl 11 false [(10,1),(8,1),(3,2),(2,2)]
abbrev plan73 : Plan := (.sq .go (.sq .go (.sq (.sq (.loop [14,12,10,8,16,18,6] [(6,(.lf (.int .i64)))] [4] [⟨2,[(6,(.lf (.int .i64)))],[0]⟩] (.sq (.sq .go .go) .go)) .go) .go)))

abbrev E74 : Env := mkE tab gl 44 false [(9,1),(23,1),(41,1),(8,2)]
abbrev plan74 : Plan := (.sq .go .go)

abbrev E79 : Env := mkE tab gl 2 false [(0,2)]
abbrev plan79 : Plan := (.sq .go .go)

abbrev E52 : Env := mkE tab gl 80 false [(38,101),(79,1),(29,1),(25,1),(42,1),(61,1),(59,1),(55,1),(67,1),(74,1),(72,1),(1,2),(19,2),(22,2),(28,2),(39,2),(49,2),(11,2),(64,2),(12,2),(13,2),(76,2),(2,2)]
abbrev plan52 : Plan := (.sq .go (.sq (.sq .go (.sq .go .go)) (.sq .go (.sq .go (.sq (.sq .go (.sq (.unr 11 (.sq .go (.sq .go (.sq (.sq .go .go) .go)))) .go)) (.sq .go (.sq (.sq .go (.sq (.loop [110,132,128,9,130,118,126,124,122,120,106,107,22,116,114,112] [(110,(.lf (.int .i64))),(9,(.boxv 1 true [(.sl 2 (.int .u8)),(.int .i64)])),(106,(.lf (.sl 2 (.int .u8))))] [104,102,100,98,84,96,94,92,90,88,86,82,80,78,58,76,74,72,70,68,66,64,62,60,18,56,54,52,50,48,46,14,12,10,44,42,40,38,36,34,32,30,28,6,4,2,0] [⟨4,[(9,(.boxv 1 true [(.sl 2 (.int .u8)),(.int .i64)]))],[110,108,106,104,102,100,98,84,96,94,92,90,88,86,82,80,78,58,76,74,72,70,68,66,64,62,60,18,56,54,52,50,48,46,14,12,10,44,42,40,38,36,34,32,30,28,2,0]⟩] (.sq .go (.sq .go (.sq (.sq (.sq (.opn [(106,0,53)]) .go) .go) .go)))) .go)) (.sq (.opn [(9,0,68)]) (.sq .go .go)))))))))

abbrev E54 : Env := mkE tab gl 100 false [(42,9),(72,9),(43,1),(57,1),(73,1),(88,1),(94,1),(99,1),(42,1),(40,1),(56,1),(72,1),(70,1),(82,1),(89,1),(87,1),(93,1),(1,2),(4,2),(5,2),(54,2),(7,2),(63,2),(80,2),(8,2),(9,2),(10,2),(91,2),(96,2),(2,2)]
abbrev plan54 : Plan := (.sq .go (.sq (.sq .go (.sq .go .go)) (.sq .go (.sq .go (.sq .go (.sq (.sq .go (.sq (.loop [14,82,80,13,85,110,108,106,84,86,104,102,100,98,96,94,92,90,88,72,74,76,78,9,8] [(14,(.lf (.int .i64))),(13,(.boxv 1 true [(.sl 2 (.int .u8)),(.int .i64)])),(8,(.lf (.sl 1 (.int .i64))))] [70,68,66,64,62,60,58,56,54,52,50,48,46,44,42,40,38,36,34,32,30,28,26,24,22,6,4,0] [⟨2,[(13,(.boxv 1 true [(.sl 2 (.int .u8)),(.int .i64)]))],[14,10,70,8,68,66,64,62,60,58,56,54,52,50,48,46,44,42,40,38,36,34,32,30,28,26,24,22,0]⟩] (.sq (.sq .go .go) (.sq (.sq (.sea [(13,0,42)]) .go) .go))) .go)) (.sq .go (.sq (.sq .go (.sq (.loop [148,150,152,154,156,146,144,158,160,162,145,13,140,142,16,130,132,134,136,138] [(13,(.boxv 1 true [(.sl 2 (.int .u8)),(.int .i64)])),(16,(.lf (.int .i64)))] [128,126,112,124,122,120,118,116,114] [⟨4,[(13,(.boxv 1 true [(.sl 2 (.int .u8)),(.int .i64)]))],[16,128,126,112,124,122,120,118,116,114,2]⟩] (.sq (.sq .go .go) (.sq (.sq (.sea [(13,0,72)]) .go) .go))) .go)) (.sq (.opn [(13,0,83)]) (.sq .go (.sq .go .go)))))))))))

abbrev E56 : Env := mkE tab gl 176 false [(175,5),(165,1),(49,1),(59,1),(62,1),(45,1),(67,1),(75,1),(87,1),(98,1),(106,1),(105,1),(110,1),(117,1),(118,1),(124,1),(131,1),(134,1),(137,1),(138,1),(142,1),(151,1),(159,1),(166,1),(170,1),(172,1),(175,1),(31,2),(37,2),(41,2),(48,2),(12,2),(13,2),(60,2),(9,2),(68,2),(14,2),(74,2),(77,2),(78,2),(82,2),(83,2),(91,2),(92,2),(97,2),(103,2),(16,2),(17,2),(18,2),(19,2),(20,2),(120,2),(21,2),(22,2),(23,2),(133,2),(141,2),(148,2),(25,2),(26,2),(24,2),(158,2),(173,2)]
abbrev plan56 : Plan := (.sq .go (.sq (.sq .go (.sq .go .go)) (.sq .go (.sq .go (.sq .go (.sq .go (.sq .go (.sq (.sq .go (.sq (.unr 11 (.sq .go (.sq .go (.sq (.sq (.sq .go (.sq .go .go)) .go) .go)))) .go)) (.sq .go (.sq .go (.sq (.sq (.sq .go (.sq .go (.sq .go (.sq .go (.sq (.cut [166,180,178,176,174,172,170,168] [⟨0,[(166,(.lf .bool))],[156,162,160,158,148,152,150,146,144,142,140,138,136,134,132,130,128,126,124,122,120,118,116,114,26,24,112,110,98,108,106,104,102,100,22,96,94,92,90,88,86,14,12,84,82,80,78,76,74,72,70,68,66,64,60,58,56,54]⟩] .go) (.sq .go (.sq .go (.sq .go .go)))))))) .go) (.sq .go (.sq .go (.sq (.sq .go (.sq .go (.sq .go .go))) (.sq .go (.sq (.sq .go (.sq .go (.sq .go .go))) (.sq (.sq .go (.sq .go .go)) (.sq .go (.sq .go (.sq .go (.sq (.sq (.loop [320,322,318,324,326,328,50,52,332,334,336,330,48,338,340,342,18,314,316,17,310,312] [(48,(.lf (.sl 2 (.int .u8)))),(18,(.lf (.int .i64))),(17,(.boxv 1 true [(.int .i64)]))] [308,306,304,302,300,298,296,284,294,292,290,288,286,280,278,276,274,272,270,268,264,262,46,44,260,258,248,256,254,252,250,42,246,244,242,238,236,234,40,38,232,230,220,228,226,224,222,36,34,218,216,210,214,212,32,30,208,206,196,204,202,200,198,184,192,190,188,186,166,28,6,0] [⟨5,[(48,(.lf (.sl 2 (.int .u8))))],[308,306,304,302,300,298,296,284,294,292,290,288,286,280,278,276,274,272,270,268,264,262,46,44,260,258,248,256,254,252,250,42,246,244,242,238,236,234,40,38,232,230,220,228,226,224,222,36,34,218,216,210,214,212,32,30,208,206,196,204,202,200,198,184,192,190,188,186,166,28,18,16,8,0,23,87]⟩] (.sq (.sq .go .go) (.sq (.sq (.sq .go .go) .go) .go))) .go) (.sq (.opn [(48,0,24)]) .go))))))))))))))))))))))

abbrev E58 : Env := mkE tab gl 215 false [(214,5),(61,1),(153,1),(37,1),(51,1),(62,1),(66,1),(49,1),(86,1),(129,1),(137,1),(147,1),(154,1),(158,1),(145,1),(160,1),(163,1),(170,1),(169,1),(174,1),(180,1),(181,1),(184,1),(187,1),(186,1),(200,1),(203,1),(205,1),(207,1),(208,1),(214,1),(30,2),(4,2),(0,2),(43,2),(6,2),(10,2),(11,2),(7,2),(8,2),(9,2),(76,2),(81,2),(92,2),(12,2),(105,2),(128,2),(134,2),(16,2),(17,2),(14,2),(15,2),(161,2),(167,2),(19,2),(20,2),(21,2),(22,2),(23,2),(183,2),(24,2),(25,2),(202,2),(213,2)]
abbrev plan58 : Plan := (.sq .go (.sq (.sq .go (.sq .go .go)) (.sq .go (.sq (.sq .go (.cut [68,70,72,8,74,76,0] [⟨0,[(8,(.lf (.int .i64))),(0,(.lf (.sl 0 (.int .u8))))],[66,64,62,58,56,54,52]⟩] (.sq .go .go))) (.sq .go (.sq .go (.sq .go (.sq .go (.sq (.sq .go (.sq (.loop [104,106,108,110,112,114,102,116,118,120,20,22,124,126,128,122,14,130,132,134,136,138,140,142,16,98,100,18,90,92,94,96] [(14,(.lf (.sl 2 (.int .i64)))),(16,(.lf (.int .i64))),(18,(.lf (.int .i64)))] [88,86,84,82,80,78,6] [⟨2,[(14,(.lf (.sl 2 (.int .i64)))),(16,(.lf (.int .i64)))],[18,12,88,86,84,82,80,78]⟩] (.sq (.sq .go .go) (.sq (.sq (.sq .go .go) .go) .go))) .go)) (.sq (.sq (.opn [(14,0,7)]) (.sq .go .go)) (.sq (.sq (.opn [(14,0,7)]) (.sq .go .go)) (.sq (.sq (.cut [14,15,182,180,178,176,174,172,170,168,166,164] [⟨0,[(14,(.lf (.sl 2 (.int .i64)))),(182,(.lf .bool))],[160,158,156,154,150,148,146,144]⟩] (.opn [(14,0,7)])) (.sq .go .go)) (.sq (.opn [(14,0,7)]) (.sq (.sq (.opn [(14,0,7)]) (.sq .go .go)) (.sq (.opn [(14,0,7)]) (.sq .go (.sq .go (.sq .go (.sq (.sq .go (.sq (.loop [296,298,294,300,302,304,32,34,308,310,312,306,28,314,316,318,16,290,292,30,280,282,284,286,288,15,14] [(28,(.lf (.sl 2 (.int .u8)))),(16,(.lf (.int .i64))),(30,(.lf (.int .i64))),(14,(.lf (.sl 2 (.int .i64))))] [278,276,274,272,270,268,258,266,264,262,260,256,254,252,250,248,246,244,242,240,238,236,234,232,230,228,226,224,222,220,218,216,214,212,208,206,204,202,200,198,196,194,192,190,188,186,182] [⟨4,[(28,(.lf (.sl 2 (.int .u8)))),(16,(.lf (.int .i64))),(14,(.lf (.sl 2 (.int .i64))))],[30,278,276,274,272,270,268,258,266,264,262,260,256,254,252,250,248,246,244,242,240,238,236,234,232,230,228,226,224,222,220,218,216,214,212,208,206,204,202,200,198,196,194,192,190,188,186,182]⟩] (.sq (.sq (.opn [(14,0,7)]) .go) (.sq (.sq (.sq .go .go) .go) .go))) .go)) (.sq (.opn [(28,0,14)]) (.sq .go (.sq .go (.sq .go (.sq (.sq .go (.sq .go .go)) (.sq .go (.sq (.opn [(14,0,7)]) (.sq (.sq .go (.sq .go .go)) (.sq (.sq (.opn [(14,0,7)]) (.sq .go .go)) .go))))))))))))))))))))))))))))

abbrev E37 : Env := mkE tab gl 98 true [(97,5),(35,1),(58,1),(63,1),(68,1),(73,1),(79,1),(84,1),(89,1),(94,1),(52,1),(97,1),(5,2),(32,2),(56,2),(59,2),(61,2),(64,2),(66,2),(69,2),(71,2),(75,2),(77,2),(80,2),(82,2),(85,2),(87,2),(90,2),(92,2),(95,2),(48,2),(54,2)]
abbrev plan37 : Plan := (.sq .go (.sq .go (.sq .go (.sq (.sq (.cut [1,78,76,74,72,70,68,66] [⟨0,[(1,bT),(78,(.lf .bool))],[64,62,60,58,56,54,52,50,48,46,44,42,40,38,36,34,32,30,28,26,24,22,20,18,10,16,14,2]⟩] .go) (.cut [120,118,116,140,138,136,162,160,158,182,180,178,78,80,82,114,112,124,122,134,132,144,142,156,154,166,164,176,174,186,184,90,88,86,84,98,96,94,92,100,102,104,106,1,108,110,13,188,190,192,168,170,172,146,150,148,152,126,128,130] [⟨0,[(1,bT),(13,bP)],[78]⟩] (.sq (.sq .go (.sq (.sq .go (.cut [120,118,116,140,138,136,162,160,158,182,180,178,78,80,82,114,112,124,122,134,132,144,142,156,154,166,164,176,174,186,184,90,88,86,84,98,96,94,92,100,102,104,106,1,108,110,13,188,190,192,168,170,172,146,150,148,152,126,128,130] [⟨0,[(1,bT),(13,bP)],[112,114,82,80,78]⟩] (.sq .go (.sq .go (.cut [130,128,126,152,148,150,146,172,170,168,192,190,188,13,110,108,1,106,104,102,100,92,94,96,98,84,86,88,90,184,186,174,176,164,166,154,156,142,144,132,134,122,124,112,114,82,80,78,178,180,182,158,160,162,136,138,140] [⟨0,[(13,bP),(1,bT)],[122,124,112,114,82,80,78]⟩] (.sq .go (.sq .go (.cut [140,138,136,162,160,158,182,180,178,78,80,82,114,112,124,122,134,132,144,142,156,154,166,164,176,174,186,184,90,88,86,84,98,96,94,92,100,102,104,106,1,108,110,13,188,190,192,168,170,172,146,150,148,152] [⟨0,[(1,bT),(13,bP)],[132,134,122,124,112,114,82,80,78]⟩] (.sq .go (.sq .go (.cut [152,148,150,146,172,170,168,192,190,188,13,110,108,1,106,104,102,100,92,94,96,98,84,86,88,90,184,186,174,176,164,166,154,156,142,144,132,134,122,124,112,114,82,80,78,178,180,182,158,160,162] [⟨0,[(13,bP),(1,bT)],[142,144,132,134,122,124,112,114,82,80,78]⟩] (.sq .go (.sq .go (.cut [162,160,158,182,180,178,78,80,82,114,112,124,122,134,132,144,142,156,154,166,164,176,174,186,184,90,88,86,84,98,96,94,92,100,102,104,106,1,108,110,13,188,190,192,168,170,172] [⟨0,[(1,bT),(13,bP)],[154,156,142,144,132,134,122,124,112,114,82,80,78]⟩] (.sq .go (.sq .go (.cut [172,170,168,192,190,188,13,110,108,1,106,104,102,100,92,94,96,98,84,86,88,90,184,186,174,176,164,166,154,156,142,144,132,134,122,124,112,114,82,80,78,178,180,182] [⟨0,[(13,bP),(1,bT)],[164,166,154,156,142,144,132,134,122,124,112,114,82,80,78]⟩] (.sq .go (.sq .go (.cut [182,180,178,78,80,82,114,112,124,122,134,132,144,142,156,154,166,164,176,174,186,184,90,88,86,84,98,96,94,92,100,102,104,106,1,108,110,13,188,190,192] [⟨0,[(1,bT),(13,bP)],[174,176,164,166,154,156,142,144,132,134,122,124,112,114,82,80,78]⟩] (.sq .go (.sq .go (.cut [192,190,188,13,110,108,1,106,104,102,100,92,94,96,98,84,86,88,90,184,186,174,176,164,166,154,156,142,144,132,134,122,124,112,114,82,80,78] [⟨0,[(13,bP),(1,bT)],[184,186,174,176,164,166,154,156,142,144,132,134,122,124,112,114,82,80,78]⟩] (.sq .go (.sq (.sq (.loop [92,94,96,98,13,84,86,88,90] [(13,bP)] [184,186,174,176,164,166,154,156,142,144,132,134,122,124,112,114,82,80,78] [⟨3,[(13,bP)],[184,186,174,176,164,166,154,156,142,144,132,134,122,124,112,114,82,80,78]⟩] (.sq (.sq .go .go) .go)) .go) .go))))))))))))))))))))))))) .go)) .go))) .go))))

abbrev E39 : Env := mkE tab gl 15 false [(8,1),(10,1),(6,2)]
abbrev plan39 : Plan := (.sq .go (.sq (.cut [12,28,26,24,22,20,18,16,14] [⟨0,[(12,(.lf .bool))],[0,2,4]⟩] .go) .go))

abbrev E42 : Env := mkE tab gl 5 false [(3,1),(2,2)]
abbrev plan42 : Plan := (.sq .go .go)

abbrev E41 : Env := mkE tab gl 6 false [(3,1),(2,2)]
abbrev plan41 : Plan := (.sq .go .go)

abbrev E61 : Env := mkE tab gl 6 false [(3,1),(2,2)]
abbrev plan61 : Plan := (.sq .go .go)

abbrev E93 : Env := mkE tab gl 19 false [(17,1),(8,1),(5,2),(4,2)]
abbrev plan93 : Plan := (.sq .go (.sq (.sq .go (.sq (.loop [8,34,20,10,22,24,26,28,30,32,36,16,18] [(16,(.lf (.int .i64)))] [12,8] [⟨1,[(8,(.lf (.int .i64)))],[16,14,12,0,2]⟩,⟨2,[],[16,14,12,0,2]⟩] (.sq .go (.sq .go (.sq (.sq (.sq .go (.sq .go (.sq .go .go))) .go) .go)))) .go)) .go))

abbrev E67 : Env := mkE tab gl 9 false [(5,1),(6,1),(4,2)]
abbrev plan67 : Plan := (.sq .go .go)

abbrev E43 : Env := mkE tab gl 18 false [(13,1),(15,1),(7,1),(3,2),(4,2)]
abbrev plan43 : Plan := (.sq .go (.sq (.sq .go (.sq (.loop [14,34,32,30,28,26,24,8,6,22,20,18,4,16] [(14,(.lf (.int .i64)))] [4] [⟨1,[(4,(.lf .bool))],[14,12,10,0]⟩,⟨2,[],[14,12,10,0]⟩] (.sq .go (.sq .go (.sq (.sq (.sq .go (.sq .go (.sq .go .go))) .go) .go)))) .go)) .go))

abbrev E45 : Env := mkE tab gl 25 false [(14,1),(9,1),(4,2),(3,2)]
abbrev plan45 : Plan := (.sq .go (.sq (.sq .go (.sq (.loop [6,20,18,8,30,28,48,46,44,42,40,38,36,34,32,4,22,24,26,10,12,14,16] [(6,(.lf (.int .i64)))] [4] [⟨1,[(4,(.lf .bool))],[6,0]⟩,⟨2,[],[6,0]⟩] (.sq (.sq .go .go) (.sq (.sq (.sq .go (.sq (.loop [8,30,28,48,46,44,42,40,38,36,34,32,4,22,24,26] [(8,(.lf (.int .i64)))] [16,14,12,10] [⟨1,[(4,(.lf .bool))],[8,16,14,12,10]⟩,⟨4,[],[8,16,14,12,10]⟩] (.sq (.sq .go .go) (.sq (.sq (.sq .go (.sq .go .go)) .go) .go))) .go)) .go) .go))) .go)) .go))

abbrev E66 : Env := mkE tab gl 19 false [(17,1),(8,1),(5,2),(4,2)]
abbrev plan66 : Plan := (.sq .go (.sq (.sq .go (.sq (.loop [8,34,20,10,22,24,26,28,30,32,36,16,18] [(16,(.lf (.int .i64)))] [12,8] [⟨1,[(8,(.lf (.int .i64)))],[16,14,12,0,2]⟩,⟨2,[],[16,14,12,0,2]⟩] (.sq .go (.sq .go (.sq (.sq (.sq .go (.sq .go (.sq .go .go))) .go) .go)))) .go)) .go))

abbrev E40 : Env := mkE tab gl 9 false [(5,1),(6,1),(4,2)]
abbrev plan40 : Plan := (.sq .go .go)

abbrev E12 : Env := mkE tab gl 16 false [(6,1),(11,1),(1,2),(2,2)]
abbrev plan12 : Plan := (.sq .go (.sq (.cut [6,8,10,12,14,16,18,20,22,24,26,28,30,4] [⟨0,[(4,(.lf .bool))],[2,0]⟩] .go) .go))

abbrev E13 : Env := mkE tab gl 31 false [(6,1),(11,1),(16,1),(21,1),(26,1),(1,2),(2,2)]
abbrev plan13 : Plan := (.sq .go (.sq (.cut [4,60,58,56,54,52,50,48,46,44,42,40,38,36,34,32,30,28,26,24,22,20,18,16,14,12,10,8,6] [⟨0,[(4,(.lf .bool))],[2,0]⟩] .go) .go))

abbrev E50 : Env := mkE tab gl 6 false [(3,1),(1,2),(2,2)]
abbrev plan50 : Plan := (.sq .go .go)

abbrev E55 : Env := mkE tab gl 18 false [(8,1),(13,1),(1,2),(2,2)]
abbrev plan55 : Plan := (.sq .go (.sq (.cut [6,8,10,12,14,16,18,20,22,24,26,28,30,32,34,4] [⟨0,[(4,(.lf .bool))],[2,0]⟩] .go) .go))

abbrev E14 : Env := mkE tab gl 24 false [(7,1),(13,1),(19,1),(1,2),(2,2)]
abbrev plan14 : Plan := (.sq .go (.sq (.cut [4,46,44,42,40,38,36,34,32,30,28,26,24,22,20,18,16,14,12,10,8,6] [⟨0,[(4,(.lf .bool))],[2,0]⟩] .go) .go))

abbrev E15 : Env := mkE tab gl 37 false [(8,1),(26,1),(18,1),(1,2),(3,2),(2,2)]
abbrev plan15 : Plan := (.sq .go (.sq (.sq (.cut [24,22,20,18,16,14,12,10,8] [⟨0,[(24,(.lf .bool))],[0]⟩] .go) (.sq .go .go)) (.sq (.sq .go (.sq (.loop [6,38,36,40,42,44,46,48,50,52,54,56,58,60,62,64,66,24,4,26,28,30,32,34] [(6,(.lf (.int .i64)))] [24,4] [⟨1,[(4,(.lf .bool))],[6,24]⟩,⟨2,[],[6,24]⟩] (.sq (.sq .go .go) (.sq (.sq (.sq (.cut [40,42,44,46,48,50,52,54,56,58,60,62,64,66] [⟨0,[(66,(.lf .bool))],[34,32,30,28,26]⟩] .go) (.sq .go .go)) .go) .go))) .go)) .go)))

abbrev E57 : Env := mkE tab gl 26 false [(15,1),(5,2)]
abbrev plan57 : Plan := (.sq .go (.sq (.sq .go (.sq .go .go)) (.sq (.sq .go (.sq (.loop [10,32,30,50,48,46,44,42,40,38,36,34,8,22,24,26,28] [(10,(.lf (.int .i64)))] [20,18,16,14,12,8] [⟨1,[(8,(.lf .bool))],[10,20,18,16,14,12,0,2]⟩,⟨2,[],[10,20,18,16,14,12,0,2]⟩] (.sq (.sq .go .go) (.sq (.sq (.sq .go (.sq .go .go)) .go) .go))) .go)) .go)))

abbrev E28 : Env := mkE tab gl 17 false [(10,1),(2,2),(3,2),(4,2)]
abbrev plan28 : Plan := (.sq .go (.sq (.cut [8,32,30,28,26,24,22,20,18,16,14,12,10] [⟨0,[(8,(.lf .bool))],[6,4,0,2]⟩] .go) .go))

abbrev E23 : Env := mkE tab gl 26 false [(15,1),(5,2)]
abbrev plan23 : Plan := (.sq .go (.sq (.sq .go (.sq .go .go)) (.sq (.sq .go (.sq (.loop [10,32,30,50,48,46,44,42,40,38,36,34,8,22,24,26,28] [(10,(.lf (.int .i64)))] [20,18,16,14,12,8] [⟨1,[(8,(.lf .bool))],[10,20,18,16,14,12,0,2]⟩,⟨2,[],[10,20,18,16,14,12,0,2]⟩] (.sq (.sq .go .go) (.sq (.sq (.sq .go (.sq .go .go)) .go) .go))) .go)) .go)))

abbrev E51 : Env := mkE tab gl 28 false [(12,1),(27,1),(6,1),(8,1),(5,2),(3,2),(2,2)]
abbrev plan51 : Plan := (.sq .go (.sq .go (.sq (.sq .go (.sq (.loop [16,52,50,6,24,48,46,44,42,40,38,36,34,32,30,28,26,10,22,20,18] [(16,(.lf (.int .i64))),(6,(.lf (.sl 2 (.int .u8))))] [4,0] [⟨2,[(6,(.lf (.sl 2 (.int .u8))))],[16,14,12,0]⟩] (.sq .go (.sq .go (.sq (.sq .go .go) .go)))) .go)) .go)))

abbrev E72 : Env := mkE tab gl 19 false [(17,1),(8,1),(5,2),(4,2)]
abbrev plan72 : Plan := (.sq .go (.sq (.sq .go (.sq (.loop [8,34,20,10,22,24,26,28,30,32,36,16,18] [(16,(.lf (.int .i64)))] [12,8] [⟨1,[(8,(.lf (.int .i64)))],[16,14,12,0,2]⟩,⟨2,[],[16,14,12,0,2]⟩] (.sq .go (.sq .go (.sq (.sq (.sq .go (.sq .go (.sq .go .go))) .go) .go)))) .go)) .go))

abbrev E49 : Env := mkE tab gl 9 false [(5,1),(6,1),(4,2)]
abbrev plan49 : Plan := (.sq .go .go)

abbrev E20 : Env := mkE tab gl 45 false [(21,1),(15,1),(17,1),(43,1),(7,2),(12,2),(20,2),(4,2),(41,2),(2,2)]
abbrev plan20 : Plan := (.sq .go (.sq (.sq (.sq .go (.sq .go (.sq .go (.sq .go .go)))) .go) (.sq .go (.sq (.sq .go (.sq (.loop [34,68,66,8,42,64,62,60,58,56,54,52,50,48,46,44,13,12,40,38,36] [(34,(.lf (.int .i64))),(8,(.lf (.sl 2 (.int .i64))))] [24,28,26,14,22,20,18,16,6,4,0] [⟨3,[(8,(.lf (.sl 2 (.int .i64))))],[34,32,30,24,28,26,14,22,20,18,16,0]⟩] (.sq .go (.sq .go (.sq (.sq .go .go) .go)))) .go)) (.sq (.opn [(8,0,4)]) (.sq (.opn [(8,0,4)]) .go))))))

abbrev E21 : Env := mkE tab gl 68 false [(53,1),(67,1),(10,1),(51,1),(19,1),(6,2),(4,2),(5,2),(2,2)]
abbrev plan21 : Plan := (.sq .go (.sq (.sq (.cut [28,26,24,22,20,18,16,14] [⟨0,[(28,(.lf .bool))],[]⟩] .go) (.sq .go .go)) (.sq .go (.sq (.sq .go (.sq (.loop [6,4,28,42,44,46,48,50,52,54,56,58,60,62,64,66,68,70,72,74,76,78,80,82,84,86,88,90,92,94,96,98,100,102,104,12,108,110,112,114,116,118,120,122,124,126,128,130,106,8,132,38,40,10,30,32,34,36] [(8,(.lf (.sl 2 (.int .u8)))),(10,(.lf (.int .i64)))] [28,6,4] [⟨1,[(6,(.lf (.int .i64))),(4,(.lf (.sl 2 (.int .u8))))],[10,28,0]⟩,⟨2,[(8,(.lf (.sl 2 (.int .u8))))],[10,28,0]⟩] (.sq (.sq .go .go) (.sq (.sq (.sq (.sq .go (.sq .go .go)) (.sq .go (.sq (.sq .go (.cut [12,104,102] [⟨0,[(12,(.lf (.int .i64)))],[100,98,96,94,92,90,88,86,84,82,80,78,76,74,72,70,68,66,64,62,60,58,56,54,52,50,48,46,44,42,36,34,32,30]⟩] .go)) .go))) .go) .go))) .go)) .go))))

abbrev E22 : Env := mkE tab gl 64 false [(42,1),(59,1),(60,1),(53,1),(55,1),(7,2),(5,2),(6,2),(2,2),(3,2)]
abbrev plan22 : Plan := (.sq .go (.sq .go (.sq .go (.sq (.loop [10,11,126,124,122,116,114,112,110,12,108,106,104,84,102,100,98,96,94,92,90,88,86,14,82,80,78,76,74,72,70,68,66,64,62,60,58,56,54,52,50,48,46,44,42,40,38,36,34,32,30,28,26,24,22,20,18,16,4,6,8,120,118] [(10,(.lf (.sl 2 (.st 24 (.cons (.int .i64) (.cons (.int .i64) (.cons (.int .i64) .unit))))))),(12,(.lf (.int .i64)))] [8,6,4] [⟨1,[(4,(.lf (.sl 2 (.st 24 (.cons (.int .i64) (.cons (.int .i64) (.cons (.int .i64) .unit))))))),(6,(.lf (.int .i64))),(8,(.lf (.int .i64)))],[12,10,0]⟩] (.sq (.sq (.sq .go (.sq .go .go)) (.sq .go (.sq .go (.sq .go (.sq (.sq .go (.sq .go .go)) (.sq (.opn [(10,0,5)]) (.sq .go .go))))))) .go)) .go))))

abbrev E24 : Env := mkE tab gl 65 false [(44,1),(59,1),(55,1),(60,1),(8,1),(7,2),(5,2),(2,2),(3,2),(6,2)]
abbrev plan24 : Plan := (.sq .go (.sq .go (.sq .go (.sq (.loop [12,18,16,10,11,128,126,124,116,114,112,110,108,88,106,104,102,100,98,96,94,92,90,14,86,84,82,80,78,76,74,72,70,68,66,64,62,60,58,56,54,52,50,48,46,44,42,40,38,36,34,32,30,28,26,24,22,20,4,6,8,120,122,118] [(12,(.lf (.int .i64))),(10,(.lf (.sl 2 (.st 24 (.cons (.int .i64) (.cons (.int .i64) (.cons (.int .i64) .unit)))))))] [8,6,4] [⟨1,[(4,(.lf (.sl 2 (.st 24 (.cons (.int .i64) (.cons (.int .i64) (.cons (.int .i64) .unit))))))),(6,(.lf (.int .i64))),(8,(.lf (.int .i64)))],[12,10,0]⟩] (.sq (.sq (.sq (.sq .go (.sq .go .go)) (.sq .go (.sq .go (.sq (.sq .go (.sq .go .go)) (.sq (.opn [(10,0,5)]) (.sq .go .go)))))) .go) .go)) .go))))

abbrev E77 : Env := mkE tab gl 27 false [(26,1),(8,1),(21,1),(1,2),(0,2),(4,2)]
abbrev plan77 : Plan := (.sq .go (.sq (.sq .go (.cut [] [⟨0,[],[12,10]⟩] .go)) (.sq .go .go)))

abbrev E90 : Env := mkE tab gl 27 false [(26,1),(8,1),(21,1),(1,2),(0,2),(4,2)]
abbrev plan90 : Plan := (.sq .go (.sq (.sq .go (.cut [] [⟨0,[],[12,10]⟩] .go)) (.sq .go .go)))

abbrev E53 : Env := mkE tab gl 36 false [(31,1),(35,1),(15,1),(16,1),(11,1),(23,1),(25,1),(32,1),(27,1),(5,2),(3,2),(6,2),(8,2),(2,2)]
abbrev plan53 : Plan := (.sq .go (.sq .go (.sq (.sq .go (.sq (.loop [6,26,28,10,30,32,34,36,38,40,44,22,24] [(6,(.lf (.int .i64))),(22,(.lf (.int .i64)))] [4] [⟨2,[(6,(.lf (.int .i64)))],[22,20,18]⟩] (.sq .go (.sq .go (.sq (.sq (.sq .go (.sq .go (.sq .go (.cut [] [⟨0,[],[40,38,36,34,32,30,10,28,26,24]⟩] .go)))) .go) .go)))) .go)) (.sq .go (.sq (.sq .go (.sq (.loop [54,68,66,12,62,64,16,60,58,56] [(54,(.lf (.int .i64))),(12,(.lf (.sl 2 (.int .u8))))] [48,46,6,0] [⟨4,[(12,(.lf (.sl 2 (.int .u8))))],[54,52,50,48,46,6,0]⟩] (.sq .go (.sq .go (.sq (.sq .go .go) .go)))) .go)) .go)))))

abbrev E60 : Env := mkE tab gl 36 false [(31,1),(35,1),(15,1),(16,1),(11,1),(23,1),(25,1),(32,1),(27,1),(5,2),(3,2),(6,2),(8,2),(2,2)]
abbrev plan60 : Plan := (.sq .go (.sq .go (.sq (.sq .go (.sq (.loop [6,26,28,10,30,32,34,36,38,40,44,22,24] [(6,(.lf (.int .i64))),(22,(.lf (.int .i64)))] [4] [⟨2,[(6,(.lf (.int .i64)))],[22,20,18]⟩] (.sq .go (.sq .go (.sq (.sq (.sq .go (.sq .go (.sq .go (.cut [] [⟨0,[],[40,38,36,34,32,30,10,28,26,24]⟩] .go)))) .go) .go)))) .go)) (.sq .go (.sq (.sq .go (.sq (.loop [54,68,66,12,62,64,16,60,58,56] [(54,(.lf (.int .i64))),(12,(.lf (.sl 2 (.int .i64))))] [48,46,6,0] [⟨4,[(12,(.lf (.sl 2 (.int .i64))))],[54,52,50,48,46,6,0]⟩] (.sq .go (.sq .go (.sq (.sq .go .go) .go)))) .go)) .go)))))

abbrev E62 : Env := mkE tab gl 8 false [(6,1),(2,2)]
abbrev plan62 : Plan := (.sq .go (.sq .go .go))

abbrev E25 : Env := mkE tab gl 51 false [(34,1),(14,1),(25,1),(35,1),(30,1),(42,1),(41,1),(47,1),(48,1),(1,2),(4,2),(5,2),(2,2),(8,2),(6,2),(9,2),(10,2)]
abbrev plan25 : Plan := (.sq .go (.sq (.sq .go (.sq .go .go)) (.sq .go (.sq (.sq .go (.sq (.sq (.opn [(8,0,4)]) .go) .go)) (.sq .go (.sq (.sq .go (.sq (.loop [60,80,78,12,68,76,74,72,70,16,66,64,62] [(60,(.lf (.int .i64))),(12,(.lf (.sl 2 (.st 24 (.cons (.int .i64) (.cons (.int .i64) (.cons (.int .i64) .unit)))))))] [54,46,44,42,40,10,38,36,28,34,32,30,26,24,22,6,4,2,0] [⟨2,[(12,(.lf (.sl 2 (.st 24 (.cons (.int .i64) (.cons (.int .i64) (.cons (.int .i64) .unit)))))))],[60,58,56,54,46,44,42,40,10,38,36,28,34,32,30,26,24,22,2,0]⟩] (.sq .go (.sq .go (.sq (.sq .go .go) .go)))) .go)) (.sq (.opn [(12,0,6)]) .go)))))))

abbrev E26 : Env := mkE tab gl 55 false [(34,1),(52,1),(14,1),(25,1),(32,1),(45,1),(44,1),(50,1),(53,1),(1,2),(4,2),(5,2),(2,2),(6,2),(7,2),(8,2),(9,2),(10,2)]
abbrev plan26 : Plan := (.sq .go (.sq (.sq .go (.sq .go .go)) (.sq .go (.sq (.sq .go (.sq (.sq (.opn [(8,0,4)]) .go) .go)) (.sq .go (.sq (.sq .go (.sq (.loop [14,66,64,86,12,68,84,82,80,78,76,74,72,70,54,56,58,60,62] [(14,(.lf (.int .i64))),(12,(.lf (.sl 2 (.st 24 (.cons (.int .i64) (.cons (.int .i64) (.cons (.int .i64) .unit)))))))] [46,44,42,40,10,38,36,28,34,32,30,26,24,22,6,4,0] [⟨2,[(12,(.lf (.sl 2 (.st 24 (.cons (.int .i64) (.cons (.int .i64) (.cons (.int .i64) .unit)))))))],[14,46,44,42,40,10,38,36,28,34,32,30,26,24,22,2,0]⟩] (.sq (.sq .go .go) (.sq .go .go))) .go)) (.sq (.opn [(12,0,6)]) (.sq (.opn [(16,0,8)]) (.sq (.opn [(8,0,4)]) .go)))))))))

abbrev E72v : Env := mkE tab gl 19 false [(17,1),(8,1),(5,2),(4,2)]
abbrev plan72v : Plan := (.sq .go (.sq (.sq .go (.sq (.loop [8,34,20,10,22,24,26,28,30,32,36,16,18] [(16,(.lf (.int .i64)))] [12,8] [⟨1,[(8,(.lf (.int .i64)))],[16,14,12,0,2]⟩,⟨2,[],[16,14,12,0,2]⟩] (.sq .go (.sq .go (.sq (.sq (.sq .go (.sq .go (.sq .go .go))) .go) .go)))) .go)) .go))

abbrev E49v : Env := mkE tab gl 9 false [(5,1),(6,1),(4,2)]
abbrev plan49v : Plan := (.sq .go .go)

abbrev E27 : Env := mkE tab gl 77 false [(74,5),(76,5),(53,1),(39,1),(73,1),(26,1),(30,1),(40,1),(41,1),(46,1),(48,1),(66,1),(65,1),(74,1),(76,1),(13,2),(17,2),(18,2),(23,2),(5,2),(6,2),(7,2),(8,2),(38,2),(3,2),(45,2),(51,2),(58,2),(64,2),(68,2),(12,2),(72,2)]
abbrev plan27 : Plan := (.sq .go (.sq (.sq (.sq .go (.sq .go (.sq .go (.sq .go .go)))) .go) (.sq .go (.sq .go (.sq (.sq .go (.cut [90,128,5,10,13,94,0,6,28,30,32,26,38,40,42,44,36,48,50,52,54,56,58,62,64,60,66,68,70,12,14,16,72,74,80,82,84,86,88,98,96,120,116,118,106,114,112,110,108,104,92,93,21,20,102,100,122,124,126,123,9,78,76] [⟨1,[(5,bF),(6,(.lf (.int .i64)))],[58,56,54,52,50,48,36,44,42,40,38,26,32,30,28,0,8]⟩,⟨0,[(5,bF),(10,(.lf (.sl 0 (.int .u8)))),(9,bF)],[58,56,54,52,50,48,36,44,42,40,38,26,32,30,28,0]⟩] (.sq (.sq .go (.sq (.sq .go (.sq .go .go)) (.sq .go (.sq (.sq (.opn [(12,0,6)]) (.sq .go .go)) (.sq (.sq .go (.sq (.loop [100,102,20,21,93,92,104,108,110,112,114,106,118,9,116,120,96,98] [(92,(.lf (.sl 2 (.st 24 (.cons (.int .i64) (.cons (.int .i64) (.cons (.int .i64) .unit))))))),(9,bF),(96,(.lf (.int .i64)))] [88,86,84,82,80,74,72,16,14,12,70,68,66,60,64,62,58,56,54,52,50,48,36,44,42,40,38,26,32,30,28,6,0] [⟨3,[(9,bF)],[96,94,92,88,86,84,82,80,74,72,16,14,12,70,68,66,60,64,62,58,56,54,52,50,48,36,44,42,40,38,26,32,30,28,0]⟩] (.sq .go (.sq .go (.sq (.sq (.sq (.opn [(92,0,46)]) .go) .go) .go)))) .go)) (.sq (.opn [(9,0,61)]) (.sq .go .go))))))) .go))) (.sq .go (.sq (.sq .go (.sq .go .go)) (.sq .go .go))))))))

abbrev E29 : Env := mkE tab gl 104 false [(101,5),(103,5),(78,1),(36,1),(100,1),(23,1),(27,1),(37,1),(38,1),(52,1),(60,1),(68,1),(44,1),(93,1),(92,1),(101,1),(103,1),(15,2),(20,2),(5,2),(6,2),(7,2),(8,2),(35,2),(3,2),(76,2),(86,2),(9,2),(91,2),(95,2),(11,2),(99,2)]
abbrev plan29 : Plan := (.sq .go (.sq (.sq .go (.sq .go .go)) (.sq (.sq .go (.sq .go .go)) (.sq .go (.sq .go (.sq (.sq .go (.cut [8,182,10,12,13,86,84,82,80,6,152,5,18,90,88,172,174,156,170,168,166,164,162,160,158,154,150,148,146,144,142,140,138,136,134,132,130,128,126,124,122,120,118,116,114,112,110,108,106,104,102,100,98,96,94,92,78,76,74,68,66,16,14,64,62,60,54,58,56,52,50,48,46,44,42,38,36,34,32,28,26,24,0,176,178,180,177,9,72,70] [⟨1,[(6,(.lf (.int .i64))),(5,bF)],[52,50,48,46,44,42,38,36,34,32,28,26,24,0]⟩,⟨0,[(8,(.lf (.cst (.ptr 4 1 0)))),(10,(.lf (.sl 0 (.int .u8)))),(5,bF),(9,bF)],[52,50,48,46,44,42,38,36,34,32,28,26,24,0]⟩] (.sq (.sq .go (.sq (.sq .go (.sq .go .go)) (.sq .go (.sq (.sq .go (.sq (.loop [0,24,26,28,32,34,36,38,42,44,46,48,50,52,56,58,54,60,62,64,14,16,66,68,74,76,78,92,94,96,98,100,102,104,106,108,110,112,114,116,118,120,122,124,126,128,130,132,134,136,138,140,142,144,146,148,150,154,158,160,162,164,166,168,170,156,174,9,172,88,90,18,5,152,6,80,82,84,86,13,12] [(9,bF),(18,(.lf (.int .i64))),(5,bF),(12,(.lf (.sl 2 (.st 24 (.cons (.int .i64) (.cons (.int .i64) (.cons (.int .i64) .unit)))))))] [78,76,74,68,66,16,14,64,62,60,54,58,56,52,50,48,46,44,42,38,36,34,32,28,26,24,6,0] [⟨1,[(5,bF),(6,(.lf (.int .i64)))],[18,78,76,74,68,66,16,14,12,64,62,60,54,58,56,52,50,48,46,44,42,38,36,34,32,28,26,24,0,8]⟩,⟨2,[(9,bF),(5,bF)],[18,78,76,74,68,66,16,14,12,64,62,60,54,58,56,52,50,48,46,44,42,38,36,34,32,28,26,24,0]⟩] (.sq (.sq (.opn [(12,0,6)]) .go) (.sq (.sq (.sq (.sq (.cut [12,13,150,148,146,144,142,140,138,136,134,132,130,128,126,124,122,120,118,116,114,112,110,108,106,104,102,100,98,96,94,92] [⟨0,[(12,(.lf (.sl 2 (.st 24 (.cons (.int .i64) (.cons (.int .i64) (.cons (.int .i64) .unit))))))),(150,(.lf .bool))],[86,84,82,80]⟩] (.opn [(12,0,6)])) (.sq .go .go)) (.opn [(12,0,6)])) .go) .go))) .go)) (.sq (.opn [(9,0,88)]) (.sq .go .go)))))) .go))) (.sq .go (.sq (.sq .go (.sq .go .go)) (.sq .go .go)))))))))

abbrev E66v : Env := mkE tab gl 19 false [(17,1),(8,1),(5,2),(4,2)]
abbrev plan66v : Plan := (.sq .go (.sq (.sq .go (.sq (.loop [8,34,20,10,22,24,26,28,30,32,36,16,18] [(16,(.lf (.int .i64)))] [12,8] [⟨1,[(8,(.lf (.int .i64)))],[16,14,12,0,2]⟩,⟨2,[],[16,14,12,0,2]⟩] (.sq .go (.sq .go (.sq (.sq (.sq .go (.sq .go (.sq .go .go))) .go) .go)))) .go)) .go))

abbrev E40v : Env := mkE tab gl 9 false [(5,1),(6,1),(4,2)]
abbrev plan40v : Plan := (.sq .go .go)

abbrev E32 : Env := mkE tab gl 34 false [(18,1),(30,1),(2,2),(6,2),(12,2),(16,2),(17,2),(20,2),(21,2),(25,2),(26,2),(29,2),(33,2)]
abbrev plan32 : Plan := (.sq .go (.sq .go (.sq (.sq (.sq .go (.sq .go (.sq .go (.sq .go (.sq (.opn [(12,0,6)]) (.sq .go (.sq (.opn [(12,0,6)]) (.sq .go .go)))))))) .go) .go)))

abbrev E33 : Env := mkE tab gl 53 false [(39,1),(42,1),(23,1),(16,1),(40,1),(49,1),(2,2),(11,2),(30,2),(6,2),(38,2),(7,2),(48,2),(52,2)]
abbrev plan33 : Plan := (.sq .go (.sq (.sq .go (.sq .go .go)) (.sq (.sq .go (.sq (.loop [12,34,32,36,38,40,42,44,46,48,50,52,54,56,58,20,18,16,0,9,60,10,24,26,28,30] [(12,(.lf (.int .i64))),(9,bF)] [20,18,16,10,0] [⟨1,[(9,bF),(10,(.lf (.int .i64)))],[12,20,18,16,0]⟩,⟨2,[(9,bF)],[12,20,18,16,0]⟩] (.sq (.sq .go .go) (.sq (.sq (.sq (.cut [36,38,40,42,44,46,48,50,52,54,56,58] [⟨0,[(58,(.lf .bool))],[30,28,26,24]⟩] .go) (.sq .go .go)) .go) .go))) .go)) (.sq (.sq .go (.sq .go .go)) (.sq .go (.sq .go (.sq .go (.sq (.sq (.opn [(14,0,7)]) (.sq .go .go)) .go))))))))

abbrev E34 : Env := mkE tab gl 26 false [(18,1),(8,1),(1,2),(14,2),(2,2),(25,2)]
abbrev plan34 : Plan := (.sq .go (.sq (.sq (.cut [26,24,22,20,18,16,14,12,10] [⟨0,[(26,(.lf .bool))],[0]⟩] .go) (.sq .go .go)) .go))

abbrev E35 : Env := mkE tab gl 25 false [(18,1),(8,1),(1,2),(14,2),(2,2),(24,2)]
abbrev plan35 : Plan := (.sq .go (.sq (.sq (.cut [26,24,22,20,18,16,14,12,10] [⟨0,[(26,(.lf .bool))],[0]⟩] .go) (.sq .go .go)) .go))

abbrev E36 : Env := mkE tab gl 17 true [(16,1),(9,1),(14,1),(6,2)]
abbrev plan36 : Plan := (.sq .go (.sq (.sq (.cut [1,26,24,22,20,18,16,14] [⟨0,[(1,bT),(26,(.lf .bool))],[4]⟩] .go) (.sq .go .go)) .go))

abbrev E10 : Env := mkE tab gl 23 true [(22,2)]
abbrev plan10 : Plan := (.sq .go .go)

abbrev E30 : Env := mkE tab gl 26 true [(18,1),(25,1),(12,1),(16,1),(10,2),(9,2),(8,2)]
abbrev plan30 : Plan := (.sq .go (.sq .go (.sq (.sq .go (.sq (.loop [38,40,42,44,1,46,36,18,48,32,34,20,28,30] [(1,bT),(18,(.lf (.sl 2 (.int .i64)))),(20,(.lf (.int .i64)))] [26,24,22,16,2] [⟨2,[(1,bT),(18,(.lf (.sl 2 (.int .i64))))],[20,26,24,22,2,4,6]⟩] (.sq (.sq .go .go) (.sq .go .go))) .go)) .go)))

abbrev E11 : Env := mkE tab gl 66 true [(65,5),(21,1),(58,1),(44,1),(18,1),(32,1),(52,1),(59,1),(41,1),(65,1),(11,2),(6,2),(7,2),(28,2),(50,2),(53,2),(55,2),(63,2),(48,2),(8,2)]
abbrev plan11 : Plan := (.sq .go (.sq .go (.sq .go (.sq (.sq .go (.sq (.loop [14,38,36,56,11,58,42,54,52,50,48,46,44,40,32,34] [(14,(.lf (.int .i64))),(11,bF)] [30,28,26,24,22,20,18] [⟨2,[(11,bF)],[14,30,28,12,26,24,22,20,18]⟩] (.sq (.sq .go .go) (.sq .go .go))) .go)) (.sq (.sq (.cut [1,72,70,68,66,64,62,60] [⟨0,[(1,bT),(72,(.lf .bool))],[2]⟩] .go) (.cut [108,106,104,86,90,92,94,88,98,11,96,82,84,16,78,80,110,112,100,102,76,74,72,126,128,116,124,120,1,122,118,114] [⟨0,[(11,bF),(1,bT)],[72]⟩] (.sq (.sq .go (.sq (.sq .go (.cut [108,106,104,86,90,92,94,88,98,11,96,82,84,16,78,80,110,112,100,102,76,74,72,126,128,116,124,120,1,122,118,114] [⟨0,[(11,bF),(1,bT)],[100,102,76,74,72]⟩] (.sq .go (.sq .go (.cut [114,118,122,1,120,124,116,128,126,72,74,76,102,100,112,110,80,78,16,84,82,96,11,98,88,94,92,90,86] [⟨0,[(1,bT),(11,bF)],[110,112,100,102,76,74,72]⟩] (.sq .go (.sq .go (.sq (.loop [86,90,92,94,88,98,11,96,82,84,16,78,80] [(11,bF),(16,(.lf (.int .i64)))] [110,112,100,102,76,74,72] [⟨5,[(11,bF)],[16,110,112,100,102,76,74,72]⟩] (.sq (.sq .go .go) (.sq .go .go))) .go)))))))) .go)) .go))) .go)))))

abbrev E11w1 : Env := mkE tab gl 66 true [(65,5),(21,1),(58,1),(44,1),(18,1),(32,1),(52,1),(59,1),(41,1),(65,1),(11,2),(6,2),(7,2),(28,2),(50,2),(53,2),(55,2),(63,2),(48,2),(8,2)]
abbrev plan11w1 : Plan := (.sq .go (.sq .go (.sq .go (.sq (.sq .go (.sq (.loop [14,38,36,56,11,58,42,54,52,50,48,46,44,40,32,34] [(14,(.lf (.int .i64))),(11,bF)] [30,28,26,24,22,20,18] [⟨2,[(11,bF)],[14,30,28,12,26,24,22,20,18]⟩] (.sq (.sq .go .go) (.sq .go .go))) .go)) (.sq (.sq (.cut [1,72,70,68,66,64,62,60] [⟨0,[(1,bT),(72,(.lf .bool))],[2]⟩] .go) (.cut [108,106,104,86,90,92,94,88,98,11,96,82,84,16,78,80,110,112,100,102,76,74,72,126,128,116,124,120,1,122,118,114] [⟨0,[(11,bF),(1,bT)],[72]⟩] (.sq (.sq .go (.sq (.sq .go (.cut [108,106,104,86,90,92,94,88,98,11,96,82,84,16,78,80,110,112,100,102,76,74,72,126,128,116,124,120,1,122,118,114] [⟨0,[(11,bF),(1,bT)],[100,102,76,74,72]⟩] (.sq .go (.sq .go (.cut [114,118,122,1,120,124,116,128,126,72,74,76,102,100,112,110,80,78,16,84,82,96,11,98,88,94,92,90,86] [⟨0,[(1,bT),(11,bF)],[110,112,100,102,76,74,72]⟩] (.sq .go (.sq .go (.sq (.loop [86,90,92,94,88,98,11,96,82,84,16,78,80] [(11,bF),(16,(.lf (.int .i64)))] [110,112,100,102,76,74,72] [⟨5,[(11,bF)],[16,110,112,100,102,76,74,72]⟩] (.sq (.sq .go .go) (.sq .go .go))) .go)))))))) .go)) .go))) .go)))))

abbrev E16 : Env := mkE tab gl 53 false [(8,1),(18,1),(23,1),(28,1),(30,1),(35,1),(39,1),(43,1),(48,1),(1,2),(2,2),(17,2),(4,2),(5,2),(26,2),(7,2),(0,2)]
abbrev plan16 : Plan := (.sq .go (.sq .go (.sq .go (.sq (.opn [(7,0,19)]) (.sq (.opn [(8,0,4)]) (.sq (.cut [2,3,7,59,13,57,8,9,0,104,102,100,98,96,94,92,90,88,86,84,82,80,78,76,74,72,70,68,66,64,62,60,58,56] [⟨0,[(0,(.lf .bool))],[14,12,54,52,46,50,48,10,8,44,42,36,40,38,6,34,32,30,4,2,28,26,16,24,22,20,18]⟩] (.opn [(8,0,4),(13,0,28),(7,0,29),(2,0,1)])) .go))))))

abbrev E3 : Env := mkE tab gl 51 false [(15,101),(10,1),(21,1),(28,1),(35,1),(48,1),(4,2),(5,2),(7,2),(13,2),(15,2),(6,2)]
abbrev plan3 : Plan := (.sq .go (.sq .go (.sq .go (.sq (.cut [32,34,36,38,40,42,44,46,48,50,52,54,56,58,60,62,64,66,68,70,72,74,76,78,80,82,84,86,88,90,92,94,96,98,100,12] [⟨0,[(12,(.lf .bool))],[18,16,30,28,26,24,14,22,20,10,8,0,2,4]⟩] .go) .go))))

abbrev E4 : Env := mkE tab gl 121 false [(28,1),(19,1),(26,1),(36,1),(51,1),(53,1),(58,1),(65,1),(73,1),(83,1),(86,1),(91,1),(93,1),(103,1),(105,1),(111,1),(63,1),(7,2),(9,2),(8,2),(46,2),(2,2),(10,2),(12,2),(13,2),(14,2),(15,2),(16,2),(17,2),(18,2),(11,2),(6,2)]
abbrev plan4 : Plan := (.sq .go (.sq .go (.sq .go (.sq (.sq .go (.sq (.loop [58,60,41,62,56,16,64,52,54,18,48,50] [(41,bT),(16,(.lf (.sl 2 (.st 24 (.cons (.int .i64) (.cons (.int .i64) (.cons (.int .i64) .unit))))))),(18,(.lf (.int .i64)))] [46,44,42,40,38,12,0] [⟨2,[(41,bT),(16,(.lf (.sl 2 (.st 24 (.cons (.int .i64) (.cons (.int .i64) (.cons (.int .i64) .unit)))))))],[18,46,44,42,40,38,0]⟩] (.sq (.sq .go .go) (.sq .go .go))) .go)) (.sq (.sq (.cut [41,16,17,78,76,74,72,70,68,66] [⟨0,[(41,bT),(16,(.lf (.sl 2 (.st 24 (.cons (.int .i64) (.cons (.int .i64) (.cons (.int .i64) .unit))))))),(78,(.lf .bool))],[]⟩] (.opn [(16,0,8)])) (.cut [16,17,94,41,92,90,88,86,84,82,80] [⟨0,[(16,(.lf (.sl 2 (.st 24 (.cons (.int .i64) (.cons (.int .i64) (.cons (.int .i64) .unit)))))))],[78,14]⟩] (.sq (.opn [(16,0,8)]) .go))) (.sq (.sq .go (.cut [102,104,4] [⟨0,[(4,(.lf (.sl 0 (.int .u8))))],[100,98,96]⟩] .go)) (.sq .go (.sq (.sq .go (.sq (.loop [22,128,126,206,208,210,212,214,216,218,220,222,224,226,228,230,232,234,236,238,25,24,33,32,21,20,36,34,204,202,200,186,198,196,194,192,190,188,184,182,180,26,28,29,178,176,174,172,170,168,166,164,162,30,160,158,146,156,154,152,150,148,144,142,130,140,138,136,134,132,12,16,106,108,110,112,114,116,118,120,122,124] [(22,(.lf (.int .i64))),(20,(.lf (.sl 2 (.sl (.st 24 (.cons (.int .i64) (.cons (.int .i64) (.cons (.int .i64) .unit))))))))] [110,108,106,16] [⟨1,[(12,(.lf .bool))],[22,20,110,108,106,4,16,2]⟩,⟨4,[],[22,20,110,108,106,4,16,2]⟩] (.sq (.sq (.cut [124,122,120,118,116,114,112] [⟨0,[(124,(.lf .bool))],[]⟩] .go) .go) (.sq (.sq (.sq (.opn [(20,0,10)]) (.sq (.opn [(20,0,10)]) (.sq (.sq (.cut [24,25,28,29,180,178,176,174,172,170,168,166,164,162] [⟨0,[(24,(.lf (.sl 2 (.int .u8)))),(180,(.lf .bool))],[30,28,160,158,146,156,154,152,150,148,144,142,130,140,138,136,134,132,124]⟩] (.opn [(28,0,14),(24,0,12)])) (.sq .go .go)) (.sq (.sq .go .go) (.sq (.opn [(24,0,12)]) (.sq (.cut [206,208,210,212,214,216,218,220,222,224,226,228,230,232,234,236,238,25,24,33,32,21,20] [⟨0,[(238,(.lf .bool)),(20,(.lf (.sl 2 (.sl (.st 24 (.cons (.int .i64) (.cons (.int .i64) (.cons (.int .i64) .unit))))))))],[36,34,32,204,202,200,186,198,196,194,192,190,188,184,182,24,180,26]⟩] (.opn [(24,0,12),(32,0,16),(20,0,10)])) (.sq .go .go))))))) .go) .go))) .go)) .go))))))))

abbrev E5 : Env := mkE tab gl 103 false [(26,1),(17,1),(24,1),(43,1),(50,1),(58,1),(63,1),(70,1),(79,1),(88,1),(89,1),(92,1),(97,1),(68,1),(5,2),(7,2),(6,2),(56,2),(8,2),(9,2),(11,2),(12,2),(13,2),(14,2),(15,2),(16,2),(10,2),(4,2)]
abbrev plan5 : Plan := (.sq .go (.sq .go (.sq .go (.sq (.sq .go (.sq (.loop [54,56,58,60,62,37,64,66,68,52,12,70,48,50,14,44,46] [(37,bT),(12,(.lf (.sl 2 (.int .u8)))),(14,(.lf (.int .i64)))] [42,40,38,36,34,8,0] [⟨2,[(37,bT),(12,(.lf (.sl 2 (.int .u8))))],[14,42,40,38,36,34,0]⟩] (.sq (.sq .go .go) (.sq .go .go))) .go)) (.sq (.sq .go (.cut [16,102,100,114,112,110,108,106,104,72,74,76,78,80,82,84,86,88,90,92,94,96,98,13,12,37,10] [⟨0,[(12,(.lf (.sl 2 (.int .u8))))],[76,74,72,10]⟩] (.sq (.sq .go (.sq (.loop [16,102,100,114,112,110,108,106,104,72,74,76,78,80,82,84,86,88,90,92,94,96,98,13,12,37] [(16,(.lf (.int .i64))),(12,(.lf (.sl 2 (.int .u8)))),(37,bT)] [76,74,72] [⟨4,[(12,(.lf (.sl 2 (.int .u8))))],[16,76,74,72,10]⟩] (.sq (.sq (.cut [37,12,13,98,96,94,92,90,88,86,84,82,80,78] [⟨0,[(37,bT),(12,(.lf (.sl 2 (.int .u8)))),(98,(.lf .bool))],[]⟩] (.opn [(12,0,6)])) .go) (.sq (.sq (.opn [(12,0,6)]) .go) .go))) .go)) .go))) (.sq .go (.sq (.sq .go (.sq (.loop [20,138,136,176,178,180,182,184,186,188,190,192,194,196,198,200,202,29,28,23,22,32,30,174,172,170,158,168,166,164,162,160,26,24,156,154,152,140,150,148,146,144,142,18,19,8,12,116,118,120,122,124,126,128,130,132,134] [(20,(.lf (.int .i64))),(18,(.lf (.sl 2 (.sl (.int .u8)))))] [120,118,116,12] [⟨1,[(8,(.lf .bool))],[20,18,120,118,116,12,2]⟩,⟨6,[],[20,18,120,118,116,12,2]⟩] (.sq (.sq (.cut [134,132,130,128,126,124,122] [⟨0,[(134,(.lf .bool))],[]⟩] .go) .go) (.sq (.sq (.sq (.opn [(18,0,9)]) (.sq (.opn [(18,0,9)]) (.sq (.cut [176,178,180,182,184,186,188,190,192,194,196,198,200,202,29,28,23,22] [⟨0,[(202,(.lf .bool))],[32,30,28,174,172,170,158,168,166,164,162,160,26,24,22,156,154,152,140,150,148,146,144,142,134]⟩] (.opn [(28,0,14),(22,0,11)])) (.sq .go .go)))) .go) .go))) .go)) .go)))))))

abbrev E6 : Env := mkE tab gl 77 false [(14,1),(24,1),(32,1),(40,1),(50,1),(53,1),(58,1),(61,1),(60,1),(65,1),(67,1),(30,1),(3,2),(5,2),(6,2),(8,2),(9,2),(10,2),(11,2),(63,2),(13,2),(7,2),(4,2)]
abbrev plan6 : Plan := (.sq .go (.sq .go (.sq .go (.sq (.sq .go (.sq (.loop [14,62,60,12,13,25,131,150,148,146,144,142,140,138,136,134,132,130,26,24,128,126,120,124,122,118,116,16,114,18,17,8,20,21,112,110,108,106,104,102,100,98,96,22,94,92,80,90,88,86,84,82,78,76,64,74,72,70,68,66,2,0,28,30,10,32,34,36,38,40,42,44,46,48,50,52,54,56,58] [(14,(.lf (.int .i64))),(12,(.lf (.sl 2 (.st 112 (.cons (.sl (.int .i64)) (.cons (.st 88 (.cons (.int .i64) (.cons (.int .i64) (.cons (.int .i64) (.cons (.int .i64) (.cons (.int .i64) (.cons (.int .i64) (.cons (.int .i64) (.cons (.int .i64) (.cons (.int .u64) (.cons .str .unit))))))))))) .unit))))))] [42,40,38,36,34,32,10,30,28,8,0,2] [⟨1,[(8,(.lf .bool))],[14,12,42,40,38,36,34,32,10,30,28,6,0,2]⟩,⟨2,[],[14,12,42,40,38,36,34,32,10,30,28,6,0,2]⟩] (.sq (.sq (.cut [58,56,54,52,50,48,46,44] [⟨0,[(58,(.lf .bool))],[]⟩] .go) .go) (.sq (.sq (.sq (.opn [(12,0,6)]) (.sq (.opn [(12,0,6)]) (.sq (.sq (.cut [16,17,20,21,114,112,110,108,106,104,102,100,98,96] [⟨0,[(16,(.lf (.sl 2 (.int .u8)))),(114,(.lf .bool))],[22,20,94,92,80,90,88,86,84,82,78,76,64,74,72,70,68,66,58]⟩] (.opn [(20,0,10),(16,0,8)])) (.sq .go .go)) (.sq .go (.cut [12,13,25,131,150,148,146,144,142,140,138,136,134,132,130,26,24,128,126,120,124,122,118,116,16,114,18,17,8] [⟨1,[(8,(.lf .bool))],[118,116,16,114,18]⟩,⟨0,[(12,(.lf (.sl 2 (.st 112 (.cons (.sl (.int .i64)) (.cons (.st 88 (.cons (.int .i64) (.cons (.int .i64) (.cons (.int .i64) (.cons (.int .i64) (.cons (.int .i64) (.cons (.int .i64) (.cons (.int .i64) (.cons (.int .i64) (.cons (.int .u64) (.cons .str .unit))))))))))) .unit))))))],[118,116,16,114,18]⟩] (.sq (.sq (.opn [(16,0,8)]) (.sq (.cut [12,13,25,131,150,148,146,144,142,140,138,136,134,132,130] [⟨0,[(12,(.lf (.sl 2 (.st 112 (.cons (.sl (.int .i64)) (.cons (.st 88 (.cons (.int .i64) (.cons (.int .i64) (.cons (.int .i64) (.cons (.int .i64) (.cons (.int .i64) (.cons (.int .i64) (.cons (.int .i64) (.cons (.int .i64) (.cons (.int .u64) (.cons .str .unit))))))))))) .unit)))))),(150,(.lf .bool))],[26,24,128,126,120,124,122,118,116,16,114,18]⟩] (.opn [(25,0,65),(12,0,6)])) (.sq .go .go))) .go)))))) .go) .go))) .go)) .go))))

abbrev E7 : Env := mkE tab gl 104 false [(42,1),(16,1),(18,1),(28,1),(48,1),(56,1),(63,1),(64,1),(33,1),(66,1),(71,1),(78,1),(86,1),(94,1),(95,1),(98,1),(76,1),(5,2),(6,2),(7,2),(8,2),(9,2),(45,2),(51,2),(53,2),(59,2),(61,2),(10,2),(84,2),(13,2),(92,2),(15,2),(11,2),(4,2)]
abbrev plan7 : Plan := (.sq .go (.sq .go (.sq .go (.sq (.sq .go (.sq (.loop [16,68,66,104,102,35,100,98,96,94,126,128,130,88,84,86,122,124,106,108,90,92,82,80,18,78,76,74,72,70,110,112,114,116,118,120,0,32,34,38,40,42,36,44,46,14,48,50,52,54,56,58,60,62,64,13,12] [(16,(.lf (.int .i64))),(35,bT),(12,(.lf (.sl 2 (.int .u8))))] [50,48,14,46,44,36,42,40,38,34,32,8,0] [⟨2,[(12,(.lf (.sl 2 (.int .u8))))],[16,50,48,14,46,44,36,42,40,38,10,34,32,0]⟩] (.sq (.sq (.cut [12,13,64,62,60,58,56,54,52] [⟨0,[(12,(.lf (.sl 2 (.int .u8)))),(64,(.lf .bool))],[]⟩] (.opn [(12,0,6)])) .go) (.sq (.sq (.sq (.opn [(12,0,6)]) (.sq .go (.sq (.sq .go (.cut [104,102,35,100,98,96,94,126,128,13,130,88,12,84,86,122,124,106,108,90,92,82,80,18,78,76,74,72,70,64,110,112,114,116,118,120] [⟨0,[(35,bT),(12,(.lf (.sl 2 (.int .u8))))],[90,92,82,80,18,78,76,74,72,70,64]⟩] (.sq (.opn [(12,0,6)]) (.sq .go (.cut [120,118,116,114,112,110,64,70,72,74,76,78,18,80,82,92,90,108,106,124,122,86,84,12,88,130,13,128,126] [⟨0,[(12,(.lf (.sl 2 (.int .u8))))],[106,108,90,92,82,80,18,78,76,74,72,70,64]⟩] (.sq (.opn [(12,0,6)]) (.sq .go (.cut [126,128,13,130,88,12,84,86] [⟨0,[(12,(.lf (.sl 2 (.int .u8))))],[122,124,106,108,90,92,82,80,18,78,76,74,72,70,64]⟩] (.sq (.opn [(12,0,6)]) .go))))))))) .go))) .go) .go))) .go)) (.sq .go (.sq (.sq .go (.sq (.loop [22,154,152,25,191,29,189,204,202,200,198,196,194,192,190,188,30,28,186,184,172,182,180,178,176,174,26,24,170,168,156,166,164,162,160,158,20,21,8,12,132,134,136,138,140,142,144,146,148,150] [(22,(.lf (.int .i64))),(20,(.lf (.sl 2 (.sl (.int .u8)))))] [136,134,132,12] [⟨1,[(8,(.lf .bool))],[22,20,136,134,132,12,2]⟩,⟨5,[],[22,20,136,134,132,12,2]⟩] (.sq (.sq (.cut [150,148,146,144,142,140,138] [⟨0,[(150,(.lf .bool))],[]⟩] .go) .go) (.sq (.sq (.sq (.opn [(20,0,10)]) (.sq (.opn [(20,0,10)]) (.sq (.cut [25,191,29,189,204,202,200,198,196,194,192,190,188] [⟨0,[(204,(.lf .bool))],[30,28,186,184,172,182,180,178,176,174,26,24,170,168,156,166,164,162,160,158,150]⟩] (.opn [(29,0,94),(25,0,95)])) (.sq .go .go)))) .go) .go))) .go)) .go))))))

abbrev E8 : Env := mkE tab gl 148 false [(37,1),(29,1),(38,1),(42,1),(50,1),(48,1),(54,1),(55,1),(58,1),(67,1),(72,1),(79,1),(80,1),(78,1),(84,1),(85,1),(88,1),(93,1),(99,1),(105,1),(106,1),(108,1),(114,1),(119,1),(126,1),(125,1),(131,1),(133,1),(145,1),(4,2),(7,2),(32,2),(9,2),(46,2),(11,2),(52,2),(13,2),(76,2),(15,2),(82,2),(17,2),(18,2),(97,2),(20,2),(21,2),(103,2),(23,2),(123,2),(25,2),(26,2),(129,2),(28,2),(6,2)]
abbrev plan8 : Plan := (.sq .go (.sq .go (.sq .go (.sq .go (.sq (.sq .go (.cut [76,78,61,80,74,18,82] [⟨0,[(18,(.lf (.sl 2 (.int .i64))))],[72,70,68,66,64,62,14,60,58,0,2]⟩] .go)) (.sq (.opn [(18,0,9),(17,0,43)]) (.sq (.opn [(17,0,49),(18,0,9)]) (.sq (.sq (.cut [21,111,25,109,124,122,120,118,116,114,112,110,108] [⟨0,[(124,(.lf .bool))],[26,24,106,104,96,102,100,98,22,20,94,92,84,90,88,86,18]⟩] (.opn [(25,0,54),(21,0,55)])) (.sq .go .go)) (.sq (.sq (.cut [142,140,138,136,134,132,130,128,126] [⟨0,[(142,(.lf .bool))],[124]⟩] .go) (.cut [29,171,33,169,184,182,180,178,176,174,172,170,168,34,32,166,164,156,162,160,158,30,28,154,152,144,150,148,146,142,8,4,9,12] [⟨1,[(12,(.lf .bool))],[142,8,4]⟩,⟨0,[],[142,8,4]⟩] (.sq (.sq .go (.sq .go (.sq (.cut [29,171,33,169,184,182,180,178,176,174,172,170,168] [⟨0,[(184,(.lf .bool))],[34,32,166,164,156,162,160,158,30,28,154,152,144,150,148,146,142,8,4]⟩] (.opn [(33,0,84),(29,0,85)])) (.sq .go .go)))) .go))) (.sq (.opn [(17,0,94)]) (.sq .go (.sq (.sq (.cut [210,212,214,216,218,220,222,224,226,228,230,232,234,236,211,39] [⟨0,[(236,(.lf .bool))],[46,42,44,208,206,204,198,202,200,40,36,38,196,194,192,186,190,188]⟩] (.opn [(39,0,105)])) (.sq .go .go)) (.sq .go (.sq (.opn [(49,0,126)]) (.sq (.cut [262,264,266,268,270,272,274,276,278,280,282,284,286,288,290,292,294,12,263,55] [⟨0,[(12,(.lf .bool))],[56,52,54,260,258,256,250,254,252,50,48,248,246,238,244,242,240,236,16]⟩] (.opn [(55,0,131)])) .go)))))))))))))))
end Go.Abs.C04

namespace Go.Abs.C04
open Go Go.Abs
def xf74 : XF := fun dst st args => match args with
  | [.ptr p sp 0, .ptr v sv ov, .ptr c sc oc, .ptr z sz oz] => some [(2 * dst + 1, .boxv st true [.ptr v sv ov, .int .i64 2, .ptr p sp 0, .int .i64 2, .ptr p sp 1, .int .i64 3, .ptr p sp 2, .int .i64 5, .ptr c sc oc, .int .i64 2,
      .ptr p sp 4, .int .i64 6, .ptr p sp 5, .int .i64 10, .ptr p sp 6, .int .i64 9, .ptr p sp 7, .int .i64 3, .ptr z sz oz, .int .i64 7]), (2 * dst, .wnd dst st 10)]
  | _ => none
end Go.Abs.C04

namespace Sp04
abbrev S := List Int × Int × Unit
abbrev Tp := List Int × Int × Unit
def zs : S := ([], 0, ())
def on {α : Type} (b : Bool) (x : α) : Option α := bif b then some x else none
def bitOf (x : Int) (j : Nat) : Bool := decide ((x / 2 ^ j) % 2 = 1)
def bitAt (l : List Int) (i : Nat) : Bool := bitOf (l.getD (i / 8) 0) (7 - i % 8)
def b2i (b : Bool) : Int := bif b then 1 else 0
def bitsR (l : List Int) (i n : Nat) : List Bool := (List.range n).map fun j => bitAt l (i + j)
def bits (s : S) : List Bool := bitsR s.1 0 s.2.1.toNat
def byteOf (f : Nat → Bool) : Nat := (f 0).toNat * 128 + (f 1).toNat * 64 + (f 2).toNat * 32 + (f 3).toNat * 16 + (f 4).toNat * 8 + (f 5).toNat * 4 + (f 6).toNat * 2 + (f 7).toNat
def pack (bs : List Bool) : List Int := (List.range ((bs.length + 7) / 8)).map fun i => (byteOf fun j => bs.getD (8 * i + j) false : Nat)
def enc (bs : List Bool) : S := (pack bs, bs.length, ())
def vbits (v n : Nat) : List Bool := (List.range n).map fun i => v.testBit (n - 1 - i)
def valOf (bs : List Bool) : Nat := bs.foldl (fun a b => 2 * a + b.toNat) 0
def shape (s : S) : Bool := decide (0 ≤ s.2.1) && decide (s.2.1 ≤ 8192) && decide ((s.1.length : Int) = (s.2.1 + 7) / 8)
def tail (l : List Int) (n : Nat) : Bool := (List.range 8).all fun j => decide (8 * l.length ≤ n + j) || !bitAt l (n + j)
def valid (s : S) : Bool := shape s && tail s.1 s.2.1.toNat
def append (s : S) (v n : Int) : S × Int × Unit :=
  bif !valid s then (zs, 1, ()) else
  bif decide (n < 0) || decide (64 < n) || (decide (n < 64) && !decide (v / 2 ^ n.toNat = 0)) then (zs, 2, ()) else
  bif decide (8192 < s.2.1 + n) then (zs, 3, ()) else (enc (bits s ++ vbits v.toNat n.toNat), 0, ())
def take (s : S) (at_ n : Int) : Int × Int × Unit :=
  bif !valid s then (0, 1, ()) else
  bif decide (n < 0) || decide (64 < n) || decide (at_ < 0) then (0, 2, ()) else
  bif decide (s.2.1 - n < at_) then (0, 20, ()) else (valOf (bitsR s.1 at_.toNat n.toNat), 0, ())
def join (a b : S) : S × Int × Unit :=
  bif !(valid a && valid b) then (zs, 1, ()) else
  bif decide (8192 < a.2.1 + b.2.1) then (zs, 3, ()) else (enc (bits a ++ bits b), 0, ())
def slice (s : S) (a b : Int) : S × Int × Unit :=
  bif !valid s then (zs, 1, ()) else
  bif decide (a < 0) || decide (b < a) || decide (s.2.1 < b) then (zs, 2, ()) else (enc (bitsR s.1 a.toNat (b - a).toNat), 0, ())
def align (s : S) : S × Int × Unit :=
  bif !valid s then (zs, 1, ()) else ((s.1, 8 * (s.1.length : Int), ()), 0, ())
def crcB (r : Nat) (b : Bool) : Nat := bif (Nat.testBit r 15) == b then 2 * r % 65536 else Nat.xor (2 * r % 65536) 4129
def crc (bs : List Bool) : Nat := bs.foldl crcB 65535
def check (s : S) : Int × Int × Unit := bif !valid s then (0, 1, ()) else (crc (bits s), 0, ())
def same (a b : S) : Bool := decide (a.2.1 = b.2.1) && decide (a.1 = b.1)
def flip (s : S) (i : Int) : S := (s.1.set (i.toNat / 8) (Nat.xor (s.1.getD (i.toNat / 8) 0).toNat (2 ^ (7 - i.toNat % 8)) : Nat), s.2.1, ())
def wf (t : Tp) : Bool := decide (0 ≤ t.2.1) && decide (t.2.1 ≤ t.1.length) && decide (t.1.length ≤ 600)
def cut (x n : Int) : Int := bif decide (n < 1) then 0 else x.emod n
def raw (t : Tp) : Int × Tp := bif decide (t.2.1 < t.1.length) then (t.1.getD t.2.1.toNat 0, t.1, t.2.1 + 1, ()) else (0, t)
def next (t : Tp) (n : Int) : Int × Tp := (cut (raw t).1 n, (raw t).2)
def small (n : Int) : Bool := decide (-2305843009213693952 ≤ n) && decide (n ≤ 2305843009213693952)
def range (t : Tp) (a b : Int) : Int × Tp := (a + (next t (b - a + 1)).1, (next t (b - a + 1)).2)
def one (t : Tp) (n : Int) : Bool × Tp := (decide ((next t n).1 = n - 1), (next t n).2)
def pick (t : Tp) (l : List Int) : Int × Tp := (l.getD (next t l.length).1.toNat 0, (next t l.length).2)
def wilds : List Int := [-1, 0, 1, 7, 8, 23, 24, 31, 32, 63, 64, 99, 100, 255, 256, 257, 1000, 1001, 1023, 1024, 1000000, 1000001, 1099511627776, 9223372036854775807, -9223372036854775808]
def wild (t : Tp) : Int × Tp := pick t wilds
def tape (l : List Int) : Tp := (l.take 600, 0, ())
def length (t : Tp) : Int × Tp := pick t [8, 8, 16, 32, 64]
def inside (n lo hi : Int) : Bool := decide (lo ≤ n) && decide (n ≤ hi)
def vlen (n : Int) : Bool := decide (n = 8) || decide (n = 16) || decide (n = 32) || decide (n = 64)
def code (n : Int) : Int := bif decide (n = 64) then 3 else bif decide (n = 32) then 2 else bif decide (n = 16) then 1 else 0
def decoded (n : Int) : Int := 8 * 2 ^ n.toNat
def full (n : Int) : Int := bif vlen n then 2 ^ n.toNat - 1 else 0
def validB (b n : Int) : Bool := vlen n && decide (b < 2 ^ n.toNat)
def tb (b : Int) (k : Nat) : Bool := b.toNat.testBit k
def has (b k : Int) : Bool := decide (0 ≤ k) && decide (k < 64) && tb b k.toNat
def bit1 (k : Int) : Int := bif decide (k < 0) || decide (63 < k) then 0 else 2 ^ k.toNat
def and (x y : Int) : Int := ((Nat.land x.toNat y.toNat : Nat) : Int)
def ones (b : Int) : List Nat := (List.range 64).filter (tb b)
def list (b : Int) : List Int := (ones b).map fun (k : Nat) => (k : Int)
def nth (b n : Int) : Int := bif decide (n < 0) || decide ((list b).length ≤ n) then -1 else (list b).getD n.toNat 0
def bitsV (t : Tp) (n : Int) : Int × Tp :=
  let r := raw t
  let q := raw r.2
  let k := next q.2 6
  bif decide (k.1 = 0) then (0, k.2) else
  bif decide (k.1 = 1) then (bit1 (next k.2 n).1, (next k.2 n).2) else
  bif decide (k.1 = 2) then (18446744073709551615, k.2) else
  (((Nat.xor (r.1.emod 18446744073709551616 * 11400714819323198485 % 18446744073709551616).toNat (q.1.emod 18446744073709551616).toNat : Nat) : Int), k.2)
def bitsT (t : Tp) (n : Int) : Int × Tp := (and (bitsV t n).1 (full n), (bitsV t n).2)
def textN : Nat → Tp → List Int × Tp
  | 0, t => ([], t)
  | k + 1, t => ((textN k t).1 ++ [(next (textN k t).2 256).1], (next (textN k t).2 256).2)
def text (t : Tp) (n : Int) : List Int × Tp := textN (range t 0 n).1.toNat (range t 0 n).2
def orderN : Nat → Tp → List Int × Tp
  | 0, t => ([], t)
  | k + 1, t =>
    let r := orderN k t
    let a := next r.2 (k + 1)
    (r.1.take a.1.toNat ++ ((k : Int) :: r.1.drop a.1.toNat), a.2)
def order (t : Tp) (n : Int) : List Int × Tp := orderN n.toNat t
abbrev Pk := Int × Int × Int × Int × Int × Int × Int × Int × Int × List Int × Unit
def zp : Pk := (0, 0, 0, 0, 0, 0, 0, 0, 0, [], ())
def md (p : Pk) : Int := p.1
def sd (p : Pk) : Int := p.2.1
def st (p : Pk) : Int := p.2.2.1
def ln (p : Pk) : Int := p.2.2.2.1
def tl (p : Pk) : Int := p.2.2.2.2.1
def en (p : Pk) : Int := p.2.2.2.2.2.1
def ig (p : Pk) : Int := p.2.2.2.2.2.2.1
def pr (p : Pk) : Int := p.2.2.2.2.2.2.2.1
def bt (p : Pk) : Int := p.2.2.2.2.2.2.2.2.1
def py (p : Pk) : List Int := p.2.2.2.2.2.2.2.2.2.1
def validP (p : Pk) : Bool := inside (md p) 1 3 && inside (sd p) 0 7 && inside (st p) 0 31 && validB (bt p) (ln p) && inside (tl p) 0 63 && inside (en p) 0 1023 && inside (ig p) 0 256 && inside (pr p) 0 7 && decide ((py p).length ≤ 64)
def sizeP (p : Pk) : Int := bif validP p then (72 + ln p + 8 * ((py p).length : Int)) / 8 else 0
def plane (p : Pk) : Int := bif validP p then en p % 8 else 0
def only (p : Pk) (k : Int) : Pk := bif validP p && has (bt p) k then (md p, sd p, st p, ln p, tl p, en p, ig p, pr p, bit1 k, py p, ()) else zp
def masked (p : Pk) (m : Int) : Pk × Bool × Unit :=
  bif validP p && !decide (tl p = 0) && !decide (and (bt p) m = 0) then ((md p, sd p, st p, ln p, tl p - 1, en p, ig p, pr p, and (bt p) m, py p, ()), true, ()) else (zp, false, ())
def widths : List Int := [2, 2, 3, 5, 2, 6, 10, 9, 3, 7]
def headB (p : Pk) : List Bool := vbits 2 2 ++ (vbits (md p).toNat 2 ++ (vbits (sd p).toNat 3 ++ (vbits (st p).toNat 5 ++ (vbits (code (ln p)).toNat 2 ++ (vbits (tl p).toNat 6 ++ (vbits (en p).toNat 10 ++ (vbits (ig p).toNat 9 ++ (vbits (pr p).toNat 3 ++ vbits (py p).length 7))))))))
def bodyB (p : Pk) : List Bool := headB p ++ (vbits (bt p).toNat (ln p).toNat ++ (py p).flatMap fun x => vbits x.toNat 8)
def sealed (bs : List Bool) : List Bool := bs ++ vbits (crc bs) 16
def encode (p : Pk) : List Int × Int × Unit := bif !validP p then ([], 1, ()) else (pack (sealed (bodyB p)), 0, ())
def gv (b : List Int) (at_ w : Nat) : Int := bif decide (at_ + w ≤ 8 * b.length) then (valOf (bitsR b at_ w) : Int) else 0
def nS (b : List Int) : Nat := (gv b 42 7).toNat
def nLn (b : List Int) : Nat := (decoded (gv b 12 2)).toNat
def endB (b : List Int) : Nat := 49 + nLn b + 8 * nS b
def free (e : Nat) : Nat := (8 - (e + 16) % 8) % 8
def fieldsP (b : List Int) : Pk := (gv b 2 2, gv b 4 3, gv b 7 5, decoded (gv b 12 2), gv b 14 6, gv b 20 10, gv b 30 9, gv b 39 3, gv b 49 (nLn b), (List.range (nS b)).map (fun i => gv b (49 + nLn b + 8 * i) 8), ())
def decode (b : List Int) : Pk × Int × Unit :=
  bif decide (8 * b.length < 49) then (zp, 20, ()) else
  bif !decide (gv b 0 2 = 2) then (zp, 22, ()) else
  bif decide (gv b 2 2 = 0) then (zp, 1, ()) else
  bif decide (256 < gv b 30 9) || decide (64 < gv b 42 7) then (zp, 2, ()) else
  bif decide (8 * b.length < endB b + 16) then (zp, 20, ()) else
  bif !decide (gv b (endB b) 16 = (crc (bitsR b 0 (endB b)) : Nat)) then (zp, 23, ()) else
  bif !decide (gv b (endB b + 16) (free (endB b)) = 0) then (zp, 24, ()) else
  bif decide (8 * ((endB b + 23) / 8) < 8 * b.length) then (zp, 21, ()) else (fieldsP b, 0, ())
def pkt (t : Tp) : Pk × Tp :=
  let l := length t
  let m := range l.2 1 3
  let s := range m.2 0 7
  let z := pick s.2 [0, 0, 1, 2, 31]
  let h := pick z.2 [0, 1, 2, 5, 63]
  let e := next h.2 1024
  let g := pick e.2 [0, 1, 8, 255, 256]
  let o := next g.2 8
  let b := bitsT o.2 l.1
  let y := text b.2 6
  ((m.1, s.1, z.1, l.1, h.1, e.1, g.1, o.1, b.1, y.1, ()), y.2)
def pad (l : List Int) : List Int := l ++ (List.replicate ((64 - l.length) / 3) [97, 98, 99]).flatten
def spoilP (p : Pk) (t : Tp) : Pk × Tp :=
  let k := next t 9
  bif decide (k.1 = 0) then (((wild k.2).1, p.2), (wild k.2).2) else
  bif decide (k.1 = 1) then ((md p, (wild k.2).1, p.2.2), (wild k.2).2) else
  bif decide (k.1 = 2) then ((md p, sd p, (wild k.2).1, p.2.2.2), (wild k.2).2) else
  bif decide (k.1 = 3) then ((md p, sd p, st p, (pick k.2 [0, 8, 16, 24, 63, 64, 65, -8]).1, p.2.2.2.2), (pick k.2 [0, 8, 16, 24, 63, 64, 65, -8]).2) else
  bif decide (k.1 = 4) then ((md p, sd p, st p, ln p, (wild k.2).1, p.2.2.2.2.2), (wild k.2).2) else
  bif decide (k.1 = 5) then ((md p, sd p, st p, ln p, tl p, (wild k.2).1, p.2.2.2.2.2.2), (wild k.2).2) else
  bif decide (k.1 = 6) then ((md p, sd p, st p, ln p, tl p, en p, (wild k.2).1, p.2.2.2.2.2.2.2), (wild k.2).2) else
  bif decide (k.1 = 7) then ((md p, sd p, st p, ln p, tl p, en p, ig p, (wild k.2).1, p.2.2.2.2.2.2.2.2), (wild k.2).2) else
  ((md p, sd p, st p, ln p, tl p, en p, ig p, pr p, bt p, pad (py p) ++ (text k.2 4).1, ()), (text k.2 4).2)
def packet (t : Tp) (n : Int) : Pk × Tp :=
  let p := pkt t
  bif decide (0 < n) then (bif (one p.2 n).1 then spoilP p.1 (one p.2 n).2 else (p.1, (one p.2 n).2)) else p
abbrev Lb := Int × Int × Int × Unit
abbrev Fr := List Int × Pk
def zf : Fr := ([], zp)
def validL (l : Lb) : Bool := inside l.1 0 1048575 && inside l.2.1 0 7 && inside l.2.2.1 0 255
def router (n : Int) : Bool := inside n 1 99
def stray (n : Int) : Bool := !router n
def lost (l : Lb) : Bool := !validL l
def alien (l : Lb) : Bool := stray (l.1 - 16) || !decide (l.2.1 = 0) || !decide (l.2.2.1 = 255)
def near (l : Lb) : Bool := inside l.1 (-4611686018427387904) 4611686018427387904
def idx {α : Type} (p : α → Bool) (l : List α) : Int := bif l.any p then (l.findIdx p : Nat) else -1
def twice (l : List Int) : Bool := !decide l.Nodup
def validF (f : Fr) : Bool := decide (f.1.length ≤ 24) && f.1.all router && !twice f.1 && validP f.2
def be4 (n : Int) : List Int := [n / 16777216 % 256, n / 65536 % 256, n / 256 % 256, n % 256]
def joined (l : List Int) : List Int := l.flatMap be4
def lint (l : Lb) : Int := l.1 * 4096 + l.2.1 * 512 + l.2.2.1
def ends (l : List Int) : List Int := l.set (l.length - 1) (l.getD (l.length - 1) 0 + 256)
def encL (l : List Lb) : List Int × Int × Unit := bif decide (l.length < 1) || decide (24 < l.length) then ([], 3, ()) else bif l.any lost then ([], 2, ()) else (joined (ends (l.map lint)), 0, ())
def word (b : List Int) (k : Nat) : Int := b.getD (4 * k) 0 * 16777216 + b.getD (4 * k + 1) 0 * 65536 + b.getD (4 * k + 2) 0 * 256 + b.getD (4 * k + 3) 0
def lab (w : Int) : Lb := (w / 4096, w / 512 % 8, w % 256, ())
def decGo (b : List Int) : Nat → Nat → List Lb × Int × Int × Unit
  | 0, _ => ([], 0, 3, ())
  | f + 1, k => bif decide (b.length < 4 * k + 4) then ([], 0, 20, ()) else
    bif decide (word b k / 256 % 2 = 1) then ((List.range (k + 1)).map (fun i => lab (word b i)), 4 * k + 4, 0, ()) else decGo b f (k + 1)
def decL (b : List Int) : List Lb × Int × Int × Unit := decGo b 24 0
def encF (f : Fr) : List Int × Int × Unit := bif !validF f then ([], 1, ()) else
  bif decide (f.1.length = 0) then (0 :: (encode f.2).1, 0, ()) else (1 :: ((encL (f.1.map fun n => (16 + n, 0, 255, ()))).1 ++ (encode f.2).1), 0, ())
def decRest (r b : List Int) : Fr × Int × Unit := let d := decode b; bif !decide (d.2.1 = 0) then (zf, d.2.1, ()) else ((r, d.1), 0, ())
def decF (b : List Int) : Fr × Int × Unit :=
  bif decide (b.length = 0) then (zf, 20, ()) else bif decide (1 < b.getD 0 0) then (zf, 22, ()) else
  bif !decide (b.getD 0 0 = 1) then decRest [] (b.drop 1) else
  let d := decL (b.drop 1)
  bif !decide (d.2.2.1 = 0) then (zf, d.2.2.1, ()) else
  bif d.1.any alien then (zf, 2, ()) else
  bif twice (d.1.map fun l => l.1 - 16) then (zf, 5, ()) else decRest (d.1.map fun l => l.1 - 16) ((b.drop 1).drop d.2.1.toNat)
def push (f : Fr) (l : List Int) : Fr × Int × Unit :=
  bif !validF f then (zf, 1, ()) else bif l.any stray then (zf, 2, ()) else bif decide (24 < (l ++ f.1).length) then (zf, 3, ()) else
  bif twice (l ++ f.1) then (zf, 5, ()) else ((l ++ f.1, f.2), 0, ())
def pop (f : Fr) : Int × Fr × Bool × Unit := bif !validF f || decide (f.1.length = 0) then (0, zf, false, ()) else (f.1.getD 0 0, (f.1.drop 1, f.2), true, ())
def spoil (t : Tp) (x n : Int) : Int × Tp := bif decide (0 < n) then (let o := one t n; bif o.1 then wild o.2 else (x, o.2)) else (x, t)
def labT (t : Tp) (n : Int) : Lb × Tp :=
  let a := pick t [0, 17, 18, 115, 116, 1048575]
  let v := spoil a.2 a.1 n
  let b := next v.2 8
  let c := spoil b.2 b.1 n
  let d := pick c.2 [0, 1, 255]
  let h := spoil d.2 d.1 n
  ((v.1, c.1, h.1, ()), h.2)
def intsN (lo hi : Int) : Nat → Tp → List Int × Tp
  | 0, t => ([], t)
  | k + 1, t => let r := intsN lo hi k t; let a := range r.2 lo hi; (r.1 ++ [a.1], a.2)
def ints (t : Tp) (n lo hi : Int) : List Int × Tp := let c := range t 0 n; intsN lo hi c.1.toNat c.2
def frm (t : Tp) (n : Int) : Fr × Tp :=
  let p := packet t 0
  let o := order p.2 5
  let k := next o.2 5
  let r : List Int := (List.range k.1.toNat).map fun i => 1 + o.1.getD (k.1.toNat - i) 0
  bif decide (0 < n) then
    let w := one k.2 n
    bif w.1 then
      let m := next w.2 3
      bif decide (m.1 = 0) then (let q := packet m.2 1; ((r, q.1), q.2)) else
      bif decide (m.1 = 1) then (let q := pick m.2 [0, 1, 2, 99, 100]; ((r ++ [q.1], p.1), q.2)) else
      ((r ++ (List.range 25).map (fun (i : Nat) => 50 + (i : Int)), p.1), m.2)
    else ((r, p.1), w.2)
  else ((r, p.1), k.2)
def sameP (a b : Pk) : Bool := decide (md a = md b) && decide (sd a = sd b) && decide (st a = st b) && decide (ln a = ln b) && decide (tl a = tl b) && decide (en a = en b) && decide (ig a = ig b) && decide (pr a = pr b) && decide (bt a = bt b) && decide (py a = py b)
def sameF (a b : Fr) : Bool := sameP a.2 b.2 && decide (a.1 = b.1)
end Sp04

namespace Go.Abs.C04
open Go Go.Abs
abbrev tape : List Lf := [.sl 0 (.int .i64), .int .i64]
abbrev str : List Lf := [.sl 0 (.int .u8), .int .i64]
abbrev stro : List Lf := [.sl 2 (.int .u8), .int .i64]
abbrev pkl : List Lf := [.int .i64, .int .i64, .int .i64, .int .i64, .int .i64, .int .i64, .int .i64, .int .i64, .int .u64, .str]
abbrev lbl : List Lf := [.int .i64, .int .i64, .int .i64]
abbrev frl : List Lf := [.sl 0 (.int .i64), .int .i64, .int .i64, .int .i64, .int .i64, .int .i64, .int .i64, .int .i64, .int .i64, .int .u64, .str]
abbrev frol : List Lf := [.sl 2 (.int .i64), .int .i64, .int .i64, .int .i64, .int .i64, .int .i64, .int .i64, .int .i64, .int .i64, .int .u64, .str]
abbrev i : Sh := .lf (.int .i64)
abbrev u : Sh := .lf (.int .u64)
abbrev b : Sh := .lf .bool
abbrev ls : Sh := .lf (.sl 0 (.int .i64))
abbrev lb : Sh := .lf (.sl 0 (.int .u8))
abbrev lbo : Sh := .lf (.sl 2 (.int .u8))
abbrev s : Sh := .agg str
abbrev so : Sh := .agg stro
abbrev st : Sh := .lf .str
abbrev p : Sh := .agg pkl
abbrev lab : Sh := .agg lbl
abbrev lls : Sh := .lf (.sl 0 (.st 24 (.cons (.int .i64) (.cons (.int .i64) (.cons (.int .i64) .unit)))))
abbrev llo : Sh := .lf (.sl 2 (.st 24 (.cons (.int .i64) (.cons (.int .i64) (.cons (.int .i64) .unit)))))
abbrev lso : Sh := .lf (.sl 2 (.int .i64))
abbrev llb : Sh := .lf (.sl 0 (.sl (.int .u8)))
abbrev lli : Sh := .lf (.sl 0 (.sl (.int .i64)))
abbrev fr : Sh := .agg frl
abbrev fro : Sh := .agg frol
abbrev nl : Sh := .lf (.cst .nils)
abbrev k41 : Sh := .lf (.cst (.fnc 41))
abbrev k61 : Sh := .lf (.cst (.fnc 61))
abbrev k50 : Sh := .lf (.cst (.fnc 50))
abbrev k55 : Sh := .lf (.cst (.fnc 55))
def c106 : Con := { hasP := false, pre := [], ps := [i], rs := (.one i), post := [], F := fun x => Sp04.on (decide (0 ≤ x.2.1) && decide (x.2.1 ≤ 1099511627776)) ((x.2.1 + 7) / 8, ()) }
def c103 : Con := { hasP := false, pre := [], ps := [lb, i], rs := (.one u), post := [], F := fun x => Sp04.on (decide (0 ≤ x.2.2.1) && decide (x.2.2.1 < 8 * (x.2.1.length : Int))) (Sp04.b2i (Sp04.bitAt x.2.1 x.2.2.1.toNat), ()) }
def c100 : Con := { hasP := false, pre := [], ps := [s, i], rs := (.one u), post := [], F := fun x => Sp04.on (decide (0 ≤ x.2.2.1) && decide (x.2.2.1 < 8 * (x.2.1.1.length : Int))) (Sp04.b2i (Sp04.bitAt x.2.1.1 x.2.2.1.toNat), ()) }
def c97 : Con := { hasP := false, pre := [], ps := [s], rs := (.one b), post := [], F := fun x => some (Sp04.valid x.2.1, ()) }
def c101 : Con := { hasP := false, pre := [], ps := [s], rs := (.one b), post := [], F := fun x => some (Sp04.valid x.2.1, ()) }
def c48 : Con := { hasP := true, pre := tape, ps := [], rs := (.one i), post := tape, F := fun x => Sp04.on (Sp04.wf x.1) (Sp04.raw x.1) }
def c47 : Con := { hasP := false, pre := [], ps := [i, i], rs := (.one i), post := [], F := fun x => some (Sp04.cut x.2.1 x.2.2.1, ()) }
def c19 : Con := { hasP := true, pre := tape, ps := [i], rs := (.one i), post := tape, F := fun x => Sp04.on (Sp04.wf x.1) (Sp04.next x.1 x.2.1) }
def c59 : Con := { hasP := true, pre := tape, ps := [i, i], rs := (.one i), post := tape, F := fun x => Sp04.on (Sp04.wf x.1 && Sp04.small x.2.1 && Sp04.small x.2.2.1) (Sp04.range x.1 x.2.1 x.2.2.1) }
def c18 : Con := { hasP := true, pre := tape, ps := [i], rs := (.one b), post := tape, F := fun x => Sp04.on (Sp04.wf x.1 && Sp04.small x.2.1) (Sp04.one x.1 x.2.1) }
def c17 : Con := { hasP := true, pre := tape, ps := [ls], rs := (.one i), post := tape, F := fun x => Sp04.on (Sp04.wf x.1 && decide (0 < x.2.1.length) && decide (x.2.1.length ≤ 1000)) (Sp04.pick x.1 x.2.1) }
def c31 : Con := { hasP := true, pre := tape, ps := [], rs := (.one i), post := tape, F := fun x => Sp04.on (Sp04.wf x.1) (Sp04.wild x.1) }
def c102 : Con := { hasP := false, pre := [], ps := [s, u], rs := (.one so), post := [], F := fun x => Sp04.on (Sp04.valid x.2.1) (Sp04.enc (Sp04.bits x.2.1 ++ [decide (x.2.2.1 = 1)]), ()) }
def c89 : Con := { hasP := false, pre := [], ps := [s, i, i], rs := (.tup [s, i]), post := [], F := fun x => some (Sp04.slice x.2.1 x.2.2.1 x.2.2.2.1, ()) }
def c98 : Con := { hasP := false, pre := [], ps := [s], rs := (.one so), post := [], F := fun x => some (x.2.1, ()) }
def c99 : Con := { hasP := true, pre := stro, ps := [u, i], rs := .none, post := stro, F := fun x => Sp04.on (Sp04.valid x.1 && decide (0 ≤ x.2.2.1) && decide (x.2.2.1 ≤ 64) && decide (x.1.2.1 + x.2.2.1 ≤ 8192)) ((), Sp04.enc (Sp04.bits x.1 ++ Sp04.vbits x.2.1.toNat x.2.2.1.toNat)) }
def c104 : Con := { hasP := false, pre := [], ps := [s, i, i], rs := (.one u), post := [], F := fun x => Sp04.on (decide (0 ≤ x.2.2.1) && decide (0 ≤ x.2.2.2.1) && decide (x.2.2.2.1 ≤ 64) && decide (x.2.2.1 + x.2.2.2.1 ≤ 8 * (x.2.1.1.length : Int))) ((Sp04.valOf (Sp04.bitsR x.2.1.1 x.2.2.1.toNat x.2.2.2.1.toNat) : Int), ()) }
def c105 : Con := { hasP := true, pre := stro, ps := [s, i, i], rs := .none, post := stro, F := fun x => Sp04.on (Sp04.valid x.1 && decide (0 ≤ x.2.2.1) && decide (x.2.2.2.1 ≤ 8 * (x.2.1.1.length : Int)) && decide (x.1.2.1 + (x.2.2.2.1 - x.2.2.1) ≤ 8192)) ((), Sp04.enc (Sp04.bits x.1 ++ Sp04.bitsR x.2.1.1 x.2.2.1.toNat (x.2.2.2.1 - x.2.2.1).toNat)) }
def c75 : Con := { hasP := false, pre := [], ps := [s, u, i], rs := (.tup [so, i]), post := [], F := fun x => some (Sp04.append x.2.1 x.2.2.1 x.2.2.2.1, ()) }
def c75w1 : Con := { hasP := false, pre := [], ps := [s, u, i], rs := (.tup [s, i]), post := [], F := fun x => some (Sp04.append x.2.1 x.2.2.1 x.2.2.2.1, ()) }
def c80 : Con := { hasP := false, pre := [], ps := [so, u, i], rs := (.tup [so, i]), post := [], F := fun x => some (Sp04.append x.2.1 x.2.2.1 x.2.2.2.1, ()) }
def c83 : Con := { hasP := false, pre := [], ps := [s, i, i], rs := (.tup [u, i]), post := [], F := fun x => some (Sp04.take x.2.1 x.2.2.1 x.2.2.2.1, ()) }
def c86 : Con := { hasP := false, pre := [], ps := [s, i, i], rs := (.tup [u, i]), post := [], F := fun x => some (Sp04.take x.2.1 x.2.2.1 x.2.2.2.1, ()) }
def c76 : Con := { hasP := false, pre := [], ps := [s], rs := (.tup [u, i]), post := [], F := fun x => some (Sp04.check x.2.1, ()) }
def c81 : Con := { hasP := false, pre := [], ps := [s], rs := (.tup [u, i]), post := [], F := fun x => some (Sp04.check x.2.1, ()) }
def c9 : Con := { hasP := false, pre := [], ps := [ls], rs := (.newp tape), post := [], F := fun x => some (Sp04.tape x.2.1, ()) }
def c82 : Con := { hasP := false, pre := [], ps := [so], rs := (.tup [so, i]), post := [], F := fun x => some (Sp04.align x.2.1, ()) }
def c85 : Con := { hasP := false, pre := [], ps := [s, i, i], rs := (.tup [s, i]), post := [], F := fun x => some (Sp04.slice x.2.1 x.2.2.1 x.2.2.2.1, ()) }
def c94 : Con := { hasP := false, pre := [], ps := [i], rs := (.one b), post := [], F := fun x => some (Sp04.vlen x.2.1, ()) }
def c96 : Con := { hasP := false, pre := [], ps := [i], rs := (.one b), post := [], F := fun x => some (Sp04.vlen x.2.1, ()) }
def c78 : Con := { hasP := false, pre := [], ps := [i], rs := (.one i), post := [], F := fun x => Sp04.on (Sp04.vlen x.2.1) (Sp04.code x.2.1, ()) }
def c87 : Con := { hasP := false, pre := [], ps := [i], rs := (.one i), post := [], F := fun x => Sp04.on (Sp04.inside x.2.1 0 3) (Sp04.decoded x.2.1, ()) }
def c63 : Con := { hasP := true, pre := tape, ps := [], rs := (.one i), post := tape, F := fun x => Sp04.on (Sp04.wf x.1) (Sp04.length x.1) }
def c68 : Con := { hasP := false, pre := [], ps := [i, i], rs := (.one b), post := [], F := fun x => some (Sp04.inside x.2.1 0 x.2.2.1, ()) }
def c70 : Con := { hasP := false, pre := [], ps := [i, i], rs := (.one b), post := [], F := fun x => some (Sp04.inside x.2.1 0 x.2.2.1, ()) }
def c91 : Con := { hasP := false, pre := [], ps := [i], rs := (.one u), post := [], F := fun x => some (Sp04.bit1 x.2.1, ()) }
def c95 : Con := { hasP := false, pre := [], ps := [i], rs := (.one u), post := [], F := fun x => some (Sp04.full x.2.1, ()) }
def c92 : Con := { hasP := false, pre := [], ps := [i], rs := (.one u), post := [], F := fun x => some (Sp04.full x.2.1, ()) }
def c69 : Con := { hasP := false, pre := [], ps := [u, i], rs := (.one b), post := [], F := fun x => some (Sp04.validB x.2.1 x.2.2.1, ()) }
def c71 : Con := { hasP := false, pre := [], ps := [u, i], rs := (.one b), post := [], F := fun x => some (Sp04.validB x.2.1 x.2.2.1, ()) }
def c64 : Con := { hasP := true, pre := tape, ps := [i], rs := (.one u), post := tape, F := fun x => Sp04.on (Sp04.wf x.1) (Sp04.bitsT x.1 x.2.1) }
def c65 : Con := { hasP := true, pre := tape, ps := [i], rs := (.one st), post := tape, F := fun x => Sp04.on (Sp04.wf x.1 && decide (0 ≤ x.2.1) && decide (x.2.1 ≤ 1000)) (Sp04.text x.1 x.2.1) }
def c38 : Con := { hasP := true, pre := tape, ps := [i], rs := (.one ls), post := tape, F := fun x => Sp04.on (Sp04.wf x.1 && decide (0 ≤ x.2.1) && decide (x.2.1 ≤ 1000)) (Sp04.order x.1 x.2.1) }
def c44 : Con := { hasP := false, pre := [], ps := [p], rs := (.one b), post := [], F := fun x => some (Sp04.validP x.2.1, ()) }
def c46 : Con := { hasP := false, pre := [], ps := [p], rs := (.one b), post := [], F := fun x => some (Sp04.validP x.2.1, ()) }
def c84 : Con := { hasP := false, pre := [], ps := [i, i], rs := (.one i), post := [], F := fun x => Sp04.on (Sp04.inside x.2.1 0 1000 && Sp04.inside x.2.2.1 0 1000) (65 + x.2.1 + 8 * x.2.2.1, ()) }
def c88 : Con := { hasP := false, pre := [], ps := [i, i], rs := (.one i), post := [], F := fun x => Sp04.on (Sp04.inside x.2.1 0 1000 && Sp04.inside x.2.2.1 0 1000) ((72 + x.2.1 + 8 * x.2.2.1) / 8, ()) }
def c73 : Con := { hasP := false, pre := [], ps := [i], rs := (.one i), post := [], F := fun x => Sp04.on (Sp04.vlen x.2.1) (Sp04.code x.2.1, ()) }
def c74 : Con := { hasP := false, pre := [], ps := [], rs := .none, post := [], F := fun _ => none, xf := some xf74 }
def c79 : Con := { hasP := false, pre := [], ps := [], rs := (.one ls), post := [], F := fun x => some (Sp04.widths, ()) }
def c52 : Con := { hasP := false, pre := [], ps := [p], rs := (.tup [lbo, i]), post := [], F := fun x => some (Sp04.encode x.2.1, ()) }
def c54 : Con := { hasP := false, pre := [], ps := [p], rs := (.tup [lbo, i]), post := [], F := fun x => some (Sp04.encode x.2.1, ()) }
def c56 : Con := { hasP := false, pre := [], ps := [lb], rs := (.tup [p, i]), post := [], F := fun x => some (Sp04.decode x.2.1, ()) }
def c58 : Con := { hasP := false, pre := [], ps := [lb], rs := (.tup [p, i]), post := [], F := fun x => some (Sp04.decode x.2.1, ()) }
def c37 : Con := { hasP := true, pre := tape, ps := [i], rs := (.one p), post := tape, F := fun x => Sp04.on (Sp04.wf x.1 && Sp04.small x.2.1) (Sp04.packet x.1 x.2.1) }
def c39 : Con := { hasP := false, pre := [], ps := [i, i, i], rs := (.one b), post := [], F := fun x => some (Sp04.inside x.2.1 x.2.2.1 x.2.2.2.1, ()) }
def c42 : Con := { hasP := false, pre := [], ps := [i], rs := (.one b), post := [], F := fun x => some (Sp04.router x.2.1, ()) }
def c41 : Con := { hasP := false, pre := [], ps := [i], rs := (.one b), post := [], F := fun x => some (Sp04.stray x.2.1, ()) }
def c61 : Con := { hasP := false, pre := [], ps := [i], rs := (.one b), post := [], F := fun x => some (Sp04.stray x.2.1, ()) }
def c93 : Con := { hasP := false, pre := [], ps := [ls, i], rs := (.one i), post := [], F := fun x => some (Sp04.idx (fun y => decide (x.2.2.1 = y)) x.2.1, ()) }
def c67 : Con := { hasP := false, pre := [], ps := [ls, i], rs := (.one b), post := [], F := fun x => some (x.2.1.any fun y => decide (x.2.2.1 = y), ()) }
def c43 : Con := { hasP := false, pre := [], ps := [ls], rs := (.one b), post := [], F := fun x => some (Sp04.twice x.2.1, ()) }
def c45 : Con := { hasP := false, pre := [], ps := [ls], rs := (.one b), post := [], F := fun x => some (Sp04.twice x.2.1, ()) }
def c66 : Con := { hasP := false, pre := [], ps := [ls, k41], rs := (.one i), post := [], F := fun x => some (Sp04.idx Sp04.stray x.2.1, ()) }
def c40 : Con := { hasP := false, pre := [], ps := [ls, k41], rs := (.one b), post := [], F := fun x => some (x.2.1.any Sp04.stray, ()) }
def c12 : Con := { hasP := false, pre := [], ps := [lab], rs := (.one b), post := [], F := fun x => some (Sp04.validL x.2.1, ()) }
def c13 : Con := { hasP := false, pre := [], ps := [lab], rs := (.one b), post := [], F := fun x => some (Sp04.validL x.2.1, ()) }
def c50 : Con := { hasP := false, pre := [], ps := [lab], rs := (.one b), post := [], F := fun x => some (Sp04.lost x.2.1, ()) }
def c55 : Con := { hasP := false, pre := [], ps := [lab], rs := (.one b), post := [], F := fun x => Sp04.on (Sp04.near x.2.1) (Sp04.alien x.2.1, ()) }
def c14 : Con := { hasP := false, pre := [], ps := [fr], rs := (.one b), post := [], F := fun x => some (Sp04.validF x.2.1, ()) }
def c15 : Con := { hasP := false, pre := [], ps := [fr], rs := (.one b), post := [], F := fun x => some (Sp04.validF x.2.1, ()) }
def c57 : Con := { hasP := false, pre := [], ps := [ls, ls], rs := (.one b), post := [], F := fun x => some (decide (x.2.1 = x.2.2.1), ()) }
def c28 : Con := { hasP := false, pre := [], ps := [fr, fr], rs := (.one b), post := [], F := fun x => some (Sp04.sameF x.2.1 x.2.2.1, ()) }
def c23 : Con := { hasP := false, pre := [], ps := [lls, lls], rs := (.one b), post := [], F := fun x => some (decide (x.2.1 = x.2.2.1), ()) }
def c51 : Con := { hasP := false, pre := [], ps := [ls], rs := (.one lbo), post := [], F := fun x => some (Sp04.joined x.2.1, ()) }
def c72 : Con := { hasP := false, pre := [], ps := [lls, k50], rs := (.one i), post := [], F := fun x => some (Sp04.idx Sp04.lost x.2.1, ()) }
def c49 : Con := { hasP := false, pre := [], ps := [lls, k50], rs := (.one b), post := [], F := fun x => some (x.2.1.any Sp04.lost, ()) }
def c20 : Con := { hasP := false, pre := [], ps := [lls], rs := (.tup [lbo, i]), post := [], F := fun x => some (Sp04.encL x.2.1, ()) }
def c21 : Con := { hasP := false, pre := [], ps := [lls], rs := (.tup [lbo, i]), post := [], F := fun x => some (Sp04.encL x.2.1, ()) }
def c22 : Con := { hasP := false, pre := [], ps := [lb], rs := (.tup [llo, i, i]), post := [], F := fun x => some (Sp04.decL x.2.1, ()) }
def c24 : Con := { hasP := false, pre := [], ps := [lb], rs := (.tup [llo, i, i]), post := [], F := fun x => some (Sp04.decL x.2.1, ()) }
def c77 : Con := { hasP := false, pre := [], ps := [nl, i], rs := (.one lbo), post := [], F := fun x => Sp04.on (Sp04.inside x.2.2.1 0 1000000) (([] : List Int), ()) }
def c90 : Con := { hasP := false, pre := [], ps := [nl, i], rs := (.one lso), post := [], F := fun x => Sp04.on (Sp04.inside x.2.2.1 0 1000000) (([] : List Int), ()) }
def c53 : Con := { hasP := false, pre := [], ps := [llb], rs := (.one lbo), post := [], F := fun x => Sp04.on (decide (x.2.1.flatten.length ≤ 1000000) && decide (x.2.1.length ≤ 100)) (x.2.1.flatten, ()) }
def c60 : Con := { hasP := false, pre := [], ps := [lli], rs := (.one lso), post := [], F := fun x => Sp04.on (decide (x.2.1.flatten.length ≤ 1000000) && decide (x.2.1.length ≤ 100)) (x.2.1.flatten, ()) }
def c62 : Con := { hasP := false, pre := [], ps := [ls], rs := (.one lso), post := [], F := fun x => some (x.2.1, ()) }
def c25 : Con := { hasP := false, pre := [], ps := [fr], rs := (.tup [lbo, i]), post := [], F := fun x => some (Sp04.encF x.2.1, ()) }
def c26 : Con := { hasP := false, pre := [], ps := [fr], rs := (.tup [lbo, i]), post := [], F := fun x => some (Sp04.encF x.2.1, ()) }
def c72v : Con := { hasP := false, pre := [], ps := [lls, k55], rs := (.one i), post := [], F := fun x => Sp04.on (x.2.1.all Sp04.near) (Sp04.idx Sp04.alien x.2.1, ()) }
def c49v : Con := { hasP := false, pre := [], ps := [lls, k55], rs := (.one b), post := [], F := fun x => Sp04.on (x.2.1.all Sp04.near) (x.2.1.any Sp04.alien, ()) }
def c27 : Con := { hasP := false, pre := [], ps := [lb], rs := (.tup [fro, i]), post := [], F := fun x => some (Sp04.decF x.2.1, ()) }
def c29 : Con := { hasP := false, pre := [], ps := [lb], rs := (.tup [fro, i]), post := [], F := fun x => some (Sp04.decF x.2.1, ()) }
def c66v : Con := { hasP := false, pre := [], ps := [ls, k61], rs := (.one i), post := [], F := fun x => some (Sp04.idx Sp04.stray x.2.1, ()) }
def c40v : Con := { hasP := false, pre := [], ps := [ls, k61], rs := (.one b), post := [], F := fun x => some (x.2.1.any Sp04.stray, ()) }
def c32 : Con := { hasP := false, pre := [], ps := [fr, ls], rs := (.tup [fro, i]), post := [], F := fun x => Sp04.on (decide (x.2.2.1.length ≤ 100000) && decide (x.2.1.1.length ≤ 100000)) (Sp04.push x.2.1 x.2.2.1, ()) }
def c33 : Con := { hasP := false, pre := [], ps := [fr, ls], rs := (.tup [fro, i]), post := [], F := fun x => Sp04.on (decide (x.2.2.1.length ≤ 100000) && decide (x.2.1.1.length ≤ 100000)) (Sp04.push x.2.1 x.2.2.1, ()) }
def c34 : Con := { hasP := false, pre := [], ps := [fr], rs := (.tup [i, fro, b]), post := [], F := fun x => some (Sp04.pop x.2.1, ()) }
def c35 : Con := { hasP := false, pre := [], ps := [fr], rs := (.tup [i, fr, b]), post := [], F := fun x => some (Sp04.pop x.2.1, ()) }
def c36 : Con := { hasP := true, pre := tape, ps := [i, i], rs := (.one i), post := tape, F := fun x => Sp04.on (Sp04.wf x.1 && Sp04.small x.2.2.1) (Sp04.spoil x.1 x.2.1 x.2.2.1) }
def c10 : Con := { hasP := true, pre := tape, ps := [i], rs := (.one lab), post := tape, F := fun x => Sp04.on (Sp04.wf x.1 && Sp04.small x.2.1) (Sp04.labT x.1 x.2.1) }
def c30 : Con := { hasP := true, pre := tape, ps := [i, i, i], rs := (.one lso), post := tape, F := fun x => Sp04.on (Sp04.wf x.1 && Sp04.inside x.2.1 0 1000 && Sp04.small x.2.2.1 && Sp04.small x.2.2.2.1) (Sp04.ints x.1 x.2.1 x.2.2.1 x.2.2.2.1) }
def c11 : Con := { hasP := true, pre := tape, ps := [i], rs := (.one fro), post := tape, F := fun x => Sp04.on (Sp04.wf x.1 && Sp04.small x.2.1) (Sp04.frm x.1 x.2.1) }
def c11w1 : Con := { hasP := true, pre := tape, ps := [i], rs := (.one fr), post := tape, F := fun x => Sp04.on (Sp04.wf x.1 && Sp04.small x.2.1) (Sp04.frm x.1 x.2.1) }
def c16 : Con := { hasP := false, pre := [], ps := [], rs := (.one b), post := [], F := fun x => some (true, ()) }
def c3 : Con := { hasP := false, pre := [], ps := [ls, lab, fr], rs := (.one b), post := [], F := fun x => some (true, ()) }
def c4 : Con := { hasP := false, pre := [], ps := [ls, lls, lb], rs := (.one b), post := [], F := fun x => some (true, ()) }
def c5 : Con := { hasP := false, pre := [], ps := [ls, lb], rs := (.one b), post := [], F := fun x => some (true, ()) }
def c6 : Con := { hasP := false, pre := [], ps := [ls, fr], rs := (.one b), post := [], F := fun x => some (true, ()) }
def c7 : Con := { hasP := false, pre := [], ps := [ls, lb], rs := (.one b), post := [], F := fun x => some (true, ()) }
def c8 : Con := { hasP := false, pre := [], ps := [ls, fr, ls], rs := (.one b), post := [], F := fun x => some (true, ()) }
abbrev L0 : List (Nat × Con) := []
abbrev G106 : Gam := lookC L0
abbrev L106 : List (Nat × Con) := (106,c106) :: L0
abbrev G103 : Gam := lookC L106
abbrev L103 : List (Nat × Con) := (103,c103) :: L106
abbrev G100 : Gam := lookC L103
abbrev L100 : List (Nat × Con) := (100,c100) :: L103
abbrev G97 : Gam := lookC L100
abbrev L97 : List (Nat × Con) := (97,c97) :: L100
abbrev G101 : Gam := lookC L97
abbrev L101 : List (Nat × Con) := (101,c101) :: L97
abbrev G48 : Gam := lookC L101
abbrev L48 : List (Nat × Con) := (48,c48) :: L101
abbrev G47 : Gam := lookC L48
abbrev L47 : List (Nat × Con) := (47,c47) :: L48
abbrev G19 : Gam := lookC L47
abbrev L19 : List (Nat × Con) := (19,c19) :: L47
abbrev G59 : Gam := lookC L19
abbrev L59 : List (Nat × Con) := (59,c59) :: L19
abbrev G18 : Gam := lookC L59
abbrev L18 : List (Nat × Con) := (18,c18) :: L59
abbrev G17 : Gam := lookC L18
abbrev L17 : List (Nat × Con) := (17,c17) :: L18
abbrev G31 : Gam := lookC L17
abbrev L31 : List (Nat × Con) := (31,c31) :: L17
abbrev G102 : Gam := lookC L31
abbrev L102 : List (Nat × Con) := (102,c102) :: L31
abbrev G89 : Gam := lookC L102
abbrev L89 : List (Nat × Con) := (89,c89) :: L102
abbrev G98 : Gam := lookC L89
abbrev L98 : List (Nat × Con) := (98,c98) :: L89
abbrev G99 : Gam := lookC L98
abbrev L99 : List (Nat × Con) := (99,c99) :: L98
abbrev G104 : Gam := lookC L99
abbrev L104 : List (Nat × Con) := (104,c104) :: L99
abbrev G105 : Gam := lookC L104
abbrev L105 : List (Nat × Con) := (105,c105) :: L104
abbrev G75 : Gam := lookC L105
abbrev L75 : List (Nat × Con) := (75,c75) :: L105
abbrev G75w1 : Gam := lookC L75
abbrev L75w1 : List (Nat × Con) := (1000075,c75w1) :: L75
abbrev G80 : Gam := lookC L75w1
abbrev L80 : List (Nat × Con) := (80,c80) :: L75w1
abbrev G83 : Gam := lookC L80
abbrev L83 : List (Nat × Con) := (83,c83) :: L80
abbrev G86 : Gam := lookC L83
abbrev L86 : List (Nat × Con) := (86,c86) :: L83
abbrev G76 : Gam := lookC L86
abbrev L76 : List (Nat × Con) := (76,c76) :: L86
abbrev G81 : Gam := lookC L76
abbrev L81 : List (Nat × Con) := (81,c81) :: L76
abbrev G9 : Gam := lookC L81
abbrev L9 : List (Nat × Con) := (9,c9) :: L81
abbrev G82 : Gam := lookC L9
abbrev L82 : List (Nat × Con) := (82,c82) :: L9
abbrev G85 : Gam := lookC L82
abbrev L85 : List (Nat × Con) := (85,c85) :: L82
abbrev G94 : Gam := lookC L85
abbrev L94 : List (Nat × Con) := (94,c94) :: L85
abbrev G96 : Gam := lookC L94
abbrev L96 : List (Nat × Con) := (96,c96) :: L94
abbrev G78 : Gam := lookC L96
abbrev L78 : List (Nat × Con) := (78,c78) :: L96
abbrev G87 : Gam := lookC L78
abbrev L87 : List (Nat × Con) := (87,c87) :: L78
abbrev G63 : Gam := lookC L87
abbrev L63 : List (Nat × Con) := (63,c63) :: L87
abbrev G68 : Gam := lookC L63
abbrev L68 : List (Nat × Con) := (68,c68) :: L63
abbrev G70 : Gam := lookC L68
abbrev L70 : List (Nat × Con) := (70,c70) :: L68
abbrev G91 : Gam := lookC L70
abbrev L91 : List (Nat × Con) := (91,c91) :: L70
abbrev G95 : Gam := lookC L91
abbrev L95 : List (Nat × Con) := (95,c95) :: L91
abbrev G92 : Gam := lookC L95
abbrev L92 : List (Nat × Con) := (92,c92) :: L95
abbrev G69 : Gam := lookC L92
abbrev L69 : List (Nat × Con) := (69,c69) :: L92
abbrev G71 : Gam := lookC L69
abbrev L71 : List (Nat × Con) := (71,c71) :: L69
abbrev G64 : Gam := lookC L71
abbrev L64 : List (Nat × Con) := (64,c64) :: L71
abbrev G65 : Gam := lookC L64
abbrev L65 : List (Nat × Con) := (65,c65) :: L64
abbrev G38 : Gam := lookC L65
abbrev L38 : List (Nat × Con) := (38,c38) :: L65
abbrev G44 : Gam := lookC L38
abbrev L44 : List (Nat × Con) := (44,c44) :: L38
abbrev G46 : Gam := lookC L44
abbrev L46 : List (Nat × Con) := (46,c46) :: L44
abbrev G84 : Gam := lookC L46
abbrev L84 : List (Nat × Con) := (84,c84) :: L46
abbrev G88 : Gam := lookC L84
abbrev L88 : List (Nat × Con) := (88,c88) :: L84
abbrev G73 : Gam := lookC L88
abbrev L73 : List (Nat × Con) := (73,c73) :: L88
abbrev G74 : Gam := lookC L73
abbrev L74 : List (Nat × Con) := (74,c74) :: L73
abbrev G79 : Gam := lookC L74
abbrev L79 : List (Nat × Con) := (79,c79) :: L74
abbrev G52 : Gam := lookC L79
abbrev L52 : List (Nat × Con) := (52,c52) :: L79
abbrev G54 : Gam := lookC L52
abbrev L54 : List (Nat × Con) := (54,c54) :: L52
abbrev G56 : Gam := lookC L54
abbrev L56 : List (Nat × Con) := (56,c56) :: L54
abbrev G58 : Gam := lookC L56
abbrev L58 : List (Nat × Con) := (58,c58) :: L56
abbrev G37 : Gam := lookC L58
abbrev L37 : List (Nat × Con) := (37,c37) :: L58
abbrev G39 : Gam := lookC L37
abbrev L39 : List (Nat × Con) := (39,c39) :: L37
abbrev G42 : Gam := lookC L39
abbrev L42 : List (Nat × Con) := (42,c42) :: L39
abbrev G41 : Gam := lookC L42
abbrev L41 : List (Nat × Con) := (41,c41) :: L42
abbrev G61 : Gam := lookC L41
abbrev L61 : List (Nat × Con) := (61,c61) :: L41
abbrev G93 : Gam := lookC L61
abbrev L93 : List (Nat × Con) := (93,c93) :: L61
abbrev G67 : Gam := lookC L93
abbrev L67 : List (Nat × Con) := (67,c67) :: L93
abbrev G43 : Gam := lookC L67
abbrev L43 : List (Nat × Con) := (43,c43) :: L67
abbrev G45 : Gam := lookC L43
abbrev L45 : List (Nat × Con) := (45,c45) :: L43
abbrev G66 : Gam := lookC L45
abbrev L66 : List (Nat × Con) := (66,c66) :: L45
abbrev G40 : Gam := lookC L66
abbrev L40 : List (Nat × Con) := (40,c40) :: L66
abbrev G12 : Gam := lookC L40
abbrev L12 : List (Nat × Con) := (12,c12) :: L40
abbrev G13 : Gam := lookC L12
abbrev L13 : List (Nat × Con) := (13,c13) :: L12
abbrev G50 : Gam := lookC L13
abbrev L50 : List (Nat × Con) := (50,c50) :: L13
abbrev G55 : Gam := lookC L50
abbrev L55 : List (Nat × Con) := (55,c55) :: L50
abbrev G14 : Gam := lookC L55
abbrev L14 : List (Nat × Con) := (14,c14) :: L55
abbrev G15 : Gam := lookC L14
abbrev L15 : List (Nat × Con) := (15,c15) :: L14
abbrev G57 : Gam := lookC L15
abbrev L57 : List (Nat × Con) := (57,c57) :: L15
abbrev G28 : Gam := lookC L57
abbrev L28 : List (Nat × Con) := (28,c28) :: L57
abbrev G23 : Gam := lookC L28
abbrev L23 : List (Nat × Con) := (23,c23) :: L28
abbrev G51 : Gam := lookC L23
abbrev L51 : List (Nat × Con) := (51,c51) :: L23
abbrev G72 : Gam := lookC L51
abbrev L72 : List (Nat × Con) := (72,c72) :: L51
abbrev G49 : Gam := lookC L72
abbrev L49 : List (Nat × Con) := (49,c49) :: L72
abbrev G20 : Gam := lookC L49
abbrev L20 : List (Nat × Con) := (20,c20) :: L49
abbrev G21 : Gam := lookC L20
abbrev L21 : List (Nat × Con) := (21,c21) :: L20
abbrev G22 : Gam := lookC L21
abbrev L22 : List (Nat × Con) := (22,c22) :: L21
abbrev G24 : Gam := lookC L22
abbrev L24 : List (Nat × Con) := (24,c24) :: L22
abbrev G77 : Gam := lookC L24
abbrev L77 : List (Nat × Con) := (77,c77) :: L24
abbrev G90 : Gam := lookC L77
abbrev L90 : List (Nat × Con) := (90,c90) :: L77
abbrev G53 : Gam := lookC L90
abbrev L53 : List (Nat × Con) := (53,c53) :: L90
abbrev G60 : Gam := lookC L53
abbrev L60 : List (Nat × Con) := (60,c60) :: L53
abbrev G62 : Gam := lookC L60
abbrev L62 : List (Nat × Con) := (62,c62) :: L60
abbrev G25 : Gam := lookC L62
abbrev L25 : List (Nat × Con) := (25,c25) :: L62
abbrev G26 : Gam := lookC L25
abbrev L26 : List (Nat × Con) := (26,c26) :: L25
abbrev G72v : Gam := lookC L26
abbrev L72v : List (Nat × Con) := (72,c72v) :: L26
abbrev G49v : Gam := lookC L72v
abbrev L49v : List (Nat × Con) := (49,c49v) :: L72v
abbrev G27 : Gam := lookC L49v
abbrev L27 : List (Nat × Con) := (27,c27) :: L49v
abbrev G29 : Gam := lookC L27
abbrev L29 : List (Nat × Con) := (29,c29) :: L27
abbrev G66v : Gam := lookC L29
abbrev L66v : List (Nat × Con) := (66,c66v) :: L29
abbrev G40v : Gam := lookC L66v
abbrev L40v : List (Nat × Con) := (40,c40v) :: L66v
abbrev G32 : Gam := lookC L40v
abbrev L32 : List (Nat × Con) := (32,c32) :: L40v
abbrev G33 : Gam := lookC L32
abbrev L33 : List (Nat × Con) := (33,c33) :: L32
abbrev G34 : Gam := lookC L33
abbrev L34 : List (Nat × Con) := (34,c34) :: L33
abbrev G35 : Gam := lookC L34
abbrev L35 : List (Nat × Con) := (35,c35) :: L34
abbrev G36 : Gam := lookC L35
abbrev L36 : List (Nat × Con) := (36,c36) :: L35
abbrev G10 : Gam := lookC L36
abbrev L10 : List (Nat × Con) := (10,c10) :: L36
abbrev G30 : Gam := lookC L10
abbrev L30 : List (Nat × Con) := (30,c30) :: L10
abbrev G11 : Gam := lookC L30
abbrev L11 : List (Nat × Con) := (11,c11) :: L30
abbrev G11w1 : Gam := lookC L11
abbrev L11w1 : List (Nat × Con) := (1000011,c11w1) :: L11
abbrev G16 : Gam := lookC L11w1
abbrev L16 : List (Nat × Con) := (16,c16) :: L11w1
abbrev G3 : Gam := lookC L16
abbrev G4 : Gam := lookC L16
abbrev G5 : Gam := lookC L16
abbrev G6 : Gam := lookC L16
abbrev G7 : Gam := lookC L16
abbrev G8 : Gam := lookC L16
end Go.Abs.C04

namespace Go.Abs.C04
open Go Go.Proofs Go.Abs
noncomputable def g31 (a0 : List Int) (a1 : Int) : Option (Int × List Int × Int × Unit) := Option.bind (Sp04.on (Sp04.wf (a0, a1, ()) && true && true) (Sp04.pick (a0, a1, ()) Sp04.wilds)) (fun y => some y)
theorem g31_eq (a0 : List Int) (a1 : Int) : (evF (fun _ _ => Loop) E31 G31 Try.f31 plan31 c31 ((a0, (a1, ())), ())).den = g31 a0 a1 := by kernel_rfl
end Go.Abs.C04

namespace Go.Abs.C04
open Go Go.Abs
set_option maxRecDepth 20000
set_option linter.unusedVariables false
noncomputable def g56_s0 (a0 : (List Int)) (a1 : ((List Int) × (Int × ((Int × Unit) × Unit)))) : (Option (Sum ((List Int) × (Int × ((Int × Unit) × Unit))) ((List Int) × Unit))) :=
  (bif (decide (a1.2.2.1.1 > 0)) then (bif (@Nat.ble ((a1.1.length + 1) * 1) 140737488355328) then (some (.inl ((a1.1 ++ ((IntKind.wrap .u8 (@Sp04.take ((List.drop 0 (List.take (Int.toNat (bif (decide (1024 < (Int.ofNat a0.length))) then 1024 else (Int.ofNat a0.length))) a0)),((IntKind.wrap .i64 (8 * (Int.ofNat (List.drop 0 (List.take (Int.toNat (bif (decide (1024 < (Int.ofNat a0.length))) then 1024 else (Int.ofNat a0.length))) a0)).length))),())) a1.2.1 8).1) :: [])),((IntKind.wrap .i64 (a1.2.1 + 8)),(((IntKind.wrap .i64 (a1.2.2.1.1 - 1)),()),()))))) else none) else (some (.inr (a1.1,()))))
noncomputable def g56 (a0 : (List Int)) : (Option ((Sp04.Pk × (Int × Unit)) × Unit)) :=
  (bif (decide ((IntKind.wrap .i64 (8 * (Int.ofNat a0.length))) < 49)) then (some (((0,(0,(0,(0,(0,(0,(0,(0,(0,([],())))))))))),(20,())),())) else (bif ((true && (decide (0 ≤ (bif (decide (1024 < (Int.ofNat a0.length))) then 1024 else (Int.ofNat a0.length))))) && (decide ((bif (decide (1024 < (Int.ofNat a0.length))) then 1024 else (Int.ofNat a0.length)) ≤ (Int.ofNat a0.length)))) then (bif (decide (0 ≤ (IntKind.wrap .i64 (@Sp04.take ((List.drop 0 (List.take (Int.toNat (bif (decide (1024 < (Int.ofNat a0.length))) then 1024 else (Int.ofNat a0.length))) a0)),((IntKind.wrap .i64 (8 * (Int.ofNat (List.drop 0 (List.take (Int.toNat (bif (decide (1024 < (Int.ofNat a0.length))) then 1024 else (Int.ofNat a0.length))) a0)).length))),())) 12 2).1))) then (Option.bind (@Sp04.on (Int × Unit) ((@Sp04.inside (IntKind.wrap .i64 (8 * (@Int.pow 2 (@Min.min Nat instMinNat (Int.toNat (IntKind.wrap .i64 (@Sp04.take ((List.drop 0 (List.take (Int.toNat (bif (decide (1024 < (Int.ofNat a0.length))) then 1024 else (Int.ofNat a0.length))) a0)),((IntKind.wrap .i64 (8 * (Int.ofNat (List.drop 0 (List.take (Int.toNat (bif (decide (1024 < (Int.ofNat a0.length))) then 1024 else (Int.ofNat a0.length))) a0)).length))),())) 12 2).1)) 64)))) 0 1000) && (@Sp04.inside (IntKind.wrap .i64 (@Sp04.take ((List.drop 0 (List.take (Int.toNat (bif (decide (1024 < (Int.ofNat a0.length))) then 1024 else (Int.ofNat a0.length))) a0)),((IntKind.wrap .i64 (8 * (Int.ofNat (List.drop 0 (List.take (Int.toNat (bif (decide (1024 < (Int.ofNat a0.length))) then 1024 else (Int.ofNat a0.length))) a0)).length))),())) 42 7).1) 0 1000)) (((65 + (IntKind.wrap .i64 (8 * (@Int.pow 2 (@Min.min Nat instMinNat (Int.toNat (IntKind.wrap .i64 (@Sp04.take ((List.drop 0 (List.take (Int.toNat (bif (decide (1024 < (Int.ofNat a0.length))) then 1024 else (Int.ofNat a0.length))) a0)),((IntKind.wrap .i64 (8 * (Int.ofNat (List.drop 0 (List.take (Int.toNat (bif (decide (1024 < (Int.ofNat a0.length))) then 1024 else (Int.ofNat a0.length))) a0)).length))),())) 12 2).1)) 64))))) + (8 * (IntKind.wrap .i64 (@Sp04.take ((List.drop 0 (List.take (Int.toNat (bif (decide (1024 < (Int.ofNat a0.length))) then 1024 else (Int.ofNat a0.length))) a0)),((IntKind.wrap .i64 (8 * (Int.ofNat (List.drop 0 (List.take (Int.toNat (bif (decide (1024 < (Int.ofNat a0.length))) then 1024 else (Int.ofNat a0.length))) a0)).length))),())) 42 7).1))),())) (fun (y1 : (Int × Unit)) => (bif (!(decide ((IntKind.wrap .i64 (@Sp04.take ((List.drop 0 (List.take (Int.toNat (bif (decide (1024 < (Int.ofNat a0.length))) then 1024 else (Int.ofNat a0.length))) a0)),((IntKind.wrap .i64 (8 * (Int.ofNat (List.drop 0 (List.take (Int.toNat (bif (decide (1024 < (Int.ofNat a0.length))) then 1024 else (Int.ofNat a0.length))) a0)).length))),())) 0 2).1) = 2))) then (some (((0,(0,(0,(0,(0,(0,(0,(0,(0,([],())))))))))),(22,())),())) else (bif (decide ((IntKind.wrap .i64 (@Sp04.take ((List.drop 0 (List.take (Int.toNat (bif (decide (1024 < (Int.ofNat a0.length))) then 1024 else (Int.ofNat a0.length))) a0)),((IntKind.wrap .i64 (8 * (Int.ofNat (List.drop 0 (List.take (Int.toNat (bif (decide (1024 < (Int.ofNat a0.length))) then 1024 else (Int.ofNat a0.length))) a0)).length))),())) 2 2).1) = 0)) then (some (((0,(0,(0,(0,(0,(0,(0,(0,(0,([],())))))))))),(1,())),())) else (Option.bind (bif (!(decide ((IntKind.wrap .i64 (@Sp04.take ((List.drop 0 (List.take (Int.toNat (bif (decide (1024 < (Int.ofNat a0.length))) then 1024 else (Int.ofNat a0.length))) a0)),((IntKind.wrap .i64 (8 * (Int.ofNat (List.drop 0 (List.take (Int.toNat (bif (decide (1024 < (Int.ofNat a0.length))) then 1024 else (Int.ofNat a0.length))) a0)).length))),())) 30 9).1) > 256))) then (some ((decide ((IntKind.wrap .i64 (@Sp04.take ((List.drop 0 (List.take (Int.toNat (bif (decide (1024 < (Int.ofNat a0.length))) then 1024 else (Int.ofNat a0.length))) a0)),((IntKind.wrap .i64 (8 * (Int.ofNat (List.drop 0 (List.take (Int.toNat (bif (decide (1024 < (Int.ofNat a0.length))) then 1024 else (Int.ofNat a0.length))) a0)).length))),())) 42 7).1) > 64)),())) else (some (true,()))) (fun (y2 : (Bool × Unit)) => (bif y2.1 then (some (((0,(0,(0,(0,(0,(0,(0,(0,(0,([],())))))))))),(2,())),())) else (bif (decide ((IntKind.wrap .i64 (8 * (Int.ofNat (List.drop 0 (List.take (Int.toNat (bif (decide (1024 < (Int.ofNat a0.length))) then 1024 else (Int.ofNat a0.length))) a0)).length))) < y1.1)) then (some (((0,(0,(0,(0,(0,(0,(0,(0,(0,([],())))))))))),(20,())),())) else (bif (!(decide ((@Sp04.take ((List.drop 0 (List.take (Int.toNat (bif (decide (1024 < (Int.ofNat a0.length))) then 1024 else (Int.ofNat a0.length))) a0)),((IntKind.wrap .i64 (8 * (Int.ofNat (List.drop 0 (List.take (Int.toNat (bif (decide (1024 < (Int.ofNat a0.length))) then 1024 else (Int.ofNat a0.length))) a0)).length))),())) (IntKind.wrap .i64 (y1.1 - 16)) 16).1 = (@Sp04.check (@Sp04.slice ((List.drop 0 (List.take (Int.toNat (bif (decide (1024 < (Int.ofNat a0.length))) then 1024 else (Int.ofNat a0.length))) a0)),((IntKind.wrap .i64 (8 * (Int.ofNat (List.drop 0 (List.take (Int.toNat (bif (decide (1024 < (Int.ofNat a0.length))) then 1024 else (Int.ofNat a0.length))) a0)).length))),())) 0 (IntKind.wrap .i64 (y1.1 - 16))).1).1))) then (some (((0,(0,(0,(0,(0,(0,(0,(0,(0,([],())))))))))),(23,())),())) else (bif (!(decide ((@Sp04.take ((List.drop 0 (List.take (Int.toNat (bif (decide (1024 < (Int.ofNat a0.length))) then 1024 else (Int.ofNat a0.length))) a0)),((IntKind.wrap .i64 (8 * (Int.ofNat (List.drop 0 (List.take (Int.toNat (bif (decide (1024 < (Int.ofNat a0.length))) then 1024 else (Int.ofNat a0.length))) a0)).length))),())) y1.1 (IntKind.wrap .i64 (Int.ofNat (@BitVec.toNat 64 (@BitVec.and 64 (@BitVec.ofInt 64 (IntKind.wrap .i64 (0 - y1.1))) (@BitVec.ofInt 64 7)))))).1 = 0))) then (some (((0,(0,(0,(0,(0,(0,(0,(0,(0,([],())))))))))),(24,())),())) else (bif (decide ((IntKind.wrap .i64 (8 * (Int.ofNat a0.length))) > (IntKind.wrap .i64 (y1.1 + (IntKind.wrap .i64 (Int.ofNat (@BitVec.toNat 64 (@BitVec.and 64 (@BitVec.ofInt 64 (IntKind.wrap .i64 (0 - y1.1))) (@BitVec.ofInt 64 7))))))))) then (some (((0,(0,(0,(0,(0,(0,(0,(0,(0,([],())))))))))),(21,())),())) else (Option.bind (Loop (@g56_s0 a0) ([],((IntKind.wrap .i64 (49 + (IntKind.wrap .i64 (8 * (@Int.pow 2 (@Min.min Nat instMinNat (Int.toNat (IntKind.wrap .i64 (@Sp04.take ((List.drop 0 (List.take (Int.toNat (bif (decide (1024 < (Int.ofNat a0.length))) then 1024 else (Int.ofNat a0.length))) a0)),((IntKind.wrap .i64 (8 * (Int.ofNat (List.drop 0 (List.take (Int.toNat (bif (decide (1024 < (Int.ofNat a0.length))) then 1024 else (Int.ofNat a0.length))) a0)).length))),())) 12 2).1)) 64)))))),(((IntKind.wrap .i64 (@Sp04.take ((List.drop 0 (List.take (Int.toNat (bif (decide (1024 < (Int.ofNat a0.length))) then 1024 else (Int.ofNat a0.length))) a0)),((IntKind.wrap .i64 (8 * (Int.ofNat (List.drop 0 (List.take (Int.toNat (bif (decide (1024 < (Int.ofNat a0.length))) then 1024 else (Int.ofNat a0.length))) a0)).length))),())) 42 7).1),()),())))) (fun (y3 : ((List Int) × Unit)) => (some ((((IntKind.wrap .i64 (@Sp04.take ((List.drop 0 (List.take (Int.toNat (bif (decide (1024 < (Int.ofNat a0.length))) then 1024 else (Int.ofNat a0.length))) a0)),((IntKind.wrap .i64 (8 * (Int.ofNat (List.drop 0 (List.take (Int.toNat (bif (decide (1024 < (Int.ofNat a0.length))) then 1024 else (Int.ofNat a0.length))) a0)).length))),())) 2 2).1),((IntKind.wrap .i64 (@Sp04.take ((List.drop 0 (List.take (Int.toNat (bif (decide (1024 < (Int.ofNat a0.length))) then 1024 else (Int.ofNat a0.length))) a0)),((IntKind.wrap .i64 (8 * (Int.ofNat (List.drop 0 (List.take (Int.toNat (bif (decide (1024 < (Int.ofNat a0.length))) then 1024 else (Int.ofNat a0.length))) a0)).length))),())) 4 3).1),((IntKind.wrap .i64 (@Sp04.take ((List.drop 0 (List.take (Int.toNat (bif (decide (1024 < (Int.ofNat a0.length))) then 1024 else (Int.ofNat a0.length))) a0)),((IntKind.wrap .i64 (8 * (Int.ofNat (List.drop 0 (List.take (Int.toNat (bif (decide (1024 < (Int.ofNat a0.length))) then 1024 else (Int.ofNat a0.length))) a0)).length))),())) 7 5).1),((IntKind.wrap .i64 (8 * (@Int.pow 2 (@Min.min Nat instMinNat (Int.toNat (IntKind.wrap .i64 (@Sp04.take ((List.drop 0 (List.take (Int.toNat (bif (decide (1024 < (Int.ofNat a0.length))) then 1024 else (Int.ofNat a0.length))) a0)),((IntKind.wrap .i64 (8 * (Int.ofNat (List.drop 0 (List.take (Int.toNat (bif (decide (1024 < (Int.ofNat a0.length))) then 1024 else (Int.ofNat a0.length))) a0)).length))),())) 12 2).1)) 64)))),((IntKind.wrap .i64 (@Sp04.take ((List.drop 0 (List.take (Int.toNat (bif (decide (1024 < (Int.ofNat a0.length))) then 1024 else (Int.ofNat a0.length))) a0)),((IntKind.wrap .i64 (8 * (Int.ofNat (List.drop 0 (List.take (Int.toNat (bif (decide (1024 < (Int.ofNat a0.length))) then 1024 else (Int.ofNat a0.length))) a0)).length))),())) 14 6).1),((IntKind.wrap .i64 (@Sp04.take ((List.drop 0 (List.take (Int.toNat (bif (decide (1024 < (Int.ofNat a0.length))) then 1024 else (Int.ofNat a0.length))) a0)),((IntKind.wrap .i64 (8 * (Int.ofNat (List.drop 0 (List.take (Int.toNat (bif (decide (1024 < (Int.ofNat a0.length))) then 1024 else (Int.ofNat a0.length))) a0)).length))),())) 20 10).1),((IntKind.wrap .i64 (@Sp04.take ((List.drop 0 (List.take (Int.toNat (bif (decide (1024 < (Int.ofNat a0.length))) then 1024 else (Int.ofNat a0.length))) a0)),((IntKind.wrap .i64 (8 * (Int.ofNat (List.drop 0 (List.take (Int.toNat (bif (decide (1024 < (Int.ofNat a0.length))) then 1024 else (Int.ofNat a0.length))) a0)).length))),())) 30 9).1),((IntKind.wrap .i64 (@Sp04.take ((List.drop 0 (List.take (Int.toNat (bif (decide (1024 < (Int.ofNat a0.length))) then 1024 else (Int.ofNat a0.length))) a0)),((IntKind.wrap .i64 (8 * (Int.ofNat (List.drop 0 (List.take (Int.toNat (bif (decide (1024 < (Int.ofNat a0.length))) then 1024 else (Int.ofNat a0.length))) a0)).length))),())) 39 3).1),((@Sp04.take ((List.drop 0 (List.take (Int.toNat (bif (decide (1024 < (Int.ofNat a0.length))) then 1024 else (Int.ofNat a0.length))) a0)),((IntKind.wrap .i64 (8 * (Int.ofNat (List.drop 0 (List.take (Int.toNat (bif (decide (1024 < (Int.ofNat a0.length))) then 1024 else (Int.ofNat a0.length))) a0)).length))),())) 49 (IntKind.wrap .i64 (8 * (@Int.pow 2 (@Min.min Nat instMinNat (Int.toNat (IntKind.wrap .i64 (@Sp04.take ((List.drop 0 (List.take (Int.toNat (bif (decide (1024 < (Int.ofNat a0.length))) then 1024 else (Int.ofNat a0.length))) a0)),((IntKind.wrap .i64 (8 * (Int.ofNat (List.drop 0 (List.take (Int.toNat (bif (decide (1024 < (Int.ofNat a0.length))) then 1024 else (Int.ofNat a0.length))) a0)).length))),())) 12 2).1)) 64))))).1,y3))))))))),(0,())),()))))))))))))))) else none) else none))
theorem g56_eq (a0 : (List Int)) : (evF (fun _ _ => Loop) E56 G56 Proofs.Try.f56 plan56 c56 ((),(a0,()))).den = g56 a0 := by kernel_rfl

noncomputable def g21_s0 (a0 : (@List Sp04.Lb)) (a1 : Sp04.Tp) : (Option (Sum Sp04.Tp (Bool × ((Int × ((List Int) × Unit)) × ((List Int) × Unit))))) :=
  (bif (decide (a1.2.1 < (Int.ofNat a0.length))) then (bif ((decide (0 ≤ a1.2.1)) && (decide (a1.2.1 < (Int.ofNat a0.length)))) then (bif (!(@Sp04.validL (List.getD a0 (Int.toNat a1.2.1) (0,(0,(0,())))))) then (some (.inr (true,((2,([],())),([],()))))) else (bif ((decide (0 ≤ a1.2.1)) && (decide (a1.2.1 < (Int.ofNat a0.length)))) then (bif ((decide (0 ≤ a1.2.1)) && (decide (a1.2.1 < (Int.ofNat a0.length)))) then (bif ((decide (0 ≤ a1.2.1)) && (decide (a1.2.1 < (Int.ofNat a0.length)))) then (Option.bind (bif (decide (a1.2.1 = (IntKind.wrap .i64 ((Int.ofNat a0.length) - 1)))) then (some ((IntKind.wrap .i64 ((IntKind.wrap .i64 ((IntKind.wrap .i64 ((IntKind.wrap .i64 ((List.getD a0 (Int.toNat a1.2.1) (0,(0,(0,())))).1 * 4096)) + (IntKind.wrap .i64 ((List.getD a0 (Int.toNat a1.2.1) (0,(0,(0,())))).2.1 * 512)))) + (List.getD a0 (Int.toNat a1.2.1) (0,(0,(0,())))).2.2.1)) + 256)),())) else (some ((IntKind.wrap .i64 ((IntKind.wrap .i64 ((IntKind.wrap .i64 ((List.getD a0 (Int.toNat a1.2.1) (0,(0,(0,())))).1 * 4096)) + (IntKind.wrap .i64 ((List.getD a0 (Int.toNat a1.2.1) (0,(0,(0,())))).2.1 * 512)))) + (List.getD a0 (Int.toNat a1.2.1) (0,(0,(0,())))).2.2.1)),()))) (fun (y2 : (Int × Unit)) => (bif (@Nat.ble ((a1.1.length + ((IntKind.wrap .u8 (@Int.fdiv y2.1 16777216)) :: ((IntKind.wrap .u8 (@Int.fdiv y2.1 65536)) :: ((IntKind.wrap .u8 (@Int.fdiv y2.1 256)) :: ((IntKind.wrap .u8 y2.1) :: [])))).length) * 1) 140737488355328) then (some (.inl ((a1.1 ++ ((IntKind.wrap .u8 (@Int.fdiv y2.1 16777216)) :: ((IntKind.wrap .u8 (@Int.fdiv y2.1 65536)) :: ((IntKind.wrap .u8 (@Int.fdiv y2.1 256)) :: ((IntKind.wrap .u8 y2.1) :: []))))),((IntKind.wrap .i64 (a1.2.1 + 1)),())))) else none))) else none) else none) else none)) else none) else (some (.inr (false,((0,([],())),(a1.1,()))))))
noncomputable def g21 (a0 : (@List Sp04.Lb)) : (Option (Sp04.Tp × Unit)) :=
  (Option.bind (bif (!(decide ((Int.ofNat a0.length) < 1))) then (some ((decide ((Int.ofNat a0.length) > 24)),())) else (some (true,()))) (fun (y1 : (Bool × Unit)) => (bif y1.1 then (some (([],(3,())),())) else (Option.bind (Loop (@g21_s0 a0) ([],(0,()))) (fun (y2 : (Bool × ((Int × ((List Int) × Unit)) × ((List Int) × Unit)))) => (bif y2.1 then (some ((y2.2.1.2.1,(y2.2.1.1,())),())) else (some ((y2.2.2.1,(0,())),()))))))))
theorem g21_eq (a0 : (@List Sp04.Lb)) : (evF (fun _ _ => Loop) E21 G21 Proofs.Try.f21 plan21 c21 ((),(a0,()))).den = g21 a0 := by kernel_rfl

noncomputable def g26_s0 (a0 : (List Int)) (a1 : (Int × ((@List Sp04.Lb) × Unit))) : (Option (Sum (Int × ((@List Sp04.Lb) × Unit)) ((@List Sp04.Lb) × Unit))) :=
  (bif (decide (a1.1 < (Int.ofNat a0.length))) then (bif ((decide (0 ≤ a1.1)) && (decide (a1.1 < (Int.ofNat a0.length)))) then (bif (@Nat.ble ((a1.2.1.length + 1) * 24) 140737488355328) then (some (.inl ((IntKind.wrap .i64 (a1.1 + 1)),((a1.2.1 ++ (((IntKind.wrap .i64 (16 + (List.getD a0 (Int.toNat a1.1) 0))),(0,(255,()))) :: [])),())))) else none) else none) else (some (.inr a1.2)))
noncomputable def g26 (a0 : (List Int)) (a1 : Int) (a2 : Int) (a3 : Int) (a4 : Int) (a5 : Int) (a6 : Int) (a7 : Int) (a8 : Int) (a9 : Int) (a10 : (List Int)) : (Option (Sp04.Tp × Unit)) :=
  (bif (!(@Sp04.validF (a0,(a1,(a2,(a3,(a4,(a5,(a6,(a7,(a8,(a9,(a10,()))))))))))))) then (some (([],(1,())),())) else (bif (decide ((Int.ofNat a0.length) = 0)) then (bif (@Nat.ble ((1 + (@Sp04.encode (a1,(a2,(a3,(a4,(a5,(a6,(a7,(a8,(a9,(a10,()))))))))))).1.length) * 1) 140737488355328) then (some ((((0 : Int) :: ([] ++ (@Sp04.encode (a1,(a2,(a3,(a4,(a5,(a6,(a7,(a8,(a9,(a10,()))))))))))).1)),(0,())),())) else none) else (Option.bind (Loop (@g26_s0 a0) (0,([],()))) (fun (y11 : ((@List Sp04.Lb) × Unit)) => (bif (@Nat.ble ((1 + (@Sp04.encL y11.1).1.length) * 1) 140737488355328) then (bif (@Nat.ble ((((1 : Int) :: ([] ++ (@Sp04.encL y11.1).1)).length + (@Sp04.encode (a1,(a2,(a3,(a4,(a5,(a6,(a7,(a8,(a9,(a10,()))))))))))).1.length) * 1) 140737488355328) then (some ((((1 : Int) :: (([] ++ (@Sp04.encL y11.1).1) ++ (@Sp04.encode (a1,(a2,(a3,(a4,(a5,(a6,(a7,(a8,(a9,(a10,()))))))))))).1)),(0,())),())) else none) else none)))))
theorem g26_eq (a0 : (List Int)) (a1 : Int) (a2 : Int) (a3 : Int) (a4 : Int) (a5 : Int) (a6 : Int) (a7 : Int) (a8 : Int) (a9 : Int) (a10 : (List Int)) : (evF (fun _ _ => Loop) E26 G26 Proofs.Try.f26 plan26 c26 ((),((a0,(a1,(a2,(a3,(a4,(a5,(a6,(a7,(a8,(a9,(a10,()))))))))))),()))).den = g26 a0 a1 a2 a3 a4 a5 a6 a7 a8 a9 a10 := by kernel_rfl

noncomputable def g23_s0 (a0 : (@List Sp04.Lb)) (a1 : (@List Sp04.Lb)) (a2 : (Int × Unit)) : (Option (Sum (Int × Unit) (Bool × ((Bool × Unit) × Unit)))) :=
  (bif (decide (a2.1 < (Int.ofNat a0.length))) then (bif ((decide (0 ≤ a2.1)) && (decide (a2.1 < (Int.ofNat a0.length)))) then (bif ((decide (0 ≤ a2.1)) && (decide (a2.1 < (Int.ofNat a1.length)))) then (bif (!((decide ((List.getD a0 (Int.toNat a2.1) (0,(0,(0,())))).1 = (List.getD a1 (Int.toNat a2.1) (0,(0,(0,())))).1)) && ((decide ((List.getD a0 (Int.toNat a2.1) (0,(0,(0,())))).2.1 = (List.getD a1 (Int.toNat a2.1) (0,(0,(0,())))).2.1)) && ((decide ((List.getD a0 (Int.toNat a2.1) (0,(0,(0,())))).2.2.1 = (List.getD a1 (Int.toNat a2.1) (0,(0,(0,())))).2.2.1)) && true)))) then (some (.inr (true,((false,()),())))) else (some (.inl ((IntKind.wrap .i64 (a2.1 + 1)),())))) else none) else none) else (some (.inr (false,((false,()),())))))
noncomputable def g23 (a0 : (@List Sp04.Lb)) (a1 : (@List Sp04.Lb)) : (Option (Bool × Unit)) :=
  (bif (!(decide ((Int.ofNat a0.length) = (Int.ofNat a1.length)))) then (some (false,())) else (Option.bind (Loop (@g23_s0 a0 a1) (0,())) (fun (y2 : (Bool × ((Bool × Unit) × Unit))) => (bif y2.1 then (some y2.2.1) else (some (true,()))))))
theorem g23_eq (a0 : (@List Sp04.Lb)) (a1 : (@List Sp04.Lb)) : (evF (fun _ _ => Loop) E23 G23 Proofs.Try.f23 plan23 c23 ((),(a0,(a1,())))).den = g23 a0 a1 := by kernel_rfl

noncomputable def g81_s0 (a0 : (List Int)) (a1 : Int) (a2 : (Int × (Int × Unit))) : (Option (Sum (Int × (Int × Unit)) (Int × Unit))) :=
  (bif (decide (a2.1 < a1)) then (Option.bind (@Sp04.on (Int × Unit) ((decide (0 ≤ a2.1)) && (decide (a2.1 < (8 * (Int.ofNat a0.length))))) ((@Sp04.b2i (@Sp04.bitAt a0 (Int.toNat a2.1))),())) (fun (y3 : (Int × Unit)) => (Option.bind (bif (!(decide ((@Int.fdiv a2.2.1 32768) = y3.1))) then (some ((IntKind.wrap .u64 (Int.ofNat (@BitVec.toNat 64 (@BitVec.xor 64 (@BitVec.ofInt 64 (IntKind.wrap .u64 (Int.ofNat (@BitVec.toNat 64 (@BitVec.and 64 (@BitVec.ofInt 64 (IntKind.wrap .u64 (a2.2.1 * 2))) (@BitVec.ofInt 64 65535)))))) (@BitVec.ofInt 64 4129))))),())) else (some ((IntKind.wrap .u64 (Int.ofNat (@BitVec.toNat 64 (@BitVec.and 64 (@BitVec.ofInt 64 (IntKind.wrap .u64 (a2.2.1 * 2))) (@BitVec.ofInt 64 65535))))),()))) (fun (y4 : (Int × Unit)) => (some (.inl ((IntKind.wrap .i64 (a2.1 + 1)),y4))))))) else (some (.inr a2.2)))
noncomputable def g81 (a0 : (List Int)) (a1 : Int) : (Option ((Int × (Int × Unit)) × Unit)) :=
  (bif (!(@Sp04.valid (a0,(a1,())))) then (some ((0,(1,())),())) else (Option.bind (Loop (@g81_s0 a0 a1) (0,(65535,()))) (fun (y2 : (Int × Unit)) => (some ((y2.1,(0,())),())))))
theorem g81_eq (a0 : (List Int)) (a1 : Int) : (evF (fun _ _ => Loop) E81 G81 Proofs.Try.f81 plan81 c81 ((),((a0,(a1,())),()))).den = g81 a0 a1 := by kernel_rfl

noncomputable def g75 (a0 : (List Int)) (a1 : Int) (a2 : Int) (a3 : Int) : (Option ((Sp04.Tp × (Int × Unit)) × Unit)) :=
  (bif (!(@Sp04.valid (a0,(a1,())))) then (some ((([],(0,())),(1,())),())) else (Option.bind (bif (!(decide (a3 < 0))) then (bif (!(decide (a3 > 64))) then (bif (decide (a3 < 64)) then (bif (decide (0 ≤ a3)) then (some ((!(decide ((@Int.fdiv a2 (@Int.pow 2 (@Min.min Nat instMinNat (Int.toNat a3) 64))) = 0))),())) else none) else (some (false,()))) else (some (true,()))) else (some (true,()))) (fun (y4 : (Bool × Unit)) => (bif y4.1 then (some ((([],(0,())),(2,())),())) else (bif (decide ((IntKind.wrap .i64 (a1 + a3)) > 8192)) then (some ((([],(0,())),(3,())),())) else (Option.bind (@Sp04.on (Unit × Sp04.Tp) ((((@Sp04.valid (a0,(a1,()))) && (decide (0 ≤ a3))) && (decide (a3 ≤ 64))) && (decide ((a1 + a3) ≤ 8192))) ((),(@Sp04.enc ((@Sp04.bits (a0,(a1,()))) ++ (@Sp04.vbits (Int.toNat a2) (Int.toNat a3)))))) (fun (y5 : (Unit × Sp04.Tp)) => (some ((y5.2,(0,())),())))))))))
theorem g75_eq (a0 : (List Int)) (a1 : Int) (a2 : Int) (a3 : Int) : (evF (fun _ _ => Loop) E75 G75 Proofs.Try.f75 plan75 c75 ((),((a0,(a1,())),(a2,(a3,()))))).den = g75 a0 a1 a2 a3 := by kernel_rfl

noncomputable def g85 (a0 : (List Int)) (a1 : Int) (a2 : Int) (a3 : Int) : (Option ((Sp04.Tp × (Int × Unit)) × Unit)) :=
  (bif (!(@Sp04.valid (a0,(a1,())))) then (some ((([],(0,())),(1,())),())) else (Option.bind (bif (!(decide (a2 < 0))) then (bif (!(decide (a2 > a3))) then (some ((decide (a3 > a1)),())) else (some (true,()))) else (some (true,()))) (fun (y4 : (Bool × Unit)) => (bif y4.1 then (some ((([],(0,())),(2,())),())) else (Option.bind (@Sp04.on (Unit × Sp04.Tp) ((((@Sp04.valid ([],(0,()))) && (decide (0 ≤ a2))) && (decide (a3 ≤ (8 * (Int.ofNat a0.length))))) && (decide ((0 + (a3 - a2)) ≤ 8192))) ((),(@Sp04.enc ((@Sp04.bits ([],(0,()))) ++ (@Sp04.bitsR a0 (Int.toNat a2) (Int.toNat (a3 - a2))))))) (fun (y5 : (Unit × Sp04.Tp)) => (some ((y5.2,(0,())),()))))))))
theorem g85_eq (a0 : (List Int)) (a1 : Int) (a2 : Int) (a3 : Int) : (evF (fun _ _ => Loop) E85 G85 Proofs.Try.f85 plan85 c85 ((),((a0,(a1,())),(a2,(a3,()))))).den = g85 a0 a1 a2 a3 := by kernel_rfl

noncomputable def g103 (a0 : (List Int)) (a1 : Int) : (Option (Int × Unit)) :=
  (bif ((decide (0 ≤ (IntKind.wrap .i64 (@Int.tdiv a1 8)))) && (decide ((IntKind.wrap .i64 (@Int.tdiv a1 8)) < (Int.ofNat a0.length)))) then (bif (decide (0 ≤ (IntKind.wrap .u64 (IntKind.wrap .i64 (7 - (@Int.tmod a1 8)))))) then (some ((IntKind.wrap .u64 (Int.ofNat (@BitVec.toNat 64 (@BitVec.and 64 (@BitVec.ofInt 64 (IntKind.wrap .u64 (@Int.fdiv (List.getD a0 (Int.toNat (IntKind.wrap .i64 (@Int.tdiv a1 8))) 0) (@Int.pow 2 (@Min.min Nat instMinNat (Int.toNat (IntKind.wrap .u64 (IntKind.wrap .i64 (7 - (@Int.tmod a1 8))))) 8))))) (@BitVec.ofInt 64 1))))),())) else none) else none)
theorem g103_eq (a0 : (List Int)) (a1 : Int) : (evF (fun _ _ => Loop) E103 G103 Proofs.Try.f103 plan103 c103 ((),(a0,(a1,())))).den = g103 a0 a1 := by kernel_rfl

noncomputable def g92_s0 (a0 : Int) (a1 : (Int × (Int × Unit))) : (Option (Sum (Int × (Int × Unit)) (Int × Unit))) :=
  (bif (decide (a1.1 < a0)) then (some (.inl ((IntKind.wrap .i64 (a1.1 + 1)),((IntKind.wrap .u64 (Int.ofNat (@BitVec.toNat 64 (@BitVec.or 64 (@BitVec.ofInt 64 a1.2.1) (@BitVec.ofInt 64 (@Sp04.bit1 a1.1)))))),())))) else (some (.inr a1.2)))
noncomputable def g92 (a0 : Int) : (Option (Int × Unit)) :=
  (bif (!(@Sp04.vlen a0)) then (some (0,())) else (Option.bind (Loop (@g92_s0 a0) (0,(0,()))) (fun (y1 : (Int × Unit)) => (some y1))))
theorem g92_eq (a0 : Int) : (evF (fun _ _ => Loop) E92 G92 Proofs.Try.f92 plan92 c92 ((),(a0,()))).den = g92 a0 := by kernel_rfl

noncomputable def g91 (a0 : Int) : (Option (Int × Unit)) :=
  (Option.bind (bif (!(decide (a0 < 0))) then (some ((decide (a0 > 63)),())) else (some (true,()))) (fun (y1 : (Bool × Unit)) => (bif y1.1 then (some (0,())) else (bif (decide (0 ≤ (IntKind.wrap .u64 a0))) then (some ((IntKind.wrap .u64 (1 * (@Int.pow 2 (@Min.min Nat instMinNat (Int.toNat (IntKind.wrap .u64 a0)) 64)))),())) else none))))
theorem g91_eq (a0 : Int) : (evF (fun _ _ => Loop) E91 G91 Proofs.Try.f91 plan91 c91 ((),(a0,()))).den = g91 a0 := by kernel_rfl

noncomputable def g55 (a0 : Int) (a1 : Int) (a2 : Int) : (Option (Bool × Unit)) :=
  (Option.bind (bif (!(!(@Sp04.router (IntKind.wrap .i64 (a0 - 16))))) then (bif (!(!(decide (a1 = 0)))) then (some ((!(decide (a2 = 255))),())) else (some (true,()))) else (some (true,()))) (fun (y3 : (Bool × Unit)) => (some y3)))
theorem g55_eq (a0 : Int) (a1 : Int) (a2 : Int) : (evF (fun _ _ => Loop) E55 G55 Proofs.Try.f55 plan55 c55 ((),((a0,(a1,(a2,()))),()))).den = g55 a0 a1 a2 := by kernel_rfl

noncomputable def g96 (a0 : Int) : (Option (Bool × Unit)) :=
  (Option.bind (bif (!(decide (a0 = 8))) then (bif (!(decide (a0 = 16))) then (bif (!(decide (a0 = 32))) then (some ((decide (a0 = 64)),())) else (some (true,()))) else (some (true,()))) else (some (true,()))) (fun (y1 : (Bool × Unit)) => (some y1)))
theorem g96_eq (a0 : Int) : (evF (fun _ _ => Loop) E96 G96 Proofs.Try.f96 plan96 c96 ((),(a0,()))).den = g96 a0 := by kernel_rfl

noncomputable def g70 (a0 : Int) (a1 : Int) : (Option (Bool × Unit)) :=
  (Option.bind (bif (decide (a0 ≥ 0)) then (some ((decide (a0 ≤ a1)),())) else (some (false,()))) (fun (y2 : (Bool × Unit)) => (some y2)))
theorem g70_eq (a0 : Int) (a1 : Int) : (evF (fun _ _ => Loop) E70 G70 Proofs.Try.f70 plan70 c70 ((),(a0,(a1,())))).den = g70 a0 a1 := by kernel_rfl

noncomputable def g41 (a0 : Int) : (Option (Bool × Unit)) :=
  (some ((!(@Sp04.router a0)),()))
theorem g41_eq (a0 : Int) : (evF (fun _ _ => Loop) E41 G41 Proofs.Try.f41 plan41 c41 ((),(a0,()))).den = g41 a0 := by kernel_rfl

noncomputable def g61 (a0 : Int) : (Option (Bool × Unit)) :=
  (some ((!(@Sp04.router a0)),()))
theorem g61_eq (a0 : Int) : (evF (fun _ _ => Loop) E61 G61 Proofs.Try.f61 plan61 c61 ((),(a0,()))).den = g61 a0 := by kernel_rfl
end Go.Abs.C04

namespace Go.Abs.C04
open Go Go.Abs
set_option maxRecDepth 20000
set_option linter.unusedVariables false
noncomputable def g22_s0 (a0 : (List Int)) (a1 : ((@List Sp04.Lb) × (Int × Unit))) : (Option (Sum ((@List Sp04.Lb) × (Int × Unit)) ((@List Sp04.Lb) × (Int × (Int × Unit))))) :=
  (bif (decide ((IntKind.wrap .i64 ((Int.ofNat a0.length) - a1.2.1)) < 4)) then (some (.inr ([],(0,(20,()))))) else (bif ((decide (0 ≤ a1.2.1)) && (decide (a1.2.1 < (Int.ofNat a0.length)))) then (bif ((decide (0 ≤ (IntKind.wrap .i64 (a1.2.1 + 1)))) && (decide ((IntKind.wrap .i64 (a1.2.1 + 1)) < (Int.ofNat a0.length)))) then (bif ((decide (0 ≤ (IntKind.wrap .i64 (a1.2.1 + 2)))) && (decide ((IntKind.wrap .i64 (a1.2.1 + 2)) < (Int.ofNat a0.length)))) then (bif ((decide (0 ≤ (IntKind.wrap .i64 (a1.2.1 + 3)))) && (decide ((IntKind.wrap .i64 (a1.2.1 + 3)) < (Int.ofNat a0.length)))) then (bif (@Nat.ble ((a1.1.length + 1) * 24) 140737488355328) then (bif (decide ((IntKind.wrap .i64 (Int.ofNat (@BitVec.toNat 64 (@BitVec.and 64 (@BitVec.ofInt 64 (@Int.fdiv (IntKind.wrap .i64 (Int.ofNat (@BitVec.toNat 64 (@BitVec.or 64 (@BitVec.ofInt 64 (IntKind.wrap .i64 (Int.ofNat (@BitVec.toNat 64 (@BitVec.or 64 (@BitVec.ofInt 64 (IntKind.wrap .i64 (Int.ofNat (@BitVec.toNat 64 (@BitVec.or 64 (@BitVec.ofInt 64 (IntKind.wrap .i64 ((IntKind.wrap .i64 (List.getD a0 (Int.toNat a1.2.1) 0)) * 16777216))) (@BitVec.ofInt 64 (IntKind.wrap .i64 ((IntKind.wrap .i64 (List.getD a0 (Int.toNat (IntKind.wrap .i64 (a1.2.1 + 1))) 0)) * 65536)))))))) (@BitVec.ofInt 64 (IntKind.wrap .i64 ((IntKind.wrap .i64 (List.getD a0 (Int.toNat (IntKind.wrap .i64 (a1.2.1 + 2))) 0)) * 256)))))))) (@BitVec.ofInt 64 (IntKind.wrap .i64 (List.getD a0 (Int.toNat (IntKind.wrap .i64 (a1.2.1 + 3))) 0))))))) 256)) (@BitVec.ofInt 64 1))))) = 1)) then (some (.inr ((a1.1 ++ (((@Int.fdiv (IntKind.wrap .i64 (Int.ofNat (@BitVec.toNat 64 (@BitVec.or 64 (@BitVec.ofInt 64 (IntKind.wrap .i64 (Int.ofNat (@BitVec.toNat 64 (@BitVec.or 64 (@BitVec.ofInt 64 (IntKind.wrap .i64 (Int.ofNat (@BitVec.toNat 64 (@BitVec.or 64 (@BitVec.ofInt 64 (IntKind.wrap .i64 ((IntKind.wrap .i64 (List.getD a0 (Int.toNat a1.2.1) 0)) * 16777216))) (@BitVec.ofInt 64 (IntKind.wrap .i64 ((IntKind.wrap .i64 (List.getD a0 (Int.toNat (IntKind.wrap .i64 (a1.2.1 + 1))) 0)) * 65536)))))))) (@BitVec.ofInt 64 (IntKind.wrap .i64 ((IntKind.wrap .i64 (List.getD a0 (Int.toNat (IntKind.wrap .i64 (a1.2.1 + 2))) 0)) * 256)))))))) (@BitVec.ofInt 64 (IntKind.wrap .i64 (List.getD a0 (Int.toNat (IntKind.wrap .i64 (a1.2.1 + 3))) 0))))))) 4096),((IntKind.wrap .i64 (Int.ofNat (@BitVec.toNat 64 (@BitVec.and 64 (@BitVec.ofInt 64 (@Int.fdiv (IntKind.wrap .i64 (Int.ofNat (@BitVec.toNat 64 (@BitVec.or 64 (@BitVec.ofInt 64 (IntKind.wrap .i64 (Int.ofNat (@BitVec.toNat 64 (@BitVec.or 64 (@BitVec.ofInt 64 (IntKind.wrap .i64 (Int.ofNat (@BitVec.toNat 64 (@BitVec.or 64 (@BitVec.ofInt 64 (IntKind.wrap .i64 ((IntKind.wrap .i64 (List.getD a0 (Int.toNat a1.2.1) 0)) * 16777216))) (@BitVec.ofInt 64 (IntKind.wrap .i64 ((IntKind.wrap .i64 (List.getD a0 (Int.toNat (IntKind.wrap .i64 (a1.2.1 + 1))) 0)) * 65536)))))))) (@BitVec.ofInt 64 (IntKind.wrap .i64 ((IntKind.wrap .i64 (List.getD a0 (Int.toNat (IntKind.wrap .i64 (a1.2.1 + 2))) 0)) * 256)))))))) (@BitVec.ofInt 64 (IntKind.wrap .i64 (List.getD a0 (Int.toNat (IntKind.wrap .i64 (a1.2.1 + 3))) 0))))))) 512)) (@BitVec.ofInt 64 7))))),((IntKind.wrap .i64 (Int.ofNat (@BitVec.toNat 64 (@BitVec.and 64 (@BitVec.ofInt 64 (IntKind.wrap .i64 (Int.ofNat (@BitVec.toNat 64 (@BitVec.or 64 (@BitVec.ofInt 64 (IntKind.wrap .i64 (Int.ofNat (@BitVec.toNat 64 (@BitVec.or 64 (@BitVec.ofInt 64 (IntKind.wrap .i64 (Int.ofNat (@BitVec.toNat 64 (@BitVec.or 64 (@BitVec.ofInt 64 (IntKind.wrap .i64 ((IntKind.wrap .i64 (List.getD a0 (Int.toNat a1.2.1) 0)) * 16777216))) (@BitVec.ofInt 64 (IntKind.wrap .i64 ((IntKind.wrap .i64 (List.getD a0 (Int.toNat (IntKind.wrap .i64 (a1.2.1 + 1))) 0)) * 65536)))))))) (@BitVec.ofInt 64 (IntKind.wrap .i64 ((IntKind.wrap .i64 (List.getD a0 (Int.toNat (IntKind.wrap .i64 (a1.2.1 + 2))) 0)) * 256)))))))) (@BitVec.ofInt 64 (IntKind.wrap .i64 (List.getD a0 (Int.toNat (IntKind.wrap .i64 (a1.2.1 + 3))) 0)))))))) (@BitVec.ofInt 64 255))))),()))) :: [])),((IntKind.wrap .i64 (a1.2.1 + 4)),(0,()))))) else (bif (decide ((Int.ofNat (a1.1 ++ (((@Int.fdiv (IntKind.wrap .i64 (Int.ofNat (@BitVec.toNat 64 (@BitVec.or 64 (@BitVec.ofInt 64 (IntKind.wrap .i64 (Int.ofNat (@BitVec.toNat 64 (@BitVec.or 64 (@BitVec.ofInt 64 (IntKind.wrap .i64 (Int.ofNat (@BitVec.toNat 64 (@BitVec.or 64 (@BitVec.ofInt 64 (IntKind.wrap .i64 ((IntKind.wrap .i64 (List.getD a0 (Int.toNat a1.2.1) 0)) * 16777216))) (@BitVec.ofInt 64 (IntKind.wrap .i64 ((IntKind.wrap .i64 (List.getD a0 (Int.toNat (IntKind.wrap .i64 (a1.2.1 + 1))) 0)) * 65536)))))))) (@BitVec.ofInt 64 (IntKind.wrap .i64 ((IntKind.wrap .i64 (List.getD a0 (Int.toNat (IntKind.wrap .i64 (a1.2.1 + 2))) 0)) * 256)))))))) (@BitVec.ofInt 64 (IntKind.wrap .i64 (List.getD a0 (Int.toNat (IntKind.wrap .i64 (a1.2.1 + 3))) 0))))))) 4096),((IntKind.wrap .i64 (Int.ofNat (@BitVec.toNat 64 (@BitVec.and 64 (@BitVec.ofInt 64 (@Int.fdiv (IntKind.wrap .i64 (Int.ofNat (@BitVec.toNat 64 (@BitVec.or 64 (@BitVec.ofInt 64 (IntKind.wrap .i64 (Int.ofNat (@BitVec.toNat 64 (@BitVec.or 64 (@BitVec.ofInt 64 (IntKind.wrap .i64 (Int.ofNat (@BitVec.toNat 64 (@BitVec.or 64 (@BitVec.ofInt 64 (IntKind.wrap .i64 ((IntKind.wrap .i64 (List.getD a0 (Int.toNat a1.2.1) 0)) * 16777216))) (@BitVec.ofInt 64 (IntKind.wrap .i64 ((IntKind.wrap .i64 (List.getD a0 (Int.toNat (IntKind.wrap .i64 (a1.2.1 + 1))) 0)) * 65536)))))))) (@BitVec.ofInt 64 (IntKind.wrap .i64 ((IntKind.wrap .i64 (List.getD a0 (Int.toNat (IntKind.wrap .i64 (a1.2.1 + 2))) 0)) * 256)))))))) (@BitVec.ofInt 64 (IntKind.wrap .i64 (List.getD a0 (Int.toNat (IntKind.wrap .i64 (a1.2.1 + 3))) 0))))))) 512)) (@BitVec.ofInt 64 7))))),((IntKind.wrap .i64 (Int.ofNat (@BitVec.toNat 64 (@BitVec.and 64 (@BitVec.ofInt 64 (IntKind.wrap .i64 (Int.ofNat (@BitVec.toNat 64 (@BitVec.or 64 (@BitVec.ofInt 64 (IntKind.wrap .i64 (Int.ofNat (@BitVec.toNat 64 (@BitVec.or 64 (@BitVec.ofInt 64 (IntKind.wrap .i64 (Int.ofNat (@BitVec.toNat 64 (@BitVec.or 64 (@BitVec.ofInt 64 (IntKind.wrap .i64 ((IntKind.wrap .i64 (List.getD a0 (Int.toNat a1.2.1) 0)) * 16777216))) (@BitVec.ofInt 64 (IntKind.wrap .i64 ((IntKind.wrap .i64 (List.getD a0 (Int.toNat (IntKind.wrap .i64 (a1.2.1 + 1))) 0)) * 65536)))))))) (@BitVec.ofInt 64 (IntKind.wrap .i64 ((IntKind.wrap .i64 (List.getD a0 (Int.toNat (IntKind.wrap .i64 (a1.2.1 + 2))) 0)) * 256)))))))) (@BitVec.ofInt 64 (IntKind.wrap .i64 (List.getD a0 (Int.toNat (IntKind.wrap .i64 (a1.2.1 + 3))) 0)))))))) (@BitVec.ofInt 64 255))))),()))) :: [])).length) = 24)) then (some (.inr ([],(0,(3,()))))) else (some (.inl ((a1.1 ++ (((@Int.fdiv (IntKind.wrap .i64 (Int.ofNat (@BitVec.toNat 64 (@BitVec.or 64 (@BitVec.ofInt 64 (IntKind.wrap .i64 (Int.ofNat (@BitVec.toNat 64 (@BitVec.or 64 (@BitVec.ofInt 64 (IntKind.wrap .i64 (Int.ofNat (@BitVec.toNat 64 (@BitVec.or 64 (@BitVec.ofInt 64 (IntKind.wrap .i64 ((IntKind.wrap .i64 (List.getD a0 (Int.toNat a1.2.1) 0)) * 16777216))) (@BitVec.ofInt 64 (IntKind.wrap .i64 ((IntKind.wrap .i64 (List.getD a0 (Int.toNat (IntKind.wrap .i64 (a1.2.1 + 1))) 0)) * 65536)))))))) (@BitVec.ofInt 64 (IntKind.wrap .i64 ((IntKind.wrap .i64 (List.getD a0 (Int.toNat (IntKind.wrap .i64 (a1.2.1 + 2))) 0)) * 256)))))))) (@BitVec.ofInt 64 (IntKind.wrap .i64 (List.getD a0 (Int.toNat (IntKind.wrap .i64 (a1.2.1 + 3))) 0))))))) 4096),((IntKind.wrap .i64 (Int.ofNat (@BitVec.toNat 64 (@BitVec.and 64 (@BitVec.ofInt 64 (@Int.fdiv (IntKind.wrap .i64 (Int.ofNat (@BitVec.toNat 64 (@BitVec.or 64 (@BitVec.ofInt 64 (IntKind.wrap .i64 (Int.ofNat (@BitVec.toNat 64 (@BitVec.or 64 (@BitVec.ofInt 64 (IntKind.wrap .i64 (Int.ofNat (@BitVec.toNat 64 (@BitVec.or 64 (@BitVec.ofInt 64 (IntKind.wrap .i64 ((IntKind.wrap .i64 (List.getD a0 (Int.toNat a1.2.1) 0)) * 16777216))) (@BitVec.ofInt 64 (IntKind.wrap .i64 ((IntKind.wrap .i64 (List.getD a0 (Int.toNat (IntKind.wrap .i64 (a1.2.1 + 1))) 0)) * 65536)))))))) (@BitVec.ofInt 64 (IntKind.wrap .i64 ((IntKind.wrap .i64 (List.getD a0 (Int.toNat (IntKind.wrap .i64 (a1.2.1 + 2))) 0)) * 256)))))))) (@BitVec.ofInt 64 (IntKind.wrap .i64 (List.getD a0 (Int.toNat (IntKind.wrap .i64 (a1.2.1 + 3))) 0))))))) 512)) (@BitVec.ofInt 64 7))))),((IntKind.wrap .i64 (Int.ofNat (@BitVec.toNat 64 (@BitVec.and 64 (@BitVec.ofInt 64 (IntKind.wrap .i64 (Int.ofNat (@BitVec.toNat 64 (@BitVec.or 64 (@BitVec.ofInt 64 (IntKind.wrap .i64 (Int.ofNat (@BitVec.toNat 64 (@BitVec.or 64 (@BitVec.ofInt 64 (IntKind.wrap .i64 (Int.ofNat (@BitVec.toNat 64 (@BitVec.or 64 (@BitVec.ofInt 64 (IntKind.wrap .i64 ((IntKind.wrap .i64 (List.getD a0 (Int.toNat a1.2.1) 0)) * 16777216))) (@BitVec.ofInt 64 (IntKind.wrap .i64 ((IntKind.wrap .i64 (List.getD a0 (Int.toNat (IntKind.wrap .i64 (a1.2.1 + 1))) 0)) * 65536)))))))) (@BitVec.ofInt 64 (IntKind.wrap .i64 ((IntKind.wrap .i64 (List.getD a0 (Int.toNat (IntKind.wrap .i64 (a1.2.1 + 2))) 0)) * 256)))))))) (@BitVec.ofInt 64 (IntKind.wrap .i64 (List.getD a0 (Int.toNat (IntKind.wrap .i64 (a1.2.1 + 3))) 0)))))))) (@BitVec.ofInt 64 255))))),()))) :: [])),((IntKind.wrap .i64 (a1.2.1 + 4)),())))))) else none) else none) else none) else none) else none))
noncomputable def g22 (a0 : (List Int)) : (Option (((@List Sp04.Lb) × (Int × (Int × Unit))) × Unit)) :=
  (Option.bind (Loop (@g22_s0 a0) ([],(0,()))) (fun (y1 : ((@List Sp04.Lb) × (Int × (Int × Unit)))) => (some (y1,()))))
theorem g22_eq (a0 : (List Int)) : (evF (fun _ _ => Loop) E22 G22 Proofs.Try.f22 plan22 c22 ((),(a0,()))).den = g22 a0 := by kernel_rfl

noncomputable def g7_s0 (a0 : (Int × (Sp04.Tp × ((List Int) × Unit)))) : (Option (Sum (Int × (Sp04.Tp × ((List Int) × Unit))) ((List Int) × Unit))) :=
  (Option.bind (bif (decide (a0.1 > 0)) then (some (a0.2.2.1,((decide ((Int.ofNat a0.2.2.1.length) > 0)),()))) else (some (a0.2.2.1,(false,())))) (fun (y1 : ((List Int) × (Bool × Unit))) => (bif y1.2.1 then (Option.bind (@Sp04.on (Int × Sp04.Tp) (@Sp04.wf a0.2.1) (@Sp04.next a0.2.1 (bif (decide (24 < (Int.ofNat y1.1.length))) then 24 else (Int.ofNat y1.1.length)))) (fun (y2 : (Int × Sp04.Tp)) => (Option.bind (@Sp04.on (Int × Sp04.Tp) (@Sp04.wf y2.2) (@Sp04.next y2.2 4)) (fun (y3 : (Int × Sp04.Tp)) => (Option.bind (bif (decide (y3.1 = 0)) then (Option.bind (@Sp04.on (Int × Sp04.Tp) (@Sp04.wf y3.2) (@Sp04.next y3.2 256)) (fun (y4 : (Int × Sp04.Tp)) => (bif ((decide (0 ≤ y2.1)) && (decide (y2.1 < (Int.ofNat y1.1.length)))) then (bif (@Nat.blt (Int.toNat y2.1) y1.1.length) then (some (y4.2,((List.set y1.1 (Int.toNat y2.1) (IntKind.wrap .u8 y4.1)),()))) else none) else none))) else (Option.bind (bif (decide (y3.1 = 1)) then (bif ((decide (0 ≤ y2.1)) && (decide (y2.1 < (Int.ofNat y1.1.length)))) then (bif (@Nat.blt (Int.toNat y2.1) y1.1.length) then (bif ((decide (0 ≤ y2.1)) && (decide (y2.1 < (Int.ofNat y1.1.length)))) then (bif (@Nat.blt (Int.toNat y2.1) y1.1.length) then (some ((List.set y1.1 (Int.toNat y2.1) (IntKind.wrap .u8 (Int.ofNat (@BitVec.toNat 8 (@BitVec.xor 8 (@BitVec.ofInt 8 (List.getD y1.1 (Int.toNat y2.1) 0)) (@BitVec.ofInt 8 1)))))),())) else none) else none) else none) else none) else (Option.bind (bif (decide (y3.1 = 2)) then (bif ((decide (0 ≤ y2.1)) && (decide (y2.1 ≤ (Int.ofNat y1.1.length)))) then (some ((List.take (Int.toNat y2.1) y1.1),())) else none) else (bif (@Nat.ble ((y1.1.length + 1) * 1) 140737488355328) then (some ((y1.1 ++ ((0 : Int) :: [])),())) else none)) (fun (y4 : ((List Int) × Unit)) => (some y4)))) (fun (y4 : ((List Int) × Unit)) => (some (y3.2,y4))))) (fun (y4 : (Sp04.Tp × ((List Int) × Unit))) => (some (.inl ((IntKind.wrap .i64 (a0.1 - 1)),y4))))))))) else (some (.inr (y1.1,()))))))
noncomputable def g7_s1 (a0 : (List Int)) (a1 : (Int × ((@List (List Int)) × Unit))) : (Option (Sum (Int × ((@List (List Int)) × Unit)) (Bool × ((Bool × Unit) × Unit)))) :=
  (Option.bind (bif (decide (a1.1 < 2)) then (some ((decide ((Int.ofNat a0.length) ≤ 400)),())) else (some (false,()))) (fun (y2 : (Bool × Unit)) => (bif y2.1 then (bif ((decide (0 ≤ a1.1)) && (decide (a1.1 < (Int.ofNat a1.2.1.length)))) then (bif (@Nat.blt (Int.toNat a1.1) a1.2.1.length) then (bif ((decide (0 ≤ a1.1)) && (decide (a1.1 < (Int.ofNat a1.2.1.length)))) then (bif (@Nat.blt (Int.toNat a1.1) a1.2.1.length) then (Option.bind (bif (!(!(@Sp04.sameF (@Sp04.decF (List.getD a1.2.1 (Int.toNat a1.1) [])).1 (@Sp04.decF (List.getD a1.2.1 (Int.toNat a1.1) [])).1))) then (some ((!(decide ((@Sp04.decF (List.getD a1.2.1 (Int.toNat a1.1) [])).2.1 = (@Sp04.decF (List.getD a1.2.1 (Int.toNat a1.1) [])).2.1))),())) else (some (true,()))) (fun (y3 : (Bool × Unit)) => (bif y3.1 then (some (.inr (true,((false,()),())))) else (some (.inl ((IntKind.wrap .i64 (a1.1 + 1)),a1.2)))))) else none) else none) else none) else none) else (some (.inr (false,((false,()),())))))))
noncomputable def g7 (a0 : (List Int)) (a1 : (List Int)) : (Option (Bool × Unit)) :=
  (Option.bind (@Sp04.on (((List Int) × Sp04.Pk) × Sp04.Tp) ((@Sp04.wf (@Sp04.tape a0)) && (@Sp04.small 0)) (@Sp04.frm (@Sp04.tape a0) 0)) (fun (y2 : (((List Int) × Sp04.Pk) × Sp04.Tp)) => (Option.bind (@Sp04.on (Int × Sp04.Tp) (@Sp04.wf y2.2) (@Sp04.next y2.2 4)) (fun (y3 : (Int × Sp04.Tp)) => (Option.bind (Loop g7_s0 (y3.1,(y3.2,((@Sp04.encF y2.1).1,())))) (fun (y4 : ((List Int) × Unit)) => (Option.bind (Loop (@g7_s1 a1) (0,((y4.1 :: (a1 :: [])),()))) (fun (y5 : (Bool × ((Bool × Unit) × Unit))) => (bif y5.1 then (some y5.2.1) else (some (true,())))))))))))
theorem g7_eq (a0 : (List Int)) (a1 : (List Int)) : (evF (fun _ _ => Loop) E7 G7 Proofs.Try.f7 plan7 c7 ((),(a0,(a1,())))).den = g7 a0 a1 := by kernel_rfl

noncomputable def g54_s0 (a0 : (Int × (Sp04.Tp × ((List Int) × Unit)))) : (Option (Sum (Int × (Sp04.Tp × ((List Int) × Unit))) (Sp04.Tp × Unit))) :=
  (bif (decide (a0.1 < (Int.ofNat a0.2.2.1.length))) then (bif ((decide (0 ≤ a0.1)) && (decide (a0.1 < (Int.ofNat a0.2.2.1.length)))) then (bif ((decide (0 ≤ a0.1)) && (decide (a0.1 < (Int.ofNat Sp04.widths.length)))) then (some (.inl ((IntKind.wrap .i64 (a0.1 + 1)),((@Sp04.append a0.2.1 (IntKind.wrap .u64 (List.getD a0.2.2.1 (Int.toNat a0.1) 0)) (List.getD Sp04.widths (Int.toNat a0.1) 0)).1,a0.2.2)))) else none) else none) else (some (.inr (a0.2.1,()))))
noncomputable def g54_s1 (a0 : (List Int)) (a1 : (Sp04.Tp × (Int × Unit))) : (Option (Sum (Sp04.Tp × (Int × Unit)) (Sp04.Tp × Unit))) :=
  (bif (decide (a1.2.1 < (Int.ofNat a0.length))) then (bif ((decide (0 ≤ a1.2.1)) && (decide (a1.2.1 < (Int.ofNat a0.length)))) then (some (.inl ((@Sp04.append a1.1 (IntKind.wrap .u64 (List.getD a0 (Int.toNat a1.2.1) 0)) 8).1,((IntKind.wrap .i64 (a1.2.1 + 1)),())))) else none) else (some (.inr (a1.1,()))))
noncomputable def g54 (a0 : Int) (a1 : Int) (a2 : Int) (a3 : Int) (a4 : Int) (a5 : Int) (a6 : Int) (a7 : Int) (a8 : Int) (a9 : (List Int)) : (Option (Sp04.Tp × Unit)) :=
  (bif (!(@Sp04.validP (a0,(a1,(a2,(a3,(a4,(a5,(a6,(a7,(a8,(a9,())))))))))))) then (some (([],(1,())),())) else (Option.bind (@Sp04.on (Int × Unit) (@Sp04.vlen a3) ((@Sp04.code a3),())) (fun (y10 : (Int × Unit)) => (Option.bind (Loop g54_s0 (0,(([],(0,())),(((2 : Int) :: (a0 :: (a1 :: (a2 :: (y10.1 :: (a4 :: (a5 :: (a6 :: (a7 :: ((Int.ofNat a9.length) :: [])))))))))),())))) (fun (y11 : (Sp04.Tp × Unit)) => (Option.bind (Loop (@g54_s1 a9) ((@Sp04.append y11.1 a8 a3).1,(0,()))) (fun (y12 : (Sp04.Tp × Unit)) => (some (((@Sp04.align (@Sp04.append y12.1 (@Sp04.check y12.1).1 16).1).1.1,(0,())),())))))))))
theorem g54_eq (a0 : Int) (a1 : Int) (a2 : Int) (a3 : Int) (a4 : Int) (a5 : Int) (a6 : Int) (a7 : Int) (a8 : Int) (a9 : (List Int)) : (evF (fun _ _ => Loop) E54 G54 Proofs.Try.f54 plan54 c54 ((),((a0,(a1,(a2,(a3,(a4,(a5,(a6,(a7,(a8,(a9,())))))))))),()))).den = g54 a0 a1 a2 a3 a4 a5 a6 a7 a8 a9 := by kernel_rfl

noncomputable def g32 (a0 : (List Int)) (a1 : Int) (a2 : Int) (a3 : Int) (a4 : Int) (a5 : Int) (a6 : Int) (a7 : Int) (a8 : Int) (a9 : Int) (a10 : (List Int)) (a11 : (List Int)) : (Option ((((List Int) × Sp04.Pk) × (Int × Unit)) × Unit)) :=
  (Option.bind (@Sp04.on ((List Int) × Unit) ((decide ((a11 ++ (a0 ++ [])).length ≤ 1000000)) && (decide ((a11 :: (a0 :: [])).length ≤ 100))) ((a11 ++ (a0 ++ [])),())) (fun (y12 : ((List Int) × Unit)) => (bif (!(@Sp04.validF (a0,(a1,(a2,(a3,(a4,(a5,(a6,(a7,(a8,(a9,(a10,()))))))))))))) then (some ((([],(0,(0,(0,(0,(0,(0,(0,(0,(0,([],()))))))))))),(1,())),())) else (bif (@List.any Int a11 Sp04.stray) then (some ((([],(0,(0,(0,(0,(0,(0,(0,(0,(0,([],()))))))))))),(2,())),())) else (bif (decide ((Int.ofNat y12.1.length) > 24)) then (some ((([],(0,(0,(0,(0,(0,(0,(0,(0,(0,([],()))))))))))),(3,())),())) else (bif (@Sp04.twice y12.1) then (some ((([],(0,(0,(0,(0,(0,(0,(0,(0,(0,([],()))))))))))),(5,())),())) else (some (((y12.1,(a1,(a2,(a3,(a4,(a5,(a6,(a7,(a8,(a9,(a10,()))))))))))),(0,())),()))))))))
theorem g32_eq (a0 : (List Int)) (a1 : Int) (a2 : Int) (a3 : Int) (a4 : Int) (a5 : Int) (a6 : Int) (a7 : Int) (a8 : Int) (a9 : Int) (a10 : (List Int)) (a11 : (List Int)) : (evF (fun _ _ => Loop) E32 G32 Proofs.Try.f32 plan32 c32 ((),((a0,(a1,(a2,(a3,(a4,(a5,(a6,(a7,(a8,(a9,(a10,()))))))))))),(a11,())))).den = g32 a0 a1 a2 a3 a4 a5 a6 a7 a8 a9 a10 a11 := by kernel_rfl

noncomputable def g89_s0 (a0 : (List Int)) (a1 : Int) (a2 : (Int × (Sp04.Tp × Unit))) : (Option (Sum (Int × (Sp04.Tp × Unit)) (Sp04.Tp × Unit))) :=
  (bif (decide (a2.1 < a1)) then (Option.bind (@Sp04.on (Int × Unit) ((decide (0 ≤ a2.1)) && (decide (a2.1 < (8 * (Int.ofNat a0.length))))) ((@Sp04.b2i (@Sp04.bitAt a0 (Int.toNat a2.1))),())) (fun (y3 : (Int × Unit)) => (Option.bind (@Sp04.on (Sp04.Tp × Unit) (@Sp04.valid a2.2.1) ((@Sp04.enc ((@Sp04.bits a2.2.1) ++ ((decide (y3.1 = 1)) :: []))),())) (fun (y4 : (Sp04.Tp × Unit)) => (some (.inl ((IntKind.wrap .i64 (a2.1 + 1)),y4))))))) else (some (.inr a2.2)))
noncomputable def g89 (a0 : (List Int)) (a1 : Int) (a2 : Int) (a3 : Int) : (Option ((Sp04.Tp × (Int × Unit)) × Unit)) :=
  (bif (!(@Sp04.valid (a0,(a1,())))) then (some ((([],(0,())),(1,())),())) else (Option.bind (bif (!(decide (a2 < 0))) then (bif (!(decide (a2 > a3))) then (some ((decide (a3 > a1)),())) else (some (true,()))) else (some (true,()))) (fun (y4 : (Bool × Unit)) => (bif y4.1 then (some ((([],(0,())),(2,())),())) else (Option.bind (Loop (@g89_s0 a0 a3) (a2,(([],(0,())),()))) (fun (y5 : (Sp04.Tp × Unit)) => (some ((y5.1,(0,())),()))))))))
theorem g89_eq (a0 : (List Int)) (a1 : Int) (a2 : Int) (a3 : Int) : (evF (fun _ _ => Loop) E89 G89 Proofs.Try.f89 plan89 c89 ((),((a0,(a1,())),(a2,(a3,()))))).den = g89 a0 a1 a2 a3 := by kernel_rfl

noncomputable def g35 (a0 : (List Int)) (a1 : Int) (a2 : Int) (a3 : Int) (a4 : Int) (a5 : Int) (a6 : Int) (a7 : Int) (a8 : Int) (a9 : Int) (a10 : (List Int)) : (Option ((Int × (((List Int) × Sp04.Pk) × (Bool × Unit))) × Unit)) :=
  (Option.bind (bif (!(!(@Sp04.validF (a0,(a1,(a2,(a3,(a4,(a5,(a6,(a7,(a8,(a9,(a10,())))))))))))))) then (some ((decide ((Int.ofNat a0.length) = 0)),())) else (some (true,()))) (fun (y11 : (Bool × Unit)) => (bif y11.1 then (some ((0,(([],(0,(0,(0,(0,(0,(0,(0,(0,(0,([],()))))))))))),(false,()))),())) else (bif (true && (decide (0 < (Int.ofNat a0.length)))) then (bif ((true && (decide (1 ≤ (Int.ofNat a0.length)))) && (decide ((Int.ofNat a0.length) ≤ (Int.ofNat a0.length)))) then (some (((List.getD a0 0 0),(((List.drop 1 (List.take (Int.toNat (Int.ofNat a0.length)) a0)),(a1,(a2,(a3,(a4,(a5,(a6,(a7,(a8,(a9,(a10,()))))))))))),(true,()))),())) else none) else none))))
theorem g35_eq (a0 : (List Int)) (a1 : Int) (a2 : Int) (a3 : Int) (a4 : Int) (a5 : Int) (a6 : Int) (a7 : Int) (a8 : Int) (a9 : Int) (a10 : (List Int)) : (evF (fun _ _ => Loop) E35 G35 Proofs.Try.f35 plan35 c35 ((),((a0,(a1,(a2,(a3,(a4,(a5,(a6,(a7,(a8,(a9,(a10,()))))))))))),()))).den = g35 a0 a1 a2 a3 a4 a5 a6 a7 a8 a9 a10 := by kernel_rfl

noncomputable def g65_s0 (a0 : (Sp04.Tp × Sp04.Tp)) : (Option (Sum (Sp04.Tp × Sp04.Tp) (Sp04.Tp × ((List Int) × Unit)))) :=
  (bif (decide (a0.2.2.1 > 0)) then (Option.bind (@Sp04.on (Int × Sp04.Tp) (@Sp04.wf a0.1) (@Sp04.next a0.1 256)) (fun (y1 : (Int × Sp04.Tp)) => (bif (@Nat.ble ((a0.2.1.length + 1) * 1) 140737488355328) then (some (.inl (y1.2,((a0.2.1 ++ ((IntKind.wrap .u8 y1.1) :: [])),((IntKind.wrap .i64 (a0.2.2.1 - 1)),()))))) else none))) else (some (.inr (a0.1,(a0.2.1,())))))
noncomputable def g65 (a0 : (List Int)) (a1 : Int) (a2 : Int) : (Option ((List Int) × Sp04.Tp)) :=
  (Option.bind (@Sp04.on (Int × Sp04.Tp) (((@Sp04.wf (a0,(a1,()))) && (@Sp04.small 0)) && (@Sp04.small a2)) (@Sp04.range (a0,(a1,())) 0 a2)) (fun (y3 : (Int × Sp04.Tp)) => (Option.bind (Loop g65_s0 (y3.2,([],(y3.1,())))) (fun (y4 : (Sp04.Tp × ((List Int) × Unit))) => (some (y4.2.1,y4.1))))))
theorem g65_eq (a0 : (List Int)) (a1 : Int) (a2 : Int) : (evF (fun _ _ => Loop) E65 G65 Proofs.Try.f65 plan65 c65 ((a0,(a1,())),(a2,()))).den = g65 a0 a1 a2 := by kernel_rfl

noncomputable def g72v_s0 (a0 : (@List Sp04.Lb)) (a1 : (Int × Unit)) : (Option (Sum (Int × Unit) (Bool × ((Int × Unit) × Unit)))) :=
  (bif (decide (a1.1 < (Int.ofNat a0.length))) then (bif ((decide (0 ≤ a1.1)) && (decide (a1.1 < (Int.ofNat a0.length)))) then (Option.bind (@Sp04.on (Bool × Unit) (@Sp04.near (List.getD a0 (Int.toNat a1.1) (0,(0,(0,()))))) ((@Sp04.alien (List.getD a0 (Int.toNat a1.1) (0,(0,(0,()))))),())) (fun (y2 : (Bool × Unit)) => (bif y2.1 then (some (.inr (true,(a1,())))) else (some (.inl ((IntKind.wrap .i64 (a1.1 + 1)),())))))) else none) else (some (.inr (false,((0,()),())))))
noncomputable def g72v (a0 : (@List Sp04.Lb)) : (Option (Int × Unit)) :=
  (Option.bind (Loop (@g72v_s0 a0) (0,())) (fun (y1 : (Bool × ((Int × Unit) × Unit))) => (bif y1.1 then (some y1.2.1) else (some ((-1),())))))
theorem g72v_eq (a0 : (@List Sp04.Lb)) : (evF (fun _ _ => Loop) E72v G72v Proofs.Try.f72 plan72v c72v ((),(a0,((),())))).den = g72v a0 := by kernel_rfl

noncomputable def g36 (a0 : (List Int)) (a1 : Int) (a2 : Int) (a3 : Int) : (Option (Int × Sp04.Tp)) :=
  (Option.bind (bif (decide (a3 > 0)) then (Option.bind (@Sp04.on (Bool × Sp04.Tp) ((@Sp04.wf (a0,(a1,()))) && (@Sp04.small a3)) (@Sp04.one (a0,(a1,())) a3)) (fun (y4 : (Bool × Sp04.Tp)) => (some (y4.2,(y4.1,()))))) else (some ((a0,(a1,())),(false,())))) (fun (y4 : (Sp04.Tp × (Bool × Unit))) => (bif y4.2.1 then (Option.bind (@Sp04.on (Int × Sp04.Tp) (@Sp04.wf y4.1) (@Sp04.wild y4.1)) (fun (y5 : (Int × Sp04.Tp)) => (some y5))) else (some (a2,y4.1)))))
theorem g36_eq (a0 : (List Int)) (a1 : Int) (a2 : Int) (a3 : Int) : (evF (fun _ _ => Loop) E36 G36 Proofs.Try.f36 plan36 c36 ((a0,(a1,())),(a2,(a3,())))).den = g36 a0 a1 a2 a3 := by kernel_rfl

noncomputable def g73_s0 (a0 : Int) (a1 : (Int × Unit)) : (Option (Sum (Int × Unit) (Int × Unit))) :=
  (bif (decide (0 ≤ a1.1)) then (bif (decide ((IntKind.wrap .i64 (8 * (@Int.pow 2 (@Min.min Nat instMinNat (Int.toNat a1.1) 64)))) < a0)) then (some (.inl ((IntKind.wrap .i64 (a1.1 + 1)),()))) else (some (.inr a1))) else none)
noncomputable def g73 (a0 : Int) : (Option (Int × Unit)) :=
  (Option.bind (Loop (@g73_s0 a0) (0,())) (fun (y1 : (Int × Unit)) => (some y1)))
theorem g73_eq (a0 : Int) : (evF (fun _ _ => Loop) E73 G73 Proofs.Try.f73 plan73 c73 ((),(a0,()))).den = g73 a0 := by kernel_rfl

noncomputable def g18 (a0 : (List Int)) (a1 : Int) (a2 : Int) : (Option (Bool × Sp04.Tp)) :=
  (Option.bind (@Sp04.on (Int × Sp04.Tp) (@Sp04.wf (a0,(a1,()))) (@Sp04.next (a0,(a1,())) a2)) (fun (y3 : (Int × Sp04.Tp)) => (some ((decide (y3.1 = (IntKind.wrap .i64 (a2 - 1)))),y3.2))))
theorem g18_eq (a0 : (List Int)) (a1 : Int) (a2 : Int) : (evF (fun _ _ => Loop) E18 G18 Proofs.Try.f18 plan18 c18 ((a0,(a1,())),(a2,()))).den = g18 a0 a1 a2 := by kernel_rfl

noncomputable def g88 (a0 : Int) (a1 : Int) : (Option (Int × Unit)) :=
  (some ((IntKind.wrap .i64 (@Int.tdiv (IntKind.wrap .i64 ((IntKind.wrap .i64 ((IntKind.wrap .i64 ((IntKind.wrap .i64 (49 + a0)) + (IntKind.wrap .i64 (8 * a1)))) + 16)) + 7)) 8)),()))
theorem g88_eq (a0 : Int) (a1 : Int) : (evF (fun _ _ => Loop) E88 G88 Proofs.Try.f88 plan88 c88 ((),(a0,(a1,())))).den = g88 a0 a1 := by kernel_rfl

noncomputable def g39 (a0 : Int) (a1 : Int) (a2 : Int) : (Option (Bool × Unit)) :=
  (Option.bind (bif (decide (a0 ≥ a1)) then (some ((decide (a0 ≤ a2)),())) else (some (false,()))) (fun (y3 : (Bool × Unit)) => (some y3)))
theorem g39_eq (a0 : Int) (a1 : Int) (a2 : Int) : (evF (fun _ _ => Loop) E39 G39 Proofs.Try.f39 plan39 c39 ((),(a0,(a1,(a2,()))))).den = g39 a0 a1 a2 := by kernel_rfl

noncomputable def g50 (a0 : Int) (a1 : Int) (a2 : Int) : (Option (Bool × Unit)) :=
  (some ((!(@Sp04.validL (a0,(a1,(a2,()))))),()))
theorem g50_eq (a0 : Int) (a1 : Int) (a2 : Int) : (evF (fun _ _ => Loop) E50 G50 Proofs.Try.f50 plan50 c50 ((),((a0,(a1,(a2,()))),()))).den = g50 a0 a1 a2 := by kernel_rfl
end Go.Abs.C04

namespace Go.Abs.C04
open Go Go.Abs
set_option maxRecDepth 20000
set_option linter.unusedVariables false
noncomputable def g24_s0 (a0 : (List Int)) (a1 : (Int × ((@List Sp04.Lb) × Unit))) : (Option (Sum (Int × ((@List Sp04.Lb) × Unit)) ((@List Sp04.Lb) × (Int × (Int × Unit))))) :=
  (bif (decide ((IntKind.wrap .i64 ((Int.ofNat a0.length) - a1.1)) < 4)) then (some (.inr ([],(0,(20,()))))) else (bif ((decide (0 ≤ a1.1)) && (decide (a1.1 < (Int.ofNat a0.length)))) then (bif ((decide (0 ≤ (IntKind.wrap .i64 (a1.1 + 1)))) && (decide ((IntKind.wrap .i64 (a1.1 + 1)) < (Int.ofNat a0.length)))) then (bif ((decide (0 ≤ (IntKind.wrap .i64 (a1.1 + 2)))) && (decide ((IntKind.wrap .i64 (a1.1 + 2)) < (Int.ofNat a0.length)))) then (bif ((decide (0 ≤ (IntKind.wrap .i64 (a1.1 + 3)))) && (decide ((IntKind.wrap .i64 (a1.1 + 3)) < (Int.ofNat a0.length)))) then (bif (@Nat.ble ((a1.2.1.length + 1) * 24) 140737488355328) then (bif (decide ((@Int.tmod (IntKind.wrap .i64 (@Int.tdiv (IntKind.wrap .i64 (Int.ofNat (@BitVec.toNat 64 (@BitVec.or 64 (@BitVec.ofInt 64 (IntKind.wrap .i64 (Int.ofNat (@BitVec.toNat 64 (@BitVec.or 64 (@BitVec.ofInt 64 (IntKind.wrap .i64 (Int.ofNat (@BitVec.toNat 64 (@BitVec.or 64 (@BitVec.ofInt 64 (IntKind.wrap .i64 ((IntKind.wrap .i64 (List.getD a0 (Int.toNat a1.1) 0)) * 16777216))) (@BitVec.ofInt 64 (IntKind.wrap .i64 ((IntKind.wrap .i64 (List.getD a0 (Int.toNat (IntKind.wrap .i64 (a1.1 + 1))) 0)) * 65536)))))))) (@BitVec.ofInt 64 (IntKind.wrap .i64 ((IntKind.wrap .i64 (List.getD a0 (Int.toNat (IntKind.wrap .i64 (a1.1 + 2))) 0)) * 256)))))))) (@BitVec.ofInt 64 (IntKind.wrap .i64 (List.getD a0 (Int.toNat (IntKind.wrap .i64 (a1.1 + 3))) 0))))))) 256)) 2) = 1)) then (some (.inr ((a1.2.1 ++ (((IntKind.wrap .i64 (@Int.tdiv (IntKind.wrap .i64 (Int.ofNat (@BitVec.toNat 64 (@BitVec.or 64 (@BitVec.ofInt 64 (IntKind.wrap .i64 (Int.ofNat (@BitVec.toNat 64 (@BitVec.or 64 (@BitVec.ofInt 64 (IntKind.wrap .i64 (Int.ofNat (@BitVec.toNat 64 (@BitVec.or 64 (@BitVec.ofInt 64 (IntKind.wrap .i64 ((IntKind.wrap .i64 (List.getD a0 (Int.toNat a1.1) 0)) * 16777216))) (@BitVec.ofInt 64 (IntKind.wrap .i64 ((IntKind.wrap .i64 (List.getD a0 (Int.toNat (IntKind.wrap .i64 (a1.1 + 1))) 0)) * 65536)))))))) (@BitVec.ofInt 64 (IntKind.wrap .i64 ((IntKind.wrap .i64 (List.getD a0 (Int.toNat (IntKind.wrap .i64 (a1.1 + 2))) 0)) * 256)))))))) (@BitVec.ofInt 64 (IntKind.wrap .i64 (List.getD a0 (Int.toNat (IntKind.wrap .i64 (a1.1 + 3))) 0))))))) 4096)),((@Int.tmod (IntKind.wrap .i64 (@Int.tdiv (IntKind.wrap .i64 (Int.ofNat (@BitVec.toNat 64 (@BitVec.or 64 (@BitVec.ofInt 64 (IntKind.wrap .i64 (Int.ofNat (@BitVec.toNat 64 (@BitVec.or 64 (@BitVec.ofInt 64 (IntKind.wrap .i64 (Int.ofNat (@BitVec.toNat 64 (@BitVec.or 64 (@BitVec.ofInt 64 (IntKind.wrap .i64 ((IntKind.wrap .i64 (List.getD a0 (Int.toNat a1.1) 0)) * 16777216))) (@BitVec.ofInt 64 (IntKind.wrap .i64 ((IntKind.wrap .i64 (List.getD a0 (Int.toNat (IntKind.wrap .i64 (a1.1 + 1))) 0)) * 65536)))))))) (@BitVec.ofInt 64 (IntKind.wrap .i64 ((IntKind.wrap .i64 (List.getD a0 (Int.toNat (IntKind.wrap .i64 (a1.1 + 2))) 0)) * 256)))))))) (@BitVec.ofInt 64 (IntKind.wrap .i64 (List.getD a0 (Int.toNat (IntKind.wrap .i64 (a1.1 + 3))) 0))))))) 512)) 8),((@Int.tmod (IntKind.wrap .i64 (Int.ofNat (@BitVec.toNat 64 (@BitVec.or 64 (@BitVec.ofInt 64 (IntKind.wrap .i64 (Int.ofNat (@BitVec.toNat 64 (@BitVec.or 64 (@BitVec.ofInt 64 (IntKind.wrap .i64 (Int.ofNat (@BitVec.toNat 64 (@BitVec.or 64 (@BitVec.ofInt 64 (IntKind.wrap .i64 ((IntKind.wrap .i64 (List.getD a0 (Int.toNat a1.1) 0)) * 16777216))) (@BitVec.ofInt 64 (IntKind.wrap .i64 ((IntKind.wrap .i64 (List.getD a0 (Int.toNat (IntKind.wrap .i64 (a1.1 + 1))) 0)) * 65536)))))))) (@BitVec.ofInt 64 (IntKind.wrap .i64 ((IntKind.wrap .i64 (List.getD a0 (Int.toNat (IntKind.wrap .i64 (a1.1 + 2))) 0)) * 256)))))))) (@BitVec.ofInt 64 (IntKind.wrap .i64 (List.getD a0 (Int.toNat (IntKind.wrap .i64 (a1.1 + 3))) 0))))))) 256),()))) :: [])),((IntKind.wrap .i64 (a1.1 + 4)),(0,()))))) else (bif (decide ((Int.ofNat (a1.2.1 ++ (((IntKind.wrap .i64 (@Int.tdiv (IntKind.wrap .i64 (Int.ofNat (@BitVec.toNat 64 (@BitVec.or 64 (@BitVec.ofInt 64 (IntKind.wrap .i64 (Int.ofNat (@BitVec.toNat 64 (@BitVec.or 64 (@BitVec.ofInt 64 (IntKind.wrap .i64 (Int.ofNat (@BitVec.toNat 64 (@BitVec.or 64 (@BitVec.ofInt 64 (IntKind.wrap .i64 ((IntKind.wrap .i64 (List.getD a0 (Int.toNat a1.1) 0)) * 16777216))) (@BitVec.ofInt 64 (IntKind.wrap .i64 ((IntKind.wrap .i64 (List.getD a0 (Int.toNat (IntKind.wrap .i64 (a1.1 + 1))) 0)) * 65536)))))))) (@BitVec.ofInt 64 (IntKind.wrap .i64 ((IntKind.wrap .i64 (List.getD a0 (Int.toNat (IntKind.wrap .i64 (a1.1 + 2))) 0)) * 256)))))))) (@BitVec.ofInt 64 (IntKind.wrap .i64 (List.getD a0 (Int.toNat (IntKind.wrap .i64 (a1.1 + 3))) 0))))))) 4096)),((@Int.tmod (IntKind.wrap .i64 (@Int.tdiv (IntKind.wrap .i64 (Int.ofNat (@BitVec.toNat 64 (@BitVec.or 64 (@BitVec.ofInt 64 (IntKind.wrap .i64 (Int.ofNat (@BitVec.toNat 64 (@BitVec.or 64 (@BitVec.ofInt 64 (IntKind.wrap .i64 (Int.ofNat (@BitVec.toNat 64 (@BitVec.or 64 (@BitVec.ofInt 64 (IntKind.wrap .i64 ((IntKind.wrap .i64 (List.getD a0 (Int.toNat a1.1) 0)) * 16777216))) (@BitVec.ofInt 64 (IntKind.wrap .i64 ((IntKind.wrap .i64 (List.getD a0 (Int.toNat (IntKind.wrap .i64 (a1.1 + 1))) 0)) * 65536)))))))) (@BitVec.ofInt 64 (IntKind.wrap .i64 ((IntKind.wrap .i64 (List.getD a0 (Int.toNat (IntKind.wrap .i64 (a1.1 + 2))) 0)) * 256)))))))) (@BitVec.ofInt 64 (IntKind.wrap .i64 (List.getD a0 (Int.toNat (IntKind.wrap .i64 (a1.1 + 3))) 0))))))) 512)) 8),((@Int.tmod (IntKind.wrap .i64 (Int.ofNat (@BitVec.toNat 64 (@BitVec.or 64 (@BitVec.ofInt 64 (IntKind.wrap .i64 (Int.ofNat (@BitVec.toNat 64 (@BitVec.or 64 (@BitVec.ofInt 64 (IntKind.wrap .i64 (Int.ofNat (@BitVec.toNat 64 (@BitVec.or 64 (@BitVec.ofInt 64 (IntKind.wrap .i64 ((IntKind.wrap .i64 (List.getD a0 (Int.toNat a1.1) 0)) * 16777216))) (@BitVec.ofInt 64 (IntKind.wrap .i64 ((IntKind.wrap .i64 (List.getD a0 (Int.toNat (IntKind.wrap .i64 (a1.1 + 1))) 0)) * 65536)))))))) (@BitVec.ofInt 64 (IntKind.wrap .i64 ((IntKind.wrap .i64 (List.getD a0 (Int.toNat (IntKind.wrap .i64 (a1.1 + 2))) 0)) * 256)))))))) (@BitVec.ofInt 64 (IntKind.wrap .i64 (List.getD a0 (Int.toNat (IntKind.wrap .i64 (a1.1 + 3))) 0))))))) 256),()))) :: [])).length) = 24)) then (some (.inr ([],(0,(3,()))))) else (some (.inl ((IntKind.wrap .i64 (a1.1 + 4)),((a1.2.1 ++ (((IntKind.wrap .i64 (@Int.tdiv (IntKind.wrap .i64 (Int.ofNat (@BitVec.toNat 64 (@BitVec.or 64 (@BitVec.ofInt 64 (IntKind.wrap .i64 (Int.ofNat (@BitVec.toNat 64 (@BitVec.or 64 (@BitVec.ofInt 64 (IntKind.wrap .i64 (Int.ofNat (@BitVec.toNat 64 (@BitVec.or 64 (@BitVec.ofInt 64 (IntKind.wrap .i64 ((IntKind.wrap .i64 (List.getD a0 (Int.toNat a1.1) 0)) * 16777216))) (@BitVec.ofInt 64 (IntKind.wrap .i64 ((IntKind.wrap .i64 (List.getD a0 (Int.toNat (IntKind.wrap .i64 (a1.1 + 1))) 0)) * 65536)))))))) (@BitVec.ofInt 64 (IntKind.wrap .i64 ((IntKind.wrap .i64 (List.getD a0 (Int.toNat (IntKind.wrap .i64 (a1.1 + 2))) 0)) * 256)))))))) (@BitVec.ofInt 64 (IntKind.wrap .i64 (List.getD a0 (Int.toNat (IntKind.wrap .i64 (a1.1 + 3))) 0))))))) 4096)),((@Int.tmod (IntKind.wrap .i64 (@Int.tdiv (IntKind.wrap .i64 (Int.ofNat (@BitVec.toNat 64 (@BitVec.or 64 (@BitVec.ofInt 64 (IntKind.wrap .i64 (Int.ofNat (@BitVec.toNat 64 (@BitVec.or 64 (@BitVec.ofInt 64 (IntKind.wrap .i64 (Int.ofNat (@BitVec.toNat 64 (@BitVec.or 64 (@BitVec.ofInt 64 (IntKind.wrap .i64 ((IntKind.wrap .i64 (List.getD a0 (Int.toNat a1.1) 0)) * 16777216))) (@BitVec.ofInt 64 (IntKind.wrap .i64 ((IntKind.wrap .i64 (List.getD a0 (Int.toNat (IntKind.wrap .i64 (a1.1 + 1))) 0)) * 65536)))))))) (@BitVec.ofInt 64 (IntKind.wrap .i64 ((IntKind.wrap .i64 (List.getD a0 (Int.toNat (IntKind.wrap .i64 (a1.1 + 2))) 0)) * 256)))))))) (@BitVec.ofInt 64 (IntKind.wrap .i64 (List.getD a0 (Int.toNat (IntKind.wrap .i64 (a1.1 + 3))) 0))))))) 512)) 8),((@Int.tmod (IntKind.wrap .i64 (Int.ofNat (@BitVec.toNat 64 (@BitVec.or 64 (@BitVec.ofInt 64 (IntKind.wrap .i64 (Int.ofNat (@BitVec.toNat 64 (@BitVec.or 64 (@BitVec.ofInt 64 (IntKind.wrap .i64 (Int.ofNat (@BitVec.toNat 64 (@BitVec.or 64 (@BitVec.ofInt 64 (IntKind.wrap .i64 ((IntKind.wrap .i64 (List.getD a0 (Int.toNat a1.1) 0)) * 16777216))) (@BitVec.ofInt 64 (IntKind.wrap .i64 ((IntKind.wrap .i64 (List.getD a0 (Int.toNat (IntKind.wrap .i64 (a1.1 + 1))) 0)) * 65536)))))))) (@BitVec.ofInt 64 (IntKind.wrap .i64 ((IntKind.wrap .i64 (List.getD a0 (Int.toNat (IntKind.wrap .i64 (a1.1 + 2))) 0)) * 256)))))))) (@BitVec.ofInt 64 (IntKind.wrap .i64 (List.getD a0 (Int.toNat (IntKind.wrap .i64 (a1.1 + 3))) 0))))))) 256),()))) :: [])),())))))) else none) else none) else none) else none) else none))
noncomputable def g24 (a0 : (List Int)) : (Option (((@List Sp04.Lb) × (Int × (Int × Unit))) × Unit)) :=
  (Option.bind (Loop (@g24_s0 a0) (0,([],()))) (fun (y1 : ((@List Sp04.Lb) × (Int × (Int × Unit)))) => (some (y1,()))))
theorem g24_eq (a0 : (List Int)) : (evF (fun _ _ => Loop) E24 G24 Proofs.Try.f24 plan24 c24 ((),(a0,()))).den = g24 a0 := by kernel_rfl

noncomputable def g5_s0 (a0 : (Sp04.Tp × Sp04.Tp)) : (Option (Sum (Sp04.Tp × Sp04.Tp) (Sp04.Tp × ((List Int) × Unit)))) :=
  (bif (decide (a0.2.2.1 > 0)) then (Option.bind (@Sp04.on (Int × Sp04.Tp) (@Sp04.wf a0.1) (@Sp04.next a0.1 256)) (fun (y1 : (Int × Sp04.Tp)) => (Option.bind (@Sp04.on (Int × Sp04.Tp) (@Sp04.wf y1.2) (@Sp04.next y1.2 2)) (fun (y2 : (Int × Sp04.Tp)) => (bif (@Nat.ble ((a0.2.1.length + 1) * 1) 140737488355328) then (some (.inl (y2.2,((a0.2.1 ++ ((IntKind.wrap .u8 (Int.ofNat (@BitVec.toNat 8 (@BitVec.and 8 (@BitVec.ofInt 8 (IntKind.wrap .u8 y1.1)) (@BitVec.not 8 (@BitVec.ofInt 8 (IntKind.wrap .u8 y2.1))))))) :: [])),((IntKind.wrap .i64 (a0.2.2.1 - 1)),()))))) else none))))) else (some (.inr (a0.1,(a0.2.1,())))))
noncomputable def g5_s1 (a0 : (Int × ((List Int) × (Sp04.Tp × Unit)))) : (Option (Sum (Int × ((List Int) × (Sp04.Tp × Unit))) ((List Int) × Unit))) :=
  (Option.bind (bif (decide (a0.1 < (Int.ofNat a0.2.1.length))) then (Option.bind (@Sp04.on (Int × Sp04.Tp) (@Sp04.wf a0.2.2.1) (@Sp04.next a0.2.2.1 26)) (fun (y1 : (Int × Sp04.Tp)) => (some (y1.2,(a0.2.1,((decide (a0.1 < (IntKind.wrap .i64 (4 * y1.1)))),())))))) else (some (a0.2.2.1,(a0.2.1,(false,()))))) (fun (y1 : (Sp04.Tp × ((List Int) × (Bool × Unit)))) => (bif y1.2.2.1 then (bif ((decide (0 ≤ a0.1)) && (decide (a0.1 < (Int.ofNat y1.2.1.length)))) then (bif (@Nat.blt (Int.toNat a0.1) y1.2.1.length) then (bif ((decide (0 ≤ a0.1)) && (decide (a0.1 < (Int.ofNat y1.2.1.length)))) then (bif (@Nat.blt (Int.toNat a0.1) y1.2.1.length) then (some (.inl ((IntKind.wrap .i64 (a0.1 + 4)),((List.set y1.2.1 (Int.toNat a0.1) (IntKind.wrap .u8 (Int.ofNat (@BitVec.toNat 8 (@BitVec.and 8 (@BitVec.ofInt 8 (List.getD y1.2.1 (Int.toNat a0.1) 0)) (@BitVec.not 8 (@BitVec.ofInt 8 1))))))),(y1.1,()))))) else none) else none) else none) else none) else (some (.inr (y1.2.1,()))))))
noncomputable def g5_s2 (a0 : (List Int)) (a1 : (Int × ((@List (List Int)) × Unit))) : (Option (Sum (Int × ((@List (List Int)) × Unit)) (Bool × ((Bool × Unit) × Unit)))) :=
  (Option.bind (bif (decide (a1.1 < 2)) then (some ((decide ((Int.ofNat a0.length) ≤ 300)),())) else (some (false,()))) (fun (y2 : (Bool × Unit)) => (bif y2.1 then (bif ((decide (0 ≤ a1.1)) && (decide (a1.1 < (Int.ofNat a1.2.1.length)))) then (bif (@Nat.blt (Int.toNat a1.1) a1.2.1.length) then (bif ((decide (0 ≤ a1.1)) && (decide (a1.1 < (Int.ofNat a1.2.1.length)))) then (bif (@Nat.blt (Int.toNat a1.1) a1.2.1.length) then (Option.bind (bif (!(!(decide ((@Sp04.decL (List.getD a1.2.1 (Int.toNat a1.1) [])).1 = (@Sp04.decL (List.getD a1.2.1 (Int.toNat a1.1) [])).1)))) then (bif (!(!(decide ((@Sp04.decL (List.getD a1.2.1 (Int.toNat a1.1) [])).2.1 = (@Sp04.decL (List.getD a1.2.1 (Int.toNat a1.1) [])).2.1)))) then (some ((!(decide ((@Sp04.decL (List.getD a1.2.1 (Int.toNat a1.1) [])).2.2.1 = (@Sp04.decL (List.getD a1.2.1 (Int.toNat a1.1) [])).2.2.1))),())) else (some (true,()))) else (some (true,()))) (fun (y3 : (Bool × Unit)) => (bif y3.1 then (some (.inr (true,((false,()),())))) else (some (.inl ((IntKind.wrap .i64 (a1.1 + 1)),a1.2)))))) else none) else none) else none) else none) else (some (.inr (false,((false,()),())))))))
noncomputable def g5 (a0 : (List Int)) (a1 : (List Int)) : (Option (Bool × Unit)) :=
  (Option.bind (@Sp04.on (Int × Sp04.Tp) (((@Sp04.wf (@Sp04.tape a0)) && (decide (0 < 8))) && (decide (8 ≤ 1000))) (@Sp04.pick (@Sp04.tape a0) ((0 : Int) :: ((3 : Int) :: ((4 : Int) :: ((7 : Int) :: ((8 : Int) :: ((12 : Int) :: ((96 : Int) :: ((100 : Int) :: [])))))))))) (fun (y2 : (Int × Sp04.Tp)) => (Option.bind (Loop g5_s0 (y2.2,([],(y2.1,())))) (fun (y3 : (Sp04.Tp × ((List Int) × Unit))) => (Option.bind (@Sp04.on (Int × Sp04.Tp) (@Sp04.wf y3.1) (@Sp04.next y3.1 2)) (fun (y4 : (Int × Sp04.Tp)) => (Option.bind (bif (decide (y4.1 = 0)) then (Option.bind (Loop g5_s1 (2,(y3.2.1,(y4.2,())))) (fun (y5 : ((List Int) × Unit)) => (some y5))) else (some y3.2)) (fun (y5 : ((List Int) × Unit)) => (Option.bind (Loop (@g5_s2 a1) (0,((y5.1 :: (a1 :: [])),()))) (fun (y6 : (Bool × ((Bool × Unit) × Unit))) => (bif y6.1 then (some y6.2.1) else (some (true,())))))))))))))
theorem g5_eq (a0 : (List Int)) (a1 : (List Int)) : (evF (fun _ _ => Loop) E5 G5 Proofs.Try.f5 plan5 c5 ((),(a0,(a1,())))).den = g5 a0 a1 := by kernel_rfl

noncomputable def g97 (a0 : (List Int)) (a1 : Int) : (Option (Bool × Unit)) :=
  (Option.bind (bif (!(decide (a1 < 0))) then (bif (!(decide (a1 < 0))) then (bif (!(decide (a1 < 0))) then (bif (!(decide (a1 < 0))) then (bif (!(decide (a1 > 8192))) then (bif (!(decide (a1 > 8192))) then (bif (!(decide (a1 > 8192))) then (bif (!(decide (a1 > 8192))) then (bif (!(decide (a1 > 8192))) then (bif (!(decide (a1 > 8192))) then (Option.bind (@Sp04.on (Int × Unit) ((decide (0 ≤ a1)) && (decide (a1 ≤ 1099511627776))) ((@Int.ediv (a1 + 7) 8),())) (fun (y2 : (Int × Unit)) => (bif (!(decide (a1 > 8192))) then (bif (!(decide (a1 > 8192))) then (some ((!(decide ((Int.ofNat a0.length) = y2.1))),())) else none) else none))) else none) else none) else none) else none) else none) else (bif (decide (a1 > 8192)) then (bif (decide (a1 > 8192)) then (bif (decide (a1 > 8192)) then (bif (decide (a1 > 8192)) then (bif (decide (a1 > 8192)) then (bif (decide (a1 > 8192)) then (bif (decide (a1 > 8192)) then (some (true,())) else none) else none) else none) else none) else none) else none) else none)) else none) else none) else none) else (bif (decide (a1 < 0)) then (bif (decide (a1 < 0)) then (bif (decide (a1 < 0)) then (some (true,())) else none) else none) else none)) (fun (y2 : (Bool × Unit)) => (bif y2.1 then (some (false,())) else (Option.bind (bif (!(decide ((IntKind.wrap .i64 ((IntKind.wrap .i64 (8 * (Int.ofNat a0.length))) - a1)) = 0))) then (bif ((decide (0 ≤ (IntKind.wrap .i64 ((Int.ofNat a0.length) - 1)))) && (decide ((IntKind.wrap .i64 ((Int.ofNat a0.length) - 1)) < (Int.ofNat a0.length)))) then (bif (decide (0 ≤ (IntKind.wrap .i64 (8 - (IntKind.wrap .i64 ((IntKind.wrap .i64 (8 * (Int.ofNat a0.length))) - a1)))))) then (some ((decide ((IntKind.wrap .u8 ((List.getD a0 (Int.toNat (IntKind.wrap .i64 ((Int.ofNat a0.length) - 1))) 0) * (@Int.pow 2 (@Min.min Nat instMinNat (Int.toNat (IntKind.wrap .i64 (8 - (IntKind.wrap .i64 ((IntKind.wrap .i64 (8 * (Int.ofNat a0.length))) - a1))))) 8)))) = 0)),())) else none) else none) else (some (true,()))) (fun (y3 : (Bool × Unit)) => (some y3))))))
theorem g97_eq (a0 : (List Int)) (a1 : Int) : (evF (fun _ _ => Loop) E97 G97 Proofs.Try.f97 plan97 c97 ((),((a0,(a1,())),()))).den = g97 a0 a1 := by kernel_rfl

noncomputable def g38_s0 (a0 : Int) (a1 : (Sp04.Tp × Sp04.Tp)) : (Option (Sum (Sp04.Tp × Sp04.Tp) (Sp04.Tp × ((List Int) × Unit)))) :=
  (bif (decide (a1.2.2.1 < a0)) then (Option.bind (@Sp04.on (Int × Sp04.Tp) (@Sp04.wf a1.1) (@Sp04.next a1.1 (IntKind.wrap .i64 (a1.2.2.1 + 1)))) (fun (y2 : (Int × Sp04.Tp)) => (bif ((true && (decide (0 ≤ y2.1))) && (decide (y2.1 ≤ (Int.ofNat a1.2.1.length)))) then (bif (@Nat.ble ((0 + (List.drop 0 (List.take (Int.toNat y2.1) a1.2.1)).length) * 8) 140737488355328) then (bif (@Nat.ble ((([] ++ (List.drop 0 (List.take (Int.toNat y2.1) a1.2.1))).length + 1) * 8) 140737488355328) then (bif (((decide (0 ≤ y2.1)) && (decide (y2.1 ≤ (Int.ofNat a1.2.1.length)))) && (decide ((Int.ofNat a1.2.1.length) ≤ (Int.ofNat a1.2.1.length)))) then (bif (@Nat.ble (((([] ++ (List.drop 0 (List.take (Int.toNat y2.1) a1.2.1))) ++ (a1.2.2.1 :: [])).length + (List.drop (Int.toNat y2.1) (List.take (Int.toNat (Int.ofNat a1.2.1.length)) a1.2.1)).length) * 8) 140737488355328) then (some (.inl (y2.2,(((([] ++ (List.drop 0 (List.take (Int.toNat y2.1) a1.2.1))) ++ (a1.2.2.1 :: [])) ++ (List.drop (Int.toNat y2.1) (List.take (Int.toNat (Int.ofNat a1.2.1.length)) a1.2.1))),((IntKind.wrap .i64 (a1.2.2.1 + 1)),()))))) else none) else none) else none) else none) else none))) else (some (.inr (a1.1,(a1.2.1,())))))
noncomputable def g38 (a0 : (List Int)) (a1 : Int) (a2 : Int) : (Option ((List Int) × Sp04.Tp)) :=
  (Option.bind (Loop (@g38_s0 a2) ((a0,(a1,())),([],(0,())))) (fun (y3 : (Sp04.Tp × ((List Int) × Unit))) => (some (y3.2.1,y3.1))))
theorem g38_eq (a0 : (List Int)) (a1 : Int) (a2 : Int) : (evF (fun _ _ => Loop) E38 G38 Proofs.Try.f38 plan38 c38 ((a0,(a1,())),(a2,()))).den = g38 a0 a1 a2 := by kernel_rfl

noncomputable def g15_s0 (a0 : (List Int)) (a1 : (Int × Unit)) : (Option (Sum (Int × Unit) (Bool × ((Bool × Unit) × Unit)))) :=
  (bif (decide (a1.1 < (Int.ofNat a0.length))) then (Option.bind (bif ((decide (0 ≤ a1.1)) && (decide (a1.1 < (Int.ofNat a0.length)))) then (bif (!(decide ((List.getD a0 (Int.toNat a1.1) 0) < 1))) then (bif ((decide (0 ≤ a1.1)) && (decide (a1.1 < (Int.ofNat a0.length)))) then (some ((decide ((List.getD a0 (Int.toNat a1.1) 0) > 99)),())) else none) else (some (true,()))) else none) (fun (y2 : (Bool × Unit)) => (bif y2.1 then (some (.inr (true,((false,()),())))) else (some (.inl ((IntKind.wrap .i64 (a1.1 + 1)),())))))) else (some (.inr (false,((false,()),())))))
noncomputable def g15 (a0 : (List Int)) (a1 : Int) (a2 : Int) (a3 : Int) (a4 : Int) (a5 : Int) (a6 : Int) (a7 : Int) (a8 : Int) (a9 : Int) (a10 : (List Int)) : (Option (Bool × Unit)) :=
  (Option.bind (bif (!(decide ((Int.ofNat a0.length) > 24))) then (some ((@Sp04.twice a0),())) else (some (true,()))) (fun (y11 : (Bool × Unit)) => (bif y11.1 then (some (false,())) else (Option.bind (Loop (@g15_s0 a0) (0,())) (fun (y12 : (Bool × ((Bool × Unit) × Unit))) => (bif y12.1 then (some y12.2.1) else (some ((@Sp04.validP (a1,(a2,(a3,(a4,(a5,(a6,(a7,(a8,(a9,(a10,()))))))))))),()))))))))
theorem g15_eq (a0 : (List Int)) (a1 : Int) (a2 : Int) (a3 : Int) (a4 : Int) (a5 : Int) (a6 : Int) (a7 : Int) (a8 : Int) (a9 : Int) (a10 : (List Int)) : (evF (fun _ _ => Loop) E15 G15 Proofs.Try.f15 plan15 c15 ((),((a0,(a1,(a2,(a3,(a4,(a5,(a6,(a7,(a8,(a9,(a10,()))))))))))),()))).den = g15 a0 a1 a2 a3 a4 a5 a6 a7 a8 a9 a10 := by kernel_rfl

noncomputable def g34 (a0 : (List Int)) (a1 : Int) (a2 : Int) (a3 : Int) (a4 : Int) (a5 : Int) (a6 : Int) (a7 : Int) (a8 : Int) (a9 : Int) (a10 : (List Int)) : (Option ((Int × (((List Int) × Sp04.Pk) × (Bool × Unit))) × Unit)) :=
  (Option.bind (bif (!(!(@Sp04.validF (a0,(a1,(a2,(a3,(a4,(a5,(a6,(a7,(a8,(a9,(a10,())))))))))))))) then (some ((decide ((Int.ofNat a0.length) = 0)),())) else (some (true,()))) (fun (y11 : (Bool × Unit)) => (bif y11.1 then (some ((0,(([],(0,(0,(0,(0,(0,(0,(0,(0,(0,([],()))))))))))),(false,()))),())) else (bif (true && (decide (0 < (Int.ofNat a0.length)))) then (bif ((true && (decide (1 ≤ (Int.ofNat a0.length)))) && (decide ((Int.ofNat a0.length) ≤ (Int.ofNat a0.length)))) then (some (((List.getD a0 0 0),(((List.drop 1 (List.take (Int.toNat (Int.ofNat a0.length)) a0)),(a1,(a2,(a3,(a4,(a5,(a6,(a7,(a8,(a9,(a10,()))))))))))),(true,()))),())) else none) else none))))
theorem g34_eq (a0 : (List Int)) (a1 : Int) (a2 : Int) (a3 : Int) (a4 : Int) (a5 : Int) (a6 : Int) (a7 : Int) (a8 : Int) (a9 : Int) (a10 : (List Int)) : (evF (fun _ _ => Loop) E34 G34 Proofs.Try.f34 plan34 c34 ((),((a0,(a1,(a2,(a3,(a4,(a5,(a6,(a7,(a8,(a9,(a10,()))))))))))),()))).den = g34 a0 a1 a2 a3 a4 a5 a6 a7 a8 a9 a10 := by kernel_rfl

noncomputable def g101_s0 (a0 : (List Int)) (a1 : (Int × Unit)) : (Option (Sum (Int × Unit) (Bool × ((Bool × Unit) × Unit)))) :=
  (bif (decide (a1.1 < (IntKind.wrap .i64 (8 * (Int.ofNat a0.length))))) then (Option.bind (@Sp04.on (Int × Unit) ((decide (0 ≤ a1.1)) && (decide (a1.1 < (8 * (Int.ofNat a0.length))))) ((@Sp04.b2i (@Sp04.bitAt a0 (Int.toNat a1.1))),())) (fun (y2 : (Int × Unit)) => (bif (!(decide (y2.1 = 0))) then (some (.inr (true,((false,()),())))) else (some (.inl ((IntKind.wrap .i64 (a1.1 + 1)),())))))) else (some (.inr (false,((false,()),())))))
noncomputable def g101 (a0 : (List Int)) (a1 : Int) : (Option (Bool × Unit)) :=
  (Option.bind (bif (!(decide (a1 < 0))) then (bif (!(decide (a1 > 8192))) then (some ((!(decide ((Int.ofNat a0.length) = (IntKind.wrap .i64 (@Int.tdiv (IntKind.wrap .i64 (a1 + 7)) 8))))),())) else (some (true,()))) else (some (true,()))) (fun (y2 : (Bool × Unit)) => (bif y2.1 then (some (false,())) else (Option.bind (Loop (@g101_s0 a0) (a1,())) (fun (y3 : (Bool × ((Bool × Unit) × Unit))) => (bif y3.1 then (some y3.2.1) else (some (true,()))))))))
theorem g101_eq (a0 : (List Int)) (a1 : Int) : (evF (fun _ _ => Loop) E101 G101 Proofs.Try.f101 plan101 c101 ((),((a0,(a1,())),()))).den = g101 a0 a1 := by kernel_rfl

noncomputable def g57_s0 (a0 : (List Int)) (a1 : (List Int)) (a2 : (Int × Unit)) : (Option (Sum (Int × Unit) (Bool × ((Bool × Unit) × Unit)))) :=
  (bif (decide (a2.1 < (Int.ofNat a0.length))) then (bif ((decide (0 ≤ a2.1)) && (decide (a2.1 < (Int.ofNat a0.length)))) then (bif ((decide (0 ≤ a2.1)) && (decide (a2.1 < (Int.ofNat a1.length)))) then (bif (!(decide ((List.getD a0 (Int.toNat a2.1) 0) = (List.getD a1 (Int.toNat a2.1) 0)))) then (some (.inr (true,((false,()),())))) else (some (.inl ((IntKind.wrap .i64 (a2.1 + 1)),())))) else none) else none) else (some (.inr (false,((false,()),())))))
noncomputable def g57 (a0 : (List Int)) (a1 : (List Int)) : (Option (Bool × Unit)) :=
  (bif (!(decide ((Int.ofNat a0.length) = (Int.ofNat a1.length)))) then (some (false,())) else (Option.bind (Loop (@g57_s0 a0 a1) (0,())) (fun (y2 : (Bool × ((Bool × Unit) × Unit))) => (bif y2.1 then (some y2.2.1) else (some (true,()))))))
theorem g57_eq (a0 : (List Int)) (a1 : (List Int)) : (evF (fun _ _ => Loop) E57 G57 Proofs.Try.f57 plan57 c57 ((),(a0,(a1,())))).den = g57 a0 a1 := by kernel_rfl

noncomputable def g93_s0 (a0 : (List Int)) (a1 : Int) (a2 : (Int × Unit)) : (Option (Sum (Int × Unit) (Bool × ((Int × Unit) × Unit)))) :=
  (bif (decide (a2.1 < (Int.ofNat a0.length))) then (bif ((decide (0 ≤ a2.1)) && (decide (a2.1 < (Int.ofNat a0.length)))) then (bif (decide (a1 = (List.getD a0 (Int.toNat a2.1) 0))) then (some (.inr (true,(a2,())))) else (some (.inl ((IntKind.wrap .i64 (a2.1 + 1)),())))) else none) else (some (.inr (false,((0,()),())))))
noncomputable def g93 (a0 : (List Int)) (a1 : Int) : (Option (Int × Unit)) :=
  (Option.bind (Loop (@g93_s0 a0 a1) (0,())) (fun (y2 : (Bool × ((Int × Unit) × Unit))) => (bif y2.1 then (some y2.2.1) else (some ((-1),())))))
theorem g93_eq (a0 : (List Int)) (a1 : Int) : (evF (fun _ _ => Loop) E93 G93 Proofs.Try.f93 plan93 c93 ((),(a0,(a1,())))).den = g93 a0 a1 := by kernel_rfl

noncomputable def g13 (a0 : Int) (a1 : Int) (a2 : Int) : (Option (Bool × Unit)) :=
  (Option.bind (bif (decide (a0 ≥ 0)) then (bif (decide (a0 ≤ 1048575)) then (bif (decide (a1 ≥ 0)) then (bif (decide (a1 ≤ 7)) then (bif (decide (a2 ≥ 0)) then (some ((decide (a2 ≤ 255)),())) else (some (false,()))) else (some (false,()))) else (some (false,()))) else (some (false,()))) else (some (false,()))) (fun (y3 : (Bool × Unit)) => (some y3)))
theorem g13_eq (a0 : Int) (a1 : Int) (a2 : Int) : (evF (fun _ _ => Loop) E13 G13 Proofs.Try.f13 plan13 c13 ((),((a0,(a1,(a2,()))),()))).den = g13 a0 a1 a2 := by kernel_rfl

noncomputable def g47 (a0 : Int) (a1 : Int) : (Option (Int × Unit)) :=
  (bif (decide (a1 < 1)) then (some (0,())) else (bif (!(decide (a1 = 0))) then (Option.bind (bif (decide ((@Int.tmod a0 a1) < 0)) then (some ((IntKind.wrap .i64 ((@Int.tmod a0 a1) + a1)),())) else (some ((@Int.tmod a0 a1),()))) (fun (y2 : (Int × Unit)) => (some y2))) else none))
theorem g47_eq (a0 : Int) (a1 : Int) : (evF (fun _ _ => Loop) E47 G47 Proofs.Try.f47 plan47 c47 ((),(a0,(a1,())))).den = g47 a0 a1 := by kernel_rfl

noncomputable def g95 (a0 : Int) : (Option (Int × Unit)) :=
  (bif (!(@Sp04.vlen a0)) then (some (0,())) else (bif (decide (0 ≤ (IntKind.wrap .i64 (64 - a0)))) then (some ((@Int.fdiv 18446744073709551615 (@Int.pow 2 (@Min.min Nat instMinNat (Int.toNat (IntKind.wrap .i64 (64 - a0))) 64))),())) else none))
theorem g95_eq (a0 : Int) : (evF (fun _ _ => Loop) E95 G95 Proofs.Try.f95 plan95 c95 ((),(a0,()))).den = g95 a0 := by kernel_rfl

noncomputable def g84 (a0 : Int) (a1 : Int) : (Option (Int × Unit)) :=
  (some ((IntKind.wrap .i64 ((IntKind.wrap .i64 ((IntKind.wrap .i64 (49 + a0)) + (IntKind.wrap .i64 (8 * a1)))) + 16)),()))
theorem g84_eq (a0 : Int) (a1 : Int) : (evF (fun _ _ => Loop) E84 G84 Proofs.Try.f84 plan84 c84 ((),(a0,(a1,())))).den = g84 a0 a1 := by kernel_rfl

noncomputable def g49 (a0 : (@List Sp04.Lb)) : (Option (Bool × Unit)) :=
  (some ((decide ((@Sp04.idx Sp04.Lb Sp04.lost a0) ≥ 0)),()))
theorem g49_eq (a0 : (@List Sp04.Lb)) : (evF (fun _ _ => Loop) E49 G49 Proofs.Try.f49 plan49 c49 ((),(a0,((),())))).den = g49 a0 := by kernel_rfl
end Go.Abs.C04

namespace Go.Abs.C04
open Go Go.Abs
set_option maxRecDepth 20000
set_option linter.unusedVariables false
noncomputable def g29_s0 (a0 : (((List Int) × Sp04.Pk) × (Int × (((List Int) × Sp04.Pk) × ((@List Sp04.Lb) × Unit))))) : (Option (Sum (((List Int) × Sp04.Pk) × (Int × (((List Int) × Sp04.Pk) × ((@List Sp04.Lb) × Unit)))) (Bool × ((((List Int) × Sp04.Pk) × (Int × Unit)) × (((List Int) × Sp04.Pk) × (((List Int) × Sp04.Pk) × Unit)))))) :=
  (bif (decide (a0.2.1 < (Int.ofNat a0.2.2.2.1.length))) then (Option.bind (bif ((decide (0 ≤ a0.2.1)) && (decide (a0.2.1 < (Int.ofNat a0.2.2.2.1.length)))) then (bif (@Nat.blt (Int.toNat a0.2.1) a0.2.2.2.1.length) then (bif (!(decide ((List.getD a0.2.2.2.1 (Int.toNat a0.2.1) (0,(0,(0,())))).1 < 17))) then (bif ((decide (0 ≤ a0.2.1)) && (decide (a0.2.1 < (Int.ofNat a0.2.2.2.1.length)))) then (bif (@Nat.blt (Int.toNat a0.2.1) a0.2.2.2.1.length) then (bif (!(decide ((List.getD a0.2.2.2.1 (Int.toNat a0.2.1) (0,(0,(0,())))).1 > 115))) then (bif ((decide (0 ≤ a0.2.1)) && (decide (a0.2.1 < (Int.ofNat a0.2.2.2.1.length)))) then (bif (@Nat.blt (Int.toNat a0.2.1) a0.2.2.2.1.length) then (bif (!(!(decide ((List.getD a0.2.2.2.1 (Int.toNat a0.2.1) (0,(0,(0,())))).2.1 = 0)))) then (bif ((decide (0 ≤ a0.2.1)) && (decide (a0.2.1 < (Int.ofNat a0.2.2.2.1.length)))) then (bif (@Nat.blt (Int.toNat a0.2.1) a0.2.2.2.1.length) then (some (a0.2.2.2.1,((!(decide ((List.getD a0.2.2.2.1 (Int.toNat a0.2.1) (0,(0,(0,())))).2.2.1 = 255))),()))) else none) else none) else (some (a0.2.2.2.1,(true,())))) else none) else none) else (some (a0.2.2.2.1,(true,())))) else none) else none) else (some (a0.2.2.2.1,(true,())))) else none) else none) (fun (y1 : ((@List Sp04.Lb) × (Bool × Unit))) => (bif y1.2.1 then (some (.inr (true,((([],(0,(0,(0,(0,(0,(0,(0,(0,(0,([],()))))))))))),(2,())),(([],(0,(0,(0,(0,(0,(0,(0,(0,(0,([],()))))))))))),(([],(0,(0,(0,(0,(0,(0,(0,(0,(0,([],()))))))))))),())))))) else (bif ((decide (0 ≤ a0.2.1)) && (decide (a0.2.1 < (Int.ofNat y1.1.length)))) then (bif (@Nat.blt (Int.toNat a0.2.1) y1.1.length) then (bif (@Nat.ble ((a0.1.1.length + 1) * 8) 140737488355328) then (some (.inl (((a0.1.1 ++ ((IntKind.wrap .i64 ((List.getD y1.1 (Int.toNat a0.2.1) (0,(0,(0,())))).1 - 16)) :: [])),a0.1.2),((IntKind.wrap .i64 (a0.2.1 + 1)),(a0.2.2.1,(y1.1,())))))) else none) else none) else none)))) else (some (.inr (false,((([],(0,(0,(0,(0,(0,(0,(0,(0,(0,([],()))))))))))),(0,())),(a0.1,(a0.2.2.1,())))))))
noncomputable def g29 (a0 : (List Int)) : (Option ((((List Int) × Sp04.Pk) × (Int × Unit)) × Unit)) :=
  (bif (decide ((Int.ofNat a0.length) = 0)) then (some ((([],(0,(0,(0,(0,(0,(0,(0,(0,(0,([],()))))))))))),(20,())),())) else (bif (true && (decide (0 < (Int.ofNat a0.length)))) then (bif (decide ((List.getD a0 0 0) > 1)) then (some ((([],(0,(0,(0,(0,(0,(0,(0,(0,(0,([],()))))))))))),(22,())),())) else (bif ((true && (decide (1 ≤ (Int.ofNat a0.length)))) && (decide ((Int.ofNat a0.length) ≤ (Int.ofNat a0.length)))) then (bif (true && (decide (0 < (Int.ofNat a0.length)))) then (Option.bind (bif (decide ((List.getD a0 0 0) = 1)) then (bif (!(decide ((@Sp04.decL (List.drop 1 (List.take (Int.toNat (Int.ofNat a0.length)) a0))).2.2.1 = 0))) then (some (true,(((@Sp04.decL (List.drop 1 (List.take (Int.toNat (Int.ofNat a0.length)) a0))).2.2.1,(([],(0,(0,(0,(0,(0,(0,(0,(0,(0,([],()))))))))))),())),((),([],(([],(0,(0,(0,(0,(0,(0,(0,(0,(0,([],()))))))))))),(([],(0,(0,(0,(0,(0,(0,(0,(0,(0,([],()))))))))))),()))))))) else (bif (((decide (0 ≤ (@Sp04.decL (List.drop 1 (List.take (Int.toNat (Int.ofNat a0.length)) a0))).2.1)) && (decide ((@Sp04.decL (List.drop 1 (List.take (Int.toNat (Int.ofNat a0.length)) a0))).2.1 ≤ (Int.ofNat (List.drop 1 (List.take (Int.toNat (Int.ofNat a0.length)) a0)).length)))) && (decide ((Int.ofNat (List.drop 1 (List.take (Int.toNat (Int.ofNat a0.length)) a0)).length) ≤ (Int.ofNat (List.drop 1 (List.take (Int.toNat (Int.ofNat a0.length)) a0)).length)))) then (Option.bind (Loop g29_s0 (([],(0,(0,(0,(0,(0,(0,(0,(0,(0,([],()))))))))))),(0,(([],(0,(0,(0,(0,(0,(0,(0,(0,(0,([],()))))))))))),((@Sp04.decL (List.drop 1 (List.take (Int.toNat (Int.ofNat a0.length)) a0))).1,()))))) (fun (y1 : (Bool × ((((List Int) × Sp04.Pk) × (Int × Unit)) × (((List Int) × Sp04.Pk) × (((List Int) × Sp04.Pk) × Unit))))) => (bif y1.1 then (some (true,((y1.2.1.2.1,(y1.2.1.1,())),((),([],(([],(0,(0,(0,(0,(0,(0,(0,(0,(0,([],()))))))))))),(([],(0,(0,(0,(0,(0,(0,(0,(0,(0,([],()))))))))))),()))))))) else (bif (@Sp04.twice y1.2.2.1.1) then (some (true,((5,(([],(0,(0,(0,(0,(0,(0,(0,(0,(0,([],()))))))))))),())),((),([],(([],(0,(0,(0,(0,(0,(0,(0,(0,(0,([],()))))))))))),(([],(0,(0,(0,(0,(0,(0,(0,(0,(0,([],()))))))))))),()))))))) else (some (false,((0,(([],(0,(0,(0,(0,(0,(0,(0,(0,(0,([],()))))))))))),())),((),((List.drop (Int.toNat (@Sp04.decL (List.drop 1 (List.take (Int.toNat (Int.ofNat a0.length)) a0))).2.1) (List.take (Int.toNat (Int.ofNat (List.drop 1 (List.take (Int.toNat (Int.ofNat a0.length)) a0)).length)) (List.drop 1 (List.take (Int.toNat (Int.ofNat a0.length)) a0)))),(y1.2.2.2.1,(y1.2.2.1,()))))))))))) else none)) else (some (false,((0,(([],(0,(0,(0,(0,(0,(0,(0,(0,(0,([],()))))))))))),())),((),((List.drop 1 (List.take (Int.toNat (Int.ofNat a0.length)) a0)),(([],(0,(0,(0,(0,(0,(0,(0,(0,(0,([],()))))))))))),(([],(0,(0,(0,(0,(0,(0,(0,(0,(0,([],()))))))))))),())))))))) (fun (y1 : (Bool × ((Int × (((List Int) × Sp04.Pk) × Unit)) × (Unit × ((List Int) × (((List Int) × Sp04.Pk) × (((List Int) × Sp04.Pk) × Unit))))))) => (bif y1.1 then (some ((y1.2.1.2.1,(y1.2.1.1,())),())) else (bif (!(decide ((@Sp04.decode y1.2.2.2.1).2.1 = 0))) then (some ((([],(0,(0,(0,(0,(0,(0,(0,(0,(0,([],()))))))))))),(@Sp04.decode y1.2.2.2.1).2),())) else (some (((y1.2.2.2.2.2.1.1,(@Sp04.decode y1.2.2.2.1).1),(0,())),())))))) else none) else none)) else none))
theorem g29_eq (a0 : (List Int)) : (evF (fun _ _ => Loop) E29 G29 Proofs.Try.f29 plan29 c29 ((),(a0,()))).den = g29 a0 := by kernel_rfl

noncomputable def g11_s0 (a0 : ((List Int) × Sp04.Tp)) (a1 : (Int × (((List Int) × Sp04.Pk) × Unit))) : (Option (Sum (Int × (((List Int) × Sp04.Pk) × Unit)) (((List Int) × Sp04.Pk) × Unit))) :=
  (bif (decide (a1.1 > 0)) then (bif ((decide (0 ≤ a1.1)) && (decide (a1.1 < (Int.ofNat a0.1.length)))) then (bif (@Nat.ble ((a1.2.1.1.length + 1) * 8) 140737488355328) then (some (.inl ((IntKind.wrap .i64 (a1.1 - 1)),(((a1.2.1.1 ++ ((IntKind.wrap .i64 (1 + (List.getD a0.1 (Int.toNat a1.1) 0))) :: [])),a1.2.1.2),())))) else none) else none) else (some (.inr a1.2)))
noncomputable def g11_s1 (a0 : (((List Int) × Sp04.Pk) × (Int × Unit))) : (Option (Sum (((List Int) × Sp04.Pk) × (Int × Unit)) (((List Int) × Sp04.Pk) × Unit))) :=
  (bif (decide (a0.2.1 < 25)) then (bif (@Nat.ble ((a0.1.1.length + 1) * 8) 140737488355328) then (some (.inl (((a0.1.1 ++ ((IntKind.wrap .i64 (50 + a0.2.1)) :: [])),a0.1.2),((IntKind.wrap .i64 (a0.2.1 + 1)),())))) else none) else (some (.inr (a0.1,()))))
noncomputable def g11 (a0 : (List Int)) (a1 : Int) (a2 : Int) : (Option (((List Int) × Sp04.Pk) × Sp04.Tp)) :=
  (Option.bind (@Sp04.on (Sp04.Pk × Sp04.Tp) ((@Sp04.wf (a0,(a1,()))) && (@Sp04.small 0)) (@Sp04.packet (a0,(a1,())) 0)) (fun (y3 : (Sp04.Pk × Sp04.Tp)) => (Option.bind (@Sp04.on ((List Int) × Sp04.Tp) (((@Sp04.wf y3.2) && (decide ((0 : Int) ≤ 5))) && (decide ((5 : Int) ≤ 1000))) (@Sp04.order y3.2 5)) (fun (y4 : ((List Int) × Sp04.Tp)) => (Option.bind (@Sp04.on (Int × Sp04.Tp) (@Sp04.wf y4.2) (@Sp04.next y4.2 5)) (fun (y5 : (Int × Sp04.Tp)) => (Option.bind (Loop (@g11_s0 y4) (y5.1,(([],y3.1),()))) (fun (y6 : (((List Int) × Sp04.Pk) × Unit)) => (Option.bind (bif (decide (a2 > 0)) then (Option.bind (@Sp04.on (Bool × Sp04.Tp) ((@Sp04.wf y5.2) && (@Sp04.small a2)) (@Sp04.one y5.2 a2)) (fun (y7 : (Bool × Sp04.Tp)) => (some (y7.2,(y7.1,()))))) else (some (y5.2,(false,())))) (fun (y7 : (Sp04.Tp × (Bool × Unit))) => (Option.bind (bif y7.2.1 then (Option.bind (@Sp04.on (Int × Sp04.Tp) (@Sp04.wf y7.1) (@Sp04.next y7.1 3)) (fun (y8 : (Int × Sp04.Tp)) => (Option.bind (bif (decide (y8.1 = 0)) then (Option.bind (@Sp04.on (Sp04.Pk × Sp04.Tp) ((@Sp04.wf y8.2) && (@Sp04.small 1)) (@Sp04.packet y8.2 1)) (fun (y9 : (Sp04.Pk × Sp04.Tp)) => (some ((y6.1.1,y9.1),(y9.2,()))))) else (Option.bind (bif (decide (y8.1 = 1)) then (Option.bind (@Sp04.on (Int × Sp04.Tp) (((@Sp04.wf y8.2) && (decide (0 < 5))) && (decide (5 ≤ 1000))) (@Sp04.pick y8.2 ((0 : Int) :: ((1 : Int) :: ((2 : Int) :: ((99 : Int) :: ((100 : Int) :: []))))))) (fun (y9 : (Int × Sp04.Tp)) => (bif (@Nat.ble ((y6.1.1.length + 1) * 8) 140737488355328) then (some (y9.2,(((y6.1.1 ++ (y9.1 :: [])),y6.1.2),()))) else none))) else (Option.bind (Loop g11_s1 (y6.1,(0,()))) (fun (y9 : (((List Int) × Sp04.Pk) × Unit)) => (some (y8.2,y9))))) (fun (y9 : (Sp04.Tp × (((List Int) × Sp04.Pk) × Unit))) => (some (y9.2.1,(y9.1,())))))) (fun (y9 : (((List Int) × Sp04.Pk) × (Sp04.Tp × Unit))) => (some y9))))) else (some (y6.1,(y7.1,())))) (fun (y8 : (((List Int) × Sp04.Pk) × (Sp04.Tp × Unit))) => (some (y8.1,y8.2.1))))))))))))))
theorem g11_eq (a0 : (List Int)) (a1 : Int) (a2 : Int) : (evF (fun _ _ => Loop) E11 G11 Proofs.Try.f11 plan11 c11 ((a0,(a1,())),(a2,()))).den = g11 a0 a1 a2 := by kernel_rfl

noncomputable def g99_s0 (a0 : Int) (a1 : (Sp04.Tp × (Int × Unit))) : (Option (Sum (Sp04.Tp × (Int × Unit)) (Sp04.Tp × Unit))) :=
  (bif (decide (a1.2.1 > 0)) then (Option.bind (bif (decide ((IntKind.wrap .i64 ((IntKind.wrap .i64 (8 * (Int.ofNat a1.1.1.length))) - a1.1.2.1)) = 0)) then (bif (@Nat.ble ((a1.1.1.length + 1) * 1) 140737488355328) then (some (((a1.1.1 ++ ((0 : Int) :: [])),a1.1.2),(8,()))) else none) else (some (a1.1,((IntKind.wrap .i64 ((IntKind.wrap .i64 (8 * (Int.ofNat a1.1.1.length))) - a1.1.2.1)),())))) (fun (y2 : (Sp04.Tp × (Int × Unit))) => (bif (decide (0 ≤ (IntKind.wrap .i64 (a1.2.1 - (bif (decide (y2.2.1 < a1.2.1)) then y2.2.1 else a1.2.1))))) then (bif (decide (0 ≤ (bif (decide (y2.2.1 < a1.2.1)) then y2.2.1 else a1.2.1))) then (bif ((decide (0 ≤ (IntKind.wrap .i64 ((Int.ofNat y2.1.1.length) - 1)))) && (decide ((IntKind.wrap .i64 ((Int.ofNat y2.1.1.length) - 1)) < (Int.ofNat y2.1.1.length)))) then (bif (@Nat.blt (Int.toNat (IntKind.wrap .i64 ((Int.ofNat y2.1.1.length) - 1))) y2.1.1.length) then (bif (decide (0 ≤ (IntKind.wrap .i64 (y2.2.1 - (bif (decide (y2.2.1 < a1.2.1)) then y2.2.1 else a1.2.1))))) then (bif ((decide (0 ≤ (IntKind.wrap .i64 ((Int.ofNat y2.1.1.length) - 1)))) && (decide ((IntKind.wrap .i64 ((Int.ofNat y2.1.1.length) - 1)) < (Int.ofNat y2.1.1.length)))) then (bif (@Nat.blt (Int.toNat (IntKind.wrap .i64 ((Int.ofNat y2.1.1.length) - 1))) y2.1.1.length) then (some (.inl (((List.set y2.1.1 (Int.toNat (IntKind.wrap .i64 ((Int.ofNat y2.1.1.length) - 1))) (IntKind.wrap .u8 (Int.ofNat (@BitVec.toNat 8 (@BitVec.or 8 (@BitVec.ofInt 8 (List.getD y2.1.1 (Int.toNat (IntKind.wrap .i64 ((Int.ofNat y2.1.1.length) - 1))) 0)) (@BitVec.ofInt 8 (IntKind.wrap .u8 (IntKind.wrap .u64 ((IntKind.wrap .u64 (Int.ofNat (@BitVec.toNat 64 (@BitVec.and 64 (@BitVec.ofInt 64 (@Int.fdiv a0 (@Int.pow 2 (@Min.min Nat instMinNat (Int.toNat (IntKind.wrap .i64 (a1.2.1 - (bif (decide (y2.2.1 < a1.2.1)) then y2.2.1 else a1.2.1)))) 64)))) (@BitVec.ofInt 64 (IntKind.wrap .u64 ((IntKind.wrap .u64 (1 * (@Int.pow 2 (@Min.min Nat instMinNat (Int.toNat (bif (decide (y2.2.1 < a1.2.1)) then y2.2.1 else a1.2.1)) 64)))) - 1))))))) * (@Int.pow 2 (@Min.min Nat instMinNat (Int.toNat (IntKind.wrap .i64 (y2.2.1 - (bif (decide (y2.2.1 < a1.2.1)) then y2.2.1 else a1.2.1)))) 64))))))))))),((IntKind.wrap .i64 (y2.1.2.1 + (bif (decide (y2.2.1 < a1.2.1)) then y2.2.1 else a1.2.1))),())),((IntKind.wrap .i64 (a1.2.1 - (bif (decide (y2.2.1 < a1.2.1)) then y2.2.1 else a1.2.1))),())))) else none) else none) else none) else none) else none) else none) else none))) else (some (.inr (a1.1,()))))
noncomputable def g99 (a0 : (List Int)) (a1 : Int) (a2 : Int) (a3 : Int) : (Option (Unit × Sp04.Tp)) :=
  (Option.bind (Loop (@g99_s0 a2) ((a0,(a1,())),(a3,()))) (fun (y4 : (Sp04.Tp × Unit)) => (some ((),y4.1))))
theorem g99_eq (a0 : (List Int)) (a1 : Int) (a2 : Int) (a3 : Int) : (evF (fun _ _ => Loop) E99 G99 Proofs.Try.f99 plan99 c99 ((a0,(a1,())),(a2,(a3,())))).den = g99 a0 a1 a2 a3 := by kernel_rfl

noncomputable def g80_s0 (a0 : Int) (a1 : (Sp04.Tp × (Int × Unit))) : (Option (Sum (Sp04.Tp × (Int × Unit)) (Sp04.Tp × Unit))) :=
  (bif (decide (a1.2.1 ≥ 0)) then (bif (decide (0 ≤ (IntKind.wrap .u64 a1.2.1))) then (Option.bind (@Sp04.on (Sp04.Tp × Unit) (@Sp04.valid a1.1) ((@Sp04.enc ((@Sp04.bits a1.1) ++ ((decide ((IntKind.wrap .u64 (Int.ofNat (@BitVec.toNat 64 (@BitVec.and 64 (@BitVec.ofInt 64 (@Int.fdiv a0 (@Int.pow 2 (@Min.min Nat instMinNat (Int.toNat (IntKind.wrap .u64 a1.2.1)) 64)))) (@BitVec.ofInt 64 1))))) = 1)) :: []))),())) (fun (y2 : (Sp04.Tp × Unit)) => (some (.inl (y2.1,((IntKind.wrap .i64 (a1.2.1 - 1)),())))))) else none) else (some (.inr (a1.1,()))))
noncomputable def g80 (a0 : (List Int)) (a1 : Int) (a2 : Int) (a3 : Int) : (Option ((Sp04.Tp × (Int × Unit)) × Unit)) :=
  (bif (!(@Sp04.valid (a0,(a1,())))) then (some ((([],(0,())),(1,())),())) else (Option.bind (bif (!(decide (a3 < 0))) then (bif (!(decide (a3 > 64))) then (bif (decide (a3 < 64)) then (bif (decide (0 ≤ (IntKind.wrap .u64 a3))) then (some ((!(decide ((@Int.fdiv a2 (@Int.pow 2 (@Min.min Nat instMinNat (Int.toNat (IntKind.wrap .u64 a3)) 64))) = 0))),())) else none) else (some (false,()))) else (some (true,()))) else (some (true,()))) (fun (y4 : (Bool × Unit)) => (bif y4.1 then (some ((([],(0,())),(2,())),())) else (bif (decide ((IntKind.wrap .i64 (a1 + a3)) > 8192)) then (some ((([],(0,())),(3,())),())) else (Option.bind (Loop (@g80_s0 a2) ((a0,(a1,())),((IntKind.wrap .i64 (a3 - 1)),()))) (fun (y5 : (Sp04.Tp × Unit)) => (some ((y5.1,(0,())),())))))))))
theorem g80_eq (a0 : (List Int)) (a1 : Int) (a2 : Int) (a3 : Int) : (evF (fun _ _ => Loop) E80 G80 Proofs.Try.f80 plan80 c80 ((),((a0,(a1,())),(a2,(a3,()))))).den = g80 a0 a1 a2 a3 := by kernel_rfl

noncomputable def g60_s0 (a0 : (@List (List Int))) (a1 : (Int × (Int × Unit))) : (Option (Sum (Int × (Int × Unit)) (Int × Unit))) :=
  (bif (decide (a1.2.1 < (Int.ofNat a0.length))) then (bif ((decide (0 ≤ a1.2.1)) && (decide (a1.2.1 < (Int.ofNat a0.length)))) then (Option.bind (bif (decide ((IntKind.wrap .i64 (a1.1 + (Int.ofNat (List.getD a0 (Int.toNat a1.2.1) []).length))) < 0)) then none else (some ())) (fun (y2 : Unit) => (some (.inl ((IntKind.wrap .i64 (a1.1 + (Int.ofNat (List.getD a0 (Int.toNat a1.2.1) []).length))),((IntKind.wrap .i64 (a1.2.1 + 1)),())))))) else none) else (some (.inr (a1.1,()))))
noncomputable def g60_s1 (a0 : (@List (List Int))) (a1 : (Int × ((List Int) × Unit))) : (Option (Sum (Int × ((List Int) × Unit)) ((List Int) × Unit))) :=
  (bif (decide (a1.1 < (Int.ofNat a0.length))) then (bif ((decide (0 ≤ a1.1)) && (decide (a1.1 < (Int.ofNat a0.length)))) then (bif (@Nat.ble ((a1.2.1.length + (List.getD a0 (Int.toNat a1.1) []).length) * 8) 140737488355328) then (some (.inl ((IntKind.wrap .i64 (a1.1 + 1)),((a1.2.1 ++ (List.getD a0 (Int.toNat a1.1) [])),())))) else none) else none) else (some (.inr a1.2)))
noncomputable def g60 (a0 : (@List (List Int))) : (Option ((List Int) × Unit)) :=
  (Option.bind (Loop (@g60_s0 a0) (0,(0,()))) (fun (y1 : (Int × Unit)) => (Option.bind (@Sp04.on ((List Int) × Unit) (@Sp04.inside y1.1 0 1000000) ([],())) (fun (y2 : ((List Int) × Unit)) => (Option.bind (Loop (@g60_s1 a0) (0,y2)) (fun (y3 : ((List Int) × Unit)) => (some y3)))))))
theorem g60_eq (a0 : (@List (List Int))) : (evF (fun _ _ => Loop) E60 G60 Proofs.Try.f60 plan60 c60 ((),(a0,()))).den = g60 a0 := by kernel_rfl

noncomputable def g51_s0 (a0 : (List Int)) (a1 : (Int × ((List Int) × Unit))) : (Option (Sum (Int × ((List Int) × Unit)) ((List Int) × Unit))) :=
  (bif (decide (a1.1 < (Int.ofNat a0.length))) then (bif ((decide (0 ≤ a1.1)) && (decide (a1.1 < (Int.ofNat a0.length)))) then (bif (@Nat.ble ((a1.2.1.length + ((IntKind.wrap .u8 (@Int.fdiv (List.getD a0 (Int.toNat a1.1) 0) 16777216)) :: ((IntKind.wrap .u8 (@Int.fdiv (List.getD a0 (Int.toNat a1.1) 0) 65536)) :: ((IntKind.wrap .u8 (@Int.fdiv (List.getD a0 (Int.toNat a1.1) 0) 256)) :: ((IntKind.wrap .u8 (List.getD a0 (Int.toNat a1.1) 0)) :: [])))).length) * 1) 140737488355328) then (some (.inl ((IntKind.wrap .i64 (a1.1 + 1)),((a1.2.1 ++ ((IntKind.wrap .u8 (@Int.fdiv (List.getD a0 (Int.toNat a1.1) 0) 16777216)) :: ((IntKind.wrap .u8 (@Int.fdiv (List.getD a0 (Int.toNat a1.1) 0) 65536)) :: ((IntKind.wrap .u8 (@Int.fdiv (List.getD a0 (Int.toNat a1.1) 0) 256)) :: ((IntKind.wrap .u8 (List.getD a0 (Int.toNat a1.1) 0)) :: []))))),())))) else none) else none) else (some (.inr a1.2)))
noncomputable def g51 (a0 : (List Int)) : (Option ((List Int) × Unit)) :=
  (Option.bind (Loop (@g51_s0 a0) (0,([],()))) (fun (y1 : ((List Int) × Unit)) => (some y1)))
theorem g51_eq (a0 : (List Int)) : (evF (fun _ _ => Loop) E51 G51 Proofs.Try.f51 plan51 c51 ((),(a0,()))).den = g51 a0 := by kernel_rfl

noncomputable def g28 (a0 : (List Int)) (a1 : Int) (a2 : Int) (a3 : Int) (a4 : Int) (a5 : Int) (a6 : Int) (a7 : Int) (a8 : Int) (a9 : Int) (a10 : (List Int)) (a11 : (List Int)) (a12 : Int) (a13 : Int) (a14 : Int) (a15 : Int) (a16 : Int) (a17 : Int) (a18 : Int) (a19 : Int) (a20 : Int) (a21 : (List Int)) : (Option (Bool × Unit)) :=
  (Option.bind (bif ((decide (a1 = a12)) && ((decide (a2 = a13)) && ((decide (a3 = a14)) && ((decide (a4 = a15)) && ((decide (a5 = a16)) && ((decide (a6 = a17)) && ((decide (a7 = a18)) && ((decide (a8 = a19)) && ((decide (a9 = a20)) && ((@List.beq Int (@instBEqOfDecidableEq Int Int.instDecidableEq) a10 a21) && true)))))))))) then (some ((decide (a0 = a11)),())) else (some (false,()))) (fun (y22 : (Bool × Unit)) => (some y22)))
theorem g28_eq (a0 : (List Int)) (a1 : Int) (a2 : Int) (a3 : Int) (a4 : Int) (a5 : Int) (a6 : Int) (a7 : Int) (a8 : Int) (a9 : Int) (a10 : (List Int)) (a11 : (List Int)) (a12 : Int) (a13 : Int) (a14 : Int) (a15 : Int) (a16 : Int) (a17 : Int) (a18 : Int) (a19 : Int) (a20 : Int) (a21 : (List Int)) : (evF (fun _ _ => Loop) E28 G28 Proofs.Try.f28 plan28 c28 ((),((a0,(a1,(a2,(a3,(a4,(a5,(a6,(a7,(a8,(a9,(a10,()))))))))))),((a11,(a12,(a13,(a14,(a15,(a16,(a17,(a18,(a19,(a20,(a21,()))))))))))),())))).den = g28 a0 a1 a2 a3 a4 a5 a6 a7 a8 a9 a10 a11 a12 a13 a14 a15 a16 a17 a18 a19 a20 a21 := by kernel_rfl

noncomputable def g104_s0 (a0 : (List Int)) (a1 : Int) (a2 : Int) (a3 : Int) (a4 : (Int × (Int × Unit))) : (Option (Sum (Int × (Int × Unit)) (Int × Unit))) :=
  (bif (decide (a4.1 < a3)) then (Option.bind (@Sp04.on (Int × Unit) ((decide (0 ≤ (IntKind.wrap .i64 (a2 + a4.1)))) && (decide ((IntKind.wrap .i64 (a2 + a4.1)) < (8 * (Int.ofNat a0.length))))) ((@Sp04.b2i (@Sp04.bitAt a0 (Int.toNat (IntKind.wrap .i64 (a2 + a4.1))))),())) (fun (y5 : (Int × Unit)) => (some (.inl ((IntKind.wrap .i64 (a4.1 + 1)),((IntKind.wrap .u64 (Int.ofNat (@BitVec.toNat 64 (@BitVec.or 64 (@BitVec.ofInt 64 (IntKind.wrap .u64 (a4.2.1 * 2))) (@BitVec.ofInt 64 y5.1))))),())))))) else (some (.inr a4.2)))
noncomputable def g104 (a0 : (List Int)) (a1 : Int) (a2 : Int) (a3 : Int) : (Option (Int × Unit)) :=
  (Option.bind (Loop (@g104_s0 a0 a1 a2 a3) (0,(0,()))) (fun (y4 : (Int × Unit)) => (some y4)))
theorem g104_eq (a0 : (List Int)) (a1 : Int) (a2 : Int) (a3 : Int) : (evF (fun _ _ => Loop) E104 G104 Proofs.Try.f104 plan104 c104 ((),((a0,(a1,())),(a2,(a3,()))))).den = g104 a0 a1 a2 a3 := by kernel_rfl

noncomputable def g100 (a0 : (List Int)) (a1 : Int) (a2 : Int) : (Option (Int × Unit)) :=
  (bif ((decide (0 ≤ (IntKind.wrap .i64 (@Int.tdiv a2 8)))) && (decide ((IntKind.wrap .i64 (@Int.tdiv a2 8)) < (Int.ofNat a0.length)))) then (bif (decide (0 ≤ (IntKind.wrap .i64 (7 - (@Int.tmod a2 8))))) then (some ((IntKind.wrap .u64 (IntKind.wrap .u8 (Int.ofNat (@BitVec.toNat 8 (@BitVec.and 8 (@BitVec.ofInt 8 (@Int.fdiv (List.getD a0 (Int.toNat (IntKind.wrap .i64 (@Int.tdiv a2 8))) 0) (@Int.pow 2 (@Min.min Nat instMinNat (Int.toNat (IntKind.wrap .i64 (7 - (@Int.tmod a2 8)))) 8)))) (@BitVec.ofInt 8 1)))))),())) else none) else none)
theorem g100_eq (a0 : (List Int)) (a1 : Int) (a2 : Int) : (evF (fun _ _ => Loop) E100 G100 Proofs.Try.f100 plan100 c100 ((),((a0,(a1,())),(a2,())))).den = g100 a0 a1 a2 := by kernel_rfl

noncomputable def g48 (a0 : (List Int)) (a1 : Int) : (Option (Int × Sp04.Tp)) :=
  (bif (decide (a1 ≥ (Int.ofNat a0.length))) then (some (0,(a0,(a1,())))) else (bif ((decide (0 ≤ (IntKind.wrap .i64 ((IntKind.wrap .i64 (a1 + 1)) - 1)))) && (decide ((IntKind.wrap .i64 ((IntKind.wrap .i64 (a1 + 1)) - 1)) < (Int.ofNat a0.length)))) then (some ((List.getD a0 (Int.toNat (IntKind.wrap .i64 ((IntKind.wrap .i64 (a1 + 1)) - 1))) 0),(a0,((IntKind.wrap .i64 (a1 + 1)),())))) else none))
theorem g48_eq (a0 : (List Int)) (a1 : Int) : (evF (fun _ _ => Loop) E48 G48 Proofs.Try.f48 plan48 c48 ((a0,(a1,())),())).den = g48 a0 a1 := by kernel_rfl

noncomputable def g78_s0 (a0 : (Int × (Int × Unit))) : (Option (Sum (Int × (Int × Unit)) (Int × Unit))) :=
  (bif (decide (a0.2.1 > 8)) then (some (.inl ((IntKind.wrap .i64 (a0.1 + 1)),((IntKind.wrap .i64 (@Int.tdiv a0.2.1 2)),())))) else (some (.inr (a0.1,()))))
noncomputable def g78 (a0 : Int) : (Option (Int × Unit)) :=
  (Option.bind (Loop g78_s0 (0,(a0,()))) (fun (y1 : (Int × Unit)) => (some y1)))
theorem g78_eq (a0 : Int) : (evF (fun _ _ => Loop) E78 G78 Proofs.Try.f78 plan78 c78 ((),(a0,()))).den = g78 a0 := by kernel_rfl

noncomputable def g71 (a0 : Int) (a1 : Int) : (Option (Bool × Unit)) :=
  (Option.bind (bif (@Sp04.vlen a1) then (some ((decide ((IntKind.wrap .u64 (Int.ofNat (@BitVec.toNat 64 (@BitVec.and 64 (@BitVec.ofInt 64 a0) (@BitVec.not 64 (@BitVec.ofInt 64 (@Sp04.full a1))))))) = 0)),())) else (some (false,()))) (fun (y2 : (Bool × Unit)) => (some y2)))
theorem g71_eq (a0 : Int) (a1 : Int) : (evF (fun _ _ => Loop) E71 G71 Proofs.Try.f71 plan71 c71 ((),(a0,(a1,())))).den = g71 a0 a1 := by kernel_rfl

noncomputable def g49v (a0 : (@List Sp04.Lb)) : (Option (Bool × Unit)) :=
  (Option.bind (@Sp04.on (Int × Unit) (@List.all Sp04.Lb a0 Sp04.near) ((@Sp04.idx Sp04.Lb Sp04.alien a0),())) (fun (y1 : (Int × Unit)) => (some ((decide (y1.1 ≥ 0)),()))))
theorem g49v_eq (a0 : (@List Sp04.Lb)) : (evF (fun _ _ => Loop) E49v G49v Proofs.Try.f49 plan49v c49v ((),(a0,((),())))).den = g49v a0 := by kernel_rfl

noncomputable def g67 (a0 : (List Int)) (a1 : Int) : (Option (Bool × Unit)) :=
  (some ((decide ((@Sp04.idx Int (fun (y2 : Int) => (decide (a1 = y2))) a0) ≥ 0)),()))
theorem g67_eq (a0 : (List Int)) (a1 : Int) : (evF (fun _ _ => Loop) E67 G67 Proofs.Try.f67 plan67 c67 ((),(a0,(a1,())))).den = g67 a0 a1 := by kernel_rfl

noncomputable def g40v (a0 : (List Int)) : (Option (Bool × Unit)) :=
  (some ((decide ((@Sp04.idx Int Sp04.stray a0) ≥ 0)),()))
theorem g40v_eq (a0 : (List Int)) : (evF (fun _ _ => Loop) E40v G40v Proofs.Try.f40 plan40v c40v ((),(a0,((),())))).den = g40v a0 := by kernel_rfl
end Go.Abs.C04
