/- Chapter 13 (forward): proved is, of functions that the law reaches, that the evaluator comes to the printed term; no conditions. -/
import Derived.Test.YtmpfafdaadhabaaGreatDoorAbsD
import Derived.Test.YtmpfafdaadhabaaGreatDoorProg
import Derived.KernelRfl
set_option linter.unusedVariables false
set_option linter.unusedSimpArgs false
namespace Go.aW.fF
open Go.Proofs
def tab:List (Nat×TI):=[
  (3,{ size:=1,bytes:=8,agg:=false,ty:=(.int .i64),desc:=(.int .i64),zero:=[(.int .i64 0)],arr:=none,cmp:=none }),
  (4,{ size:=1,bytes:=1,agg:=false,ty:=.bool,desc:=.bool,zero:=[(.bool false)],arr:=none,cmp:=none }),
  (5,{ size:=1,bytes:=1,agg:=false,ty:=(.int .u8),desc:=(.int .u8),zero:=[(.int .u8 0)],arr:=none,cmp:=none }),
  (9,{ size:=1,bytes:=16,agg:=false,ty:=.str,desc:=.string,zero:=[(.str [])],arr:=none,cmp:=none }),
  (22,{ size:=1,bytes:=24,agg:=false,ty:=(.sl (.int .i64)),desc:=(.slice 3),zero:=[(.sl 2 (.int .i64) [])],arr:=none,cmp:=none }),
  (23,{ size:=1,bytes:=24,agg:=false,ty:=(.sl (.st 32 (.cons (.int .i64) (.cons (.sl (.int .i64)) .unit)))),desc:=(.slice 63),zero:=[(.sl 2 (.st 32 (.cons (.int .i64) (.cons (.sl (.int .i64)) .unit))) [])],arr:=none,cmp:=none }),
  (25,{ size:=4,bytes:=48,agg:=true,ty:=(.st 48 (.cons (.int .i64) (.cons (.int .i64) (.cons (.int .i64) (.cons (.sl (.st 32 (.cons (.int .i64) (.cons (.sl (.int .i64)) .unit)))) .unit))))),desc:=(.struct #[{ name:="Router",type:=3,offset:=0,byteOffset:=0,embedded:=false,tag:="",pkgPath:="" },{ name:="Subdomain",type:=3,offset:=1,byteOffset:=8,embedded:=false,tag:="",pkgPath:="" },{ name:="Length",type:=3,offset:=2,byteOffset:=16,embedded:=false,tag:="",pkgPath:="" },{ name:="Rows",type:=23,offset:=3,byteOffset:=24,embedded:=false,tag:="",pkgPath:="" }]),zero:=[(.int .i64 0),(.int .i64 0),(.int .i64 0),(.sl 2 (.st 32 (.cons (.int .i64) (.cons (.sl (.int .i64)) .unit))) [])],arr:=none,cmp:=none }),
  (26,{ size:=1,bytes:=8,agg:=false,ty:=(.int .u64),desc:=(.int .u64),zero:=[(.int .u64 0)],arr:=none,cmp:=none }),
  (28,{ size:=10,bytes:=88,agg:=true,ty:=(.st 88 (.cons (.int .i64) (.cons (.int .i64) (.cons (.int .i64) (.cons (.int .i64) (.cons (.int .i64) (.cons (.int .i64) (.cons (.int .i64) (.cons (.int .i64) (.cons (.int .u64) (.cons .str .unit))))))))))),desc:=(.struct #[{ name:="Mode",type:=3,offset:=0,byteOffset:=0,embedded:=false,tag:="",pkgPath:="" },{ name:="Subdomain",type:=3,offset:=1,byteOffset:=8,embedded:=false,tag:="",pkgPath:="" },{ name:="Set",type:=3,offset:=2,byteOffset:=16,embedded:=false,tag:="",pkgPath:="" },{ name:="Length",type:=3,offset:=3,byteOffset:=24,embedded:=false,tag:="",pkgPath:="" },{ name:="TTL",type:=3,offset:=4,byteOffset:=32,embedded:=false,tag:="",pkgPath:="" },{ name:="Entropy",type:=3,offset:=5,byteOffset:=40,embedded:=false,tag:="",pkgPath:="" },{ name:="Ingress",type:=3,offset:=6,byteOffset:=48,embedded:=false,tag:="",pkgPath:="" },{ name:="Proto",type:=3,offset:=7,byteOffset:=56,embedded:=false,tag:="",pkgPath:="" },{ name:="Bits",type:=26,offset:=8,byteOffset:=64,embedded:=false,tag:="",pkgPath:="" },{ name:="Payload",type:=9,offset:=9,byteOffset:=72,embedded:=false,tag:="",pkgPath:="" }]),zero:=[(.int .i64 0),(.int .i64 0),(.int .i64 0),(.int .i64 0),(.int .i64 0),(.int .i64 0),(.int .i64 0),(.int .i64 0),(.int .u64 0),(.str [])],arr:=none,cmp:=some [0,0,0,0,0,0,0,0,0,2] }),
  (29,{ size:=1,bytes:=8,agg:=false,ty:=.unit,desc:=(.pointer 47),zero:=[.undef],arr:=none,cmp:=none }),
  (33,{ size:=1,bytes:=8,agg:=false,ty:=.unit,desc:=(.func #[3] #[4] false),zero:=[.undef],arr:=none,cmp:=none }),
  (36,{ size:=1,bytes:=24,agg:=false,ty:=(.sl (.st 120 (.cons (.int .i64) (.cons (.st 112 (.cons (.sl (.int .i64)) (.cons (.st 88 (.cons (.int .i64) (.cons (.int .i64) (.cons (.int .i64) (.cons (.int .i64) (.cons (.int .i64) (.cons (.int .i64) (.cons (.int .i64) (.cons (.int .i64) (.cons (.int .u64) (.cons .str .unit))))))))))) .unit))) .unit)))),desc:=(.slice 86),zero:=[(.sl 2 (.st 120 (.cons (.int .i64) (.cons (.st 112 (.cons (.sl (.int .i64)) (.cons (.st 88 (.cons (.int .i64) (.cons (.int .i64) (.cons (.int .i64) (.cons (.int .i64) (.cons (.int .i64) (.cons (.int .i64) (.cons (.int .i64) (.cons (.int .i64) (.cons (.int .u64) (.cons .str .unit))))))))))) .unit))) .unit))) [])],arr:=none,cmp:=none }),
  (38,{ size:=3,bytes:=40,agg:=true,ty:=(.st 40 (.cons (.int .u64) (.cons (.int .u64) (.cons (.sl (.st 120 (.cons (.int .i64) (.cons (.st 112 (.cons (.sl (.int .i64)) (.cons (.st 88 (.cons (.int .i64) (.cons (.int .i64) (.cons (.int .i64) (.cons (.int .i64) (.cons (.int .i64) (.cons (.int .i64) (.cons (.int .i64) (.cons (.int .i64) (.cons (.int .u64) (.cons .str .unit))))))))))) .unit))) .unit)))) .unit)))),desc:=(.struct #[{ name:="Local",type:=26,offset:=0,byteOffset:=0,embedded:=false,tag:="",pkgPath:="" },{ name:="Lost",type:=26,offset:=1,byteOffset:=8,embedded:=false,tag:="",pkgPath:="" },{ name:="Copies",type:=36,offset:=2,byteOffset:=16,embedded:=false,tag:="",pkgPath:="" }]),zero:=[(.int .u64 0),(.int .u64 0),(.sl 2 (.st 120 (.cons (.int .i64) (.cons (.st 112 (.cons (.sl (.int .i64)) (.cons (.st 88 (.cons (.int .i64) (.cons (.int .i64) (.cons (.int .i64) (.cons (.int .i64) (.cons (.int .i64) (.cons (.int .i64) (.cons (.int .i64) (.cons (.int .i64) (.cons (.int .u64) (.cons .str .unit))))))))))) .unit))) .unit))) [])],arr:=none,cmp:=none }),
  (39,{ size:=1,bytes:=8,agg:=false,ty:=(.int .i64),desc:=(.int .i64),zero:=[(.int .i64 0)],arr:=none,cmp:=none }),
  (47,{ size:=2,bytes:=32,agg:=true,ty:=(.st 32 (.cons (.sl (.int .i64)) (.cons (.int .i64) .unit))),desc:=(.struct #[{ name:="L",type:=22,offset:=0,byteOffset:=0,embedded:=false,tag:="",pkgPath:="" },{ name:="At",type:=3,offset:=1,byteOffset:=24,embedded:=false,tag:="",pkgPath:="" }]),zero:=[(.sl 2 (.int .i64) []),(.int .i64 0)],arr:=none,cmp:=none }),
  (48,{ size:=1,bytes:=24,agg:=false,ty:=(.sl (.st 16 (.cons (.int .i64) (.cons .bool .unit)))),desc:=(.slice 92),zero:=[(.sl 2 (.st 16 (.cons (.int .i64) (.cons .bool .unit))) [])],arr:=none,cmp:=none }),
  (49,{ size:=1,bytes:=24,agg:=false,ty:=(.sl (.st 40 (.cons (.int .i64) (.cons (.int .i64) (.cons (.int .i64) (.cons (.int .i64) (.cons (.int .i64) .unit))))))),desc:=(.slice 116),zero:=[(.sl 2 (.st 40 (.cons (.int .i64) (.cons (.int .i64) (.cons (.int .i64) (.cons (.int .i64) (.cons (.int .i64) .unit)))))) [])],arr:=none,cmp:=none }),
  (51,{ size:=2,bytes:=48,agg:=true,ty:=(.st 48 (.cons (.sl (.st 16 (.cons (.int .i64) (.cons .bool .unit)))) (.cons (.sl (.st 40 (.cons (.int .i64) (.cons (.int .i64) (.cons (.int .i64) (.cons (.int .i64) (.cons (.int .i64) .unit))))))) .unit))),desc:=(.struct #[{ name:="Routers",type:=48,offset:=0,byteOffset:=0,embedded:=false,tag:="",pkgPath:="" },{ name:="Links",type:=49,offset:=1,byteOffset:=24,embedded:=false,tag:="",pkgPath:="" }]),zero:=[(.sl 2 (.st 16 (.cons (.int .i64) (.cons .bool .unit))) []),(.sl 2 (.st 40 (.cons (.int .i64) (.cons (.int .i64) (.cons (.int .i64) (.cons (.int .i64) (.cons (.int .i64) .unit)))))) [])],arr:=none,cmp:=none }),
  (53,{ size:=1,bytes:=24,agg:=false,ty:=(.sl (.st 16 (.cons (.int .i64) (.cons (.int .i64) .unit)))),desc:=(.slice 61),zero:=[(.sl 2 (.st 16 (.cons (.int .i64) (.cons (.int .i64) .unit))) [])],arr:=none,cmp:=none }),
  (55,{ size:=3,bytes:=40,agg:=true,ty:=(.st 40 (.cons (.int .i64) (.cons (.int .i64) (.cons (.sl (.st 16 (.cons (.int .i64) (.cons (.int .i64) .unit)))) .unit)))),desc:=(.struct #[{ name:="Subdomain",type:=3,offset:=0,byteOffset:=0,embedded:=false,tag:="",pkgPath:="" },{ name:="Length",type:=3,offset:=1,byteOffset:=8,embedded:=false,tag:="",pkgPath:="" },{ name:="Edges",type:=53,offset:=2,byteOffset:=16,embedded:=false,tag:="",pkgPath:="" }]),zero:=[(.int .i64 0),(.int .i64 0),(.sl 2 (.st 16 (.cons (.int .i64) (.cons (.int .i64) .unit))) [])],arr:=none,cmp:=none }),
  (61,{ size:=2,bytes:=16,agg:=true,ty:=(.st 16 (.cons (.int .i64) (.cons (.int .i64) .unit))),desc:=(.struct #[{ name:="Router",type:=3,offset:=0,byteOffset:=0,embedded:=false,tag:="",pkgPath:="" },{ name:="ID",type:=3,offset:=1,byteOffset:=8,embedded:=false,tag:="",pkgPath:="" }]),zero:=[(.int .i64 0),(.int .i64 0)],arr:=none,cmp:=some [0,0] }),
  (63,{ size:=2,bytes:=32,agg:=true,ty:=(.st 32 (.cons (.int .i64) (.cons (.sl (.int .i64)) .unit))),desc:=(.struct #[{ name:="ID",type:=3,offset:=0,byteOffset:=0,embedded:=false,tag:="",pkgPath:="" },{ name:="Next",type:=22,offset:=1,byteOffset:=8,embedded:=false,tag:="",pkgPath:="" }]),zero:=[(.int .i64 0),(.sl 2 (.int .i64) [])],arr:=none,cmp:=none }),
  (69,{ size:=1,bytes:=24,agg:=false,ty:=(.sl (.st 48 (.cons (.int .i64) (.cons (.int .i64) (.cons (.int .i64) (.cons (.sl (.st 32 (.cons (.int .i64) (.cons (.sl (.int .i64)) .unit)))) .unit)))))),desc:=(.slice 25),zero:=[(.sl 2 (.st 48 (.cons (.int .i64) (.cons (.int .i64) (.cons (.int .i64) (.cons (.sl (.st 32 (.cons (.int .i64) (.cons (.sl (.int .i64)) .unit)))) .unit))))) [])],arr:=none,cmp:=none }),
  (84,{ size:=11,bytes:=112,agg:=true,ty:=(.st 112 (.cons (.sl (.int .i64)) (.cons (.st 88 (.cons (.int .i64) (.cons (.int .i64) (.cons (.int .i64) (.cons (.int .i64) (.cons (.int .i64) (.cons (.int .i64) (.cons (.int .i64) (.cons (.int .i64) (.cons (.int .u64) (.cons .str .unit))))))))))) .unit))),desc:=(.struct #[{ name:="Route",type:=22,offset:=0,byteOffset:=0,embedded:=false,tag:="",pkgPath:="" },{ name:="Packet",type:=28,offset:=1,byteOffset:=24,embedded:=false,tag:="",pkgPath:="" }]),zero:=[(.sl 2 (.int .i64) []),(.int .i64 0),(.int .i64 0),(.int .i64 0),(.int .i64 0),(.int .i64 0),(.int .i64 0),(.int .i64 0),(.int .i64 0),(.int .u64 0),(.str [])],arr:=none,cmp:=none }),
  (86,{ size:=12,bytes:=120,agg:=true,ty:=(.st 120 (.cons (.int .i64) (.cons (.st 112 (.cons (.sl (.int .i64)) (.cons (.st 88 (.cons (.int .i64) (.cons (.int .i64) (.cons (.int .i64) (.cons (.int .i64) (.cons (.int .i64) (.cons (.int .i64) (.cons (.int .i64) (.cons (.int .i64) (.cons (.int .u64) (.cons .str .unit))))))))))) .unit))) .unit))),desc:=(.struct #[{ name:="To",type:=3,offset:=0,byteOffset:=0,embedded:=false,tag:="",pkgPath:="" },{ name:="Frame",type:=84,offset:=1,byteOffset:=8,embedded:=false,tag:="",pkgPath:="" }]),zero:=[(.int .i64 0),(.sl 2 (.int .i64) []),(.int .i64 0),(.int .i64 0),(.int .i64 0),(.int .i64 0),(.int .i64 0),(.int .i64 0),(.int .i64 0),(.int .i64 0),(.int .u64 0),(.str [])],arr:=none,cmp:=none }),
  (92,{ size:=2,bytes:=16,agg:=true,ty:=(.st 16 (.cons (.int .i64) (.cons .bool .unit))),desc:=(.struct #[{ name:="ID",type:=3,offset:=0,byteOffset:=0,embedded:=false,tag:="",pkgPath:="" },{ name:="Capable",type:=4,offset:=1,byteOffset:=8,embedded:=false,tag:="",pkgPath:="" }]),zero:=[(.int .i64 0),(.bool false)],arr:=none,cmp:=some [0,1] }),
  (96,{ size:=1,bytes:=24,agg:=false,ty:=(.sl (.int .u8)),desc:=(.slice 5),zero:=[(.sl 2 (.int .u8) [])],arr:=none,cmp:=none }),
  (100,{ size:=1,bytes:=8,agg:=false,ty:=.unit,desc:=(.pointer 63),zero:=[.undef],arr:=none,cmp:=none }),
  (103,{ size:=1,bytes:=8,agg:=false,ty:=.unit,desc:=(.func #[63] #[4] false),zero:=[.undef],arr:=none,cmp:=none }),
  (116,{ size:=5,bytes:=40,agg:=true,ty:=(.st 40 (.cons (.int .i64) (.cons (.int .i64) (.cons (.int .i64) (.cons (.int .i64) (.cons (.int .i64) .unit)))))),desc:=(.struct #[{ name:="A",type:=3,offset:=0,byteOffset:=0,embedded:=false,tag:="",pkgPath:="" },{ name:="B",type:=3,offset:=1,byteOffset:=8,embedded:=false,tag:="",pkgPath:="" },{ name:="CostA",type:=3,offset:=2,byteOffset:=16,embedded:=false,tag:="",pkgPath:="" },{ name:="CostB",type:=3,offset:=3,byteOffset:=24,embedded:=false,tag:="",pkgPath:="" },{ name:="Capacity",type:=3,offset:=4,byteOffset:=32,embedded:=false,tag:="",pkgPath:="" }]),zero:=[(.int .i64 0),(.int .i64 0),(.int .i64 0),(.int .i64 0),(.int .i64 0)],arr:=none,cmp:=some [0,0,0,0,0] }),
  (118,{ size:=1,bytes:=8,agg:=false,ty:=(.int .u64),desc:=(.int .u64),zero:=[(.int .u64 0)],arr:=none,cmp:=none }),
  (124,{ size:=64,bytes:=64,agg:=true,ty:=(.st 64 (.cons (.int .u8) (.cons (.int .u8) (.cons (.int .u8) (.cons (.int .u8) (.cons (.int .u8) (.cons (.int .u8) (.cons (.int .u8) (.cons (.int .u8) (.cons (.int .u8) (.cons (.int .u8) (.cons (.int .u8) (.cons (.int .u8) (.cons (.int .u8) (.cons (.int .u8) (.cons (.int .u8) (.cons (.int .u8) (.cons (.int .u8) (.cons (.int .u8) (.cons (.int .u8) (.cons (.int .u8) (.cons (.int .u8) (.cons (.int .u8) (.cons (.int .u8) (.cons (.int .u8) (.cons (.int .u8) (.cons (.int .u8) (.cons (.int .u8) (.cons (.int .u8) (.cons (.int .u8) (.cons (.int .u8) (.cons (.int .u8) (.cons (.int .u8) (.cons (.int .u8) (.cons (.int .u8) (.cons (.int .u8) (.cons (.int .u8) (.cons (.int .u8) (.cons (.int .u8) (.cons (.int .u8) (.cons (.int .u8) (.cons (.int .u8) (.cons (.int .u8) (.cons (.int .u8) (.cons (.int .u8) (.cons (.int .u8) (.cons (.int .u8) (.cons (.int .u8) (.cons (.int .u8) (.cons (.int .u8) (.cons (.int .u8) (.cons (.int .u8) (.cons (.int .u8) (.cons (.int .u8) (.cons (.int .u8) (.cons (.int .u8) (.cons (.int .u8) (.cons (.int .u8) (.cons (.int .u8) (.cons (.int .u8) (.cons (.int .u8) (.cons (.int .u8) (.cons (.int .u8) (.cons (.int .u8) (.cons (.int .u8) .unit))))))))))))))))))))))))))))))))))))))))))))))))))))))))))))))))),desc:=(.array 64 5),zero:=[(.int .u8 0),(.int .u8 0),(.int .u8 0),(.int .u8 0),(.int .u8 0),(.int .u8 0),(.int .u8 0),(.int .u8 0),(.int .u8 0),(.int .u8 0),(.int .u8 0),(.int .u8 0),(.int .u8 0),(.int .u8 0),(.int .u8 0),(.int .u8 0),(.int .u8 0),(.int .u8 0),(.int .u8 0),(.int .u8 0),(.int .u8 0),(.int .u8 0),(.int .u8 0),(.int .u8 0),(.int .u8 0),(.int .u8 0),(.int .u8 0),(.int .u8 0),(.int .u8 0),(.int .u8 0),(.int .u8 0),(.int .u8 0),(.int .u8 0),(.int .u8 0),(.int .u8 0),(.int .u8 0),(.int .u8 0),(.int .u8 0),(.int .u8 0),(.int .u8 0),(.int .u8 0),(.int .u8 0),(.int .u8 0),(.int .u8 0),(.int .u8 0),(.int .u8 0),(.int .u8 0),(.int .u8 0),(.int .u8 0),(.int .u8 0),(.int .u8 0),(.int .u8 0),(.int .u8 0),(.int .u8 0),(.int .u8 0),(.int .u8 0),(.int .u8 0),(.int .u8 0),(.int .u8 0),(.int .u8 0),(.int .u8 0),(.int .u8 0),(.int .u8 0),(.int .u8 0)],arr:=some (.int .u8),cmp:=none })]
def cl:List (Nat×List Nat):=[(28,[0,0,0,0,0,0,0,0,0,2]),(61,[0,0]),(92,[0,1]),(116,[0,0,0,0,0])]
def gl:List (Nat×(IntKind×List Int)):=[(0,(.u8,[0,1,56,2,57,49,28,3,61,58,42,50,38,29,17,4,62,47,59,36,45,43,51,22,53,39,33,30,24,18,12,5,63,55,48,27,60,41,37,16,46,35,44,21,52,32,23,11,54,26,40,15,34,20,31,10,25,14,19,9,13,8,7,6]))]
theorem WW:tab.map (fun p=>Ki Tryz.prog cl p.1)=tab.map (fun p=>some p.2):=by kernel_rfl
theorem abZ:cl.map (fun p=>(iG Tryz.prog 8 p.1,Tryz.prog.eqGuardType Tryz.prog.depth p.1))=cl.map (fun p=>(some p.2,false)):=by kernel_rfl
theorem pok (n:Nat) (hp:Bool) (md:List (Nat×Nat)):nM Tryz.prog (eB tab gl n hp md):=WT cl WW abZ n hp md
theorem mix:Tryz.prog.follows .mixedOrders=true:=by kernel_rfl
abbrev hA1:Sh:=.lf (.int .i64)
abbrev hA2:Sh:=.lf .bool
abbrev hA3:Sh:=.aH 1 true [(.sl 0 (.int .i64)),(.int .i64)]
abbrev qW:Sh:=.lf (.sl 2 (.int .i64))
abbrev Aj:Sh:=.aH 1 true [(.sl 2 (.st 16 (.cons (.int .i64) (.cons .bool .unit)))),(.sl 2 (.st 40 (.cons (.int .i64) (.cons (.int .i64) (.cons (.int .i64) (.cons (.int .i64) (.cons (.int .i64) .unit)))))))]
abbrev D7:Sh:=.aH 1 true [(.int .i64),(.int .i64),(.int .i64),(.int .i64),(.int .i64),(.int .i64),(.int .i64),(.int .i64),(.int .u64),.str]
abbrev Gn:Sh:=.lf (.int .u64)
abbrev RO:Sh:=.aH 1 true [(.int .i64),(.int .i64),(.sl 2 (.st 16 (.cons (.int .i64) (.cons (.int .i64) .unit))))]
abbrev RP:Sh:=.aH 1 true [(.int .i64),(.sl 2 (.int .i64))]
abbrev FE:Sh:=.aH 1 true [(.int .u64),(.int .u64),(.sl 2 (.st 120 (.cons (.int .i64) (.cons (.st 112 (.cons (.sl (.int .i64)) (.cons (.st 88 (.cons (.int .i64) (.cons (.int .i64) (.cons (.int .i64) (.cons (.int .i64) (.cons (.int .i64) (.cons (.int .i64) (.cons (.int .i64) (.cons (.int .i64) (.cons (.int .u64) (.cons .str .unit))))))))))) .unit))) .unit))))]
abbrev K7:Sh:=.lf (.sl 0 (.int .i64))
abbrev NR:Sh:=.lf (.sl 2 (.st 40 (.cons (.int .i64) (.cons (.int .i64) (.cons (.int .i64) (.cons (.int .i64) (.cons (.int .i64) .unit)))))))
abbrev RQ:Sh:=.aH 1 true [(.int .i64),(.int .i64),(.int .i64),(.sl 2 (.st 32 (.cons (.int .i64) (.cons (.sl (.int .i64)) .unit))))]
abbrev WX:Sh:=.aH 1 true [(.int .i64),(.sl 0 (.int .i64))]
abbrev WY:Sh:=.lf (.sl 2 (.st 48 (.cons (.int .i64) (.cons (.int .i64) (.cons (.int .i64) (.cons (.sl (.st 32 (.cons (.int .i64) (.cons (.sl (.int .i64)) .unit)))) .unit))))))
abbrev hL1:List Nat:=[8,34,20,10,22,24,26,28,30,32,36,16,18]
abbrev hL2:List Nat:=[12,28,26,24,22,20,18,16,14]
abbrev hL3:List Nat:=[184,186,174,176,164,166,154,156,142,144,132,134,122,124,112,114,82,80,78]
abbrev hL4:List Nat:=[4,32,30,28,26,24,22,20,18,16,14,12,10,8,6]
abbrev hL5:List Nat:=[8,26,24,22,20,18,16,14,12,10]
abbrev hL6:List Nat:=[4,106,104,102,100,98,96,94,92,90,88,86,84,82,80,78,76,74,72,70,68,66,64,62,60,58,56,54,52,50,48,46,44,42,40,38,36,34,32,30,28,26,24,22,20,18,16,14,12,10,8,6]
abbrev hL7:List Nat:=[120,118,116,140,138,136,162,160,158,182,180,178,78,80,82,114,112,124,122,134,132,144,142,156,154,166,164,176,174,186,184,90,88,86,84,98,96,94,92,100,102,104,106,1,108,110,13,188,190,192,168,170,172,146,150,148,152,126,128,130]
abbrev hL8:List Nat:=[206,210,214,212,216,218,208,222,220,263,280,278,276,274,272,270,268,266,264,262,260,258,256,254,252,253,331,348,346,344,342,340,338,336,334,332,330,328,326,324,322,320,321,188,192,194,196,190,200,15,198,184,186,30,180,182,350,352,316,318,282,284,248,250,224,226,202,204,178,176,174,355,354,356,358,360,386,388,365,384,382,380,1,378,376,374,372,370,368,366,364,362,287,286,288,290,292,294,296,298,300,302,304,306,308,310,312,314,297,244,246,230,242,240,238,236,234,232,228]
abbrev hL9:List Nat:=[350,352,316,318,282,284,248,250,224,226,202,204,178,176,174]
abbrev ab0:List Nat:=[154,152,150,172,176,180,178,182,186,184,188,190,174,194,192,130,134,136,138,140,132,144,15,142,201,16,124,126,128,148,146,158,156,170,168,198,196,200,202,204,206,208,210,212,214,1,216,218,209,160,164,162,166]
abbrev ab1:List Nat:=[18,20,22,24,26,28,30,32,34,36,38,40,42,44,46]
abbrev ab2:List Nat:=[12,14,16,18,20,22,24,26,28,30,32,34,36,38,40]
abbrev ab3:List Nat:=[8,102,100,98,96,94,92,90,88,82,80,78,76,74]
abbrev E4:Env:=eB tab gl 11 false [(6,1),(8,1),(0,2),(10,2),(2,2)]
abbrev Ue:Plan:=(.sq .go (.sq (.sq .go (.cut [12,14,0] [⟨0,[(0,K7)],[10,8,6]⟩] .go)) .go))
abbrev E71:Env:=eB tab gl 12 false [(7,1),(4,2)]
abbrev NS:Plan:=(.sq .go (.sq (.cut [8,22,20,18,16,14,12,10] [⟨0,[(8,hA2)],[0,2]⟩] .go) .go))
abbrev E45:Env:=eB tab gl 12 false [(5,1),(9,1),(2,2)]
abbrev NT:Plan:=(.sq .go (.sq (.sq (.cut [16,14,12,10,8,6] [⟨0,[(16,hA2)],[]⟩] .go) (.sq .go .go)) .go))
abbrev E69:Env:=eB tab gl 17 false [(5,1),(9,1),(13,1),(2,2)]
abbrev NU:Plan:=(.sq .go (.sq (.cut hL4 [⟨0,[(4,hA2)],[0]⟩] .go) .go))
abbrev E48:Env:=eB tab gl 18 false [(17,1),(13,1),(11,1),(3,2),(4,2),(2,2)]
abbrev NV:Plan:=(.sq .go (.sq (.sq .go (.sq .go .go)) (.sq .go (.sq (.sq .go (.sq (.loop [8,24,22,6,32,30,28,26,16,18,20] [(8,hA1),(6,Gn)] [14,12,10,4] [⟨2,[(6,Gn)],[8,14,12,10,0]⟩] (.sq (.sq .go .go) (.sq .go .go))) .go)) .go))))
abbrev E72:Env:=eB tab gl 14 false [(7,1),(4,2)]
abbrev NW:Plan:=(.sq .go (.sq (.cut hL5 [⟨0,[(8,hA2)],[0,2]⟩] .go) .go))
abbrev E38:Env:=eB tab gl 54 false [(6,1),(11,1),(16,1),(21,1),(28,1),(33,1),(38,1),(43,1),(48,1),(1,2),(2,2)]
abbrev NY:Plan:=(.sq .go (.sq (.cut hL6 [⟨0,[(4,hA2)],[2,0]⟩] .go) .go))
abbrev E76:Env:=eB tab gl 9 false [(1,2),(2,2)]
abbrev NZ:Plan:=(.sq .go (.sq (.sq .go (.sq .go .go)) .go))
abbrev afw:Env:=eB tab gl 19 false [(7,1),(11,1),(4,2)]
abbrev JA:Plan:=(.sq .go (.sq (.cut [10,12,14,16,18,20,22,24,26,28,30,32,34,36,8] [⟨0,[(8,hA2)],[0,2]⟩] .go) .go))
abbrev afx:Env:=eB tab gl 17 false [(12,1),(16,1),(7,1),(3,2),(4,2),(2,2)]
abbrev JB:Plan:=(.sq .go (.sq .go (.sq (.sq .go (.sq (.loop [8,16,14,26,28,24,6,30,22,20,18,10,12] [(8,hA1),(6,qW)] [4] [⟨2,[(6,qW)],[8,0]⟩] (.sq (.sq .go .go) (.sq (.sq (.sq .go (.cut [26,28,24,6,30] [⟨0,[(6,qW)],[22,20,18,12,10]⟩] .go)) .go) .go))) .go)) .go)))
abbrev E46:Env:=eB tab gl 16 false [(15,1),(7,1),(12,1),(13,1),(0,2),(4,2)]
abbrev N7:Plan:=(.sq .go (.sq (.sq .go (.sq .go .go)) (.sq .go (.sq (.sq .go (.cut [0,28,26,24] [⟨0,[(0,hA1)],[22,20,18,16,14,12,10,2]⟩] .go)) .go))))
abbrev E47:Env:=eB tab gl 31 true [(30,1),(17,2),(2,2)]
abbrev N8:Plan:=(.sq .go (.sq (.sq .go (.sq .go .go)) (.sq .go .go)))
abbrev E20:Env:=eB tab gl 9 true [(5,1),(7,1),(4,2)]
abbrev N9:Plan:=(.sq .go .go)
abbrev E22:Env:=eB tab gl 15 true [(8,1),(9,1),(6,2)]
abbrev Oa:Plan:=(.sq .go .go)
abbrev E24:Env:=eB tab gl 22 true [(14,1),(8,1),(12,1),(20,1),(6,2),(5,2),(4,2)]
abbrev Ob:Plan:=(.sq .go (.sq .go (.sq (.sq .go (.sq (.loop [30,32,1,34,36,28,10,38,24,26,12,20,22] [(1,hA3),(10,(.lf (.sl 2 (.int .u8)))),(12,hA1)] [18,16,14,8,2] [⟨2,[(1,hA3),(10,(.lf (.sl 2 (.int .u8))))],[12,18,16,14,2]⟩] (.sq (.sq .go .go) (.sq .go .go))) .go)) (.sq (.opn [(10,0,5)]) .go))))
abbrev E70:Env:=eB tab gl 18 false [(10,1),(5,2)]
abbrev Od:Plan:=(.sq .go (.sq (.sq .go (.sq (.loop [8,24,26,28,30,32,34,20,22,10,12,14,16,18] [(10,hA1)] [8] [⟨1,[(8,hA2)],[10,0,2]⟩,⟨2,[],[10,0,2]⟩] (.sq (.sq .go .go) (.sq (.sq (.sq .go (.sq .go .go)) .go) .go))) .go)) .go))
abbrev E23:Env:=eB tab gl 30 true [(20,1),(26,1),(27,1),(5,2),(16,2),(18,2),(24,2),(4,2)]
abbrev Oe:Plan:=(.sq .go (.sq .go (.sq (.sq .go (.sq (.sq .go (.cut [10,48,50,36,38,32,34,30,28,26,24,22,20,18,16,14,12,40,42,44,1,46] [⟨0,[(10,Gn),(1,hA3)],[32,34,30,28,26,24,22,20,18,16,14,12]⟩] (.sq .go (.sq .go (.cut [46,1,44,42,40,12,14,16,18,20,22,24,26,28,30,34,32,38,36,50,48,10] [⟨0,[(1,hA3),(10,Gn)],[36,38,32,34,30,28,26,24,22,20,18,16,14,12]⟩] (.sq .go (.sq .go (.cut [10] [⟨0,[(10,Gn)],[48,50,36,38,32,34,30,28,26,24,22,20,18,16,14,12]⟩] .go)))))))) .go)) .go)))
abbrev E18:Env:=eB tab gl 12 true [(11,1),(6,1),(4,2)]
abbrev Og:Plan:=(.sq .go .go)
abbrev E6:Env:=eB tab gl 11 true [(5,1),(4,2)]
abbrev Uf:Plan:=(.sq .go .go)
abbrev E21:Env:=eB tab gl 6 true [(3,1),(2,2)]
abbrev Oh:Plan:=(.sq .go .go)
abbrev E25:Env:=eB tab gl 6 true [(3,1),(2,2)]
abbrev Oi:Plan:=(.sq .go .go)
abbrev E7:Env:=eB tab gl 98 true [(97,5),(35,1),(58,1),(63,1),(68,1),(73,1),(79,1),(84,1),(89,1),(94,1),(52,1),(97,1),(5,2),(32,2),(56,2),(59,2),(61,2),(64,2),(66,2),(69,2),(71,2),(75,2),(77,2),(80,2),(82,2),(85,2),(87,2),(90,2),(92,2),(95,2),(48,2),(54,2)]
abbrev Ug:Plan:=(.sq .go (.sq .go (.sq .go (.sq (.sq (.cut [1,78,76,74,72,70,68,66] [⟨0,[(1,hA3),(78,hA2)],[64,62,60,58,56,54,52,50,48,46,44,42,40,38,36,34,32,30,28,26,24,22,20,18,10,16,14,2]⟩] .go) (.cut hL7 [⟨0,[(1,hA3),(13,D7)],[78]⟩] (.sq (.sq .go (.sq (.sq .go (.cut hL7 [⟨0,[(1,hA3),(13,D7)],[112,114,82,80,78]⟩] (.sq .go (.sq .go (.cut [130,128,126,152,148,150,146,172,170,168,192,190,188,13,110,108,1,106,104,102,100,92,94,96,98,84,86,88,90,184,186,174,176,164,166,154,156,142,144,132,134,122,124,112,114,82,80,78,178,180,182,158,160,162,136,138,140] [⟨0,[(13,D7),(1,hA3)],[122,124,112,114,82,80,78]⟩] (.sq .go (.sq .go (.cut [140,138,136,162,160,158,182,180,178,78,80,82,114,112,124,122,134,132,144,142,156,154,166,164,176,174,186,184,90,88,86,84,98,96,94,92,100,102,104,106,1,108,110,13,188,190,192,168,170,172,146,150,148,152] [⟨0,[(1,hA3),(13,D7)],[132,134,122,124,112,114,82,80,78]⟩] (.sq .go (.sq .go (.cut [152,148,150,146,172,170,168,192,190,188,13,110,108,1,106,104,102,100,92,94,96,98,84,86,88,90,184,186,174,176,164,166,154,156,142,144,132,134,122,124,112,114,82,80,78,178,180,182,158,160,162] [⟨0,[(13,D7),(1,hA3)],[142,144,132,134,122,124,112,114,82,80,78]⟩] (.sq .go (.sq .go (.cut [162,160,158,182,180,178,78,80,82,114,112,124,122,134,132,144,142,156,154,166,164,176,174,186,184,90,88,86,84,98,96,94,92,100,102,104,106,1,108,110,13,188,190,192,168,170,172] [⟨0,[(1,hA3),(13,D7)],[154,156,142,144,132,134,122,124,112,114,82,80,78]⟩] (.sq .go (.sq .go (.cut [172,170,168,192,190,188,13,110,108,1,106,104,102,100,92,94,96,98,84,86,88,90,184,186,174,176,164,166,154,156,142,144,132,134,122,124,112,114,82,80,78,178,180,182] [⟨0,[(13,D7),(1,hA3)],[164,166,154,156,142,144,132,134,122,124,112,114,82,80,78]⟩] (.sq .go (.sq .go (.cut [182,180,178,78,80,82,114,112,124,122,134,132,144,142,156,154,166,164,176,174,186,184,90,88,86,84,98,96,94,92,100,102,104,106,1,108,110,13,188,190,192] [⟨0,[(1,hA3),(13,D7)],[174,176,164,166,154,156,142,144,132,134,122,124,112,114,82,80,78]⟩] (.sq .go (.sq .go (.cut [192,190,188,13,110,108,1,106,104,102,100,92,94,96,98,84,86,88,90,184,186,174,176,164,166,154,156,142,144,132,134,122,124,112,114,82,80,78] [⟨0,[(13,D7),(1,hA3)],hL3⟩] (.sq .go (.sq (.sq (.loop [92,94,96,98,13,84,86,88,90] [(13,D7)] hL3 [⟨3,[(13,D7)],hL3⟩] (.sq (.sq .go .go) .go)) .go) .go))))))))))))))))))))))))) .go)) .go))) .go))))
abbrev E80:Env:=eB tab gl 76 false [(58,1),(63,1),(70,1),(75,1),(17,1),(56,1),(71,1),(72,1),(11,1),(5,2),(6,2),(3,2),(4,2),(2,2)]
abbrev Oj:Plan:=(.sq .go (.sq .go (.sq (.sq .go (.sq (.loop [8,24,22,148,6,140,146,144,142,12,138,126,136,134,132,130,128,124,116,122,120,118,10,114,112,26,28,30,32,34,36,38,40,42,44,46,48,50,52,54,56,58,60,62,64,66,68,70,72,74,76,78,80,82,84,86,88,90,92,94,96,98,100,102,104,106,108,110,7,4,14,16,18,20] [(8,hA1),(6,NR)] [4] [⟨2,[(6,NR)],[8,0]⟩] (.sq (.sq .go .go) (.sq (.sq (.sq .go (.sq (.sq (.loop [10,114,112,14,16,18,20,26,28,30,32,34,36,38,40,42,44,46,48,50,52,54,56,58,60,62,64,66,68,70,72,74,76,78,80,82,84,86,88,90,92,94,96,98,100,102,104,106,108,110,7,6] [(10,hA1),(6,NR)] [20,18,16,14] [⟨4,[(10,hA1),(6,NR)],[20,18,16,14]⟩] (.sq (.sq (.cut [6,7,110,108,106,104,102,100,98,96,94,92,90,88,86,84,82,80,78,76,74,72,70,68,66,64,62,60,58,56,54,52,50,48,46,44,42,40,38,36,34,32,30,28,26] [⟨0,[(6,NR),(110,hA2)],[]⟩] (.opn [(6,0,3)])) .go) .go)) .go) (.sq .go (.sq .go .go)))) .go) .go))) .go)) .go)))
abbrev E42:Env:=eB tab gl 196 true [(182,0),(195,5),(25,1),(62,1),(104,1),(115,1),(182,1),(95,1),(17,1),(22,1),(53,1),(57,1),(48,1),(37,1),(83,1),(105,1),(185,1),(92,1),(195,1),(8,2),(29,2),(9,2),(10,2),(12,2),(13,2),(75,2),(14,2),(11,2),(79,2),(101,2),(110,2),(112,2),(122,2),(124,2),(138,2),(141,2),(155,2),(158,2),(172,2),(175,2),(193,2),(99,2),(15,2)]
abbrev Ol:Plan:=(.sq .go (.sq .go (.sq .go (.sq (.sq .go (.sq (.loop [48,52,54,56,50,60,15,58,44,46,18,38,40,42] [(15,Aj),(18,hA1)] [36,34,32,2] [⟨2,[(15,Aj)],[18,36,34,32,2]⟩] (.sq (.sq .go .go) (.sq .go .go))) .go)) (.sq .go (.sq (.sq .go (.sq (.loop [22,76,74,28,98,96,122,126,128,130,132,134,136,138,140,142,144,1,146,148,124,152,15,150,120,100,102,104,106,108,110,112,114,116,118,88,86,84,82,80,78,66,64,62,90,92,94,26,24,68,70,72] [(22,hA1),(1,hA3),(15,Aj)] [66,64,62] [⟨4,[(1,hA3),(15,Aj)],[22,20,66,64,62,16]⟩] (.sq (.sq .go .go) (.sq (.sq (.sq .go (.sq .go (.sq .go (.sq (.loop [28,98,96,122,126,128,130,132,134,136,138,140,142,144,1,146,148,124,152,15,150,120,100,102,104,106,108,110,112,114,116,118,88,86,84,82,80,78,72,70,68,90,92,94] [(28,hA1),(1,hA3),(15,Aj)] [88,86,84,82,80,78,72,70,68] [⟨6,[(1,hA3),(15,Aj)],[28,26,88,86,24,84,82,80,78,72,70,68]⟩] (.sq (.sq .go .go) (.sq (.sq (.sq (.cut [100,102,104,106,108,110,112,114,116,118,1,120] [⟨0,[(1,hA3),(120,hA2)],[94,92,90]⟩] .go) (.cut [122,126,128,130,132,134,136,138,140,142,144,1,146,148,124,152,15,150] [⟨0,[(1,hA3),(15,Aj)],[120]⟩] .go)) .go) .go))) .go)))) .go) .go))) .go)) (.sq .go (.sq (.sq (.cut [1,174,172,170,168,166,164,162] [⟨0,[(1,hA3),(174,hA2)],[160,158,156,154,4]⟩] .go) (.cut hL8 [⟨0,[(15,Aj),(1,hA3)],[174]⟩] (.sq (.sq .go (.sq (.sq .go (.cut hL8 [⟨0,[(15,Aj),(1,hA3)],[202,204,178,176,174]⟩] (.sq .go (.sq .go (.cut [228,232,234,236,238,240,242,230,246,244,297,314,312,310,308,306,304,302,300,298,296,294,292,290,288,286,287,362,364,366,368,370,372,374,376,378,1,380,382,384,365,388,386,360,358,356,354,355,174,176,178,204,202,226,224,250,248,284,282,318,316,352,350,182,180,30,186,184,198,15,200,190,196,194,192,188,321,320,322,324,326,328,330,332,334,336,338,340,342,344,346,348,331,253,252,254,256,258,260,262,264,266,268,270,272,274,276,278,280,263] [⟨0,[(1,hA3),(15,Aj)],[224,226,202,204,178,176,174]⟩] (.sq .go (.sq .go (.cut [263,280,278,276,274,272,270,268,266,264,262,260,258,256,254,252,253,331,348,346,344,342,340,338,336,334,332,330,328,326,324,322,320,321,188,192,194,196,190,200,15,198,184,186,30,180,182,350,352,316,318,282,284,248,250,224,226,202,204,178,176,174,355,354,356,358,360,386,388,365,384,382,380,1,378,376,374,372,370,368,366,364,362,287,286,288,290,292,294,296,298,300,302,304,306,308,310,312,314,297] [⟨0,[(15,Aj),(1,hA3)],[248,250,224,226,202,204,178,176,174]⟩] (.sq (.sq (.opn [(15,1,126)]) (.cut [15,263,280,278,1,276,274,272,270,268,266,264,262,260] [⟨0,[(15,Aj),(1,hA3)],[258,256,254,252,248,250,224,226,202,204,178,176,174]⟩] (.sq (.opn [(15,1,131)]) .go))) (.sq .go (.cut [297,314,312,310,308,306,304,302,300,298,296,294,292,290,288,286,287,362,364,366,368,370,372,374,376,378,1,380,382,384,365,388,386,360,358,356,354,355,174,176,178,204,202,226,224,250,248,284,282,318,316,352,350,182,180,30,186,184,198,15,200,190,196,194,192,188,321,320,322,324,326,328,330,332,334,336,338,340,342,344,346,348,331] [⟨0,[(1,hA3),(15,Aj)],[282,284,248,250,224,226,202,204,178,176,174]⟩] (.sq (.sq (.opn [(15,1,143)]) (.cut [15,297,314,312,1,310,308,306,304,302,300,298,296,294] [⟨0,[(15,Aj),(1,hA3)],[292,290,288,286,282,284,248,250,224,226,202,204,178,176,174]⟩] (.sq (.opn [(15,1,148)]) .go))) (.sq .go (.cut [331,348,346,344,342,340,338,336,334,332,330,328,326,324,322,320,321,188,192,194,196,190,200,15,198,184,186,30,180,182,350,352,316,318,282,284,248,250,224,226,202,204,178,176,174,355,354,356,358,360,386,388,365,384,382,380,1,378,376,374,372,370,368,366,364,362] [⟨0,[(15,Aj),(1,hA3)],[316,318,282,284,248,250,224,226,202,204,178,176,174]⟩] (.sq (.sq (.opn [(15,1,160)]) (.cut [15,331,348,346,1,344,342,340,338,336,334,332,330,328] [⟨0,[(15,Aj),(1,hA3)],[326,324,322,320,316,318,282,284,248,250,224,226,202,204,178,176,174]⟩] (.sq (.opn [(15,1,165)]) .go))) (.sq .go (.cut [362,364,366,368,370,372,374,376,378,1,380,382,384,365,388,386,360,358,356,354,355,174,176,178,204,202,226,224,250,248,284,282,318,316,352,350,182,180,30,186,184,198,15,200,190,196,194,192,188] [⟨0,[(1,hA3),(15,Aj)],hL9⟩] (.sq (.sq (.opn [(15,1,177)]) (.cut [362,364,366,368,370,372,374,376,378,1,380,382,384,365,388,15,386] [⟨0,[(1,hA3),(15,Aj)],[360,358,356,354,350,352,316,318,282,284,248,250,224,226,202,204,178,176,174]⟩] (.sq (.opn [(15,1,182)]) .go))) (.sq .go (.sq (.loop [188,192,194,196,190,200,15,198,184,186,30,180,182] [(15,Aj),(30,hA1)] hL9 [⟨9,[(15,Aj)],[30,350,352,316,318,282,284,248,250,224,226,202,204,178,176,174]⟩] (.sq (.sq .go .go) (.sq .go .go))) .go)))))))))))))))))))) .go)) .go))) .go))))))))
abbrev E15:Env:=eB tab gl 26 true [(25,5),(8,1),(15,1),(25,1),(9,2),(22,2),(6,2)]
abbrev Om:Plan:=(.sq .go (.sq .go (.sq (.sq .go (.sq (.loop [12,32,30,35,48,46,44,1,42,40,38,36,34,20,22,24,26,28,21,11] [(12,hA1),(1,hA3),(11,Aj)] [18,16,14,2] [⟨2,[(1,hA3),(11,Aj)],[12,18,16,14,2]⟩] (.sq (.sq (.opn [(11,0,10)]) .go) (.sq (.sq (.opn [(11,0,17)]) .go) .go))) .go)) .go)))
abbrev E43:Env:=eB tab gl 33 true [(18,1),(23,1),(27,1),(32,1),(28,1),(29,1),(12,1),(7,2),(8,2),(5,2),(6,2),(4,2)]
abbrev Oo:Plan:=(.sq .go (.sq .go (.sq (.sq .go (.sq (.loop [28,30,32,34,1,14,38,40,42,36,44,48,50,46,52,16,56,58,60,54,10,62,24,26,12,18,20,22] [(1,hA3),(10,qW),(12,hA1)] [8] [⟨2,[(1,hA3),(10,qW)],[12,2]⟩] (.sq (.sq .go .go) (.sq (.sq (.sq .go (.sq .go (.sq .go .go))) .go) .go))) .go)) .go)))
abbrev E16:Env:=eB tab gl 111 true [(110,5),(41,1),(87,1),(66,1),(30,1),(25,1),(58,1),(75,1),(80,1),(106,1),(67,1),(110,1),(4,2),(15,2),(9,2),(8,2),(54,2),(10,2),(73,2),(76,2),(78,2),(82,2),(84,2),(96,2),(98,2),(107,2),(71,2)]
abbrev Oq:Plan:=(.sq .go (.sq .go (.sq .go (.sq .go (.sq (.sq .go (.sq (.loop [20,52,50,108,15,110,82,106,104,102,100,98,96,94,92,90,88,86,84,80,78,76,74,72,70,68,66,64,62,60,58,56,54,40,38,36,34,32,30,28,26,24,22,2,16,1,42,44,46,48,19,18] [(20,hA1),(15,RO),(16,hA1),(1,hA3),(18,qW)] [40,38,36,34,32,30,28,26,24,22,2] [⟨2,[(15,RO),(16,hA1),(1,hA3)],[20,18,40,38,36,34,32,30,28,26,24,22,8,2]⟩] (.sq (.sq (.opn [(18,0,9)]) .go) (.sq (.sq (.sq (.sq .go .go) (.sq .go (.sq .go (.cut [18,19,108,15,110,82,106,104,102,100,98,96,94,92,90,88,86,84,80] [⟨0,[(18,qW),(15,RO)],[78,76,74,72,70,68,66,64,62,60,58,56,54,48,46,44,42]⟩] (.sq (.opn [(18,0,9)]) .go))))) .go) .go))) .go)) (.sq (.sq (.cut [1,124,122,120,118,116,114,112] [⟨0,[(1,hA3),(124,hA2)],[4]⟩] .go) (.cut ab0 [⟨0,[(15,RO),(1,hA3)],[124,16]⟩] (.sq (.sq .go (.sq (.sq .go (.cut ab0 [⟨0,[(15,RO),(1,hA3)],[146,148,128,126,124,16]⟩] (.sq .go (.sq .go (.cut [166,162,164,160,209,218,216,1,214,212,210,208,206,204,202,200,196,198,168,170,156,158,146,148,128,126,124,16,201,142,15,144,132,140,138,136,134,130,192,194,174,190,188,184,186,182,178,180,176,172] [⟨0,[(1,hA3),(15,RO)],[156,158,146,148,128,126,124,16]⟩] (.sq .go (.sq .go (.cut [172,176,180,178,182,186,184,188,190,174,194,192,130,134,136,138,140,132,144,15,142,201,16,124,126,128,148,146,158,156,170,168,198,196,200,202,204,206,208,210,212,214,1,216,218,209] [⟨0,[(15,RO),(1,hA3)],[168,170,156,158,146,148,128,126,124,16]⟩] (.sq .go (.sq .go (.cut [209,218,216,1,214,212,210,208,206,204,202,200,196,198,168,170,156,158,146,148,128,126,124,16,201,142,15,144,132,140,138,136,134,130] [⟨0,[(1,hA3),(15,RO)],[196,198,168,170,156,158,146,148,128,126,124,16]⟩] (.sq (.sq (.opn [(15,2,100)]) (.cut [15,209,218,216,1,214,212,210,208] [⟨0,[(15,RO),(1,hA3)],[206,204,202,200,196,198,168,170,156,158,146,148,128,126,124,16]⟩] (.sq (.opn [(15,2,104)]) .go))) .go)))))))))))) .go)) .go))) .go))))))
abbrev E19:Env:=eB tab gl 33 true [(32,1),(9,1),(14,1),(20,1),(25,1),(4,2),(6,2)]
abbrev Ot:Plan:=(.sq .go (.sq (.sq (.cut [1,14,16,18,20,22,24,26,28,30,32,34,36,38] [⟨0,[(1,hA3),(38,hA2)],[2,4]⟩] .go) (.sq .go .go)) .go))
abbrev E60:Env:=eB tab gl 12 false [(7,1),(4,2)]
abbrev Ou:Plan:=(.sq .go (.sq (.cut [8,22,20,18,16,14,12,10] [⟨0,[(8,hA2)],[0,2]⟩] .go) .go))
abbrev E53:Env:=eB tab gl 17 false [(5,1),(9,1),(13,1),(2,2)]
abbrev Ov:Plan:=(.sq .go (.sq (.cut hL4 [⟨0,[(4,hA2)],[0]⟩] .go) .go))
abbrev E91:Env:=eB tab gl 9 false [(6,1),(2,2)]
abbrev Ox:Plan:=(.sq .go (.sq (.sq .go (.sq .go .go)) .go))
abbrev E61:Env:=eB tab gl 14 false [(7,1),(4,2)]
abbrev Oy:Plan:=(.sq .go (.sq (.cut hL5 [⟨0,[(8,hA2)],[0,2]⟩] .go) .go))
abbrev E30:Env:=eB tab gl 54 false [(6,1),(11,1),(16,1),(21,1),(28,1),(33,1),(38,1),(43,1),(48,1),(1,2),(2,2)]
abbrev Oz:Plan:=(.sq .go (.sq (.cut hL6 [⟨0,[(4,hA2)],[2,0]⟩] .go) .go))
abbrev E31:Env:=eB tab gl 9 false [(1,2),(2,2)]
abbrev OA:Plan:=(.sq .go (.sq (.sq .go (.sq .go .go)) .go))
abbrev E62:Env:=eB tab gl 14 false [(2,2)]
abbrev OB:Plan:=(.sq .go (.sq (.sq .go (.sq .go .go)) .go))
abbrev E32:Env:=eB tab gl 7 false [(5,1),(2,2)]
abbrev OC:Plan:=(.sq .go (.sq (.sq .go (.sq .go .go)) .go))
abbrev E63:Env:=eB tab gl 15 false [(8,1),(10,1),(6,2)]
abbrev OD:Plan:=(.sq .go (.sq (.cut hL2 [⟨0,[(12,hA2)],[0,2,4]⟩] .go) .go))
abbrev E33:Env:=eB tab gl 33 false [(32,1),(12,1),(19,1),(24,1),(25,1),(27,1),(8,2),(6,2)]
abbrev OE:Plan:=(.sq .go (.sq (.sq (.cut ab1 [⟨0,[(46,hA2)],[]⟩] .go) (.sq .go .go)) (.sq .go (.sq (.sq .go (.sq .go .go)) .go))))
abbrev E36:Env:=eB tab gl 32 false [(31,5),(9,1),(14,1),(24,1),(31,1),(2,2),(21,2),(25,2),(29,2)]
abbrev OG:Plan:=(.sq .go (.sq (.sq (.cut ab2 [⟨0,[(40,hA2)],[0]⟩] .go) (.sq .go .go)) (.sq .go (.sq .go .go))))
abbrev E81:Env:=eB tab gl 15 false [(8,1),(10,1),(6,2)]
abbrev OH:Plan:=(.sq .go (.sq (.cut hL2 [⟨0,[(12,hA2)],[0,2,4]⟩] .go) .go))
abbrev E44:Env:=eB tab gl 23 false [(10,1),(4,2),(5,2)]
abbrev OI:Plan:=(.sq .go (.sq (.sq (.cut [28,26,24,22,20,18,16,14] [⟨0,[(28,hA2)],[]⟩] .go) (.sq .go .go)) .go))
abbrev E90:Env:=eB tab gl 19 false [(17,1),(8,1),(5,2),(4,2)]
abbrev OJ:Plan:=(.sq .go (.sq (.sq .go (.sq (.loop hL1 [(16,hA1)] [12,8] [⟨1,[(8,hA1)],[16,14,12,0,2]⟩,⟨2,[],[16,14,12,0,2]⟩] (.sq .go (.sq .go (.sq (.sq (.sq .go (.sq .go (.sq .go .go))) .go) .go)))) .go)) .go))
abbrev E59:Env:=eB tab gl 9 false [(5,1),(6,1),(4,2)]
abbrev OL:Plan:=(.sq .go .go)
abbrev E74:Env:=eB tab gl 33 false [(32,1),(12,1),(19,1),(24,1),(25,1),(27,1),(8,2),(6,2)]
abbrev OM:Plan:=(.sq .go (.sq (.sq (.cut ab1 [⟨0,[(46,hA2)],[]⟩] .go) (.sq .go .go)) (.sq .go (.sq (.sq .go (.sq .go .go)) .go))))
abbrev E82:Env:=eB tab gl 9 false [(5,1),(2,2)]
abbrev OO:Plan:=(.sq .go (.sq (.cut [4,16,14,12,10,8,6] [⟨0,[(4,hA2)],[0]⟩] .go) .go))
abbrev E83:Env:=eB tab gl 21 false [(11,1),(2,2),(5,2)]
abbrev OP:Plan:=(.sq .go (.sq (.sq .go (.sq (.loop [8,26,28,30,32,34,36,38,40,22,24,10,12,14,16,18,20] [(10,hA1)] [8,0] [⟨1,[(8,hA2)],[10,4,0,2]⟩,⟨2,[],[10,4,0,2]⟩] (.sq (.sq .go .go) (.sq (.sq (.sq .go (.sq .go .go)) .go) .go))) .go)) .go))
abbrev E49:Env:=eB tab gl 182 false [(16,1),(36,1),(27,1),(50,1),(82,1),(88,1),(93,1),(71,1),(114,1),(103,1),(130,1),(168,1),(150,1),(1,2),(3,2),(4,2),(77,2),(5,2),(7,2),(8,2),(157,2),(162,2),(9,2)]
abbrev OQ:Plan:=(.sq .go (.sq (.sq (.cut [42,40,38,36,34,32,30,28,26,24] [⟨0,[(42,hA2)],[0]⟩] .go) (.sq .go .go)) (.sq (.sq .go (.sq (.loop [6,56,54,58,60,62,64,66,68,70,72,74,76,78,80,82,84,86,88,42,4,44,46,48,50,52] [(6,hA1)] [42,4] [⟨1,[(4,hA1)],[6,42]⟩,⟨2,[],[6,42]⟩] (.sq (.sq .go .go) (.sq (.sq (.sq (.cut [58,60,62,64,66,68,70,72,74,76,78,80,82,84,86,88] [⟨0,[(88,hA2)],[52,50,48,46,44]⟩] .go) (.sq .go .go)) .go) .go))) .go)) (.sq (.sq .go (.sq (.loop [8,102,100,130,128,126,124,122,120,118,116,114,112,110,108,106,104,4,90,92,94,96,98] [(8,hA1)] [] [⟨1,[(4,hA1)],[8]⟩,⟨4,[],[8]⟩] (.sq (.sq .go .go) (.sq (.sq (.sq .go (.sq .go .go)) .go) .go))) .go)) (.sq (.sq .go (.sq (.loop [4,13,146,148,150,152,154,12,156,158,160,162,164,166,168,170,172,174,176,178,180,182,184,186,188,190,192,194,142,144,10,132,134,136,138,140] [(10,hA1)] [] [⟨1,[(4,hA1)],[10]⟩,⟨6,[],[10]⟩] (.sq (.sq .go .go) (.sq (.sq (.sq .go (.sq (.cut [194,192,190,188,186,184,182,180,178,176,174,172,170,168,166,164,162,160,158,156] [⟨0,[(194,hA2)],[12,154,152,150,148,146,140,138,136,134,132]⟩] .go) (.sq .go .go))) .go) .go))) .go)) (.sq (.sq .go (.sq (.loop [14,208,206,210,212,214,216,218,220,222,224,226,228,230,232,234,236,238,240,242,244,246,248,4,196,198,200,202,204] [(14,hA1)] [] [⟨1,[(4,hA1)],[14]⟩,⟨8,[],[14]⟩] (.sq (.sq .go .go) (.sq (.sq (.sq (.cut [210,212,214,216,218,220,222,224,226,228,230,232,234,236,238,240,242,244,246,248] [⟨0,[(248,hA2)],[204,202,200,198,196]⟩] .go) (.sq .go .go)) .go) .go))) .go)) (.sq (.sq .go (.sq (.loop [16,262,260,288,286,284,282,280,278,276,274,272,270,268,266,264,4,250,252,254,256,258] [(16,hA1)] [] [⟨1,[(4,hA1)],[16]⟩,⟨10,[],[16]⟩] (.sq (.sq .go .go) (.sq (.sq (.sq .go (.sq .go .go)) .go) .go))) .go)) (.sq (.sq .go (.sq (.loop [18,302,300,362,360,358,356,354,352,350,348,346,344,342,340,338,336,334,332,330,328,326,22,20,324,322,320,318,316,314,312,310,308,306,304,23,21,4,290,292,294,296,298] [(18,hA1)] [] [⟨1,[(4,hA1)],[18,2]⟩,⟨12,[],[18,2]⟩] (.sq (.sq .go .go) (.sq (.sq (.sq .go (.sq (.cut [362,360,358,356,354,352,350,348,346,344,342,340,338,336,334,332,330,328,326] [⟨0,[(362,hA2)],[22,20,324,322,320,318,316,314,312,310,308,306,304,298,296,294,292,290]⟩] .go) (.sq .go .go))) .go) .go))) .go)) .go))))))))
abbrev E84:Env:=eB tab gl 25 false [(14,1),(9,1),(4,2),(3,2)]
abbrev OT:Plan:=(.sq .go (.sq (.sq .go (.sq (.loop [6,20,18,8,30,28,48,46,44,42,40,38,36,34,32,4,22,24,26,10,12,14,16] [(6,hA1)] [4] [⟨1,[(4,hA2)],[6,0]⟩,⟨2,[],[6,0]⟩] (.sq (.sq .go .go) (.sq (.sq (.sq .go (.sq (.loop [8,30,28,48,46,44,42,40,38,36,34,32,4,22,24,26] [(8,hA1)] [16,14,12,10] [⟨1,[(4,hA2)],[8,16,14,12,10]⟩,⟨4,[],[8,16,14,12,10]⟩] (.sq (.sq .go .go) (.sq (.sq (.sq .go (.sq .go .go)) .go) .go))) .go)) .go) .go))) .go)) .go))
abbrev E50:Env:=eB tab gl 79 false [(71,1),(10,1),(27,1),(49,1),(55,1),(38,1),(76,1),(1,2),(44,2),(3,2),(4,2),(2,2)]
abbrev OU:Plan:=(.sq .go (.sq (.sq (.cut [12,14,16,18,20,22,24,26,28,30,32,34,36,38,40,42,44,46,48,50,52,54,56,58,60,62,64] [⟨0,[(64,hA2)],[0]⟩] .go) (.sq .go .go)) (.sq .go (.sq (.sq .go (.sq (.loop [4,8,78,76,150,6,142,148,146,144,140,138,136,134,132,130,128,126,124,122,120,118,116,114,112,110,108,106,104,102,100,98,96,94,92,90,88,86,84,82,80,64,11,10,66,68,70,72,74] [(8,hA1),(6,qW)] [64,4] [⟨1,[(4,hA2)],[8,64,2]⟩,⟨2,[(6,qW)],[8,64,2]⟩] (.sq (.sq .go .go) (.sq (.sq (.sq .go (.sq (.sq (.cut [140,138,136,134,132,130,128,126,124,122,120,118,116,114,112,110,108,106,104,102,100,98,96,94,92,90] [⟨0,[(140,hA2)],[88,86,84,82,80,74,72,70,68,66]⟩] .go) (.sq .go .go)) .go)) .go) .go))) .go)) (.sq (.opn [(6,0,3)]) .go)))))
abbrev E93:Env:=eB tab gl 23 false [(10,1),(4,2),(5,2)]
abbrev OV:Plan:=(.sq .go (.sq (.sq (.cut [28,26,24,22,20,18,16,14] [⟨0,[(28,hA2)],[]⟩] .go) (.sq .go .go)) .go))
abbrev E85:Env:=eB tab gl 30 false [(29,1),(26,1),(14,1),(2,2),(4,2),(5,2)]
abbrev OW:Plan:=(.sq .go (.sq (.sq .go (.sq .go .go)) (.sq (.sq .go (.sq (.loop [48,50,52,54,56,58,8,32,34,36,38,40,42,44,46,28,30,10,18,20,22,24,26] [(10,hA1)] [16,14,12,8,0] [⟨1,[(8,hA2)],[10,16,14,12,4,0,2]⟩,⟨2,[],[10,16,14,12,4,0,2]⟩] (.sq (.sq .go .go) (.sq (.sq (.sq .go (.sq .go .go)) .go) .go))) .go)) .go)))
abbrev E96:Env:=eB tab gl 13 false [(8,1),(2,2),(4,2)]
abbrev OX:Plan:=(.sq .go (.sq (.cut [8,24,22,20,18,16,14,12,10] [⟨0,[(8,hA2)],[4,0,2]⟩] .go) .go))
abbrev afy:Env:=eB tab gl 46 false [(33,1),(45,1),(26,1),(38,1),(15,1),(3,2),(21,2),(6,2),(8,2)]
abbrev JC:Plan:=(.sq .go (.sq (.sq .go (.sq (.loop [66,64,14,12,90,88,18,19,0,34,36,38,40,42,44,46,48,50,52,54,56,58,60,62,68,70,72,74,76,78,80,82,84,86,30,32,16,20,22,24,26,28] [(16,hA1)] [14,12,0] [⟨1,[(14,hA2),(12,hA1)],[16,6,0,2,4]⟩,⟨2,[],[16,6,0,2,4]⟩] (.sq (.sq .go .go) (.sq (.sq (.sq .go (.sq (.sq (.cut [62,60,58,56,54,52,50,48,46,44] [⟨0,[(62,hA2)],[42,40,38,36,34,28,26,24,22,20]⟩] .go) (.sq .go .go)) (.sq (.cut [86,84,82,80,78,76,74,72,70,68] [⟨0,[(86,hA2)],[62]⟩] .go) (.sq .go .go)))) .go) .go))) .go)) .go))
abbrev afz:Env:=eB tab gl 39 false [(29,1),(38,1),(16,1),(28,1),(14,1),(2,2),(7,2),(8,2),(5,2),(6,2),(4,2)]
abbrev JD:Plan:=(.sq .go (.sq .go (.sq (.sq .go (.sq (.loop [0,34,36,38,40,42,44,46,48,50,32,52,54,14,16,56,60,62,64,66,68,70,72,58,10,74,28,30,12,18,20,22,24,26] [(10,qW),(12,hA1)] [8,0] [⟨2,[(10,qW)],[12,4,0,2]⟩] (.sq (.sq .go .go) (.sq (.sq (.sq .go (.sq .go (.cut [74,10,58,72,70,68,66,64,62,60] [⟨0,[(10,qW)],[56,16,14,54,52,32,50,48,46,44,42,40,38,36,34,26,24,22,20,18]⟩] .go))) .go) .go))) .go)) .go)))
abbrev E52:Env:=eB tab gl 15 false [(8,1),(10,1),(6,2)]
abbrev OY:Plan:=(.sq .go (.sq (.cut hL2 [⟨0,[(12,hA2)],[0,2,4]⟩] .go) .go))
abbrev E89:Env:=eB tab gl 6 false [(3,1),(2,2)]
abbrev OZ:Plan:=(.sq .go .go)
abbrev afA:Env:=eB tab gl 19 false [(17,1),(8,1),(5,2),(4,2)]
abbrev JE:Plan:=(.sq .go (.sq (.sq .go (.sq (.loop hL1 [(16,hA1)] [12,8] [⟨1,[(8,hA1)],[16,14,12,0,2]⟩,⟨2,[],[16,14,12,0,2]⟩] (.sq .go (.sq .go (.sq (.sq (.sq .go (.sq .go (.sq .go .go))) .go) .go)))) .go)) .go))
abbrev E88:Env:=eB tab gl 9 false [(5,1),(6,1),(4,2)]
abbrev O1:Plan:=(.sq .go .go)
abbrev E55:Env:=eB tab gl 12 false [(7,1),(1,2),(2,2)]
abbrev O4:Plan:=(.sq .go (.sq (.cut [4,22,20,18,16,14,12,10,8,6] [⟨0,[(4,hA2)],[2,0]⟩] .go) .go))
abbrev E56:Env:=eB tab gl 7 false [(1,2),(2,2)]
abbrev O5:Plan:=(.sq .go .go)
abbrev E58:Env:=eB tab gl 15 false [(8,1),(2,2),(3,2)]
abbrev O6:Plan:=(.sq .go (.sq (.cut [6,28,26,24,22,20,18,16,14,12,10,8] [⟨0,[(6,hA2)],[4,0,2]⟩] .go) .go))
abbrev E87:Env:=eB tab gl 19 false [(17,1),(8,1),(5,2),(4,2)]
abbrev O7:Plan:=(.sq .go (.sq (.sq .go (.sq (.loop hL1 [(16,hA1)] [12,8] [⟨1,[(8,hA1)],[16,14,12,0,2]⟩,⟨2,[],[16,14,12,0,2]⟩] (.sq .go (.sq .go (.sq (.sq (.sq .go (.sq .go (.sq .go .go))) .go) .go)))) .go)) .go))
abbrev E54:Env:=eB tab gl 9 false [(5,1),(6,1),(4,2)]
abbrev O8:Plan:=(.sq .go .go)
abbrev afB:Env:=eB tab gl 19 false [(17,1),(8,1),(5,2),(4,2)]
abbrev JF:Plan:=(.sq .go (.sq (.sq .go (.sq (.loop hL1 [(16,hA1)] [12,8] [⟨1,[(8,hA1)],[16,14,12,0,2]⟩,⟨2,[],[16,14,12,0,2]⟩] (.sq .go (.sq .go (.sq (.sq (.sq .go (.sq .go (.sq .go .go))) .go) .go)))) .go)) .go))
abbrev ab4:Env:=eB tab gl 9 false [(5,1),(6,1),(4,2)]
abbrev FH:Plan:=(.sq .go .go)
abbrev afC:Env:=eB tab gl 19 false [(17,1),(8,1),(5,2),(4,2)]
abbrev JG:Plan:=(.sq .go (.sq (.sq .go (.sq (.loop hL1 [(16,hA1)] [12,8] [⟨1,[(8,hA1)],[16,14,12,0,2]⟩,⟨2,[],[16,14,12,0,2]⟩] (.sq .go (.sq .go (.sq (.sq (.sq .go (.sq .go (.sq .go .go))) .go) .go)))) .go)) .go))
abbrev ab5:Env:=eB tab gl 9 false [(5,1),(6,1),(4,2)]
abbrev FI:Plan:=(.sq .go .go)
abbrev E57:Env:=eB tab gl 24 false [(11,1),(6,1),(3,2)]
abbrev O9:Plan:=(.sq .go (.sq (.sq .go (.sq (.loop [12,46,18,20,22,24,26,28,30,32,34,36,38,40,42,44,6,16,8,4,14] [(12,hA1)] [8,4] [⟨1,[(4,hA2)],[12,10,8,0]⟩,⟨2,[],[12,10,8,0]⟩] (.sq .go (.sq .go (.sq (.sq (.sq .go (.sq (.cut [18,20,22,24,26,28,30,32,34,36,38,40,42,44] [⟨0,[(44,hA2)],[6,16,14]⟩] .go) (.sq .go .go))) .go) .go)))) .go)) .go))
abbrev E29:Env:=eB tab gl 84 false [(49,101),(83,102),(9,1),(20,1),(26,1),(36,1),(46,1),(63,1),(54,1),(1,2),(3,2),(15,2),(41,2),(4,2),(58,2)]
abbrev Pb:Plan:=(.sq .go (.sq (.cut [6,28,26,24,22,20,18,16,14,12] [⟨0,[(6,hA2)],[0]⟩] .go) (.sq (.sq (.sq (.cut [30,80,78,76,74,72,70,68,66,64,62,60,58,56,54,52,50,48,46,44,42,40,38,36,34,32] [⟨0,[(30,hA2)],[6]⟩] .go) (.sq .go (.sq (.cut [82,100,98,96,94,92,90,88,86,84] [⟨0,[(82,hA2)],[30]⟩] .go) (.sq .go .go)))) .go) (.sq (.sq .go (.sq (.loop [4,11,82,102,112,114,116,10,8,156,154,152,150,148,146,144,142,140,138,136,134,132,130,128,126,124,122,120,118,158,108,110] [(108,hA1)] [102,82,4] [⟨1,[(4,hA1)],[108,106,104,102,82]⟩,⟨3,[],[108,106,104,102,82]⟩] (.sq .go (.sq .go (.sq (.sq (.sq .go (.sq (.cut [118,120,122,124,126,128,130,132,134,136,138,140,142,144,146,148,150,152,154,156] [⟨0,[(156,hA2)],[8,10,116,114,112,110]⟩] .go) (.sq .go .go))) .go) .go)))) .go)) (.sq (.sq (.opk [(2,0,0)]) (.sq .go .go)) .go)))))
abbrev E68:Env:=eB tab gl 15 false [(8,1),(10,1),(6,2)]
abbrev Pf:Plan:=(.sq .go (.sq (.cut hL2 [⟨0,[(12,hA2)],[0,2,4]⟩] .go) .go))
abbrev E37:Env:=eB tab gl 166 false [(14,1),(20,1),(61,1),(42,1),(83,1),(108,1),(128,1),(98,1),(155,1),(145,1),(1,2),(4,2),(3,2),(5,2),(7,2),(8,2),(6,2),(9,2)]
abbrev Pg:Plan:=(.sq .go (.sq (.sq (.cut [20,22,24,26,28,30,32,34,36,38,40,42,44,46,48,50,52,54,56,58,60,62,64,66,68,70,72] [⟨0,[(72,hA2)],[0]⟩] .go) (.sq .go .go)) (.sq (.sq .go (.sq (.loop [72,88,90,92,94,96,98,100,102,8,124,122,146,144,142,140,138,136,134,132,130,128,126,4,104,106,108,110,112,114,116,118,120,84,86,6,74,76,78,80,82] [(6,hA1)] [72,4] [⟨1,[(4,hA1)],[6,72]⟩,⟨2,[],[6,72]⟩] (.sq (.sq .go .go) (.sq (.sq (.sq (.sq .go (.sq .go .go)) (.sq .go (.sq (.loop [120,118,116,114,112,110,108,106,104,4,126,128,130,132,134,136,138,140,142,144,146,122,124,8] [(8,hA1)] [102,100,98,96,94,92,90,88,82,80,78,76,74] [⟨1,[(4,hA1)],ab3⟩,⟨4,[],ab3⟩] (.sq (.sq .go .go) (.sq (.sq (.sq .go (.sq .go .go)) .go) .go))) .go))) .go) .go))) .go)) (.sq (.sq .go (.sq .go .go)) (.sq (.sq .go (.sq (.loop [4,170,172,174,176,178,180,182,184,166,168,10,156,158,160,162,164] [(10,hA1)] [154,152,150,148] [⟨1,[(4,hA1)],[10,154,152,150,148]⟩,⟨6,[],[10,154,152,150,148]⟩] (.sq (.sq .go .go) (.sq (.sq (.sq .go (.sq .go .go)) .go) .go))) .go)) (.sq (.sq .go (.sq (.loop [200,202,204,206,208,210,244,242,240,238,236,234,232,230,228,226,224,222,220,218,216,214,212,14,246,254,252,250,248,4,260,262,264,266,268,270,272,274,276,278,256,258,16,196,198,12,186,188,190,192,194] [(12,hA1)] [] [⟨1,[(4,hA1)],[12]⟩,⟨8,[],[12]⟩] (.sq (.sq .go .go) (.sq (.sq (.sq .go (.sq (.sq (.cut [212,214,216,218,220,222,224,226,228,230,232,234,236,238,240,242,244,246] [⟨0,[(246,hA2)],[210,208,206,204,202,200,194,192,190,188,186]⟩] .go) (.sq .go .go)) (.sq .go (.sq (.loop [16,258,256,278,276,274,272,270,268,266,264,262,260,4,248,250,252,254] [(16,hA1)] [246] [⟨1,[(4,hA1)],[16,246,14]⟩,⟨10,[],[16,246,14]⟩] (.sq (.sq .go .go) (.sq (.sq (.sq .go (.sq .go .go)) .go) .go))) .go)))) .go) .go))) .go)) (.sq (.sq .go (.sq (.loop [18,292,290,294,296,298,300,302,304,306,308,310,312,314,316,318,320,322,324,326,328,330,4,280,282,284,286,288] [(18,hA1)] [] [⟨1,[(4,hA1)],[18,2]⟩,⟨12,[],[18,2]⟩] (.sq (.sq .go .go) (.sq (.sq (.sq (.cut [294,296,298,300,302,304,306,308,310,312,314,316,318,320,322,324,326,328,330] [⟨0,[(330,hA2)],[288,286,284,282,280]⟩] .go) (.sq .go .go)) .go) .go))) .go)) .go)))))))
abbrev E64:Env:=eB tab gl 26 false [(7,1),(10,1),(14,1),(18,1),(22,1),(3,2),(6,2)]
abbrev Ph:Plan:=(.sq .go (.sq (.cut [14,7,16,18,20,22,24,26,28,30,32,34,36,38,40,42,44,46,48,50,12] [⟨0,[(12,hA2)],[6,0,2,4]⟩] .go) .go))
abbrev E95:Env:=eB tab gl 28 false [(24,1),(12,1),(2,2),(26,2),(6,2),(27,2)]
abbrev Pj:Plan:=(.sq .go (.sq (.sq .go (.sq (.loop [44,46,48,50,52,9,10,28,30,32,34,36,38,40,42,24,26,12,14,16,18,20,22] [(9,RP),(12,hA1)] [10,0] [⟨1,[(9,WX),(10,hA2)],[12,4,0,2]⟩,⟨2,[(9,RP)],[12,4,0,2]⟩] (.sq (.sq .go .go) (.sq (.sq (.sq .go (.sq .go .go)) .go) .go))) .go)) .go))
abbrev E65:Env:=eB tab gl 26 false [(19,1),(11,1),(2,2),(14,2),(23,2),(25,2)]
abbrev Pm:Plan:=(.sq .go (.sq (.sq .go (.sq (.loop [10,46,9,44,42,40,38,26,28,14,15,30,32,34,36,48,22,24] [(9,RP),(22,hA1)] [16,10,4,0] [⟨1,[(10,hA2),(9,RP)],[22,20,18,16,4,0,2]⟩,⟨2,[(9,RP)],[22,20,18,16,4,0,2]⟩] (.sq .go (.sq .go (.sq (.sq (.sq .go (.sq .go (.sq .go .go))) .go) .go)))) .go)) .go))
abbrev E66:Env:=eB tab gl 18 false [(17,1),(11,1),(2,2),(4,2)]
abbrev Po:Plan:=(.sq .go (.sq (.sq .go (.sq .go .go)) .go))
abbrev E75:Env:=eB tab gl 32 false [(31,1),(10,1),(11,1),(9,1),(15,1),(17,1),(25,1),(3,2),(13,2),(8,2),(6,2)]
abbrev Pp:Plan:=(.sq .go (.sq .go (.sq (.sq (.cut [44,42,40,38,36,34,32,30] [⟨0,[(44,hA2)],[16,28,26,18,24,22,20,6,0,2]⟩] .go) (.sq .go .go)) .go)))
abbrev E34:Env:=eB tab gl 22 false [(14,1),(15,1),(13,1),(19,1),(20,1),(3,2),(17,2),(8,2),(6,2)]
abbrev Pq:Plan:=(.sq .go (.sq (.sq .go (.sq .go .go)) (.sq .go .go)))
abbrev E12:Env:=eB tab gl 26 false [(25,1),(18,1),(14,1),(1,2),(3,2),(17,2),(2,2)]
abbrev Pt:Plan:=(.sq .go (.sq .go (.sq (.sq .go (.sq (.loop [32,34,10,11,36,38,40,42,44,46,6,48,28,30] [(6,Gn),(28,hA1)] [22,20,18,16,14,12,4,2,0] [⟨2,[(6,Gn)],[28,26,24,22,20,18,16,14,12,2,0]⟩] (.sq .go (.sq .go (.sq (.sq .go .go) .go)))) .go)) .go)))
abbrev E77:Env:=eB tab gl 45 false [(44,1),(19,1),(27,1),(28,1),(32,1),(40,1),(17,1),(4,2),(11,2),(12,2),(9,2),(10,2),(8,2)]
abbrev Pv:Plan:=(.sq .go (.sq .go (.sq (.sq .go (.sq (.loop [20,36,34,18,86,84,82,80,78,54,56,58,60,62,64,66,68,70,72,74,76,24,22,52,50,38,48,46,44,42,40,0,26,28,30,32] [(20,hA1),(18,Gn)] [16,0] [⟨2,[(18,Gn)],[20,8,0,2,4,6]⟩] (.sq (.sq .go .go) (.sq (.sq (.sq .go (.sq (.cut [54,56,58,60,62,64,66,68,70,72,74,76,78] [⟨0,[(78,hA2)],[24,22,52,50,38,48,46,44,42,40,32,30,28,26]⟩] .go) (.cut [18,86,84,82,80] [⟨0,[(18,Gn)],[78]⟩] .go))) .go) .go))) .go)) .go)))
abbrev E9:Env:=eB tab gl 129 false [(128,5),(112,1),(22,1),(39,1),(60,1),(57,1),(67,1),(78,1),(79,1),(90,1),(91,1),(105,1),(104,1),(110,1),(113,1),(114,1),(125,1),(126,1),(128,1),(2,2),(3,2),(18,2),(27,2),(28,2),(32,2),(33,2),(46,2),(6,2),(8,2),(9,2),(10,2),(11,2),(12,2),(13,2),(71,2),(76,2),(81,2),(88,2),(14,2),(101,2),(108,2),(17,2),(118,2),(123,2)]
abbrev Uh:Plan:=(.sq .go (.sq (.sq (.sq (.cut [36,52,50,48,46,44,42,40,38] [⟨0,[(36,hA2)],[0,2]⟩] .go) (.sq .go (.sq .go (.sq .go (.sq (.cut [66,90,88,86,84,82,80,78,76,74,72,70,68] [⟨0,[(66,hA2)],[56,62,60,58,36]⟩] .go) (.sq .go .go)))))) .go) (.sq .go (.sq .go (.sq .go (.sq .go (.sq (.sq (.loop [160,158,156,154,152,150,148,146,184,182,180,178,176,174,172,170,28,31,66,94,96,98,100,106,108,18,110,112,20,116,118,120,122,124,126,114,128,130,22,24,132,134,136,138,26,140,144,142,164,166,168,162,186,188,190,192,194,196,198,200,202,30,204,206,210,212,214,208,216,218,32,34,220,15,248,246,244,242,240,236,238,224,232,234,230,33,228,226,222,250,252,254,16,102,104] [(15,FE),(16,Gn)] [100,98,96,94,66,10] [⟨3,[(15,FE)],[16,100,98,12,96,94,66,6,4]⟩] (.sq (.sq .go .go) (.sq (.sq .go (.sq .go (.sq .go (.sq .go (.sq (.sq .go (.sq (.sq .go (.sq (.sq .go .go) (.sq .go (.sq (.sq .go .go) .go)))) .go)) (.sq .go (.sq .go (.sq .go (.sq (.sq .go (.sq .go (.cut [222,226,228,33,230,234,232,224,238,236,240,242,244,246,248,15] [⟨0,[(15,FE)],[220,34,32,218,216,208,214,212,210,206,204,30,202,200,198,196,194,192,190,188,186,162,168,166,164,142,144,140,26,138,136,134,132,24,22,130,128,114,126,124,122,120,118,116,20,112,110,18,108,106,104,102]⟩] .go))) .go))))))))) .go))) .go) .go)))))))
abbrev E17:Env:=eB tab gl 93 true [(92,5),(29,1),(54,1),(67,1),(71,1),(78,1),(52,1),(86,1),(92,1),(3,2),(11,2),(13,2),(15,2),(43,2),(7,2),(8,2),(9,2),(80,2),(6,2),(90,2)]
abbrev Pw:Plan:=(.sq .go (.sq .go (.sq .go (.sq (.sq .go (.cut [11,48] [⟨0,[(11,D7)],[46,44,42,40,38,36,34,32,30,28,26,24,22,20,2]⟩] .go)) (.sq (.sq .go (.cut [60,62,64,66,68,70,72,1,74,76,78,80,82,58,84,86,88,90,92,11] [⟨0,[(1,hA3),(11,D7)],[56,54,52,50]⟩] .go)) (.sq (.sq .go (.sq (.loop [110,112,114,116,118,120,122,124,126,108,128,130,132,14,18,134,136,138,140,142,144,146,148,1,16,150,152,154,156,158,160,162,11,104,106,12,94,96,98,100,102] [(1,hA3),(11,D7),(12,hA1)] [] [⟨2,[(1,hA3),(11,D7)],[12,6]⟩] (.sq (.sq .go .go) (.sq (.sq (.sq .go (.sq (.cut [1,150,148,146,144,142,140,138,136,134] [⟨0,[(1,hA3),(150,hA2)],[18,14,132,130,128,108,126,124,122,120,118,116,114,112,110,102,100,98,96,94]⟩] .go) (.cut [11,162,160,158,156,154,152] [⟨0,[(11,D7)],[150,16]⟩] .go))) .go) .go))) .go)) (.sq (.sq .go (.cut [11,182,180,1,178,176,174,172,170,168] [⟨0,[(11,D7),(1,hA3)],[166,164]⟩] .go)) .go)))))))
abbrev E5:Env:=eB tab gl 77 true [(75,5),(76,5),(59,1),(70,1),(25,1),(54,1),(49,1),(71,1),(38,1),(75,1),(76,1),(13,2),(16,2),(19,2),(22,2),(7,2),(32,2),(46,2),(62,2),(11,2),(67,2),(73,2),(9,2)]
abbrev Ui:Plan:=(.sq .go (.sq .go (.sq .go (.sq .go (.sq .go (.sq .go (.sq .go (.sq (.sq .go (.sq (.loop [18,78,76,146,17,148,140,142,144,21,138,134,136,132,130,128,1,22,100,98,116,120,122,118,126,124,114,112,110,108,106,104,102,92,90,88,86,84,82,80,64,62,60,58,56,54,52,50,48,46,44,42,40,38,36,34,32,30,28,8,26,24,94,96,20,66,68,70,72,74] [(18,hA1),(17,RQ),(1,hA3)] [64,62,60,58,56,54,52,50,48,46,44,42,40,38,36,34,32,30,28,8,26,24] [⟨2,[(17,RQ),(1,hA3)],[18,64,62,60,58,56,54,14,52,50,48,46,44,42,40,38,36,34,10,32,30,28,8,26,24]⟩] (.sq (.sq .go .go) (.sq (.sq (.sq .go (.sq (.sq .go (.sq (.loop [22,100,98,116,120,122,118,126,21,124,114,1,112,110,108,106,104,102,92,90,88,86,84,82,80,74,72,70,68,66,94,96] [(22,hA1),(21,RP),(1,hA3)] [92,90,88,86,84,82,80,74,72,70,68,66] [⟨4,[(21,RP),(1,hA3)],[22,92,90,88,86,84,82,80,74,72,70,68,66]⟩] (.sq (.sq .go .go) (.sq (.sq (.sq (.cut [1,114,112,110,108,106,104,102] [⟨0,[(1,hA3),(114,hA2)],[96,94]⟩] .go) (.cut [116,120,122,118,126,21,124] [⟨0,[(21,RP)],[114]⟩] .go)) .go) .go))) .go)) (.sq (.sq .go (.cut [134,21,136,132] [⟨0,[(21,RP)],[130,128]⟩] .go)) .go))) .go) .go))) .go)) .go))))))))
abbrev E41:Env:=eB tab gl 7 false [(6,2)]
abbrev Px:Plan:=(.sq .go .go)
abbrev E14:Env:=eB tab gl 73 false [(3,1),(9,1),(11,1),(16,1),(21,1),(27,1),(35,1),(45,1),(53,1),(63,1),(7,2),(2,2),(0,2)]
abbrev Py:Plan:=(.sq .go (.sq .go (.sq (.cut [18,20,22,24,26,28,30,32,34,36,38,40,42,44,46,48,50,52,54,56,58,60,62,64,66,68,70,72,74,76,78,80,82,84,86,88,90,92,94,96,98,100,102,104,106,108,110,112,114,116,118,120,122,124,126,128,130,132,134,136,138,140,142,144,0] [⟨0,[(0,hA2)],[4,2,16,14,6,12,10,8]⟩] .go) .go)))
abbrev E99:Env:=eB tab gl 48 false [(34,1),(39,1),(43,1),(33,1),(11,1),(19,1),(25,1),(40,1),(44,1),(45,1),(5,2),(4,2),(6,2)]
abbrev Pz:Plan:=(.sq .go (.sq .go (.sq (.sq (.loop [10,40,38,14,16,18,20,22,24,26,28,30,32,34,36] [(10,hA1)] [8] [⟨2,[(10,hA1)],[]⟩] (.sq (.sq (.cut [36,34,32,30,28,26,24,22,20,18,16,14] [⟨0,[(36,hA2)],[]⟩] .go) .go) .go)) .go) (.sq (.sq (.cut [64,62,60,58,56,54,52,50,48,46,44,42] [⟨0,[(64,hA2)],[]⟩] .go) (.sq .go .go)) (.sq .go (.sq .go (.sq .go .go)))))))
abbrev afD:Env:=eB tab gl 22 false [(21,1),(11,1),(2,2),(4,2),(5,2)]
abbrev JH:Plan:=(.sq .go (.sq (.sq .go (.sq (.loop [8,42,26,28,30,32,34,36,38,40,22,24,10,12,14,16,18,20] [(10,hA1)] [8,0] [⟨1,[(8,hA1)],[10,4,0,2]⟩,⟨2,[],[10,4,0,2]⟩] (.sq (.sq .go .go) (.sq (.sq (.sq .go (.sq .go .go)) .go) .go))) .go)) .go))
abbrev E97:Env:=eB tab gl 103 false [(102,1),(20,1),(96,1),(47,1),(40,1),(2,2),(5,2),(6,2),(53,2),(10,2),(11,2),(80,2),(100,2),(8,2),(7,2),(4,2)]
abbrev PD:Plan:=(.sq .go (.sq .go (.sq (.sq .go (.sq (.loop [0,24,26,28,30,44,46,48,50,52,54,56,58,60,62,64,66,68,70,40,42,12,32,34,36,38,11,10] [(12,hA1),(10,qW)] [30,28,26,24,8,0] [⟨2,[(10,qW)],[12,30,28,26,24,0,2]⟩] (.sq (.sq (.opn [(10,0,5)]) .go) (.sq (.sq (.sq (.opn [(10,0,5)]) (.sq .go (.cut [10,11,70,68,66] [⟨0,[(10,qW)],[64,62,60,58,56,54,52,50,48,46,44,38,36,34,32]⟩] (.sq (.opn [(10,0,5)]) .go)))) .go) .go))) .go)) (.sq (.sq .go (.sq (.loop [14,82,80,19,98,100,102,104,106,108,110,112,114,116,118,120,122,124,126,128,130,132,134,136,138,140,142,144,146,148,150,152,154,156,158,160,162,18,20,22,164,166,168,170,172,174,176,178,180,182,184,186,188,190,192,194,196,198,200,202,94,96,16,84,86,88,90,92,72,74,76,78,11,10] [(14,hA1),(10,qW)] [] [⟨4,[(10,qW)],[14,4]⟩] (.sq (.sq (.opn [(10,0,5)]) .go) (.sq (.sq (.sq .go (.sq (.loop [19,72,74,76,78,98,100,102,104,106,108,110,112,114,116,118,120,122,124,126,128,130,132,134,136,138,140,142,144,146,148,150,152,154,156,158,160,162,18,20,22,164,166,168,170,172,174,176,178,180,182,184,186,188,190,192,194,196,198,200,202,11,10,94,96,16,84,86,88,90,92] [(10,qW),(16,hA1)] [78,76,74,72] [⟨6,[(10,qW)],[16,78,76,74,72]⟩] (.sq (.sq .go .go) (.sq (.sq (.sq .go (.sq .go (.sq (.sq (.opn [(10,0,5)]) (.cut [10,11,162,160,158,156,154,152,150,148,146,144,142,140,138,136,134] [⟨0,[(10,qW)],[132,130,128,126,124,122,120,118,116,114,112,110,108,106,104,102,100,98,92,90,88,86,84]⟩] (.sq (.opn [(10,0,5)]) .go))) (.sq (.opn [(10,0,5)]) (.cut [10,11,202,200,198,196,194,192,190,188,186,184,182,180,178,176,174] [⟨0,[(10,qW)],[172,170,168,166,164,22,20,18]⟩] (.sq (.opn [(10,0,5)]) .go)))))) .go) .go))) .go)) .go) .go))) .go)) .go))))
abbrev afE:Env:=eB tab gl 27 false [(26,1),(23,1),(24,1),(13,1),(3,2),(6,2),(7,2)]
abbrev JI:Plan:=(.sq .go (.sq (.sq .go (.sq (.loop [46,48,50,52,12,30,32,34,36,38,40,42,44,26,28,14,16,18,20,22,24] [(14,hA1)] [12,0] [⟨1,[(12,hA1)],[14,6,0,2,4]⟩,⟨2,[],[14,6,0,2,4]⟩] (.sq (.sq .go .go) (.sq (.sq (.sq .go (.sq .go .go)) .go) .go))) .go)) .go))
abbrev E98:Env:=eB tab gl 71 false [(63,1),(70,1),(19,1),(32,1),(50,1),(30,1),(3,2),(8,2),(9,2),(11,2),(12,2),(7,2),(10,2),(6,2)]
abbrev PE:Plan:=(.sq .go (.sq .go (.sq .go (.sq (.sq (.cut [44,42,40,38,36,34] [⟨0,[(44,hA2)],[32,30,28,26,0]⟩] .go) (.sq .go .go)) (.sq .go (.sq (.sq .go (.sq (.loop [20,62,60,128,130,132,134,136,126,14,138,124,122,120,118,116,114,112,110,108,106,104,102,100,98,96,94,92,90,88,86,84,24,22,82,80,64,78,76,74,72,70,68,66,50,48,46,44,52,54,56,58,19,18] [(20,hA1),(14,qW),(18,qW)] [50,48,46,44,12] [⟨2,[(14,qW)],[20,18,50,48,46,44,16,6,2,4]⟩] (.sq (.sq (.opn [(18,0,9)]) .go) (.sq (.sq (.sq (.opn [(18,0,9)]) (.sq (.cut [18,19,124,122,120,118,116,114,112,110,108,106,104,102,100,98,96,94,92,90,88,86,84] [⟨0,[(18,qW),(124,hA2)],[24,22,82,80,64,78,76,74,72,70,68,66,58,56,54,52]⟩] (.opn [(18,0,9)])) (.cut [128,130,132,134,136,126,14,138,19,18] [⟨0,[(14,qW),(18,qW)],[124]⟩] (.sq (.opn [(18,0,9)]) .go)))) .go) .go))) .go)) .go))))))
abbrev E86:Env:=eB tab gl 79 false [(71,1),(78,1),(17,1),(23,1),(29,1),(31,1),(58,1),(50,1),(37,1),(3,2),(7,2),(8,2),(11,2),(9,2),(12,2),(10,2),(6,2)]
abbrev PG:Plan:=(.sq .go (.sq (.sq (.cut [26,28,30,32,34,36,38,40,42,44,46,48,50,52,54] [⟨0,[(54,hA2)],[0]⟩] .go) (.sq .go .go)) (.sq .go (.sq .go (.sq .go (.sq (.sq .go (.sq (.loop [20,76,74,4,2,54,56,58,60,62,64,78,80,82,84,86,88,90,104,106,108,110,112,114,128,130,132,134,136,138,140,144,146,148,150,152,142,154,18,116,126,124,122,120,118,100,102,24,92,94,96,98,12,22,66,68,70,72,17,16] [(20,hA1),(18,K7),(16,qW)] [64,62,60,58,56,54,12,2,4] [⟨2,[(18,K7)],[20,16,64,62,14,60,58,56,54,6,2,4]⟩] (.sq (.sq (.opn [(16,0,8)]) .go) (.sq (.sq (.sq (.opn [(16,0,8)]) (.sq .go (.sq (.loop [17,66,68,70,72,78,80,82,84,86,88,90,104,106,108,110,112,114,128,130,132,134,136,138,140,144,146,148,150,152,142,16,154,18,126,124,122,120,118,116,100,102,24,92,94,96,98] [(16,qW),(18,K7),(24,hA1)] [90,88,86,84,82,80,78,72,70,68,66] [⟨4,[(16,qW),(18,K7)],[24,22,90,88,86,84,82,80,78,72,70,68,66]⟩] (.sq (.sq .go .go) (.sq (.sq (.sq .go (.cut [116,118,120,122,124,126,18,154,16,142,152,150,148,146,144,140,138,136,134,132,130,128,114,112,110,108,106,104,98,96,94,92,17] [⟨0,[(18,K7),(16,qW)],[114,112,110,108,106,104,98,96,94,92]⟩] (.sq .go (.sq (.opn [(16,0,8)]) (.cut [154,16,142,152,150,148,146,144] [⟨0,[(16,qW)],[140,138,136,134,132,130,128,114,112,110,108,106,104,98,96,94,92]⟩] .go))))) .go) .go))) .go))) .go) .go))) .go)) .go))))))
abbrev E51:Env:=eB tab gl 66 false [(65,5),(60,1),(61,1),(21,1),(65,1),(3,2),(4,2),(15,2),(29,2),(39,2),(57,2),(63,2),(8,2)]
abbrev PI:Plan:=(.sq .go (.sq .go (.sq (.sq .go (.sq (.loop [18,2,0,20,22,24,26,28,30,46,48,50,52,54,56,58,60,62,64,66,68,70,72,74,82,84,86,88,90,92,94,96,116,114,112,110,108,106,104,102,100,98,76,80,78,118,122,19,124,120,128,15,126,42,44,16,32,34,36,38,40] [(15,RQ),(16,hA1)] [30,28,26,24,22,20,0,2] [⟨2,[(15,RQ)],[16,30,28,26,24,22,20,8,6,0,2,4]⟩] (.sq (.sq .go .go) (.sq (.sq (.sq .go (.sq (.sq .go (.cut [78,80,76,98,100,102,104,106,108,110,112,114,116,19,96,94,92,90,88,86,84,82,74,72,70,68,66,64,62,60,58,56,54,52,50,48,46,40,38,36,34,32] [⟨0,[(19,WX)],[74,72,70,68,66,64,62,60,58,56,54,52,50,48,46,40,38,36,34,32]⟩] (.sq .go (.sq .go (.cut [98,100,102,104,106,108,110,112,114,116,19] [⟨0,[(19,WX)],[96,94,92,90,88,86,84,82,74,72,70,68,66,64,62,60,58,56,54,52,50,48,46,40,38,36,34,32]⟩] .go))))) .go)) .go) .go))) .go)) .go)))
abbrev E26:Env:=eB tab gl 42 false [(29,1),(41,1),(11,1),(21,1),(2,2),(3,2),(6,2),(7,2),(4,2)]
abbrev PK:Plan:=(.sq .go (.sq (.sq (.cut [30,28,26,24,22,20,18,16] [⟨0,[(30,hA2)],[0,2]⟩] .go) (.sq .go .go)) (.sq .go (.sq (.sq .go (.sq (.loop [30,46,48,50,52,54,56,60,62,64,66,68,70,72,74,76,78,58,12,80,42,44,14,32,34,36,38,40] [(12,WY),(14,hA1)] [30,10,8] [⟨2,[(12,WY)],[14,30,6,4]⟩] (.sq (.sq .go .go) (.sq (.sq (.sq .go (.cut [80,12,58,78,76,74,72,70,68,66,64,62,60] [⟨0,[(12,WY)],[56,54,52,50,48,46,40,38,36,34,32]⟩] .go)) .go) .go))) .go)) .go))))
abbrev RU:Env:=eB tab gl 93 true [(37,11),(51,11),(92,5),(83,1),(37,1),(51,1),(65,1),(71,1),(76,1),(84,1),(38,1),(60,1),(22,1),(23,1),(92,1),(3,2),(63,2),(67,2),(69,2),(72,2),(74,2),(78,2),(80,2),(90,2),(5,2),(31,2),(42,2),(45,2),(55,2),(58,2),(28,2)]
abbrev JJ:Plan:=(.sq .go (.sq (.sq .go (.sq (.sq .go (.sq .go (.sq .go (.sq .go (.sq .go (.sq .go (.sq .go (.sq (.opk [(4,0,1)]) (.sq .go (.sq (.sq .go (.sq .go (.sq (.sq .go (.sq .go (.sq .go (.sq .go (.sq .go (.sq (.opk [(4,0,1)]) (.opk [(4,0,1)]))))))) .go))) .go)))))))))) .go)) (.sq (.sea [(9,3,1)]) .go)))
abbrev E8:Env:=eB tab gl 44 true [(43,5),(16,1),(17,1),(15,1),(35,1),(40,1),(43,1),(11,2),(14,2),(7,2),(8,2),(24,2),(32,2),(42,2)]
abbrev Uj:Plan:=(.sq .go (.sq .go (.sq .go (.sq .go (.sq (.sq .go (.sq .go .go)) (.sq .go (.sq (.sq (.cut [1,78,76,74,72,70,68,66] [⟨0,[(1,hA3),(78,hA2)],[64,62,60,58,56,54,52,50,46,44,42,16,14,40,38,30,36,34,32,12,28,26,24,10,22,20,2]⟩] .go) .go) (.sq (.sea [(9,3,32)]) .go))))))))
abbrev E79:Env:=eB tab gl 26 false [(15,1),(5,2)]
abbrev PL:Plan:=(.sq .go (.sq (.sq .go (.sq .go .go)) (.sq (.sq .go (.sq (.loop [10,32,30,50,48,46,44,42,40,38,36,34,8,22,24,26,28] [(10,hA1)] [20,18,16,14,12,8] [⟨1,[(8,hA2)],[10,20,18,16,14,12,0,2]⟩,⟨2,[],[10,20,18,16,14,12,0,2]⟩] (.sq (.sq .go .go) (.sq (.sq (.sq .go (.sq .go .go)) .go) .go))) .go)) .go)))
abbrev E40:Env:=eB tab gl 17 false [(10,1),(2,2),(3,2),(4,2)]
abbrev PN:Plan:=(.sq .go (.sq (.cut [8,32,30,28,26,24,22,20,18,16,14,12,10] [⟨0,[(8,hA2)],[6,4,0,2]⟩] .go) .go))
abbrev E11:Env:=eB tab gl 63 false [(11,1),(18,1),(47,1),(32,1),(2,2),(3,2),(5,2)]
abbrev PO:Plan:=(.sq .go (.sq (.sq (.cut [12,14,16,18,20,22,24,26,28,30,32,34,36,38,40,42,44,46,48,50,52] [⟨0,[(52,hA2)],[0,2]⟩] .go) (.sq .go .go)) (.sq (.sq .go (.sq (.loop [10,66,64,68,70,72,74,76,78,80,82,84,86,88,90,92,94,96,98,100,102,104,106,108,110,112,114,116,118,120,122,124,52,8,54,56,58,60,62] [(10,hA1)] [52,8] [⟨1,[(8,hA2)],[10,52,6,4]⟩,⟨2,[],[10,52,6,4]⟩] (.sq (.sq .go .go) (.sq (.sq (.sq (.cut [68,70,72,74,76,78,80,82,84,86,88,90,92,94,96,98,100,102,104,106,108,110,112,114,116,118,120,122,124] [⟨0,[(124,hA2)],[62,60,58,56,54]⟩] .go) (.sq .go .go)) .go) .go))) .go)) .go)))
abbrev E94:Env:=eB tab gl 20 false [(19,1),(6,1),(10,1),(16,1),(17,1),(5,2),(4,2)]
abbrev PS:Plan:=(.sq .go (.sq .go (.sq (.sq (.cut [30,28,26,24,22,20,18,16] [⟨0,[(30,hA2)],[14,12,0]⟩] .go) (.sq .go .go)) .go)))
abbrev E73:Env:=eB tab gl 5 false [(3,1),(2,2)]
abbrev PU:Plan:=(.sq .go .go)
abbrev E78:Env:=eB tab gl 32 false [(31,5),(9,1),(14,1),(24,1),(31,1),(2,2),(21,2),(25,2),(29,2)]
abbrev PV:Plan:=(.sq .go (.sq (.sq (.cut ab2 [⟨0,[(40,hA2)],[0]⟩] .go) (.sq .go .go)) (.sq .go (.sq .go .go))))
abbrev E13:Env:=eB tab gl 28 false [(27,1),(17,1),(15,1),(1,2),(3,2),(4,2),(2,2)]
abbrev PW:Plan:=(.sq .go (.sq .go (.sq (.sq .go (.sq (.loop [34,36,38,40,42,44,46,48,50,52,6,30,32,8,20,22,24,26,28] [(6,Gn),(8,hA1)] [18,16,14,12,10,4,0] [⟨2,[(6,Gn)],[8,18,16,14,12,10,2,0]⟩] (.sq (.sq .go .go) (.sq .go .go))) .go)) .go)))
abbrev E39:Env:=eB tab gl 88 false [(87,5),(53,1),(20,1),(30,1),(34,1),(45,1),(51,1),(54,1),(55,1),(84,1),(85,1),(87,1),(2,2),(3,2),(6,2),(7,2),(8,2),(9,2),(10,2),(11,2),(66,2),(72,2),(74,2),(82,2),(49,2),(13,2),(59,2),(64,2)]
abbrev PX:Plan:=(.sq .go (.sq .go (.sq .go (.sq (.sq (.loop [12,172,170,168,146,144,142,140,138,104,108,110,25,112,116,114,106,120,118,122,124,126,128,130,11,102,26,24,100,98,90,96,94,92,88,86,84,82,80,78,76,74,72,148,156,154,152,150,132,136,134,70,68,20,66,64,62,60,58,18,16,56,54,40,52,50,48,46,44,42,14,38,36,30,28,0,2,22,158,160,162,164,166,32,34] [(12,Gn),(11,FE)] [30,28,0,2] [⟨2,[(11,FE)],[12,30,28,6,4,0,2]⟩] (.sq (.sq .go .go) (.sq (.sq .go (.sq .go (.sq .go (.sq .go (.sq (.sq (.sq .go (.cut [146,144,142,140,138,104,108,110,25,112,116,114,106,120,118,122,124,126,128,130,11,102,26,24,100,98,90,96,94,92,88,86,84,82,80,78,76,74,72,148,156,154,152,150,132,136,134,70,68,20,66,64,62,60,58,18,16,56,54,40,52,50,48,46,44,42,14,38,36,34,32,22,158,160,162,164,166] [⟨0,[(11,FE),(22,Gn)],[132,136,134,70,68,20,66,64,62,60,58,18,16,56,54,40,52,50,48,46,44,42,14,38,36,34,32]⟩] (.sq .go (.sq .go (.cut [166,164,162,160,158,22,32,34,36,38,14,42,44,46,48,50,52,40,54,56,16,18,58,60,62,64,66,20,68,70,134,136,132,150,152,154,156,148,72,74,76,78,80,82,84,86,88,92,94,96,90,98,100,24,26,102,11,130,128,126,124,122,118,120,106,114,116,112,25,110,108,104] [⟨0,[(22,Gn),(11,FE)],[148,156,154,152,150,132,136,134,70,68,20,66,64,62,60,58,18,16,56,54,40,52,50,48,46,44,42,14,38,36,34,32]⟩] (.sq .go (.sq .go (.sq .go (.sq .go (.cut [104,108,110,25,112,116,114,106,120,118,122,124,126,128,130,11] [⟨0,[(11,FE)],[102,26,24,100,98,90,96,94,92,88,86,84,82,80,78,76,74,72,148,156,154,152,150,132,136,134,70,68,20,66,64,62,60,58,18,16,56,54,40,52,50,48,46,44,42,14,38,36,34,32]⟩] .go)))))))))) .go) .go))))) .go))) .go) .go))))
abbrev E10:Env:=eB tab gl 35 false [(9,1),(24,1),(32,1),(33,1),(2,2),(3,2),(14,2),(18,2),(31,2),(34,2)]
abbrev PY:Plan:=(.sq .go (.sq (.sq (.cut [26,24,22,20,18,16,14,12] [⟨0,[(26,hA2)],[0,2]⟩] .go) (.sq .go .go)) (.sq (.sq .go (.sq .go .go)) (.sq (.sq (.cut [60,58,56,54,52,50,48,46,44,42,40,38] [⟨0,[(60,hA2)],[34,32,30,26]⟩] .go) (.sq .go .go)) .go))))
abbrev E3:Env:=eB tab gl 85 false [(14,1),(16,1),(27,1),(29,1),(36,1),(37,1),(35,1),(45,1),(50,1),(62,1),(69,1),(70,1),(68,1),(74,1),(75,1),(77,1),(82,1),(4,2),(5,2),(7,2),(19,2),(20,2),(24,2),(28,2),(33,2),(11,2),(39,2),(13,2),(6,2),(66,2),(72,2)]
abbrev Uk:Plan:=(.sq .go (.sq .go (.sq .go (.sq (.sq .go (.cut [19,31,48,46] [⟨0,[(19,D7),(31,hA3)],[44,42,40,38,32,36,34,30,28,0,2,4]⟩] .go)) (.sq (.sq .go (.cut [17,31,56,54] [⟨0,[(17,(.aH 1 true [(.int .i64),(.int .i64),(.int .i64),(.sl 0 (.st 32 (.cons (.int .i64) (.cons (.sl (.int .i64)) .unit))))]))],[52,50,14]⟩] .go)) (.sq .go (.sq .go (.sq (.sq (.cut [112,110,108,106,104,102,100,98,96,94,92,90,88,86,84,82] [⟨0,[(112,hA2)],[26,80,78,70,76,74,72,22,68,66,58,64,62,60,18,16]⟩] .go) (.sq .go .go)) (.sq (.sq .go (.sq .go .go)) (.sq .go (.sq .go (.sq (.cut [148,21,150,25,152,154,156,158,160,162,164,166,168,12] [⟨0,[(12,hA2)],[26,146,144,136,142,140,138,22,134,132,124,130,128,126,120,118,116,114,112,24,20,10,8]⟩] .go) .go))))))))))))
end Go.aW.fF
namespace ah
abbrev Tp:=List Int×Int×Unit
def on {α:Type} (b:Bool) (x:α):Option α:=bif b then some x else none
def wf (t:Tp):Bool:=decide (0≤t.2.1)&&decide (t.2.1≤t.1.length)&&decide (t.1.length≤600)
def cut (x n:Int):Int:=bif decide (n<1) then 0 else x.emod n
def raw (t:Tp):Int×Tp:=bif decide (t.2.1<t.1.length) then (t.1.getD t.2.1.toNat 0,t.1,t.2.1+1,()) else (0,t)
def next (t:Tp) (n:Int):Int×Tp:=(cut (raw t).1 n,(raw t).2)
def small (n:Int):Bool:=decide (-2305843009213693952≤n)&&decide (n≤2305843009213693952)
def range (t:Tp) (a b:Int):Int×Tp:=(a+(next t (b - a+1)).1,(next t (b - a+1)).2)
def one (t:Tp) (n:Int):Bool×Tp:=(decide ((next t n).1=n - 1),(next t n).2)
def pick (t:Tp) (l:List Int):Int×Tp:=(l.getD (next t l.length).1.toNat 0,(next t l.length).2)
def PZ:List Int:=[-1,0,1,7,8,23,24,31,32,63,64,99,100,255,256,257,1000,1001,1023,1024,1000000,1000001,1099511627776,9223372036854775807,-9223372036854775808]
def wild (t:Tp):Int×Tp:=pick t PZ
def tape (l:List Int):Tp:=(l.take 600,0,())
def length (t:Tp):Int×Tp:=pick t [8,8,16,32,64]
def inside (n lo hi:Int):Bool:=decide (lo≤n)&&decide (n≤hi)
def dI (n:Int):Bool:=decide (n=8) || decide (n=16) || decide (n=32) || decide (n=64)
abbrev Rt:=Int×Bool×Unit
abbrev Lk:=Int×Int×Int×Int×Int×Unit
abbrev To:=List Rt×List Lk×Unit
abbrev zR:Rt:=(0,false,())
abbrev zL:Lk:=(0,0,0,0,0,())
def idx {α:Type} (p:α→Bool) (l:List α):Int:=bif l.any p then (l.findIdx p:Nat) else -1
def ku (a b:Lk):Bool:=decide (a.1<b.1) || (decide (a.1=b.1)&&decide (a.2.1<b.2.1))
def rU (cost tree:Int) (skip:Bool) (b a:Int) (s:List Lk×Tp):List Lk×Tp:=
  let c:Bool×Tp:=bif decide (a=tree) && !skip then (true,s.2) else one s.2 3
  bif c.1 then (let x:=range c.2 1 cost;let y:=range x.2 1 cost;let z:=next y.2 4;(s.1++[(a,b,x.1,y.1,z.1,())],z.2)) else (s.1,c.2)
def jB (cost tree:Int) (skip:Bool) (b:Int) (s:List Lk×Tp):Nat→List Lk×Tp
  | 0=>s
  | k+1=>rU cost tree skip b (k+1) (jB cost tree skip b s k)
def bW (cost:Int) (t:Tp):Nat→List Lk×Tp
  | 0=>([],t)
  | k+1=>let s:=bW cost t k;let tr:=range s.2 1 (k+1);let sk:=one tr.2 9;jB cost tr.1 sk.1 (k+2) (s.1,sk.2) (k+1)
def dM (k:Nat):List Rt:=(List.range k).map fun (i:Nat)=>((i:Int)+1,true,())
def ins (x:Lk) (l:List Lk):List Lk:=l.takeWhile (fun y=>ku y x)++x::l.dropWhile (fun y=>ku y x)
def ni (l:List Lk):Nat→List Lk
  | 0=>[]
  | k+1=>ins (l.getD k zL) (ni l k)
def ord (l:List Lk):List Lk:=ni l l.length
def afF (l:List Lk) (i:Nat) (c:Int):List Lk:=l.set i ((l.getD i zL).1,(l.getD i zL).2.1,c,(l.getD i zL).2.2.2)
def afG (l:List Lk) (i:Nat) (c:Int):List Lk:=l.set i ((l.getD i zL).1,(l.getD i zL).2.1,(l.getD i zL).2.2.1,c,(l.getD i zL).2.2.2.2)
def afH (l:List Lk) (i:Nat) (c:Int):List Lk:=l.set i ((l.getD i zL).1,(l.getD i zL).2.1,(l.getD i zL).2.2.1,(l.getD i zL).2.2.2.1,c,())
def tV:Nat→List Rt→List Rt
  | 0,l=>l
  | k+1,l=>tV k l++[(50+(k:Int),false,())]
def za (g:To) (t:Tp):To×Tp:=
  let m:=next t 7
  bif decide (m.1=0) then (let a:=pick m.2 [0,1,99,100,-1];((g.1++[(a.1,false,())],g.2),a.2)) else
  bif decide (m.1=1) then (let a:=next m.2 4;let b:=next a.2 4;((g.1,g.2.1++[(a.1,b.1,1,1,0,())],()),b.2)) else
  bif decide (m.1=2) then (bif decide (0<g.2.1.length) then (let a:=next m.2 g.2.1.length;let b:=wild a.2;((g.1,afF g.2.1 a.1.toNat b.1,()),b.2)) else (g,m.2)) else
  bif decide (m.1=3) then (bif decide (0<g.2.1.length) then (let a:=next m.2 g.2.1.length;let b:=wild a.2;((g.1,afG g.2.1 a.1.toNat b.1,()),b.2)) else (g,m.2)) else
  bif decide (m.1=4) then (bif decide (0<g.2.1.length) then (let a:=next m.2 g.2.1.length;let b:=wild a.2;((g.1,afH g.2.1 a.1.toNat b.1,()),b.2)) else (g,m.2)) else
  bif decide (m.1=5) then (bif decide (0<g.2.1.length) then (let a:=next m.2 g.2.1.length;((g.1,g.2.1++[g.2.1.getD a.1.toNat zL],()),a.2)) else (g,m.2)) else
  ((tV 25 g.1,g.2),m.2)
def tX (t:Tp) (most n:Int):To×Tp:=
  let k:=range t 1 most
  let c:=pick k.2 [1,2,2,5]
  let s:=bW c.1 c.2 (k.1.toNat - 1)
  let g:To:=(dM k.1.toNat,ord s.1,())
  bif decide (0<n) then (let o:=one s.2 n;bif o.1 then za g o.2 else (g,o.2)) else (g,s.2)
abbrev Ow:=Int×(Int×Int×Int×Unit)×Unit
abbrev Ed:=Int×Int×Unit
abbrev Pn:=Int×Int×List Ed×Unit
abbrev zO:Ow:=(0,(0,0,0,()),())
abbrev zE:Ed:=(0,0,())
abbrev zP:Pn:=(0,0,[],())
def K8 (o:Ow):Int:=o.2.1.1
def idO (o:Ow):Int:=o.2.1.2.1
def RV (o:Ow):Int:=o.2.1.2.2.1
def afI (o:Ow):Bool:=!inside o.1 1 99 || !inside (K8 o) 0 7 || !inside (idO o) 1 256 || !dI (RV o)
def ab6 (a b:Ow):Bool:=decide (a.1<b.1) || (decide (a.1=b.1)&&decide (K8 a<K8 b))
def upO (l:List Ow):Bool:=(List.range (l.length - 1)).all fun i=>ab6 (l.getD i zO) (l.getD (i+1) zO)
def RJ (l:List Ow):Int:=bif decide (192<l.length) then 3 else bif l.any afI then 2 else bif !upO l then 25 else 0
def mine (s:Int) (o:Ow):Bool:=decide (K8 o=s)
def hit (s id:Int) (o:Ow):Bool:=decide (K8 o=s)&&decide (idO o=id)
def WZ (l:List Ow) (s id:Int):Nat:=l.countP (hit s id)
def conf (l:List Ow) (s:Int):List Int:=bif decide (RJ l=0) then ((List.range 256).filter fun (i:Nat)=>decide (1<WZ l s ((i:Int)+1))).map fun (i:Nat)=>(i:Int)+1 else []
def afJ (l:List Ow) (s:Int):Int:=bif decide (RJ l=0) then l.foldl (fun out o=>bif mine s o&&(decide (out=0) || decide (RV o<out)) then RV o else out) 0 else 0
def ab7 (p:Int→Bool):Int×Bool×Unit:=
  match (List.range 256).find? fun (i:Nat)=>p ((i:Int)+1) with
  | some i=>((i:Int)+1,true,())
  | none=>(0,false,())
def edge (o:Ow):Ed:=(o.1,idO o,())
def edges (l:List Ow) (s:Int):List Ed:=(List.range 256).flatMap fun (i:Nat)=>bif decide (WZ l s ((i:Int)+1)=1) then (l.filter (hit s ((i:Int)+1))).map edge else []
def plan (l:List Ow) (s:Int):Pn×Int×Unit:=
  bif !decide (RJ l=0) then (zP,RJ l,()) else bif !inside s 0 7 then (zP,2,()) else
  bif decide (24<(edges l s).length) then (zP,3,()) else ((s,afJ l s,edges l s,()),0,())
def ab8 (o:Ow) (id:Int):Ow:=(o.1,(K8 o,id,RV o,()),())
def ab9 (l:List Ow) (s:Int):Nat→Option (List Ow×List Int)
  | 0=>some ([],[])
  | k+1=>match ab9 l s k with
    | none=>none
    | some r=>
      let o:=l.getD k zO
      bif mine s o&&decide (0<(l.take k).countP (hit s (idO o))) then
        (let f:=ab7 fun id=>decide (WZ l s id=0) && !r.2.any (fun g=>decide (g=id))
         bif f.2.1 then some (r.1++[ab8 o f.1],r.2++[f.1]) else none)
      else some (r.1++[o],r.2)
def res (l:List Ow) (s:Int):List Ow×Int×Unit:=
  bif !decide (RJ l=0) then ([],RJ l,()) else
  match ab9 l s l.length with
  | none=>([],9,())
  | some r=>(r.1,0,())
def place (id n:Int):Int×Int×Bool×Unit:=bif !dI n || !inside id 1 256 then (0,0,false,()) else ((id - 1) / n,(id - 1)%n,true,())
def at_ (set bit n:Int):Int×Bool×Unit:=
  bif !dI n || !inside bit 0 (n - 1) || !inside set 0 31 then (0,false,()) else
  bif decide (256<set*n+bit+1) then (0,false,()) else (set*n+bit+1,true,())
def repeats:List Int→Bool
  | []=>false
  | x::r=>r.any (fun y=>decide (y=x)) || repeats r
def upE (l:List Ed):Bool:=(List.range (l.length - 1)).all fun i=>decide ((l.getD i zE).2.1<(l.getD (i+1) zE).2.1)
def rV (p:Pn):Bool:=
  inside p.1 0 7&&(dI p.2.1 || (decide (p.2.1=0)&&decide (p.2.2.1.length=0)))&&decide (p.2.2.1.length≤24) &&
  (p.2.2.1.all fun e=>inside e.2.1 1 256&&inside e.1 1 99)&&upE p.2.2.1 && !repeats (p.2.2.1.map fun e=>e.1)
def has (l:List Int) (n:Int):Bool:=l.any fun x=>decide (x=n)
def jC (t:Tp):Nat→List Int×Tp
  | 0=>([],t)
  | k+1=>let s:=jC t k;let a:=next s.2 ((k:Int)+1);(s.1.take a.1.toNat++(k:Int)::s.1.drop a.1.toNat,a.2)
def order (t:Tp) (n:Nat):List Int×Tp:=jC t n
def tY (g:To) (len:Int) (s:List Ed×Int×Tp) (x:Int):List Ed×Int×Tp:=
  let c:=next s.2.2 4
  bif decide (c.1=0) then (s.1,s.2.1,c.2) else
  let p:=pick c.2 [1,1,1,2,len - 1]
  bif decide (s.2.1+p.1≤256) then (s.1++[((g.1.getD x.toNat zR).1,s.2.1+p.1,())],s.2.1+p.1,p.2) else (s.1,s.2.1+p.1,p.2)
def ji (g:To) (len:Int) (s:List Ed×Int×Tp) (l:List Int):List Ed×Int×Tp:=l.foldl (tY g len) s
def P5 (p:Pn) (id:Int) (t:Tp):Pn×Tp:=
  let m:=next t 5
  bif decide (m.1=0) then (let a:=wild m.2;((a.1,p.2),a.2)) else
  bif decide (m.1=1) then (let a:=pick m.2 [0,8,24,64,128];((p.1,a.1,p.2.2),a.2)) else
  bif decide (m.1=2) then (let a:=pick m.2 [0,1,99,100];let b:=pick a.2 [0,1,256,257];((p.1,p.2.1,p.2.2.1++[(a.1,b.1,())],()),b.2)) else
  bif decide (m.1=3) then (bif decide (0<p.2.2.1.length) then (let a:=wild m.2;((p.1,p.2.1,p.2.2.1.set 0 ((p.2.2.1.getD 0 zE).1,a.1,()),()),a.2)) else (p,m.2)) else
  ((p.1,p.2.1,p.2.2.1++[(50,id+1,())],()),m.2)
def kC (t:Tp) (g:To) (n:Int):Pn×Tp:=
  let a:=next t 3
  let b:=length a.2
  let o:=order b.2 g.1.length
  let e:=ji g b.1 ([],0,o.2) o.1
  let p:Pn:=(a.1,b.1,e.1,())
  bif decide (0<n) then (let q:=one e.2.2 n;bif q.1 then P5 p e.2.1 q.2 else (p,q.2)) else (p,e.2.2)
namespace Bt
def full (n:Int):Int:=bif dI n then 2 ^ n.toNat - 1 else 0
def tb (b:Int) (k:Nat):Bool:=b.toNat.testBit k
def has (b k:Int):Bool:=decide (0≤k)&&decide (k<64)&&tb b k.toNat
def fA (k:Int):Int:=bif decide (k<0) || decide (63<k) then 0 else 2 ^ k.toNat
def and (x y:Int):Int:=((Nat.land x.toNat y.toNat:Nat):Int)
def or (x y:Int):Int:=((Nat.lor x.toNat y.toNat:Nat):Int)
def ones (b:Int):List Nat:=(List.range 64).filter (tb b)
def list (b:Int):List Int:=(ones b).map fun (k:Nat)=>(k:Int)
def nth (b n:Int):Int:=bif decide (n<0) || decide ((list b).length≤n) then -1 else (list b).getD n.toNat 0
def Ul (b:Int) (k:Nat):Nat:=((List.range k).filter (tb b)).length
def BN (t:Tp) (n:Int):Int×Tp:=
  let r:=raw t
  let q:=raw r.2
  let k:=next q.2 6
  bif decide (k.1=0) then (0,k.2) else
  bif decide (k.1=1) then (fA (next k.2 n).1,(next k.2 n).2) else
  bif decide (k.1=2) then (18446744073709551615,k.2) else
  (((Nat.xor (r.1.emod 18446744073709551616*11400714819323198485%18446744073709551616).toNat (q.1.emod 18446744073709551616).toNat:Nat):Int),k.2)
def bits (t:Tp) (n:Int):Int×Tp:=(and (BN t n).1 (full n),(BN t n).2)
end Bt
def qG (l:List Int):Bool:=(List.range (l.length - 1)).all fun i=>decide (l.getD i 0<l.getD (i+1) 0)
def P6 (r:Rt):Bool:=!inside r.1 1 99
def K9 (l:Lk):Bool:=!inside l.2.2.1 1 1000 || !inside l.2.2.2.1 1 1000 || !inside l.2.2.2.2.1 0 1000
def down (l:Lk):Bool:=decide (l.2.1≤l.1)
def gQ (l:List Rt) (id:Int):Bool:=l.any fun r=>decide (r.1=id)
def upR (l:List Rt):Bool:=(List.range (l.length - 1)).all fun i=>decide ((l.getD i zR).1<(l.getD (i+1) zR).1)
def upL (l:List Lk):Bool:=(List.range (l.length - 1)).all fun i=>ku (l.getD i zL) (l.getD (i+1) zL)
def wW (g:To):Int:=
  bif decide (24<g.1.length) || decide (60<g.2.1.length) then 3 else
  bif g.1.any P6 then 2 else
  bif !upR g.1 then 25 else
  bif g.2.1.any K9 then 2 else
  bif g.2.1.any (fun l=>!gQ g.1 l.1 || !gQ g.1 l.2.1) then 4 else
  bif g.2.1.any down then 8 else
  bif !upL g.2.1 then 25 else 0
def W9 (l:List Rt) (id:Int):Bool:=(l.getD (l.findIdx fun r=>decide (r.1=id)) zR).2.1
def okT (g:To):Bool:=decide (wW g=0)
def CZ (g:To) (id:Int):Bool:=okT g&&gQ g.1 id
def HY (g:To) (id:Int):Bool:=okT g&&W9 g.1 id
def price:List Lk→Int→Int→Int×Bool×Unit
  | [],_,_=>(0,false,())
  | l::r,a,b=>bif decide (l.1=a)&&decide (l.2.1=b) then (l.2.2.1,true,()) else bif decide (l.2.1=a)&&decide (l.1=b) then (l.2.2.2.1,true,()) else price r a b
def near (g:To) (r:Int):List Int:=(g.1.filter fun x=>(price g.2.1 r x.1).2.1).map fun x=>x.1
def mo (l:List Rt) (t:Tp):Nat→List Rt×Tp
  | 0=>(l,t)
  | k+1=>let s:=mo l t k;let o:=one s.2 3;(s.1.set k ((s.1.getD k zR).1,!o.1,()),o.2)
def mixed (t:Tp) (most:Int):To×Tp:=
  let g:=tX t most 0
  let m:=mo g.1.1 g.2 g.1.1.length
  ((m.1,g.1.2),m.2)
def jd (t:Tp) (g:To) (n:Int):Int×Tp:=
  let o:Bool×Tp:=bif decide (0<n) then one t n else (false,t)
  bif o.1 || decide (g.1.length=0) then pick o.2 [0,1,2,7,77,-1] else (let i:=next o.2 g.1.length;((g.1.getD i.1.toNat zR).1,i.2))
def lC (b n:Int):Bool:=dI n&&decide (b<2 ^ n.toNat)
def jm:Nat→Tp→List Int×Tp
  | 0,t=>([],t)
  | k+1,t=>((jm k t).1++[(next (jm k t).2 256).1],(next (jm k t).2 256).2)
def text (t:Tp) (n:Int):List Int×Tp:=jm (range t 0 n).1.toNat (range t 0 n).2
abbrev Pk:=Int×Int×Int×Int×Int×Int×Int×Int×Int×List Int×Unit
def zp:Pk:=(0,0,0,0,0,0,0,0,0,[],())
def md (p:Pk):Int:=p.1
def sd (p:Pk):Int:=p.2.1
def st (p:Pk):Int:=p.2.2.1
def ln (p:Pk):Int:=p.2.2.2.1
def tl (p:Pk):Int:=p.2.2.2.2.1
def en (p:Pk):Int:=p.2.2.2.2.2.1
def ig (p:Pk):Int:=p.2.2.2.2.2.2.1
def pr (p:Pk):Int:=p.2.2.2.2.2.2.2.1
def bt (p:Pk):Int:=p.2.2.2.2.2.2.2.2.1
def py (p:Pk):List Int:=p.2.2.2.2.2.2.2.2.2.1
def dx (p:Pk):Bool:=inside (md p) 1 3&&inside (sd p) 0 7&&inside (st p) 0 31&&lC (bt p) (ln p)&&inside (tl p) 0 63&&inside (en p) 0 1023&&inside (ig p) 0 256&&inside (pr p) 0 7&&decide ((py p).length≤64)
def aD (p:Pk):Int:=bif dx p then en p%8 else 0
def only (p:Pk) (k:Int):Pk:=bif dx p&&Bt.has (bt p) k then (md p,sd p,st p,ln p,tl p,en p,ig p,pr p,Bt.fA k,py p,()) else zp
def masked (p:Pk) (m:Int):Pk×Bool×Unit:=
  bif dx p && !decide (tl p=0) && !decide (Bt.and (bt p) m=0) then ((md p,sd p,st p,ln p,tl p - 1,en p,ig p,pr p,Bt.and (bt p) m,py p,()),true,()) else (zp,false,())
def pkt (t:Tp):Pk×Tp:=
  let l:=length t
  let m:=range l.2 1 3
  let s:=range m.2 0 7
  let z:=pick s.2 [0,0,1,2,31]
  let h:=pick z.2 [0,1,2,5,63]
  let e:=next h.2 1024
  let g:=pick e.2 [0,1,8,255,256]
  let o:=next g.2 8
  let b:=Bt.bits o.2 l.1
  let y:=text b.2 6
  ((m.1,s.1,z.1,l.1,h.1,e.1,g.1,o.1,b.1,y.1,()),y.2)
def pad (l:List Int):List Int:=l++(List.replicate ((64 - l.length) / 3) [97,98,99]).flatten
def C8 (p:Pk) (t:Tp):Pk×Tp:=
  let k:=next t 9
  bif decide (k.1=0) then (((wild k.2).1,p.2),(wild k.2).2) else
  bif decide (k.1=1) then ((md p,(wild k.2).1,p.2.2),(wild k.2).2) else
  bif decide (k.1=2) then ((md p,sd p,(wild k.2).1,p.2.2.2),(wild k.2).2) else
  bif decide (k.1=3) then ((md p,sd p,st p,(pick k.2 [0,8,16,24,63,64,65,-8]).1,p.2.2.2.2),(pick k.2 [0,8,16,24,63,64,65,-8]).2) else
  bif decide (k.1=4) then ((md p,sd p,st p,ln p,(wild k.2).1,p.2.2.2.2.2),(wild k.2).2) else
  bif decide (k.1=5) then ((md p,sd p,st p,ln p,tl p,(wild k.2).1,p.2.2.2.2.2.2),(wild k.2).2) else
  bif decide (k.1=6) then ((md p,sd p,st p,ln p,tl p,en p,(wild k.2).1,p.2.2.2.2.2.2.2),(wild k.2).2) else
  bif decide (k.1=7) then ((md p,sd p,st p,ln p,tl p,en p,ig p,(wild k.2).1,p.2.2.2.2.2.2.2.2),(wild k.2).2) else
  ((md p,sd p,st p,ln p,tl p,en p,ig p,pr p,bt p,pad (py p)++(text k.2 4).1,()),(text k.2 4).2)
def packet (t:Tp) (n:Int):Pk×Tp:=
  let p:=pkt t
  bif decide (0<n) then (bif (one p.2 n).1 then C8 p.1 (one p.2 n).2 else (p.1,(one p.2 n).2)) else p
abbrev Rw:=Int×List Int×Unit
abbrev Tb:=Int×Int×Int×List Rw×Unit
abbrev zW:Rw:=(0,[],())
def lD (r:Rw):Bool:=!inside r.1 1 256 || r.2.1.any fun n=>!inside n 1 99
def iX (id:Int) (r:Rw):Bool:=decide (1<r.2.1.length)&&r.2.1.any fun y=>decide (id=y)
def P7 (l:List Rw):Bool:=(List.range (l.length - 1)).all fun i=>decide ((l.getD i zW).1<(l.getD (i+1) zW).1)
def nk (t:Tb):Int:=
  bif !inside t.1 1 99 || !inside t.2.1 0 7 || (!dI t.2.2.1 && !(decide (t.2.2.1=0)&&decide (t.2.2.2.1.length=0))) || t.2.2.2.1.any lD then 2 else
  bif decide (256<t.2.2.2.1.length) || t.2.2.2.1.any (fun r=>decide (24<r.2.1.length)) then 3 else
  bif !(t.2.2.2.1.all fun r=>qG r.2.1) || !P7 t.2.2.2.1 then 25 else
  bif t.2.2.2.1.any (iX t.1) then 8 else 0
def dh (t:Tb) (id:Int):Rw×Bool×Unit:=
  match t.2.2.2.1.find? fun r=>decide (r.1=id) with
  | some r=>(r,true,())
  | none=>(zW,false,())
def cu (r:Rw) (aD:Int):Int:=bif decide (r.2.1.length=0) then 0 else r.2.1.getD (aD%(r.2.1.length:Int)).toNat 0
def zf (t:Tb) (id aD:Int):Int:=bif (dh t id).2.1 then cu (dh t id).1 aD else 0
def dS (t:Tb) (aD set:Int):Bool:=decide (nk t=0)&&decide (0≤aD)&&decide (aD<8)&&decide (0≤set)&&decide (set≤31)
abbrev Fr:=List Int×Pk×Unit
abbrev Cp:=Int×Fr×Unit
abbrev Oc:=Int×Int×List Cp×Unit
def sP (o:Oc):Int:=o.2.2.1.foldl (fun a c=>Bt.or a (bt c.2.1.2.1)) (Bt.or o.1 o.2.1)
def C9 (t:Tb) (aD set next:Int) (bit:Nat):Bool:=
  (at_ set bit t.2.2.1).2.1&&(decide (0<next)&&decide (zf t (at_ set bit t.2.2.1).1 aD=next))
def nu (t:Tb) (aD set next:Int):Int:=(List.range t.2.2.1.toNat).foldl (fun a k=>bif C9 t aD set next k then Bt.or a (Bt.fA k) else a) 0
def P8 (t:Tb) (aD set next:Int):Int:=
  bif decide (nk t=0)&&(decide (0≤aD)&&decide (aD<8))&&decide (0≤set)&&decide (set≤31)&&decide (1≤next)&&decide (next≤99) then nu t aD set next else 0
abbrev t0:Tb:=(1,0,8,[(1,[2,3],()),(2,[3],())],())
abbrev zF:Fr:=([],zp,())
abbrev zC:Cp:=(0,zF,())
abbrev zOc:Oc:=(0,0,[],())
abbrev zTb:Tb:=(0,0,0,[],())
def Bt.kg (x y:Int):Int:=((Nat.land x.toNat (18446744073709551615 - y.toNat):Nat):Int)
def Az (len aD set nb:Int) (l:List Rw):Int:=l.foldl (fun a r=>bif decide ((place r.1 len).1=set) && !decide (cu r aD=0)&&decide (cu r aD=nb) then Bt.or a (Bt.fA (place r.1 len).2.1) else a) 0
def gH (t:Tb) (aD set nb:Int):Int:=bif dS t aD set then Az t.2.2.1 aD set nb t.2.2.2.1 else 0
def toF (t:Tb) (id aD:Int):Int:=bif dS t aD 0 then cu (dh t id).1 aD else 0
def FJ (p:Pk) (x:Int):Pk:=(md p,sd p,st p,ln p,tl p,en p,ig p,pr p,x,py p,())
def lF (t:Tb) (p:Pk) (s:Int×Int×Int×List Cp):Int×Int×Int×List Cp:=
  let k:=Bt.nth s.1 0
  let to:=toF t (at_ (st p) k (ln p)).1 (aD p)
  bif decide (to=0) then (Bt.kg s.1 (Bt.fA k),s.2.1,Bt.or s.2.2.1 (Bt.fA k),s.2.2.2) else
  bif decide (to=t.1) then (Bt.kg s.1 (Bt.fA k),Bt.or s.2.1 (Bt.fA k),s.2.2.1,s.2.2.2) else
  let g:=Bt.and s.1 (gH t (aD p) (st p) to)
  let q:=masked (FJ p s.1) g
  bif q.2.1 then (Bt.kg s.1 g,s.2.1,s.2.2.1,s.2.2.2++[(to,([],q.1,()),())]) else (Bt.kg s.1 g,s.2.1,Bt.or s.2.2.1 g,s.2.2.2)
def wX (t:Tb) (p:Pk):Nat→Int×Int×Int×List Cp→Int×Int×Int×List Cp
  | 0,s=>s
  | k+1,s=>bif decide (s.1=0) then s else wX t p k (lF t p s)
def La (t:Tb) (p:Pk):Oc:=((wX t p 64 (bt p,0,0,[])).2.1,(wX t p 64 (bt p,0,0,[])).2.2.1,(wX t p 64 (bt p,0,0,[])).2.2.2,())
def wY (t:Tb) (p:Pk):Int:=bif !decide (nk t=0) || !dx p then 1 else bif decide (md p=2) then 7 else bif !decide (t.2.1=sd p) || !decide (t.2.2.1=ln p) then 8 else 0
def fwd (t:Tb) (p:Pk):Oc×Int×Unit:=(bif decide (wY t p=0) then La t p else zOc,wY t p,())
def d9 (p:Pn) (s:Int×Int×Tp) (e:Ed):Int×Int×Tp:=
  let x:=place e.2.1 p.2.1
  bif decide (x.1=s.1) then (bif decide (0<(next s.2.2 4).1) then (s.1,Bt.or s.2.1 (Bt.fA x.2.1),(next s.2.2 4).2) else (s.1,s.2.1,(next s.2.2 4).2)) else s
def oh (t:Tp) (p:Pn):Pk×Tp:=
  let q:=packet t 0
  let len:Int:=bif decide (p.2.1=0) then 8 else p.2.1
  let a:Int×Tp:=bif decide (0<p.2.2.1.length) then ((place (p.2.2.1.getD (next q.2 p.2.2.1.length).1.toNat zE).2.1 p.2.1).1,(next q.2 p.2.2.1.length).2) else (0,q.2)
  let b:=p.2.2.1.foldl (d9 p) (a.1,0,a.2)
  let o:=one b.2.2 6
  bif o.1 then ((1,p.1,a.1,len,tl q.1,en q.1,ig q.1,pr q.1,Bt.or b.2.1 (Bt.bits o.2 len).1,py q.1,()),(Bt.bits o.2 len).2)
  else ((1,p.1,a.1,len,tl q.1,en q.1,ig q.1,pr q.1,b.2.1,py q.1,()),o.2)
def oG (r:Int) (s:List Int×Tp) (k:Nat):List Int×Tp:=bif !decide ((k:Int)+1=r) then (bif (one s.2 3).1 then (s.1++[(k:Int)+1],(one s.2 3).2) else (s.1,(one s.2 3).2)) else s
def jD (r:Int) (s:List Rw×Tp) (e:Ed):List Rw×Tp:=
  let n:=(List.range 7).foldl (oG r) ([],s.2)
  let o:=one n.2 5
  (s.1++[(e.2.1,bif o.1 then [r] else n.1,())],o.2)
def zh (p:Pk) (x:Int):Pk:=(md p,sd p,st p,ln p,x,en p,ig p,pr p,bt p,py p,())
def tZ (t:Tp):(Tb×Pk)×Tp:=
  let g:=mixed t 6
  let p:=kC g.2 g.1 0
  let q:=oh p.2 p.1
  let l:=pick q.2 [1,4,63,0]
  let r:=jd l.2 g.1 0
  let b:=p.1.2.2.1.foldl (jD r.1) ([],r.2)
  (((r.1,p.1.1,p.1.2.1,b.1,()),zh q.1 l.1),b.2)
abbrev Ff:=List Int×Int×Int×Int×Int×Int×Int×Int×Int×Int×List Int×Unit
def flat (f:Fr):Ff:=(f.1,f.2.1.1,f.2.1.2.1,f.2.1.2.2.1,f.2.1.2.2.2.1,f.2.1.2.2.2.2.1,f.2.1.2.2.2.2.2.1,f.2.1.2.2.2.2.2.2.1,f.2.1.2.2.2.2.2.2.2.1,f.2.1.2.2.2.2.2.2.2.2.1,f.2.1.2.2.2.2.2.2.2.2.2.1,())
def JK (a b:Ff):Bool:=decide (a.2.1=b.2.1)&&(decide (a.2.2.1=b.2.2.1)&&(decide (a.2.2.2.1=b.2.2.2.1)&&(decide (a.2.2.2.2.1=b.2.2.2.2.1)&&(decide (a.2.2.2.2.2.1=b.2.2.2.2.2.1)&&(decide (a.2.2.2.2.2.2.1=b.2.2.2.2.2.2.1)&&(decide (a.2.2.2.2.2.2.2.1=b.2.2.2.2.2.2.2.1)&&(decide (a.2.2.2.2.2.2.2.2.1=b.2.2.2.2.2.2.2.2.1)&&(decide (a.2.2.2.2.2.2.2.2.2.1=b.2.2.2.2.2.2.2.2.2.1)&&decide (a.2.2.2.2.2.2.2.2.2.2.1=b.2.2.2.2.2.2.2.2.2.2.1)))))))))
def pG (a b:Ff):Bool:=JK a b&&decide (a.1=b.1)
def ny (a b:Oc):Bool:=decide (a.1=b.1)&&decide (a.2.1=b.2.1)&&decide (a.2.2.1.length=b.2.2.1.length)&&((List.range a.2.2.1.length).all fun i=>decide ((a.2.2.1.getD i zC).1=(b.2.2.1.getD i zC).1)&&pG (flat (a.2.2.1.getD i zC).2.1) (flat (b.2.2.1.getD i zC).2.1))
end ah
namespace ah
open Go Go.aW
set_option maxRecDepth 20000
set_option linter.unusedVariables false
noncomputable def uf (a0:(@List (Int×(Bool×Unit)))) (a1:Int) (a2:(Int×Unit)):(Option (Sum (Int×Unit) (Bool×((Int×Unit)×Unit)))):=
  (bif (decide (a2.1<(Int.ofNat a0.length))) then (bif ((decide (0≤a2.1))&&(decide (a2.1<(Int.ofNat a0.length)))) then (bif (decide ((List.getD a0 (Int.toNat a2.1) (0,(false,()))).1=a1)) then (some (.inr (true,(a2,())))) else (some (.inl ((IntKind.wrap .i64 (a2.1+1)),())))) else none) else (some (.inr (false,((0,()),())))))
noncomputable def Xa (a0:(@List (Int×(Bool×Unit)))) (a1:(@List ah.Lk)) (a2:Int):(Option (Int×Unit)):=
  (Option.bind (Loop (@uf a0 a2) (0,())) (fun y3=>(bif y3.1 then (some y3.2.1) else (some (0,())))))
noncomputable def Lb (g:To) (r:Int):(Option (Int×Unit)):=Xa g.1 g.2.1 r
noncomputable def ug (a0:(List Int)) (a1:Int) (a2:(Int×Unit)):(Option (Sum (Int×Unit) (Int×Unit))):=
  (Option.bind (bif (decide (a2.1<(Int.ofNat a0.length))) then (bif ((decide (0≤a2.1))&&(decide (a2.1<(Int.ofNat a0.length)))) then (some ((decide ((List.getD a0 (Int.toNat a2.1) 0)<a1)),())) else none) else (some (false,()))) (fun y3=>(bif y3.1 then (some (.inl ((IntKind.wrap .i64 (a2.1+1)),()))) else (some (.inr a2)))))
noncomputable def Xb (a0:(List Int)) (a1:Int):(Option ((List Int)×Unit)):=
  (Option.bind (Loop (@ug a0 a1) (0,())) (fun y2=>(Option.bind (bif (decide (y2.1<(Int.ofNat a0.length))) then (bif ((decide (0≤y2.1))&&(decide (y2.1<(Int.ofNat a0.length)))) then (some ((decide ((List.getD a0 (Int.toNat y2.1) 0)=a1)),())) else none) else (some (false,()))) (fun y3=>(bif y3.1 then (some (a0,())) else (bif ((true&&(decide (0≤y2.1)))&&(decide (y2.1≤(Int.ofNat a0.length)))) then (bif (@Nat.ble ((0+(List.drop 0 (List.take (Int.toNat y2.1) a0)).length)*8) 140737488355328) then (bif (@Nat.ble ((([]++(List.drop 0 (List.take (Int.toNat y2.1) a0))).length+1)*8) 140737488355328) then (bif (((decide (0≤y2.1))&&(decide (y2.1≤(Int.ofNat a0.length))))&&(decide ((Int.ofNat a0.length)≤(Int.ofNat a0.length)))) then (bif (@Nat.ble (((([]++(List.drop 0 (List.take (Int.toNat y2.1) a0)))++(a1::[])).length+(List.drop (Int.toNat y2.1) (List.take (Int.toNat (Int.ofNat a0.length)) a0)).length)*8) 140737488355328) then (some (((([]++(List.drop 0 (List.take (Int.toNat y2.1) a0)))++(a1::[]))++(List.drop (Int.toNat y2.1) (List.take (Int.toNat (Int.ofNat a0.length)) a0))),())) else none) else none) else none) else none) else none))))))
noncomputable def x107 (l:List Int) (x:Int):(Option ((List Int)×Unit)):=Xb l x
noncomputable def uj (a0:(@List (Int×(Bool×Unit)))) (a1:Int) (a2:(Int×((List Int)×Unit))):(Option (Sum (Int×((List Int)×Unit)) ((List Int)×Unit))):=
  (bif (decide (a2.1<(Int.ofNat a2.2.1.length))) then (bif ((decide (0≤a2.1))&&(decide (a2.1<(Int.ofNat a2.2.1.length)))) then (bif (@Nat.blt (Int.toNat a2.1) a2.2.1.length) then (bif ((decide (0≤a2.1))&&(decide (a2.1<(Int.ofNat a0.length)))) then (Option.bind (bif (decide ((List.getD a0 (Int.toNat a2.1) (0,(false,()))).1=a1)) then (bif ((decide (0≤a2.1))&&(decide (a2.1<(Int.ofNat (List.set a2.2.1 (Int.toNat a2.1) 1073741824).length)))) then (bif (@Nat.blt (Int.toNat a2.1) (List.set a2.2.1 (Int.toNat a2.1) 1073741824).length) then (some ((List.set (List.set a2.2.1 (Int.toNat a2.1) 1073741824) (Int.toNat a2.1) 0),())) else none) else none) else (some ((List.set a2.2.1 (Int.toNat a2.1) 1073741824),()))) (fun y3=>(some (.inl ((IntKind.wrap .i64 (a2.1+1)),y3))))) else none) else none) else none) else (some (.inr a2.2)))
noncomputable def um (a0:(@List (Int×(Bool×Unit)))) (a1:(@List ah.Lk)) (a2:ah.Tp):(Option (Sum ah.Tp ((List Int)×Unit))):=
  (bif (decide (a2.2.1<(Int.ofNat a1.length))) then (bif ((decide (0≤a2.2.1))&&(decide (a2.2.1<(Int.ofNat a1.length)))) then (Option.bind (ah.Lb (a0,(a1,())) (List.getD a1 (Int.toNat a2.2.1) (0,(0,(0,(0,(0,())))))).1) (fun y3=>(Option.bind (ah.Lb (a0,(a1,())) (List.getD a1 (Int.toNat a2.2.1) (0,(0,(0,(0,(0,())))))).2.1) (fun y4=>(bif ((decide (0≤y4.1))&&(decide (y4.1<(Int.ofNat a2.1.length)))) then (bif (@Nat.blt (Int.toNat y4.1) a2.1.length) then (Option.bind (bif (decide ((List.getD a2.1 (Int.toNat y4.1) 0)<1073741824)) then (bif ((decide (0≤y3.1))&&(decide (y3.1<(Int.ofNat a2.1.length)))) then (bif (@Nat.blt (Int.toNat y3.1) a2.1.length) then (bif ((decide (0≤y4.1))&&(decide (y4.1<(Int.ofNat a2.1.length)))) then (bif (@Nat.blt (Int.toNat y4.1) a2.1.length) then (bif ((decide (0≤y3.1))&&(decide (y3.1<(Int.ofNat a2.1.length)))) then (bif (@Nat.blt (Int.toNat y3.1) a2.1.length) then (some ((List.set a2.1 (Int.toNat y3.1) (bif (decide ((IntKind.wrap .i64 ((List.getD a1 (Int.toNat a2.2.1) (0,(0,(0,(0,(0,())))))).2.2.1+(List.getD a2.1 (Int.toNat y4.1) 0)))<(List.getD a2.1 (Int.toNat y3.1) 0))) then (IntKind.wrap .i64 ((List.getD a1 (Int.toNat a2.2.1) (0,(0,(0,(0,(0,())))))).2.2.1+(List.getD a2.1 (Int.toNat y4.1) 0))) else (List.getD a2.1 (Int.toNat y3.1) 0))),())) else none) else none) else none) else none) else none) else none) else (some (a2.1,()))) (fun y5=>(bif ((decide (0≤y3.1))&&(decide (y3.1<(Int.ofNat y5.1.length)))) then (bif (@Nat.blt (Int.toNat y3.1) y5.1.length) then (Option.bind (bif (decide ((List.getD y5.1 (Int.toNat y3.1) 0)<1073741824)) then (bif ((decide (0≤y4.1))&&(decide (y4.1<(Int.ofNat y5.1.length)))) then (bif (@Nat.blt (Int.toNat y4.1) y5.1.length) then (bif ((decide (0≤y3.1))&&(decide (y3.1<(Int.ofNat y5.1.length)))) then (bif (@Nat.blt (Int.toNat y3.1) y5.1.length) then (bif ((decide (0≤y4.1))&&(decide (y4.1<(Int.ofNat y5.1.length)))) then (bif (@Nat.blt (Int.toNat y4.1) y5.1.length) then (some ((List.set y5.1 (Int.toNat y4.1) (bif (decide ((IntKind.wrap .i64 ((List.getD a1 (Int.toNat a2.2.1) (0,(0,(0,(0,(0,())))))).2.2.2.1+(List.getD y5.1 (Int.toNat y3.1) 0)))<(List.getD y5.1 (Int.toNat y4.1) 0))) then (IntKind.wrap .i64 ((List.getD a1 (Int.toNat a2.2.1) (0,(0,(0,(0,(0,())))))).2.2.2.1+(List.getD y5.1 (Int.toNat y3.1) 0))) else (List.getD y5.1 (Int.toNat y4.1) 0))),())) else none) else none) else none) else none) else none) else none) else (some y5)) (fun y6=>(some (.inl (y6.1,((IntKind.wrap .i64 (a2.2.1+1)),())))))) else none) else none))) else none) else none))))) else none) else (some (.inr (a2.1,()))))
noncomputable def uq (a0:(@List (Int×(Bool×Unit)))) (a1:(@List ah.Lk)) (a2:(Int×((List Int)×Unit))):(Option (Sum (Int×((List Int)×Unit)) ((List Int)×Unit))):=
  (bif (decide (a2.1<(Int.ofNat a2.2.1.length))) then (Option.bind (Loop (@um a0 a1) (a2.2.1,(0,()))) (fun y3=>(some (.inl ((IntKind.wrap .i64 (a2.1+1)),y3))))) else (some (.inr a2.2)))
noncomputable def Xc (a0:(@List (Int×(Bool×Unit)))) (a1:(@List ah.Lk)) (a2:Int):(Option ((List Int)×Unit)):=
  (bif (((decide (0≤(Int.ofNat a0.length)))&&(decide ((Int.ofNat a0.length)≤(Int.ofNat a0.length))))&&(decide (((Int.ofNat a0.length)*8)≤140737488355328))) then (Option.bind (Loop (@uj a0 a2) (0,((List.replicate (Int.toNat (Int.ofNat a0.length)) 0),()))) (fun y3=>(Option.bind (Loop (@uq a0 a1) (0,y3)) (fun y4=>(some y4))))) else none)
noncomputable def x105 (g:To) (r:Int):(Option ((List Int)×Unit)):=Xc g.1 g.2.1 r
noncomputable def uy (a0:(@List (Int×(Bool×Unit)))) (a1:(List Int)) (a2:Int) (a3:(Int×Unit)):(Option (Sum (Int×Unit) (Bool×((Int×Unit)×Unit)))):=
  (bif (decide (a3.1<(Int.ofNat a0.length))) then (bif ((decide (0≤a3.1))&&(decide (a3.1<(Int.ofNat a0.length)))) then (bif (decide ((List.getD a0 (Int.toNat a3.1) (0,(false,()))).1=a2)) then (bif ((decide (0≤a3.1))&&(decide (a3.1<(Int.ofNat a1.length)))) then (some (.inr (true,(((List.getD a1 (Int.toNat a3.1) 0),()),())))) else none) else (some (.inl ((IntKind.wrap .i64 (a3.1+1)),())))) else none) else (some (.inr (false,((0,()),())))))
noncomputable def Xd (a0:(@List (Int×(Bool×Unit)))) (a1:(@List ah.Lk)) (a2:(List Int)) (a3:Int):(Option (Int×Unit)):=
  (Option.bind (Loop (@uy a0 a2 a3) (0,())) (fun y4=>(bif y4.1 then (some y4.2.1) else (some (1073741824,())))))
noncomputable def Da (g:To) (d:List Int) (r:Int):(Option (Int×Unit)):=Xd g.1 g.2.1 d r
noncomputable def qH (a0:(@List (Int×(Bool×Unit)))) (a1:(@List ah.Lk)) (a2:(List Int)) (a3:Int) (a4:(Int×Unit)) (a5:(Int×((List Int)×((List Int)×Unit)))):(Option (Sum (Int×((List Int)×((List Int)×Unit))) ((List Int)×Unit))):=
  (bif (decide (a5.1<(Int.ofNat a5.2.2.1.length))) then (bif ((decide (0≤a5.1))&&(decide (a5.1<(Int.ofNat a5.2.2.1.length)))) then (bif (@Nat.blt (Int.toNat a5.1) a5.2.2.1.length) then (Option.bind (bif ((decide (0≤a5.1))&&(decide (a5.1<(Int.ofNat a5.2.2.1.length)))) then (bif (@Nat.blt (Int.toNat a5.1) a5.2.2.1.length) then (Option.bind (ah.Da (a0,(a1,())) a2 (List.getD a5.2.2.1 (Int.toNat a5.1) 0)) (fun y6=>(bif (decide (y6.1<1073741824)) then (bif (decide (y6.1<1073741824)) then (bif (decide (y6.1<1073741824)) then (bif (decide (y6.1<1073741824)) then (bif (decide (y6.1<1073741824)) then (bif (decide (y6.1<1073741824)) then (bif ((decide (0≤a5.1))&&(decide (a5.1<(Int.ofNat a5.2.2.1.length)))) then (bif (decide (y6.1<1073741824)) then (bif (@Nat.blt (Int.toNat a5.1) a5.2.2.1.length) then (bif (decide (y6.1<1073741824)) then (Option.bind (ah.Da (a0,(a1,())) a2 (List.getD a5.2.2.1 (Int.toNat a5.1) 0)) (fun y7=>(bif (decide (y6.1<1073741824)) then (bif (decide (y6.1<1073741824)) then (bif (decide (y6.1<1073741824)) then (bif (decide (y6.1<1073741824)) then (some (a5.2.2.1,((decide ((IntKind.wrap .i64 ((ah.price a1 a3 (List.getD a5.2.2.1 (Int.toNat a5.1) 0)).1+y7.1))=a4.1)),()))) else none) else none) else none) else none))) else none) else none) else none) else none) else none) else none) else none) else none) else none) else (bif (!(decide (y6.1<1073741824))) then (bif (!(decide (y6.1<1073741824))) then (bif (!(decide (y6.1<1073741824))) then (bif (!(decide (y6.1<1073741824))) then (bif (!(decide (y6.1<1073741824))) then (bif (!(decide (y6.1<1073741824))) then (bif (!(decide (y6.1<1073741824))) then (bif (!(decide (y6.1<1073741824))) then (bif (!(decide (y6.1<1073741824))) then (bif (!(decide (y6.1<1073741824))) then (bif (!(decide (y6.1<1073741824))) then (some (a5.2.2.1,(false,()))) else none) else none) else none) else none) else none) else none) else none) else none) else none) else none) else none)))) else none) else none) (fun y6=>(Option.bind (bif y6.2.1 then (bif ((decide (0≤a5.1))&&(decide (a5.1<(Int.ofNat y6.1.length)))) then (bif (@Nat.blt (Int.toNat a5.1) y6.1.length) then (bif (@Nat.ble ((a5.2.1.length+1)*8) 140737488355328) then (some ((a5.2.1++((List.getD y6.1 (Int.toNat a5.1) 0)::[])),(y6.1,()))) else none) else none) else none) else (some (a5.2.1,(y6.1,())))) (fun y7=>(some (.inl ((IntKind.wrap .i64 (a5.1+1)),y7))))))) else none) else none) else (some (.inr (a5.2.1,()))))
noncomputable def Xe (a0:(@List (Int×(Bool×Unit)))) (a1:(@List ah.Lk)) (a2:(List Int)) (a3:Int):(Option ((List Int)×Unit)):=
  (Option.bind (ah.Da (a0,(a1,())) a2 a3) (fun y4=>(Option.bind (bif (!(decide (y4.1=1073741824))) then (some ((decide (y4.1=0)),())) else (some (true,()))) (fun y5=>(bif y5.1 then (some ([],())) else (Option.bind (Loop (@qH a0 a1 a2 a3 y4) (0,([],((ah.near (a0,(a1,())) a3),())))) (fun y6=>(some y6))))))))
noncomputable def Lc (g:To) (d:List Int) (r:Int):(Option ((List Int)×Unit)):=Xe g.1 g.2.1 d r
noncomputable def uz (a0:(@List (Int×(Bool×Unit)))) (a1:(@List ah.Lk)) (a2:((List Int)×Unit)) (a3:((List Int)×ah.Tp)):(Option (Sum ((List Int)×ah.Tp) ((List Int)×((List Int)×Unit)))):=
  (bif (decide (a3.2.2.1<(Int.ofNat a2.1.length))) then (bif ((decide (0≤a3.2.2.1))&&(decide (a3.2.2.1<(Int.ofNat a2.1.length)))) then (Option.bind (bif (ah.HY (a0,(a1,())) (List.getD a2.1 (Int.toNat a3.2.2.1) 0)) then (bif ((decide (0≤a3.2.2.1))&&(decide (a3.2.2.1<(Int.ofNat a2.1.length)))) then (Option.bind (ah.x107 a3.2.1 (List.getD a2.1 (Int.toNat a3.2.2.1) 0)) (fun y4=>(some (y4.1,(a3.1,()))))) else none) else (bif ((decide (0≤a3.2.2.1))&&(decide (a3.2.2.1<(Int.ofNat a2.1.length)))) then (Option.bind (bif (!(ah.has a3.1 (List.getD a2.1 (Int.toNat a3.2.2.1) 0))) then (bif ((decide (0≤a3.2.2.1))&&(decide (a3.2.2.1<(Int.ofNat a2.1.length)))) then (bif (@Nat.ble ((a3.1.length+1)*8) 140737488355328) then (some ((a3.1++((List.getD a2.1 (Int.toNat a3.2.2.1) 0)::[])),())) else none) else none) else (some (a3.1,()))) (fun y4=>(some (a3.2.1,y4)))) else none)) (fun y4=>(some (.inl (y4.2.1,(y4.1,((IntKind.wrap .i64 (a3.2.2.1+1)),()))))))) else none) else (some (.inr (a3.1,(a3.2.1,())))))
noncomputable def uD (a0:(@List (Int×(Bool×Unit)))) (a1:(@List ah.Lk)) (a2:((List Int)×Unit)) (a3:(Int×((List Int)×((List Int)×Unit)))):(Option (Sum (Int×((List Int)×((List Int)×Unit))) ((List Int)×Unit))):=
  (bif (decide (a3.1<(Int.ofNat a3.2.2.1.length))) then (bif ((decide (0≤a3.1))&&(decide (a3.1<(Int.ofNat a3.2.2.1.length)))) then (bif (@Nat.blt (Int.toNat a3.1) a3.2.2.1.length) then (Option.bind (ah.Lc (a0,(a1,())) a2.1 (List.getD a3.2.2.1 (Int.toNat a3.1) 0)) (fun y4=>(Option.bind (Loop (@uz a0 a1 y4) (a3.2.2.1,(a3.2.1,(0,())))) (fun y5=>(some (.inl ((IntKind.wrap .i64 (a3.1+1)),(y5.2.1,(y5.1,()))))))))) else none) else none) else (some (.inr (a3.2.1,()))))
noncomputable def Xf (a0:(@List (Int×(Bool×Unit)))) (a1:(@List ah.Lk)) (a2:Int) (a3:Int):(Option ((List Int)×Unit)):=
  (Option.bind (bif (!(!(ah.CZ (a0,(a1,())) a2))) then (bif (!(!(ah.CZ (a0,(a1,())) a3))) then (some ((decide (a2=a3)),())) else (some (true,()))) else (some (true,()))) (fun y4=>(bif y4.1 then (some ([],())) else (Option.bind (ah.x105 (a0,(a1,())) a3) (fun y5=>(Option.bind (Loop (@uD a0 a1 y5) (0,([],((a2::[]),())))) (fun y6=>(some y6))))))))
noncomputable def x102 (g:To) (a b:Int):(Option ((List Int)×Unit)):=Xf g.1 g.2.1 a b
noncomputable def zk (a0:(@List (Int×(Bool×Unit)))) (a1:(@List ah.Lk)) (a2:(@List (Int×(Int×Unit)))) (a3:Int) (a4:(ah.Tb×(Int×Unit))):(Option (Sum (ah.Tb×(Int×Unit)) (ah.Tb×Unit))):=
  (bif (decide (a4.2.1<(Int.ofNat a2.length))) then (bif ((decide (0≤a4.2.1))&&(decide (a4.2.1<(Int.ofNat a2.length)))) then (bif ((decide (0≤a4.2.1))&&(decide (a4.2.1<(Int.ofNat a2.length)))) then (Option.bind (bif (decide ((List.getD a2 (Int.toNat a4.2.1) (0,(0,()))).1=a3)) then (some (((List.getD a2 (Int.toNat a4.2.1) (0,(0,()))).2.1,((a3::[]),())),())) else (bif ((decide (0≤a4.2.1))&&(decide (a4.2.1<(Int.ofNat a2.length)))) then (Option.bind (bif (ah.HY (a0,(a1,())) (List.getD a2 (Int.toNat a4.2.1) (0,(0,()))).1) then (bif ((decide (0≤a4.2.1))&&(decide (a4.2.1<(Int.ofNat a2.length)))) then (Option.bind (ah.x102 (a0,(a1,())) a3 (List.getD a2 (Int.toNat a4.2.1) (0,(0,()))).1) (fun y5=>(some (((List.getD a2 (Int.toNat a4.2.1) (0,(0,()))).2.1,y5),())))) else none) else (some (((List.getD a2 (Int.toNat a4.2.1) (0,(0,()))).2.1,([],())),()))) (fun y5=>(some y5))) else none)) (fun y5=>(bif (@Nat.ble ((a4.1.2.2.2.1.length+1)*32) 140737488355328) then (some (.inl ((a4.1.1,(a4.1.2.1,(a4.1.2.2.1,((a4.1.2.2.2.1++(y5.1::[])),())))),((IntKind.wrap .i64 (a4.2.1+1)),())))) else none))) else none) else none) else (some (.inr (a4.1,()))))
noncomputable def r87 (a0:(@List (Int×(Bool×Unit)))) (a1:(@List ah.Lk)) (a2:Int) (a3:Int) (a4:(@List (Int×(Int×Unit)))) (a5:Int):(Option (ah.Tb×Unit)):=
  (Option.bind (Loop (@zk a0 a1 a4 a5) ((a5,(a2,(a3,([],())))),(0,()))) (fun y6=>(some y6)))
noncomputable def x87 (g:To) (p:Pn) (r:Int):(Option (ah.Tb×Unit)):=r87 g.1 g.2.1 p.1 p.2.1 p.2.2.1 r
noncomputable def zl (a0:(@List (Int×(Bool×Unit)))) (a1:(@List ah.Lk)) (a2:Int) (a3:Int) (a4:(@List (Int×(Int×Unit)))) (a5:((@List ah.Tb)×(Int×Unit))):(Option (Sum ((@List ah.Tb)×(Int×Unit)) ((@List ah.Tb)×Unit))):=
  (bif (decide (a5.2.1<(Int.ofNat a0.length))) then (bif ((decide (0≤a5.2.1))&&(decide (a5.2.1<(Int.ofNat a0.length)))) then (Option.bind (bif (List.getD a0 (Int.toNat a5.2.1) (0,(false,()))).2.1 then (bif ((decide (0≤a5.2.1))&&(decide (a5.2.1<(Int.ofNat a0.length)))) then (Option.bind (ah.x87 (a0,(a1,())) (a2,(a3,(a4,()))) (List.getD a0 (Int.toNat a5.2.1) (0,(false,()))).1) (fun y6=>(bif (@Nat.ble ((a5.1.length+1)*48) 140737488355328) then (some ((a5.1++(y6.1::[])),())) else none))) else none) else (some (a5.1,()))) (fun y6=>(some (.inl (y6.1,((IntKind.wrap .i64 (a5.2.1+1)),())))))) else none) else (some (.inr (a5.1,()))))
noncomputable def r57 (a0:(@List (Int×(Bool×Unit)))) (a1:(@List ah.Lk)) (a2:Int) (a3:Int) (a4:(@List (Int×(Int×Unit)))):(Option (((@List ah.Tb)×(Int×Unit))×Unit)):=
  (Option.bind (bif (!(!(decide ((ah.wW (a0,(a1,())))=0)))) then (some ((!(ah.rV (a2,(a3,(a4,()))))),())) else (some (true,()))) (fun y5=>(bif y5.1 then (some (([],(1,())),())) else (Option.bind (Loop (@zl a0 a1 a2 a3 a4) ([],(0,()))) (fun y6=>(some ((y6.1,(0,())),())))))))
noncomputable def x57 (g:To) (p:Pn):(Option (((@List ah.Tb)×(Int×Unit))×Unit)):=r57 g.1 g.2.1 p.1 p.2.1 p.2.2.1
def Un (r:Rw) (v:Int):Rw:=(r.1,r.2.1++[v],())
def P9 (t:Tp) (b:Tb):Tb×Tp:=
  let i:=next t (Int.ofNat b.2.2.2.1.length)
  let m:=next i.2 4
  let r:=b.2.2.2.1.getD i.1.toNat (0,([],()))
  bif decide (m.1=0) then ((b.1,b.2.1,b.2.2.1,b.2.2.2.1.set i.1.toNat (Un r (pick m.2 [0,1,6,99,100]).1),()),(pick m.2 [0,1,6,99,100]).2)
  else bif decide (m.1=1) then ((b.1,b.2.1,b.2.2.1,b.2.2.2.1.set i.1.toNat (Un r b.1),()),m.2)
  else bif decide (m.1=2) then ((b.1,b.2.1,b.2.2.1,b.2.2.2.1.set i.1.toNat (r.1,[],()),()),m.2)
  else ((b.1,b.2.1,b.2.2.1,b.2.2.2.1.set i.1.toNat (r.1,[(pick m.2 [1,2,3,9,b.1]).1],()),()),(pick m.2 [1,2,3,9,b.1]).2)
def jE (t:Tp) (b:Tb):Tb×Tp:=
  let k:=next t 8
  bif decide (k.1=0) then (((pick k.2 [0,1,2,99,100]).1,b.2.1,b.2.2.1,b.2.2.2.1,()),(pick k.2 [0,1,2,99,100]).2)
  else bif decide (k.1=1) then ((b.1,(wild k.2).1,b.2.2.1,b.2.2.2.1,()),(wild k.2).2)
  else bif decide (k.1=2) then ((b.1,b.2.1,(pick k.2 [0,8,16,24,64]).1,b.2.2.2.1,()),(pick k.2 [0,8,16,24,64]).2)
  else bif decide (k.1=3) then ((b.1,b.2.1,b.2.2.1,b.2.2.2.1++[((pick k.2 [0,1,256,257]).1,[1],())],()),(pick k.2 [0,1,256,257]).2)
  else bif decide (0<b.2.2.2.1.length) then P9 k.2 b else (b,k.2)
def pI (t:Tp) (b:Tb):Bool:=wf t&&decide (b.2.2.2.1.length≤1000000)&&b.2.2.2.1.all (fun r=>decide (r.2.1.length≤1000000))
noncomputable def r26 (a0:(List Int)) (a1:Int) (a2:Int):(Option (ah.Tb×ah.Tp)):=
  (Option.bind (ah.on ((ah.wf (a0,(a1,())))&&(ah.inside 6 1 50)) (ah.mixed (a0,(a1,())) 6)) (fun y3=>(Option.bind (ah.on (((ah.wf y3.2)&&(ah.small 0))&&(decide (y3.1.1.length≤1000))) (ah.kC y3.2 y3.1 0)) (fun y4=>(Option.bind (ah.x57 y3.1 y4.1) (fun y5=>(bif (decide ((Int.ofNat y5.1.1.length)=0)) then (some ((1,(0,(8,([],())))),y4.2)) else (Option.bind (ah.on (ah.wf y4.2) (ah.next y4.2 (Int.ofNat y5.1.1.length))) (fun y6=>(bif ((decide (0≤y6.1))&&(decide (y6.1<(Int.ofNat y5.1.1.length)))) then (Option.bind (bif (decide (a2 > 0)) then (Option.bind (ah.on ((ah.wf y6.2)&&(ah.small a2)) (ah.one y6.2 a2)) (fun y7=>(some (y7.2,(y7.1,()))))) else (some (y6.2,(false,())))) (fun y7=>(bif y7.2.1 then (bif (ah.pI y7.1 (List.getD y5.1.1 (Int.toNat y6.1) (0,(0,(0,([],())))))) then (some (ah.jE y7.1 (List.getD y5.1.1 (Int.toNat y6.1) (0,(0,(0,([],()))))))) else none) else (some ((List.getD y5.1.1 (Int.toNat y6.1) (0,(0,(0,([],()))))),y7.1))))) else none))))))))))
noncomputable def x26 (t:Tp) (n:Int):(Option (ah.Tb×ah.Tp)):=r26 t.1 t.2.1 n
end ah
namespace Go.aW.fF
open Go.aW
def RX:XF:=fun t st args=>match args with
  | [(.agg [.int .i64 r,.int .i64 sd,.int .i64 ln,.sl f ty l],_)]=>if h:ty.beq mq=true then
      some (Nat.beq f 0,[(2*t+1,.iC st (kM (Ty.eq_of_beq h) l)),(2*t,.agg [.int .i64 r,.int .i64 sd,.int .i64 ln,.fM t st])]) else none
  | _=>none
def RY:XF:=fun t _ args=>match args with
  | [(.ptr id s1 0,.aH s1' true [.sl f ty l,.int .i64 n]),(.agg [.int .i64 r,.int .i64 sd,.int .i64 ln,.fM X s2],.iC s2' rows)]=>
      if h:ty.beq (.int .i64)=true then
        bif Nat.beq f 0&&(Nat.beq s1 s1' && Nat.beq s2 s2') then
          some (ah.pI (kM (Ty.eq_of_beq h) l,n,()) (r,sd,ln,rows,()),
            [(2*id+1,.aH s1 true [.sl 0 (.int .i64) (ah.jE (kM (Ty.eq_of_beq h) l,n,()) (r,sd,ln,rows,())).2.1,.int .i64 (ah.jE (kM (Ty.eq_of_beq h) l,n,()) (r,sd,ln,rows,())).2.2.1]),
             (2*X+1,.aU s2 false false mq []),
             (2*t,.agg [.int .i64 (ah.jE (kM (Ty.eq_of_beq h) l,n,()) (r,sd,ln,rows,())).1.1,.int .i64 (ah.jE (kM (Ty.eq_of_beq h) l,n,()) (r,sd,ln,rows,())).1.2.1,
               .int .i64 (ah.jE (kM (Ty.eq_of_beq h) l,n,()) (r,sd,ln,rows,())).1.2.2.1,.sl 0 mq (ah.jE (kM (Ty.eq_of_beq h) l,n,()) (r,sd,ln,rows,())).1.2.2.2.1])]) else none
      else none
  | _=>none
end Go.aW.fF
namespace Go.aW.fF
open Go Go.aW
noncomputable section
abbrev tape:List Lf:=[.sl 0 (.int .i64),.int .i64]
abbrev edT:Ty:=.st 16 (.cons (.int .i64) (.cons (.int .i64) .unit))
abbrev D8:Ty:=.st 16 (.cons (.int .i64) (.cons .bool .unit))
abbrev AA:Ty:=.st 40 (.cons (.int .i64) (.cons (.int .i64) (.cons (.int .i64) (.cons (.int .i64) (.cons (.int .i64) .unit)))))
abbrev pnl:List Lf:=[.int .i64,.int .i64,.sl 0 edT]
abbrev tol:List Lf:=[.sl 0 D8,.sl 0 AA]
abbrev afO:List Lf:=[.sl 2 D8,.sl 2 AA]
abbrev sbT:Ty:=.st 16 (.cons (.int .i64) (.cons (.int .u64) .unit))
abbrev pkl:List Lf:=[.int .i64,.int .i64,.int .i64,.int .i64,.int .i64,.int .i64,.int .i64,.int .i64,.int .u64,.str]
abbrev qX:Ty:=.st 32 (.cons (.int .i64) (.cons (.sl (.int .i64)) .unit))
abbrev rwl:List Lf:=[.int .i64,.sl 0 (.int .i64)]
abbrev tbl:List Lf:=[.int .i64,.int .i64,.int .i64,.sl 0 qX]
abbrev afP:List Lf:=[.int .i64,.int .i64,.int .i64,.sl 2 qX]
abbrev tbF:Ty:=.cons (.int .i64) (.cons (.int .i64) (.cons (.int .i64) (.cons (.sl qX) .unit)))
abbrev tbT:Ty:=.st 48 tbF
abbrev pkT:Ty:=.st 88 (.cons (.int .i64) (.cons (.int .i64) (.cons (.int .i64) (.cons (.int .i64) (.cons (.int .i64) (.cons (.int .i64) (.cons (.int .i64) (.cons (.int .i64) (.cons (.int .u64) (.cons .str .unit))))))))))
abbrev frT:Ty:=.st 112 (.cons (.sl (.int .i64)) (.cons pkT .unit))
abbrev cpT:Ty:=.st 120 (.cons (.int .i64) (.cons frT .unit))
abbrev ocl:List Lf:=[.int .u64,.int .u64,.sl 0 cpT]
abbrev frl:List Lf:=[.sl 0 (.int .i64),.int .i64,.int .i64,.int .i64,.int .i64,.int .i64,.int .i64,.int .i64,.int .i64,.int .u64,.str]
abbrev i:Sh:=.lf (.int .i64)
abbrev u8:Sh:=.lf (.int .u8)
abbrev b:Sh:=.lf .bool
abbrev ls:Sh:=.lf (.sl 0 (.int .i64))
abbrev lso:Sh:=.lf (.sl 2 (.int .i64))
abbrev lks:Sh:=.lf (.sl 0 AA)
abbrev lko:Sh:=.lf (.sl 2 AA)
abbrev pn:Sh:=.agg pnl
abbrev HZ:Sh:=.agg tol
abbrev tpg:Sh:=.agg afO
abbrev cnt:Sh:=.lf (.av .i64)
abbrev u:Sh:=.lf (.int .u64)
abbrev lb:Sh:=.lf (.sl 0 sbT)
abbrev st:Sh:=.lf .str
abbrev p:Sh:=.agg pkl
abbrev Uo:Sh:=.agg rwl
abbrev Db:Sh:=.agg tbl
abbrev tbg:Sh:=.agg afP
abbrev lrw:Sh:=.lf (.sl 0 qX)
abbrev k89:Sh:=.lf (.cst (.Ai 89))
abbrev k55:Sh:=.lf (.cst (.Ai 55))
abbrev k56:Sh:=.lf (.cst (.Ai 56))
abbrev vTb:Sh:=.lf (.vp tbF)
abbrev aci:Sh:=.lf (.fO 58 tbF)
abbrev oc:Sh:=.agg ocl
abbrev ltb:Sh:=.lf (.sl 0 tbT)
abbrev fr:Sh:=.agg frl
def c4:aR:={ aG:=false,pre:=[],ps:=[ls],rs:=(.sQ tape),post:=[],F:=fun x=>some (ah.tape x.2.1,()) }
def c71:aR:={ aG:=false,pre:=[],ps:=[i,i],rs:=(.one b),post:=[],F:=fun x=>some (ah.inside x.2.1 0 x.2.2.1,()) }
def c45:aR:={ aG:=false,pre:=[],ps:=[i],rs:=(.one u),post:=[],F:=fun x=>some (ah.Bt.fA x.2.1,()) }
def c69:aR:={ aG:=false,pre:=[],ps:=[i],rs:=(.one b),post:=[],F:=fun x=>some (ah.dI x.2.1,()) }
def c48:aR:={ aG:=false,pre:=[],ps:=[i],rs:=(.one u),post:=[],F:=fun x=>some (ah.Bt.full x.2.1,()) }
def c72:aR:={ aG:=false,pre:=[],ps:=[u,i],rs:=(.one b),post:=[],F:=fun x=>some (ah.lC x.2.1 x.2.2.1,()) }
def c38:aR:={ aG:=false,pre:=[],ps:=[p],rs:=(.one b),post:=[],F:=fun x=>some (ah.dx x.2.1,()) }
def c76:aR:={ aG:=false,pre:=[],ps:=[p],rs:=(.one i),post:=[],F:=fun x=>some (ah.aD x.2.1,()) }
def Xg:aR:={ aG:=false,pre:=[],ps:=[u,i],rs:=(.one b),post:=[],F:=fun x=>some (ah.Bt.has x.2.1 x.2.2.1,()) }
def Xh:aR:={ aG:=false,pre:=[],ps:=[u],rs:=(.one ls),post:=[],F:=fun x=>some (ah.Bt.list x.2.1,()) }
def c46:aR:={ aG:=false,pre:=[],ps:=[i,i],rs:=(.one i),post:=[],F:=fun x=>some (ah.cut x.2.1 x.2.2.1,()) }
def c47:aR:={ aG:=true,pre:=tape,ps:=[],rs:=(.one i),post:=tape,F:=fun x=>ah.on (ah.wf x.1) (ah.raw x.1) }
def c20:aR:={ aG:=true,pre:=tape,ps:=[i],rs:=(.one i),post:=tape,F:=fun x=>ah.on (ah.wf x.1) (ah.next x.1 x.2.1) }
def c22:aR:={ aG:=true,pre:=tape,ps:=[i,i],rs:=(.one i),post:=tape,F:=fun x=>ah.on (ah.wf x.1&&ah.small x.2.1&&ah.small x.2.2.1) (ah.range x.1 x.2.1 x.2.2.1) }
def c24:aR:={ aG:=true,pre:=tape,ps:=[i],rs:=(.one st),post:=tape,F:=fun x=>ah.on (ah.wf x.1&&decide (0≤x.2.1)&&decide (x.2.1≤1000)) (ah.text x.1 x.2.1) }
def c70:aR:={ aG:=false,pre:=[],ps:=[ls,i],rs:=(.one b),post:=[],F:=fun x=>some (ah.has x.2.1 x.2.2.1,()) }
def c23:aR:={ aG:=true,pre:=tape,ps:=[i],rs:=(.one u),post:=tape,F:=fun x=>ah.on (ah.wf x.1) (ah.Bt.bits x.1 x.2.1) }
def c18:aR:={ aG:=true,pre:=tape,ps:=[ls],rs:=(.one i),post:=tape,F:=fun x=>ah.on (ah.wf x.1&&decide (0<x.2.1.length)&&decide (x.2.1.length≤1000)) (ah.pick x.1 x.2.1) }
def c6:aR:={ aG:=true,pre:=tape,ps:=[i],rs:=(.one b),post:=tape,F:=fun x=>ah.on (ah.wf x.1&&ah.small x.2.1) (ah.one x.1 x.2.1) }
def c21:aR:={ aG:=true,pre:=tape,ps:=[],rs:=(.one i),post:=tape,F:=fun x=>ah.on (ah.wf x.1) (ah.length x.1) }
def c25:aR:={ aG:=true,pre:=tape,ps:=[],rs:=(.one i),post:=tape,F:=fun x=>ah.on (ah.wf x.1) (ah.wild x.1) }
def c7:aR:={ aG:=true,pre:=tape,ps:=[i],rs:=(.one p),post:=tape,F:=fun x=>ah.on (ah.wf x.1&&ah.small x.2.1) (ah.packet x.1 x.2.1) }
def c80:aR:={ aG:=false,pre:=[],ps:=[lks],rs:=(.one lko),post:=[],F:=fun x=>ah.on (decide (x.2.1.length≤10000)) (ah.ord x.2.1,()) }
def c42:aR:={ aG:=true,pre:=tape,ps:=[i,i],rs:=(.one tpg),post:=tape,F:=fun x=>ah.on (ah.wf x.1&&ah.inside x.2.1 1 50&&ah.small x.2.2.1) (ah.tX x.1 x.2.1 x.2.2.1) }
def c15:aR:={ aG:=true,pre:=tape,ps:=[i],rs:=(.one tpg),post:=tape,F:=fun x=>ah.on (ah.wf x.1&&ah.inside x.2.1 1 50) (ah.mixed x.1 x.2.1) }
def c43:aR:={ aG:=true,pre:=tape,ps:=[i],rs:=(.one lso),post:=tape,F:=fun x=>ah.on (ah.wf x.1&&ah.inside x.2.1 0 1000) (ah.order x.1 x.2.1.toNat) }
def c16:aR:={ aG:=true,pre:=tape,ps:=[HZ,i],rs:=(.one pn),post:=tape,F:=fun x=>ah.on (ah.wf x.1&&ah.small x.2.2.1&&decide (x.2.1.1.length≤1000)) (ah.kC x.1 x.2.1 x.2.2.1) }
def c19:aR:={ aG:=true,pre:=tape,ps:=[HZ,i],rs:=(.one i),post:=tape,F:=fun x=>ah.on (ah.wf x.1&&ah.small x.2.2.1&&decide (x.2.1.1.length≤1000)) (ah.jd x.1 x.2.1 x.2.2.1) }
def c60:aR:={ aG:=false,pre:=[],ps:=[i,i],rs:=(.one b),post:=[],F:=fun x=>some (ah.inside x.2.1 0 x.2.2.1,()) }
def c53:aR:={ aG:=false,pre:=[],ps:=[i],rs:=(.one b),post:=[],F:=fun x=>some (ah.dI x.2.1,()) }
def c91:aR:={ aG:=false,pre:=[],ps:=[i],rs:=(.one u),post:=[],F:=fun x=>some (ah.Bt.full x.2.1,()) }
def c61:aR:={ aG:=false,pre:=[],ps:=[u,i],rs:=(.one b),post:=[],F:=fun x=>some (ah.lC x.2.1 x.2.2.1,()) }
def c30:aR:={ aG:=false,pre:=[],ps:=[p],rs:=(.one b),post:=[],F:=fun x=>some (ah.dx x.2.1,()) }
def c31:aR:={ aG:=false,pre:=[],ps:=[p],rs:=(.one i),post:=[],F:=fun x=>some (ah.aD x.2.1,()) }
def c62:aR:={ aG:=false,pre:=[],ps:=[u],rs:=(.one i),post:=[],F:=fun x=>ah.on (!decide (x.2.1=0)) (ah.Bt.nth x.2.1 0,()) }
def c32:aR:={ aG:=false,pre:=[],ps:=[u],rs:=(.one i),post:=[],F:=fun x=>some (ah.Bt.nth x.2.1 0,()) }
def c63:aR:={ aG:=false,pre:=[],ps:=[i,i,i],rs:=(.one b),post:=[],F:=fun x=>some (ah.inside x.2.1 x.2.2.1 x.2.2.2.1,()) }
def c33:aR:={ aG:=false,pre:=[],ps:=[i,i,i],rs:=(.gB [i,b]),post:=[],F:=fun x=>some (ah.at_ x.2.1 x.2.2.1 x.2.2.2.1,()) }
def c36:aR:={ aG:=false,pre:=[],ps:=[p,u],rs:=(.gB [p,b]),post:=[],F:=fun x=>some (ah.masked x.2.1 x.2.2.1,()) }
def c81:aR:={ aG:=false,pre:=[],ps:=[i,i,i],rs:=(.one b),post:=[],F:=fun x=>some (ah.inside x.2.1 x.2.2.1 x.2.2.2.1,()) }
def c44:aR:={ aG:=false,pre:=[],ps:=[i,i],rs:=(.gB [i,i,b]),post:=[],F:=fun x=>some (ah.place x.2.1 x.2.2.1,()) }
def c90:aR:={ aG:=false,pre:=[],ps:=[ls,i],rs:=(.one i),post:=[],F:=fun x=>some (ah.idx (fun y=>decide (x.2.2.1=y)) x.2.1,()) }
def c59:aR:={ aG:=false,pre:=[],ps:=[ls,i],rs:=(.one b),post:=[],F:=fun x=>some (x.2.1.any fun y=>decide (x.2.2.1=y),()) }
def c74:aR:={ aG:=false,pre:=[],ps:=[i,i,i],rs:=(.gB [i,b]),post:=[],F:=fun x=>some (ah.at_ x.2.1 x.2.2.1 x.2.2.2.1,()) }
def c82:aR:={ aG:=false,pre:=[],ps:=[i],rs:=(.one b),post:=[],F:=fun x=>some (ah.inside x.2.1 1 1000,()) }
def c83:aR:={ aG:=false,pre:=[],ps:=[HZ,i],rs:=(.one b),post:=[],F:=fun x=>some (ah.gQ x.2.1.1 x.2.2.1,()) }
def c49:aR:={ aG:=false,pre:=[],ps:=[HZ],rs:=(.one i),post:=[],F:=fun x=>some (ah.wW x.2.1,()) }
def c84:aR:={ aG:=false,pre:=[],ps:=[ls],rs:=(.one b),post:=[],F:=fun x=>some (ah.repeats x.2.1,()) }
def c50:aR:={ aG:=false,pre:=[],ps:=[pn],rs:=(.one b),post:=[],F:=fun x=>some (ah.rV x.2.1,()) }
def c93:aR:={ aG:=false,pre:=[],ps:=[i,i],rs:=(.gB [i,i,b]),post:=[],F:=fun x=>some (ah.place x.2.1 x.2.2.1,()) }
def c85:aR:={ aG:=false,pre:=[],ps:=[HZ,i],rs:=(.one b),post:=[],F:=fun x=>some (ah.HY x.2.1 x.2.2.1,()) }
def c96:aR:={ aG:=false,pre:=[],ps:=[HZ,i],rs:=(.one b),post:=[],F:=fun x=>some (ah.CZ x.2.1 x.2.2.1,()) }
def c105:aR:={ aG:=false,pre:=[],ps:=[HZ,i,i],rs:=(.gB [i,b]),post:=[],F:=fun x=>some (ah.price x.2.1.2.1 x.2.2.1 x.2.2.2.1,()) }
def Xi:aR:={ aG:=false,pre:=[],ps:=[HZ,i],rs:=(.one lso),post:=[],F:=fun x=>some (ah.near x.2.1 x.2.2.1,()) }
def c52:aR:={ aG:=false,pre:=[],ps:=[i,i,i],rs:=(.one b),post:=[],F:=fun x=>some (ah.inside x.2.1 x.2.2.1 x.2.2.2.1,()) }
def c89:aR:={ aG:=false,pre:=[],ps:=[i],rs:=(.one b),post:=[],F:=fun x=>some (!ah.inside x.2.1 1 99,()) }
def Xj:aR:={ aG:=false,pre:=[],ps:=[ls,k89],rs:=(.one i),post:=[],F:=fun x=>some (ah.idx (fun n=>!ah.inside n 1 99) x.2.1,()) }
def c88:aR:={ aG:=false,pre:=[],ps:=[ls,k89],rs:=(.one b),post:=[],F:=fun x=>some (x.2.1.any (fun n=>!ah.inside n 1 99),()) }
def c55:aR:={ aG:=false,pre:=[],ps:=[Uo],rs:=(.one b),post:=[],F:=fun x=>some (ah.lD x.2.1,()) }
def c56:aR:={ aG:=false,pre:=[],ps:=[Uo],rs:=(.one b),post:=[],F:=fun x=>some (decide (24<x.2.1.2.1.length),()) }
def c58:aR:={ aG:=false,pre:=[],ps:=[Uo,vTb],rs:=(.one b),post:=[],F:=fun x=>some (ah.iX x.2.2.1.1 x.2.1,()) }
def c87:aR:={ aG:=false,pre:=[],ps:=[lrw,k55],rs:=(.one i),post:=[],F:=fun x=>some (ah.idx ah.lD x.2.1,()) }
def c54:aR:={ aG:=false,pre:=[],ps:=[lrw,k55],rs:=(.one b),post:=[],F:=fun x=>some (x.2.1.any ah.lD,()) }
def Xk:aR:={ aG:=false,pre:=[],ps:=[lrw,k56],rs:=(.one i),post:=[],F:=fun x=>some (ah.idx (fun r=>decide (24<r.2.1.length)) x.2.1,()) }
def Qa:aR:={ aG:=false,pre:=[],ps:=[lrw,k56],rs:=(.one b),post:=[],F:=fun x=>some (x.2.1.any (fun r=>decide (24<r.2.1.length)),()) }
def Xl:aR:={ aG:=false,pre:=[],ps:=[lrw,aci],rs:=(.one i),post:=[],F:=fun x=>some (ah.idx (ah.iX x.2.2.1.1) x.2.1,()) }
def Qb:aR:={ aG:=false,pre:=[],ps:=[lrw,aci],rs:=(.one b),post:=[],F:=fun x=>some (x.2.1.any (ah.iX x.2.2.1.1),()) }
def c57:aR:={ aG:=false,pre:=[],ps:=[ls],rs:=(.one b),post:=[],F:=fun x=>some (ah.qG x.2.1,()) }
def c29:aR:={ aG:=false,pre:=[],ps:=[Db],rs:=(.one i),post:=[],F:=fun x=>some (ah.nk x.2.1,()) }
def c68:aR:={ aG:=false,pre:=[],ps:=[i,i,i],rs:=(.one b),post:=[],F:=fun x=>some (ah.inside x.2.1 x.2.2.1 x.2.2.2.1,()) }
def c37:aR:={ aG:=false,pre:=[],ps:=[Db],rs:=(.one i),post:=[],F:=fun x=>some (ah.nk x.2.1,()) }
def c64:aR:={ aG:=false,pre:=[],ps:=[Db,i,i],rs:=(.one b),post:=[],F:=fun x=>some (ah.dS x.2.1 x.2.2.1 x.2.2.2.1,()) }
def c95:aR:={ aG:=false,pre:=[],ps:=[Db,i],rs:=(.gB [Uo,b]),post:=[],F:=fun x=>some (ah.dh x.2.1 x.2.2.1,()) }
def c92:aR:={ aG:=false,pre:=[],ps:=[ls],rs:=(.one lso),post:=[],F:=fun x=>some (x.2.1,()) }
def c65:aR:={ aG:=false,pre:=[],ps:=[Db,i],rs:=(.gB [Uo,b]),post:=[],F:=fun x=>some (ah.dh x.2.1 x.2.2.1,()) }
def c66:aR:={ aG:=false,pre:=[],ps:=[Uo,i],rs:=(.one i),post:=[],F:=fun x=>ah.on (decide (0≤x.2.2.1)) (ah.cu x.2.1 x.2.2.1,()) }
def c75:aR:={ aG:=false,pre:=[],ps:=[Db,i,i],rs:=(.one i),post:=[],F:=fun x=>ah.on (decide (0≤x.2.2.2.1)) (ah.zf x.2.1 x.2.2.1 x.2.2.2.1,()) }
def c34:aR:={ aG:=false,pre:=[],ps:=[Db,i,i],rs:=(.one i),post:=[],F:=fun x=>some (bif ah.dS x.2.1 x.2.2.2.1 0 then ah.cu (ah.dh x.2.1 x.2.2.1).1 x.2.2.2.1 else 0,()) }
def c12:aR:={ aG:=false,pre:=[],ps:=[oc],rs:=(.one u),post:=[],F:=fun x=>some (ah.sP x.2.1,()) }
def c77:aR:={ aG:=false,pre:=[],ps:=[Db,i,i,i],rs:=(.one u),post:=[],F:=fun x=>ah.on (decide (0≤x.2.2.1)&&decide (0≤x.2.1.2.2.1)&&decide (x.2.1.2.2.1≤64)) (ah.nu x.2.1 x.2.2.1 x.2.2.2.1 x.2.2.2.2.1,()) }
def c35:aR:={ aG:=false,pre:=[],ps:=[Db,i,i,i],rs:=(.one u),post:=[],F:=fun x=>some (ah.gH x.2.1 x.2.2.1 x.2.2.2.1 x.2.2.2.2.1,()) }
def c9:aR:={ aG:=false,pre:=[],ps:=[Db,p],rs:=(.gB [oc,i]),post:=[],F:=fun x=>some (ah.fwd x.2.1 x.2.2.1,()) }
def c17:aR:={ aG:=true,pre:=tape,ps:=[pn],rs:=(.one p),post:=tape,F:=fun x=>ah.on (ah.wf x.1&&decide (x.2.1.2.2.1.length≤1000)) (ah.oh x.1 x.2.1) }
def c5:aR:={ aG:=true,pre:=tape,ps:=[],rs:=(.gB [Db,p]),post:=tape,F:=fun x=>ah.on (ah.wf x.1) ((let r:=ah.tZ x.1;((r.1.1,r.1.2,()),r.2))) }
def c41:aR:={ aG:=false,pre:=[],ps:=[],rs:=(.one tbg),post:=[],F:=fun x=>some (ah.t0,()) }
def c14:aR:={ aG:=false,pre:=[],ps:=[],rs:=(.one b),post:=[],F:=fun x=>some (true,()) }
def c99:aR:={ aG:=false,pre:=[],ps:=[ls,i],rs:=(.one ls),post:=[],F:=fun x=>ah.x107 x.2.1 x.2.2.1 }
def Xm:aR:={ aG:=false,pre:=[],ps:=[HZ,i],rs:=(.one i),post:=[],F:=fun x=>ah.Lb x.2.1 x.2.2.1 }
def c97:aR:={ aG:=false,pre:=[],ps:=[HZ,i],rs:=(.one ls),post:=[],F:=fun x=>ah.x105 x.2.1 x.2.2.1 }
def Xn:aR:={ aG:=false,pre:=[],ps:=[HZ,ls,i],rs:=(.one i),post:=[],F:=fun x=>ah.Da x.2.1 x.2.2.1 x.2.2.2.1 }
def c98:aR:={ aG:=false,pre:=[],ps:=[HZ,ls,i],rs:=(.one ls),post:=[],F:=fun x=>ah.Lc x.2.1 x.2.2.1 x.2.2.2.1 }
def c86:aR:={ aG:=false,pre:=[],ps:=[HZ,i,i],rs:=(.one ls),post:=[],F:=fun x=>ah.x102 x.2.1 x.2.2.1 x.2.2.2.1 }
def c51:aR:={ aG:=false,pre:=[],ps:=[HZ,pn,i],rs:=(.one Db),post:=[],F:=fun x=>ah.x87 x.2.1 x.2.2.1 x.2.2.2.1 }
def c26:aR:={ aG:=false,pre:=[],ps:=[HZ,pn],rs:=(.gB [ltb,i]),post:=[],F:=fun x=>ah.x57 x.2.1 x.2.2.1 }
def c27:aR:={ aG:=false,pre:=[],ps:=[],rs:=.none,post:=[],F:=fun _=>none,xf:=some RX }
def Ld:aR:={ aG:=true,pre:=tape,ps:=[tbg],rs:=(.one Db),post:=tape,F:=fun x=>none }
def c28:aR:={ aG:=false,pre:=[],ps:=[],rs:=.none,post:=[],F:=fun _=>none,xf:=some RY }
def c8:aR:={ aG:=true,pre:=tape,ps:=[i],rs:=(.one Db),post:=tape,F:=fun x=>ah.x26 x.1 x.2.1 }
def c79:aR:={ aG:=false,pre:=[],ps:=[ls,ls],rs:=(.one b),post:=[],F:=fun x=>some (decide (x.2.1=x.2.2.1),()) }
def c40:aR:={ aG:=false,pre:=[],ps:=[fr,fr],rs:=(.one b),post:=[],F:=fun x=>some (ah.pG x.2.1 x.2.2.1,()) }
def c11:aR:={ aG:=false,pre:=[],ps:=[oc,oc],rs:=(.one b),post:=[],F:=fun x=>some (ah.ny x.2.1 x.2.2.1,()) }
def c94:aR:={ aG:=false,pre:=[],ps:=[u,i],rs:=(.one i),post:=[],F:=fun x=>some (ah.Bt.nth x.2.1 x.2.2.1,()) }
def c73:aR:={ aG:=false,pre:=[],ps:=[u],rs:=(.one i),post:=[],F:=fun x=>some (ah.Bt.nth x.2.1 0,()) }
def c78:aR:={ aG:=false,pre:=[],ps:=[p,u],rs:=(.gB [p,b]),post:=[],F:=fun x=>some (ah.masked x.2.1 x.2.2.1,()) }
def c13:aR:={ aG:=false,pre:=[],ps:=[oc],rs:=(.one u),post:=[],F:=fun x=>some (ah.sP x.2.1,()) }
def c39:aR:={ aG:=false,pre:=[],ps:=[Db,p],rs:=(.one oc),post:=[],F:=fun x=>ah.on (decide (ah.nk x.2.1=0)&&ah.dx x.2.2.1&&decide (x.2.1.2.2.1=ah.ln x.2.2.1)) (ah.La x.2.1 x.2.2.1,()) }
def c10:aR:={ aG:=false,pre:=[],ps:=[Db,p],rs:=(.gB [oc,i]),post:=[],F:=fun x=>some (ah.fwd x.2.1 x.2.2.1,()) }
def c3:aR:={ aG:=false,pre:=[],ps:=[ls,Db,p],rs:=(.one b),post:=[],F:=fun x=>some (true,()) }
abbrev L0:List (Nat×aR):=[]
abbrev G4:dD:=au L0
abbrev L4:List (Nat×aR):=((4:Nat),c4)::L0
abbrev G71:dD:=au L4
abbrev L71:List (Nat×aR):=((71:Nat),c71)::L4
abbrev G45:dD:=au L71
abbrev L45:List (Nat×aR):=((45:Nat),c45)::L71
abbrev G69:dD:=au L45
abbrev L69:List (Nat×aR):=((69:Nat),c69)::L45
abbrev G48:dD:=au L69
abbrev L48:List (Nat×aR):=((48:Nat),c48)::L69
abbrev G72:dD:=au L48
abbrev L72:List (Nat×aR):=((72:Nat),c72)::L48
abbrev G38:dD:=au L72
abbrev L38:List (Nat×aR):=((38:Nat),c38)::L72
abbrev G76:dD:=au L38
abbrev L76:List (Nat×aR):=((76:Nat),c76)::L38
abbrev agL:dD:=au L76
abbrev L106:List (Nat×aR):=((106:Nat),Xg)::L76
abbrev agM:dD:=au L106
abbrev RZ:List (Nat×aR):=((101:Nat),Xh)::L106
abbrev G46:dD:=au RZ
abbrev L46:List (Nat×aR):=((46:Nat),c46)::RZ
abbrev G47:dD:=au L46
abbrev L47:List (Nat×aR):=((47:Nat),c47)::L46
abbrev G20:dD:=au L47
abbrev L20:List (Nat×aR):=((20:Nat),c20)::L47
abbrev G22:dD:=au L20
abbrev L22:List (Nat×aR):=((22:Nat),c22)::L20
abbrev G24:dD:=au L22
abbrev L24:List (Nat×aR):=((24:Nat),c24)::L22
abbrev G70:dD:=au L24
abbrev L70:List (Nat×aR):=((70:Nat),c70)::L24
abbrev G23:dD:=au L70
abbrev L23:List (Nat×aR):=((23:Nat),c23)::L70
abbrev G18:dD:=au L23
abbrev L18:List (Nat×aR):=((18:Nat),c18)::L23
abbrev G6:dD:=au L18
abbrev L6:List (Nat×aR):=((6:Nat),c6)::L18
abbrev G21:dD:=au L6
abbrev L21:List (Nat×aR):=((21:Nat),c21)::L6
abbrev G25:dD:=au L21
abbrev L25:List (Nat×aR):=((25:Nat),c25)::L21
abbrev G7:dD:=au L25
abbrev L7:List (Nat×aR):=((7:Nat),c7)::L25
abbrev G80:dD:=au L7
abbrev L80:List (Nat×aR):=((80:Nat),c80)::L7
abbrev G42:dD:=au L80
abbrev L42:List (Nat×aR):=((42:Nat),c42)::L80
abbrev G15:dD:=au L42
abbrev L15:List (Nat×aR):=((15:Nat),c15)::L42
abbrev G43:dD:=au L15
abbrev L43:List (Nat×aR):=((43:Nat),c43)::L15
abbrev G16:dD:=au L43
abbrev L16:List (Nat×aR):=((16:Nat),c16)::L43
abbrev G19:dD:=au L16
abbrev L19:List (Nat×aR):=((19:Nat),c19)::L16
abbrev G60:dD:=au L19
abbrev L60:List (Nat×aR):=((60:Nat),c60)::L19
abbrev G53:dD:=au L60
abbrev L53:List (Nat×aR):=((53:Nat),c53)::L60
abbrev G91:dD:=au L53
abbrev L91:List (Nat×aR):=((91:Nat),c91)::L53
abbrev G61:dD:=au L91
abbrev L61:List (Nat×aR):=((61:Nat),c61)::L91
abbrev G30:dD:=au L61
abbrev L30:List (Nat×aR):=((30:Nat),c30)::L61
abbrev G31:dD:=au L30
abbrev L31:List (Nat×aR):=((31:Nat),c31)::L30
abbrev G62:dD:=au L31
abbrev L62:List (Nat×aR):=((62:Nat),c62)::L31
abbrev G32:dD:=au L62
abbrev L32:List (Nat×aR):=((32:Nat),c32)::L62
abbrev G63:dD:=au L32
abbrev L63:List (Nat×aR):=((63:Nat),c63)::L32
abbrev G33:dD:=au L63
abbrev L33:List (Nat×aR):=((33:Nat),c33)::L63
abbrev G36:dD:=au L33
abbrev L36:List (Nat×aR):=((36:Nat),c36)::L33
abbrev G81:dD:=au L36
abbrev L81:List (Nat×aR):=((81:Nat),c81)::L36
abbrev G44:dD:=au L81
abbrev L44:List (Nat×aR):=((44:Nat),c44)::L81
abbrev G90:dD:=au L44
abbrev L90:List (Nat×aR):=((90:Nat),c90)::L44
abbrev G59:dD:=au L90
abbrev L59:List (Nat×aR):=((59:Nat),c59)::L90
abbrev G74:dD:=au L59
abbrev L74:List (Nat×aR):=((74:Nat),c74)::L59
abbrev G82:dD:=au L74
abbrev L82:List (Nat×aR):=((82:Nat),c82)::L74
abbrev G83:dD:=au L82
abbrev L83:List (Nat×aR):=((83:Nat),c83)::L82
abbrev G49:dD:=au L83
abbrev L49:List (Nat×aR):=((49:Nat),c49)::L83
abbrev G84:dD:=au L49
abbrev L84:List (Nat×aR):=((84:Nat),c84)::L49
abbrev G50:dD:=au L84
abbrev L50:List (Nat×aR):=((50:Nat),c50)::L84
abbrev G93:dD:=au L50
abbrev L93:List (Nat×aR):=((93:Nat),c93)::L50
abbrev G85:dD:=au L93
abbrev L85:List (Nat×aR):=((85:Nat),c85)::L93
abbrev G96:dD:=au L85
abbrev L96:List (Nat×aR):=((96:Nat),c96)::L85
abbrev agN:dD:=au L96
abbrev R4:List (Nat×aR):=((105:Nat),c105)::L96
abbrev agO:dD:=au R4
abbrev R5:List (Nat×aR):=((104:Nat),Xi)::R4
abbrev G52:dD:=au R5
abbrev L52:List (Nat×aR):=((52:Nat),c52)::R5
abbrev G89:dD:=au L52
abbrev L89:List (Nat×aR):=((89:Nat),c89)::L52
abbrev agP:dD:=au L89
abbrev L100:List (Nat×aR):=((100:Nat),Xj)::L89
abbrev G88:dD:=au L100
abbrev L88:List (Nat×aR):=((88:Nat),c88)::L100
abbrev G55:dD:=au L88
abbrev L55:List (Nat×aR):=((55:Nat),c55)::L88
abbrev G56:dD:=au L55
abbrev L56:List (Nat×aR):=((56:Nat),c56)::L55
abbrev G58:dD:=au L56
abbrev L58:List (Nat×aR):=((58:Nat),c58)::L56
abbrev G87:dD:=au L58
abbrev L87:List (Nat×aR):=((87:Nat),c87)::L58
abbrev G54:dD:=au L87
abbrev L54:List (Nat×aR):=((54:Nat),c54)::L87
abbrev agQ:dD:=au L54
abbrev R6:List (Nat×aR):=((87:Nat),Xk)::L54
abbrev aco:dD:=au R6
abbrev JL:List (Nat×aR):=((1000054:Nat),Qa)::R6
abbrev agR:dD:=au JL
abbrev R7:List (Nat×aR):=((87:Nat),Xl)::JL
abbrev acp:dD:=au R7
abbrev JM:List (Nat×aR):=((2000054:Nat),Qb)::R7
abbrev G57:dD:=au JM
abbrev L57:List (Nat×aR):=((57:Nat),c57)::JM
abbrev G29:dD:=au L57
abbrev L29:List (Nat×aR):=((29:Nat),c29)::L57
abbrev G68:dD:=au L29
abbrev L68:List (Nat×aR):=((68:Nat),c68)::L29
abbrev G37:dD:=au L68
abbrev L37:List (Nat×aR):=((37:Nat),c37)::L68
abbrev G64:dD:=au L37
abbrev L64:List (Nat×aR):=((64:Nat),c64)::L37
abbrev G95:dD:=au L64
abbrev L95:List (Nat×aR):=((95:Nat),c95)::L64
abbrev L92:List (Nat×aR):=((92:Nat),c92)::L95
abbrev G65:dD:=au L92
abbrev L65:List (Nat×aR):=((65:Nat),c65)::L92
abbrev G66:dD:=au L65
abbrev L66:List (Nat×aR):=((66:Nat),c66)::L65
abbrev G75:dD:=au L66
abbrev L75:List (Nat×aR):=((75:Nat),c75)::L66
abbrev G34:dD:=au L75
abbrev L34:List (Nat×aR):=((34:Nat),c34)::L75
abbrev G12:dD:=au L34
abbrev L12:List (Nat×aR):=((12:Nat),c12)::L34
abbrev G77:dD:=au L12
abbrev L77:List (Nat×aR):=((77:Nat),c77)::L12
abbrev L35:List (Nat×aR):=((35:Nat),c35)::L77
abbrev G9:dD:=au L35
abbrev L9:List (Nat×aR):=((9:Nat),c9)::L35
abbrev G17:dD:=au L9
abbrev L17:List (Nat×aR):=((17:Nat),c17)::L9
abbrev G5:dD:=au L17
abbrev L5:List (Nat×aR):=((5:Nat),c5)::L17
abbrev G41:dD:=au L5
abbrev L41:List (Nat×aR):=((41:Nat),c41)::L5
abbrev G14:dD:=au L41
abbrev L14:List (Nat×aR):=((14:Nat),c14)::L41
abbrev G99:dD:=au L14
abbrev L99:List (Nat×aR):=((99:Nat),c99)::L14
abbrev agS:dD:=au L99
abbrev R8:List (Nat×aR):=((102:Nat),Xm)::L99
abbrev G97:dD:=au R8
abbrev L97:List (Nat×aR):=((97:Nat),c97)::R8
abbrev agT:dD:=au L97
abbrev R9:List (Nat×aR):=((103:Nat),Xn)::L97
abbrev G98:dD:=au R9
abbrev L98:List (Nat×aR):=((98:Nat),c98)::R9
abbrev G86:dD:=au L98
abbrev L86:List (Nat×aR):=((86:Nat),c86)::L98
abbrev G51:dD:=au L86
abbrev L51:List (Nat×aR):=((51:Nat),c51)::L86
abbrev G26:dD:=au L51
abbrev L26:List (Nat×aR):=((26:Nat),c26)::L51
abbrev L27:List (Nat×aR):=((27:Nat),c27)::L26
abbrev acr:dD:=au L27
abbrev L28:List (Nat×aR):=((28:Nat),c28)::L27
abbrev G8:dD:=au L28
abbrev L8:List (Nat×aR):=((8:Nat),c8)::L28
abbrev G79:dD:=au L8
abbrev L79:List (Nat×aR):=((79:Nat),c79)::L8
abbrev G40:dD:=au L79
abbrev L40:List (Nat×aR):=((40:Nat),c40)::L79
abbrev G11:dD:=au L40
abbrev L11:List (Nat×aR):=((11:Nat),c11)::L40
abbrev G94:dD:=au L11
abbrev L94:List (Nat×aR):=((94:Nat),c94)::L11
abbrev G73:dD:=au L94
abbrev L73:List (Nat×aR):=((73:Nat),c73)::L94
abbrev G78:dD:=au L73
abbrev L78:List (Nat×aR):=((78:Nat),c78)::L73
abbrev G13:dD:=au L78
abbrev L13:List (Nat×aR):=((13:Nat),c13)::L78
abbrev G39:dD:=au L13
abbrev L39:List (Nat×aR):=((39:Nat),c39)::L13
abbrev G10:dD:=au L39
abbrev L10:List (Nat×aR):=((10:Nat),c10)::L39
abbrev G3:dD:=au L10
end
end Go.aW.fF
namespace Go.aW.fF
open Go Go.Proofs Go.aW
noncomputable def g25 (a0:List Int) (a1:Int):Option (Int×List Int×Int×Unit):=Option.bind (ah.on (ah.wf (a0,a1,())&&true&&true) (ah.pick (a0,a1,()) ah.PZ)) (fun y=>some y)
theorem Xo (a0:List Int) (a1:Int):(eF (fun _ _=>Loop) E25 G25 Tryz.f25 Oi c25 ((a0,(a1,())),())).den=g25 a0 a1:=by kernel_rfl
end Go.aW.fF
namespace Go.aW.fF
open Go Go.aW
set_option maxRecDepth 20000
set_option linter.unusedVariables false
noncomputable def vU (a0:(@List ah.Lk)) (a1:(Int×((@List ah.Lk)×Unit))) (a2:(Int×((@List ah.Lk)×Unit))):(Option (Sum (Int×((@List ah.Lk)×Unit)) (Int×((@List ah.Lk)×Unit)))):=
  (Option.bind (bif (decide (a2.1<(Int.ofNat a2.2.1.length))) then (bif (decide (a2.1<(Int.ofNat a2.2.1.length))) then (bif (decide (a2.1<(Int.ofNat a2.2.1.length))) then (bif ((decide (0≤a2.1))&&(decide (a2.1<(Int.ofNat a2.2.1.length)))) then (bif (decide (a2.1<(Int.ofNat a2.2.1.length))) then (bif (decide (a2.1<(Int.ofNat a2.2.1.length))) then (bif (@Nat.blt (Int.toNat a2.1) a2.2.1.length) then (bif (decide (a2.1<(Int.ofNat a2.2.1.length))) then (bif (decide (a2.1<(Int.ofNat a2.2.1.length))) then (bif (decide (a2.1<(Int.ofNat a2.2.1.length))) then (bif ((decide (0≤a1.1))&&(decide (a1.1<(Int.ofNat a0.length)))) then (bif (decide (a2.1<(Int.ofNat a2.2.1.length))) then (bif (decide (a2.1<(Int.ofNat a2.2.1.length))) then (bif (decide (a2.1<(Int.ofNat a2.2.1.length))) then (bif (decide (a2.1<(Int.ofNat a2.2.1.length))) then (bif (!(decide ((List.getD a2.2.1 (Int.toNat a2.1) (0,(0,(0,(0,(0,())))))).1<(List.getD a0 (Int.toNat a1.1) (0,(0,(0,(0,(0,())))))).1))) then (bif (!(decide ((List.getD a2.2.1 (Int.toNat a2.1) (0,(0,(0,(0,(0,())))))).1<(List.getD a0 (Int.toNat a1.1) (0,(0,(0,(0,(0,())))))).1))) then (bif (!(decide ((List.getD a2.2.1 (Int.toNat a2.1) (0,(0,(0,(0,(0,())))))).1<(List.getD a0 (Int.toNat a1.1) (0,(0,(0,(0,(0,())))))).1))) then (bif ((decide (0≤a2.1))&&(decide (a2.1<(Int.ofNat a2.2.1.length)))) then (bif (!(decide ((List.getD a2.2.1 (Int.toNat a2.1) (0,(0,(0,(0,(0,())))))).1<(List.getD a0 (Int.toNat a1.1) (0,(0,(0,(0,(0,())))))).1))) then (bif (!(decide ((List.getD a2.2.1 (Int.toNat a2.1) (0,(0,(0,(0,(0,())))))).1<(List.getD a0 (Int.toNat a1.1) (0,(0,(0,(0,(0,())))))).1))) then (bif (@Nat.blt (Int.toNat a2.1) a2.2.1.length) then (bif (!(decide ((List.getD a2.2.1 (Int.toNat a2.1) (0,(0,(0,(0,(0,())))))).1<(List.getD a0 (Int.toNat a1.1) (0,(0,(0,(0,(0,())))))).1))) then (bif (!(decide ((List.getD a2.2.1 (Int.toNat a2.1) (0,(0,(0,(0,(0,())))))).1<(List.getD a0 (Int.toNat a1.1) (0,(0,(0,(0,(0,())))))).1))) then (bif (!(decide ((List.getD a2.2.1 (Int.toNat a2.1) (0,(0,(0,(0,(0,())))))).1<(List.getD a0 (Int.toNat a1.1) (0,(0,(0,(0,(0,())))))).1))) then (bif ((decide (0≤a1.1))&&(decide (a1.1<(Int.ofNat a0.length)))) then (bif (!(decide ((List.getD a2.2.1 (Int.toNat a2.1) (0,(0,(0,(0,(0,())))))).1<(List.getD a0 (Int.toNat a1.1) (0,(0,(0,(0,(0,())))))).1))) then (bif (!(decide ((List.getD a2.2.1 (Int.toNat a2.1) (0,(0,(0,(0,(0,())))))).1<(List.getD a0 (Int.toNat a1.1) (0,(0,(0,(0,(0,())))))).1))) then (bif (!(decide ((List.getD a2.2.1 (Int.toNat a2.1) (0,(0,(0,(0,(0,())))))).1<(List.getD a0 (Int.toNat a1.1) (0,(0,(0,(0,(0,())))))).1))) then (bif (!(decide ((List.getD a2.2.1 (Int.toNat a2.1) (0,(0,(0,(0,(0,())))))).1<(List.getD a0 (Int.toNat a1.1) (0,(0,(0,(0,(0,())))))).1))) then (bif (decide ((List.getD a2.2.1 (Int.toNat a2.1) (0,(0,(0,(0,(0,())))))).1=(List.getD a0 (Int.toNat a1.1) (0,(0,(0,(0,(0,())))))).1)) then (bif (decide ((List.getD a2.2.1 (Int.toNat a2.1) (0,(0,(0,(0,(0,())))))).1=(List.getD a0 (Int.toNat a1.1) (0,(0,(0,(0,(0,())))))).1)) then (bif (decide ((List.getD a2.2.1 (Int.toNat a2.1) (0,(0,(0,(0,(0,())))))).1=(List.getD a0 (Int.toNat a1.1) (0,(0,(0,(0,(0,())))))).1)) then (bif ((decide (0≤a2.1))&&(decide (a2.1<(Int.ofNat a2.2.1.length)))) then (bif (decide ((List.getD a2.2.1 (Int.toNat a2.1) (0,(0,(0,(0,(0,())))))).1=(List.getD a0 (Int.toNat a1.1) (0,(0,(0,(0,(0,())))))).1)) then (bif (decide ((List.getD a2.2.1 (Int.toNat a2.1) (0,(0,(0,(0,(0,())))))).1=(List.getD a0 (Int.toNat a1.1) (0,(0,(0,(0,(0,())))))).1)) then (bif (@Nat.blt (Int.toNat a2.1) a2.2.1.length) then (bif (decide ((List.getD a2.2.1 (Int.toNat a2.1) (0,(0,(0,(0,(0,())))))).1=(List.getD a0 (Int.toNat a1.1) (0,(0,(0,(0,(0,())))))).1)) then (bif (decide ((List.getD a2.2.1 (Int.toNat a2.1) (0,(0,(0,(0,(0,())))))).1=(List.getD a0 (Int.toNat a1.1) (0,(0,(0,(0,(0,())))))).1)) then (bif (decide ((List.getD a2.2.1 (Int.toNat a2.1) (0,(0,(0,(0,(0,())))))).1=(List.getD a0 (Int.toNat a1.1) (0,(0,(0,(0,(0,())))))).1)) then (bif ((decide (0≤a1.1))&&(decide (a1.1<(Int.ofNat a0.length)))) then (bif (decide ((List.getD a2.2.1 (Int.toNat a2.1) (0,(0,(0,(0,(0,())))))).1=(List.getD a0 (Int.toNat a1.1) (0,(0,(0,(0,(0,())))))).1)) then (bif (decide ((List.getD a2.2.1 (Int.toNat a2.1) (0,(0,(0,(0,(0,())))))).1=(List.getD a0 (Int.toNat a1.1) (0,(0,(0,(0,(0,())))))).1)) then (bif (decide ((List.getD a2.2.1 (Int.toNat a2.1) (0,(0,(0,(0,(0,())))))).1=(List.getD a0 (Int.toNat a1.1) (0,(0,(0,(0,(0,())))))).1)) then (bif (!(decide ((List.getD a2.2.1 (Int.toNat a2.1) (0,(0,(0,(0,(0,())))))).1<(List.getD a0 (Int.toNat a1.1) (0,(0,(0,(0,(0,())))))).1))) then (bif (decide ((List.getD a2.2.1 (Int.toNat a2.1) (0,(0,(0,(0,(0,())))))).1=(List.getD a0 (Int.toNat a1.1) (0,(0,(0,(0,(0,())))))).1)) then (bif (decide (a2.1<(Int.ofNat a2.2.1.length))) then (bif (!(decide ((List.getD a2.2.1 (Int.toNat a2.1) (0,(0,(0,(0,(0,())))))).1<(List.getD a0 (Int.toNat a1.1) (0,(0,(0,(0,(0,())))))).1))) then (bif (decide (a2.1<(Int.ofNat a2.2.1.length))) then (some (a2.2.1,((decide ((List.getD a2.2.1 (Int.toNat a2.1) (0,(0,(0,(0,(0,())))))).2.1<(List.getD a0 (Int.toNat a1.1) (0,(0,(0,(0,(0,())))))).2.1)),()))) else none) else none) else none) else none) else none) else none) else none) else none) else none) else none) else none) else none) else none) else none) else none) else none) else none) else none) else (bif (!(decide ((List.getD a2.2.1 (Int.toNat a2.1) (0,(0,(0,(0,(0,())))))).1=(List.getD a0 (Int.toNat a1.1) (0,(0,(0,(0,(0,())))))).1))) then (bif (!(decide ((List.getD a2.2.1 (Int.toNat a2.1) (0,(0,(0,(0,(0,())))))).1=(List.getD a0 (Int.toNat a1.1) (0,(0,(0,(0,(0,())))))).1))) then (bif (!(decide ((List.getD a2.2.1 (Int.toNat a2.1) (0,(0,(0,(0,(0,())))))).1=(List.getD a0 (Int.toNat a1.1) (0,(0,(0,(0,(0,())))))).1))) then (bif (!(decide ((List.getD a2.2.1 (Int.toNat a2.1) (0,(0,(0,(0,(0,())))))).1=(List.getD a0 (Int.toNat a1.1) (0,(0,(0,(0,(0,())))))).1))) then (bif (!(decide ((List.getD a2.2.1 (Int.toNat a2.1) (0,(0,(0,(0,(0,())))))).1=(List.getD a0 (Int.toNat a1.1) (0,(0,(0,(0,(0,())))))).1))) then (bif (!(decide ((List.getD a2.2.1 (Int.toNat a2.1) (0,(0,(0,(0,(0,())))))).1=(List.getD a0 (Int.toNat a1.1) (0,(0,(0,(0,(0,())))))).1))) then (bif (!(decide ((List.getD a2.2.1 (Int.toNat a2.1) (0,(0,(0,(0,(0,())))))).1=(List.getD a0 (Int.toNat a1.1) (0,(0,(0,(0,(0,())))))).1))) then (bif (!(decide ((List.getD a2.2.1 (Int.toNat a2.1) (0,(0,(0,(0,(0,())))))).1=(List.getD a0 (Int.toNat a1.1) (0,(0,(0,(0,(0,())))))).1))) then (bif (!(decide ((List.getD a2.2.1 (Int.toNat a2.1) (0,(0,(0,(0,(0,())))))).1=(List.getD a0 (Int.toNat a1.1) (0,(0,(0,(0,(0,())))))).1))) then (bif (!(decide ((List.getD a2.2.1 (Int.toNat a2.1) (0,(0,(0,(0,(0,())))))).1=(List.getD a0 (Int.toNat a1.1) (0,(0,(0,(0,(0,())))))).1))) then (bif (!(decide ((List.getD a2.2.1 (Int.toNat a2.1) (0,(0,(0,(0,(0,())))))).1<(List.getD a0 (Int.toNat a1.1) (0,(0,(0,(0,(0,())))))).1))) then (bif (!(decide ((List.getD a2.2.1 (Int.toNat a2.1) (0,(0,(0,(0,(0,())))))).1=(List.getD a0 (Int.toNat a1.1) (0,(0,(0,(0,(0,())))))).1))) then (bif (decide (a2.1<(Int.ofNat a2.2.1.length))) then (bif (!(decide ((List.getD a2.2.1 (Int.toNat a2.1) (0,(0,(0,(0,(0,())))))).1<(List.getD a0 (Int.toNat a1.1) (0,(0,(0,(0,(0,())))))).1))) then (bif (decide (a2.1<(Int.ofNat a2.2.1.length))) then (some (a2.2.1,(false,()))) else none) else none) else none) else none) else none) else none) else none) else none) else none) else none) else none) else none) else none) else none) else none)) else none) else none) else none) else none) else none) else none) else none) else none) else none) else none) else none) else none) else none) else none) else (bif (decide ((List.getD a2.2.1 (Int.toNat a2.1) (0,(0,(0,(0,(0,())))))).1<(List.getD a0 (Int.toNat a1.1) (0,(0,(0,(0,(0,())))))).1)) then (bif (decide ((List.getD a2.2.1 (Int.toNat a2.1) (0,(0,(0,(0,(0,())))))).1<(List.getD a0 (Int.toNat a1.1) (0,(0,(0,(0,(0,())))))).1)) then (bif (decide ((List.getD a2.2.1 (Int.toNat a2.1) (0,(0,(0,(0,(0,())))))).1<(List.getD a0 (Int.toNat a1.1) (0,(0,(0,(0,(0,())))))).1)) then (bif (decide ((List.getD a2.2.1 (Int.toNat a2.1) (0,(0,(0,(0,(0,())))))).1<(List.getD a0 (Int.toNat a1.1) (0,(0,(0,(0,(0,())))))).1)) then (bif (decide ((List.getD a2.2.1 (Int.toNat a2.1) (0,(0,(0,(0,(0,())))))).1<(List.getD a0 (Int.toNat a1.1) (0,(0,(0,(0,(0,())))))).1)) then (bif (decide ((List.getD a2.2.1 (Int.toNat a2.1) (0,(0,(0,(0,(0,())))))).1<(List.getD a0 (Int.toNat a1.1) (0,(0,(0,(0,(0,())))))).1)) then (bif (decide ((List.getD a2.2.1 (Int.toNat a2.1) (0,(0,(0,(0,(0,())))))).1<(List.getD a0 (Int.toNat a1.1) (0,(0,(0,(0,(0,())))))).1)) then (bif (decide ((List.getD a2.2.1 (Int.toNat a2.1) (0,(0,(0,(0,(0,())))))).1<(List.getD a0 (Int.toNat a1.1) (0,(0,(0,(0,(0,())))))).1)) then (bif (decide ((List.getD a2.2.1 (Int.toNat a2.1) (0,(0,(0,(0,(0,())))))).1<(List.getD a0 (Int.toNat a1.1) (0,(0,(0,(0,(0,())))))).1)) then (bif (decide ((List.getD a2.2.1 (Int.toNat a2.1) (0,(0,(0,(0,(0,())))))).1<(List.getD a0 (Int.toNat a1.1) (0,(0,(0,(0,(0,())))))).1)) then (bif (decide ((List.getD a2.2.1 (Int.toNat a2.1) (0,(0,(0,(0,(0,())))))).1<(List.getD a0 (Int.toNat a1.1) (0,(0,(0,(0,(0,())))))).1)) then (bif (decide ((List.getD a2.2.1 (Int.toNat a2.1) (0,(0,(0,(0,(0,())))))).1<(List.getD a0 (Int.toNat a1.1) (0,(0,(0,(0,(0,())))))).1)) then (bif (decide (a2.1<(Int.ofNat a2.2.1.length))) then (bif (decide ((List.getD a2.2.1 (Int.toNat a2.1) (0,(0,(0,(0,(0,())))))).1<(List.getD a0 (Int.toNat a1.1) (0,(0,(0,(0,(0,())))))).1)) then (bif (decide (a2.1<(Int.ofNat a2.2.1.length))) then (some (a2.2.1,(true,()))) else none) else none) else none) else none) else none) else none) else none) else none) else none) else none) else none) else none) else none) else none) else none)) else none) else none) else none) else none) else none) else none) else none) else none) else none) else none) else none) else none) else none) else none) else (bif (!(decide (a2.1<(Int.ofNat a2.2.1.length)))) then (bif (!(decide (a2.1<(Int.ofNat a2.2.1.length)))) then (bif (!(decide (a2.1<(Int.ofNat a2.2.1.length)))) then (bif (!(decide (a2.1<(Int.ofNat a2.2.1.length)))) then (bif (!(decide (a2.1<(Int.ofNat a2.2.1.length)))) then (bif (!(decide (a2.1<(Int.ofNat a2.2.1.length)))) then (bif (!(decide (a2.1<(Int.ofNat a2.2.1.length)))) then (bif (!(decide (a2.1<(Int.ofNat a2.2.1.length)))) then (bif (!(decide (a2.1<(Int.ofNat a2.2.1.length)))) then (bif (!(decide (a2.1<(Int.ofNat a2.2.1.length)))) then (bif (!(decide (a2.1<(Int.ofNat a2.2.1.length)))) then (bif (!(decide (a2.1<(Int.ofNat a2.2.1.length)))) then (bif (!(decide (a2.1<(Int.ofNat a2.2.1.length)))) then (some (a2.2.1,(false,()))) else none) else none) else none) else none) else none) else none) else none) else none) else none) else none) else none) else none) else none)) (fun y3=>(bif y3.2.1 then (some (.inl ((IntKind.wrap .i64 (a2.1+1)),(y3.1,())))) else (some (.inr (a2.1,(y3.1,())))))))
noncomputable def vV (a0:(@List ah.Lk)) (a1:(Int×((@List ah.Lk)×Unit))):(Option (Sum (Int×((@List ah.Lk)×Unit)) ((@List ah.Lk)×Unit))):=
  (bif (decide (a1.1<(Int.ofNat a0.length))) then (Option.bind (Loop (@vU a0 a1) (0,a1.2)) (fun y2=>(bif ((true&&(decide (0≤y2.1)))&&(decide (y2.1≤(Int.ofNat y2.2.1.length)))) then (bif (@Nat.ble ((0+(List.drop 0 (List.take (Int.toNat y2.1) y2.2.1)).length)*40) 140737488355328) then (bif ((decide (0≤a1.1))&&(decide (a1.1<(Int.ofNat a0.length)))) then (bif (@Nat.ble ((([]++(List.drop 0 (List.take (Int.toNat y2.1) y2.2.1))).length+1)*40) 140737488355328) then (bif (((decide (0≤y2.1))&&(decide (y2.1≤(Int.ofNat y2.2.1.length))))&&(decide ((Int.ofNat y2.2.1.length)≤(Int.ofNat y2.2.1.length)))) then (bif (@Nat.ble (((([]++(List.drop 0 (List.take (Int.toNat y2.1) y2.2.1)))++((List.getD a0 (Int.toNat a1.1) (0,(0,(0,(0,(0,()))))))::[])).length+(List.drop (Int.toNat y2.1) (List.take (Int.toNat (Int.ofNat y2.2.1.length)) y2.2.1)).length)*40) 140737488355328) then (some (.inl ((IntKind.wrap .i64 (a1.1+1)),(((([]++(List.drop 0 (List.take (Int.toNat y2.1) y2.2.1)))++((List.getD a0 (Int.toNat a1.1) (0,(0,(0,(0,(0,()))))))::[]))++(List.drop (Int.toNat y2.1) (List.take (Int.toNat (Int.ofNat y2.2.1.length)) y2.2.1))),())))) else none) else none) else none) else none) else none) else none))) else (some (.inr a1.2)))
noncomputable def g80 (a0:(@List ah.Lk)):(Option ((@List ah.Lk)×Unit)):=
  (Option.bind (Loop (@vV a0) (0,([],()))) (fun y1=>(some y1)))
theorem Xp (a0:(@List ah.Lk)):(eF (fun _ _=>Loop) E80 G80 Go.Proofs.Tryz.f80 Oj c80 ((),(a0,()))).den=g80 a0:=by kernel_rfl
noncomputable def zm (a0:(@List (Int×(Bool×Unit)))) (a1:(Int×((Int×(Int×((@List (Int×(Int×Unit)))×Unit)))×(Int×(ah.Tp×((List Int)×Unit)))))):(Option (Sum (Int×((Int×(Int×((@List (Int×(Int×Unit)))×Unit)))×(Int×(ah.Tp×((List Int)×Unit))))) ((Int×(Int×((@List (Int×(Int×Unit)))×Unit)))×(Int×(ah.Tp×Unit))))):=
  (bif (decide (a1.1<(Int.ofNat a1.2.2.2.2.1.length))) then (Option.bind (ah.on (ah.wf a1.2.2.2.1) (ah.next a1.2.2.2.1 4)) (fun y2=>(bif (decide (y2.1=0)) then (some (.inl ((IntKind.wrap .i64 (a1.1+1)),(a1.2.1,(a1.2.2.1,(y2.2,a1.2.2.2.2)))))) else (Option.bind (ah.on (((ah.wf y2.2)&&(decide (0<(1::(1::(1::(2::((IntKind.wrap .i64 (a1.2.1.2.1 - 1))::[]))))).length)))&&(decide ((1::(1::(1::(2::((IntKind.wrap .i64 (a1.2.1.2.1 - 1))::[]))))).length≤1000))) (ah.pick y2.2 (1::(1::(1::(2::((IntKind.wrap .i64 (a1.2.1.2.1 - 1))::[]))))))) (fun y3=>(Option.bind (bif (decide ((IntKind.wrap .i64 (a1.2.2.1+y3.1))≤256)) then (bif ((decide (0≤a1.1))&&(decide (a1.1<(Int.ofNat a1.2.2.2.2.1.length)))) then (bif (@Nat.blt (Int.toNat a1.1) a1.2.2.2.2.1.length) then (bif ((decide (0≤(List.getD a1.2.2.2.2.1 (Int.toNat a1.1) 0)))&&(decide ((List.getD a1.2.2.2.2.1 (Int.toNat a1.1) 0)<(Int.ofNat a0.length)))) then (bif (@Nat.ble ((a1.2.1.2.2.1.length+1)*16) 140737488355328) then (some (a1.2.2.2.2.1,((a1.2.1.1,(a1.2.1.2.1,((a1.2.1.2.2.1++(((List.getD a0 (Int.toNat (List.getD a1.2.2.2.2.1 (Int.toNat a1.1) 0)) (0,(false,()))).1,((IntKind.wrap .i64 (a1.2.2.1+y3.1)),()))::[])),()))),()))) else none) else none) else none) else none) else (some (a1.2.2.2.2.1,(a1.2.1,())))) (fun y4=>(some (.inl ((IntKind.wrap .i64 (a1.1+1)),(y4.2.1,((IntKind.wrap .i64 (a1.2.2.1+y3.1)),(y3.2,(y4.1,())))))))))))))) else (some (.inr (a1.2.1,(a1.2.2.1,(a1.2.2.2.1,()))))))
noncomputable def g16 (a0:(List Int)) (a1:Int) (a2:(@List (Int×(Bool×Unit)))) (a3:(@List ah.Lk)) (a4:Int):(Option ((Int×(Int×((@List (Int×(Int×Unit)))×Unit)))×ah.Tp)):=
  (Option.bind (ah.on (ah.wf (a0,(a1,()))) (ah.next (a0,(a1,())) 3)) (fun y5=>(Option.bind (ah.on (ah.wf y5.2) (ah.length y5.2)) (fun y6=>(Option.bind (ah.on ((ah.wf y6.2)&&(ah.inside (Int.ofNat a2.length) 0 1000)) (ah.order y6.2 (Int.toNat (Int.ofNat a2.length)))) (fun y7=>(Option.bind (Loop (@zm a2) (0,((y5.1,(y6.1,([],()))),(0,(y7.2,(y7.1,())))))) (fun y8=>(Option.bind (bif (decide (a4 > 0)) then (Option.bind (ah.on ((ah.wf y8.2.2.1)&&(ah.small a4)) (ah.one y8.2.2.1 a4)) (fun y9=>(some (y9.2,(y9.1,()))))) else (some (y8.2.2.1,(false,())))) (fun y9=>(Option.bind (bif y9.2.1 then (Option.bind (ah.on (ah.wf y9.1) (ah.next y9.1 5)) (fun iA=>(Option.bind (bif (decide (iA.1=0)) then (Option.bind (ah.on (ah.wf iA.2) (ah.wild iA.2)) (fun dN=>(some ((dN.1,y8.1.2),(dN.2,()))))) else (Option.bind (bif (decide (iA.1=1)) then (Option.bind (ah.on (((ah.wf iA.2)&&(decide (0<5)))&&(decide (5≤1000))) (ah.pick iA.2 (0::(8::(24::(64::(128::[]))))))) (fun dN=>(some (dN.2,((y8.1.1,(dN.1,y8.1.2.2)),()))))) else (Option.bind (bif (decide (iA.1=2)) then (Option.bind (ah.on (((ah.wf iA.2)&&(decide (0<4)))&&(decide (4≤1000))) (ah.pick iA.2 (0::(1::(99::(100::[])))))) (fun dN=>(Option.bind (ah.on (((ah.wf dN.2)&&(decide (0<4)))&&(decide (4≤1000))) (ah.pick dN.2 (0::(1::(256::(257::[])))))) (fun oH=>(bif (@Nat.ble ((y8.1.2.2.1.length+1)*16) 140737488355328) then (some ((y8.1.1,(y8.1.2.1,((y8.1.2.2.1++((dN.1,(oH.1,()))::[])),()))),(oH.2,()))) else none))))) else (Option.bind (bif (decide (iA.1=3)) then (Option.bind (bif (decide ((Int.ofNat y8.1.2.2.1.length) > 0)) then (Option.bind (ah.on (ah.wf iA.2) (ah.wild iA.2)) (fun dN=>(bif (true&&(decide (0<(Int.ofNat y8.1.2.2.1.length)))) then (bif (@Nat.blt 0 y8.1.2.2.1.length) then (some ((y8.1.1,(y8.1.2.1,((List.set y8.1.2.2.1 0 ((List.getD y8.1.2.2.1 0 (0,(0,()))).1,(dN.1,()))),()))),(dN.2,()))) else none) else none))) else (some (y8.1,(iA.2,())))) (fun dN=>(some (dN.2.1,(dN.1,()))))) else (bif (@Nat.ble ((y8.1.2.2.1.length+1)*16) 140737488355328) then (some (iA.2,((y8.1.1,(y8.1.2.1,((y8.1.2.2.1++((50,((IntKind.wrap .i64 (y8.2.1+1)),()))::[])),()))),()))) else none)) (fun dN=>(some (dN.2.1,(dN.1,())))))) (fun dN=>(some (dN.2.1,(dN.1,())))))) (fun dN=>(some (dN.2.1,(dN.1,())))))) (fun dN=>(some dN))))) else (some (y8.1,(y9.1,())))) (fun iA=>(some (iA.1,iA.2.1))))))))))))))
theorem Xq (a0:(List Int)) (a1:Int) (a2:(@List (Int×(Bool×Unit)))) (a3:(@List ah.Lk)) (a4:Int):(eF (fun _ _=>Loop) E16 G16 Go.Proofs.Tryz.f16 Oq c16 ((a0,(a1,())),((a2,(a3,())),(a4,())))).den=g16 a0 a1 a2 a3 a4:=by kernel_rfl
noncomputable def JN (a0:(Int×ah.Tp)) (a1:(Int×((Int×((List Int)×Unit))×(ah.Tp×Unit)))):(Option (Sum (Int×((Int×((List Int)×Unit))×(ah.Tp×Unit))) ((Int×((List Int)×Unit))×(ah.Tp×Unit)))):=
  (bif (decide (a1.1≤7)) then (Option.bind (bif (!(decide (a1.1=a0.1))) then (Option.bind (ah.on ((ah.wf a1.2.2.1)&&(ah.small 3)) (ah.one a1.2.2.1 3)) (fun y2=>(some (y2.2,(y2.1,()))))) else (some (a1.2.2.1,(false,())))) (fun y2=>(Option.bind (bif y2.2.1 then (bif (@Nat.ble ((a1.2.1.2.1.length+1)*8) 140737488355328) then (some ((a1.2.1.1,((a1.2.1.2.1++(a1.1::[])),())),())) else none) else (some (a1.2.1,()))) (fun y3=>(some (.inl ((IntKind.wrap .i64 (a1.1+1)),(y3.1,(y2.1,()))))))))) else (some (.inr a1.2)))
noncomputable def FK (a0:((Int×(Int×((@List (Int×(Int×Unit)))×Unit)))×ah.Tp)) (a1:(Int×ah.Tp)) (a2:(Int×(ah.Tb×(ah.Tp×Unit)))):(Option (Sum (Int×(ah.Tb×(ah.Tp×Unit))) (ah.Tb×(ah.Tp×Unit)))):=
  (bif (decide (a2.1<(Int.ofNat a0.1.2.2.1.length))) then (bif ((decide (0≤a2.1))&&(decide (a2.1<(Int.ofNat a0.1.2.2.1.length)))) then (Option.bind (Loop (@JN a1) (1,(((List.getD a0.1.2.2.1 (Int.toNat a2.1) (0,(0,()))).2.1,([],())),a2.2.2))) (fun y3=>(Option.bind (ah.on ((ah.wf y3.2.1)&&(ah.small 5)) (ah.one y3.2.1 5)) (fun y4=>(Option.bind (bif y4.1 then (some ((y3.1.1,((a1.1::[]),())),())) else (some (y3.1,()))) (fun y5=>(bif (@Nat.ble ((a2.2.1.2.2.2.1.length+1)*32) 140737488355328) then (some (.inl ((IntKind.wrap .i64 (a2.1+1)),((a2.2.1.1,(a2.2.1.2.1,(a2.2.1.2.2.1,((a2.2.1.2.2.2.1++(y5.1::[])),())))),(y4.2,()))))) else none))))))) else none) else (some (.inr a2.2)))
noncomputable def g5 (a0:(List Int)) (a1:Int):(Option ((ah.Tb×(ah.Pk×Unit))×ah.Tp)):=
  (Option.bind (ah.on ((ah.wf (a0,(a1,())))&&(ah.inside 6 1 50)) (ah.mixed (a0,(a1,())) 6)) (fun y2=>(Option.bind (ah.on (((ah.wf y2.2)&&(ah.small 0))&&(decide (y2.1.1.length≤1000))) (ah.kC y2.2 y2.1 0)) (fun y3=>(Option.bind (ah.on ((ah.wf y3.2)&&(decide (y3.1.2.2.1.length≤1000))) (ah.oh y3.2 y3.1)) (fun y4=>(Option.bind (ah.on (((ah.wf y4.2)&&(decide (0<4)))&&(decide (4≤1000))) (ah.pick y4.2 (1::(4::(63::(0::[])))))) (fun y5=>(Option.bind (ah.on (((ah.wf y5.2)&&(ah.small 0))&&(decide (y2.1.1.length≤1000))) (ah.jd y5.2 y2.1 0)) (fun y6=>(Option.bind (Loop (@FK y3 y6) (0,((y6.1,(y3.1.1,(y3.1.2.1,([],())))),(y6.2,())))) (fun y7=>(some ((y7.1,((y4.1.1,(y4.1.2.1,(y4.1.2.2.1,(y4.1.2.2.2.1,(y5.1,y4.1.2.2.2.2.2))))),())),y7.2.1))))))))))))))
theorem acs (a0:(List Int)) (a1:Int):(eF (fun _ _=>Loop) E5 G5 Go.Proofs.Tryz.f5 Ui c5 ((a0,(a1,())),())).den=g5 a0 a1:=by kernel_rfl
noncomputable def g10 (a0:Int) (a1:Int) (a2:Int) (a3:(@List (Int×((List Int)×Unit)))) (a4:Int) (a5:Int) (a6:Int) (a7:Int) (a8:Int) (a9:Int) (aZ:Int) (bH:Int) (a12:Int) (bF:(List Int)):(Option ((ah.Oc×(Int×Unit))×Unit)):=
  (Option.bind (bif (!(!(decide ((ah.nk (a0,(a1,(a2,(a3,())))))=0)))) then (some ((!(ah.dx (a4,(a5,(a6,(a7,(a8,(a9,(aZ,(bH,(a12,(bF,())))))))))))),())) else (some (true,()))) (fun lG=>(bif lG.1 then (some (((0,(0,([],()))),(1,())),())) else (bif (decide (a4=2)) then (some (((0,(0,([],()))),(7,())),())) else (Option.bind (bif (!(!(decide (a5=a1)))) then (some ((!(decide (a7=a2))),())) else (some (true,()))) (fun iB=>(bif iB.1 then (some (((0,(0,([],()))),(8,())),())) else (Option.bind (ah.on (((decide ((ah.nk (a0,(a1,(a2,(a3,())))))=0))&&(ah.dx (a4,(a5,(a6,(a7,(a8,(a9,(aZ,(bH,(a12,(bF,()))))))))))))&&(decide (a2=(ah.ln (a4,(a5,(a6,(a7,(a8,(a9,(aZ,(bH,(a12,(bF,())))))))))))))) ((ah.La (a0,(a1,(a2,(a3,())))) (a4,(a5,(a6,(a7,(a8,(a9,(aZ,(bH,(a12,(bF,()))))))))))),())) (fun uE=>(some ((uE.1,(0,())),())))))))))))
theorem Xr (a0:Int) (a1:Int) (a2:Int) (a3:(@List (Int×((List Int)×Unit)))) (a4:Int) (a5:Int) (a6:Int) (a7:Int) (a8:Int) (a9:Int) (aZ:Int) (bH:Int) (a12:Int) (bF:(List Int)):(eF (fun _ _=>Loop) E10 G10 Go.Proofs.Tryz.f10 PY c10 ((),((a0,(a1,(a2,(a3,())))),((a4,(a5,(a6,(a7,(a8,(a9,(aZ,(bH,(a12,(bF,())))))))))),())))).den=g10 a0 a1 a2 a3 a4 a5 a6 a7 a8 a9 aZ bH a12 bF:=by kernel_rfl
noncomputable def vW (a0:(Int×(ah.Tp×(((@List (Int×(Bool×Unit)))×((@List ah.Lk)×Unit))×Unit)))):(Option (Sum (Int×(ah.Tp×(((@List (Int×(Bool×Unit)))×((@List ah.Lk)×Unit))×Unit))) (ah.Tp×(((@List (Int×(Bool×Unit)))×((@List ah.Lk)×Unit))×Unit)))):=
  (bif (decide (a0.1<(Int.ofNat a0.2.2.1.1.length))) then (Option.bind (ah.on ((ah.wf a0.2.1)&&(ah.small 3)) (ah.one a0.2.1 3)) (fun y1=>(bif ((decide (0≤a0.1))&&(decide (a0.1<(Int.ofNat a0.2.2.1.1.length)))) then (bif (@Nat.blt (Int.toNat a0.1) a0.2.2.1.1.length) then (some (.inl ((IntKind.wrap .i64 (a0.1+1)),(y1.2,(((List.set a0.2.2.1.1 (Int.toNat a0.1) ((List.getD a0.2.2.1.1 (Int.toNat a0.1) (0,(false,()))).1,((!y1.1),()))),a0.2.2.1.2),()))))) else none) else none))) else (some (.inr a0.2)))
noncomputable def g15 (a0:(List Int)) (a1:Int) (a2:Int):(Option (((@List (Int×(Bool×Unit)))×((@List ah.Lk)×Unit))×ah.Tp)):=
  (Option.bind (ah.on (((ah.wf (a0,(a1,())))&&(ah.inside a2 1 50))&&(ah.small 0)) (ah.tX (a0,(a1,())) a2 0)) (fun y3=>(Option.bind (Loop vW (0,(y3.2,(y3.1,())))) (fun y4=>(some (y4.2.1,y4.1))))))
theorem Xt (a0:(List Int)) (a1:Int) (a2:Int):(eF (fun _ _=>Loop) E15 G15 Go.Proofs.Tryz.f15 Om c15 ((a0,(a1,())),(a2,()))).den=g15 a0 a1 a2:=by kernel_rfl
noncomputable def zn (a0:(@List ah.Cp)) (a1:(Int×(Int×Unit))):(Option (Sum (Int×(Int×Unit)) (Int×Unit))):=
  (bif (decide (a1.2.1<(Int.ofNat a0.length))) then (bif ((decide (0≤a1.2.1))&&(decide (a1.2.1<(Int.ofNat a0.length)))) then (some (.inl ((IntKind.wrap .u64 (Int.ofNat (BitVec.toNat (BitVec.or (BitVec.ofInt 64 a1.1) (BitVec.ofInt 64 (List.getD a0 (Int.toNat a1.2.1) (0,(([],((0,(0,(0,(0,(0,(0,(0,(0,(0,([],())))))))))),())),()))).2.1.2.1.2.2.2.2.2.2.2.2.1))))),((IntKind.wrap .i64 (a1.2.1+1)),())))) else none) else (some (.inr (a1.1,()))))
noncomputable def g12 (a0:Int) (a1:Int) (a2:(@List ah.Cp)):(Option (Int×Unit)):=
  (Option.bind (Loop (@zn a2) ((IntKind.wrap .u64 (Int.ofNat (BitVec.toNat (BitVec.or (BitVec.ofInt 64 a0) (BitVec.ofInt 64 a1))))),(0,()))) (fun y3=>(some y3)))
theorem Xu (a0:Int) (a1:Int) (a2:(@List ah.Cp)):(eF (fun _ _=>Loop) E12 G12 Go.Proofs.Tryz.f12 Pt c12 ((),((a0,(a1,(a2,()))),()))).den=g12 a0 a1 a2:=by kernel_rfl
noncomputable def zo (a0:(@List (Int×((List Int)×Unit)))) (a1:Int) (a2:((Int×((List Int)×Unit))×(Int×Unit))):(Option (Sum ((Int×((List Int)×Unit))×(Int×Unit)) (Bool×((Bool×((Int×((List Int)×Unit))×Unit))×((Int×((List Int)×Unit))×Unit))))):=
  (bif (decide (a2.2.1<(Int.ofNat a0.length))) then (bif ((decide (0≤a2.2.1))&&(decide (a2.2.1<(Int.ofNat a0.length)))) then (bif (decide ((List.getD a0 (Int.toNat a2.2.1) (0,([],()))).1=a1)) then (some (.inr (true,((true,((a1,(List.getD a0 (Int.toNat a2.2.1) (0,([],()))).2),())),((0,([],())),()))))) else (some (.inl (a2.1,((IntKind.wrap .i64 (a2.2.1+1)),()))))) else none) else (some (.inr (false,((false,((0,([],())),())),(a2.1,()))))))
noncomputable def g65 (a0:Int) (a1:Int) (a2:Int) (a3:(@List (Int×((List Int)×Unit)))) (a4:Int):(Option (((Int×((List Int)×Unit))×(Bool×Unit))×Unit)):=
  (Option.bind (Loop (@zo a3 a4) ((0,([],())),(0,()))) (fun y5=>(bif y5.1 then (some ((y5.2.1.2.1,(y5.2.1.1,())),())) else (some (((0,([],())),(false,())),())))))
theorem Xv (a0:Int) (a1:Int) (a2:Int) (a3:(@List (Int×((List Int)×Unit)))) (a4:Int):(eF (fun _ _=>Loop) E65 G65 Go.Proofs.Tryz.f65 Pm c65 ((),((a0,(a1,(a2,(a3,())))),(a4,())))).den=g65 a0 a1 a2 a3 a4:=by kernel_rfl
noncomputable def Dc (a0:(List Int)) (a1:(Int×Unit)) (a2:(Int×Unit)):(Option (Sum (Int×Unit) (Bool×((Bool×Unit)×Unit)))):=
  (bif (decide (a2.1<a1.1)) then (bif ((decide (0≤a1.1))&&(decide (a1.1<(Int.ofNat a0.length)))) then (bif ((decide (0≤a2.1))&&(decide (a2.1<(Int.ofNat a0.length)))) then (bif (decide ((List.getD a0 (Int.toNat a1.1) 0)=(List.getD a0 (Int.toNat a2.1) 0))) then (some (.inr (true,((true,()),())))) else (some (.inl ((IntKind.wrap .i64 (a2.1+1)),())))) else none) else none) else (some (.inr (false,((false,()),())))))
noncomputable def Df (a0:(List Int)) (a1:(Int×Unit)):(Option (Sum (Int×Unit) (Bool×((Bool×Unit)×Unit)))):=
  (bif (decide (a1.1<(Int.ofNat a0.length))) then (Option.bind (Loop (@Dc a0 a1) (0,())) (fun y2=>(bif y2.1 then (some (.inr (true,y2.2))) else (some (.inl ((IntKind.wrap .i64 (a1.1+1)),())))))) else (some (.inr (false,((false,()),())))))
noncomputable def g84 (a0:(List Int)):(Option (Bool×Unit)):=
  (Option.bind (Loop (@Df a0) (0,())) (fun y1=>(bif y1.1 then (some y1.2.1) else (some (false,())))))
theorem Xw (a0:(List Int)):(eF (fun _ _=>Loop) E84 G84 Go.Proofs.Tryz.f84 OT c84 ((),(a0,()))).den=g84 a0:=by kernel_rfl
noncomputable def g30 (a0:Int) (a1:Int) (a2:Int) (a3:Int) (a4:Int) (a5:Int) (a6:Int) (a7:Int) (a8:Int) (a9:(List Int)):(Option (Bool×Unit)):=
  (Option.bind (bif (decide (a0≥1)) then (bif (decide (a0≤3)) then (bif (ah.inside a1 0 7) then (bif (ah.inside a2 0 31) then (bif (ah.lC a8 a3) then (bif (ah.inside a4 0 63) then (bif (ah.inside a5 0 1023) then (bif (ah.inside a6 0 256) then (bif (ah.inside a7 0 7) then (some ((decide ((Int.ofNat a9.length)≤64)),())) else (some (false,()))) else (some (false,()))) else (some (false,()))) else (some (false,()))) else (some (false,()))) else (some (false,()))) else (some (false,()))) else (some (false,()))) else (some (false,()))) (fun iA=>(some iA)))
theorem Xx (a0:Int) (a1:Int) (a2:Int) (a3:Int) (a4:Int) (a5:Int) (a6:Int) (a7:Int) (a8:Int) (a9:(List Int)):(eF (fun _ _=>Loop) E30 G30 Go.Proofs.Tryz.f30 Oz c30 ((),((a0,(a1,(a2,(a3,(a4,(a5,(a6,(a7,(a8,(a9,())))))))))),()))).den=g30 a0 a1 a2 a3 a4 a5 a6 a7 a8 a9:=by kernel_rfl
noncomputable def g38 (a0:Int) (a1:Int) (a2:Int) (a3:Int) (a4:Int) (a5:Int) (a6:Int) (a7:Int) (a8:Int) (a9:(List Int)):(Option (Bool×Unit)):=
  (Option.bind (bif (decide (a0≥1)) then (bif (decide (a0≤3)) then (bif (ah.inside a1 0 7) then (bif (ah.inside a2 0 31) then (bif (ah.lC a8 a3) then (bif (ah.inside a4 0 63) then (bif (ah.inside a5 0 1023) then (bif (ah.inside a6 0 256) then (bif (ah.inside a7 0 7) then (some ((decide ((Int.ofNat a9.length)≤64)),())) else (some (false,()))) else (some (false,()))) else (some (false,()))) else (some (false,()))) else (some (false,()))) else (some (false,()))) else (some (false,()))) else (some (false,()))) else (some (false,()))) (fun iA=>(some iA)))
theorem Xy (a0:Int) (a1:Int) (a2:Int) (a3:Int) (a4:Int) (a5:Int) (a6:Int) (a7:Int) (a8:Int) (a9:(List Int)):(eF (fun _ _=>Loop) E38 G38 Go.Proofs.Tryz.f38 NY c38 ((),((a0,(a1,(a2,(a3,(a4,(a5,(a6,(a7,(a8,(a9,())))))))))),()))).den=g38 a0 a1 a2 a3 a4 a5 a6 a7 a8 a9:=by kernel_rfl
noncomputable def g33 (a0:Int) (a1:Int) (a2:Int):(Option ((Int×(Bool×Unit))×Unit)):=
  (Option.bind (bif (!(!(ah.dI a2))) then (bif (!(!(ah.inside a1 0 (IntKind.wrap .i64 (a2 - 1))))) then (some ((!(ah.inside a0 0 31)),())) else (some (true,()))) else (some (true,()))) (fun y3=>(bif y3.1 then (some ((0,(false,())),())) else (bif (decide ((IntKind.wrap .i64 ((IntKind.wrap .i64 ((IntKind.wrap .i64 (a0*a2))+a1))+1)) > 256)) then (some ((0,(false,())),())) else (some (((IntKind.wrap .i64 ((IntKind.wrap .i64 ((IntKind.wrap .i64 (a0*a2))+a1))+1)),(true,())),()))))))
theorem Xz (a0:Int) (a1:Int) (a2:Int):(eF (fun _ _=>Loop) E33 G33 Go.Proofs.Tryz.f33 OE c33 ((),(a0,(a1,(a2,()))))).den=g33 a0 a1 a2:=by kernel_rfl
noncomputable def H6 (a0:(List Int)) (a1:Int) (a2:(Int×Unit)):(Option (Sum (Int×Unit) (Bool×((Int×Unit)×Unit)))):=
  (bif (decide (a2.1<(Int.ofNat a0.length))) then (bif ((decide (0≤a2.1))&&(decide (a2.1<(Int.ofNat a0.length)))) then (bif (decide (a1=(List.getD a0 (Int.toNat a2.1) 0))) then (some (.inr (true,(a2,())))) else (some (.inl ((IntKind.wrap .i64 (a2.1+1)),())))) else none) else (some (.inr (false,((0,()),())))))
noncomputable def g90 (a0:(List Int)) (a1:Int):(Option (Int×Unit)):=
  (Option.bind (Loop (@H6 a0 a1) (0,())) (fun y2=>(bif y2.1 then (some y2.2.1) else (some ((-1:Int),())))))
theorem XA (a0:(List Int)) (a1:Int):(eF (fun _ _=>Loop) E90 G90 Go.Proofs.Tryz.f90 OJ c90 ((),(a0,(a1,())))).den=g90 a0 a1:=by kernel_rfl
noncomputable def g93 (a0:Int) (a1:Int):(Option ((Int×(Int×(Bool×Unit)))×Unit)):=
  (Option.bind (bif (!(!(ah.dI a1))) then (some ((!(ah.inside a0 1 256)),())) else (some (true,()))) (fun y2=>(bif y2.1 then (some ((0,(0,(false,()))),())) else (bif (!(decide (a1=0))) then (bif (!(decide (a1=0))) then (some (((IntKind.wrap .i64 (@Int.tdiv (IntKind.wrap .i64 (a0 - 1)) a1)),((@Int.tmod (IntKind.wrap .i64 (a0 - 1)) a1),(true,()))),())) else none) else none))))
theorem XB (a0:Int) (a1:Int):(eF (fun _ _=>Loop) E93 G93 Go.Proofs.Tryz.f93 OV c93 ((),(a0,(a1,())))).den=g93 a0 a1:=by kernel_rfl
noncomputable def g34 (a0:Int) (a1:Int) (a2:Int) (a3:(@List (Int×((List Int)×Unit)))) (a4:Int) (a5:Int):(Option (Int×Unit)):=
  (bif (!(ah.dS (a0,(a1,(a2,(a3,())))) a5 0)) then (some (0,())) else (Option.bind (ah.on (decide (0≤a5)) ((ah.cu (ah.dh (a0,(a1,(a2,(a3,())))) a4).1 a5),())) (fun y6=>(some y6))))
theorem XC (a0:Int) (a1:Int) (a2:Int) (a3:(@List (Int×((List Int)×Unit)))) (a4:Int) (a5:Int):(eF (fun _ _=>Loop) E34 G34 Go.Proofs.Tryz.f34 Pq c34 ((),((a0,(a1,(a2,(a3,())))),(a4,(a5,()))))).den=g34 a0 a1 a2 a3 a4 a5:=by kernel_rfl
noncomputable def g18 (a0:(List Int)) (a1:Int) (a2:(List Int)):(Option (Int×ah.Tp)):=
  (Option.bind (ah.on (ah.wf (a0,(a1,()))) (ah.next (a0,(a1,())) (Int.ofNat a2.length))) (fun y3=>(bif ((decide (0≤y3.1))&&(decide (y3.1<(Int.ofNat a2.length)))) then (some ((List.getD a2 (Int.toNat y3.1) 0),y3.2)) else none)))
theorem XD (a0:(List Int)) (a1:Int) (a2:(List Int)):(eF (fun _ _=>Loop) E18 G18 Go.Proofs.Tryz.f18 Og c18 ((a0,(a1,())),(a2,()))).den=g18 a0 a1 a2:=by kernel_rfl
noncomputable def g58 (a0:Int) (a1:(List Int)) (a2:Int) (a3:Int) (a4:Int) (a5:(@List (Int×((List Int)×Unit)))):(Option (Bool×Unit)):=
  (Option.bind (bif (decide ((Int.ofNat a1.length) > 1)) then (some ((@List.any Int a1 (fun y6=>(decide (a2=y6)))),())) else (some (false,()))) (fun y6=>(some y6)))
theorem XE (a0:Int) (a1:(List Int)) (a2:Int) (a3:Int) (a4:Int) (a5:(@List (Int×((List Int)×Unit)))):(eF (fun _ _=>Loop) E58 G58 Go.Proofs.Tryz.f58 O6 c58 ((),((a0,(a1,())),((a2,(a3,(a4,(a5,())))),())))).den=g58 a0 a1 a2 a3 a4 a5:=by kernel_rfl
noncomputable def g45 (a0:Int):(Option (Int×Unit)):=
  (Option.bind (bif (!(decide (a0<0))) then (some ((decide (a0 > 63)),())) else (some (true,()))) (fun y1=>(bif y1.1 then (some (0,())) else (bif (decide (0≤(IntKind.wrap .u64 a0))) then (some ((IntKind.wrap .u64 (1*(@Int.pow 2 (@Min.min Nat instMinNat (Int.toNat (IntKind.wrap .u64 a0)) 64)))),())) else none))))
theorem XG (a0:Int):(eF (fun _ _=>Loop) E45 G45 Go.Proofs.Tryz.f45 NT c45 ((),(a0,()))).den=g45 a0:=by kernel_rfl
noncomputable def g72 (a0:Int) (a1:Int):(Option (Bool×Unit)):=
  (Option.bind (bif (ah.dI a1) then (some ((decide ((IntKind.wrap .u64 (Int.ofNat (BitVec.toNat (BitVec.and (BitVec.ofInt 64 a0) (BitVec.not (BitVec.ofInt 64 (ah.Bt.full a1)))))))=0)),())) else (some (false,()))) (fun y2=>(some y2)))
theorem XH (a0:Int) (a1:Int):(eF (fun _ _=>Loop) E72 G72 Go.Proofs.Tryz.f72 NW c72 ((),(a0,(a1,())))).den=g72 a0 a1:=by kernel_rfl
noncomputable def acu (a0:(@List (Int×(Bool×Unit)))) (a1:(@List ah.Lk)) (a2:(List Int)) (a3:Int):(Option (Int×Unit)):=
  ah.Xd a0 a1 a2 a3
theorem Sb (a0:(@List (Int×(Bool×Unit)))) (a1:(@List ah.Lk)) (a2:(List Int)) (a3:Int):(eF (fun _ _=>Loop) afE agT Go.Proofs.Tryz.f103 JI Xn ((),((a0,(a1,())),(a2,(a3,()))))).den=acu a0 a1 a2 a3:=by kernel_rfl
noncomputable def g53 (a0:Int):(Option (Bool×Unit)):=
  (Option.bind (bif (!(decide (a0=8))) then (bif (!(decide (a0=16))) then (bif (!(decide (a0=32))) then (some ((decide (a0=64)),())) else (some (true,()))) else (some (true,()))) else (some (true,()))) (fun y1=>(some y1)))
theorem XI (a0:Int):(eF (fun _ _=>Loop) E53 G53 Go.Proofs.Tryz.f53 Ov c53 ((),(a0,()))).den=g53 a0:=by kernel_rfl
noncomputable def acv (a0:(@List (Int×(Bool×Unit)))) (a1:(@List ah.Lk)) (a2:Int):(Option (Int×Unit)):=
  ah.Xa a0 a1 a2
theorem Sc (a0:(@List (Int×(Bool×Unit)))) (a1:(@List ah.Lk)) (a2:Int):(eF (fun _ _=>Loop) afD agS Go.Proofs.Tryz.f102 JH Xm ((),((a0,(a1,())),(a2,())))).den=acv a0 a1 a2:=by kernel_rfl
noncomputable def g32 (a0:Int):(Option (Int×Unit)):=
  (bif (decide (a0=0)) then (some ((-1:Int),())) else (Option.bind (ah.on (!(decide (a0=0))) ((ah.Bt.nth a0 0),())) (fun y1=>(some y1))))
theorem XJ (a0:Int):(eF (fun _ _=>Loop) E32 G32 Go.Proofs.Tryz.f32 OC c32 ((),(a0,()))).den=g32 a0:=by kernel_rfl
noncomputable def g81 (a0:Int) (a1:Int) (a2:Int):(Option (Bool×Unit)):=
  (Option.bind (bif (decide (a0≥a1)) then (some ((decide (a0≤a2)),())) else (some (false,()))) (fun y3=>(some y3)))
theorem XK (a0:Int) (a1:Int) (a2:Int):(eF (fun _ _=>Loop) E81 G81 Go.Proofs.Tryz.f81 OH c81 ((),(a0,(a1,(a2,()))))).den=g81 a0 a1 a2:=by kernel_rfl
noncomputable def g54 (a0:(@List (Int×((List Int)×Unit)))):(Option (Bool×Unit)):=
  (some ((decide ((ah.idx ah.lD a0)≥0)),()))
theorem XL (a0:(@List (Int×((List Int)×Unit)))):(eF (fun _ _=>Loop) E54 G54 Go.Proofs.Tryz.f54 O8 c54 ((),(a0,((),())))).den=g54 a0:=by kernel_rfl
noncomputable def g88 (a0:(List Int)):(Option (Bool×Unit)):=
  (some ((decide ((ah.idx (fun y1=>(!(ah.inside y1 1 99))) a0)≥0)),()))
theorem XM (a0:(List Int)):(eF (fun _ _=>Loop) E88 G88 Go.Proofs.Tryz.f88 O1 c88 ((),(a0,((),())))).den=g88 a0:=by kernel_rfl
end Go.aW.fF