/- The top statements: the tables and the plain specification; proved are small facts on these; no conditions but those that each theorem states. -/
import Derived.Test.YtlfiacncaggbcaaGreatAbsD
import Derived.Test.YtlfiacncaggbcaaGreatProg
import Derived.KernelRfl
import Derived.DeepKeys4
import Derived.StringKeys
import Derived.Sort.Defs
import Derived.Lib.BitFns
set_option linter.unusedVariables false
set_option linter.unusedSimpArgs false
set_option maxRecDepth 20000
namespace Go.dw.rO
open Go Go.Proofs Go.WideMaps
theorem Po {x:Int} (h:IntKind.i64.has x):(Lit.int .i64 x).wf=true:=by
 have h1:=h.1;have h2:=h.2
 have e1:IntKind.i64.min = -9223372036854775808:=by decide
 have e2:IntKind.i64.max=9223372036854775807:=by decide
 rw [e1] at h1;rw [e2] at h2;simp only [Lit.wf,dA,mX,e1,e2]
 exact ⟨h1,by omega⟩
theorem i0:IntKind.i64.has 0:=by constructor<;>decide
theorem laidOut:laidOutB Tryz.prog=true:=by kernel_rfl
theorem agB:(44:TypeId)<Tryz.prog.types.size:=vP (by kernel_rfl)
theorem aij:(191:TypeId)<Tryz.prog.types.size:=vP (by kernel_rfl)
theorem GI:∃ m,Tryz.prog.types.size=m+1:=⟨Tryz.prog.types.size - 1,by have h:44<Tryz.prog.types.size:=agB;omega⟩
theorem aof:KeyLaw Tryz.prog 44:=deep_law_laid laidOut (m:=3) (by omega) agB (by kernel_rfl) (by kernel_rfl)
theorem aik:KeyLaw Tryz.prog 191:=deep_law_laid laidOut (m:=3) (by omega) aij (by kernel_rfl) (by kernel_rfl)
theorem auB:Tryz.prog.keyType 44=true:=by kernel_rfl
theorem aog:Tryz.prog.keyType 191=true:=by kernel_rfl
theorem UR:Tryz.prog.cellsOf 44=2:=by kernel_rfl
theorem Pp:Tryz.prog.cellsOf 191=3:=by kernel_rfl
theorem cells3:Tryz.prog.cellsOf 3=1:=by kernel_rfl
theorem aaI {a b:Int} (ha:IntKind.i64.has a) (hb:IntKind.i64.has b):keyOf Tryz.prog 44 (.agg #[.int .i64 a,.int .i64 b])=some (.string (keyBytes [.int .i64 a,.int .i64 b])):=by
 obtain ⟨m,hm⟩:=GI;unfold keyOf;simp only [Tryz.underlying44]
 rw [if_pos (by simp [auB,Value.formed,Tryz.underlying44,UR]),hm]
 unfold Program.keyLits;simp only [Tryz.underlying44,Value.cells]
 rw [if_pos ⟨by rw [UR];rfl,by simp⟩]
 simp [cells3,Program.keyLits,Tryz.underlying3,Po ha,Po hb]
theorem Xk {a b c:Int} (ha:IntKind.i64.has a) (hb:IntKind.i64.has b) (hc:IntKind.i64.has c):keyOf Tryz.prog 191 (.agg #[.int .i64 a,.int .i64 b,.int .i64 c])=some (.string (keyBytes [.int .i64 a,.int .i64 b,.int .i64 c])):=by
 obtain ⟨m,hm⟩:=GI;unfold keyOf;simp only [Tryz.underlying191]
 rw [if_pos (by simp [aog,Value.formed,Tryz.underlying191,Pp]),hm]
 unfold Program.keyLits;simp only [Tryz.underlying191,Value.cells]
 rw [if_pos ⟨by rw [Pp];rfl,by simp⟩]
 simp [cells3,Program.keyLits,Tryz.underlying3,Po ha,Po hb,Po hc]
abbrev hpY:Ty:=.st 16 (.cons (.int .i64) (.cons (.int .i64) .unit))
abbrev tgY:Ty:=.st 24 (.cons (.int .i64) (.cons (.int .i64) (.cons (.int .i64) .unit)))
theorem lJ:tX Tryz.prog 44 3 hpY (.int .i64):=
 ⟨Go.Maps.Keyed.of_law aof,fun x hx=>⟨_,aaI hx.1 hx.2.1⟩,fun w=>by kernel_rfl,i0⟩
theorem Mg:tX Tryz.prog 3 3 (.int .i64) (.int .i64):=
 ⟨Go.Maps.int_keyed Tryz.underlying3,fun x hx=>⟨_,Go.Maps.keyOf_int_mk Tryz.underlying3 (Po hx)⟩,fun w=>by kernel_rfl,i0⟩
theorem Cy:tX Tryz.prog 3 225 (.int .i64) hpY:=
 ⟨Go.Maps.int_keyed Tryz.underlying3,fun x hx=>⟨_,Go.Maps.keyOf_int_mk Tryz.underlying3 (Po hx)⟩,fun w=>by kernel_rfl,⟨i0,i0,trivial⟩⟩
theorem Xl:tX Tryz.prog 191 4 tgY .bool:=
 ⟨Go.Maps.Keyed.of_law aik,fun x hx=>⟨_,Xk hx.1 hx.2.1 hx.2.2.1⟩,fun w=>by kernel_rfl,trivial⟩
theorem aex:tX Tryz.prog 3 4 (.int .i64) .bool:=
 ⟨Go.Maps.int_keyed Tryz.underlying3,fun x hx=>⟨_,Go.Maps.keyOf_int_mk Tryz.underlying3 (Po hx)⟩,fun w=>by kernel_rfl,trivial⟩
def fM (n:String) (t o b:Nat):Field:={ name:=n,type:=t,offset:=o,byteOffset:=b,embedded:=false,tag:="",pkgPath:="" }
abbrev bZ:D:=.int .i64 0
abbrev RY:D:=.str []
abbrev aoh:D:=.bool false
abbrev AP (t:Ty):D:=.sl 2 t []
def tti (a s b:Nat) (g:Bool) (t:Ty) (d:TypeDesc) (z:List D) (r:Option Ty) (c:Option (List Nat)):Nat×TI:=(a,⟨s,b,g,t,d,z,r,c⟩)
def GJ (a e:Nat) (t:Ty):Nat×TI:=(a,⟨1,24,false,.sl t,.slice e,[.sl 2 t []],none,none⟩)
abbrev aoi:Ty:=.st 16 (.cons .unit (.cons .unit .unit))
abbrev IJ:Ty:=.st 16 (.cons (.int .i64) (.cons .bool .unit))
abbrev auC:Ty:=.sl IJ
abbrev yL:Ty:=.st 16 (.cons (.int .i64) (.cons (.int .i64) .unit))
abbrev lq:Ty:=.st 16 (.cons (.int .i64) (.cons (.int .u64) .unit))
abbrev auD:Ty:=.sl yL
abbrev auE:Ty:=.sl lq
abbrev auF:Ty:=.st 32 (.cons (.sl (.int .i64)) (.cons (.int .i64) .unit))
abbrev rP:Ty:=.st 24 (.cons (.int .i64) (.cons (.int .i64) (.cons (.int .u64) .unit)))
abbrev vw:Ty:=.st 24 (.cons (.int .i64) (.cons (.int .i64) (.cons (.int .i64) .unit)))
abbrev auG:Ty:=.sl rP
abbrev aey:Ty:=.st 40 (.cons (.int .i64) (.cons (.sl (.int .i64)) (.cons (.int .i64) .unit)))
abbrev AQ:Ty:=.st 32 (.cons (.int .i64) (.cons (.int .i64) (.cons (.int .i64) (.cons (.int .i64) .unit))))
abbrev Kh:Ty:=.st 24 (.cons yL (.cons (.int .i64) .unit))
abbrev auH:Ty:=.sl AQ
abbrev aaJ:Ty:=.st 32 (.cons (.int .i64) (.cons auD .unit))
abbrev aoj:Ty:=.sl Kh
abbrev IK:Ty:=.st 40 (.cons (.int .i64) (.cons (.int .i64) (.cons (.int .i64) (.cons (.int .i64) (.cons (.int .i64) .unit)))))
abbrev auI:Ty:=.sl IK
abbrev auJ:Ty:=.st 32 (.cons (.int .i64) (.cons auH .unit))
abbrev aok:Ty:=.st 72 (.cons aoj (.cons (.sl .unit) (.cons (.sl .unit) .unit)))
abbrev auK:Ty:=.st 48 (.cons auC (.cons auI .unit))
abbrev ail:Ty:=.st 88 (.cons (.int .i64) (.cons (.int .i64) (.cons (.int .i64) (.cons (.int .i64) (.cons (.int .i64) (.cons (.int .i64) (.cons (.int .i64) (.cons (.int .i64) (.cons (.int .u64) (.cons .str .unit))))))))))
abbrev jH:Ty:=.st 96 (.cons (.int .i64) (.cons ail .unit))
abbrev auL:Ty:=.sl jH
abbrev agC:Ty:=.st 112 (.cons (.sl (.int .i64)) (.cons ail .unit))
abbrev xM:Ty:=.st 120 (.cons (.int .i64) (.cons agC .unit))
abbrev aol:Ty:=.sl xM
abbrev aom:Ty:=.st 40 (.cons (.int .u64) (.cons (.int .u64) (.cons aol .unit)))
abbrev GK:Ty:=.st 152 (.cons AQ (.cons xM .unit))
abbrev auM:Ty:=.st 72 (.cons auL (.cons auG (.cons auE .unit)))
def Cw:List (Nat×TI):=[tti 3 1 8 false (.int .i64) (.int .i64) [bZ] none none,
 tti 4 1 1 false .bool .bool [aoh] none none,
 tti 9 1 16 false .str .string [RY] none none,
 GJ 22 3 (.int .i64),
 tti 23 1 8 false .unit (.pointer 99) [.undef] none none,
 GJ 25 48 IJ,
 GJ 26 41 IK,
 tti 28 2 48 true auK (.struct #[fM "Routers" 25 0 0,fM "Links" 26 1 24]) [(AP IJ),(AP IK)] none none,
 GJ 29 134 AQ,
 tti 31 2 32 true auJ (.struct #[fM "Length" 3 0 0,fM "List" 29 1 8]) [bZ,(AP AQ)] none none,
 GJ 32 44 yL,
 tti 34 2 32 true aaJ (.struct #[fM "Root" 3 0 0,fM "Links" 32 1 8]) [bZ,(AP yL)] none none,
 tti 41 5 40 true IK (.struct #[fM "A" 3 0 0,fM "B" 3 1 8,fM "CostA" 3 2 16,fM "CostB" 3 3 24,fM "Capacity" 3 4 32]) [bZ,bZ,bZ,bZ,bZ] none (some [0,0,0,0,0]),
 tti 44 2 16 true yL (.struct #[fM "From" 3 0 0,fM "To" 3 1 8]) [bZ,bZ] none (some [0,0]),
 tti 48 2 16 true IJ (.struct #[fM "ID" 3 0 0,fM "Capable" 4 1 8]) [bZ,aoh] none (some [0,1]),
 tti 50 1 8 false (.int .u64) (.int .u64) [(.int .u64 0)] none none,
 tti 52 10 88 true ail (.struct #[fM "Mode" 3 0 0,fM "Subdomain" 3 1 8,fM "Set" 3 2 16,fM "Length" 3 3 24,fM "TTL" 3 4 32,fM "Entropy" 3 5 40,fM "Ingress" 3 6 48,fM "Proto" 3 7 56,fM "Bits" 50 8 64,fM "Payload" 9 9 72]) [bZ,bZ,bZ,bZ,bZ,bZ,bZ,bZ,(.int .u64 0),RY] none (some [0,0,0,0,0,0,0,0,0,2]),
 tti 53 1 8 false (.int .i64) (.int .i64) [bZ] none none,
 GJ 56 104 jH,
 GJ 57 66 rP,
 GJ 58 114 lq,
 tti 60 3 72 true auM (.struct #[fM "Deliveries" 56 0 0,fM "Crossings" 57 1 24,fM "Losses" 58 2 48]) [(AP jH),(AP rP),(AP lq)] none none,
 tti 66 3 24 true rP (.struct #[fM "From" 3 0 0,fM "To" 3 1 8,fM "Bits" 50 2 16]) [bZ,bZ,(.int .u64 0)] none (some [0,0,0]),
 GJ 74 88 aey,
 GJ 78 34 aaJ,
 GJ 81 22 (.sl (.int .i64)),
 GJ 82 234 vw,
 tti 88 3 40 true aey (.struct #[fM "Root" 3 0 0,fM "Receivers" 22 1 8,fM "Rate" 3 2 32]) [bZ,(AP (.int .i64)),bZ] none none,
 tti 99 2 32 true auF (.struct #[fM "L" 22 0 0,fM "At" 3 1 24]) [(AP (.int .i64)),bZ] none none,
 tti 104 11 96 true jH (.struct #[fM "Router" 3 0 0,fM "Packet" 52 1 8]) [bZ,bZ,bZ,bZ,bZ,bZ,bZ,bZ,bZ,(.int .u64 0),RY] none (some [0,0,0,0,0,0,0,0,0,0,2]),
 tti 114 2 16 true lq (.struct #[fM "Router" 3 0 0,fM "Bits" 50 1 8]) [bZ,(.int .u64 0)] none (some [0,0]),
 tti 116 11 112 true agC (.struct #[fM "Route" 22 0 0,fM "Packet" 52 1 24]) [(AP (.int .i64)),bZ,bZ,bZ,bZ,bZ,bZ,bZ,bZ,(.int .u64 0),RY] none none,
 tti 127 1 8 false .unit (.func #[41,41] #[3] false) [.undef] none none,
 GJ 130 131 (.sl .bool),
 GJ 131 4 .bool,
 tti 132 1 8 false .unit (.func #[3] #[4] false) [.undef] none none,
 tti 134 4 32 true AQ (.struct #[fM "Bit" 3 0 0,fM "Router" 3 1 8,fM "Kind" 3 2 16,fM "To" 3 3 24]) [bZ,bZ,bZ,bZ] none (some [0,0,0,0]),
 tti 137 1 8 false .unit (.map 44 3) [.undef] none none,
 tti 138 1 8 false .unit (.map 44 3) [.undef] none none,
 GJ 142 231 Kh,
 tti 154 11 96 true jH (.struct #[{ name:="router",type:=3,offset:=0,byteOffset:=0,embedded:=false,tag:="",pkgPath:="bitcast/engineered" },{ name:="packet",type:=52,offset:=1,byteOffset:=8,embedded:=false,tag:="",pkgPath:="bitcast/engineered" }]) [bZ,bZ,bZ,bZ,bZ,bZ,bZ,bZ,bZ,(.int .u64 0),RY] none (some [0,0,0,0,0,0,0,0,0,0,2]),
 GJ 155 154 jH,
 GJ 156 164 xM,
 tti 158 3 40 true aom (.struct #[fM "Local" 50 0 0,fM "Lost" 50 1 8,fM "Copies" 156 2 16]) [(.int .u64 0),(.int .u64 0),(AP xM)] none none,
 GJ 159 166 GK,
 tti 164 12 120 true xM (.struct #[fM "To" 3 0 0,fM "Frame" 116 1 8]) [bZ,(AP (.int .i64)),bZ,bZ,bZ,bZ,bZ,bZ,bZ,bZ,(.int .u64 0),RY] none none,
 tti 166 16 152 true GK (.struct #[{ name:="over",type:=134,offset:=0,byteOffset:=0,embedded:=false,tag:="",pkgPath:="bitcast/engineered" },{ name:="copy",type:=164,offset:=4,byteOffset:=32,embedded:=false,tag:="",pkgPath:="bitcast/engineered" }]) [bZ,bZ,bZ,bZ,bZ,(AP (.int .i64)),bZ,bZ,bZ,bZ,bZ,bZ,bZ,bZ,(.int .u64 0),RY] none none,
 tti 169 1 8 false .unit (.map 3 3) [.undef] none none,
 tti 183 1 8 false .unit (.func #[44,44] #[3] false) [.undef] none none,
 tti 184 1 8 false .unit (.func #[3,3,3] #[] false) [.undef] none none,
 GJ 188 191 vw,
 tti 191 3 24 true vw (.struct #[{ name:="router",type:=3,offset:=0,byteOffset:=0,embedded:=false,tag:="",pkgPath:="bitcast/adjacency" },{ name:="kind",type:=3,offset:=1,byteOffset:=8,embedded:=false,tag:="",pkgPath:="bitcast/adjacency" },{ name:="to",type:=3,offset:=2,byteOffset:=16,embedded:=false,tag:="",pkgPath:="bitcast/adjacency" }]) [bZ,bZ,bZ] none (some [0,0,0]),
 tti 196 1 8 false .unit (.func #[134] #[4] false) [.undef] none none,
 tti 199 1 8 false .unit (.func #[48] #[4] false) [.undef] none none,
 tti 201 1 8 false .unit (.func #[48,3] #[3] false) [.undef] none none,
 tti 203 1 8 false .unit (.func #[41] #[4] false) [.undef] none none,
 tti 215 1 8 false (.int .u64) (.int .u64) [(.int .u64 0)] none none,
 tti 217 1 8 false .unit (.pointer 221) [.undef] none none,
 GJ 218 169 .unit,
 GJ 219 222 .unit,
 tti 221 3 72 true aok (.struct #[{ name:="arcs",type:=142,offset:=0,byteOffset:=0,embedded:=false,tag:="",pkgPath:="bitcast/arbor" },{ name:="cost",type:=218,offset:=1,byteOffset:=24,embedded:=false,tag:="",pkgPath:="bitcast/arbor" },{ name:="steps",type:=219,offset:=2,byteOffset:=48,embedded:=false,tag:="",pkgPath:="bitcast/arbor" }]) [(AP Kh),(.sl 2 .unit []),(.sl 2 .unit [])] none none,
 tti 222 1 8 false .unit (.map 3 225) [.undef] none none,
 tti 225 2 16 true yL (.struct #[{ name:="next",type:=3,offset:=0,byteOffset:=0,embedded:=false,tag:="",pkgPath:="bitcast/arbor" },{ name:="part",type:=3,offset:=1,byteOffset:=8,embedded:=false,tag:="",pkgPath:="bitcast/arbor" }]) [bZ,bZ] none (some [0,0]),
 tti 227 1 8 false .unit (.func #[44] #[] false) [.undef] none none,
 tti 231 3 24 true Kh (.struct #[fM "Hop" 44 0 0,fM "Cost" 3 2 16]) [bZ,bZ,bZ] none (some [0,0,0]),
 tti 232 1 8 false .unit (.func #[231] #[4] false) [.undef] none none,
 tti 234 3 24 true vw (.struct #[fM "From" 3 0 0,fM "To" 3 1 8,fM "Count" 3 2 16]) [bZ,bZ,bZ] none (some [0,0,0]),
 tti 236 1 8 false .unit (.func #[234,234] #[3] false) [.undef] none none,
 tti 239 1 8 false .unit (.func #[277] #[] false) [.undef] none none,
 tti 241 1 8 false .unit (.map 191 4) [.undef] none none,
 tti 247 2 16 true aoi (.struct #[{ name:="out",type:=245,offset:=0,byteOffset:=0,embedded:=false,tag:="",pkgPath:="bitcast/shortest" },{ name:="in",type:=245,offset:=1,byteOffset:=8,embedded:=false,tag:="",pkgPath:="bitcast/shortest" }]) [.undef,.undef] none none,
 tti 251 1 8 false .unit (.func #[231,231] #[3] false) [.undef] none none,
 GJ 261 53 (.int .i64),
 tti 262 1 8 false .unit (.map 3 4) [.undef] none none,
 GJ 278 281 yL,
 tti 281 2 16 true yL (.struct #[{ name:="to",type:=3,offset:=0,byteOffset:=0,embedded:=false,tag:="",pkgPath:="bitcast/shortest" },{ name:="cost",type:=3,offset:=1,byteOffset:=8,embedded:=false,tag:="",pkgPath:="bitcast/shortest" }]) [bZ,bZ] none (some [0,0])]
def cl:List (Nat×List Nat):=[(41,[0,0,0,0,0]),(44,[0,0]),(48,[0,1]),(52,[0,0,0,0,0,0,0,0,0,2]),(66,[0,0,0]),(104,[0,0,0,0,0,0,0,0,0,0,2]),(114,[0,0]),(134,[0,0,0,0]),(154,[0,0,0,0,0,0,0,0,0,0,2]),(191,[0,0,0]),(225,[0,0]),(231,[0,0,0]),(234,[0,0,0]),(281,[0,0])]
def gl:List (Nat×(IntKind×List Int)):=[]
theorem ain:Cw.map (fun p=>VW Tryz.prog cl p.1)=Cw.map (fun p=>some p.2):=by kernel_rfl
theorem aon:cl.map (fun p=>(jV Tryz.prog 8 p.1,Tryz.prog.eqGuardType Tryz.prog.depth p.1))=cl.map (fun p=>(some p.2,false)):=by kernel_rfl
theorem aez:vo Cw=[(44,3),(44,3),(3,3),(3,225),(191,4),(3,4)]:=by kernel_rfl
theorem aeA:∀ q∈vo Cw,tX Tryz.prog q.1 q.2 (tyL Cw q.1) (tyL Cw q.2):=by
 rw [aez];intro q hq;simp only [List.mem_cons,List.not_mem_nil,or_false] at hq
 rcases hq with rfl | rfl | rfl | rfl | rfl | rfl
 ·exact lJ
 ·exact lJ
 ·exact Mg
 ·exact Cy
 ·exact Xl
 ·exact aex
theorem iG (n:Nat) (hp:Bool) (md:List (Nat×Nat)):nS Tryz.prog (mkE Cw gl n hp md):=aif cl ain aon aeA n hp md
theorem mix:Tryz.prog.follows .mixedOrders=true:=by kernel_rfl
def kz:List Nat→List Nat
 | a::n::r=>(List.range n).map (fun i=>a+2*i)++kz r
 | _=>[]
abbrev sq:=Plan.sq
abbrev go:=Plan.go
abbrev gg (p:Plan):Plan:=.sq .go p
abbrev eu:Sh:=.lf (.int .i64)
abbrev mq:Sh:=.lf .bool
abbrev lbx (l:List Lf):Sh:=.aI 1 true l
abbrev lop:=Plan.loop
abbrev kQ:=Plan.cut
def mdz:List (Nat×List Nat)→List (Nat×Nat)
 | []=>[]
 | (m,l)::r=>l.map (fun t=>(t,m))++mdz r
abbrev eT (n:Nat) (l:List (Nat×List Nat)):Env:=mkE Cw gl n true (mdz l)
abbrev eF (n:Nat) (l:List (Nat×List Nat)):Env:=mkE Cw gl n false (mdz l)
abbrev E32:Env:=eF 16 [(1,[15,7,12,13]),(2,[0,4])]
abbrev aio:Plan:=(gg (sq go (gg (sq (gg (kQ [0,28,26,24] [⟨0,[(0,eu)],(kz [2,1,10,7])⟩] go)) go))))
abbrev E33:Env:=eT 31 [(1,[30]),(2,[17,2])]
abbrev aip:Plan:=go
abbrev E9:Env:=eT 9 [(1,[5,7]),(2,[4])]
abbrev aoo:Plan:=go
abbrev E6:Env:=eF 10 [(2,[9,2])]
abbrev aop:Plan:=go
abbrev E48:Env:=eT 15 [(1,[8,9]),(2,[6])]
abbrev aiq:Plan:=go
abbrev E49:Env:=eT 12 [(1,[11,6]),(2,[4])]
abbrev air:Plan:=go
abbrev E17:Env:=eF 26 [(1,[15]),(2,[5])]
abbrev ais:Plan:=(gg (sq go (sq (gg (sq (lop (kz [8,2,22,15]) [(10,eu)] (kz [8,1,12,5]) [⟨1,[(8,mq)],(kz [0,2,10,6])⟩,⟨2,[],(kz [0,2,10,6])⟩] go) go)) go)))
abbrev E47:Env:=eF 46 [(1,[33,11,19,25,34,40,44]),(2,[5,4,6])]
abbrev ait:Plan:=(gg (sq go (sq (sq (lop (kz [10,1,14,14]) [(10,eu)] [8] [⟨2,[(10,eu)],[]⟩] (sq (sq (kQ (kz [14,12]) [⟨0,[(36,mq)],[]⟩] go) go) go)) go) (sq (sq (kQ (kz [42,12]) [⟨0,[(64,mq)],[]⟩] go) go) (gg (sq (.opn [(12,0,6)]) go))))))
abbrev E10:Env:=eF 18 [(1,[10]),(2,[5])]
abbrev aiu:Plan:=(gg (sq (gg (sq (lop (kz [8,14]) [(10,eu)] [8] [⟨1,[(8,mq)],[10,0,2]⟩,⟨2,[],[10,0,2]⟩] go) go)) go))
abbrev auO:Env:=eF 6 [(2,[2])]
abbrev aeB:Plan:=go
abbrev E73:Env:=eF 20 [(1,[11,12,13,17,18]),(2,[5,6])]
abbrev aiv:Plan:=go
abbrev auP:Env:=eF 18 [(1,[15,17,6,8]),(2,[5,2])]
abbrev aeC:Plan:=(gg (sq go (sq (gg (sq (lop (kz [4,1,10,1,16,9]) [(16,eu)] [4,0] [⟨1,[(4,eu)],[16,14,12,0]⟩,⟨2,[],[16,14,12,0]⟩] go) go)) go)))
abbrev E89:Env:=eF 12 [(1,[7]),(2,[4])]
abbrev aiw:Plan:=(gg (sq (kQ (kz [8,8]) [⟨0,[(8,mq)],[0,2]⟩] go) go))
abbrev E81:Env:=eF 17 [(1,[5,9,13]),(2,[2])]
abbrev aix:Plan:=(gg (sq (kQ (kz [4,15]) [⟨0,[(4,mq)],[0]⟩] go) go))
abbrev auQ:Env:=eF 9 [(1,[6]),(2,[2])]
abbrev aeD:Plan:=go
abbrev E90:Env:=eF 14 [(1,[7]),(2,[4])]
abbrev aiy:Plan:=(gg (sq (kQ (kz [8,10]) [⟨0,[(8,mq)],[0,2]⟩] go) go))
abbrev E35:Env:=eF 54 [(1,[6,11,16,21,28,33,38,43,48]),(2,[1,2])]
abbrev aiz:Plan:=(gg (sq (kQ (kz [4,52]) [⟨0,[(4,mq)],[2,0]⟩] go) go))
abbrev E95:Env:=eF 15 [(1,[8,10]),(2,[6])]
abbrev aiA:Plan:=(gg (sq (kQ (kz [12,9]) [⟨0,[(12,mq)],[0,2,4]⟩] go) go))
abbrev E98:Env:=eF 9 [(1,[7]),(2,[2,4])]
abbrev aiB:Plan:=go
abbrev E45:Env:=eF 17 [(2,[2,3,4])]
abbrev aiC:Plan:=go
abbrev E94:Env:=eF 7 [(2,[1,2])]
abbrev aiD:Plan:=go
abbrev auR:Env:=eF 19 [(1,[17,8]),(2,[5,4])]
abbrev aeE:Plan:=(gg (sq (gg (sq (lop (kz [8,2,16,11]) [(16,eu)] [12,8] [⟨1,[(8,eu)],[16,14,12,0,2]⟩,⟨2,[],[16,14,12,0,2]⟩] go) go)) go))
abbrev E93:Env:=eF 9 [(1,[5,6]),(2,[4])]
abbrev aiE:Plan:=go
abbrev auS:Env:=eF 19 [(1,[7,13]),(2,[1,2])]
abbrev aeF:Plan:=(gg (sq (kQ (kz [4,17]) [⟨0,[(4,mq)],[2,0]⟩] go) go))
abbrev auT:Env:=eF 19 [(1,[17,8]),(2,[5,4])]
abbrev aeG:Plan:=(gg (sq (gg (sq (lop (kz [8,2,16,11]) [(16,eu)] [12,8] [⟨1,[(8,eu)],[16,14,12,0,2]⟩,⟨2,[],[16,14,12,0,2]⟩] go) go)) go))
abbrev E99:Env:=eF 9 [(1,[5,6]),(2,[4])]
abbrev aiF:Plan:=go
abbrev E97:Env:=eF 49 [(1,[35,32,34,37,39]),(2,[8,10,11,9,6,7])]
abbrev aiG:Plan:=(gg (sq go (gg (sq (sq (lop (kz [18,26]) [(20,eu),(18,eu)] [28,26,24,14,12] [⟨2,[(18,eu)],[20,28,26,24]⟩] (gg (sq (gg (sq go (kQ [18,66,64,68,20] [⟨0,[(18,eu),(20,eu)],(kz [22,1,30,17])⟩] go))) go))) go) (sq (kQ (kz [12,2,70,14]) [⟨0,[(14,mq),(12,eu)],[18,16,0,2,4]⟩] go) go)))))
abbrev E96:Env:=eF 15 [(1,[9,6,13]),(2,[4,5,3])]
abbrev aiH:Plan:=go
abbrev auU:Env:=eF 14 [(1,[8]),(2,[2,3])]
abbrev aeH:Plan:=(gg (sq (kQ (kz [6,11]) [⟨0,[(6,mq)],[4,0,2]⟩] go) go))
abbrev aoq:Env:=eF 19 [(1,[17,8]),(2,[5,4])]
abbrev aaK:Plan:=(gg (sq (gg (sq (lop (kz [8,2,16,11]) [(16,eu)] [12,8] [⟨1,[(8,eu)],[16,14,12,0,2]⟩,⟨2,[],[16,14,12,0,2]⟩] go) go)) go))
abbrev aor:Env:=eF 9 [(1,[5,6]),(2,[4])]
abbrev aaL:Plan:=go
abbrev auV:Env:=eF 8 [(2,[1,2])]
abbrev aeI:Plan:=go
abbrev aos:Env:=eF 19 [(1,[17,8]),(2,[5,4])]
abbrev aaM:Plan:=(gg (sq (gg (sq (lop (kz [8,2,16,11]) [(16,eu)] [12,8] [⟨1,[(8,eu)],[16,14,12,0,2]⟩,⟨2,[],[16,14,12,0,2]⟩] go) go)) go))
abbrev aot:Env:=eF 9 [(1,[5,6]),(2,[4])]
abbrev aaN:Plan:=go
abbrev E37:Env:=eF 84 [(101,[55]),(102,[59]),(1,[11,29,24,68,63]),(2,[1,6,17,3,46,47,51,56,5])]
abbrev aiI:Plan:=(gg (sq (sq (sq (kQ (kz [12,11]) [⟨0,[(12,mq)],[0]⟩] go) go) go) (sq (gg (sq (lop (kz [4,2,12,1,34,6,48,22]) [(48,eu)] (kz [4,1,12,1,34,6]) [⟨1,[(4,eu)],(kz [12,1,34,8])⟩,⟨3,[],(kz [12,1,34,8])⟩] (gg (sq go (sq (sq (gg (sq (kQ (kz [54,18]) [⟨0,[(88,mq)],[6,52,50]⟩] go) go)) go) go)))) go)) (sq (.opk [(2,0,0)]) (sq (sq (sq (.opk [(8,0,0)]) go) go) (sq (gg (sq (lop (kz [4,1,8,2,92,16,126,21]) [(126,eu)] (kz [8,1,92,16]) [⟨1,[(4,eu)],(kz [2,1,8,1,92,18])⟩,⟨6,[],(kz [2,1,8,1,92,18])⟩] (gg (sq go (sq (sq (gg (sq (kQ (kz [132,17]) [⟨0,[(164,mq)],[10,130,128]⟩] go) go)) go) go)))) go)) go))))))
abbrev auW:Env:=eF 23 [(1,[11,8,15,20]),(2,[2,6,7,17,22])]
abbrev aeJ:Plan:=go
abbrev E41:Env:=eF 6 [(1,[3]),(2,[1,2])]
abbrev aiJ:Plan:=go
abbrev E38:Env:=eF 18 [(1,[9,7,13,15]),(2,[2,11,6,4])]
abbrev aiK:Plan:=(gg (sq go (sq (kQ (kz [5,1,8,1,26,5]) [⟨0,[(8,mq)],(kz [0,3,10,8])⟩] go) go)))
abbrev auX:Env:=eF 19 [(1,[17,8]),(2,[5,4])]
abbrev aeK:Plan:=(gg (sq (gg (sq (lop (kz [8,2,16,11]) [(16,eu)] [12,8] [⟨1,[(8,eu)],[16,14,12,0,2]⟩,⟨2,[],[16,14,12,0,2]⟩] go) go)) go))
abbrev E39:Env:=eF 9 [(1,[5,6]),(2,[4])]
abbrev aiL:Plan:=go
abbrev auY:Env:=eF 9 [(1,[5]),(2,[2])]
abbrev aeL:Plan:=(gg (sq (kQ (kz [4,7]) [⟨0,[(4,mq)],[0]⟩] go) go))
abbrev auZ:Env:=eF 21 [(1,[11]),(2,[2,5])]
abbrev aeM:Plan:=(gg (sq (gg (sq (lop (kz [8,17]) [(10,eu)] [8,0] [⟨1,[(8,mq)],[10,4,0,2]⟩,⟨2,[],[10,4,0,2]⟩] go) go)) go))
abbrev E50:Env:=eF 182 [(1,[16,36,27,50,82,88,93,71,114,103,130,168,150]),(2,[1,3,4,77,5,7,8,157,162,9])]
abbrev aiM:Plan:=(gg (sq (sq (kQ (kz [24,10]) [⟨0,[(42,mq)],[0]⟩] go) go) (sq (gg (sq (lop (kz [4,2,42,24]) [(6,eu)] [42,4] [⟨1,[(4,eu)],[6,42]⟩,⟨2,[],[6,42]⟩] (gg (sq (sq (sq (kQ (kz [58,16]) [⟨0,[(88,mq)],(kz [44,5])⟩] go) go) go) go))) go)) (sq (gg (sq (lop (kz [4,1,8,1,90,21]) [(8,eu)] [] [⟨1,[(4,eu)],[8]⟩,⟨4,[],[8]⟩] go) go)) (sq (gg (sq (lop (kz [4,1,10,2,13,1,132,32]) [(10,eu)] [] [⟨1,[(4,eu)],[10]⟩,⟨6,[],[10]⟩] (gg (sq (sq (gg (sq (kQ (kz [156,20]) [⟨0,[(194,mq)],(kz [12,1,132,5,146,5])⟩] go) go)) go) go))) go)) (sq (gg (sq (lop (kz [4,1,14,1,196,27]) [(14,eu)] [] [⟨1,[(4,eu)],[14]⟩,⟨8,[],[14]⟩] (gg (sq (sq (sq (kQ (kz [210,20]) [⟨0,[(248,mq)],(kz [196,5])⟩] go) go) go) go))) go)) (sq (gg (sq (lop (kz [4,1,16,1,250,20]) [(16,eu)] [] [⟨1,[(4,eu)],[16]⟩,⟨10,[],[16]⟩] go) go)) (sq (gg (sq (lop (kz [4,1,18,3,21,2,290,37]) [(18,eu)] [] [⟨1,[(4,eu)],[18,2]⟩,⟨12,[],[18,2]⟩] (gg (sq (sq (gg (sq (kQ (kz [326,19]) [⟨0,[(362,mq)],(kz [20,2,290,5,304,11])⟩] go) go)) go) go))) go)) go))))))))
abbrev au0:Env:=eF 46 [(1,[33,45,26,38,15]),(2,[3,21,6,8])]
abbrev aeN:Plan:=(gg (sq (gg (sq (lop (kz [0,1,12,40,19,1]) [(16,eu)] [14,12,0] [⟨1,[(14,mq),(12,eu)],[16,6,0,2,4]⟩,⟨2,[],[16,6,0,2,4]⟩] (gg (sq (sq (gg (sq (sq (kQ (kz [44,10]) [⟨0,[(62,mq)],(kz [20,5,34,5])⟩] go) go) (sq (kQ (kz [68,10]) [⟨0,[(86,mq)],[62]⟩] go) go))) go) go))) go)) go))
abbrev au1:Env:=eF 39 [(1,[29,38,16,28,14]),(2,[2,7,8,5,6,4])]
abbrev aeO:Plan:=(gg (sq go (sq (gg (sq (lop (kz [0,1,10,33]) [(10,(.lf (.sl 2 (.int .i64)))),(12,eu)] [8,0] [⟨2,[(10,(.lf (.sl 2 (.int .i64))))],[12,4,0,2]⟩] (gg (sq (sq (gg (sq go (kQ (kz [10,1,58,9]) [⟨0,[(10,(.lf (.sl 2 (.int .i64))))],(kz [14,7,32,13])⟩] go))) go) go))) go)) go)))
abbrev E66:Env:=eF 29 [(5,[28]),(1,[8,12,16,25,28]),(2,[2,24,26])]
abbrev aiN:Plan:=(gg (sq (sq (kQ (kz [10,19]) [⟨0,[(46,mq)],[0]⟩] go) go) go))
abbrev E18:Env:=eT 159 [(13,[40]),(5,[49]),(13,[65,90,111]),(5,[158]),(1,[33,151,20,27,25,47,43,55,74,124,152,105,100,158]),(2,[5,7,37,8,9,10,49,11,12,13,14,15,16,17,131,138,148,154])]
abbrev aiO:Plan:=(gg (sq go (gg (sq go (sq (gg (sq (lop (kz [1,1,13,1,14,2,44,17]) [(1,(lbx [(.sl 0 (.int .i64)),(.int .i64)])),(14,eu),(13,(lbx [(.sl 2 IJ),(.sl 2 IK)])),(16,eu)] [42,40,38,2] [⟨2,[(1,(lbx [(.sl 0 (.int .i64)),(.int .i64)])),(13,(lbx [(.sl 2 IJ),(.sl 2 IK)]))],[16,14,42,40,38,2]⟩] go) go)) (gg (sq (gg (sq (lop (kz [20,1,81,1,86,9]) [(81,(.dI 1 .bool)),(86,eu)] [82,80,78] [⟨4,[(81,(.dI 1 .bool))],(kz [78,5])⟩] go) go)) (sq (gg (sq (lop (kz [1,1,22,1,81,1,104,16,131,1]) [(22,eu),(81,(.dI 1 .bool)),(1,(lbx [(.sl 0 (.int .i64)),(.int .i64)]))] [] [⟨6,[(81,(.dI 1 .bool)),(1,(lbx [(.sl 0 (.int .i64)),(.int .i64)]))],[22]⟩] (gg (sq (sq (gg (kQ (kz [1,1,81,1,120,8,131,1]) [⟨0,[(81,(.dI 1 .bool)),(1,(lbx [(.sl 0 (.int .i64)),(.int .i64)]))],(kz [104,3,114,3])⟩] (sq (.sea [(81,0,65)]) go))) go) go))) go)) (sq (gg (sq (lop (kz [1,1,24,3,81,1,136,27,181,1]) [(24,eu),(81,(.dI 1 .bool)),(1,(lbx [(.sl 0 (.int .i64)),(.int .i64)]))] (kz [136,4]) [⟨8,[(81,(.dI 1 .bool)),(1,(lbx [(.sl 0 (.int .i64)),(.int .i64)]))],(kz [10,1,24,1,136,4])⟩] (gg (sq (sq (gg (sq go (kQ (kz [81,1,170,10,181,1]) [⟨0,[(81,(.dI 1 .bool))],(kz [26,2,144,2,152,9])⟩] (sq (.sea [(81,0,90)]) go)))) go) go))) go)) (gg (sq (gg (sq (lop (kz [1,1,13,1,32,3,37,1,81,1,190,4,200,58,223,1,233,1]) [(200,eu),(81,(.dI 1 .bool)),(1,(lbx [(.sl 0 (.int .i64)),(.int .i64)])),(13,(lbx [(.sl 2 IJ),(.sl 2 IK)]))] (kz [190,4]) [⟨10,[(1,(lbx [(.sl 0 (.int .i64)),(.int .i64)])),(13,(lbx [(.sl 2 IJ),(.sl 2 IK)]))],(kz [18,1,30,1,190,6])⟩] (gg (sq go (sq (sq (gg (sq go (sq (lop (kz [1,1,13,1,34,2,37,1,81,1,202,3,210,52,223,1,233,1]) [(81,(.dI 1 .bool)),(1,(lbx [(.sl 0 (.int .i64)),(.int .i64)])),(13,(lbx [(.sl 2 IJ),(.sl 2 IK)])),(210,eu)] (kz [202,3]) [⟨12,[(81,(.dI 1 .bool)),(1,(lbx [(.sl 0 (.int .i64)),(.int .i64)])),(13,(lbx [(.sl 2 IJ),(.sl 2 IK)]))],(kz [32,1,202,5])⟩] (gg (sq go (sq (sq (gg (sq (sq (.sea [(81,0,111)]) go) (sq (.opn [(13,0,116)]) (sq (gg (kQ (kz [1,1,37,1,268,16]) [⟨0,[(37,(lbx [(.int .i64),(.int .i64),(.int .i64),(.int .i64),(.int .i64)])),(1,(lbx [(.sl 0 (.int .i64)),(.int .i64)]))],(kz [34,1,212,28])⟩] go)) go)))) go) go)))) go))) go) go)))) go)) go)))))))))))
abbrev E44:Env:=eF 49 [(1,[35,32,34,37,39]),(2,[4,8,10,11,9,6,7])]
abbrev aiP:Plan:=(gg (sq go (gg (sq (sq (lop (kz [2,1,18,26]) [(20,eu),(18,eu)] [28,26,24,14,12,2] [⟨2,[(18,eu)],[20,28,26,24,2]⟩] (gg (sq (gg (sq go (kQ [18,66,64,68,20] [⟨0,[(18,eu),(20,eu)],(kz [22,1,30,17])⟩] go))) go))) go) (sq (kQ (kz [12,2,70,14]) [⟨0,[(12,eu),(14,mq)],[18,16,8,0,4]⟩] go) go)))))
abbrev E15:Env:=eF 45 [(1,[38,44,13,27,30,31,35,41]),(2,[3,8,9,26,29,6])]
abbrev aiQ:Plan:=go
abbrev E46:Env:=eF 17 [(1,[11,12,13]),(2,[3,6,7])]
abbrev aiR:Plan:=go
abbrev E51:Env:=eF 17 [(1,[5,9,13]),(2,[2])]
abbrev aiS:Plan:=(gg (sq (kQ (kz [4,15]) [⟨0,[(4,mq)],[0]⟩] go) go))
abbrev E52:Env:=eF 11 [(1,[8,9]),(2,[2,4])]
abbrev aiT:Plan:=go
abbrev E20:Env:=eF 71 [(5,[70]),(1,[29,51,57,46,24,67,70]),(2,[2,14,18,20,27,39,10,60,69])]
abbrev aiU:Plan:=(gg (sq go (gg (sq go (sq (gg (sq (lop (kz [0,1,10,1,13,1,16,1,17,1,20,4,30,3,38,3,48,40,57,1,101,1]) [(48,eu),(13,(lbx [(.int .i64),(.sl 2 AQ)]))] (kz [0,1,10,1,22,3,30,3,38,3]) [⟨2,[(13,(lbx [(.int .i64),(.sl 2 AQ)]))],(kz [0,1,4,1,22,3,30,3,38,6])⟩] (gg (sq go (sq (sq (gg (sq (.opn [(13,1,28)]) (gg (sq (lop (kz [13,1,20,1,92,17,101,1]) [(92,eu),(13,(lbx [(.int .i64),(.sl 2 AQ)]))] (kz [50,19]) [⟨4,[(13,(lbx [(.int .i64),(.sl 2 AQ)]))],(kz [16,1,50,22])⟩] (gg (sq go (sq (sq (gg (.opn [(13,1,50)])) go) go)))) go)))) go) go)))) go)) (sq (sq (.opn [(13,1,64)]) go) go))))))
abbrev E29:Env:=eT 36 [(1,[35,10,15,23,21]),(2,[4,8,7,6])]
abbrev aiV:Plan:=(gg (sq go (sq (gg (sq (lop (kz [1,1,2,2,14,28]) [(1,(lbx [(.sl 0 (.int .i64)),(.int .i64)])),(14,(.lf (.sl 0 (.int .i64)))),(16,eu)] [24,22,20,18,12,2,4] [⟨2,[(1,(lbx [(.sl 0 (.int .i64)),(.int .i64)])),(14,(.lf (.sl 0 (.int .i64))))],(kz [2,2,8,1,16,5])⟩] (sq (sq (kQ (kz [26,8]) [⟨0,[(40,mq)],[]⟩] go) go) go)) go)) go)))
abbrev E19:Env:=eT 38 [(1,[17,37,10,15]),(2,[4,8,7,6])]
abbrev aiW:Plan:=(gg (sq go (sq (gg (sq (lop (kz [1,1,14,2,26,24]) [(16,eu),(14,(.lf (.sl 2 aey))),(1,(lbx [(.sl 0 (.int .i64)),(.int .i64)]))] [24,22,20,18,12,2,4] [⟨2,[(14,(.lf (.sl 2 aey))),(1,(lbx [(.sl 0 (.int .i64)),(.int .i64)]))],(kz [2,2,8,1,16,5])⟩] go) go)) go)))
abbrev E16:Env:=eF 48 [(1,[46,47,21,30,31,17,41,37]),(2,[2,3,20,10,11,6,40,7,4,5])]
abbrev aiX:Plan:=(gg (sq go (gg (sq (gg (sq (lop (kz [12,1,18,3,19,1,34,17]) [(12,eu),(34,eu)] [28,10,8,0,2] [⟨2,[(12,eu)],(kz [0,3,28,4])⟩] go) go)) (sq (gg (sq (lop (kz [14,1,26,1,27,1,74,9]) [(14,(.lf (.sl 0 (.int .i64)))),(74,eu)] [68,6] [⟨4,[(14,(.lf (.sl 0 (.int .i64))))],[74,72,70,68,6]⟩] go) go)) go)))))
abbrev au2:Env:=eF 20 [(1,[8]),(2,[3])]
abbrev aeP:Plan:=(gg (sq (gg (sq (lop (kz [4,18]) [(6,eu)] [4] [⟨1,[(4,mq)],[6,0]⟩,⟨2,[],[6,0]⟩] go) go)) go))
abbrev E68:Env:=eF 29 [(1,[15,17,25,20]),(2,[3,8])]
abbrev aiY:Plan:=(gg (sq go (gg (sq (gg (sq (lop (kz [12,1,16,1,36,1,37,1,40,9]) [(40,eu),(36,(.lf (.sl 2 (.int .i64))))] (kz [0,3,12,1,18,9]) [⟨1,[(12,eu)],(kz [0,4,18,12])⟩,⟨2,[],(kz [0,4,18,12])⟩] (gg (sq go (sq (sq (sq (.opn [(36,0,18)]) go) go) go)))) go)) go))))
abbrev au3:Env:=eF 55 [(1,[17,43,38,50]),(2,[2,3,5,7])]
abbrev aeQ:Plan:=(gg (sq go (sq (gg (sq (lop (kz [8,2,24,19]) [(10,eu)] [22,20,18,16,8,0,2] [⟨1,[(8,eu)],[10,22,20,18,16,0,2]⟩,⟨2,[],[10,22,20,18,16,0,2]⟩] go) go)) (sq (gg (sq (lop (kz [8,1,14,1,72,1,73,1,76,9]) [(76,eu),(72,(.lf (.sl 2 (.int .i64))))] (kz [62,5]) [⟨1,[(8,eu)],(kz [4,1,62,8])⟩,⟨4,[],(kz [4,1,62,8])⟩] (gg (sq go (sq (sq (sq (.opn [(72,0,36)]) go) go) go)))) go)) (sq (sq (kQ (kz [94,8]) [⟨0,[(108,mq)],[6]⟩] go) go) go)))))
abbrev E53:Env:=eF 27 [(1,[25,14,21,16]),(2,[2,19,7,4])]
abbrev aiZ:Plan:=(gg (sq go (gg (sq (gg (sq (lop (kz [8,1,12,2,13,1,32,11]) [(32,eu)] (kz [0,2,8,1,16,6]) [⟨1,[(8,eu)],(kz [0,3,16,9])⟩,⟨2,[],(kz [0,3,16,9])⟩] go) go)) go))))
abbrev E58:Env:=eF 12 [(1,[6]),(2,[1,2])]
abbrev ai0:Plan:=(gg (sq (kQ (kz [4,10]) [⟨0,[(4,mq)],[2,0]⟩] go) go))
abbrev au4:Env:=eF 9 [(1,[5]),(2,[2])]
abbrev aeR:Plan:=(gg (sq (kQ (kz [4,7]) [⟨0,[(4,mq)],[0]⟩] go) go))
abbrev E84:Env:=eF 18 [(1,[15,17,6,8]),(2,[5,2])]
abbrev ai1:Plan:=(gg (sq go (sq (gg (sq (lop (kz [4,1,10,1,16,9]) [(16,eu)] [4,0] [⟨1,[(4,eu)],[16,14,12,0]⟩,⟨2,[],[16,14,12,0]⟩] go) go)) go)))
abbrev au5:Env:=eF 35 [(1,[34,11,23,15]),(2,[1,3,18,2])]
abbrev aeS:Plan:=(gg (sq go (sq (gg (sq (lop (kz [0,1,4,1,8,1,12,28,13,2]) [(15,(.bO 1 (.int .i64) .bool)),(8,mq)] [20,18,16,14,4,0] [⟨2,[(15,(.bO 1 (.int .i64) .bool))],[8,20,18,16,14,2,0]⟩] (gg (sq (gg (sq go (sq (lop (kz [8,1,12,1,13,2,22,2,30,19]) [(15,(.bO 1 (.int .i64) .bool)),(8,mq),(30,eu)] [24,22] [⟨4,[(15,(.bO 1 (.int .i64) .bool)),(8,mq)],(kz [22,5])⟩] (gg (sq go (sq (sq (gg (sq (kQ (kz [38,11]) [⟨0,[(58,mq)],[36,34,32]⟩] go) (kQ [8,15,64,62,60] [⟨0,[(8,mq),(15,(.bO 1 (.int .i64) .bool))],[58,12]⟩] go))) go) go)))) go))) go))) go)) go)))
abbrev E85:Env:=eF 101 [(1,[29,21,41,74,91]),(2,[1,24,48,53,5,8,77,11,94])]
abbrev ai2:Plan:=(gg (sq go (sq (gg (sq (lop (kz [0,1,4,1,8,1,9,1,28,5,42,15]) [(42,eu)] (kz [0,1,4,1,28,5]) [⟨1,[(4,eu)],(kz [0,1,28,8])⟩,⟨2,[],(kz [0,1,28,8])⟩] (gg (sq go (sq (sq (gg (sq (kQ (kz [50,10]) [⟨0,[(68,mq)],[8,48,46,44]⟩] go) go)) go) go)))) go)) (sq (gg (sq (lop (kz [4,1,10,3,13,2,72,31]) [(10,eu)] [] [⟨1,[(4,eu)],[10]⟩,⟨4,[],[10]⟩] go) go)) (gg (sq (gg (sq (lop (kz [4,1,20,1,21,1,135,1,148,12]) [(135,(.bO 1 (.int .i64) .bool)),(148,eu)] (kz [134,5]) [⟨1,[(4,eu)],(kz [16,1,134,8])⟩,⟨6,[],(kz [16,1,134,8])⟩] go) go)) (gg (sq (gg (sq (lop (kz [4,1,26,1,27,1,182,10]) [(182,eu)] [176,174,172,2] [⟨1,[(4,eu)],(kz [2,1,22,1,172,6])⟩,⟨8,[],(kz [2,1,22,1,172,6])⟩] go) go)) go))))))))
abbrev au6:Env:=eF 10 [(2,[1,9])]
abbrev aeT:Plan:=go
abbrev E63:Env:=eF 117 [(1,[27,34,40,20,57,50,66,85,114,105]),(2,[1,23,53,69,9,10,108])]
abbrev ai3:Plan:=(gg (sq go (sq (gg (sq (lop (kz [0,1,4,1,8,1,9,1,26,5,40,27]) [(40,eu)] (kz [0,1,4,1,26,5]) [⟨1,[(4,eu)],(kz [0,1,26,8])⟩,⟨2,[],(kz [0,1,26,8])⟩] (gg (sq go (sq (sq (gg (sq (kQ (kz [48,22]) [⟨0,[(90,mq)],[8,46,44,42]⟩] go) go)) go) go)))) go)) (sq (gg (sq (lop (kz [4,1,12,1,13,1,94,1,100,13]) [(100,eu)] [94] [⟨1,[(4,eu)],(kz [94,4])⟩,⟨4,[],(kz [94,4])⟩] (gg (sq go (sq (sq (gg (sq (kQ (kz [108,8]) [⟨0,[(122,mq)],[12,106,104,102]⟩] go) go)) go) go)))) go)) (sq (gg (sq (lop (kz [4,1,16,1,17,1,132,14]) [(132,eu)] [126] [⟨1,[(4,eu)],(kz [126,4])⟩,⟨6,[],(kz [126,4])⟩] go) go)) (sq (gg (sq (lop (kz [4,1,18,1,160,21]) [(18,eu)] [] [⟨1,[(4,eu)],[18]⟩,⟨8,[],[18]⟩] go) go)) (gg (sq (gg (sq (lop (kz [4,1,24,1,25,1,203,1,210,12]) [(203,(.bO 1 vw .bool)),(210,eu)] [204,202,2] [⟨1,[(4,eu)],(kz [2,1,20,1,202,5])⟩,⟨10,[],(kz [2,1,20,1,202,5])⟩] go) go)) go))))))))
abbrev au7:Env:=eF 29 [(1,[28,22,14]),(2,[2,17,5,4])]
abbrev aeU:Plan:=(gg (sq go (sq (gg (kQ (kz [0,3,8,2,14,21,15,1]) [⟨0,[(10,(.lf (.int .u64)))],(kz [0,3,16,3])⟩] (sq (gg (sq (lop (kz [0,1,4,1,10,1,14,5,15,1,28,14]) [(10,(.lf (.int .u64))),(28,eu)] [22,20,18,16,8,4,0] [⟨2,[(10,(.lf (.int .u64)))],(kz [0,3,16,7])⟩] (gg (sq go (sq (sq (gg (sq go (kQ (kz [10,1,44,5]) [⟨0,[(10,(.lf (.int .u64)))],(kz [14,1,30,7])⟩] go))) go) go)))) go)) go))) go)))
abbrev E64:Env:=eF 15 [(2,[2,3,5,9])]
abbrev ai4:Plan:=go
abbrev au8:Env:=eF 8 [(1,[4]),(2,[2,3])]
abbrev aeV:Plan:=go
abbrev aou:Env:=eF 19 [(1,[17,8]),(2,[5,4])]
abbrev aaO:Plan:=(gg (sq (gg (sq (lop (kz [8,2,16,11]) [(16,eu)] [12,8] [⟨1,[(8,eu)],[16,14,12,0,2]⟩,⟨2,[],[16,14,12,0,2]⟩] go) go)) go))
abbrev E88:Env:=eF 19 [(1,[18,15]),(2,[2,3,6,4])]
abbrev ai5:Plan:=(gg (sq (.opk [(6,0,0)]) go))
abbrev au9:Env:=eF 17 [(1,[7,12]),(2,[4])]
abbrev aeW:Plan:=(gg (sq (kQ (kz [8,13]) [⟨0,[(8,mq)],[0,2]⟩] go) go))
abbrev ava:Env:=eF 6 [(2,[2])]
abbrev aeX:Plan:=go
abbrev E87:Env:=eF 54 [(1,[31,28,30,33,35]),(2,[6,8,9,7,4,5])]
abbrev ai6:Plan:=(gg (sq go (gg (sq (sq (lop (kz [14,24]) [(16,eu),(14,eu)] [24,22,20,10,8] [⟨2,[(14,eu)],[16,24,22,20]⟩] (gg (sq (gg (sq go (kQ [14,58,56,60,16] [⟨0,[(14,eu),(16,eu)],(kz [18,1,26,15])⟩] go))) go))) go) (sq (kQ (kz [8,2,62,23]) [⟨0,[(10,mq),(8,eu)],[14,12,0,2]⟩] go) go)))))
abbrev E86:Env:=eF 28 [(1,[19,27,15]),(2,[1,3,18,2])]
abbrev ai7:Plan:=(gg (sq go (gg (sq (gg (sq (lop (kz [6,1,10,1,11,1,30,10]) [(30,eu),(6,(.lf (.sl 2 (.int .i64))))] (kz [0,3,12,7]) [⟨2,[(6,(.lf (.sl 2 (.int .i64))))],(kz [0,2,12,10])⟩] go) go)) (sq (.opn [(6,0,3)]) go)))))
abbrev E34:Env:=eF 107 [(1,[64,78,31,106,36,50,56,62,52,74,87,95,93,99,101,102,89]),(2,[3,4,8,7,9,10,13,14,15,11,77,92,21,22,18,6])]
abbrev ai8:Plan:=(gg (sq go (sq (gg (sq (lop (kz [12,2,18,1,64,16]) [(18,eu)] (kz [0,2,12,3,46,8]) [⟨1,[(12,(.lf (.int .u64))),(14,eu)],(kz [0,2,16,2,46,8])⟩,⟨2,[],(kz [0,2,16,2,46,8])⟩] go) go)) (gg (sq go (sq (gg (sq (lop (kz [12,2,22,1,26,3,104,19]) [(104,eu),(22,(.lf (.sl 2 vw)))] [98,96,4] [⟨1,[(14,eu),(12,(.lf (.int .u64)))],(kz [4,1,20,1,96,5])⟩,⟨4,[(22,(.lf (.sl 2 vw)))],(kz [4,1,20,1,96,5])⟩] go) go)) (sq (gg (sq (lop (kz [22,1,34,1,35,1,148,13]) [(148,eu),(22,(.lf (.sl 2 vw)))] [142,8] [⟨6,[(22,(.lf (.sl 2 vw)))],(kz [8,1,142,4])⟩] go) go)) (gg (sq (gg (sq (lop (kz [12,2,36,1,40,3,41,1,174,1,175,1,178,17]) [(174,(.lf (.sl 2 vw))),(36,(.lf (.int .u64))),(178,eu)] [22] [⟨1,[(12,(.lf (.int .u64))),(14,eu)],[178,176,174,22,6]⟩,⟨8,[(36,(.lf (.int .u64)))],[178,176,174,22,6]⟩] (gg (sq go (sq (sq (sq (.opn [(174,0,87)]) go) go) go)))) go)) go)))))))))
abbrev E11:Env:=eF 34 [(5,[25,33]),(1,[22,14,15,12,25,33]),(2,[4,5,7,10,11,21,9,24,32])]
abbrev ai9:Plan:=go
abbrev E65:Env:=eF 99 [(0,[81]),(1,[85,89,98,33,46,55,90,22]),(2,[3,5,8,25,11,40,47,49,56,58,65,69,81,88,7,97])]
abbrev aja:Plan:=(gg (sq go (sq (gg (sq (lop (kz [0,1,4,2,13,1,14,1,20,10,21,1,25,1,44,75]) [(44,eu),(14,(.lf (.sl 2 GK))),(13,(lbx [(.int .u64),(.int .u64),(.sl 2 xM)]))] (kz [0,1,4,2,26,7]) [⟨2,[(14,(.lf (.sl 2 GK))),(13,(lbx [(.int .u64),(.int .u64),(.sl 2 xM)]))],(kz [0,4,10,1,16,1,26,10])⟩] (gg (sq go (sq (sq (gg (sq go (sq (sq (kQ (kz [58,11]) [⟨0,[(78,mq)],(kz [46,6])⟩] go) go) (sq (gg (kQ (kz [13,1,14,1,20,3,21,1,25,1,78,57]) [⟨0,[(14,(.lf (.sl 2 GK))),(13,(lbx [(.int .u64),(.int .u64),(.sl 2 xM)]))],(kz [20,2,78,5])⟩] (gg (sq go (kQ (kz [13,1,14,1,20,3,21,1,25,1,78,5,98,47]) [⟨0,[(13,(lbx [(.int .u64),(.int .u64),(.sl 2 xM)])),(14,(.lf (.sl 2 GK)))],(kz [20,2,78,5,98,4])⟩] (gg (sq go (kQ (kz [13,1,14,1,21,1,22,2,25,1,78,5,98,4,116,38]) [⟨0,[(14,(.lf (.sl 2 GK))),(13,(lbx [(.int .u64),(.int .u64),(.sl 2 xM)]))],(kz [20,2,78,5,98,4,116,3])⟩] (sq (gg (sq go (sq (gg (kQ (kz [25,1,158,5]) [⟨0,[(25,(lbx [(.int .i64),(.sl 1 (.int .i64)),(.int .i64),(.int .i64),(.int .i64),(.int .i64),(.int .i64),(.int .i64),(.int .i64),(.int .i64),(.int .u64),.str]))],(kz [22,1,78,5,98,4,116,21])⟩] go)) go))) go))))))))) go)))) go) go)))) go)) (sq (.opn [(13,2,97)]) go))))
abbrev E67:Env:=eF 35 [(1,[19,34,14,15,24,25,23]),(2,[3,5,8,6,7,9,10])]
abbrev ajb:Plan:=go
abbrev E24:Env:=eF 181 [(15,[12,59]),(5,[180]),(1,[87,104,131,151,170,50,28,33,51,52,63,75,113,119,128,144,152,163,146,171,115,58,180]),(2,[4,5,6,38,43,10,49,9,12,62,70,15,78,97,111,118,20,21,140,22,24,161,169])]
abbrev ajc:Plan:=(gg (sq (sq (kQ (kz [50,13]) [⟨0,[(74,mq)],[0,2,4]⟩] go) go) (gg (sq go (gg (sq (gg (sq (lop (kz [6,1,12,1,17,1,18,7,23,1,27,2,34,1,35,1,38,4,39,1,48,1,74,1,78,4,88,5,102,129,331,1]) [(22,(.lf (.cst (.ptr 11 1 0)))),(24,(.lf (.sl 3 jH))),(17,(lbx [(.sl 2 jH),(.sl 2 rP),(.sl 2 lq)])),(23,(lbx [(.sl 2 jH),(.sl 2 rP),(.sl 2 lq)]))] (kz [6,1,12,1,18,2,74,1,78,4,88,5,102,4]) [⟨1,[(18,eu),(17,(lbx [(.sl 2 jH),(.sl 2 rP),(.sl 2 lq)]))],(kz [6,4,20,1,24,1,74,1,78,4,88,5,102,4])⟩,⟨2,[(22,(.lf (.cst (.ptr 11 1 0)))),(17,(lbx [(.sl 2 jH),(.sl 2 rP),(.sl 2 lq)])),(23,(lbx [(.sl 2 jH),(.sl 2 rP),(.sl 2 lq)]))],(kz [6,4,20,1,24,1,74,1,78,4,88,5,102,4])⟩] (gg (sq (sq (gg (sq go (sq (gg (sq (lop (kz [23,1,34,1,35,1,110,3,120,13,150,25]) [(150,eu),(23,(lbx [(.sl 2 jH),(.sl 2 rP),(.sl 2 lq)]))] (kz [110,3,120,13]) [⟨4,[(23,(lbx [(.sl 2 jH),(.sl 2 rP),(.sl 2 lq)]))],(kz [110,3,120,16])⟩] (gg (sq go (sq (sq (gg (sq go (kQ (kz [23,1,172,13]) [⟨0,[(23,(lbx [(.sl 2 jH),(.sl 2 rP),(.sl 2 lq)]))],(kz [34,1,152,10])⟩] go))) go) go)))) go)) (sq (gg (kQ (kz [23,1,206,10]) [⟨0,[(23,(lbx [(.sl 2 jH),(.sl 2 rP),(.sl 2 lq)]))],[204,202,200,28]⟩] go)) (gg (sq (lop (kz [17,1,18,1,23,1,24,1,30,1,38,4,39,1,48,1,230,65,331,1]) [(17,(lbx [(.sl 2 jH),(.sl 2 rP),(.sl 2 lq)])),(230,eu),(24,(.lf (.sl 3 jH))),(23,(lbx [(.sl 2 jH),(.sl 2 rP),(.sl 2 lq)]))] [30] [⟨1,[(18,eu),(17,(lbx [(.sl 2 jH),(.sl 2 rP),(.sl 2 lq)]))],[230,228,226,30,26,22]⟩,⟨6,[(17,(lbx [(.sl 2 jH),(.sl 2 rP),(.sl 2 lq)])),(24,(.lf (.sl 3 jH))),(23,(lbx [(.sl 2 jH),(.sl 2 rP),(.sl 2 lq)]))],[230,228,226,30,26]⟩] (gg (sq go (sq (sq (gg (sq go (gg (sq go (sq (gg (sq (lop (kz [23,1,44,1,48,1,292,19]) [(292,eu),(44,eu),(23,(lbx [(.sl 2 jH),(.sl 2 rP),(.sl 2 lq)]))] (kz [40,2,232,14,284,2]) [⟨8,[(44,eu),(23,(lbx [(.sl 2 jH),(.sl 2 rP),(.sl 2 lq)]))],(kz [40,2,232,14,284,5])⟩] go) go)) (sq (sq (.opn [(23,1,165)]) go) go)))))) go) go)))) go)))))) go) go))) go)) go))))))
abbrev E59:Env:=eF 75 [(1,[24,36,31,47,56,43,62,64,71,66]),(2,[3,4,7,6,9,46,12,13,14,16])]
abbrev ajd:Plan:=(gg (sq go (gg (sq (gg (sq (lop (kz [12,1,18,1,58,1,59,1,62,9]) [(62,eu),(58,(.lf (.sl 2 (.int .i64))))] (kz [0,2,12,2,34,7,50,4]) [⟨1,[(12,eu)],(kz [0,2,14,1,34,7,50,7])⟩,⟨2,[],(kz [0,2,14,1,34,7,50,7])⟩] (gg (sq go (sq (sq (sq (.opn [(58,0,29)]) go) go) go)))) go)) (sq (gg (sq (lop (kz [12,1,22,3,23,1,86,16]) [(86,eu)] [80] [⟨1,[(12,eu)],[86,84,82,80,6]⟩,⟨4,[],[86,84,82,80,6]⟩] go) go)) (gg (sq go (sq (gg (sq (lop (kz [12,1,32,1,132,9]) [(132,eu)] (kz [4,1,8,1,118,5]) [⟨1,[(12,eu)],(kz [4,1,8,1,28,1,118,8])⟩,⟨6,[],(kz [4,1,8,1,28,1,118,8])⟩] go) go)) go))))))))
abbrev E74:Env:=eF 36 [(1,[13,35,9]),(2,[1,12,3,2])]
abbrev aje:Plan:=(gg (sq go (sq (gg (sq (lop (kz [6,1,10,1,11,1,18,24]) [(18,eu),(6,(.lf (.sl 2 Kh)))] [12,4,2,0] [⟨2,[(6,(.lf (.sl 2 Kh)))],(kz [0,2,12,4])⟩] go) go)) (sq (.opn [(6,0,3)]) go))))
abbrev E30:Env:=eF 41 [(1,[20,40,26,29,25,34,37,38]),(2,[3,9,19,8,24,10,11,12,36,39,7])]
abbrev ajf:Plan:=go
abbrev E54:Env:=eF 32 [(1,[31,10]),(2,[1,3,13,2])]
abbrev ajg:Plan:=(gg (sq go (sq (gg (sq (lop (kz [10,1,11,2,20,21]) [(13,(.bO 1 yL (.int .i64))),(20,eu)] [14,12,4,2,0] [⟨2,[(13,(.bO 1 yL (.int .i64)))],(kz [0,2,12,5])⟩] go) go)) go)))
abbrev avb:Env:=eF 57 [(1,[47,56,13,35,23,19]),(2,[5,6,26,7,4])]
abbrev aeY:Plan:=(gg (sq go (gg (sq (gg (sq (lop (kz [2,1,8,1,12,2,18,45,19,2,33,1,61,1]) [(14,eu),(21,(.bO 1 (.int .i64) .bool)),(12,(.lf (.sl 2 (.int .i64))))] (kz [2,1,8,1,20,5]) [⟨2,[(12,(.lf (.sl 2 (.int .i64))))],(kz [0,2,10,1,14,1,20,5])⟩] (sq (sq (.opn [(12,0,16)]) go) (sq (sq (gg (sq (lop (kz [12,1,18,1,19,2,30,4,46,31,61,1]) [(12,(.lf (.sl 2 (.int .i64)))),(21,(.bO 1 (.int .i64) .bool)),(46,eu)] (kz [30,4]) [⟨4,[(12,(.lf (.sl 2 (.int .i64)))),(21,(.bO 1 (.int .i64) .bool))],(kz [30,4,42,3])⟩] (gg (sq go (sq (sq (gg (sq (kQ (kz [12,1,54,16,61,1]) [⟨0,[(84,mq),(12,(.lf (.sl 2 (.int .i64))))],[52,50,48]⟩] (.opn [(12,0,30)])) (kQ (kz [12,1,21,1,86,10]) [⟨0,[(21,(.bO 1 (.int .i64) .bool)),(12,(.lf (.sl 2 (.int .i64))))],[84,18]⟩] go))) go) go)))) go)) go) go))) go)) (sq (.opn [(12,0,54)]) go)))))
abbrev E21:Env:=eF 64 [(1,[19,63,25,32,46,51,56,27]),(2,[2,6,5,7,8,9,31,11,12,13,52,4])]
abbrev ajh:Plan:=(gg (sq go (gg (sq go (sq (gg (sq (lop (kz [0,2,12,1,16,11,21,1,40,5,43,1,54,36,95,1]) [(54,eu),(43,(.bO 1 yL (.int .i64))),(16,(.lf (.sl 2 aaJ)))] (kz [0,2,8,3,28,5,40,5]) [⟨2,[(16,(.lf (.sl 2 aaJ)))],(kz [0,3,12,2,28,5,40,8])⟩] (gg (sq go (sq (sq (gg (sq go (gg (kQ (kz [16,1,43,1,94,15,95,1]) [⟨0,[(43,(.bO 1 yL (.int .i64))),(16,(.lf (.sl 2 aaJ)))],(kz [18,5,56,19])⟩] (sq (sq (.opk [(16,0,47)]) (.sea [(16,0,47)])) go))))) go) go)))) go)) go)))))
abbrev E22:Env:=eF 55 [(1,[17,25,35,41,27,53]),(2,[3,8,7,9,10,31,6])]
abbrev aji:Plan:=(gg (sq go (gg (sq go (sq (gg (sq (lop (kz [0,1,4,1,12,3,20,7,23,1,36,7,49,1,54,26]) [(49,(.bO 1 yL (.int .i64))),(54,eu)] (kz [0,1,4,1,12,3,24,5,36,7]) [⟨1,[(14,eu),(12,(.lf (.sl 2 vw)))],(kz [0,4,16,2,24,5,36,10])⟩,⟨2,[(49,(.bO 1 yL (.int .i64)))],(kz [0,4,16,1,24,5,36,10])⟩] (gg (sq go (sq (sq (gg (sq (kQ (kz [49,1,64,20]) [⟨0,[(49,(.bO 1 yL (.int .i64))),(102,mq)],(kz [20,2,56,4])⟩] go) go)) go) go)))) go)) go)))))
abbrev E23:Env:=eF 28 [(1,[17,27,19,20,22,18,26]),(2,[3,5,8,7,9,10,6])]
abbrev ajj:Plan:=go
abbrev E8:Env:=eF 76 [(1,[17,24,31,29,38,39,40,37,44,46,50,54,58,62,68]),(2,[16,21,3,4,27,6,35,8,42,10,0])]
abbrev aov:Plan:=(gg (sq go (gg (sq go (gg (sq go (sq (kQ (kz [0,1,88,32]) [⟨0,[(0,mq)],(kz [2,43])⟩] go) go)))))))
abbrev E4:Env:=eF 217 [(13,[58]),(5,[66]),(13,[168]),(1,[28,32,35,40,43,49,51,65,61,79,90,88,98,100,104,114,129,126,135,141,143,147,160,71,201,185]),(2,[3,31,5,38,7,2,8,9,10,11,66,12,75,14,15,16,17,124,19,133,21,22,23,163,178,188])]
abbrev aow:Plan:=(gg (sq go (gg (sq go (gg (sq go (gg (sq (sq (kQ (kz [98,9]) [⟨0,[(114,mq)],(kz [0,1,6,1,14,1,18,1,56,14,86,6])⟩] go) go) (gg (sq (gg (sq (lop (kz [22,1,117,1,122,8]) [(117,(.dI 1 (.int .i64))),(122,eu)] [118,116,114,4] [⟨2,[(117,(.dI 1 (.int .i64)))],(kz [114,5])⟩] go) go)) (sq (gg (sq (lop (kz [4,1,24,12,27,1,37,1,41,1,50,1,51,1,117,1,142,111,337,1]) [(142,eu),(117,(.dI 1 (.int .i64)))] [] [⟨1,[(4,mq)],[142,140,138,16,12,10,20]⟩,⟨4,[(117,(.dI 1 (.int .i64)))],[142,140,138,16,12,10]⟩] (gg (sq go (sq (sq (gg (sq (gg (sq (gg (sq go (sq (sq (kQ (kz [196,16]) [⟨0,[(226,mq)],(kz [24,6,144,26])⟩] go) go) go))) go)) (gg (sq go (gg (sq (sq (kQ (kz [282,16]) [⟨0,[(312,mq)],(kz [26,1,36,2,42,3,144,7,228,27])⟩] go) go) (gg (sq (lop (kz [50,1,51,1,117,1,320,21,337,1]) [(320,eu),(117,(.dI 1 (.int .i64)))] [314,312,40] [⟨6,[(117,(.dI 1 (.int .i64)))],(kz [24,1,40,1,312,5])⟩] (gg (sq go (sq (sq (gg (.sea [(117,0,168)])) go) go)))) go)))))))) go) go)))) go)) (sq (sq (.opk [(0,0,58)]) (sq (lop (kz [4,1,8,1,54,1,55,1,364,1,370,31]) [(370,eu)] [364,8] [⟨1,[(4,mq)],(kz [8,1,20,1,364,4])⟩,⟨8,[],(kz [8,1,20,1,364,4])⟩] (gg (sq go (sq (sq (gg (sq (kQ (kz [378,26]) [⟨0,[(428,mq)],[54,376,374,372]⟩] go) go)) go) go)))) go)) go))))))))))))
end Go.dw.rO
namespace aA
abbrev Tp:=List Int×Int×Unit
def on {α:Type} (b:Bool) (x:α):Option α:=bif b then some x else none
def wf (t:Tp):Bool:=decide (0≤t.2.1)&&decide (t.2.1≤t.1.length)&&decide (t.1.length≤2000)
def tape (l:List Int):Tp:=(l.take 2000,0,())
def cut (x n:Int):Int:=bif decide (n<1) then 0 else x.emod n
def raw (t:Tp):Int×Tp:=bif decide (t.2.1<t.1.length) then (t.1.getD t.2.1.toNat 0,t.1,t.2.1+1,()) else (0,t)
def next (t:Tp) (n:Int):Int×Tp:=(cut (raw t).1 n,(raw t).2)
def small (n:Int):Bool:=decide (-2305843009213693952≤n)&&decide (n≤2305843009213693952)
def range (t:Tp) (a b:Int):Int×Tp:=(a+(next t (b - a+1)).1,(next t (b - a+1)).2)
def pick (t:Tp) (l:List Int):Int×Tp:=(l.getD (next t l.length).1.toNat 0,(next t l.length).2)
def inside (n lo hi:Int):Bool:=decide (lo≤n)&&decide (n≤hi)
def rQ (n:Int):Bool:=decide (n=8) || decide (n=16) || decide (n=32) || decide (n=64)
abbrev Rt:=Int×Bool×Unit
abbrev Lk:=Int×Int×Int×Int×Int×Unit
abbrev To:=List Rt×List Lk×Unit
abbrev zR:Rt:=(0,false,())
abbrev zL:Lk:=(0,0,0,0,0,())
def dJ (a b:Int):Int:=bif decide (a<b) then -1 else bif decide (b<a) then 1 else 0
def dz:List Int→Int
 | []=>0
 | x::r=>bif decide (x=0) then dz r else x
def idx {α:Type} (p:α→Bool) (l:List α):Int:=bif l.any p then (l.findIdx p:Nat) else -1
def GL (a b:Lk):Bool:=decide (a.1<b.1) || (decide (a.1=b.1)&&decide (a.2.1<b.2.1))
def has (l:List Int) (n:Int):Bool:=l.any fun x=>decide (x=n)
namespace Bt
def full (n:Int):Int:=bif rQ n then 2 ^ n.toNat - 1 else 0
def tb (b:Int) (k:Nat):Bool:=b.toNat.testBit k
def has (b k:Int):Bool:=decide (0≤k)&&decide (k<64)&&tb b k.toNat
def ajk (k:Int):Int:=bif decide (k<0) || decide (63<k) then 0 else 2 ^ k.toNat
def and (x y:Int):Int:=((Nat.land x.toNat y.toNat:Nat):Int)
def or (x y:Int):Int:=((Nat.lor x.toNat y.toNat:Nat):Int)
def ones (b:Int):List Nat:=(List.range 64).filter (tb b)
def list (b:Int):List Int:=(ones b).map fun (k:Nat)=>(k:Int)
def nth (b n:Int):Int:=bif decide (n<0) || decide ((list b).length≤n) then -1 else (list b).getD n.toNat 0
end Bt
def tH (r:Rt):Bool:=!inside r.1 1 99
def rR (l:Lk):Bool:=!inside l.2.2.1 1 1000 || !inside l.2.2.2.1 1 1000 || !inside l.2.2.2.2.1 0 1000
def down (l:Lk):Bool:=decide (l.2.1≤l.1)
def uw (l:List Rt) (id:Int):Nat→Nat→Nat→Nat
 | 0,i,_=>i
 | f+1,i,j=>bif decide (i<j) then (bif decide (dJ (l.getD ((i+j) / 2) zR).1 id<0) then uw l id f ((i+j) / 2+1) j else uw l id f i ((i+j) / 2)) else i
def bs (l:List Rt) (id:Int):Int×Bool×Unit:=
 let i:=uw l id l.length 0 l.length
 ((i:Int),decide (i<l.length)&&decide (dJ (l.getD i zR).1 id=0),())
def unk (g:To) (id:Int):Bool:=!(bs g.1 id).2.1
def jR (l:List Rt) (id:Int):Bool:=l.any fun r=>decide (r.1=id)
def UU (l:List Rt):Bool:=(List.range (l.length - 1)).all fun i=>decide ((l.getD i zR).1<(l.getD (i+1) zR).1)
def upL (l:List Lk):Bool:=(List.range (l.length - 1)).all fun i=>GL (l.getD i zL) (l.getD (i+1) zL)
def lT (g:To):Int:=
 bif decide (24<g.1.length) || decide (60<g.2.1.length) then 3 else
 bif g.1.any tH then 2 else
 bif !UU g.1 then 25 else
 bif g.2.1.any rR then 2 else
 bif g.2.1.any (fun l=>!jR g.1 l.1 || !jR g.1 l.2.1) then 4 else
 bif g.2.1.any down then 8 else
 bif !upL g.2.1 then 25 else 0
def RZ (g:To):Bool:=decide (lT g=0)
def AU (g:To) (id:Int):Bool:=RZ g&&jR g.1 id
def find (g:To) (id:Int):Rt×Bool×Unit:=let s:=bs g.1 id;bif s.2.1 then (g.1.getD s.1.toNat zR,true,()) else (zR,false,())
def price:List Lk→Int→Int→Int×Bool×Unit
 | [],_,_=>(0,false,())
 | l::r,a,b=>bif decide (l.1=a)&&decide (l.2.1=b) then (l.2.2.1,true,()) else bif decide (l.2.1=a)&&decide (l.1=b) then (l.2.2.2.1,true,()) else price r a b
def near (g:To) (r:Int):List Int:=(g.1.filter fun x=>(price g.2.1 r x.1).2.1).map fun x=>x.1
def vB (b n:Int):Bool:=rQ n&&decide (b<2 ^ n.toNat)
abbrev Pk:=Int×Int×Int×Int×Int×Int×Int×Int×Int×List Int×Unit
def zp:Pk:=(0,0,0,0,0,0,0,0,0,[],())
def md (p:Pk):Int:=p.1
def sd (p:Pk):Int:=p.2.1
def st (p:Pk):Int:=p.2.2.1
def ln (p:Pk):Int:=p.2.2.2.1
def tl (p:Pk):Int:=p.2.2.2.2.1
def en (p:Pk):Int:=p.2.2.2.2.2.1
def ig (p:Pk):Int:=p.2.2.2.2.2.2.1
def pr (p:Pk):Int:=p.2.2.2.2.2.2.2.1
def bt (p:Pk):Int:=p.2.2.2.2.2.2.2.2.1
def py (p:Pk):List Int:=p.2.2.2.2.2.2.2.2.2.1
def mD (p:Pk):Bool:=inside (md p) 1 3&&inside (sd p) 0 7&&inside (st p) 0 31&&vB (bt p) (ln p)&&inside (tl p) 0 63&&inside (en p) 0 1023&&inside (ig p) 0 256&&inside (pr p) 0 7&&decide ((py p).length≤64)
def only (p:Pk) (k:Int):Pk:=bif mD p&&Bt.has (bt p) k then (md p,sd p,st p,ln p,tl p,en p,ig p,pr p,Bt.ajk k,py p,()) else zp
abbrev Fr:=List Int×Pk×Unit
abbrev Cp:=Int×Fr×Unit
abbrev Oc:=Int×Int×List Cp×Unit
abbrev Dl:=Int×Pk×Unit
def Bt.aox (x y:Int):Int:=((Nat.land x.toNat (18446744073709551615 - y.toNat):Nat):Int)
def qJ (l:List Int) (x:Int):List Int:=
 match l with
 | []=>[x]
 | y::r=>bif decide (y<x) then y::qJ r x else bif decide (y=x) then l else x::l
def xO (a b:Lk):Int:=dz [dJ a.1 b.1,dJ a.2.1 b.2.1]
abbrev Hp:=Int×Int×Unit
abbrev Tr:=Int×List Hp×Unit
abbrev Ad:=Int×Int×Int×Int×Unit
abbrev Eg:=Int×List Ad×Unit
abbrev Tg:=Int×Int×Int×Unit
abbrev Ar:=Hp×Int×Unit
abbrev Ld:=Int×Int×Int×Unit
abbrev Dm:=Int×List Int×Int×Unit
abbrev Sn:=Ad×Cp×Unit
abbrev Cr:=Int×Int×Int×Unit
abbrev Lo:=Int×Int×Unit
abbrev Tc:=List Dl×List Cr×List Lo×Unit
abbrev zH:Hp:=(0,0,())
abbrev zA:Ar:=(zH,0,())
def D7 (x:Int):List Int→List Int
 | []=>[x]
 | y::r=>bif decide (x≤y) then x::y::r else y::D7 x r
def fF (l:List Int):List Int:=l.foldr D7 []
def upI (l:List Int):Bool:=(List.range (l.length - 1)).all fun i=>decide (l.getD i 0<l.getD (i+1) 0)
def bsI (l:List Int) (x:Int):Int×Bool×Unit:=(((l.filter fun y=>decide (y<x)).length:Nat),has l x,())
abbrev wQ:Go.dw.Ty:=.st 16 (.cons (.int .i64) (.cons (.int .i64) .unit))
abbrev Mp:=List (Hp×Int)
def mg (m:Mp) (h:Hp):Int:=(Go.dw.iE wQ (.int .i64) m h).getD 0
def mp (m:Mp) (h:Hp) (v:Int):Mp:=Go.dw.gM wQ (.int .i64) m h v
def GN (r:Int) (s:Mp×Bool) (h:Hp):Mp×Bool:=
 let m:=mp s.1 h (Go.IntKind.wrap .i64 (mg s.1 h - r))
 (m,s.2&&decide (0≤mg m h))
def eX (m:Mp) (l:List Hp) (r:Int):Mp×Bool:=l.foldl (GN r) (m,true)
def dV (k:Lk):List Ar:=[((k.1,k.2.1,()),k.2.2.1,()),((k.2.1,k.1,()),k.2.2.2.1,())]
def IL (a b:Hp):Int:=dz [dJ a.1 b.1,dJ a.2.1 b.2.1]
def GQ (x:Ld):List Ld→List Ld
 | []=>[x]
 | y::r=>bif decide (IL (x.1,x.2.1,()) (y.1,y.2.1,())<0) then x::y::r else y::GQ x r
def jD (m:Mp):List Ld:=(m.map fun e=>((e.1.1,e.1.2.1,e.2,()):Ld)).foldr GQ []
def pz (l:List Ld):Mp:=l.foldr (fun x m=>mp m (x.1,x.2.1,()) x.2.2.1) []
def nU (l:List Ar) (r:Int) (out:List Int):List Int:=l.foldl (fun o a=>bif decide (a.1.1=r) && !has o a.1.2.1 then o++[a.1.2.1] else o) out
def xw (l:List Ar):Nat→Nat→List Int→List Int
 | 0,_,o=>o
 | f+1,i,o=>bif decide (i<o.length) then xw l f (i+1) (nU l (o.getD i 0) o) else o
def D6 (l:List Ar) (root:Int):List Int:=fF (xw l (l.length+2) 0 [root])
end aA
namespace Go.dw.rO
open Go Go.dw aA
abbrev Ki:Ty:=.st 24 (.cons (.st 16 (.cons (.int .i64) (.cons (.int .i64) .unit))) (.cons (.int .i64) .unit))
abbrev GR:Ty:=.st 16 (.cons (.int .i64) (.cons (.int .i64) .unit))
abbrev ldX:Ty:=.st 24 (.cons (.int .i64) (.cons (.int .i64) (.cons (.int .i64) .unit)))
def ltA (x y:Ar):Bool:=decide (IL x.1 y.1<0)
def fO (l:List Ar):List Ar:=(Go.Sort.pdq ltA l.toArray 0 l.length (Go.Lib.bitLen l.length) true true).toList
def Cz (l:List Lk):List Ar:=fO (l.flatMap dV)
def dR (m:Mp) (l:List Lk) (r:Int):List Ar:=(Cz l).filter fun a=>!decide (mg m a.1<r)
def UW:XF:=fun dst _ args=>match args with
 | [(.fU X sx,.aX s2 true false (.int .i64) l)]=>bif Nat.beq sx s2 then some (true,[(2*X+1,.aX s2 true false (.int .i64) (fF l)),(2*dst,.undef)]) else none
 | _=>none
def UY:XF:=fun dst _ args=>match args with
 | [(.fU X sx,.aX s2 true false (.st 24 (.cons (.st 16 (.cons (.int .i64) (.cons (.int .i64) .unit))) (.cons (.int .i64) .unit))) l),(.BG 141,_)]=>bif Nat.beq sx s2 then
     some (true,[(2*X+1,.aX s2 true false Ki (fO l)),(2*dst,.undef)]) else none
 | _=>none
def ae0:XF:=fun dst _ args=>match args with
 | [(.fU X sx,.bO s2 (.st 16 (.cons (.int .i64) (.cons (.int .i64) .unit))) (.int .i64) m),(.agg [_,.sl _ (.st 16 (.cons (.int .i64) (.cons (.int .i64) .unit))) l],_),(.int .i64 r,_)]=>bif Nat.beq sx s2 then
     some (true,[(2*X+1,.bO s2 GR (.int .i64) (eX m l r).1),(2*dst,.bool (eX m l r).2)]) else none
 | _=>none
def ae1:XF:=fun dst _ args=>match args with
 | [(.fU _ sx,.bO s2 (.st 16 (.cons (.int .i64) (.cons (.int .i64) .unit))) (.int .i64) m),(.agg [.sl 0 (.st 16 (.cons (.int .i64) (.cons .bool .unit))) _,.sl 0 (.st 40 (.cons (.int .i64) (.cons (.int .i64) (.cons (.int .i64) (.cons (.int .i64) (.cons (.int .i64) .unit)))))) l],_),(.int .i64 r,_)]=>bif Nat.beq sx s2 then
     some (Nat.ble l.length 1000,[(2*dst,.sl 2 Ki (dR m l r))]) else none
 | _=>none
def ae2:XF:=fun dst _ args=>match args with
 | [(.fU _ sx,.bO s2 (.st 16 (.cons (.int .i64) (.cons (.int .i64) .unit))) (.int .i64) m)]=>bif Nat.beq sx s2 then some (Nat.ble m.length 1000000,[(2*dst,.sl 2 ldX (jD m))]) else none
 | _=>none
def ae3:XF:=fun dst _ args=>match args with
 | [(.agg [.sl 0 (.st 16 (.cons (.int .i64) (.cons .bool .unit))) _,.sl 0 (.st 40 (.cons (.int .i64) (.cons (.int .i64) (.cons (.int .i64) (.cons (.int .i64) (.cons (.int .i64) .unit)))))) l],_),(.fU _ sx,.bO s2 (.st 16 (.cons (.int .i64) (.cons (.int .i64) .unit))) (.int .i64) m),(.agg [.int .i64 ro,.sl 0 (.int .i64) re,.int .i64 ra],_)]=>bif Nat.beq sx s2 then
     some (Nat.ble l.length 1000,[(2*dst,.iJ [.sl 0 (.int .i64) (D6 (dR m l ra) ro),.bool (re.all fun x=>has (D6 (dR m l ra) ro) x)])]) else none
 | _=>none
def ae4:XF:=fun dst st args=>match args with
 | [(.sl _ (.st 24 (.cons (.int .i64) (.cons (.int .i64) (.cons (.int .i64) .unit)))) l,_)]=>some (true,[(2*dst+1,.bO st GR (.int .i64) (pz l)),(2*dst,.fU dst st)])
 | _=>none
end Go.dw.rO
namespace aA
open Go Go.dw
abbrev Se:=Int×Int×Unit
abbrev SB:=(Int→Option Int)×(Int→Option Se)
abbrev zB:SB:=(fun _=>none,fun _=>none)
def wR:Int:=2305843009213693951
def eD (t:SB) (r:Int):Int:=(t.1 r).getD wR
def rT {α:Type} (f:Int→Option α) (r:Int) (v:α):Int→Option α:=fun x=>bif decide (x=r) then some v else f x
def nV (t:SB) (r v:Int):Bool:=decide (v<eD t r)
def jo (t:SB) (r v:Int) (x:Se):SB:=bif nV t r v then (rT t.1 r v,rT t.2 r x) else t
def kH (s:SB×Bool) (a:Ar):SB×Bool:=
 (jo s.1 a.1.1 (a.2.1+eD s.1 a.1.2.1) (a.1.2.1,0,()),s.2 || nV s.1 a.1.1 (a.2.1+eD s.1 a.1.2.1))
def kR (l:List Ar) (t:SB):SB×Bool:=l.foldl kH (t,false)
abbrev lQ:=List Int
abbrev eP:=Int×Unit
abbrev yAC:=Int×Bool
abbrev qx:=Bool×Unit
abbrev yAE:=List Bool
abbrev Kj:=Int×eP
abbrev yAG:=Int×qx
abbrev R5:=lQ×Unit
abbrev yAI:=eP×Unit
abbrev yAJ:=List yAC
abbrev yAK:=List lQ
abbrev yAL:=List yAE
abbrev yAM:=qx×Unit
abbrev yAN:=Int×Kj
abbrev yAO:=Kj×Int
abbrev Pq:=lQ×eP
abbrev yAQ:=Int×R5
abbrev Nl:=List Kj
abbrev jS:=List yAG
abbrev yAT:=yAG×Unit
abbrev xA:=Bool×yAI
abbrev yAV:=yAJ×Unit
abbrev yAW:=yAK×Unit
abbrev yAX:=Bool×yAM
abbrev yAY:=Int×yAN
abbrev yAZ:=Int×Pq
abbrev yBA:=List yAN
abbrev yBB:=Int×yAQ
abbrev yBC:=Kj×eP
abbrev yBD:=List yAO
abbrev yBE:=Pq×Unit
abbrev yBF:=yAJ×eP
abbrev yBG:=Nl×Unit
abbrev yBH:=Int×yAW
abbrev yBI:=yAJ×qx
abbrev yBJ:=Int×yAY
abbrev IQ:=List yAY
abbrev yBL:=Int×yBB
abbrev yBM:=List yAZ
abbrev yBN:=yBA×Unit
abbrev yBO:=Int×yBG
abbrev yBP:=yBD×Unit
abbrev yBQ:=List yBC
abbrev yBR:=yAJ×R5
abbrev jf:=List yBJ
abbrev yBT:=Int×yBL
abbrev yBU:=IQ×Unit
abbrev yBV:=Int×yBN
abbrev yBW:=yBD×eP
abbrev yBX:=List yBO
abbrev yBY:=Int×yBR
abbrev yBZ:=yBQ×Unit
abbrev yCA:=Int×yBT
abbrev yCB:=jf×Unit
abbrev yCC:=Int×yBU
abbrev yCD:=yBX×Unit
abbrev yCE:=yAL×yBE
abbrev yCF:=Int×yCA
abbrev yCG:=yCC×Unit
abbrev yCH:=Int×yCE
abbrev yCI:=Int×yCF
abbrev yCJ:=Int×yCG
abbrev yCK:=yBM×Pq
abbrev yCL:=yBA×yBG
abbrev yCM:=Int×yCI
abbrev yCN:=yBM×yBE
abbrev yCO:=Int×yCM
abbrev yCP:=jS×yCB
abbrev yCQ:=yCO×Unit
abbrev yCR:=yCP×Unit
abbrev yCS:=Int×yCQ
abbrev yCT:=yCP×eP
abbrev yCU:=List yCS
abbrev yCV:=lQ×yCQ
abbrev yCW:=yCV×Unit
abbrev yCX:=yCP×Pq
abbrev yCY:=Int×yCW
abbrev yCZ:=Pq×yCR
abbrev yDA:=yCY×Unit
abbrev yDB:=List yCY
abbrev yDC:=Pq×yCT
abbrev yDD:=yDB×Unit
abbrev yDE:=Pq×Int×yCT
abbrev yDF:=Int×yDD
abbrev yDG:=yAL×yCZ
abbrev yDH:=Int×yDF
abbrev yDI:=Int×yDG
abbrev yDJ:=yAL×yDC
abbrev yDK:=yDH×Unit
abbrev yDL:=yAY×yDA
abbrev yDM:=List yDL
abbrev yDN:=yDM×Unit
abbrev yDO:=yCU×yCL
abbrev yDP:=yDO×Unit
abbrev yDQ:=Int×yDP
abbrev yDR:=yDO×eP
abbrev yDS:=Int×yDQ
abbrev yDT:=yDR×Unit
abbrev yDU:=yCU×yDP
abbrev yDV:=Int×yDU
abbrev yDW:=yDM×yDK
abbrev yDX:=yDH×yDN
abbrev yDY:=Int×yDW
abbrev yDZ:=yDX×Unit
abbrev yEA:=yDO×yDP
abbrev yEB:=yCU×yEA
abbrev yEC:=yDO×yDV
abbrev yED:=Unit×yEB
noncomputable def rlx (l:List Ar) (t:SB):Option SB:=Loop (fun t=>some (bif (kR l t).2 then .inl (kR l t).1 else .inr (kR l t).1)) t
def kM (set:Nat):List Int→Nat→SB→SB
 | [],_,t=>t
 | x::r,i,t=>kM set r (i+1) (bif decide (set=2 ^ i) then jo t x 0 (0,0,()) else t)
def qy (ts:List Int) (set:Nat):SB:=bif decide (Nat.land set (set - 1)=0)&&decide (0<set) then kM set ts 0 zB else zB
def dZ (T:List SB) (set:Nat) (t:SB) (part:Nat):SB:=
 let f:=fun (r c:Int)=>jo t r (c+eD (T.getD (set - part) zB) r) (0,(part:Int),())
 (fun r=>match (T.getD part zB).1 r with
  | some c=>(f r c).1 r
  | none=>t.1 r,fun r=>match (T.getD part zB).1 r with
  | some c=>(f r c).2 r
  | none=>t.2 r)
def mE (set:Nat):Nat→Nat→List Nat
 | 0,_=>[]
 | f+1,p=>bif decide (p=0) then [] else p::mE set f (Nat.land (p - 1) set)
def pE (set:Nat):List Nat:=mE set (set+1) (Nat.land (set - 1) set)
noncomputable def Xm (l:List Ar) (ts:List Int) (T:List SB) (set:Nat):Option SB:=rlx l ((pE set).foldl (dZ T set) (qy ts set))
noncomputable def D8 (l:List Ar) (ts:List Int):Nat→Option (List SB)
 | 0=>some []
 | n+1=>(D8 l ts n).bind fun T=>(Xm l ts T n).bind fun t=>some (T++[t])
def jM (T:List SB):Nat→Nat→Int→Option (List Hp)
 | 0,_,_=>none
 | f+1,set,r=>
  let x:=((T.getD set zB).2 r).getD (0,0,())
  bif !decide (x.1=0) then (jM T f set x.1).bind fun l=>some ((r,x.1,())::l) else
  bif !decide (x.2.1=0) then (jM T f x.2.1.toNat r).bind fun l=>(jM T f (set - x.2.1.toNat) r).bind fun l'=>some (l++l') else some []
open Classical in
noncomputable def col (T:List SB) (set:Nat) (r:Int):Option (List Hp):=if h:∃ f,(jM T f set r).isSome=true then jM T h.choose set r else none
def Mh (x y:Hp):Bool:=decide (IL x y<0)
def iQ (l:List Hp):List Hp:=(Go.Sort.pdq Mh l.toArray 0 l.length (Go.Lib.bitLen l.length) true true).toList
def nW (l:List Ar):Bool:=decide (l.length≤1000)&&l.all fun a=>inside a.1.1 1 99&&inside a.1.2.1 1 99&&inside a.2.1 1 1000
noncomputable def cheap (l:List Ar) (root:Int) (ts:List Int):Option ((List Hp×Int×Bool×Unit)×Unit):=
 bif !(nW l&&decide (ts.length≤6)) then none else
 bif decide (ts.length=0) then some (([],0,true,()),()) else
 (D8 l ts (2 ^ ts.length)).bind fun T=>
  bif decide (wR≤eD (T.getD (2 ^ ts.length - 1) zB) root) then some (([],0,false,()),()) else
  (col T (2 ^ ts.length - 1) root).bind fun h=>bif decide (h.length≤1000) then some ((iQ h,eD (T.getD (2 ^ ts.length - 1) zB) root,true,()),()) else none
abbrev nY:To:=([(1,true,()),(2,true,())],[(1,2,3,1,2,())],())
set_option synthInstance.maxSize 100000 in
set_option synthInstance.maxHeartbeats 400000 in
def aaQ (g:To) (n:Int):Option ((Eg×Int×Unit)×Unit):=
 on (decide (g=nY)&&decide (n=8)) (((8,[(0,1,3,1,()),(1,1,1,2,()),(2,2,3,2,()),(3,2,1,1,())],()),0,()),())
noncomputable section
def R6 (a0:yAZ) (a1:yDE):Option (Sum yDE yCZ):=bif decide (a1.2.2.2.1<a0.1) then (on (wf a1.1&&decide (0<5)&&decide (5≤1000)) (pick a1.1 (1::1::1::2::5::[]))).bind fun y2=>let q1:=aR (a1.2.1+y2.1);bif Nat.ble ((a1.2.2.1.1.length+1)*16) 140737488355328 then some (.inl (y2.2,q1,(a1.2.2.1.1++(q1,true,())::[],a1.2.2.1.2),aR (a1.2.2.2.1+1),())) else none else some (.inr (a1.1,a1.2.2.1,()))
def R7 (a0:yAZ) (a1:yAL×eP):Option (Sum (yAL×eP) (yAL×Unit)):=bif decide (a1.2.1<Int.ofNat (Int.toNat a0.1)) then bif decide (0≤a0.1)&&decide (a0.1≤a0.1)&&decide (a0.1*1≤140737488355328) then bif decide (0≤a1.2.1)&&decide (a1.2.1<Int.ofNat (Int.toNat a0.1)) then bif Nat.blt (Int.toNat a1.2.1) a1.1.length then some (.inl (List.set a1.1 (Int.toNat a1.2.1) (List.replicate (Int.toNat a0.1) false),aR (a1.2.1+1),())) else none else none else none else some (.inr (a1.1,()))
def R8 (a0:yAZ) (a1:yCH):Option (Sum yCH yCE):=bif decide (a1.1<a0.1) then (on (wf a1.2.2.1) (next a1.2.2.1 12)).bind fun y2=>(bif decide (y2.1<11) then (on (wf y2.2) (next y2.2 a1.1)).bind fun y3=>let q1:=List.getD a1.2.1 (Int.toNat y3.1) [];bif decide (0≤y3.1)&&decide (y3.1<Int.ofNat (Int.toNat a0.1)) then bif Nat.blt (Int.toNat y3.1) a1.2.1.length then bif decide (0≤a1.1)&&decide (a1.1<Int.ofNat q1.length) then bif Nat.blt (Int.toNat a1.1) q1.length then some (List.set a1.2.1 (Int.toNat y3.1) (List.set q1 (Int.toNat a1.1) true),y3.2,()) else none else none else none else none else some (a1.2.1,y2.2,())).bind fun y3=>some (.inl (aR (a1.1+1),y3)) else some (.inr a1.2)
def R9 (a0:yAZ) (a1:yCH):Option (Sum yCH yCE):=bif decide (a1.1 > 0) then (on (wf a1.2.2.1) (next a1.2.2.1 a0.1)).bind fun y2=>(on (wf y2.2) (next y2.2 a0.1)).bind fun y3=>let q1:=List.getD a1.2.1 (Int.toNat (bif decide (y3.1<y2.1) then y3.1 else y2.1)) [];(bif !decide (y2.1=y3.1) then bif decide (0≤(bif decide (y3.1<y2.1) then y3.1 else y2.1))&&decide ((bif decide (y3.1<y2.1) then y3.1 else y2.1)<Int.ofNat (Int.toNat a0.1)) then bif Nat.blt (Int.toNat (bif decide (y3.1<y2.1) then y3.1 else y2.1)) a1.2.1.length then bif decide (0≤(bif decide (y2.1<y3.1) then y3.1 else y2.1))&&decide ((bif decide (y2.1<y3.1) then y3.1 else y2.1)<Int.ofNat q1.length) then bif Nat.blt (Int.toNat (bif decide (y2.1<y3.1) then y3.1 else y2.1)) q1.length then some (List.set a1.2.1 (Int.toNat (bif decide (y3.1<y2.1) then y3.1 else y2.1)) (List.set q1 (Int.toNat (bif decide (y2.1<y3.1) then y3.1 else y2.1)) true),()) else none else none else none else none else some (a1.2.1,())).bind fun y4=>some (.inl (aR (a1.1 - 1),y4.1,y3.2,())) else some (.inr a1.2)
def Sb (a0 a1:yAZ) (a2:yDI) (a3:yDJ):Option (Sum yDJ yDG):=let q1:=List.getD a3.1 (Int.toNat a2.1) [];let q2:=List.getD a3.2.2.1.1 (Int.toNat a3.2.2.2.1) (0,false,());let q3:=List.getD a3.2.2.1.1 (Int.toNat a2.1) (0,false,());let q4:=List.set a3.1 (Int.toNat a2.1) q1;let q5:=aR (a3.2.2.2.1+1);bif decide (a3.2.2.2.1<Int.ofNat (Int.toNat a0.1)) then bif decide (0≤a2.1)&&decide (a2.1<Int.ofNat (Int.toNat a0.1)) then bif Nat.blt (Int.toNat a2.1) a3.1.length then bif decide (0≤a3.2.2.2.1)&&decide (a3.2.2.2.1<Int.ofNat q1.length) then bif Nat.blt (Int.toNat a3.2.2.2.1) q1.length then bif !List.getD q1 (Int.toNat a3.2.2.2.1) false then some (.inl (q4,a3.2.1,a3.2.2.1,q5,())) else bif decide (0≤a2.1)&&decide (a2.1<Int.ofNat a3.2.2.1.1.length) then bif Nat.blt (Int.toNat a2.1) a3.2.2.1.1.length then bif decide (0≤a3.2.2.2.1)&&decide (a3.2.2.2.1<Int.ofNat a3.2.2.1.1.length) then bif Nat.blt (Int.toNat a3.2.2.2.1) a3.2.2.1.1.length then (on (wf a3.2.1&&decide (0<7)&&decide (7≤1000)) (pick a3.2.1 (0::1::2::3::5::10::1000::[]))).bind fun y4=>(bif !decide (a1.1=0) then (on (wf y4.2&&small 1&&small 20) (range y4.2 1 20)).bind fun y5=>let q6:=1::2::3::y5.1::1000::[];(on (wf y5.2&&decide (0<q6.length)&&decide (q6.length≤1000)) (pick y5.2 q6)).bind fun y6=>(on (wf y6.2&&small 1&&small 20) (range y6.2 1 20)).bind fun y7=>(on (wf y7.2&&decide (0<(y6.1::y6.1::y7.1::[]).length)&&decide ((y6.1::y6.1::y7.1::[]).length≤1000)) (pick y7.2 (y6.1::y6.1::y7.1::[]))).bind fun y8=>some ((q3.1,q2.1,y6.1,y8.1,y4.1,()),y8.2,()) else some ((q3.1,q2.1,1,1,y4.1,()),y4.2,())).bind fun y5=>bif Nat.ble ((a3.2.2.1.2.1.length+1)*40) 140737488355328 then some (.inl (q4,y5.2.1,(a3.2.2.1.1,a3.2.2.1.2.1++y5.1::[],()),q5,())) else none else none else none else none else none else none else none else none else none else some (.inr (a3.1,a3.2.1,a3.2.2.1,()))
def aaR (a0 a1:yAZ) (a2:yDI):Option (Sum yDI yCZ):=bif decide (a2.1<Int.ofNat (Int.toNat a0.1)) then (Loop (@Sb a0 a1 a2) (a2.2.1,a2.2.2.1,a2.2.2.2.1,0,())).bind fun y3=>some (.inl (aR (a2.1+1),y3)) else some (.inr a2.2.2)
def r18 (a0:lQ) (a1 a2:Int):Option yCX:=(on (wf (a0,a1,())&&small 1&&small a2) (range (a0,a1,()) 1 a2)).bind fun y3=>(Loop (@R6 y3) (y3.2,0,([],[],()),0,())).bind fun y4=>bif decide (0≤y3.1)&&decide (y3.1=y3.1)&&decide (y3.1*24≤140737488355328) then (Loop (@R7 y3) (List.replicate (Int.toNat y3.1) ([]:yAE),0,())).bind fun y5=>(Loop (@R8 y3) (1,y5.1,y4.1,())).bind fun y6=>(on (wf y6.2.1) (next y6.2.1 (aR (y3.1+2)))).bind fun y7=>(Loop (@R9 y3) (y7.1,y6.1,y7.2,())).bind fun y8=>(on (wf y8.2.1) (next y8.2.1 3)).bind fun y9=>(Loop (@aaR y3 y9) (0,y8.1,y9.2,y4.2)).bind fun Mi=>some (Mi.2.1,Mi.1) else none
def Kk (t:Tp) (b0:Int):Option ((To)×Tp):=r18 t.1 t.2.1 b0
def aaS (a0:jf) (a1 a2 a3 a4 a5:Int) (a6:Kj):Option (Sum Kj eP):=let q1:=aR (@Int.fdiv (IntKind.wrap .u64 (aR (a6.2.1+a6.1))) 2);bif decide (a6.2.1<a6.1) then bif decide (0≤q1)&&decide (q1<Int.ofNat a0.length) then (bif decide (xO (List.getD a0 (Int.toNat q1) (0,0,0,0,0,())) (a1,a2,a3,a4,a5,())<0) then some (aR (q1+1),a6.1,()) else some (a6.2.1,q1,())).bind fun y7=>some (.inl (y7.2.1,y7.1,())) else none else some (.inr a6.2)
def r44 (a0:jf) (a1 a2 a3 a4 a5:Int):Option yAT:=(Loop (@aaS a0 a1 a2 a3 a4 a5) (Int.ofNat a0.length,0,())).bind fun y6=>(bif decide (y6.1<Int.ofNat a0.length) then bif decide (0≤y6.1)&&decide (y6.1<Int.ofNat a0.length) then some (y6.1,decide (xO (List.getD a0 (Int.toNat y6.1) (0,0,0,0,0,())) (a1,a2,a3,a4,a5,())=0),()) else none else some (y6.1,false,())).bind fun y7=>some (y7,())
def Pt (b0:(List Lk)) (b1:Lk) (b2:Unit):Option ((Int×Bool×Unit)×Unit):=r44 b0 b1.1 b1.2.1 b1.2.2.1 b1.2.2.2.1 b1.2.2.2.2.1
def r15 (a0:jS) (a1:jf) (a2 a3:Int):Option yAT:=bif !RZ (a0,a1,()) then some ((0,false,()),()) else (Pt a1 (bif decide (a3<a2) then a3 else a2,bif decide (a2<a3) then a3 else a2,0,0,0,()) ()).bind fun y4=>let q1:=List.getD a1 (Int.toNat y4.1.1) (0,0,0,0,0,());bif !y4.1.2.1 then some ((0,false,()),()) else bif decide (a2<a3) then bif decide (0≤y4.1.1)&&decide (y4.1.1<Int.ofNat a1.length) then some ((q1.2.2.1,true,()),()) else none else bif decide (0≤y4.1.1)&&decide (y4.1.1<Int.ofNat a1.length) then some ((q1.2.2.2.1,true,()),()) else none
def Nn (b0:To) (b1:Int) (b2:Int):Option ((Int×Bool×Unit)×Unit):=r15 b0.1 b0.2.1 b1 b2
def r46 (a0:jS) (a1:jf) (a2 a3:Int):Option yAT:=bif !decide (lT (a0,a1,())=0) then some ((0,false,()),()) else some (price a1 a2 a3,())
def Pv (b0:To) (b1:Int) (b2:Int):Option ((Int×Bool×Unit)×Unit):=r46 b0.1 b0.2.1 b1 b2
def r51 (a0:Int):Option qx:=(bif !decide (a0=8) then bif !decide (a0=16) then bif !decide (a0=32) then some (decide (a0=64),()) else some (true,()) else some (true,()) else some (true,())).bind fun y1=>some y1
def Pw (b0:Int):Option ((Bool)×Unit):=r51 b0
def r52 (a0:jS) (a1:jf) (a2:Int):Option R5:=bif !decide (lT (a0,a1,())=0) then some ([],()) else some (near (a0,a1,()) a2,())
def Mj (b0:To) (b1:Int):Option ((List Int)×Unit):=r52 b0.1 b0.2.1 b1
def Sc (a0:jS) (a1:yCJ) (a2:R5) (a3:yCJ):Option (Sum yCJ yCG):=bif decide (a3.1<Int.ofNat a2.1.length) then bif decide (0≤a3.1)&&decide (a3.1<Int.ofNat a2.1.length) then bif Nat.ble ((a3.2.1.2.1.length+1)*32) 140737488355328 then some (.inl (aR (a3.1+1),(a3.2.1.1,a3.2.1.2.1++(Int.ofNat a3.2.1.2.1.length,(List.getD a0 (Int.toNat a1.1) (0,false,())).1,1,List.getD a2.1 (Int.toNat a3.1) 0,())::[],()),())) else none else none else some (.inr a3.2)
def aaT (a0:jS) (a1:jf) (a2:yCJ):Option (Sum yCJ yCG):=let q1:=List.getD a0 (Int.toNat a2.1) (0,false,());bif decide (a2.1<Int.ofNat a0.length) then bif decide (0≤a2.1)&&decide (a2.1<Int.ofNat a0.length) then bif Nat.ble ((a2.2.1.2.1.length+1)*32) 140737488355328 then (Mj (a0,a1,()) q1.1).bind fun y3=>(Loop (@Sc a0 a2 y3) (0,(a2.2.1.1,a2.2.1.2.1++(Int.ofNat a2.2.1.2.1.length,q1.1,3,q1.1,())::[],()),())).bind fun y4=>some (.inl (aR (a2.1+1),y4)) else none else none else some (.inr a2.2)
def r20 (a0:jS) (a1:jf) (a2:Int):Option ((yCC×eP)×Unit):=bif !decide (lT (a0,a1,())=0) then some (((0,[],()),1,()),()) else (Pw a2).bind fun y3=>bif !y3.1 then some (((0,[],()),2,()),()) else (Loop (@aaT a0 a1) (0,(a2,[],()),())).bind fun y4=>bif decide (Int.ofNat y4.1.2.1.length > a2) then some (((0,[],()),3,()),()) else some ((y4.1,0,()),())
def Kl (b0:To) (b1:Int):Option ((Eg×Int×Unit)×Unit):=r20 b0.1 b0.2.1 b1
def aaU (a0:jS) (a1:Pq×Pq):Option (Sum (Pq×Pq) (Pq×R5)):=(bif decide (a1.2.2.1 > 0) then some (decide (Int.ofNat a0.length > 0),()) else some (false,())).bind fun y2=>bif y2.1 then (on (wf a1.1) (next a1.1 (Int.ofNat a0.length))).bind fun y3=>bif decide (0≤y3.1)&&decide (y3.1<Int.ofNat a0.length) then (on (decide (a1.2.1.length≤1000000)) (qJ a1.2.1 (List.getD a0 (Int.toNat y3.1) (0,false,())).1,())).bind fun y4=>some (.inl (y3.2,y4.1,aR (a1.2.2.1 - 1),())) else none else some (.inr (a1.1,a1.2.1,()))
def r29 (a0:lQ) (a1:Int) (a2:jS) (a3:jf) (a4:Int):Option (lQ×Pq):=(on (wf (a0,a1,())) (next (a0,a1,()) (aR (a4+1)))).bind fun y5=>(Loop (@aaU a2) (y5.2,[],y5.1,())).bind fun y6=>some (y6.2.1,y6.1)
def Px (t:Tp) (b0:To) (b1:Int):Option ((List Int)×Tp):=r29 t.1 t.2.1 b0.1 b0.2.1 b1
def aaV (a0:jS) (a1:jf) (a2:Int×yCN):Option (Sum (Int×yCN) yCN):=bif decide (a2.1 > 0) then (on (wf a2.2.2.1) (next a2.2.2.1 (Int.ofNat a0.length))).bind fun y3=>bif decide (0≤y3.1)&&decide (y3.1<Int.ofNat a0.length) then (Px y3.2 (a0,a1,()) 3).bind fun y4=>(on (wf y4.2&&decide (0<6)&&decide (6≤1000)) (pick y4.2 (1::1::2::3::5::1000::[]))).bind fun y5=>bif Nat.ble ((a2.2.1.length+1)*40) 140737488355328 then some (.inl (aR (a2.1 - 1),a2.2.1++((List.getD a0 (Int.toNat y3.1) (0,false,())).1,y4.1,y5.1,())::[],y5.2,())) else none else none else some (.inr a2.2)
def r19 (a0:lQ) (a1:Int) (a2:jS) (a3:jf) (a4:Int):Option yCK:=(on (wf (a0,a1,())) (next (a0,a1,()) (aR (a4+1)))).bind fun y5=>(Loop (@aaV a2 a3) (y5.1,[],y5.2,())).bind fun y6=>some (y6.1,y6.2.1)
def Km (t:Tp) (b0:To) (b1:Int):Option ((List Dm)×Tp):=r19 t.1 t.2.1 b0.1 b0.2.1 b1
def aaW (a0:jS) (a1:jf) (a2:yBA) (a3:Kj):Option (Sum Kj eP):=let q1:=List.getD a2 (Int.toNat a3.2.1) (0,0,0,());bif decide (a3.2.1<Int.ofNat a2.length) then bif decide (0≤a3.2.1)&&decide (a3.2.1<Int.ofNat a2.length) then (Pv (a0,a1,()) q1.1 q1.2.1).bind fun y4=>some (.inl (aR (a3.1+y4.1.1),aR (a3.2.1+1),())) else none else some (.inr (a3.1,()))
def aaX (a0:yCU) (a1:Pq):Option (Sum Pq R5):=bif decide (a1.2.1<Int.ofNat a0.length) then bif decide (0≤a1.2.1)&&decide (a1.2.1<Int.ofNat a0.length) then (on (decide (a1.1.length≤1000000)) (qJ a1.1 (List.getD a0 (Int.toNat a1.2.1) (0,(0,0,0,0,0,0,0,0,0,[],()),())).1,())).bind fun y2=>some (.inl (y2.1,aR (a1.2.1+1),())) else none else some (.inr (a1.1,()))
def r16 (a0:jS) (a1:jf) (a2:yCU) (a3:yBA) (a4:Nl):Option (yAQ×Unit):=(Loop (@aaW a0 a1 a3) (0,0,())).bind fun y5=>(Loop (@aaX a2) ([],0,())).bind fun y6=>some ((y5.1,y6),())
def Py (b0:To) (b1:Tc):Option ((Int×(List Int)×Unit)×Unit):=r16 b0.1 b0.2.1 b1.1 b1.2.1 b1.2.2.1
def Mk (a0:lQ) (a1:eP):Option (Sum eP yAX):=let q1:=aR (a1.1 - 1);bif decide (a1.1<Int.ofNat a0.length) then bif decide (0≤q1)&&decide (q1<Int.ofNat a0.length) then bif decide (0≤a1.1)&&decide (a1.1<Int.ofNat a0.length) then bif decide (List.getD a0 (Int.toNat q1) 0≥List.getD a0 (Int.toNat a1.1) 0) then some (.inr (true,(false,()),())) else some (.inl (aR (a1.1+1),())) else none else none else some (.inr (false,(false,()),()))
def ajn (a0:lQ):Option qx:=(Loop (@Mk a0) (1,())).bind fun y1=>bif y1.1 then some y1.2.1 else some (true,())
def pF (b0:(List Int)):Option ((Bool)×Unit):=ajn b0
def aaY (a0:jS) (a1:jf) (a2:Int) (a3:lQ) (a4:yAQ):Option (Sum yAQ xA):=bif decide (a4.1<Int.ofNat (a2::([]++a3)).length) then bif decide (0≤a4.1)&&decide (a4.1<Int.ofNat a4.2.1.length) then bif Nat.blt (Int.toNat a4.1) a4.2.1.length then bif !AU (a0,a1,()) (List.getD a4.2.1 (Int.toNat a4.1) 0) then some (.inr (true,(4,()),())) else some (.inl (aR (a4.1+1),a4.2)) else none else none else some (.inr (false,(0,()),()))
def r68 (a0:jS) (a1:jf) (a2:Int) (a3:lQ):Option eP:=bif !decide (lT (a0,a1,())=0) then some (1,()) else (pF a3).bind fun y4=>bif !y4.1 then some (25,()) else bif Nat.ble ((1+a3.length)*8) 140737488355328 then (Loop (@aaY a0 a1 a2 a3) (0,a2::([]++a3),())).bind fun y5=>bif y5.1 then some y5.2.1 else some (0,()) else none
def Np (b0:To) (b1:Int) (b2:(List Int)):Option ((Int)×Unit):=r68 b0.1 b0.2.1 b1 b2
def UZ (a0:lQ) (a1:eP):Option (Sum eP xA):=let q1:=aR (a1.1 - 1);bif decide (a1.1<Int.ofNat a0.length) then bif decide (0≤q1)&&decide (q1<Int.ofNat a0.length) then bif decide (0≤a1.1)&&decide (a1.1<Int.ofNat a0.length) then bif decide (List.getD a0 (Int.toNat q1) 0≥List.getD a0 (Int.toNat a1.1) 0) then some (.inr (true,(25,()),())) else some (.inl (aR (a1.1+1),())) else none else none else some (.inr (false,(0,()),()))
def U1 (a0:jS) (a1:jf) (a2:Int) (a3:lQ) (a4:yAQ):Option (Sum yAQ xA):=bif decide (a4.1<Int.ofNat (a2::([]++a3)).length) then bif decide (0≤a4.1)&&decide (a4.1<Int.ofNat a4.2.1.length) then bif Nat.blt (Int.toNat a4.1) a4.2.1.length then bif !AU (a0,a1,()) (List.getD a4.2.1 (Int.toNat a4.1) 0) then some (.inr (true,(4,()),())) else some (.inl (aR (a4.1+1),a4.2)) else none else none else some (.inr (false,(0,()),()))
def aoI (a0:jS) (a1:jf) (a2:Int) (a3:lQ) (a4:Int):Option eP:=bif decide (Int.ofNat a3.length > 6) then some (3,()) else (Loop (@UZ a3) (1,())).bind fun y5=>bif y5.1 then some y5.2.1 else bif Nat.ble ((1+a3.length)*8) 140737488355328 then (Loop (@U1 a0 a1 a2 a3) (0,a2::([]++a3),())).bind fun y6=>bif y6.1 then some y6.2.1 else (bif !decide (a4<1) then some (decide (a4 > 1000),()) else some (true,())).bind fun y7=>bif y7.1 then some (2,()) else some (0,()) else none
def vC (b0:To) (b1:Dm):Option ((Int)×Unit):=aoI b0.1 b0.2.1 b1.1 b1.2.1 b1.2.2.1
def aaZ (a0:jS) (a1:jf) (a2:yBM) (a3:eP):Option (Sum eP xA):=bif decide (a3.1<Int.ofNat a2.length) then bif decide (0≤a3.1)&&decide (a3.1<Int.ofNat a2.length) then (vC (a0,a1,()) (List.getD a2 (Int.toNat a3.1) (0,[],0,()))).bind fun y4=>bif !decide (y4.1=0) then some (.inr (true,y4,())) else some (.inl (aR (a3.1+1),())) else none else some (.inr (false,(0,()),()))
def r53 (a0:jS) (a1:jf) (a2:yBM):Option eP:=bif !decide (lT (a0,a1,())=0) then some (1,()) else bif decide (Int.ofNat a2.length > 12) then some (3,()) else (Loop (@aaZ a0 a1 a2) (0,())).bind fun y3=>bif y3.1 then some y3.2.1 else some (0,())
def IU (b0:To) (b1:(List Dm)):Option ((Int)×Unit):=r53 b0.1 b0.2.1 b1
def r58 (a0:Int) (a1:Nl):Option qx:=(bif decide (a0=0) then some (decide (Int.ofNat a1.length=0),()) else some (false,())).bind fun y2=>some y2
def IV (b0:Tr):Option ((Bool)×Unit):=r58 b0.1 b0.2.1
def aoJ (a0:Int):Option qx:=(bif decide (a0≥1) then some (decide (a0≤99),()) else some (false,())).bind fun y1=>some y1
def nZ (b0:Int):Option ((Bool)×Unit):=aoJ b0
def aa0 (a0:lQ) (a1:eP):Option (Sum eP xA):=let q1:=List.getD a0 (Int.toNat a1.1) 0;bif decide (a1.1<Int.ofNat a0.length) then bif decide (0≤a1.1)&&decide (a1.1<Int.ofNat a0.length) then bif !decide (q1=0) then some (.inr (true,(q1,()),())) else some (.inl (aR (a1.1+1),())) else none else some (.inr (false,(0,()),()))
def r84 (a0:lQ):Option eP:=(Loop (@aa0 a0) (0,())).bind fun y1=>bif y1.1 then some y1.2.1 else some (0,())
def Nq (b0:(List Int)):Option ((Int)×Unit):=r84 b0
def Ml (a0:Nl) (a1:yAJ×Bool×eP):Option (Sum (yAJ×Bool×eP) yBI):=let q1:=List.getD a0 (Int.toNat a1.2.2.1) (0,0,());bif decide (a1.2.2.1<Int.ofNat a0.length) then bif decide (0≤a1.2.2.1)&&decide (a1.2.2.1<Int.ofNat a0.length) then (bif cZ (.int .i64) .bool a1.1 q1.1 then some (!cZ (.int .i64) .bool a1.1 q1.2.1,()) else some (false,())).bind fun y2=>(bif y2.1 then some (true,gM (.int .i64) .bool a1.1 q1.2.1 true,()) else some (a1.2.1,a1.1,())).bind fun y3=>some (.inl (y3.2.1,y3.1,aR (a1.2.2.1+1),())) else none else some (.inr (a1.1,a1.2.1,()))
def U3 (a0:Nl) (a1:yBI):Option (Sum yBI yAV):=bif a1.2.1 then (Loop (@Ml a0) (a1.1,false,0,())).bind fun y2=>some (.inl y2) else some (.inr (a1.1,()))
def aoK (a0:Int) (a1:Nl):Option yAV:=(Loop (@U3 a1) (gM (.int .i64) .bool [] a0 true,true,())).bind fun y2=>some y2
def x152 (b0:Tr):Option ((List (Int×Bool))×Unit):=aoK b0.1 b0.2.1
def aa1 (a0:Nl) (a1:eP):Option (Sum eP xA):=let q1:=List.getD a0 (Int.toNat a1.1) (0,0,());bif decide (a1.1<Int.ofNat a0.length) then bif decide (0≤a1.1)&&decide (a1.1<Int.ofNat a0.length) then ((nZ q1.1).bind fun y2=>bif !!y2.1 then (nZ q1.2.1).bind fun y3=>some (!y3.1,()) else some (true,())).bind fun y2=>bif y2.1 then some (.inr (true,(2,()),())) else some (.inl (aR (a1.1+1),())) else none else some (.inr (false,(0,()),()))
def aa2 (a0:Nl) (a1:eP):Option (Sum eP xA):=let q1:=aR (a1.1 - 1);let q2:=List.getD a0 (Int.toNat a1.1) (0,0,());let q3:=List.getD a0 (Int.toNat q1) (0,0,());bif decide (a1.1<Int.ofNat a0.length) then bif decide (0≤q1)&&decide (q1<Int.ofNat a0.length) then bif decide (0≤a1.1)&&decide (a1.1<Int.ofNat a0.length) then bif decide (dz (dJ q3.1 q2.1::dJ q3.2.1 q2.2.1::[])≥0) then some (.inr (true,(25,()),())) else some (.inl (aR (a1.1+1),())) else none else none else some (.inr (false,(0,()),()))
def aa3 (a0:Nl) (a1:yBF):Option (Sum yBF xA):=let q1:=List.getD a0 (Int.toNat a1.2.1) (0,0,());bif decide (a1.2.1<Int.ofNat a0.length) then bif decide (0≤a1.2.1)&&decide (a1.2.1<Int.ofNat a0.length) then bif cZ (.int .i64) .bool a1.1 q1.2.1 then some (.inr (true,(8,()),())) else some (.inl (gM (.int .i64) .bool a1.1 q1.2.1 true,aR (a1.2.1+1),())) else none else some (.inr (false,(0,()),()))
def aa4 (a0:Nl) (a1:yAV) (a2:eP):Option (Sum eP xA):=bif decide (a2.1<Int.ofNat a0.length) then bif decide (0≤a2.1)&&decide (a2.1<Int.ofNat a0.length) then bif !cZ (.int .i64) .bool a1.1 (List.getD a0 (Int.toNat a2.1) (0,0,())).1 then some (.inr (true,(10,()),())) else some (.inl (aR (a2.1+1),())) else none else some (.inr (false,(0,()),()))
def r85 (a0:Int) (a1:Nl):Option eP:=(nZ a0).bind fun y2=>bif !y2.1 then some (2,()) else (Loop (@aa1 a1) (0,())).bind fun y3=>bif y3.1 then some y3.2.1 else (Loop (@aa2 a1) (1,())).bind fun y4=>bif y4.1 then some y4.2.1 else (Loop (@aa3 a1) (gM (.int .i64) .bool [] a0 true,0,())).bind fun y5=>bif y5.1 then some y5.2.1 else (x152 (a0,a1,())).bind fun y6=>(Loop (@aa4 a1 y6) (0,())).bind fun y7=>bif y7.1 then some y7.2.1 else some (0,())
def Ko (b0:Tr):Option ((Int)×Unit):=r85 b0.1 b0.2.1
def aoL (a0 a1 a2 a3:Int):Option (yAN×Unit):=some ((a1,a2,a3,()),())
def pU (b0:Ad):Option ((Tg)×Unit):=aoL b0.1 b0.2.1 b0.2.2.1 b0.2.2.2.1
def aa5 (a0:Int) (a1:IQ) (a2:eP):Option (Sum eP xA):=let q1:=List.getD a1 (Int.toNat a2.1) (0,0,0,0,());bif decide (a2.1<Int.ofNat a1.length) then bif decide (0≤a2.1)&&decide (a2.1<Int.ofNat a1.length) then (bif !decide (q1.1<0) then bif !decide (q1.1≥a0) then (nZ q1.2.1).bind fun y3=>bif !!y3.1 then (nZ q1.2.2.2.1).bind fun y4=>some (!y4.1,()) else some (true,()) else some (true,()) else some (true,())).bind fun y3=>bif y3.1 then some (.inr (true,(2,()),())) else some (.inl (aR (a2.1+1),())) else none else some (.inr (false,(0,()),()))
def aa6 (a0:IQ) (a1:eP):Option (Sum eP xA):=let q1:=List.getD a0 (Int.toNat a1.1) (0,0,0,0,());bif decide (a1.1<Int.ofNat a0.length) then bif decide (0≤a1.1)&&decide (a1.1<Int.ofNat a0.length) then (bif !decide (q1.2.2.1<1) then some (decide (q1.2.2.1 > 3),()) else some (true,())).bind fun y2=>bif y2.1 then some (.inr (true,(1,()),())) else some (.inl (aR (a1.1+1),())) else none else some (.inr (false,(0,()),()))
def aa7 (a0:IQ) (a1:eP):Option (Sum eP xA):=let q1:=List.getD a0 (Int.toNat a1.1) (0,0,0,0,());bif decide (a1.1<Int.ofNat a0.length) then bif decide (0≤a1.1)&&decide (a1.1<Int.ofNat a0.length) then bif !decide (decide (q1.2.2.2.1=q1.2.1)=decide (q1.2.2.1=3)) then some (.inr (true,(8,()),())) else some (.inl (aR (a1.1+1),())) else none else some (.inr (false,(0,()),()))
def aa8 (a0:IQ) (a1:eP):Option (Sum eP xA):=let q1:=aR (a1.1 - 1);bif decide (a1.1<Int.ofNat a0.length) then bif decide (0≤q1)&&decide (q1<Int.ofNat a0.length) then bif decide (0≤a1.1)&&decide (a1.1<Int.ofNat a0.length) then bif decide ((List.getD a0 (Int.toNat q1) (0,0,0,0,())).1≥(List.getD a0 (Int.toNat a1.1) (0,0,0,0,())).1) then some (.inr (true,(25,()),())) else some (.inl (aR (a1.1+1),())) else none else none else some (.inr (false,(0,()),()))
def aa9 (a0:IQ) (a1:List (yAN×Bool)×eP):Option (Sum (List (yAN×Bool)×eP) xA):=let q1:=List.getD a0 (Int.toNat a1.2.1) (0,0,0,0,());bif decide (a1.2.1<Int.ofNat a0.length) then bif decide (0≤a1.2.1)&&decide (a1.2.1<Int.ofNat a0.length) then (pU q1).bind fun y2=>bif cZ (@Go.dw.Ty.st 24 (@Go.dw.Ty.cons (.int .i64) (@Go.dw.Ty.cons (.int .i64) (@Go.dw.Ty.cons (.int .i64) Go.dw.Ty.unit)))) .bool a1.1 y2.1 then some (.inr (true,(5,()),())) else (pU q1).bind fun y3=>some (.inl (gM (@Go.dw.Ty.st 24 (@Go.dw.Ty.cons (.int .i64) (@Go.dw.Ty.cons (.int .i64) (@Go.dw.Ty.cons (.int .i64) Go.dw.Ty.unit)))) .bool a1.1 y3.1 true,aR (a1.2.1+1),())) else none else some (.inr (false,(0,()),()))
def r63 (a0:Int) (a1:IQ):Option eP:=bif !rQ a0 then some (2,()) else (Loop (@aa5 a0 a1) (0,())).bind fun y2=>bif y2.1 then some y2.2.1 else (Loop (@aa6 a1) (0,())).bind fun y3=>bif y3.1 then some y3.2.1 else (Loop (@aa7 a1) (0,())).bind fun y4=>bif y4.1 then some y4.2.1 else (Loop (@aa8 a1) (1,())).bind fun y5=>bif y5.1 then some y5.2.1 else (Loop (@aa9 a1) ([],0,())).bind fun y6=>bif y6.1 then some y6.2.1 else some (0,())
def Nr (b0:Eg):Option ((Int)×Unit):=r63 b0.1 b0.2.1
def U4 (a0:IQ) (a1:Int) (a2:Kj):Option (Sum Kj eP):=let q1:=List.getD a0 (Int.toNat a2.2.1) (0,0,0,0,());bif decide (a2.2.1<Int.ofNat a0.length) then bif decide (0≤a2.2.1)&&decide (a2.2.1<Int.ofNat a0.length) then (bif decide (q1.2.1=a1) then bif decide (0≤q1.1) then some (IntKind.wrap .u64 (Int.ofNat (@BitVec.toNat 64 (@BitVec.or 64 (@BitVec.ofInt 64 a2.1) (@BitVec.ofInt 64 (IntKind.wrap .u64 (1*@Int.pow 2 (@Min.min Nat instMinNat (Int.toNat q1.1) 64))))))),()) else none else some (a2.1,())).bind fun y3=>some (.inl (y3.1,aR (a2.2.1+1),())) else none else some (.inr (a2.1,()))
def aoM (a0:Int) (a1:IQ) (a2:Int):Option eP:=(Nr (a0,a1,())).bind fun y3=>(bif decide (y3.1=0) then (Loop (@U4 a1 a2) (0,0,())).bind fun y4=>some y4 else some (0,())).bind fun y4=>some y4
def rU (b0:Eg) (b1:Int):Option ((Int)×Unit):=aoM b0.1 b0.2.1 b1
def r64 (a0:Int) (a1:IQ) (a2 a3 a4 a5 a6 a7 a8 a9 zJ:Int) (YC:lQ):Option eP:=bif !decide (a2=2) then some (7,()) else bif !decide (a5=a0) then some (8,()) else some (0,())
def Pz (b0:Eg) (b1:Pk):Option ((Int)×Unit):=r64 b0.1 b0.2.1 b1.1 b1.2.1 b1.2.2.1 b1.2.2.2.1 b1.2.2.2.2.1 b1.2.2.2.2.2.1 b1.2.2.2.2.2.2.1 b1.2.2.2.2.2.2.2.1 b1.2.2.2.2.2.2.2.2.1 b1.2.2.2.2.2.2.2.2.2.1
def aoN (a0 a1 a2 a3 a4 a5 a6:Int):Option qx:=(pU (a0,a1,a2,a3,())).bind fun y7=>some (decide (y7.1.1=a4)&&(decide (y7.1.2.1=a5)&&(decide (y7.1.2.2.1=a6)&&true)),())
def ae5 (b0:Ad) (b1:Tg):Option ((Bool)×Unit):=aoN b0.1 b0.2.1 b0.2.2.1 b0.2.2.2.1 b1.1 b1.2.1 b1.2.2.1
def PD (a0:IQ) (a1 a2 a3:Int) (a4:eP):Option (Sum eP xA):=bif decide (a4.1<Int.ofNat a0.length) then bif decide (0≤a4.1)&&decide (a4.1<Int.ofNat a0.length) then (ae5 (List.getD a0 (Int.toNat a4.1) (0,0,0,0,())) (a1,a2,a3,())).bind fun y5=>bif y5.1 then some (.inr (true,a4,())) else some (.inl (aR (a4.1+1),())) else none else some (.inr (false,(0,()),()))
def agG (a0:IQ) (a1 a2 a3:Int):Option eP:=(Loop (@PD a0 a1 a2 a3) (0,())).bind fun y4=>bif y4.1 then some y4.2.1 else some (((-1):Int),())
def U5 (b0:(List Ad)) (b1:Tg):Option ((Int)×Unit):=agG b0 b1.1 b1.2.1 b1.2.2.1
def r88 (a0:Int) (a1:IQ) (a2 a3 a4:Int):Option yAT:=(U5 a1 (a2,a3,a4,())).bind fun y5=>bif decide (y5.1<0) then some ((0,false,()),()) else bif decide (0≤y5.1)&&decide (y5.1<Int.ofNat a1.length) then some (((List.getD a1 (Int.toNat y5.1) (0,0,0,0,())).1,true,()),()) else none
def Ns (b0:Eg) (b1:Tg):Option ((Int×Bool×Unit)×Unit):=r88 b0.1 b0.2.1 b1.1 b1.2.1 b1.2.2.1
def avv (a0 a1:Int):Option qx:=some (decide (a0<a1),())
def x153 (b0:Int) (b1:Int):Option ((Bool)×Unit):=avv b0 b1
def aoO (a0:Int):Option qx:=some (!decide (a0=a0),())
def ae6 (b0:Int):Option ((Bool)×Unit):=aoO b0
def abb (a0:Nl) (a1:yAQ):Option (Sum yAQ R5):=bif decide (a1.1<Int.ofNat a0.length) then bif decide (0≤a1.1)&&decide (a1.1<Int.ofNat a0.length) then bif Nat.ble ((a1.2.1.length+1)*8) 140737488355328 then some (.inl (aR (a1.1+1),a1.2.1++(List.getD a0 (Int.toNat a1.1) (0,0,())).2.1::[],())) else none else none else some (.inr a1.2)
def r86 (a0:Int) (a1:Nl):Option R5:=(Ko (a0,a1,())).bind fun y2=>bif !decide (y2.1=0) then some ([],()) else (Loop (@abb a1) (0,a0::[],())).bind fun y3=>some (fF y3.1,())
def Mq (b0:Tr):Option ((List Int)×Unit):=r86 b0.1 b0.2.1
def abd (a0:lQ) (a1:eP):Option (Sum eP (Bool×Kj×Unit)):=let q1:=aR (a1.1 - 1);bif decide (a1.1<Int.ofNat a0.length) then bif decide (0≤q1)&&decide (q1<Int.ofNat a0.length) then bif decide (0≤a1.1)&&decide (a1.1<Int.ofNat a0.length) then bif decide (List.getD a0 (Int.toNat q1) 0≥List.getD a0 (Int.toNat a1.1) 0) then some (.inr (true,(0,25,()),())) else some (.inl (aR (a1.1+1),())) else none else none else some (.inr (false,(0,0,()),()))
def abe (a0:lQ) (a1:R5) (a2:yBV):Option (Sum yBV (Bool×Kj×yBN)):=let q1:=List.getD a0 (Int.toNat a2.1) 0;bif decide (a2.1<Int.ofNat a0.length) then bif decide (0≤a2.1)&&decide (a2.1<Int.ofNat a0.length) then (on (upI a1.1) (bsI a1.1 q1,())).bind fun y3=>bif !y3.1.2.1 then some (.inr (true,(8,0,()),[],())) else bif Nat.ble ((a2.2.1.length+1)*24) 140737488355328 then some (.inl (aR (a2.1+1),a2.2.1++(q1,3,q1,())::[],())) else none else none else some (.inr (false,(0,0,()),a2.2))
def abf (a0:Nl) (a1:yBV):Option (Sum yBV yBN):=let q1:=List.getD a0 (Int.toNat a1.1) (0,0,());bif decide (a1.1<Int.ofNat a0.length) then bif decide (0≤a1.1)&&decide (a1.1<Int.ofNat a0.length) then bif Nat.ble ((a1.2.1.length+1)*24) 140737488355328 then some (.inl (aR (a1.1+1),a1.2.1++(q1.1,1,q1.2)::[],())) else none else none else some (.inr a1.2)
def abg (a0:Int) (a1:IQ) (a2:yBN) (a3:yBA×Kj):Option (Sum (yBA×Kj) (Bool×yBC)):=bif decide (a3.2.2.1<Int.ofNat a2.1.length) then bif decide (0≤a3.2.2.1)&&decide (a3.2.2.1<Int.ofNat a3.1.length) then bif Nat.blt (Int.toNat a3.2.2.1) a3.1.length then (Ns (a0,a1,()) (List.getD a3.1 (Int.toNat a3.2.2.1) (0,0,0,()))).bind fun y4=>bif !y4.1.2.1 then some (.inr (true,(0,4,()),0,())) else bif decide (0≤y4.1.1) then some (.inl (a3.1,IntKind.wrap .u64 (Int.ofNat (@BitVec.toNat 64 (@BitVec.or 64 (@BitVec.ofInt 64 a3.2.1) (@BitVec.ofInt 64 (IntKind.wrap .u64 (1*@Int.pow 2 (@Min.min Nat instMinNat (Int.toNat y4.1.1) 64))))))),aR (a3.2.2.1+1),())) else none else none else none else some (.inr (false,(0,0,()),a3.2.1,()))
def r34 (a0:Int) (a1:IQ) (a2:Int) (a3:Nl) (a4:lQ):Option (Kj×Unit):=(Nr (a0,a1,())).bind fun y5=>(Ko (a2,a3,())).bind fun y6=>(Nq (y5.1::y6.1::[])).bind fun y7=>bif !decide (y7.1=0) then some ((0,y7),()) else (Loop (@abd a4) (1,())).bind fun y8=>bif y8.1 then some y8.2 else (Mq (a2,a3,())).bind fun y9=>(Loop (@abe a4 y9) (0,[],())).bind fun Mi=>bif Mi.1 then some ((Mi.2.1.2.1,Mi.2.1.1,()),()) else (Loop (@abf a3) (0,Mi.2.2)).bind fun y11=>(Loop (@abg a0 a1 y11) (y11.1,0,0,())).bind fun y12=>bif y12.1 then some (y12.2.1,()) else some ((y12.2.2.1,0,()),())
def PE (b0:Eg) (b1:Tr) (b2:(List Int)):Option ((Int×Int×Unit)×Unit):=r34 b0.1 b0.2.1 b1.1 b1.2.1 b2
def r11 (a0:Int) (a1:IQ) (a2:Int) (a3:Nl) (a4:lQ) (a5 a6 a7 a8 a9 zJ YC a12 DF:Int) (a14:lQ):Option ((yCO×eP)×Unit):=(PE (a0,a1,()) (a2,a3,()) a4).bind fun GU=>bif !decide (GU.1.2.1=0) then some (((0,0,0,0,0,0,0,0,0,[],()),GU.1.2),()) else bif !mD (2,a6,a7,a0,a9,zJ,YC,a12,GU.1.1,a14,()) then some (((0,0,0,0,0,0,0,0,0,[],()),1,()),()) else some (((2,a6,a7,a0,a9,zJ,YC,a12,GU.1.1,a14,()),0,()),())
def x11 (b0:Eg) (b1:Tr) (b2:(List Int)) (b3:Pk):Option ((Pk×Int×Unit)×Unit):=r11 b0.1 b0.2.1 b1.1 b1.2.1 b2 b3.1 b3.2.1 b3.2.2.1 b3.2.2.2.1 b3.2.2.2.2.1 b3.2.2.2.2.2.1 b3.2.2.2.2.2.2.1 b3.2.2.2.2.2.2.2.1 b3.2.2.2.2.2.2.2.2.1 b3.2.2.2.2.2.2.2.2.2.1
def abj (a0:IQ) (a1 a2 a3 a4 a5 a6 a7 a8 a9 zJ:Int) (YC:lQ) (a12:eP) (DF:yDY):Option (Sum yDY yDW):=let q1:=List.getD a0 (Int.toNat DF.1) (0,0,0,0,());let q2:=IntKind.wrap .u64 (Int.ofNat (@BitVec.toNat 64 (@BitVec.and 64 (@BitVec.ofInt 64 zJ) (@BitVec.not 64 (@BitVec.ofInt 64 a12.1)))));let q3:=IntKind.wrap .u64 (1*@Int.pow 2 (@Min.min Nat instMinNat (Int.toNat q1.1) 64));let q4:=aR (DF.1+1);let q5:=aR (a6 - 1);bif decide (DF.1<Int.ofNat a0.length) then bif decide (0≤DF.1)&&decide (DF.1<Int.ofNat a0.length) then bif decide (0≤q1.1) then (bif !!decide (q1.2.1=a1) then some (decide (IntKind.wrap .u64 (Int.ofNat (@BitVec.toNat 64 (@BitVec.and 64 (@BitVec.ofInt 64 zJ) (@BitVec.ofInt 64 q3))))=0),()) else some (true,())).bind fun y14=>bif y14.1 then some (.inl (q4,DF.2)) else (bif decide (q1.2.2.1=3) then some (DF.2.1,(IntKind.wrap .u64 (Int.ofNat (@BitVec.toNat 64 (@BitVec.or 64 (@BitVec.ofInt 64 DF.2.2.1.1) (@BitVec.ofInt 64 q3)))),DF.2.2.1.2),()) else (bif decide (a6=0) then some ((DF.2.2.1.1,IntKind.wrap .u64 (Int.ofNat (@BitVec.toNat 64 (@BitVec.or 64 (@BitVec.ofInt 64 DF.2.2.1.2.1) (@BitVec.ofInt 64 q3)))),DF.2.2.1.2.2),DF.2.1,()) else (bif !decide (q2=0) then (bif decide (q1.2.2.1=2) then some ((q1.2.2.2.1,q1.2.2.2.1::[],a2,a3,a4,a5,q5,a7,a8,a9,q2,YC,()),()) else some ((q1.2.2.2.1,[],a2,a3,a4,a5,q5,a7,a8,a9,q2,YC,()),())).bind fun GU=>bif Nat.ble ((DF.2.2.1.2.2.1.length+1)*120) 140737488355328 then bif Nat.ble ((DF.2.1.length+1)*152) 140737488355328 then some (DF.2.1++(q1,(GU.1.1,(GU.1.2.1,GU.1.2.2,()),()),())::[],(DF.2.2.1.1,DF.2.2.1.2.1,DF.2.2.1.2.2.1++(GU.1.1,(GU.1.2.1,GU.1.2.2,()),())::[],()),()) else none else none else some DF.2).bind fun GU=>some (GU.2.1,GU.1,())).bind fun GU=>some (GU.2.1,GU.1,())).bind fun GU=>some (.inl (q4,GU)) else none else none else some (.inr DF.2)
def r65 (a0:Int) (a1:IQ) (a2 a3 a4 a5 a6 a7 a8 a9 zJ YC:Int) (a12:lQ):Option yDZ:=(rU (a0,a1,()) a2).bind fun y13=>(Loop (@abj a1 a2 a3 a4 a5 a6 a7 a8 a9 zJ YC a12 y13) (0,[],(0,0,[],()),())).bind fun y14=>some ((y14.2.1,y14.1,()),())
def Nt (b0:Eg) (b1:Int) (b2:Pk):Option ((Oc×(List Sn)×Unit)×Unit):=r65 b0.1 b0.2.1 b1 b2.1 b2.2.1 b2.2.2.1 b2.2.2.2.1 b2.2.2.2.2.1 b2.2.2.2.2.2.1 b2.2.2.2.2.2.2.1 b2.2.2.2.2.2.2.2.1 b2.2.2.2.2.2.2.2.2.1 b2.2.2.2.2.2.2.2.2.2.1
def r67 (a0:jS) (a1:jf) (a2 a3 a4 a5 a6:Int):Option ((lQ×qx)×Unit):=bif decide (a5=2) then none else (Nn (a0,a1,()) a2 a6).bind fun y7=>some ((a6::[],y7.1.2),())
def Nu (b0:To) (b1:Int) (b2:Ad):Option (((List Int)×Bool×Unit)×Unit):=r67 b0.1 b0.2.1 b1 b2.1 b2.2.1 b2.2.2.1 b2.2.2.2.1
def Sg (a0:IQ) (a1:yED) (a2:yDZ) (a3:yDQ):Option (Sum yDQ yDP):=let q1:=List.getD a0 (Int.toNat a3.1) (0,0,0,0,());let q2:=List.getD a1.2.1 0 (0,(0,0,0,0,0,0,0,0,0,[],()),());bif decide (a3.1<Int.ofNat a0.length) then bif decide (0≤a3.1)&&decide (a3.1<Int.ofNat a0.length) then bif decide (0≤q1.1) then (bif decide (IntKind.wrap .u64 (Int.ofNat (@BitVec.toNat 64 (@BitVec.and 64 (@BitVec.ofInt 64 (@Int.fdiv a2.1.1.1 (@Int.pow 2 (@Min.min Nat instMinNat (Int.toNat q1.1) 64)))) (@BitVec.ofInt 64 1))))=1) then bif Nat.ble ((a3.2.1.1.length+1)*96) 140737488355328 then some ((a3.2.1.1++(q2.1,only q2.2.1 q1.1,())::[],a3.2.1.2),()) else none else some a3.2).bind fun y4=>some (.inl (aR (a3.1+1),y4)) else none else none else some (.inr a3.2)
def Si (a0:yDZ) (a1:yEC) (a2:(lQ×qx)×Unit) (a3:yDS):Option (Sum yDS yDQ):=let q1:=List.getD a2.1.1 (Int.toNat a3.1) 0;bif decide (a3.1<Int.ofNat a2.1.1.length) then bif decide (0≤a3.1)&&decide (a3.1<Int.ofNat a2.1.1.length) then bif Nat.ble ((a3.2.2.1.2.1.length+1)*24) 140737488355328 then some (.inl (aR (a3.1+1),q1,(a3.2.2.1.1,a3.2.2.1.2.1++(a3.2.1,q1,(List.getD a0.1.2.1 (Int.toNat a1.2.1) ((0,0,0,0,()),(0,([],(0,0,0,0,0,0,0,0,0,[],()),()),()),())).2.1.2.1.2.1.2.2.2.2.2.2.2.2.1,())::[],a3.2.2.1.2.2),())) else none else none else some (.inr a3.2)
def Sj (a0:jS) (a1:jf) (a2:yED) (a3:yDZ) (a4:yEC):Option (Sum yEC (Bool×yDQ×yDO×yDU)):=let q1:=List.getD a3.1.2.1 (Int.toNat a4.2.1) ((0,0,0,0,()),(0,([],(0,0,0,0,0,0,0,0,0,[],()),()),()),());let q2:=List.getD a2.2.1 0 (0,(0,0,0,0,0,0,0,0,0,[],()),());let q3:=aR (a4.2.1+1);bif decide (a4.2.1<Int.ofNat a3.1.2.1.length) then bif decide (0≤a4.2.1)&&decide (a4.2.1<Int.ofNat a3.1.2.1.length) then (Nu (a0,a1,()) q2.1 q1.1).bind fun y5=>bif !y5.1.2.1 then bif decide (0≤q1.1.1) then bif Nat.ble ((a4.2.2.2.1.2.2.1.length+1)*16) 140737488355328 then some (.inl (a4.1,q3,a4.2.2.1,(a4.2.2.2.1.1,a4.2.2.2.1.2.1,a4.2.2.2.1.2.2.1++(q2.1,IntKind.wrap .u64 (1*@Int.pow 2 (@Min.min Nat instMinNat (Int.toNat q1.1.1) 64)),())::[],()),())) else none else none else (Loop (@Si a3 a4 y5) (0,q2.1,a4.2.2.2)).bind fun y6=>bif decide (Int.ofNat y6.2.1.2.1.length > 2000) then some (.inr (true,(11,([],[],[],()),()),([],[],[],()),[],([],[],[],()),())) else bif Nat.ble ((a4.2.2.1.length+1)*96) 140737488355328 then some (.inl (a4.1,q3,a4.2.2.1++(y6.1,q1.2.1.2.1.2)::[],y6.2)) else none else none else some (.inr (false,(0,([],[],[],()),()),a4.1,a4.2.2))
def Sk (a0:Int) (a1:IQ) (a2:jS) (a3:jf) (a4:yED):Option (Sum yED (Bool×yDQ×Unit×yEA)):=let q1:=List.getD a4.2.1 0 (0,(0,0,0,0,0,0,0,0,0,[],()),());bif decide (Int.ofNat a4.2.1.length > 0) then bif true&&decide (0<Int.ofNat a4.2.1.length) then (Nt (a0,a1,()) q1.1 q1.2.1).bind fun y5=>(Loop (@Sg a1 a4 y5) (0,a4.2.2.2)).bind fun y6=>(bif !decide (y5.1.1.2.1=0) then bif Nat.ble ((y6.1.2.2.1.length+1)*16) 140737488355328 then some ((y6.1.1,y6.1.2.1,y6.1.2.2.1++(q1.1,y5.1.1.2.1,())::[],()),()) else none else some y6).bind fun y7=>(Loop (@Sj a2 a3 a4 y5) (a4.2.2.1,0,a4.2.1,y7)).bind fun y8=>bif y8.1 then some (.inr (true,y8.2.1,(),([],[],[],()),([],[],[],()),())) else bif true&&decide (1≤Int.ofNat y8.2.2.2.1.length) then some (.inl ((),List.drop 1 y8.2.2.2.1,y8.2.2.1,y8.2.2.2.2)) else none else none else some (.inr (false,(0,([],[],[],()),()),(),a4.2.2))
def r24 (a0:Int) (a1:IQ) (a2:jS) (a3:jf) (a4 a5 a6 a7 a8 a9 zJ YC a12:Int) (DF:lQ) (a14:Int):Option yDT:=((Nr (a0,a1,())).bind fun GU=>bif !!decide (GU.1=0) then bif !!decide (lT (a2,a3,())=0) then some (!mD (a4,a5,a6,a7,a8,a9,zJ,YC,a12,DF,()),()) else some (true,()) else some (true,())).bind fun GU=>bif GU.1 then some ((([],[],[],()),1,()),()) else bif !AU (a2,a3,()) a14 then some ((([],[],[],()),4,()),()) else (Pz (a0,a1,()) (a4,a5,a6,a7,a8,a9,zJ,YC,a12,DF,())).bind fun y16=>bif !decide (y16.1=0) then some ((([],[],[],()),y16),()) else (Loop (@Sk a0 a1 a2 a3) ((),(a14,(a4,a5,a6,a7,a8,a9,zJ,YC,a12,DF,()),())::[],([],[],[],()),([],[],[],()),())).bind fun y17=>bif y17.1 then some ((y17.2.1.2.1,y17.2.1.1,()),()) else some ((y17.2.2.2.2.1,0,()),())
def IW (b0:Eg) (b1:To) (b2:Pk) (b3:Int):Option ((Tc×Int×Unit)×Unit):=r24 b0.1 b0.2.1 b1.1 b1.2.1 b2.1 b2.2.1 b2.2.2.1 b2.2.2.2.1 b2.2.2.2.2.1 b2.2.2.2.2.2.1 b2.2.2.2.2.2.2.1 b2.2.2.2.2.2.2.2.1 b2.2.2.2.2.2.2.2.2.1 b2.2.2.2.2.2.2.2.2.2.1 b3
def abk (a0:jS) (a1:jf) (a2:Int) (a3:lQ) (a4:yAQ):Option (Sum yAQ xA):=bif decide (a4.1<Int.ofNat (a2::([]++a3)).length) then bif decide (0≤a4.1)&&decide (a4.1<Int.ofNat a4.2.1.length) then bif Nat.blt (Int.toNat a4.1) a4.2.1.length then bif !AU (a0,a1,()) (List.getD a4.2.1 (Int.toNat a4.1) 0) then some (.inr (true,(4,()),())) else some (.inl (aR (a4.1+1),a4.2)) else none else none else some (.inr (false,(0,()),()))
def abl (a0:jS) (a1:jf) (a2:Nl) (a3:eP):Option (Sum eP xA):=let q1:=List.getD a2 (Int.toNat a3.1) (0,0,());bif decide (a3.1<Int.ofNat a2.length) then bif decide (0≤a3.1)&&decide (a3.1<Int.ofNat a2.length) then (Nn (a0,a1,()) q1.1 q1.2.1).bind fun y4=>bif !y4.1.2.1 then some (.inr (true,(4,()),())) else some (.inl (aR (a3.1+1),())) else none else some (.inr (false,(0,()),()))
def abm (a0:lQ) (a1:R5) (a2:eP):Option (Sum eP xA):=bif decide (a2.1<Int.ofNat a0.length) then bif decide (0≤a2.1)&&decide (a2.1<Int.ofNat a0.length) then bif !(@List.any Int a1.1 fun y3=>decide (List.getD a0 (Int.toNat a2.1) 0=y3)) then some (.inr (true,(9,()),())) else some (.inl (aR (a2.1+1),())) else none else some (.inr (false,(0,()),()))
def r59 (a0:jS) (a1:jf) (a2:Int) (a3:Nl) (a4:lQ):Option eP:=bif !decide (lT (a0,a1,())=0) then some (1,()) else (Ko (a2,a3,())).bind fun y5=>bif !decide (y5.1=0) then some y5 else bif Nat.ble ((1+a4.length)*8) 140737488355328 then (Loop (@abk a0 a1 a2 a4) (0,a2::([]++a4),())).bind fun y6=>bif y6.1 then some y6.2.1 else (Loop (@abl a0 a1 a3) (0,())).bind fun y7=>bif y7.1 then some y7.2.1 else (pF a4).bind fun y8=>bif !y8.1 then some (25,()) else (Mq (a2,a3,())).bind fun y9=>(Loop (@abm a4 y9) (0,())).bind fun Mi=>bif Mi.1 then some Mi.2.1 else some (0,()) else none
def Mr (b0:To) (b1:Tr) (b2:(List Int)):Option ((Int)×Unit):=r59 b0.1 b0.2.1 b1.1 b1.2.1 b2
def r30 (a0:jS) (a1:jf) (a2:Int) (a3:lQ):Option ((yBO×Kj)×Unit):=(Np (a0,a1,()) a2 a3).bind fun y4=>bif !decide (y4.1=0) then some (((0,[],()),0,y4),()) else bif decide (Int.ofNat a3.length > 6) then some (((0,[],()),0,3,()),()) else (on (decide (a1.length≤1000)) (@Go.dw.rO.fO (@List.flatMap aA.Lk aA.Ar aA.dV a1),())).bind fun y5=>(cheap y5.1 a2 a3).bind fun y6=>bif !y6.1.2.2.1 then some (((0,[],()),0,9,()),()) else some (((a2,y6.1.1,()),y6.1.2.1,0,()),())
def Ms (b0:To) (b1:Int) (b2:(List Int)):Option ((Tr×Int×Int×Unit)×Unit):=r30 b0.1 b0.2.1 b1 b2
def abn (a0:jf) (a1:yBW):Option (Sum yBW yBP):=let q1:=List.getD a0 (Int.toNat a1.2.1) (0,0,0,0,0,());bif decide (a1.2.1<Int.ofNat a0.length) then bif decide (0≤a1.2.1)&&decide (a1.2.1<Int.ofNat a0.length) then some (.inl (gM (@Go.dw.Ty.st 16 (@Go.dw.Ty.cons (.int .i64) (@Go.dw.Ty.cons (.int .i64) Go.dw.Ty.unit))) (.int .i64) (gM (@Go.dw.Ty.st 16 (@Go.dw.Ty.cons (.int .i64) (@Go.dw.Ty.cons (.int .i64) Go.dw.Ty.unit))) (.int .i64) a1.1 (q1.1,q1.2.1,()) q1.2.2.2.2.1) (q1.2.1,q1.1,()) q1.2.2.2.2.1,aR (a1.2.1+1),())) else none else some (.inr (a1.1,()))
def r54 (a0:jS) (a1:jf):Option yBP:=(Loop (@abn a1) ([],0,())).bind fun y2=>some y2
def Kq (b0:To):Option ((Mp)×Unit):=r54 b0.1 b0.2.1
def abo (a0:jf) (a1:yBM) (a2:Int×yBD×yCD):Option (Sum (Int×yBD×yCD) yCD):=let q1:=List.getD a1 (Int.toNat a2.1) (0,[],0,());bif decide (a2.1<Int.ofNat a1.length) then bif decide (0≤a2.1)&&decide (a2.1<Int.ofNat a1.length) then bif Nat.ble a0.length 1000 then (cheap (@List.filter aA.Ar (fun y3=>!decide (mg a2.2.1 y3.1<q1.2.2.1)) (@Go.dw.rO.fO (@List.flatMap aA.Lk aA.Ar aA.dV a0))) q1.1 q1.2.1).bind fun y3=>let q2:=List.set a2.2.2.1 (Int.toNat a2.1) (q1.1,y3.1.1,());(bif y3.1.2.2.1 then bif decide (0≤a2.1)&&decide (a2.1<Int.ofNat a2.2.2.1.length) then bif Nat.blt (Int.toNat a2.1) a2.2.2.1.length then bif decide (0≤a2.1)&&decide (a2.1<Int.ofNat q2.length) then bif Nat.blt (Int.toNat a2.1) q2.length then some ((eX a2.2.1 (List.getD q2 (Int.toNat a2.1) (0,[],())).2.1 q1.2.2.1).1,q2,()) else none else none else none else none else some a2.2).bind fun y4=>some (.inl (aR (a2.1+1),y4)) else none else none else some (.inr a2.2.2)
def r21 (a0:jS) (a1:jf) (a2:yBM):Option ((yBX×eP)×Unit):=(IU (a0,a1,()) a2).bind fun y3=>bif !decide (y3.1=0) then some (([],y3),()) else (Kq (a0,a1,())).bind fun y4=>bif decide (0≤Int.ofNat a2.length)&&decide (Int.ofNat a2.length≤Int.ofNat a2.length)&&decide (Int.ofNat a2.length*32≤140737488355328) then (Loop (@abo a1 a2) (0,y4.1,List.replicate (Int.toNat (Int.ofNat a2.length)) (0,[],()),())).bind fun y5=>some ((y5.1,0,()),()) else none
def Kr (b0:To) (b1:(List Dm)):Option (((List Tr)×Int×Unit)×Unit):=r21 b0.1 b0.2.1 b1
def abp (a0:jS) (a1:jf) (a2:yBM) (a3:yBX) (a4:yBW):Option (Sum yBW (Bool×yBV×yBP)):=let q1:=List.getD a3 (Int.toNat a4.2.1) (0,[],());let q2:=List.getD a2 (Int.toNat a4.2.1) (0,[],0,());bif decide (a4.2.1<Int.ofNat a3.length) then bif decide (0≤a4.2.1)&&decide (a4.2.1<Int.ofNat a3.length) then ((IV q1).bind fun y5=>bif !y5.1 then (Mr (a0,a1,()) q1 []).bind fun y6=>bif !!decide (y6.1=0) then bif decide (0≤a4.2.1)&&decide (a4.2.1<Int.ofNat a2.length) then some ((eX a4.1 q1.2.1 q2.2.2.1).1,!(eX a4.1 q1.2.1 q2.2.2.1).2,()) else none else some (a4.1,true,()) else bif decide (0≤a4.2.1)&&decide (a4.2.1<Int.ofNat a2.length) then some ((eX a4.1 q1.2.1 q2.2.2.1).1,!(eX a4.1 q1.2.1 q2.2.2.1).2,()) else none).bind fun y5=>bif y5.2.1 then some (.inr (true,(1,[],()),[],())) else some (.inl (y5.1,aR (a4.2.1+1),())) else none else some (.inr (false,(0,[],()),a4.1,()))
def r22 (a0:jS) (a1:jf) (a2:yBM) (a3:yBX):Option ((yBA×eP)×Unit):=(IU (a0,a1,()) a2).bind fun y4=>bif !decide (y4.1=0) then some (([],y4),()) else bif decide (Int.ofNat a3.length > Int.ofNat a2.length) then some (([],8,()),()) else (Kq (a0,a1,())).bind fun y5=>(Loop (@abp a0 a1 a2 a3) (y5.1,0,())).bind fun y6=>bif y6.1 then some ((y6.2.1.2.1,y6.2.1.1,()),()) else bif Nat.ble y6.2.2.1.length 1000000 then some ((jD y6.2.2.1,0,()),()) else none
def Kt (b0:To) (b1:(List Dm)) (b2:(List Tr)):Option (((List Ld)×Int×Unit)×Unit):=r22 b0.1 b0.2.1 b1 b2
def r23 (a0:jS) (a1:jf) (a2:yBA) (a3:Int) (a4:lQ) (a5:Int):Option yBE:=(IU (a0,a1,()) ((a3,a4,a5,())::[])).bind fun y6=>bif !decide (y6.1=0) then some (([],y6),()) else bif Nat.ble a1.length 1000 then bif (@List.all Int a4 fun y7=>has (D6 (@List.filter aA.Ar (fun y8=>!decide (mg (pz a2) y8.1<a5)) (@Go.dw.rO.fO (@List.flatMap aA.Lk aA.Ar aA.dV a1))) a3) y7) then some (([],9,()),()) else some ((D6 (@List.filter aA.Ar (fun y7=>!decide (mg (pz a2) y7.1<a5)) (@Go.dw.rO.fO (@List.flatMap aA.Lk aA.Ar aA.dV a1))) a3,0,()),()) else none
def Ku (b0:To) (b1:(List Ld)) (b2:Dm):Option (((List Int)×Int×Unit)×Unit):=r23 b0.1 b0.2.1 b1 b2.1 b2.2.1 b2.2.2.1
def r8 :Option qx:=let q1:=(1,true,())::(2,true,())::[];(Ms (q1,(1,2,3,1,2,())::[],()) 1 (2::[])).bind fun y0=>(aaQ (q1,(1,2,3,1,2,())::[],()) 8).bind fun y1=>(x11 y1.1.1 y0.1.1 (2::[]) (0,0,0,0,4,0,0,0,0,[],())).bind fun y2=>(IW y1.1.1 (q1,(1,2,3,1,2,())::[],()) y2.1.1 1).bind fun y3=>(bif decide (y0.1.2.2.1=0) then bif decide (y1.1.2.1=0) then bif decide (y2.1.2.1=0) then bif decide (y3.1.2.1=0) then bif decide (y0.1.2.1=3) then bif decide (Int.ofNat y3.1.1.1.length=1) then bif true&&decide (0<Int.ofNat y3.1.1.1.length) then some (decide ((List.getD y3.1.1.1 0 (0,(0,0,0,0,0,0,0,0,0,[],()),())).1=2),()) else none else some (false,()) else some (false,()) else some (false,()) else some (false,()) else some (false,()) else some (false,())).bind fun y4=>some y4
def x8:Option ((Bool)×Unit):=r8
def abq (a0:yAK×eP):Option (Sum (yAK×eP) yAW):=bif decide (a0.2.1<100) then bif decide (0≤a0.2.1)&&decide (a0.2.1<100) then bif Nat.blt (Int.toNat a0.2.1) a0.1.length then some (.inl (List.set a0.1 (Int.toNat a0.2.1) (List.replicate 100 0),aR (a0.2.1+1),())) else none else none else some (.inr (a0.1,()))
def abr (a0:yCK) (a1:yBH) (a2:yDT) (a3:yBH):Option (Sum yBH yAW):=let q1:=List.getD a2.1.1.2.1 (Int.toNat a3.1) (0,0,0,());let q2:=List.getD a3.2.1 (Int.toNat q1.1) [];bif decide (a3.1<Int.ofNat a2.1.1.2.1.length) then bif decide (0≤a3.1)&&decide (a3.1<Int.ofNat a2.1.1.2.1.length) then bif decide (0≤q1.1)&&decide (q1.1<100) then bif Nat.blt (Int.toNat q1.1) a3.2.1.length then bif decide (0≤q1.2.1)&&decide (q1.2.1<Int.ofNat q2.length) then bif Nat.blt (Int.toNat q1.2.1) q2.length then bif decide (0≤a1.1)&&decide (a1.1<Int.ofNat a0.1.length) then bif decide (0≤q1.2.1)&&decide (q1.2.1<Int.ofNat q2.length) then bif Nat.blt (Int.toNat q1.2.1) q2.length then some (.inl (aR (a3.1+1),List.set a3.2.1 (Int.toNat q1.1) (List.set q2 (Int.toNat q1.2.1) (aR (List.getD q2 (Int.toNat q1.2.1) 0+(List.getD a0.1 (Int.toNat a1.1) (0,[],0,())).2.2.1))),())) else none else none else none else none else none else none else none else none else some (.inr a3.2)
def abt (a0:yCX) (a1:yCK) (a2:(yCC×eP)×Unit) (a3:(yBX×eP)×Unit) (a4:yBH):Option (Sum yBH (Bool×qx×yAW)):=let q1:=List.getD a1.1 (Int.toNat a4.1) (0,[],0,());let q2:=List.getD a3.1.1 (Int.toNat a4.1) (0,[],());let q3:=aR (a4.1+1);bif decide (a4.1<Int.ofNat a3.1.1.length) then bif decide (0≤a4.1)&&decide (a4.1<Int.ofNat a3.1.1.length) then bif decide (q2.1=0) then bif true&&decide (0≤a4.1)&&decide (a4.1≤Int.ofNat a3.1.1.length) then (Kt a0.1 a1.1 (List.drop 0 (List.take (Int.toNat a4.1) a3.1.1))).bind fun y5=>bif decide (0≤a4.1)&&decide (a4.1<Int.ofNat a1.1.length) then (Ku a0.1 y5.1.1 q1).bind fun y6=>(bif !!decide (y5.1.2.1=0) then bif !!decide (y6.1.2.1=0) then bif decide (0≤a4.1)&&decide (a4.1<Int.ofNat a1.1.length) then some (!has y6.1.1 q1.1,()) else none else some (true,()) else some (true,())).bind fun y7=>bif y7.1 then some (.inr (true,(false,()),[],())) else some (.inl (q3,a4.2)) else none else none else bif decide (0≤a4.1)&&decide (a4.1<Int.ofNat a1.1.length) then (x11 a2.1.1 q2 q1.2.1 (0,0,0,0,63,0,0,0,0,[],())).bind fun y5=>(IW a2.1.1 a0.1 y5.1.1 q2.1).bind fun y6=>(Py a0.1 y6.1.1).bind fun y7=>(bif !!decide (y5.1.2.1=0) then bif !!decide (y6.1.2.1=0) then bif decide (0≤a4.1)&&decide (a4.1<Int.ofNat a1.1.length) then some (!decide (y7.1.2.1=q1.2.1),()) else none else some (true,()) else some (true,())).bind fun y8=>bif y8.1 then some (.inr (true,(false,()),[],())) else (Loop (@abr a1 a4 y6) (0,a4.2)).bind fun y9=>some (.inl (q3,y9)) else none else none else some (.inr (false,(false,()),a4.2))
def abu (a0:yCX) (a1:Bool×qx×yAW) (a2:eP):Option (Sum eP yAX):=let q1:=List.getD a0.1.2.1 (Int.toNat a2.1) (0,0,0,0,0,());let q2:=List.getD a1.2.2.1 (Int.toNat q1.2.1) [];let q3:=List.getD a1.2.2.1 (Int.toNat q1.1) [];bif decide (a2.1<Int.ofNat a0.1.2.1.length) then bif decide (0≤a2.1)&&decide (a2.1<Int.ofNat a0.1.2.1.length) then (bif decide (0≤q1.1)&&decide (q1.1<100) then bif Nat.blt (Int.toNat q1.1) a1.2.2.1.length then bif decide (0≤q1.2.1)&&decide (q1.2.1<Int.ofNat q3.length) then bif !decide (List.getD q3 (Int.toNat q1.2.1) 0 > q1.2.2.2.2.1) then bif decide (0≤q1.2.1)&&decide (q1.2.1<100) then bif Nat.blt (Int.toNat q1.2.1) a1.2.2.1.length then bif decide (0≤q1.1)&&decide (q1.1<Int.ofNat q2.length) then some (decide (List.getD q2 (Int.toNat q1.1) 0 > q1.2.2.2.2.1),()) else none else none else none else some (true,()) else none else none else none).bind fun y3=>bif y3.1 then some (.inr (true,(false,()),())) else some (.inl (aR (a2.1+1),())) else none else some (.inr (false,(false,()),()))
def r4 (a0:lQ):Option qx:=(Kk (tape a0) 6).bind fun y1=>(Km y1.2 y1.1 6).bind fun y2=>(Kl y1.1 64).bind fun y3=>bif !decide (y3.1.2.1=0) then aA.x8.bind fun y4=>some y4 else (Kr y1.1 y2.1).bind fun y4=>(bif !!decide (y4.1.2.1=0) then some (!decide (Int.ofNat y4.1.1.length=Int.ofNat y2.1.length),()) else some (true,())).bind fun y5=>bif y5.1 then some (false,()) else (Loop abq (List.replicate 100 [],0,())).bind fun y6=>(Loop (@abt y1 y2 y3 y4) (0,y6)).bind fun y7=>bif y7.1 then some y7.2.1 else (Loop (@abu y1 y7) (0,())).bind fun y8=>bif y8.1 then some y8.2.1 else aA.x8.bind fun y9=>some y9
def x4 (b0:(List Int)):Option ((Bool)×Unit):=r4 b0
end
end aA
namespace Go.dw.rO
open Go Go.dw
noncomputable section
abbrev tape:List Lf:=[.sl 0 (.int .i64),.int .i64]
abbrev rtT:Ty:=.st 16 (.cons (.int .i64) (.cons .bool .unit))
abbrev lkT:Ty:=.st 40 (.cons (.int .i64) (.cons (.int .i64) (.cons (.int .i64) (.cons (.int .i64) (.cons (.int .i64) .unit)))))
abbrev toF:Ty:=.cons (.sl rtT) (.cons (.sl lkT) .unit)
abbrev rtl:List Lf:=[.int .i64,.bool]
abbrev lkl:List Lf:=[.int .i64,.int .i64,.int .i64,.int .i64,.int .i64]
abbrev tol:List Lf:=[.sl 0 rtT,.sl 0 lkT]
abbrev hpF:Ty:=.cons (.int .i64) (.cons (.int .i64) .unit)
abbrev hpT:Ty:=.st 16 hpF
abbrev hpl:List Lf:=[.int .i64,.int .i64]
abbrev trl:List Lf:=[.int .i64,.sl 0 hpT]
abbrev trT:Ty:=.st 32 (.cons (.int .i64) (.cons (.sl hpT) .unit))
abbrev adF:Ty:=.cons (.int .i64) (.cons (.int .i64) (.cons (.int .i64) (.cons (.int .i64) .unit)))
abbrev adT:Ty:=.st 32 adF
abbrev adl:List Lf:=[.int .i64,.int .i64,.int .i64,.int .i64]
abbrev egl:List Lf:=[.int .i64,.sl 0 adT]
abbrev tgF:Ty:=.cons (.int .i64) (.cons (.int .i64) (.cons (.int .i64) .unit))
abbrev tgl:List Lf:=[.int .i64,.int .i64,.int .i64]
abbrev arT:Ty:=.st 24 (.cons hpT (.cons (.int .i64) .unit))
abbrev ldT:Ty:=.st 24 tgF
abbrev dmT:Ty:=.st 40 (.cons (.int .i64) (.cons (.sl (.int .i64)) (.cons (.int .i64) .unit)))
abbrev dml:List Lf:=[.int .i64,.sl 0 (.int .i64),.int .i64]
abbrev pkl:List Lf:=[.int .i64,.int .i64,.int .i64,.int .i64,.int .i64,.int .i64,.int .i64,.int .i64,.int .u64,.str]
abbrev pkT:Ty:=.st 88 (.cons (.int .i64) (.cons (.int .i64) (.cons (.int .i64) (.cons (.int .i64) (.cons (.int .i64) (.cons (.int .i64) (.cons (.int .i64) (.cons (.int .i64) (.cons (.int .u64) (.cons .str .unit))))))))))
abbrev frT:Ty:=.st 112 (.cons (.sl (.int .i64)) (.cons pkT .unit))
abbrev cpT:Ty:=.st 120 (.cons (.int .i64) (.cons frT .unit))
abbrev dlT:Ty:=.st 96 (.cons (.int .i64) (.cons pkT .unit))
abbrev ocl:List Lf:=[.int .u64,.int .u64,.sl 0 cpT]
abbrev snT:Ty:=.st 152 (.cons adT (.cons cpT .unit))
abbrev crT:Ty:=.st 24 (.cons (.int .i64) (.cons (.int .i64) (.cons (.int .u64) .unit)))
abbrev loT:Ty:=.st 16 (.cons (.int .i64) (.cons (.int .u64) .unit))
abbrev tcl:List Lf:=[.sl 0 dlT,.sl 0 crT,.sl 0 loT]
abbrev i:Sh:=.lf (.int .i64)
abbrev u:Sh:=.lf (.int .u64)
abbrev b:Sh:=.lf .bool
abbrev ls:Sh:=.lf (.sl 0 (.int .i64))
abbrev lso:Sh:=.lf (.sl 2 (.int .i64))
abbrev rtr:Sh:=.agg rtl
abbrev lnk:Sh:=.agg lkl
abbrev wS:Sh:=.agg tol
abbrev rts:Sh:=.lf (.sl 0 rtT)
abbrev lks:Sh:=.lf (.sl 0 lkT)
abbrev k94:Sh:=.lf (.cst (.BG 94))
abbrev k98:Sh:=.lf (.cst (.BG 98))
abbrev aoR:Sh:=.lf (.cst (.BG 100))
abbrev aoS:Sh:=.lf (.cst (.BG 102))
abbrev k45:Sh:=.lf (.cst (.BG 45))
abbrev vT:Sh:=.lf (.vp toF)
abbrev vU:Sh:=.lf (.vp (.cons (.iF 96 toF) .unit))
abbrev agH:Sh:=.lf (.iF 101 (.cons (.iF 96 toF) .unit))
abbrev hp:Sh:=.agg hpl
abbrev lhp:Sh:=.lf (.sl 0 hpT)
abbrev tr:Sh:=.agg trl
abbrev ltr:Sh:=.lf (.sl 0 trT)
abbrev ad:Sh:=.agg adl
abbrev lad:Sh:=.lf (.sl 0 adT)
abbrev eg:Sh:=.agg egl
abbrev tg:Sh:=.agg tgl
abbrev vG:Sh:=.lf (.vp tgF)
abbrev aoT:Sh:=.lf (.iF 156 tgF)
abbrev lar:Sh:=.lf (.sl 0 arT)
abbrev ajq:Sh:=.lf (.sl 2 arT)
abbrev lld:Sh:=.lf (.sl 0 ldT)
abbrev ldm:Sh:=.lf (.sl 0 dmT)
abbrev dm:Sh:=.agg dml
abbrev p:Sh:=.agg pkl
abbrev oc:Sh:=.agg ocl
abbrev lsn:Sh:=.lf (.sl 0 snT)
abbrev tc:Sh:=.agg tcl
abbrev LC:=List (Nat×cu)
abbrev iT (ps:List Sh) (rs:RS) (F:(Ty.cons (fJ []) (kJ ps)).den→Option (Ty.cons rs.ty (fJ [])).den):cu:={ bM:=false,pre:=[],ps:=ps,rs:=rs,post:=[],F:=F }
abbrev knT (ps:List Sh) (rs:RS) (F:(Ty.cons (fJ tape) (kJ ps)).den→Option (Ty.cons rs.ty (fJ tape)).den):cu:={ bM:=true,pre:=tape,ps:=ps,rs:=rs,post:=tape,F:=F }
def c32:cu:=iT [i,i] (.one i) fun x=>some (aA.cut x.2.1 x.2.2.1,())
def c33:cu:=knT [] (.one i) fun x=>aA.on (aA.wf x.1) (aA.raw x.1)
def c9:cu:=knT [i] (.one i) fun x=>aA.on (aA.wf x.1) (aA.next x.1 x.2.1)
def c6:cu:=iT [ls] (.Ac tape) fun x=>some (aA.tape x.2.1,())
def c48:cu:=knT [i,i] (.one i) fun x=>aA.on (aA.wf x.1&&aA.small x.2.1&&aA.small x.2.2.1) (aA.range x.1 x.2.1 x.2.2.1)
def c49:cu:=knT [ls] (.one i) fun x=>aA.on (aA.wf x.1&&decide (0<x.2.1.length)&&decide (x.2.1.length≤1000)) (aA.pick x.1 x.2.1)
def c17:cu:=iT [ls,ls] (.one b) fun x=>some (decide (x.2.1=x.2.2.1),())
def c47:cu:=iT [ls,i] (.one ls) fun x=>aA.on (decide (x.2.1.length≤1000000)) (aA.qJ x.2.1 x.2.2.1,())
def c10:cu:=iT [ls,i] (.one b) fun x=>some (aA.has x.2.1 x.2.2.1,())
def c139:cu:=iT [i] (.one b) fun x=>some (false,())
def c73:cu:=iT [i,i] (.one i) fun x=>some (aA.dJ x.2.1 x.2.2.1,())
def avA:cu:=iT [ls] (.one i) fun x=>some (aA.dz x.2.1,())
def c89:cu:=iT [i,i] (.one b) fun x=>some (aA.inside x.2.1 0 x.2.2.1,())
def c81:cu:=iT [i] (.one b) fun x=>some (aA.rQ x.2.1,())
def c157:cu:=iT [i] (.one u) fun x=>some (aA.Bt.full x.2.1,())
def c90:cu:=iT [u,i] (.one b) fun x=>some (aA.vB x.2.1 x.2.2.1,())
def c35:cu:=iT [p] (.one b) fun x=>some (aA.mD x.2.1,())
def c95:cu:=iT [i,i,i] (.one b) fun x=>some (aA.inside x.2.1 x.2.2.1 x.2.2.2.1,())
def c98:cu:=iT [rtr,i] (.one i) fun x=>some (aA.dJ x.2.1.1 x.2.2.1,())
def c45:cu:=iT [lnk,lnk] (.one i) fun x=>some (aA.xO x.2.1 x.2.2.1,())
def c94:cu:=iT [rtr] (.one b) fun x=>some (aA.tH x.2.1,())
def avB:cu:=iT [rts,k94] (.one i) fun x=>some (aA.idx aA.tH x.2.1,())
def c93:cu:=iT [rts,k94] (.one b) fun x=>some (x.2.1.any aA.tH,())
def avC:cu:=iT [lnk] (.one b) fun x=>some (aA.rR x.2.1,())
def c159:cu:=iT [lks,aoR] (.one i) fun x=>some (aA.idx aA.rR x.2.1,())
def c99:cu:=iT [lks,aoR] (.one b) fun x=>some (x.2.1.any aA.rR,())
def c97:cu:=iT [rts,i,k98] (.iJ [i,b]) fun x=>some (aA.bs x.2.1 x.2.2.1,())
def c96:cu:=iT [i,vT] (.one b) fun x=>some (aA.unk x.2.2.1 x.2.1,())
def avD:cu:=iT [lnk,vU] (.one b) fun x=>some (aA.unk x.2.2.1.1 x.2.1.1 || aA.unk x.2.2.1.1 x.2.1.2.1,())
def aoV:cu:=iT [lks,agH] (.one i) fun x=>some (aA.idx (fun l=>aA.unk x.2.2.1.1 l.1 || aA.unk x.2.2.1.1 l.2.1) x.2.1,())
def aoW:cu:=iT [lks,agH] (.one b) fun x=>some (x.2.1.any (fun l=>aA.unk x.2.2.1.1 l.1 || aA.unk x.2.2.1.1 l.2.1),())
def avE:cu:=iT [lnk] (.one b) fun x=>some (aA.down x.2.1,())
def aoX:cu:=iT [lks,aoS] (.one i) fun x=>some (aA.idx aA.down x.2.1,())
def aoY:cu:=iT [lks,aoS] (.one b) fun x=>some (x.2.1.any aA.down,())
def c37:cu:=iT [wS] (.one i) fun x=>some (aA.lT x.2.1,())
def avF:cu:=iT [wS,i] (.iJ [rtr,b]) fun x=>some (aA.find x.2.1 x.2.2.1,())
def c41:cu:=iT [wS] (.one b) fun x=>some (aA.RZ x.2.1,())
def c38:cu:=iT [wS,i] (.one b) fun x=>some (aA.AU x.2.1 x.2.2.1,())
def avG:cu:=iT [ls,i] (.one i) fun x=>some (aA.idx (fun y=>decide (x.2.2.1=y)) x.2.1,())
def c39:cu:=iT [ls,i] (.one b) fun x=>some (x.2.1.any fun y=>decide (x.2.2.1=y),())
def avH:cu:=iT [i] (.one b) fun x=>some (aA.inside x.2.1 1 1000,())
def avI:cu:=iT [wS,i] (.one b) fun x=>some (aA.jR x.2.1.1 x.2.2.1,())
def c50:cu:=iT [wS] (.one i) fun x=>some (aA.lT x.2.1,())
def avJ:cu:=iT [wS,i,i] (.iJ [i,b]) fun x=>some (aA.price x.2.1.2.1 x.2.2.1 x.2.2.2.1,())
def c116:cu:=iT [wS,i] (.one lso) fun x=>some (aA.near x.2.1 x.2.2.1,())
def c66:cu:=iT [p,i] (.one p) fun x=>some (aA.only x.2.1 x.2.2.1,())
def c18:cu:=knT [i] (.one wS) fun x=>aA.Kk x.1 x.2.1
def c44:cu:=iT [lks,lnk,k45] (.iJ [i,b]) fun x=>aA.Pt x.2.1 x.2.2.1 x.2.2.2.1
def c15:cu:=iT [wS,i,i] (.iJ [i,b]) fun x=>aA.Nn x.2.1 x.2.2.1 x.2.2.2.1
def c46:cu:=iT [wS,i,i] (.iJ [i,b]) fun x=>aA.Pv x.2.1 x.2.2.1 x.2.2.2.1
def c51:cu:=iT [i] (.one b) fun x=>aA.Pw x.2.1
def c52:cu:=iT [wS,i] (.one ls) fun x=>aA.Mj x.2.1 x.2.2.1
def c20:cu:=iT [wS,i] (.iJ [eg,i]) fun x=>aA.Kl x.2.1 x.2.2.1
def c29:cu:=knT [wS,i] (.one ls) fun x=>aA.Px x.1 x.2.1 x.2.2.1
def c19:cu:=knT [wS,i] (.one ldm) fun x=>aA.Km x.1 x.2.1 x.2.2.1
def c16:cu:=iT [wS,tc] (.iJ [i,ls]) fun x=>aA.Py x.2.1 x.2.2.1
def c127:cu:=iT [ls] (.one b) fun x=>aA.pF x.2.1
def c68:cu:=iT [wS,i,ls] (.one i) fun x=>aA.Np x.2.1 x.2.2.1 x.2.2.2.1
def c117:cu:=iT [wS,dm] (.one i) fun x=>aA.vC x.2.1 x.2.2.1
def c53:cu:=iT [wS,ldm] (.one i) fun x=>aA.IU x.2.1 x.2.2.1
def c58:cu:=iT [tr] (.one b) fun x=>aA.IV x.2.1
def avK:cu:=iT [i] (.one b) fun x=>aA.nZ x.2.1
def c84:cu:=iT [ls] (.one i) fun x=>aA.Nq x.2.1
def c152:cu:=iT [tr] (.yu (.int .i64) .bool) fun x=>aA.x152 x.2.1
def c85:cu:=iT [tr] (.one i) fun x=>aA.Ko x.2.1
def avL:cu:=iT [ad] (.one tg) fun x=>aA.pU x.2.1
def c63:cu:=iT [eg] (.one i) fun x=>aA.Nr x.2.1
def avM:cu:=iT [eg,i] (.one u) fun x=>aA.rU x.2.1 x.2.2.1
def c64:cu:=iT [eg,p] (.one i) fun x=>aA.Pz x.2.1 x.2.2.1
def c156:cu:=iT [ad,vG] (.one b) fun x=>aA.ae5 x.2.1 x.2.2.1
def aoZ:cu:=iT [lad,aoT] (.one i) fun x=>aA.U5 x.2.1 x.2.2.1
def c88:cu:=iT [eg,tg] (.iJ [i,b]) fun x=>aA.Ns x.2.1 x.2.2.1
def avN:cu:=iT [i,i] (.one b) fun x=>aA.x153 x.2.1 x.2.2.1
def c154:cu:=iT [i] (.one b) fun x=>aA.ae6 x.2.1
def c87:cu:=iT [ls,i] (.iJ [i,b]) fun x=>aA.on (aA.upI x.2.1) (aA.bsI x.2.1 x.2.2.1,())
def ao0:cu:={ bM:=false,pre:=[],ps:=[],rs:=.none,post:=[],F:=fun _=>none,xf:=some UW }
def c86:cu:=iT [tr] (.one ls) fun x=>aA.Mq x.2.1
def c34:cu:=iT [eg,tr,ls] (.iJ [u,i]) fun x=>aA.PE x.2.1 x.2.2.1 x.2.2.2.1
def c11:cu:=iT [eg,tr,ls,p] (.iJ [p,i]) fun x=>aA.x11 x.2.1 x.2.2.1 x.2.2.2.1 x.2.2.2.2.1
def c65:cu:=iT [eg,i,p] (.iJ [oc,lsn]) fun x=>aA.Nt x.2.1 x.2.2.1 x.2.2.2.1
def c77:cu:=iT [wS,i,i] (.one ls) fun x=>none
def c67:cu:=iT [wS,i,ad] (.iJ [ls,b]) fun x=>aA.Nu x.2.1 x.2.2.1 x.2.2.2.1
def c24:cu:=iT [eg,wS,p,i] (.iJ [tc,i]) fun x=>aA.IW x.2.1 x.2.2.1 x.2.2.2.1 x.2.2.2.2.1
def c59:cu:=iT [wS,tr,ls] (.one i) fun x=>aA.Mr x.2.1 x.2.2.1 x.2.2.2.1
def ao1:cu:={ bM:=false,pre:=[],ps:=[],rs:=.none,post:=[],F:=fun _=>none,xf:=some UY }
def c74:cu:=iT [wS] (.one ajq) fun x=>aA.on (decide (x.2.1.2.1.length≤1000)) (Go.dw.rO.Cz x.2.1.2.1,())
def c55:cu:=iT [lar,i,ls] (.iJ [lhp,i,b]) fun x=>aA.cheap x.2.1 x.2.2.1 x.2.2.2.1
def c30:cu:=iT [wS,i,ls] (.iJ [tr,i,i]) fun x=>aA.Ms x.2.1 x.2.2.1 x.2.2.2.1
def c54:cu:=iT [wS] (.yu hpT (.int .i64)) fun x=>aA.Kq x.2.1
def c57:cu:={ bM:=false,pre:=[],ps:=[],rs:=.none,post:=[],F:=fun _=>none,xf:=some ae0 }
def c56:cu:={ bM:=false,pre:=[],ps:=[],rs:=.none,post:=[],F:=fun _=>none,xf:=some ae1 }
def c60:cu:={ bM:=false,pre:=[],ps:=[],rs:=.none,post:=[],F:=fun _=>none,xf:=some ae2 }
def Xn:cu:=iT [lar,i] (.one ls) fun x=>aA.on (decide (x.2.1.length≤2000)) (aA.D6 x.2.1 x.2.2.1,())
def c61:cu:={ bM:=false,pre:=[],ps:=[],rs:=.none,post:=[],F:=fun _=>none,xf:=some ae3 }
def c62:cu:={ bM:=false,pre:=[],ps:=[],rs:=.none,post:=[],F:=fun _=>none,xf:=some ae4 }
def c21:cu:=iT [wS,ldm] (.iJ [ltr,i]) fun x=>aA.Kr x.2.1 x.2.2.1
def c22:cu:=iT [wS,ldm,ltr] (.iJ [lld,i]) fun x=>aA.Kt x.2.1 x.2.2.1 x.2.2.2.1
def c23:cu:=iT [wS,lld,dm] (.iJ [ls,i]) fun x=>aA.Ku x.2.1 x.2.2.1 x.2.2.2.1
def c31:cu:=iT [wS,i] (.iJ [eg,i]) fun x=>aA.aaQ x.2.1 x.2.2.1
def c8:cu:=iT [] (.one b) fun x=>aA.x8
def c4:cu:=iT [ls] (.one b) fun x=>aA.x4 x.2.1
abbrev L0:List (Nat×cu):=[]
abbrev L32:LC:=(32,c32)::L0
abbrev L33:LC:=(33,c33)::L32
abbrev L9:LC:=(9,c9)::L33
abbrev L6:LC:=(6,c6)::L9
abbrev L48:LC:=(48,c48)::L6
abbrev L49:LC:=(49,c49)::L48
abbrev L17:LC:=(17,c17)::L49
abbrev L47:LC:=(47,c47)::L17
abbrev L10:LC:=(10,c10)::L47
abbrev ao2:LC:=(139,c139)::L10
abbrev L73:LC:=(73,c73)::ao2
abbrev ao3:LC:=(112,avA)::L73
abbrev L89:LC:=(89,c89)::ao3
abbrev L81:LC:=(81,c81)::L89
abbrev ao4:LC:=(157,c157)::L81
abbrev L90:LC:=(90,c90)::ao4
abbrev L35:LC:=(35,c35)::L90
abbrev L95:LC:=(95,c95)::L35
abbrev L98:LC:=(98,c98)::L95
abbrev L45:LC:=(45,c45)::L98
abbrev L94:LC:=(94,c94)::L45
abbrev ao5:LC:=(158,avB)::L94
abbrev L93:LC:=(93,c93)::ao5
abbrev L100:LC:=(100,avC)::L93
abbrev ao6:LC:=(159,c159)::L100
abbrev L99:LC:=(99,c99)::ao6
abbrev L97:LC:=(97,c97)::L99
abbrev L96:LC:=(96,c96)::L97
abbrev ao7:LC:=(101,avD)::L96
abbrev agJ:LC:=(159,aoV)::ao7
abbrev agK:LC:=(1000099,aoW)::agJ
abbrev ao8:LC:=(102,avE)::agK
abbrev agL:LC:=(159,aoX)::ao8
abbrev abv:LC:=(2000099,aoY)::agL
abbrev L37:LC:=(37,c37)::abv
abbrev ajs:LC:=(103,avF)::L37
abbrev L41:LC:=(41,c41)::ajs
abbrev L38:LC:=(38,c38)::L41
abbrev ao9:LC:=(104,avG)::L38
abbrev L39:LC:=(39,c39)::ao9
abbrev apa:LC:=(114,avH)::L39
abbrev apb:LC:=(115,avI)::apa
abbrev L50:LC:=(50,c50)::apb
abbrev apc:LC:=(113,avJ)::L50
abbrev apd:LC:=(116,c116)::apc
abbrev L66:LC:=(66,c66)::apd
abbrev L18:LC:=(18,c18)::L66
abbrev L44:LC:=(44,c44)::L18
abbrev L15:LC:=(15,c15)::L44
abbrev L46:LC:=(46,c46)::L15
abbrev L51:LC:=(51,c51)::L46
abbrev L52:LC:=(52,c52)::L51
abbrev L20:LC:=(20,c20)::L52
abbrev L29:LC:=(29,c29)::L20
abbrev L19:LC:=(19,c19)::L29
abbrev L16:LC:=(16,c16)::L19
abbrev ape:LC:=(127,c127)::L16
abbrev L68:LC:=(68,c68)::ape
abbrev apf:LC:=(117,c117)::L68
abbrev L53:LC:=(53,c53)::apf
abbrev L58:LC:=(58,c58)::L53
abbrev apg:LC:=(132,avK)::L58
abbrev L84:LC:=(84,c84)::apg
abbrev aph:LC:=(152,c152)::L84
abbrev L85:LC:=(85,c85)::aph
abbrev apj:LC:=(133,avL)::L85
abbrev L63:LC:=(63,c63)::apj
abbrev apk:LC:=(134,avM)::L63
abbrev L64:LC:=(64,c64)::apk
abbrev apl:LC:=(156,c156)::L64
abbrev agM:LC:=(155,aoZ)::apl
abbrev L88:LC:=(88,c88)::agM
abbrev apm:LC:=(153,avN)::L88
abbrev ajt:LC:=(154,c154)::apm
abbrev L87:LC:=(87,c87)::ajt
abbrev apn:LC:=(111,ao0)::L87
abbrev L86:LC:=(86,c86)::apn
abbrev L34:LC:=(34,c34)::L86
abbrev L11:LC:=(11,c11)::L34
abbrev L65:LC:=(65,c65)::L11
abbrev L77:LC:=(77,c77)::L65
abbrev L67:LC:=(67,c67)::L77
abbrev L24:LC:=(24,c24)::L67
abbrev L59:LC:=(59,c59)::L24
abbrev aju:LC:=(140,ao1)::L59
abbrev L74:LC:=(74,c74)::aju
abbrev L55:LC:=(55,c55)::L74
abbrev L30:LC:=(30,c30)::L55
abbrev L54:LC:=(54,c54)::L30
abbrev L57:LC:=(57,c57)::L54
abbrev L56:LC:=(56,c56)::L57
abbrev L60:LC:=(60,c60)::L56
abbrev apo:LC:=(130,Xn)::L60
abbrev L61:LC:=(61,c61)::apo
abbrev L62:LC:=(62,c62)::L61
abbrev L21:LC:=(21,c21)::L62
abbrev L22:LC:=(22,c22)::L21
abbrev L23:LC:=(23,c23)::L22
abbrev L31:LC:=(31,c31)::L23
abbrev L8:LC:=(8,c8)::L31
end
end Go.dw.rO