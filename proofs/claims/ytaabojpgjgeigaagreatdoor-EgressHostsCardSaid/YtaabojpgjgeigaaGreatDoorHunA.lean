/- Chapter 29 (egress, hosts): the tables and the plain specification; proved are small facts on these; no conditions but those that each theorem states. -/
import Derived.Test.YtaabojpgjgeigaaGreatDoorAbsD
import Derived.Test.YtaabojpgjgeigaaGreatDoorProg
import Derived.KernelRfl
import Derived.Sort.Defs
import Derived.Lib.BitFns
set_option linter.unusedVariables false
set_option linter.unusedSimpArgs false
namespace Go.gI.qJ
open Go.Proofs
def bG (n:String) (t o b:Nat):Field:={ name:=n,type:=t,offset:=o,byteOffset:=b,embedded:=false,tag:="",pkgPath:="" }
abbrev bI:D:=.int .i64 0
abbrev NU:D:=.str []
abbrev aaQ:D:=.bool false
abbrev jv (t:Ty):D:=.sl 2 t []
def tti (a s b:Nat) (g:Bool) (t:Ty) (d:TypeDesc) (z:List D) (r:Option Ty) (c:Option (List Nat)):Nat×TI:=(a,⟨s,b,g,t,d,z,r,c⟩)
def uH (a e:Nat) (t:Ty):Nat×TI:=(a,⟨1,24,false,.sl t,.slice e,[.sl 2 t []],none,none⟩)
abbrev vL:Ty:=.st 16 (.cons (.int .i64) (.cons .bool .unit))
abbrev agC:Ty:=.st 2 (.cons (.int .u8) (.cons (.int .u8) .unit))
abbrev anE:Ty:=.sl vL
abbrev sw:Ty:=.st 16 (.cons (.int .i64) (.cons (.int .i64) .unit))
abbrev yD:Ty:=.st 16 (.cons (.int .i64) (.cons (.int .u64) .unit))
abbrev anF:Ty:=.sl sw
abbrev anG:Ty:=.st 32 (.cons (.sl (.int .i64)) (.cons (.int .i64) .unit))
abbrev Bg:Ty:=.st 32 (.cons (.int .i64) (.cons (.sl (.int .i64)) .unit))
abbrev agD:Ty:=.sl yD
abbrev agE:Ty:=.sl Bg
abbrev Dn:Ty:=.st 24 (.cons (.int .i64) (.cons (.int .i64) (.cons (.int .i64) .unit)))
abbrev Hr:Ty:=.st 24 (.cons (.int .i64) (.cons (.int .i64) (.cons (.int .u64) .unit)))
abbrev agF:Ty:=.sl Hr
abbrev agG:Ty:=.sl Dn
abbrev agH:Ty:=.st 32 (.cons (.int .i64) (.cons (.int .i64) (.cons (.int .i64) (.cons (.int .i64) .unit))))
abbrev QW:Ty:=.st 40 (.cons (.int .i64) (.cons Bg .unit))
abbrev vM:Ty:=.st 40 (.cons (.int .i64) (.cons (.int .i64) (.cons (.int .i64) (.cons (.int .i64) (.cons (.int .i64) .unit)))))
abbrev anH:Ty:=.sl vM
abbrev Va:Ty:=.st 40 (.cons (.int .i64) (.cons (.int .i64) (.cons anF .unit)))
abbrev sU:Ty:=.st 48 (.cons (.int .i64) (.cons (.int .i64) (.cons Bg .unit)))
abbrev ZJ:Ty:=.sl sU
abbrev Vb:Ty:=.st 48 (.cons (.int .i64) (.cons (.int .i64) (.cons sw (.cons .str .unit))))
abbrev JF:Ty:=.st 56 (.cons (.int .i64) (.cons (.int .i64) (.cons Bg (.cons (.int .i64) .unit))))
abbrev anI:Ty:=.sl JF
abbrev QX:Ty:=.st 48 (.cons (.int .i64) (.cons (.int .i64) (.cons (.int .i64) (.cons agE .unit))))
abbrev QY:Ty:=.st 32 (.cons (.int .i64) (.cons anI .unit))
abbrev agI:Ty:=.st 48 (.cons anE (.cons anH .unit))
abbrev QZ:Ty:=.st 88 (.cons (.int .i64) (.cons (.int .i64) (.cons (.int .i64) (.cons (.int .i64) (.cons (.int .i64) (.cons (.int .i64) (.cons (.int .i64) (.cons (.int .i64) (.cons (.int .u64) (.cons .str .unit))))))))))
abbrev Ht:Ty:=.st 48 (.cons (.int .i64) (.cons (.int .i64) (.cons (.int .i64) (.cons ZJ .unit))))
abbrev agJ:Ty:=.sl Ht
abbrev JG:Ty:=.st 40 (.cons (.int .i64) (.cons QY .unit))
abbrev anJ:Ty:=.sl JG
abbrev pQ:Ty:=.st 96 (.cons (.int .i64) (.cons (.int .i64) (.cons (.int .i64) (.cons (.int .i64) (.cons (.int .i64) (.cons (.int .i64) (.cons (.int .i64) (.cons (.int .i64) (.cons Bg .unit)))))))))
abbrev anK:Ty:=.sl pQ
abbrev NV:Ty:=.st 96 (.cons (.int .i64) (.cons QZ .unit))
abbrev anL:Ty:=.sl NV
abbrev ZK:Ty:=.st 112 (.cons (.sl (.int .i64)) (.cons QZ .unit))
abbrev qK:Ty:=.st 40 (.cons (.int .i64) (.cons (.int .i64) (.cons agJ .unit)))
abbrev anM:Ty:=.sl qK
abbrev qL:Ty:=.st 72 (.cons (.int .i64) (.cons (.int .i64) (.cons (.int .i64) (.cons ZJ (.cons agG .unit)))))
abbrev Bh:Ty:=.st 120 (.cons (.int .i64) (.cons ZK .unit))
abbrev anN:Ty:=.sl qL
abbrev agK:Ty:=.sl Bh
abbrev agL:Ty:=.st 40 (.cons (.int .u64) (.cons (.int .u64) (.cons agK .unit)))
abbrev agM:Ty:=.st 72 (.cons anL (.cons agF (.cons agD .unit)))
abbrev agN:Ty:=.st 72 (.cons anN (.cons anM (.cons anK .unit)))
abbrev agO:Ty:=.st 64 (.cons (.int .u8) (.cons (.int .u8) (.cons (.int .u8) (.cons (.int .u8) (.cons (.int .u8) (.cons (.int .u8) (.cons (.int .u8) (.cons (.int .u8) (.cons (.int .u8) (.cons (.int .u8) (.cons (.int .u8) (.cons (.int .u8) (.cons (.int .u8) (.cons (.int .u8) (.cons (.int .u8) (.cons (.int .u8) (.cons (.int .u8) (.cons (.int .u8) (.cons (.int .u8) (.cons (.int .u8) (.cons (.int .u8) (.cons (.int .u8) (.cons (.int .u8) (.cons (.int .u8) (.cons (.int .u8) (.cons (.int .u8) (.cons (.int .u8) (.cons (.int .u8) (.cons (.int .u8) (.cons (.int .u8) (.cons (.int .u8) (.cons (.int .u8) (.cons (.int .u8) (.cons (.int .u8) (.cons (.int .u8) (.cons (.int .u8) (.cons (.int .u8) (.cons (.int .u8) (.cons (.int .u8) (.cons (.int .u8) (.cons (.int .u8) (.cons (.int .u8) (.cons (.int .u8) (.cons (.int .u8) (.cons (.int .u8) (.cons (.int .u8) (.cons (.int .u8) (.cons (.int .u8) (.cons (.int .u8) (.cons (.int .u8) (.cons (.int .u8) (.cons (.int .u8) (.cons (.int .u8) (.cons (.int .u8) (.cons (.int .u8) (.cons (.int .u8) (.cons (.int .u8) (.cons (.int .u8) (.cons (.int .u8) (.cons (.int .u8) (.cons (.int .u8) (.cons (.int .u8) (.cons (.int .u8) (.cons (.int .u8) .unit))))))))))))))))))))))))))))))))))))))))))))))))))))))))))))))))
abbrev agP:Ty:=.st 100 (.cons .bool (.cons .bool (.cons .bool (.cons .bool (.cons .bool (.cons .bool (.cons .bool (.cons .bool (.cons .bool (.cons .bool (.cons .bool (.cons .bool (.cons .bool (.cons .bool (.cons .bool (.cons .bool (.cons .bool (.cons .bool (.cons .bool (.cons .bool (.cons .bool (.cons .bool (.cons .bool (.cons .bool (.cons .bool (.cons .bool (.cons .bool (.cons .bool (.cons .bool (.cons .bool (.cons .bool (.cons .bool (.cons .bool (.cons .bool (.cons .bool (.cons .bool (.cons .bool (.cons .bool (.cons .bool (.cons .bool (.cons .bool (.cons .bool (.cons .bool (.cons .bool (.cons .bool (.cons .bool (.cons .bool (.cons .bool (.cons .bool (.cons .bool (.cons .bool (.cons .bool (.cons .bool (.cons .bool (.cons .bool (.cons .bool (.cons .bool (.cons .bool (.cons .bool (.cons .bool (.cons .bool (.cons .bool (.cons .bool (.cons .bool (.cons .bool (.cons .bool (.cons .bool (.cons .bool (.cons .bool (.cons .bool (.cons .bool (.cons .bool (.cons .bool (.cons .bool (.cons .bool (.cons .bool (.cons .bool (.cons .bool (.cons .bool (.cons .bool (.cons .bool (.cons .bool (.cons .bool (.cons .bool (.cons .bool (.cons .bool (.cons .bool (.cons .bool (.cons .bool (.cons .bool (.cons .bool (.cons .bool (.cons .bool (.cons .bool (.cons .bool (.cons .bool (.cons .bool (.cons .bool (.cons .bool (.cons .bool .unit))))))))))))))))))))))))))))))))))))))))))))))))))))))))))))))))))))))))))))))))))))))))))))))))))))
abbrev anO:Ty:=.st 184 (.cons agI (.cons Va (.cons anJ (.cons agN .unit))))
def tab:List (Nat×TI):=[tti 3 1 8 false (.int .i64) (.int .i64) [bI] none none,
 tti 4 1 1 false .bool .bool [aaQ] none none,
 tti 5 1 1 false (.int .u8) (.int .u8) [(.int .u8 0)] none none,
 tti 9 1 16 false .str .string [NU] none none,
 uH 22 3 (.int .i64),
 tti 23 1 8 false .unit (.pointer 78) [.undef] none none,
 uH 25 133 vL,
 uH 26 137 vM,
 tti 28 2 48 true agI (.struct #[bG "Routers" 25 0 0,bG "Links" 26 1 24]) [(jv vL),(jv vM)] none none,
 uH 29 82 sw,
 tti 31 3 40 true Va (.struct #[bG "Subdomain" 3 0 0,bG "Length" 3 1 8,bG "Edges" 29 2 16]) [bI,bI,(jv sw)] none none,
 uH 32 53 JG,
 uH 33 143 qL,
 uH 34 148 qK,
 uH 35 166 pQ,
 tti 37 3 72 true agN (.struct #[bG "Speakers" 33 0 0,bG "Listeners" 34 1 24,bG "Flight" 35 2 48]) [(jv qL),(jv qK),(jv pQ)] none none,
 tti 39 9 184 true anO (.struct #[bG "Topology" 28 0 0,bG "Plan" 31 2 48,bG "Sites" 32 5 88,bG "Overlay" 37 6 112]) [(jv vL),(jv vM),bI,bI,(jv sw),(jv JG),(jv qL),(jv qK),(jv pQ)] none none,
 uH 41 47 NV,
 tti 43 1 8 false (.int .u64) (.int .u64) [(.int .u64 0)] none none,
 tti 45 10 88 true QZ (.struct #[bG "Mode" 3 0 0,bG "Subdomain" 3 1 8,bG "Set" 3 2 16,bG "Length" 3 3 24,bG "TTL" 3 4 32,bG "Entropy" 3 5 40,bG "Ingress" 3 6 48,bG "Proto" 3 7 56,bG "Bits" 43 8 64,bG "Payload" 9 9 72]) [bI,bI,bI,bI,bI,bI,bI,bI,(.int .u64 0),NU] none (some [0,0,0,0,0,0,0,0,0,2]),
 tti 47 11 96 true NV (.struct #[bG "Router" 3 0 0,bG "Packet" 45 1 8]) [bI,bI,bI,bI,bI,bI,bI,bI,bI,(.int .u64 0),NU] none (some [0,0,0,0,0,0,0,0,0,0,2]),
 uH 49 89 JF,
 tti 51 2 32 true QY (.struct #[bG "Now" 3 0 0,bG "List" 49 1 8]) [bI,(jv JF)] none none,
 tti 53 3 40 true JG (.struct #[bG "Router" 3 0 0,bG "Members" 51 1 8]) [bI,bI,(jv JF)] none none,
 uH 54 66 Vb,
 tti 55 1 8 false (.int .i64) (.int .i64) [bI] none none,
 tti 59 2 16 true sw (.struct #[bG "Source" 3 0 0,bG "Group" 3 1 8]) [bI,bI] none (some [0,0]),
 tti 66 5 48 true Vb (.struct #[bG "Host" 3 0 0,bG "Router" 3 1 8,bG "Flow" 59 2 16,bG "Data" 9 4 32]) [bI,bI,bI,bI,NU] none (some [0,0,0,0,2]),
 uH 70 51 QY,
 uH 72 31 Va,
 uH 74 59 sw,
 tti 78 2 32 true anG (.struct #[bG "L" 22 0 0,bG "At" 3 1 24]) [(jv (.int .i64)),bI] none none,
 tti 82 2 16 true sw (.struct #[bG "Router" 3 0 0,bG "ID" 3 1 8]) [bI,bI] none (some [0,0]),
 tti 87 2 32 true Bg (.struct #[bG "Mode" 3 0 0,bG "Sources" 22 1 8]) [bI,(jv (.int .i64))] none none,
 tti 89 5 56 true JF (.struct #[bG "Host" 3 0 0,bG "Group" 3 1 8,bG "Filter" 87 2 16,bG "Until" 3 4 48]) [bI,bI,bI,(jv (.int .i64)),bI] none none,
 uH 94 156 QW,
 uH 99 175 sw,
 uH 101 179 QX,
 uH 105 45 QZ,
 uH 108 257 Hr,
 uH 109 255 yD,
 tti 111 3 72 true agM (.struct #[bG "Deliveries" 41 0 0,bG "Crossings" 108 1 24,bG "Losses" 109 2 48]) [(jv NV),(jv Hr),(jv yD)] none none,
 tti 127 1 8 false (.int .u64) (.int .u64) [(.int .u64 0)] none none,
 uH 128 9 .str,
 tti 130 1 8 false .unit (.func #[66,66] #[3] false) [.undef] none none,
 tti 133 2 16 true vL (.struct #[bG "ID" 3 0 0,bG "Capable" 4 1 8]) [bI,aaQ] none (some [0,1]),
 uH 134 135 (.sl .bool),
 uH 135 4 .bool,
 tti 137 5 40 true vM (.struct #[bG "A" 3 0 0,bG "B" 3 1 8,bG "CostA" 3 2 16,bG "CostB" 3 3 24,bG "Capacity" 3 4 32]) [bI,bI,bI,bI,bI] none (some [0,0,0,0,0]),
 uH 140 230 sU,
 uH 141 171 Dn,
 tti 143 5 72 true qL (.struct #[bG "Router" 3 0 0,bG "Epoch" 3 1 8,bG "Last" 3 2 16,bG "Items" 140 3 24,bG "Peers" 141 4 48]) [bI,bI,bI,(jv sU),(jv Dn)] none none,
 uH 146 221 Ht,
 tti 148 3 40 true qK (.struct #[bG "Router" 3 0 0,bG "Epoch" 3 1 8,bG "Heard" 146 2 16]) [bI,bI,(jv Ht)] none none,
 tti 156 3 40 true QW (.struct #[bG "Group" 3 0 0,bG "Filter" 87 1 8]) [bI,bI,(jv (.int .i64))] none none,
 tti 166 10 96 true pQ (.struct #[bG "Kind" 3 0 0,bG "From" 3 1 8,bG "To" 3 2 16,bG "Epoch" 3 3 24,bG "Version" 3 4 32,bG "Previous" 3 5 40,bG "PeerEpoch" 3 6 48,bG "Group" 3 7 56,bG "Filter" 87 8 64]) [bI,bI,bI,bI,bI,bI,bI,bI,bI,(jv (.int .i64))] none none,
 tti 171 3 24 true Dn (.struct #[bG "Router" 3 0 0,bG "Epoch" 3 1 8,bG "Acked" 3 2 16]) [bI,bI,bI] none (some [0,0,0]),
 tti 175 2 16 true sw (.struct #[bG "Kind" 3 0 0,bG "At" 3 1 8]) [bI,bI] none (some [0,0]),
 uH 177 235 Bg,
 tti 179 4 48 true QX (.struct #[bG "Router" 3 0 0,bG "Subdomain" 3 1 8,bG "Length" 3 2 16,bG "Rows" 177 3 24]) [bI,bI,bI,(jv Bg)] none none,
 tti 186 11 112 true ZK (.struct #[bG "Route" 22 0 0,bG "Packet" 45 1 24]) [(jv (.int .i64)),bI,bI,bI,bI,bI,bI,bI,bI,(.int .u64 0),NU] none none,
 tti 188 12 120 true Bh (.struct #[bG "To" 3 0 0,bG "Frame" 186 1 8]) [bI,(jv (.int .i64)),bI,bI,bI,bI,bI,bI,bI,bI,(.int .u64 0),NU] none none,
 uH 189 188 Bh,
 tti 193 3 40 true agL (.struct #[bG "Local" 43 0 0,bG "Lost" 43 1 8,bG "Copies" 189 2 16]) [(.int .u64 0),(.int .u64 0),(jv Bh)] none none,
 tti 199 1 8 false .unit (.func #[82] #[4] false) [.undef] none none,
 tti 202 64 64 true agO (.array 64 5) [(.int .u8 0),(.int .u8 0),(.int .u8 0),(.int .u8 0),(.int .u8 0),(.int .u8 0),(.int .u8 0),(.int .u8 0),(.int .u8 0),(.int .u8 0),(.int .u8 0),(.int .u8 0),(.int .u8 0),(.int .u8 0),(.int .u8 0),(.int .u8 0),(.int .u8 0),(.int .u8 0),(.int .u8 0),(.int .u8 0),(.int .u8 0),(.int .u8 0),(.int .u8 0),(.int .u8 0),(.int .u8 0),(.int .u8 0),(.int .u8 0),(.int .u8 0),(.int .u8 0),(.int .u8 0),(.int .u8 0),(.int .u8 0),(.int .u8 0),(.int .u8 0),(.int .u8 0),(.int .u8 0),(.int .u8 0),(.int .u8 0),(.int .u8 0),(.int .u8 0),(.int .u8 0),(.int .u8 0),(.int .u8 0),(.int .u8 0),(.int .u8 0),(.int .u8 0),(.int .u8 0),(.int .u8 0),(.int .u8 0),(.int .u8 0),(.int .u8 0),(.int .u8 0),(.int .u8 0),(.int .u8 0),(.int .u8 0),(.int .u8 0),(.int .u8 0),(.int .u8 0),(.int .u8 0),(.int .u8 0),(.int .u8 0),(.int .u8 0),(.int .u8 0),(.int .u8 0)] (some (.int .u8)) none,
 tti 208 2 16 true sw (.struct #[{ name:="group",type:=3,offset:=0,byteOffset:=0,embedded:=false,tag:="",pkgPath:="bitcast/member" },{ name:="host",type:=3,offset:=1,byteOffset:=8,embedded:=false,tag:="",pkgPath:="bitcast/member" }]) [bI,bI] none (some [0,0]),
 tti 209 2 2 true agC (.array 2 5) [(.int .u8 0),(.int .u8 0)] (some (.int .u8)) none,
 uH 210 5 (.int .u8),
 tti 217 4 32 true agH (.array 4 3) [bI,bI,bI,bI] (some (.int .i64)) none,
 tti 221 4 48 true Ht (.struct #[bG "Router" 3 0 0,bG "Epoch" 3 1 8,bG "Version" 3 2 16,bG "Items" 140 3 24]) [bI,bI,bI,(jv sU)] none none,
 tti 230 4 48 true sU (.struct #[bG "Version" 3 0 0,bG "Group" 3 1 8,bG "Filter" 87 2 16]) [bI,bI,bI,(jv (.int .i64))] none none,
 tti 232 1 8 false .unit (.pointer 171) [.undef] none none,
 tti 235 2 32 true Bg (.struct #[bG "ID" 3 0 0,bG "Next" 22 1 8]) [bI,(jv (.int .i64))] none none,
 tti 240 1 4 false (.int .u32) (.int .u32) [(.int .u32 0)] none none,
 uH 241 245 yD,
 tti 245 2 16 true yD (.struct #[bG "Set" 3 0 0,bG "Bits" 43 1 8]) [bI,(.int .u64 0)] none (some [0,0]),
 tti 255 2 16 true yD (.struct #[bG "Router" 3 0 0,bG "Bits" 43 1 8]) [bI,(.int .u64 0)] none (some [0,0]),
 tti 257 3 24 true Hr (.struct #[bG "From" 3 0 0,bG "To" 3 1 8,bG "Bits" 43 2 16]) [bI,bI,(.int .u64 0)] none (some [0,0,0]),
 tti 269 100 100 true agP (.array 100 4) (List.replicate 100 aaQ) (some .bool) none]
def cl:List (Nat×List Nat):=[(45,[0,0,0,0,0,0,0,0,0,2]),(47,[0,0,0,0,0,0,0,0,0,0,2]),(59,[0,0]),(66,[0,0,0,0,2]),(82,[0,0]),(133,[0,1]),(137,[0,0,0,0,0]),(171,[0,0,0]),(175,[0,0]),(208,[0,0]),(245,[0,0]),(255,[0,0]),(257,[0,0,0])]
def gl:List (Nat×(IntKind×List Int)):=[(0,(.u8,[0,1,56,2,57,49,28,3,61,58,42,50,38,29,17,4,62,47,59,36,45,43,51,22,53,39,33,30,24,18,12,5,63,55,48,27,60,41,37,16,46,35,44,21,52,32,23,11,54,26,40,15,34,20,31,10,25,14,19,9,13,8,7,6]))]
theorem aaR:tab.map (fun p=>MS Tryz.prog cl p.1)=tab.map (fun p=>some p.2):=by kernel_rfl
theorem agQ:cl.map (fun p=>(iZ Tryz.prog 8 p.1,Tryz.prog.eqGuardType Tryz.prog.depth p.1))=cl.map (fun p=>(some p.2,false)):=by kernel_rfl
theorem cu (n:Nat) (hp:Bool) (md:List (Nat×Nat)):mG Tryz.prog (mkE tab gl n hp md):=aaP cl aaR agQ n hp md
theorem mix:Tryz.prog.follows .mixedOrders=true:=by kernel_rfl
def kz:List Nat→List Nat
 | a::n::r=>(List.range n).map (fun i=>a+2*i)++kz r
 | _=>[]
abbrev sq:=Plan.sq
abbrev go:=Plan.go
def mdz:List (Nat×List Nat)→List (Nat×Nat)
 | []=>[]
 | (m,l)::r=>l.map (fun t=>(t,m))++mdz r
abbrev eT (n:Nat) (l:List (Nat×List Nat)):Env:=mkE tab gl n true (mdz l)
abbrev eF (n:Nat) (l:List (Nat×List Nat)):Env:=mkE tab gl n false (mdz l)
abbrev hA1:Sh:=.lf (.int .i64)
abbrev hA2:Sh:=.lf .bool
abbrev hA3:Sh:=.aI 1 true [(.sl 0 (.int .i64)),(.int .i64)]
abbrev lg:Sh:=.lf (.sl 2 (.int .i64))
abbrev IL:Sh:=.lf (.sl 2 pQ)
abbrev JH:Sh:=.lf (.sl 2 Vb)
abbrev Lm:Sh:=.lf (.sl 2 QW)
abbrev OZ:Sh:=.lf (.sl 0 (.int .i64))
abbrev Ur:Sh:=.aI 1 true [(.int .i64),(.sl 2 (.int .i64))]
abbrev Ev:Sh:=.aI 1 true [(.sl 2 qL),(.sl 2 qK),(.sl 2 pQ)]
abbrev Ew:Sh:=.aI 1 true [(.int .i64),(.sl 0 (.int .i64))]
abbrev Hu:Sh:=.aI 1 true [(.int .i64),(.sl 2 JF)]
abbrev Hw:Sh:=.lf (.int .u64)
abbrev JI:Sh:=.lf (.sl 2 NV)
abbrev JJ:Sh:=.aI 1 true [(.int .i64),(.int .i64),(.int .i64),(.sl 0 sU)]
abbrev NW:Sh:=.aI 1 true [(.sl 2 vL),(.sl 2 vM)]
abbrev NY:Sh:=.aI 1 true [(.int .i64),(.int .i64),(.int .i64),(.sl 2 sU),(.sl 2 Dn)]
abbrev NZ:Sh:=.aI 1 true [(.sl 0 vL),(.sl 0 vM),(.int .i64),(.int .i64),(.sl 0 sw),(.sl 1 JG),(.sl 0 qL),(.sl 0 qK),(.sl 0 pQ)]
abbrev N8:Sh:=.lf (.sl 2 sw)
abbrev N9:Sh:=.lf (.sl 2 yD)
abbrev Q0:Sh:=.aI 1 true [(.int .i64),(.int .i64),(.sl 2 Ht)]
abbrev Q5:Sh:=.aI 1 true [(.int .u64),(.int .u64),(.sl 2 Bh)]
abbrev Q6:Sh:=.aI 1 true [(.sl 2 NV),(.sl 2 Hr),(.sl 2 yD)]
abbrev Vd:Sh:=.aI 1 true [(.sl 1 qL),(.sl 2 qK),(.sl 2 pQ)]
abbrev Ve:Sh:=.aI 1 true [(.sl 0 vL),(.sl 0 vM),(.int .i64),(.int .i64),(.sl 0 sw),(.sl 2 JG),(.sl 2 qL),(.sl 2 qK),(.sl 2 pQ)]
abbrev Vf:Sh:=.aI 1 true [(.int .i64),(.int .i64)]
abbrev Vg:Sh:=.aI 1 true [(.int .i64),(.int .i64),(.int .i64),(.int .i64),(.int .i64),(.int .i64),(.int .i64),(.int .i64),(.int .u64),.str]
abbrev Vh:Sh:=.aI 1 true [(.int .i64),(.int .i64),(.int .i64),(.sl 2 Bg)]
abbrev aaS:Sh:=.aI 1 true [(.int .i64),(.int .i64),(.sl 2 sw)]
abbrev aaT:Sh:=.aI 1 true [(.sl 0 qL),(.sl 0 qK),(.sl 0 pQ)]
abbrev aaU:Sh:=.aI 1 true [(.sl 0 vL),(.sl 0 vM),(.int .i64),(.int .i64),(.sl 0 sw),(.sl 2 JG),(.sl 0 qL),(.sl 0 qK),(.sl 0 pQ)]
abbrev aaV:Sh:=.aI 1 true [(.int .i64),(.int .i64),(.int .i64),(.sl 2 sU)]
abbrev aaW:Sh:=.lf (.sl 2 sU)
abbrev aaX:Sh:=.lf (.sl 2 QZ)
abbrev aaY:Sh:=.lf (.sl 2 QX)
abbrev agR:Sh:=.aI 1 true [(.int .i64),(.int .i64),(.int .i64),(.sl 0 sU),(.sl 0 Dn)]
abbrev hL1:List Nat:=(kz [12,9])
abbrev hL2:List Nat:=(kz [8,2,16,11])
abbrev hL3:List Nat:=(kz [10,1,14,14])
abbrev hL4:List Nat:=(kz [14,12])
abbrev hL5:List Nat:=(kz [42,12])
abbrev hL6:List Nat:=(kz [4,1,8,1,26,2,34,11])
abbrev hL7:List Nat:=(kz [4,1,10,1,56,19])
abbrev hL8:List Nat:=(kz [8,13])
abbrev hL9:List Nat:=(kz [8,14])
abbrev agU:List Nat:=(kz [130,15])
abbrev agV:List Nat:=(kz [8,3,13,1,20,11])
abbrev agW:List Nat:=(kz [9,1,12,1,13,1,18,11])
abbrev agX:List Nat:=(kz [8,4,22,4,32,4])
abbrev agY:List Nat:=(kz [0,2,12,2,18,1,22,4,32,4])
abbrev agZ:List Nat:=(kz [36,9])
abbrev ag0:List Nat:=(kz [4,19])
abbrev ag1:List Nat:=(kz [0,3,16,7])
abbrev ag2:List Nat:=(kz [4,15])
abbrev ag3:List Nat:=(kz [18,15])
abbrev ag4:List Nat:=(kz [12,27])
abbrev ag5:List Nat:=(kz [9,1,10,22])
abbrev ag6:List Nat:=(kz [8,10])
abbrev ag7:List Nat:=(kz [4,52])
abbrev ag8:List Nat:=(kz [0,4,10,1,16,2,22,9])
abbrev ag9:List Nat:=(kz [8,1,74,5,88,8])
abbrev ahb:List Nat:=(kz [0,1,24,12])
abbrev ahc:List Nat:=(kz [0,3,10,1,14,5,15,1,28,29])
abbrev ahd:List Nat:=(kz [0,4,16,7])
abbrev ahe:List Nat:=(kz [36,19])
abbrev hL31:List Nat:=(kz [18,1,22,1,32,13])
abbrev hL32:List Nat:=(kz [0,5,12,1,24,5])
abbrev ahf:List Nat:=(kz [0,2,12,8])
abbrev ana:List Nat:=(kz [0,1,6,2,36,9])
abbrev anb:List Nat:=(kz [12,1,54,12])
abbrev E68:Env:=eF 16 [(1,[15,7,12,13]),(2,[0,4])]
abbrev aaZ:Plan:=(sq go (sq go (sq go (sq (sq go (.cut [0,28,26,24] [⟨0,[(0,hA1)],(kz [2,1,10,7])⟩] go)) go))))
abbrev E69:Env:=eT 31 [(1,[30]),(2,[17,2])]
abbrev aa0:Plan:=go
abbrev E31:Env:=eT 9 [(1,[5,7]),(2,[4])]
abbrev aa1:Plan:=go
abbrev E5:Env:=eF 10 [(2,[9,2])]
abbrev ahm:Plan:=go
abbrev E54:Env:=eT 15 [(1,[8,9]),(2,[6])]
abbrev aa2:Plan:=go
abbrev E28:Env:=eT 12 [(1,[11,6]),(2,[4])]
abbrev aa3:Plan:=go
abbrev E64:Env:=eT 32 [(1,[31,25,29,12]),(2,[7,8,5,6,4])]
abbrev aa4:Plan:=(sq go (sq go (sq (sq go (sq (.loop (kz [1,1,10,26,11,1,17,1]) [(12,hA1),(10,lg),(1,hA3)] [8] [⟨2,[(10,lg),(1,hA3)],[12,2]⟩] (sq go (sq (sq (sq (.opn [(10,0,5)]) (sq go (.opn [(16,0,8)]))) go) go))) go)) go)))
abbrev anQ:Env:=eF 26 [(1,[15]),(2,[5])]
abbrev Vi:Plan:=(sq go (sq go (sq (sq go (sq (.loop (kz [8,2,22,15]) [(10,hA1)] (kz [8,1,12,5]) [⟨1,[(8,hA2)],(kz [0,2,10,6])⟩,⟨2,[],(kz [0,2,10,6])⟩] go) go)) go)))
abbrev E27:Env:=eF 46 [(1,[33,11,19,25,34,40,44]),(2,[5,4,6])]
abbrev aa5:Plan:=(sq go (sq go (sq (sq (.loop hL3 [(10,hA1)] [8] [⟨2,[(10,hA1)],[]⟩] (sq (sq (.cut hL4 [⟨0,[(36,hA2)],[]⟩] go) go) go)) go) (sq (sq (.cut hL5 [⟨0,[(64,hA2)],[]⟩] go) go) (sq go (sq (.opn [(12,0,6)]) go))))))
abbrev anR:Env:=eT 27 [(1,[26,8,15,13]),(2,[6,5,4])]
abbrev Vj:Plan:=(sq go (sq go (sq (sq go (sq (.loop (kz [1,1,10,2,22,15]) [(12,hA1),(10,OZ),(1,hA3)] [20,18,16,14,8,2] [⟨2,[(10,OZ),(1,hA3)],(kz [2,1,12,5])⟩] go) go)) go)))
abbrev E65:Env:=eT 13 [(1,[10]),(2,[3,12])]
abbrev aa6:Plan:=go
abbrev anS:Env:=eF 47 [(1,[9,23,17,33]),(2,[1,4,5])]
abbrev Vk:Plan:=(sq go (sq (sq (.cut (kz [12,8]) [⟨0,[(26,hA2)],[0]⟩] go) go) (sq (sq go (sq (.loop hL6 [(34,hA1)] [28,26,4] [⟨1,[(4,hA1)],(kz [26,5])⟩,⟨2,[],(kz [26,5])⟩] (sq go (sq go (sq (sq (sq go (sq (.cut (kz [42,6]) [⟨0,[(52,hA2)],[8,40,38,36]⟩] go) go)) go) go)))) go)) (sq (sq go (sq (.loop hL7 [(10,hA1)] [] [⟨1,[(4,hA1)],[10,2]⟩,⟨4,[],[10,2]⟩] go) go)) go))))
abbrev anT:Env:=eF 17 [(1,[10]),(2,[2,3,4])]
abbrev Vl:Plan:=(sq go (sq (.cut hL8 [⟨0,[(8,hA2)],[6,4,0,2]⟩] go) go))
abbrev anU:Env:=eF 15 [(1,[8,10]),(2,[6])]
abbrev Vm:Plan:=(sq go (sq (.cut hL1 [⟨0,[(12,hA2)],[0,2,4]⟩] go) go))
abbrev anV:Env:=eF 127 [(1,[7,12,23,24,29,34,39,44,51,52,57,62,70,75,82,83,88,93,98,103,108,120]),(2,[1,3,21,49,80,2])]
abbrev Vn:Plan:=(sq go (sq (.cut (kz [6,16]) [⟨0,[(6,hA2)],[0]⟩] go) (sq (sq go (sq (sq go (.cut (kz [4,2,38,89]) [⟨0,[(6,hA2)],(kz [38,4])⟩,⟨1,[(4,hA1)],(kz [38,4])⟩] (sq (.cut (kz [6,1,46,26]) [⟨0,[(6,hA2)],(kz [38,4])⟩] go) (sq go (.cut (kz [4,2,38,4,98,59]) [⟨0,[(6,hA2)],(kz [38,4,98,2])⟩,⟨1,[(4,hA1)],(kz [38,4,98,2])⟩] (sq (.cut (kz [6,1,102,29]) [⟨0,[(6,hA2)],(kz [38,4,98,2])⟩] go) (sq go (sq (.cut (kz [6,1,164,26]) [⟨0,[(6,hA2)],(kz [38,4,98,2,160,2])⟩] go) go)))))))) go)) (sq go (sq go (sq (sq (.cut (kz [232,11]) [⟨0,[(252,hA2)],(kz [2,1,6,1,216,5])⟩] go) go) go))))))
abbrev anW:Env:=eF 18 [(1,[10]),(2,[5])]
abbrev Vo:Plan:=(sq go (sq (sq go (sq (.loop hL9 [(10,hA1)] [8] [⟨1,[(8,hA2)],[10,0,2]⟩,⟨2,[],[10,0,2]⟩] go) go)) go))
abbrev E29:Env:=eT 136 [(5,[118,135]),(1,[15,39,53,86,93,104,117,118,120,132,20,135]),(2,[13,6,34,8,9,133])]
abbrev aa7:Plan:=(sq go (sq go (sq (sq go (sq (.loop (kz [1,1,2,1,11,1,12,129,15,1,19,1,97,1,177,1,231,1]) [(12,hA1),(11,Hu),(1,hA3)] (kz [2,1,20,8]) [⟨2,[(11,Hu),(1,hA3)],(kz [2,1,12,1,20,8])⟩] (sq go (sq (sq (sq go (sq (sq (.cut (kz [70,11]) [⟨0,[(90,hA2)],(kz [36,2,44,13])⟩] go) (.cut [15,94,92] [⟨0,[(15,(.aI 1 true [(.int .i64),(.int .i64),(.int .i64),(.sl 0 (.int .i64)),(.int .i64)]))],[90]⟩] go)) (sq go (sq (sq (.loop (kz [11,1,16,1,96,40,97,1]) [(16,hA1),(11,Hu)] [] [⟨4,[(16,hA1),(11,Hu)],[]⟩] (sq (sq (.cut (kz [11,1,96,38,97,1]) [⟨0,[(11,Hu),(170,hA2)],[]⟩] (.opn [(11,1,48)])) go) go)) go) (sq (sq (.cut (kz [11,1,176,27,177,1]) [⟨0,[(11,Hu),(228,hA2)],[]⟩] (.opn [(11,1,88)])) (sq (sq (.opn [(11,1,115)]) go) go)) (sq go (.opn [(18,0,9)]))))))) go) go))) go)) go)))
abbrev E70:Env:=eT 33 [(1,[26,32,15,28,8]),(2,[11,3,4,2])]
abbrev aa8:Plan:=(sq go (sq go (sq (sq go (sq (.loop (kz [1,1,6,29,11,1]) [(8,hA1),(6,Lm),(1,hA3)] [4] [⟨2,[(6,Lm),(1,hA3)],[8]⟩] (sq go (sq (sq (sq go (sq (.cut (kz [1,1,24,14]) [⟨0,[(50,hA2),(1,hA3)],[22,20,14,12]⟩] go) (.cut (kz [6,1,11,1,52,6]) [⟨0,[(6,Lm)],[50,10]⟩] go))) go) go))) go)) go)))
abbrev E25:Env:=eT 159 [(13,[40]),(5,[49]),(13,[65,90,111]),(5,[158]),(1,[33,151,20,27,25,47,43,55,74,124,152,105,100,158]),(2,[5,7,37,8,9,10,49,11,12,13,14,15,16,17,131,138,148,154])]
abbrev abb:Plan:=(sq go (sq go (sq go (sq go (sq (sq go (sq (.loop (kz [1,1,13,1,14,2,44,17]) [(1,hA3),(14,hA1),(13,NW),(16,hA1)] [42,40,38,2] [⟨2,[(1,hA3),(13,NW)],[16,14,42,40,38,2]⟩] go) go)) (sq go (sq (sq go (sq (.loop (kz [20,1,81,1,86,9]) [(81,(.dP 1 .bool)),(86,hA1)] [82,80,78] [⟨4,[(81,(.dP 1 .bool))],(kz [78,5])⟩] go) go)) (sq (sq go (sq (.loop (kz [1,1,22,1,81,1,104,16,131,1]) [(22,hA1),(81,(.dP 1 .bool)),(1,hA3)] [] [⟨6,[(81,(.dP 1 .bool)),(1,hA3)],[22]⟩] (sq go (sq (sq (sq go (.cut (kz [1,1,81,1,120,8,131,1]) [⟨0,[(81,(.dP 1 .bool)),(1,hA3)],(kz [104,3,114,3])⟩] (sq (.sea [(81,0,65)]) go))) go) go))) go)) (sq (sq go (sq (.loop (kz [1,1,24,3,81,1,136,27,181,1]) [(24,hA1),(81,(.dP 1 .bool)),(1,hA3)] (kz [136,4]) [⟨8,[(81,(.dP 1 .bool)),(1,hA3)],(kz [10,1,24,1,136,4])⟩] (sq go (sq (sq (sq go (sq go (.cut (kz [81,1,170,10,181,1]) [⟨0,[(81,(.dP 1 .bool))],(kz [26,2,144,2,152,9])⟩] (sq (.sea [(81,0,90)]) go)))) go) go))) go)) (sq go (sq (sq go (sq (.loop (kz [1,1,13,1,32,3,37,1,81,1,190,4,200,58,223,1,233,1]) [(200,hA1),(81,(.dP 1 .bool)),(1,hA3),(13,NW)] (kz [190,4]) [⟨10,[(1,hA3),(13,NW)],(kz [18,1,30,1,190,6])⟩] (sq go (sq go (sq (sq (sq go (sq go (sq (.loop (kz [1,1,13,1,34,2,37,1,81,1,202,3,210,52,223,1,233,1]) [(81,(.dP 1 .bool)),(1,hA3),(13,NW),(210,hA1)] (kz [202,3]) [⟨12,[(81,(.dP 1 .bool)),(1,hA3),(13,NW)],(kz [32,1,202,5])⟩] (sq go (sq go (sq (sq (sq go (sq (sq (.sea [(81,0,111)]) go) (sq (.opn [(13,0,116)]) (sq (sq go (.cut (kz [1,1,37,1,268,16]) [⟨0,[(37,(.aI 1 true [(.int .i64),(.int .i64),(.int .i64),(.int .i64),(.int .i64)])),(1,hA3)],(kz [34,1,212,28])⟩] go)) go)))) go) go)))) go))) go) go)))) go)) go)))))))))))
abbrev E26:Env:=eT 53 [(5,[52]),(1,[31,25,34,18,48,52]),(2,[3,11,8,6,41,50])]
abbrev abd:Plan:=(sq go (sq go (sq go (sq (sq go (sq (.loop (kz [1,1,11,1,12,1,16,1,32,1,33,1,36,26]) [(36,hA1),(11,aaS),(12,hA1),(1,hA3),(32,lg)] (kz [2,1,18,7]) [⟨2,[(11,aaS),(1,hA3)],(kz [2,1,6,1,12,1,18,10])⟩] (sq go (sq go (sq (sq (sq (.opn [(32,0,16)]) go) go) go)))) go)) (sq (sq (.opn [(11,2,44)]) (.cut [11,102,98,1,100,96] [⟨0,[(11,aaS),(1,hA3)],(kz [88,4])⟩] go)) go)))))
abbrev E74:Env:=eF 2 [(2,[1])]
abbrev abe:Plan:=go
abbrev anX:Env:=eF 15 [(1,[8,10]),(2,[6])]
abbrev Vp:Plan:=(sq go (sq (.cut hL1 [⟨0,[(12,hA2)],[0,2,4]⟩] go) go))
abbrev anY:Env:=eF 61 [(1,[20,26,32,50,10]),(2,[5,14,7])]
abbrev Vq:Plan:=(sq go (sq (sq go (sq (.loop (kz [8,4,13,1,20,51]) [(20,hA1)] [8] [⟨1,[(8,hA2)],[20,18,16,0,2]⟩,⟨2,[],[20,18,16,0,2]⟩] (sq go (sq go (sq (sq (sq go (sq (sq (.cut (kz [30,32]) [⟨0,[(92,hA2)],(kz [22,4])⟩] go) go) (sq go (sq (.loop (kz [8,1,14,1,94,13]) [(14,hA1)] [92] [⟨1,[(8,hA2)],[14,92,10,12]⟩,⟨4,[],[14,92,10,12]⟩] go) go)))) go) go)))) go)) go))
abbrev anZ:Env:=eF 84 [(1,[9,14,19,26,40,41,46,53,58,65,35,82]),(2,[1,3,4,39])]
abbrev Vr:Plan:=(sq go (sq (.cut (kz [6,1,12,26]) [⟨0,[(6,hA2)],[0]⟩] go) (sq (sq go (sq (.loop (kz [6,3,11,1,64,1,70,47]) [(6,hA2),(70,hA1)] [64,4] [⟨2,[(6,hA2)],[70,68,66,64,2]⟩] (sq go (sq go (sq (sq (sq go (.cut (kz [6,1,80,41]) [⟨0,[(6,hA2)],(kz [8,2,72,4])⟩] go)) go) go)))) go)) go)))
abbrev E66:Env:=eF 40 [(5,[39]),(1,[26,38,12,13,19,27,21,39]),(2,[14,18,10,30,11,37,7])]
abbrev abf:Plan:=(sq go (sq go (sq go (sq (sq go (sq (.loop (kz [17,1,20,1,42,12]) [(42,hA1),(17,NY)] (kz [0,3,14,1,24,6]) [⟨2,[(17,NY)],(kz [0,3,24,6,38,3])⟩] go) go)) (sq (sq (.opn [(17,3,33)]) go) go)))))
abbrev an0:Env:=eF 77 [(1,[9,14,28,29,34,41,46,51,58,23,75]),(2,[1,3,4,27])]
abbrev Vs:Plan:=(sq go (sq (.cut (kz [6,1,12,14]) [⟨0,[(6,hA2)],[0]⟩] go) (sq (sq go (sq (.loop (kz [6,3,11,1,40,1,46,52]) [(6,hA2),(46,hA1)] [40,4] [⟨2,[(6,hA2)],[46,44,42,40,2]⟩] (sq go (sq go (sq (sq (sq go (.cut (kz [6,1,56,46]) [⟨0,[(6,hA2)],(kz [8,2,48,4])⟩] go)) go) go)))) go)) go)))
abbrev E67:Env:=eF 143 [(1,[55,19,39,31,79,91,97,107,64,128,135,121]),(2,[1,4,35,3,6,68,82,93,110,124])]
abbrev abg:Plan:=(sq go (sq (sq (.cut (kz [30,13]) [⟨0,[(54,hA2)],[0]⟩] go) go) (sq go (sq (sq go (sq (.loop (kz [4,4,11,1,54,2,62,30]) [(62,hA1),(6,lg)] [56,54,4] [⟨1,[(4,hA1)],(kz [54,5])⟩,⟨2,[(6,lg)],(kz [54,5])⟩] (sq go (sq go (sq (sq (sq go (sq (sq (.cut (kz [72,19]) [⟨0,[(108,hA2)],[8,70,68,66,64]⟩] go) go) go)) go) go)))) go)) (sq (sq go (sq (.loop (kz [4,2,7,1,12,2,15,1,18,2,19,2,24,1,25,1,122,1,128,54]) [(128,hA1),(6,lg)] [122] [⟨1,[(4,hA1)],(kz [122,4])⟩,⟨4,[(6,lg)],(kz [122,4])⟩] (sq go (sq go (sq (sq (sq go (sq (sq (.opn [(6,0,3)]) go) (sq (sq go (sq (.loop (kz [4,2,7,1,18,1,19,1,158,10]) [(6,lg),(158,hA1)] (kz [130,12]) [⟨1,[(4,hA1)],agU⟩,⟨6,[(6,lg)],agU⟩] (sq go (sq go (sq (sq (sq go (sq (.opn [(6,0,3)]) go)) go) go)))) go)) (sq go (sq (sq (.cut (kz [188,10]) [⟨0,[(206,hA2)],(kz [12,2,178,5])⟩] go) go) (sq go (sq (.loop (kz [4,2,7,1,24,1,25,1,214,10]) [(6,lg),(214,hA1)] [208,206,20] [⟨1,[(4,hA1)],(kz [20,1,206,5])⟩,⟨8,[(6,lg)],(kz [20,1,206,5])⟩] (sq go (sq go (sq (sq (sq go (sq (.opn [(6,0,3)]) go)) go) go)))) go))))))) go) go)))) go)) (sq (sq go (sq (.loop (kz [2,3,7,1,28,1,29,1,236,1,242,22]) [(6,lg),(242,hA1)] [236,2] [⟨1,[(4,hA1)],(kz [2,1,6,1,236,4])⟩,⟨10,[],(kz [2,1,6,1,236,4])⟩] (sq go (sq go (sq (sq (sq go (sq (.cut (kz [6,1,7,1,250,17]) [⟨0,[(282,hA2),(6,lg)],[28,248,246,244]⟩] (.opn [(6,0,3)])) go)) go) go)))) go)) go))))))
abbrev E30:Env:=eF 59 [(5,[13,58]),(1,[21,41,47,13,33,31,37,42,48,16,58]),(2,[5,6,7,35,9,39,44,51,57])]
abbrev abh:Plan:=(sq go (sq go (sq go (sq (sq go (sq (.loop (kz [5,1,6,1,9,1,10,5,17,1,32,38]) [(5,Ev),(9,Ev),(32,hA1)] [24,22,20,6] [⟨1,[(6,hA1),(5,Ev)],[32,30,28,24,22,20,0,8]⟩,⟨2,[(5,Ev),(9,Ev)],(kz [0,1,20,3,28,3])⟩] go) go)) (sq (sq (.opn [(9,0,54),(9,1,56)]) go) go)))))
abbrev E76:Env:=eF 21 [(1,[19,10]),(2,[2,5,14,4])]
abbrev abj:Plan:=(sq go (sq (sq go (sq (.loop agV [(20,hA1)] [14,8,4,0] [⟨1,[(8,hA1)],(kz [0,3,14,4])⟩,⟨2,[],(kz [0,3,14,4])⟩] go) go)) go))
abbrev E81:Env:=eF 16 [(2,[1,15])]
abbrev abk:Plan:=go
abbrev an1:Env:=eF 77 [(1,[42,25,18,33,52,46,63]),(2,[21,36,9,4,49,12])]
abbrev Vt:Plan:=(sq go (sq go (sq (sq go (sq (.loop (kz [8,1,12,1,13,1,26,3,36,13]) [(36,hA1)] [30,28,26,8] [⟨1,[(8,hA1)],(kz [26,6])⟩,⟨2,[],(kz [26,6])⟩] (sq go (sq go (sq (sq (sq go (sq (.cut (kz [44,8]) [⟨0,[(58,hA2)],[12,42,40,38]⟩] go) go)) go) go)))) go)) (sq (sq go (sq (.loop (kz [8,1,16,2,17,1,66,11]) [(66,hA1)] [] [⟨1,[(8,hA1)],[66,64,62]⟩,⟨4,[],[66,64,62]⟩] go) go)) (sq (sq go (sq (.loop (kz [8,1,22,1,23,1,92,13]) [(92,hA1)] [] [⟨1,[(8,hA1)],[92,90,88,2]⟩,⟨6,[],[92,90,88,2]⟩] (sq go (sq go (sq (sq (sq go (sq (.cut (kz [100,8]) [⟨0,[(114,hA2)],[22,98,96,94]⟩] go) go)) go) go)))) go)) (sq (sq go (sq (.loop (kz [8,1,24,1,118,18]) [(24,hA1)] [] [⟨1,[(8,hA1)],[24,0]⟩,⟨8,[],[24,0]⟩] go) go)) go))))))
abbrev E77:Env:=eF 5 [(1,[3]),(2,[2])]
abbrev abl:Plan:=go
abbrev an2:Env:=eF 21 [(1,[7,9]),(2,[12,18,20])]
abbrev Vu:Plan:=(sq go (sq (sq go (sq (.loop agW [(9,Ur),(18,hA1)] [0] [⟨1,[(9,Ew)],[18,16,14,0,2]⟩,⟨2,[(9,Ur)],[18,16,14,0,2]⟩] go) go)) go))
abbrev E78:Env:=eF 44 [(1,[34,15,20,43,36,23]),(2,[6,5,7,27,8,9,4])]
abbrev abm:Plan:=(sq go (sq go (sq go (sq go (sq (sq go (sq (.loop (kz [12,9,21,1,32,4,42,19]) [(18,hA1),(16,Lm)] agX [⟨2,[(16,Lm)],agY⟩] (sq go (sq (sq (sq go (sq go (.cut (kz [16,1,21,1,68,6]) [⟨0,[(16,Lm)],(kz [20,1,42,2,50,9])⟩] go))) go) go))) go)) (sq (sq (.opn [(16,0,8)]) go) go))))))
abbrev an3:Env:=eF 21 [(1,[7,9]),(2,[12,18,20])]
abbrev Vv:Plan:=(sq go (sq (sq go (sq (.loop agW [(9,Ur),(18,hA1)] [0] [⟨1,[(9,Ew)],[18,16,14,0,2]⟩,⟨2,[(9,Ur)],[18,16,14,0,2]⟩] go) go)) go))
abbrev E79:Env:=eF 27 [(1,[20,26,22,11]),(2,[15,3,4,2])]
abbrev abn:Plan:=(sq go (sq go (sq go (sq (sq go (sq (.loop (kz [6,23,11,1]) [(8,hA1),(6,Lm)] [16,14,12,4] [⟨2,[(6,Lm)],[8,16,14,12,0]⟩] (sq go (sq (sq (sq go (sq go (.cut (kz [6,1,11,1,40,6]) [⟨0,[(6,Lm)],(kz [10,1,18,2,26,7])⟩] go))) go) go))) go)) go))))
abbrev an4:Env:=eF 18 [(1,[7,9]),(2,[12])]
abbrev Vw:Plan:=(sq go (sq (sq go (sq (.loop (kz [8,1,12,1,13,1,18,9]) [(18,hA1)] [8,0] [⟨1,[(8,hA2)],[18,16,14,0,2]⟩,⟨2,[],[18,16,14,0,2]⟩] go) go)) go))
abbrev an5:Env:=eF 48 [(1,[38,15,20,47,40,23]),(2,[6,5,7,27,33,8,9,4])]
abbrev Vx:Plan:=(sq go (sq go (sq go (sq go (sq (sq go (sq (.loop (kz [12,9,21,1,32,4,42,23]) [(18,hA1),(16,Lm)] agX [⟨2,[(16,Lm)],agY⟩] (sq go (sq (sq (sq go (sq (sq go (.cut [21,66,64,62] [⟨0,[(21,Ew)],(kz [42,2,50,6])⟩] go)) (sq go (.cut (kz [16,1,21,1,76,6]) [⟨0,[(16,Lm)],[74,72,70,68,20]⟩] go)))) go) go))) go)) (sq (sq (.opn [(16,0,8)]) go) go))))))
abbrev an6:Env:=eF 28 [(1,[19,24,8,20,10,25]),(2,[3,13,5,4])]
abbrev Vy:Plan:=(sq go (sq go (sq (sq go (sq (.loop (kz [0,2,10,1,14,1,15,1,20,14]) [(10,aaW),(20,hA1)] [8,0,2] [⟨2,[(10,aaW)],[20,18,16,0,2]⟩] (sq go (sq go (sq (sq (sq go (sq go (.cut [40,15,42,38,10,44] [⟨0,[(10,aaW)],(kz [14,1,22,8])⟩] go))) go) go)))) go)) go)))
abbrev E80:Env:=eF 73 [(5,[72]),(1,[17,26,18,38,40,72]),(2,[2,6,16,5,7,8,25,27,31,36,43,54,65,71])]
abbrev abo:Plan:=(sq go (sq go (sq go (sq go (sq go (sq go (sq (sq go (sq (.loop (kz [19,1,22,1,23,1,80,28]) [(19,agR),(80,hA1)] (kz [0,3,10,4,24,4,36,7,54,11]) [⟨2,[(19,agR)],(kz [0,3,12,3,24,4,36,7,54,14])⟩] go) go)) go)))))))
abbrev E34:Env:=eF 71 [(5,[68,70]),(1,[20,32,48,62,22,41,33,55,49,63,67,68,70]),(2,[3,8,19,7,9,26,10,31,11,12,47,57,61,64])]
abbrev abp:Plan:=(sq go (sq go (sq go (sq go (sq go (sq go (sq go (sq go (sq go (sq go (sq (.opn [(29,0,65)]) go)))))))))))
abbrev an7:Env:=eF 74 [(5,[73]),(1,[45,65,18,24,37,46,39,60,73]),(2,[2,6,17,5,7,23,28,36,9,43,54,63,70])]
abbrev Vz:Plan:=(sq go (sq go (sq go (sq go (sq go (sq (sq go (sq (.loop (kz [17,1,18,2,21,1,78,18]) [(78,hA1),(17,NY)] (kz [0,2,10,3,26,4,38,4,50,3,58,8]) [⟨2,[(17,NY)],(kz [0,2,12,2,26,4,38,4,50,3,58,11])⟩] go) go)) (sq (sq go (sq (.loop (kz [17,1,24,1,25,1,120,13]) [(120,hA1),(17,NY)] [114,4] [⟨4,[(17,NY)],(kz [4,1,114,4])⟩] go) go)) go)))))))
abbrev E71:Env:=eF 68 [(5,[52,67]),(1,[18,38,31,25,52,57,67]),(2,[3,8,17,7,9,24,33,11,37,46,48,65])]
abbrev abq:Plan:=(sq go (sq go (sq go (sq go (sq go (sq go (sq go (sq go (sq (.opn [(25,0,49)]) (sq (.opn [(25,1,55)]) go))))))))))
abbrev E82:Env:=eF 110 [(12,[52,62,76]),(14,[41]),(5,[104]),(1,[79,108,109,13,15,24,47,53,57,67,71,77,80,104,17]),(2,[6,20,35,11,45,55,69,7,83,103,4,5])]
abbrev abr:Plan:=(sq go (sq go (sq go (sq (sq go (sq (.loop (kz [0,2,12,2,18,6,19,3,34,91,43,1,63,1,73,1,171,1,183,1]) [(12,IL),(14,IL),(34,hA1)] [28,26,24,10,8,0,2] [⟨2,[(12,IL),(14,IL)],(kz [0,2,24,6])⟩] (sq go (sq go (sq (sq (sq go (sq (sq (.cut (kz [12,1,42,10,43,1]) [⟨0,[(12,IL),(60,hA2)],[40,38,36]⟩] (.opn [(12,0,21)])) go) (sq (.opn [(12,0,31)]) (sq (.opn [(12,0,36)]) (sq go (sq (sq go (.cut (kz [12,2,18,3,21,2,60,77,171,1,183,1]) [⟨0,[(14,IL),(12,IL)],(kz [18,3,60,17])⟩] (sq (.opn [(22,0,11)]) (sq go (.cut (kz [12,2,18,3,21,2,60,17,110,52,171,1,183,1]) [⟨0,[(12,IL),(14,IL)],(kz [18,3,60,17,110,2])⟩] (sq (.opn [(22,0,11)]) (sq go (.cut (kz [12,2,18,3,21,2,60,17,110,2,138,38,171,1,183,1]) [⟨0,[(14,IL),(12,IL)],(kz [18,3,60,17,110,2,138,2])⟩] (sq (sq (.opn [(22,0,11)]) go) (sq go (.cut (kz [12,1,18,3,21,1,60,17,110,2,138,2,166,24,171,1,183,1]) [⟨0,[(12,IL)],(kz [18,3,60,17,110,2,138,2,166,2])⟩] (sq (sq (.opn [(12,0,85)]) (.cut (kz [12,1,21,1,182,16,183,1]) [⟨0,[(12,IL)],(kz [18,3,60,17,110,2,138,2,166,8])⟩] (sq (.opn [(12,0,91)]) go))) go)))))))))))) go)))))) go) go)))) go)) go))))
abbrev an8:Env:=eF 21 [(1,[19,10]),(2,[2,5,14,4])]
abbrev VA:Plan:=(sq go (sq (sq go (sq (.loop agV [(20,hA1)] [14,8,4,0] [⟨1,[(8,hA1)],(kz [0,3,14,4])⟩,⟨2,[],(kz [0,3,14,4])⟩] go) go)) go))
abbrev E83:Env:=eF 101 [(5,[78,100]),(1,[17,23,27,47,64,78,96,100]),(2,[2,3,6,16,5,7,22,34,8,41,9,56,60,11,66,77,83,97])]
abbrev abt:Plan:=(sq go (sq go (sq go (sq (sq (.cut (kz [48,10]) [⟨0,[(66,hA2)],(kz [0,2,12,2,24,4,36,4])⟩] go) go) (sq go (sq go (sq go (sq (sq (.cut (kz [84,12]) [⟨0,[(106,hA2)],(kz [66,1,70,6])⟩] go) go) (sq go (sq go (sq (.opk [(21,4,62)]) (sq go (sq (.sea [(9,4,62)]) go)))))))))))))
abbrev E84:Env:=eF 177 [(5,[62,165]),(1,[140,151,160,22,29,33,62,53,67,88,95,102,132,152,126,157,165]),(2,[2,3,7,20,21,6,8,27,28,40,41,46,49,56,73,74,84,118,121,129,143,154,163,176])]
abbrev abu:Plan:=(sq go (sq go (sq go (sq (sq (.cut (kz [60,10]) [⟨0,[(78,hA2)],(kz [0,2,14,2,32,4,46,4])⟩] go) go) (sq go (sq go (sq (sq go (sq (.loop (kz [21,1,24,1,25,1,78,1,84,9,106,11]) [(21,JJ),(106,hA1)] (kz [12,1,78,1,84,9]) [⟨2,[(21,JJ)],(kz [78,1,84,12])⟩] (sq go (sq go (sq (sq (sq go (sq go (.cut [21,25,124] [⟨0,[(21,JJ)],(kz [24,1,108,8])⟩] go))) go) go)))) go)) (sq (sq (.cut (kz [128,9]) [⟨0,[(144,hA2)],[]⟩] go) go) (sq (sq go (.cut (kz [21,1,160,5]) [⟨0,[(21,JJ)],(kz [144,1,150,5])⟩] go)) (sq (sq (.cut (kz [170,24]) [⟨0,[(216,hA2)],[]⟩] go) (.cut (kz [21,1,218,14]) [⟨0,[(21,JJ)],[216]⟩] go)) (sq go (sq (sq go (sq (.loop (kz [19,1,26,1,30,1,31,1,246,1,252,31]) [(26,hA2),(19,Q0),(252,hA1)] [246] [⟨4,[(26,hA2),(19,Q0)],(kz [246,4])⟩] (sq go (sq go (sq (sq (sq go (sq (sq (.cut (kz [260,9]) [⟨0,[(276,hA2)],(kz [254,3])⟩] go) (.cut (kz [19,1,26,1,278,6]) [⟨0,[(19,Q0),(26,hA2)],[276]⟩] go)) (sq go (.cut (kz [19,1,31,1,300,6]) [⟨0,[(19,Q0)],(kz [30,1,290,5])⟩] go)))) go) go)))) go)) (sq (sq go (.cut (kz [19,1,318,6]) [⟨0,[(19,Q0)],[316,314,26]⟩] go)) go)))))))))))))
abbrev E85:Env:=eF 67 [(1,[47,16,66,55,34]),(2,[2,6,5,7,8,37,9,4])]
abbrev abv:Plan:=(sq go (sq go (sq go (sq go (sq go (sq go (sq (sq go (sq (.loop (kz [0,1,12,1,16,2,22,5,23,1,34,15,68,32]) [(68,hA1),(18,hA1),(16,IL)] (kz [0,1,8,3,24,4,34,15]) [⟨2,[(16,IL)],(kz [0,3,12,2,18,1,24,4,34,18])⟩] (sq go (sq go (sq (sq (sq go (sq (sq go (.cut (kz [16,1,94,16]) [⟨0,[(16,IL)],(kz [70,12])⟩] go)) go)) go) go)))) go)) go)))))))
abbrev E35:Env:=eF 125 [(5,[39,69,87,124]),(1,[90,118,29,35,32,39,41,60,54,64,68,69,77,71,82,86,87,91,43,110,119,106,99,124]),(2,[2,6,28,5,31,8,9,46,12,62,14,79,80,17,93,102,109,22,23,120])]
abbrev abw:Plan:=(sq go (sq go (sq go (sq go (sq go (sq (sq go (sq (.loop (kz [0,2,12,1,15,1,16,2,22,7,23,1,27,1,31,2,48,4,60,11,86,53,111,1,133,1,145,1,171,1]) [(15,Ev),(86,hA1)] (kz [0,2,10,2,16,2,48,4,60,11]) [⟨2,[(15,Ev)],(kz [0,3,12,1,16,2,48,4,60,14])⟩] (sq go (sq go (sq (sq (sq go (sq go (sq (sq go (sq (sq (sq (.opn [(15,0,55)]) (sq go (.cut (kz [15,1,27,1,132,5,133,1]) [⟨0,[(15,Ev)],(kz [22,4,88,22])⟩] (sq (.opn [(15,0,66)]) go)))) go) go)) (sq (.opn [(15,1,72)]) (sq go (.cut (kz [15,1,31,2,168,11,171,1]) [⟨0,[(15,Ev)],(kz [22,2,30,3,88,10,142,13])⟩] (sq (sq (.opn [(15,1,85)]) go) go))))))) go) go)))) go)) (sq (sq go (sq (.loop (kz [15,1,38,1,39,1,42,3,43,1,192,1,198,25]) [(15,Vd),(198,hA1)] [192] [⟨4,[(15,Vd)],(kz [192,4])⟩] (sq go (sq go (sq (sq (sq go (sq go (sq (.loop (kz [15,1,42,3,43,1,212,17]) [(212,hA1),(15,Vd)] (kz [200,4]) [⟨6,[(15,Vd)],(kz [38,1,200,7])⟩] go) go))) go) go)))) go)) go)))))))
abbrev E36:Env:=eT 24 [(1,[13,23,11]),(2,[6,5,4])]
abbrev abx:Plan:=(sq go (sq go (sq (sq go (sq (.loop (kz [1,1,10,2,18,14]) [(1,hA3),(10,N8),(12,hA1)] [16,14,8] [⟨2,[(1,hA3),(10,N8)],[12,16,14,2]⟩] go) go)) go)))
abbrev E72:Env:=eT 25 [(1,[16,24,7,11]),(2,[6,5,4])]
abbrev aby:Plan:=(sq go (sq go (sq (sq go (sq (.loop (kz [1,1,2,1,10,19]) [(12,hA1),(1,hA3),(10,N8)] [16,14,8,2] [⟨2,[(1,hA3),(10,N8)],[12,16,14,2]⟩] (sq go (sq (sq (sq go (.cut (kz [1,1,10,1,32,8]) [⟨0,[(1,hA3),(10,N8)],[30,28,26,20,18]⟩] go)) go) go))) go)) go)))
abbrev E32:Env:=eT 69 [(5,[67,68]),(1,[36,37,34,46,47,44,56,54,23,21,65,67,68]),(2,[3,5,18,31,40,7,42,50,52,63,29])]
abbrev abz:Plan:=(sq go (sq go (sq go (sq (sq go (sq (sq (sq go (.cut [66,62] [⟨0,[(62,hA2)],(kz [2,1,16,12,64,1])⟩] go)) (.cut (kz [1,1,10,1,13,1,14,1,40,12,68,31]) [⟨0,[(1,hA3),(13,aaT),(14,hA1)],[62,40,10]⟩] (sq go (sq go (.cut (kz [1,1,10,1,13,1,14,1,40,12,84,23]) [⟨0,[(14,hA1),(13,aaT),(1,hA3)],[84,86,62,40,10]⟩] (sq go (sq go (.cut (kz [1,1,13,1,14,1,42,10,108,11]) [⟨0,[(1,hA3),(13,aaT),(14,hA1)],[104,106,84,86,62,40,10]⟩] go)))))))) go)) go))))
abbrev E53:Env:=eF 22 [(1,[8,12]),(2,[2,4])]
abbrev abA:Plan:=(sq go (sq (.cut (kz [8,18]) [⟨0,[(8,hA2)],[4,0,2]⟩] go) go))
abbrev an9:Env:=eF 26 [(5,[25]),(1,[20,12,25]),(2,[2,7,23,6])]
abbrev VB:Plan:=(sq go (sq go (sq (sq go (.cut [11,18] [⟨0,[(11,Ur)],[16,14,0]⟩] go)) (sq (sq go (sq (.loop (kz [11,1,12,1,20,15]) [(12,hA1),(11,Ur)] [] [⟨2,[(11,Ur)],[12,4,2]⟩] (sq go (sq (sq (sq go (.cut (kz [11,1,38,6]) [⟨0,[(11,Ur)],(kz [20,2,28,5])⟩] go)) go) go))) go)) go))))
abbrev aoa:Env:=eF 61 [(5,[55]),(1,[21,27,39,42,55,57,30,58,59]),(2,[3,4,8,20,7,9,26,13,14,15,11,12,60])]
abbrev VD:Plan:=(sq go (sq go (sq go (sq go (sq go (sq (sq go (sq (.loop (kz [0,2,16,2,21,1,22,9,44,4,56,30]) [(24,hA1),(21,(.aW 1 true true .bool)),(22,hA2)] (kz [0,2,14,3,32,4,44,4]) [⟨2,[(21,(.aW 1 true true .bool)),(22,hA2)],(kz [0,5,16,2,24,1,32,4,44,4])⟩] (sq go (sq (sq (sq go (sq (.cut (kz [30,1,76,14]) [⟨0,[(30,hA2)],(kz [26,2,56,2,64,6])⟩] go) (sq go (.cut (kz [21,1,22,1,108,4]) [⟨0,[(21,(.aW 1 true true .bool)),(22,hA2)],[106,104,30]⟩] go)))) go) go))) go)) go))))))
abbrev E75:Env:=eF 11 [(1,[6,7]),(2,[2,3,9,5])]
abbrev abB:Plan:=go
abbrev aob:Env:=eF 23 [(1,[11]),(2,[3,6])]
abbrev VE:Plan:=(sq go (sq (.cut (kz [12,17]) [⟨0,[(12,hA2)],[6,0,2,4]⟩] go) go))
abbrev E52:Env:=eF 117 [(1,[76,14,33,38,43,48,55,26,67,81,95]),(2,[1,29,70,7,2,84,10])]
abbrev abC:Plan:=(sq go (sq (sq (.cut (kz [22,8]) [⟨0,[(36,hA2)],[0]⟩] go) go) (sq go (sq (sq go (sq (.loop (kz [4,1,8,1,9,1,36,6,52,38]) [(52,hA1)] (kz [4,1,36,6]) [⟨1,[(4,hA1)],agZ⟩,⟨2,[],agZ⟩] (sq go (sq go (sq (sq (sq go (sq (.cut (kz [60,33]) [⟨0,[(124,hA2)],[8,58,56,54]⟩] go) go)) go) go)))) go)) (sq (sq go (sq (.loop (kz [4,1,12,2,13,1,134,11]) [(134,hA1)] [128] [⟨1,[(4,hA1)],(kz [128,4])⟩,⟨4,[],(kz [128,4])⟩] go) go)) (sq (sq go (sq (.loop (kz [4,1,18,1,19,1,162,9]) [(162,hA1)] [156] [⟨1,[(4,hA1)],(kz [156,4])⟩,⟨6,[],(kz [156,4])⟩] go) go)) (sq (sq go (sq (.loop (kz [4,1,20,1,180,27]) [(20,hA1)] [] [⟨1,[(4,hA1)],[20,2]⟩,⟨8,[],[20,2]⟩] go) go)) go)))))))
abbrev E73:Env:=eF 22 [(1,[21,16,12]),(2,[1,15,3,2])]
abbrev abD:Plan:=(sq go (sq go (sq (sq go (.cut (kz [0,4,10,16,11,1]) [⟨0,[(6,OZ)],[16,14,12,2,0]⟩] (sq (sq go (sq (.loop (kz [6,1,10,1,11,1,24,9]) [(6,OZ),(24,hA1)] (kz [0,3,12,4]) [⟨2,[(6,OZ)],(kz [0,2,12,7])⟩] go) go)) go))) go)))
abbrev E33:Env:=eF 54 [(1,[43,15,53,35,27,44,45,19]),(2,[1,4,3,7,23,30,40,5,2])]
abbrev abE:Plan:=(sq go (sq go (sq go (sq (sq go (sq (.loop (kz [0,1,4,4,14,2,17,1,20,5,21,1,32,1,38,31]) [(38,hA1),(10,Lm)] [32,28,26,8,24,22,6,4,0] [⟨2,[(10,Lm)],(kz [0,2,8,1,22,4,32,4])⟩] (sq go (sq go (sq (sq (sq go (sq go (sq (sq go (sq (.loop (kz [17,1,20,1,21,1,40,5,54,16]) [(17,Ew),(54,hA1)] (kz [40,5]) [⟨4,[(17,Ew)],(kz [40,8])⟩] (sq go (sq go (sq (sq (sq go (sq go (.cut (kz [17,1,70,7]) [⟨0,[(17,Ew)],(kz [20,1,56,7])⟩] go))) go) go)))) go)) go))) go) go)))) go)) (sq (sq (.opn [(10,0,5)]) go) go)))))
abbrev E6:Env:=eT 176 [(5,[153,175]),(1,[94,23,39,35,58,95,96,49,102,112,129,135,137,147,142,151,153,125,162,160,175]),(2,[24,29,38,6,9,11,54,13,71,87,99,105,14,120,128,17,18,149,20,21,172])]
abbrev ahn:Plan:=(sq go (sq go (sq go (sq go (sq go (sq (sq go (sq (.loop (kz [12,1,16,1,17,1,70,9]) [(12,OZ),(70,hA1)] (kz [2,1,44,11]) [⟨2,[(12,OZ)],(kz [2,1,44,14])⟩] go) go)) (sq go (sq (sq go (sq (.loop (kz [1,1,11,1,22,3,25,1,88,3,98,53,111,1,123,1,131,1,149,2]) [(98,hA1),(11,Ve),(1,hA3)] [92,90,88] [⟨4,[(11,Ve),(1,hA3)],(kz [18,1,88,6])⟩] (sq go (sq go (sq (sq (sq go (sq go (sq (sq (.opn [(25,1,55)]) (sq (.loop (kz [11,1,25,1,26,1,116,33,123,1,131,1,149,2]) [(116,hA1),(11,Ve),(25,Hu)] (kz [100,7]) [⟨6,[(11,Ve),(25,Hu)],(kz [100,9])⟩] (sq go (sq go (sq (sq (sq go (sq (.opn [(25,1,65)]) (.opn [(25,1,74),(11,5,75)]))) go) go)))) go)) (sq (.cut [182,184,25] [⟨0,[(25,(.aI 1 true [(.int .i64),(.sl 0 JF)]))],[182,184]⟩] go) go)))) go) go)))) go)) (sq go (sq (sq go (sq (.loop (kz [1,1,11,1,28,1,204,20]) [(28,hA1),(11,aaU),(1,hA3)] (kz [204,8]) [⟨8,[(11,aaU),(1,hA3)],(kz [12,1,28,1,204,8])⟩] (sq go (sq (sq (sq go (.cut (kz [1,1,11,1,234,5]) [⟨0,[(11,aaU),(1,hA3)],(kz [220,2,228,3])⟩] go)) go) go))) go)) (sq (sq go (sq (.loop (kz [1,1,11,1,32,5,33,1,39,1,244,1,250,31]) [(1,hA3),(11,NZ),(250,hA1)] [244] [⟨10,[(1,hA3),(11,NZ)],(kz [244,4])⟩] (sq go (sq go (sq (sq (sq go (sq go (sq (.cut (kz [1,1,270,7]) [⟨0,[(1,hA3),(282,hA2)],(kz [36,1,252,9])⟩] go) (.cut (kz [11,1,32,2,38,2,39,1,282,14]) [⟨0,[(11,NZ)],[282,34,32]⟩] (sq (sq go (sq go (.cut [11,308,39,306] [⟨0,[(11,NZ)],(kz [32,2,38,2,282,12])⟩] go))) go))))) go) go)))) go)) (sq (sq go (sq (.loop (kz [1,1,11,1,42,1,316,17]) [(42,hA1),(11,NZ),(1,hA3)] [314,312] [⟨12,[(11,NZ),(1,hA3)],[42,314,312]⟩] go) go)) go))))))))))))
abbrev E38:Env:=eT 27 [(1,[26,9,14,19]),(2,[3,4])]
abbrev abF:Plan:=(sq go (sq (sq (.cut (kz [1,1,10,9]) [⟨0,[(1,hA3),(26,hA2)],[2]⟩] go) go) go))
abbrev E19:Env:=eT 27 [(5,[26]),(1,[26]),(2,[15,25])]
abbrev abG:Plan:=(sq go (sq go (sq (sq go (.cut (kz [1,1,7,1,38,7]) [⟨0,[(7,Vf),(1,hA3)],(kz [8,15])⟩] go)) go)))
abbrev E50:Env:=eF 21 [(1,[6,11,16]),(2,[1,2])]
abbrev abH:Plan:=(sq go (sq (.cut ag0 [⟨0,[(4,hA2)],[2,0]⟩] go) go))
abbrev E59:Env:=eF 23 [(1,[21]),(2,[2,4])]
abbrev abI:Plan:=go
abbrev E10:Env:=eF 24 [(5,[21]),(1,[21,22]),(2,[9,16,20,3])]
abbrev abJ:Plan:=go
abbrev aoc:Env:=eF 19 [(1,[10]),(2,[2,13])]
abbrev VF:Plan:=(sq go (sq (sq go (sq (.loop (kz [8,1,12,1,13,1,20,9]) [(20,hA1)] [14,8,4,0] [⟨1,[(8,hA2)],(kz [0,3,14,4])⟩,⟨2,[],(kz [0,3,14,4])⟩] go) go)) go))
abbrev aod:Env:=eF 25 [(5,[22]),(1,[22,14]),(2,[2,17,24])]
abbrev VG:Plan:=(sq go (sq (sq go (.cut (kz [0,3,9,1,10,1,14,17,15,1]) [⟨1,[(10,hA2),(9,JJ)],(kz [0,3,16,3])⟩,⟨0,[(9,aaV)],(kz [0,3,16,3])⟩] (sq (sq go (sq (.loop (kz [9,1,10,1,14,1,15,1,28,10]) [(9,aaV),(28,hA1)] [22,20,18,16,10,4,0] [⟨1,[(10,hA2),(9,JJ)],ag1⟩,⟨2,[(9,aaV)],ag1⟩] go) go)) go))) go))
abbrev aoe:Env:=eF 16 [(1,[8,9,7]),(2,[2,11,6,4])]
abbrev VH:Plan:=go
abbrev aof:Env:=eF 45 [(1,[15,17,24,33,40,43]),(2,[3,8,7,9,10,6])]
abbrev VI:Plan:=(sq go (sq go (sq go (sq (sq (.cut (kz [44,6]) [⟨0,[(54,hA2)],(kz [0,2,16,1,22,4,32,6])⟩] go) go) go))))
abbrev aog:Env:=eF 17 [(1,[8]),(2,[3,4])]
abbrev VJ:Plan:=(sq go (sq (.cut hL8 [⟨0,[(8,hA2)],[6,0,2]⟩] go) go))
abbrev aoh:Env:=eF 17 [(1,[5,9,13]),(2,[2])]
abbrev VK:Plan:=(sq go (sq (.cut ag2 [⟨0,[(4,hA2)],[0]⟩] go) go))
abbrev aoi:Env:=eF 15 [(1,[8,10]),(2,[6])]
abbrev VL:Plan:=(sq go (sq (.cut hL1 [⟨0,[(12,hA2)],[0,2,4]⟩] go) go))
abbrev E57:Env:=eF 33 [(1,[32,12,19,24,25,27]),(2,[8,6])]
abbrev abK:Plan:=(sq go (sq (sq (.cut ag3 [⟨0,[(46,hA2)],[]⟩] go) go) go))
abbrev aoj:Env:=eF 23 [(1,[10]),(2,[4,5])]
abbrev VN:Plan:=(sq go (sq (sq (.cut (kz [14,8]) [⟨0,[(28,hA2)],[]⟩] go) go) go))
abbrev aok:Env:=eF 25 [(1,[14,9]),(2,[4,3])]
abbrev VO:Plan:=(sq go (sq (sq go (sq (.loop (kz [4,23]) [(6,hA1)] [4] [⟨1,[(4,hA2)],[6,0]⟩,⟨2,[],[6,0]⟩] (sq go (sq (sq (sq go (sq (.loop (kz [4,1,8,1,22,14]) [(8,hA1)] (kz [10,4]) [⟨1,[(4,hA2)],(kz [8,5])⟩,⟨4,[],(kz [8,5])⟩] go) go)) go) go))) go)) go))
abbrev E55:Env:=eF 79 [(1,[71,10,27,49,55,38,76]),(2,[1,44,3,4,2])]
abbrev abL:Plan:=(sq go (sq (sq (.cut ag4 [⟨0,[(64,hA2)],[0]⟩] go) go) (sq go (sq (sq go (sq (.loop (kz [4,4,11,1,64,44]) [(8,hA1),(6,lg)] [64,4] [⟨1,[(4,hA2)],[8,64,2]⟩,⟨2,[(6,lg)],[8,64,2]⟩] (sq go (sq (sq (sq go (sq (sq (.cut (kz [90,26]) [⟨0,[(140,hA2)],(kz [66,5,80,5])⟩] go) go) go)) go) go))) go)) (sq (.opn [(6,0,3)]) go)))))
abbrev aol:Env:=eF 28 [(1,[24,12]),(2,[2,26,6,27])]
abbrev VP:Plan:=(sq go (sq (sq go (sq (.loop ag5 [(9,Vf),(12,hA1)] [10,0] [⟨1,[(9,Vf),(10,hA2)],[12,4,0,2]⟩,⟨2,[(9,Vf)],[12,4,0,2]⟩] go) go)) go))
abbrev aom:Env:=eF 12 [(1,[5,9]),(2,[2])]
abbrev VQ:Plan:=(sq go (sq (sq (.cut (kz [6,6]) [⟨0,[(16,hA2)],[]⟩] go) go) go))
abbrev aon:Env:=eF 100 [(1,[82,99,22,40,49,38,57,71,83,94,55]),(2,[2,6,47,9,7,12,13,14,10,96,11,4])]
abbrev VR:Plan:=(sq go (sq go (sq (sq go (sq (.loop (kz [8,3,36,16]) [(12,hA1)] [34,32,30,10,8,0] [⟨1,[(8,N9),(10,hA1)],[12,34,32,30,0]⟩,⟨2,[],[12,34,32,30,0]⟩] go) go)) (sq (sq go (sq (.loop (kz [8,2,14,3,17,1,68,17]) [(14,hA1)] [] [⟨1,[(10,hA1),(8,N9)],[14]⟩,⟨4,[],[14]⟩] go) go)) (sq go (sq (sq go (sq (.loop (kz [20,5,21,1,102,48]) [(20,N9),(22,hA1)] [] [⟨6,[(20,N9)],[22,4,2]⟩] (sq go (sq (sq (sq go (sq (sq (.cut (kz [20,1,21,1,136,14]) [⟨0,[(20,N9),(162,hA2)],(kz [28,1,102,4,114,11])⟩] (.opn [(20,0,10)])) (.cut (kz [20,1,164,5]) [⟨0,[(20,N9)],[162,24]⟩] go)) (.opn [(20,0,10)]))) go) go))) go)) go))))))
abbrev E88:Env:=eF 71 [(1,[64,20,70,42,49,57,59,34]),(2,[4,5,7,10,9,37,14,15,11,8])]
abbrev abM:Plan:=(sq go (sq go (sq go (sq go (sq go (sq go (sq (sq go (sq (.loop (kz [0,2,6,1,10,1,20,2,26,7,27,1,42,11,68,36]) [(22,lg),(68,hA1)] (kz [0,2,6,1,10,1,16,3,32,4,42,11]) [⟨2,[(22,lg)],(kz [0,6,14,1,20,1,32,4,42,14])⟩] (sq go (sq go (sq (sq (sq go (sq (sq (.cut (kz [76,11]) [⟨0,[(96,hA2)],[74,72,70]⟩] go) go) (sq go (sq (.cut (kz [114,7]) [⟨0,[(126,hA2)],(kz [28,2,96,9])⟩] go) (.cut (kz [22,1,128,5]) [⟨0,[(22,lg)],[126,26]⟩] go))))) go) go)))) go)) go)))))))
abbrev E89:Env:=eF 16 [(1,[6,9,12]),(2,[5,4])]
abbrev abN:Plan:=go
abbrev aoo:Env:=eF 18 [(1,[17,13,11]),(2,[3,4,2])]
abbrev VT:Plan:=(sq go (sq go (sq go (sq (sq go (sq (.loop (kz [6,2,16,9]) [(8,hA1),(6,Hw)] [14,12,10,4] [⟨2,[(6,Hw)],[8,14,12,10,0]⟩] go) go)) go))))
abbrev aop:Env:=eF 12 [(1,[7]),(2,[4])]
abbrev VU:Plan:=(sq go (sq (.cut (kz [8,8]) [⟨0,[(8,hA2)],[0,2]⟩] go) go))
abbrev aoq:Env:=eF 14 [(1,[7]),(2,[4])]
abbrev VW:Plan:=(sq go (sq (.cut ag6 [⟨0,[(8,hA2)],[0,2]⟩] go) go))
abbrev E56:Env:=eF 54 [(1,[6,11,16,21,28,33,38,43,48]),(2,[1,2])]
abbrev abO:Plan:=(sq go (sq (.cut ag7 [⟨0,[(4,hA2)],[2,0]⟩] go) go))
abbrev E90:Env:=eF 53 [(1,[48,20,52,14,12,25]),(2,[3,5,8,9,7,28,30,35,40,10,11,6])]
abbrev abP:Plan:=(sq go (sq go (sq go (sq go (sq (sq go (sq (.loop (kz [11,1,12,2,20,2,42,31]) [(11,Vg),(20,aaX),(22,hA1)] (kz [0,3,12,2,18,1,24,8]) [⟨1,[(12,aaX),(14,hA1)],ag8⟩,⟨2,[(20,aaX)],ag8⟩] go) go)) go)))))
abbrev E39:Env:=eF 66 [(1,[28,37,19,18,31,29,43,48,60,61,62]),(2,[5,6,8,12,13,11,14,44,51,57,10])]
abbrev abQ:Plan:=(sq go (sq go (sq go (sq go (sq go (sq go (sq (sq go (sq (.loop (kz [0,2,6,3,16,1,26,2,31,1,34,11,35,1,58,8,76,8,96,12]) [(31,Vg),(96,hA1)] (kz [0,2,6,3,16,1,20,2,26,2,36,10,58,8,76,8]) [⟨2,[(31,Vg)],(kz [0,6,16,1,26,2,36,10,58,8,76,11])⟩] (sq go (sq go (sq (sq (sq go (sq go (.cut [31,116,114,112] [⟨0,[(31,Vg)],(kz [34,1,98,7])⟩] go))) go) go)))) go)) go)))))))
abbrev aor:Env:=eF 15 [(1,[8,10]),(2,[6])]
abbrev VX:Plan:=(sq go (sq (.cut hL1 [⟨0,[(12,hA2)],[0,2,4]⟩] go) go))
abbrev aos:Env:=eF 18 [(1,[10]),(2,[5])]
abbrev VY:Plan:=(sq go (sq (sq go (sq (.loop hL9 [(10,hA1)] [8] [⟨1,[(8,hA2)],[10,0,2]⟩,⟨2,[],[10,0,2]⟩] go) go)) go))
abbrev aot:Env:=eF 166 [(1,[14,20,61,42,83,108,128,98,155,145]),(2,[1,4,3,5,7,8,6,9])]
abbrev VZ:Plan:=(sq go (sq (sq (.cut (kz [20,27]) [⟨0,[(72,hA2)],[0]⟩] go) go) (sq (sq go (sq (.loop (kz [4,3,72,38]) [(6,hA1)] [72,4] [⟨1,[(4,hA1)],[6,72]⟩,⟨2,[],[6,72]⟩] (sq go (sq (sq (sq go (sq go (sq (.loop (kz [4,1,8,1,104,22]) [(8,hA1)] (kz [74,5,88,8]) [⟨1,[(4,hA1)],ag9⟩,⟨4,[],ag9⟩] go) go))) go) go))) go)) (sq go (sq (sq go (sq (.loop (kz [4,1,10,1,156,15]) [(10,hA1)] (kz [148,4]) [⟨1,[(4,hA1)],(kz [10,1,148,4])⟩,⟨6,[],(kz [10,1,148,4])⟩] go) go)) (sq (sq go (sq (.loop (kz [4,1,12,3,186,47]) [(12,hA1)] [] [⟨1,[(4,hA1)],[12]⟩,⟨8,[],[12]⟩] (sq go (sq (sq (sq go (sq (sq (.cut (kz [212,18]) [⟨0,[(246,hA2)],(kz [186,5,200,6])⟩] go) go) (sq go (sq (.loop (kz [4,1,16,1,248,16]) [(16,hA1)] [246] [⟨1,[(4,hA1)],[16,246,14]⟩,⟨10,[],[16,246,14]⟩] go) go)))) go) go))) go)) (sq (sq go (sq (.loop (kz [4,1,18,1,280,26]) [(18,hA1)] [] [⟨1,[(4,hA1)],[18,2]⟩,⟨12,[],[18,2]⟩] (sq go (sq (sq (sq (.cut (kz [294,19]) [⟨0,[(330,hA2)],(kz [280,5])⟩] go) go) go) go))) go)) go)))))))
abbrev aou:Env:=eF 67 [(1,[13,25,55,43]),(2,[3,4,5])]
abbrev V3:Plan:=(sq go (sq go (sq (sq go (sq (.loop (kz [4,2,18,12]) [(6,hA1)] [16,14,12,4] [⟨1,[(4,hA1)],[6,16,14,12]⟩,⟨2,[],[6,16,14,12]⟩] go) go)) (sq (sq go (sq (.loop (kz [4,1,8,1,42,18]) [(8,hA1)] [] [⟨1,[(4,hA1)],[8]⟩,⟨4,[],[8]⟩] go) go)) (sq (sq go (sq (.loop (kz [4,1,10,1,78,28]) [(10,hA1)] [] [⟨1,[(4,hA1)],[10,0]⟩,⟨6,[],[10,0]⟩] (sq go (sq (sq (sq (.cut (kz [90,22]) [⟨0,[(132,hA2)],(kz [78,4])⟩] go) go) go) go))) go)) go)))))
abbrev E92:Env:=eF 25 [(1,[20,21,11]),(2,[23,6,24])]
abbrev abR:Plan:=(sq go (sq (sq go (sq (.loop (kz [9,1,10,19]) [(9,Vh),(12,hA1)] [10] [⟨1,[(9,(.aI 1 true [(.int .i64),(.int .i64),(.int .i64),(.sl 0 Bg)])),(10,hA2)],[12,0,2]⟩,⟨2,[(9,Vh)],[12,0,2]⟩] go) go)) go))
abbrev E91:Env:=eF 40 [(1,[12,18,19,17,23,33]),(2,[4,21,8])]
abbrev abS:Plan:=(sq go (sq (sq (.cut (kz [18,8]) [⟨0,[(32,hA2)],[2]⟩] go) go) (sq go (sq go (sq go (sq (sq (.cut (kz [56,12]) [⟨0,[(78,hA2)],(kz [0,1,4,1,8,1,14,2,32,12])⟩] go) go) go))))))
abbrev aov:Env:=eF 19 [(1,[7,11]),(2,[4])]
abbrev V4:Plan:=(sq go (sq (.cut (kz [8,15]) [⟨0,[(8,hA2)],[0,2]⟩] go) go))
abbrev aow:Env:=eF 17 [(1,[12,16,7]),(2,[3,4,2])]
abbrev V5:Plan:=(sq go (sq go (sq (sq go (sq (.loop (kz [6,13]) [(8,hA1),(6,lg)] [4] [⟨2,[(6,lg)],[8,0]⟩] (sq go (sq (sq (sq go (.cut [26,28,24,6,30] [⟨0,[(6,lg)],[22,20,18,12,10]⟩] go)) go) go))) go)) go)))
abbrev aox:Env:=eF 20 [(1,[19,6,10,16,17]),(2,[5,4])]
abbrev V6:Plan:=(sq go (sq go (sq (sq (.cut (kz [16,8]) [⟨0,[(30,hA2)],[14,12,0]⟩] go) go) go)))
abbrev aoy:Env:=eF 5 [(1,[3]),(2,[2])]
abbrev V7:Plan:=go
abbrev aoz:Env:=eF 28 [(1,[24,12]),(2,[2,26,6,27])]
abbrev V8:Plan:=(sq go (sq (sq go (sq (.loop ag5 [(9,Ur),(12,hA1)] [10,0] [⟨1,[(9,Ew),(10,hA2)],[12,4,0,2]⟩,⟨2,[(9,Ur)],[12,4,0,2]⟩] go) go)) go))
abbrev aoA:Env:=eF 32 [(1,[31,10,11,9,15,17,25]),(2,[3,13,8,6])]
abbrev V9:Plan:=(sq go (sq go (sq (sq (.cut (kz [30,8]) [⟨0,[(44,hA2)],(kz [0,2,6,1,16,7])⟩] go) go) go)))
abbrev aoB:Env:=eF 9 [(2,[1,2])]
abbrev Wd:Plan:=go
abbrev aoC:Env:=eF 45 [(1,[44,19,27,28,32,40,17]),(2,[4,11,12,9,10,8])]
abbrev Wh:Plan:=(sq go (sq go (sq (sq go (sq (.loop (kz [0,1,18,35]) [(20,hA1),(18,Hw)] [16,0] [⟨2,[(18,Hw)],[20,8,0,2,4,6]⟩] (sq go (sq (sq (sq go (sq (.cut (kz [54,13]) [⟨0,[(78,hA2)],(kz [22,6,38,8])⟩] go) (.cut [18,86,84,82,80] [⟨0,[(18,Hw)],[78]⟩] go))) go) go))) go)) go)))
abbrev aoD:Env:=eF 32 [(5,[31]),(1,[9,14,24,31]),(2,[2,21,25,29])]
abbrev Wi:Plan:=(sq go (sq (sq (.cut (kz [12,15]) [⟨0,[(40,hA2)],[0]⟩] go) go) go))
abbrev E93:Env:=eF 88 [(5,[87]),(1,[53,20,30,34,45,51,54,55,84,85,87]),(2,[2,3,6,7,8,9,10,11,66,72,74,82,49,13,59,64])]
abbrev abT:Plan:=(sq go (sq go (sq go (sq (sq (.loop (kz [0,2,11,1,12,81,25,1]) [(12,Hw),(11,Q5)] [30,28,0,2] [⟨2,[(11,Q5)],[12,30,28,6,4,0,2]⟩] (sq go (sq (sq go (sq go (sq go (sq go (sq (sq (sq go (.cut (kz [11,1,14,7,25,1,32,68]) [⟨0,[(11,Q5),(22,Hw)],(kz [14,4,32,20,132,3])⟩] (sq go (sq go (.cut (kz [11,1,14,7,25,1,32,53,148,10]) [⟨0,[(22,Hw),(11,Q5)],(kz [14,4,32,20,132,3,148,5])⟩] (sq go (sq go (sq go (sq go (.cut (kz [11,1,25,1,104,14]) [⟨0,[(11,Q5)],(kz [14,4,24,2,32,36,132,3,148,5])⟩] go)))))))))) go) go))))) go))) go) go))))
abbrev aoE:Env:=eF 20 [(5,[19]),(1,[8,16,19]),(2,[2,15,17])]
abbrev Wj:Plan:=(sq go (sq (sq (.cut (kz [10,10]) [⟨0,[(28,hA2)],[0]⟩] go) go) go))
abbrev aoF:Env:=eF 31 [(1,[19,30,17]),(2,[4,5,7,8,9,6])]
abbrev Wm:Plan:=(sq go (sq go (sq go (sq (sq go (sq (.loop (kz [16,2,26,17]) [(18,hA1),(16,JI)] [24,22,20,12,8,2,4] [⟨2,[(16,JI)],(kz [0,3,8,2,14,1,18,4])⟩] go) go)) go))))
abbrev E94:Env:=eF 59 [(5,[58]),(1,[11,22,38,14,35,58]),(2,[4,6,7,16,28,56,9])]
abbrev abU:Plan:=(sq go (sq go (sq (sq go (.cut (kz [9,1,42,9]) [⟨0,[(9,Q6)],(kz [0,1,4,2,12,1,20,11])⟩] go)) (sq (sq go (sq (.loop (kz [9,1,18,1,60,28]) [(9,Q6),(18,hA1)] [] [⟨2,[(9,Q6)],[18,14,2]⟩] go) go)) go))))
abbrev E40:Env:=eF 70 [(5,[69]),(1,[65,60,24,25,26,47,56,57,61,62,34,69]),(2,[4,8,23,7,9,12,46,51,15,55,59,64,11])]
abbrev abV:Plan:=(sq go (sq go (sq go (sq go (sq (sq go (sq (.loop (kz [2,2,8,1,16,2,19,2,22,12,27,2,33,1,50,44]) [(21,Q6),(22,hA1),(18,(.lf (.sl 2 Bh)))] (kz [2,2,8,1,14,2,34,6,50,5]) [⟨2,[(21,Q6)],(kz [0,3,8,1,16,2,22,1,34,6,50,5])⟩] (sq (sq (.opn [(18,0,9)]) go) (sq (sq (sq (.opn [(18,0,9)]) (sq go (sq go (sq (sq go (.cut [33,118,116,29,114] [⟨0,[(33,(.aI 1 true [(.int .u64),(.int .u64),(.sl 0 Bh)]))],(kz [28,2,60,4,72,21])⟩] go)) go)))) go) go))) go)) go)))))
abbrev aoG:Env:=eF 9 [(1,[5]),(2,[2])]
abbrev Wn:Plan:=(sq go (sq (.cut (kz [4,7]) [⟨0,[(4,hA2)],[0]⟩] go) go))
abbrev aoH:Env:=eF 21 [(1,[11]),(2,[2,5])]
abbrev Wo:Plan:=(sq go (sq (sq go (sq (.loop (kz [8,17]) [(10,hA1)] [8,0] [⟨1,[(8,hA2)],[10,4,0,2]⟩,⟨2,[],[10,4,0,2]⟩] go) go)) go))
abbrev E86:Env:=eF 182 [(1,[16,36,27,50,82,88,93,71,114,103,130,168,150]),(2,[1,3,4,77,5,7,8,157,162,9])]
abbrev abW:Plan:=(sq go (sq (sq (.cut (kz [24,10]) [⟨0,[(42,hA2)],[0]⟩] go) go) (sq (sq go (sq (.loop (kz [4,2,42,24]) [(6,hA1)] [42,4] [⟨1,[(4,hA1)],[6,42]⟩,⟨2,[],[6,42]⟩] (sq go (sq (sq (sq (.cut (kz [58,16]) [⟨0,[(88,hA2)],(kz [44,5])⟩] go) go) go) go))) go)) (sq (sq go (sq (.loop (kz [4,1,8,1,90,21]) [(8,hA1)] [] [⟨1,[(4,hA1)],[8]⟩,⟨4,[],[8]⟩] go) go)) (sq (sq go (sq (.loop (kz [4,1,10,2,13,1,132,32]) [(10,hA1)] [] [⟨1,[(4,hA1)],[10]⟩,⟨6,[],[10]⟩] (sq go (sq (sq (sq go (sq (.cut (kz [156,20]) [⟨0,[(194,hA2)],(kz [12,1,132,5,146,5])⟩] go) go)) go) go))) go)) (sq (sq go (sq (.loop (kz [4,1,14,1,196,27]) [(14,hA1)] [] [⟨1,[(4,hA1)],[14]⟩,⟨8,[],[14]⟩] (sq go (sq (sq (sq (.cut (kz [210,20]) [⟨0,[(248,hA2)],(kz [196,5])⟩] go) go) go) go))) go)) (sq (sq go (sq (.loop (kz [4,1,16,1,250,20]) [(16,hA1)] [] [⟨1,[(4,hA1)],[16]⟩,⟨10,[],[16]⟩] go) go)) (sq (sq go (sq (.loop (kz [4,1,18,3,21,2,290,37]) [(18,hA1)] [] [⟨1,[(4,hA1)],[18,2]⟩,⟨12,[],[18,2]⟩] (sq go (sq (sq (sq go (sq (.cut (kz [326,19]) [⟨0,[(362,hA2)],(kz [20,2,290,5,304,11])⟩] go) go)) go) go))) go)) go))))))))
abbrev aoI:Env:=eF 30 [(1,[29,26,14]),(2,[2,4,5])]
abbrev Wp:Plan:=(sq go (sq go (sq (sq go (sq (.loop (kz [8,2,18,21]) [(10,hA1)] [16,14,12,8,0] [⟨1,[(8,hA2)],(kz [0,3,10,4])⟩,⟨2,[],(kz [0,3,10,4])⟩] go) go)) go)))
abbrev aoJ:Env:=eF 13 [(1,[8]),(2,[2,4])]
abbrev Wq:Plan:=(sq go (sq (.cut (kz [8,9]) [⟨0,[(8,hA2)],[4,0,2]⟩] go) go))
abbrev aoK:Env:=eF 46 [(1,[33,45,26,38,15]),(2,[3,21,6,8])]
abbrev Ws:Plan:=(sq go (sq (sq go (sq (.loop (kz [0,1,12,40,19,1]) [(16,hA1)] [14,12,0] [⟨1,[(14,hA2),(12,hA1)],[16,6,0,2,4]⟩,⟨2,[],[16,6,0,2,4]⟩] (sq go (sq (sq (sq go (sq (sq (.cut (kz [44,10]) [⟨0,[(62,hA2)],(kz [20,5,34,5])⟩] go) go) (sq (.cut (kz [68,10]) [⟨0,[(86,hA2)],[62]⟩] go) go))) go) go))) go)) go))
abbrev aoL:Env:=eF 39 [(1,[29,38,16,28,14]),(2,[2,7,8,5,6,4])]
abbrev Wt:Plan:=(sq go (sq go (sq (sq go (sq (.loop (kz [0,1,10,33]) [(10,lg),(12,hA1)] [8,0] [⟨2,[(10,lg)],[12,4,0,2]⟩] (sq go (sq (sq (sq go (sq go (.cut (kz [10,1,58,9]) [⟨0,[(10,lg)],(kz [14,7,32,13])⟩] go))) go) go))) go)) go)))
abbrev aoM:Env:=eF 48 [(1,[34,39,43,33,11,19,25,40,44,45]),(2,[5,4,6])]
abbrev Wu:Plan:=(sq go (sq go (sq (sq (.loop hL3 [(10,hA1)] [8] [⟨2,[(10,hA1)],[]⟩] (sq (sq (.cut hL4 [⟨0,[(36,hA2)],[]⟩] go) go) go)) go) (sq (sq (.cut hL5 [⟨0,[(64,hA2)],[]⟩] go) go) go))))
abbrev aoN:Env:=eF 22 [(1,[21,11]),(2,[2,4,5])]
abbrev Wv:Plan:=(sq go (sq (sq go (sq (.loop (kz [8,18]) [(10,hA1)] [8,0] [⟨1,[(8,hA1)],[10,4,0,2]⟩,⟨2,[],[10,4,0,2]⟩] go) go)) go))
abbrev aoO:Env:=eF 103 [(1,[102,20,96,47,40]),(2,[2,5,6,53,10,11,80,100,8,7,4])]
abbrev Ww:Plan:=(sq go (sq go (sq (sq go (sq (.loop (kz [0,1,10,2,11,1,24,24]) [(12,hA1),(10,lg)] [30,28,26,24,8,0] [⟨2,[(10,lg)],[12,30,28,26,24,0,2]⟩] (sq (sq (.opn [(10,0,5)]) go) (sq (sq (sq (.opn [(10,0,5)]) (sq go (.cut [10,11,70,68,66] [⟨0,[(10,lg)],(kz [32,4,44,11])⟩] (sq (.opn [(10,0,5)]) go)))) go) go))) go)) (sq (sq go (sq (.loop (kz [10,1,11,1,14,5,19,1,72,66]) [(14,hA1),(10,lg)] [] [⟨4,[(10,lg)],[14,4]⟩] (sq (sq (.opn [(10,0,5)]) go) (sq (sq (sq go (sq (.loop (kz [10,1,11,1,16,4,19,1,72,4,84,60]) [(10,lg),(16,hA1)] (kz [72,4]) [⟨6,[(10,lg)],[16,78,76,74,72]⟩] (sq go (sq (sq (sq go (sq go (sq (sq (.opn [(10,0,5)]) (.cut (kz [10,1,11,1,134,15]) [⟨0,[(10,lg)],(kz [84,5,98,18])⟩] (sq (.opn [(10,0,5)]) go))) (sq (.opn [(10,0,5)]) (.cut (kz [10,1,11,1,174,15]) [⟨0,[(10,lg)],(kz [18,3,164,5])⟩] (sq (.opn [(10,0,5)]) go)))))) go) go))) go)) go) go))) go)) go))))
abbrev aoP:Env:=eF 27 [(1,[26,23,24,13]),(2,[3,6,7])]
abbrev Wx:Plan:=(sq go (sq (sq go (sq (.loop (kz [12,21]) [(14,hA1)] [12,0] [⟨1,[(12,hA1)],[14,6,0,2,4]⟩,⟨2,[],[14,6,0,2,4]⟩] go) go)) go))
abbrev aoQ:Env:=eF 71 [(1,[63,70,19,32,50,30]),(2,[3,8,9,11,12,7,10,6])]
abbrev Wy:Plan:=(sq go (sq go (sq go (sq (sq (.cut (kz [34,6]) [⟨0,[(44,hA2)],[32,30,28,26,0]⟩] go) go) (sq go (sq (sq go (sq (.loop (kz [14,1,18,4,19,1,44,48]) [(20,hA1),(14,lg),(18,lg)] [50,48,46,44,12] [⟨2,[(14,lg)],(kz [2,3,16,3,44,4])⟩] (sq (sq (.opn [(18,0,9)]) go) (sq (sq (sq (.opn [(18,0,9)]) (sq (.cut (kz [18,1,19,1,84,21]) [⟨0,[(18,lg),(124,hA2)],(kz [22,2,52,4,64,10])⟩] (.opn [(18,0,9)])) (.cut (kz [14,1,18,1,19,1,126,7]) [⟨0,[(14,lg),(18,lg)],[124]⟩] (sq (.opn [(18,0,9)]) go)))) go) go))) go)) go))))))
abbrev aoR:Env:=eF 79 [(1,[71,78,17,23,29,31,58,50,37]),(2,[3,7,8,11,9,12,10,6])]
abbrev Wz:Plan:=(sq go (sq (sq (.cut (kz [26,15]) [⟨0,[(54,hA2)],[0]⟩] go) go) (sq go (sq go (sq go (sq (sq go (sq (.loop (kz [2,2,12,1,16,5,17,1,54,51]) [(20,hA1),(18,OZ),(16,lg)] (kz [2,2,12,1,54,6]) [⟨2,[(18,OZ)],(kz [2,3,14,2,20,1,54,6])⟩] (sq (sq (.opn [(16,0,8)]) go) (sq (sq (sq (.opn [(16,0,8)]) (sq go (sq (.loop (kz [16,2,17,1,24,1,66,4,78,39]) [(16,lg),(18,OZ),(24,hA1)] (kz [66,4,78,7]) [⟨4,[(16,lg),(18,OZ)],(kz [22,2,66,4,78,7])⟩] (sq go (sq (sq (sq go (.cut (kz [16,2,17,1,92,4,104,26]) [⟨0,[(18,OZ),(16,lg)],(kz [92,4,104,6])⟩] (sq go (sq (.opn [(16,0,8)]) (.cut (kz [16,1,142,7]) [⟨0,[(16,lg)],(kz [92,4,104,6,128,7])⟩] go))))) go) go))) go))) go) go))) go)) go))))))
abbrev E87:Env:=eF 66 [(5,[65]),(1,[60,61,21,65]),(2,[3,4,15,29,39,57,63,8])]
abbrev abX:Plan:=(sq go (sq go (sq (sq go (sq (.loop (kz [0,2,15,1,16,57,19,1]) [(15,Vh),(16,hA1)] (kz [0,2,20,6]) [⟨2,[(15,Vh)],(kz [0,5,16,1,20,6])⟩] (sq go (sq (sq (sq go (sq (sq go (.cut (kz [19,1,32,5,46,36]) [⟨0,[(19,Ew)],(kz [32,5,46,15])⟩] (sq go (sq go (.cut (kz [19,1,98,10]) [⟨0,[(19,Ew)],(kz [32,5,46,15,82,8])⟩] go))))) go)) go) go))) go)) go)))
abbrev E37:Env:=eF 42 [(1,[29,41,11,21]),(2,[2,3,6,7,4])]
abbrev abY:Plan:=(sq go (sq (sq (.cut (kz [16,8]) [⟨0,[(30,hA2)],[0,2]⟩] go) go) (sq go (sq (sq go (sq (.loop (kz [12,2,30,26]) [(12,aaY),(14,hA1)] [30,10,8] [⟨2,[(12,aaY)],[14,30,6,4]⟩] (sq go (sq (sq (sq go (.cut (kz [12,1,58,12]) [⟨0,[(12,aaY)],(kz [32,5,46,6])⟩] go)) go) go))) go)) go))))
abbrev E7:Env:=eT 61 [(1,[55,60,16,31,42,50,48,44,26]),(2,[3,5,6,9,10,11,47,53,15,7,8,4])]
abbrev aho:Plan:=(sq go (sq go (sq go (sq (sq go (sq (.loop (kz [1,1,2,1,8,1,12,6,26,47,27,2]) [(16,hA1),(14,JI),(1,hA3)] (kz [2,1,8,1,12,1,32,8]) [⟨2,[(14,JI),(1,hA3)],(kz [2,1,6,1,10,2,16,1,32,8])⟩] (sq go (sq (sq (sq go (sq go (sq go (sq (.loop (kz [14,1,26,3,27,2,88,16]) [(88,hA1),(14,JI)] (kz [20,2,48,2,56,14]) [⟨4,[(14,JI)],(kz [18,3,48,2,56,17])⟩] go) go)))) go) go))) go)) go))))
abbrev E95:Env:=eF 15 [(1,[8,10]),(2,[6])]
abbrev ab0:Plan:=(sq go (sq (.cut hL1 [⟨0,[(12,hA2)],[0,2,4]⟩] go) go))
abbrev E96:Env:=eF 17 [(1,[5,9,13]),(2,[2])]
abbrev ab1:Plan:=(sq go (sq (.cut ag2 [⟨0,[(4,hA2)],[0]⟩] go) go))
abbrev E98:Env:=eF 9 [(2,[2,3])]
abbrev ab2:Plan:=go
abbrev aoS:Env:=eF 19 [(1,[17,8]),(2,[5,4])]
abbrev WA:Plan:=(sq go (sq (sq go (sq (.loop hL2 [(16,hA1)] [12,8] [⟨1,[(8,hA1)],[16,14,12,0,2]⟩,⟨2,[],[16,14,12,0,2]⟩] go) go)) go))
abbrev E97:Env:=eF 9 [(1,[5,6]),(2,[4])]
abbrev ab3:Plan:=go
abbrev E41:Env:=eF 77 [(1,[10,27,51,57,60,36]),(2,[1,3,40,5])]
abbrev ab4:Plan:=(sq go (sq (sq (.cut ag4 [⟨0,[(64,hA2)],[0]⟩] go) go) (sq (sq go (sq (.loop (kz [4,4,9,1,64,2,72,41]) [(72,hA1)] [66,64,4] [⟨1,[(4,hA2)],(kz [2,1,64,5])⟩,⟨2,[],(kz [2,1,64,5])⟩] (sq go (sq go (sq (sq (sq go (sq (.opk [(8,0,0)]) (sq (.cut (kz [94,29]) [⟨0,[(150,hA2)],(kz [6,3,74,10])⟩] go) go))) go) go)))) go)) go)))
abbrev E99:Env:=eF 12 [(1,[7]),(2,[4])]
abbrev ab5:Plan:=(sq go (sq (.cut (kz [8,8]) [⟨0,[(8,hA2)],[0,2]⟩] go) go))
abbrev aoT:Env:=eF 9 [(1,[6]),(2,[2])]
abbrev WB:Plan:=go
abbrev aoU:Env:=eF 14 [(1,[7]),(2,[4])]
abbrev WC:Plan:=(sq go (sq (.cut ag6 [⟨0,[(8,hA2)],[0,2]⟩] go) go))
abbrev E42:Env:=eF 54 [(1,[6,11,16,21,28,33,38,43,48]),(2,[1,2])]
abbrev ab6:Plan:=(sq go (sq (.cut ag7 [⟨0,[(4,hA2)],[2,0]⟩] go) go))
abbrev E43:Env:=eF 35 [(1,[32]),(2,[0,2])]
abbrev ab7:Plan:=go
abbrev E45:Env:=eF 14 [(2,[2])]
abbrev ab8:Plan:=go
abbrev E44:Env:=eF 33 [(1,[32,12,19,24,25,27]),(2,[8,6])]
abbrev ab9:Plan:=(sq go (sq (sq (.cut ag3 [⟨0,[(46,hA2)],[]⟩] go) go) go))
abbrev aoV:Env:=eF 19 [(1,[17,8]),(2,[3,5,4])]
abbrev WE:Plan:=(sq go (sq (sq go (sq (.loop hL2 [(16,hA1)] [12,8,2] [⟨1,[(8,hA1)],[16,14,12,6,0,2]⟩,⟨2,[],[16,14,12,6,0,2]⟩] go) go)) go))
abbrev E46:Env:=eF 9 [(1,[5,6]),(2,[3,4])]
abbrev acd:Plan:=go
abbrev E8:Env:=eF 64 [(1,[13,18,23,30,37,43,54,55]),(2,[2,3,9,6,7,4])]
abbrev ahp:Plan:=(sq go (sq go (sq (sq (.cut (kz [20,33]) [⟨0,[(84,hA2)],[18,16,0,2]⟩] go) go) (sq go (sq (.cut (kz [8,1,108,10]) [⟨0,[(8,hA2)],(kz [4,2,10,3,84,12])⟩] go) go)))))
abbrev aoW:Env:=eF 6 [(2,[2])]
abbrev WG:Plan:=go
abbrev aoY:Env:=eF 20 [(1,[11,12,13,17,18]),(2,[5,6])]
abbrev WI:Plan:=go
abbrev ao0:Env:=eF 18 [(1,[15,17,6,8]),(2,[5,2])]
abbrev WK:Plan:=(sq go (sq go (sq (sq go (sq (.loop (kz [4,1,10,1,16,9]) [(16,hA1)] [4,0] [⟨1,[(4,hA1)],[16,14,12,0]⟩,⟨2,[],[16,14,12,0]⟩] go) go)) go)))
abbrev ao1:Env:=eF 15 [(1,[8,10]),(2,[6])]
abbrev WL:Plan:=(sq go (sq (.cut hL1 [⟨0,[(12,hA2)],[0,2,4]⟩] go) go))
abbrev ao2:Env:=eF 47 [(1,[9,23,17,33]),(2,[1,4,5])]
abbrev WM:Plan:=(sq go (sq (sq (.cut (kz [12,8]) [⟨0,[(26,hA2)],[0]⟩] go) go) (sq (sq go (sq (.loop hL6 [(34,hA1)] [28,26,4] [⟨1,[(4,hA1)],(kz [26,5])⟩,⟨2,[],(kz [26,5])⟩] (sq go (sq go (sq (sq (sq go (sq (.cut (kz [42,6]) [⟨0,[(52,hA2)],[8,40,38,36]⟩] go) go)) go) go)))) go)) (sq (sq go (sq (.loop hL7 [(10,hA1)] [] [⟨1,[(4,hA1)],[10,2]⟩,⟨4,[],[10,2]⟩] go) go)) go))))
abbrev ao3:Env:=eF 12 [(1,[6]),(2,[1,2])]
abbrev WO:Plan:=(sq go (sq (.cut (kz [4,10]) [⟨0,[(4,hA2)],[2,0]⟩] go) go))
abbrev ao4:Env:=eF 17 [(2,[2,3,4])]
abbrev WQ:Plan:=go
abbrev E47:Env:=eF 99 [(1,[61,31,37,23,52,66,79]),(2,[1,26,55,7,2,69,85,10])]
abbrev acf:Plan:=(sq go (sq go (sq go (sq (sq go (sq (.loop (kz [0,1,4,1,8,1,9,1,24,9,46,26]) [(46,hA1)] (kz [0,1,4,1,24,9]) [⟨1,[(4,hA1)],ahb⟩,⟨2,[],ahb⟩] (sq go (sq go (sq (sq (sq go (sq (.cut (kz [54,21]) [⟨0,[(94,hA2)],[8,52,50,48]⟩] go) go)) go) go)))) go)) (sq (sq go (sq (.loop (kz [4,1,12,2,13,1,104,11]) [(104,hA1)] [98] [⟨1,[(4,hA1)],(kz [98,4])⟩,⟨4,[],(kz [98,4])⟩] go) go)) (sq (sq go (sq (.loop (kz [4,1,18,1,19,1,132,8]) [(132,hA1)] [126] [⟨1,[(4,hA1)],(kz [126,4])⟩,⟨6,[],(kz [126,4])⟩] go) go)) (sq (sq go (sq (.loop (kz [4,1,20,2,23,1,148,25]) [(20,hA1)] [] [⟨1,[(4,hA1)],[20,2]⟩,⟨8,[],[20,2]⟩] go) go)) go)))))))
abbrev ao5:Env:=eF 21 [(1,[6,11,16]),(2,[1,2])]
abbrev WR:Plan:=(sq go (sq (.cut ag0 [⟨0,[(4,hA2)],[2,0]⟩] go) go))
abbrev E48:Env:=eF 24 [(5,[21]),(1,[21,22]),(2,[9,16,20,3])]
abbrev acg:Plan:=go
abbrev ao6:Env:=eF 19 [(1,[17,8]),(2,[5,4])]
abbrev WS:Plan:=(sq go (sq (sq go (sq (.loop hL2 [(16,hA1)] [12,8] [⟨1,[(8,hA1)],[16,14,12,0,2]⟩,⟨2,[],[16,14,12,0,2]⟩] go) go)) go))
abbrev ao7:Env:=eF 9 [(1,[5,6]),(2,[4])]
abbrev WT:Plan:=go
abbrev ao8:Env:=eF 13 [(1,[7]),(2,[2,4])]
abbrev WU:Plan:=go
abbrev ao9:Env:=eF 17 [(1,[8,12]),(2,[2,4])]
abbrev WV:Plan:=(sq go (sq (.cut (kz [8,13]) [⟨0,[(8,hA2)],[4,0,2]⟩] go) go))
abbrev apa:Env:=eF 44 [(1,[37,43,23,30,14]),(2,[2,3,17,5,4])]
abbrev WW:Plan:=(sq go (sq go (sq go (sq (sq go (sq (.loop ahc [(10,lg),(28,hA1)] (kz [0,3,8,1,16,4]) [⟨2,[(10,lg)],ahd⟩] (sq go (sq go (sq (sq (sq go (sq (.cut ahe [⟨0,[(72,hA2)],[34,32,30]⟩] go) (.cut (kz [10,1,74,5]) [⟨0,[(10,lg)],[72,14]⟩] go))) go) go)))) go)) go))))
abbrev E13:Env:=eF 44 [(1,[37,43,23,30,14]),(2,[2,3,17,5,4])]
abbrev ach:Plan:=(sq go (sq go (sq go (sq (sq go (sq (.loop ahc [(10,lg),(28,hA1)] (kz [0,3,8,1,16,4]) [⟨2,[(10,lg)],ahd⟩] (sq go (sq go (sq (sq (sq go (sq (.cut ahe [⟨0,[(72,hA2)],[34,32,30]⟩] go) (.cut (kz [10,1,74,5]) [⟨0,[(10,lg)],[72,14]⟩] go))) go) go)))) go)) go))))
abbrev E49:Env:=eF 30 [(1,[20,29,12,21,16]),(2,[4,6,11,9,8])]
abbrev aci:Plan:=(sq go (sq go (sq (sq go (sq (.loop hL31 [(32,hA1),(18,JH)] [26,24,16,8,0,4] [⟨2,[(18,JH)],hL32⟩] go) go)) go)))
abbrev E9:Env:=eF 38 [(1,[16,31,17,21,32,35,36]),(2,[3,4,5,8,7,26,10,11,6])]
abbrev ahq:Plan:=go
abbrev E11:Env:=eF 38 [(1,[17,32,20,24,33,34,35,36]),(2,[4,6,10,9,11,12,8])]
abbrev aco:Plan:=(sq go (sq go (sq (sq (.cut (kz [36,6]) [⟨0,[(46,hA2)],[32,30,20,28,26,0,4]⟩] go) go) go)))
abbrev E12:Env:=eF 26 [(1,[13]),(2,[5])]
abbrev acu:Plan:=(sq go (sq go (sq (sq go (sq (.loop (kz [8,2,26,13]) [(26,hA1)] (kz [8,1,12,6]) [⟨1,[(8,hA2)],ahf⟩,⟨2,[],ahf⟩] go) go)) go)))
abbrev E14:Env:=eF 57 [(1,[17,27,28,29,26,33,35,39,44,52]),(2,[10,14,16,4,5,6,7,0])]
abbrev acA:Plan:=(sq go (sq go (sq go (sq go (sq go (sq go (sq go (sq (.cut (kz [0,1,66,24]) [⟨0,[(0,hA2)],(kz [2,32])⟩] go) go))))))))
abbrev E3:Env:=eF 142 [(1,[18,22,47,56,70,64,74,76,80,84,90,112,118,123,102,38,26]),(2,[3,21,29,41,9,10,61,12,13,14,15,16,106,2])]
abbrev anc:Plan:=(sq go (sq go (sq go (sq (sq go (sq (.loop (kz [0,1,4,2,12,1,13,1,16,17,17,1,23,1,35,1,49,1,52,115]) [(52,hA1),(48,JI)] (kz [0,1,4,2,36,6]) [⟨1,[(4,hA2)],ana⟩,⟨2,[],ana⟩] (sq go (sq go (sq (sq (sq (.opn [(48,0,24)]) (sq go (sq go (sq (.loop (kz [4,1,16,10,17,1,23,1,35,1,54,9,76,102]) [(76,hA1)] (kz [54,9]) [⟨1,[(4,hA2)],anb⟩,⟨4,[],anb⟩] (sq go (sq go (sq (sq (sq go (sq go (sq go (sq go (sq go (sq (sq (.cut (kz [148,26]) [⟨0,[(198,hA2)],(kz [16,1,20,1,24,4,78,35])⟩] go) go) (sq go (sq (.loop (kz [4,1,32,2,35,1,198,1,204,37]) [(204,hA1)] [198] [⟨1,[(4,hA2)],(kz [18,1,22,1,198,4])⟩,⟨6,[],(kz [18,1,22,1,198,4])⟩] (sq go (sq go (sq (sq (sq go (sq (.cut (kz [214,31]) [⟨0,[(274,hA2)],(kz [32,2,206,4])⟩] go) go)) go) go)))) go)))))))) go) go)))) go)))) go) go)))) go)) go))))
end Go.gI.qJ
namespace ah
abbrev Tp:=List Int×Int×Unit
def on {α:Type} (b:Bool) (x:α):Option α:=bif b then some x else none
def wf (t:Tp):Bool:=decide (0≤t.2.1)&&decide (t.2.1≤t.1.length)&&decide (t.1.length≤2000)
def tape (l:List Int):Tp:=(l.take 2000,0,())
def cut (x n:Int):Int:=bif decide (n<1) then 0 else x.emod n
def raw (t:Tp):Int×Tp:=bif decide (t.2.1<t.1.length) then (t.1.getD t.2.1.toNat 0,t.1,t.2.1+1,()) else (0,t)
def next (t:Tp) (n:Int):Int×Tp:=(cut (raw t).1 n,(raw t).2)
def small (n:Int):Bool:=decide (-2305843009213693952≤n)&&decide (n≤2305843009213693952)
def range (t:Tp) (a b:Int):Int×Tp:=(a+(next t (b - a+1)).1,(next t (b - a+1)).2)
def pick (t:Tp) (l:List Int):Int×Tp:=(l.getD (next t l.length).1.toNat 0,(next t l.length).2)
def inside (n lo hi:Int):Bool:=decide (lo≤n)&&decide (n≤hi)
def dW (n:Int):Bool:=decide (n=8) || decide (n=16) || decide (n=32) || decide (n=64)
abbrev Rt:=Int×Bool×Unit
abbrev Lk:=Int×Int×Int×Int×Int×Unit
abbrev To:=List Rt×List Lk×Unit
abbrev zR:Rt:=(0,false,())
abbrev zL:Lk:=(0,0,0,0,0,())
abbrev zT:To:=([],[],())
def gV (a b:Int):Int:=bif decide (a<b) then -1 else bif decide (b<a) then 1 else 0
def eH:List Int→Int
 | []=>0
 | x::r=>bif decide (x=0) then eH r else x
def idx {α:Type} (p:α→Bool) (l:List α):Int:=bif l.any p then (l.findIdx p:Nat) else -1
def Lp (a b:Lk):Bool:=decide (a.1<b.1) || (decide (a.1=b.1)&&decide (a.2.1<b.2.1))
abbrev Ow:=Int×(Int×Int×Int×Unit)×Unit
abbrev Ed:=Int×Int×Unit
abbrev Pn:=Int×Int×List Ed×Unit
abbrev zO:Ow:=(0,(0,0,0,()),())
abbrev zE:Ed:=(0,0,())
abbrev zP:Pn:=(0,0,[],())
def Ob (o:Ow):Int:=o.2.1.1
def idO (o:Ow):Int:=o.2.1.2.1
def WX (o:Ow):Int:=o.2.1.2.2.1
def apb (o:Ow):Bool:=!inside o.1 1 99 || !inside (Ob o) 0 7 || !inside (idO o) 1 256 || !dW (WX o)
def ahs (a b:Ow):Bool:=decide (a.1<b.1) || (decide (a.1=b.1)&&decide (Ob a<Ob b))
def upO (l:List Ow):Bool:=(List.range (l.length - 1)).all fun i=>ahs (l.getD i zO) (l.getD (i+1) zO)
def U8 (l:List Ow):Int:=bif decide (192<l.length) then 3 else bif l.any apb then 2 else bif !upO l then 25 else 0
def mine (s:Int) (o:Ow):Bool:=decide (Ob o=s)
def hit (s id:Int) (o:Ow):Bool:=decide (Ob o=s)&&decide (idO o=id)
def acB (l:List Ow) (s id:Int):Nat:=l.countP (hit s id)
def conf (l:List Ow) (s:Int):List Int:=bif decide (U8 l=0) then ((List.range 256).filter fun (i:Nat)=>decide (1<acB l s ((i:Int)+1))).map fun (i:Nat)=>(i:Int)+1 else []
def apc (l:List Ow) (s:Int):Int:=bif decide (U8 l=0) then l.foldl (fun out o=>bif mine s o&&(decide (out=0) || decide (WX o<out)) then WX o else out) 0 else 0
def aht (p:Int→Bool):Int×Bool×Unit:=
 match (List.range 256).find? fun (i:Nat)=>p ((i:Int)+1) with
 | some i=>((i:Int)+1,true,())
 | none=>(0,false,())
def edge (o:Ow):Ed:=(o.1,idO o,())
def edges (l:List Ow) (s:Int):List Ed:=(List.range 256).flatMap fun (i:Nat)=>bif decide (acB l s ((i:Int)+1)=1) then (l.filter (hit s ((i:Int)+1))).map edge else []
def plan (l:List Ow) (s:Int):Pn×Int×Unit:=
 bif !decide (U8 l=0) then (zP,U8 l,()) else bif !inside s 0 7 then (zP,2,()) else
 bif decide (24<(edges l s).length) then (zP,3,()) else ((s,apc l s,edges l s,()),0,())
def ahu (o:Ow) (id:Int):Ow:=(o.1,(Ob o,id,WX o,()),())
def ahv (l:List Ow) (s:Int):Nat→Option (List Ow×List Int)
 | 0=>some ([],[])
 | k+1=>match ahv l s k with
  | none=>none
  | some r=>
   let o:=l.getD k zO
   bif mine s o&&decide (0<(l.take k).countP (hit s (idO o))) then
    (let f:=aht fun id=>decide (acB l s id=0) && !r.2.any (fun g=>decide (g=id))
     bif f.2.1 then some (r.1++[ahu o f.1],r.2++[f.1]) else none)
   else some (r.1++[o],r.2)
def res (l:List Ow) (s:Int):List Ow×Int×Unit:=
 bif !decide (U8 l=0) then ([],U8 l,()) else
 match ahv l s l.length with
 | none=>([],9,())
 | some r=>(r.1,0,())
def place (id n:Int):Int×Int×Bool×Unit:=bif !dW n || !inside id 1 256 then (0,0,false,()) else ((id - 1) / n,(id - 1)%n,true,())
def at_ (set bit n:Int):Int×Bool×Unit:=
 bif !dW n || !inside bit 0 (n - 1) || !inside set 0 31 then (0,false,()) else
 bif decide (256<set*n+bit+1) then (0,false,()) else (set*n+bit+1,true,())
def repeats:List Int→Bool
 | []=>false
 | x::r=>r.any (fun y=>decide (y=x)) || repeats r
def WY (l:List Ed):Bool:=(List.range (l.length - 1)).all fun i=>decide ((l.getD i zE).2.1<(l.getD (i+1) zE).2.1)
def dZ (p:Pn):Bool:=
 inside p.1 0 7&&(dW p.2.1 || (decide (p.2.1=0)&&decide (p.2.2.1.length=0)))&&decide (p.2.2.1.length≤24) &&
 (p.2.2.1.all fun e=>inside e.2.1 1 256&&inside e.1 1 99)&&WY p.2.2.1 && !repeats (p.2.2.1.map fun e=>e.1)
def has (l:List Int) (n:Int):Bool:=l.any fun x=>decide (x=n)
def jX (t:Tp):Nat→List Int×Tp
 | 0=>([],t)
 | k+1=>let s:=jX t k;let a:=next s.2 ((k:Int)+1);(s.1.take a.1.toNat++(k:Int)::s.1.drop a.1.toNat,a.2)
def order (t:Tp) (n:Nat):List Int×Tp:=jX t n
namespace Bt
def full (n:Int):Int:=bif dW n then 2 ^ n.toNat - 1 else 0
def tb (b:Int) (k:Nat):Bool:=b.toNat.testBit k
def has (b k:Int):Bool:=decide (0≤k)&&decide (k<64)&&tb b k.toNat
def fK (k:Int):Int:=bif decide (k<0) || decide (63<k) then 0 else 2 ^ k.toNat
def and (x y:Int):Int:=((Nat.land x.toNat y.toNat:Nat):Int)
def or (x y:Int):Int:=((Nat.lor x.toNat y.toNat:Nat):Int)
def ones (b:Int):List Nat:=(List.range 64).filter (tb b)
def list (b:Int):List Int:=(ones b).map fun (k:Nat)=>(k:Int)
def nth (b n:Int):Int:=bif decide (n<0) || decide ((list b).length≤n) then -1 else (list b).getD n.toNat 0
def ZL (b:Int) (k:Nat):Nat:=((List.range k).filter (tb b)).length
end Bt
abbrev SB:=Int×Int×Unit
abbrev zS:SB:=(0,0,())
def yK (p:Pn) (id:Int):Bool:=p.2.2.1.any fun e=>decide (e.2.1=id)
def Dp (p:Pn) (id:Int):Ed×Bool×Unit:=
 match p.2.2.1.find? fun e=>decide (e.2.1=id) with
 | some e=>(e,true,())
 | none=>(zE,false,())
def yE (l:List Int):Bool:=(List.range (l.length - 1)).all fun i=>decide (l.getD i 0<l.getD (i+1) 0)
def fD (n:Int) (out:List SB) (id:Int):List SB:=
 let p:=place id n
 let o:=bif decide (out.length=0) || !decide ((out.getD (out.length - 1) zS).1=p.1) then out++[(p.1,0,())] else out
 o.set (o.length - 1) ((o.getD (o.length - 1) zS).1,Bt.or (o.getD (o.length - 1) zS).2.1 (Bt.fK p.2.1),())
def sets (p:Pn) (l:List Int):List SB×Int×Unit:=
 bif !dZ p then ([],1,()) else bif !yE l then ([],25,()) else bif l.any (fun id=>!yK p id) then ([],4,()) else (l.foldl (fD p.2.1) [],0,())
def Q7 (r:Rt):Bool:=!inside r.1 1 99
def Od (l:Lk):Bool:=!inside l.2.2.1 1 1000 || !inside l.2.2.2.1 1 1000 || !inside l.2.2.2.2.1 0 1000
def down (l:Lk):Bool:=decide (l.2.1≤l.1)
def bsGo (l:List Rt) (id:Int):Nat→Nat→Nat→Nat
 | 0,i,_=>i
 | f+1,i,j=>bif decide (i<j) then (bif decide (gV (l.getD ((i+j) / 2) zR).1 id<0) then bsGo l id f ((i+j) / 2+1) j else bsGo l id f i ((i+j) / 2)) else i
def bs (l:List Rt) (id:Int):Int×Bool×Unit:=
 let i:=bsGo l id l.length 0 l.length
 ((i:Int),decide (i<l.length)&&decide (gV (l.getD i zR).1 id=0),())
def ni (l:List Rt) (id:Int):Bool:=l.any fun r=>decide (r.1=id)
def upR (l:List Rt):Bool:=(List.range (l.length - 1)).all fun i=>decide ((l.getD i zR).1<(l.getD (i+1) zR).1)
def upL (l:List Lk):Bool:=(List.range (l.length - 1)).all fun i=>Lp (l.getD i zL) (l.getD (i+1) zL)
def xD (g:To):Int:=
 bif decide (24<g.1.length) || decide (60<g.2.1.length) then 3 else
 bif g.1.any Q7 then 2 else
 bif !upR g.1 then 25 else
 bif g.2.1.any Od then 2 else
 bif g.2.1.any (fun l=>!ni g.1 l.1 || !ni g.1 l.2.1) then 4 else
 bif g.2.1.any down then 8 else
 bif !upL g.2.1 then 25 else 0
def acC (l:List Rt) (id:Int):Bool:=(l.getD (l.findIdx fun r=>decide (r.1=id)) zR).2.1
def okT (g:To):Bool:=decide (xD g=0)
def Bj (g:To) (id:Int):Bool:=okT g&&ni g.1 id
def Ey (g:To) (id:Int):Bool:=okT g&&acC g.1 id
def price:List Lk→Int→Int→Int×Bool×Unit
 | [],_,_=>(0,false,())
 | l::r,a,b=>bif decide (l.1=a)&&decide (l.2.1=b) then (l.2.2.1,true,()) else bif decide (l.2.1=a)&&decide (l.1=b) then (l.2.2.2.1,true,()) else price r a b
def near (g:To) (r:Int):List Int:=(g.1.filter fun x=>(price g.2.1 r x.1).2.1).map fun x=>x.1
def kJ (b n:Int):Bool:=dW n&&decide (b<2 ^ n.toNat)
abbrev Pk:=Int×Int×Int×Int×Int×Int×Int×Int×Int×List Int×Unit
def zp:Pk:=(0,0,0,0,0,0,0,0,0,[],())
def md (p:Pk):Int:=p.1
def sd (p:Pk):Int:=p.2.1
def st (p:Pk):Int:=p.2.2.1
def ln (p:Pk):Int:=p.2.2.2.1
def tl (p:Pk):Int:=p.2.2.2.2.1
def en (p:Pk):Int:=p.2.2.2.2.2.1
def ig (p:Pk):Int:=p.2.2.2.2.2.2.1
def pr (p:Pk):Int:=p.2.2.2.2.2.2.2.1
def bt (p:Pk):Int:=p.2.2.2.2.2.2.2.2.1
def py (p:Pk):List Int:=p.2.2.2.2.2.2.2.2.2.1
def dz (p:Pk):Bool:=inside (md p) 1 3&&inside (sd p) 0 7&&inside (st p) 0 31&&kJ (bt p) (ln p)&&inside (tl p) 0 63&&inside (en p) 0 1023&&inside (ig p) 0 256&&inside (pr p) 0 7&&decide ((py p).length≤64)
def aK (p:Pk):Int:=bif dz p then en p%8 else 0
def only (p:Pk) (k:Int):Pk:=bif dz p&&Bt.has (bt p) k then (md p,sd p,st p,ln p,tl p,en p,ig p,pr p,Bt.fK k,py p,()) else zp
def masked (p:Pk) (m:Int):Pk×Bool×Unit:=
 bif dz p && !decide (tl p=0) && !decide (Bt.and (bt p) m=0) then ((md p,sd p,st p,ln p,tl p - 1,en p,ig p,pr p,Bt.and (bt p) m,py p,()),true,()) else (zp,false,())
abbrev Rw:=Int×List Int×Unit
abbrev Tb:=Int×Int×Int×List Rw×Unit
abbrev zW:Rw:=(0,[],())
def Cj (r:Rw):Bool:=!inside r.1 1 256 || r.2.1.any fun n=>!inside n 1 99
def Dq (id:Int) (r:Rw):Bool:=decide (1<r.2.1.length)&&r.2.1.any fun y=>decide (id=y)
def ZM (l:List Rw):Bool:=(List.range (l.length - 1)).all fun i=>decide ((l.getD i zW).1<(l.getD (i+1) zW).1)
def sD (t:Tb):Int:=
 bif !inside t.1 1 99 || !inside t.2.1 0 7 || (!dW t.2.2.1 && !(decide (t.2.2.1=0)&&decide (t.2.2.2.1.length=0))) || t.2.2.2.1.any Cj then 2 else
 bif decide (256<t.2.2.2.1.length) || t.2.2.2.1.any (fun r=>decide (24<r.2.1.length)) then 3 else
 bif !(t.2.2.2.1.all fun r=>yE r.2.1) || !ZM t.2.2.2.1 then 25 else
 bif t.2.2.2.1.any (Dq t.1) then 8 else 0
def fF (t:Tb) (id:Int):Rw×Bool×Unit:=
 match t.2.2.2.1.find? fun r=>decide (r.1=id) with
 | some r=>(r,true,())
 | none=>(zW,false,())
def iA (r:Rw) (aK:Int):Int:=bif decide (r.2.1.length=0) then 0 else r.2.1.getD (aK%(r.2.1.length:Int)).toNat 0
def Bl (t:Tb) (id aK:Int):Int:=bif (fF t id).2.1 then iA (fF t id).1 aK else 0
def xE (t:Tb) (aK set:Int):Bool:=decide (sD t=0)&&decide (0≤aK)&&decide (aK<8)&&decide (0≤set)&&decide (set≤31)
abbrev Fr:=List Int×Pk×Unit
abbrev Cp:=Int×Fr×Unit
abbrev Oc:=Int×Int×List Cp×Unit
abbrev Dl:=Int×Pk×Unit
def Qb (o:Oc):Int:=o.2.2.1.foldl (fun a c=>Bt.or a (bt c.2.1.2.1)) (Bt.or o.1 o.2.1)
def uf (r:Int) (o:Oc) (p:Pk):List Dl:=(Bt.list o.1).map fun k=>(r,only p k,())
def Ez (t:Tb) (aK set next:Int) (bit:Nat):Bool:=
 (at_ set bit t.2.2.1).2.1&&(decide (0<next)&&decide (Bl t (at_ set bit t.2.2.1).1 aK=next))
def ow (t:Tb) (aK set next:Int):Int:=(List.range t.2.2.1.toNat).foldl (fun a k=>bif Ez t aK set next k then Bt.or a (Bt.fK k) else a) 0
def Q8 (t:Tb) (aK set next:Int):Int:=
 bif decide (sD t=0)&&(decide (0≤aK)&&decide (aK<8))&&decide (0≤set)&&decide (set≤31)&&decide (1≤next)&&decide (next≤99) then ow t aK set next else 0
def Bt.ny (x y:Int):Int:=((Nat.land x.toNat (18446744073709551615 - y.toNat):Nat):Int)
def JK (len aK set nb:Int) (l:List Rw):Int:=l.foldl (fun a r=>bif decide ((place r.1 len).1=set) && !decide (iA r aK=0)&&decide (iA r aK=nb) then Bt.or a (Bt.fK (place r.1 len).2.1) else a) 0
def oz (t:Tb) (aK set nb:Int):Int:=bif xE t aK set then JK t.2.2.1 aK set nb t.2.2.2.1 else 0
def toF (t:Tb) (id aK:Int):Int:=bif xE t aK 0 then iA (fF t id).1 aK else 0
def Q9 (p:Pk) (x:Int):Pk:=(md p,sd p,st p,ln p,tl p,en p,ig p,pr p,x,py p,())
def sV (t:Tb) (p:Pk) (s:Int×Int×Int×List Cp):Int×Int×Int×List Cp:=
 let k:=Bt.nth s.1 0
 let to:=toF t (at_ (st p) k (ln p)).1 (aK p)
 bif decide (to=0) then (Bt.ny s.1 (Bt.fK k),s.2.1,Bt.or s.2.2.1 (Bt.fK k),s.2.2.2) else
 bif decide (to=t.1) then (Bt.ny s.1 (Bt.fK k),Bt.or s.2.1 (Bt.fK k),s.2.2.1,s.2.2.2) else
 let g:=Bt.and s.1 (oz t (aK p) (st p) to)
 let q:=masked (Q9 p s.1) g
 bif q.2.1 then (Bt.ny s.1 g,s.2.1,s.2.2.1,s.2.2.2++[(to,([],q.1,()),())]) else (Bt.ny s.1 g,s.2.1,Bt.or s.2.2.1 g,s.2.2.2)
def yL (t:Tb) (p:Pk):Nat→Int×Int×Int×List Cp→Int×Int×Int×List Cp
 | 0,s=>s
 | k+1,s=>bif decide (s.1=0) then s else yL t p k (sV t p s)
def sF (t:Tb) (p:Pk):Oc:=((yL t p 64 (bt p,0,0,[])).2.1,(yL t p 64 (bt p,0,0,[])).2.2.1,(yL t p 64 (bt p,0,0,[])).2.2.2,())
abbrev Fl:=Int×List Int×Unit
abbrev Sg:=Int×Int×Int×Int×Int×Int×Int×Int×Int×List Int×Unit
def pR (a b:Fl):Bool:=decide (a.1=b.1)&&decide (a.2.1=b.2.1)
def Ra:List Int→Bool
 | x::y::r=>decide (x<y)&&Ra (y::r)
 | _=>true
def dU (f:Fl):Int:=
 bif !(decide (f.1=1) || decide (f.1=2)) then 1 else
 bif !(f.2.1.all fun s=>inside s 1 99) then 2 else bif !(Ra f.2.1) then 25 else 0
def kd (s:Sg):Int:=s.1
def fr (s:Sg):Int:=s.2.1
def to (s:Sg):Int:=s.2.2.1
def ep (s:Sg):Int:=s.2.2.2.1
def ve (s:Sg):Int:=s.2.2.2.2.1
def pv (s:Sg):Int:=s.2.2.2.2.2.1
def pe (s:Sg):Int:=s.2.2.2.2.2.2.1
def gr (s:Sg):Int:=s.2.2.2.2.2.2.2.1
def fm (s:Sg):Int:=s.2.2.2.2.2.2.2.2.1
def so (s:Sg):List Int:=s.2.2.2.2.2.2.2.2.2.1
def fits (s:Sg):Bool:=
 bif decide (kd s=1) then inside (ep s) 1 1000000&&inside (ve s) 0 1000000&&decide (pv s=0)&&decide (pe s=0)&&decide (gr s=0) else
 bif decide (kd s=2) then inside (ep s) 1 1000000&&inside (ve s) 1 1000000&&inside (pv s) 0 (ve s - 1)&&decide (pe s=0)&&inside (gr s) 1 99 else
 inside (ep s) 0 1000000&&inside (ve s) 0 1000000&&decide (pv s=0)&&inside (pe s) 1 1000000&&decide (gr s=0)
def validate (s:Sg):Int:=
 bif !(inside (kd s) 1 3) then 1 else
 bif !(inside (fr s) 1 99&&inside (to s) 1 99 && !decide (fr s=to s)&&fits s) then 2 else
 bif decide (kd s=2) then dU (fm s,so s,()) else
 bif !decide (fm s=0) || decide (0<(so s).length) then 1 else 0
def pW (l:List Int) (x:Int):List Int:=
 match l with
 | []=>[x]
 | y::r=>bif decide (y<x) then y::pW r x else bif decide (y=x) then l else x::l
def srcs:Nat→Tp→List Int→List Int×Tp
 | 0,t,l=>(l,t)
 | n+1,t,l=>
  let a:=range t 1 6
  let b:=range a.2 1 20
  let c:=range b.2 1 99
  let p:=pick c.2 [a.1,b.1,c.1]
  srcs n p.2 (pW l p.1)
def sources (t:Tp) (n:Int):List Int×Tp:=srcs (next t (n+1)).1.toNat (next t (n+1)).2 []
def filter (t:Tp):Fl×Tp:=
 let n:=pick t [0,2,4,4,16,99]
 let m:=range n.2 1 2
 let l:=sources m.2 n.1
 ((m.1,l.1,()),l.2)
abbrev Rc:=Int×Int×(Int×Int×Unit)×List Int×Unit
abbrev qc:Rc:=(0,0,(0,0,()),[],())
abbrev Rf:=Int×Int×Int×Int×List Int×Unit
def rep (l:List Rc):List Rc:=((List.range (l.length - 1)).filter fun i=>decide (l.getD (i+1) qc=l.getD i qc)).map fun i=>l.getD (i+1) qc
set_option synthInstance.maxSize 100000 in
set_option synthInstance.maxHeartbeats 400000 in
def pU (x y:List Rc):Bool:=decide (x=y)
abbrev Mb:=Int×Int×Fl×Int×Unit
abbrev MbF:=Int×Int×Int×List Int×Int×Unit
abbrev Ms:=Int×List Mb×Unit
abbrev Wa:=Int×Fl×Unit
abbrev It:=Int×Int×Fl×Unit
abbrev ItF:=Int×Int×Int×List Int×Unit
abbrev Pe:=Int×Int×Int×Unit
abbrev Sk:=Int×Int×Int×List It×List Pe×Unit
abbrev He:=Int×Int×Int×List It×Unit
abbrev Li:=Int×Int×List He×Unit
abbrev oC:=Int×Int×Int×Int×Int×Int×Int×Int×Fl×Unit
abbrev Ov:=List Sk×List Li×List oC×Unit
abbrev Fa:=Int×Int×Unit
abbrev Fw:=Int×Int×Unit
abbrev Cr:=Int×Int×Int×Unit
abbrev Lo:=Int×Int×Unit
abbrev Tr:=List Dl×List Cr×List Lo×Unit
abbrev Si:=Int×Ms×Unit
abbrev Sc:=List Rt×List Lk×Int×Int×List Ed×List Si×List Sk×List Li×List oC×Unit
abbrev DlF:=Int×Int×Int×Int×Int×Int×Int×Int×Int×Int×List Int×Unit
def iJ (f:Fl) (s:Int):Bool:=decide (dU f=0)&&decide (1≤s)&&(has f.2.1 s==decide (f.1=1))
def Hy (x:MbF) (g h:Int):Bool:=decide (x.2.1<g) || decide (x.2.1=g)&&decide (x.1<h)
abbrev ahz:Nat→Type
 | 0=>Unit
 | n+1=>Bool×ahz n
abbrev Bar:=ahz 100
abbrev BU:Mb:=(0,0,(0,[],()),0,())
def yJ (now:Int) (x:Mb):Bool:=
 bif !decide (x.1<1) then (bif !decide (x.1 > 99) then (bif !decide (x.2.1<1) then (bif !decide (x.2.1 > 99) then (bif !decide (x.2.2.2.1<now) then decide (x.2.2.2.1 > now+1000) else true) else true) else true) else true) else true
def O1 (f:Fl):Bool:=decide (f.1=1)&&decide (f.2.1.length=0)
def Bn (x:Mb):Bool:=!decide (dU x.2.2.1=0)
def Lr (x:Mb):MbF:=(x.1,x.2.1,x.2.2.1.1,x.2.2.1.2.1,x.2.2.2.1,())
def ZN (l:List Mb):Bool:=(List.range (l.length - 1)).all fun i=>Hy (Lr (l.getD i BU)) (l.getD (i+1) BU).2.1 (l.getD (i+1) BU).1
def jw (m:Ms):Int:=
 bif !inside m.1 0 1000000 then 2 else
 bif decide (64<m.2.1.length) then 3 else
 bif m.2.1.any (yJ m.1) then 2 else
 (m.2.1.find? Bn).elim (bif m.2.1.any (fun x=>O1 x.2.2.1) then 1 else bif !ZN m.2.1 then 25 else 0) (fun x=>dU x.2.2.1)
def fM (f:Fw):Bool:=inside f.1 1 99&&inside f.2.1 1 99
def wrap (f:Fw) (d:List Int):List Int×Int×Unit:=
 bif !fM f then ([],2,()) else bif decide (64<d.length+2) then ([],3,()) else (f.1::f.2.1::d,0,())
def gG (d:List Int):Fw×List Int×Int×Unit:=
 bif decide (d.length<2) then ((0,0,()),[],20,()) else
 bif !fM (d.getD 0 0,d.getD 1 0,()) then ((0,0,()),[],2,()) else ((d.getD 0 0,d.getD 1 0,()),d.drop 2,0,())
def Ls (f:Fw) (x:Mb):Bool:=decide (x.2.1=f.2.1) && !decide (x.1=f.1)&&iJ x.2.2.1 f.1
def hosts (m:Ms) (f:Fw):List Int:=bif decide (jw m=0) then (m.2.1.filter (Ls f)).map (fun x=>x.1) else []
def recs (m:Ms) (r:Int) (f:Fw) (d:List Int):List Rc:=(hosts m f).map fun h=>(h,r,f,d,())
def count (b:Int):Int:=(Bt.list b).length
def accept (p:Pn) (d:DlF):Bool:=
 dZ p&&dz d.2&&decide (md d.2=1)&&decide (sd d.2=p.1)&&decide (ln d.2=p.2.1)&&decide (count (bt d.2)=1) &&
  ((at_ (st d.2) (Bt.nth (bt d.2) 0) (ln d.2)).2.1&&p.2.2.1.any fun e=>decide ((d.1,(at_ (st d.2) (Bt.nth (bt d.2) 0) (ln d.2)).1,())=e))
def gH (p:Pn) (m:Ms) (d:DlF):List Rc×Int×Unit:=
 bif !decide (jw m=0) then ([],jw m,()) else bif !accept p d then ([],1,()) else
 bif !decide ((gG (py d.2)).2.2.1=0) then ([],(gG (py d.2)).2.2.1,()) else (recs m d.1 (gG (py d.2)).1 (gG (py d.2)).2.1,0,())
def je (m:Ms) (r:Int) (f:Fw) (d:List Int):List Rc×Int×Unit:=
 bif !decide (jw m=0) then ([],jw m,()) else bif !inside r 1 99 then ([],2,()) else
 bif !decide ((wrap f d).2.1=0) then ([],(wrap f d).2.1,()) else (recs m r f d,0,())
end ah
namespace Go.gI.qJ
open Go Go.gI
def bs (l:List Int):ByteArray:=⟨(l.map fun n=>UInt8.ofNat n.toNat).toArray⟩
end Go.gI.qJ
namespace ah
open Go Go.gI
set_option maxRecDepth 20000
set_option linter.unusedVariables false
noncomputable section
def vN (a0:@List ah.Rt) (a1:Int) (a2:Int×Unit):Option (Sum (Int×Unit) (Bool×(Int×Unit)×Unit)):=bif decide (a2.1<Int.ofNat a0.length) then bif decide (0≤a2.1)&&decide (a2.1<Int.ofNat a0.length) then bif decide ((List.getD a0 (Int.toNat a2.1) (0,false,())).1=a1) then some (.inr (true,a2,())) else some (.inl (IntKind.wrap .i64 (a2.1+1),())) else none else some (.inr (false,(0,()),()))
def ahA (a0:@List ah.Rt) (a1:@List ah.Lk) (a2:Int):Option (Int×Unit):=(Loop (@vN a0 a2) (0,())).bind fun y3=>bif y3.1 then some y3.2.1 else some (0,())
def HV (g:To) (r:Int):(Option (Int×Unit)):=ahA g.1 g.2.1 r
def vO (a0:List Int) (a1:Int) (a2:Int×Unit):Option (Sum (Int×Unit) (Int×Unit)):=(bif decide (a2.1<Int.ofNat a0.length) then bif decide (0≤a2.1)&&decide (a2.1<Int.ofNat a0.length) then some (decide (List.getD a0 (Int.toNat a2.1) 0<a1),()) else none else some (false,())).bind fun y3=>bif y3.1 then some (.inl (IntKind.wrap .i64 (a2.1+1),())) else some (.inr a2)
def ahB (a0:List Int) (a1:Int):Option (List Int×Unit):=let q1:=List.take (Int.toNat (Int.ofNat a0.length)) a0;(Loop (@vO a0 a1) (0,())).bind fun y2=>let q2:=List.drop 0 (List.take (Int.toNat y2.1) a0);let q3:=List.drop (Int.toNat y2.1) q1;(bif decide (y2.1<Int.ofNat a0.length) then bif decide (0≤y2.1)&&decide (y2.1<Int.ofNat a0.length) then some (decide (List.getD a0 (Int.toNat y2.1) 0=a1),()) else none else some (false,())).bind fun y3=>bif y3.1 then some (a0,()) else bif true&&decide (0≤y2.1)&&decide (y2.1≤Int.ofNat a0.length) then bif @Nat.ble ((0+q2.length)*8) 140737488355328 then bif @Nat.ble ((([]++q2).length+1)*8) 140737488355328 then bif decide (0≤y2.1)&&decide (y2.1≤Int.ofNat a0.length)&&decide (Int.ofNat a0.length≤Int.ofNat a0.length) then bif @Nat.ble ((([]++q2++a1::[]).length+q3.length)*8) 140737488355328 then some ([]++q2++a1::[]++q3,()) else none else none else none else none else none
def x107 (l:List Int) (x:Int):(Option ((List Int)×Unit)):=ahB l x
def vP (a0:@List ah.Rt) (a1:Int) (a2:ah.Fl):Option (Sum ah.Fl (List Int×Unit)):=let q1:=List.set a2.2.1 (Int.toNat a2.1) 1073741824;bif decide (a2.1<Int.ofNat a2.2.1.length) then bif decide (0≤a2.1)&&decide (a2.1<Int.ofNat a2.2.1.length) then bif @Nat.blt (Int.toNat a2.1) a2.2.1.length then bif decide (0≤a2.1)&&decide (a2.1<Int.ofNat a0.length) then (bif decide ((List.getD a0 (Int.toNat a2.1) (0,false,())).1=a1) then bif decide (0≤a2.1)&&decide (a2.1<Int.ofNat q1.length) then bif @Nat.blt (Int.toNat a2.1) q1.length then some (List.set q1 (Int.toNat a2.1) 0,()) else none else none else some (q1,())).bind fun y3=>some (.inl (IntKind.wrap .i64 (a2.1+1),y3)) else none else none else none else some (.inr a2.2)
def vQ (a0:@List ah.Rt) (a1:@List ah.Lk) (a2:ah.Tp):Option (Sum ah.Tp (List Int×Unit)):=let q1:=List.getD a1 (Int.toNat a2.2.1) (0,0,0,0,0,());bif decide (a2.2.1<Int.ofNat a1.length) then bif decide (0≤a2.2.1)&&decide (a2.2.1<Int.ofNat a1.length) then (ah.HV (a0,a1,()) q1.1).bind fun y3=>let q2:=List.getD a2.1 (Int.toNat y3.1) 0;(ah.HV (a0,a1,()) q1.2.1).bind fun y4=>let q3:=List.getD a2.1 (Int.toNat y4.1) 0;bif decide (0≤y4.1)&&decide (y4.1<Int.ofNat a2.1.length) then bif @Nat.blt (Int.toNat y4.1) a2.1.length then (bif decide (q3<1073741824) then bif decide (0≤y3.1)&&decide (y3.1<Int.ofNat a2.1.length) then bif @Nat.blt (Int.toNat y3.1) a2.1.length then bif decide (0≤y4.1)&&decide (y4.1<Int.ofNat a2.1.length) then bif @Nat.blt (Int.toNat y4.1) a2.1.length then bif decide (0≤y3.1)&&decide (y3.1<Int.ofNat a2.1.length) then bif @Nat.blt (Int.toNat y3.1) a2.1.length then some (List.set a2.1 (Int.toNat y3.1) (bif decide (IntKind.wrap .i64 (q1.2.2.1+q3)<q2) then IntKind.wrap .i64 (q1.2.2.1+q3) else q2),()) else none else none else none else none else none else none else some (a2.1,())).bind fun y5=>let q4:=List.getD y5.1 (Int.toNat y3.1) 0;let q5:=List.getD y5.1 (Int.toNat y4.1) 0;bif decide (0≤y3.1)&&decide (y3.1<Int.ofNat y5.1.length) then bif @Nat.blt (Int.toNat y3.1) y5.1.length then (bif decide (q4<1073741824) then bif decide (0≤y4.1)&&decide (y4.1<Int.ofNat y5.1.length) then bif @Nat.blt (Int.toNat y4.1) y5.1.length then bif decide (0≤y3.1)&&decide (y3.1<Int.ofNat y5.1.length) then bif @Nat.blt (Int.toNat y3.1) y5.1.length then bif decide (0≤y4.1)&&decide (y4.1<Int.ofNat y5.1.length) then bif @Nat.blt (Int.toNat y4.1) y5.1.length then some (List.set y5.1 (Int.toNat y4.1) (bif decide (IntKind.wrap .i64 (q1.2.2.2.1+q4)<q5) then IntKind.wrap .i64 (q1.2.2.2.1+q4) else q5),()) else none else none else none else none else none else none else some y5).bind fun y6=>some (.inl (y6.1,IntKind.wrap .i64 (a2.2.1+1),())) else none else none else none else none else none else some (.inr (a2.1,()))
def vR (a0:@List ah.Rt) (a1:@List ah.Lk) (a2:ah.Fl):Option (Sum ah.Fl (List Int×Unit)):=bif decide (a2.1<Int.ofNat a2.2.1.length) then (Loop (@vQ a0 a1) (a2.2.1,0,())).bind fun y3=>some (.inl (IntKind.wrap .i64 (a2.1+1),y3)) else some (.inr a2.2)
def ahC (a0:@List ah.Rt) (a1:@List ah.Lk) (a2:Int):Option (List Int×Unit):=bif decide (0≤Int.ofNat a0.length)&&decide (Int.ofNat a0.length≤Int.ofNat a0.length)&&decide (Int.ofNat a0.length*8≤140737488355328) then (Loop (@vP a0 a2) (0,List.replicate (Int.toNat (Int.ofNat a0.length)) 0,())).bind fun y3=>(Loop (@vR a0 a1) (0,y3)).bind fun y4=>some y4 else none
def x105 (g:To) (r:Int):(Option ((List Int)×Unit)):=ahC g.1 g.2.1 r
def vS (a0:@List ah.Rt) (a1:List Int) (a2:Int) (a3:Int×Unit):Option (Sum (Int×Unit) (Bool×(Int×Unit)×Unit)):=bif decide (a3.1<Int.ofNat a0.length) then bif decide (0≤a3.1)&&decide (a3.1<Int.ofNat a0.length) then bif decide ((List.getD a0 (Int.toNat a3.1) (0,false,())).1=a2) then bif decide (0≤a3.1)&&decide (a3.1<Int.ofNat a1.length) then some (.inr (true,(List.getD a1 (Int.toNat a3.1) 0,()),())) else none else some (.inl (IntKind.wrap .i64 (a3.1+1),())) else none else some (.inr (false,(0,()),()))
def ahD (a0:@List ah.Rt) (a1:@List ah.Lk) (a2:List Int) (a3:Int):Option (Int×Unit):=(Loop (@vS a0 a2 a3) (0,())).bind fun y4=>bif y4.1 then some y4.2.1 else some (1073741824,())
def yM (g:To) (d:List Int) (r:Int):(Option (Int×Unit)):=ahD g.1 g.2.1 d r
def lF (a0:@List ah.Rt) (a1:@List ah.Lk) (a2:List Int) (a3:Int) (a4:Int×Unit) (a5:Int×List Int×List Int×Unit):Option (Sum (Int×List Int×List Int×Unit) (List Int×Unit)):=let q1:=List.getD a5.2.2.1 (Int.toNat a5.1) 0;bif decide (a5.1<Int.ofNat a5.2.2.1.length) then bif decide (0≤a5.1)&&decide (a5.1<Int.ofNat a5.2.2.1.length) then bif @Nat.blt (Int.toNat a5.1) a5.2.2.1.length then (bif decide (0≤a5.1)&&decide (a5.1<Int.ofNat a5.2.2.1.length) then bif @Nat.blt (Int.toNat a5.1) a5.2.2.1.length then (ah.yM (a0,a1,()) a2 q1).bind fun y6=>bif decide (y6.1<1073741824) then bif decide (y6.1<1073741824) then bif decide (y6.1<1073741824) then bif decide (y6.1<1073741824) then bif decide (y6.1<1073741824) then bif decide (y6.1<1073741824) then bif decide (0≤a5.1)&&decide (a5.1<Int.ofNat a5.2.2.1.length) then bif decide (y6.1<1073741824) then bif @Nat.blt (Int.toNat a5.1) a5.2.2.1.length then bif decide (y6.1<1073741824) then (ah.yM (a0,a1,()) a2 q1).bind fun y7=>bif decide (y6.1<1073741824) then bif decide (y6.1<1073741824) then bif decide (y6.1<1073741824) then bif decide (y6.1<1073741824) then some (a5.2.2.1,decide (IntKind.wrap .i64 ((ah.price a1 a3 q1).1+y7.1)=a4.1),()) else none else none else none else none else none else none else none else none else none else none else none else none else none else bif !decide (y6.1<1073741824) then bif !decide (y6.1<1073741824) then bif !decide (y6.1<1073741824) then bif !decide (y6.1<1073741824) then bif !decide (y6.1<1073741824) then bif !decide (y6.1<1073741824) then bif !decide (y6.1<1073741824) then bif !decide (y6.1<1073741824) then bif !decide (y6.1<1073741824) then bif !decide (y6.1<1073741824) then bif !decide (y6.1<1073741824) then some (a5.2.2.1,false,()) else none else none else none else none else none else none else none else none else none else none else none else none else none).bind fun y6=>(bif y6.2.1 then bif decide (0≤a5.1)&&decide (a5.1<Int.ofNat y6.1.length) then bif @Nat.blt (Int.toNat a5.1) y6.1.length then bif @Nat.ble ((a5.2.1.length+1)*8) 140737488355328 then some (a5.2.1++List.getD y6.1 (Int.toNat a5.1) 0::[],y6.1,()) else none else none else none else some (a5.2.1,y6.1,())).bind fun y7=>some (.inl (IntKind.wrap .i64 (a5.1+1),y7)) else none else none else some (.inr (a5.2.1,()))
def acD (a0:@List ah.Rt) (a1:@List ah.Lk) (a2:List Int) (a3:Int):Option (List Int×Unit):=(ah.yM (a0,a1,()) a2 a3).bind fun y4=>(bif !decide (y4.1=1073741824) then some (decide (y4.1=0),()) else some (true,())).bind fun y5=>bif y5.1 then some ([],()) else (Loop (@lF a0 a1 a2 a3 y4) (0,[],ah.near (a0,a1,()) a3,())).bind fun y6=>some y6
def HY (g:To) (d:List Int) (r:Int):(Option ((List Int)×Unit)):=acD g.1 g.2.1 d r
def vT (a0:@List ah.Rt) (a1:@List ah.Lk) (a2:List Int×Unit) (a3:List Int×ah.Tp):Option (Sum (List Int×ah.Tp) (List Int×List Int×Unit)):=let q1:=List.getD a2.1 (Int.toNat a3.2.2.1) 0;bif decide (a3.2.2.1<Int.ofNat a2.1.length) then bif decide (0≤a3.2.2.1)&&decide (a3.2.2.1<Int.ofNat a2.1.length) then (bif ah.Ey (a0,a1,()) q1 then bif decide (0≤a3.2.2.1)&&decide (a3.2.2.1<Int.ofNat a2.1.length) then (ah.x107 a3.2.1 q1).bind fun y4=>some (y4.1,a3.1,()) else none else bif decide (0≤a3.2.2.1)&&decide (a3.2.2.1<Int.ofNat a2.1.length) then (bif !ah.has a3.1 q1 then bif decide (0≤a3.2.2.1)&&decide (a3.2.2.1<Int.ofNat a2.1.length) then bif @Nat.ble ((a3.1.length+1)*8) 140737488355328 then some (a3.1++q1::[],()) else none else none else some (a3.1,())).bind fun y4=>some (a3.2.1,y4) else none).bind fun y4=>some (.inl (y4.2.1,y4.1,IntKind.wrap .i64 (a3.2.2.1+1),())) else none else some (.inr (a3.1,a3.2.1,()))
def vU (a0:@List ah.Rt) (a1:@List ah.Lk) (a2:List Int×Unit) (a3:Int×List Int×List Int×Unit):Option (Sum (Int×List Int×List Int×Unit) (List Int×Unit)):=bif decide (a3.1<Int.ofNat a3.2.2.1.length) then bif decide (0≤a3.1)&&decide (a3.1<Int.ofNat a3.2.2.1.length) then bif @Nat.blt (Int.toNat a3.1) a3.2.2.1.length then (ah.HY (a0,a1,()) a2.1 (List.getD a3.2.2.1 (Int.toNat a3.1) 0)).bind fun y4=>(Loop (@vT a0 a1 y4) (a3.2.2.1,a3.2.1,0,())).bind fun y5=>some (.inl (IntKind.wrap .i64 (a3.1+1),y5.2.1,y5.1,())) else none else none else some (.inr (a3.2.1,()))
def ahE (a0:@List ah.Rt) (a1:@List ah.Lk) (a2 a3:Int):Option (List Int×Unit):=(bif !!ah.Bj (a0,a1,()) a2 then bif !!ah.Bj (a0,a1,()) a3 then some (decide (a2=a3),()) else some (true,()) else some (true,())).bind fun y4=>bif y4.1 then some ([],()) else (ah.x105 (a0,a1,()) a3).bind fun y5=>(Loop (@vU a0 a1 y5) (0,[],a2::[],())).bind fun y6=>some y6
def x102 (g:To) (a b:Int):(Option ((List Int)×Unit)):=ahE g.1 g.2.1 a b
def Bo (a0:@List ah.Rt) (a1:@List ah.Lk) (a2:@List ah.Ed) (a3:Int) (a4:ah.Tb×Int×Unit):Option (Sum (ah.Tb×Int×Unit) (ah.Tb×Unit)):=let q1:=List.getD a2 (Int.toNat a4.2.1) (0,0,());bif decide (a4.2.1<Int.ofNat a2.length) then bif decide (0≤a4.2.1)&&decide (a4.2.1<Int.ofNat a2.length) then bif decide (0≤a4.2.1)&&decide (a4.2.1<Int.ofNat a2.length) then (bif decide (q1.1=a3) then some ((q1.2.1,a3::[],()),()) else bif decide (0≤a4.2.1)&&decide (a4.2.1<Int.ofNat a2.length) then (bif ah.Ey (a0,a1,()) q1.1 then bif decide (0≤a4.2.1)&&decide (a4.2.1<Int.ofNat a2.length) then (ah.x102 (a0,a1,()) a3 q1.1).bind fun y5=>some ((q1.2.1,y5),()) else none else some ((q1.2.1,[],()),())).bind fun y5=>some y5 else none).bind fun y5=>bif @Nat.ble ((a4.1.2.2.2.1.length+1)*32) 140737488355328 then some (.inl ((a4.1.1,a4.1.2.1,a4.1.2.2.1,a4.1.2.2.2.1++y5.1::[],()),IntKind.wrap .i64 (a4.2.1+1),())) else none else none else none else some (.inr (a4.1,()))
def r87 (a0:@List ah.Rt) (a1:@List ah.Lk) (a2 a3:Int) (a4:@List ah.Ed) (a5:Int):Option (ah.Tb×Unit):=(Loop (@Bo a0 a1 a4 a5) ((a5,a2,a3,[],()),0,())).bind fun y6=>some y6
def x87 (g:To) (p:Pn) (r:Int):(Option (ah.Tb×Unit)):=r87 g.1 g.2.1 p.1 p.2.1 p.2.2.1 r
def Bp (a0:@List ah.Rt) (a1:@List ah.Lk) (a2 a3:Int) (a4:@List ah.Ed) (a5:@List ah.Tb×Int×Unit):Option (Sum (@List ah.Tb×Int×Unit) (@List ah.Tb×Unit)):=let q1:=List.getD a0 (Int.toNat a5.2.1) (0,false,());bif decide (a5.2.1<Int.ofNat a0.length) then bif decide (0≤a5.2.1)&&decide (a5.2.1<Int.ofNat a0.length) then (bif q1.2.1 then bif decide (0≤a5.2.1)&&decide (a5.2.1<Int.ofNat a0.length) then (ah.x87 (a0,a1,()) (a2,a3,a4,()) q1.1).bind fun y6=>bif @Nat.ble ((a5.1.length+1)*48) 140737488355328 then some (a5.1++y6.1::[],()) else none else none else some (a5.1,())).bind fun y6=>some (.inl (y6.1,IntKind.wrap .i64 (a5.2.1+1),())) else none else some (.inr (a5.1,()))
def r57 (a0:@List ah.Rt) (a1:@List ah.Lk) (a2 a3:Int) (a4:@List ah.Ed):Option ((@List ah.Tb×Int×Unit)×Unit):=(bif !!decide (ah.xD (a0,a1,())=0) then some (!ah.dZ (a2,a3,a4,()),()) else some (true,())).bind fun y5=>bif y5.1 then some (([],1,()),()) else (Loop (@Bp a0 a1 a2 a3 a4) ([],0,())).bind fun y6=>some ((y6.1,0,()),())
def x57 (g:To) (p:Pn):(Option (((@List ah.Tb)×(Int×Unit))×Unit)):=r57 g.1 g.2.1 p.1 p.2.1 p.2.2.1
def Ri (a0:(Int×Int×Int×ah.Tp)×Unit) (a1:ah.Si):Option (Sum ah.Si ah.Si):=let q1:=List.getD a1.2.1.2.1 (Int.toNat a1.1) (0,0,(0,[],()),0,());(bif decide (a1.1<Int.ofNat a1.2.1.2.1.length) then bif decide (0≤a1.1)&&decide (a1.1<Int.ofNat a1.2.1.2.1.length) then bif @Nat.blt (Int.toNat a1.1) a1.2.1.2.1.length then bif !decide (q1.2.1<a0.1.2.1) then bif decide (0≤a1.1)&&decide (a1.1<Int.ofNat a1.2.1.2.1.length) then bif @Nat.blt (Int.toNat a1.1) a1.2.1.2.1.length then bif decide (q1.2.1=a0.1.2.1) then bif decide (0≤a1.1)&&decide (a1.1<Int.ofNat a1.2.1.2.1.length) then bif @Nat.blt (Int.toNat a1.1) a1.2.1.2.1.length then some (a1.2.1,decide (q1.1<a0.1.1),()) else none else none else some (a1.2.1,false,()) else none else none else some (a1.2.1,true,()) else none else none else some (a1.2.1,false,())).bind fun y2=>bif y2.2.1 then some (.inl (IntKind.wrap .i64 (a1.1+1),y2.1,())) else some (.inr (a1.1,y2.1,()))
def Rj (a0:Int×ah.Ms×ah.Tp×Unit):Option (Sum (Int×ah.Ms×ah.Tp×Unit) (ah.Ms×ah.Tp×Unit)):=let q1:=IntKind.wrap .i64 (a0.1 - 1);bif decide (a0.1 > 0) then (ah.on (ah.wf a0.2.2.1&&ah.small 1&&ah.small 8) (ah.range a0.2.2.1 1 8)).bind fun y1=>(ah.on (ah.wf y1.2&&ah.small 1&&ah.small 4) (ah.range y1.2 1 4)).bind fun y2=>(ah.on (ah.wf y2.2) (ah.filter y2.2)).bind fun y3=>(ah.on (ah.wf y3.2&&decide (0<4)&&decide (4≤1000)) (ah.pick y3.2 (0::1::30::1000::[]))).bind fun y4=>let q2:=IntKind.wrap .i64 (a0.2.1.1+y4.1);(bif decide (y3.1.1=1) then some (decide (Int.ofNat y3.1.2.1.length=0),()) else some (false,())).bind fun y5=>(bif y5.1 then some ((y1.1,y2.1,2,y3.1.2.1,q2,()),()) else some ((y1.1,y2.1,y3.1.1,y3.1.2.1,q2,()),())).bind fun y6=>(Loop (@Ri y6) (0,a0.2.1,())).bind fun y7=>let q3:=List.getD y7.2.1.2.1 (Int.toNat y7.1) (0,0,(0,[],()),0,());(bif decide (y7.1<Int.ofNat y7.2.1.2.1.length) then bif decide (0≤y7.1)&&decide (y7.1<Int.ofNat y7.2.1.2.1.length) then bif @Nat.blt (Int.toNat y7.1) y7.2.1.2.1.length then bif decide (q3.2.1=y6.1.2.1) then bif decide (0≤y7.1)&&decide (y7.1<Int.ofNat y7.2.1.2.1.length) then bif @Nat.blt (Int.toNat y7.1) y7.2.1.2.1.length then some (y7.2.1,decide (q3.1=y6.1.1),()) else none else none else some (y7.2.1,false,()) else none else none else some (y7.2.1,false,())).bind fun y8=>let q4:=List.drop (Int.toNat y7.1) (List.take (Int.toNat (Int.ofNat y8.1.2.1.length)) y8.1.2.1);let q5:=List.drop 0 (List.take (Int.toNat y7.1) y8.1.2.1);bif y8.2.1 then bif decide (0≤y7.1)&&decide (y7.1<Int.ofNat y8.1.2.1.length) then bif @Nat.blt (Int.toNat y7.1) y8.1.2.1.length then some (.inl (q1,(y8.1.1,List.set y8.1.2.1 (Int.toNat y7.1) (y6.1.1,y6.1.2.1,(y6.1.2.2.1,y6.1.2.2.2.1,()),y6.1.2.2.2.2),()),y4.2,())) else none else none else bif decide (0≤y7.1)&&decide (y7.1≤Int.ofNat y8.1.2.1.length)&&decide (Int.ofNat y8.1.2.1.length≤Int.ofNat y8.1.2.1.length) then bif @Nat.ble ((1+q4.length)*56) 140737488355328 then bif true&&decide (0≤y7.1)&&decide (y7.1≤Int.ofNat y8.1.2.1.length)&&decide (y7.1=y7.1) then bif true&&@Nat.ble ((q5.length+((y6.1.1,y6.1.2.1,(y6.1.2.2.1,y6.1.2.2.2.1,()),y6.1.2.2.2.2)::([]++q4)).length)*56) 140737488355328 then some (.inl (q1,(y8.1.1,q5++(y6.1.1,y6.1.2.1,(y6.1.2.2.1,y6.1.2.2.2.1,()),y6.1.2.2.2.2)::([]++q4),()),y4.2,())) else none else none else none else none else some (.inr a0.2)
def r29 (a0:List Int) (a1 a2:Int):Option (ah.Ms×ah.Tp):=(ah.on (ah.wf (a0,a1,())&&decide (0<4)&&decide (4≤1000)) (ah.pick (a0,a1,()) (0::10::500::998000::[]))).bind fun y3=>(ah.on (ah.wf y3.2) (ah.next y3.2 (IntKind.wrap .i64 (a2+1)))).bind fun y4=>(Loop Rj (y4.1,(y3.1,[],()),y4.2,())).bind fun y5=>some (y5.1,y5.2.1)
def x29 (t:Tp) (b0:Int):Option ((Ms)×Tp):=r29 t.1 t.2.1 b0
def Rk (a0:Int×@List ah.Wa×ah.Tp×Unit):Option (Sum (Int×@List ah.Wa×ah.Tp×Unit) (@List ah.Wa×ah.Tp×Unit)):=bif decide (a0.1≤6) then (ah.on (ah.wf a0.2.2.1) (ah.filter a0.2.2.1)).bind fun y1=>((ah.on (ah.wf y1.2) (ah.next y1.2 2)).bind fun y2=>bif decide (y2.1=0) then bif !decide (y1.1.1=2) then some (decide (Int.ofNat y1.1.2.1.length > 0),y2.2,()) else some (true,y2.2,()) else some (false,y2.2,())).bind fun y2=>(bif y2.1 then bif @Nat.ble ((a0.2.1.length+1)*40) 140737488355328 then some (a0.2.1++(a0.1,y1.1,())::[],()) else none else some (a0.2.1,())).bind fun y3=>some (.inl (IntKind.wrap .i64 (a0.1+1),y3.1,y2.2)) else some (.inr a0.2)
def r70 (a0:List Int) (a1:Int):Option (@List ah.Wa×ah.Tp):=(Loop Rk (1,[],(a0,a1,()),())).bind fun y2=>some (y2.1,y2.2.1)
def x70 (t:Tp):Option ((List Wa)×Tp):=r70 t.1 t.2.1
def Rl (a0:@List ah.Mb) (a1:ah.Ed):Option (Sum ah.Ed (Int×Unit)):=(bif decide (a1.2.1<Int.ofNat a0.length) then some (decide (a1.1<900),()) else some (false,())).bind fun y2=>bif y2.1 then bif decide (0≤a1.2.1)&&decide (a1.2.1<Int.ofNat a0.length) then some (.inl (IntKind.wrap .i64 (a1.1+Int.ofNat (List.getD a0 (Int.toNat a1.2.1) (0,0,(0,[],()),0,())).2.2.1.2.1.length),IntKind.wrap .i64 (a1.2.1+1),())) else none else some (.inr (a1.1,()))
def r15 (a0:Int) (a1:@List ah.Mb):Option (Bool×Unit):=(Loop (@Rl a1) (Int.ofNat a1.length,0,())).bind fun y2=>some (decide (y2.1≤800),())
def JM (a0:Int×ah.Tp) (a1:ah.Tp×Int×ah.To×Int×Unit):Option (Sum (ah.Tp×Int×ah.To×Int×Unit) (ah.Tp×ah.To×Unit)):=bif decide (a1.2.2.2.1<a0.1) then (ah.on (ah.wf a1.1&&decide (0<5)&&decide (5≤1000)) (ah.pick a1.1 (1::1::1::2::5::[]))).bind fun y2=>let q1:=IntKind.wrap .i64 (a1.2.1+y2.1);bif @Nat.ble ((a1.2.2.1.1.length+1)*16) 140737488355328 then some (.inl (y2.2,q1,(a1.2.2.1.1++(q1,true,())::[],a1.2.2.1.2),IntKind.wrap .i64 (a1.2.2.2.1+1),())) else none else some (.inr (a1.1,a1.2.2.1,()))
def JN (a0:Int×ah.Tp) (a1:@List (@List Bool)×Int×Unit):Option (Sum (@List (@List Bool)×Int×Unit) (@List (@List Bool)×Unit)):=bif decide (a1.2.1<Int.ofNat (Int.toNat a0.1)) then bif decide (0≤a0.1)&&decide (a0.1≤a0.1)&&decide (a0.1*1≤140737488355328) then bif decide (0≤a1.2.1)&&decide (a1.2.1<Int.ofNat (Int.toNat a0.1)) then bif @Nat.blt (Int.toNat a1.2.1) a1.1.length then some (.inl (List.set a1.1 (Int.toNat a1.2.1) (List.replicate (Int.toNat a0.1) false),IntKind.wrap .i64 (a1.2.1+1),())) else none else none else none else some (.inr (a1.1,()))
def JO (a0:Int×ah.Tp) (a1:Int×@List (@List Bool)×ah.Tp×Unit):Option (Sum (Int×@List (@List Bool)×ah.Tp×Unit) (@List (@List Bool)×ah.Tp×Unit)):=bif decide (a1.1<a0.1) then (ah.on (ah.wf a1.2.2.1) (ah.next a1.2.2.1 12)).bind fun y2=>(bif decide (y2.1<11) then (ah.on (ah.wf y2.2) (ah.next y2.2 a1.1)).bind fun y3=>let q1:=List.getD a1.2.1 (Int.toNat y3.1) [];bif decide (0≤y3.1)&&decide (y3.1<Int.ofNat (Int.toNat a0.1)) then bif @Nat.blt (Int.toNat y3.1) a1.2.1.length then bif decide (0≤a1.1)&&decide (a1.1<Int.ofNat q1.length) then bif @Nat.blt (Int.toNat a1.1) q1.length then some (List.set a1.2.1 (Int.toNat y3.1) (List.set q1 (Int.toNat a1.1) true),y3.2,()) else none else none else none else none else some (a1.2.1,y2.2,())).bind fun y3=>some (.inl (IntKind.wrap .i64 (a1.1+1),y3)) else some (.inr a1.2)
def JQ (a0:Int×ah.Tp) (a1:Int×@List (@List Bool)×ah.Tp×Unit):Option (Sum (Int×@List (@List Bool)×ah.Tp×Unit) (@List (@List Bool)×ah.Tp×Unit)):=bif decide (a1.1 > 0) then (ah.on (ah.wf a1.2.2.1) (ah.next a1.2.2.1 a0.1)).bind fun y2=>(ah.on (ah.wf y2.2) (ah.next y2.2 a0.1)).bind fun y3=>let q1:=List.getD a1.2.1 (Int.toNat (bif decide (y3.1<y2.1) then y3.1 else y2.1)) [];(bif !decide (y2.1=y3.1) then bif decide (0≤(bif decide (y3.1<y2.1) then y3.1 else y2.1))&&decide ((bif decide (y3.1<y2.1) then y3.1 else y2.1)<Int.ofNat (Int.toNat a0.1)) then bif @Nat.blt (Int.toNat (bif decide (y3.1<y2.1) then y3.1 else y2.1)) a1.2.1.length then bif decide (0≤(bif decide (y2.1<y3.1) then y3.1 else y2.1))&&decide ((bif decide (y2.1<y3.1) then y3.1 else y2.1)<Int.ofNat q1.length) then bif @Nat.blt (Int.toNat (bif decide (y2.1<y3.1) then y3.1 else y2.1)) q1.length then some (List.set a1.2.1 (Int.toNat (bif decide (y3.1<y2.1) then y3.1 else y2.1)) (List.set q1 (Int.toNat (bif decide (y2.1<y3.1) then y3.1 else y2.1)) true),()) else none else none else none else none else some (a1.2.1,())).bind fun y4=>some (.inl (IntKind.wrap .i64 (a1.1 - 1),y4.1,y3.2,())) else some (.inr a1.2)
def JR (a0 a1:Int×ah.Tp) (a2:Int×@List (@List Bool)×ah.Tp×ah.To×Unit) (a3:@List (@List Bool)×ah.Tp×ah.To×Int×Unit):Option (Sum (@List (@List Bool)×ah.Tp×ah.To×Int×Unit) (@List (@List Bool)×ah.Tp×ah.To×Unit)):=let q1:=List.getD a3.1 (Int.toNat a2.1) [];let q2:=List.getD a3.2.2.1.1 (Int.toNat a3.2.2.2.1) (0,false,());let q3:=List.getD a3.2.2.1.1 (Int.toNat a2.1) (0,false,());let q4:=List.set a3.1 (Int.toNat a2.1) q1;let q5:=IntKind.wrap .i64 (a3.2.2.2.1+1);bif decide (a3.2.2.2.1<Int.ofNat (Int.toNat a0.1)) then bif decide (0≤a2.1)&&decide (a2.1<Int.ofNat (Int.toNat a0.1)) then bif @Nat.blt (Int.toNat a2.1) a3.1.length then bif decide (0≤a3.2.2.2.1)&&decide (a3.2.2.2.1<Int.ofNat q1.length) then bif @Nat.blt (Int.toNat a3.2.2.2.1) q1.length then bif !List.getD q1 (Int.toNat a3.2.2.2.1) false then some (.inl (q4,a3.2.1,a3.2.2.1,q5,())) else bif decide (0≤a2.1)&&decide (a2.1<Int.ofNat a3.2.2.1.1.length) then bif @Nat.blt (Int.toNat a2.1) a3.2.2.1.1.length then bif decide (0≤a3.2.2.2.1)&&decide (a3.2.2.2.1<Int.ofNat a3.2.2.1.1.length) then bif @Nat.blt (Int.toNat a3.2.2.2.1) a3.2.2.1.1.length then (ah.on (ah.wf a3.2.1&&decide (0<7)&&decide (7≤1000)) (ah.pick a3.2.1 (0::1::2::3::5::10::1000::[]))).bind fun y4=>(bif !decide (a1.1=0) then (ah.on (ah.wf y4.2&&ah.small 1&&ah.small 20) (ah.range y4.2 1 20)).bind fun y5=>let q6:=1::2::3::y5.1::1000::[];(ah.on (ah.wf y5.2&&decide (0<q6.length)&&decide (q6.length≤1000)) (ah.pick y5.2 q6)).bind fun y6=>(ah.on (ah.wf y6.2&&ah.small 1&&ah.small 20) (ah.range y6.2 1 20)).bind fun y7=>(ah.on (ah.wf y7.2&&decide (0<(y6.1::y6.1::y7.1::[]).length)&&decide ((y6.1::y6.1::y7.1::[]).length≤1000)) (ah.pick y7.2 (y6.1::y6.1::y7.1::[]))).bind fun y8=>some ((q3.1,q2.1,y6.1,y8.1,y4.1,()),y8.2,()) else some ((q3.1,q2.1,1,1,y4.1,()),y4.2,())).bind fun y5=>bif @Nat.ble ((a3.2.2.1.2.1.length+1)*40) 140737488355328 then some (.inl (q4,y5.2.1,(a3.2.2.1.1,a3.2.2.1.2.1++y5.1::[],()),q5,())) else none else none else none else none else none else none else none else none else none else some (.inr (a3.1,a3.2.1,a3.2.2.1,()))
def Rm (a0 a1:Int×ah.Tp) (a2:Int×@List (@List Bool)×ah.Tp×ah.To×Unit):Option (Sum (Int×@List (@List Bool)×ah.Tp×ah.To×Unit) (ah.Tp×ah.To×Unit)):=bif decide (a2.1<Int.ofNat (Int.toNat a0.1)) then (Loop (@JR a0 a1 a2) (a2.2.1,a2.2.2.1,a2.2.2.2.1,0,())).bind fun y3=>some (.inl (IntKind.wrap .i64 (a2.1+1),y3)) else some (.inr a2.2.2)
def r25 (a0:List Int) (a1 a2:Int):Option (ah.To×ah.Tp):=(ah.on (ah.wf (a0,a1,())&&ah.small 1&&ah.small a2) (ah.range (a0,a1,()) 1 a2)).bind fun y3=>(Loop (@JM y3) (y3.2,0,([],[],()),0,())).bind fun y4=>bif decide (0≤y3.1)&&decide (y3.1=y3.1)&&decide (y3.1*24≤140737488355328) then (Loop (@JN y3) (List.replicate (Int.toNat y3.1) ([]:List Bool),0,())).bind fun y5=>(Loop (@JO y3) (1,y5.1,y4.1,())).bind fun y6=>(ah.on (ah.wf y6.2.1) (ah.next y6.2.1 (IntKind.wrap .i64 (y3.1+2)))).bind fun y7=>(Loop (@JQ y3) (y7.1,y6.1,y7.2,())).bind fun y8=>(ah.on (ah.wf y8.2.1) (ah.next y8.2.1 3)).bind fun y9=>(Loop (@Rm y3 y9) (0,y8.1,y9.2,y4.2)).bind fun mq=>some (mq.2.1,mq.1) else none
def x25 (t:Tp) (b0:Int):Option ((To)×Tp):=r25 t.1 t.2.1 b0
def Rn (a0:@List ah.Rt) (a1:List Int×ah.Tp) (a2:Int×ah.Pn×Int×ah.Tp×List Int×Unit):Option (Sum (Int×ah.Pn×Int×ah.Tp×List Int×Unit) (ah.Pn×ah.Tp×Unit)):=let q1:=List.getD a2.2.2.2.2.1 (Int.toNat a2.1) 0;let q2:=IntKind.wrap .i64 (a2.1+1);bif decide (a2.1<Int.ofNat a1.1.length) then bif decide (0≤a2.1)&&decide (a2.1<Int.ofNat a2.2.2.2.2.1.length) then bif @Nat.blt (Int.toNat a2.1) a2.2.2.2.2.1.length then (ah.on (ah.wf a2.2.2.2.1) (ah.next a2.2.2.2.1 4)).bind fun y3=>bif decide (y3.1=0) then some (.inl (q2,a2.2.1,a2.2.2.1,y3.2,a2.2.2.2.2)) else (ah.on (ah.wf y3.2&&decide (0<6)&&decide (6≤1000)) (ah.pick y3.2 (1::1::1::2::7::9::[]))).bind fun y4=>let q3:=IntKind.wrap .i64 (a2.2.2.1+y4.1);bif decide (0≤q1)&&decide (q1<Int.ofNat a0.length) then bif @Nat.ble ((a2.2.1.2.2.1.length+1)*16) 140737488355328 then some (.inl (q2,(a2.2.1.1,a2.2.1.2.1,a2.2.1.2.2.1++((List.getD a0 (Int.toNat q1) (0,false,())).1,q3,())::[],()),q3,y4.2,a2.2.2.2.2)) else none else none else none else none else some (.inr (a2.2.1,a2.2.2.2.1,()))
def r26 (a0:List Int) (a1:Int) (a2:@List ah.Rt) (a3:@List ah.Lk):Option (ah.Pn×ah.Tp):=(ah.on (ah.wf (a0,a1,())) (ah.next (a0,a1,()) 3)).bind fun y4=>(ah.on (ah.wf y4.2&&ah.inside (Int.ofNat a2.length) 0 1000) (ah.order y4.2 (Int.toNat (Int.ofNat a2.length)))).bind fun y5=>(Loop (@Rn a2 y5) (0,(y4.1,0,[],()),0,y5.2,y5.1,())).bind fun y6=>(bif decide (Int.ofNat y6.1.2.2.1.length > 0) then (ah.on (ah.wf y6.2.1&&decide (0<5)&&decide (5≤1000)) (ah.pick y6.2.1 (8::8::16::32::64::[]))).bind fun y7=>some ((y6.1.1,y7.1,y6.1.2.2),y7.2,()) else some y6).bind fun y7=>some (y7.1,y7.2.1)
def x26 (t:Tp) (b0:To):Option ((Pn)×Tp):=r26 t.1 t.2.1 b0.1 b0.2.1
def Lu (a0:@List ah.It) (a1 a2:Int×Unit):Option (Sum (Int×Unit) (Bool×(Bool×Unit)×Unit)):=bif decide (a2.1<a1.1) then bif decide (0≤a2.1)&&decide (a2.1<Int.ofNat a0.length) then bif decide ((List.getD a0 (Int.toNat a2.1) (0,0,(0,[],()),())).2.1=(List.getD a0 (Int.toNat a1.1) (0,0,(0,[],()),())).2.1) then some (.inr (true,(false,()),())) else some (.inl (IntKind.wrap .i64 (a2.1+1),())) else none else some (.inr (false,(false,()),()))
def EB (a0:@List ah.It) (a1:Int) (a2:Int×Unit):Option (Sum (Int×Unit) (Bool×(Bool×Unit)×Unit)):=let q1:=List.getD a0 (Int.toNat a2.1) (0,0,(0,[],()),());let q2:=IntKind.wrap .i64 (a2.1 - 1);bif decide (a2.1<Int.ofNat a0.length) then bif decide (0≤a2.1)&&decide (a2.1<Int.ofNat a0.length) then (bif !!ah.inside q1.1 1 a1 then bif !!ah.inside q1.2.1 1 99 then bif !!decide (ah.dU q1.2.2.1=0) then bif decide (a2.1 > 0) then bif decide (0≤q2)&&decide (q2<Int.ofNat a0.length) then some (decide ((List.getD a0 (Int.toNat q2) (0,0,(0,[],()),())).1≥q1.1),()) else none else some (false,()) else some (true,()) else some (true,()) else some (true,())).bind fun y3=>bif y3.1 then some (.inr (true,(false,()),())) else (Loop (@Lu a0 a2) (0,())).bind fun y4=>bif y4.1 then some (.inr (true,y4.2)) else some (.inl (IntKind.wrap .i64 (a2.1+1),())) else none else some (.inr (false,(false,()),()))
def acE (a0:@List ah.It) (a1:Int):Option (Bool×Unit):=(Loop (@EB a0 a1) (0,())).bind fun y2=>bif y2.1 then some y2.2.1 else some (true,())
def EC (b0:(List It)) (b1:Int):Option ((Bool)×Unit):=acE b0 b1
def ED (a0 a1:Int) (a2:@List ah.Pe) (a3:Bool×Int×Unit):Option (Sum (Bool×Int×Unit) (Bool×Unit)):=let q1:=List.getD a2 (Int.toNat a3.2.1) (0,0,0,());let q2:=IntKind.wrap .i64 (a3.2.1 - 1);bif decide (a3.2.1<Int.ofNat a2.length) then bif decide (0≤a3.2.1)&&decide (a3.2.1<Int.ofNat a2.length) then (bif a3.1 then bif ah.inside q1.1 1 99 then bif !decide (q1.1=a0) then bif ah.inside q1.2.1 0 1000000 then bif ah.inside q1.2.2.1 0 a1 then bif !decide (a3.2.1=0) then bif decide (0≤q2)&&decide (q2<Int.ofNat a2.length) then some (decide ((List.getD a2 (Int.toNat q2) (0,0,0,())).1<q1.1),()) else none else some (true,()) else some (false,()) else some (false,()) else some (false,()) else some (false,()) else some (false,())).bind fun y4=>some (.inl (y4.1,IntKind.wrap .i64 (a3.2.1+1),())) else none else some (.inr (a3.1,()))
def acF (a0 a1 a2:Int) (a3:@List ah.It) (a4:@List ah.Pe):Option (Int×Unit):=(bif ah.inside a0 1 99 then bif ah.inside a1 1 1000000 then bif ah.inside a2 0 1000000 then (ah.EC a3 a2).bind fun y5=>bif y5.1 then some (decide (Int.ofNat a4.length≤12),()) else some (false,()) else some (false,()) else some (false,()) else some (false,())).bind fun y5=>(Loop (@ED a0 a2 a4) (y5.1,0,())).bind fun y6=>bif !y6.1 then some (1,()) else some (0,())
def xH (b0:Sk):Option ((Int)×Unit):=acF b0.1 b0.2.1 b0.2.2.1 b0.2.2.2.1 b0.2.2.2.2.1
def Ro (a0:List Int) (a1:Int×ah.Sk×Unit):Option (Sum (Int×ah.Sk×Unit) (ah.Sk×Unit)):=bif decide (a1.1<Int.ofNat a0.length) then bif decide (0≤a1.1)&&decide (a1.1<Int.ofNat a0.length) then bif @Nat.ble ((a1.2.1.2.2.2.2.1.length+1)*24) 140737488355328 then some (.inl (IntKind.wrap .i64 (a1.1+1),(a1.2.1.1,a1.2.1.2.1,a1.2.1.2.2.1,a1.2.1.2.2.2.1,a1.2.1.2.2.2.2.1++(List.getD a0 (Int.toNat a1.1) 0,0,0,())::[],()),())) else none else none else some (.inr a1.2)
def r66 (a0 a1:Int) (a2:List Int):Option ((ah.Sk×Int×Unit)×Unit):=bif decide (Int.ofNat a2.length > 12) then some (((0,0,0,[],[],()),1,()),()) else (Loop (@Ro a2) (0,(a0,a1,0,[],[],()),())).bind fun y3=>(ah.xH y3.1).bind fun y4=>bif !decide (y4.1=0) then some (((0,0,0,[],[],()),y4),()) else some ((y3.1,0,()),())
def x66 (b0:Int) (b1:Int) (b2:(List Int)):Option ((Sk×Int×Unit)×Unit):=r66 b0 b1 b2
def EF (a0:Int) (a1:@List ah.He) (a2:Bool×Int×Unit):Option (Sum (Bool×Int×Unit) (Bool×Unit)):=let q1:=List.getD a1 (Int.toNat a2.2.1) (0,0,0,[],());let q2:=IntKind.wrap .i64 (a2.2.1 - 1);bif decide (a2.2.1<Int.ofNat a1.length) then bif decide (0≤a2.2.1)&&decide (a2.2.1<Int.ofNat a1.length) then (bif a2.1 then bif ah.inside q1.1 1 99 then bif !decide (q1.1=a0) then bif ah.inside q1.2.1 1 1000000 then bif ah.inside q1.2.2.1 0 1000000 then (ah.EC q1.2.2.2.1 q1.2.2.1).bind fun y3=>bif y3.1 then bif !decide (a2.2.1=0) then bif decide (0≤q2)&&decide (q2<Int.ofNat a1.length) then some (decide ((List.getD a1 (Int.toNat q2) (0,0,0,[],())).1<q1.1),()) else none else some (true,()) else some (false,()) else some (false,()) else some (false,()) else some (false,()) else some (false,()) else some (false,())).bind fun y3=>some (.inl (y3.1,IntKind.wrap .i64 (a2.2.1+1),())) else none else some (.inr (a2.1,()))
def acG (a0 a1:Int) (a2:@List ah.He):Option (Int×Unit):=(bif ah.inside a0 1 99 then bif ah.inside a1 1 1000000 then some (decide (Int.ofNat a2.length≤12),()) else some (false,()) else some (false,())).bind fun y3=>(Loop (@EF a0 a2) (y3.1,0,())).bind fun y4=>bif !y4.1 then some (1,()) else some (0,())
def Ck (b0:Li):Option ((Int)×Unit):=acG b0.1 b0.2.1 b0.2.2.1
def JU (a0:@List ah.Sk) (a1:ah.Fl):Option (Sum ah.Fl (Bool×(Int×Unit)×List Int×Unit)):=let q1:=List.getD a0 (Int.toNat a1.1) (0,0,0,[],[],());let q2:=IntKind.wrap .i64 (a1.1 - 1);bif decide (a1.1<Int.ofNat a0.length) then bif decide (0≤a1.1)&&decide (a1.1<Int.ofNat a0.length) then ((ah.xH q1).bind fun y2=>bif !!decide (y2.1=0) then bif decide (a1.1 > 0) then bif decide (0≤q2)&&decide (q2<Int.ofNat a0.length) then some (decide ((List.getD a0 (Int.toNat q2) (0,0,0,[],[],())).1≥q1.1),()) else none else some (false,()) else some (true,())).bind fun y2=>bif y2.1 then some (.inr (true,(1,()),[],())) else bif @Nat.ble ((a1.2.1.length+1)*8) 140737488355328 then some (.inl (IntKind.wrap .i64 (a1.1+1),a1.2.1++q1.1::[],())) else none else none else some (.inr (false,(0,()),a1.2))
def JV (a0:@List ah.Sk) (a1:ah.Fl) (a2:ah.Tp):Option (Sum ah.Tp (Bool×(Int×Unit)×List Int×Unit)):=let q1:=List.getD a0 (Int.toNat a1.1) (0,0,0,[],[],());bif decide (a2.2.1<Int.ofNat q1.2.2.2.2.1.length) then bif decide (0≤a2.2.1)&&decide (a2.2.1<Int.ofNat q1.2.2.2.2.1.length) then bif !ah.has a2.1 (List.getD q1.2.2.2.2.1 (Int.toNat a2.2.1) (0,0,0,())).1 then some (.inr (true,(1,()),[],())) else some (.inl (a2.1,IntKind.wrap .i64 (a2.2.1+1),())) else none else some (.inr (false,(0,()),a2.1,()))
def JW (a0:@List ah.Li) (a1:ah.Fl) (a2:ah.Tp):Option (Sum ah.Tp (Bool×(Int×Unit)×List Int×Unit)):=let q1:=List.getD a0 (Int.toNat a1.1) (0,0,[],());bif decide (a2.2.1<Int.ofNat q1.2.2.1.length) then bif decide (0≤a2.2.1)&&decide (a2.2.1<Int.ofNat q1.2.2.1.length) then bif !ah.has a2.1 (List.getD q1.2.2.1 (Int.toNat a2.2.1) (0,0,0,[],())).1 then some (.inr (true,(1,()),[],())) else some (.inl (a2.1,IntKind.wrap .i64 (a2.2.1+1),())) else none else some (.inr (false,(0,()),a2.1,()))
def JX (a0:@List ah.Sk) (a1:@List ah.Li) (a2:ah.Fl):Option (Sum ah.Fl (Bool×(Int×Unit)×List Int×Unit)):=let q1:=List.getD a0 (Int.toNat a2.1) (0,0,0,[],[],());let q2:=List.getD a1 (Int.toNat a2.1) (0,0,[],());bif decide (a2.1<Int.ofNat a0.length) then bif decide (0≤a2.1)&&decide (a2.1<Int.ofNat a0.length) then bif !decide (Int.ofNat q1.2.2.2.2.1.length=IntKind.wrap .i64 (Int.ofNat a2.2.1.length - 1)) then some (.inr (true,(1,()),[],())) else (Loop (@JV a0 a2) (a2.2.1,0,())).bind fun y3=>bif y3.1 then some (.inr (true,y3.2.1,[],())) else bif decide (0≤a2.1)&&decide (a2.1<Int.ofNat a1.length) then ((ah.Ck q2).bind fun y4=>bif !!decide (y4.1=0) then some (!decide (q2.1=q1.1),()) else some (true,())).bind fun y4=>bif y4.1 then some (.inr (true,(1,()),[],())) else (Loop (@JW a1 a2) (y3.2.2.1,0,())).bind fun y5=>bif y5.1 then some (.inr (true,y5.2.1,[],())) else some (.inl (IntKind.wrap .i64 (a2.1+1),y5.2.2)) else none else none else some (.inr (false,(0,()),a2.2))
def JY (a0:@List ah.oC) (a1:ah.Tp):Option (Sum ah.Tp (Bool×(Int×Unit)×Unit)):=let q1:=List.getD a0 (Int.toNat a1.2.1) (0,0,0,0,0,0,0,0,(0,[],()),());bif decide (a1.2.1<Int.ofNat a0.length) then bif decide (0≤a1.2.1)&&decide (a1.2.1<Int.ofNat a0.length) then (bif !!decide (ah.validate (q1.1,q1.2.1,q1.2.2.1,q1.2.2.2.1,q1.2.2.2.2.1,q1.2.2.2.2.2.1,q1.2.2.2.2.2.2.1,q1.2.2.2.2.2.2.2.1,q1.2.2.2.2.2.2.2.2.1)=0) then bif !!ah.has a1.1 q1.2.1 then some (!ah.has a1.1 q1.2.2.1,a1.1,()) else some (true,a1.1,()) else some (true,a1.1,())).bind fun y2=>bif y2.1 then some (.inr (true,(1,()),())) else some (.inl (y2.2.1,IntKind.wrap .i64 (a1.2.1+1),())) else none else some (.inr (false,(0,()),()))
def r67 (a0:@List ah.Sk) (a1:@List ah.Li) (a2:@List ah.oC):Option (Int×Unit):=(bif !decide (Int.ofNat a0.length > 12) then some (!decide (Int.ofNat a1.length=Int.ofNat a0.length),()) else some (true,())).bind fun y3=>bif y3.1 then some (1,()) else (Loop (@JU a0) (0,[],())).bind fun y4=>bif y4.1 then some y4.2.1 else (Loop (@JX a0 a1) (0,y4.2.2)).bind fun y5=>bif y5.1 then some y5.2.1 else (Loop (@JY a2) (y5.2.2.1,0,())).bind fun y6=>bif y6.1 then some y6.2.1 else some (0,())
def Rp (b0:Ov):Option ((Int)×Unit):=r67 b0.1 b0.2.1 b0.2.2.1
def Rq (a0:List Int) (a1:ah.Ov×ah.Ov×Int×Unit):Option (Sum (ah.Ov×ah.Ov×Int×Unit) (Bool×(Int×ah.Ov×Unit)×ah.Ov×ah.Ov×Unit)):=let q1:=IntKind.wrap .i64 (a1.2.2.1+1);let q2:=List.drop 0 (List.take (Int.toNat a1.2.2.1) a0);let q3:=List.drop (Int.toNat q1) (List.take (Int.toNat (Int.ofNat a0.length)) a0);let q4:=List.getD a0 (Int.toNat a1.2.2.1) 0;bif decide (a1.2.2.1<Int.ofNat a0.length) then bif decide (0≤a1.2.2.1)&&decide (a1.2.2.1<Int.ofNat a0.length) then bif true&&decide (0≤a1.2.2.1)&&decide (a1.2.2.1≤Int.ofNat a0.length) then bif @Nat.ble ((0+q2.length)*8) 140737488355328 then bif decide (0≤q1)&&decide (q1≤Int.ofNat a0.length)&&decide (Int.ofNat a0.length≤Int.ofNat a0.length) then bif @Nat.ble ((([]++q2).length+q3.length)*8) 140737488355328 then (ah.x66 q4 1 ([]++q2++q3)).bind fun y2=>bif !decide (y2.1.2.1=0) then some (.inr (true,(1,([],[],[],()),()),([],[],[],()),([],[],[],()),())) else bif @Nat.ble ((a1.2.1.1.length+1)*72) 140737488355328 then bif @Nat.ble ((a1.2.1.2.1.length+1)*40) 140737488355328 then some (.inl (a1.1,(a1.2.1.1++y2.1.1::[],a1.2.1.2.1++(q4,1,[],())::[],a1.2.1.2.2),q1,())) else none else none else none else none else none else none else none else some (.inr (false,(0,([],[],[],()),()),a1.1,a1.2.1,()))
def r30 (a0:List Int):Option ((ah.Ov×Int×Unit)×Unit):=bif decide (Int.ofNat a0.length > 12) then some ((([],[],[],()),1,()),()) else (Loop (@Rq a0) (([],[],[],()),([],[],[],()),0,())).bind fun y1=>bif y1.1 then some ((y1.2.1.2.1,y1.2.1.1,()),()) else (ah.Rp y1.2.2.2.1).bind fun y2=>bif !decide (y2.1=0) then some ((([],[],[],()),1,()),()) else some ((y1.2.2.2.1,0,()),())
def x30 (b0:(List Int)):Option ((Ov×Int×Unit)×Unit):=r30 b0
def JZ (a0:@List ah.Sk) (a1:Int) (a2:Int×Unit):Option (Sum (Int×Unit) (Bool×(Int×Unit)×Unit)):=bif decide (a2.1<Int.ofNat a0.length) then bif decide (0≤a2.1)&&decide (a2.1<Int.ofNat a0.length) then bif decide ((List.getD a0 (Int.toNat a2.1) (0,0,0,[],[],())).1=a1) then some (.inr (true,a2,())) else some (.inl (IntKind.wrap .i64 (a2.1+1),())) else none else some (.inr (false,(0,()),()))
def r76 (a0:@List ah.Sk) (a1:@List ah.Li) (a2:@List ah.oC) (a3:Int):Option (Int×Unit):=(Loop (@JZ a0 a3) (0,())).bind fun y4=>bif y4.1 then some y4.2.1 else some (((-1):Int),())
def ZO (b0:Ov) (b1:Int):Option ((Int)×Unit):=r76 b0.1 b0.2.1 b0.2.2.1 b1
def r81 (a0:@List ah.Sk) (a1:@List ah.Li) (a2:@List ah.oC):Option (ah.Ov×Unit):=bif @Nat.ble ((0+a0.length)*72) 140737488355328 then bif @Nat.ble ((0+a1.length)*40) 140737488355328 then bif @Nat.ble ((0+a2.length)*96) 140737488355328 then some (([]++a0,[]++a1,[]++a2,()),()) else none else none else none
def x81 (b0:Ov):Option ((Ov)×Unit):=r81 b0.1 b0.2.1 b0.2.2.1
def Lx (a0:@List ah.Wa) (a1:Int×Unit):Option (Sum (Int×Unit) (Bool×(Int×Unit)×Unit)):=let q1:=List.getD a0 (Int.toNat a1.1) (0,(0,[],()),());bif decide (a1.1<Int.ofNat a0.length) then bif decide (0≤a1.1)&&decide (a1.1<Int.ofNat a0.length) then (bif !decide (q1.1<1) then some (decide (q1.1 > 99),()) else some (true,())).bind fun y2=>bif y2.1 then some (.inr (true,(2,()),())) else some (.inl (IntKind.wrap .i64 (a1.1+1),())) else none else some (.inr (false,(0,()),()))
def LA (a0:@List ah.Wa) (a1:Int×Unit):Option (Sum (Int×Unit) (Bool×(Int×Unit)×Unit)):=let q1:=List.getD a0 (Int.toNat a1.1) (0,(0,[],()),());bif decide (a1.1<Int.ofNat a0.length) then bif decide (0≤a1.1)&&decide (a1.1<Int.ofNat a0.length) then bif !decide (ah.dU q1.2.1=0) then some (.inr (true,(ah.dU q1.2.1,()),())) else some (.inl (IntKind.wrap .i64 (a1.1+1),())) else none else some (.inr (false,(0,()),()))
def LB (a0:@List ah.Wa) (a1:Bool) (a2:Int×Unit):Option (Sum (Int×Unit) (Bool×(Int×Unit)×Unit)):=bif decide (a2.1<Int.ofNat a0.length) then bif decide (0≤a2.1)&&decide (a2.1<Int.ofNat a0.length) then (bif !a1 then some (ah.pR (List.getD a0 (Int.toNat a2.1) (0,(0,[],()),())).2.1 (1,[],()),()) else some (false,())).bind fun y3=>bif y3.1 then some (.inr (true,(1,()),())) else some (.inl (IntKind.wrap .i64 (a2.1+1),())) else none else some (.inr (false,(0,()),()))
def LD (a0:@List ah.Wa) (a1:Int×Unit):Option (Sum (Int×Unit) (Bool×(Int×Unit)×Unit)):=let q1:=IntKind.wrap .i64 (a1.1 - 1);bif decide (a1.1<Int.ofNat a0.length) then bif decide (0≤q1)&&decide (q1<Int.ofNat a0.length) then bif decide (0≤a1.1)&&decide (a1.1<Int.ofNat a0.length) then bif decide ((List.getD a0 (Int.toNat q1) (0,(0,[],()),())).1≥(List.getD a0 (Int.toNat a1.1) (0,(0,[],()),())).1) then some (.inr (true,(25,()),())) else some (.inl (IntKind.wrap .i64 (a1.1+1),())) else none else none else some (.inr (false,(0,()),()))
def ahI (a0:@List ah.Wa) (a1:Bool):Option (Int×Unit):=bif decide (Int.ofNat a0.length > 32) then some (3,()) else (Loop (@Lx a0) (0,())).bind fun y2=>bif y2.1 then some y2.2.1 else (Loop (@LA a0) (0,())).bind fun y3=>bif y3.1 then some y3.2.1 else (Loop (@LB a0 a1) (0,())).bind fun y4=>bif y4.1 then some y4.2.1 else (Loop (@LD a0) (1,())).bind fun y5=>bif y5.1 then some y5.2.1 else some (0,())
def Rs (b0:(List Wa)) (b1:Bool):Option ((Int)×Unit):=ahI b0 b1
def r77 (a0:@List ah.Wa):Option (Int×Unit):=(ah.Rs a0 false).bind fun y1=>some y1
def W9 (b0:(List Wa)):Option ((Int)×Unit):=r77 b0
def LG (a0:@List ah.Wa) (a1:Int) (a2:ah.Fl×Int×Unit):Option (Sum (ah.Fl×Int×Unit) (Bool×(ah.Fl×Unit)×ah.Fl×Unit)):=let q1:=List.getD a0 (Int.toNat a2.2.1) (0,(0,[],()),());bif decide (a2.2.1<Int.ofNat a0.length) then bif decide (0≤a2.2.1)&&decide (a2.2.1<Int.ofNat a0.length) then bif decide (q1.1=a1) then some (.inr (true,q1.2,(0,[],()),())) else some (.inl (a2.1,IntKind.wrap .i64 (a2.2.1+1),())) else none else some (.inr (false,((0,[],()),()),a2.1,()))
def ahJ (a0:@List ah.Wa) (a1:Int):Option (ah.Fl×Unit):=(Loop (@LG a0 a1) ((0,[],()),0,())).bind fun y2=>bif y2.1 then some y2.2.1 else some ((1,[],()),())
def HZ (b0:(List Wa)) (b1:Int):Option ((Fl)×Unit):=ahJ b0 b1
def Ru (a0 a1:@List ah.Wa) (a2:Int×@List ah.Wa×Unit):Option (Sum (Int×@List ah.Wa×Unit) (@List ah.Wa×Unit)):=bif decide (a2.1≤99) then (ah.HZ a1 a2.1).bind fun y3=>(ah.HZ a0 a2.1).bind fun y4=>(bif !ah.pR y3.1 y4.1 then bif @Nat.ble ((a2.2.1.length+1)*40) 140737488355328 then some (a2.2.1++(a2.1,y3)::[],()) else none else some a2.2).bind fun y5=>some (.inl (IntKind.wrap .i64 (a2.1+1),y5)) else some (.inr a2.2)
def r78 (a0 a1:@List ah.Wa):Option ((@List ah.Wa×Int×Unit)×Unit):=(ah.W9 a0).bind fun y2=>bif !decide (y2.1=0) then some (([],y2),()) else (ah.W9 a1).bind fun y3=>bif !decide (y3.1=0) then some (([],y3),()) else (Loop (@Ru a0 a1) (1,[],())).bind fun y4=>bif decide (Int.ofNat y4.1.length > 32) then some (([],3,()),()) else some ((y4.1,0,()),())
def x78 (b0:(List Wa)) (b1:(List Wa)):Option (((List Wa)×Int×Unit)×Unit):=r78 b0 b1
def LH (a0:@List ah.It) (a1:Int) (a2:ah.Fl×Int×Unit):Option (Sum (ah.Fl×Int×Unit) (Bool×(ah.Fl×Unit)×ah.Fl×Unit)):=let q1:=List.getD a0 (Int.toNat a2.2.1) (0,0,(0,[],()),());bif decide (a2.2.1<Int.ofNat a0.length) then bif decide (0≤a2.2.1)&&decide (a2.2.1<Int.ofNat a0.length) then bif decide (q1.2.1=a1) then some (.inr (true,q1.2.2,(0,[],()),())) else some (.inl (a2.1,IntKind.wrap .i64 (a2.2.1+1),())) else none else some (.inr (false,((0,[],()),()),a2.1,()))
def ahK (a0:@List ah.It) (a1:Int):Option (ah.Fl×Unit):=(Loop (@LH a0 a1) ((0,[],()),0,())).bind fun y2=>bif y2.1 then some y2.2.1 else some ((1,[],()),())
def Rv (b0:(List It)) (b1:Int):Option ((Fl)×Unit):=ahK b0 b1
def Rx (a0:@List ah.It) (a1:Int×@List ah.Wa×Unit):Option (Sum (Int×@List ah.Wa×Unit) (@List ah.Wa×Unit)):=bif decide (a1.1≤99) then (ah.Rv a0 a1.1).bind fun y2=>(bif !ah.pR y2.1 (1,[],()) then bif @Nat.ble ((a1.2.1.length+1)*40) 140737488355328 then some (a1.2.1++(a1.1,y2)::[],()) else none else some a1.2).bind fun y3=>some (.inl (IntKind.wrap .i64 (a1.1+1),y3)) else some (.inr a1.2)
def r79 (a0:@List ah.It):Option (@List ah.Wa×Unit):=(ah.EC a0 1000000).bind fun y1=>bif !y1.1 then some ([],()) else (Loop (@Rx a0) (1,[],())).bind fun y2=>some y2
def x79 (b0:(List It)):Option ((List Wa)×Unit):=r79 b0
def LJ (a0:@List ah.Wa) (a1:Int) (a2:Int×Unit):Option (Sum (Int×Unit) (Bool×(Bool×Unit)×Unit)):=bif decide (a2.1<Int.ofNat a0.length) then bif decide (0≤a2.1)&&decide (a2.1<Int.ofNat a0.length) then bif decide ((List.getD a0 (Int.toNat a2.1) (0,(0,[],()),())).1=a1) then some (.inr (true,(true,()),())) else some (.inl (IntKind.wrap .i64 (a2.1+1),())) else none else some (.inr (false,(false,()),()))
def ahL (a0:@List ah.Wa) (a1:Int):Option (Bool×Unit):=(Loop (@LJ a0 a1) (0,())).bind fun y2=>bif y2.1 then some y2.2.1 else some (false,())
def Xa (b0:(List Wa)) (b1:Int):Option ((Bool)×Unit):=ahL b0 b1
def LK (a0 a1:@List ah.Wa) (a2:Int×@List ah.Wa×Unit):Option (Sum (Int×@List ah.Wa×Unit) (@List ah.Wa×Unit)):=bif decide (a2.1≤99) then (ah.HZ a0 a2.1).bind fun y3=>(ah.Xa a1 a2.1).bind fun y4=>(bif y4.1 then (ah.HZ a1 a2.1).bind fun y5=>some y5 else some y3).bind fun y5=>(bif !ah.pR y5.1 (1,[],()) then bif @Nat.ble ((a2.2.1.length+1)*40) 140737488355328 then some (a2.2.1++(a2.1,y5)::[],()) else none else some a2.2).bind fun y6=>some (.inl (IntKind.wrap .i64 (a2.1+1),y6)) else some (.inr a2.2)
def ahM (a0 a1:@List ah.Wa):Option ((@List ah.Wa×Int×Unit)×Unit):=(ah.W9 a0).bind fun y2=>bif !decide (y2.1=0) then some (([],y2),()) else (ah.Rs a1 true).bind fun y3=>bif !decide (y3.1=0) then some (([],y3),()) else (Loop (@LK a0 a1) (1,[],())).bind fun y4=>bif decide (Int.ofNat y4.1.length > 32) then some (([],3,()),()) else some ((y4.1,0,()),())
def Xb (b0:(List Wa)) (b1:(List Wa)):Option (((List Wa)×Int×Unit)×Unit):=ahM b0 b1
def LM (a0:@List ah.It) (a1:Int) (a2:@List ah.It×Int×Unit):Option (Sum (@List ah.It×Int×Unit) (@List ah.It×Unit)):=let q1:=List.getD a0 (Int.toNat a2.2.1) (0,0,(0,[],()),());bif decide (a2.2.1<Int.ofNat a0.length) then bif decide (0≤a2.2.1)&&decide (a2.2.1<Int.ofNat a0.length) then (bif !decide (q1.2.1=a1) then bif @Nat.ble ((a2.1.length+1)*48) 140737488355328 then some (a2.1++q1::[],()) else none else some (a2.1,())).bind fun y3=>some (.inl (y3.1,IntKind.wrap .i64 (a2.2.1+1),())) else none else some (.inr (a2.1,()))
def ahN (a0:@List ah.It) (a1 a2 a3:Int) (a4:List Int):Option (@List ah.It×Unit):=(Loop (@LM a0 a2) ([],0,())).bind fun y5=>bif @Nat.ble ((y5.1.length+1)*48) 140737488355328 then some (y5.1++(a1,a2,(a3,a4,()),())::[],()) else none
def Ry (b0:(List It)) (b1:ItF):Option ((List It)×Unit):=ahN b0 b1.1 b1.2.1 b1.2.2.1 b1.2.2.2.1
def Rz (a0:@List ah.Wa) (a1:ah.Sk×Int×Unit):Option (Sum (ah.Sk×Int×Unit) (ah.Sk×Unit)):=let q1:=List.getD a0 (Int.toNat a1.2.1) (0,(0,[],()),());let q2:=IntKind.wrap .i64 (a1.1.2.2.1+1);let q3:=IntKind.wrap .i64 (a1.2.1+1);bif decide (a1.2.1<Int.ofNat a0.length) then bif decide (0≤a1.2.1)&&decide (a1.2.1<Int.ofNat a0.length) then (ah.Rv a1.1.2.2.2.1 q1.1).bind fun y2=>bif ah.pR y2.1 q1.2.1 then some (.inl (a1.1,q3,())) else (ah.Ry a1.1.2.2.2.1 (q2,q1.1,q1.2.1)).bind fun y3=>some (.inl ((a1.1.1,a1.1.2.1,q2,y3.1,a1.1.2.2.2.2),q3,())) else none else some (.inr (a1.1,()))
def r80 (a0 a1 a2:Int) (a3:@List ah.It) (a4:@List ah.Pe) (a5:@List ah.Wa):Option ((ah.Sk×Int×Unit)×Unit):=(ah.xH (a0,a1,a2,a3,a4,())).bind fun y6=>bif !decide (y6.1=0) then some (((0,0,0,[],[],()),y6),()) else (ah.Xb [] a5).bind fun y7=>bif !decide (y7.1.2.1=0) then some (((0,0,0,[],[],()),y7.1.2),()) else bif @Nat.ble ((0+a4.length)*24) 140737488355328 then bif @Nat.ble ((0+a3.length)*48) 140737488355328 then (Loop (@Rz a5) ((a0,a1,a2,[]++a3,[]++a4,()),0,())).bind fun y8=>bif decide (y8.1.2.2.1 > 1000000) then some (((0,0,0,[],[],()),3,()),()) else some ((y8.1,0,()),()) else none else none
def x80 (b0:Sk) (b1:(List Wa)):Option ((Sk×Int×Unit)×Unit):=r80 b0.1 b0.2.1 b0.2.2.1 b0.2.2.2.1 b0.2.2.2.2.1 b1
def r34 (a0:@List ah.Sk) (a1:@List ah.Li) (a2:@List ah.oC) (a3:Int) (a4:@List ah.Wa):Option ((ah.Ov×Int×Unit)×Unit):=(ah.Rp (a0,a1,a2,())).bind fun y5=>bif !decide (y5.1=0) then some ((([],[],[],()),y5),()) else (ah.ZO (a0,a1,a2,()) a3).bind fun y6=>let q1:=List.getD a0 (Int.toNat y6.1) (0,0,0,[],[],());bif decide (y6.1<0) then some ((([],[],[],()),4,()),()) else (ah.W9 a4).bind fun y7=>bif !decide (y7.1=0) then some ((([],[],[],()),y7),()) else bif decide (0≤y6.1)&&decide (y6.1<Int.ofNat a0.length) then (ah.x79 q1.2.2.2.1).bind fun y8=>(ah.x78 y8.1 a4).bind fun y9=>bif !decide (y9.1.2.1=0) then some ((([],[],[],()),y9.1.2),()) else bif decide (0≤y6.1)&&decide (y6.1<Int.ofNat a0.length) then (ah.x80 q1 y9.1.1).bind fun mq=>bif !decide (mq.1.2.1=0) then some ((([],[],[],()),mq.1.2),()) else (ah.x81 (a0,a1,a2,())).bind fun jP=>bif decide (0≤y6.1)&&decide (y6.1<Int.ofNat jP.1.1.length) then bif @Nat.blt (Int.toNat y6.1) jP.1.1.length then some (((List.set jP.1.1 (Int.toNat y6.1) mq.1.1,jP.1.2),0,()),()) else none else none else none else none
def x34 (b0:Ov) (b1:Int) (b2:(List Wa)):Option ((Ov×Int×Unit)×Unit):=r34 b0.1 b0.2.1 b0.2.2.1 b1 b2
def LP (a0:@List ah.Wa) (a1:Int×ah.Sk×Unit):Option (Sum (Int×ah.Sk×Unit) (ah.Sk×Unit)):=let q1:=IntKind.wrap .i64 (a1.1+1);bif decide (a1.1<Int.ofNat a0.length) then bif decide (0≤a1.1)&&decide (a1.1<Int.ofNat a0.length) then bif @Nat.ble ((a1.2.1.2.2.2.1.length+1)*48) 140737488355328 then some (.inl (q1,(a1.2.1.1,a1.2.1.2.1,a1.2.1.2.2.1,a1.2.1.2.2.2.1++(q1,List.getD a0 (Int.toNat a1.1) (0,(0,[],()),()))::[],a1.2.1.2.2.2.2),())) else none else none else some (.inr a1.2)
def LQ (a0:@List ah.Pe) (a1:Int×ah.Sk×Unit):Option (Sum (Int×ah.Sk×Unit) (ah.Sk×Unit)):=bif decide (a1.1<Int.ofNat a0.length) then bif decide (0≤a1.1)&&decide (a1.1<Int.ofNat a0.length) then bif @Nat.ble ((a1.2.1.2.2.2.2.1.length+1)*24) 140737488355328 then some (.inl (IntKind.wrap .i64 (a1.1+1),(a1.2.1.1,a1.2.1.2.1,a1.2.1.2.2.1,a1.2.1.2.2.2.1,a1.2.1.2.2.2.2.1++((List.getD a0 (Int.toNat a1.1) (0,0,0,())).1,0,0,())::[],()),())) else none else none else some (.inr a1.2)
def ahO (a0 a1 a2:Int) (a3:@List ah.It) (a4:@List ah.Pe) (a5:@List ah.Wa):Option ((ah.Sk×Int×Unit)×Unit):=(ah.xH (a0,a1,a2,a3,a4,())).bind fun y6=>bif !decide (y6.1=0) then some (((0,0,0,[],[],()),y6),()) else (ah.W9 a5).bind fun y7=>bif !decide (y7.1=0) then some (((0,0,0,[],[],()),y7),()) else bif decide (a1≥1000000) then some (((0,0,0,[],[],()),3,()),()) else (Loop (@LP a5) (0,(a0,IntKind.wrap .i64 (a1+1),Int.ofNat a5.length,[],[],()),())).bind fun y8=>(Loop (@LQ a4) (0,y8)).bind fun y9=>some ((y9.1,0,()),())
def Xc (b0:Sk) (b1:(List Wa)):Option ((Sk×Int×Unit)×Unit):=ahO b0.1 b0.2.1 b0.2.2.1 b0.2.2.2.1 b0.2.2.2.2.1 b1
def r71 (a0:@List ah.Sk) (a1:@List ah.Li) (a2:@List ah.oC) (a3:Int) (a4:@List ah.Wa):Option ((ah.Ov×Int×Unit)×Unit):=(ah.Rp (a0,a1,a2,())).bind fun y5=>bif !decide (y5.1=0) then some ((([],[],[],()),y5),()) else (ah.ZO (a0,a1,a2,()) a3).bind fun y6=>let q1:=List.getD a1 (Int.toNat y6.1) (0,0,[],());bif decide (y6.1<0) then some ((([],[],[],()),4,()),()) else bif decide (0≤y6.1)&&decide (y6.1<Int.ofNat a0.length) then (ah.Xc (List.getD a0 (Int.toNat y6.1) (0,0,0,[],[],())) a4).bind fun y7=>bif !decide (y7.1.2.1=0) then some ((([],[],[],()),y7.1.2),()) else bif decide (0≤y6.1)&&decide (y6.1<Int.ofNat a1.length) then bif decide (q1.2.1≥1000000) then some ((([],[],[],()),3,()),()) else (ah.x81 (a0,a1,a2,())).bind fun y8=>bif decide (0≤y6.1)&&decide (y6.1<Int.ofNat y8.1.1.length) then bif @Nat.blt (Int.toNat y6.1) y8.1.1.length then bif decide (0≤y6.1)&&decide (y6.1<Int.ofNat a1.length) then bif decide (0≤y6.1)&&decide (y6.1<Int.ofNat y8.1.2.1.length) then bif @Nat.blt (Int.toNat y6.1) y8.1.2.1.length then some (((List.set y8.1.1 (Int.toNat y6.1) y7.1.1,List.set y8.1.2.1 (Int.toNat y6.1) (a3,IntKind.wrap .i64 (q1.2.1+1),[],()),y8.1.2.2),0,()),()) else none else none else none else none else none else none else none
def x71 (b0:Ov) (b1:Int) (b2:(List Wa)):Option ((Ov×Int×Unit)×Unit):=r71 b0.1 b0.2.1 b0.2.2.1 b1 b2
def RA (a0:@List ah.Ed) (a1:@List ah.oC×@List ah.oC×Int×Unit):Option (Sum (@List ah.oC×@List ah.oC×Int×Unit) (@List ah.oC×@List ah.oC×Unit)):=let q1:=List.getD a0 (Int.toNat a1.2.2.1) (0,0,());let q2:=IntKind.wrap .i64 (q1.2.1+1);let q3:=IntKind.wrap .i64 (a1.2.2.1+1);bif decide (a1.2.2.1<Int.ofNat a0.length) then bif decide (0≤a1.2.2.1)&&decide (a1.2.2.1<Int.ofNat a0.length) then (bif !decide (q1.2.1<0) then some (a1.1,decide (q1.2.1≥Int.ofNat a1.1.length),()) else some (a1.1,true,())).bind fun y2=>let q4:=List.take (@Nat.sub (Int.toNat (Int.ofNat y2.1.length)) (Int.toNat q2)) (List.drop (Int.toNat q2) y2.1);let q5:=List.getD y2.1 (Int.toNat q1.2.1) (0,0,0,0,0,0,0,0,(0,[],()),());let q6:=List.take (Int.toNat q1.2.1) y2.1;let q7:=List.set y2.1 (Int.toNat q1.2.1) (List.getD y2.1 (Int.toNat q2) (0,0,0,0,0,0,0,0,(0,[],()),()));bif y2.2.1 then some (.inl (y2.1,a1.2.1,q3,())) else bif decide (0≤q1.2.1)&&decide (q1.2.1<Int.ofNat y2.1.length) then bif @Nat.blt (Int.toNat q1.2.1) y2.1.length then bif decide (0≤q2)&&decide (q2≤Int.ofNat y2.1.length)&&decide (Int.ofNat y2.1.length≤Int.ofNat y2.1.length) then bif @Nat.ble ((0+q4.length)*96) 140737488355328 then (bif decide (q1.1=1) then bif decide (0≤q1.2.1)&&decide (q1.2.1≤Int.ofNat y2.1.length)&&decide (q1.2.1=q1.2.1) then bif @Nat.ble ((q6.length+([]++q4).length)*96) 140737488355328 then some (a1.2.1,q6++([]++q4),()) else none else none else (bif decide (q1.1=2) then bif decide (0≤q1.2.1)&&decide (q1.2.1≤Int.ofNat y2.1.length)&&decide (q1.2.1=q1.2.1) then bif @Nat.ble ((q6.length+(q5::q5::[]).length)*96) 140737488355328 then bif @Nat.ble (((q6++q5::q5::[]).length+([]++q4).length)*96) 140737488355328 then some (q6++q5::q5::[]++([]++q4),a1.2.1,()) else none else none else none else (bif decide (q1.1=3) then bif decide (0≤q1.2.1)&&decide (q1.2.1≤Int.ofNat y2.1.length)&&decide (q1.2.1=q1.2.1) then bif @Nat.ble ((q6.length+([]++q4).length)*96) 140737488355328 then bif @Nat.ble ((a1.2.1.length+1)*96) 140737488355328 then some (a1.2.1++q5::[],q6++([]++q4),()) else none else none else none else (bif decide (q1.1=4) then (bif decide (q2<Int.ofNat y2.1.length) then bif decide (0≤q2)&&decide (q2<Int.ofNat y2.1.length) then bif @Nat.blt (Int.toNat q2) y2.1.length then bif decide (0≤q1.2.1)&&decide (q1.2.1<Int.ofNat y2.1.length) then bif @Nat.blt (Int.toNat q1.2.1) y2.1.length then bif decide (0≤q2)&&decide (q2<Int.ofNat q7.length) then bif @Nat.blt (Int.toNat q2) q7.length then some (List.set q7 (Int.toNat q2) q5,()) else none else none else none else none else none else none else some (y2.1,())).bind fun y3=>some y3 else some (y2.1,())).bind fun y3=>some (a1.2.1,y3)).bind fun y3=>some (y3.2.1,y3.1,())).bind fun y3=>some (y3.2.1,y3.1,())).bind fun y3=>some (.inl (y3.2.1,y3.1,q3,())) else none else none else none else none else none else some (.inr (a1.1,a1.2.1,()))
def r82 (a0:@List ah.oC) (a1:@List ah.Ed):Option ((@List ah.oC×@List ah.oC×Unit)×Unit):=bif @Nat.ble ((0+a0.length)*96) 140737488355328 then (Loop (@RA a1) ([]++a0,[],0,())).bind fun y2=>some (y2,()) else none
def x82 (b0:(List oC)) (b1:(List Fa)):Option (((List oC)×(List oC)×Unit)×Unit):=r82 b0 b1
def EG (a0:@List ah.Pe) (a1:Int) (a2:Int×Unit):Option (Sum (Int×Unit) (Bool×(Int×Unit)×Unit)):=bif decide (a2.1<Int.ofNat a0.length) then bif decide (0≤a2.1)&&decide (a2.1<Int.ofNat a0.length) then bif decide ((List.getD a0 (Int.toNat a2.1) (0,0,0,())).1=a1) then some (.inr (true,a2,())) else some (.inl (IntKind.wrap .i64 (a2.1+1),())) else none else some (.inr (false,(0,()),()))
def ahP (a0 a1 a2:Int) (a3:@List ah.It) (a4:@List ah.Pe) (a5:Int):Option (Int×Unit):=(Loop (@EG a4 a5) (0,())).bind fun y6=>bif y6.1 then some y6.2.1 else some (((-1):Int),())
def RB (b0:Sk) (b1:Int):Option ((Int)×Unit):=ahP b0.1 b0.2.1 b0.2.2.1 b0.2.2.2.1 b0.2.2.2.2.1 b1
def r83 (a0 a1 a2:Int) (a3:@List ah.It) (a4:@List ah.Pe) (a5 a6 a7 a8 a9 bJ bS a12 dD:Int) (iR:List Int):Option ((ah.Sk×Int×Unit)×Unit):=(ah.xH (a0,a1,a2,a3,a4,())).bind fun FN=>bif !decide (FN.1=0) then some (((0,0,0,[],[],()),FN),()) else bif !decide (ah.validate (a5,a6,a7,a8,a9,bJ,bS,a12,dD,iR,())=0) then some (((0,0,0,[],[],()),ah.validate (a5,a6,a7,a8,a9,bJ,bS,a12,dD,iR,()),()),()) else (bif !!decide (a5=3) then some (!decide (a7=a0),()) else some (true,())).bind fun J2=>bif J2.1 then some (((0,0,0,[],[],()),1,()),()) else (ah.RB (a0,a1,a2,a3,a4,()) a6).bind fun lC=>let q1:=List.getD ([]++a4) (Int.toNat lC.1) (0,0,0,());let q2:=List.set ([]++a4) (Int.toNat lC.1) (q1.1,bS,q1.2.2);let q3:=List.getD q2 (Int.toNat lC.1) (0,0,0,());bif decide (lC.1<0) then some (((0,0,0,[],[],()),4,()),()) else (bif decide (a8=a1) then some (decide (a9≤a2),()) else some (false,())).bind fun Us=>bif Us.1 then bif @Nat.ble ((0+a4.length)*24) 140737488355328 then bif decide (0≤lC.1)&&decide (lC.1<Int.ofNat ([]++a4).length) then bif @Nat.blt (Int.toNat lC.1) ([]++a4).length then bif decide (bS > q1.2.1) then bif @Nat.blt (Int.toNat lC.1) ([]++a4).length then bif @Nat.blt (Int.toNat lC.1) q2.length then some (((a0,a1,a2,a3,List.set q2 (Int.toNat lC.1) (q3.1,q3.2.1,a9,()),()),0,()),()) else none else none else bif @Nat.blt (Int.toNat lC.1) ([]++a4).length then bif decide (bS=q1.2.1) then bif @Nat.blt (Int.toNat lC.1) ([]++a4).length then bif @Nat.blt (Int.toNat lC.1) ([]++a4).length then some (((a0,a1,a2,a3,List.set ([]++a4) (Int.toNat lC.1) (q1.1,q1.2.1,bif decide (q1.2.2.1<a9) then a9 else q1.2.2.1,()),()),0,()),()) else none else none else some (((a0,a1,a2,a3,[]++a4,()),0,()),()) else none else none else none else none else bif @Nat.ble ((0+a4.length)*24) 140737488355328 then bif decide (0≤lC.1)&&decide (lC.1<Int.ofNat ([]++a4).length) then bif @Nat.blt (Int.toNat lC.1) ([]++a4).length then bif decide (bS > q1.2.1) then bif @Nat.blt (Int.toNat lC.1) ([]++a4).length then bif @Nat.blt (Int.toNat lC.1) q2.length then some (((a0,a1,a2,a3,List.set q2 (Int.toNat lC.1) (q3.1,q3.2.1,0,()),()),0,()),()) else none else none else bif @Nat.blt (Int.toNat lC.1) ([]++a4).length then bif decide (bS=q1.2.1) then bif @Nat.blt (Int.toNat lC.1) ([]++a4).length then bif @Nat.blt (Int.toNat lC.1) ([]++a4).length then some (((a0,a1,a2,a3,List.set ([]++a4) (Int.toNat lC.1) (q1.1,q1.2.1,bif decide (q1.2.2.1<0) then 0 else q1.2.2.1,()),()),0,()),()) else none else none else some (((a0,a1,a2,a3,[]++a4,()),0,()),()) else none else none else none else none
def x83 (b0:Sk) (b1:Sg):Option ((Sk×Int×Unit)×Unit):=r83 b0.1 b0.2.1 b0.2.2.1 b0.2.2.2.1 b0.2.2.2.2.1 b1.1 b1.2.1 b1.2.2.1 b1.2.2.2.1 b1.2.2.2.2.1 b1.2.2.2.2.2.1 b1.2.2.2.2.2.2.1 b1.2.2.2.2.2.2.2.1 b1.2.2.2.2.2.2.2.2.1 b1.2.2.2.2.2.2.2.2.2.1
def RD (a0:@List ah.He) (a1:Int) (a2:ah.He×Int×Unit):Option (Sum (ah.He×Int×Unit) (ah.He×Unit)):=let q1:=List.getD a0 (Int.toNat a2.2.1) (0,0,0,[],());bif decide (a2.2.1<Int.ofNat a0.length) then bif decide (0≤a2.2.1)&&decide (a2.2.1<Int.ofNat a0.length) then (bif decide (q1.1=a1) then some (q1,()) else some (a2.1,())).bind fun y3=>some (.inl (y3.1,IntKind.wrap .i64 (a2.2.1+1),())) else none else some (.inr (a2.1,()))
def RG (a0:@List ah.He) (a1:Int) (a2:ah.He×Unit) (a3:Bool×ah.Li×Int×Unit):Option (Sum (Bool×ah.Li×Int×Unit) (Bool×ah.Li×Unit)):=let q1:=List.getD a0 (Int.toNat a3.2.2.1) (0,0,0,[],());bif decide (a3.2.2.1<Int.ofNat a0.length) then bif decide (0≤a3.2.2.1)&&decide (a3.2.2.1<Int.ofNat a0.length) then (bif !a3.1 then some (decide (q1.1≥a1),()) else some (false,())).bind fun y4=>(bif y4.1 then bif @Nat.ble ((a3.2.1.2.2.1.length+1)*48) 140737488355328 then some ((a3.2.1.1,a3.2.1.2.1,a3.2.1.2.2.1++a2.1::[],()),true,()) else none else some (a3.2.1,a3.1,())).bind fun y5=>(bif !decide (q1.1=a1) then bif @Nat.ble ((y5.1.2.2.1.length+1)*48) 140737488355328 then some ((y5.1.1,y5.1.2.1,y5.1.2.2.1++q1::[],()),()) else none else some (y5.1,())).bind fun y6=>some (.inl (y5.2.1,y6.1,IntKind.wrap .i64 (a3.2.2.1+1),())) else none else some (.inr (a3.1,a3.2.1,()))
def r84 (a0 a1:Int) (a2:@List ah.He) (a3 a4 a5 a6 a7 a8 a9 bJ bS:Int) (a12:List Int):Option ((ah.Li×ah.Pk×Int×Unit)×Unit):=(ah.Ck (a0,a1,a2,())).bind fun y13=>bif !decide (y13.1=0) then some (((0,0,[],()),(0,0,0,0,0,0,0,0,0,[],()),y13),()) else bif !decide (ah.validate (a3,a4,a5,a6,a7,a8,a9,bJ,bS,a12,())=0) then some (((0,0,[],()),(0,0,0,0,0,0,0,0,0,[],()),ah.validate (a3,a4,a5,a6,a7,a8,a9,bJ,bS,a12,()),()),()) else (bif !decide (a3=3) then some (!decide (a5=a0),()) else some (true,())).bind fun iV=>bif iV.1 then some (((0,0,[],()),(0,0,0,0,0,0,0,0,0,[],()),1,()),()) else (Loop (@RD a2 a4) ((a4,0,0,[],()),0,())).bind fun FN=>(bif decide (FN.1.2.1=0) then some (decide (Int.ofNat a2.length≥12),()) else some (false,())).bind fun J2=>bif J2.1 then some (((0,0,[],()),(0,0,0,0,0,0,0,0,0,[],()),3,()),()) else (bif decide (a6 > FN.1.2.1) then some ((a4,a6,0,[],()),()) else some FN).bind fun lC=>(bif decide (a3=2) then bif decide (a6=lC.1.2.1) then bif decide (a8≤lC.1.2.2.1) then some (decide (lC.1.2.2.1<a7),()) else some (false,()) else some (false,()) else some (false,())).bind fun Us=>(bif Us.1 then (ah.Ry lC.1.2.2.2.1 (a7,bJ,bS,a12,())).bind fun RH=>some ((lC.1.1,lC.1.2.1,a7,RH),()) else some lC).bind fun RH=>(Loop (@RG a2 a4 RH) (false,(a0,a1,[],()),0,())).bind fun y20=>(bif !y20.1 then bif @Nat.ble ((y20.2.1.2.2.1.length+1)*48) 140737488355328 then some ((y20.2.1.1,y20.2.1.2.1,y20.2.1.2.2.1++RH.1::[],()),()) else none else some y20.2).bind fun y21=>some ((y21.1,(3,a0,a4,RH.1.2.1,RH.1.2.2.1,0,a1,0,0,[],()),0,()),())
def x84 (b0:Li) (b1:Sg):Option ((Li×Sg×Int×Unit)×Unit):=r84 b0.1 b0.2.1 b0.2.2.1 b1.1 b1.2.1 b1.2.2.1 b1.2.2.2.1 b1.2.2.2.2.1 b1.2.2.2.2.2.1 b1.2.2.2.2.2.2.1 b1.2.2.2.2.2.2.2.1 b1.2.2.2.2.2.2.2.2.1 b1.2.2.2.2.2.2.2.2.2.1
def RI (a0 a1:Int) (a2:@List ah.It) (a3:@List ah.Pe) (a4:Int) (a5:Int×Unit) (a6:Int×Int×@List ah.oC×Unit):Option (Sum (Int×Int×@List ah.oC×Unit) (@List ah.oC×Unit)):=let q1:=List.getD a2 (Int.toNat a6.1) (0,0,(0,[],()),());bif decide (a6.1<Int.ofNat a2.length) then bif decide (0≤a6.1)&&decide (a6.1<Int.ofNat a2.length) then bif decide (0≤a5.1)&&decide (a5.1<Int.ofNat a3.length) then (bif decide (q1.1 > (List.getD a3 (Int.toNat a5.1) (0,0,0,())).2.2.1) then bif @Nat.ble ((a6.2.2.1.length+1)*96) 140737488355328 then some (a6.2.2.1++(2,a0,a4,a1,q1.1,a6.2.1,0,q1.2)::[],()) else none else some a6.2.2).bind fun y7=>some (.inl (IntKind.wrap .i64 (a6.1+1),q1.1,y7)) else none else none else some (.inr a6.2.2)
def r85 (a0 a1 a2:Int) (a3:@List ah.It) (a4:@List ah.Pe) (a5:Int):Option ((@List ah.oC×Int×Unit)×Unit):=(ah.xH (a0,a1,a2,a3,a4,())).bind fun y6=>bif !decide (y6.1=0) then some (([],y6),()) else (ah.RB (a0,a1,a2,a3,a4,()) a5).bind fun y7=>bif decide (y7.1<0) then some (([],4,()),()) else (Loop (@RI a0 a1 a3 a4 a5 y7) (0,0,(1,a0,a5,a1,a2,0,0,0,(0,[],()),())::[],())).bind fun y8=>some ((y8.1,0,()),())
def x85 (b0:Sk) (b1:Int):Option (((List oC)×Int×Unit)×Unit):=r85 b0.1 b0.2.1 b0.2.2.1 b0.2.2.2.1 b0.2.2.2.2.1 b1
def RJ (a0:@List ah.Sk) (a1:@List ah.Li) (a2:@List ah.oC) (a3:(@List ah.oC×@List ah.oC×Unit)×Unit) (a4:ah.Ov×Int×Unit):Option (Sum (ah.Ov×Int×Unit) (ah.Ov×Unit)):=let q1:=List.getD a3.1.1 (Int.toNat a4.2.1) (0,0,0,0,0,0,0,0,(0,[],()),());let q2:=IntKind.wrap .i64 (a4.2.1+1);bif decide (a4.2.1<Int.ofNat a3.1.1.length) then bif decide (0≤a4.2.1)&&decide (a4.2.1<Int.ofNat a3.1.1.length) then (ah.ZO (a0,a1,a2,()) q1.2.2.1).bind fun y5=>bif decide (q1.1=3) then bif decide (0≤y5.1)&&decide (y5.1<Int.ofNat a4.1.1.length) then bif @Nat.blt (Int.toNat y5.1) a4.1.1.length then (ah.x83 (List.getD a4.1.1 (Int.toNat y5.1) (0,0,0,[],[],())) (q1.1,q1.2.1,q1.2.2.1,q1.2.2.2.1,q1.2.2.2.2.1,q1.2.2.2.2.2.1,q1.2.2.2.2.2.2.1,q1.2.2.2.2.2.2.2.1,q1.2.2.2.2.2.2.2.2.1)).bind fun y6=>(bif decide (y6.1.2.1=0) then bif decide (0≤y5.1)&&decide (y5.1<Int.ofNat a4.1.1.length) then bif @Nat.blt (Int.toNat y5.1) a4.1.1.length then some ((List.set a4.1.1 (Int.toNat y5.1) y6.1.1,a4.1.2),()) else none else none else some (a4.1,())).bind fun y7=>some (.inl (y7.1,q2,())) else none else none else bif decide (0≤y5.1)&&decide (y5.1<Int.ofNat a4.1.2.1.length) then bif @Nat.blt (Int.toNat y5.1) a4.1.2.1.length then (ah.x84 (List.getD a4.1.2.1 (Int.toNat y5.1) (0,0,[],())) (q1.1,q1.2.1,q1.2.2.1,q1.2.2.2.1,q1.2.2.2.2.1,q1.2.2.2.2.2.1,q1.2.2.2.2.2.2.1,q1.2.2.2.2.2.2.2.1,q1.2.2.2.2.2.2.2.2.1)).bind fun y6=>(bif decide (y6.1.2.2.1=0) then bif decide (0≤y5.1)&&decide (y5.1<Int.ofNat a4.1.2.1.length) then bif @Nat.blt (Int.toNat y5.1) a4.1.2.1.length then bif @Nat.ble ((a4.1.2.2.1.length+1)*96) 140737488355328 then some ((a4.1.1,List.set a4.1.2.1 (Int.toNat y5.1) y6.1.1,a4.1.2.2.1++(y6.1.2.1.1,y6.1.2.1.2.1,y6.1.2.1.2.2.1,y6.1.2.1.2.2.2.1,y6.1.2.1.2.2.2.2.1,y6.1.2.1.2.2.2.2.2.1,y6.1.2.1.2.2.2.2.2.2.1,y6.1.2.1.2.2.2.2.2.2.2.1,y6.1.2.1.2.2.2.2.2.2.2.2,())::[],()),()) else none else none else none else some (a4.1,())).bind fun y7=>some (.inl (y7.1,q2,())) else none else none else none else some (.inr (a4.1,()))
def RL (a0:ah.Ov×Unit) (a1:ah.Ov×Int×Unit) (a2:Int×ah.Ov×Unit):Option (Sum (Int×ah.Ov×Unit) (ah.Ov×Unit)):=let q1:=List.getD a0.1.1 (Int.toNat a1.2.1) (0,0,0,[],[],());bif decide (a2.1<Int.ofNat q1.2.2.2.2.1.length) then bif decide (0≤a2.1)&&decide (a2.1<Int.ofNat q1.2.2.2.2.1.length) then (ah.x85 q1 (List.getD q1.2.2.2.2.1 (Int.toNat a2.1) (0,0,0,())).1).bind fun y3=>bif @Nat.ble ((a2.2.1.2.2.1.length+y3.1.1.length)*96) 140737488355328 then some (.inl (IntKind.wrap .i64 (a2.1+1),(a2.2.1.1,a2.2.1.2.1,a2.2.1.2.2.1++y3.1.1,()),())) else none else none else some (.inr a2.2)
def RN (a0:ah.Ov×Unit) (a1:ah.Ov×Int×Unit):Option (Sum (ah.Ov×Int×Unit) (ah.Ov×Unit)):=bif decide (a1.2.1<Int.ofNat a0.1.1.length) then bif decide (0≤a1.2.1)&&decide (a1.2.1<Int.ofNat a0.1.1.length) then (Loop (@RL a0 a1) (0,a1.1,())).bind fun y2=>some (.inl (y2.1,IntKind.wrap .i64 (a1.2.1+1),())) else none else some (.inr (a1.1,()))
def r35 (a0:@List ah.Sk) (a1:@List ah.Li) (a2:@List ah.oC) (a3:@List ah.Ed):Option ((ah.Ov×Int×Unit)×Unit):=(ah.Rp (a0,a1,a2,())).bind fun y4=>bif !decide (y4.1=0) then some ((([],[],[],()),y4),()) else (ah.x81 (a0,a1,a2,())).bind fun y5=>(ah.x82 a2 a3).bind fun y6=>(Loop (@RJ a0 a1 a2 y6) ((y5.1.1,y5.1.2.1,y6.1.2),0,())).bind fun y7=>(Loop (@RN y7) (y7.1,0,())).bind fun y8=>some ((y8.1,0,()),())
def x35 (b0:Ov) (b1:(List Fa)):Option ((Ov×Int×Unit)×Unit):=r35 b0.1 b0.2.1 b0.2.2.1 b1
def RO (a0:Int) (a1:ah.Tp×@List ah.Ed×Int×Unit):Option (Sum (ah.Tp×@List ah.Ed×Int×Unit) (ah.Tp×@List ah.Ed×Unit)):=bif decide (a1.2.2.1 > 0) then (ah.on (ah.wf a1.1&&ah.small 0&&ah.small 5) (ah.range a1.1 0 5)).bind fun y2=>(ah.on (ah.wf y2.2) (ah.next y2.2 (IntKind.wrap .i64 (a0+2)))).bind fun y3=>bif @Nat.ble ((a1.2.1.length+1)*16) 140737488355328 then some (.inl (y3.2,a1.2.1++(y2.1,y3.1,())::[],IntKind.wrap .i64 (a1.2.2.1 - 1),())) else none else some (.inr (a1.1,a1.2.1,()))
def r36 (a0:List Int) (a1 a2:Int):Option (@List ah.Ed×ah.Tp):=(ah.on (ah.wf (a0,a1,())) (ah.next (a0,a1,()) 4)).bind fun y3=>(Loop (@RO a2) (y3.2,[],y3.1,())).bind fun y4=>some (y4.2.1,y4.1)
def x36 (t:Tp) (b0:Int):Option ((List Fa)×Tp):=r36 t.1 t.2.1 b0
def RP (a0:Int×ah.Tp×@List ah.Ed×Unit):Option (Sum (Int×ah.Tp×@List ah.Ed×Unit) (ah.Tp×@List ah.Ed×Unit)):=bif decide (a0.1≥0) then (ah.on (ah.wf a0.2.1) (ah.next a0.2.1 3)).bind fun y1=>(bif decide (y1.1 > 0) then (ah.on (ah.wf y1.2&&decide (0<5)&&decide (5≤1000)) (ah.pick y1.2 (1::1::2::3::4::[]))).bind fun y2=>bif @Nat.ble ((a0.2.2.1.length+1)*16) 140737488355328 then some (y2.2,a0.2.2.1++(y2.1,a0.1,())::[],()) else none else some (y1.2,a0.2.2)).bind fun y2=>some (.inl (IntKind.wrap .i64 (a0.1 - 1),y2)) else some (.inr a0.2)
def r72 (a0:List Int) (a1 a2:Int):Option (@List ah.Ed×ah.Tp):=(Loop RP (IntKind.wrap .i64 (a2 - 1),(a0,a1,()),[],())).bind fun y3=>some (y3.2.1,y3.1)
def x72 (t:Tp) (b0:Int):Option ((List Fa)×Tp):=r72 t.1 t.2.1 b0
def r32 (a0:List Int) (a1:Int) (a2:@List ah.Sk) (a3:@List ah.Li) (a4:@List ah.oC):Option (ah.Ov×ah.Tp):=(ah.on (ah.wf (a0,a1,())) (ah.next (a0,a1,()) (Int.ofNat a2.length))).bind fun y5=>let q1:=List.getD a2 (Int.toNat y5.1) (0,0,0,[],[],());bif decide (0≤y5.1)&&decide (y5.1<Int.ofNat a2.length) then (ah.on (ah.wf y5.2) (ah.next y5.2 6)).bind fun y6=>(bif decide (y6.1=0) then some (decide (y6.1=0),()) else some (decide (y6.1=1),())).bind fun y7=>(bif y7.1 then (ah.x70 y6.2).bind fun y8=>(ah.x34 (a2,a3,a4,()) q1.1 y8.1).bind fun y9=>some (y8.2,y9.1) else (bif decide (y6.1=2) then (ah.x70 y6.2).bind fun y8=>(ah.x71 (a2,a3,a4,()) q1.1 y8.1).bind fun y9=>some (y9.1.2.1,y9.1.1,y8.2,()) else (bif decide (y6.1=3) then (ah.x72 y6.2 (bif decide (40<Int.ofNat a4.length) then 40 else Int.ofNat a4.length)).bind fun y8=>(ah.x35 (a2,a3,a4,()) y8.1).bind fun y9=>some (y8.2,y9.1) else (ah.x36 y6.2 (Int.ofNat a4.length)).bind fun y8=>(ah.x35 (a2,a3,a4,()) y8.1).bind fun y9=>some (y8.2,y9.1)).bind fun y8=>some (y8.2.2.1,y8.2.1,y8.1,())).bind fun y8=>some (y8.2.2.1,y8.2.1,y8.1,())).bind fun y8=>bif !decide (y8.2.2.1=0) then some ((a2,a3,a4,()),y8.1) else some (y8.2.1,y8.1) else none
def x32 (t:Tp) (b0:Ov):Option ((Ov)×Tp):=r32 t.1 t.2.1 b0.1 b0.2.1 b0.2.2.1
def LU (a0 a1 a2 a3 a4 a5 a6 a7 a8 a9 bJ bS a12 dD iR jg a16 a17 yN H6 a20 a21 a22 a23 a24 a25 a26 a27 a28 a29 a30 a31 a32 a33 a34 a35 a36 a37 a38 a39 a40 a41 a42 a43 a44 a45 a46 a47 a48 a49 a50 a51 a52 a53 a54 a55 a56 a57 a58 a59 a60 a61 a62 a63 a64 a65 a66 a67 a68 a69 a70 a71 a72 a73 a74 a75 a76 a77 a78 a79 a80 ZP a82 a83 a84 a85 a86 a87 ZQ a89 ZR a91 ZT a93 ZU ZV ZW ZX ZY Z0 Oe:Bool) (yO:ah.Wa):Option (Sum ah.Wa (ah.Fl×Unit)):=let q1:=a0::a1::a2::a3::a4::a5::a6::a7::a8::a9::bJ::bS::a12::dD::iR::jg::a16::a17::yN::H6::a20::a21::a22::a23::a24::a25::a26::a27::a28::a29::a30::a31::a32::a33::a34::a35::a36::a37::a38::a39::a40::a41::a42::a43::a44::a45::a46::a47::a48::a49::a50::a51::a52::a53::a54::a55::a56::a57::a58::a59::a60::a61::a62::a63::a64::a65::a66::a67::a68::a69::a70::a71::a72::a73::a74::a75::a76::a77::a78::a79::a80::ZP::a82::a83::a84::a85::a86::a87::ZQ::a89::ZR::a91::ZT::a93::ZU::ZV::ZW::ZX::ZY::Z0::[];bif decide (yO.1≤99) then bif decide (0≤yO.1)&&decide (yO.1<100) then bif @Nat.blt (Int.toNat yO.1*1) q1.length then (bif !decide (List.getD q1 (Int.toNat yO.1*1) false=Oe) then bif @Nat.ble ((yO.2.1.2.1.length+1)*8) 140737488355328 then some ((yO.2.1.1,yO.2.1.2.1++yO.1::[],()),()) else none else some yO.2).bind fun y102=>some (.inl (IntKind.wrap .i64 (yO.1+1),y102)) else none else none else some (.inr yO.2)
def acI (a0 a1 a2 a3 a4 a5 a6 a7 a8 a9 bJ bS a12 dD iR jg a16 a17 yN H6 a20 a21 a22 a23 a24 a25 a26 a27 a28 a29 a30 a31 a32 a33 a34 a35 a36 a37 a38 a39 a40 a41 a42 a43 a44 a45 a46 a47 a48 a49 a50 a51 a52 a53 a54 a55 a56 a57 a58 a59 a60 a61 a62 a63 a64 a65 a66 a67 a68 a69 a70 a71 a72 a73 a74 a75 a76 a77 a78 a79 a80 ZP a82 a83 a84 a85 a86 a87 ZQ a89 ZR a91 ZT a93 ZU ZV ZW ZX ZY Z0 Oe:Bool):Option (ah.Fl×Unit):=(bif Oe then some ((2,[],()),()) else some ((1,[],()),())).bind fun y101=>(Loop (@LU a0 a1 a2 a3 a4 a5 a6 a7 a8 a9 bJ bS a12 dD iR jg a16 a17 yN H6 a20 a21 a22 a23 a24 a25 a26 a27 a28 a29 a30 a31 a32 a33 a34 a35 a36 a37 a38 a39 a40 a41 a42 a43 a44 a45 a46 a47 a48 a49 a50 a51 a52 a53 a54 a55 a56 a57 a58 a59 a60 a61 a62 a63 a64 a65 a66 a67 a68 a69 a70 a71 a72 a73 a74 a75 a76 a77 a78 a79 a80 ZP a82 a83 a84 a85 a86 a87 ZQ a89 ZR a91 ZT a93 ZU ZV ZW ZX ZY Z0 Oe) (1,y101)).bind fun y102=>some y102
def acJ (b0:Bar) (b1:Bool):Option ((Fl)×Unit):=match b0 with | (a0,a1,a2,a3,a4,a5,a6,a7,a8,a9,bJ,bS,a12,dD,iR,jg,a16,a17,yN,H6,a20,a21,a22,a23,a24,a25,a26,a27,a28,a29,a30,a31,a32,a33,a34,a35,a36,a37,a38,a39,a40,a41,a42,a43,a44,a45,a46,a47,a48,a49,a50,a51,a52,a53,a54,a55,a56,a57,a58,a59,a60,a61,a62,a63,a64,a65,a66,a67,a68,a69,a70,a71,a72,a73,a74,a75,a76,a77,a78,a79,a80,ZP,a82,a83,a84,a85,a86,a87,ZQ,a89,ZR,a91,ZT,a93,ZU,ZV,ZW,ZX,ZY,Z0,())=>acI a0 a1 a2 a3 a4 a5 a6 a7 a8 a9 bJ bS a12 dD iR jg a16 a17 yN H6 a20 a21 a22 a23 a24 a25 a26 a27 a28 a29 a30 a31 a32 a33 a34 a35 a36 a37 a38 a39 a40 a41 a42 a43 a44 a45 a46 a47 a48 a49 a50 a51 a52 a53 a54 a55 a56 a57 a58 a59 a60 a61 a62 a63 a64 a65 a66 a67 a68 a69 a70 a71 a72 a73 a74 a75 a76 a77 a78 a79 a80 ZP a82 a83 a84 a85 a86 a87 ZQ a89 ZR a91 ZT a93 ZU ZV ZW ZX ZY Z0 b1
def LV (a0:Int) (a1:List Int) (a2:Int) (a3:List Int) (a4:Bool) (a5:Int×@List Bool×Bool×Unit):Option (Sum (Int×@List Bool×Bool×Unit) (@List Bool×Bool×Unit)):=bif decide (a5.1≤100) then (bif ah.iJ (a0,a1,()) a5.1 then bif !ah.iJ (a2,a3,()) a5.1 then bif !a4 then bif !ah.iJ (a0,a1,()) a5.1 then some (ah.iJ (a2,a3,()) a5.1,()) else some (true,()) else some (false,()) else some (true,()) else bif !a4 then bif !ah.iJ (a0,a1,()) a5.1 then some (ah.iJ (a2,a3,()) a5.1,()) else some (true,()) else some (false,())).bind fun y6=>(bif decide (a5.1≤99) then bif decide (0≤a5.1)&&decide (a5.1<100) then bif @Nat.blt (Int.toNat a5.1*1) a5.2.1.length then some (List.set a5.2.1 (Int.toNat a5.1*1) y6.1,a5.2.2) else none else none else some (a5.2.1,y6)).bind fun y7=>some (.inl (IntKind.wrap .i64 (a5.1+1),y7)) else some (.inr a5.2)
def ahR (a0:Int) (a1:List Int) (a2:Int) (a3:List Int) (a4:Bool):Option ((ah.Fl×Int×Unit)×Unit):=bif !decide (ah.dU (a0,a1,())=0) then some (((0,[],()),ah.dU (a0,a1,()),()),()) else bif !decide (ah.dU (a2,a3,())=0) then some (((0,[],()),ah.dU (a2,a3,()),()),()) else (Loop (@LV a0 a1 a2 a3 a4) (1,false::false::false::false::false::false::false::false::false::false::false::false::false::false::false::false::false::false::false::false::false::false::false::false::false::false::false::false::false::false::false::false::false::false::false::false::false::false::false::false::false::false::false::false::false::false::false::false::false::false::false::false::false::false::false::false::false::false::false::false::false::false::false::false::false::false::false::false::false::false::false::false::false::false::false::false::false::false::false::false::false::false::false::false::false::false::false::false::false::false::false::false::false::false::false::false::false::false::false::false::[],false,())).bind fun y5=>bif @Nat.beq y5.1.length 100 then (ah.acJ (List.getD y5.1 0 false,List.getD y5.1 1 false,List.getD y5.1 2 false,List.getD y5.1 3 false,List.getD y5.1 4 false,List.getD y5.1 5 false,List.getD y5.1 6 false,List.getD y5.1 7 false,List.getD y5.1 8 false,List.getD y5.1 9 false,List.getD y5.1 10 false,List.getD y5.1 11 false,List.getD y5.1 12 false,List.getD y5.1 13 false,List.getD y5.1 14 false,List.getD y5.1 15 false,List.getD y5.1 16 false,List.getD y5.1 17 false,List.getD y5.1 18 false,List.getD y5.1 19 false,List.getD y5.1 20 false,List.getD y5.1 21 false,List.getD y5.1 22 false,List.getD y5.1 23 false,List.getD y5.1 24 false,List.getD y5.1 25 false,List.getD y5.1 26 false,List.getD y5.1 27 false,List.getD y5.1 28 false,List.getD y5.1 29 false,List.getD y5.1 30 false,List.getD y5.1 31 false,List.getD y5.1 32 false,List.getD y5.1 33 false,List.getD y5.1 34 false,List.getD y5.1 35 false,List.getD y5.1 36 false,List.getD y5.1 37 false,List.getD y5.1 38 false,List.getD y5.1 39 false,List.getD y5.1 40 false,List.getD y5.1 41 false,List.getD y5.1 42 false,List.getD y5.1 43 false,List.getD y5.1 44 false,List.getD y5.1 45 false,List.getD y5.1 46 false,List.getD y5.1 47 false,List.getD y5.1 48 false,List.getD y5.1 49 false,List.getD y5.1 50 false,List.getD y5.1 51 false,List.getD y5.1 52 false,List.getD y5.1 53 false,List.getD y5.1 54 false,List.getD y5.1 55 false,List.getD y5.1 56 false,List.getD y5.1 57 false,List.getD y5.1 58 false,List.getD y5.1 59 false,List.getD y5.1 60 false,List.getD y5.1 61 false,List.getD y5.1 62 false,List.getD y5.1 63 false,List.getD y5.1 64 false,List.getD y5.1 65 false,List.getD y5.1 66 false,List.getD y5.1 67 false,List.getD y5.1 68 false,List.getD y5.1 69 false,List.getD y5.1 70 false,List.getD y5.1 71 false,List.getD y5.1 72 false,List.getD y5.1 73 false,List.getD y5.1 74 false,List.getD y5.1 75 false,List.getD y5.1 76 false,List.getD y5.1 77 false,List.getD y5.1 78 false,List.getD y5.1 79 false,List.getD y5.1 80 false,List.getD y5.1 81 false,List.getD y5.1 82 false,List.getD y5.1 83 false,List.getD y5.1 84 false,List.getD y5.1 85 false,List.getD y5.1 86 false,List.getD y5.1 87 false,List.getD y5.1 88 false,List.getD y5.1 89 false,List.getD y5.1 90 false,List.getD y5.1 91 false,List.getD y5.1 92 false,List.getD y5.1 93 false,List.getD y5.1 94 false,List.getD y5.1 95 false,List.getD y5.1 96 false,List.getD y5.1 97 false,List.getD y5.1 98 false,List.getD y5.1 99 false,()) y5.2.1).bind fun y6=>some ((y6.1,0,()),()) else none
def Xd (b0:Fl) (b1:Fl) (b2:Bool):Option ((Fl×Int×Unit)×Unit):=ahR b0.1 b0.2.1 b1.1 b1.2.1 b2
def r75 (a0:Int) (a1:List Int) (a2:Int) (a3:List Int):Option ((ah.Fl×Int×Unit)×Unit):=(ah.Xd (a0,a1,()) (a2,a3,()) false).bind fun y4=>some y4
def x75 (b0:Fl) (b1:Fl):Option ((Fl×Int×Unit)×Unit):=r75 b0.1 b0.2.1 b1.1 b1.2.1
def RQ (a0:@List ah.Mb) (a1:ah.Tp):Option (Sum ah.Tp (List Int×Unit)):=bif decide (a1.2.1<Int.ofNat a0.length) then bif decide (0≤a1.2.1)&&decide (a1.2.1<Int.ofNat a0.length) then (ah.on (decide (a1.1.length≤1000000)) (ah.pW a1.1 (List.getD a0 (Int.toNat a1.2.1) (0,0,(0,[],()),0,())).2.1,())).bind fun y2=>some (.inl (y2.1,IntKind.wrap .i64 (a1.2.1+1),())) else none else some (.inr (a1.1,()))
def r73 (a0:Int) (a1:@List ah.Mb):Option (List Int×Unit):=(bif decide (ah.jw (a0,a1,())=0) then (Loop (@RQ a1) ([],0,())).bind fun y2=>some y2 else some ([],())).bind fun y2=>some y2
def x73 (b0:Ms):Option ((List Int)×Unit):=r73 b0.1 b0.2.1
def RU (a0:@List ah.Mb) (a1:List Int×Unit) (a2:Int×@List ah.Wa×Unit) (a3:ah.Fl×Int×Unit):Option (Sum (ah.Fl×Int×Unit) (ah.Fl×Unit)):=let q1:=List.getD a0 (Int.toNat a3.2.1) (0,0,(0,[],()),0,());bif decide (a3.2.1<Int.ofNat a0.length) then bif decide (0≤a3.2.1)&&decide (a3.2.1<Int.ofNat a0.length) then (bif decide (q1.2.1=List.getD a1.1 (Int.toNat a2.1) 0) then (ah.x75 a3.1 q1.2.2.1).bind fun y4=>some (y4.1.1,()) else some (a3.1,())).bind fun y4=>some (.inl (y4.1,IntKind.wrap .i64 (a3.2.1+1),())) else none else some (.inr (a3.1,()))
def RV (a0:@List ah.Mb) (a1:List Int×Unit) (a2:Int×@List ah.Wa×Unit):Option (Sum (Int×@List ah.Wa×Unit) (@List ah.Wa×Unit)):=bif decide (a2.1<Int.ofNat a1.1.length) then bif decide (0≤a2.1)&&decide (a2.1<Int.ofNat a1.1.length) then (Loop (@RU a0 a1 a2) ((1,[],()),0,())).bind fun y3=>bif @Nat.ble ((a2.2.1.length+1)*40) 140737488355328 then some (.inl (IntKind.wrap .i64 (a2.1+1),a2.2.1++(List.getD a1.1 (Int.toNat a2.1) 0,y3)::[],())) else none else none else some (.inr a2.2)
def r33 (a0:Int) (a1:@List ah.Mb):Option ((@List ah.Wa×Int×Unit)×Unit):=bif !decide (ah.jw (a0,a1,())=0) then some (([],ah.jw (a0,a1,()),()),()) else (ah.x73 (a0,a1,())).bind fun y2=>(Loop (@RV a1 y2) (0,[],())).bind fun y3=>bif decide (Int.ofNat y3.1.length > 32) then some (([],3,()),()) else some ((y3.1,0,()),())
def x33 (b0:Ms):Option (((List Wa)×Int×Unit)×Unit):=r33 b0.1 b0.2.1
def RX (a0:ah.Pn×ah.Tp) (a1:ah.Tp):Option (Sum ah.Tp (List Int×Unit)):=bif decide (a1.2.1<Int.ofNat a0.1.2.2.1.length) then bif decide (0≤a1.2.1)&&decide (a1.2.1<Int.ofNat a0.1.2.2.1.length) then (ah.on (decide (a1.1.length≤1000000)) (ah.pW a1.1 (List.getD a0.1.2.2.1 (Int.toNat a1.2.1) (0,0,())).1,())).bind fun y2=>some (.inl (y2.1,IntKind.wrap .i64 (a1.2.1+1),())) else none else some (.inr (a1.1,()))
def RY (a0:Int×ah.Tp) (a1:ah.Ms×ah.Tp) (a2:Int×ah.Sc×ah.Ms×Unit):Option (Sum (Int×ah.Sc×ah.Ms×Unit) (ah.Sc×ah.Ms×Unit)):=let q1:=List.set a2.2.2.1.2.1 (Int.toNat a2.1) ((List.getD a2.2.2.1.2.1 (Int.toNat a2.1) (0,0,(0,[],()),0,())).1,(List.getD a2.2.2.1.2.1 (Int.toNat a2.1) (0,0,(0,[],()),0,())).2.1,(List.getD a2.2.2.1.2.1 (Int.toNat a2.1) (0,0,(0,[],()),0,())).2.2.1,IntKind.wrap .i64 ((List.getD a2.2.2.1.2.1 (Int.toNat a2.1) (0,0,(0,[],()),0,())).2.2.2.1+IntKind.wrap .i64 (a0.1 - a2.2.2.1.1)),());let q2:=List.getD q1 (Int.toNat a2.1) (0,0,(0,[],()),0,());bif decide (a2.1<Int.ofNat a1.1.2.1.length) then bif decide (0≤a2.1)&&decide (a2.1<Int.ofNat a2.2.2.1.2.1.length) then bif @Nat.blt (Int.toNat a2.1) a2.2.2.1.2.1.length then bif decide (0≤a2.1)&&decide (a2.1<Int.ofNat a2.2.2.1.2.1.length) then bif @Nat.blt (Int.toNat a2.1) a2.2.2.1.2.1.length then bif decide (0≤a2.1)&&decide (a2.1<Int.ofNat q1.length) then bif @Nat.blt (Int.toNat a2.1) q1.length then bif decide (0≤a2.1)&&decide (a2.1<Int.ofNat q1.length) then bif @Nat.blt (Int.toNat a2.1) q1.length then some (.inl (IntKind.wrap .i64 (a2.1+1),a2.2.1,(a2.2.2.1.1,List.set q1 (Int.toNat a2.1) (IntKind.wrap .i64 (IntKind.wrap .i64 (10*Int.ofNat a2.2.1.2.2.2.2.2.1.length)+q2.1),q2.2),()),())) else none else none else none else none else none else none else none else none else some (.inr a2.2)
def RZ (a0:List Int×Unit) (a1:Int×ah.Tp) (a2:Int×ah.Sc×ah.Tp×Unit):Option (Sum (Int×ah.Sc×ah.Tp×Unit) (ah.Sc×ah.Tp×Unit)):=bif decide (a2.1<Int.ofNat a0.1.length) then bif decide (0≤a2.1)&&decide (a2.1<Int.ofNat a0.1.length) then (ah.x29 a2.2.2.1 4).bind fun y3=>(Loop (@RY a1 y3) (0,a2.2.1,y3.1,())).bind fun y4=>bif @Nat.ble ((y4.1.2.2.2.2.2.1.length+1)*40) 140737488355328 then some (.inl (IntKind.wrap .i64 (a2.1+1),(y4.1.1,y4.1.2.1,y4.1.2.2.1,y4.1.2.2.2.1,y4.1.2.2.2.2.1,y4.1.2.2.2.2.2.1++(List.getD a0.1 (Int.toNat a2.1) 0,(a1.1,y4.2.1.2),())::[],y4.1.2.2.2.2.2.2),y3.2,())) else none else none else some (.inr a2.2)
def R5 (a0:List Int×Unit) (a1:Int×ah.Sc×ah.Tp×Unit):Option (Sum (Int×ah.Sc×ah.Tp×Unit) (ah.Sc×ah.Tp×Unit)):=bif decide (a1.1 > 0) then (bif decide (Int.ofNat a0.1.length > 0) then (ah.x32 a1.2.2.1 a1.2.1.2.2.2.2.2.2).bind fun y2=>some ((a1.2.1.1,a1.2.1.2.1,a1.2.1.2.2.1,a1.2.1.2.2.2.1,a1.2.1.2.2.2.2.1,a1.2.1.2.2.2.2.2.1,y2.1),y2.2,()) else some a1.2).bind fun y2=>some (.inl (IntKind.wrap .i64 (a1.1 - 1),y2)) else some (.inr a1.2)
def R6 (a0:ah.Sc×ah.Tp×Unit) (a1:ah.Tp×ah.Sc×Int×Unit):Option (Sum (ah.Tp×ah.Sc×Int×Unit) (ah.Tp×ah.Sc×Unit)):=let q1:=List.getD a0.1.2.2.2.2.2.1 (Int.toNat a1.2.2.1) (0,(0,[],()),());bif decide (a1.2.2.1<Int.ofNat a0.1.2.2.2.2.2.1.length) then bif decide (0≤a1.2.2.1)&&decide (a1.2.2.1<Int.ofNat a0.1.2.2.2.2.2.1.length) then (ah.x33 q1.2.1).bind fun y2=>(bif decide (y2.1.2.1=0) then (ah.on (ah.wf a1.1) (ah.next a1.1 6)).bind fun y3=>some (y3.2,decide (y3.1 > 0),()) else some (a1.1,false,())).bind fun y3=>(bif y3.2.1 then (ah.x34 a1.2.1.2.2.2.2.2.2 q1.1 y2.1.1).bind fun y4=>(bif decide (y4.1.2.1=0) then some ((a1.2.1.1,a1.2.1.2.1,a1.2.1.2.2.1,a1.2.1.2.2.2.1,a1.2.1.2.2.2.2.1,a1.2.1.2.2.2.2.2.1,y4.1.1),()) else some (a1.2.1,())).bind fun y5=>some y5 else some (a1.2.1,())).bind fun y4=>some (.inl (y3.1,y4.1,IntKind.wrap .i64 (a1.2.2.1+1),())) else none else some (.inr (a1.1,a1.2.1,()))
def R7 (a0:Int×ah.Sc×ah.Tp×Unit):Option (Sum (Int×ah.Sc×ah.Tp×Unit) (ah.Sc×ah.Tp×Unit)):=bif decide (a0.1 > 0) then (ah.x36 a0.2.2.1 (Int.ofNat a0.2.1.2.2.2.2.2.2.2.2.1.length)).bind fun y1=>(ah.x35 a0.2.1.2.2.2.2.2.2 y1.1).bind fun y2=>some (.inl (IntKind.wrap .i64 (a0.1 - 1),(a0.2.1.1,a0.2.1.2.1,a0.2.1.2.2.1,a0.2.1.2.2.2.1,a0.2.1.2.2.2.2.1,a0.2.1.2.2.2.2.2.1,y2.1.1),y1.2,())) else some (.inr a0.2)
def r6 (a0:List Int) (a1 a2:Int):Option (ah.Sc×ah.Tp):=(ah.x25 (a0,a1,()) a2).bind fun y3=>(ah.x26 y3.2 y3.1).bind fun y4=>(Loop (@RX y4) ([],0,())).bind fun y5=>(ah.on (ah.wf y4.2&&decide (0<2)&&decide (2≤1000)) (ah.pick y4.2 (0::100::[]))).bind fun y6=>(Loop (@RZ y5 y6) (0,(y3.1.1,y3.1.2.1,y4.1.1,y4.1.2.1,y4.1.2.2.1,[],[],[],[],()),y6.2,())).bind fun y7=>(ah.x30 y5.1).bind fun y8=>(ah.on (ah.wf y7.2.1) (ah.next y7.2.1 4)).bind fun y9=>(Loop (@R5 y5) (y9.1,(y7.1.1,y7.1.2.1,y7.1.2.2.1,y7.1.2.2.2.1,y7.1.2.2.2.2.1,y7.1.2.2.2.2.2.1,y8.1.1),y9.2,())).bind fun mq=>(Loop (@R6 mq) (mq.2.1,mq.1,0,())).bind fun jP=>(ah.on (ah.wf jP.1) (ah.next jP.1 4)).bind fun pX=>(Loop R7 (pX.1,jP.2.1,pX.2,())).bind fun y13=>some (y13.1,y13.2.1)
def x6 (t:Tp) (b0:Int):Option ((Sc)×Tp):=r6 t.1 t.2.1 b0
def r38 (a0:List Int) (a1:Int) (a2:@List ah.Rt) (a3:@List ah.Lk) (a4 a5:Int) (a6:@List ah.Ed) (a7:@List ah.Si) (a8:@List ah.Sk) (a9:@List ah.Li) (bJ:@List ah.oC):Option (Int×ah.Tp):=(bif !decide (Int.ofNat a7.length=0) then (ah.on (ah.wf (a0,a1,())) (ah.next (a0,a1,()) 30)).bind fun jP=>some (jP.2,decide (jP.1=29),()) else some ((a0,a1,()),true,())).bind fun jP=>bif jP.2.1 then (ah.on (ah.wf jP.1&&decide (0<4)&&decide (4≤1000)) (ah.pick jP.1 (0::1::2::99::[]))).bind fun pX=>some pX else (ah.on (ah.wf jP.1) (ah.next jP.1 (Int.ofNat a7.length))).bind fun pX=>bif decide (0≤pX.1)&&decide (pX.1<Int.ofNat a7.length) then some ((List.getD a7 (Int.toNat pX.1) (0,(0,[],()),())).1,pX.2) else none
def x38 (t:Tp) (b0:Sc):Option ((Int)×Tp):=r38 t.1 t.2.1 b0.1 b0.2.1 b0.2.2.1 b0.2.2.2.1 b0.2.2.2.2.1 b0.2.2.2.2.2.1 b0.2.2.2.2.2.2.1 b0.2.2.2.2.2.2.2.1 b0.2.2.2.2.2.2.2.2.1
def r19 (a0:List Int) (a1:Int):Option (ah.Ed×ah.Tp):=(ah.on (ah.wf (a0,a1,())&&ah.small 1&&ah.small 6) (ah.range (a0,a1,()) 1 6)).bind fun y2=>(ah.on (ah.wf y2.2&&ah.small 1&&ah.small 20) (ah.range y2.2 1 20)).bind fun y3=>(ah.on (ah.wf y3.2&&ah.small 1&&ah.small 99) (ah.range y3.2 1 99)).bind fun y4=>(ah.on (ah.wf y4.2&&decide (0<(y2.1::y3.1::y4.1::[]).length)&&decide ((y2.1::y3.1::y4.1::[]).length≤1000)) (ah.pick y4.2 (y2.1::y3.1::y4.1::[]))).bind fun y5=>(ah.on (ah.wf y5.2&&ah.small 1&&ah.small 4) (ah.range y5.2 1 4)).bind fun y6=>(ah.on (ah.wf y6.2) (ah.next y6.2 30)).bind fun y7=>(bif decide (y7.1=29) then (ah.on (ah.wf y7.2&&decide (0<3)&&decide (3≤1000)) (ah.pick y7.2 (0::1::100::[]))).bind fun y8=>(ah.on (ah.wf y8.2&&decide (0<3)&&decide (3≤1000)) (ah.pick y8.2 (0::1::100::[]))).bind fun y9=>some ((y8.1,y9.1,()),y9.2,()) else some ((y5.1,y6.1,()),y7.2,())).bind fun y8=>some (y8.1,y8.2.1)
def x19 (t:Tp):Option ((Fw)×Tp):=r19 t.1 t.2.1
def LW (a0:@List ah.Sk) (a1:Int) (a2:Int×Unit):Option (Sum (Int×Unit) (Bool×(Bool×Unit)×Unit)):=bif decide (a2.1<Int.ofNat a0.length) then bif decide (0≤a2.1)&&decide (a2.1<Int.ofNat a0.length) then bif decide ((List.getD a0 (Int.toNat a2.1) (0,0,0,[],[],())).1=a1) then some (.inr (true,(true,()),())) else some (.inl (IntKind.wrap .i64 (a2.1+1),())) else none else some (.inr (false,(false,()),()))
def ahT (a0:@List ah.Sk) (a1:@List ah.Li) (a2:@List ah.oC) (a3:Int):Option (Bool×Unit):=(Loop (@LW a0 a3) (0,())).bind fun y4=>bif y4.1 then some y4.2.1 else some (false,())
def R8 (b0:Ov) (b1:Int):Option ((Bool)×Unit):=ahT b0.1 b0.2.1 b0.2.2.1 b1
def LX (a0:@List ah.He) (a1:Int) (a2:ah.He×Int×Unit):Option (Sum (ah.He×Int×Unit) (Bool×(Bool×ah.He×Unit)×ah.He×Unit)):=let q1:=List.getD a0 (Int.toNat a2.2.1) (0,0,0,[],());bif decide (a2.2.1<Int.ofNat a0.length) then bif decide (0≤a2.2.1)&&decide (a2.2.1<Int.ofNat a0.length) then bif decide (q1.1=a1) then some (.inr (true,(true,q1,()),(0,0,0,[],()),())) else some (.inl (a2.1,IntKind.wrap .i64 (a2.2.1+1),())) else none else some (.inr (false,(false,(0,0,0,[],()),()),a2.1,()))
def ahU (a0 a1:Int) (a2:@List ah.He) (a3:Int):Option ((ah.He×Bool×Unit)×Unit):=(ah.Ck (a0,a1,a2,())).bind fun y4=>(bif decide (y4.1=0) then (Loop (@LX a2 a3) ((0,0,0,[],()),0,())).bind fun y5=>bif y5.1 then some (true,y5.2.1,(0,0,0,[],()),()) else some (false,(false,(0,0,0,[],()),()),y5.2.2) else some (false,(false,(0,0,0,[],()),()),(0,0,0,[],()),())).bind fun y5=>bif y5.1 then some ((y5.2.1.2.1,y5.2.1.1,()),()) else some (((0,0,0,[],()),false,()),())
def Xe (b0:Li) (b1:Int):Option ((He×Bool×Unit)×Unit):=ahU b0.1 b0.2.1 b0.2.2.1 b1
def ahV (a0 a1:Int) (a2:@List ah.He) (a3:Int):Option (@List ah.Wa×Unit):=(ah.Xe (a0,a1,a2,()) a3).bind fun y4=>(ah.x79 y4.1.1.2.2.2.1).bind fun y5=>some y5
def Xf (b0:Li) (b1:Int):Option ((List Wa)×Unit):=ahV b0.1 b0.2.1 b0.2.2.1 b1
def ahW (a0:@List ah.Sk) (a1:@List ah.Li) (a2:@List ah.oC) (a3 a4:Int):Option ((@List ah.Wa×Int×Unit)×Unit):=(ah.Rp (a0,a1,a2,())).bind fun y5=>bif !decide (y5.1=0) then some (([],y5),()) else (ah.ZO (a0,a1,a2,()) a3).bind fun y6=>(ah.ZO (a0,a1,a2,()) a4).bind fun y7=>(bif !decide (y6.1<0) then some (decide (y7.1<0),()) else some (true,())).bind fun y8=>bif y8.1 then some (([],4,()),()) else bif decide (y6.1=y7.1) then bif decide (0≤y7.1)&&decide (y7.1<Int.ofNat a0.length) then (ah.x79 (List.getD a0 (Int.toNat y7.1) (0,0,0,[],[],())).2.2.2.1).bind fun y9=>some ((y9.1,0,()),()) else none else bif decide (0≤y6.1)&&decide (y6.1<Int.ofNat a1.length) then (ah.Xf (List.getD a1 (Int.toNat y6.1) (0,0,[],())) a4).bind fun y9=>some ((y9.1,0,()),()) else none
def Xg (b0:Ov) (b1:Int) (b2:Int):Option (((List Wa)×Int×Unit)×Unit):=ahW b0.1 b0.2.1 b0.2.2.1 b1 b2
def ahX (a0:@List ah.Wa) (a1 a2:Int):Option (Bool×Unit):=((ah.W9 a0).bind fun y3=>bif decide (y3.1=0) then (ah.HZ a0 a2).bind fun y4=>some (ah.iJ y4.1 a1,()) else some (false,())).bind fun y3=>some y3
def Xh (b0:(List Wa)) (b1:Fw):Option ((Bool)×Unit):=ahX b0 b1.1 b1.2.1
def R9 (a0:@List ah.Sk) (a1:@List ah.Li) (a2:@List ah.oC) (a3:@List ah.Ed) (a4 a5 a6:Int) (a7:ah.Tp):Option (Sum ah.Tp (List Int×Unit)):=let q1:=List.getD a3 (Int.toNat a7.2.1) (0,0,());let q2:=IntKind.wrap .i64 (a7.2.1+1);bif decide (a7.2.1<Int.ofNat a3.length) then bif decide (0≤a7.2.1)&&decide (a7.2.1<Int.ofNat a3.length) then (bif !decide (q1.1=a4) then (ah.R8 (a0,a1,a2,()) q1.1).bind fun y8=>some (!y8.1,()) else some (true,())).bind fun y8=>bif y8.1 then some (.inl (a7.1,q2,())) else (ah.Xg (a0,a1,a2,()) a4 q1.1).bind fun y9=>(bif decide (y9.1.2.1=0) then (ah.Xh y9.1.1 (a5,a6,())).bind fun mq=>some mq else some (false,())).bind fun mq=>(bif mq.1 then bif @Nat.ble ((a7.1.length+1)*8) 140737488355328 then some (a7.1++q1.2.1::[],()) else none else some (a7.1,())).bind fun jP=>some (.inl (jP.1,q2,())) else none else some (.inr (a7.1,()))
def r88 (a0:@List ah.Sk) (a1:@List ah.Li) (a2:@List ah.oC) (a3 a4:Int) (a5:@List ah.Ed) (a6 a7 a8:Int):Option (ah.Tp×Unit):=(ah.Rp (a0,a1,a2,())).bind fun y9=>bif !decide (y9.1=0) then some (([],y9),()) else bif !ah.dZ (a3,a4,a5,()) then some (([],1,()),()) else bif !ah.fM (a7,a8,()) then some (([],2,()),()) else (ah.R8 (a0,a1,a2,()) a6).bind fun mq=>bif !mq.1 then some (([],4,()),()) else (Loop (@R9 a0 a1 a2 a5 a6 a7 a8) ([],0,())).bind fun jP=>some ((jP.1,0,()),())
def x88 (b0:Ov) (b1:Pn) (b2:Int) (b3:Fw):Option (((List Int)×Int×Unit)×Unit):=r88 b0.1 b0.2.1 b0.2.2.1 b1.1 b1.2.1 b1.2.2.1 b2 b3.1 b3.2.1
def r89 (a0 a1:Int):Option (Int×Unit):=some (IntKind.wrap .i64 (@Int.fdiv (IntKind.wrap .u32 (IntKind.wrap .u32 (IntKind.wrap .u32 (IntKind.wrap .u32 a0*31)+IntKind.wrap .u32 a1)*2654435761)) 4194304),())
def x89 (b0:Int) (b1:Int):Option ((Int)×Unit):=r89 b0 b1
def J3 (a0 a1:Int) (a2:@List ah.Ed) (a3:List Int) (a4:ah.Pk×@List ah.Pk×Int×Unit):Option (Sum (ah.Pk×@List ah.Pk×Int×Unit) (Bool×(@List ah.Pk×Int×Unit)×@List ah.Pk×Unit)):=let q1:=List.getD (ah.sets (a0,a1,a2,()) a3).1 (Int.toNat a4.2.2.1) (0,0,());bif decide (a4.2.2.1<Int.ofNat (ah.sets (a0,a1,a2,()) a3).1.length) then bif decide (0≤a4.2.2.1)&&decide (a4.2.2.1<Int.ofNat (ah.sets (a0,a1,a2,()) a3).1.length) then bif decide (0≤a4.2.2.1)&&decide (a4.2.2.1<Int.ofNat (ah.sets (a0,a1,a2,()) a3).1.length) then bif !ah.dz (a4.1.1,a0,q1.1,a1,a4.1.2.2.2.2.1,a4.1.2.2.2.2.2.1,a4.1.2.2.2.2.2.2.1,a4.1.2.2.2.2.2.2.2.1,q1.2.1,a4.1.2.2.2.2.2.2.2.2.2) then some (.inr (true,([],1,()),[],())) else bif @Nat.ble ((a4.2.1.length+1)*88) 140737488355328 then some (.inl ((a4.1.1,a0,q1.1,a1,a4.1.2.2.2.2.1,a4.1.2.2.2.2.2.1,a4.1.2.2.2.2.2.2.1,a4.1.2.2.2.2.2.2.2.1,q1.2.1,a4.1.2.2.2.2.2.2.2.2.2),a4.2.1++(a4.1.1,a0,q1.1,a1,a4.1.2.2.2.2.1,a4.1.2.2.2.2.2.1,a4.1.2.2.2.2.2.2.1,a4.1.2.2.2.2.2.2.2.1,q1.2.1,a4.1.2.2.2.2.2.2.2.2.2)::[],IntKind.wrap .i64 (a4.2.2.1+1),())) else none else none else none else some (.inr (false,([],0,()),a4.2.1,()))
def r90 (a0 a1:Int) (a2:@List ah.Ed) (a3:List Int) (a4 a5 a6 a7 a8 a9 bJ bS a12:Int) (dD:List Int):Option ((@List ah.Pk×Int×Unit)×Unit):=bif !decide ((ah.sets (a0,a1,a2,()) a3).2.1=0) then some (([],(ah.sets (a0,a1,a2,()) a3).2),()) else (Loop (@J3 a0 a1 a2 a3) ((a4,a5,a6,a7,a8,a9,bJ,bS,a12,dD,()),[],0,())).bind fun iV=>bif iV.1 then some (iV.2.1,()) else some ((iV.2.2.1,0,()),())
def x90 (b0:Pn) (b1:(List Int)) (b2:Pk):Option (((List Pk)×Int×Unit)×Unit):=r90 b0.1 b0.2.1 b0.2.2.1 b1 b2.1 b2.2.1 b2.2.2.1 b2.2.2.2.1 b2.2.2.2.2.1 b2.2.2.2.2.2.1 b2.2.2.2.2.2.2.1 b2.2.2.2.2.2.2.2.1 b2.2.2.2.2.2.2.2.2.1 b2.2.2.2.2.2.2.2.2.2.1
def J4 (a0:@List ah.Ed) (a1:Int) (a2:ah.Pk×Int×Unit):Option (Sum (ah.Pk×Int×Unit) (ah.Pk×Unit)):=let q1:=List.getD a0 (Int.toNat a2.2.1) (0,0,());bif decide (a2.2.1<Int.ofNat a0.length) then bif decide (0≤a2.2.1)&&decide (a2.2.1<Int.ofNat a0.length) then (bif decide (q1.1=a1) then some ((a2.1.1,a2.1.2.1,a2.1.2.2.1,a2.1.2.2.2.1,a2.1.2.2.2.2.1,a2.1.2.2.2.2.2.1,q1.2.1,a2.1.2.2.2.2.2.2.2),()) else some (a2.1,())).bind fun y3=>some (.inl (y3.1,IntKind.wrap .i64 (a2.2.1+1),())) else none else some (.inr (a2.1,()))
def r39 (a0:@List ah.Sk) (a1:@List ah.Li) (a2:@List ah.oC) (a3 a4:Int) (a5:@List ah.Ed) (a6 a7 a8:Int) (a9:List Int):Option ((@List ah.Pk×Int×Unit)×Unit):=(ah.x88 (a0,a1,a2,()) (a3,a4,a5,()) a6 (a7,a8,())).bind fun mq=>bif !decide (mq.1.2.1=0) then some (([],mq.1.2),()) else (ah.on (decide (a9.length≤1000000)) (ah.wrap (a7,a8,()) a9,())).bind fun jP=>bif !decide (jP.1.2.1=0) then some (([],jP.1.2),()) else (ah.x89 a7 a8).bind fun pX=>(Loop (@J4 a5 a6) ((1,0,0,0,63,pX.1,0,1,0,jP.1.1,()),0,())).bind fun y13=>(ah.x90 (a3,a4,a5,()) mq.1.1 y13.1).bind fun iV=>some iV
def x39 (b0:Ov) (b1:Pn) (b2:Int) (b3:Fw) (b4:(List Int)):Option (((List Pk)×Int×Unit)×Unit):=r39 b0.1 b0.2.1 b0.2.2.1 b1.1 b1.2.1 b1.2.2.1 b2 b3.1 b3.2.1 b4
def LY (a0:@List ah.Tb) (a1:Int×Unit):Option (Sum (Int×Unit) (Bool×(Int×Unit)×Unit)):=bif decide (a1.1<Int.ofNat a0.length) then bif decide (0≤a1.1)&&decide (a1.1<Int.ofNat a0.length) then bif !decide (ah.sD (List.getD a0 (Int.toNat a1.1) (0,0,0,[],()))=0) then some (.inr (true,(1,()),())) else some (.inl (IntKind.wrap .i64 (a1.1+1),())) else none else some (.inr (false,(0,()),()))
def LZ (a0:@List ah.Tb) (a1:Int×Unit):Option (Sum (Int×Unit) (Bool×(Int×Unit)×Unit)):=let q1:=IntKind.wrap .i64 (a1.1 - 1);bif decide (a1.1<Int.ofNat a0.length) then bif decide (0≤q1)&&decide (q1<Int.ofNat a0.length) then bif decide (0≤a1.1)&&decide (a1.1<Int.ofNat a0.length) then bif decide ((List.getD a0 (Int.toNat q1) (0,0,0,[],())).1≥(List.getD a0 (Int.toNat a1.1) (0,0,0,[],())).1) then some (.inr (true,(25,()),())) else some (.inl (IntKind.wrap .i64 (a1.1+1),())) else none else none else some (.inr (false,(0,()),()))
def Ma (a0:@List ah.Tb) (a1:Int×Unit):Option (Sum (Int×Unit) (Bool×(Int×Unit)×Unit)):=let q1:=List.getD a0 (Int.toNat a1.1) (0,0,0,[],());let q2:=List.getD a0 0 (0,0,0,[],());bif decide (a1.1<Int.ofNat a0.length) then (bif decide (0≤a1.1)&&decide (a1.1<Int.ofNat a0.length) then bif true&&decide (0<Int.ofNat a0.length) then bif !!decide (q1.2.1=q2.2.1) then bif decide (0≤a1.1)&&decide (a1.1<Int.ofNat a0.length) then bif true&&decide (0<Int.ofNat a0.length) then some (!decide (q1.2.2.1=q2.2.2.1),()) else none else none else some (true,()) else none else none).bind fun y2=>bif y2.1 then some (.inr (true,(8,()),())) else some (.inl (IntKind.wrap .i64 (a1.1+1),())) else some (.inr (false,(0,()),()))
def ahY (a0:@List ah.Tb):Option (Int×Unit):=bif decide (Int.ofNat a0.length > 24) then some (3,()) else (Loop (@LY a0) (0,())).bind fun y1=>bif y1.1 then some y1.2.1 else (Loop (@LZ a0) (1,())).bind fun y2=>bif y2.1 then some y2.2.1 else (Loop (@Ma a0) (1,())).bind fun y3=>bif y3.1 then some y3.2.1 else some (0,())
def Xi (b0:(List Tb)):Option ((Int)×Unit):=ahY b0
def Sb (a0:@List ah.Tb) (a1:Int) (a2:ah.Tb×Int×Unit):Option (Sum (ah.Tb×Int×Unit) (Bool×(ah.Tb×Bool×Unit)×ah.Tb×Unit)):=let q1:=List.getD a0 (Int.toNat a2.2.1) (0,0,0,[],());bif decide (a2.2.1<Int.ofNat a0.length) then bif decide (0≤a2.2.1)&&decide (a2.2.1<Int.ofNat a0.length) then bif decide (q1.1=a1) then bif decide (0≤a2.2.1)&&decide (a2.2.1<Int.ofNat a0.length) then some (.inr (true,(q1,true,()),(0,0,0,[],()),())) else none else some (.inl (a2.1,IntKind.wrap .i64 (a2.2.1+1),())) else none else some (.inr (false,((0,0,0,[],()),false,()),a2.1,()))
def r92 (a0:@List ah.Tb) (a1:Int):Option ((ah.Tb×Bool×Unit)×Unit):=(Loop (@Sb a0 a1) ((0,0,0,[],()),0,())).bind fun y2=>bif y2.1 then some (y2.2.1,()) else some (((0,0,0,[],()),false,()),())
def x92 (b0:(List Tb)) (b1:Int):Option ((Tb×Bool×Unit)×Unit):=r92 b0 b1
def r91 (a0:@List ah.Tb) (a1 a2 a3 a4 a5 a6 a7 a8 a9:Int) (bJ:List Int) (bS:Int):Option (Int×Unit):=((ah.Xi a0).bind fun pX=>bif !!decide (pX.1=0) then some (!ah.dz (a1,a2,a3,a4,a5,a6,a7,a8,a9,bJ,()),()) else some (true,())).bind fun pX=>bif pX.1 then some (1,()) else (ah.x92 a0 bS).bind fun y13=>bif !y13.1.2.1 then some (4,()) else bif decide (a1=2) then some (7,()) else (bif !!decide (a2=y13.1.1.2.1) then some (!decide (a4=y13.1.1.2.2.1),()) else some (true,())).bind fun iV=>bif iV.1 then some (8,()) else some (0,())
def x91 (b0:(List Tb)) (b1:Pk) (b2:Int):Option ((Int)×Unit):=r91 b0 b1.1 b1.2.1 b1.2.2.1 b1.2.2.2.1 b1.2.2.2.2.1 b1.2.2.2.2.2.1 b1.2.2.2.2.2.2.1 b1.2.2.2.2.2.2.2.1 b1.2.2.2.2.2.2.2.2.1 b1.2.2.2.2.2.2.2.2.2.1 b2
def Sd (a0:Int) (a1:@List ah.Cp) (a2:ah.Tr×Int×Unit):Option (Sum (ah.Tr×Int×Unit) (ah.Tr×Unit)):=let q1:=List.getD a1 (Int.toNat a2.2.1) (0,([],(0,0,0,0,0,0,0,0,0,[],()),()),());bif decide (a2.2.1<Int.ofNat a1.length) then bif decide (0≤a2.2.1)&&decide (a2.2.1<Int.ofNat a1.length) then bif decide (0≤a2.2.1)&&decide (a2.2.1<Int.ofNat a1.length) then bif @Nat.ble ((a2.1.2.1.length+1)*24) 140737488355328 then some (.inl ((a2.1.1,a2.1.2.1++(a0,q1.1,q1.2.1.2.1.2.2.2.2.2.2.2.2.1,())::[],a2.1.2.2),IntKind.wrap .i64 (a2.2.1+1),())) else none else none else none else some (.inr (a2.1,()))
def r94 (a0:@List ah.Dl) (a1:@List ah.Pe) (a2:@List ah.Ed) (a3 a4 a5 a6 a7 a8 a9 bJ bS a12:Int) (dD:List Int) (iR jg:Int) (a16:@List ah.Cp):Option (ah.Tr×Unit):=let q1:=a0++ah.uf a3 (iR,jg,a16,()) (a4,a5,a6,a7,a8,a9,bJ,bS,a12,dD,());bif @Nat.ble ((a0.length+(ah.uf a3 (iR,jg,a16,()) (a4,a5,a6,a7,a8,a9,bJ,bS,a12,dD,())).length)*96) 140737488355328 then (bif !decide (jg=0) then bif @Nat.ble ((a2.length+1)*16) 140737488355328 then some ((q1,a1,a2++(a3,jg,())::[],()),()) else none else some ((q1,a1,a2,()),())).bind fun lC=>(Loop (@Sd a3 a16) (lC.1,0,())).bind fun Us=>some Us else none
def x94 (b0:Tr) (b1:Int) (b2:Pk) (b3:Oc):Option ((Tr)×Unit):=r94 b0.1 b0.2.1 b0.2.2.1 b1 b2.1 b2.2.1 b2.2.2.1 b2.2.2.2.1 b2.2.2.2.2.1 b2.2.2.2.2.2.1 b2.2.2.2.2.2.2.1 b2.2.2.2.2.2.2.2.1 b2.2.2.2.2.2.2.2.2.1 b2.2.2.2.2.2.2.2.2.2.1 b3.1 b3.2.1 b3.2.2.1
def Sj (a0:@List ah.Tb) (a1:ah.Tr×Int×@List ah.Cp×Unit):Option (Sum (ah.Tr×Int×@List ah.Cp×Unit) (ah.Tr×Unit)):=let q1:=List.getD a1.2.2.1 (Int.toNat a1.2.1) (0,([],(0,0,0,0,0,0,0,0,0,[],()),()),());bif decide (a1.2.1<Int.ofNat a1.2.2.1.length) then bif decide (0≤a1.2.1)&&decide (a1.2.1<Int.ofNat a1.2.2.1.length) then bif @Nat.blt (Int.toNat a1.2.1) a1.2.2.1.length then bif decide (0≤a1.2.1)&&decide (a1.2.1<Int.ofNat a1.2.2.1.length) then bif @Nat.blt (Int.toNat a1.2.1) a1.2.2.1.length then (ah.x92 a0 q1.1).bind fun y2=>(bif y2.1.2.1 then (ah.on (decide (ah.sD y2.1.1=0)&&ah.dz q1.2.1.2.1&&decide (y2.1.1.2.2.1=ah.ln q1.2.1.2.1)) (ah.sF y2.1.1 q1.2.1.2.1,())).bind fun y3=>some y3 else some ((0,q1.2.1.2.1.2.2.2.2.2.2.2.2.1,[],()),())).bind fun y3=>(ah.x94 a1.1 q1.1 q1.2.1.2.1 y3.1).bind fun y4=>bif @Nat.ble ((a1.2.2.1.length+y3.1.2.2.1.length)*120) 140737488355328 then some (.inl (y4.1,IntKind.wrap .i64 (a1.2.1+1),a1.2.2.1++y3.1.2.2.1,())) else none else none else none else none else none else some (.inr (a1.1,()))
def r40 (a0:@List ah.Tb) (a1 a2 a3 a4 a5 a6 a7 a8 a9:Int) (bJ:List Int) (bS:Int):Option ((ah.Tr×Int×Unit)×Unit):=(ah.x91 a0 (a1,a2,a3,a4,a5,a6,a7,a8,a9,bJ,()) bS).bind fun pX=>bif !decide (pX.1=0) then some ((([],[],[],()),pX),()) else (Loop (@Sj a0) (([],[],[],()),0,(bS,([],(a1,a2,a3,a4,a5,a6,a7,a8,a9,bJ,()),()),())::[],())).bind fun y13=>some ((y13.1,0,()),())
def x40 (b0:(List Tb)) (b1:Pk) (b2:Int):Option ((Tr×Int×Unit)×Unit):=r40 b0 b1.1 b1.2.1 b1.2.2.1 b1.2.2.2.1 b1.2.2.2.2.1 b1.2.2.2.2.2.1 b1.2.2.2.2.2.2.1 b1.2.2.2.2.2.2.2.1 b1.2.2.2.2.2.2.2.2.1 b1.2.2.2.2.2.2.2.2.2.1 b2
def Sl (a0:(@List ah.Tb×Int×Unit)×Unit) (a1:Int×ah.Tp) (a2:(@List ah.Pk×Int×Unit)×Unit) (a3:Int×@List ah.Dl×Unit):Option (Sum (Int×@List ah.Dl×Unit) (@List ah.Dl×Unit)):=bif decide (a3.1<Int.ofNat a2.1.1.length) then bif decide (0≤a3.1)&&decide (a3.1<Int.ofNat a2.1.1.length) then (ah.x40 a0.1.1 (List.getD a2.1.1 (Int.toNat a3.1) (0,0,0,0,0,0,0,0,0,[],())) a1.1).bind fun y4=>bif @Nat.ble ((a3.2.1.length+y4.1.1.1.length)*96) 140737488355328 then some (.inl (IntKind.wrap .i64 (a3.1+1),a3.2.1++y4.1.1.1,())) else none else none else some (.inr a3.2)
def Z4 (a0:@List ah.Rt) (a1:@List ah.Lk) (a2 a3:Int) (a4:@List ah.Ed) (a5:@List ah.Si) (a6:@List ah.Sk) (a7:@List ah.Li) (a8:@List ah.oC) (a9:(@List ah.Tb×Int×Unit)×Unit) (bJ:Int×@List ah.Dl×ah.Tp×Unit):Option (Sum (Int×@List ah.Dl×ah.Tp×Unit) (@List ah.Dl×ah.Tp×Unit)):=bif decide (bJ.1<3) then (ah.x38 bJ.2.2.1 (a0,a1,a2,a3,a4,a5,a6,a7,a8,())).bind fun jP=>(ah.x19 jP.2).bind fun pX=>(ah.x39 (a6,a7,a8,()) (a2,a3,a4,()) jP.1 pX.1 (100::97::116::97::[])).bind fun y13=>(Loop (@Sl a9 jP y13) (0,bJ.2.1,())).bind fun iV=>some (.inl (IntKind.wrap .i64 (bJ.1+1),iV.1,pX.2,())) else some (.inr bJ.2)
def r7 (a0:List Int) (a1:Int) (a2:@List ah.Rt) (a3:@List ah.Lk) (a4 a5:Int) (a6:@List ah.Ed) (a7:@List ah.Si) (a8:@List ah.Sk) (a9:@List ah.Li) (bJ:@List ah.oC):Option (@List ah.Dl×ah.Tp):=(ah.x57 (a2,a3,()) (a4,a5,a6,())).bind fun jP=>(Loop (@Z4 a2 a3 a4 a5 a6 a7 a8 a9 bJ jP) (0,[],(a0,a1,()),())).bind fun pX=>some (pX.1,pX.2.1)
def x7 (t:Tp) (b0:Sc):Option ((List Dl)×Tp):=r7 t.1 t.2.1 b0.1 b0.2.1 b0.2.2.1 b0.2.2.2.1 b0.2.2.2.2.1 b0.2.2.2.2.2.1 b0.2.2.2.2.2.2.1 b0.2.2.2.2.2.2.2.1 b0.2.2.2.2.2.2.2.2.1
end
end ah