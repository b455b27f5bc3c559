/- Chapter 29 (egress, hosts): proved is, of functions that the law reaches, that the evaluator comes to the printed term; no conditions. -/
import Derived.Test.YtaabojpgjgeigaaGreatDoorHunA
import Derived.KernelRfl
set_option linter.unusedVariables false
set_option linter.unusedSimpArgs false
namespace Go.gI.qJ
open Go Go.gI
noncomputable section
abbrev tape:List Lf:=[.sl 0 (.int .i64),.int .i64]
abbrev J5:Ty:=.st 16 (.cons (.int .i64) (.cons (.int .i64) .unit))
abbrev rtT:Ty:=.st 16 (.cons (.int .i64) (.cons .bool .unit))
abbrev lkT:Ty:=.st 40 (.cons (.int .i64) (.cons (.int .i64) (.cons (.int .i64) (.cons (.int .i64) (.cons (.int .i64) .unit)))))
abbrev edF:Ty:=.cons (.int .i64) (.cons (.int .i64) .unit)
abbrev edl:List Lf:=[.int .i64,.int .i64]
abbrev pnl:List Lf:=[.int .i64,.int .i64,.sl 0 J5]
abbrev tol:List Lf:=[.sl 0 rtT,.sl 0 lkT]
abbrev sbT:Ty:=.st 16 (.cons (.int .i64) (.cons (.int .u64) .unit))
abbrev pkl:List Lf:=[.int .i64,.int .i64,.int .i64,.int .i64,.int .i64,.int .i64,.int .i64,.int .i64,.int .u64,.str]
abbrev rwT:Ty:=.st 32 (.cons (.int .i64) (.cons (.sl (.int .i64)) .unit))
abbrev rwl:List Lf:=[.int .i64,.sl 0 (.int .i64)]
abbrev tbl:List Lf:=[.int .i64,.int .i64,.int .i64,.sl 0 rwT]
abbrev tbF:Ty:=.cons (.int .i64) (.cons (.int .i64) (.cons (.int .i64) (.cons (.sl rwT) .unit)))
abbrev tbT:Ty:=.st 48 tbF
abbrev pkT:Ty:=.st 88 (.cons (.int .i64) (.cons (.int .i64) (.cons (.int .i64) (.cons (.int .i64) (.cons (.int .i64) (.cons (.int .i64) (.cons (.int .i64) (.cons (.int .i64) (.cons (.int .u64) (.cons .str .unit))))))))))
abbrev frT:Ty:=.st 112 (.cons (.sl (.int .i64)) (.cons pkT .unit))
abbrev cpT:Ty:=.st 120 (.cons (.int .i64) (.cons frT .unit))
abbrev dlT:Ty:=.st 96 (.cons (.int .i64) (.cons pkT .unit))
abbrev ocl:List Lf:=[.int .u64,.int .u64,.sl 0 cpT]
abbrev frl:List Lf:=[.sl 0 (.int .i64),.int .i64,.int .i64,.int .i64,.int .i64,.int .i64,.int .i64,.int .i64,.int .i64,.int .u64,.str]
abbrev fll:List Lf:=[.int .i64,.sl 0 (.int .i64)]
abbrev flT:Ty:=.st 32 (.cons (.int .i64) (.cons (.sl (.int .i64)) .unit))
abbrev J6:Ty:=.st 56 (.cons (.int .i64) (.cons (.int .i64) (.cons flT (.cons (.int .i64) .unit))))
abbrev mbl:List Lf:=[.int .i64,.int .i64,.int .i64,.sl 0 (.int .i64),.int .i64]
abbrev msl:List Lf:=[.int .i64,.sl 0 J6]
abbrev apk:List Lf:=[.int .i64,.sl 2 J6]
abbrev msT:Ty:=.st 32 (.cons (.int .i64) (.cons (.sl J6) .unit))
abbrev waT:Ty:=.st 40 (.cons (.int .i64) (.cons flT .unit))
abbrev itT:Ty:=.st 48 (.cons (.int .i64) (.cons (.int .i64) (.cons flT .unit)))
abbrev itl:List Lf:=[.int .i64,.int .i64,.int .i64,.sl 0 (.int .i64)]
abbrev peT:Ty:=.st 24 (.cons (.int .i64) (.cons (.int .i64) (.cons (.int .i64) .unit)))
abbrev skT:Ty:=.st 72 (.cons (.int .i64) (.cons (.int .i64) (.cons (.int .i64) (.cons (.sl itT) (.cons (.sl peT) .unit)))))
abbrev skl:List Lf:=[.int .i64,.int .i64,.int .i64,.sl 0 itT,.sl 0 peT]
abbrev heT:Ty:=.st 48 (.cons (.int .i64) (.cons (.int .i64) (.cons (.int .i64) (.cons (.sl itT) .unit))))
abbrev hel:List Lf:=[.int .i64,.int .i64,.int .i64,.sl 0 itT]
abbrev liT:Ty:=.st 40 (.cons (.int .i64) (.cons (.int .i64) (.cons (.sl heT) .unit)))
abbrev lil:List Lf:=[.int .i64,.int .i64,.sl 0 heT]
abbrev sgT:Ty:=.st 96 (.cons (.int .i64) (.cons (.int .i64) (.cons (.int .i64) (.cons (.int .i64) (.cons (.int .i64) (.cons (.int .i64) (.cons (.int .i64) (.cons (.int .i64) (.cons flT .unit)))))))))
abbrev sgl:List Lf:=[.int .i64,.int .i64,.int .i64,.int .i64,.int .i64,.int .i64,.int .i64,.int .i64,.int .i64,.sl 0 (.int .i64)]
abbrev ovl:List Lf:=[.sl 0 skT,.sl 0 liT,.sl 0 sgT]
abbrev apn:List Lf:=[.sl 2 skT,.sl 2 liT,.sl 2 sgT]
abbrev siT:Ty:=.st 40 (.cons (.int .i64) (.cons msT .unit))
abbrev faT:Ty:=.st 16 edF
abbrev crT:Ty:=.st 24 (.cons (.int .i64) (.cons (.int .i64) (.cons (.int .u64) .unit)))
abbrev loT:Ty:=.st 16 (.cons (.int .i64) (.cons (.int .u64) .unit))
abbrev trl:List Lf:=[.sl 0 dlT,.sl 0 crT,.sl 0 loT]
abbrev apo:List Lf:=[.sl 2 dlT,.sl 2 crT,.sl 2 loT]
abbrev rcF:Ty:=.cons (.int .i64) (.cons (.int .i64) (.cons (.st 16 (.cons (.int .i64) (.cons (.int .i64) .unit))) (.cons .str .unit)))
abbrev uj:Ty:=.st 48 rcF
abbrev rcl:List Lf:=[.int .i64,.int .i64,.int .i64,.int .i64,.str]
abbrev dll:List Lf:=[.int .i64,.int .i64,.int .i64,.int .i64,.int .i64,.int .i64,.int .i64,.int .i64,.int .i64,.int .u64,.str]
abbrev scl:List Lf:=[.sl 0 rtT,.sl 0 lkT,.int .i64,.int .i64,.sl 0 J5,.sl 0 siT,.sl 0 skT,.sl 0 liT,.sl 0 sgT]
abbrev bal:List Lf:=[.bool,.bool,.bool,.bool,.bool,.bool,.bool,.bool,.bool,.bool,.bool,.bool,.bool,.bool,.bool,.bool,.bool,.bool,.bool,.bool,.bool,.bool,.bool,.bool,.bool,.bool,.bool,.bool,.bool,.bool,.bool,.bool,.bool,.bool,.bool,.bool,.bool,.bool,.bool,.bool,.bool,.bool,.bool,.bool,.bool,.bool,.bool,.bool,.bool,.bool,.bool,.bool,.bool,.bool,.bool,.bool,.bool,.bool,.bool,.bool,.bool,.bool,.bool,.bool,.bool,.bool,.bool,.bool,.bool,.bool,.bool,.bool,.bool,.bool,.bool,.bool,.bool,.bool,.bool,.bool,.bool,.bool,.bool,.bool,.bool,.bool,.bool,.bool,.bool,.bool,.bool,.bool,.bool,.bool,.bool,.bool,.bool,.bool,.bool,.bool]
abbrev i:Sh:=.lf (.int .i64)
abbrev u8:Sh:=.lf (.int .u8)
abbrev b:Sh:=.lf .bool
abbrev ls:Sh:=.lf (.sl 0 (.int .i64))
abbrev lso:Sh:=.lf (.sl 2 (.int .i64))
abbrev les:Sh:=.lf (.sl 0 J5)
abbrev ed:Sh:=.agg edl
abbrev pn:Sh:=.agg pnl
abbrev J7:Sh:=.agg tol
abbrev vE:Sh:=.lf (.vp edF)
abbrev cnt:Sh:=.lf (.av .i64)
abbrev u:Sh:=.lf (.int .u64)
abbrev lb:Sh:=.lf (.sl 0 sbT)
abbrev st:Sh:=.lf .str
abbrev p:Sh:=.agg pkl
abbrev rww:Sh:=.agg rwl
abbrev tbw:Sh:=.agg tbl
abbrev oc:Sh:=.agg ocl
abbrev ldl:Sh:=.lf (.sl 0 dlT)
abbrev ltb:Sh:=.lf (.sl 0 tbT)
abbrev fr:Sh:=.agg frl
abbrev fl:Sh:=.agg fll
abbrev mb:Sh:=.agg mbl
abbrev ms:Sh:=.agg msl
abbrev msg:Sh:=.agg apk
abbrev Dt:Sh:=.lf (.sl 0 waT)
abbrev it:Sh:=.agg itl
abbrev lit:Sh:=.lf (.sl 0 itT)
abbrev sk:Sh:=.agg skl
abbrev he:Sh:=.agg hel
abbrev li:Sh:=.agg lil
abbrev sg:Sh:=.agg sgl
abbrev lsg:Sh:=.lf (.sl 0 sgT)
abbrev ov:Sh:=.agg ovl
abbrev ovg:Sh:=.agg apn
abbrev lfa:Sh:=.lf (.sl 0 faT)
abbrev tr:Sh:=.agg trl
abbrev trg:Sh:=.agg apo
abbrev rc:Sh:=.agg rcl
abbrev lr:Sh:=.lf (.sl 0 uj)
abbrev Sm:Sh:=.lf (.sl 0 uj)
abbrev dl:Sh:=.agg dll
abbrev fw:Sh:=.agg edl
abbrev sc:Sh:=.agg scl
abbrev lpk:Sh:=.lf (.sl 0 pkT)
abbrev bar:Sh:=.agg bal
abbrev ah5:Sh:=.lf (.gM 98 edF)
abbrev apr:Sh:=.lf (.sl 2 sgT)
abbrev aps:Sh:=.lf (.sl 2 dlT)
abbrev LC:=List (Nat×aY)
abbrev cN (ps:List Sh) (rs:RS) (F:(Ty.cons (fQ []) (jT ps)).den→Option (Ty.cons rs.ty (fQ [])).den):aY:={ bZ:=false,pre:=[],ps:=ps,rs:=rs,post:=[],F:=F }
abbrev cT (ps:List Sh) (rs:RS) (F:(Ty.cons (fQ tape) (jT ps)).den→Option (Ty.cons rs.ty (fQ tape)).den):aY:={ bZ:=true,pre:=tape,ps:=ps,rs:=rs,post:=tape,F:=F }
def c68:aY:=cN [i,i] (.one i) fun x=>some (ah.cut x.2.1 x.2.2.1,())
def c69:aY:=cT [] (.one i) fun x=>ah.on (ah.wf x.1) (ah.raw x.1)
def c31:aY:=cT [i] (.one i) fun x=>ah.on (ah.wf x.1) (ah.next x.1 x.2.1)
def c5:aY:=cN [ls] (.uV tape) fun x=>some (ah.tape x.2.1,())
def c54:aY:=cT [i,i] (.one i) fun x=>ah.on (ah.wf x.1&&ah.small x.2.1&&ah.small x.2.2.1) (ah.range x.1 x.2.1 x.2.2.1)
def c28:aY:=cT [ls] (.one i) fun x=>ah.on (ah.wf x.1&&decide (0<x.2.1.length)&&decide (x.2.1.length≤1000)) (ah.pick x.1 x.2.1)
def c64:aY:=cT [i] (.one lso) fun x=>ah.on (ah.wf x.1&&ah.inside x.2.1 0 1000) (ah.order x.1 x.2.1.toNat)
def c154:aY:=cN [ls,ls] (.one b) fun x=>some (decide (x.2.1=x.2.2.1),())
def c27:aY:=cN [ls,i] (.one ls) fun x=>ah.on (decide (x.2.1.length≤1000000)) (ah.pW x.2.1 x.2.2.1,())
def apt:aY:=cT [i] (.one ls) fun x=>ah.on (ah.wf x.1&&ah.inside x.2.1 0 1000) (ah.sources x.1 x.2.1)
def c65:aY:=cT [] (.one fl) fun x=>ah.on (ah.wf x.1) (ah.filter x.1)
def apu:aY:=cN [fl] (.one i) fun x=>some (ah.dU x.2.1,())
def c109:aY:=cN [fl,fl] (.one b) fun x=>some (ah.pR x.2.1 x.2.2.1,())
def apv:aY:=cN [i,i,i] (.one b) fun x=>some (ah.inside x.2.1 x.2.2.1 x.2.2.2.1,())
def apw:aY:=cN [sg] (.one i) fun x=>some (ah.validate x.2.1,())
def apx:aY:=cN [ls,i] (.one b) fun x=>some (ah.has x.2.1 x.2.2.1,())
def c29:aY:=cT [i] (.one msg) fun x=>ah.x29 x.1 x.2.1
def c70:aY:=cT [] (.one Dt) fun x=>ah.x70 x.1
def c25:aY:=cT [i] (.one J7) fun x=>ah.x25 x.1 x.2.1
def c26:aY:=cT [J7] (.one pn) fun x=>ah.x26 x.1 x.2.1
def c74:aY:=cN [] (.one fl) fun x=>some ((1,[],()),())
def c168:aY:=cN [i,i,i] (.one b) fun x=>some (ah.inside x.2.1 x.2.2.1 x.2.2.2.1,())
def c130:aY:=cN [lit,i] (.one b) fun x=>ah.EC x.2.1 x.2.2.1
def apy:aY:=cN [sk] (.one i) fun x=>ah.xH x.2.1
def c66:aY:=cN [i,i,ls] (.fO [sk,i]) fun x=>ah.x66 x.2.1 x.2.2.1 x.2.2.2.1
def c124:aY:=cN [li] (.one i) fun x=>ah.Ck x.2.1
def c67:aY:=cN [ov] (.one i) fun x=>ah.Rp x.2.1
def c30:aY:=cN [ls] (.fO [ov,i]) fun x=>ah.x30 x.2.1
def c76:aY:=cN [ov,i] (.one i) fun x=>ah.ZO x.2.1 x.2.2.1
def c81:aY:=cN [ov] (.one ovg) fun x=>ah.x81 x.2.1
def apz:aY:=cN [Dt,b] (.one i) fun x=>ah.Rs x.2.1 x.2.2.1
def c77:aY:=cN [Dt] (.one i) fun x=>ah.W9 x.2.1
def apA:aY:=cN [Dt,i] (.one fl) fun x=>ah.HZ x.2.1 x.2.2.1
def c78:aY:=cN [Dt,Dt] (.fO [Dt,i]) fun x=>ah.x78 x.2.1 x.2.2.1
def c131:aY:=cN [lit,i] (.one fl) fun x=>ah.Rv x.2.1 x.2.2.1
def c79:aY:=cN [lit] (.one Dt) fun x=>ah.x79 x.2.1
def c171:aY:=cN [Dt,i] (.one b) fun x=>ah.Xa x.2.1 x.2.2.1
def apB:aY:=cN [Dt,Dt] (.fO [Dt,i]) fun x=>ah.Xb x.2.1 x.2.2.1
def apC:aY:=cN [lit,it] (.one lit) fun x=>ah.Ry x.2.1 x.2.2.1
def c80:aY:=cN [sk,Dt] (.fO [sk,i]) fun x=>ah.x80 x.2.1 x.2.2.1
def c34:aY:=cN [ov,i,Dt] (.fO [ov,i]) fun x=>ah.x34 x.2.1 x.2.2.1 x.2.2.2.1
def apD:aY:=cN [sk,Dt] (.fO [sk,i]) fun x=>ah.Xc x.2.1 x.2.2.1
def c71:aY:=cN [ov,i,Dt] (.fO [ov,i]) fun x=>ah.x71 x.2.1 x.2.2.1 x.2.2.2.1
def c82:aY:=cN [lsg,lfa] (.fO [lsg,apr]) fun x=>ah.x82 x.2.1 x.2.2.1
def apE:aY:=cN [sk,i] (.one i) fun x=>ah.RB x.2.1 x.2.2.1
def c83:aY:=cN [sk,sg] (.fO [sk,i]) fun x=>ah.x83 x.2.1 x.2.2.1
def c84:aY:=cN [li,sg] (.fO [li,sg,i]) fun x=>ah.x84 x.2.1 x.2.2.1
def c85:aY:=cN [sk,i] (.fO [lsg,i]) fun x=>ah.x85 x.2.1 x.2.2.1
def c35:aY:=cN [ov,lfa] (.fO [ov,i]) fun x=>ah.x35 x.2.1 x.2.2.1
def c36:aY:=cT [i] (.one lfa) fun x=>ah.x36 x.1 x.2.1
def c72:aY:=cT [i] (.one lfa) fun x=>ah.x72 x.1 x.2.1
def c32:aY:=cT [ov] (.one ov) fun x=>ah.x32 x.1 x.2.1
def c53:aY:=cN [fl,i] (.one b) fun x=>some (ah.iJ x.2.1 x.2.2.1,())
def apF:aY:=cN [bar,b] (.one fl) fun x=>ah.acJ x.2.1 x.2.2.1
def c127:aY:=cN [fl,fl,b] (.fO [fl,i]) fun x=>ah.Xd x.2.1 x.2.2.1 x.2.2.2.1
def c75:aY:=cN [fl,fl] (.fO [fl,i]) fun x=>ah.x75 x.2.1 x.2.2.1
def apG:aY:=cN [mb,i,i] (.one b) fun x=>some (ah.Hy x.2.1 x.2.2.1 x.2.2.2.1,())
def c52:aY:=cN [ms] (.one i) fun x=>some (ah.jw x.2.1,())
def c73:aY:=cN [ms] (.one ls) fun x=>ah.x73 x.2.1
def c33:aY:=cN [ms] (.fO [Dt,i]) fun x=>ah.x33 x.2.1
def c6:aY:=cT [i] (.one sc) fun x=>ah.x6 x.1 x.2.1
def c38:aY:=cT [sc] (.one i) fun x=>ah.x38 x.1 x.2.1
def c19:aY:=cT [] (.one fw) fun x=>ah.x19 x.1
def c50:aY:=cN [fw] (.one b) fun x=>some (ah.fM x.2.1,())
def c59:aY:=cN [fw,st] (.fO [st,i]) fun x=>ah.on (decide (x.2.2.1.length≤1000000)) (ah.wrap x.2.1 x.2.2.1,())
def c10:aY:=cN [st] (.fO [fw,st,i]) fun x=>some (ah.gG x.2.1,())
def c139:aY:=cN [ov,i] (.one b) fun x=>ah.R8 x.2.1 x.2.2.1
def apH:aY:=cN [li,i] (.fO [he,b]) fun x=>ah.Xe x.2.1 x.2.2.1
def apI:aY:=cN [li,i] (.one Dt) fun x=>ah.Xf x.2.1 x.2.2.1
def apJ:aY:=cN [ov,i,i] (.fO [Dt,i]) fun x=>ah.Xg x.2.1 x.2.2.1 x.2.2.2.1
def c141:aY:=cN [Dt,fw] (.one b) fun x=>ah.Xh x.2.1 x.2.2.1
def apK:aY:=cN [i] (.one b) fun x=>some (ah.dW x.2.1,())
def apL:aY:=cN [i,i,i] (.one b) fun x=>some (ah.inside x.2.1 x.2.2.1 x.2.2.2.1,())
def c57:aY:=cN [i,i,i] (.fO [i,b]) fun x=>some (ah.at_ x.2.1 x.2.2.1 x.2.2.2.1,())
def apM:aY:=cN [i,i] (.fO [i,i,b]) fun x=>some (ah.place x.2.1 x.2.2.1,())
def apN:aY:=cN [ls] (.one b) fun x=>some (ah.repeats x.2.1,())
def c55:aY:=cN [pn] (.one b) fun x=>some (ah.dZ x.2.1,())
def apO:aY:=cN [pn,i] (.fO [ed,b]) fun x=>some (ah.Dp x.2.1 x.2.2.1,())
def apP:aY:=cN [i] (.one u) fun x=>some (ah.Bt.fK x.2.1,())
def apQ:aY:=cN [pn,ls] (.fO [lb,i]) fun x=>some (ah.sets x.2.1 x.2.2.1,())
def c88:aY:=cN [ov,pn,i,fw] (.fO [ls,i]) fun x=>ah.x88 x.2.1 x.2.2.1 x.2.2.2.1 x.2.2.2.2.1
def c89:aY:=cN [i,i] (.one i) fun x=>ah.x89 x.2.1 x.2.2.1
def apR:aY:=cN [i] (.one u) fun x=>some (ah.Bt.full x.2.1,())
def apS:aY:=cN [i,i] (.one b) fun x=>some (ah.inside x.2.1 0 x.2.2.1,())
def c116:aY:=cN [u,i] (.one b) fun x=>some (ah.kJ x.2.1 x.2.2.1,())
def c56:aY:=cN [p] (.one b) fun x=>some (ah.dz x.2.1,())
def c90:aY:=cN [pn,ls,p] (.fO [lpk,i]) fun x=>ah.x90 x.2.1 x.2.2.1 x.2.2.2.1
def c39:aY:=cN [ov,pn,i,fw,st] (.fO [lpk,i]) fun x=>ah.x39 x.2.1 x.2.2.1 x.2.2.2.1 x.2.2.2.2.1 x.2.2.2.2.2.1
def c196:aY:=cN [i,i,i] (.one b) fun x=>some (ah.inside x.2.1 x.2.2.1 x.2.2.2.1,())
def apT:aY:=cN [ls,i] (.one b) fun x=>some (ah.has x.2.1 x.2.2.1,())
def apU:aY:=cN [tbw] (.one i) fun x=>some (ah.sD x.2.1,())
def c143:aY:=cN [ltb] (.one i) fun x=>ah.Xi x.2.1
def c92:aY:=cN [ltb,i] (.fO [tbw,b]) fun x=>ah.x92 x.2.1 x.2.2.1
def c91:aY:=cN [ltb,p,i] (.one i) fun x=>ah.x91 x.2.1 x.2.2.1 x.2.2.2.1
def apV:aY:=cN [u,i] (.one b) fun x=>some (ah.Bt.has x.2.1 x.2.2.1,())
def c183:aY:=cN [u] (.one ls) fun x=>some (ah.Bt.list x.2.1,())
def apW:aY:=cN [u,i] (.one i) fun x=>some (ah.Bt.nth x.2.1 x.2.2.1,())
def apX:aY:=cN [u] (.one i) fun x=>some (ah.Bt.nth x.2.1 0,())
def c182:aY:=cN [tbw,i] (.fO [rww,b]) fun x=>some (ah.fF x.2.1 x.2.2.1,())
def c145:aY:=cN [tbw,i,i] (.one i) fun x=>ah.on (decide (0≤x.2.2.2.1)) (ah.Bl x.2.1 x.2.2.1 x.2.2.2.1,())
def c146:aY:=cN [p] (.one i) fun x=>some (ah.aK x.2.1,())
def c148:aY:=cN [tbw,i,i,i] (.one u) fun x=>ah.on (decide (0≤x.2.2.1)&&decide (0≤x.2.1.2.2.1)&&decide (x.2.1.2.2.1≤64)) (ah.ow x.2.1 x.2.2.1 x.2.2.2.1 x.2.2.2.2.1,())
def apY:aY:=cN [p,u] (.fO [p,b]) fun x=>some (ah.masked x.2.1 x.2.2.1,())
def c93:aY:=cN [tbw,p] (.one oc) fun x=>ah.on (decide (ah.sD x.2.1=0)&&ah.dz x.2.2.1&&decide (x.2.1.2.2.1=ah.ln x.2.2.1)) (ah.sF x.2.1 x.2.2.1,())
def apZ:aY:=cN [p,i] (.one p) fun x=>some (ah.only x.2.1 x.2.2.1,())
def ap0:aY:=cN [i,oc,p] (.one ldl) fun x=>some (ah.uf x.2.1 x.2.2.1 x.2.2.2.1,())
def c94:aY:=cN [trg,i,p,oc] (.one trg) fun x=>ah.x94 x.2.1 x.2.2.1 x.2.2.2.1 x.2.2.2.2.1
def c40:aY:=cN [ltb,p,i] (.fO [tr,i]) fun x=>ah.x40 x.2.1 x.2.2.1 x.2.2.2.1
def ap1:aY:=cN [i] (.one b) fun x=>some (ah.inside x.2.1 1 1000,())
def ap2:aY:=cN [J7,i] (.one b) fun x=>some (ah.ni x.2.1.1 x.2.2.1,())
def c86:aY:=cN [J7] (.one i) fun x=>some (ah.xD x.2.1,())
def ap3:aY:=cN [J7,i] (.one b) fun x=>some (ah.Ey x.2.1 x.2.2.1,())
def ap4:aY:=cN [J7,i] (.one b) fun x=>some (ah.Bj x.2.1 x.2.2.1,())
def c194:aY:=cN [J7,i,i] (.fO [i,b]) fun x=>some (ah.price x.2.1.2.1 x.2.2.1 x.2.2.2.1,())
def c193:aY:=cN [J7,i] (.one lso) fun x=>some (ah.near x.2.1 x.2.2.1,())
def c175:aY:=cN [ls,i] (.one ls) fun x=>ah.x107 x.2.1 x.2.2.1
def ap5:aY:=cN [J7,i] (.one i) fun x=>ah.HV x.2.1 x.2.2.1
def c173:aY:=cN [J7,i] (.one ls) fun x=>ah.x105 x.2.1 x.2.2.1
def ap6:aY:=cN [J7,ls,i] (.one i) fun x=>ah.yM x.2.1 x.2.2.1 x.2.2.2.1
def ap7:aY:=cN [J7,ls,i] (.one ls) fun x=>ah.HY x.2.1 x.2.2.1 x.2.2.2.1
def c138:aY:=cN [J7,i,i] (.one ls) fun x=>ah.x102 x.2.1 x.2.2.1 x.2.2.2.1
def c87:aY:=cN [J7,pn,i] (.one tbw) fun x=>ah.x87 x.2.1 x.2.2.1 x.2.2.2.1
def c37:aY:=cN [J7,pn] (.fO [ltb,i]) fun x=>ah.x57 x.2.1 x.2.2.1
def c7:aY:=cT [sc] (.one aps) fun x=>ah.x7 x.1 x.2.1
def c95:aY:=cN [i,i,i] (.one b) fun x=>some (ah.inside x.2.1 x.2.2.1 x.2.2.2.1,())
def c96:aY:=cN [i] (.one b) fun x=>some (ah.dW x.2.1,())
def c98:aY:=cN [ed,vE] (.one b) fun x=>some (decide (x.2.1.1=x.2.2.1.1),())
def ap8:aY:=cN [les,ah5] (.one i) fun x=>some (ah.idx (fun e=>decide (e.1=x.2.2.1.1)) x.2.1,())
def c97:aY:=cN [les,ah5] (.one b) fun x=>some (x.2.1.any (fun e=>decide (e.1=x.2.2.1.1)),())
def c41:aY:=cN [pn] (.one b) fun x=>some (ah.dZ x.2.1,())
def c99:aY:=cN [i,i] (.one b) fun x=>some (ah.inside x.2.1 0 x.2.2.1,())
def c152:aY:=cN [i] (.one u) fun x=>some (ah.Bt.full x.2.1,())
def ap9:aY:=cN [u,i] (.one b) fun x=>some (ah.kJ x.2.1 x.2.2.1,())
def c42:aY:=cN [p] (.one b) fun x=>some (ah.dz x.2.1,())
def c43:aY:=cN [u] (.one i) fun x=>some (ah.count x.2.1,())
def c45:aY:=cN [u] (.one i) fun x=>ah.on (!decide (x.2.1=0)) (ah.Bt.nth x.2.1 0,())
def c44:aY:=cN [i,i,i] (.fO [i,b]) fun x=>some (ah.at_ x.2.1 x.2.2.1 x.2.2.2.1,())
def aqa:aY:=cN [les,ed] (.one i) fun x=>some (ah.idx (fun y=>decide (x.2.2.1=y)) x.2.1,())
def c46:aY:=cN [les,ed] (.one b) fun x=>some (x.2.1.any fun y=>decide (x.2.2.1=y),())
def c8:aY:=cN [pn,dl] (.one b) fun x=>some (ah.accept x.2.1 x.2.2.1,())
def aqb:aY:=cN [i] (.one b) fun x=>some (false,())
def aqc:aY:=cN [i,i] (.one i) fun x=>some (ah.gV x.2.1 x.2.2.1,())
def c119:aY:=cN [ls] (.one i) fun x=>some (ah.eH x.2.1,())
def aqe:aY:=cN [i,i,i] (.one b) fun x=>some (ah.inside x.2.1 x.2.2.1 x.2.2.2.1,())
def aqf:aY:=cN [fl] (.one i) fun x=>some (ah.dU x.2.1,())
def aqg:aY:=cN [fl] (.one b) fun x=>some (ah.O1 x.2.1,())
def c105:aY:=cN [mb,ed] (.one i) fun x=>some (ah.eH [ah.gV x.2.1.2.1 x.2.2.1.1,ah.gV x.2.1.1 x.2.2.1.2.1],())
def c47:aY:=cN [ms] (.one i) fun x=>some (ah.jw x.2.1,())
def aqh:aY:=cN [fw] (.one b) fun x=>some (ah.fM x.2.1,())
def c48:aY:=cN [st] (.fO [fw,st,i]) fun x=>some (ah.gG x.2.1,())
def c51:aY:=cN [fw,st] (.fO [st,i]) fun x=>ah.on (decide (x.2.2.1.length≤1000000)) (ah.wrap x.2.1 x.2.2.1,())
def aqi:aY:=cN [ls,i] (.one i) fun x=>some (ah.idx (fun y=>decide (x.2.2.1=y)) x.2.1,())
def c198:aY:=cN [ls,i] (.one b) fun x=>some (x.2.1.any fun y=>decide (x.2.2.1=y),())
def aqj:aY:=cN [fl,i] (.one b) fun x=>some (ah.has x.2.1.2.1 x.2.2.1==decide (x.2.1.1=1),())
def aqk:aY:=cN [fl,i] (.one b) fun x=>some (ah.iJ x.2.1 x.2.2.1,())
def c107:aY:=cN [ms,fw] (.one ls) fun x=>some (ah.hosts x.2.1 x.2.2.1,())
def c13:aY:=cN [ms,fw] (.one ls) fun x=>some (ah.hosts x.2.1 x.2.2.1,())
def c49:aY:=cN [ms,i,fw,st] (.one Sm) fun x=>some (ah.recs x.2.1 x.2.2.1 x.2.2.2.1 x.2.2.2.2.1,())
def c9:aY:=cN [pn,ms,dl] (.fO [Sm,i]) fun x=>some (ah.gH x.2.1 x.2.2.1 x.2.2.2.1,())
def c11:aY:=cN [ms,i,fw,st] (.fO [Sm,i]) fun x=>ah.on (decide (x.2.2.2.2.1.length≤1000000)) (ah.je x.2.1 x.2.2.1 x.2.2.2.1 x.2.2.2.2.1,())
def c12:aY:=cN [lr,lr] (.one b) fun x=>some (ah.pU x.2.1 x.2.2.1,())
def c14:aY:=cN [] (.one b) fun x=>some (true,())
def c3:aY:=cN [ls] (.one b) fun x=>some (true,())
abbrev L0:List (Nat×aY):=[]
abbrev L68:LC:=(68,c68)::L0
abbrev L69:LC:=(69,c69)::L68
abbrev L31:LC:=(31,c31)::L69
abbrev L5:LC:=(5,c5)::L31
abbrev L54:LC:=(54,c54)::L5
abbrev L28:LC:=(28,c28)::L54
abbrev L64:LC:=(64,c64)::L28
abbrev ah7:LC:=(154,c154)::L64
abbrev L27:LC:=(27,c27)::ah7
abbrev ah8:LC:=(122,apt)::L27
abbrev L65:LC:=(65,c65)::ah8
abbrev ah9:LC:=(108,apu)::L65
abbrev aia:LC:=(109,c109)::ah9
abbrev aib:LC:=(169,apv)::aia
abbrev aic:LC:=(125,apw)::aib
abbrev aie:LC:=(111,apx)::aic
abbrev L29:LC:=(29,c29)::aie
abbrev L70:LC:=(70,c70)::L29
abbrev L25:LC:=(25,c25)::L70
abbrev L26:LC:=(26,c26)::L25
abbrev L74:LC:=(74,c74)::L26
abbrev aif:LC:=(168,c168)::L74
abbrev aii:LC:=(130,c130)::aif
abbrev aij:LC:=(123,apy)::aii
abbrev L66:LC:=(66,c66)::aij
abbrev aik:LC:=(124,c124)::L66
abbrev L67:LC:=(67,c67)::aik
abbrev L30:LC:=(30,c30)::L67
abbrev L76:LC:=(76,c76)::L30
abbrev L81:LC:=(81,c81)::L76
abbrev ail:LC:=(128,apz)::L81
abbrev L77:LC:=(77,c77)::ail
abbrev ain:LC:=(129,apA)::L77
abbrev L78:LC:=(78,c78)::ain
abbrev aio:LC:=(131,c131)::L78
abbrev L79:LC:=(79,c79)::aio
abbrev aip:LC:=(171,c171)::L79
abbrev aiq:LC:=(132,apB)::aip
abbrev air:LC:=(133,apC)::aiq
abbrev L80:LC:=(80,c80)::air
abbrev L34:LC:=(34,c34)::L80
abbrev ais:LC:=(126,apD)::L34
abbrev L71:LC:=(71,c71)::ais
abbrev L82:LC:=(82,c82)::L71
abbrev ait:LC:=(134,apE)::L82
abbrev L83:LC:=(83,c83)::ait
abbrev L84:LC:=(84,c84)::L83
abbrev L85:LC:=(85,c85)::L84
abbrev L35:LC:=(35,c35)::L85
abbrev L36:LC:=(36,c36)::L35
abbrev L72:LC:=(72,c72)::L36
abbrev L32:LC:=(32,c32)::L72
abbrev L53:LC:=(53,c53)::L32
abbrev aiu:LC:=(170,apF)::L53
abbrev aiv:LC:=(127,c127)::aiu
abbrev L75:LC:=(75,c75)::aiv
abbrev aiw:LC:=(110,apG)::L75
abbrev L52:LC:=(52,c52)::aiw
abbrev L73:LC:=(73,c73)::L52
abbrev L33:LC:=(33,c33)::L73
abbrev L6:LC:=(6,c6)::L33
abbrev L38:LC:=(38,c38)::L6
abbrev L19:LC:=(19,c19)::L38
abbrev L50:LC:=(50,c50)::L19
abbrev L59:LC:=(59,c59)::L50
abbrev L10:LC:=(10,c10)::L59
abbrev aix:LC:=(139,c139)::L10
abbrev aiy:LC:=(195,apH)::aix
abbrev aiz:LC:=(177,apI)::aiy
abbrev aiA:LC:=(140,apJ)::aiz
abbrev aiB:LC:=(141,c141)::aiA
abbrev aiC:LC:=(113,apK)::aiB
abbrev aiD:LC:=(112,apL)::aiC
abbrev L57:LC:=(57,c57)::aiD
abbrev aiE:LC:=(179,apM)::L57
abbrev aiF:LC:=(114,apN)::aiE
abbrev L55:LC:=(55,c55)::aiF
abbrev aiG:LC:=(178,apO)::L55
abbrev aiH:LC:=(147,apP)::aiG
abbrev aiI:LC:=(142,apQ)::aiH
abbrev L88:LC:=(88,c88)::aiI
abbrev L89:LC:=(89,c89)::L88
abbrev aiJ:LC:=(155,apR)::L89
abbrev aiK:LC:=(115,apS)::aiJ
abbrev aiL:LC:=(116,c116)::aiK
abbrev L56:LC:=(56,c56)::aiL
abbrev L90:LC:=(90,c90)::L56
abbrev L39:LC:=(39,c39)::L90
abbrev aiM:LC:=(196,c196)::L39
abbrev aiN:LC:=(176,apT)::aiM
abbrev aiO:LC:=(180,apU)::aiN
abbrev aiP:LC:=(143,c143)::aiO
abbrev L92:LC:=(92,c92)::aiP
abbrev L91:LC:=(91,c91)::L92
abbrev aiQ:LC:=(197,apV)::L91
abbrev aiR:LC:=(183,c183)::aiQ
abbrev aiS:LC:=(181,apW)::aiR
abbrev aiT:LC:=(144,apX)::aiS
abbrev aiU:LC:=(182,c182)::aiT
abbrev L145:LC:=(145,c145)::aiU
abbrev aiV:LC:=(146,c146)::L145
abbrev aiW:LC:=(148,c148)::aiV
abbrev aiX:LC:=(149,apY)::aiW
abbrev L93:LC:=(93,c93)::aiX
abbrev aiY:LC:=(184,apZ)::L93
abbrev aiZ:LC:=(150,ap0)::aiY
abbrev L94:LC:=(94,c94)::aiZ
abbrev L40:LC:=(40,c40)::L94
abbrev ai0:LC:=(135,ap1)::L40
abbrev ai1:LC:=(136,ap2)::ai0
abbrev L86:LC:=(86,c86)::ai1
abbrev ai2:LC:=(137,ap3)::L86
abbrev ai3:LC:=(172,ap4)::ai2
abbrev ai4:LC:=(194,c194)::ai3
abbrev ai5:LC:=(193,c193)::ai4
abbrev ai6:LC:=(175,c175)::ai5
abbrev ai7:LC:=(191,ap5)::ai6
abbrev ai8:LC:=(173,c173)::ai7
abbrev L192:LC:=(192,ap6)::ai8
abbrev ai9:LC:=(174,ap7)::L192
abbrev aja:LC:=(138,c138)::ai9
abbrev L87:LC:=(87,c87)::aja
abbrev L37:LC:=(37,c37)::L87
abbrev L7:LC:=(7,c7)::L37
abbrev L95:LC:=(95,c95)::L7
abbrev L96:LC:=(96,c96)::L95
abbrev L98:LC:=(98,c98)::L96
abbrev ajb:LC:=(151,ap8)::L98
abbrev L97:LC:=(97,c97)::ajb
abbrev L41:LC:=(41,c41)::L97
abbrev L99:LC:=(99,c99)::L41
abbrev ajc:LC:=(152,c152)::L99
abbrev L100:LC:=(100,ap9)::ajc
abbrev L42:LC:=(42,c42)::L100
abbrev L43:LC:=(43,c43)::L42
abbrev L45:LC:=(45,c45)::L43
abbrev L44:LC:=(44,c44)::L45
abbrev ajd:LC:=(101,aqa)::L44
abbrev L46:LC:=(46,c46)::ajd
abbrev L8:LC:=(8,c8)::L46
abbrev aje:LC:=(166,aqb)::L8
abbrev ajg:LC:=(120,aqc)::aje
abbrev aji:LC:=(119,c119)::ajg
abbrev ajj:LC:=(102,aqe)::aji
abbrev ajk:LC:=(103,aqf)::ajj
abbrev ajl:LC:=(104,aqg)::ajk
abbrev ajm:LC:=(105,c105)::ajl
abbrev L47:LC:=(47,c47)::ajm
abbrev L106:LC:=(106,aqh)::L47
abbrev L48:LC:=(48,c48)::L106
abbrev L51:LC:=(51,c51)::L48
abbrev ajn:LC:=(200,aqi)::L51
abbrev L198:LC:=(198,c198)::ajn
abbrev ajo:LC:=(185,aqj)::L198
abbrev ajp:LC:=(153,aqk)::ajo
abbrev ajq:LC:=(107,c107)::ajp
abbrev L13:LC:=(13,c13)::ajq
abbrev L49:LC:=(49,c49)::L13
abbrev L9:LC:=(9,c9)::L49
abbrev L11:LC:=(11,c11)::L9
abbrev L12:LC:=(12,c12)::L11
abbrev L14:LC:=(14,c14)::L12
end
end Go.gI.qJ
namespace Go.gI.qJ
open Go Go.gI
set_option maxRecDepth 20000
set_option linter.unusedVariables false
noncomputable section
def zf (a0:@List ah.Rt) (a1:@List ah.Lk) (a2:List Int) (a3:Int) (a4:Int×Unit) (a5:Int×List Int×List Int×Unit):Option (Sum (Int×List Int×List Int×Unit) (List Int×Unit)):=bif decide (a5.1<Int.ofNat a5.2.2.1.length) then bif decide (0≤a5.1)&&decide (a5.1<Int.ofNat a5.2.2.1.length) then bif @Nat.blt (Int.toNat a5.1) a5.2.2.1.length then (bif decide (0≤a5.1)&&decide (a5.1<Int.ofNat a5.2.2.1.length) then bif @Nat.blt (Int.toNat a5.1) a5.2.2.1.length then (ah.yM (a0,a1,()) a2 (List.getD a5.2.2.1 (Int.toNat a5.1) 0)).bind fun y6=>bif decide (y6.1<1073741824) then bif decide (0≤a5.1)&&decide (a5.1<Int.ofNat a5.2.2.1.length) then bif @Nat.blt (Int.toNat a5.1) a5.2.2.1.length then (ah.yM (a0,a1,()) a2 (List.getD a5.2.2.1 (Int.toNat a5.1) 0)).bind fun y7=>some (a5.2.2.1,decide (IntKind.wrap .i64 ((ah.price a1 a3 (List.getD a5.2.2.1 (Int.toNat a5.1) 0)).1+y7.1)=a4.1),()) else none else none else some (a5.2.2.1,false,()) else none else none).bind fun y6=>(bif y6.2.1 then bif decide (0≤a5.1)&&decide (a5.1<Int.ofNat y6.1.length) then bif @Nat.blt (Int.toNat a5.1) y6.1.length then bif @Nat.ble ((a5.2.1.length+1)*8) 140737488355328 then some (a5.2.1++List.getD y6.1 (Int.toNat a5.1) 0::[],y6.1,()) else none else none else none else some (a5.2.1,y6.1,())).bind fun y7=>some (.inl (IntKind.wrap .i64 (a5.1+1),y7)) else none else none else some (.inr (a5.2.1,()))
def ajr (a0:@List ah.Rt) (a1:@List ah.Lk) (a2:List Int) (a3:Int):Option (List Int×Unit):=(ah.yM (a0,a1,()) a2 a3).bind fun y4=>(bif !decide (y4.1=1073741824) then some (decide (y4.1=0),()) else some (true,())).bind fun y5=>bif y5.1 then some ([],()) else (Loop (@zf a0 a1 a2 a3 y4) (0,[],ah.near (a0,a1,()) a3,())).bind fun y6=>some y6
def g45 (a0:Int):Option (Int×Unit):=let q1:=IntKind.wrap .u64 (IntKind.wrap .u64 (Int.ofNat (BitVec.toNat (BitVec.and (BitVec.ofInt 64 a0) (BitVec.ofInt 64 (IntKind.wrap .u64 (0 - a0))))))*285870213051353865);bif decide (a0=0) then some (64,()) else bif decide (0≤@Int.fdiv q1 288230376151711744)&&decide (@Int.fdiv q1 288230376151711744<64) then bif @Nat.blt (0+Int.toNat (@Int.fdiv q1 288230376151711744)*1) 64 then some (IntKind.wrap .i64 (List.getD (0::1::56::2::57::49::28::3::61::58::42::50::38::29::17::4::62::47::59::36::45::43::51::22::53::39::33::30::24::18::12::5::63::55::48::27::60::41::37::16::46::35::44::21::52::32::23::11::54::26::40::15::34::20::31::10::25::14::19::9::13::8::7::6::[]) (0+Int.toNat (@Int.fdiv q1 288230376151711744)*1) 0),()) else none else none
def vV (a0 a1 a2 a3 a4 a5 a6 a7 a8 a9 bJ:Int) (bS:List Int) (a12:Int×@List ah.Dl×Unit):Option (Sum (Int×@List ah.Dl×Unit) (@List ah.Dl×Unit)):=bif decide (a12.1<Int.ofNat (ah.Bt.list a1).length) then bif decide (0≤a12.1)&&decide (a12.1<Int.ofNat (ah.Bt.list a1).length) then bif @Nat.ble ((a12.2.1.length+1)*96) 140737488355328 then some (.inl (IntKind.wrap .i64 (a12.1+1),a12.2.1++(a0,ah.only (a2,a3,a4,a5,a6,a7,a8,a9,bJ,bS,()) (List.getD (ah.Bt.list a1) (Int.toNat a12.1) 0),())::[],())) else none else none else some (.inr a12.2)
def ajs (a0 a1 a2:Int) (a3:@List ah.Cp) (a4 a5 a6 a7 a8 a9 bJ bS a12:Int) (dD:List Int):Option (@List ah.Dl×Unit):=(Loop (@vV a0 a1 a4 a5 a6 a7 a8 a9 bJ bS a12 dD) (0,[],())).bind fun iV=>some iV
def Br (a0:Int) (a1:Int×List Int×ah.Tp×Unit):Option (Sum (Int×List Int×ah.Tp×Unit) (List Int×ah.Tp×Unit)):=let q1:=List.take (Int.toNat (Int.ofNat a1.2.1.length)) a1.2.1;bif decide (a1.1<a0) then (ah.on (ah.wf a1.2.2.1) (ah.next a1.2.2.1 (IntKind.wrap .i64 (Int.ofNat a1.2.1.length+1)))).bind fun y2=>let q2:=List.drop (Int.toNat y2.1) q1;let q3:=List.drop 0 (List.take (Int.toNat y2.1) a1.2.1);bif decide (0≤y2.1)&&decide (y2.1≤Int.ofNat a1.2.1.length)&&decide (Int.ofNat a1.2.1.length≤Int.ofNat a1.2.1.length) then bif @Nat.ble ((1+q2.length)*8) 140737488355328 then bif true&&decide (0≤y2.1)&&decide (y2.1≤Int.ofNat a1.2.1.length)&&decide (y2.1=y2.1) then bif true&&@Nat.ble ((q3.length+(a1.1::([]++q2)).length)*8) 140737488355328 then some (.inl (IntKind.wrap .i64 (a1.1+1),q3++a1.1::([]++q2),y2.2,())) else none else none else none else none else some (.inr a1.2)
def g64 (a0:List Int) (a1 a2:Int):Option (List Int×ah.Tp):=(Loop (@Br a2) (0,[],(a0,a1,()),())).bind fun y3=>some (y3.1,y3.2.1)
def vW (a0 a1 a2:Int) (a3:@List ah.Fl) (a4 a5 a6:Int) (a7:ah.Ed):Option (Sum ah.Ed (Int×Unit)):=bif decide (a7.1<a2) then (bif (ah.at_ a5 a7.1 a2).2.1 then bif decide (a6 > 0) then (ah.on (decide (0≤a4)) (ah.Bl (a0,a1,a2,a3,()) (ah.at_ a5 a7.1 a2).1 a4,())).bind fun y8=>some (decide (y8.1=a6),()) else some (false,()) else some (false,())).bind fun y8=>(bif y8.1 then some (IntKind.wrap .u64 (Int.ofNat (BitVec.toNat (BitVec.or (BitVec.ofInt 64 a7.2.1) (BitVec.ofInt 64 (ah.Bt.fK a7.1))))),()) else some a7.2).bind fun y9=>some (.inl (IntKind.wrap .i64 (a7.1+1),y9)) else some (.inr a7.2)
def ajt (a0 a1 a2:Int) (a3:@List ah.Fl) (a4 a5 a6:Int):Option (Int×Unit):=(Loop (@vW a0 a1 a2 a3 a4 a5 a6) (0,0,())).bind fun y7=>some y7
def zh (a0:List Int) (a1 a2:Int×Unit):Option (Sum (Int×Unit) (Bool×(Bool×Unit)×Unit)):=bif decide (a2.1<a1.1) then bif decide (0≤a1.1)&&decide (a1.1<Int.ofNat a0.length) then bif decide (0≤a2.1)&&decide (a2.1<Int.ofNat a0.length) then bif decide (List.getD a0 (Int.toNat a1.1) 0=List.getD a0 (Int.toNat a2.1) 0) then some (.inr (true,(true,()),())) else some (.inl (IntKind.wrap .i64 (a2.1+1),())) else none else none else some (.inr (false,(false,()),()))
def zi (a0:List Int) (a1:Int×Unit):Option (Sum (Int×Unit) (Bool×(Bool×Unit)×Unit)):=bif decide (a1.1<Int.ofNat a0.length) then (Loop (@zh a0 a1) (0,())).bind fun y2=>bif y2.1 then some (.inr (true,y2.2)) else some (.inl (IntKind.wrap .i64 (a1.1+1),())) else some (.inr (false,(false,()),()))
def aju (a0:List Int):Option (Bool×Unit):=(Loop (@zi a0) (0,())).bind fun y1=>bif y1.1 then some y1.2.1 else some (false,())
def ajv (a0 a1 a2:Int) (a3:@List ah.Fl) (a4 a5:Int):Option (Int×Unit):=(bif !!(ah.fF (a0,a1,a2,a3,()) a4).2.1 then some (decide (Int.ofNat (ah.fF (a0,a1,a2,a3,()) a4).1.2.1.length=0),()) else some (true,())).bind fun y6=>bif y6.1 then some (0,()) else bif !decide (Int.ofNat (ah.fF (a0,a1,a2,a3,()) a4).1.2.1.length=0) then bif decide (0≤@Int.tmod a5 (Int.ofNat (ah.fF (a0,a1,a2,a3,()) a4).1.2.1.length))&&decide (@Int.tmod a5 (Int.ofNat (ah.fF (a0,a1,a2,a3,()) a4).1.2.1.length)<Int.ofNat (ah.fF (a0,a1,a2,a3,()) a4).1.2.1.length) then some (List.getD (ah.fF (a0,a1,a2,a3,()) a4).1.2.1 (Int.toNat (@Int.tmod a5 (Int.ofNat (ah.fF (a0,a1,a2,a3,()) a4).1.2.1.length))) 0,()) else none else none
def g42 (a0 a1 a2 a3 a4 a5 a6 a7 a8:Int) (a9:List Int):Option (Bool×Unit):=(bif decide (a0≥1) then bif decide (a0≤3) then bif ah.inside a1 0 7 then bif ah.inside a2 0 31 then bif ah.kJ a8 a3 then bif ah.inside a4 0 63 then bif ah.inside a5 0 1023 then bif ah.inside a6 0 256 then bif ah.inside a7 0 7 then some (decide (Int.ofNat a9.length≤64),()) else some (false,()) else some (false,()) else some (false,()) else some (false,()) else some (false,()) else some (false,()) else some (false,()) else some (false,()) else some (false,())).bind fun mq=>some mq
def Xj (a0:@List ah.Rt) (a1:Int) (a2:Int×Unit):Option (Sum (Int×Unit) (Bool×(Int×Unit)×Unit)):=bif decide (a2.1<Int.ofNat a0.length) then bif decide (0≤a2.1)&&decide (a2.1<Int.ofNat a0.length) then bif decide ((List.getD a0 (Int.toNat a2.1) (0,false,())).1=a1) then some (.inr (true,a2,())) else some (.inl (IntKind.wrap .i64 (a2.1+1),())) else none else some (.inr (false,(0,()),()))
def aqm (a0:@List ah.Rt) (a1:@List ah.Lk) (a2:Int):Option (Int×Unit):=(Loop (@Xj a0 a2) (0,())).bind fun y3=>bif y3.1 then some y3.2.1 else some (0,())
def ajw (a0 a1 a2 a3 a4 a5 a6 a7 a8:Int) (a9:List Int) (bJ:Int):Option (ah.Pk×Unit):=(bif !!ah.dz (a0,a1,a2,a3,a4,a5,a6,a7,a8,a9,()) then some (!ah.Bt.has a8 bJ,()) else some (true,())).bind fun jP=>bif jP.1 then some ((0,0,0,0,0,0,0,0,0,[],()),()) else some ((a0,a1,a2,a3,a4,a5,a6,a7,ah.Bt.fK bJ,a9,()),())
def g57 (a0 a1 a2:Int):Option (ah.Rt×Unit):=let q1:=IntKind.wrap .i64 (IntKind.wrap .i64 (IntKind.wrap .i64 (a0*a2)+a1)+1);(bif !!ah.dW a2 then bif !!ah.inside a1 0 (IntKind.wrap .i64 (a2 - 1)) then some (!ah.inside a0 0 31,()) else some (true,()) else some (true,())).bind fun y3=>bif y3.1 then some ((0,false,()),()) else bif decide (q1 > 256) then some ((0,false,()),()) else some ((q1,true,()),())
def zk (a0:List Int) (a1:Int) (a2:Int×Unit):Option (Sum (Int×Unit) (Bool×(Bool×Unit)×Unit)):=bif decide (a2.1<Int.ofNat a0.length) then bif decide (0≤a2.1)&&decide (a2.1<Int.ofNat a0.length) then bif decide (List.getD a0 (Int.toNat a2.1) 0=a1) then some (.inr (true,(true,()),())) else some (.inl (IntKind.wrap .i64 (a2.1+1),())) else none else some (.inr (false,(false,()),()))
def ajx (a0:List Int) (a1:Int):Option (Bool×Unit):=(Loop (@zk a0 a1) (0,())).bind fun y2=>bif y2.1 then some y2.2.1 else some (false,())
def vX (a0:Int) (a1:ah.Fl):Option (Sum ah.Fl (List Int×Unit)):=bif decide (a1.1<64) then (bif ah.Bt.has a0 a1.1 then bif @Nat.ble ((a1.2.1.length+1)*8) 140737488355328 then some (a1.2.1++a1.1::[],()) else none else some a1.2).bind fun y2=>some (.inl (IntKind.wrap .i64 (a1.1+1),y2)) else some (.inr a1.2)
def ajy (a0:Int):Option (List Int×Unit):=(Loop (@vX a0) (0,[],())).bind fun y1=>some y1
def ajz (a0 a1:Int):Option (Bool×Unit):=(bif decide (a1≥0) then bif decide (a1<64) then bif decide (0≤IntKind.wrap .u64 a1) then some (decide (IntKind.wrap .u64 (Int.ofNat (BitVec.toNat (BitVec.and (BitVec.ofInt 64 (@Int.fdiv a0 (@Int.pow 2 (@Min.min Nat instMinNat (Int.toNat (IntKind.wrap .u64 a1)) 64)))) (BitVec.ofInt 64 1))))=1),()) else none else some (false,()) else some (false,())).bind fun y2=>some y2
def g28 (a0:List Int) (a1:Int) (a2:List Int):Option (Int×ah.Tp):=(ah.on (ah.wf (a0,a1,())) (ah.next (a0,a1,()) (Int.ofNat a2.length))).bind fun y3=>bif decide (0≤y3.1)&&decide (y3.1<Int.ofNat a2.length) then some (List.getD a2 (Int.toNat y3.1) 0,y3.2) else none
def g53 (a0:Int) (a1:List Int) (a2:Int):Option (Bool×Unit):=(bif decide (ah.dU (a0,a1,())=0) then bif decide (a2≥1) then some (decide (ah.has a1 a2=decide (a0=1)),()) else some (false,()) else some (false,())).bind fun y3=>some y3
def ajA (a0 a1:Int):Option (Bool×Unit):=(bif ah.dW a1 then some (decide (IntKind.wrap .u64 (Int.ofNat (BitVec.toNat (BitVec.and (BitVec.ofInt 64 a0) (BitVec.not (BitVec.ofInt 64 (ah.Bt.full a1))))))=0),()) else some (false,())).bind fun y2=>some y2
def aqn (a0 a1 a2:Int) (a3:List Int) (a4 a5 a6:Int):Option (Int×Unit):=some (ah.eH (ah.gV a1 a5::ah.gV a0 a6::[]),())
def g46 (a0:@List ah.Ed) (a1 a2:Int):Option (Bool×Unit):=some (decide (ah.idx (fun y3=>decide ((a1,a2,())=y3)) a0≥0),())
def ajB (a0:Int) (a1:List Int):Option (Bool×Unit):=(bif decide (a0=1) then some (decide (Int.ofNat a1.length=0),()) else some (false,())).bind fun y2=>some y2
def ajC (a0 a1 a2:Int):Option (Bool×Unit):=(bif decide (a0≥a1) then some (decide (a0≤a2),()) else some (false,())).bind fun y3=>some y3
def ajD (a0 a1 a2:Int):Option (Bool×Unit):=(bif decide (a0≥a1) then some (decide (a0≤a2),()) else some (false,())).bind fun y3=>some y3
def ajE (a0:Int):Option (Bool×Unit):=(bif decide (a0≥1) then some (decide (a0≤1000),()) else some (false,())).bind fun y1=>some y1
def aqo (a0:Int):Option (Int×Unit):=some (ah.Bt.nth a0 0,())
def g74 :Option (ah.Fl×Unit):=some ((1,[],()),())
end
noncomputable section
def g43 (a0:Int):Option (Int×Unit):=let q1:=IntKind.wrap .u64 (Int.ofNat (BitVec.toNat (BitVec.and (BitVec.ofInt 64 (IntKind.wrap .u64 (@Int.fdiv (IntKind.wrap .u64 (IntKind.wrap .u64 (Int.ofNat (BitVec.toNat (BitVec.and (BitVec.ofInt 64 (@Int.fdiv (IntKind.wrap .u64 (IntKind.wrap .u64 (Int.ofNat (BitVec.toNat (BitVec.and (BitVec.ofInt 64 (@Int.fdiv a0 2)) (BitVec.ofInt 64 6148914691236517205))))+IntKind.wrap .u64 (Int.ofNat (BitVec.toNat (BitVec.and (BitVec.ofInt 64 a0) (BitVec.ofInt 64 6148914691236517205)))))) 4)) (BitVec.ofInt 64 3689348814741910323))))+IntKind.wrap .u64 (Int.ofNat (BitVec.toNat (BitVec.and (BitVec.ofInt 64 (IntKind.wrap .u64 (IntKind.wrap .u64 (Int.ofNat (BitVec.toNat (BitVec.and (BitVec.ofInt 64 (@Int.fdiv a0 2)) (BitVec.ofInt 64 6148914691236517205))))+IntKind.wrap .u64 (Int.ofNat (BitVec.toNat (BitVec.and (BitVec.ofInt 64 a0) (BitVec.ofInt 64 6148914691236517205))))))) (BitVec.ofInt 64 3689348814741910323)))))) 16+IntKind.wrap .u64 (IntKind.wrap .u64 (Int.ofNat (BitVec.toNat (BitVec.and (BitVec.ofInt 64 (@Int.fdiv (IntKind.wrap .u64 (IntKind.wrap .u64 (Int.ofNat (BitVec.toNat (BitVec.and (BitVec.ofInt 64 (@Int.fdiv a0 2)) (BitVec.ofInt 64 6148914691236517205))))+IntKind.wrap .u64 (Int.ofNat (BitVec.toNat (BitVec.and (BitVec.ofInt 64 a0) (BitVec.ofInt 64 6148914691236517205)))))) 4)) (BitVec.ofInt 64 3689348814741910323))))+IntKind.wrap .u64 (Int.ofNat (BitVec.toNat (BitVec.and (BitVec.ofInt 64 (IntKind.wrap .u64 (IntKind.wrap .u64 (Int.ofNat (BitVec.toNat (BitVec.and (BitVec.ofInt 64 (@Int.fdiv a0 2)) (BitVec.ofInt 64 6148914691236517205))))+IntKind.wrap .u64 (Int.ofNat (BitVec.toNat (BitVec.and (BitVec.ofInt 64 a0) (BitVec.ofInt 64 6148914691236517205))))))) (BitVec.ofInt 64 3689348814741910323)))))))) (BitVec.ofInt 64 1085102592571150095))));let q2:=IntKind.wrap .u64 (IntKind.wrap .u64 (q1+@Int.fdiv q1 256)+@Int.fdiv (IntKind.wrap .u64 (q1+@Int.fdiv q1 256)) 65536);some (IntKind.wrap .i64 (Int.ofNat (BitVec.toNat (BitVec.and (BitVec.ofInt 64 (IntKind.wrap .i64 (IntKind.wrap .u64 (q2+@Int.fdiv q2 4294967296)))) (BitVec.ofInt 64 127)))),())
def xI (a0 a1 a2:Int) (a3:@List ah.Fl) (a4 a5 a6 a7 a8 a9 bJ bS a12:Int) (dD:List Int) (iR:Int×ah.Oc×Unit):Option (Sum (Int×ah.Oc×Unit) (ah.Oc×Unit)):=bif !decide (iR.1=0) then (ah.on (decide (0≤ah.aK (a4,a5,a6,a7,a8,a9,bJ,bS,a12,dD,()))) (ah.Bl (a0,a1,a2,a3,()) (ah.at_ a6 (ah.Bt.nth iR.1 0) a7).1 (ah.aK (a4,a5,a6,a7,a8,a9,bJ,bS,a12,dD,())),())).bind fun FN=>(bif decide (FN.1=0) then some ((iR.2.1.1,IntKind.wrap .u64 (Int.ofNat (BitVec.toNat (BitVec.or (BitVec.ofInt 64 iR.2.1.2.1) (BitVec.ofInt 64 (ah.Bt.fK (ah.Bt.nth iR.1 0)))))),iR.2.1.2.2),ah.Bt.fK (ah.Bt.nth iR.1 0),()) else (bif decide (FN.1=a0) then some (ah.Bt.fK (ah.Bt.nth iR.1 0),(IntKind.wrap .u64 (Int.ofNat (BitVec.toNat (BitVec.or (BitVec.ofInt 64 iR.2.1.1) (BitVec.ofInt 64 (ah.Bt.fK (ah.Bt.nth iR.1 0)))))),iR.2.1.2),()) else (ah.on (decide (0≤ah.aK (a4,a5,a6,a7,a8,a9,bJ,bS,a12,dD,()))&&decide (0≤a2)&&decide (a2≤64)) (ah.ow (a0,a1,a2,a3,()) (ah.aK (a4,a5,a6,a7,a8,a9,bJ,bS,a12,dD,())) a6 FN.1,())).bind fun J2=>let q1:=IntKind.wrap .u64 (Int.ofNat (BitVec.toNat (BitVec.and (BitVec.ofInt 64 iR.1) (BitVec.ofInt 64 J2.1))));(bif (ah.masked (a4,a5,a6,a7,a8,a9,bJ,bS,a12,dD,()) q1).2.1 then bif @Nat.ble ((iR.2.1.2.2.1.length+1)*120) 140737488355328 then some ((iR.2.1.1,iR.2.1.2.1,iR.2.1.2.2.1++(FN.1,([],(ah.masked (a4,a5,a6,a7,a8,a9,bJ,bS,a12,dD,()) q1).1,()),())::[],()),()) else none else some ((iR.2.1.1,IntKind.wrap .u64 (Int.ofNat (BitVec.toNat (BitVec.or (BitVec.ofInt 64 iR.2.1.2.1) (BitVec.ofInt 64 q1)))),iR.2.1.2.2),())).bind fun lC=>some (q1,lC)).bind fun J2=>some (J2.2.1,J2.1,())).bind fun J2=>some (.inl (IntKind.wrap .u64 (Int.ofNat (BitVec.toNat (BitVec.and (BitVec.ofInt 64 iR.1) (BitVec.not (BitVec.ofInt 64 J2.2.1))))),J2.1,())) else some (.inr iR.2)
def g93 (a0 a1 a2:Int) (a3:@List ah.Fl) (a4 a5 a6 a7 a8 a9 bJ bS a12:Int) (dD:List Int):Option (ah.Oc×Unit):=(Loop (@xI a0 a1 a2 a3 a4 a5 a6 a7 a8 a9 bJ bS a12 dD) (a12,(0,0,[],()),())).bind fun iV=>some iV
def EH (a0:Int) (a1:@List ah.Mb) (a2:Int×Unit):Option (Sum (Int×Unit) (Bool×(Int×Unit)×Unit)):=let q1:=List.getD a1 (Int.toNat a2.1) (0,0,(0,[],()),0,());bif decide (a2.1<Int.ofNat a1.length) then bif decide (0≤a2.1)&&decide (a2.1<Int.ofNat a1.length) then (bif !!ah.inside q1.1 1 99 then bif !!ah.inside q1.2.1 1 99 then some (!ah.inside q1.2.2.2.1 a0 (IntKind.wrap .i64 (a0+1000)),()) else some (true,()) else some (true,())).bind fun y3=>bif y3.1 then some (.inr (true,(2,()),())) else some (.inl (IntKind.wrap .i64 (a2.1+1),())) else none else some (.inr (false,(0,()),()))
def J8 (a0:@List ah.Mb) (a1:Int×Unit):Option (Sum (Int×Unit) (Bool×(Int×Unit)×Unit)):=let q1:=List.getD a0 (Int.toNat a1.1) (0,0,(0,[],()),0,());bif decide (a1.1<Int.ofNat a0.length) then bif decide (0≤a1.1)&&decide (a1.1<Int.ofNat a0.length) then bif !decide (ah.dU q1.2.2.1=0) then some (.inr (true,(ah.dU q1.2.2.1,()),())) else some (.inl (IntKind.wrap .i64 (a1.1+1),())) else none else some (.inr (false,(0,()),()))
def J9 (a0:@List ah.Mb) (a1:Int×Unit):Option (Sum (Int×Unit) (Bool×(Int×Unit)×Unit)):=bif decide (a1.1<Int.ofNat a0.length) then bif decide (0≤a1.1)&&decide (a1.1<Int.ofNat a0.length) then bif ah.O1 (List.getD a0 (Int.toNat a1.1) (0,0,(0,[],()),0,())).2.2.1 then some (.inr (true,(1,()),())) else some (.inl (IntKind.wrap .i64 (a1.1+1),())) else none else some (.inr (false,(0,()),()))
def EI (a0:@List ah.Mb) (a1:Int×Unit):Option (Sum (Int×Unit) (Bool×(Int×Unit)×Unit)):=let q1:=IntKind.wrap .i64 (a1.1 - 1);let q2:=List.getD a0 (Int.toNat a1.1) (0,0,(0,[],()),0,());let q3:=List.getD a0 (Int.toNat q1) (0,0,(0,[],()),0,());bif decide (a1.1<Int.ofNat a0.length) then bif decide (0≤a1.1)&&decide (a1.1<Int.ofNat a0.length) then bif decide (0≤q1)&&decide (q1<Int.ofNat a0.length) then bif decide (ah.eH (ah.gV q3.2.1 q2.2.1::ah.gV q3.1 q2.1::[])≥0) then some (.inr (true,(25,()),())) else some (.inl (IntKind.wrap .i64 (a1.1+1),())) else none else none else some (.inr (false,(0,()),()))
def g47 (a0:Int) (a1:@List ah.Mb):Option (Int×Unit):=bif !ah.inside a0 0 1000000 then some (2,()) else bif decide (Int.ofNat a1.length > 64) then some (3,()) else (Loop (@EH a0 a1) (0,())).bind fun y2=>bif y2.1 then some y2.2.1 else (Loop (@J8 a1) (0,())).bind fun y3=>bif y3.1 then some y3.2.1 else (Loop (@J9 a1) (0,())).bind fun y4=>bif y4.1 then some y4.2.1 else (Loop (@EI a1) (1,())).bind fun y5=>bif y5.1 then some y5.2.1 else some (0,())
def Xk (a0:@List ah.Rt) (a1:@List ah.Lk) (a2:List Int×Unit) (a3:List Int×ah.Tp):Option (Sum (List Int×ah.Tp) (List Int×List Int×Unit)):=let q1:=List.getD a2.1 (Int.toNat a3.2.2.1) 0;bif decide (a3.2.2.1<Int.ofNat a2.1.length) then bif decide (0≤a3.2.2.1)&&decide (a3.2.2.1<Int.ofNat a2.1.length) then (bif ah.Ey (a0,a1,()) q1 then bif decide (0≤a3.2.2.1)&&decide (a3.2.2.1<Int.ofNat a2.1.length) then (ah.x107 a3.2.1 q1).bind fun y4=>some (y4.1,a3.1,()) else none else bif decide (0≤a3.2.2.1)&&decide (a3.2.2.1<Int.ofNat a2.1.length) then (bif !ah.has a3.1 q1 then bif decide (0≤a3.2.2.1)&&decide (a3.2.2.1<Int.ofNat a2.1.length) then bif @Nat.ble ((a3.1.length+1)*8) 140737488355328 then some (a3.1++q1::[],()) else none else none else some (a3.1,())).bind fun y4=>some (a3.2.1,y4) else none).bind fun y4=>some (.inl (y4.2.1,y4.1,IntKind.wrap .i64 (a3.2.2.1+1),())) else none else some (.inr (a3.1,a3.2.1,()))
def Xl (a0:@List ah.Rt) (a1:@List ah.Lk) (a2:List Int×Unit) (a3:Int×List Int×List Int×Unit):Option (Sum (Int×List Int×List Int×Unit) (List Int×Unit)):=bif decide (a3.1<Int.ofNat a3.2.2.1.length) then bif decide (0≤a3.1)&&decide (a3.1<Int.ofNat a3.2.2.1.length) then bif @Nat.blt (Int.toNat a3.1) a3.2.2.1.length then (ah.HY (a0,a1,()) a2.1 (List.getD a3.2.2.1 (Int.toNat a3.1) 0)).bind fun y4=>(Loop (@Xk a0 a1 y4) (a3.2.2.1,a3.2.1,0,())).bind fun y5=>some (.inl (IntKind.wrap .i64 (a3.1+1),y5.2.1,y5.1,())) else none else none else some (.inr (a3.2.1,()))
def aqp (a0:@List ah.Rt) (a1:@List ah.Lk) (a2 a3:Int):Option (List Int×Unit):=(bif !!ah.Bj (a0,a1,()) a2 then bif !!ah.Bj (a0,a1,()) a3 then some (decide (a2=a3),()) else some (true,()) else some (true,())).bind fun y4=>bif y4.1 then some ([],()) else (ah.x105 (a0,a1,()) a3).bind fun y5=>(Loop (@Xl a0 a1 y5) (0,[],a2::[],())).bind fun y6=>some y6
def acN (a0:@List ah.Rt) (a1:@List ah.Lk) (a2:@List ah.Ed) (a3:Int) (a4:ah.Tb×Int×Unit):Option (Sum (ah.Tb×Int×Unit) (ah.Tb×Unit)):=let q1:=List.getD a2 (Int.toNat a4.2.1) (0,0,());bif decide (a4.2.1<Int.ofNat a2.length) then bif decide (0≤a4.2.1)&&decide (a4.2.1<Int.ofNat a2.length) then bif decide (0≤a4.2.1)&&decide (a4.2.1<Int.ofNat a2.length) then (bif decide (q1.1=a3) then some ((q1.2.1,a3::[],()),()) else bif decide (0≤a4.2.1)&&decide (a4.2.1<Int.ofNat a2.length) then (bif ah.Ey (a0,a1,()) q1.1 then bif decide (0≤a4.2.1)&&decide (a4.2.1<Int.ofNat a2.length) then (ah.x102 (a0,a1,()) a3 q1.1).bind fun y5=>some ((q1.2.1,y5),()) else none else some ((q1.2.1,[],()),())).bind fun y5=>some y5 else none).bind fun y5=>bif @Nat.ble ((a4.1.2.2.2.1.length+1)*32) 140737488355328 then some (.inl ((a4.1.1,a4.1.2.1,a4.1.2.2.1,a4.1.2.2.2.1++y5.1::[],()),IntKind.wrap .i64 (a4.2.1+1),())) else none else none else none else some (.inr (a4.1,()))
def g87 (a0:@List ah.Rt) (a1:@List ah.Lk) (a2 a3:Int) (a4:@List ah.Ed) (a5:Int):Option (ah.Tb×Unit):=(Loop (@acN a0 a1 a4 a5) ((a5,a2,a3,[],()),0,())).bind fun y6=>some y6
def EJ (a0:Int×List Int×ah.Tp×Unit):Option (Sum (Int×List Int×ah.Tp×Unit) (List Int×ah.Tp×Unit)):=bif decide (a0.1 > 0) then (ah.on (ah.wf a0.2.2.1&&ah.small 1&&ah.small 6) (ah.range a0.2.2.1 1 6)).bind fun y1=>(ah.on (ah.wf y1.2&&ah.small 1&&ah.small 20) (ah.range y1.2 1 20)).bind fun y2=>(ah.on (ah.wf y2.2&&ah.small 1&&ah.small 99) (ah.range y2.2 1 99)).bind fun y3=>(ah.on (ah.wf y3.2&&decide (0<(y1.1::y2.1::y3.1::[]).length)&&decide ((y1.1::y2.1::y3.1::[]).length≤1000)) (ah.pick y3.2 (y1.1::y2.1::y3.1::[]))).bind fun y4=>(ah.on (decide (a0.2.1.length≤1000000)) (ah.pW a0.2.1 y4.1,())).bind fun y5=>some (.inl (IntKind.wrap .i64 (a0.1 - 1),y5.1,y4.2,())) else some (.inr a0.2)
def ajF (a0:List Int) (a1 a2:Int):Option (List Int×ah.Tp):=(ah.on (ah.wf (a0,a1,())) (ah.next (a0,a1,()) (IntKind.wrap .i64 (a2+1)))).bind fun y3=>(Loop EJ (y3.1,[],y3.2,())).bind fun y4=>some (y4.1,y4.2.1)
def zl (a0:@List ah.Lk) (a1 a2:Int) (a3:Int×Unit):Option (Sum (Int×Unit) (Bool×(Bool×Int×Unit)×Unit)):=let q1:=List.getD a0 (Int.toNat a3.1) (0,0,0,0,0,());bif decide (a3.1<Int.ofNat a0.length) then bif decide (0≤a3.1)&&decide (a3.1<Int.ofNat a0.length) then (bif decide (q1.1=a1) then some (decide (q1.2.1=a2),()) else some (false,())).bind fun y4=>bif y4.1 then some (.inr (true,(true,q1.2.2.1,()),())) else (bif decide (q1.2.1=a1) then some (decide (q1.1=a2),()) else some (false,())).bind fun y5=>bif y5.1 then some (.inr (true,(true,q1.2.2.2.1,()),())) else some (.inl (IntKind.wrap .i64 (a3.1+1),())) else none else some (.inr (false,(false,0,()),()))
def ajG (a0:@List ah.Rt) (a1:@List ah.Lk) (a2 a3:Int):Option (ah.Rt×Unit):=(Loop (@zl a1 a2 a3) (0,())).bind fun y4=>bif y4.1 then some ((y4.2.1.2.1,y4.2.1.1,()),()) else some ((0,false,()),())
def Mc (a0:@List ah.Mb) (a1 a2:Int) (a3:ah.Tp):Option (Sum ah.Tp (List Int×Unit)):=let q1:=List.getD a0 (Int.toNat a3.2.1) (0,0,(0,[],()),0,());bif decide (a3.2.1<Int.ofNat a0.length) then bif decide (0≤a3.2.1)&&decide (a3.2.1<Int.ofNat a0.length) then (bif decide (q1.2.1=a2) then bif !decide (q1.1=a1) then some (ah.iJ q1.2.2.1 a1,()) else some (false,()) else some (false,())).bind fun y4=>(bif y4.1 then bif @Nat.ble ((a3.1.length+1)*8) 140737488355328 then some (a3.1++q1.1::[],()) else none else some (a3.1,())).bind fun y5=>some (.inl (y5.1,IntKind.wrap .i64 (a3.2.1+1),())) else none else some (.inr (a3.1,()))
def ajH (a0:Int) (a1:@List ah.Mb) (a2 a3:Int):Option (List Int×Unit):=bif !decide (ah.jw (a0,a1,())=0) then some ([],()) else (Loop (@Mc a1 a2 a3) ([],0,())).bind fun y4=>some y4
def vY (a0:@List ah.Fl) (a1:Int) (a2:ah.Fl×Int×Unit):Option (Sum (ah.Fl×Int×Unit) (Bool×(ah.Fl×Bool×Unit)×ah.Fl×Unit)):=let q1:=List.getD a0 (Int.toNat a2.2.1) (0,[],());bif decide (a2.2.1<Int.ofNat a0.length) then bif decide (0≤a2.2.1)&&decide (a2.2.1<Int.ofNat a0.length) then bif decide (q1.1=a1) then bif decide (0≤a2.2.1)&&decide (a2.2.1<Int.ofNat a0.length) then some (.inr (true,(q1,true,()),(0,[],()),())) else none else some (.inl (a2.1,IntKind.wrap .i64 (a2.2.1+1),())) else none else some (.inr (false,((0,[],()),false,()),a2.1,()))
def ajI (a0 a1 a2:Int) (a3:@List ah.Fl) (a4:Int):Option ((ah.Fl×Bool×Unit)×Unit):=(Loop (@vY a3 a4) ((0,[],()),0,())).bind fun y5=>bif y5.1 then some (y5.2.1,()) else some (((0,[],()),false,()),())
def ajJ (a0 a1 a2 a3 a4 a5 a6 a7 a8:Int) (a9:List Int) (bJ:Int):Option ((ah.Pk×Bool×Unit)×Unit):=let q1:=IntKind.wrap .u64 (Int.ofNat (BitVec.toNat (BitVec.and (BitVec.ofInt 64 a8) (BitVec.ofInt 64 bJ))));(bif !!ah.dz (a0,a1,a2,a3,a4,a5,a6,a7,a8,a9,()) then bif !decide (a4=0) then some (decide (q1=0),()) else some (true,()) else some (true,())).bind fun jP=>bif jP.1 then some (((0,0,0,0,0,0,0,0,0,[],()),false,()),()) else some (((a0,a1,a2,a3,IntKind.wrap .i64 (a4 - 1),a5,a6,a7,q1,a9,()),true,()),())
def g11 (a0:Int) (a1:@List ah.Mb) (a2 a3 a4:Int) (a5:List Int):Option ((@List ah.Rc×Int×Unit)×Unit):=bif !decide (ah.jw (a0,a1,())=0) then some (([],ah.jw (a0,a1,()),()),()) else (bif !decide (a2<1) then some (decide (a2 > 99),()) else some (true,())).bind fun y6=>bif y6.1 then some (([],2,()),()) else (ah.on (decide (a5.length≤1000000)) (ah.wrap (a3,a4,()) a5,())).bind fun y7=>bif !decide (y7.1.2.1=0) then some (([],y7.1.2),()) else some ((ah.recs (a0,a1,()) a2 (a3,a4,()) a5,0,()),())
def zm (a0 a1:List Int) (a2:Int×Unit):Option (Sum (Int×Unit) (Bool×(Bool×Unit)×Unit)):=bif decide (a2.1<Int.ofNat a0.length) then bif decide (0≤a2.1)&&decide (a2.1<Int.ofNat a0.length) then bif decide (0≤a2.1)&&decide (a2.1<Int.ofNat a1.length) then bif !decide (List.getD a0 (Int.toNat a2.1) 0=List.getD a1 (Int.toNat a2.1) 0) then some (.inr (true,(false,()),())) else some (.inl (IntKind.wrap .i64 (a2.1+1),())) else none else none else some (.inr (false,(false,()),()))
def ajK (a0 a1:List Int):Option (Bool×Unit):=bif !decide (Int.ofNat a0.length=Int.ofNat a1.length) then some (false,()) else (Loop (@zm a0 a1) (0,())).bind fun y2=>bif y2.1 then some y2.2.1 else some (true,())
def g10 (a0:List Int):Option ((ah.Ed×ah.Tp)×Unit):=let q1:=IntKind.wrap .i64 (List.getD a0 0 0);let q2:=IntKind.wrap .i64 (List.getD a0 1 0);bif decide (Int.ofNat a0.length<2) then some (((0,0,()),[],20,()),()) else bif true&&decide (0<Int.ofNat a0.length) then bif true&&decide (1<Int.ofNat a0.length) then bif !ah.fM (q1,q2,()) then some (((0,0,()),[],2,()),()) else bif true&&decide (2≤Int.ofNat a0.length)&&decide (Int.ofNat a0.length≤Int.ofNat a0.length) then some (((q1,q2,()),List.drop 2 (List.take (Int.toNat (Int.ofNat a0.length)) a0),0,()),()) else none else none else none
def zn (a0:@List ah.Ed) (a1 a2:Int) (a3:Int×Unit):Option (Sum (Int×Unit) (Bool×(Int×Unit)×Unit)):=bif decide (a3.1<Int.ofNat a0.length) then bif decide (0≤a3.1)&&decide (a3.1<Int.ofNat a0.length) then bif decide ((List.getD a0 (Int.toNat a3.1) (0,0,())).1=a1) then some (.inr (true,a3,())) else some (.inl (IntKind.wrap .i64 (a3.1+1),())) else none else some (.inr (false,(0,()),()))
def ajL (a0:@List ah.Ed) (a1 a2:Int):Option (Int×Unit):=(Loop (@zn a0 a1 a2) (0,())).bind fun y3=>bif y3.1 then some y3.2.1 else some (((-1):Int),())
def g44 (a0 a1 a2:Int):Option (ah.Rt×Unit):=let q1:=IntKind.wrap .i64 (IntKind.wrap .i64 (IntKind.wrap .i64 (a0*a2)+a1)+1);(bif !!ah.dW a2 then bif !!ah.inside a1 0 (IntKind.wrap .i64 (a2 - 1)) then some (!ah.inside a0 0 31,()) else some (true,()) else some (true,())).bind fun y3=>bif y3.1 then some ((0,false,()),()) else bif decide (q1 > 256) then some ((0,false,()),()) else some ((q1,true,()),())
def EK (a0:List Int) (a1:Int) (a2:Int×Unit):Option (Sum (Int×Unit) (Bool×(Int×Unit)×Unit)):=bif decide (a2.1<Int.ofNat a0.length) then bif decide (0≤a2.1)&&decide (a2.1<Int.ofNat a0.length) then bif decide (a1=List.getD a0 (Int.toNat a2.1) 0) then some (.inr (true,a2,())) else some (.inl (IntKind.wrap .i64 (a2.1+1),())) else none else some (.inr (false,(0,()),()))
def ajM (a0:List Int) (a1:Int):Option (Int×Unit):=(Loop (@EK a0 a1) (0,())).bind fun y2=>bif y2.1 then some y2.2.1 else some (((-1):Int),())
def g59 (a0 a1:Int) (a2:List Int):Option (ah.Tp×Unit):=bif !ah.fM (a0,a1,()) then some (([],2,()),()) else bif decide (IntKind.wrap .i64 (Int.ofNat a2.length+2) > 64) then some (([],3,()),()) else bif @Nat.ble ((IntKind.wrap .u8 a0::IntKind.wrap .u8 a1::[]).length+a2.length) 9223372036854775807 then some ((IntKind.wrap .u8 a0::IntKind.wrap .u8 a1::([]++a2),0,()),()) else none
def pE (a0:Int) (a1:ah.Ed):Option (Sum ah.Ed (Int×Unit)):=bif decide (a1.1<a0) then some (.inl (IntKind.wrap .i64 (a1.1+1),IntKind.wrap .u64 (Int.ofNat (BitVec.toNat (BitVec.or (BitVec.ofInt 64 a1.2.1) (BitVec.ofInt 64 (ah.Bt.fK a1.1))))),())) else some (.inr a1.2)
def ajN (a0:Int):Option (Int×Unit):=bif !ah.dW a0 then some (0,()) else (Loop (@pE a0) (0,0,())).bind fun y1=>some y1
def ajO (a0 a1:Int):Option (Int×Unit):=(bif !decide (a1<0) then some (decide (a1≥Int.ofNat (ah.Bt.list a0).length),()) else some (true,())).bind fun y2=>bif y2.1 then some (((-1):Int),()) else bif decide (0≤a1)&&decide (a1<Int.ofNat (ah.Bt.list a0).length) then some (List.getD (ah.Bt.list a0) (Int.toNat a1) 0,()) else none
def ajP (a0 a1 a2:Int) (a3:List Int) (a4 a5 a6:Int):Option (Bool×Unit):=(bif !decide (a1<a5) then bif decide (a1=a5) then some (decide (a0<a6),()) else some (false,()) else some (true,())).bind fun y7=>some y7
def ajQ (a0:Int):Option (Int×Unit):=bif !ah.dW a0 then some (0,()) else bif decide (0≤IntKind.wrap .i64 (64 - a0)) then some (@Int.fdiv 18446744073709551615 (@Int.pow 2 (@Min.min Nat instMinNat (Int.toNat (IntKind.wrap .i64 (64 - a0))) 64)),()) else none
def g97 (a0:@List ah.Ed) (a1 a2:Int):Option (Bool×Unit):=some (decide (ah.idx (fun y3=>decide (y3.1=a1)) a0≥0),())
def ajS (a0 a1 a2:Int):Option (Bool×Unit):=(bif decide (a0≥a1) then some (decide (a0≤a2),()) else some (false,())).bind fun y3=>some y3
def ajT (a0 a1:Int):Option (Bool×Unit):=(bif decide (a0≥0) then some (decide (a0≤a1),()) else some (false,())).bind fun y2=>some y2
def ajU (a0 a1:Int):Option (Int×Unit):=bif decide (a0<a1) then some (((-1):Int),()) else bif decide (a0 > a1) then some (1,()) else some (0,())
def ajV (a0:List Int) (a1:Int):Option (Bool×Unit):=some (decide (ah.idx (fun y2=>decide (a1=y2)) a0≥0),())
end
noncomputable section
def ahw (a0:ah.Sc×ah.Tp) (a1:Int×@List ah.Dl×Unit) (a2 a3:Int×Unit):Option (Sum (Int×Unit) (Bool×(Bool×Unit)×Unit)):=let q1:=List.getD a1.2.1 (Int.toNat a1.1) (0,(0,0,0,0,0,0,0,0,0,[],()),());let q2:=List.getD (ah.gH (a0.1.2.2.1,a0.1.2.2.2.1,a0.1.2.2.2.2.1,()) (List.getD a0.1.2.2.2.2.2.1 (Int.toNat a2.1) (0,(0,[],()),())).2.1 (q1.1,q1.2.1)).1 (Int.toNat a3.1) (0,0,(0,0,()),[],());let q3:=List.getD a0.1.2.2.2.2.2.1 (Int.toNat a2.1) (0,(0,[],()),());let q4:=IntKind.wrap .i64 (a3.1 - 1);bif decide (a3.1<Int.ofNat (ah.gH (a0.1.2.2.1,a0.1.2.2.2.1,a0.1.2.2.2.2.1,()) q3.2.1 (q1.1,q1.2.1)).1.length) then bif decide (0≤a3.1)&&decide (a3.1<Int.ofNat (ah.gH (a0.1.2.2.1,a0.1.2.2.2.1,a0.1.2.2.2.2.1,()) q3.2.1 (q1.1,q1.2.1)).1.length) then (bif !decide (q2.1=(ah.gG q1.2.1.2.2.2.2.2.2.2.2.2.1).1.1) then bif !!(decide (q2.2.2.1.1=(ah.gG q1.2.1.2.2.2.2.2.2.2.2.2.1).1.1)&&(decide (q2.2.2.1.2.1=(ah.gG q1.2.1.2.2.2.2.2.2.2.2.2.1).1.2.1)&&true)) then bif !!@List.beq Int (@instBEqOfDecidableEq Int Int.instDecidableEq) q2.2.2.2.1 (100::97::116::97::[]) then bif decide (a3.1 > 0) then bif decide (0≤q4)&&decide (q4<Int.ofNat (ah.gH (a0.1.2.2.1,a0.1.2.2.2.1,a0.1.2.2.2.2.1,()) q3.2.1 (q1.1,q1.2.1)).1.length) then some (decide ((List.getD (ah.gH (a0.1.2.2.1,a0.1.2.2.2.1,a0.1.2.2.2.2.1,()) q3.2.1 (q1.1,q1.2.1)).1 (Int.toNat q4) (0,0,(0,0,()),[],())).1≥q2.1),()) else none else some (false,()) else some (true,()) else some (true,()) else some (true,())).bind fun y4=>bif y4.1 then some (.inr (true,(false,()),())) else some (.inl (IntKind.wrap .i64 (a3.1+1),())) else none else some (.inr (false,(false,()),()))
def ahx (a0:ah.Sc×ah.Tp) (a1:Int×@List ah.Dl×Unit) (a2:Int×Unit):Option (Sum (Int×Unit) (Bool×(Bool×Unit)×Unit)):=let q1:=List.getD a1.2.1 (Int.toNat a1.1) (0,(0,0,0,0,0,0,0,0,0,[],()),());let q2:=List.getD a0.1.2.2.2.2.2.1 (Int.toNat a2.1) (0,(0,[],()),());let q3:=IntKind.wrap .i64 (a2.1+1);bif decide (a2.1<Int.ofNat a0.1.2.2.2.2.2.1.length) then bif decide (0≤a2.1)&&decide (a2.1<Int.ofNat a0.1.2.2.2.2.2.1.length) then bif !decide (q2.1=q1.1) then some (.inl (q3,())) else (ah.on (decide ((ah.gG q1.2.1.2.2.2.2.2.2.2.2.2.1).2.1.length≤1000000)) (ah.je q2.2.1 q2.1 (ah.gG q1.2.1.2.2.2.2.2.2.2.2.2.1).1 (ah.gG q1.2.1.2.2.2.2.2.2.2.2.2.1).2.1,())).bind fun y3=>(bif !!decide ((ah.gH (a0.1.2.2.1,a0.1.2.2.2.1,a0.1.2.2.2.2.1,()) q2.2.1 (q1.1,q1.2.1)).2.1=0) then bif !!decide ((ah.gG q1.2.1.2.2.2.2.2.2.2.2.2.1).2.2.1=0) then bif !!decide (y3.1.2.1=0) then bif !!ah.pU (ah.gH (a0.1.2.2.1,a0.1.2.2.2.1,a0.1.2.2.2.2.1,()) q2.2.1 (q1.1,q1.2.1)).1 y3.1.1 then some (!decide (Int.ofNat (ah.gH (a0.1.2.2.1,a0.1.2.2.2.1,a0.1.2.2.2.2.1,()) q2.2.1 (q1.1,q1.2.1)).1.length=Int.ofNat (ah.hosts q2.2.1 (ah.gG q1.2.1.2.2.2.2.2.2.2.2.2.1).1).length),()) else some (true,()) else some (true,()) else some (true,()) else some (true,())).bind fun y4=>bif y4.1 then some (.inr (true,(false,()),())) else (Loop (@ahw a0 a1 a2) (0,())).bind fun y5=>bif y5.1 then some (.inr (true,y5.2)) else some (.inl (q3,())) else none else some (.inr (false,(false,()),()))
def ahy (a0:ah.Sc×ah.Tp) (a1:@List ah.Dl×ah.Tp) (a2:Int×@List ah.Dl×Unit):Option (Sum (Int×@List ah.Dl×Unit) (Bool×(Bool×Unit)×Unit)):=let q1:=List.getD a2.2.1 (Int.toNat a2.1) (0,(0,0,0,0,0,0,0,0,0,[],()),());bif decide (a2.1<Int.ofNat a1.1.length) then bif decide (0≤a2.1)&&decide (a2.1<Int.ofNat a2.2.1.length) then bif @Nat.blt (Int.toNat a2.1) a2.2.1.length then bif !ah.accept (a0.1.2.2.1,a0.1.2.2.2.1,a0.1.2.2.2.2.1,()) (q1.1,q1.2.1) then some (.inr (true,(false,()),())) else (Loop (@ahx a0 a2) (0,())).bind fun y3=>bif y3.1 then some (.inr (true,y3.2)) else some (.inl (IntKind.wrap .i64 (a2.1+1),a2.2)) else none else none else some (.inr (false,(false,()),()))
def g3 (a0:List Int):Option (Bool×Unit):=(ah.x6 (ah.tape a0) 5).bind fun y1=>(ah.x7 y1.2 y1.1).bind fun y2=>(Loop (@ahy y1 y2) (0,y2.1,())).bind fun y3=>bif y3.1 then some y3.2.1 else some (true,())
def EL (a0:Int) (a1:@List ah.Mb) (a2:Int×Unit):Option (Sum (Int×Unit) (Bool×(Int×Unit)×Unit)):=let q1:=List.getD a1 (Int.toNat a2.1) (0,0,(0,[],()),0,());bif decide (a2.1<Int.ofNat a1.length) then bif decide (0≤a2.1)&&decide (a2.1<Int.ofNat a1.length) then (bif !decide (q1.1<1) then bif !decide (q1.1 > 99) then bif !decide (q1.2.1<1) then bif !decide (q1.2.1 > 99) then bif !decide (q1.2.2.2.1<a0) then some (decide (q1.2.2.2.1 > IntKind.wrap .i64 (a0+1000)),()) else some (true,()) else some (true,()) else some (true,()) else some (true,()) else some (true,())).bind fun y3=>bif y3.1 then some (.inr (true,(2,()),())) else some (.inl (IntKind.wrap .i64 (a2.1+1),())) else none else some (.inr (false,(0,()),()))
def Ka (a0:@List ah.Mb) (a1:Int×Unit):Option (Sum (Int×Unit) (Bool×(Int×Unit)×Unit)):=let q1:=List.getD a0 (Int.toNat a1.1) (0,0,(0,[],()),0,());bif decide (a1.1<Int.ofNat a0.length) then bif decide (0≤a1.1)&&decide (a1.1<Int.ofNat a0.length) then bif !decide (ah.dU q1.2.2.1=0) then some (.inr (true,(ah.dU q1.2.2.1,()),())) else some (.inl (IntKind.wrap .i64 (a1.1+1),())) else none else some (.inr (false,(0,()),()))
def Kc (a0:@List ah.Mb) (a1:Int×Unit):Option (Sum (Int×Unit) (Bool×(Int×Unit)×Unit)):=bif decide (a1.1<Int.ofNat a0.length) then bif decide (0≤a1.1)&&decide (a1.1<Int.ofNat a0.length) then bif ah.pR (List.getD a0 (Int.toNat a1.1) (0,0,(0,[],()),0,())).2.2.1 (1,[],()) then some (.inr (true,(1,()),())) else some (.inl (IntKind.wrap .i64 (a1.1+1),())) else none else some (.inr (false,(0,()),()))
def EM (a0:@List ah.Mb) (a1:Int×Unit):Option (Sum (Int×Unit) (Bool×(Int×Unit)×Unit)):=let q1:=List.getD a0 (Int.toNat (IntKind.wrap .i64 (a1.1 - 1))) (0,0,(0,[],()),0,());let q2:=List.getD a0 (Int.toNat a1.1) (0,0,(0,[],()),0,());let q3:=IntKind.wrap .i64 (a1.1 - 1);bif decide (a1.1<Int.ofNat a0.length) then bif decide (0≤q3)&&decide (q3<Int.ofNat a0.length) then bif decide (0≤a1.1)&&decide (a1.1<Int.ofNat a0.length) then bif decide (0≤a1.1)&&decide (a1.1<Int.ofNat a0.length) then bif !ah.Hy (q1.1,q1.2.1,q1.2.2.1.1,q1.2.2.1.2.1,q1.2.2.2) q2.2.1 q2.1 then some (.inr (true,(25,()),())) else some (.inl (IntKind.wrap .i64 (a1.1+1),())) else none else none else none else some (.inr (false,(0,()),()))
def g52 (a0:Int) (a1:@List ah.Mb):Option (Int×Unit):=(bif !decide (a0<0) then some (decide (a0 > 1000000),()) else some (true,())).bind fun y2=>bif y2.1 then some (2,()) else bif decide (Int.ofNat a1.length > 64) then some (3,()) else (Loop (@EL a0 a1) (0,())).bind fun y3=>bif y3.1 then some y3.2.1 else (Loop (@Ka a1) (0,())).bind fun y4=>bif y4.1 then some y4.2.1 else (Loop (@Kc a1) (0,())).bind fun y5=>bif y5.1 then some y5.2.1 else (Loop (@EM a1) (1,())).bind fun y6=>bif y6.1 then some y6.2.1 else some (0,())
def g14 :Option (Bool×Unit):=let q1:=List.getD (ah.gH (0,8,(3,2,())::[],()) (0,(7,4,(2,[],()),9,())::[],()) (3,1,0,0,8,0,0,0,0,2,1::4::120::[],())).1 0 (0,0,(0,0,()),[],());let q2:=(7,4,(2,[],()),9,())::[];(bif decide ((ah.gH (0,8,(3,2,())::[],()) (0,q2,()) (3,1,0,0,8,0,0,0,0,2,1::4::120::[],())).2.1=0) then bif decide ((ah.gH (0,8,(3,2,())::[],()) (0,q2,()) (3,1,0,0,8,0,0,0,0,2,7::4::120::[],())).2.1=0) then bif decide (Int.ofNat (ah.gH (0,8,(3,2,())::[],()) (0,q2,()) (3,1,0,0,8,0,0,0,0,2,1::4::120::[],())).1.length=1) then bif true&&decide (0<Int.ofNat (ah.gH (0,8,(3,2,())::[],()) (0,q2,()) (3,1,0,0,8,0,0,0,0,2,1::4::120::[],())).1.length) then bif decide (q1.1=7)&&(decide (q1.2.1=3)&&(decide (q1.2.2.1.1=1)&&(decide (q1.2.2.1.2.1=4)&&(@List.beq Int (@instBEqOfDecidableEq Int Int.instDecidableEq) q1.2.2.2.1 (120::[])&&true)))) then some (decide (Int.ofNat (ah.gH (0,8,(3,2,())::[],()) (0,q2,()) (3,1,0,0,8,0,0,0,0,2,7::4::120::[],())).1.length=0),()) else some (false,()) else none else some (false,()) else some (false,()) else some (false,())).bind fun y0=>some y0
def ajX (a0 a1 a2 a3 a4 a5 a6 a7 a8:Int) (a9:List Int):Option (Int×Unit):=(bif ah.inside a1 1 99 then bif ah.inside a2 1 99 then some (!decide (a1=a2),()) else some (false,()) else some (false,())).bind fun mq=>(bif decide (a0=1) then (bif mq.1 then bif ah.inside a3 1 1000000 then bif ah.inside a4 0 1000000 then bif decide (a5=0) then bif decide (a6=0) then some (decide (a7=0),()) else some (false,()) else some (false,()) else some (false,()) else some (false,()) else some (false,())).bind fun jP=>some (true,jP,0,()) else (bif decide (a0=2) then (bif mq.1 then bif ah.inside a3 1 1000000 then bif ah.inside a4 1 1000000 then bif ah.inside a5 0 (IntKind.wrap .i64 (a4 - 1)) then bif decide (a6=0) then some (ah.inside a7 1 99,()) else some (false,()) else some (false,()) else some (false,()) else some (false,()) else some (false,())).bind fun jP=>some (true,jP,0,()) else bif decide (a0=3) then (bif mq.1 then bif ah.inside a3 0 1000000 then bif ah.inside a4 0 1000000 then bif decide (a5=0) then bif ah.inside a6 1 1000000 then some (decide (a7=0),()) else some (false,()) else some (false,()) else some (false,()) else some (false,()) else some (false,())).bind fun jP=>some (true,jP,0,()) else some (false,(false,()),1,())).bind fun jP=>bif jP.1 then some (true,jP.2.1,0,()) else some (false,(false,()),jP.2.2)).bind fun jP=>bif jP.1 then bif !jP.2.1.1 then some (2,()) else bif decide (a0=2) then some (ah.dU (a8,a9,()),()) else (bif !!decide (a8=0) then some (decide (Int.ofNat a9.length > 0),()) else some (true,())).bind fun pX=>bif pX.1 then some (1,()) else some (0,()) else some jP.2.2
def EN (a0 a1:@List ah.Rc) (a2:Int×Unit):Option (Sum (Int×Unit) (Bool×(Bool×Unit)×Unit)):=let q1:=List.getD a0 (Int.toNat a2.1) (0,0,(0,0,()),[],());let q2:=List.getD a1 (Int.toNat a2.1) (0,0,(0,0,()),[],());bif decide (a2.1<Int.ofNat a0.length) then bif decide (0≤a2.1)&&decide (a2.1<Int.ofNat a0.length) then bif decide (0≤a2.1)&&decide (a2.1<Int.ofNat a1.length) then bif !(decide (q1.1=q2.1)&&(decide (q1.2.1=q2.2.1)&&(decide (q1.2.2.1.1=q2.2.2.1.1)&&(decide (q1.2.2.1.2.1=q2.2.2.1.2.1)&&(@List.beq Int (@instBEqOfDecidableEq Int Int.instDecidableEq) q1.2.2.2.1 q2.2.2.2.1&&true))))) then some (.inr (true,(false,()),())) else some (.inl (IntKind.wrap .i64 (a2.1+1),())) else none else none else some (.inr (false,(false,()),()))
def g12 (a0 a1:@List ah.Rc):Option (Bool×Unit):=bif !decide (Int.ofNat a0.length=Int.ofNat a1.length) then some (false,()) else (Loop (@EN a0 a1) (0,())).bind fun y2=>bif y2.1 then some y2.2.1 else some (true,())
def EO (a0:@List ah.Ed) (a1:ah.Fl):Option (Sum ah.Fl (Bool×(Bool×Unit)×List Int×Unit)):=let q1:=List.getD a0 (Int.toNat a1.1) (0,0,());let q2:=IntKind.wrap .i64 (a1.1 - 1);bif decide (a1.1<Int.ofNat a0.length) then bif decide (0≤a1.1)&&decide (a1.1<Int.ofNat a0.length) then (bif !!ah.inside q1.2.1 1 256 then bif !!ah.inside q1.1 1 99 then bif decide (a1.1 > 0) then bif decide (0≤q2)&&decide (q2<Int.ofNat a0.length) then some (decide ((List.getD a0 (Int.toNat q2) (0,0,())).2.1≥q1.2.1),()) else none else some (false,()) else some (true,()) else some (true,())).bind fun y2=>bif y2.1 then some (.inr (true,(false,()),[],())) else bif @Nat.ble ((a1.2.1.length+1)*8) 140737488355328 then some (.inl (IntKind.wrap .i64 (a1.1+1),a1.2.1++q1.1::[],())) else none else none else some (.inr (false,(false,()),a1.2))
def g55 (a0 a1:Int) (a2:@List ah.Ed):Option (Bool×Unit):=(bif !!ah.inside a0 0 7 then bif !ah.dW a1 then bif !!decide (a1=0) then bif !decide (Int.ofNat a2.length > 0) then some (decide (Int.ofNat a2.length > 24),()) else some (true,()) else some (true,()) else some (decide (Int.ofNat a2.length > 24),()) else some (true,())).bind fun y3=>bif y3.1 then some (false,()) else (Loop (@EO a2) (0,[],())).bind fun y4=>bif y4.1 then some y4.2.1 else some (!ah.repeats y4.2.2.1,())
def vZ (a0:List Int) (a1:Int×Unit):Option (Sum (Int×Unit) (Bool×(Int×Unit)×Unit)):=let q1:=List.getD a0 (Int.toNat a1.1) 0;bif decide (a1.1<Int.ofNat a0.length) then bif decide (0≤a1.1)&&decide (a1.1<Int.ofNat a0.length) then (bif !decide (q1<1) then some (decide (q1 > 99),()) else some (true,())).bind fun y2=>bif y2.1 then some (.inr (true,(2,()),())) else some (.inl (IntKind.wrap .i64 (a1.1+1),())) else none else some (.inr (false,(0,()),()))
def wh (a0:List Int) (a1:Int×Unit):Option (Sum (Int×Unit) (Bool×(Int×Unit)×Unit)):=let q1:=IntKind.wrap .i64 (a1.1 - 1);bif decide (a1.1<Int.ofNat a0.length) then bif decide (0≤q1)&&decide (q1<Int.ofNat a0.length) then bif decide (0≤a1.1)&&decide (a1.1<Int.ofNat a0.length) then bif decide (List.getD a0 (Int.toNat q1) 0≥List.getD a0 (Int.toNat a1.1) 0) then some (.inr (true,(25,()),())) else some (.inl (IntKind.wrap .i64 (a1.1+1),())) else none else none else some (.inr (false,(0,()),()))
def ajY (a0:Int) (a1:List Int):Option (Int×Unit):=(bif !decide (a0=1) then some (!decide (a0=2),()) else some (false,())).bind fun y2=>bif y2.1 then some (1,()) else (Loop (@vZ a1) (0,())).bind fun y3=>bif y3.1 then some y3.2.1 else (Loop (@wh a1) (1,())).bind fun y4=>bif y4.1 then some y4.2.1 else some (0,())
def EP (a0:List Int) (a1:Int) (a2:Int×Unit):Option (Sum (Int×Unit) (Int×Unit)):=(bif decide (a2.1<Int.ofNat a0.length) then bif decide (0≤a2.1)&&decide (a2.1<Int.ofNat a0.length) then some (decide (List.getD a0 (Int.toNat a2.1) 0<a1),()) else none else some (false,())).bind fun y3=>bif y3.1 then some (.inl (IntKind.wrap .i64 (a2.1+1),())) else some (.inr a2)
def g27 (a0:List Int) (a1:Int):Option (List Int×Unit):=let q1:=List.take (Int.toNat (Int.ofNat a0.length)) a0;(Loop (@EP a0 a1) (0,())).bind fun y2=>let q2:=List.drop (Int.toNat y2.1) q1;let q3:=List.drop 0 (List.take (Int.toNat y2.1) a0);(bif decide (y2.1<Int.ofNat a0.length) then bif decide (0≤y2.1)&&decide (y2.1<Int.ofNat a0.length) then some (decide (List.getD a0 (Int.toNat y2.1) 0=a1),()) else none else some (false,())).bind fun y3=>bif y3.1 then some (a0,()) else bif decide (0≤y2.1)&&decide (y2.1≤Int.ofNat a0.length)&&decide (Int.ofNat a0.length≤Int.ofNat a0.length) then bif @Nat.ble ((1+q2.length)*8) 140737488355328 then bif true&&decide (0≤y2.1)&&decide (y2.1≤Int.ofNat a0.length)&&decide (y2.1=y2.1) then bif true&&@Nat.ble ((q3.length+(a1::([]++q2)).length)*8) 140737488355328 then some (q3++a1::([]++q2),()) else none else none else none else none
def ER (a0:Int) (a1:@List ah.Mb) (a2 a3 a4:Int) (a5:List Int) (a6:Int×@List ah.Rc×Unit):Option (Sum (Int×@List ah.Rc×Unit) (@List ah.Rc×Unit)):=bif decide (a6.1<Int.ofNat (ah.hosts (a0,a1,()) (a3,a4,())).length) then bif decide (0≤a6.1)&&decide (a6.1<Int.ofNat (ah.hosts (a0,a1,()) (a3,a4,())).length) then bif @Nat.ble ((a6.2.1.length+1)*48) 140737488355328 then some (.inl (IntKind.wrap .i64 (a6.1+1),a6.2.1++(List.getD (ah.hosts (a0,a1,()) (a3,a4,())) (Int.toNat a6.1) 0,a2,(a3,a4,()),a5,())::[],())) else none else none else some (.inr a6.2)
def g49 (a0:Int) (a1:@List ah.Mb) (a2 a3 a4:Int) (a5:List Int):Option (@List ah.Rc×Unit):=(Loop (@ER a0 a1 a2 a3 a4 a5) (0,[],())).bind fun y6=>some y6
def wm (a0:@List ah.Ed) (a1:Int) (a2:ah.Ed×Int×Unit):Option (Sum (ah.Ed×Int×Unit) (Bool×(ah.Ed×Bool×Unit)×ah.Ed×Unit)):=let q1:=List.getD a0 (Int.toNat a2.2.1) (0,0,());bif decide (a2.2.1<Int.ofNat a0.length) then bif decide (0≤a2.2.1)&&decide (a2.2.1<Int.ofNat a0.length) then bif decide (q1.2.1=a1) then bif decide (0≤a2.2.1)&&decide (a2.2.1<Int.ofNat a0.length) then some (.inr (true,(q1,true,()),(0,0,()),())) else none else some (.inl (a2.1,IntKind.wrap .i64 (a2.2.1+1),())) else none else some (.inr (false,((0,0,()),false,()),a2.1,()))
def ajZ (a0 a1:Int) (a2:@List ah.Ed) (a3:Int):Option ((ah.Ed×Bool×Unit)×Unit):=(Loop (@wm a2 a3) ((0,0,()),0,())).bind fun y4=>bif y4.1 then some (y4.2.1,()) else some (((0,0,()),false,()),())
def rU (a0:@List ah.Rt) (a1:@List ah.Lk) (a2:Int) (a3:ah.Tp):Option (Sum ah.Tp (List Int×Unit)):=let q1:=List.getD a0 (Int.toNat a3.2.1) (0,false,());bif decide (a3.2.1<Int.ofNat a0.length) then bif decide (0≤a3.2.1)&&decide (a3.2.1<Int.ofNat a0.length) then (bif (ah.price a1 a2 q1.1).2.1 then bif decide (0≤a3.2.1)&&decide (a3.2.1<Int.ofNat a0.length) then bif @Nat.ble ((a3.1.length+1)*8) 140737488355328 then some (a3.1++q1.1::[],()) else none else none else some (a3.1,())).bind fun y4=>some (.inl (y4.1,IntKind.wrap .i64 (a3.2.1+1),())) else none else some (.inr (a3.1,()))
def aj0 (a0:@List ah.Rt) (a1:@List ah.Lk) (a2:Int):Option (List Int×Unit):=(Loop (@rU a0 a1 a2) ([],0,())).bind fun y3=>some y3
def Xm (a0:@List ah.Rt) (a1:List Int) (a2:Int) (a3:Int×Unit):Option (Sum (Int×Unit) (Bool×(Int×Unit)×Unit)):=bif decide (a3.1<Int.ofNat a0.length) then bif decide (0≤a3.1)&&decide (a3.1<Int.ofNat a0.length) then bif decide ((List.getD a0 (Int.toNat a3.1) (0,false,())).1=a2) then bif decide (0≤a3.1)&&decide (a3.1<Int.ofNat a1.length) then some (.inr (true,(List.getD a1 (Int.toNat a3.1) 0,()),())) else none else some (.inl (IntKind.wrap .i64 (a3.1+1),())) else none else some (.inr (false,(0,()),()))
def aqr (a0:@List ah.Rt) (a1:@List ah.Lk) (a2:List Int) (a3:Int):Option (Int×Unit):=(Loop (@Xm a0 a2 a3) (0,())).bind fun y4=>bif y4.1 then some y4.2.1 else some (1073741824,())
def g56 (a0 a1 a2 a3 a4 a5 a6 a7 a8:Int) (a9:List Int):Option (Bool×Unit):=(bif decide (a0≥1) then bif decide (a0≤3) then bif ah.inside a1 0 7 then bif ah.inside a2 0 31 then bif ah.kJ a8 a3 then bif ah.inside a4 0 63 then bif ah.inside a5 0 1023 then bif ah.inside a6 0 256 then bif ah.inside a7 0 7 then some (decide (Int.ofNat a9.length≤64),()) else some (false,()) else some (false,()) else some (false,()) else some (false,()) else some (false,()) else some (false,()) else some (false,()) else some (false,()) else some (false,())).bind fun mq=>some mq
def zo (a0:@List ah.Rt) (a1:Int) (a2:Int×Unit):Option (Sum (Int×Unit) (Bool×(Bool×Unit)×Unit)):=bif decide (a2.1<Int.ofNat a0.length) then bif decide (0≤a2.1)&&decide (a2.1<Int.ofNat a0.length) then bif decide ((List.getD a0 (Int.toNat a2.1) (0,false,())).1=a1) then some (.inr (true,(true,()),())) else some (.inl (IntKind.wrap .i64 (a2.1+1),())) else none else some (.inr (false,(false,()),()))
def aj1 (a0:@List ah.Rt) (a1:@List ah.Lk) (a2:Int):Option (Bool×Unit):=(Loop (@zo a0 a2) (0,())).bind fun y3=>bif y3.1 then some y3.2.1 else some (false,())
def g65 (a0:List Int) (a1:Int):Option (ah.Fl×ah.Tp):=(ah.on (ah.wf (a0,a1,())&&decide (0<6)&&decide (6≤1000)) (ah.pick (a0,a1,()) (0::2::4::4::16::99::[]))).bind fun y2=>(ah.on (ah.wf y2.2&&ah.small 1&&ah.small 2) (ah.range y2.2 1 2)).bind fun y3=>(ah.on (ah.wf y3.2&&ah.inside y2.1 0 1000) (ah.sources y3.2 y2.1)).bind fun y4=>some ((y3.1,y4.1,()),y4.2)
def Md (a0:List Int) (a1:Int) (a2:Int×Unit):Option (Sum (Int×Unit) (Bool×(Bool×Unit)×Unit)):=bif decide (a2.1<Int.ofNat a0.length) then bif decide (0≤a2.1)&&decide (a2.1<Int.ofNat a0.length) then bif decide (List.getD a0 (Int.toNat a2.1) 0=a1) then some (.inr (true,(true,()),())) else some (.inl (IntKind.wrap .i64 (a2.1+1),())) else none else some (.inr (false,(false,()),()))
def aj2 (a0:List Int) (a1:Int):Option (Bool×Unit):=(Loop (@Md a0 a1) (0,())).bind fun y2=>bif y2.1 then some y2.2.1 else some (false,())
def g69 (a0:List Int) (a1:Int):Option (Int×ah.Tp):=let q1:=IntKind.wrap .i64 (IntKind.wrap .i64 (a1+1) - 1);bif decide (a1≥Int.ofNat a0.length) then some (0,a0,a1,()) else bif decide (0≤q1)&&decide (q1<Int.ofNat a0.length) then some (List.getD a0 (Int.toNat q1) 0,a0,IntKind.wrap .i64 (a1+1),()) else none
def aj3 (a0 a1:Int):Option ((Int×ah.Rt)×Unit):=(bif !!ah.dW a1 then some (!ah.inside a0 1 256,()) else some (true,())).bind fun y2=>bif y2.1 then some ((0,0,false,()),()) else bif !decide (a1=0) then bif !decide (a1=0) then some ((IntKind.wrap .i64 (@Int.tdiv (IntKind.wrap .i64 (a0 - 1)) a1),@Int.tmod (IntKind.wrap .i64 (a0 - 1)) a1,true,()),()) else none else none
def g5 (a0:List Int):Option (ah.Tp×Unit):=bif true&&decide (0≤(bif decide (2000<Int.ofNat a0.length) then 2000 else Int.ofNat a0.length))&&decide ((bif decide (2000<Int.ofNat a0.length) then 2000 else Int.ofNat a0.length)≤Int.ofNat a0.length) then some ((List.drop 0 (List.take (Int.toNat (bif decide (2000<Int.ofNat a0.length) then 2000 else Int.ofNat a0.length)) a0),0,()),()) else none
def aj4 (a0 a1 a2 a3 a4 a5 a6 a7 a8:Int) (a9:List Int):Option (Int×Unit):=bif !ah.dz (a0,a1,a2,a3,a4,a5,a6,a7,a8,a9,()) then some (0,()) else some (@Int.tmod a5 8,())
def g54 (a0:List Int) (a1 a2 a3:Int):Option (Int×ah.Tp):=(ah.on (ah.wf (a0,a1,())) (ah.next (a0,a1,()) (IntKind.wrap .i64 (IntKind.wrap .i64 (a3 - a2)+1)))).bind fun y4=>some (IntKind.wrap .i64 (a2+y4.1),y4.2)
def g68 (a0 a1:Int):Option (Int×Unit):=bif decide (a1<1) then some (0,()) else bif !decide (a1=0) then (bif decide (@Int.tmod a0 a1<0) then some (IntKind.wrap .i64 (@Int.tmod a0 a1+a1),()) else some (@Int.tmod a0 a1,())).bind fun y2=>some y2 else none
def aqs (a0 a1:Int):Option (Bool×Unit):=(bif decide (a0≥1) then bif decide (a0≤99) then bif decide (a1≥1) then some (decide (a1≤99),()) else some (false,()) else some (false,()) else some (false,())).bind fun y2=>some y2
def g31 (a0:List Int) (a1 a2:Int):Option (Int×ah.Tp):=(ah.on (ah.wf (a0,a1,())) (ah.raw (a0,a1,()))).bind fun y3=>some (ah.cut y3.1 a2,y3.2)
def aj5 (a0:Int):Option (Bool×Unit):=(bif !decide (a0=8) then bif !decide (a0=16) then bif !decide (a0=32) then some (decide (a0=64),()) else some (true,()) else some (true,()) else some (true,())).bind fun y1=>some y1
def g96 (a0:Int):Option (Bool×Unit):=(bif !decide (a0=8) then bif !decide (a0=16) then bif !decide (a0=32) then some (decide (a0=64),()) else some (true,()) else some (true,()) else some (true,())).bind fun y1=>some y1
def aj6 (a0 a1 a2:Int):Option (Bool×Unit):=(bif decide (a0≥a1) then some (decide (a0≤a2),()) else some (false,())).bind fun y3=>some y3
def g95 (a0 a1 a2:Int):Option (Bool×Unit):=(bif decide (a0≥a1) then some (decide (a0≤a2),()) else some (false,())).bind fun y3=>some y3
def g99 (a0 a1:Int):Option (Bool×Unit):=(bif decide (a0≥0) then some (decide (a0≤a1),()) else some (false,())).bind fun y2=>some y2
def g98 (a0 a1 a2 a3:Int):Option (Bool×Unit):=some (decide (a0=a2),())
end
noncomputable section
def ES (a0:@List ah.Rt) (a1:Int×Unit):Option (Sum (Int×Unit) (Bool×(Int×Unit)×Unit)):=let q1:=List.getD a0 (Int.toNat a1.1) (0,false,());bif decide (a1.1<Int.ofNat a0.length) then (bif decide (0≤a1.1)&&decide (a1.1<Int.ofNat a0.length) then bif !decide (q1.1<1) then bif decide (0≤a1.1)&&decide (a1.1<Int.ofNat a0.length) then some (decide (q1.1 > 99),()) else none else some (true,()) else none).bind fun y2=>bif y2.1 then some (.inr (true,(2,()),())) else some (.inl (IntKind.wrap .i64 (a1.1+1),())) else some (.inr (false,(0,()),()))
def Bv (a0:@List ah.Rt) (a1:Int×Unit):Option (Sum (Int×Unit) (Bool×(Int×Unit)×Unit)):=let q1:=IntKind.wrap .i64 (a1.1 - 1);bif decide (a1.1<Int.ofNat a0.length) then bif decide (0≤q1)&&decide (q1<Int.ofNat a0.length) then bif decide (0≤a1.1)&&decide (a1.1<Int.ofNat a0.length) then bif decide ((List.getD a0 (Int.toNat q1) (0,false,())).1≥(List.getD a0 (Int.toNat a1.1) (0,false,())).1) then some (.inr (true,(25,()),())) else some (.inl (IntKind.wrap .i64 (a1.1+1),())) else none else none else some (.inr (false,(0,()),()))
def ET (a0:@List ah.Lk) (a1:Int×Unit):Option (Sum (Int×Unit) (Bool×(Int×Unit)×Unit)):=let q1:=List.getD a0 (Int.toNat a1.1) (0,0,0,0,0,());bif decide (a1.1<Int.ofNat a0.length) then bif decide (0≤a1.1)&&decide (a1.1<Int.ofNat a0.length) then (bif !!ah.inside q1.2.2.1 1 1000 then bif !!ah.inside q1.2.2.2.1 1 1000 then bif !decide (q1.2.2.2.2.1<0) then some (decide (q1.2.2.2.2.1 > 1000),()) else some (true,()) else some (true,()) else some (true,())).bind fun y2=>bif y2.1 then some (.inr (true,(2,()),())) else some (.inl (IntKind.wrap .i64 (a1.1+1),())) else none else some (.inr (false,(0,()),()))
def EU (a0:@List ah.Rt) (a1:@List ah.Lk) (a2:Int×Unit):Option (Sum (Int×Unit) (Bool×(Int×Unit)×Unit)):=let q1:=List.getD a1 (Int.toNat a2.1) (0,0,0,0,0,());bif decide (a2.1<Int.ofNat a1.length) then (bif decide (0≤a2.1)&&decide (a2.1<Int.ofNat a1.length) then bif !!ah.ni a0 q1.1 then bif decide (0≤a2.1)&&decide (a2.1<Int.ofNat a1.length) then some (!ah.ni a0 q1.2.1,()) else none else some (true,()) else none).bind fun y3=>bif y3.1 then some (.inr (true,(4,()),())) else some (.inl (IntKind.wrap .i64 (a2.1+1),())) else some (.inr (false,(0,()),()))
def EW (a0:@List ah.Lk) (a1:Int×Unit):Option (Sum (Int×Unit) (Bool×(Int×Unit)×Unit)):=let q1:=List.getD a0 (Int.toNat a1.1) (0,0,0,0,0,());bif decide (a1.1<Int.ofNat a0.length) then bif decide (0≤a1.1)&&decide (a1.1<Int.ofNat a0.length) then bif decide (0≤a1.1)&&decide (a1.1<Int.ofNat a0.length) then bif decide (q1.1≥q1.2.1) then some (.inr (true,(8,()),())) else some (.inl (IntKind.wrap .i64 (a1.1+1),())) else none else none else some (.inr (false,(0,()),()))
def Bw (a0:@List ah.Lk) (a1:Int×Unit):Option (Sum (Int×Unit) (Bool×(Int×Unit)×Unit)):=let q1:=List.getD a0 (Int.toNat (IntKind.wrap .i64 (a1.1 - 1))) (0,0,0,0,0,());let q2:=List.getD a0 (Int.toNat a1.1) (0,0,0,0,0,());let q3:=IntKind.wrap .i64 (a1.1 - 1);bif decide (a1.1<Int.ofNat a0.length) then bif decide (0≤q3)&&decide (q3<Int.ofNat a0.length) then bif decide (0≤a1.1)&&decide (a1.1<Int.ofNat a0.length) then (bif !decide (q1.1 > q2.1) then bif decide (q1.1=q2.1) then some (decide (q1.2.1≥q2.2.1),()) else some (false,()) else some (true,())).bind fun y2=>bif y2.1 then some (.inr (true,(25,()),())) else some (.inl (IntKind.wrap .i64 (a1.1+1),())) else none else none else some (.inr (false,(0,()),()))
def g86 (a0:@List ah.Rt) (a1:@List ah.Lk):Option (Int×Unit):=(bif !decide (Int.ofNat a0.length > 24) then some (decide (Int.ofNat a1.length > 60),()) else some (true,())).bind fun y2=>bif y2.1 then some (3,()) else (Loop (@ES a0) (0,())).bind fun y3=>bif y3.1 then some y3.2.1 else (Loop (@Bv a0) (1,())).bind fun y4=>bif y4.1 then some y4.2.1 else (Loop (@ET a1) (0,())).bind fun y5=>bif y5.1 then some y5.2.1 else (Loop (@EU a0 a1) (0,())).bind fun y6=>bif y6.1 then some y6.2.1 else (Loop (@EW a1) (0,())).bind fun y7=>bif y7.1 then some y7.2.1 else (Loop (@Bw a1) (1,())).bind fun y8=>bif y8.1 then some y8.2.1 else some (0,())
def zq (a0:@List ah.Fl) (a1 a2:Int×Unit):Option (Sum (Int×Unit) (Bool×(Int×Unit)×Unit)):=let q1:=List.getD a0 (Int.toNat a1.1) (0,[],());bif decide (0≤a1.1)&&decide (a1.1<Int.ofNat a0.length) then bif decide (a2.1<Int.ofNat q1.2.1.length) then bif decide (0≤a1.1)&&decide (a1.1<Int.ofNat a0.length) then bif decide (0≤a2.1)&&decide (a2.1<Int.ofNat q1.2.1.length) then bif !ah.inside (List.getD q1.2.1 (Int.toNat a2.1) 0) 1 99 then some (.inr (true,(2,()),())) else some (.inl (IntKind.wrap .i64 (a2.1+1),())) else none else none else some (.inr (false,(0,()),())) else none
def zu (a0:@List ah.Fl) (a1:Int×Unit):Option (Sum (Int×Unit) (Bool×(Int×Unit)×Unit)):=bif decide (a1.1<Int.ofNat a0.length) then bif decide (0≤a1.1)&&decide (a1.1<Int.ofNat a0.length) then bif !ah.inside (List.getD a0 (Int.toNat a1.1) (0,[],())).1 1 256 then some (.inr (true,(2,()),())) else (Loop (@zq a0 a1) (0,())).bind fun y2=>bif y2.1 then some (.inr (true,y2.2)) else some (.inl (IntKind.wrap .i64 (a1.1+1),())) else none else some (.inr (false,(0,()),()))
def zw (a0:@List ah.Fl) (a1:Int×Unit):Option (Sum (Int×Unit) (Bool×(Int×Unit)×Unit)):=bif decide (a1.1<Int.ofNat a0.length) then bif decide (0≤a1.1)&&decide (a1.1<Int.ofNat a0.length) then bif decide (Int.ofNat (List.getD a0 (Int.toNat a1.1) (0,[],())).2.1.length > 24) then some (.inr (true,(3,()),())) else some (.inl (IntKind.wrap .i64 (a1.1+1),())) else none else some (.inr (false,(0,()),()))
def zx (a0:@List ah.Fl) (a1 a2:Int×Unit):Option (Sum (Int×Unit) (Bool×(Int×Unit)×Unit)):=let q1:=List.getD a0 (Int.toNat a1.1) (0,[],());let q2:=IntKind.wrap .i64 (a2.1 - 1);bif decide (a2.1<Int.ofNat q1.2.1.length) then bif decide (0≤q2)&&decide (q2<Int.ofNat q1.2.1.length) then bif decide (0≤a2.1)&&decide (a2.1<Int.ofNat q1.2.1.length) then bif decide (List.getD q1.2.1 (Int.toNat q2) 0≥List.getD q1.2.1 (Int.toNat a2.1) 0) then some (.inr (true,(25,()),())) else some (.inl (IntKind.wrap .i64 (a2.1+1),())) else none else none else some (.inr (false,(0,()),()))
def zy (a0:@List ah.Fl) (a1:Int×Unit):Option (Sum (Int×Unit) (Bool×(Int×Unit)×Unit)):=let q1:=IntKind.wrap .i64 (a1.1 - 1);bif decide (a1.1<Int.ofNat a0.length) then bif decide (0≤a1.1)&&decide (a1.1<Int.ofNat a0.length) then (bif decide (a1.1 > 0) then bif decide (0≤q1)&&decide (q1<Int.ofNat a0.length) then bif decide (0≤a1.1)&&decide (a1.1<Int.ofNat a0.length) then some (decide ((List.getD a0 (Int.toNat q1) (0,[],())).1≥(List.getD a0 (Int.toNat a1.1) (0,[],())).1),()) else none else none else some (false,())).bind fun y2=>bif y2.1 then some (.inr (true,(25,()),())) else (Loop (@zx a0 a1) (1,())).bind fun y3=>bif y3.1 then some (.inr (true,y3.2)) else some (.inl (IntKind.wrap .i64 (a1.1+1),())) else none else some (.inr (false,(0,()),()))
def zA (a0:Int) (a1:@List ah.Fl) (a2:Int×Unit):Option (Sum (Int×Unit) (Bool×(Int×Unit)×Unit)):=let q1:=List.getD a1 (Int.toNat a2.1) (0,[],());bif decide (a2.1<Int.ofNat a1.length) then (bif decide (0≤a2.1)&&decide (a2.1<Int.ofNat a1.length) then bif decide (Int.ofNat q1.2.1.length > 1) then bif decide (0≤a2.1)&&decide (a2.1<Int.ofNat a1.length) then some (ah.has q1.2.1 a0,()) else none else some (false,()) else none).bind fun y3=>bif y3.1 then some (.inr (true,(8,()),())) else some (.inl (IntKind.wrap .i64 (a2.1+1),())) else some (.inr (false,(0,()),()))
def aj7 (a0 a1 a2:Int) (a3:@List ah.Fl):Option (Int×Unit):=(bif !!ah.inside a0 1 99 then bif !!ah.inside a1 0 7 then bif !ah.dW a2 then bif !!decide (a2=0) then some (decide (Int.ofNat a3.length > 0),()) else some (true,()) else some (false,()) else some (true,()) else some (true,())).bind fun y4=>bif y4.1 then some (2,()) else (Loop (@zu a3) (0,())).bind fun y5=>bif y5.1 then some y5.2.1 else bif decide (Int.ofNat a3.length > 256) then some (3,()) else (Loop (@zw a3) (0,())).bind fun y6=>bif y6.1 then some y6.2.1 else (Loop (@zy a3) (0,())).bind fun y7=>bif y7.1 then some y7.2.1 else (Loop (@zA a0 a3) (0,())).bind fun y8=>bif y8.1 then some y8.2.1 else some (0,())
def Xn (a0:@List ah.Rt) (a1:Int) (a2:ah.Fl):Option (Sum ah.Fl (List Int×Unit)):=let q1:=List.set a2.2.1 (Int.toNat a2.1) 1073741824;bif decide (a2.1<Int.ofNat a2.2.1.length) then bif decide (0≤a2.1)&&decide (a2.1<Int.ofNat a2.2.1.length) then bif @Nat.blt (Int.toNat a2.1) a2.2.1.length then bif decide (0≤a2.1)&&decide (a2.1<Int.ofNat a0.length) then (bif decide ((List.getD a0 (Int.toNat a2.1) (0,false,())).1=a1) then bif decide (0≤a2.1)&&decide (a2.1<Int.ofNat q1.length) then bif @Nat.blt (Int.toNat a2.1) q1.length then some (List.set q1 (Int.toNat a2.1) 0,()) else none else none else some (q1,())).bind fun y3=>some (.inl (IntKind.wrap .i64 (a2.1+1),y3)) else none else none else none else some (.inr a2.2)
def Xo (a0:@List ah.Rt) (a1:@List ah.Lk) (a2:ah.Tp):Option (Sum ah.Tp (List Int×Unit)):=let q1:=List.getD a1 (Int.toNat a2.2.1) (0,0,0,0,0,());bif decide (a2.2.1<Int.ofNat a1.length) then bif decide (0≤a2.2.1)&&decide (a2.2.1<Int.ofNat a1.length) then (ah.HV (a0,a1,()) q1.1).bind fun y3=>let q2:=List.getD a2.1 (Int.toNat y3.1) 0;(ah.HV (a0,a1,()) q1.2.1).bind fun y4=>let q3:=List.getD a2.1 (Int.toNat y4.1) 0;bif decide (0≤y4.1)&&decide (y4.1<Int.ofNat a2.1.length) then bif @Nat.blt (Int.toNat y4.1) a2.1.length then (bif decide (q3<1073741824) then bif decide (0≤y3.1)&&decide (y3.1<Int.ofNat a2.1.length) then bif @Nat.blt (Int.toNat y3.1) a2.1.length then bif decide (0≤y4.1)&&decide (y4.1<Int.ofNat a2.1.length) then bif @Nat.blt (Int.toNat y4.1) a2.1.length then bif decide (0≤y3.1)&&decide (y3.1<Int.ofNat a2.1.length) then bif @Nat.blt (Int.toNat y3.1) a2.1.length then some (List.set a2.1 (Int.toNat y3.1) (bif decide (IntKind.wrap .i64 (q1.2.2.1+q3)<q2) then IntKind.wrap .i64 (q1.2.2.1+q3) else q2),()) else none else none else none else none else none else none else some (a2.1,())).bind fun y5=>let q4:=List.getD y5.1 (Int.toNat y3.1) 0;let q5:=List.getD y5.1 (Int.toNat y4.1) 0;bif decide (0≤y3.1)&&decide (y3.1<Int.ofNat y5.1.length) then bif @Nat.blt (Int.toNat y3.1) y5.1.length then (bif decide (q4<1073741824) then bif decide (0≤y4.1)&&decide (y4.1<Int.ofNat y5.1.length) then bif @Nat.blt (Int.toNat y4.1) y5.1.length then bif decide (0≤y3.1)&&decide (y3.1<Int.ofNat y5.1.length) then bif @Nat.blt (Int.toNat y3.1) y5.1.length then bif decide (0≤y4.1)&&decide (y4.1<Int.ofNat y5.1.length) then bif @Nat.blt (Int.toNat y4.1) y5.1.length then some (List.set y5.1 (Int.toNat y4.1) (bif decide (IntKind.wrap .i64 (q1.2.2.2.1+q4)<q5) then IntKind.wrap .i64 (q1.2.2.2.1+q4) else q5),()) else none else none else none else none else none else none else some y5).bind fun y6=>some (.inl (y6.1,IntKind.wrap .i64 (a2.2.1+1),())) else none else none else none else none else none else some (.inr (a2.1,()))
def Xp (a0:@List ah.Rt) (a1:@List ah.Lk) (a2:ah.Fl):Option (Sum ah.Fl (List Int×Unit)):=bif decide (a2.1<Int.ofNat a2.2.1.length) then (Loop (@Xo a0 a1) (a2.2.1,0,())).bind fun y3=>some (.inl (IntKind.wrap .i64 (a2.1+1),y3)) else some (.inr a2.2)
def aqt (a0:@List ah.Rt) (a1:@List ah.Lk) (a2:Int):Option (List Int×Unit):=bif decide (0≤Int.ofNat a0.length)&&decide (Int.ofNat a0.length≤Int.ofNat a0.length)&&decide (Int.ofNat a0.length*8≤140737488355328) then (Loop (@Xn a0 a2) (0,List.replicate (Int.toNat (Int.ofNat a0.length)) 0,())).bind fun y3=>(Loop (@Xp a0 a1) (0,y3)).bind fun y4=>some y4 else none
def wo (a0:List Int) (a1:Int×Unit):Option (Sum (Int×Unit) (Bool×(@List ah.Ed×Int×Unit)×Unit)):=let q1:=IntKind.wrap .i64 (a1.1 - 1);bif decide (a1.1<Int.ofNat a0.length) then bif decide (0≤q1)&&decide (q1<Int.ofNat a0.length) then bif decide (0≤a1.1)&&decide (a1.1<Int.ofNat a0.length) then bif decide (List.getD a0 (Int.toNat q1) 0≥List.getD a0 (Int.toNat a1.1) 0) then some (.inr (true,([],25,()),())) else some (.inl (IntKind.wrap .i64 (a1.1+1),())) else none else none else some (.inr (false,([],0,()),()))
def zB (a0 a1:Int) (a2:@List ah.Ed) (a3:List Int) (a4:Int×Unit):Option (Sum (Int×Unit) (Bool×(Int×@List ah.Ed×Unit)×Unit)):=bif decide (a4.1<Int.ofNat a3.length) then bif decide (0≤a4.1)&&decide (a4.1<Int.ofNat a3.length) then bif !(ah.Dp (a0,a1,a2,()) (List.getD a3 (Int.toNat a4.1) 0)).2.1 then some (.inr (true,(4,[],()),())) else some (.inl (IntKind.wrap .i64 (a4.1+1),())) else none else some (.inr (false,(0,[],()),()))
def rV (a0:Int) (a1:List Int) (a2:@List ah.Ed×Int×Unit):Option (Sum (@List ah.Ed×Int×Unit) (@List ah.Ed×Unit)):=let q1:=IntKind.wrap .i64 (Int.ofNat a2.1.length - 1);let q2:=List.getD a1 (Int.toNat a2.2.1) 0;bif decide (a2.2.1<Int.ofNat a1.length) then bif decide (0≤a2.2.1)&&decide (a2.2.1<Int.ofNat a1.length) then (bif !decide (Int.ofNat a2.1.length=0) then bif decide (0≤q1)&&decide (q1<Int.ofNat a2.1.length) then bif @Nat.blt (Int.toNat q1) a2.1.length then some (a2.1,!decide ((List.getD a2.1 (Int.toNat q1) (0,0,())).1=(ah.place q2 a0).1),()) else none else none else some (a2.1,true,())).bind fun y3=>(bif y3.2.1 then bif @Nat.ble ((y3.1.length+1)*16) 140737488355328 then some (y3.1++((ah.place q2 a0).1,0,())::[],()) else none else some (y3.1,())).bind fun y4=>let q3:=IntKind.wrap .i64 (Int.ofNat y4.1.length - 1);let q4:=List.getD y4.1 (Int.toNat q3) (0,0,());bif decide (0≤q3)&&decide (q3<Int.ofNat y4.1.length) then bif @Nat.blt (Int.toNat q3) y4.1.length then bif decide (0≤q3)&&decide (q3<Int.ofNat y4.1.length) then bif @Nat.blt (Int.toNat q3) y4.1.length then some (.inl (List.set y4.1 (Int.toNat q3) (q4.1,IntKind.wrap .u64 (Int.ofNat (BitVec.toNat (BitVec.or (BitVec.ofInt 64 q4.2.1) (BitVec.ofInt 64 (ah.Bt.fK (ah.place q2 a0).2.1))))),()),IntKind.wrap .i64 (a2.2.1+1),())) else none else none else none else none else none else some (.inr (a2.1,()))
def aj8 (a0 a1:Int) (a2:@List ah.Ed) (a3:List Int):Option ((@List ah.Ed×Int×Unit)×Unit):=bif !ah.dZ (a0,a1,a2,()) then some (([],1,()),()) else (Loop (@wo a3) (1,())).bind fun y4=>bif y4.1 then some y4.2 else (Loop (@zB a0 a1 a2 a3) (0,())).bind fun y5=>bif y5.1 then some ((y5.2.1.2.1,y5.2.1.1,()),()) else (Loop (@rV a1 a3) ([],0,())).bind fun y6=>some ((y6.1,0,()),())
def Fb (a0:@List ah.Ed) (a1:Int×Unit):Option (Sum (Int×Unit) (Bool×(Bool×Unit)×Unit)):=let q1:=List.getD (List.getD a0 (Int.toNat a1.1) (0,0,())::[]) 0 (0,0,());let q2:=IntKind.wrap .i64 (a1.1 - 1);bif decide (a1.1<Int.ofNat a0.length) then bif decide (0≤a1.1)&&decide (a1.1<Int.ofNat a0.length) then bif true&&decide (0≤a1.1)&&decide (a1.1≤Int.ofNat a0.length) then (bif !!ah.inside q1.2.1 1 256 then bif !!ah.inside q1.1 1 99 then bif !(@List.any ah.Ed (List.drop 0 (List.take (Int.toNat a1.1) a0)) fun y2=>decide (y2.1=(List.getD a0 (Int.toNat a1.1) (0,0,())).1)) then bif decide (a1.1 > 0) then bif decide (0≤q2)&&decide (q2<Int.ofNat a0.length) then some (decide ((List.getD a0 (Int.toNat q2) (0,0,())).2.1≥q1.2.1),()) else none else some (false,()) else some (true,()) else some (true,()) else some (true,())).bind fun y2=>bif y2.1 then some (.inr (true,(false,()),())) else some (.inl (IntKind.wrap .i64 (a1.1+1),())) else none else none else some (.inr (false,(false,()),()))
def g41 (a0 a1:Int) (a2:@List ah.Ed):Option (Bool×Unit):=(bif !!ah.inside a0 0 7 then bif !ah.dW a1 then bif !!decide (a1=0) then bif !decide (Int.ofNat a2.length > 0) then some (decide (Int.ofNat a2.length > 24),()) else some (true,()) else some (true,()) else some (decide (Int.ofNat a2.length > 24),()) else some (true,())).bind fun y3=>bif y3.1 then some (false,()) else (Loop (@Fb a2) (0,())).bind fun y4=>bif y4.1 then some y4.2.1 else some (true,())
def acO (a0:@List ah.Rt) (a1:@List ah.Lk) (a2 a3:Int) (a4:@List ah.Ed) (a5:@List ah.Tb×Int×Unit):Option (Sum (@List ah.Tb×Int×Unit) (@List ah.Tb×Unit)):=let q1:=List.getD a0 (Int.toNat a5.2.1) (0,false,());bif decide (a5.2.1<Int.ofNat a0.length) then bif decide (0≤a5.2.1)&&decide (a5.2.1<Int.ofNat a0.length) then (bif q1.2.1 then bif decide (0≤a5.2.1)&&decide (a5.2.1<Int.ofNat a0.length) then (ah.x87 (a0,a1,()) (a2,a3,a4,()) q1.1).bind fun y6=>bif @Nat.ble ((a5.1.length+1)*48) 140737488355328 then some (a5.1++y6.1::[],()) else none else none else some (a5.1,())).bind fun y6=>some (.inl (y6.1,IntKind.wrap .i64 (a5.2.1+1),())) else none else some (.inr (a5.1,()))
def g37 (a0:@List ah.Rt) (a1:@List ah.Lk) (a2 a3:Int) (a4:@List ah.Ed):Option ((@List ah.Tb×Int×Unit)×Unit):=(bif !!decide (ah.xD (a0,a1,())=0) then some (!ah.dZ (a2,a3,a4,()),()) else some (true,())).bind fun y5=>bif y5.1 then some (([],1,()),()) else (Loop (@acO a0 a1 a2 a3 a4) ([],0,())).bind fun y6=>some ((y6.1,0,()),())
def Me (a0:List Int) (a1:Int×Unit):Option (Sum (Int×Unit) (Bool×(Int×Unit)×Unit)):=let q1:=List.getD a0 (Int.toNat a1.1) 0;bif decide (a1.1<Int.ofNat a0.length) then bif decide (0≤a1.1)&&decide (a1.1<Int.ofNat a0.length) then (bif !decide (q1<1) then some (decide (q1 > 99),()) else some (true,())).bind fun y2=>bif y2.1 then some (.inr (true,(2,()),())) else some (.inl (IntKind.wrap .i64 (a1.1+1),())) else none else some (.inr (false,(0,()),()))
def Mf (a0:List Int) (a1:Int×Unit):Option (Sum (Int×Unit) (Bool×(Int×Unit)×Unit)):=let q1:=IntKind.wrap .i64 (a1.1 - 1);bif decide (a1.1<Int.ofNat a0.length) then bif decide (0≤q1)&&decide (q1<Int.ofNat a0.length) then bif decide (0≤a1.1)&&decide (a1.1<Int.ofNat a0.length) then bif decide (List.getD a0 (Int.toNat q1) 0≥List.getD a0 (Int.toNat a1.1) 0) then some (.inr (true,(25,()),())) else some (.inl (IntKind.wrap .i64 (a1.1+1),())) else none else none else some (.inr (false,(0,()),()))
def aj9 (a0:Int) (a1:List Int):Option (Int×Unit):=(bif !decide (a0=1) then some (!decide (a0=2),()) else some (false,())).bind fun y2=>bif y2.1 then some (1,()) else (Loop (@Me a1) (0,())).bind fun y3=>bif y3.1 then some y3.2.1 else (Loop (@Mf a1) (1,())).bind fun y4=>bif y4.1 then some y4.2.1 else some (0,())
def Xq (a0:List Int) (a1:Int) (a2:Int×Unit):Option (Sum (Int×Unit) (Int×Unit)):=(bif decide (a2.1<Int.ofNat a0.length) then bif decide (0≤a2.1)&&decide (a2.1<Int.ofNat a0.length) then some (decide (List.getD a0 (Int.toNat a2.1) 0<a1),()) else none else some (false,())).bind fun y3=>bif y3.1 then some (.inl (IntKind.wrap .i64 (a2.1+1),())) else some (.inr a2)
def aqu (a0:List Int) (a1:Int):Option (List Int×Unit):=let q1:=List.take (Int.toNat (Int.ofNat a0.length)) a0;(Loop (@Xq a0 a1) (0,())).bind fun y2=>let q2:=List.drop 0 (List.take (Int.toNat y2.1) a0);let q3:=List.drop (Int.toNat y2.1) q1;(bif decide (y2.1<Int.ofNat a0.length) then bif decide (0≤y2.1)&&decide (y2.1<Int.ofNat a0.length) then some (decide (List.getD a0 (Int.toNat y2.1) 0=a1),()) else none else some (false,())).bind fun y3=>bif y3.1 then some (a0,()) else bif true&&decide (0≤y2.1)&&decide (y2.1≤Int.ofNat a0.length) then bif @Nat.ble ((0+q2.length)*8) 140737488355328 then bif @Nat.ble ((([]++q2).length+1)*8) 140737488355328 then bif decide (0≤y2.1)&&decide (y2.1≤Int.ofNat a0.length)&&decide (Int.ofNat a0.length≤Int.ofNat a0.length) then bif @Nat.ble ((([]++q2++a1::[]).length+q3.length)*8) 140737488355328 then some ([]++q2++a1::[]++q3,()) else none else none else none else none else none
def BA (a0:@List ah.Mb) (a1 a2:Int) (a3:ah.Tp):Option (Sum ah.Tp (List Int×Unit)):=let q1:=List.getD a0 (Int.toNat a3.2.1) (0,0,(0,[],()),0,());bif decide (a3.2.1<Int.ofNat a0.length) then bif decide (0≤a3.2.1)&&decide (a3.2.1<Int.ofNat a0.length) then (bif decide (q1.2.1=a2) then bif !decide (q1.1=a1) then some (ah.iJ q1.2.2.1 a1,()) else some (false,()) else some (false,())).bind fun y4=>(bif y4.1 then bif @Nat.ble ((a3.1.length+1)*8) 140737488355328 then some (a3.1++q1.1::[],()) else none else some (a3.1,())).bind fun y5=>some (.inl (y5.1,IntKind.wrap .i64 (a3.2.1+1),())) else none else some (.inr (a3.1,()))
def g13 (a0:Int) (a1:@List ah.Mb) (a2 a3:Int):Option (List Int×Unit):=bif !decide (ah.jw (a0,a1,())=0) then some ([],()) else (Loop (@BA a1 a2 a3) ([],0,())).bind fun y4=>some y4
def g8 (a0 a1:Int) (a2:@List ah.Ed) (a3 a4 a5 a6 a7 a8 a9 bJ bS a12:Int) (dD:List Int):Option (Bool×Unit):=(bif !!ah.dZ (a0,a1,a2,()) then bif !!ah.dz (a4,a5,a6,a7,a8,a9,bJ,bS,a12,dD,()) then bif !!decide (a4=1) then bif !!decide (a5=a0) then bif !!decide (a7=a1) then some (!decide (ah.count a12=1),()) else some (true,()) else some (true,()) else some (true,()) else some (true,()) else some (true,())).bind fun iV=>bif iV.1 then some (false,()) else (ah.on (!decide (a12=0)) (ah.Bt.nth a12 0,())).bind fun FN=>(bif (ah.at_ a6 FN.1 a7).2.1 then some (@List.any ah.Ed a2 fun J2=>decide ((a3,(ah.at_ a6 FN.1 a7).1,())=J2),()) else some (false,())).bind fun J2=>some J2
def g9 (a0 a1:Int) (a2:@List ah.Ed) (a3:Int) (a4:@List ah.Mb) (a5 a6 a7 a8 a9 bJ bS a12 dD iR:Int) (jg:List Int):Option ((@List ah.Rc×Int×Unit)×Unit):=bif !decide (ah.jw (a3,a4,())=0) then some (([],ah.jw (a3,a4,()),()),()) else bif !ah.accept (a0,a1,a2,()) (a5,a6,a7,a8,a9,bJ,bS,a12,dD,iR,jg,()) then some (([],1,()),()) else bif !decide ((ah.gG jg).2.2.1=0) then some (([],(ah.gG jg).2.2),()) else some ((ah.recs (a3,a4,()) a5 (ah.gG jg).1 (ah.gG jg).2.1,0,()),())
def zC (a0:@List ah.Rt) (a1:Int) (a2:Int×Unit):Option (Sum (Int×Unit) (Bool×(Bool×Unit)×Unit)):=let q1:=List.getD a0 (Int.toNat a2.1) (0,false,());bif decide (a2.1<Int.ofNat a0.length) then bif decide (0≤a2.1)&&decide (a2.1<Int.ofNat a0.length) then bif decide (q1.1=a1) then bif decide (0≤a2.1)&&decide (a2.1<Int.ofNat a0.length) then some (.inr (true,q1.2,())) else none else some (.inl (IntKind.wrap .i64 (a2.1+1),())) else none else some (.inr (false,(false,()),()))
def akb (a0:@List ah.Rt) (a1:@List ah.Lk) (a2:Int):Option (Bool×Unit):=bif !decide (ah.xD (a0,a1,())=0) then some (false,()) else (Loop (@zC a0 a2) (0,())).bind fun y3=>bif y3.1 then some y3.2.1 else some (false,())
def Fe (a0:@List ah.Ed) (a1 a2:Int) (a3:Int×Unit):Option (Sum (Int×Unit) (Bool×(Int×Unit)×Unit)):=let q1:=List.getD a0 (Int.toNat a3.1) (0,0,());bif decide (a3.1<Int.ofNat a0.length) then bif decide (0≤a3.1)&&decide (a3.1<Int.ofNat a0.length) then bif decide (a1=q1.1)&&(decide (a2=q1.2.1)&&true) then some (.inr (true,a3,())) else some (.inl (IntKind.wrap .i64 (a3.1+1),())) else none else some (.inr (false,(0,()),()))
def akc (a0:@List ah.Ed) (a1 a2:Int):Option (Int×Unit):=(Loop (@Fe a0 a1 a2) (0,())).bind fun y3=>bif y3.1 then some y3.2.1 else some (((-1):Int),())
def g48 (a0:List Int):Option ((ah.Ed×ah.Tp)×Unit):=bif decide (Int.ofNat a0.length<2) then some (((0,0,()),[],20,()),()) else bif true&&decide (0<Int.ofNat a0.length) then bif true&&decide (1<Int.ofNat a0.length) then bif !ah.fM (IntKind.wrap .i64 (List.getD a0 0 0),IntKind.wrap .i64 (List.getD a0 1 0),()) then some (((0,0,()),[],2,()),()) else bif true&&decide (2≤Int.ofNat a0.length)&&decide (Int.ofNat a0.length≤Int.ofNat a0.length) then some (((IntKind.wrap .i64 (List.getD a0 0 0),IntKind.wrap .i64 (List.getD a0 1 0),()),List.drop 2 (List.take (Int.toNat (Int.ofNat a0.length)) a0),0,()),()) else none else none else none
def rW (a0:List Int) (a1:Int×Unit):Option (Sum (Int×Unit) (Bool×(Int×Unit)×Unit)):=let q1:=List.getD a0 (Int.toNat a1.1) 0;bif decide (a1.1<Int.ofNat a0.length) then bif decide (0≤a1.1)&&decide (a1.1<Int.ofNat a0.length) then bif !decide (q1=0) then some (.inr (true,(q1,()),())) else some (.inl (IntKind.wrap .i64 (a1.1+1),())) else none else some (.inr (false,(0,()),()))
def akd (a0:List Int):Option (Int×Unit):=(Loop (@rW a0) (0,())).bind fun y1=>bif y1.1 then some y1.2.1 else some (0,())
def ake (a0:Int):Option (Int×Unit):=(bif !decide (a0<0) then some (decide (a0 > 63),()) else some (true,())).bind fun y1=>bif y1.1 then some (0,()) else bif decide (0≤IntKind.wrap .u64 a0) then some (IntKind.wrap .u64 (1*@Int.pow 2 (@Min.min Nat instMinNat (Int.toNat (IntKind.wrap .u64 a0)) 64)),()) else none
def akf (a0:@List ah.Rt) (a1:@List ah.Lk) (a2:Int):Option (Bool×Unit):=(bif decide (ah.xD (a0,a1,())=0) then some (ah.ni a0 a2,()) else some (false,())).bind fun y3=>some y3
def akg (a0:Int) (a1:List Int) (a2:Int):Option (Bool×Unit):=(bif decide (ah.dU (a0,a1,())=0) then bif decide (a2 > 0) then some (decide (ah.has a1 a2=decide (a0=1)),()) else some (false,()) else some (false,())).bind fun y3=>some y3
def akh (a0 a1:Int):Option (Bool×Unit):=(bif ah.dW a1 then some (decide (IntKind.wrap .u64 (Int.ofNat (BitVec.toNat (BitVec.and (BitVec.ofInt 64 a0) (BitVec.not (BitVec.ofInt 64 (ah.Bt.full a1))))))=0),()) else some (false,())).bind fun y2=>some y2
def g50 (a0 a1:Int):Option (Bool×Unit):=(bif decide (a0≥1) then bif decide (a0≤99) then bif decide (a1≥1) then some (decide (a1≤99),()) else some (false,()) else some (false,()) else some (false,())).bind fun y2=>some y2
def aki (a0:Int) (a1:List Int) (a2:Int) (a3:List Int):Option (Bool×Unit):=(bif decide (a0=a2) then some (decide (a1=a3),()) else some (false,())).bind fun y4=>some y4
def akj (a0 a1 a2:Int):Option (Bool×Unit):=(bif decide (a0≥a1) then some (decide (a0≤a2),()) else some (false,())).bind fun y3=>some y3
def akk (a0:Int) (a1:List Int) (a2:Int):Option (Bool×Unit):=some (decide ((@List.any Int a1 fun y3=>decide (a2=y3))=decide (a0=1)),())
def akl (a0:Int):Option (Bool×Unit):=some (!decide (a0=a0),())
end
end Go.gI.qJ