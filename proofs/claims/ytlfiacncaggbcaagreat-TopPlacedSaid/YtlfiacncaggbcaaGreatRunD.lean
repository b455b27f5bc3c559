/- The top statements: proved is that functions that the law reaches keep their contracts (the solver; small functions), and what cheapest trees are; no conditions but those that each theorem states. -/
import Derived.Test.YtlfiacncaggbcaaGreatRunC
import Derived.Shelf.SlSortCmp.WholeK
import Derived.Shelf.Sort.Plain
import Derived.Lib.Hide
import Derived.Sort.AssemblyPlain
import Derived.KernelRfl
import Derived.Shelf.SlSortCmp.NoneTotal
import Derived.Lib.TrailingZeros
set_option linter.unusedVariables false
set_option linter.unusedSimpArgs false
set_option maxHeartbeats 16000000
set_option maxRecDepth 1000000
namespace Go.dw.rO
open Go Go.Proofs Go.Shelf
def tL:Go.Shelf.Ren:=⟨fun | 6=>123 | 15=>164 | 14=>165 | 28=>188 | 29=>189 | 20=>190 | 21=>191 | 22=>192 | 23=>193 | 24=>194 | 25=>195 | 26=>196 | 27=>197 | 46=>222 | 47=>218 | 48=>219 | 49=>223 | 50=>224 | 57=>241 | n=>n,fun | 22=>32 | 24=>44 | 25=>183 | 3=>3 | 39=>215 | 0=>0 | 53=>298 | 55=>50 | 4=>4 | 46=>292 | 45=>291 | 50=>67 | 5=>5 | 9=>9 | 66=>317 | 70=>321 | 76=>334 | 77=>335 | n=>n,fun | n=>n⟩
theorem SL:Go.Proofs.SlLaysF0.n6 Tryz.prog tL:={
 mixed:=by kernel_rfl
 f6:=⟨Tryz.f123.name,by decide,Tryz.func123.trans (congrArg some (by kernel_rfl))⟩
 f14:=⟨Tryz.f165.name,by decide,Tryz.func165.trans (congrArg some (by kernel_rfl))⟩
 f15:=Tryz.func164.trans (congrArg some (by kernel_rfl))
 f20:=⟨Tryz.f190.name,by decide,Tryz.func190.trans (congrArg some (by kernel_rfl))⟩
 f21:=⟨Tryz.f191.name,by decide,Tryz.func191.trans (congrArg some (by kernel_rfl))⟩
 f22:=⟨Tryz.f192.name,by decide,Tryz.func192.trans (congrArg some (by kernel_rfl))⟩
 f23:=⟨Tryz.f193.name,by decide,Tryz.func193.trans (congrArg some (by kernel_rfl))⟩
 f24:=⟨Tryz.f194.name,by decide,Tryz.func194.trans (congrArg some (by kernel_rfl))⟩
 f25:=⟨Tryz.f195.name,by decide,Tryz.func195.trans (congrArg some (by kernel_rfl))⟩
 f26:=⟨Tryz.f196.name,by decide,Tryz.func196.trans (congrArg some (by kernel_rfl))⟩
 f27:=⟨Tryz.f197.name,by decide,Tryz.func197.trans (congrArg some (by kernel_rfl))⟩
 f28:=Tryz.func188.trans (congrArg some (by kernel_rfl))
 f29:=Tryz.func189.trans (congrArg some (by kernel_rfl))
 f46:=⟨Tryz.f222.name,by decide,Tryz.func222.trans (congrArg some (by kernel_rfl))⟩
 f47:=Tryz.func218.trans (congrArg some (by kernel_rfl))
 f48:=Tryz.func219.trans (congrArg some (by kernel_rfl))
 f49:=⟨Tryz.f223.name,by decide,Tryz.func223.trans (congrArg some (by kernel_rfl))⟩
 f50:=⟨Tryz.f224.name,by decide,Tryz.func224.trans (congrArg some (by kernel_rfl))⟩
 f57:=⟨Tryz.f241.name,by decide,Tryz.func241.trans (congrArg some (by kernel_rfl))⟩
 t0:=Tryz.underlying0
 a0:=Tryz.isAgg0
 z0:=Tryz.sizeOf0
 v0:=Tryz.zeroValue0
 t3:=Tryz.underlying3
 a3:=Tryz.isAgg3
 z3:=Tryz.sizeOf3
 v3:=Tryz.zeroValue3
 t4:=Tryz.underlying4
 a4:=Tryz.isAgg4
 z4:=Tryz.sizeOf4
 v4:=Tryz.zeroValue4
 t5:=Tryz.underlying5
 a5:=Tryz.isAgg5
 z5:=Tryz.sizeOf5
 v5:=Tryz.zeroValue5
 t9:=Tryz.underlying9
 a9:=Tryz.isAgg9
 z9:=Tryz.sizeOf9
 v9:=Tryz.zeroValue9
 t22:=Tryz.underlying32
 a22:=Tryz.isAgg32
 z22:=Tryz.sizeOf32
 v22:=Tryz.zeroValue32
 t25:=Tryz.underlying183
 a25:=Tryz.isAgg183
 z25:=Tryz.sizeOf183
 v25:=Tryz.zeroValue183
 t39:=Tryz.underlying215
 a39:=Tryz.isAgg215
 z39:=Tryz.sizeOf215
 v39:=Tryz.zeroValue215
 t45:=Tryz.underlying291
 a45:=Tryz.isAgg291
 z45:=Tryz.sizeOf291
 v45:=Tryz.zeroValue291
 t46:=Tryz.underlying292
 a46:=Tryz.isAgg292
 z46:=Tryz.sizeOf292
 v46:=Tryz.zeroValue292
 t50:=Tryz.underlying67
 a50:=Tryz.isAgg67
 z50:=Tryz.sizeOf67
 v50:=Tryz.zeroValue67
 t53:=Tryz.underlying298
 a53:=Tryz.isAgg298
 z53:=Tryz.sizeOf298
 v53:=Tryz.zeroValue298
 t55:=Tryz.underlying50
 a55:=Tryz.isAgg50
 z55:=Tryz.sizeOf50
 v55:=Tryz.zeroValue50
 t66:=Tryz.underlying317
 a66:=Tryz.isAgg317
 z66:=Tryz.sizeOf317
 v66:=Tryz.zeroValue317
 t70:=Tryz.underlying321
 a70:=Tryz.isAgg321
 z70:=Tryz.sizeOf321
 v70:=Tryz.zeroValue321
 t76:=Tryz.underlying334
 a76:=Tryz.isAgg334
 z76:=Tryz.sizeOf334
 v76:=Tryz.zeroValue334
 t77:=Tryz.underlying335
 a77:=Tryz.isAgg335
 z77:=Tryz.sizeOf335
 v77:=Tryz.zeroValue335 }
def zm:Go.Shelf.Ren:=⟨fun | 6=>128 | 15=>164 | 14=>167 | 28=>188 | 29=>189 | 20=>198 | 21=>199 | 22=>200 | 23=>201 | 24=>202 | 25=>203 | 26=>204 | 27=>205 | 46=>225 | 47=>218 | 48=>219 | 49=>226 | 50=>227 | 57=>242 | n=>n,fun | 22=>82 | 24=>234 | 25=>236 | 3=>3 | 39=>215 | 0=>0 | 53=>298 | 55=>50 | 4=>4 | 46=>292 | 45=>291 | 50=>67 | 5=>5 | 9=>9 | 66=>317 | 70=>321 | 76=>334 | 77=>335 | n=>n,fun | n=>n⟩
theorem abT:Go.Proofs.SlLaysF0.n6 Tryz.prog zm:={
 mixed:=by kernel_rfl
 f6:=⟨Tryz.f128.name,by decide,Tryz.func128.trans (congrArg some (by kernel_rfl))⟩
 f14:=⟨Tryz.f167.name,by decide,Tryz.func167.trans (congrArg some (by kernel_rfl))⟩
 f15:=Tryz.func164.trans (congrArg some (by kernel_rfl))
 f20:=⟨Tryz.f198.name,by decide,Tryz.func198.trans (congrArg some (by kernel_rfl))⟩
 f21:=⟨Tryz.f199.name,by decide,Tryz.func199.trans (congrArg some (by kernel_rfl))⟩
 f22:=⟨Tryz.f200.name,by decide,Tryz.func200.trans (congrArg some (by kernel_rfl))⟩
 f23:=⟨Tryz.f201.name,by decide,Tryz.func201.trans (congrArg some (by kernel_rfl))⟩
 f24:=⟨Tryz.f202.name,by decide,Tryz.func202.trans (congrArg some (by kernel_rfl))⟩
 f25:=⟨Tryz.f203.name,by decide,Tryz.func203.trans (congrArg some (by kernel_rfl))⟩
 f26:=⟨Tryz.f204.name,by decide,Tryz.func204.trans (congrArg some (by kernel_rfl))⟩
 f27:=⟨Tryz.f205.name,by decide,Tryz.func205.trans (congrArg some (by kernel_rfl))⟩
 f28:=Tryz.func188.trans (congrArg some (by kernel_rfl))
 f29:=Tryz.func189.trans (congrArg some (by kernel_rfl))
 f46:=⟨Tryz.f225.name,by decide,Tryz.func225.trans (congrArg some (by kernel_rfl))⟩
 f47:=Tryz.func218.trans (congrArg some (by kernel_rfl))
 f48:=Tryz.func219.trans (congrArg some (by kernel_rfl))
 f49:=⟨Tryz.f226.name,by decide,Tryz.func226.trans (congrArg some (by kernel_rfl))⟩
 f50:=⟨Tryz.f227.name,by decide,Tryz.func227.trans (congrArg some (by kernel_rfl))⟩
 f57:=⟨Tryz.f242.name,by decide,Tryz.func242.trans (congrArg some (by kernel_rfl))⟩
 t0:=Tryz.underlying0
 a0:=Tryz.isAgg0
 z0:=Tryz.sizeOf0
 v0:=Tryz.zeroValue0
 t3:=Tryz.underlying3
 a3:=Tryz.isAgg3
 z3:=Tryz.sizeOf3
 v3:=Tryz.zeroValue3
 t4:=Tryz.underlying4
 a4:=Tryz.isAgg4
 z4:=Tryz.sizeOf4
 v4:=Tryz.zeroValue4
 t5:=Tryz.underlying5
 a5:=Tryz.isAgg5
 z5:=Tryz.sizeOf5
 v5:=Tryz.zeroValue5
 t9:=Tryz.underlying9
 a9:=Tryz.isAgg9
 z9:=Tryz.sizeOf9
 v9:=Tryz.zeroValue9
 t22:=Tryz.underlying82
 a22:=Tryz.isAgg82
 z22:=Tryz.sizeOf82
 v22:=Tryz.zeroValue82
 t25:=Tryz.underlying236
 a25:=Tryz.isAgg236
 z25:=Tryz.sizeOf236
 v25:=Tryz.zeroValue236
 t39:=Tryz.underlying215
 a39:=Tryz.isAgg215
 z39:=Tryz.sizeOf215
 v39:=Tryz.zeroValue215
 t45:=Tryz.underlying291
 a45:=Tryz.isAgg291
 z45:=Tryz.sizeOf291
 v45:=Tryz.zeroValue291
 t46:=Tryz.underlying292
 a46:=Tryz.isAgg292
 z46:=Tryz.sizeOf292
 v46:=Tryz.zeroValue292
 t50:=Tryz.underlying67
 a50:=Tryz.isAgg67
 z50:=Tryz.sizeOf67
 v50:=Tryz.zeroValue67
 t53:=Tryz.underlying298
 a53:=Tryz.isAgg298
 z53:=Tryz.sizeOf298
 v53:=Tryz.zeroValue298
 t55:=Tryz.underlying50
 a55:=Tryz.isAgg50
 z55:=Tryz.sizeOf50
 v55:=Tryz.zeroValue50
 t66:=Tryz.underlying317
 a66:=Tryz.isAgg317
 z66:=Tryz.sizeOf317
 v66:=Tryz.zeroValue317
 t70:=Tryz.underlying321
 a70:=Tryz.isAgg321
 z70:=Tryz.sizeOf321
 v70:=Tryz.zeroValue321
 t76:=Tryz.underlying334
 a76:=Tryz.isAgg334
 z76:=Tryz.sizeOf334
 v76:=Tryz.zeroValue334
 t77:=Tryz.underlying335
 a77:=Tryz.isAgg335
 z77:=Tryz.sizeOf335
 v77:=Tryz.zeroValue335 }
def zn:Go.Shelf.Ren:=⟨fun | 6=>140 | 15=>164 | 14=>173 | 28=>188 | 29=>189 | 20=>208 | 21=>209 | 22=>210 | 23=>211 | 24=>212 | 25=>213 | 26=>214 | 27=>215 | 46=>237 | 47=>218 | 48=>219 | 49=>238 | 50=>239 | 57=>246 | n=>n,fun | 22=>142 | 24=>231 | 25=>251 | 3=>3 | 39=>215 | 0=>0 | 53=>298 | 55=>50 | 4=>4 | 46=>292 | 45=>291 | 50=>67 | 5=>5 | 9=>9 | 66=>317 | 70=>321 | 76=>334 | 77=>335 | n=>n,fun | n=>n⟩
theorem abU:Go.Proofs.SlLaysF0.n6 Tryz.prog zn:={
 mixed:=by kernel_rfl
 f6:=⟨Tryz.f140.name,by decide,Tryz.func140.trans (congrArg some (by kernel_rfl))⟩
 f14:=⟨Tryz.f173.name,by decide,Tryz.func173.trans (congrArg some (by kernel_rfl))⟩
 f15:=Tryz.func164.trans (congrArg some (by kernel_rfl))
 f20:=⟨Tryz.f208.name,by decide,Tryz.func208.trans (congrArg some (by kernel_rfl))⟩
 f21:=⟨Tryz.f209.name,by decide,Tryz.func209.trans (congrArg some (by kernel_rfl))⟩
 f22:=⟨Tryz.f210.name,by decide,Tryz.func210.trans (congrArg some (by kernel_rfl))⟩
 f23:=⟨Tryz.f211.name,by decide,Tryz.func211.trans (congrArg some (by kernel_rfl))⟩
 f24:=⟨Tryz.f212.name,by decide,Tryz.func212.trans (congrArg some (by kernel_rfl))⟩
 f25:=⟨Tryz.f213.name,by decide,Tryz.func213.trans (congrArg some (by kernel_rfl))⟩
 f26:=⟨Tryz.f214.name,by decide,Tryz.func214.trans (congrArg some (by kernel_rfl))⟩
 f27:=⟨Tryz.f215.name,by decide,Tryz.func215.trans (congrArg some (by kernel_rfl))⟩
 f28:=Tryz.func188.trans (congrArg some (by kernel_rfl))
 f29:=Tryz.func189.trans (congrArg some (by kernel_rfl))
 f46:=⟨Tryz.f237.name,by decide,Tryz.func237.trans (congrArg some (by kernel_rfl))⟩
 f47:=Tryz.func218.trans (congrArg some (by kernel_rfl))
 f48:=Tryz.func219.trans (congrArg some (by kernel_rfl))
 f49:=⟨Tryz.f238.name,by decide,Tryz.func238.trans (congrArg some (by kernel_rfl))⟩
 f50:=⟨Tryz.f239.name,by decide,Tryz.func239.trans (congrArg some (by kernel_rfl))⟩
 f57:=⟨Tryz.f246.name,by decide,Tryz.func246.trans (congrArg some (by kernel_rfl))⟩
 t0:=Tryz.underlying0
 a0:=Tryz.isAgg0
 z0:=Tryz.sizeOf0
 v0:=Tryz.zeroValue0
 t3:=Tryz.underlying3
 a3:=Tryz.isAgg3
 z3:=Tryz.sizeOf3
 v3:=Tryz.zeroValue3
 t4:=Tryz.underlying4
 a4:=Tryz.isAgg4
 z4:=Tryz.sizeOf4
 v4:=Tryz.zeroValue4
 t5:=Tryz.underlying5
 a5:=Tryz.isAgg5
 z5:=Tryz.sizeOf5
 v5:=Tryz.zeroValue5
 t9:=Tryz.underlying9
 a9:=Tryz.isAgg9
 z9:=Tryz.sizeOf9
 v9:=Tryz.zeroValue9
 t22:=Tryz.underlying142
 a22:=Tryz.isAgg142
 z22:=Tryz.sizeOf142
 v22:=Tryz.zeroValue142
 t25:=Tryz.underlying251
 a25:=Tryz.isAgg251
 z25:=Tryz.sizeOf251
 v25:=Tryz.zeroValue251
 t39:=Tryz.underlying215
 a39:=Tryz.isAgg215
 z39:=Tryz.sizeOf215
 v39:=Tryz.zeroValue215
 t45:=Tryz.underlying291
 a45:=Tryz.isAgg291
 z45:=Tryz.sizeOf291
 v45:=Tryz.zeroValue291
 t46:=Tryz.underlying292
 a46:=Tryz.isAgg292
 z46:=Tryz.sizeOf292
 v46:=Tryz.zeroValue292
 t50:=Tryz.underlying67
 a50:=Tryz.isAgg67
 z50:=Tryz.sizeOf67
 v50:=Tryz.zeroValue67
 t53:=Tryz.underlying298
 a53:=Tryz.isAgg298
 z53:=Tryz.sizeOf298
 v53:=Tryz.zeroValue298
 t55:=Tryz.underlying50
 a55:=Tryz.isAgg50
 z55:=Tryz.sizeOf50
 v55:=Tryz.zeroValue50
 t66:=Tryz.underlying317
 a66:=Tryz.isAgg317
 z66:=Tryz.sizeOf317
 v66:=Tryz.zeroValue317
 t70:=Tryz.underlying321
 a70:=Tryz.isAgg321
 z70:=Tryz.sizeOf321
 v70:=Tryz.zeroValue321
 t76:=Tryz.underlying334
 a76:=Tryz.isAgg334
 z76:=Tryz.sizeOf334
 v76:=Tryz.zeroValue334
 t77:=Tryz.underlying335
 a77:=Tryz.isAgg335
 z77:=Tryz.sizeOf335
 v77:=Tryz.zeroValue335 }
def Ho:Go.Shelf.Ren:=⟨fun | 189=>111 | 125=>164 | 257=>163 | 128=>188 | 129=>189 | 294=>180 | 295=>181 | 296=>182 | 297=>183 | 298=>184 | 299=>185 | 216=>153 | 300=>186 | 301=>187 | 328=>217 | 329=>218 | 330=>219 | 331=>220 | 332=>221 | 215=>139 | 343=>240 | n=>n,fun | 28=>22 | 3=>3 | 46=>215 | 0=>0 | 51=>298 | 53=>50 | 4=>4 | 183=>292 | 182=>291 | 131=>67 | 5=>5 | 9=>9 | 218=>317 | 222=>321 | 228=>334 | 229=>335 | n=>n,fun | n=>n⟩
theorem akg:Go.Proofs.Lays.n189 Tryz.prog Ho:={
 mixed:=by kernel_rfl
 f125:=Tryz.func164.trans (congrArg some (by kernel_rfl))
 f128:=Tryz.func188.trans (congrArg some (by kernel_rfl))
 f129:=Tryz.func189.trans (congrArg some (by kernel_rfl))
 f189:=Tryz.func111.trans (congrArg some (by kernel_rfl))
 f215:=Tryz.func139.trans (congrArg some (by kernel_rfl))
 f216:=Tryz.func153.trans (congrArg some (by kernel_rfl))
 f257:=Tryz.func163.trans (congrArg some (by kernel_rfl))
 f294:=Tryz.func180.trans (congrArg some (by kernel_rfl))
 f295:=Tryz.func181.trans (congrArg some (by kernel_rfl))
 f296:=Tryz.func182.trans (congrArg some (by kernel_rfl))
 f297:=Tryz.func183.trans (congrArg some (by kernel_rfl))
 f298:=Tryz.func184.trans (congrArg some (by kernel_rfl))
 f299:=Tryz.func185.trans (congrArg some (by kernel_rfl))
 f300:=Tryz.func186.trans (congrArg some (by kernel_rfl))
 f301:=Tryz.func187.trans (congrArg some (by kernel_rfl))
 f328:=Tryz.func217.trans (congrArg some (by kernel_rfl))
 f329:=Tryz.func218.trans (congrArg some (by kernel_rfl))
 f330:=Tryz.func219.trans (congrArg some (by kernel_rfl))
 f331:=Tryz.func220.trans (congrArg some (by kernel_rfl))
 f332:=Tryz.func221.trans (congrArg some (by kernel_rfl))
 f343:=Tryz.func240.trans (congrArg some (by kernel_rfl))
 t0:=Tryz.underlying0
 a0:=Tryz.isAgg0
 z0:=Tryz.sizeOf0
 v0:=Tryz.zeroValue0
 t3:=Tryz.underlying3
 a3:=Tryz.isAgg3
 z3:=Tryz.sizeOf3
 v3:=Tryz.zeroValue3
 t4:=Tryz.underlying4
 a4:=Tryz.isAgg4
 z4:=Tryz.sizeOf4
 v4:=Tryz.zeroValue4
 t5:=Tryz.underlying5
 a5:=Tryz.isAgg5
 z5:=Tryz.sizeOf5
 v5:=Tryz.zeroValue5
 t9:=Tryz.underlying9
 a9:=Tryz.isAgg9
 z9:=Tryz.sizeOf9
 v9:=Tryz.zeroValue9
 t28:=Tryz.underlying22
 a28:=Tryz.isAgg22
 z28:=Tryz.sizeOf22
 v28:=Tryz.zeroValue22
 t46:=Tryz.underlying215
 a46:=Tryz.isAgg215
 z46:=Tryz.sizeOf215
 v46:=Tryz.zeroValue215
 t51:=Tryz.underlying298
 a51:=Tryz.isAgg298
 z51:=Tryz.sizeOf298
 v51:=Tryz.zeroValue298
 t53:=Tryz.underlying50
 a53:=Tryz.isAgg50
 z53:=Tryz.sizeOf50
 v53:=Tryz.zeroValue50
 t131:=Tryz.underlying67
 a131:=Tryz.isAgg67
 z131:=Tryz.sizeOf67
 v131:=Tryz.zeroValue67
 t182:=Tryz.underlying291
 a182:=Tryz.isAgg291
 z182:=Tryz.sizeOf291
 v182:=Tryz.zeroValue291
 t183:=Tryz.underlying292
 a183:=Tryz.isAgg292
 z183:=Tryz.sizeOf292
 v183:=Tryz.zeroValue292
 t218:=Tryz.underlying317
 a218:=Tryz.isAgg317
 z218:=Tryz.sizeOf317
 v218:=Tryz.zeroValue317
 t222:=Tryz.underlying321
 a222:=Tryz.isAgg321
 z222:=Tryz.sizeOf321
 v222:=Tryz.zeroValue321
 t228:=Tryz.underlying334
 a228:=Tryz.isAgg334
 z228:=Tryz.sizeOf334
 v228:=Tryz.zeroValue334
 t229:=Tryz.underlying335
 a229:=Tryz.isAgg335
 z229:=Tryz.sizeOf335
 v229:=Tryz.zeroValue335 }
open Go.Sort Go.RowKit aA
theorem SN (x:Int) (w:World):Calls Tryz.prog 139 #[.int .i64 x] w fun e w'=>e = .returned (.bool false)∧w' = w:=by
 go_enter Tryz.func139,Tryz.ntmps139
 go_wp2
 go_ret
 first | exact ⟨rfl,rfl⟩ | simp
theorem CK (x y:Int) (w:World):Calls Tryz.prog 73 #[.int .i64 x,.int .i64 y] w fun e w'=>e = .returned (.int .i64 (aA.dJ x y))∧w' = w:=by
 have awe:=fun z W=>SN z W
 go_enter Tryz.func73,Tryz.ntmps73
 go_wp2_with (go_at_call 139;refine (awe _ _).mono ?_;rintro e w' ⟨rfl,rfl⟩)
 all_goals go_ret
 all_goals (unfold aA.dJ;try simp [*])
 all_goals (rw [dF (show ¬ x<y by omega)];first | rfl | (rw [dF (show ¬ y<x by omega)];rfl))
theorem PZ (l:List Int) (i:Nat) (h:i<l.length):aA.dz (l.drop i)=bif decide (l.getD i 0=0) then aA.dz (l.drop (i+1)) else l.getD i 0:=by
 rw [List.drop_eq_getElem_cons h]
 have:l.getD i 0=l[i]:=by rw [iW,iw h];rfl
 rw [this];rfl
theorem zo (b:Nat) (l:List Int) (w:World) (hl:l.length<1000) (hc:∀ j:Nat,j<l.length→w.cell? ⟨b,j,none⟩=some (.int .i64 (l.getD j 0))) :
 Calls Tryz.prog 112 #[.slice (some ⟨b,0,none⟩) l.length l.length] w fun e w'=>e = .returned (.int .i64 (aA.dz l))∧w' = w:=by
 obtain ⟨n,hn⟩:∃ n:Nat,n=l.length:=⟨_,rfl⟩
 rw [←hn] at hl hc ⊢;have H:=Go.Lib.hid hc;clear hc;have N:=Go.Lib.hid hn;clear hn
 go_enter Tryz.func112,Tryz.ntmps112
 go_wp2
 go_loop [8] (fun i=>∃ k:Nat,k≤n∧i = .int .i64 k∧aA.dz (l.drop k)=aA.dz l) (fun i=>n - (RowKit.intOf i).toNat)
 case atStart=>exact ⟨0,mY _,rfl,by rw [List.drop_zero]⟩
 case round=>
  obtain ⟨k,hk,rfl,hf⟩:=hrel;have F:=Go.Lib.hid hf;clear hf
  by_cases h:k<n
  ·have hck:=H.out k h
   obtain ⟨v,hv⟩:∃ v,v=l.getD k 0:=⟨_,rfl⟩
   rw [←hv] at hck;have V:=Go.Lib.hid hv;clear hv
   have h1:(0:Int)≤(k:Int):=by omega
   have h2:(k:Int)<(n:Int):=by omega
   go_wp2
   ·have hz:(v != 0)=true:=by assumption
    go_ret
    have e:=V.out
    have hz:v≠0:=by simpa using hz
    rw [←F.out,PZ l k (by rw [←N.out];exact h),←e,dF hz]
    exact ⟨rfl,rfl⟩
   ·have hz:(v != 0)=false:=by assumption
    have hz:v=0:=by simpa using hz
    have e:=V.out
    go_round
    case rel=>exact ⟨k+1,by omega,by go_num,by rw [←F.out,PZ l k (by rw [←N.out];exact h),←e,dT hz];rfl⟩
    case measure=>simp [RowKit.intOf];omega
  ·have e:k=n:=by omega
   subst e
   go_wp2
   go_ret
   rw [←F.out,N.out,List.drop_length];exact ⟨rfl,rfl⟩
theorem KE {W:World} {a b:Obj} {c:Array Value} {e:Nat} {j:Nat}:World.cell? ((((W.alloc a).alloc b).alloc (.cells c e)).drew) ⟨W.heap.size+1+1,j,none⟩=c[j]?:=by
 have h:((W.alloc a).alloc b).heap.size=W.heap.size+1+1:=by
  show ((W.heap.push _).push _).size=_;rw [Array.size_push,Array.size_push]
 rw [←h];show World.cell? (((W.alloc a).alloc b).alloc (.cells c e)) _=_;exact bV c e _ j
theorem SQ (x0 x1  y0 y1  : Int) (W:World):Calls Tryz.prog 124 #[.agg #[.int .i64 x0,.int .i64 x1],.agg #[.int .i64 y0,.int .i64 y1]] W fun e w'=>e = .returned (.int .i64 (dz [dJ x0 y0,dJ x1 y1]))∧∃ q os',w' = grow (W.drewN q) os':=by
 have abV:∀ (b:Nat) (w:World),w.cell? ⟨b,0,none⟩=some (.int .i64 (dJ x0 y0))→w.cell? ⟨b,1,none⟩=some (.int .i64 (dJ x1 y1)) →
  Calls Tryz.prog 112 #[.slice (some ⟨b,0,none⟩) 2 2] w fun e w'=>e = .returned (.int .i64 (dz [dJ x0 y0,dJ x1 y1]))∧w' = w:=by
  intro b w k0 k1
  refine zo b [dJ x0 y0,dJ x1 y1] w (show (2:Nat)<1000 by decide) fun j hj=>?_
  have hj:j<2:=hj
  rcases (by omega:j=0∨j=1) with rfl | rfl<;>assumption
 go_enter Tryz.func124,Tryz.ntmps124
 go_wp2
 go_region_held3 (fun w'=>w'.cell? ⟨W.heap.size,0,none⟩=some (.int .i64 x0)∧w'.cell? ⟨W.heap.size,1,none⟩=some (.int .i64 x1)∧w'.cell? ⟨W.heap.size+1,0,none⟩=some (.int .i64 y0)∧w'.cell? ⟨W.heap.size+1,1,none⟩=some (.int .i64 y1)) (go_keep)
  (first | (go_at_call 73;refine (CK _ _ _).mono ?_;rintro e w' ⟨rfl,rfl⟩) | (go_at_call 112;refine (abV _ _ (by exact KE) (by exact KE)).mono ?_;rintro e w' ⟨rfl,rfl⟩))
 all_goals go_wp2
 all_goals go_ret
 all_goals exact ⟨rfl,1,_,by
  show World.drew _=_;rw [alloc_eq_grow,alloc_eq_grow,alloc_eq_grow,grow_grow,grow_grow]
  rfl⟩
theorem SS (x0 x1 x2 y0 y1 y2:Int) (W:World):Calls Tryz.prog 129 #[.agg #[.int .i64 x0,.int .i64 x1,.int .i64 x2],.agg #[.int .i64 y0,.int .i64 y1,.int .i64 y2]] W fun e w'=>e = .returned (.int .i64 (dz [dJ x0 y0,dJ x1 y1]))∧∃ q os',w' = grow (W.drewN q) os':=by
 have abV:∀ (b:Nat) (w:World),w.cell? ⟨b,0,none⟩=some (.int .i64 (dJ x0 y0))→w.cell? ⟨b,1,none⟩=some (.int .i64 (dJ x1 y1)) →
  Calls Tryz.prog 112 #[.slice (some ⟨b,0,none⟩) 2 2] w fun e w'=>e = .returned (.int .i64 (dz [dJ x0 y0,dJ x1 y1]))∧w' = w:=by
  intro b w k0 k1
  refine zo b [dJ x0 y0,dJ x1 y1] w (show (2:Nat)<1000 by decide) fun j hj=>?_
  have hj:j<2:=hj
  rcases (by omega:j=0∨j=1) with rfl | rfl<;>assumption
 go_enter Tryz.func129,Tryz.ntmps129
 go_wp2
 go_region_held3 (fun w'=>w'.cell? ⟨W.heap.size,0,none⟩=some (.int .i64 x0)∧w'.cell? ⟨W.heap.size,1,none⟩=some (.int .i64 x1)∧w'.cell? ⟨W.heap.size+1,0,none⟩=some (.int .i64 y0)∧w'.cell? ⟨W.heap.size+1,1,none⟩=some (.int .i64 y1)) (go_keep)
  (first | (go_at_call 73;refine (CK _ _ _).mono ?_;rintro e w' ⟨rfl,rfl⟩) | (go_at_call 112;refine (abV _ _ (by exact KE) (by exact KE)).mono ?_;rintro e w' ⟨rfl,rfl⟩))
 all_goals go_wp2
 all_goals go_ret
 all_goals exact ⟨rfl,1,_,by
  show World.drew _=_;rw [alloc_eq_grow,alloc_eq_grow,alloc_eq_grow,grow_grow,grow_grow]
  rfl⟩
theorem SV (x0 x1 x2 y0 y1 y2:Int) (W:World):Calls Tryz.prog 141 #[.agg #[.int .i64 x0,.int .i64 x1,.int .i64 x2],.agg #[.int .i64 y0,.int .i64 y1,.int .i64 y2]] W fun e w'=>e = .returned (.int .i64 (dz [dJ x0 y0,dJ x1 y1]))∧∃ q os',w' = grow (W.drewN q) os':=by
 have abV:∀ (b:Nat) (w:World),w.cell? ⟨b,0,none⟩=some (.int .i64 (dJ x0 y0))→w.cell? ⟨b,1,none⟩=some (.int .i64 (dJ x1 y1)) →
  Calls Tryz.prog 112 #[.slice (some ⟨b,0,none⟩) 2 2] w fun e w'=>e = .returned (.int .i64 (dz [dJ x0 y0,dJ x1 y1]))∧w' = w:=by
  intro b w k0 k1
  refine zo b [dJ x0 y0,dJ x1 y1] w (show (2:Nat)<1000 by decide) fun j hj=>?_
  have hj:j<2:=hj
  rcases (by omega:j=0∨j=1) with rfl | rfl<;>assumption
 go_enter Tryz.func141,Tryz.ntmps141
 go_wp2
 go_region_held3 (fun w'=>w'.cell? ⟨W.heap.size,0,none⟩=some (.int .i64 x0)∧w'.cell? ⟨W.heap.size,1,none⟩=some (.int .i64 x1)∧w'.cell? ⟨W.heap.size+1,0,none⟩=some (.int .i64 y0)∧w'.cell? ⟨W.heap.size+1,1,none⟩=some (.int .i64 y1)) (go_keep)
  (first | (go_at_call 73;refine (CK _ _ _).mono ?_;rintro e w' ⟨rfl,rfl⟩) | (go_at_call 112;refine (abV _ _ (by exact KE) (by exact KE)).mono ?_;rintro e w' ⟨rfl,rfl⟩))
 all_goals go_wp2
 all_goals go_ret
 all_goals exact ⟨rfl,1,_,by
  show World.drew _=_;rw [alloc_eq_grow,alloc_eq_grow,alloc_eq_grow,grow_grow,grow_grow]
  rfl⟩
abbrev Io:=Int×Int×Int×Unit
def Ev (x:Hp):List Value:=[.int .i64 x.1,.int .i64 x.2.1]
def Bd (x:Io):List Value:=[.int .i64 x.1,.int .i64 x.2.1,.int .i64 x.2.2.1]
def lU (x:Ar):List Value:=[.int .i64 x.1.1,.int .i64 x.1.2.1,.int .i64 x.2.1]
def abW (x y:Io):Int:=dz [dJ x.1 y.1,dJ x.2.1 y.2.1]
def SX (x y:Io):Bool:=decide (abW x y<0)
def lK (l:List Io):List Io:=(Go.Sort.pdq SX l.toArray 0 l.length (Go.Lib.bitLen l.length) true true).toList
theorem lex_lt (a b c d:Int):dz [dJ a b,dJ c d]<0↔a<b∨a=b∧c<d:=by
 simp only [dz,dJ]
 by_cases h1:a<b
 ·simp [h1]
 ·by_cases h2:b<a
  ·simp [h1,h2];omega
  ·have:a=b:=by omega
   subst this
   by_cases h3:c<d
   ·simp [h3]
   ·by_cases h4:d<c
    ·simp [h3,h4]
    ·simp [h3,h4]
theorem aki {α:Type} (f g:α→Int):SWO (ltOf fun x y:α=>dz [dJ (f x) (f y),dJ (g x) (g y)]):=by
 have key:∀ x y:α,(ltOf fun x y:α=>dz [dJ (f x) (f y),dJ (g x) (g y)]) x y=true↔(f x<f y∨f x=f y∧g x<g y):=fun x y=>by
  unfold ltOf;rw [mX];exact lex_lt _ _ _ _
 have kf:∀ x y:α,(ltOf fun x y:α=>dz [dJ (f x) (f y),dJ (g x) (g y)]) x y=false↔¬ (f x<f y∨f x=f y∧g x<g y):=fun x y=>by
  rw [←key]
  cases (ltOf fun x y:α=>dz [dJ (f x) (f y),dJ (g x) (g y)]) x y<;>simp
 refine ⟨fun x=>(kf x x).2 (by omega),fun x y z h1 h2=>(key x z).2 ?_,fun x y z h1 h2=>(kf x z).2 ?_⟩
 ·rw [key] at h1 h2;omega
 ·rw [kf] at h1 h2;omega
section
variable {α:Type} [Inhabited α] {enc:α→List Value} {k:Nat}
theorem Vn {w:World} {b:Nat} {d d':Array α} (h:HoldsK enc k w b 0 d) (hs:d'.size=d.size):putRowK enc k w b 0 d' = w.setCells b 0 (flatK enc k d').toList:=by
 have e0:putRow id w b 0 (flatK enc k d)=w:=putRow_self id w b 0 _ h
 have e1:=setCells_putRow w b 0 (flatK enc k d').toList 0 (flatK enc k d) (by simp [hs])
 rw [e0] at e1;rw [Nat.add_zero] at e1;rw [e1];unfold putRowK
 congr 1
 refine ext_get! (by simp [hs]) fun t ht=>?_
 have ht2:t<(flatK enc k d).size:=by rw [size_flatK] at ht ⊢;rw [hs] at ht;exact ht
 rw [get_setMany _ _ _ _ ht2,if_pos ⟨mY _,by simpa using ht⟩,Nat.sub_zero]
 rw [getElem!_pos _ t ht,getElem!_pos _ t (by simpa using ht)]
 simp
theorem tN {ρ:Go.Shelf.Ren} (L:Go.Proofs.SlLaysF0.n6 Tryz.prog ρ) (aE:∀ w,(isAgg (ρ.t 24)).run Tryz.prog w = .ok true w) (zE:∀ w,(Go.sizeOf (ρ.t 24)).run Tryz.prog w = .ok k w) (hk:∀ x,(enc x).length=k) (h1:∀ x,∀ v∈enc x,v.oneCell' = true)
 (cf:α→α→Int) (hO:SWO (ltOf cf)) (g:Nat) (eg:∀ args w,(callFunc g args).run Tryz.prog w = .ok (.enter g args) w)
 (awf:∀ (x y:α) (W:World),Calls Tryz.prog g #[.agg (enc x).toArray,.agg (enc y).toArray] W fun e w'=>e = .returned (.int .i64 (cf x y))∧∃ q os',w' = grow (W.drewN q) os')
 {w:World} {b c:Nat} {l:List α} (hH:HoldsK enc k w b 0 l.toArray) (hb:b<w.heap.size) (eU:l.length<4611686018427387904) :
 Calls Tryz.prog (ρ.f 6) #[.slice (some ⟨b,0,none⟩) l.length c,.func (.func g) #[] #[]] w fun e w'=>e = .returned (.tuple #[]) ∧
  ∃ n os,w' = grow (Go.Sort.ahead (w.setCells b 0 (flatK enc k (Go.Sort.pdq (ltOf cf) l.toArray 0 l.length (Go.Lib.bitLen l.length) true true)).toList) n) os:=by
 have h:=AnyQ.slices_SortFunc_eq (P:=Tryz.prog) (ρ:=ρ) L k aE zE enc hk h1 cf hO g #[] b 0 c l.toArray w eg (fun m os dk hs x y=>awf x y _) hH hb (by simpa using eU)
 have h:Calls Tryz.prog (ρ.f 6) #[.slice (some ⟨b,0,none⟩) l.toArray.size c,.func (.func g) #[] #[]] w _:=h
 rw [show l.toArray.size=l.length from by simp] at h
 refine h.mono ?_;rintro e w' ⟨rfl,n,os,rfl⟩;refine ⟨rfl,n,os,?_⟩;unfold sortWorldK
 congr 1
 show putRow id (Go.Sort.ahead w n) b 0 (flatK enc k _)=_;rw [putRow_ahead]
 congr 1
 refine Vn hH ?_
 obtain ⟨⟨k1,-,-⟩,-⟩:=Go.Sort.pdq_sorts (ltOf cf) hO l.toArray 0 l.length (Go.Lib.bitLen l.length) true true (mY _) (by simp) (.inl rfl)
 exact k1
theorem lu {lt:α→α→Bool} (hO:SWO lt) (l:List α):((Go.Sort.pdq lt l.toArray 0 l.length (Go.Lib.bitLen l.length) true true).toList).Perm l:=by
 obtain ⟨⟨k1,-,k2⟩,-⟩:=Go.Sort.pdq_sorts lt hO l.toArray 0 l.length (Go.Lib.bitLen l.length) true true (mY _) (by simp) (.inl rfl)
 generalize Go.Sort.pdq lt l.toArray 0 l.length (Go.Lib.bitLen l.length) true true=d at k1 k2
 have eU:d.size=l.length:=by simpa using k1
 rw [←eU] at k2
 have e1:d.extract 0 d.size=d:=by simp
 have e2:l.toArray.extract 0 d.size=l.toArray:=by rw [eU];simp
 rw [e1,e2] at k2
 simpa using k2
end
theorem ap7:∀ args w,(callFunc 124 args).run Tryz.prog w = .ok (.enter 124 args) w:=enters_of Tryz.func124 (by kernel_rfl) rfl
theorem ap8:∀ args w,(callFunc 129 args).run Tryz.prog w = .ok (.enter 129 args) w:=enters_of Tryz.func129 (by kernel_rfl) rfl
theorem ap9:∀ args w,(callFunc 141 args).run Tryz.prog w = .ok (.enter 141 args) w:=enters_of Tryz.func141 (by kernel_rfl) rfl
theorem akj:SWO Mh:=aki (fun x:Hp=>x.1) (fun x:Hp=>x.2.1)
theorem P5:SWO SX:=aki (fun x:Io=>x.1) (fun x:Io=>x.2.1)
theorem aqa:SWO ltA:=aki (fun x:Ar=>x.1.1) (fun x:Ar=>x.1.2.1)
theorem SY {w:World} {b c:Nat} {l:List Hp} (hH:HoldsK Ev 2 w b 0 l.toArray) (hb:b<w.heap.size) (eU:l.length<4611686018427387904) :
 Calls Tryz.prog 123 #[.slice (some ⟨b,0,none⟩) l.length c,.func (.func 124) #[] #[]] w fun e w'=>e = .returned (.tuple #[])∧∃ n os,w' = grow (Go.Sort.ahead (w.setCells b 0 (flatK Ev 2 (iQ l).toArray).toList) n) os:=by
 have:=tN (ρ:=tL) (k:=2) (enc:=Ev) SL Tryz.isAgg44 Tryz.sizeOf44 (fun _=>rfl) (fun x v hv=>by simp [Ev] at hv;rcases hv with rfl | rfl<;>rfl) IL akj 124 ap7 (fun x y W=>SQ x.1 x.2.1 y.1 y.2.1 W) (c:=c) hH hb eU
 rw [show (iQ l).toArray=Go.Sort.pdq Mh l.toArray 0 l.length (Go.Lib.bitLen l.length) true true from by unfold iQ;simp]
 exact this
theorem S9 {w:World} {b c:Nat} {l:List Io} (hH:HoldsK Bd 3 w b 0 l.toArray) (hb:b<w.heap.size) (eU:l.length<4611686018427387904) :
 Calls Tryz.prog 128 #[.slice (some ⟨b,0,none⟩) l.length c,.func (.func 129) #[] #[]] w fun e w'=>e = .returned (.tuple #[])∧∃ n os,w' = grow (Go.Sort.ahead (w.setCells b 0 (flatK Bd 3 (lK l).toArray).toList) n) os:=by
 have:=tN (ρ:=zm) (k:=3) (enc:=Bd) abT Tryz.isAgg234 Tryz.sizeOf234 (fun _=>rfl) (fun x v hv=>by simp [Bd] at hv;rcases hv with rfl | rfl | rfl<;>rfl) abW P5 129 ap8 (fun x y W=>SS x.1 x.2.1 x.2.2.1 y.1 y.2.1 y.2.2.1 W) (c:=c) hH hb eU
 rw [show (lK l).toArray=Go.Sort.pdq SX l.toArray 0 l.length (Go.Lib.bitLen l.length) true true from by unfold lK;simp]
 exact this
theorem Ta {w:World} {b c:Nat} {l:List Ar} (hH:HoldsK lU 3 w b 0 l.toArray) (hb:b<w.heap.size) (eU:l.length<4611686018427387904) :
 Calls Tryz.prog 140 #[.slice (some ⟨b,0,none⟩) l.length c,.func (.func 141) #[] #[]] w fun e w'=>e = .returned (.tuple #[])∧∃ n os,w' = grow (Go.Sort.ahead (w.setCells b 0 (flatK lU 3 (fO l).toArray).toList) n) os:=by
 have:=tN (ρ:=zn) (k:=3) (enc:=lU) abU Tryz.isAgg231 Tryz.sizeOf231 (fun _=>rfl) (fun x v hv=>by simp [lU] at hv;rcases hv with rfl | rfl | rfl<;>rfl) (fun x y=>IL x.1 y.1) aqa 141 ap9 (fun x y W=>SV x.1.1 x.1.2.1 x.2.1 y.1.1 y.1.2.1 y.2.1 W) (c:=c) hH hb eU
 rw [show (fO l).toArray=Go.Sort.pdq ltA l.toArray 0 l.length (Go.Lib.bitLen l.length) true true from by unfold fO;simp]
 exact this
theorem tO (l:List Hp):(jP l).length=l.length*2:=by
 induction l with
 | nil=>rfl
 | cons x r ih=>rw [show jP (x::r)=[.int .i64 x.1,.int .i64 x.2.1]++jP r from rfl,nP,ih];simp;omega
theorem rY:∀ (l:List Hp) (j:Nat),j<l.length*2→(jP l)[j]? = some ((Ev (l.toArray[j / 2]!))[j%2]!)
 | [],j,h=>by simp at h
 | x::r,0,h=>by simp [jP,Ev]
 | x::r,1,h=>by simp [jP,Ev]
 | x::r,j+2,h=>by
  have ih:=rY r j (by simp at h;omega)
  have e1:(j+2) / 2=j / 2+1:=by omega
  have e2:(j+2)%2=j%2:=by omega
  have e3:(x::r).toArray[j / 2+1]! = r.toArray[j / 2]!:=by simp
  rw [e1,e2,e3,←ih];rfl
theorem afe (l:List Hp):(flatK Ev 2 l.toArray).toList=jP l:=by
 refine List.ext_getElem? fun j=>?_
 have hs:(flatK Ev 2 l.toArray).size=l.length*2:=by rw [size_flatK];simp
 by_cases hj:j<l.length*2
 ·rw [rY l j hj]
  have:=get_flatK Ev 2 l.toArray j (by simpa using hj)
  rw [←this,getElem!_pos _ j (by rw [hs];exact hj)]
  simp [hs,hj]
 ·rw [List.getElem?_eq_none (by simp [hs];omega),List.getElem?_eq_none (by rw [tO];omega)]
theorem abX {W:World} {base vb:Nat} {v:Value} {h:List Hp} (R:jI W base vb v h) (qN:h.length≤1000) :
 Calls Tryz.prog 123 #[v,.func (.func 124) #[] #[]] W fun e w'=>
  e = .returned (.tuple #[])∧w'.cell? ⟨vb,0,none⟩=some v∧w'.ownsRow base 44 2 v (iQ h).length (jP (iQ h))∧Below base W w':=by
 have iY:=(lu akj h).length_eq;have iY:(iQ h).length=h.length:=iY;obtain ⟨aT,hle,hv,fP⟩:=R
 rcases fP.2 with ⟨rfl,h0⟩ | ⟨g,cap,cur,rfl,e2,e3,e4,e5,e6,e7⟩
 ·have hh:h=[]:=List.length_eq_zero_iff.1 h0
  subst hh;refine (AnyF.slices_SortFunc_none (P:=Tryz.prog) (ρ:=tL) SL none 0 (.func (.func 124) #[] #[]) W).mono ?_;rintro e w' ⟨rfl,rfl⟩;refine ⟨rfl,cell_of_one hv,?_,Below.refl _ _⟩;have hs:iQ []=[]:=List.length_eq_zero_iff.1 iY;rw [hs];exact World.ownsRow_nil _ _ _ _
 ·have hg:=lt_of_block e3
  have Td:∀ j,j<h.length*2→W.cell? ⟨g,j,none⟩=(jP h)[j]?:=fun j hj=>fP.cellAt j hj
  have hH:HoldsK Ev 2 W g 0 h.toArray:=by
   intro j hj
   have vQ:j<h.length*2:=by rw [size_flatK] at hj;simpa using hj
   refine ⟨?_,by simp [World.frozen?,e3]⟩
   rw [Nat.zero_add,Td j vQ,rY h j vQ,←get_flatK Ev 2 h.toArray j (by simpa using vQ)]
   rfl
  refine (SY (c:=cap) hH hg (by omega)).mono ?_
  rintro e w' ⟨rfl,n,os,rfl⟩;rw [afe];obtain ⟨s1,s2,s3,s4,s5,s6⟩:=eY (jP (iQ h)) W g 0;obtain ⟨FL,k1,k2⟩:=s2 cur 44 (0,0) e3
  have jr:Room W g (h.length*2):=⟨cur,44,(0,0),e3,by rw [e6];exact zF _ e4,by simp⟩
  have hfl:(jP (iQ h)).length=h.length*2:=by rw [tO,iY]
  have DR:∀ b,b<W.heap.size→(grow (Go.Sort.ahead (W.setCells g 0 (jP (iQ h))) n) os).heap[b]? = (W.setCells g 0 (jP (iQ h))).heap[b]?:=fun b hb=>by
   show ((W.setCells g 0 (jP (iQ h))).heap++os)[b]? = _
   rw [Array.getElem?_append_left (by rw [s3];exact hb)]
  have other:∀ b,b<W.heap.size→b≠g→(grow (Go.Sort.ahead (W.setCells g 0 (jP (iQ h))) n) os).heap[b]? = W.heap[b]?:=fun b hb fC=>(DR b hb).trans (s1 b fC)
  refine ⟨rfl,?_,?_,?_⟩
  ·exact cell_of_one ((other vb (lt_of_block hv) (by omega)).trans hv)
  ·refine ⟨by rw [tO],.inr ⟨g,cap,FL,by rw [iY],e2,(DR g hg).trans k1,by rw [iY];exact e4,e5,by rw [k2];exact e6,?_⟩⟩
   refine List.ext_getElem? fun j=>?_
   rw [iY,List.getElem?_take]
   by_cases hj:j<h.length*2
   ·rw [if_pos hj]
    have:=sI jr (off:=0) (jP (iQ h)) (by omega) (j:=j) (by omega)
    rw [Nat.zero_add] at this;simp only [World.cell?,k1] at this;rw [Array.getElem?_toList]
    rw [iw (by omega)]
    exact this
   ·rw [if_neg hj,List.getElem?_eq_none (by omega)]
  ·refine ⟨s4,s6,s5,?_,fun k hk=>other k (by omega) (by omega)⟩
   show W.heap.size≤((W.setCells g 0 (jP (iQ h))).heap++os).size;rw [Array.size_append,s3];omega
theorem Vo {n:Nat} (h:n≤6):1≤2 ^ n∧2 ^ n≤64:=⟨Nat.one_le_two_pow,by
 have:=Nat.pow_le_pow_right (n:=2) (by decide) h
 exact this⟩
theorem abY {i:Nat} (hi:i≤6):wrap64 (2 ^ i)=((2 ^ i:Nat):Int):=by
 have:i=0∨i=1∨i=2∨i=3∨i=4∨i=5∨i=6:=by omega
 rcases this with rfl | rfl | rfl | rfl | rfl | rfl | rfl<;>simp [wrap64]
theorem CO {l:List Ar} {ts:List Int}:∀ {n:Nat} {T:List SB},D8 l ts n=some T→T.length=n∧∀ k,k<n→Xm l ts (T.take k) k=some (T.getD k zB)
 | 0,T,h=>by
  simp only [D8,bn] at h;subst h
  exact ⟨rfl,fun k hk=>absurd hk (by omega)⟩
 | n+1,T,h=>by
  simp only [D8] at h
  cases h1:D8 l ts n with
  | none=>rw [h1] at h;cases h
  | some T0=>
   rw [h1] at h;simp only [qB] at h
   cases h2:Xm l ts T0 n with
   | none=>rw [h2] at h;cases h
   | some t=>
    rw [h2] at h;simp only [qB,bn] at h;subst h;obtain ⟨h3,h4⟩:=CO h1
    refine ⟨by simp [h3],fun k hk=>?_⟩
    rcases Nat.lt_succ_iff_lt_or_eq.1 hk with h5 | rfl
    ·rw [List.take_append_of_le_length (by omega),rW (by omega)]
     exact h4 k h5
    ·rw [jk h3,List.take_append_of_le_length (by omega),List.take_of_length_le (by omega)]
     exact h2
theorem KF {l:List Ar} (bK:nW l=true) {ts:List Int} {n:Nat} {T:List SB} (h:D8 l ts n=some T):∀ k,k<n→Good k (T.getD k zB):=by
 obtain ⟨h1,h2⟩:=CO h;intro k
 induction k using Nat.strongRecOn with
 | _ k ih=>
  intro hk
  refine abQ bK (fun i hi=>?_) (h2 k hk)
  have e:(T.take k).getD i zB=T.getD i zB:=by simp only [List.getD,List.getElem?_take_of_lt hi]
  rw [e]
  exact ih i hi (by omega)
theorem aff {w:World} {pa pt:Option Addr} {n ca ct:Nat} {root:Int} :
 Calls Tryz.prog 55 #[.slice pa n ca,.int .i64 root,.slice pt 0 ct] w fun e w'=>e = .returned (.tuple #[.slice none 0 0,.int .i64 0,.bool true])∧w' = w:=by
 go_enter Tryz.func55,Tryz.ntmps55
 go_wp2
 go_ret3
 exact ⟨rfl,rfl⟩
theorem P6 {w:World} {l:List Ar} {root:Int} {ts:List Int} {pa:Option Addr} {ab ao ca tb Nw ct:Nat} (aqb:ts≠[]) (qD:tK w tb Nw ts) (Xj:tb<w.heap.size)
 (hl:qL w ab ao l) (yg:ab<w.heap.size) (hpa:l≠[]→pa=some ⟨ab,ao,none⟩) (bK:nW l=true) (hlen:ts.length≤6) (ME:∀ x∈ts,IntKind.i64.has x) (hr:IntKind.i64.has root)
 {y:List Hp×Int×Bool×Unit} (hc:cheap l root ts=some (y,())) :
 Calls Tryz.prog 55 #[.slice pa l.length ca,.int .i64 root,.slice (some ⟨tb,Nw,none⟩) ts.length ct] w fun e w'=>
  ∃ v,e = .returned (.tuple #[v,.int .i64 y.2.1,.bool y.2.2.1])∧w'.ownsRow w.heap.size 44 2 v y.1.length (jP y.1)∧Below w.heap.size w w':=by
 have uO:0<ts.length:=List.length_pos_iff.2 aqb
 obtain ⟨Tf,hT,Te⟩:∃ Tf,D8 l ts (2 ^ ts.length)=some Tf∧((wR≤eD (Tf.getD (2 ^ ts.length - 1) zB) root∧y=([],0,false,()))∨¬ wR≤eD (Tf.getD (2 ^ ts.length - 1) zB) root ∧
  ∃ f h,jM Tf f (2 ^ ts.length - 1) root=some h∧h.length≤1000∧y=(iQ h,eD (Tf.getD (2 ^ ts.length - 1) zB) root,true,())):=by
  unfold cheap at hc
  rw [bK,bL hlen,d9 (by omega:¬ ts.length=0)] at hc
  simp only [Bool.and_self,Bool.not_true,bJ] at hc
  cases h1:D8 l ts (2 ^ ts.length) with
  | none=>rw [h1] at hc;cases hc
  | some Tf=>
   rw [h1] at hc;simp only [qB] at hc;refine ⟨Tf,rfl,?_⟩
   by_cases hf:wR≤eD (Tf.getD (2 ^ ts.length - 1) zB) root
   ·rw [bL hf] at hc
    simp only [aQ,bn,gD,and_true] at hc;exact .inl ⟨hf,hc.symm⟩
   ·rw [d9 hf] at hc
    simp only [bJ] at hc;refine .inr ⟨hf,?_⟩
    cases h2:col Tf (2 ^ ts.length - 1) root with
    | none=>rw [h2] at hc;cases hc
    | some h=>
     rw [h2] at hc;simp only [qB] at hc
     by_cases qN:h.length≤1000
     ·rw [bL qN] at hc
      simp only [aQ,bn,gD,and_true] at hc;unfold col at h2;split at h2
      ·exact ⟨_,h,h2,qN,hc.symm⟩
      ·cases h2
     ·rw [d9 qN] at hc
      cases hc
 clear hc;obtain ⟨hTl,Hl⟩:=CO hT;have xR:=KF bK hT
 have hp0:¬ (ts.length:Int)=0:=by omega
 obtain ⟨q1,q2⟩:=Vo hlen;have Ud:=abY hlen;generalize hn9:2 ^ ts.length=n9 at hTl Hl xR q1 q2 Ud Te
 obtain ⟨n8,rfl⟩:∃ n8,n9=n8+1:=⟨n9 - 1,by omega⟩
 rw [Nat.add_sub_cancel] at Te;have H:Aside (wrap64 (2 ^ ts.length)=((n8+1:Nat):Int)):=Ud
 have HE:Aside ((wR≤eD (Tf.getD n8 zB) root∧y=([],0,false,()))∨¬ wR≤eD (Tf.getD n8 zB) root∧∃ f h,jM Tf f n8 root=some h∧h.length≤1000∧y=(iQ h,eD (Tf.getD n8 zB) root,true,())):=Te
 have HB:Aside (Below w.heap.size w (w.alloc (.cells #[.slice pa l.length ca,.slice none 0 0,.slice none 0 0] 221))):=(Below.refl _ _).alloc (bT _) _
 have HO:Aside (xC (w.alloc (.cells #[.slice pa l.length ca,.slice none 0 0,.slice none 0 0] 221)) w.heap.size (w.heap.size+1) (.slice pa l.length ca) (.slice none 0 0) (.slice none 0 0) 0 (fun _=>0) (fun _=>0) []):=
  ⟨heap_alloc_new _ _,World.ownsRow_nil _ _ _ _,World.ownsRow_nil _ _ _ _,fun i hi=>absurd hi (by omega),fun i hi=>absurd hi (by omega),fun i j hi=>absurd hi (by omega),fun i j hi=>absurd hi (by omega),fun i j hi=>absurd hi (by omega),
   fun i hi=>absurd hi (by omega),Nat.lt_succ_self _,by simp⟩
 have HH:Aside (_∧_∧_∧_∧_):=⟨hTl,Hl,xR,qD,hl⟩;clear Ud hT hn9 aqb Te hTl Hl xR qD hl
 go_enter Tryz.func55,Tryz.ntmps55
 go_wp2
 rw [H.out]
 have KB:aC w _ (fun _=>False):=aC.of_below HB.out _
 refine abR HO.out q2 hlen ME (HH.out.2.2.2.1.kept KB id) ⟨by omega,by omega⟩ (HH.out.2.2.2.2.kept KB id) ⟨by omega,by omega⟩ hpa bK HH.out.1 ?hq HH.out.2.1 HH.out.2.2.1 ?_
 case hq=>
  intro c a d v w h
  simp +zetaDelta only [Exit.inBlock,Exit.then,bodyPost] at h ⊢
  obtain ⟨h1,h2⟩:=h;refine ⟨?_,h2⟩
  cases d<;>exact h1
 clear KB;intro u11 u12 u13 u14 u15 u16 u29 u30 u31 u32 u33 u34 u35 u36 u37 u38 u39 u40 u41 u42 u43 u44 u45 u46 u47 u48 u49 u50 u51 u52 u53 u54 u55 u56 u57 u58 u59 u60 u61 u62 u63 u64 u65 u66 u67 u68 u69 u70 u71 u72 u73 u74 u75 u76 u77 u78 u79 u80 u81 u82 u83 u84 u85 u86 u87 u88 u89 u90 u91 u92 u93 u94 u95 u96 u97 u98 u99 IY IZ I4 I5 I6 I7 I8 I9 Ja Jb Jc Jd Je Jf Jg Jh Ji Jj Jk ap2 ap3 ap4 ap5 v1 v2 mc ms w1 O1 K1
 have aqc:Below w.heap.size w w1:=by
  have h1:=HB.out
  refine ⟨K1.os.trans h1.os,K1.tape.trans h1.tape,K1.output.trans h1.output,gX h1.size K1.size,fun k hk=>(K1.block k (by have:=h1.size;omega) ?_).trans (h1.block k hk)⟩
  rintro (h | h)<;>omega
 obtain ⟨cb,sb,_,_,S1⟩:=O1.sol (Nat.succ_pos n8);have awh:w.heap.size<w1.heap.size:=lt_of_block O1.bR
 have IX:Calls Tryz.prog 119 #[.pointer (some ⟨w.heap.size,0,none⟩),.int .i64 n8,.int .i64 root] w1 fun e w'=>e = .returned (.int .i64 (eD (Tf.getD n8 zB) root))∧w' = w1:=pG S1 (Nat.lt_succ_self n8) q2 hr
 have ajA:wR=2305843009213693951:=rfl;have hAb:=((HH.out.2.2.1 n8 (Nat.lt_succ_self n8)).1).at_ root;have HE2:=HE.out;have AA:Aside (Below w.heap.size w w1∧xC w1 w.heap.size (w.heap.size+1) (.slice pa l.length ca) v1 v2 (n8+1) mc ms Tf∧nK w1 w.heap.size cb sb (n8+1) mc ms Tf):=⟨aqc,O1,S1⟩;clear O1 K1 aqc S1 HO HB H HE;generalize eD (Tf.getD n8 zB) root=V at IX HE2 hAb;rw [ajA] at HE2
 rcases HE2 with ⟨hV,rfl⟩ | ⟨hV,f,h,aqd,qN,rfl⟩
 ·go_wp2_with (first
   | (go_at_call 119;refine IX.mono ?_;rintro e w2 ⟨rfl,rfl⟩))
  go_ret3
  exact ⟨_,rfl,World.ownsRow_nil _ _ _ _,AA.out.1⟩
 ·have akk:jI (w1.alloc (.cells #[.slice none 0 0] 32)) (w1.heap.size+1) w1.heap.size (.slice none 0 0) []:=⟨Nat.lt_succ_self _,by simp,heap_alloc_new _ _,World.ownsRow_nil _ _ _ _⟩
  have hB1:Below w1.heap.size w1 (w1.alloc (.cells #[.slice none 0 0] 32)):=(Below.refl _ _).alloc (bT _) _
  have rV:∀ b,Sl w.heap.size cb sb (n8+1) mc ms b→b<w1.heap.size+1∧b≠w1.heap.size:=by
   have S1:=AA.out.2.2;obtain ⟨c1,h1⟩:=S1.c1;intro b hb
   have:b<w1.heap.size:=by
    rcases hb with rfl | rfl | rfl | ⟨i,hi,rfl | rfl⟩
    ·exact awh
    ·exact lt_of_cell (S1.pc 0 (by omega))
    ·exact lt_of_cell (S1.ps 0 (by omega))
    ·exact (S1.fc i hi).lt
    ·exact (S1.fs i hi).lt
   omega
  have ajD:Calls Tryz.prog 121 #[.pointer (some ⟨w.heap.size,0,none⟩),.int .i64 n8,.int .i64 root,.func (.func 122) #[] #[.pointer (some ⟨w1.heap.size,0,none⟩)]] (w1.alloc (.cells #[.slice none 0 0] 32)) fun e w'=>
   ∃ v',e = .returned (.tuple #[])∧w'.cell? ⟨w1.heap.size,0,none⟩=some v'∧Aside (jI w' (w1.heap.size+1) w1.heap.size v' h∧Below w1.heap.size w1 w'):=by
   refine (Sw (n:=n8+1) q2 rV (fun i hi=>(HH.out.2.2.1 i hi).2) f _ n8 root _ [] h (AA.out.2.2.below hB1) akk (Nat.lt_succ_self n8) hr aqd (by simp;omega)).mono ?_
   rintro e w' ⟨rfl,v',R',U'⟩;rw [List.nil_append] at R'
   refine ⟨v',rfl,cell_of_one R'.var,R',hB1.trans ⟨U'.kept.os,U'.kept.tape,U'.kept.output,U'.kept.size,fun k hk=>U'.kept.block k (by simp;omega) ?_⟩⟩
   rintro (h | h)
   ·omega
   ·simp [Value.ownBlock] at h
  have awj:∀ W v',jI W (w1.heap.size+1) w1.heap.size v' h→Below w1.heap.size w1 W→Calls Tryz.prog 123 #[v',.func (.func 124) #[] #[]] W fun e w'=>
   e = .returned (.tuple #[])∧w'.cell? ⟨w1.heap.size,0,none⟩=some v'∧Aside (w'.ownsRow (w1.heap.size+1) 44 2 v' (iQ h).length (jP (iQ h))∧Below w1.heap.size w1 w'):=by
   intro W v' RW BW;refine (abX RW qN).mono ?_;rintro e w' ⟨rfl,h1,h2,h3⟩
   refine ⟨rfl,h1,h2,BW.trans ⟨h3.os,h3.tape,h3.output,h3.size,fun k hk=>h3.block k (by omega)⟩⟩
  have A2:Aside (jI (w1.alloc (.cells #[.slice none 0 0] 32)) (w1.heap.size+1) w1.heap.size (.slice none 0 0) []):=akk;clear hB1 rV aqd akk
  go_wp2_with (first
   | (go_at_call 119;refine IX.mono ?_;rintro e w2 ⟨rfl,rfl⟩)
   | (go_at_call 121;refine ajD.mono ?_;rintro e w2 ⟨v',rfl,hv',A3⟩)
   | (go_at_call 123;refine (awj _ _ A3.out.1 A3.out.2).mono ?_;rintro e w3 ⟨rfl,NR,A4⟩))
  go_ret3
  obtain ⟨B1,B2⟩:=A4.out;refine ⟨_,rfl,?_,?_⟩
  ·refine ⟨B1.1,?_⟩
   rcases B1.2 with h | ⟨g,cap,cur,e1,e2,e3⟩
   ·exact .inl h
   ·exact .inr ⟨g,cap,cur,e1,by omega,e3⟩
  ·have C1:=AA.out.1
   exact ⟨B2.os.trans C1.os,B2.tape.trans C1.tape,B2.output.trans C1.output,gX C1.size B2.size,fun k hk=>(B2.block k (by omega)).trans (C1.block k hk)⟩
end Go.dw.rO
namespace Go.dw
open Go.RowKit
section
variable {P:Program} {E E':Env} {C:Ctx} {s s':St} {a:Act} {w w':World} {G G':Nat→Nat} {pt:Nat→Nat→Option Value}
theorem Rel.agV (R:Rel E C s a w G pt) (hb:Below w.heap.size w w') (hG:∀ b,b<w.heap.size→G' b=G b) (hGz:∀ b,w'.heap.size≤b→G' b=0) (hs:∀ id,get s (2*id+1) = .undef) {n:Nat} {vs:Array Value} (eU:vs.size=n)
 (zS:∀ t,aU w' G' pt (get s' (2*t)) (vs.getD t undef)) (hz:∀ t b,dP b (get s' (2*t)) (vs.getD t undef)=0)
 (tV:∀ id,get s' (2*id+1) = .undef) (hhi:∀ t,n≤t→get s' (2*t) = .undef) (hg:E'.glob=E.glob) (hn:E'.n=n) :
 Rel E' C s' { tmps:=vs,defers:=[] } w' G' pt:=by
 have htc:∀ b,TC E'.n C.m s' { tmps:=vs,defers:=[] } w' pt b=0:=fun b=>by
  unfold TC
  rw [lg fun i _=>by rw [cT];exact hz i b,lg fun i _=>by rw [cB,tV];rfl]
 have aT:∀ b o,o<G b→b<w.heap.size:=fun b o h=>by
  rcases Nat.lt_or_ge b w.heap.size with h1 | h1
  ·exact h1
  ·have:=R.gz b h1;omega
 have hc:∀ b o,o<G b→w'.cell? ⟨b,o,none⟩=w.cell? ⟨b,o,none⟩:=fun b o h=>cell_of_heap (hb.block b (aT b o h)) o
 have hle:∀ b,G b≤G' b:=fun b=>by
  rcases Nat.lt_or_ge b w.heap.size with h1 | h1
  ·rw [hG b h1];exact bT _
  ·rw [R.gz b h1];exact mY _
 refine ⟨by rw [hn];exact eU,rfl,zS,fun id=>by rw [tV];trivial,fun t ht=>hhi t (by omega),fun id _=>tV id,fun b=>by rw [htc b];omega,fun b h=>?_,fun b h1 h2=>?_,
  R.ex.trans ⟨hc,hle⟩,fun b h=>hGz b h,hb.os.trans R.os,hb.output.trans R.out,hb.tape.trans R.tape,gX R.hs hb.size,fun id st h=>?_,fun g k l h=>?_,R.pn⟩
 ·rw [htc b] at h;omega
 ·obtain ⟨h3,h4⟩:=R.fr b h1 h2
  have h5:=mK h1 R.hs;exact ⟨(hb.block b h5).trans h3,(hG b h5).trans h4⟩
 ·refine R.pf id st ?_
  rw [hs];rw [tV] at h;exact h
 ·rw [hg] at h
  obtain ⟨h1,h2⟩:=R.gl g k l h
  refine ⟨gX h1 (hle g),fun j hj=>?_⟩
  rw [hc g j (by omega)]
  exact h2 j hj
end
end Go.dw
namespace Go.dw.rO
open Go Go.Proofs Go.RowKit aA
theorem P7 {w:World} {G:Nat→Nat} {l:List Ar} {b o:Nat} (hr:fA w G Ki l b o):qL w b o l:=by
 have key:∀ k (hk:k<l.length),_:=fun k hk=>hr k hk
 refine ⟨fun k hk=>?_,fun k hk=>?_,fun k hk=>?_⟩ <;>
  obtain ⟨⟨h1,h2,-⟩,h3,-⟩:=key k hk <;>
  rw [List.getD,iw hk,sw]
 ·exact h1.1
 ·exact h2.1
 ·exact h3.1
theorem P8 {w:World} {G:Nat→Nat} {l:List Int} {b o:Nat} (hr:fA w G (.int .i64) l b o):tK w b o l∧∀ x∈l,IntKind.i64.has x:=by
 refine ⟨⟨fun k hk=>?_⟩,fun x hx=>?_⟩
 ·rw [List.getD,iw hk,sw]
  have:=(hr k hk).1
  rw [show k*(Ty.int .i64).nc=k from Nat.mul_one k] at this
  exact this
 ·obtain ⟨k,hk,rfl⟩:=List.getElem_of_mem hx
  exact (hr k hk).2
theorem abZ {T:List SB} {n:Nat} (gG:∀ i,i<n→Stp (T.getD i zB) i):∀ (f i:Nat) (r:Int) (h:List Hp),i<n→IntKind.i64.has r→jM T f i r=some h→∀ p∈h,IntKind.i64.has p.1∧IntKind.i64.has p.2.1:=by
 intro f
 induction f with
 | zero=>exact fun _ _ _ _ _ h=>by cases h
 | succ f ih=>
  intro i r h hi hr hc
  have yO:∀ x,((T.getD i zB).2 r).getD (0,0,())=x→0≤x.1∧x.1≤99∧∃ p:Nat,x.2.1=p∧Nat.land p i=p:=by
   rintro x rfl
   cases hh:(T.getD i zB).2 r with
   | none=>exact ⟨by decide,by decide,0,rfl,Nat.zero_and _⟩
   | some y=>exact gG i hi r y hh
  simp only [jM] at hc;generalize ((T.getD i zB).2 r).getD (0,0,())=x at hc yO;obtain ⟨y1,y2,p,hp,hpi⟩:=yO _ rfl
  have Ma:p≤i:=by rw [←hpi];exact Nat.and_le_right
  by_cases e1:x.1=0
  ·rw [bL e1] at hc
   by_cases e2:x.2.1=0
   ·rw [bL e2] at hc
    simp only [Bool.not_true,bJ,bn] at hc;subst hc;simp
   ·rw [d9 e2] at hc
    simp only [Bool.not_true,Bool.not_false,aQ,bJ] at hc;rw [hp,jd] at hc
    cases rz:jM T f p r with
    | none=>rw [rz] at hc;cases hc
    | some l1=>
     rw [rz] at hc;simp only [qB] at hc
     cases zI:jM T f (i - p) r with
     | none=>rw [zI] at hc;cases hc
     | some l2=>
      rw [zI] at hc;simp only [qB,bn] at hc;subst hc;intro q hq
      rcases List.mem_append.1 hq with hq | hq
      ·exact ih p r l1 (by omega) hr rz q hq
      ·exact ih (i - p) r l2 (by omega) hr zI q hq
  ·rw [d9 e1] at hc
   simp only [Bool.not_false,aQ] at hc
   cases rz:jM T f i x.1 with
   | none=>rw [rz] at hc;cases hc
   | some l1=>
    rw [rz] at hc;simp only [qB,bn] at hc;subst hc
    have h1:IntKind.i64.has x.1:=ko (by unfold wR;omega)
    intro q hq
    rcases lC hq with rfl | hq
    ·exact ⟨hr,h1⟩
    ·exact ih i _ l1 hi h1 rz q hq
theorem P9 {l:List Ar} {root:Int} {ts:List Int} (hr:IntKind.i64.has root) {y:List Hp×Int×Bool×Unit} (hc:cheap l root ts=some (y,())) :
 nW l=true∧ts.length≤6∧(ts=[]→y=([],0,true,()))∧(∀ p∈y.1,IntKind.i64.has p.1∧IntKind.i64.has p.2.1)∧y.1.length≤1000∧0≤y.2.1∧y.2.1≤wR:=by
 unfold cheap at hc
 cases hg:nW l&&decide (ts.length≤6) with
 | false=>rw [hg] at hc;cases hc
 | true=>
  obtain ⟨bK,hlen⟩:=dA _ _ |>.mp hg;have hlen:=vP hlen;rw [hg] at hc;simp only [Bool.not_true,bJ] at hc;refine ⟨bK,hlen,?_⟩
  by_cases h0:ts.length=0
  ·rw [bL h0] at hc
   simp only [aQ,bn,gD,and_true] at hc;subst hc
   exact ⟨fun _=>rfl,by simp,by decide,by decide,by decide⟩
  ·rw [d9 h0] at hc
   simp only [bJ] at hc
   refine ⟨fun h=>absurd (by rw [h];rfl) h0,?_⟩
   cases hT:D8 l ts (2 ^ ts.length) with
   | none=>rw [hT] at hc;cases hc
   | some T=>
    rw [hT] at hc;simp only [qB] at hc;have xR:=KF bK hT;have hp:=(Vo hlen).1
    by_cases hf:wR≤eD (T.getD (2 ^ ts.length - 1) zB) root
    ·rw [bL hf] at hc
     simp only [aQ,bn,gD,and_true] at hc;subst hc
     exact ⟨by simp,by decide,by decide,by decide⟩
    ·rw [d9 hf] at hc
     simp only [bJ] at hc
     cases h2:col T (2 ^ ts.length - 1) root with
     | none=>rw [h2] at hc;cases hc
     | some h=>
      rw [h2] at hc;simp only [qB] at hc
      by_cases qN:h.length≤1000
      ·rw [bL qN] at hc
       simp only [aQ,bn,gD,and_true] at hc;subst hc;unfold col at h2;split at h2
       ·have iY:=lu akj h
        have hA:=(xR (2 ^ ts.length - 1) (by omega)).1.at_ root
        exact ⟨fun p hp=>abZ (fun i hi=>(xR i hi).2) _ _ _ h (by omega) hr h2 p (iY.mem_iff.1 hp),by rw [show (iQ h).length=h.length from iY.length_eq];exact qN,hA.1,hA.2⟩
       ·cases h2
      ·rw [d9 qN] at hc
       cases hc
theorem Qa (d e f:D):(∀ t,3≤t→get [(0,d),(2,e),(4,f)] (2*t) = .undef)∧∀ id,get [(0,d),(2,e),(4,f)] (2*id+1) = .undef:=by
 refine ⟨fun t ht=>?_,fun id=>?_⟩
 ·simp only [get,qI (show 2*t≠0 by omega),qI (show 2*t≠2 by omega),qI (show 2*t≠4 by omega),bJ]
 ·simp only [get,qI (show 2*id+1≠0 by omega),qI (show 2*id+1≠2 by omega),qI (show 2*id+1≠4 by omega),bJ]
theorem aqe {E:Env}:eO Tryz.prog E 55 c55:=by
 rintro ⟨⟨⟩,l,root,ts,⟨⟩⟩ y hy C args w G pt hm gP iM R K hK;have hy:cheap l root ts=some y:=hy
 obtain ⟨v0,v1,v2,rfl⟩:∃ v0 v1 v2,args = #[v0,v1,v2]:=by
  have:args.size=3:=iM
  match args,this with
  | ⟨[v0,v1,v2]⟩,_=>exact ⟨v0,v1,v2,rfl⟩
 obtain ⟨pa,na,ca,Uz,hna,_,_,hsa⟩:∃ a n c,v0 = .slice a n c∧n=List.length (α:=Ar) l∧n*24≤lW∧VQ w G 0 Ki l a c:=R.tm 0
 obtain ⟨uQ,Bf⟩:v1 = .int .i64 root∧IntKind.i64.has root:=R.tm 1
 obtain ⟨kY,nt,ct,Ll,wo,_,_,gG⟩:∃ a n c,v2 = .slice a n c∧n=List.length (α:=Int) ts∧n*8≤lW∧VQ w G 0 (.int .i64) ts a c:=R.tm 2
 subst Uz uQ Ll hna wo;obtain ⟨⟨hs,cost,ok,⟨⟩⟩,⟨⟩⟩:=y;obtain ⟨bK,hlen,yh,ME,qN,FB,rz⟩:=P9 Bf hy;have qN:hs.length≤1000:=qN;have FB:0≤cost:=FB;have rz:cost≤wR:=rz
 have aT:∀ b o,o<G b→b<w.heap.size:=fun b o h=>by
  rcases Nat.lt_or_ge b w.heap.size with h1 | h1
  ·exact h1
  ·have:=R.gz b h1;omega
 have fin:∀ (v:Value) (w':World),w'.ownsRow w.heap.size 44 2 v hs.length (jP hs)→Below w.heap.size w w'→K (.returned (.tuple #[v,.int .i64 cost,.bool ok])) w':=by
  intro v w' fP hb
  have oU:∃ (G':Nat→Nat) (a:Option Addr) (c:Nat),v = .slice a hs.length c∧(∀ b,b<w.heap.size→G' b=G b)∧(∀ b,w'.heap.size≤b→G' b=0)∧VQ w' G' 0 hpT hs a c:=by
   rcases fP.2 with ⟨rfl,h0⟩ | ⟨g,cap,cur,rfl,e2,e3,e4,e5,e6,e7⟩
   ·have hh:hs=[]:=List.length_eq_zero_iff.1 h0
    subst hh
    exact ⟨G,none,0,rfl,fun _ _=>rfl,fun b h=>R.gz b (gX hb.size h),bT _,.inl rfl⟩
   ·have hg:=lt_of_block e3
    refine ⟨fun b=>if b=g then hs.length*2 else G b,some ⟨g,0,none⟩,cap,rfl,fun b h=>if_neg (by omega),fun b h=>?_,e4,.inr ⟨g,0,rfl,?_,?_⟩⟩
    ·show (if b=g then _ else _)=_
     rw [if_neg (by omega)]
     exact R.gz b (gX hb.size h)
    ·show 0+hs.length*2≤if g=g then _ else _
     rw [if_pos rfl];omega
    ·intro i hi
     have hi:i<hs.length:=hi;obtain ⟨k1,k2⟩:=ME _ (zG hi)
     have hd:(hs.toArray[i]!)=hs[i]:=by
      rw [getElem!_pos hs.toArray i (by simpa using hi)]
      simp
     have c0:=fP.cellAt (i*2) (by omega)
     rw [rY hs (i*2) (by omega),show i*2 / 2=i by omega,show i*2%2=0 by omega,hd] at c0
     have c1:=fP.cellAt (i*2+1) (by omega)
     rw [rY hs (i*2+1) (by omega),show (i*2+1) / 2=i by omega,show (i*2+1)%2=1 by omega,hd] at c1
     refine ⟨⟨?_,k1⟩,⟨?_,k2⟩,trivial⟩
     ·show w'.cell? ⟨g,0+i*2,none⟩=_
      rw [Nat.zero_add];exact c0
     ·show w'.cell? ⟨g,0+i*2+1,none⟩=_
      rw [Nat.zero_add];exact c1
  obtain ⟨G',a,c,rfl,g1,g2,g3⟩:=oU
  have g4:hs.length*16≤lW:=by unfold lW;omega
  have hR:=Rel.agV (E':=uo E c55.rs.num c55.bM) R hb g1 g2 (Qa _ _ _).2 (s':=gH c55 ((hs,cost,ok,()),())) (n:=3) (vs:=#[.slice a hs.length c,.int .i64 cost,.bool ok]) rfl (fun t=>by
   match t with
   | 0=>exact ⟨_,_,_,rfl,rfl,g4,g3⟩
   | 1=>exact ⟨rfl,ko ⟨FB,Int.le_trans rz (by unfold wR;decide)⟩⟩
   | 2=>exact rfl
   | t+3=>rw [show get (gH c55 ((hs,cost,ok,()),())) (2*(t+3)) = .undef from (Qa _ _ _).1 (t+3) (by omega)];trivial) (fun t b=>by
   match t with
   | 0=>cases a<;>rfl
   | 1=>rfl
   | 2=>rfl
   | t+3=>rw [show get (gH c55 ((hs,cost,ok,()),())) (2*(t+3)) = .undef from (Qa _ _ _).1 (t+3) (by omega)];exact dX b _) (Qa _ _ _).2 (Qa _ _ _).1 rfl rfl
  exact hK _ _ _ _ hR
 by_cases QI:ts=[]
 ·have:=yh QI
  simp only [gD,and_true] at this;obtain ⟨rfl,rfl,rfl⟩:=this;subst QI;refine aff.mono ?_;rintro e w' ⟨rfl,rfl⟩;exact fin _ _ (World.ownsRow_nil _ _ _ _) (Below.refl _ _)
 ·obtain ⟨tb,Nw,rfl,hto,hrt⟩:=gG.resolve_left QI
  obtain ⟨hi1,hi2⟩:=P8 hrt;have uO:0<List.length (α:=Int) ts:=List.length_pos_iff.2 QI;have hto:Nw+List.length (α:=Int) ts*1≤G tb:=hto
  have Xj:tb<w.heap.size:=aT tb Nw (by omega)
  by_cases hl0:l=[]
  ·subst hl0
   refine (P6 (pa:=pa) (ab:=tb) (ao:=0) QI hi1 Xj ⟨fun k hk=>absurd hk (by simp),fun k hk=>absurd hk (by simp),fun k hk=>absurd hk (by simp)⟩ Xj (fun h=>absurd rfl h) bK hlen hi2 Bf hy).mono ?_
   rintro e w' ⟨v,rfl,h1,h2⟩;exact fin _ _ h1 h2
  ·obtain ⟨ab,ao,rfl,hao,hra⟩:=hsa.resolve_left hl0
   have aAZ:0<List.length (α:=Ar) l:=List.length_pos_iff.2 hl0;have hao:ao+List.length (α:=Ar) l*3≤G ab:=hao
   refine (P6 QI hi1 Xj (P7 hra) (aT ab ao (by omega)) (fun _=>rfl) bK hlen hi2 Bf hy).mono ?_
   rintro e w' ⟨v,rfl,h1,h2⟩;exact fin _ _ h1 h2
abbrev B:Env:=mkE Cw gl 0 false []
theorem awk:dM Tryz.prog B 55 c55:=⟨by decide,fun _=>aqe,fun x h=>(by cases h),Tryz.f55,Tryz.func55,by kernel_rfl,by kernel_rfl⟩
theorem glue {f:Nat} {fn:Func} {E:Env} (hE:nS Tryz.prog E) (hg:B.glob=E.glob) (L:List (Nat×cu)) (hL:∀ g aZ,xK L g=some aZ→dM Tryz.prog B (g%1000000) aZ) (Co:Plan) {c:cu}
 (hf:Tryz.prog.funcs[f]? = some fn) (hck:AB E fn c=true) (hF:∀ x y,c.okV x→c.F x=some y→(evF (fun _ _=>Loop) E (xK L) fn Co c x).den=some y):dM Tryz.prog B f c:=
 dM.env (E:=E) hg (aie hE mix (fun g aZ h=>dM.env (E:=B) hg.symm (hL g aZ h)) Co hf hck hF)
open Go.dw
noncomputable section
def MF (a0:jS) (a1:eP):Option (Sum eP xA):=let q1:=List.getD a0 (Int.toNat a1.1) (0,false,());bif decide (a1.1<Int.ofNat a0.length) then (bif decide (0≤a1.1)&&decide (a1.1<Int.ofNat a0.length) then bif !decide (q1.1<1) then bif decide (0≤a1.1)&&decide (a1.1<Int.ofNat a0.length) then some (decide (q1.1 > 99),()) else none else some (true,()) else none).bind fun y2=>bif y2.1 then some (.inr (true,(2,()),())) else some (.inl (aR (a1.1+1),())) else some (.inr (false,(0,()),()))
def Hq (a0:jS) (a1:eP):Option (Sum eP xA):=let q1:=aR (a1.1 - 1);bif decide (a1.1<Int.ofNat a0.length) then bif decide (0≤q1)&&decide (q1<Int.ofNat a0.length) then bif decide (0≤a1.1)&&decide (a1.1<Int.ofNat a0.length) then bif decide ((List.getD a0 (Int.toNat q1) (0,false,())).1≥(List.getD a0 (Int.toNat a1.1) (0,false,())).1) then some (.inr (true,(25,()),())) else some (.inl (aR (a1.1+1),())) else none else none else some (.inr (false,(0,()),()))
def MG (a0:jf) (a1:eP):Option (Sum eP xA):=let q1:=List.getD a0 (Int.toNat a1.1) (0,0,0,0,0,());bif decide (a1.1<Int.ofNat a0.length) then bif decide (0≤a1.1)&&decide (a1.1<Int.ofNat a0.length) then (bif !!inside q1.2.2.1 1 1000 then bif !!inside q1.2.2.2.1 1 1000 then bif !decide (q1.2.2.2.2.1<0) then some (decide (q1.2.2.2.2.1 > 1000),()) else some (true,()) else some (true,()) else some (true,())).bind fun y2=>bif y2.1 then some (.inr (true,(2,()),())) else some (.inl (aR (a1.1+1),())) else none else some (.inr (false,(0,()),()))
def MH (a0:jS) (a1:jf) (a2:eP):Option (Sum eP xA):=let q1:=List.getD a1 (Int.toNat a2.1) ((0:Int),(0:Int),(0:Int),(0:Int),(0:Int),());bif decide (a2.1<Int.ofNat a1.length) then (bif decide ((0:Int)≤a2.1)&&decide (a2.1<Int.ofNat a1.length) then bif !!aA.jR a0 q1.1 then bif decide ((0:Int)≤a2.1)&&decide (a2.1<Int.ofNat a1.length) then some (!aA.jR a0 q1.2.1,()) else none else some (true,()) else none).bind fun (y3:qx)=>bif y3.1 then some (.inr (true,((4:Int),()),())) else some (.inl (aR (a2.1+(1:Int)),())) else some (.inr (false,((0:Int),()),()))
def MI (a0:jf) (a1:eP):Option (Sum eP xA):=let q1:=List.getD a0 (Int.toNat a1.1) (0,0,0,0,0,());bif decide (a1.1<Int.ofNat a0.length) then bif decide (0≤a1.1)&&decide (a1.1<Int.ofNat a0.length) then bif decide (0≤a1.1)&&decide (a1.1<Int.ofNat a0.length) then bif decide (q1.1≥q1.2.1) then some (.inr (true,(8,()),())) else some (.inl (aR (a1.1+1),())) else none else none else some (.inr (false,(0,()),()))
def Hr (a0:jf) (a1:eP):Option (Sum eP xA):=let q1:=List.getD a0 (Int.toNat (aR (a1.1 - 1))) (0,0,0,0,0,());let q2:=List.getD a0 (Int.toNat a1.1) (0,0,0,0,0,());let q3:=aR (a1.1 - 1);bif decide (a1.1<Int.ofNat a0.length) then bif decide (0≤q3)&&decide (q3<Int.ofNat a0.length) then bif decide (0≤a1.1)&&decide (a1.1<Int.ofNat a0.length) then (bif !decide (q1.1 > q2.1) then bif decide (q1.1=q2.1) then some (decide (q1.2.1≥q2.2.1),()) else some (false,()) else some (true,())).bind fun y2=>bif y2.1 then some (.inr (true,(25,()),())) else some (.inl (aR (a1.1+1),())) else none else none else some (.inr (false,(0,()),()))
def g50 (a0:jS) (a1:jf):Option eP:=(bif !decide (Int.ofNat a0.length > 24) then some (decide (Int.ofNat a1.length > 60),()) else some (true,())).bind fun y2=>bif y2.1 then some (3,()) else (Loop (@MF a0) (0,())).bind fun y3=>bif y3.1 then some y3.2.1 else (Loop (@Hq a0) (1,())).bind fun y4=>bif y4.1 then some y4.2.1 else (Loop (@MG a1) (0,())).bind fun y5=>bif y5.1 then some y5.2.1 else (Loop (@MH a0 a1) (0,())).bind fun y6=>bif y6.1 then some y6.2.1 else (Loop (@MI a1) (0,())).bind fun y7=>bif y7.1 then some y7.2.1 else (Loop (@Hr a1) (1,())).bind fun y8=>bif y8.1 then some y8.2.1 else some (0,())
def EO (a0:jS) (a1:Int) (a2:eP):Option (Sum eP yAX):=bif decide (a2.1<Int.ofNat a0.length) then bif decide (0≤a2.1)&&decide (a2.1<Int.ofNat a0.length) then bif decide ((List.getD a0 (Int.toNat a2.1) (0,false,())).1=a1) then some (.inr (true,(true,()),())) else some (.inl (aR (a2.1+1),())) else none else some (.inr (false,(false,()),()))
def aqf (a0:jS) (a1:jf) (a2:Int):Option qx:=(Loop (@EO a0 a2) (0,())).bind fun y3=>bif y3.1 then some y3.2.1 else some (false,())
def wU (a0:lQ) (a1:eP):Option (Sum eP xA):=let q1:=List.getD a0 (Int.toNat a1.1) 0;bif decide (a1.1<Int.ofNat a0.length) then bif decide (0≤a1.1)&&decide (a1.1<Int.ofNat a0.length) then bif !decide (q1=0) then some (.inr (true,(q1,()),())) else some (.inl (aR (a1.1+1),())) else none else some (.inr (false,(0,()),()))
def aqg (a0:lQ):Option eP:=(Loop (@wU a0) (0,())).bind fun y1=>bif y1.1 then some y1.2.1 else some (0,())
def aqh (a0:jS) (a1:jf) (a2:Int):Option ((yAG×qx)×Unit):=bif !(bs a0 a2).2.1 then some (((0,false,()),false,()),()) else bif decide (0≤(bs a0 a2).1)&&decide ((bs a0 a2).1<Int.ofNat a0.length) then some ((List.getD a0 (Int.toNat (bs a0 a2).1) (0,false,()),true,()),()) else none
def g49 (a0:lQ) (a1:Int) (a2:lQ):Option yAZ:=(on (wf (a0,a1,())) (next (a0,a1,()) (Int.ofNat a2.length))).bind fun y3=>bif decide (0≤y3.1)&&decide (y3.1<Int.ofNat a2.length) then some (List.getD a2 (Int.toNat y3.1) 0,y3.2) else none
def g38 (a0:jS) (a1:jf) (a2:Int):Option qx:=(bif RZ (a0,a1,()) then some (find (a0,a1,()) a2).2 else some (false,())).bind fun y3=>some y3
def g90 (a0 a1:Int):Option qx:=(bif rQ a1 then some (decide (IntKind.wrap .u64 (Int.ofNat (@BitVec.toNat 64 (@BitVec.and 64 (@BitVec.ofInt 64 a0) (@BitVec.not 64 (@BitVec.ofInt 64 (Bt.full a1))))))=0),()) else some (false,())).bind fun y2=>some y2
def g81 (a0:Int):Option qx:=(bif !decide (a0=8) then bif !decide (a0=16) then bif !decide (a0=32) then some (decide (a0=64),()) else some (true,()) else some (true,()) else some (true,())).bind fun y1=>some y1
def g41 (a0:jS) (a1:jf):Option qx:=some (decide (lT (a0,a1,())=0),())
def agW (a0:jf):Option qx:=some (decide (@aA.idx aA.Lk aA.down a0≥0),())
def g93 (a0:jS):Option qx:=some (decide (@aA.idx aA.Rt aA.tH a0≥0),())
end
noncomputable section
def MJ (a0:jS) (a1:eP):Option (Sum eP xA):=let q1:=aR (a1.1 - 1);bif decide (a1.1<Int.ofNat a0.length) then (bif decide (a1.1 > 0) then bif decide (0≤q1)&&decide (q1<Int.ofNat a0.length) then bif decide (0≤a1.1)&&decide (a1.1<Int.ofNat a0.length) then some (decide ((List.getD a0 (Int.toNat q1) (0,false,())).1≥(List.getD a0 (Int.toNat a1.1) (0,false,())).1),()) else none else none else some (false,())).bind fun y2=>bif y2.1 then some (.inr (true,(25,()),())) else some (.inl (aR (a1.1+1),())) else some (.inr (false,(0,()),()))
def MK (a0:jf) (a1:eP):Option (Sum eP xA):=let q1:=aR (a1.1 - 1);bif decide (a1.1<Int.ofNat a0.length) then (bif decide (a1.1 > 0) then bif decide (0≤q1)&&decide (q1<Int.ofNat a0.length) then bif decide (0≤a1.1)&&decide (a1.1<Int.ofNat a0.length) then some (decide (xO (List.getD a0 (Int.toNat q1) (0,0,0,0,0,())) (List.getD a0 (Int.toNat a1.1) (0,0,0,0,0,()))≥0),()) else none else none else some (false,())).bind fun y2=>bif y2.1 then some (.inr (true,(25,()),())) else some (.inl (aR (a1.1+1),())) else some (.inr (false,(0,()),()))
def g37 (a0:jS) (a1:jf):Option eP:=(bif !decide (Int.ofNat a0.length > 24) then some (decide (Int.ofNat a1.length > 60),()) else some (true,())).bind fun y2=>bif y2.1 then some (3,()) else bif @List.any (Int×Bool×Unit) a0 aA.tH then some (2,()) else (Loop (@MJ a0) (0,())).bind fun y3=>bif y3.1 then some y3.2.1 else bif @List.any (Int×Int×Int×Int×Int×Unit) a1 aA.rR then some (2,()) else bif (@List.any (Int×Int×Int×Int×Int×Unit) a1 fun y4=>unk (a0,a1,()) y4.1||unk (a0,a1,()) y4.2.1) then some (4,()) else bif @List.any (Int×Int×Int×Int×Int×Unit) a1 aA.down then some (8,()) else (Loop (@MK a1) (0,())).bind fun y4=>bif y4.1 then some y4.2.1 else some (0,())
def zq (a0:jS) (a1:Int) (a2:Kj):Option (Sum Kj eP):=let q1:=aR (@Int.fdiv (IntKind.wrap .u64 (aR (a2.2.1+a2.1))) 2);bif decide (a2.2.1<a2.1) then bif decide (0≤q1)&&decide (q1<Int.ofNat a0.length) then (bif decide (dJ (List.getD a0 (Int.toNat q1) (0,false,())).1 a1<0) then some (aR (q1+1),a2.1,()) else some (a2.2.1,q1,())).bind fun y3=>some (.inl (y3.2.1,y3.1,())) else none else some (.inr a2.2)
def g97 (a0:jS) (a1:Int):Option yAT:=(Loop (@zq a0 a1) (Int.ofNat a0.length,0,())).bind fun y2=>(bif decide (y2.1<Int.ofNat a0.length) then bif decide (0≤y2.1)&&decide (y2.1<Int.ofNat a0.length) then some (decide (dJ (List.getD a0 (Int.toNat y2.1) (0,false,())).1 a1=0),y2) else none else some (false,y2)).bind fun y3=>some ((y3.2.1,y3.1,()),())
def Bg (a0:jf) (a1:jS) (a2:jf) (a3:eP):Option (Sum eP xA):=let q1:=List.getD a0 (Int.toNat a3.1) (0,0,0,0,0,());bif decide (a3.1<Int.ofNat a0.length) then bif decide (0≤a3.1)&&decide (a3.1<Int.ofNat a0.length) then bif unk (a1,a2,()) q1.1||unk (a1,a2,()) q1.2.1 then some (.inr (true,a3,())) else some (.inl (aR (a3.1+1),())) else none else some (.inr (false,(0,()),()))
def aqi (a0:jf) (a1:jS) (a2:jf):Option eP:=(Loop (@Bg a0 a1 a2) (0,())).bind fun y3=>bif y3.1 then some y3.2.1 else some (((-1):Int),())
def ML (a0 a1:lQ) (a2:eP):Option (Sum eP yAX):=bif decide (a2.1<Int.ofNat a0.length) then bif decide (0≤a2.1)&&decide (a2.1<Int.ofNat a0.length) then bif decide (0≤a2.1)&&decide (a2.1<Int.ofNat a1.length) then bif !decide (List.getD a0 (Int.toNat a2.1) 0=List.getD a1 (Int.toNat a2.1) 0) then some (.inr (true,(false,()),())) else some (.inl (aR (a2.1+1),())) else none else none else some (.inr (false,(false,()),()))
def g17 (a0 a1:lQ):Option qx:=bif !decide (Int.ofNat a0.length=Int.ofNat a1.length) then some (false,()) else (Loop (@ML a0 a1) (0,())).bind fun y2=>bif y2.1 then some y2.2.1 else some (true,())
def EP (a0:jS) (a1:eP):Option (Sum eP xA):=bif decide (a1.1<Int.ofNat a0.length) then bif decide (0≤a1.1)&&decide (a1.1<Int.ofNat a0.length) then bif tH (List.getD a0 (Int.toNat a1.1) (0,false,())) then some (.inr (true,a1,())) else some (.inl (aR (a1.1+1),())) else none else some (.inr (false,(0,()),()))
def awl (a0:jS):Option eP:=(Loop (@EP a0) (0,())).bind fun y1=>bif y1.1 then some y1.2.1 else some (((-1):Int),())
def g33 (a0:lQ) (a1:Int):Option yAZ:=let q1:=aR (aR (a1+1) - 1);bif decide (a1≥Int.ofNat a0.length) then some (0,a0,a1,()) else bif decide (0≤q1)&&decide (q1<Int.ofNat a0.length) then some (List.getD a0 (Int.toNat q1) 0,a0,aR (a1+1),()) else none
def agX (a0:jf) (a1:jS) (a2:jf):Option qx:=some (decide (@aA.idx (Int×Int×Int×Int×Int×Unit) (fun y3=>unk (a1,a2,()) y3.1||unk (a1,a2,()) y3.2.1) a0≥0),())
def aqj (a0:Int):Option eP:=let q1:=aR (64 - a0);bif !rQ a0 then some (0,()) else bif decide (0≤q1) then some (@Int.fdiv 18446744073709551615 (@Int.pow 2 (@Min.min Nat instMinNat (Int.toNat q1) 64)),()) else none
def g96 (a0:Int) (a1:jS) (a2:jf):Option qx:=some (!(bs a1 a0).2.1,())
def g95 (a0 a1 a2:Int):Option qx:=(bif decide (a0≥a1) then some (decide (a0≤a2),()) else some (false,())).bind fun y3=>some y3
def g89 (a0 a1:Int):Option qx:=(bif decide (a0≥0) then some (decide (a0≤a1),()) else some (false,())).bind fun y2=>some y2
def aqk (a0:Int):Option qx:=(bif decide (a0≥1) then some (decide (a0≤1000),()) else some (false,())).bind fun y1=>some y1
def g39 (a0:lQ) (a1:Int):Option qx:=some (decide (@aA.idx Int (fun y2=>decide (a1=y2)) a0≥0),())
end
noncomputable section
def MN (a0:yBQ) (a1:yBY) (a2:lQ×yBF):Option (Sum (lQ×yBF) (lQ×yAV)):=let q1:=List.getD a0 (Int.toNat a2.2.2.1) ((0,0,()),0,());bif decide (a2.2.2.1<Int.ofNat a0.length) then bif decide (0≤a2.2.2.1)&&decide (a2.2.2.1<Int.ofNat a0.length) then (bif decide (0≤a1.1)&&decide (a1.1<Int.ofNat a2.1.length) then bif Nat.blt (Int.toNat a1.1) a2.1.length then bif decide (q1.1.1=List.getD a2.1 (Int.toNat a1.1) 0) then some (!cZ (.int .i64) .bool a2.2.1 q1.1.2.1,a2.1,()) else some (false,a2.1,()) else none else none).bind fun y3=>(bif y3.1 then bif Nat.ble ((y3.2.1.length+1)*8) 140737488355328 then some (gM (.int .i64) .bool a2.2.1 q1.1.2.1 true,y3.2.1++q1.1.2.1::[],()) else none else some (a2.2.1,y3.2)).bind fun y4=>some (.inl (y4.2.1,y4.1,aR (a2.2.2.1+1),())) else none else some (.inr (a2.1,a2.2.1,()))
def Vp (a0:yBQ) (a1:yBY):Option (Sum yBY R5):=bif decide (a1.1<Int.ofNat a1.2.2.1.length) then (Loop (@MN a0 a1) (a1.2.2.1,a1.2.1,0,())).bind fun y2=>some (.inl (aR (a1.1+1),y2.2.1,y2.1,())) else some (.inr a1.2.2)
def aql (a0:yBQ) (a1:Int):Option R5:=(Loop (@Vp a0) (0,gM (.int .i64) .bool [] a1 true,a1::[],())).bind fun y2=>some (fF y2.1,())
def ER (a0:jf) (a1 a2:Int) (a3:eP):Option (Sum eP (Bool×(Bool×eP)×Unit)):=let q1:=List.getD a0 (Int.toNat a3.1) (0,0,0,0,0,());bif decide (a3.1<Int.ofNat a0.length) then bif decide (0≤a3.1)&&decide (a3.1<Int.ofNat a0.length) then (bif decide (q1.1=a1) then some (decide (q1.2.1=a2),()) else some (false,())).bind fun y4=>bif y4.1 then some (.inr (true,(true,q1.2.2.1,()),())) else (bif decide (q1.2.1=a1) then some (decide (q1.1=a2),()) else some (false,())).bind fun y5=>bif y5.1 then some (.inr (true,(true,q1.2.2.2.1,()),())) else some (.inl (aR (a3.1+1),())) else none else some (.inr (false,(false,0,()),()))
def aqm (a0:jS) (a1:jf) (a2 a3:Int):Option yAT:=(Loop (@ER a1 a2 a3) (0,())).bind fun y4=>bif y4.1 then some ((y4.2.1.2.1,y4.2.1.1,()),()) else some ((0,false,()),())
def g66 (a0 a1 a2 a3 a4 a5 a6 a7 a8:Int) (a9:lQ) (zJ:Int):Option yCQ:=(bif !!mD (a0,a1,a2,a3,a4,a5,a6,a7,a8,a9,()) then bif !decide (zJ<0) then bif !decide (zJ > 63) then bif decide (0≤zJ) then some (decide (IntKind.wrap .u64 (Int.ofNat (@BitVec.toNat 64 (@BitVec.and 64 (@BitVec.ofInt 64 (@Int.fdiv a8 (@Int.pow 2 (@Min.min Nat instMinNat (Int.toNat zJ) 64)))) (@BitVec.ofInt 64 1))))=0),()) else none else some (true,()) else some (true,()) else some (true,())).bind fun y11=>bif y11.1 then some ((0,0,0,0,0,0,0,0,0,[],()),()) else bif decide (0≤zJ) then some ((a0,a1,a2,a3,a4,a5,a6,a7,IntKind.wrap .u64 (1*@Int.pow 2 (@Min.min Nat instMinNat (Int.toNat zJ) 64)),a9,()),()) else none
def wV (a0:jS) (a1:jf) (a2:Int) (a3:Pq):Option (Sum Pq R5):=let q1:=List.getD a0 (Int.toNat a3.2.1) (0,false,());bif decide (a3.2.1<Int.ofNat a0.length) then bif decide (0≤a3.2.1)&&decide (a3.2.1<Int.ofNat a0.length) then (bif (price a1 a2 q1.1).2.1 then bif decide (0≤a3.2.1)&&decide (a3.2.1<Int.ofNat a0.length) then bif Nat.ble ((a3.1.length+1)*8) 140737488355328 then some (a3.1++q1.1::[],()) else none else none else some (a3.1,())).bind fun y4=>some (.inl (y4.1,aR (a3.2.1+1),())) else none else some (.inr (a3.1,()))
def aqn (a0:jS) (a1:jf) (a2:Int):Option R5:=(Loop (@wV a0 a1 a2) ([],0,())).bind fun y3=>some y3
def Bh (a0:jf) (a1:eP):Option (Sum eP xA):=bif decide (a1.1<Int.ofNat a0.length) then bif decide (0≤a1.1)&&decide (a1.1<Int.ofNat a0.length) then bif down (List.getD a0 (Int.toNat a1.1) (0,0,0,0,0,())) then some (.inr (true,a1,())) else some (.inl (aR (a1.1+1),())) else none else some (.inr (false,(0,()),()))
def aqo (a0:jf):Option eP:=(Loop (@Bh a0) (0,())).bind fun y1=>bif y1.1 then some y1.2.1 else some (((-1):Int),())
def MO (a0:lQ) (a1:Int) (a2:eP):Option (Sum eP xA):=bif decide (a2.1<Int.ofNat a0.length) then bif decide (0≤a2.1)&&decide (a2.1<Int.ofNat a0.length) then bif decide (a1=List.getD a0 (Int.toNat a2.1) 0) then some (.inr (true,a2,())) else some (.inl (aR (a2.1+1),())) else none else some (.inr (false,(0,()),()))
def aqp (a0:lQ) (a1:Int):Option eP:=(Loop (@MO a0 a1) (0,())).bind fun y2=>bif y2.1 then some y2.2.1 else some (((-1):Int),())
def aqr (a0 a1 a2 a3 a4:Int) (a5:jS) (a6:jf):Option qx:=(bif !unk (a5,a6,()) a0 then some (unk (a5,a6,()) a1,()) else some (true,())).bind fun y7=>some y7
def aqs (a0 a1 a2 a3 a4:Int):Option qx:=(bif !!inside a2 1 1000 then bif !!inside a3 1 1000 then some (!inside a4 0 1000,()) else some (true,()) else some (true,())).bind fun y5=>some y5
def g45 (a0 a1 a2 a3 a4 a5 a6 a7 a8 a9:Int):Option eP:=some (dz (dJ a0 a5::dJ a1 a6::[]),())
def awm (a0 a1 a2 a3 a4:Int):Option qx:=some (decide (a0≥a1),())
def g98 (a0:Int) (a1:Bool) (a2:Int):Option eP:=some (dJ a0 a2,())
def g94 (a0:Int) (a1:Bool):Option qx:=some (!inside a0 1 99,())
end
noncomputable section
def ab0 (a0:jf) (a1:Int×yBZ):Option (Sum (Int×yBZ) yBZ):=let q1:=List.getD a0 (Int.toNat a1.1) (0,0,0,0,0,());let q2:=((q1.1,q1.2.1,()),q1.2.2.1,())::((q1.2.1,q1.1,()),q1.2.2.2.1,())::[];bif decide (a1.1<Int.ofNat a0.length) then bif decide (0≤a1.1)&&decide (a1.1<Int.ofNat a0.length) then bif Nat.ble ((a1.2.1.length+q2.length)*24) 140737488355328 then some (.inl (aR (a1.1+1),a1.2.1++q2,())) else none else none else some (.inr a1.2)
def g74 (a0:jS) (a1:jf):Option yBZ:=(Loop (@ab0 a1) (0,[],())).bind fun y2=>some (@Go.dw.rO.fO y2.1,())
def ab1 (a0:lQ) (a1:Int) (a2:Kj):Option (Sum Kj eP):=let q1:=aR (@Int.fdiv (IntKind.wrap .u64 (aR (a2.2.1+a2.1))) 2);bif decide (a2.2.1<a2.1) then bif decide (0≤q1)&&decide (q1<Int.ofNat a0.length) then (x153 (List.getD a0 (Int.toNat q1) 0) a1).bind fun y3=>(bif y3.1 then some (aR (q1+1),a2.1,()) else some (a2.2.1,q1,())).bind fun y4=>some (.inl (y4.2.1,y4.1,())) else none else some (.inr a2.2)
def g87 (a0:lQ) (a1:Int):Option yAT:=(Loop (@ab1 a0 a1) (Int.ofNat a0.length,0,())).bind fun y2=>let q1:=List.getD a0 (Int.toNat y2.1) 0;(bif decide (y2.1<Int.ofNat a0.length) then bif decide (0≤y2.1)&&decide (y2.1<Int.ofNat a0.length) then bif !decide (q1=a1) then bif decide (0≤y2.1)&&decide (y2.1<Int.ofNat a0.length) then (ae6 q1).bind fun y3=>bif y3.1 then (ae6 a1).bind fun y4=>some (y4.1,y2) else some (false,y2) else none else some (true,y2) else none else some (false,y2)).bind fun y3=>some ((y3.2.1,y3.1,()),())
def MP (a0:lQ) (a1:Int) (a2:eP):Option (Sum eP eP):=(bif decide (a2.1<Int.ofNat a0.length) then bif decide (0≤a2.1)&&decide (a2.1<Int.ofNat a0.length) then some (decide (List.getD a0 (Int.toNat a2.1) 0<a1),()) else none else some (false,())).bind fun y3=>bif y3.1 then some (.inl (aR (a2.1+1),())) else some (.inr a2)
def g47 (a0:lQ) (a1:Int):Option R5:=let q1:=List.take (Int.toNat (Int.ofNat a0.length)) a0;(Loop (@MP a0 a1) (0,())).bind fun y2=>let q2:=List.drop (Int.toNat y2.1) q1;let q3:=List.drop 0 (List.take (Int.toNat y2.1) a0);(bif decide (y2.1<Int.ofNat a0.length) then bif decide (0≤y2.1)&&decide (y2.1<Int.ofNat a0.length) then some (decide (List.getD a0 (Int.toNat y2.1) 0=a1),()) else none else some (false,())).bind fun y3=>bif y3.1 then some (a0,()) else bif decide (0≤y2.1)&&decide (y2.1≤Int.ofNat a0.length)&&decide (Int.ofNat a0.length≤Int.ofNat a0.length) then bif Nat.ble ((1+q2.length)*8) 140737488355328 then bif true&&decide (0≤y2.1)&&decide (y2.1≤Int.ofNat a0.length)&&decide (y2.1=y2.1) then bif true&&Nat.ble ((q3.length+(a1::([]++q2)).length)*8) 140737488355328 then some (q3++a1::([]++q2),()) else none else none else none else none
def g35 (a0 a1 a2 a3 a4 a5 a6 a7 a8:Int) (a9:lQ):Option qx:=(bif decide (a0≥1) then bif decide (a0≤3) then bif inside a1 0 7 then bif inside a2 0 31 then bif vB a8 a3 then bif inside a4 0 63 then bif inside a5 0 1023 then bif inside a6 0 256 then bif inside a7 0 7 then some (decide (Int.ofNat a9.length≤64),()) else some (false,()) else some (false,()) else some (false,()) else some (false,()) else some (false,()) else some (false,()) else some (false,()) else some (false,()) else some (false,())).bind fun Mi=>some Mi
def ES (a0:jf) (a1:eP):Option (Sum eP xA):=bif decide (a1.1<Int.ofNat a0.length) then bif decide (0≤a1.1)&&decide (a1.1<Int.ofNat a0.length) then bif rR (List.getD a0 (Int.toNat a1.1) (0,0,0,0,0,())) then some (.inr (true,a1,())) else some (.inl (aR (a1.1+1),())) else none else some (.inr (false,(0,()),()))
def awn (a0:jf):Option eP:=(Loop (@ES a0) (0,())).bind fun y1=>bif y1.1 then some y1.2.1 else some (((-1):Int),())
def ab2 (a0:lQ) (a1:Int) (a2:eP):Option (Sum eP yAX):=bif decide (a2.1<Int.ofNat a0.length) then bif decide (0≤a2.1)&&decide (a2.1<Int.ofNat a0.length) then bif decide (List.getD a0 (Int.toNat a2.1) 0=a1) then some (.inr (true,(true,()),())) else some (.inl (aR (a2.1+1),())) else none else some (.inr (false,(false,()),()))
def g10 (a0:lQ) (a1:Int):Option qx:=(Loop (@ab2 a0 a1) (0,())).bind fun y2=>bif y2.1 then some y2.2.1 else some (false,())
def g6 (a0:lQ):Option yBE:=bif true&&decide (0≤(bif decide (2000<Int.ofNat a0.length) then 2000 else Int.ofNat a0.length))&&decide ((bif decide (2000<Int.ofNat a0.length) then 2000 else Int.ofNat a0.length)≤Int.ofNat a0.length) then some ((List.drop 0 (List.take (Int.toNat (bif decide (2000<Int.ofNat a0.length) then 2000 else Int.ofNat a0.length)) a0),0,()),()) else none
def g48 (a0:lQ) (a1 a2 a3:Int):Option yAZ:=(on (wf (a0,a1,())) (next (a0,a1,()) (aR (aR (a3 - a2)+1)))).bind fun y4=>some (aR (a2+y4.1),y4.2)
def g32 (a0 a1:Int):Option eP:=bif decide (a1<1) then some (0,()) else bif !decide (a1=0) then (bif decide (@Int.tmod a0 a1<0) then some (aR (@Int.tmod a0 a1+a1),()) else some (@Int.tmod a0 a1,())).bind fun y2=>some y2 else none
def g9 (a0:lQ) (a1 a2:Int):Option yAZ:=(on (wf (a0,a1,())) (raw (a0,a1,()))).bind fun y3=>some (cut y3.1 a2,y3.2)
def g99 (a0:jf):Option qx:=some (decide (@aA.idx aA.Lk aA.rR a0≥0),())
def g73 (a0 a1:Int):Option eP:=bif decide (a0<a1) then some (((-1):Int),()) else bif decide (a0 > a1) then some (1,()) else some (0,())
def aqt (a0:Int):Option qx:=some (!decide (a0=a0),())
end
end Go.dw.rO
namespace aA
open Go Go.dw
theorem og {α:Type} {b:Bool} {x y:α} (h:on b x=some y):b=true∧x=y:=by
 unfold on at h
 cases b with
 | false=>cases h
 | true=>exact ⟨rfl,Option.some.inj h⟩
theorem Bj {α:Type} {b:Bool} {x:α} (h:b=true):on b x=some x:=by rw [h];rfl
end aA
namespace Go.dw.rO
open Go Go.Proofs aA
theorem Bj {α:Type} {b:Bool} {x:α} (h:b=true):on b x=some x:=by rw [h];rfl
theorem Ti {t:Tp}:wf t=true↔0≤t.2.1∧t.2.1≤t.1.length∧t.1.length≤2000:=by
 simp [wf,and_assoc]
theorem KG {n:Int}:small n=true↔-2305843009213693952≤n∧n≤2305843009213693952:=by
 simp [small]
theorem Ht {x n:Int}:0≤cut x n:=by
 unfold cut
 by_cases h:n<1
 ·simp [h]
 ·simp only [h,decide_false,bJ]
  exact Int.emod_nonneg x (by omega)
theorem akl {x n:Int} (h:1≤n):cut x n<n:=by
 unfold cut
 have h':¬ n<1:=by omega
 simp only [h',decide_false,bJ]
 exact Int.emod_lt_of_pos x (by omega)
theorem Hu {t:Tp} {n:Int} (h:1≤n):0≤(next t n).1∧(next t n).1<n:=⟨Ht,akl h⟩
theorem Tj {t:Tp} {n:Int}:0≤(next t n).1∧((next t n).1<n∨(next t n).1=0):=by
 by_cases h:1≤n
 ·have:=Hu (t:=t) h
  exact ⟨this.1,.inl this.2⟩
 ·refine ⟨Ht,.inr ?_⟩
  show cut (raw t).1 n=0;unfold cut
  have:n<1:=by omega
  simp [this]
theorem ints {l:List Int} (h:(Ty.sl (.int .i64)).ok l):l.length≤17592186044416∧∀ x∈l,-9223372036854775808≤x∧x≤9223372036854775807:=by
 obtain ⟨h1,h2⟩:=h;have h1:l.length*8≤140737488355328:=h1
 exact ⟨by omega,fun x hx=>UM (h2 x hx)⟩
theorem akm (a0:List Int) (a1:Int) (h:(aA.wf (a0,a1,()))=true):g33 a0 a1=some (aA.raw (a0,a1,())):=by
 obtain ⟨h1,h2,h3⟩:=Ti.1 h;simp only at h1 h2 h3;unfold g33 aA.raw
 by_cases h4:a1<a0.length
 ·have h5:¬ a1≥(a0.length:Int):=by omega
  have e1:aR (a1+1)=a1+1:=jm (by omega) (by omega)
  have e2:aR (a1+1 - 1)=a1:=by rw [show a1+1 - 1=a1 by omega];exact jm (by omega) (by omega)
  simp only [fQ,e1,e2,h5,h4,h1,decide_true,decide_false,aQ,bJ,Bool.and_self]
 ·have h5:a1≥(a0.length:Int):=by omega
  simp only [fQ,h5,h4,decide_true,decide_false,aQ,bJ]
theorem akn (a0 a1:Int) (r1:IntKind.i64.has a1):g32 a0 a1=some (aA.cut a0 a1,()):=by
 have hm:=(UM r1).2;unfold g32 aA.cut
 by_cases h:a1<1
 ·simp [h]
 ·have h0:¬ a1=0:=by omega
  have hp:0<a1:=by omega
  have e1:=Int.emod_nonneg a0 h0;have e2:=Int.emod_lt_of_pos a0 hp
  have e3:a0.tmod a1=if 0≤a0∨a1 ∣ a0 then a0%a1 else a0%a1 - a1:=by
   rw [Int.tmod_eq_emod]
   split<;>rename_i h<;>simp [h]
   omega
  by_cases h5:0≤a0∨a1 ∣ a0
  ·rw [if_pos h5] at e3
   have:¬ a0%a1<0:=by omega
   simp [h,h0,e3,this];rfl
  ·rw [if_neg h5] at e3
   have h6:a0%a1 - a1<0:=by omega
   have h7:a0%a1 - a1+a1=a0%a1:=by omega
   have h8:aR (a0%a1)=a0%a1:=jm (by omega) (by omega)
   simp only [h,h0,e3,h6,h7,h8,decide_true,decide_false,aQ,bJ,Bool.not_false,Option.bind];rfl
theorem aqu (a0:List Int) (a1 a2:Int) (h:(aA.wf (a0,a1,()))=true):g9 a0 a1 a2=some (aA.next (a0,a1,()) a2):=by
 unfold g9;rw [Bj h];rfl
theorem ako (a0:List Int) (a1 a2 a3:Int) (h:(aA.wf (a0,a1,())&&aA.small a2&&aA.small a3)=true):g48 a0 a1 a2 a3=some (aA.range (a0,a1,()) a2 a3):=by
 simp only [dA] at h;have k2:=KG.1 h.1.2;have k3:=KG.1 h.2;unfold g48 aA.range;rw [Bj h.1.1]
 have e1:aR (a3 - a2)=a3 - a2:=jm (by omega) (by omega)
 have e2:aR (a3 - a2+1)=a3 - a2+1:=jm (by omega) (by omega)
 have hb:=Tj (t:=(a0,a1,())) (n:=a3 - a2+1)
 have e3:aR (a2+(next (a0,a1,()) (a3 - a2+1)).1)=a2+(next (a0,a1,()) (a3 - a2+1)).1:=jm (by omega) (by omega)
 simp only [e1,e2,Option.bind,e3]
theorem akp (a0:List Int) (a1:Int) (a2:List Int) (h:(aA.wf (a0,a1,())&&decide (0<a2.length)&&decide (a2.length≤1000))=true):g49 a0 a1 a2=some (aA.pick (a0,a1,()) a2):=by
 simp only [dA,mX] at h;unfold g49 aA.pick;rw [Bj h.1.1]
 have hb:=Hu (t:=(a0,a1,())) (n:=(a2.length:Int)) (by omega)
 simp only [fQ,Option.bind,hb.1,hb.2,decide_true,Bool.and_self,aQ]
theorem aqv (a0:List Int):g6 a0=some (aA.tape a0,()):=by
 unfold g6 aA.tape
 by_cases h:(2000:Int)<a0.length
 ·have h2:(2000:Int)≤a0.length:=by omega
  simp [h,h2]
 ·have h2:a0.take 2000=a0:=List.take_of_length_le (by omega)
  simp [h,h2]
theorem afh (a b:List Int) (hl:a.length≤17592186044416) (h:a.length=b.length):Loop (ML a b) ((0:Int),())=some (bif (a.zip b).any (fun p=>!decide (p.1=p.2)) then (true,(false,()),()) else (false,(false,()),())):=by
 have hz:(a.zip b).length=a.length:=by simp [h]
 refine Cx (a.zip b) (0,0) _ _ _ (fun i h0 hi=>?_) ?_
 ·rw [hz] at hi
  have e1:aR (i+1)=i+1:=jm (by omega) (by omega)
  have c1:i<(b.length:Int):=by omega
  have hg:=aaE a b i.toNat 0 0 (by omega) (by omega)
  unfold ML;simp only [hi,h0,c1,e1,hg,decide_true,aQ,Bool.and_self,fQ]
  cases decide (a.getD i.toNat 0=b.getD i.toNat 0)<;>rfl
 ·unfold ML
  simp [hz]
theorem Tn (a b:List Int) (h:a.length=b.length):(a.zip b).any (fun p=>!decide (p.1=p.2)) = !decide (a=b):=by
 induction a generalizing b with
 | nil=>cases b with
  | nil=>rfl
  | cons y m=>simp at h
 | cons x l ih=>cases b with
  | nil=>simp at h
  | cons y m=>
   simp only [List.zip_cons_cons,List.any_cons,ih m (by simpa using h)]
   by_cases h1:x=y<;>by_cases h2:l=m<;>simp [h1,h2]
theorem akq (a0 a1:List Int) (r0:(Ty.sl (.int .i64)).ok a0):g17 a0 a1=some (decide (a0=a1),()):=by
 obtain ⟨hl,_⟩:=ints r0;unfold g17
 by_cases h:a0.length=a1.length
 ·have hc:((a0.length:Int)=(a1.length:Int)):=by omega
  rw [afh a0 a1 hl h,Tn a0 a1 h];simp only [fQ,hc,decide_true,Bool.not_true,bJ,qB]
  cases decide (a0=a1)<;>rfl
 ·have hc:¬ ((a0.length:Int)=(a1.length:Int)):=by omega
  have fC:¬ a0=a1:=fun k=>h (by rw [k])
  simp [hc,fC]
theorem ab3 (p q:Bool):(bif p then some (q,()) else some (false,()))=some (p&&q,()):=by cases p<;>rfl
def nC:List Int→Int→Nat
 | [],_=>0
 | y::r,x=>bif decide (y<x) then nC r x+1 else 0
theorem akr (l:List Int) (x:Int):nC l x≤l.length:=by
 induction l with
 | nil=>exact bT _
 | cons y r ih=>
  unfold nC
  cases decide (y<x) with
  | true=>simp only [aQ,lD];omega
  | false=>simp
theorem ab4 (l:List Int) (x:Int):qJ l x=bif decide (nC l x<l.length)&&decide (l.getD (nC l x) 0=x) then l else l.take (nC l x)++x::l.drop (nC l x):=by
 induction l with
 | nil=>rfl
 | cons y r ih=>
  unfold qJ nC
  by_cases h:y<x
  ·simp only [h,decide_true,aQ,lD,List.getD_cons_succ,List.take_succ_cons,List.drop_succ_cons]
   rw [ih]
   by_cases h1:nC r x<r.length
   ·have:nC r x+1<r.length+1:=by omega
    simp only [h1,this,decide_true,Bool.true_and]
    by_cases h2:r.getD (nC r x) 0=x
    ·simp only [h2,decide_true,aQ]
    ·simp only [h2,decide_false,bJ,List.cons_append]
   ·have:¬ nC r x+1<r.length+1:=by omega
    simp only [h1,this,decide_false,Bool.false_and,bJ,List.cons_append]
  ·simp only [h,decide_false,bJ,List.getD_cons_zero,List.take_zero,List.drop_zero,List.nil_append,lD]
   by_cases h2:y=x
   ·simp [h2]
   ·simp [h2]
theorem ab5 (l:List Int) (x:Int) (hl:l.length≤1000000):Loop (MP l x) ((0:Int),())=some ((nC l x:Int),()):=by
 have key:Loop (MP l x) ((0:Int),())=some ((0:Int)+nC (l.drop (0:Int).toNat) x,()):=by
  refine Pg (fun v:Int×Unit=>0≤v.1∧v.1≤(l.length:Int)) (fun v:Int×Unit=>((l.length:Int) - v.1).toNat) (fun v:Int×Unit=>(v.1+nC (l.drop v.1.toNat) x,())) ?_ (v:=(0,())) ⟨by simp,by simp⟩
  rintro ⟨i,⟨⟩⟩ ⟨k1,k2⟩;simp only at k1 k2;unfold MP
  by_cases h:i<(l.length:Int)
  ·have e1:aR (i+1)=i+1:=jm (by omega) (by omega)
   simp only [h,k1,e1,fQ,decide_true,Bool.and_self,aQ,qB]
   have hd:=Xg l i.toNat 0 (by omega)
   cases hc:decide (l.getD i.toNat 0<x) with
   | true=>
    right
    refine ⟨(i+1,()),rfl,⟨by simp only;omega,by simp only;omega⟩,by simp only;omega,?_⟩
    simp only [show (i+1).toNat=i.toNat+1 by omega]
    rw [hd];simp only [nC,hc,aQ]
    congr 1
    omega
   | false=>
    left
    rw [hd];simp only [nC,hc,bJ,Int.natCast_zero,Int.add_zero]
  ·left
   have hd:l.drop i.toNat=[]:=List.drop_eq_nil_of_le (by omega)
   simp only [h,hd,fQ,decide_false,bJ,qB,nC,Int.natCast_zero,Int.add_zero]
 simpa using key
theorem aks (a0:List Int) (a1:Int) (h:(decide (a0.length≤1000000))=true):g47 a0 a1=some (aA.qJ a0 a1,()):=by
 simp only [mX] at h;have hc:=akr a0 a1;unfold g47;rw [ab5 a0 a1 h,ab4];simp only [qB,fQ,jd,List.take_length,List.drop_zero,List.nil_append]
 have c0:(0:Int)≤(nC a0 a1:Int):=by omega
 have c1:(nC a0 a1:Int)≤(a0.length:Int):=by omega
 have b1:Nat.ble ((1+(a0.drop (nC a0 a1)).length)*8) 140737488355328=true:=Ph (by rw [List.length_drop];omega)
 have b2:Nat.ble (((a0.take (nC a0 a1)).length+(a1::a0.drop (nC a0 a1)).length)*8) 140737488355328=true:=Ph (by rw [List.length_take,lD,List.length_drop];omega)
 by_cases h1:nC a0 a1<a0.length
 ·have BA:(nC a0 a1:Int)<(a0.length:Int):=by omega
  by_cases h2:a0.getD (nC a0 a1) 0=a1
  ·simp only [h1,BA,h2,c0,decide_true,Bool.and_self,aQ,qB]
  ·simp only [h1,BA,h2,c0,c1,b1,b2,Int.le_refl,decide_true,decide_false,Bool.and_self,Bool.and_false,aQ,bJ,qB]
 ·have BA:¬ (nC a0 a1:Int)<(a0.length:Int):=by omega
  simp only [h1,BA,c0,c1,b1,b2,Int.le_refl,decide_true,decide_false,Bool.and_self,Bool.false_and,aQ,bJ,qB]
theorem agY {l:List Int} (h:(Ty.sl (.int .i64)).ok l):l.length≤17592186044416:=by
 have h:l.length*8≤140737488355328:=h.1;omega
theorem akt (a0:Int):g81 a0=some (aA.rQ a0,()):=by
 unfold g81 aA.rQ
 cases decide (a0=8)<;>cases decide (a0=16)<;>cases decide (a0=32)<;>rfl
theorem Bl {α:Type} (p:α→Bool) (l:List α):decide (idx p l≥0)=l.any p:=by
 unfold idx
 cases l.any p with
 | true=>exact bL (by show (0:Int)≤((_:Nat):Int);omega)
 | false=>exact d9 (by show ¬ (-1:Int)≥0;decide)
theorem rZ {α:Type} (f:eP→Option (Sum eP xA)) (l:List α) (p:α→Bool) (d:α)
 (hs:∀ i:Nat,i<l.length→f ((i:Int),())=bif p (l.getD i d) then some (.inr (true,(((i:Int),()),()))) else some (.inl (((i+1:Nat):Int),())))
 (he:f ((l.length:Int),())=some (.inr (false,((0,()),())))):Option.bind (Loop f ((0:Int),())) (fun y1=>bif y1.1 then some y1.2.1 else some ((-1:Int),()))=some (idx p l,()):=by
 have key:∀ j k,k+j=l.length→(∀ i,i<k→p (l.getD i d)=false)→Option.bind (Loop f ((k:Int),())) (fun y1=>bif y1.1 then some y1.2.1 else some ((-1:Int),()))=some (idx p l,()):=by
  intro j
  induction j with
  | zero=>
   intro k hk hn
   have hk:k=l.length:=by omega
   subst hk
   have ha:l.any p=false:=by
    rw [Bool.eq_false_iff];intro h;obtain ⟨x,hx,hp⟩:=List.any_eq_true.1 h;obtain ⟨i,hi,rfl⟩:=List.getElem_of_mem hx;have:=hn i hi;rw [iW,iw hi] at this;have this:p l[i]=false:=this;rw [hp] at this;cases this
   rw [dY,he];unfold idx;rw [ha];rfl
  | succ j ih=>
   intro k hk hn
   rw [dY,hs k (by omega)]
   cases hp:p (l.getD k d) with
   | true=>
    have aT:k<l.length:=by omega
    have e:l.getD k d=l[k]:=by rw [iW,iw aT];rfl
    have ha:l.any p=true:=List.any_eq_true.2 ⟨l[k],zG _,by rw [←e];exact hp⟩
    have hf:l.findIdx p=k:=by
     rw [List.findIdx_eq aT]
     refine ⟨by rw [←e];exact hp,fun i hi=>?_⟩
     have:=hn i hi
     rw [iW,iw (by omega)] at this
     simpa using this
    unfold idx;rw [ha,hf];rfl
   | false=>
    refine ih (k+1) (by omega) fun i hi=>?_
    by_cases h:i=k
    ·rw [h];exact hp
    ·exact hn i (by omega)
 exact key l.length 0 (by omega) (fun i hi=>absurd hi (by omega))
theorem Bn {n:Int}:rQ n=true↔n=8∨n=16∨n=32∨n=64:=by
 simp [rQ,or_assoc]
section
open aA.Bt
def U (b:Int):Prop:=0≤b∧b<18446744073709551616
theorem ofN (n:Nat):Int.ofNat n=(n:Int):=rfl
theorem uh {x:Int} (h:IntKind.u64.has x):U x:=aer h
theorem utn {x:Int} (h:U x):x.toNat<2 ^ 64:=by have:=h.1;have:=h.2;omega
theorem aqw {x y:Int} (hx:U x) (hy:U y):IntKind.wrap .u64 (Int.ofNat (BitVec.and (BitVec.ofInt 64 x) (BitVec.not (BitVec.ofInt 64 y))).toNat)=((x.toNat &&& (18446744073709551615 - y.toNat):Nat):Int):=by
 have hy2:=utn hy
 have h:x.toNat &&& (18446744073709551615 - y.toNat)<2 ^ 64:=Nat.and_lt_two_pow _ (by omega)
 have e:(BitVec.and (BitVec.ofInt 64 x) (BitVec.not (BitVec.ofInt 64 y))).toNat=x.toNat &&& (18446744073709551615 - y.toNat):=by
  show (BitVec.ofInt 64 x &&& ~~~ BitVec.ofInt 64 y).toNat=_
  rw [BitVec.toNat_and,BitVec.toNat_not,toNat_ofInt hx.1 (by have:=hx.2;omega),toNat_ofInt hy.1 (by have:=hy.2;omega)]
 rw [e,ofN]
 exact wu64 (by omega) (by omega)
theorem ab6 {n:Int} (h:rQ n=true):full n=((2 ^ n.toNat - 1:Nat):Int):=by
 rcases Bn.1 h with rfl | rfl | rfl | rfl<;>rfl
theorem U0:U 0:=⟨by decide,by decide⟩
theorem aku (n:Int):U (full n):=by
 cases hv:rQ n with
 | false=>unfold full;rw [hv];exact U0
 | true=>rcases Bn.1 hv with rfl | rfl | rfl | rfl<;>exact ⟨by decide,by decide⟩
theorem CP {l:List Rt} (h:(Ty.sl rtT).ok l):l.length≤8796093022208:=by
 have h:l.length*16≤140737488355328:=h.1;omega
theorem CQ {l:List Lk} (h:(Ty.sl lkT).ok l):l.length≤8796093022208:=by
 have h:l.length*40≤140737488355328:=h.1;omega
theorem wW {α:Type} (b:Bool) (x y:α):(bif b then some x else some y)=some (bif b then x else y):=by cases b<;>rfl
theorem qw {α:Type} {l:List α} {d:α} {i:Nat} (h:i<l.length):l.getD i d=l[i]:=by
 rw [iW,iw h];rfl
theorem Vq (l:List Rt):(List.range l.length).any (fun i=>decide (0<i)&&decide ((l.getD (i - 1) zR).1≥(l.getD i zR).1)) = !UU l:=by
 unfold UU;rw [Bool.eq_iff_iff,List.any_eq_true];simp only [Bool.not_eq_true',dA,mX,List.mem_range];rw [Bool.eq_false_iff,ne_eq,List.all_eq_true];constructor
 ·rintro ⟨i,h1,h2,h3⟩ hc
  have:=vP (hc (i - 1) (List.mem_range.2 (by omega)))
  rw [show i - 1+1=i by omega] at this
  omega
 ·intro hc
  refine Classical.byContradiction fun hn=>hc fun i hi=>?_
  have hi:=List.mem_range.1 hi;refine bL ?_
  refine Classical.byContradiction fun h2=>hn ⟨i+1,by omega,by omega,?_⟩
  rw [show i+1 - 1=i by omega]
  omega
theorem Vr (l:List Lk):(List.range l.length).any (fun i=>decide (0<i) && !GL (l.getD (i - 1) zL) (l.getD i zL)) = !upL l:=by
 unfold upL;rw [Bool.eq_iff_iff,List.any_eq_true];simp only [Bool.not_eq_true',dA,mX,List.mem_range];rw [Bool.eq_false_iff,ne_eq,List.all_eq_true];constructor
 ·rintro ⟨i,h1,h2,h3⟩ hc
  have:=hc (i - 1) (List.mem_range.2 (by omega))
  rw [show i - 1+1=i by omega,h3] at this
  cases this
 ·intro hc
  refine Classical.byContradiction fun hn=>hc fun i hi=>?_
  have hi:=List.mem_range.1 hi
  refine Classical.byContradiction fun h2=>hn ⟨i+1,by omega,by omega,?_⟩
  rw [show i+1 - 1=i by omega]
  exact Bool.eq_false_iff.2 h2
theorem afi (a0:Int):aqk a0=some (aA.inside a0 1 1000,()):=by
 unfold aqk aA.inside
 show (Option.bind (bif decide (1≤a0) then some (decide (a0≤1000),()) else some (false,())) fun y3=>some y3)=_
 cases decide (1≤a0)<;>rfl
theorem Hw {α β:Type} (f:(Int×Unit)→Option (Sum (Int×Unit) (Bool×(β×Unit)))) (l:List α) (d:α) (hit:α→Option β) (z:β)
 (hs:∀ i:Nat,i<l.length→f ((i:Int),())=some (match hit (l.getD i d) with | some v=>.inr (true,(v,())) | none=>.inl (((i+1:Nat):Int),())))
 (he:f ((l.length:Int),())=some (.inr (false,(z,())))):Loop f ((0:Int),())=some (match l.findSome? hit with | some v=>(true,(v,())) | none=>(false,(z,()))):=by
 have key:∀ j k,k+j=l.length→Loop f ((k:Int),())=some (match (l.drop k).findSome? hit with | some v=>(true,(v,())) | none=>(false,(z,()))):=by
  intro j
  induction j with
  | zero=>
   intro k hk
   have hk:k=l.length:=by omega
   subst hk;rw [dY,he,List.drop_length];rfl
  | succ j ih=>
   intro k hk
   have aT:k<l.length:=by omega
   rw [dY,hs k aT,List.drop_eq_getElem_cons aT,List.findSome?_cons,qw aT]
   cases hit l[k] with
   | some v=>rfl
   | none=>exact ih (k+1) (by omega)
 exact key l.length 0 (by omega)
theorem ab7 {ρ:Type} (f:(Int×Unit)→Option (Sum (Int×Unit) ρ)) (n:Nat) (bad:Nat→Bool) (R1 R0:ρ)
 (h1:∀ i:Nat,1≤i→i<n→f ((i:Int),())=some (bif bad i then .inr R1 else .inl (((i+1:Nat):Int),())))
 (h0:∀ i:Nat,n≤i→i≤n+1→f ((i:Int),())=some (.inr R0)):Loop f ((1:Int),())=some (bif (List.range n).any (fun i=>decide (0<i)&&bad i) then R1 else R0):=by
 have key:∀ j k,k+j=n→1≤k→(∀ i,0<i→i<k→bad i=false)→Loop f ((k:Int),())=some (bif (List.range n).any (fun i=>decide (0<i)&&bad i) then R1 else R0):=by
  intro j
  induction j with
  | zero=>
   intro k hk Zi hn
   have hk:k=n:=by omega
   subst hk
   rw [dY,h0 k (bT _) (by omega)]
   have:(List.range k).any (fun i=>decide (0<i)&&bad i)=false:=by
    rw [Bool.eq_false_iff];intro h;obtain ⟨x,hx,hp⟩:=List.any_eq_true.1 h;simp only [dA,mX] at hp;rw [hn x hp.1 (List.mem_range.1 hx)] at hp;cases hp.2
   rw [this];rfl
  | succ j ih=>
   intro k hk Zi hn
   rw [dY,h1 k Zi (by omega)]
   cases hb:bad k with
   | true=>
    have:(List.range n).any (fun i=>decide (0<i)&&bad i)=true:=List.any_eq_true.2 ⟨k,List.mem_range.2 (by omega),by rw [hb,bL (show 0<k by omega)];rfl⟩
    rw [this];rfl
   | false=>
    refine ih (k+1) (by omega) (by omega) fun i hi hik=>?_
    by_cases h:i=k
    ·rw [h];exact hb
    ·exact hn i hi (by omega)
 by_cases hn:1≤n
 ·exact key (n - 1) 1 (by omega) (bT _) (fun i h1 h2=>by omega)
 ·have:n=0:=by omega
  subst this;rw [dY]
  have:=h0 1 (by omega) (by omega)
  have this:f ((1:Int),())=_:=this;rw [this];rfl
theorem afj (a0:jS) (a1:jf) (a2:Int) (r0:(Ty.sl (rtT)).ok a0):aqf a0 a1 a2=some (aA.jR a0 a2,()):=by
 have hl:=CP r0
 have h:=Hw (EO a0 a2) a0 (0,false,()) (fun r=>bif decide (r.1=a2) then some (true,()) else none) (false,()) (fun i hi=>by
  unfold EO;simp only [fQ,jd]
  rw [bL (show (i:Int)<(a0.length:Int) by omega),bL (show (0:Int)≤(i:Int) by omega),jm (n:=(i:Int)+1) (by omega) (by omega)]
  cases decide ((a0.getD i (0,false,())).1=a2)<;>rfl) (by
  unfold EO;simp only [fQ]
  rw [d9 (show ¬ (a0.length:Int)<(a0.length:Int) by omega)]
  rfl)
 unfold aqf;rw [h];clear h r0 hl
 induction a0 with
 | nil=>rfl
 | cons x r ih=>
  rw [List.findSome?_cons];show _=some ((decide (x.1=a2) || aA.jR r a2),())
  cases decide (x.1=a2) with
  | true=>rfl
  | false=>exact ih
theorem akv (l:List Rt) (hl:l.length≤8796093022208):Loop (Hq l) ((1:Int),())=some (bif !UU l then (true,((25,()),())) else (false,((0,()),()))):=by
 rw [←Vq]
 refine ab7 (Hq l) l.length _ _ _ (fun k h0 aT=>?_) (fun i hi hi2=>?_)
 ·have e1:aR ((k:Int) - 1)=((k - 1:Nat):Int):=by rw [jm (by omega) (by omega)];omega
  have e2:aR ((k:Int)+1)=((k+1:Nat):Int):=by rw [jm (by omega) (by omega)];omega
  unfold Hq;simp only [fQ,jd,e1,e2]
  rw [bL (show (k:Int)<(l.length:Int) by omega),bL (show (0:Int)≤((k - 1:Nat):Int) by omega),bL (show ((k - 1:Nat):Int)<(l.length:Int) by omega),bL (show (0:Int)≤(k:Int) by omega)]
  simp only [Bool.and_self,aQ];exact wW _ _ _
 ·unfold Hq
  simp only [fQ]
  rw [d9 (show ¬ (i:Int)<(l.length:Int) by omega)]
  rfl
theorem order2 (l:List Lk) (hl:l.length≤8796093022208):Loop (Hr l) ((1:Int),())=some (bif !upL l then (true,((25,()),())) else (false,((0,()),()))):=by
 rw [←Vr]
 refine ab7 (Hr l) l.length _ _ _ (fun k h0 aT=>?_) (fun i hi hi2=>?_)
 ·have e1:aR ((k:Int) - 1)=((k - 1:Nat):Int):=by rw [jm (by omega) (by omega)];omega
  have e2:aR ((k:Int)+1)=((k+1:Nat):Int):=by rw [jm (by omega) (by omega)];omega
  unfold Hr;simp only [fQ,jd,e1,e2]
  rw [bL (show (k:Int)<(l.length:Int) by omega),bL (show (0:Int)≤((k - 1:Nat):Int) by omega),bL (show ((k - 1:Nat):Int)<(l.length:Int) by omega),bL (show (0:Int)≤(k:Int) by omega)]
  simp only [Bool.and_self,aQ]
  have hb:∀ a b:Lk,Option.bind (bif !decide (a.1 > b.1) then (bif decide (a.1=b.1) then some (decide (a.2.1≥b.2.1),()) else some (false,())) else some (true,())) (fun y2:Bool×Unit=>bif y2.1 then some (Sum.inr (true,(((25:Int),()),()))) else some (Sum.inl (((k+1:Nat):Int),()))) =
   some (bif !GL a b then (Sum.inr (true,(((25:Int),()),())):Sum (Int×Unit) (Bool×((Int×Unit)×Unit))) else Sum.inl (((k+1:Nat):Int),())):=by
   intro a b;unfold GL
   by_cases h1:a.1<b.1
   ·rw [bL h1,d9 (show ¬ a.1 > b.1 by omega),d9 (show ¬ a.1=b.1 by omega)];rfl
   by_cases h2:a.1 > b.1
   ·rw [d9 h1,bL h2,d9 (show ¬ a.1=b.1 by omega)];rfl
   rw [d9 h1,d9 h2,bL (show a.1=b.1 by omega)]
   by_cases h3:a.2.1<b.2.1
   ·rw [bL h3,d9 (show ¬ a.2.1≥b.2.1 by omega)];rfl
   ·rw [d9 h3,bL (show a.2.1≥b.2.1 by omega)];rfl
  exact hb _ _
 ·unfold Hr
  simp only [fQ]
  rw [d9 (show ¬ (i:Int)<(l.length:Int) by omega)]
  rfl
theorem MQ {α ρ:Type} (f:(Int×Unit)→Option (Sum (Int×Unit) ρ)) (l:List α) (d:α) (bad:α→Bool) (R1 R0:ρ)
 (h1:∀ i:Nat,i<l.length→f ((i:Int),())=some (bif bad (l.getD i d) then .inr R1 else .inl (((i+1:Nat):Int),())))
 (h0:f ((l.length:Int),())=some (.inr R0)):Loop f ((0:Int),())=some (bif l.any bad then R1 else R0):=
 Cx l d bad R1 R0 (fun i hi aT=>by
  obtain ⟨k,rfl⟩:∃ n:Nat,i=n:=⟨i.toNat,by omega⟩
  rw [h1 k (by omega),jd]
  rfl) h0
theorem akw (a0:jS) (a1:jf) (r0:(Ty.sl (rtT)).ok a0) (r1:(Ty.sl (lkT)).ok a1):g50 a0 a1=some (aA.lT (a0,a1,()),()):=by
 have h1:=CP r0;have h2:=CQ r1
 have l0:Loop (MF a0) ((0:Int),())=some (bif a0.any tH then (true,((2,()),())) else (false,((0,()),()))):=by
  refine MQ _ a0 (0,false,()) tH _ _ (fun k hk=>?_) ?_
  ·have e2:aR ((k:Int)+1)=((k+1:Nat):Int):=by rw [jm (by omega) (by omega)];omega
   unfold MF tH aA.inside;simp only [fQ,jd,e2]
   rw [bL (show (k:Int)<(a0.length:Int) by omega),bL (show (0:Int)≤(k:Int) by omega)]
   simp only [Bool.and_self,aQ]
   by_cases q1:(a0.getD k (0,false,())).1<1
   ·rw [bL q1,d9 (show ¬ 1≤(a0.getD k (0,false,())).1 by omega)];rfl
   by_cases q2:(a0.getD k (0,false,())).1 > 99
   ·rw [d9 q1,bL q2,bL (show 1≤(a0.getD k (0,false,())).1 by omega),d9 (show ¬ (a0.getD k (0,false,())).1≤99 by omega)];rfl
   ·rw [d9 q1,d9 q2,bL (show 1≤(a0.getD k (0,false,())).1 by omega),bL (show (a0.getD k (0,false,())).1≤99 by omega)];rfl
  ·unfold MF
   simp only [fQ]
   rw [d9 (show ¬ (a0.length:Int)<(a0.length:Int) by omega)]
   rfl
 have l2:Loop (MG a1) ((0:Int),())=some (bif a1.any rR then (true,((2,()),())) else (false,((0,()),()))):=by
  refine MQ _ a1 (0,0,0,0,0,()) rR _ _ (fun k hk=>?_) ?_
  ·have e2:aR ((k:Int)+1)=((k+1:Nat):Int):=by rw [jm (by omega) (by omega)];omega
   have hb:∀ x:Lk,rR x=(!aA.inside x.2.2.1 1 1000 || !aA.inside x.2.2.2.1 1 1000 || (decide (x.2.2.2.2.1<0) || decide (x.2.2.2.2.1 > 1000))):=by
    intro x;unfold rR aA.inside
    congr 1
    by_cases q1:x.2.2.2.2.1<0
    ·rw [bL q1,d9 (show ¬ 0≤x.2.2.2.2.1 by omega)];rfl
    by_cases q2:x.2.2.2.2.1 > 1000
    ·rw [d9 q1,bL q2,bL (show 0≤x.2.2.2.2.1 by omega),d9 (show ¬ x.2.2.2.2.1≤1000 by omega)];rfl
    ·rw [d9 q1,d9 q2,bL (show 0≤x.2.2.2.2.1 by omega),bL (show x.2.2.2.2.1≤1000 by omega)];rfl
   unfold MG;simp only [fQ,jd,e2]
   rw [bL (show (k:Int)<(a1.length:Int) by omega),bL (show (0:Int)≤(k:Int) by omega),hb]
   cases aA.inside (a1.getD k (0,0,0,0,0,())).2.2.1 1 1000 with
   | false=>rfl
   | true=>
   cases aA.inside (a1.getD k (0,0,0,0,0,())).2.2.2.1 1 1000 with
   | false=>rfl
   | true=>
   cases decide ((a1.getD k (0,0,0,0,0,())).2.2.2.2.1<0) with
   | true=>rfl
   | false=>cases decide ((a1.getD k (0,0,0,0,0,())).2.2.2.2.1 > 1000)<;>rfl
  ·unfold MG
   simp only [fQ]
   rw [d9 (show ¬ (a1.length:Int)<(a1.length:Int) by omega)]
   rfl
 have l3:Loop (MH a0 a1) ((0:Int),())=some (bif a1.any (fun l=>!aA.jR a0 l.1 || !aA.jR a0 l.2.1) then (true,((4,()),())) else (false,((0,()),()))):=by
  refine MQ _ a1 (0,0,0,0,0,()) _ _ _ (fun k hk=>?_) ?_
  ·have e2:aR ((k:Int)+1)=((k+1:Nat):Int):=by rw [jm (by omega) (by omega)];omega
   unfold MH;simp only [fQ,jd,e2]
   rw [bL (show (k:Int)<(a1.length:Int) by omega),bL (show (0:Int)≤(k:Int) by omega)]
   cases aA.jR a0 (a1.getD k (0,0,0,0,0,())).1 with
   | false=>rfl
   | true=>cases aA.jR a0 (a1.getD k (0,0,0,0,0,())).2.1<;>rfl
  ·unfold MH
   simp only [fQ]
   rw [d9 (show ¬ (a1.length:Int)<(a1.length:Int) by omega)]
   rfl
 have l4:Loop (MI a1) ((0:Int),())=some (bif a1.any down then (true,((8,()),())) else (false,((0,()),()))):=by
  refine MQ _ a1 (0,0,0,0,0,()) down _ _ (fun k hk=>?_) ?_
  ·have e2:aR ((k:Int)+1)=((k+1:Nat):Int):=by rw [jm (by omega) (by omega)];omega
   unfold MI;simp only [fQ,jd,e2]
   rw [bL (show (k:Int)<(a1.length:Int) by omega),bL (show (0:Int)≤(k:Int) by omega)]
   simp only [Bool.and_self,aQ];exact wW _ _ _
  ·unfold MI
   simp only [fQ]
   rw [d9 (show ¬ (a1.length:Int)<(a1.length:Int) by omega)]
   rfl
 unfold g50 lT;rw [l0,akv a0 h1,l2,l3,l4,order2 a1 h2]
 have e1:decide (Int.ofNat a0.length > 24)=decide (24<a0.length):=decide_eq_decide.2 (by simp only [fQ];omega)
 have e2:decide (Int.ofNat a1.length > 60)=decide (60<a1.length):=decide_eq_decide.2 (by simp only [fQ];omega)
 rw [e1,e2];simp only
 cases decide (24<a0.length) with
 | true=>rfl
 | false=>
 cases decide (60<a1.length) with
 | true=>rfl
 | false=>
 simp only [Bool.not_false,aQ,qB,bJ,Bool.or_self]
 cases a0.any tH with
 | true=>rfl
 | false=>
 cases UU a0 with
 | false=>rfl
 | true=>
 cases a1.any rR with
 | true=>rfl
 | false=>
 cases a1.any (fun l=>!aA.jR a0 l.1 || !aA.jR a0 l.2.1) with
 | true=>rfl
 | false=>
 cases a1.any down with
 | true=>rfl
 | false=>
 cases upL a1<;>rfl
def hi (r y:Int):Int:=bif decide (r<y) then y else r
theorem afk (a0:Int):aqj a0=some (aA.Bt.full a0,()):=by
 unfold aqj
 cases hv:rQ a0 with
 | false=>unfold Bt.full;rw [hv];rfl
 | true=>rcases Bn.1 hv with rfl | rfl | rfl | rfl<;>rfl
theorem ab8 {x:Nat} (hx:x<2 ^ 64) {n:Nat} (hn:n≤64):(x &&& (18446744073709551615 - (2 ^ n - 1))=0)↔x<2 ^ n:=by
 have hle:2 ^ n≤2 ^ 64:=Nat.pow_le_pow_right (by decide) hn
 have uO:=Nat.two_pow_pos n
 have e:18446744073709551615 - (2 ^ n - 1)=2 ^ 64 - ((2 ^ n - 1)+1):=by omega
 have hb:∀ i,(x &&& (18446744073709551615 - (2 ^ n - 1))).testBit i=(x.testBit i&&(decide (i<64) && !decide (i<n))):=fun i=>by
  rw [Nat.testBit_and,e,Nat.testBit_two_pow_sub_succ (by omega),Nat.testBit_two_pow_sub_one]
 constructor
 ·intro h
  refine Nat.lt_pow_two_of_testBit _ fun i hi=>?_
  by_cases XW:i<64
  ·have:=hb i
   rw [h] at this
   have h3:¬ i<n:=by omega
   simp [XW,h3] at this;exact this
  ·have h1:2 ^ 64≤2 ^ i:=Nat.pow_le_pow_right (by decide) (by omega)
   exact Nat.testBit_lt_two_pow (mK hx h1)
 ·intro h
  refine Nat.eq_of_testBit_eq fun i=>?_
  rw [hb,Nat.zero_testBit]
  by_cases h3:i<n
  ·simp [h3]
  ·have h1:2 ^ n≤2 ^ i:=Nat.pow_le_pow_right (by decide) (by omega)
   rw [Nat.testBit_lt_two_pow (mK h h1)];rfl
theorem XY {x n:Int} (hx:U x) (hv:rQ n=true):decide (IntKind.wrap .u64 (Int.ofNat (BitVec.and (BitVec.ofInt 64 x) (BitVec.not (BitVec.ofInt 64 (Bt.full n)))).toNat)=0)=decide (x<2 ^ n.toNat):=by
 rw [aqw hx (aku n),ab6 hv,jd]
 have hn:n.toNat≤64:=by rcases Bn.1 hv with rfl | rfl | rfl | rfl<;>decide
 have:=ab8 (utn hx) hn
 have e:(x<2 ^ n.toNat)↔x.toNat<2 ^ n.toNat:=by
  rw [AJ];have:=hx.1;generalize 2 ^ n.toNat=q;omega
 have e2:(((x.toNat &&& (18446744073709551615 - (2 ^ n.toNat - 1)):Nat):Int)=0)↔(x.toNat &&& (18446744073709551615 - (2 ^ n.toNat - 1)))=0:=by
  generalize x.toNat &&& (18446744073709551615 - (2 ^ n.toNat - 1))=q;omega
 congr 1
 exact propext (e2.trans (this.trans e.symm))
theorem akx (a0 a1:Int) (r0:IntKind.u64.has a0):g90 a0 a1=some (aA.vB a0 a1,()):=by
 unfold g90 aA.vB
 cases hv:rQ a1 with
 | false=>rfl
 | true=>rw [XY (uh r0) hv];rfl
theorem aky (a0 a1:Int):g89 a0 a1=some (aA.inside a0 0 a1,()):=by
 unfold g89 aA.inside;simp only [ab3,qB]
theorem awp (l:List Int):decide (Int.ofNat l.length≤64)=decide (l.length≤64):=decide_eq_decide.2 (by simp;omega)
theorem akz (a0 a1 a2 a3 a4 a5 a6 a7 a8:Int) (a9:List Int):g35 a0 a1 a2 a3 a4 a5 a6 a7 a8 a9=some (aA.mD (a0,a1,a2,a3,a4,a5,a6,a7,a8,a9,()),()):=by
 unfold g35 mD;simp only [md,sd,st,ln,tl,en,ig,pr,bt,py,ab3,qB,awp,Bool.and_assoc];unfold aA.inside;simp only [Bool.and_assoc];rfl
theorem akA {t:Ty} {l:List t.den} (h:(Ty.sl t).ok l) (ht:0<t.xk):l.length≤281474976710656:=by
 have h1:l.length*t.xk≤lW:=h.1;have:l.length*1≤l.length*t.xk:=Nat.mul_le_mul_left _ ht
 have e:lW=281474976710656∨lW=140737488355328:=by unfold lW;omega
 omega
theorem afl (a0:List Int) (a1:Int) (r0:(Ty.sl (.int .i64)).ok a0):aqp a0 a1=some (aA.idx (fun y=>decide (a1=y)) a0,()):=by
 have hl:=akA r0 (by decide)
 unfold aqp
 refine rZ _ a0 (fun y=>decide (a1=y)) 0 (fun i hi=>?_) ?_
 ·unfold MO
  simp only [fQ,jd]
  rw [bL (show (i:Int)<(a0.length:Int) by omega),bL (show (0:Int)≤(i:Int) by omega),jm (n:=(i:Int)+1) (by omega) (by omega)]
  cases decide (a1=a0.getD i 0)<;>rfl
 ·unfold MO
  simp only [fQ]
  rw [d9 (show ¬ (a0.length:Int)<(a0.length:Int) by omega)]
  rfl
theorem akB (a0:List Int) (a1:Int):g39 a0 a1=some (a0.any fun y=>decide (a1=y),()):=by
 unfold g39;rw [Bl]
end
theorem afm (a0:jS) (a1:jf) (a2 a3:Int) (r1:(Ty.sl (lkT)).ok a1):aqm a0 a1 a2 a3=some (aA.price a1 a2 a3,()):=by
 have hl:=CQ r1
 have h:=Hw (ER a1 a2 a3) a1 (0,0,0,0,0,()) (fun l=>bif decide (l.1=a2)&&decide (l.2.1=a3) then some (true,(l.2.2.1,())) else bif decide (l.2.1=a2)&&decide (l.1=a3) then some (true,(l.2.2.2.1,())) else none) (false,(0,())) (fun i hi=>by
  unfold ER;simp only [fQ,jd]
  rw [bL (show (i:Int)<(a1.length:Int) by omega),bL (show (0:Int)≤(i:Int) by omega),jm (n:=(i:Int)+1) (by omega) (by omega)]
  cases decide ((a1.getD i (0,0,0,0,0,())).1=a2)<;>cases decide ((a1.getD i (0,0,0,0,0,())).2.1=a3)<;>cases decide ((a1.getD i (0,0,0,0,0,())).2.1=a2)<;>cases decide ((a1.getD i (0,0,0,0,0,())).1=a3)<;>rfl) (by
  unfold ER;simp only [fQ]
  rw [d9 (show ¬ (a1.length:Int)<(a1.length:Int) by omega)]
  rfl)
 unfold aqm;rw [h];clear h r1 hl
 induction a1 with
 | nil=>rfl
 | cons x r ih=>
  rw [List.findSome?_cons];unfold price
  cases h1:(decide (x.1=a2)&&decide (x.2.1=a3)) with
  | true=>rfl
  | false=>
   cases h2:(decide (x.2.1=a2)&&decide (x.1=a3)) with
   | true=>rfl
   | false=>exact ih
theorem afn (a0:jS) (a1:jf) (a2:Int) (r0:(Ty.sl (rtT)).ok a0):aqn a0 a1 a2=some (aA.near (a0,a1,()) a2,()):=by
 have hl:=CP r0
 have key:∀ j k,k+j=a0.length→∀ acc:List Int,acc.length≤k→Loop (wV a0 a1 a2) (acc,(k:Int),())=some (acc++((a0.drop k).filter (fun x=>(price a1 a2 x.1).2.1)).map (fun x=>x.1),()):=by
  intro j
  induction j with
  | zero=>
   intro k hk acc _
   have hk:k=a0.length:=by omega
   subst hk;rw [dY];unfold wV;simp only [fQ]
   rw [d9 (show ¬ (a0.length:Int)<(a0.length:Int) by omega),List.drop_length]
   simp
  | succ j ih=>
   intro k hk acc aFU
   have aT:k<a0.length:=by omega
   have e2:aR ((k:Int)+1)=((k+1:Nat):Int):=by rw [jm (by omega) (by omega)];omega
   rw [dY,List.drop_eq_getElem_cons aT]
   have hs:wV a0 a1 a2 (acc,(k:Int),())=some (.inl (bif (price a1 a2 a0[k].1).2.1 then acc++[a0[k].1] else acc,((k+1:Nat):Int),())):=by
    unfold wV;simp only [fQ,jd,e2]
    rw [bL (show (k:Int)<(a0.length:Int) by omega),bL (show (0:Int)≤(k:Int) by omega),qw (d:=(0,false,())) aT,show Nat.ble ((acc.length+1)*8) 140737488355328=true from Nat.ble_eq_true_of_le (by omega)]
    cases (price a1 a2 a0[k].1).2.1<;>rfl
   rw [hs,List.filter_cons]
   cases hp:(price a1 a2 a0[k].1).2.1 with
   | true=>
    simp only [aQ,if_true,jy]
    rw [ih (k+1) (by omega) _ (by rw [nP];show acc.length+1≤_;omega),List.append_assoc]
    rfl
   | false=>
    simp only [bJ]
    rw [ih (k+1) (by omega) acc (by omega)]
    rfl
 have h:=key a0.length 0 (by omega) [] (bT _)
 have h:Loop (wV a0 a1 a2) ([],0,())=_:=h;unfold aqn;rw [h];rfl
theorem getD_at {α:Type} {l:List α} {d:α} {i:Nat} (h:i<l.length):l.getD i d=l[i]:=Go.dw.qw h
theorem aqx {α ρ:Type} (f:(Int×Unit)→Option (Sum (Int×Unit) ρ)) (l:List α) (d:α) (bad:α→Bool) (R1:α→ρ) (R0:ρ) (hl:l.length≤9223372036854775806)
 (h:∀ i:Int,f (i,())=bif decide (i<Int.ofNat l.length) then (bif decide (0≤i)&&decide (i<Int.ofNat l.length) then (bif bad (l.getD i.toNat d) then some (.inr (R1 (l.getD i.toNat d))) else some (.inl (aR (i+1),()))) else none) else some (.inr R0)) :
 Loop f ((0:Int),())=some ((l.find? bad).elim R0 R1):=by
 have key:∀ j k,k+j=l.length→Loop f ((k:Int),())=some (((l.drop k).find? bad).elim R0 R1):=by
  intro j
  induction j with
  | zero=>
   intro k hk
   rw [dY,h,dF (show ¬ (k:Int)<Int.ofNat l.length by show ¬ (k:Int)<(l.length:Int);omega),List.drop_of_length_le (by omega)]
   rfl
  | succ j ih=>
   intro k hk
   have aT:k<l.length:=by omega
   rw [dY,h,dT (show (k:Int)<Int.ofNat l.length by show (k:Int)<(l.length:Int);omega),dT (show (0:Int)≤(k:Int) by omega),jd,getD_at aT,dn (by omega),
    List.drop_eq_getElem_cons aT,List.find?_cons]
   cases hb:bad l[k] with
   | true=>rfl
   | false=>exact ih (k+1) (by omega)
 exact key l.length 0 (by omega)
theorem aqy {α ρ:Type} (f:(Int×Unit)→Option (Sum (Int×Unit) ρ)) (l:List α) (d:α) (bad:α→Bool) (R1 R0:ρ) (hl:l.length≤9223372036854775806)
 (h:∀ i:Int,f (i,())=bif decide (i<Int.ofNat l.length) then (bif decide (0≤i)&&decide (i<Int.ofNat l.length) then (bif bad (l.getD i.toNat d) then some (.inr R1) else some (.inl (aR (i+1),()))) else none) else some (.inr R0)) :
 Loop f ((0:Int),())=some (bif l.any bad then R1 else R0):=by
 rw [aqx f l d bad (fun _=>R1) R0 hl h]
 cases hf:l.find? bad with
 | none=>
  rw [List.find?_eq_none] at hf
  have:l.any bad=false:=by
   rw [List.any_eq_false];exact hf
  rw [this];rfl
 | some x=>
  have:l.any bad=true:=List.any_eq_true.2 ⟨x,List.mem_of_find?_eq_some hf,List.find?_some hf⟩;rw [this];rfl
theorem akC (a0:List Int) (a1:Int) (r0:(Ty.sl (.int .i64)).ok a0):g10 a0 a1=some (aA.has a0 a1,()):=by
 have hl:=agY r0;unfold g10
 rw [aqy (ab2 a0 a1) a0 0 (fun x=>decide (x=a1)) (true,((true,()),())) (false,((false,()),())) (by omega) (fun i=>rfl)]
 unfold aA.has
 cases a0.any (fun x=>decide (x=a1))<;>rfl
theorem afo (a0:Int):aqt a0=some (false,()):=by
 unfold aqt;rw [bL rfl];rfl
theorem akD (a0 a1:Int):g73 a0 a1=some (aA.dJ a0 a1,()):=by
 unfold g73 dJ
 cases decide (a0<a1) with
 | true=>rfl
 | false=>
  show (bif decide (a1<a0) then _ else _)=_
  cases decide (a1<a0)<;>rfl
theorem Vs (l:List Int) (i:Nat) (h:i<l.length):dz (l.drop i)=bif decide (l.getD i 0=0) then dz (l.drop (i+1)) else l.getD i 0:=by
 rw [List.drop_eq_getElem_cons h]
 have:l.getD i 0=l[i]:=by rw [iW,iw h];rfl
 rw [this];rfl
theorem afp (a0:List Int) (r0:(Ty.sl (.int .i64)).ok a0):aqg a0=some (aA.dz a0,()):=by
 have hlen:a0.length≤281474976710656:=by
  have h:a0.length*8≤140737488355328:=r0.1;omega
 have key:∀ j k,k+j=a0.length→∃ e,Loop (wU a0) ((k:Int),())=some e∧(bif e.1 then some e.2.1 else some ((0:Int),()))=some (dz (a0.drop k),()):=by
  intro j
  induction j with
  | zero=>
   intro k hk
   have hk:k=a0.length:=by omega
   subst hk;refine ⟨(false,((0,()),())),?_,?_⟩
   ·rw [dY]
    unfold wU;simp only [fQ]
    rw [d9 (show ¬ (a0.length:Int)<(a0.length:Int) by omega)]
    rfl
   ·rw [List.drop_length];rfl
  | succ j ih=>
   intro k hk
   have hs:wU a0 ((k:Int),())=bif !decide (a0.getD k 0=0) then some (.inr (true,((a0.getD k 0,()),()))) else some (.inl (((k+1:Nat):Int),())):=by
    unfold wU;simp only [fQ,jd]
    rw [bL (show (k:Int)<(a0.length:Int) by omega),bL (show (0:Int)≤(k:Int) by omega),jm (n:=(k:Int)+1) (by omega) (by omega)]
    rfl
   by_cases h0:a0.getD k 0=0
   ·obtain ⟨e,h1,h2⟩:=ih (k+1) (by omega)
    refine ⟨e,?_,?_⟩
    ·rw [dY,hs,bL h0]
     exact h1
    ·rw [Vs a0 k (by omega),bL h0]
     exact h2
   ·refine ⟨(true,((a0.getD k 0,()),())),?_,?_⟩
    ·rw [dY,hs,d9 h0]
     rfl
    ·rw [Vs a0 k (by omega),d9 h0]
     rfl
 obtain ⟨e,h1,h2⟩:=key a0.length 0 (by omega)
 have h1:Loop (wU a0) (0,())=some e:=h1;unfold aqg;rw [h1];exact h2
theorem akE (a0 a1 a2:Int):g95 a0 a1 a2=some (aA.inside a0 a1 a2,()):=by
 unfold g95 aA.inside
 show (Option.bind (bif decide (a1≤a0) then some (decide (a0≤a2),()) else some (false,())) fun y3=>some y3)=_
 cases decide (a1≤a0)<;>rfl
theorem akF (a0:Int) (a1:Bool) (a2:Int):g98 a0 a1 a2=some (aA.dJ a0 a2,()):=by
 rfl
theorem akG (a0 a1 a2 a3 a4 a5 a6 a7 a8 a9:Int):g45 a0 a1 a2 a3 a4 a5 a6 a7 a8 a9=some (aA.xO (a0,a1,a2,a3,a4,()) (a5,a6,a7,a8,a9,()),()):=by
 rfl
theorem akH (a0:Int) (a1:Bool):g94 a0 a1=some (aA.tH (a0,a1,()),()):=by
 rfl
theorem afq (a0:jS) (r0:(Ty.sl (rtT)).ok a0):awl a0=some (aA.idx aA.tH a0,()):=by
 have hl:=CP r0
 refine rZ (EP a0) a0 tH (0,false,()) (fun i hi=>?_) ?_
 ·unfold EP
  simp only [fQ,jd]
  rw [bL (show (i:Int)<(a0.length:Int) by omega),bL (show (0:Int)≤(i:Int) by omega),jm (n:=(i:Int)+1) (by omega) (by omega)]
  rfl
 ·unfold EP
  simp only [fQ]
  rw [d9 (show ¬ (a0.length:Int)<(a0.length:Int) by omega)]
  rfl
theorem akI (a0:jS):g93 a0=some (a0.any aA.tH,()):=by
 unfold g93;rw [Bl]
theorem afr (a0 a1 a2 a3 a4:Int):aqs a0 a1 a2 a3 a4=some (aA.rR (a0,a1,a2,a3,a4,()),()):=by
 unfold aqs rR;simp only [Bool.not_not]
 cases aA.inside a2 1 1000<;>cases aA.inside a3 1 1000<;>rfl
theorem afs (a0:jf) (r0:(Ty.sl (lkT)).ok a0):awn a0=some (aA.idx aA.rR a0,()):=by
 have hl:=CQ r0
 refine rZ (ES a0) a0 rR (0,0,0,0,0,()) (fun i hi=>?_) ?_
 ·unfold ES
  simp only [fQ,jd]
  rw [bL (show (i:Int)<(a0.length:Int) by omega),bL (show (0:Int)≤(i:Int) by omega),jm (n:=(i:Int)+1) (by omega) (by omega)]
  rfl
 ·unfold ES
  simp only [fQ]
  rw [d9 (show ¬ (a0.length:Int)<(a0.length:Int) by omega)]
  rfl
theorem akJ (a0:jf):g99 a0=some (a0.any aA.rR,()):=by
 unfold g99;rw [Bl]
theorem akK (a0:Int) (a1:jS) (a2:jf):g96 a0 a1 a2=some (aA.unk (a1,a2,()) a0,()):=by
 rfl
theorem aft (a0 a1 a2 a3 a4:Int) (a5:jS) (a6:jf):aqr a0 a1 a2 a3 a4 a5 a6=some (aA.unk (a5,a6,()) a0 || aA.unk (a5,a6,()) a1,()):=by
 unfold aqr
 cases unk (a5,a6,()) a0<;>rfl
theorem ab9 (a0:jf) (a1:jS) (a2:jf) (r0:(Ty.sl (lkT)).ok a0):aqi a0 a1 a2=some (aA.idx (fun l=>aA.unk (a1,a2,()) l.1 || aA.unk (a1,a2,()) l.2.1) a0,()):=by
 have hl:=CQ r0
 refine rZ (Bg a0 a1 a2) a0 (fun l=>unk (a1,a2,()) l.1 || unk (a1,a2,()) l.2.1) (0,0,0,0,0,()) (fun i hi=>?_) ?_
 ·unfold Bg
  simp only [fQ,jd]
  rw [bL (show (i:Int)<(a0.length:Int) by omega),bL (show (0:Int)≤(i:Int) by omega),jm (n:=(i:Int)+1) (by omega) (by omega)]
  rfl
 ·unfold Bg
  simp only [fQ]
  rw [d9 (show ¬ (a0.length:Int)<(a0.length:Int) by omega)]
  rfl
theorem acd (a0:jf) (a1:jS) (a2:jf):agX a0 a1 a2=some (a0.any (fun l=>aA.unk (a1,a2,()) l.1 || aA.unk (a1,a2,()) l.2.1),()):=by
 unfold agX;rw [Bl]
theorem afu (a0 a1 a2 a3 a4:Int):awm a0 a1 a2 a3 a4=some (aA.down (a0,a1,a2,a3,a4,()),()):=by
 rfl
theorem ace (a0:jf) (r0:(Ty.sl (lkT)).ok a0):aqo a0=some (aA.idx aA.down a0,()):=by
 have hl:=CQ r0
 refine rZ (Bh a0) a0 down (0,0,0,0,0,()) (fun i hi=>?_) ?_
 ·unfold Bh
  simp only [fQ,jd]
  rw [bL (show (i:Int)<(a0.length:Int) by omega),bL (show (0:Int)≤(i:Int) by omega),jm (n:=(i:Int)+1) (by omega) (by omega)]
  rfl
 ·unfold Bh
  simp only [fQ]
  rw [d9 (show ¬ (a0.length:Int)<(a0.length:Int) by omega)]
  rfl
theorem acf (a0:jf):agW a0=some (a0.any aA.down,()):=by
 unfold agW;rw [Bl]
theorem akL (a0:jS) (a1:jf):g41 a0 a1=some (aA.RZ (a0,a1,()),()):=by
 rfl
theorem akM (a b:Int):decide (dJ a b<0)=decide (a<b):=by
 unfold dJ
 by_cases h:a<b
 ·rw [bL h];rfl
 ·rw [d9 h]
  by_cases h2:b<a
  ·rw [bL h2];rfl
  ·rw [d9 h2];rfl
theorem cmp_eq (a b:Int):decide (dJ a b=0)=decide (a=b):=by
 unfold dJ
 by_cases h:a<b
 ·rw [bL h,d9 (show ¬ a=b by omega)];rfl
 ·rw [d9 h]
  by_cases h2:b<a
  ·rw [bL h2,d9 (show ¬ a=b by omega)];rfl
  ·rw [d9 h2,bL (show a=b by omega)];rfl
theorem MR (l:List Rt) (id:Int):∀ f i j,i≤j→uw l id f i j≤j
 | 0,i,j,h=>h
 | f+1,i,j,h=>by
  unfold uw
  by_cases qO:i<j
  ·rw [bL qO]
   simp only [aQ]
   cases decide (dJ (l.getD ((i+j) / 2) zR).1 id<0) with
   | true=>exact MR l id f _ j (by omega)
   | false=>exact gX (MR l id f i _ (by omega)) (by omega)
  ·rw [d9 qO]
   exact h
theorem MS (a0:List Rt) (a1:Int) (hl:a0.length≤8796093022208):∀ f i j,i≤j→j≤a0.length→j - i≤f→Loop (zq a0 a1) ((j:Int),(i:Int),())=some (((uw a0 a1 f i j:Nat):Int),())
 | 0,i,j,h1,h2,h3=>by
  have:i=j:=by omega
  subst this;rw [dY];unfold zq uw
  rw [d9 (show ¬ (i:Int)<(i:Int) by omega)]
  rfl
 | f+1,i,j,h1,h2,h3=>by
  rw [dY]
  by_cases qO:i<j
  ·have e1:aR ((i:Int)+(j:Int))=((i+j:Nat):Int):=by rw [jm (by omega) (by omega)];omega
   have e2:IntKind.wrap .u64 ((i+j:Nat):Int)=((i+j:Nat):Int):=wu64 (by omega) (by omega)
   have e3:(((i+j:Nat):Int)).fdiv 2=(((i+j) / 2:Nat):Int):=by
    rw [Int.fdiv_eq_ediv_of_nonneg _ (by omega)]
    omega
   have e4:aR (((i+j) / 2:Nat):Int)=(((i+j) / 2:Nat):Int):=jm (by omega) (by omega)
   have e5:aR ((((i+j) / 2:Nat):Int)+1)=(((i+j) / 2+1:Nat):Int):=by rw [jm (by omega) (by omega)];omega
   have hs:zq a0 a1 ((j:Int),(i:Int),())=bif decide (dJ (a0.getD ((i+j) / 2) zR).1 a1<0) then some (.inl ((j:Int),(((i+j) / 2+1:Nat):Int),())) else some (.inl ((((i+j) / 2:Nat):Int),(i:Int),())):=by
    unfold zq;simp only [e1,e2,e3,e4,e5,jd,fQ]
    rw [bL (show (i:Int)<(j:Int) by omega),bL (show (0:Int)≤(((i+j) / 2:Nat):Int) by omega),bL (show (((i+j) / 2:Nat):Int)<(a0.length:Int) by omega)]
    show Option.bind (bif decide (dJ (a0.getD ((i+j) / 2) zR).1 a1<0) then _ else _) _=_
    cases decide (dJ (a0.getD ((i+j) / 2) zR).1 a1<0)<;>rfl
   rw [hs];unfold uw;rw [bL qO]
   cases decide (dJ (a0.getD ((i+j) / 2) zR).1 a1<0) with
   | true=>exact MS a0 a1 hl f _ j (by omega) h2 (by omega)
   | false=>exact MS a0 a1 hl f i _ (by omega) (by omega) (by omega)
  ·have:i=j:=by omega
   subst this;unfold zq uw
   rw [d9 (show ¬ (i:Int)<(i:Int) by omega),d9 qO]
   rfl
theorem akN (a0:jS) (a1:Int) (r0:(Ty.sl (rtT)).ok a0):g97 a0 a1=some (aA.bs a0 a1,()):=by
 have hl:=CP r0
 have h:=MS a0 a1 hl a0.length 0 a0.length (mY _) (bT _) (by omega)
 have hle:=MR a0 a1 a0.length 0 a0.length (mY _);have h:Loop (zq a0 a1) (Int.ofNat a0.length,0,())=_:=h;unfold g97 bs;rw [h];simp only [qB,fQ,jd]
 by_cases hr:uw a0 a1 a0.length 0 a0.length<a0.length
 ·rw [bL (show ((uw a0 a1 a0.length 0 a0.length:Nat):Int)<(a0.length:Int) by omega),bL hr,bL (show (0:Int)≤((uw a0 a1 a0.length 0 a0.length:Nat):Int) by omega)]
  rfl
 ·rw [d9 (show ¬ ((uw a0 a1 a0.length 0 a0.length:Nat):Int)<(a0.length:Int) by omega),d9 hr]
  rfl
theorem Vt {l:List Rt} (h:UU l=true):∀ j i,i<j→j<l.length→(l.getD i zR).1<(l.getD j zR).1
 | 0,i,hi,_=>by omega
 | j+1,i,hi,hj=>by
  have hs:(l.getD j zR).1<(l.getD (j+1) zR).1:=vP (List.all_eq_true.1 h j (List.mem_range.2 (by omega)))
  by_cases qO:i=j
  ·rw [qO];exact hs
  ·exact Int.lt_trans (Vt h j i (by omega) (by omega)) hs
theorem Tq {l:List Rt} (h:UU l=true) (id:Int):∀ f i j,i≤j→j≤l.length→j - i≤f→(∀ k,k<i→(l.getD k zR).1<id)→(∀ k,j≤k→k<l.length→id≤(l.getD k zR).1) →
 uw l id f i j≤l.length∧(∀ k,k<uw l id f i j→(l.getD k zR).1<id)∧∀ k,uw l id f i j≤k→k<l.length→id≤(l.getD k zR).1
 | 0,i,j,h1,h2,h3,h4,h5=>by
  have:i=j:=by omega
  subst this;exact ⟨h2,h4,h5⟩
 | f+1,i,j,h1,h2,h3,h4,h5=>by
  unfold uw
  by_cases qO:i<j
  ·rw [bL qO,akM]
   simp only [aQ]
   by_cases hc:(l.getD ((i+j) / 2) zR).1<id
   ·rw [bL hc]
    refine Tq h id f _ j (by omega) h2 (by omega) (fun k hk=>?_) h5
    by_cases lX:k=(i+j) / 2
    ·rw [lX];exact hc
    ·exact Int.lt_trans (Vt h _ k (by omega) (by omega)) hc
   ·rw [d9 hc]
    refine Tq h id f i _ (by omega) (by omega) (by omega) h4 (fun k hk gI=>?_)
    by_cases lX:k=(i+j) / 2
    ·rw [lX];omega
    ·have:=Vt h k ((i+j) / 2) (by omega) gI
     omega
  ·have:i=j:=by omega
   subst this;rw [d9 qO];exact ⟨h2,h4,h5⟩
theorem Hy (l:List Rt) (id:Int):aA.jR l id=true↔∃ k,k<l.length∧(l.getD k zR).1=id:=by
 unfold aA.jR;rw [List.any_eq_true];constructor
 ·rintro ⟨x,hx,h⟩
  obtain ⟨k,hk,rfl⟩:=List.getElem_of_mem hx
  exact ⟨k,hk,by rw [qw hk];exact vP h⟩
 ·rintro ⟨k,hk,h⟩
  rw [qw hk] at h;exact ⟨l[k],zG _,bL h⟩
theorem Tt {l:List Rt} (h:UU l=true) (id:Int):(bs l id).2.1=aA.jR l id∧(aA.jR l id=true→(bs l id).1=((l.findIdx fun r=>decide (r.1=id):Nat):Int)∧(bs l id).1.toNat<l.length):=by
 obtain ⟨q1,q2,q3⟩:=Tq h id l.length 0 l.length (mY _) (bT _) (by omega) (fun k hk=>by omega) (fun k hk lX=>by omega)
 unfold bs;simp only [cmp_eq];generalize uw l id l.length 0 l.length=r at q1 q2 q3
 by_cases hr:r<l.length
 ·rw [bL hr]
  by_cases he:(l.getD r zR).1=id
  ·have hh:aA.jR l id=true:=(Hy l id).2 ⟨r,hr,he⟩
   rw [bL he,hh]
   refine ⟨rfl,fun _=>⟨?_,by simpa using hr⟩⟩
   have:l.findIdx (fun r=>decide (r.1=id))=r:=by
    rw [List.findIdx_eq hr]
    refine ⟨by rw [qw hr] at he;exact bL he,fun k hk=>?_⟩
    have:=q2 k hk
    rw [qw (by omega)] at this
    exact d9 (by omega)
   rw [this]
  ·have hh:aA.jR l id=false:=by
    rw [Bool.eq_false_iff];intro hc;obtain ⟨k,hk,FN⟩:=(Hy l id).1 hc
    by_cases h1:k<r
    ·have:=q2 k h1;omega
    ·by_cases h2:k=r
     ·rw [h2] at FN;exact he FN
     ·have h3:=Vt h k r (by omega) hk
      have h4:=q3 r (bT _) hr;omega
   rw [d9 he,hh]
   exact ⟨rfl,fun h=>by cases h⟩
 ·have hh:aA.jR l id=false:=by
   rw [Bool.eq_false_iff];intro hc;obtain ⟨k,hk,FN⟩:=(Hy l id).1 hc
   have:=q2 k (by omega)
   omega
  rw [d9 hr,hh]
  exact ⟨rfl,fun h=>by cases h⟩
theorem acg (a b:Lk):decide (xO a b≥0) = !GL a b:=by
 unfold xO GL
 show decide ((bif decide (dJ a.1 b.1=0) then (bif decide (dJ a.2.1 b.2.1=0) then 0 else dJ a.2.1 b.2.1) else dJ a.1 b.1)≥0)=_
 rw [cmp_eq,cmp_eq];unfold dJ
 by_cases h1:a.1<b.1
 ·rw [bL h1,d9 (show ¬ a.1=b.1 by omega)];rfl
 rw [d9 h1]
 by_cases h2:b.1<a.1
 ·rw [bL h2,d9 (show ¬ a.1=b.1 by omega)];rfl
 rw [d9 h2,bL (show a.1=b.1 by omega)]
 by_cases h3:a.2.1<b.2.1
 ·rw [bL h3,d9 (show ¬ a.2.1=b.2.1 by omega)];rfl
 rw [d9 h3]
 by_cases h4:b.2.1<a.2.1
 ·rw [bL h4,d9 (show ¬ a.2.1=b.2.1 by omega)];rfl
 rw [d9 h4,bL (show a.2.1=b.2.1 by omega)]
 rfl
theorem akO (l:List Rt) (hl:l.length≤8796093022208):Loop (MJ l) ((0:Int),())=some (bif !UU l then (true,((25,()),())) else (false,((0,()),()))):=by
 rw [←Vq]
 refine GD l.length _ _ _ (fun i hi aT=>?_) ?_
 ·obtain ⟨k,rfl⟩:∃ n:Nat,i=n:=⟨i.toNat,by omega⟩
  have e2:aR ((k:Int)+1)=(k:Int)+1:=jm (by omega) (by omega)
  unfold MJ;simp only [fQ,jd,e2];rw [bL aT]
  by_cases h0:0<k
  ·have e1:aR ((k:Int) - 1)=((k - 1:Nat):Int):=by rw [jm (by omega) (by omega)];omega
   simp only [e1,jd]
   rw [bL (show (k:Int) > 0 by omega),bL (show (0:Int)≤((k - 1:Nat):Int) by omega),bL (show ((k - 1:Nat):Int)<(l.length:Int) by omega),bL (show (0:Int)≤(k:Int) by omega),bL h0]
   simp only [Bool.and_self,aQ,qB,Bool.true_and];exact wW _ _ _
  ·rw [d9 (show ¬ (k:Int) > 0 by omega),d9 h0]
   rfl
 ·unfold MJ
  simp only [fQ]
  rw [d9 (show ¬ (l.length:Int)<(l.length:Int) by omega)]
  rfl
theorem akP (l:List Lk) (hl:l.length≤8796093022208):Loop (MK l) ((0:Int),())=some (bif !upL l then (true,((25,()),())) else (false,((0,()),()))):=by
 rw [←Vr]
 refine GD l.length _ _ _ (fun i hi aT=>?_) ?_
 ·obtain ⟨k,rfl⟩:∃ n:Nat,i=n:=⟨i.toNat,by omega⟩
  have e2:aR ((k:Int)+1)=(k:Int)+1:=jm (by omega) (by omega)
  unfold MK;simp only [fQ,jd,e2];rw [bL aT]
  by_cases h0:0<k
  ·have e1:aR ((k:Int) - 1)=((k - 1:Nat):Int):=by rw [jm (by omega) (by omega)];omega
   simp only [e1,jd]
   rw [bL (show (k:Int) > 0 by omega),bL (show (0:Int)≤((k - 1:Nat):Int) by omega),bL (show ((k - 1:Nat):Int)<(l.length:Int) by omega),bL (show (0:Int)≤(k:Int) by omega),bL h0,←acg]
   simp only [Bool.and_self,aQ,qB,Bool.true_and];exact wW _ _ _
  ·rw [d9 (show ¬ (k:Int) > 0 by omega),d9 h0]
   rfl
 ·unfold MK
  simp only [fQ]
  rw [d9 (show ¬ (l.length:Int)<(l.length:Int) by omega)]
  rfl
theorem akQ (a0:jS) (a1:jf) (r0:(Ty.sl (rtT)).ok a0) (r1:(Ty.sl (lkT)).ok a1):g37 a0 a1=some (aA.lT (a0,a1,()),()):=by
 have h1:=CP r0;have h2:=CQ r1;unfold g37 lT;rw [akO a0 h1,akP a1 h2]
 have e1:decide (Int.ofNat a0.length > 24)=decide (24<a0.length):=decide_eq_decide.2 (by simp only [fQ];omega)
 have e2:decide (Int.ofNat a1.length > 60)=decide (60<a1.length):=decide_eq_decide.2 (by simp only [fQ];omega)
 rw [e1,e2];simp only
 cases decide (24<a0.length) with
 | true=>rfl
 | false=>
 cases decide (60<a1.length) with
 | true=>rfl
 | false=>
 simp only [Bool.not_false,aQ,qB,bJ,Bool.or_self]
 cases a0.any tH with
 | true=>rfl
 | false=>
 simp only [bJ]
 cases hu:UU a0 with
 | false=>rfl
 | true=>
 simp only [Bool.not_true,bJ,qB]
 have hun:(fun (y4:Lk)=>unk (a0,a1,()) y4.1 || unk (a0,a1,()) y4.2.1)=fun l=>!aA.jR a0 l.1 || !aA.jR a0 l.2.1:=by
  funext l
  unfold unk;rw [(Tt hu l.1).1,(Tt hu l.2.1).1]
 rw [hun]
 cases a1.any rR with
 | true=>rfl
 | false=>
 cases a1.any (fun l=>!aA.jR a0 l.1 || !aA.jR a0 l.2.1) with
 | true=>rfl
 | false=>
 cases a1.any down with
 | true=>rfl
 | false=>
 cases upL a1<;>rfl
theorem aqz {g:To} (h:RZ g=true):UU g.1=true:=by
 unfold RZ lT at h
 cases hu:UU g.1 with
 | true=>rfl
 | false=>
  rw [hu] at h
  cases h1:(decide (24<g.1.length) || decide (60<g.2.1.length)) with
  | true=>rw [h1] at h;cases h
  | false=>
   rw [h1] at h
   cases h2:g.1.any tH with
   | true=>rw [h2] at h;cases h
   | false=>rw [h2] at h;cases h
theorem afv (a0:jS) (a1:jf) (a2:Int):aqh a0 a1 a2=some (aA.find (a0,a1,()) a2,()):=by
 unfold aqh find;simp only
 have aT:(bs a0 a2).2.1=true→0≤(bs a0 a2).1∧(bs a0 a2).1<(a0.length:Int):=by
  intro h;unfold bs at h ⊢;simp only [dA,mX] at h ⊢;omega
 cases hb:(bs a0 a2).2.1 with
 | false=>rfl
 | true=>
  obtain ⟨p1,p2⟩:=aT hb;simp only [Bool.not_true,bJ,aQ,fQ];rw [bL p1,bL p2];rfl
theorem akR (a0:jS) (a1:jf) (a2:Int):g38 a0 a1 a2=some (aA.AU (a0,a1,()) a2,()):=by
 unfold g38 AU
 cases ho:RZ (a0,a1,()) with
 | false=>rfl
 | true=>
  have hb:=(Tt (aqz ho) a2).1;have hb:(bs a0 a2).2.1=aA.jR a0 a2:=hb;unfold find;simp only [aQ,Bool.true_and];rw [hb]
  cases aA.jR a0 a2<;>rfl
theorem lt_trans:∀ x y z:List Int,Go.dw.gT x y=true→Go.dw.gT y z=true→Go.dw.gT x z=true
 | _,[],_,h,_=>by simp [Go.dw.gT] at h
 | _,_::_,[],_,h=>by simp [Go.dw.gT] at h
 | [],_::_,_::_,_,_=>rfl
 | a::x,b::y,c::z,h,k=>by
  simp only [Go.dw.gT,Bool.or_eq_true,dA,mX,beq_iff_eq] at h k ⊢
  rcases h with h | ⟨h1,h2⟩
  ·rcases k with k | ⟨k1,k2⟩
   ·exact .inl (by omega)
   ·exact .inl (by omega)
  ·rcases k with k | ⟨k1,k2⟩
   ·exact .inl (by omega)
   ·exact .inr ⟨by omega,lt_trans x y z h2 k2⟩
section
open aA.Bt
theorem akS {b:Int} (h:U b):∃ m:Nat,b=m∧m<2 ^ 64:=⟨b.toNat,by have:=h.1;omega,by have:=h.2;omega⟩
theorem awq {x y:Int} (hx:U x) (hy:U y):IntKind.wrap .u64 (Int.ofNat (BitVec.and (BitVec.ofInt 64 x) (BitVec.ofInt 64 y)).toNat)=((x.toNat &&& y.toNat:Nat):Int):=by
 have h:x.toNat &&& y.toNat<2 ^ 64:=Nat.and_lt_two_pow _ (utn hy)
 rw [bvand hx.1 (by have:=hx.2;omega) hy.1 (by have:=hy.2;omega),ofN]
 exact wu64 (by omega) (by omega)
theorem ach {n:Nat} (h:n<2 ^ 64):U (n:Int):=⟨by omega,by omega⟩
theorem aqA {k:Nat} (h:k<64):U ((2:Int) ^ k):=by
 rw [AJ]
 exact ach (Nat.pow_lt_pow_right (by decide) h)
theorem akT {b:Int} {k:Nat} (h:k<64):Bt.has b (k:Int)=tb b k:=by
 unfold Bt.has
 rw [bL (show (0:Int)≤(k:Int) by omega),bL (show (k:Int)<64 by omega)]
 rfl
def wa (x y:Int):Int:=IntKind.wrap .u64 (Int.ofNat (BitVec.and (BitVec.ofInt 64 x) (BitVec.ofInt 64 y)).toNat)
theorem akU {x y:Nat} (hx:x<2 ^ 64) (hy:y<2 ^ 64):wa (x:Int) (y:Int)=((x &&& y:Nat):Int):=awq (ach hx) (ach hy)
theorem fd (x d:Nat):Int.fdiv (x:Int) (d:Int)=((x / d:Nat):Int):=by
 rw [Int.fdiv_eq_ediv_of_nonneg _ (by omega),←Int.natCast_ediv]
theorem afw {x:Int} (hx:U x) (i:Nat):IntKind.wrap .u64 (Int.ofNat (BitVec.and (BitVec.ofInt 64 (Int.fdiv x (2 ^ i))) (BitVec.ofInt 64 1)).toNat)=(((tb x i).toNat:Nat):Int):=by
 obtain ⟨n,rfl,hn⟩:=akS hx;have h1:n / 2 ^ i<2 ^ 64:=Nat.lt_of_le_of_lt (Nat.div_le_self _ _) hn
 have e:Int.fdiv (n:Int) (2 ^ i)=((n / 2 ^ i:Nat):Int):=by rw [AJ,fd]
 have a1:=akU (x:=n / 2 ^ i) (y:=1) h1 (by decide)
 simp only [Int.cast_ofNat_Int] at a1;unfold wa at a1;rw [e,a1,Nat.and_one_is_mod];unfold tb;rw [jd,Nat.testBit_eq_decide_div_mod_eq]
 by_cases h:n / 2 ^ i%2=1
 ·rw [h];rfl
 ·have:n / 2 ^ i%2=0:=by omega
  rw [this];rfl
end
theorem akV (a0 a1 a2 a3 a4 a5 a6 a7 a8:Int) (a9:List Int) (zJ:Int) (r8:IntKind.u64.has a8):g66 a0 a1 a2 a3 a4 a5 a6 a7 a8 a9 zJ=some (aA.only (a0,a1,a2,a3,a4,a5,a6,a7,a8,a9,()) zJ,()):=by
 have hx:=uh r8;unfold g66 only
 cases h:mD (a0,a1,a2,a3,a4,a5,a6,a7,a8,a9,()) with
 | false=>rfl
 | true=>
  simp only [Bool.not_true,Bool.not_false,aQ,gt_iff_lt,Bool.true_and]
  by_cases h1:zJ<0
  ·have BA:¬ 0≤zJ:=by omega
   simp [Bt.has,h1,BA,zp]
  ·by_cases h2:63<zJ
   ·have Iq:¬ zJ<64:=by omega
    simp [Bt.has,h1,h2,Iq,zp]
   ·obtain ⟨k,rfl⟩:∃ k:Nat,zJ=(k:Int):=⟨zJ.toNat,by omega⟩
    have hk:k<64:=by omega
    have hp:=aqA hk;have e2:IntKind.wrap .u64 ((2:Int) ^ k)=2 ^ k:=wu64 hp.1 hp.2;have hh:Bt.has a8 (k:Int)=Bt.tb a8 k:=akT hk
    simp only [h1,h2,decide_false,Bool.not_false,aQ,show (0:Int)≤(k:Int) by omega,decide_true,jd,show min k 64=k by omega,pow2,afw hx,Int.one_mul,e2,bt,hh]
    cases hc:Bt.tb a8 k with
    | true=>
     have hb:Bt.ajk (k:Int)=2 ^ k:=by
      unfold Bt.ajk;rw [d9 h1,d9 h2];rfl
     simp only [hb];rfl
    | false=>rfl
end Go.dw.rO
namespace aA
open Go Go.dw
inductive Grow (root:Int):List Hp→Prop
 | nil:Grow root []
 | cons {h:Hp} {l:List Hp} (hl:Grow root l) (hf:h.1∈root::l.map (fun x=>x.2.1)) (ht:h.2.1 ∉ root::l.map (fun x=>x.2.1)):Grow root (h::l)
abbrev kr (root:Int) (l:List Hp):List Int:=root::l.map (fun x=>x.2.1)
theorem Grow.nodup {root:Int} {l:List Hp} (h:Grow root l):(kr root l).Nodup:=by
 induction h with
 | nil=>simp [kr]
 | cons hl hf ht ih=>
  simp only [kr,jy,List.nodup_cons,List.mem_cons,not_or] at ih ht ⊢
  exact ⟨⟨fun e=>ht.1 e.symm,ih.1⟩,ht.2,ih.2⟩
theorem aci {root:Int} {h:Hp} {l:List Hp} {y:Int} (hy:y∈kr root l):y∈kr root (h::l):=by
 simp only [kr,jy,List.mem_cons] at hy ⊢
 rcases hy with h | h
 ·exact .inl h
 ·exact .inr (.inr h)
theorem Grow.froms {root:Int} {l:List Hp} (h:Grow root l):∀ x∈l,x.1∈kr root l:=by
 induction h with
 | nil=>intro x hx;cases hx
 | cons hl hf ht ih=>
  intro x hx
  rcases lC hx with rfl | hx
  ·exact aci hf
  ·exact aci (ih x hx)
theorem afx {l:List Int} (hn:l.Nodup) {x:Int} (hx:x∈l) (f:Int→Int) (d:Int):(l.map fun u=>if u=x then f u+d else f u).sum=(l.map f).sum+d:=by
 induction l with
 | nil=>cases hx
 | cons y r ih=>
  obtain ⟨h1,h2⟩:=List.nodup_cons.1 hn;simp only [jy,List.sum_cons]
  by_cases hy:y=x
  ·subst hy
   have:(r.map fun u=>if u=y then f u+d else f u)=r.map f:=List.map_congr_left fun u hu=>by
    rw [if_neg (fun e:u=y=>h1 (e▸hu))]
   rw [this,if_pos rfl];omega
  ·rw [if_neg hy,ih h2 ((lC hx).resolve_left fun e=>hy e.symm)];omega
structure Low (l:List Ar) (ts:List Int) (av:Nat→Int→Int) (N:Nat):Prop where
 nn:∀ S r,0≤av S r
 arc:∀ S,0<S→S<N→∀ a∈l,av S a.1.1≤a.2.1+av S a.1.2.1
 join:∀ P Q r,0<P→0<Q→P &&& Q=0→P ||| Q<N→av (P ||| Q) r≤av P r+av Q r
 base:∀ i,i<ts.length→av (2 ^ i) (ts.getD i 0)≤0
abbrev okA (av:Nat→Int→Int) (A:Int→Nat) (c:Int→Int) (u:Int):Prop:=0≤c u∧(0<A u→av (A u) u≤c u)
abbrev iH (w:Hp→Int) (l:List Hp):Int:=(l.map w).sum
theorem agZ {a b N:Nat} (h:a ||| b<N):a<N∧b<N:=⟨Nat.lt_of_le_of_lt Nat.left_le_or h,Nat.lt_of_le_of_lt Nat.right_le_or h⟩
theorem Hz {a b:Nat} (h:∀ i,a.testBit i=true→b.testBit i=true):a≤b:=by
 have:a ||| b=b:=Nat.eq_of_testBit_eq fun i=>by
  rw [Nat.testBit_or]
  cases ha:a.testBit i with
  | true=>rw [h i ha];rfl
  | false=>rfl
 rw [←this];exact Nat.left_le_or
theorem Low.grow {l:List Ar} {ts:List Int} {av:Nat→Int→Int} {N:Nat} (hL:Low l ts av N) {root:Int} {w:Hp→Int}:∀ {L:List Hp},Grow root L→(∀ h∈L,∃ a∈l,a.1=h∧a.2.1=w h)→(∀ h∈L,0≤w h) →
 ∀ (A:Int→Nat) (c:Int→Int) (U:Nat),(∀ u∈kr root L,okA av A c u)→(∀ u∈kr root L,∀ v∈kr root L,u≠v→A u &&& A v=0) →
  (∀ i,U.testBit i=true↔∃ u∈kr root L,(A u).testBit i=true)→0<U→U<N→av U root≤((kr root L).map c).sum+iH w L:=by
 intro L hG
 induction hG with
 | nil=>
  intro _ _ A c U hA _ hU h0 hN
  have e:U=A root:=Nat.eq_of_testBit_eq fun i=>by
   have:=hU i;simp only [kr,List.map_nil,List.mem_singleton,exists_eq_left] at this
   cases h1:U.testBit i<;>cases h2:(A root).testBit i<;>simp [h1,h2] at this<;>rfl
  subst e
  have:=(hA root (by simp)).2 h0
  simpa [kr,iH] using this
 | @cons h L hG hf ht ih=>
  intro hw O5 A c U hA hd hU h0 hN
  have lG:∀ u,u∈kr root (h::L)↔u=h.2.1∨u∈kr root L:=fun u=>by
   simp only [kr,jy,List.mem_cons];constructor
   ·rintro (h | h | h)
    ·exact .inr (.inl h)
    ·exact .inl h
    ·exact .inr (.inr h)
   ·rintro (h | h | h)
    ·exact .inr (.inl h)
    ·exact .inl h
    ·exact .inr (.inr h)
  have hto:h.2.1∈kr root (h::L):=(lG _).2 (.inl rfl)
  have up:∀ {u},u∈kr root L→u∈kr root (h::L):=fun hu=>(lG _).2 (.inr hu)
  have hft:h.1≠h.2.1:=fun e=>ht (e▸hf)
  have ne:∀ {u},u∈kr root L→u≠h.2.1:=fun hu e=>ht (e▸hu)
  have Od:=O5 h (by simp)
  obtain ⟨a,ha,e1,e2⟩:=hw h (by simp)
  have ot:=hA _ hto;have of':=hA _ (up hf)
  have lt:∀ {u},u∈kr root (h::L)→A u≤U:=fun {u} hu=>Hz fun i hi=>(hU i).2 ⟨u,hu,hi⟩
  have key:=ih (fun x hx=>hw x (kE _ hx)) (fun x hx=>O5 x (kE _ hx)) (fun u=>if u=h.1 then A u ||| A h.2.1 else A u) (fun u=>if u=h.1 then c u+(c h.2.1+w h) else c u) U ?_ ?_ ?_ h0 hN
  ·have hs:=afx hG.nodup hf c (c h.2.1+w h)
   have e3:((kr root (h::L)).map c).sum=((kr root L).map c).sum+c h.2.1:=by
    simp only [kr,jy,List.sum_cons];omega
   have e4:iH w (h::L)=w h+iH w L:=by simp [iH]
   rw [e3,e4]
   have key:av U root≤((kr root L).map fun u=>if u=h.1 then c u+(c h.2.1+w h) else c u).sum+iH w L:=key
   rw [hs] at key;omega
  ·intro u hu
   simp only [okA]
   by_cases hx:u=h.1
   ·subst hx
    rw [if_pos rfl,if_pos rfl]
    refine ⟨by have:=of'.1;have:=ot.1;omega,fun hp=>?_⟩
    have aqB:A h.1 ||| A h.2.1<N:=Nat.lt_of_le_of_lt (Hz fun i hi=>by
     rw [Nat.testBit_or,Bool.or_eq_true] at hi
     rcases hi with hi | hi
     ·exact (hU i).2 ⟨_,up hf,hi⟩
     ·exact (hU i).2 ⟨_,hto,hi⟩) hN
    have acj:0<A h.2.1→av (A h.2.1) h.1≤w h+c h.2.1:=fun hp2=>by
     have:=hL.arc (A h.2.1) hp2 (agZ aqB).2 a ha;rw [e1,e2] at this;have:=ot.2 hp2;omega
    have c1:=of'.1;have c2:=ot.1
    rcases Nat.eq_zero_or_pos (A h.1) with z1 | z1
    ·rcases Nat.eq_zero_or_pos (A h.2.1) with z2 | z2
     ·rw [z1,z2] at hp;exact absurd hp (by decide)
     ·rw [z1,Nat.zero_or]
      have:=acj z2;omega
    ·rcases Nat.eq_zero_or_pos (A h.2.1) with z2 | z2
     ·rw [z2,Nat.or_zero]
      have:=of'.2 z1;omega
     ·have j:=hL.join (A h.1) (A h.2.1) h.1 z1 z2 (hd _ (up hf) _ hto hft) aqB
      have:=acj z2;have:=of'.2 z1;omega
   ·rw [if_neg hx,if_neg hx]
    exact hA u (up hu)
  ·intro u hu v hv huv
   by_cases hx:u=h.1
   ·subst hx
    rw [if_pos rfl,if_neg (fun e=>huv e.symm)]
    rw [Nat.and_comm,Nat.and_or_distrib_left,hd v (up hv) _ (up hf) (fun e=>huv e.symm),hd v (up hv) _ hto (ne hv)]
    rfl
   ·rw [if_neg hx]
    by_cases hy:v=h.1
    ·subst hy
     rw [if_pos rfl,Nat.and_or_distrib_left,hd u (up hu) _ (up hf) huv,hd u (up hu) _ hto (ne hu)];rfl
    ·rw [if_neg hy]
     exact hd u (up hu) v (up hv) huv
  ·intro i
   rw [hU i];constructor
   ·rintro ⟨u,hu,hi⟩
    rcases (lG u).1 hu with rfl | hu
    ·exact ⟨h.1,hf,by rw [if_pos rfl,Nat.testBit_or,hi,Bool.or_true]⟩
    ·refine ⟨u,hu,?_⟩
     by_cases hx:u=h.1
     ·rw [if_pos hx,Nat.testBit_or,hi,Bool.true_or]
     ·rw [if_neg hx];exact hi
   ·rintro ⟨u,hu,hi⟩
    by_cases hx:u=h.1
    ·rw [if_pos hx,Nat.testBit_or,Bool.or_eq_true] at hi
     rcases hi with hi | hi
     ·exact ⟨u,up hu,hi⟩
     ·exact ⟨_,hto,hi⟩
    ·rw [if_neg hx] at hi
     exact ⟨u,up hu,hi⟩
theorem Bo (i j:Nat):(2 ^ i).testBit j=decide (i=j):=Nat.testBit_two_pow
theorem Qb (k i:Nat):(2 ^ k - 1).testBit i=decide (i<k):=Nat.testBit_two_pow_sub_one k i
theorem Low.tree {l:List Ar} {ts:List Int} {av:Nat→Int→Int} (hL:Low l ts av (2 ^ ts.length)) {root:Int} {w:Hp→Int} {L:List Hp} (hG:Grow root L) (hw:∀ h∈L,∃ a∈l,a.1=h∧a.2.1=w h) (O5:∀ h∈L,0≤w h)
 (hn:ts.Nodup) (h0:0<ts.length) (ht:∀ x∈ts,x∈kr root L):av (2 ^ ts.length - 1) root≤iH w L:=by
 have h2:2≤2 ^ ts.length:=Nat.le_self_pow (by omega) 2
 have key:=hL.grow hG hw O5 (fun u=>if u∈ts then 2 ^ ts.idxOf u else 0) (fun _=>0) (2 ^ ts.length - 1) (fun u hu=>⟨Int.le_refl _,fun hp=>?_⟩) (fun u hu v hv huv=>?_) (fun i=>?_) (by omega) (by omega)
 ·have e:((kr root L).map fun _=>(0:Int)).sum=0:=by
   generalize kr root L=m
   induction m with
   | nil=>rfl
   | cons x r ih=>simp only [jy,List.sum_cons,ih];rfl
  rw [e] at key;omega
 ·by_cases hx:u∈ts
  ·simp only [if_pos hx]
   have aT:=List.idxOf_lt_length_of_mem hx;have:=hL.base (ts.idxOf u) aT;rw [iW,iw aT] at this
   simpa using this
  ·simp only [if_neg hx] at hp
   exact absurd hp (by decide)
 ·by_cases hx:u∈ts
  ·by_cases hy:v∈ts
   ·simp only [if_pos hx,if_pos hy]
    refine Nat.eq_of_testBit_eq fun i=>?_
    rw [Nat.testBit_and,Bo,Bo,Nat.zero_testBit]
    by_cases h1:ts.idxOf u=i
    ·by_cases h3:ts.idxOf v=i
     ·exfalso
      apply huv;have q1:=List.getElem_idxOf (List.idxOf_lt_length_of_mem hx);have q2:=List.getElem_idxOf (List.idxOf_lt_length_of_mem hy);rw [←q1,←q2]
      congr 1
      rw [h1,h3]
     ·simp [h3]
    ·simp [h1]
   ·simp only [if_neg hy,Nat.and_zero]
  ·simp only [if_neg hx,Nat.zero_and]
 ·rw [Qb]
  constructor
  ·intro h
   have hi:i<ts.length:=vP h;refine ⟨ts[i],ht _ (zG hi),?_⟩;simp only [if_pos (zG hi)];rw [Bo];exact bL (hn.idxOf_getElem i hi)
  ·rintro ⟨u,hu,h⟩
   by_cases hx:u∈ts
   ·simp only [if_pos hx,Bo] at h
    rw [←vP h];exact bL (List.idxOf_lt_length_of_mem hx)
   ·simp only [if_neg hx,Nat.zero_testBit] at h
    cases h
theorem Qc {l l':List Int} (h:l.Perm l'):l.sum=l'.sum:=by
 induction h with
 | nil=>rfl
 | cons x _ ih=>simp only [List.sum_cons,ih]
 | swap x y l=>simp only [List.sum_cons];omega
 | trans _ _ h1 h2=>exact h1.trans h2
theorem MU {w:Hp→Int}:∀ {G L:List Hp},G.Nodup→(∀ x∈G,x∈L)→(∀ x∈L,1≤w x)→iH w G≤iH w L∧(iH w L≤iH w G→L.Perm G)
 | [],L,_,_,hw=>by
  have:0≤iH w L∧(iH w L≤0→L=[]):=by
   induction L with
   | nil=>exact ⟨Int.le_refl _,fun _=>rfl⟩
   | cons x r ih=>
    have h1:=hw x (by simp)
    have h2:=(ih (fun _ h=>by cases h) fun y hy=>hw y (kE _ hy)).1
    have e:iH w (x::r)=w x+iH w r:=by simp [iH]
    exact ⟨by omega,fun h=>by omega⟩
  exact ⟨this.1,fun h=>by rw [this.2 h]⟩
 | g::G,L,hn,hs,hw=>by
  obtain ⟨n1,n2⟩:=List.nodup_cons.1 hn
  have hp:L.Perm (g::L.erase g):=List.perm_cons_erase (hs g (by simp))
  have e:iH w L=w g+iH w (L.erase g):=by
   have:=Qc (hp.map w)
   simpa [iH] using this
  obtain ⟨k1,k2⟩:=MU (w:=w) (G:=G) (L:=L.erase g) n2 (fun x hx=>(List.mem_erase_of_ne (fun h:x=g=>n1 (by rw [←h];exact hx))).2 (hs x (kE _ hx))) fun x hx=>hw x (List.mem_of_mem_erase hx)
  have e2:iH w (g::G)=w g+iH w G:=by simp [iH]
  exact ⟨by omega,fun h=>hp.trans (List.Perm.cons g (k2 (by omega)))⟩
inductive Bp (r:Int) (L:List Hp):Int→Prop
 | root:Bp r L r
 | aY {h:Hp} (hh:h∈L) (hf:Bp r L h.1):Bp r L h.2.1
theorem Bp.mono {r:Int} {L L':List Hp} (hs:∀ x∈L,x∈L') {u:Int} (h:Bp r L u):Bp r L' u:=by
 induction h with
 | root=>exact .root
 | aY hh _ ih=>exact .aY (hs _ hh) ih
theorem Bp.trans {r x:Int} {L:List Hp} (hx:Bp r L x) {u:Int} (h:Bp x L u):Bp r L u:=by
 induction h with
 | root=>exact hx
 | aY hh _ ih=>exact .aY hh ih
theorem Qd (r:Int) (L:List Hp):∃ G,Grow r G∧(∀ h∈G,h∈L)∧∀ h∈L,h.1∈kr r G→h.2.1∈kr r G:=by
 have key:∀ n G,Grow r G→(∀ h∈G,h∈L)→(L.filter fun h=>decide (h.2.1 ∉ kr r G)).length≤n→∃ G,Grow r G∧(∀ h∈G,h∈L)∧∀ h∈L,h.1∈kr r G→h.2.1∈kr r G:=by
  intro n
  induction n with
  | zero=>
   intro G h1 h2 h3
   refine ⟨G,h1,h2,fun h hh _=>?_⟩
   refine Classical.byContradiction fun hc=>?_
   have:h∈L.filter fun h=>decide (h.2.1 ∉ kr r G):=List.mem_filter.2 ⟨hh,bL hc⟩
   rw [List.length_eq_zero_iff.1 (Nat.le_zero.1 h3)] at this;cases this
  | succ n ih=>
   intro G h1 h2 h3
   by_cases hc:∀ h∈L,h.1∈kr r G→h.2.1∈kr r G
   ·exact ⟨G,h1,h2,hc⟩
   ·simp only [Classical.not_forall] at hc
    obtain ⟨h,hh,hf,ht⟩:=hc
    refine ih (h::G) (.cons h1 hf ht) (fun x hx=>?_) ?_
    ·rcases lC hx with rfl | hx
     ·exact hh
     ·exact h2 x hx
    ·have hm:h∈L.filter fun h=>decide (h.2.1 ∉ kr r G):=List.mem_filter.2 ⟨hh,bL ht⟩
     have lF:(L.filter fun x=>decide (x.2.1 ∉ kr r (h::G)))=(L.filter fun h=>decide (h.2.1 ∉ kr r G)).filter fun x=>decide (x.2.1≠h.2.1):=by
      rw [List.filter_filter]
      refine List.filter_congr fun x _=>?_
      rw [←Bool.decide_and,decide_eq_decide];simp only [kr,jy,List.mem_cons,not_or,ne_eq];constructor
      ·rintro ⟨a,b,c⟩;exact ⟨b,a,c⟩
      ·rintro ⟨b,a,c⟩;exact ⟨a,b,c⟩
     rw [lF]
     have:((L.filter fun h=>decide (h.2.1 ∉ kr r G)).filter fun x=>decide (x.2.1≠h.2.1)).length<(L.filter fun h=>decide (h.2.1 ∉ kr r G)).length:=by
      refine List.length_filter_lt_length_iff_exists.2 ⟨h,hm,?_⟩;simp
     omega
 exact key _ [] .nil (fun h hh=>by cases hh) (bT _)
theorem Bp.kr {r:Int} {L G:List Hp} (hc:∀ h∈L,h.1∈kr r G→h.2.1∈kr r G) {u:Int} (h:Bp r L u):u∈kr r G:=by
 induction h with
 | root=>simp
 | aY hh _ ih=>exact hc _ hh ih
def OkS (l:List Ar) (ts:List Int) (T:List SB) (S:Nat) (t:SB) (r c:Int) (x:Se):Prop:=
 (x.1≠0∧∃ a∈l,a.1.1=r∧a.1.2.1=x.1∧∃ c',t.1 x.1=some c'∧a.2.1+c'≤c) ∨
 (x.1=0∧∃ p:Nat,x.2.1=(p:Int)∧p∈pE S∧∃ c1 c2,(T.getD p zB).1 r=some c1∧(T.getD (S - p) zB).1 r=some c2∧c=c1+c2) ∨
 (x.1=0∧x.2.1=0∧c=0∧∃ i,i<ts.length∧S=2 ^ i∧ts.getD i 0=r)
def jN (l:List Ar) (ts:List Int) (T:List SB) (S:Nat) (t:SB):Prop:=∀ r c,t.1 r=some c→0≤c∧c<wR∧∃ x,t.2 r=some x∧OkS l ts T S t r c x
def oh (t t':SB):Prop:=∀ r c,t.1 r=some c→∃ c',t'.1 r=some c'∧c'≤c
theorem oh.refl (t:SB):oh t t:=fun r c h=>⟨c,h,Int.le_refl _⟩
theorem oh.trans {a b c:SB} (h:oh a b) (k:oh b c):oh a c:=fun r x hx=>by
 obtain ⟨y,hy,h1⟩:=h r x hx;obtain ⟨z,hz,h2⟩:=k r y hy;exact ⟨z,hz,Int.le_trans h2 h1⟩
theorem MV:(0:Int)<wR:=by decide
section
variable {l:List Ar} {ts:List Int} {T:List SB} {S:Nat}
theorem jN.bd {t:SB} (h:jN l ts T S t) (r:Int):0≤eD t r∧eD t r≤wR:=by
 unfold eD
 cases e:t.1 r with
 | none=>exact ⟨Int.le_of_lt MV,Int.le_refl _⟩
 | some c=>obtain ⟨h1,h2,-⟩:=h r c e;exact ⟨h1,Int.le_of_lt h2⟩
theorem jN.lt {t:SB} {r:Int} (h:eD t r<wR):∃ c,t.1 r=some c∧eD t r=c:=by
 unfold eD at h ⊢
 cases e:t.1 r with
 | none=>rw [e] at h;exact absurd h (by simp)
 | some c=>exact ⟨c,rfl,rfl⟩
theorem oh.at {t t':SB} (h:oh t t') (h':jN l ts T S t') (r:Int):eD t' r≤eD t r:=by
 cases e:t.1 r with
 | none=>
  have:eD t r=wR:=by unfold eD;rw [e];rfl
  rw [this];exact (h'.bd r).2
 | some c=>
  obtain ⟨c',h1,h2⟩:=h r c e;unfold eD;rw [e,h1];exact h2
theorem jN.step {t t':SB} (h:jN l ts T S t) (hm:oh t t') (hs:∀ r,(t'.1 r=t.1 r∧t'.2 r=t.2 r)∨∃ c x,t'.1 r=some c∧t'.2 r=some x∧0≤c∧c<wR∧OkS l ts T S t' r c x):jN l ts T S t':=by
 intro r c hc
 rcases hs r with ⟨h1,h2⟩ | ⟨c',x,h1,h2,h3,h4,h5⟩
 ·rw [h1] at hc
  obtain ⟨k1,k2,x,k3,k4⟩:=h r c hc
  refine ⟨k1,k2,x,by rw [h2];exact k3,?_⟩
  rcases k4 with ⟨q0,a,qa,q1,q2,c',q3,q4⟩ | q | q
  ·obtain ⟨c'',q5,q6⟩:=hm _ _ q3
   exact .inl ⟨q0,a,qa,q1,q2,c'',q5,by omega⟩
  ·exact .inr (.inl q)
  ·exact .inr (.inr q)
 ·rw [h1] at hc
  cases hc;exact ⟨h3,h4,x,h2,h5⟩
theorem oF {α:Type} (f:Int→Option α) (r:Int) (v:α):rT f r v r=some v:=by simp [rT]
theorem ET {α:Type} (f:Int→Option α) {r x:Int} (v:α) (h:x≠r):rT f r v x=f x:=by simp [rT,h]
theorem KI {t:SB} {r v:Int} {x:Se} (h:nV t r v=false):jo t r v x=t:=by simp [jo,h]
theorem Bq {t:SB} {r v:Int} {x:Se} (h:nV t r v=true):jo t r v x=(rT t.1 r v,rT t.2 r x):=by simp [jo,h]
theorem Br (t:SB) (r v:Int) (x:Se):oh t (jo t r v x):=by
 cases h:nV t r v with
 | false=>rw [KI h];exact oh.refl t
 | true=>
  rw [Bq h];intro q c hc
  by_cases e:q=r
  ·subst e
   refine ⟨v,oF _ _ _,?_⟩;have:v<eD t q:=vP h;unfold eD at this;rw [hc] at this;exact Int.le_of_lt this
  ·exact ⟨c,by rw [←hc];exact ET _ _ e,Int.le_refl _⟩
theorem Vu {t:SB} (h:jN l ts T S t) {r v:Int} {x:Se} (hv:0≤v) (hx:nV t r v=true→OkS l ts T S (jo t r v x) r v x):jN l ts T S (jo t r v x):=by
 cases hb:nV t r v with
 | false=>rw [KI hb];exact h
 | true=>
  refine h.step (Br t r v x) fun q=>?_
  by_cases e:q=r
  ·subst e
   have aT:v<wR:=Int.lt_of_lt_of_le (vP hb) (h.bd q).2
   exact .inr ⟨v,x,by rw [Bq hb];exact oF _ _ _,by rw [Bq hb];exact oF _ _ _,hv,aT,hx hb⟩
  ·exact .inl ⟨by rw [Bq hb];exact ET _ _ e,by rw [Bq hb];exact ET _ _ e⟩
theorem acn {t:SB} {r v:Int} {x:Se} (h:jN l ts T S (jo t r v x)):eD (jo t r v x) r≤v:=by
 cases hb:nV t r v with
 | false=>
  rw [KI hb];have:¬ v<eD t r:=of_decide_eq_false hb;omega
 | true=>
  rw [Bq hb];unfold eD;show (rT t.1 r v r).getD wR≤v;rw [oF];exact Int.le_refl _
end
theorem Tv {f g:Nat→Nat}:∀ (l:List Nat),(∀ i∈l,f i≤g i)→(l.map f).sum≤(l.map g).sum
 | [],_=>bT _
 | x::r,h=>by
  have h1:=h x (by simp)
  have h2:=Tv r fun i hi=>h i (kE _ hi)
  simp only [jy,List.sum_cons];omega
theorem sum_lt {f g:Nat→Nat}:∀ (l:List Nat),(∀ i∈l,f i≤g i)→(∃ i∈l,f i<g i)→(l.map f).sum<(l.map g).sum
 | [],_,h=>by obtain ⟨i,hi,_⟩:=h;cases hi
 | x::r,h,⟨i,hi,aT⟩=>by
  have h1:=h x (by simp)
  have h2:=Tv r fun i hi=>h i (kE _ hi)
  simp only [jy,List.sum_cons]
  rcases lC hi with rfl | hi
  ·omega
  ·have:=sum_lt r (fun i hi=>h i (kE _ hi)) ⟨i,hi,aT⟩
   omega
def mea (t:SB):Nat:=((List.range 100).map fun i:Nat=>(eD t (i:Int)).toNat).sum
abbrev OkL (l:List Ar):Prop:=∀ a∈l,1≤a.1.1∧a.1.1≤99∧1≤a.1.2.1∧a.1.2.1≤99∧1≤a.2.1
section
variable {l:List Ar} {ts:List Int} {T:List SB} {S:Nat}
theorem acp {t t':SB} (h:jN l ts T S t) (hm:oh t t') (h':jN l ts T S t'):mea t'≤mea t:=Tv _ fun i _=>by
 have:=hm.at h' (i:Int);have:=(h'.bd (i:Int)).1;omega
theorem akW {t:SB} (h:jN l ts T S t) {r v:Int} {x:Se} (h':jN l ts T S (jo t r v x)) (hr:1≤r∧r≤99) (hb:nV t r v=true):mea (jo t r v x)<mea t:=sum_lt _ (fun i _=>by
 have:=(Br t r v x).at h' (i:Int)
 omega) ⟨r.toNat,by simp;omega,by
 have e:((r.toNat:Nat):Int)=r:=by omega
 rw [e];have h1:=acn h';have h2:v<eD t r:=vP hb;have h3:=(h'.bd r).1
 omega⟩
theorem afy (hl:OkL l) {s:SB×Bool} (h:jN l ts T S s.1) {a:Ar} (ha:a∈l):jN l ts T S (kH s a).1∧oh s.1 (kH s a).1∧((kH s a).2=true→s.2=true∨mea (kH s a).1<mea s.1) ∧
 ((kH s a).2=false→(kH s a).1=s.1∧s.2=false∧eD s.1 a.1.1≤a.2.1+eD s.1 a.1.2.1):=by
 obtain ⟨q1,q2,q3,q4,q5⟩:=hl a ha;have hb:=h.bd a.1.2.1
 have hi:jN l ts T S (kH s a).1:=Vu h (by omega) fun ht=>by
  have aT:a.2.1+eD s.1 a.1.2.1<eD s.1 a.1.1:=vP ht;have ku:=h.bd a.1.1
  obtain ⟨c',e1,e2⟩:=jN.lt (t:=s.1) (r:=a.1.2.1) (by omega)
  refine .inl ⟨by show a.1.2.1≠0;omega,a,ha,rfl,rfl,c',?_,by omega⟩
  rw [Bq ht];show rT s.1.1 a.1.1 _ a.1.2.1=some c'
  rw [ET _ _ (fun e=>by rw [e] at aT;omega)]
  exact e1
 refine ⟨hi,Br _ _ _ _,fun h2=>?_,fun h2=>?_⟩
 ·simp only [kH,Bool.or_eq_true] at h2
  rcases h2 with h2 | h2
  ·exact .inl h2
  ·exact .inr (akW h hi ⟨q1,q2⟩ h2)
 ·simp only [kH,Bool.or_eq_false_iff] at h2
  refine ⟨KI h2.2,h2.1,?_⟩;have:¬ (a.2.1+eD s.1 a.1.2.1<eD s.1 a.1.1):=of_decide_eq_false h2.2;omega
theorem Vv (hl:OkL l):∀ (m:List Ar) (s:SB×Bool),(∀ a∈m,a∈l)→jN l ts T S s.1→jN l ts T S (m.foldl kH s).1∧oh s.1 (m.foldl kH s).1∧((m.foldl kH s).2=true→s.2=true∨mea (m.foldl kH s).1<mea s.1) ∧
 ((m.foldl kH s).2=false→(m.foldl kH s).1=s.1∧s.2=false∧∀ a∈m,eD s.1 a.1.1≤a.2.1+eD s.1 a.1.2.1)
 | [],s,_,h=>⟨h,oh.refl _,fun h=>.inl h,fun h=>⟨rfl,h,fun a ha=>by cases ha⟩⟩
 | a::m,s,hm,h=>by
  obtain ⟨k1,k2,k3,k4⟩:=afy hl h (hm a (by simp))
  obtain ⟨j1,j2,j3,j4⟩:=Vv hl m (kH s a) (fun x hx=>hm x (kE _ hx)) k1
  refine ⟨j1,k2.trans j2,fun h2=>?_,fun h2=>?_⟩
  ·have aFX:=acp k1 j2 j1
   have aFY:=acp h k2 k1;show s.2=true∨mea (m.foldl kH (kH s a)).1<mea s.1
   rcases j3 h2 with h3 | h3
   ·rcases k3 h3 with h4 | h4
    ·exact .inl h4
    ·exact .inr (by omega)
   ·exact .inr (by omega)
  ·obtain ⟨e1,e2,e3⟩:=j4 h2
   obtain ⟨f1,f2,f3⟩:=k4 e2;rw [f1] at e1 e3
   refine ⟨e1,f2,fun x hx=>?_⟩
   rcases lC hx with rfl | hx
   ·exact f3
   ·exact e3 x hx
theorem akX (hl:OkL l) {t:SB} (h:jN l ts T S t):∃ e,rlx l t=some e∧jN l ts T S e∧oh t e∧∀ a∈l,eD e a.1.1≤a.2.1+eD e a.1.2.1:=by
 refine Xf (fun v=>jN l ts T S v∧oh t v) mea (fun e=>jN l ts T S e∧oh t e∧∀ a∈l,eD e a.1.1≤a.2.1+eD e a.1.2.1) ?_ (v:=t) ⟨h,oh.refl _⟩
 rintro v ⟨h1,h2⟩
 obtain ⟨k1,k2,k3,k4⟩:=Vv hl l (v,false) (fun a ha=>ha) h1
 unfold kR
 cases hb:(l.foldl kH (v,false)).2 with
 | true=>
  right
  exact ⟨_,rfl,⟨k1,h2.trans k2⟩,(k3 hb).resolve_left (by simp)⟩
 | false=>
  left
  obtain ⟨e1,_,e3⟩:=k4 hb
  exact ⟨_,rfl,by rw [e1];exact h1,by rw [e1];exact h2,by rw [e1];exact e3⟩
abbrev TOk (T:List SB):Prop:=∀ p r c,(T.getD p zB).1 r=some c→0≤c∧c<wR
theorem TOk.nn {T:List SB} (h:TOk T) (p:Nat) (r:Int):0≤eD (T.getD p zB) r:=by
 unfold eD
 cases e:(T.getD p zB).1 r with
 | none=>exact Int.le_of_lt MV
 | some c=>exact (h p r c e).1
theorem MW (T:List SB) (S:Nat) (t:SB) (p:Nat) (r:Int):(((dZ T S t p).1 r=t.1 r∧(dZ T S t p).2 r=t.2 r)∧(∀ c,(T.getD p zB).1 r=some c→nV t r (c+eD (T.getD (S - p) zB) r)=false)) ∨
 ∃ c,(T.getD p zB).1 r=some c∧nV t r (c+eD (T.getD (S - p) zB) r)=true∧(dZ T S t p).1 r=some (c+eD (T.getD (S - p) zB) r)∧(dZ T S t p).2 r=some (0,(p:Int),()):=by
 cases e:(T.getD p zB).1 r with
 | none=>
  left
  refine ⟨⟨?_,?_⟩,fun c hc=>by cases hc⟩
  ·simp only [dZ,e]
  ·simp only [dZ,e]
 | some c=>
  cases hb:nV t r (c+eD (T.getD (S - p) zB) r) with
  | false=>
   left
   refine ⟨⟨?_,?_⟩,fun c' hc=>by cases hc;exact hb⟩
   ·simp only [dZ,e];rw [KI hb]
   ·simp only [dZ,e];rw [KI hb]
  | true=>
   right
   refine ⟨c,rfl,hb,?_,?_⟩
   ·simp only [dZ,e];rw [Bq hb];exact oF _ _ _
   ·simp only [dZ,e];rw [Bq hb];exact oF _ _ _
theorem KJ (T:List SB) (S:Nat) (t:SB) (p:Nat):oh t (dZ T S t p):=fun r c hc=>by
 rcases MW T S t p r with ⟨⟨h1,_⟩,_⟩ | ⟨c',h1,h2,h3,_⟩
 ·exact ⟨c,by rw [h1];exact hc,Int.le_refl _⟩
 ·refine ⟨_,h3,?_⟩
  have:c' + eD (T.getD (S - p) zB) r<eD t r:=vP h2
  have e:eD t r=c:=by unfold eD;rw [hc];rfl
  omega
theorem afz (hT:TOk T) {t:SB} (h:jN l ts T S t) {p:Nat} (hp:p∈pE S):jN l ts T S (dZ T S t p)∧∀ r,eD (dZ T S t p) r≤eD (T.getD p zB) r+eD (T.getD (S - p) zB) r:=by
 have hi:jN l ts T S (dZ T S t p):=h.step (KJ T S t p) fun r=>by
  rcases MW T S t p r with ⟨h1,_⟩ | ⟨c,h1,h2,h3,h4⟩
  ·exact .inl h1
  ·have aT:c+eD (T.getD (S - p) zB) r<eD t r:=vP h2
   have hb:=h.bd r;have hc:=(hT p r c h1).1;have hn:=hT.nn (S - p) r
   obtain ⟨c2,e1,e2⟩:=jN.lt (t:=T.getD (S - p) zB) (r:=r) (by omega)
   exact .inr ⟨_,_,h3,h4,by omega,by omega,.inr (.inl ⟨rfl,p,rfl,hp,c,c2,h1,e1,by rw [e2]⟩)⟩
 refine ⟨hi,fun r=>?_⟩
 have hn:=hT.nn (S - p) r
 cases e:(T.getD p zB).1 r with
 | none=>
  have e1:eD (T.getD p zB) r=wR:=by unfold eD;rw [e];rfl
  have:=(hi.bd r).2;omega
 | some c=>
  have e1:eD (T.getD p zB) r=c:=by unfold eD;rw [e];rfl
  rw [e1]
  rcases MW T S t p r with ⟨⟨h1,_⟩,h2⟩ | ⟨c',h1,h2,h3,h4⟩
  ·have:¬ c+eD (T.getD (S - p) zB) r<eD t r:=of_decide_eq_false (h2 c e)
   have e2:eD (dZ T S t p) r=eD t r:=by unfold eD;rw [h1]
   omega
  ·rw [e] at h1
   cases h1
   have e2:eD (dZ T S t p) r=c+eD (T.getD (S - p) zB) r:=by
    show ((dZ T S t p).1 r).getD wR=_;rw [h3];rfl
   omega
theorem Qf (hT:TOk T):∀ (m:List Nat) (t:SB),(∀ p∈m,p∈pE S)→jN l ts T S t→jN l ts T S (m.foldl (dZ T S) t)∧oh t (m.foldl (dZ T S) t)∧∀ p∈m,∀ r,eD (m.foldl (dZ T S) t) r≤eD (T.getD p zB) r+eD (T.getD (S - p) zB) r
 | [],t,_,h=>⟨h,oh.refl _,fun p hp=>by cases hp⟩
 | p::m,t,hm,h=>by
  obtain ⟨k1,k2⟩:=afz hT h (hm p (by simp))
  obtain ⟨j1,j2,j3⟩:=Qf hT m (dZ T S t p) (fun x hx=>hm x (kE _ hx)) k1
  refine ⟨j1,(KJ T S t p).trans j2,fun q hq r=>?_⟩
  rcases lC hq with rfl | hq
  ·exact Int.le_trans (j2.at j1 r) (k2 r)
  ·exact j3 q hq r
theorem HV:∀ (m:List Int) (i:Nat) (t:SB),m=ts.drop i→jN l ts T S t→jN l ts T S (kM S m i t)∧oh t (kM S m i t)∧∀ j,i≤j→j<ts.length→S=2 ^ j→eD (kM S m i t) (ts.getD j 0)≤0
 | [],i,t,hm,h=>⟨h,oh.refl _,fun j h1 h2 _=>by
  have:=congrArg List.length hm;simp at this
  omega⟩
 | x::m,i,t,hm,h=>by
  have hi:i<ts.length:=by
   have:=congrArg List.length hm;simp at this;omega
  rw [List.drop_eq_getElem_cons hi] at hm;obtain ⟨hx,hm⟩:=List.cons.inj hm
  have hg:ts.getD i 0=x:=by rw [iW,iw hi,hx];rfl
  simp only [kM]
  by_cases hs:S=2 ^ i
  ·rw [bL hs,aQ]
   have h1:jN l ts T S (jo t x 0 (0,0,())):=Vu h (Int.le_refl _) fun _=>.inr (.inr ⟨rfl,rfl,rfl,i,hi,hs,hg⟩)
   obtain ⟨k1,k2,k3⟩:=HV m (i+1) _ hm h1
   refine ⟨k1,(Br _ _ _ _).trans k2,fun j hj vQ hj3=>?_⟩
   rcases Nat.eq_or_lt_of_le hj with rfl | hj
   ·rw [hg]
    exact Int.le_trans (k2.at k1 x) (acn h1)
   ·exact k3 j hj vQ hj3
  ·rw [d9 hs,bJ]
   obtain ⟨k1,k2,k3⟩:=HV m (i+1) t hm h
   refine ⟨k1,k2,fun j hj vQ hj3=>?_⟩
   rcases Nat.eq_or_lt_of_le hj with rfl | hj
   ·exact absurd hj3 hs
   ·exact k3 j hj vQ hj3
theorem acr:jN l ts T S zB:=fun r c h=>by cases h
theorem aqC:∀ i,i<6→Nat.land (2 ^ i) (2 ^ i - 1)=0:=by decide
theorem afA (h6:ts.length≤6):jN l ts T S (qy ts S)∧∀ j,j<ts.length→S=2 ^ j→eD (qy ts S) (ts.getD j 0)≤0:=by
 unfold qy
 cases hb:decide (Nat.land S (S - 1)=0)&&decide (0<S) with
 | true=>
  obtain ⟨k1,_,k3⟩:=HV (l:=l) (ts:=ts) (T:=T) (S:=S) ts 0 zB rfl acr
  exact ⟨k1,fun j hj=>k3 j (mY _) hj⟩
 | false=>
  refine ⟨acr,fun j hj hS=>?_⟩
  exfalso;subst hS;rw [Bool.and_eq_false_iff] at hb
  rcases hb with hb | hb
  ·exact of_decide_eq_false hb (aqC j (by omega))
  ·exact of_decide_eq_false hb (Nat.two_pow_pos j)
end
structure Done (l:List Ar) (ts:List Int) (T:List SB) (S:Nat) (t:SB):Prop where
 inv:jN l ts T S t
 arc:∀ a∈l,eD t a.1.1≤a.2.1+eD t a.1.2.1
 join:∀ p∈pE S,∀ r,eD t r≤eD (T.getD p zB) r+eD (T.getD (S - p) zB) r
 base:∀ j,j<ts.length→S=2 ^ j→eD t (ts.getD j 0)≤0
theorem akY {l:List Ar} {ts:List Int} {T:List SB} {S:Nat} (hl:OkL l) (h6:ts.length≤6) (hT:TOk T):∃ t,Xm l ts T S=some t∧Done l ts T S t:=by
 obtain ⟨b1,b2⟩:=afA (l:=l) (T:=T) (S:=S) h6
 obtain ⟨p1,p2,p3⟩:=Qf (l:=l) (ts:=ts) hT (pE S) (qy ts S) (fun _ h=>h) b1
 obtain ⟨e,r1,r2,r3,r4⟩:=akX hl p1
 exact ⟨e,r1,r2,r4,fun p hp r=>Int.le_trans (r3.at r2 r) (p3 p hp r),fun j hj hS=>Int.le_trans (r3.at r2 _) (Int.le_trans (p2.at p1 _) (b2 j hj hS))⟩
theorem DT:∀ S,S<64→∀ p∈pE S,0<p∧p<S∧S - p<S∧0<S - p∧p ||| (S - p)=S:=by decide +kernel
theorem XZ:∀ P,P<64→∀ Q,Q<64→0<P→0<Q→P &&& Q=0→P∈pE (P ||| Q)∧(P ||| Q) - P=Q:=by
 have h:((List.range 64).all fun P=>(List.range 64).all fun Q=>!(decide (0<P)&&decide (0<Q)&&decide (P &&& Q=0)) || (decide (P∈pE (P ||| Q))&&decide ((P ||| Q) - P=Q)))=true:=by decide +kernel
 intro P hP Q hQ h1 h2 h3;have:=List.all_eq_true.1 (List.all_eq_true.1 h P (List.mem_range.2 hP)) Q (List.mem_range.2 hQ);rw [bL h1,bL h2,bL h3] at this
 simpa using this
theorem AO {T:List SB} {t:SB} {p:Nat} (h:p<T.length):(T++[t]).getD p zB=T.getD p zB:=by
 simp only [iW,List.getElem?_append_left h]
theorem Done.app {l:List Ar} {ts:List Int} {T:List SB} {S:Nat} {t x:SB} (hS:S<64) (hlen:S≤T.length) (h:Done l ts T S t):Done l ts (T++[x]) S t:=by
 have f:=DT S hS
 have e1:∀ p∈pE S,(T++[x]).getD p zB=T.getD p zB:=fun p hp=>AO (by have:=(f p hp).2.1;omega)
 have e2:∀ p∈pE S,(T++[x]).getD (S - p) zB=T.getD (S - p) zB:=fun p hp=>AO (by have:=(f p hp).2.2.1;omega)
 refine ⟨fun r c hc=>?_,h.arc,fun p hp r=>by rw [e1 p hp,e2 p hp];exact h.join p hp r,h.base⟩
 obtain ⟨k1,k2,y,k3,k4⟩:=h.inv r c hc;refine ⟨k1,k2,y,k3,?_⟩
 rcases k4 with q | ⟨q0,p,q1,q2,c1,c2,q3,q4,q5⟩ | q
 ·exact .inl q
 ·exact .inr (.inl ⟨q0,p,q1,q2,c1,c2,by rw [e1 p q2];exact q3,by rw [e2 p q2];exact q4,q5⟩)
 ·exact .inr (.inr q)
theorem Vw {l:List Ar} {ts:List Int} (hl:OkL l) (h6:ts.length≤6):∀ n,n≤64→∃ T,D8 l ts n=some T∧T.length=n∧∀ S,S<n→Done l ts T S (T.getD S zB)
 | 0,_=>⟨[],rfl,rfl,fun S h=>absurd h (Nat.not_lt_zero _)⟩
 | n+1,hn=>by
  obtain ⟨T,h1,h2,h3⟩:=Vw hl h6 n (by omega)
  have hT:TOk T:=fun p r c hc=>by
   by_cases hp:p<n
   ·obtain ⟨k1,k2,-⟩:=(h3 p hp).inv r c hc
    exact ⟨k1,k2⟩
   ·rw [UN (by omega)] at hc;cases hc
  obtain ⟨t,k1,k2⟩:=akY (S:=n) (ts:=ts) hl h6 hT
  refine ⟨T++[t],by simp only [D8,h1,qB,k1],by simp [h2],fun S hS=>?_⟩
  rcases Nat.lt_or_ge S n with h | h
  ·rw [AO (by omega)]
   exact (h3 S h).app (by omega) (by omega)
  ·obtain rfl:S=n:=by omega
   have:(T++[t]).getD S zB=t:=by simp [iW,List.getElem?_append_right,h2]
   rw [this]
   exact k2.app (by omega) (by omega)
theorem acs {l:List Ar} {ts:List Int} {T:List SB} (h6:ts.length≤6) (hlen:T.length=2 ^ ts.length) (h:∀ S,S<2 ^ ts.length→Done l ts T S (T.getD S zB)):Low l ts (fun S r=>eD (T.getD S zB) r) (2 ^ ts.length):=by
 have XW:2 ^ ts.length≤64:=Nat.pow_le_pow_right (by decide) h6
 refine ⟨fun S r=>?_,fun S _ hS a ha=>(h S hS).arc a ha,fun P Q r hP hQ h0 hN=>?_,fun i hi=>(h _ (Nat.pow_lt_pow_right (by decide) hi)).base i hi rfl⟩
 ·by_cases hS:S<2 ^ ts.length
  ·exact ((h S hS).inv.bd r).1
  ·rw [UN (by omega)];exact Int.le_of_lt MV
 ·obtain ⟨k1,k2⟩:=agZ hN
  obtain ⟨j1,j2⟩:=XZ P (by omega) Q (by omega) hP hQ h0
  have:=(h _ hN).join P j1 r;rw [j2] at this;exact this
open Go.Sort
theorem Qg {T:List SB} {f S:Nat} {r:Int} {x:Se} (hx:((T.getD S zB).2 r).getD (0,0,())=x) (h:x.1≠0):jM T (f+1) S r=(jM T f S x.1).bind fun l=>some ((r,x.1,())::l):=by
 simp only [jM,hx,d9 h,Bool.not_false,aQ]
theorem KL {T:List SB} {f S:Nat} {r:Int} {x:Se} (hx:((T.getD S zB).2 r).getD (0,0,())=x) (h:x.1=0) (h2:x.2.1≠0):jM T (f+1) S r=(jM T f x.2.1.toNat r).bind fun l=>(jM T f (S - x.2.1.toNat) r).bind fun l'=>some (l++l'):=by
 simp only [jM,hx,bL h,d9 h2,Bool.not_true,Bool.not_false,aQ,bJ]
theorem KM {T:List SB} {f S:Nat} {r:Int} {x:Se} (hx:((T.getD S zB).2 r).getD (0,0,())=x) (h:x.1=0) (h2:x.2.1=0):jM T (f+1) S r=some []:=by
 simp only [jM,hx,bL h,bL h2,Bool.not_true,bJ]
theorem mI {T:List SB}:∀ (f S:Nat) (r:Int) (L:List Hp),jM T f S r=some L→∀ g,f≤g→jM T g S r=some L
 | 0,_,_,_,h,_,_=>by cases h
 | f+1,S,r,L,h,g,hg=>by
  obtain ⟨g,rfl⟩:∃ g',g=g' + 1:=⟨g - 1,by omega⟩
  have Gq:f≤g:=by omega
  generalize hx:((T.getD S zB).2 r).getD (0,0,())=x
  by_cases h1:x.1=0
  ·by_cases h2:x.2.1=0
   ·rw [KM hx h1 h2] at h ⊢;exact h
   ·rw [KL hx h1 h2] at h ⊢
    cases e1:jM T f x.2.1.toNat r with
    | none=>rw [e1] at h;cases h
    | some l1=>
     cases e2:jM T f (S - x.2.1.toNat) r with
     | none=>rw [e1,e2] at h;cases h
     | some l2=>
      rw [e1,e2] at h;rw [mI f _ _ _ e1 g Gq,mI f _ _ _ e2 g Gq];exact h
  ·rw [Qg hx h1] at h ⊢
   cases e1:jM T f S x.1 with
   | none=>rw [e1] at h;cases h
   | some l1=>
    rw [e1] at h;rw [mI f _ _ _ e1 g Gq];exact h
theorem akZ {T:List SB} {f S:Nat} {r:Int} {L:List Hp} (h:jM T f S r=some L):col T S r=some L:=by
 have hx:∃ f,(jM T f S r).isSome=true:=⟨f,by rw [h];rfl⟩
 unfold col;rw [dif_pos hx];have hc:=hx.choose_spec;generalize hx.choose=g at hc
 cases e:jM T g S r with
 | none=>rw [e] at hc;cases hc
 | some L'=>
  rcases Nat.le_total f g with hfg | hfg
  ·have:=mI _ _ _ _ h _ hfg
   rw [e] at this;exact this
  ·have:=mI _ _ _ _ e _ hfg
   rw [h] at this;exact this.symm
structure Got (l:List Ar) (ts:List Int) (w:Hp→Int) (S:Nat) (r c:Int) (L:List Hp):Prop where
 sum:iH w L=c
 arcs:∀ h∈L,∃ a∈l,a.1=h
 aZ:∀ h∈L,Bp r L h.1
 iZ:∀ i,i<ts.length→S.testBit i=true→Bp r L (ts.getD i 0)
theorem Bp.app1 {r:Int} {L L':List Hp} {u:Int} (h:Bp r L u):Bp r (L++L') u:=h.mono fun _ hx=>List.mem_append_left _ hx
theorem Bp.aqD {r:Int} {L L':List Hp} {u:Int} (h:Bp r L' u):Bp r (L++L') u:=h.mono fun _ hx=>List.mem_append_right _ hx
theorem afB {l:List Ar} {ts:List Int} {T:List SB} {w:Hp→Int} (hl:OkL l) (hw:∀ a∈l,w a.1=a.2.1) (h6:ts.length≤6) (hD:∀ S,S<2 ^ ts.length→Done l ts T S (T.getD S zB)) :
 ∀ S,S<2 ^ ts.length→∀ (n:Nat) (r c:Int),(T.getD S zB).1 r=some c→c.toNat≤n→∃ f L,jM T f S r=some L∧Got l ts w S r c L:=by
 have XW:2 ^ ts.length≤64:=Nat.pow_le_pow_right (by decide) h6
 intro S
 induction S using Nat.strongRecOn with
 | ind S ihS=>
  intro hS n
  have go:∀ r c,(T.getD S zB).1 r=some c→(∀ r' c',(T.getD S zB).1 r' = some c'→c'.toNat<c.toNat→∃ f L,jM T f S r' = some L∧Got l ts w S r' c' L)→∃ f L,jM T f S r=some L∧Got l ts w S r c L:=by
   intro r c hc ih;obtain ⟨c0,c1,x,hx,ho⟩:=(hD S hS).inv r c hc
   have zU:((T.getD S zB).2 r).getD (0,0,())=x:=by rw [hx];rfl
   rcases ho with ⟨q0,a,ha,q1,q2,c',q3,q4⟩ | ⟨q0,p,q1,q2,d1,d2,q3,q4,q5⟩ | ⟨q0,q1,q2,i,q3,q4,q5⟩
   ·have qF:=(hD S hS).arc a ha
    have e1:eD (T.getD S zB) a.1.1=c:=by unfold eD;rw [q1,hc];rfl
    have e2:eD (T.getD S zB) a.1.2.1=c':=by unfold eD;rw [q2,q3];rfl
    rw [e1,e2] at qF;have uO:=(hl a ha).2.2.2.2;have T9:=((hD S hS).inv _ _ q3).1
    obtain ⟨f,L,k1,k2⟩:=ih x.1 c' q3 (by omega)
    have ea:a.1=(r,x.1,()):=by
     obtain ⟨⟨u,v,⟨⟩⟩,co⟩:=a;simp only at q1 q2;rw [q1,q2]
    have hr:Bp r ((r,x.1,())::L) x.1:=.aY (h:=(r,x.1,())) (by simp) .root
    have up:∀ {u},Bp x.1 L u→Bp r ((r,x.1,())::L) u:=fun hu=>hr.trans (hu.mono fun _ hm=>kE _ hm)
    refine ⟨f+1,(r,x.1,())::L,by rw [Qg zU q0,k1];rfl,?_,fun h hh=>?_,fun h hh=>?_,fun i hi hb=>up (k2.iZ i hi hb)⟩
    ·have:=hw a ha
     rw [ea] at this
     have e:iH w ((r,x.1,())::L)=w (r,x.1,())+iH w L:=by simp [iH]
     rw [e,k2.sum];omega
    ·rcases lC hh with rfl | hh
     ·exact ⟨a,ha,ea⟩
     ·exact k2.arcs h hh
    ·rcases lC hh with rfl | hh
     ·exact .root
     ·exact up (k2.aZ h hh)
   ·obtain ⟨f1,f2,f3,f4,f5⟩:=DT S (by omega) p q2
    have e1:=((hD p (by omega)).inv r d1 q3).1
    obtain ⟨g1,L1,k1,k2⟩:=ihS p f2 (by omega) d1.toNat r d1 q3 (bT _)
    obtain ⟨g2,L2,j1,j2⟩:=ihS (S - p) f3 (by omega) d2.toNat r d2 q4 (bT _)
    have hp:x.2.1.toNat=p:=by rw [q1];rfl
    refine ⟨max g1 g2+1,L1++L2,?_,?_,fun h hh=>?_,fun h hh=>?_,fun i hi hb=>?_⟩
    ·rw [KL zU q0 (by rw [q1];omega),hp,mI _ _ _ _ k1 _ (Nat.le_max_left _ _),mI _ _ _ _ j1 _ (Nat.le_max_right _ _)]
     rfl
    ·have e:iH w (L1++L2)=iH w L1+iH w L2:=by simp [iH]
     rw [e,k2.sum,j2.sum,q5]
    ·rcases List.mem_append.1 hh with hh | hh
     ·exact k2.arcs h hh
     ·exact j2.arcs h hh
    ·rcases List.mem_append.1 hh with hh | hh
     ·exact (k2.aZ h hh).app1
     ·exact (j2.aZ h hh).aqD
    ·rw [←f5,Nat.testBit_or,Bool.or_eq_true] at hb
     rcases hb with hb | hb
     ·exact (k2.iZ i hi hb).app1
     ·exact (j2.iZ i hi hb).aqD
   ·refine ⟨1,[],KM zU q0 q1,by rw [q2];rfl,fun h hh=>(by cases hh),fun h hh=>(by cases hh),fun j hj hb=>?_⟩
    rw [q4,Bo] at hb;rw [←vP hb,q5];exact .root
  induction n with
  | zero=>
   intro r c hc hn
   exact go r c hc (fun r' c' h1 h2=>by omega)
  | succ n ih=>
   intro r c hc hn
   exact go r c hc (fun r' c' h1 h2=>ih r' c' h1 (by omega))
structure nM (l:List Ar) (root:Int) (ts:List Int) (G:List Hp):Prop where
 grow:Grow root G
 arcs:∀ h∈G,∃ a∈l,a.1=h
 iZ:∀ x∈ts,x∈kr root G
theorem CS:∀ (m:Nat) (l:List Int),l.Nodup→(∀ x∈l,1≤x∧x≤(m:Int))→l.length≤m
 | 0,l,_,h=>by
  cases l with
  | nil=>exact bT _
  | cons x r=>have:=h x (by simp);omega
 | m+1,l,hn,h=>by
  have:=CS m (l.erase ((m:Int)+1)) (hn.erase _) fun x hx=>by
   have h1:=h x (List.mem_of_mem_erase hx)
   have h2:x≠(m:Int)+1:=fun e=>by rw [e] at hx;exact (hn.mem_erase_iff.1 hx).1 rfl
   omega
  have:=List.length_erase (a:=(m:Int)+1) (l:=l)
  split at this<;>omega
theorem nM.len {l:List Ar} {root:Int} {ts:List Int} {G:List Hp} (hl:OkL l) (h:nM l root ts G):G.length≤99:=by
 have:=CS 99 (G.map fun x=>x.2.1) (List.nodup_cons.1 h.grow.nodup).2 fun x hx=>by
  obtain ⟨y,hy,rfl⟩:=List.mem_map.1 hx;obtain ⟨a,ha,e⟩:=h.arcs y hy;have:=hl a ha;rw [←e];exact ⟨this.2.2.1,this.2.2.2.1⟩
 simpa using this
theorem Vx {w:Hp→Int}:∀ (L:List Hp),(∀ h∈L,w h≤1000)→iH w L≤1000*L.length
 | [],_=>by simp [iH]
 | x::r,h=>by
  have h1:=h x (by simp)
  have h2:=Vx r fun y hy=>h y (kE _ hy)
  have e:iH w (x::r)=w x+iH w r:=by simp [iH]
  rw [e,lD];omega
theorem acu (a b c d:Int):dz [dJ a b,dJ c d]<0↔a<b∨a=b∧c<d:=by
 simp only [dz,dJ]
 by_cases h1:a<b
 ·simp [h1]
 ·by_cases h2:b<a
  ·simp [h1,h2];omega
  ·have:a=b:=by omega
   subst this
   by_cases h3:c<d
   ·simp [h3]
   ·by_cases h4:d<c
    ·simp [h3,h4]
    ·simp [h3,h4]
theorem Vy {x y:Hp}:Mh x y=true↔(x.1<y.1∨x.1=y.1∧x.2.1<y.2.1):=by
 unfold Mh IL;rw [mX];exact acu _ _ _ _
theorem Vz {x y:Hp}:Mh x y=false↔¬ (x.1<y.1∨x.1=y.1∧x.2.1<y.2.1):=by
 rw [←Vy]
 cases Mh x y<;>simp
theorem ag1:SWO Mh:=⟨fun x=>Vz.2 (by omega),fun x y z h1 h2=>Vy.2 (by rw [Vy] at h1 h2;omega),fun x y z h1 h2=>Vz.2 (by rw [Vz] at h1 h2;omega)⟩
theorem zu (l:List Hp):(iQ l).Perm l:=by
 obtain ⟨⟨k1,-,k2⟩,-⟩:=Go.Sort.pdq_sorts Mh ag1 l.toArray 0 l.length (Go.Lib.bitLen l.length) true true (mY _) (by simp) (.inl rfl)
 unfold iQ;generalize Go.Sort.pdq Mh l.toArray 0 l.length (Go.Lib.bitLen l.length) true true=d at k1 k2
 have eU:d.size=l.length:=by simpa using k1
 rw [←eU] at k2
 have e1:d.extract 0 d.size=d:=by simp
 have e2:l.toArray.extract 0 d.size=l.toArray:=by rw [eU];simp
 rw [e1,e2] at k2
 simpa using k2
theorem MX (l:List Hp):(iQ l).Pairwise fun x y=>Mh y x=false:=by
 obtain ⟨⟨k1,-,-⟩,k3⟩:=Go.Sort.pdq_sorts Mh ag1 l.toArray 0 l.length (Go.Lib.bitLen l.length) true true (mY _) (by simp) (.inl rfl)
 unfold iQ;generalize Go.Sort.pdq Mh l.toArray 0 l.length (Go.Lib.bitLen l.length) true true=d at k1 k3
 have eU:d.size=l.length:=by simpa using k1
 refine List.pairwise_iff_getElem.2 fun i j hi hj qO=>?_
 have nR:j<d.size:=by simpa using hj
 have Yv:i<d.size:=by simpa using hi
 have:=k3 i j (mY _) qO (by omega)
 rw [getElem!_pos d i Yv,getElem!_pos d j nR] at this
 simpa using this
theorem acv {l:List Hp} (hn:l.Nodup):(iQ l).Pairwise fun x y=>Mh x y=true:=by
 have h1:=MX l
 have h2:(iQ l).Pairwise fun x y=>x≠y:=((zu l).nodup_iff).2 hn
 refine (h1.and h2).imp fun {x y} h=>?_
 obtain ⟨k1,k2⟩:=h;rw [Vz] at k1;rw [Vy];obtain ⟨a,b,⟨⟩⟩:=x;obtain ⟨c,d,⟨⟩⟩:=y;simp only at k1 ⊢
 refine Classical.byContradiction fun hc=>k2 ?_
 have e1:a=c:=by omega
 have e2:b=d:=by omega
 rw [e1,e2]
theorem Grow.MZ {root:Int} {l:List Hp} (h:Grow root l):l.Nodup:=by
 have:=(List.nodup_cons.1 h.nodup).2
 exact List.Pairwise.of_map (fun x:Hp=>x.2.1) (fun a b yg e=>yg (by rw [e])) this
theorem Qh {l:List Ar} {root:Int} {ts:List Int} {w:Hp→Int} (hl:nW l=true) (hw:∀ a∈l,w a.1=a.2.1) (h6:ts.length≤6) (hn:ts.Nodup) :
 (∃ G L,nM l root ts G∧cheap l root ts=some ((L,iH w L,true,()),())∧L.Perm G∧(L.Pairwise fun x y=>Mh x y=true)∧∀ G',nM l root ts G'→iH w L≤iH w G') ∨
 (cheap l root ts=some (([],0,false,()),())∧¬ ∃ G,nM l root ts G):=by
 have D5:=hl;unfold nW at D5;rw [dA] at D5
 have hA:OkL l:=fun a ha=>by
  have:=List.all_eq_true.1 D5.2 a ha;unfold inside at this;simp only [dA,mX] at this;omega
 have hA2:∀ a∈l,a.2.1≤1000:=fun a ha=>by
  have:=List.all_eq_true.1 D5.2 a ha;unfold inside at this;simp only [dA,mX] at this;omega
 have Od:∀ h,(∃ a∈l,a.1=h)→1≤w h∧w h≤1000:=fun h ⟨a,ha,e⟩=>by
  rw [←e,hw a ha];exact ⟨(hA a ha).2.2.2.2,hA2 a ha⟩
 unfold cheap;rw [hl,bL h6,Bool.and_self,Bool.not_true,bJ]
 by_cases h0:ts.length=0
 ·rw [bL h0,aQ]
  obtain rfl:=List.length_eq_zero_iff.1 h0
  left
  refine ⟨[],[],⟨.nil,fun h hh=>(by cases hh),fun h hh=>by cases hh⟩,rfl,List.Perm.refl _,.nil,fun G' DY=>?_⟩
  have:0≤iH w G':=by
   have:=(MU (w:=w) (G:=[]) (L:=G') .nil (fun x hx=>by cases hx) fun x hx=>(Od x (DY.arcs x hx)).1).1
   simpa [iH] using this
  simpa [iH] using this
 ·rw [d9 h0,bJ]
  have XW:2 ^ ts.length≤64:=Nat.pow_le_pow_right (by decide) h6
  have uO:0<2 ^ ts.length:=Nat.two_pow_pos _;obtain ⟨T,e1,e2,e3⟩:=Vw hA h6 (2 ^ ts.length) XW;rw [e1,qB];have awt:=acs h6 e2 e3
  have low:∀ G',nM l root ts G'→eD (T.getD (2 ^ ts.length - 1) zB) root≤iH w G':=fun G' DY=>
   awt.tree DY.grow (fun h hh=>by obtain ⟨a,ha,e⟩:=DY.arcs h hh;exact ⟨a,ha,e,by rw [←e,hw a ha]⟩) (fun h hh=>by have:=(Od h (DY.arcs h hh)).1;omega) hn (by omega) DY.iZ
  by_cases hf:wR≤eD (T.getD (2 ^ ts.length - 1) zB) root
  ·rw [bL hf,aQ]
   right
   refine ⟨rfl,fun ⟨G',DY⟩=>?_⟩
   have k1:=low G' DY
   have k2:=Vx (w:=w) G' fun h hh=>(Od h (DY.arcs h hh)).2
   have k3:=DY.len hA;unfold wR at hf;omega
  ·rw [d9 hf,bJ]
   obtain ⟨c,c1,c2⟩:=jN.lt (t:=T.getD (2 ^ ts.length - 1) zB) (r:=root) (by omega)
   obtain ⟨f,L,k1,k2⟩:=afB hA hw h6 e3 (2 ^ ts.length - 1) (by omega) c.toNat root c c1 (bT _)
   rw [akZ k1,qB];obtain ⟨G,g1,g2,g3⟩:=Qd root L
   have hG:nM l root ts G:=⟨g1,fun h hh=>k2.arcs h (g2 h hh),fun x hx=>by
    have aT:=List.idxOf_lt_length_of_mem hx
    have:=k2.iZ _ aT (by rw [Qb];exact bL aT)
    rw [iW,iw aT,sw,List.getElem_idxOf aT] at this
    exact this.kr g3⟩
   obtain ⟨s1,s2⟩:=MU (w:=w) g1.MZ g2 fun x hx=>(Od x (k2.arcs x hx)).1
   have hLG:L.Perm G:=s2 (by have:=low G hG;rw [c2,←k2.sum] at this;exact this)
   have hlen:L.length≤1000:=by have:=hG.len hA;rw [hLG.length_eq];omega
   rw [bL hlen,aQ];have QV:iH w (iQ L)=iH w L:=Qc ((zu L).map w)
   left
   refine ⟨G,iQ L,hG,by rw [QV,k2.sum,c2],(zu L).trans hLG,acv (hLG.nodup_iff.2 g1.MZ),fun G' DY=>?_⟩
   rw [QV,k2.sum,←c2];exact low G' DY
end aA