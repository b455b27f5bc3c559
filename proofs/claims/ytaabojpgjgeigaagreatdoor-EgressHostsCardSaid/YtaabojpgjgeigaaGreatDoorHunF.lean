/- Chapter 29 (egress, hosts): proved is that functions that the law reaches keep their contracts (payloads; all functions); no conditions but those that each theorem states. -/
import Derived.Test.YtaabojpgjgeigaaGreatDoorHunE
import Derived.RegionTactic
import Derived.WalkSpells
import Derived.Lib.SliceRun
import Derived.Laws.Cells
import Derived.Deep.RegionHeld3
import Derived.Lib.Hide
import Derived.Shelf.SlSortCmp.WholeK
import Derived.StillTactics
import Derived.WalkKit
set_option linter.unusedVariables false
set_option linter.unusedSimpArgs false
namespace Go.gI.qJ
open Go Go.Proofs
set_option maxRecDepth 100000
abbrev B:Env:=mkE tab gl 0 false []
theorem glue {f:Nat} {fn:Func} {E:Env} (hE:mG Tryz.prog E) (hg:B.glob=E.glob) (L:List (Nat×aY)) (hL:∀ g con,sN L g=some con→gy Tryz.prog B (g%1000000) con) (plan:Plan) {c:aY}
 (hf:Tryz.prog.funcs[f]? = some fn) (hck:vI E fn c=true) (hF:∀ x y,c.okV x→c.F x=some y→(evF (fun _ _=>Loop) E (sN L) fn plan c x).den=some y):gy Tryz.prog B f c:=
 gy.env (E:=E) hg (aaO hE mix (fun g con h=>gy.env (E:=B) hg.symm (hL g con h)) plan hf hck hF)
end Go.gI.qJ
namespace Go.gI
variable {E:Env} {C:Ctx} {s:St} {a:Act} {w:World} {G:Nat→Nat} {pt:Nat→Nat→Option Value}
theorem uD {a b:Nat} (h:a≠b):Nat.beq a b=false:=by
 cases hb:Nat.beq a b with
 | false=>rfl
 | true=>exact absurd (dM hb) h
end Go.gI
namespace Go.gI.qJ
open Go Go.Proofs Go.Sort Go.RowKit
set_option maxRecDepth 100000 in
set_option maxHeartbeats 2000000 in
theorem KA (x y:Int) (w:World):Calls Tryz.prog 106 #[.agg #[.int .i64 x,.int .i64 y]] w fun e w'=>e = .returned (.bool (ah.fM (x,y,())))∧w' = w.alloc (.cells #[.int .i64 x,.int .i64 y] 59):=by
 have e1:∀ v,ah.fM (x,y,())=v↔((decide (1≤x)&&decide (x≤99))&&(decide (1≤y)&&decide (y≤99)))=v:=fun v=>Iff.rfl
 go_enter Tryz.func106,Tryz.ntmps106
 go_wp2
 all_goals go_ret
 ·refine ⟨congrArg (fun b=>Ending.returned (.bool b)) ?_,rfl⟩
  rw [eq_comm,e1];rename_i h1 h2 h3;simp [h1,h2,h3]
 ·refine ⟨congrArg (fun b=>Ending.returned (.bool b)) ?_,rfl⟩
  rw [eq_comm,e1];rename_i h1 h2 h3;simp [show ¬ 1≤y by omega]
 ·refine ⟨congrArg (fun b=>Ending.returned (.bool b)) ?_,rfl⟩
  rw [eq_comm,e1];rename_i h1 h2;simp [show ¬ x≤99 by omega]
 ·refine ⟨congrArg (fun b=>Ending.returned (.bool b)) ?_,rfl⟩
  rw [eq_comm,e1];rename_i h1;simp [show ¬ 1≤x by omega]
set_option maxRecDepth 100000 in
set_option maxHeartbeats 2000000 in
theorem OX (x y:Int) (s:ByteArray) (w:World) (hs:s.size≤1000000):Calls Tryz.prog 51 #[.agg #[.int .i64 x,.int .i64 y],.string s] w fun e w'=>(∃ r n,e = .returned (.tuple #[.string r,.int .i64 n])∧ah.wrap (x,y,()) (d9 s)=(d9 r,n,()))∧∃ q os,w' = grow (w.drewN q) os:=by
 have arn:=fun W=>KA x y W
 go_enter Tryz.func51,Tryz.ntmps51
 go_wp2_with (go_at_call 106;refine (arn _).mono ?_;rintro e w' ⟨rfl,rfl⟩)
 ·have hv:ah.fM (x,y,())=false:=by cases h:ah.fM (x,y,())<;>simp_all
  go_ret2
  refine ⟨⟨_,_,rfl,?_⟩,0,#[_,_],by rw [alloc_eq_grow,alloc_eq_grow,grow_grow];rfl⟩
  unfold ah.wrap;rw [hv];rfl
 ·have hv:ah.fM (x,y,())=true:=by cases h:ah.fM (x,y,())<;>simp_all
  rename_i h
  go_ret2
  refine ⟨⟨_,_,rfl,?_⟩,0,#[_,_,_],by rw [alloc_eq_grow,alloc_eq_grow,alloc_eq_grow,grow_grow,grow_grow];rfl⟩
  unfold ah.wrap
  have hl:(d9 s).length=s.size:=by simp [d9]
  rw [hv,dT (show 64<(d9 s).length+2 by omega)];rfl
 ·have hv:ah.fM (x,y,())=true:=by cases h:ah.fM (x,y,())<;>simp_all
  rename_i h
  have hl:(d9 s).length=s.size:=by simp [d9]
  have hv2:(1≤x∧x≤99)∧(1≤y∧y≤99):=by
   have:((decide (1≤x)&&decide (x≤99))&&(decide (1≤y)&&decide (y≤99)))=true:=hv
   simpa using this
  have hb:∀ W:World,W.heap.size=w.heap.size+1+1→(convert 210 9 (.slice (some ⟨w.heap.size+1+1,0,none⟩) 2 2)).run Tryz.prog (W.alloc (.cells #[.int .u8 (x%256),.int .u8 (y%256)] 209)) = .ok (.string (strOfNums [x%256,y%256])) (W.alloc (.cells #[.int .u8 (x%256),.int .u8 (y%256)] 209)):=by
   intro W hW
   refine run_convert_bytes_arg (P:=Tryz.prog) (W.alloc (.cells #[.int .u8 (x%256),.int .u8 (y%256)] 209)) 210 5 (by kernel_rfl) (by kernel_rfl) (w.heap.size+1+1) 0 2 2 [x%256,y%256] rfl (fun i hi=>?_) 9 (by kernel_rfl)
   rw [←hW,Nat.zero_add,jA]
   rcases (by omega:i=0∨i=1) with rfl | rfl<;>rfl
  rw [hb _ (by simp)]
  simp only [Result.andThen];rw [Oper.upon_value]
  go_wp2
  ·exfalso
   rename_i hh;have e2:(strOfNums [x%256,y%256]).size=2:=rfl;omega
  ·go_ret2
   refine ⟨⟨_,_,rfl,?_⟩,0,#[_,_,_],by rw [alloc_eq_grow,alloc_eq_grow,alloc_eq_grow,grow_grow,grow_grow];rfl⟩
   have hx:x%256=x:=by omega
   have hy:y%256=y:=by omega
   have e1:d9 (strOfNums [x%256,y%256]++s)=x::y::d9 s:=by
    have e2:d9 (strOfNums [x%256,y%256]++s)=d9 (strOfNums [x%256,y%256])++d9 s:=by simp [d9]
    rw [e2,sK _ (by intro z hz;simp at hz;omega),hx,hy];rfl
   rw [e1];unfold ah.wrap
   rw [hv,dF (show ¬ 64<(d9 s).length+2 by omega)];rfl
theorem below_grow (w:World) (q:Nat) (os:Array Obj):Below w.heap.size w (grow (w.drewN q) os):=by
 refine ⟨rfl,rfl,rfl,?_,fun k hk=>?_⟩
 ·show w.heap.size≤(w.heap++os).size
  rw [Array.size_append];omega
 ·show (w.heap++os)[k]? = w.heap[k]?
  rw [Array.getElem?_append_left hk]
theorem IJ (d e:D):(∀ t,2≤t→get [(0,d),(2,e)] (2*t) = .undef)∧∀ id,get [(0,d),(2,e)] (2*id+1) = .undef:=by
 refine ⟨fun t ht=>?_,fun id=>?_⟩
 ·simp only [get,uD (show 2*t≠0 by omega),uD (show 2*t≠2 by omega),bU]
 ·simp only [get,uD (show 2*id+1≠0 by omega),uD (show 2*id+1≠2 by omega),bU]
theorem akS {E:Env}:rO Tryz.prog E 51 c51:=by
 rintro ⟨⟨⟩,⟨x,y,⟨⟩⟩,d,⟨⟩⟩ z hz C args w G pt hm gF hargs R K hK;obtain ⟨h1,h2⟩:=ah.iq hz;subst h2;have h1:d.length≤1000000:=of_decide_eq_true h1
 obtain ⟨v0,v1,rfl⟩:∃ v0 v1,args = #[v0,v1]:=by
  have:args.size=2:=hargs
  match args,this with
  | ⟨[v0,v1]⟩,_=>exact ⟨v0,v1,rfl⟩
 have t0:∃ arr,v0 = .agg arr∧arr.size=2∧aR w G pt [.int .i64 x,.int .i64 y] (aS arr):=R.tm 0
 have t1:∃ s,v1 = .string s∧d9 s=d∧d.length≤jo:=R.tm 1
 obtain ⟨arr,rfl,ha,hr⟩:=t0;obtain ⟨s,rfl,hs,hd⟩:=t1;have a0:aS arr 0 = .int .i64 x:=(hr 0 (Nat.zero_lt_succ _)).1.1;have a1:aS arr 1 = .int .i64 y:=(hr 1 (Nat.lt_succ_self 1)).1.1
 obtain rfl:arr = #[.int .i64 x,.int .i64 y]:=by
  match arr,ha with
  | ⟨[p,q]⟩,_=>
   have a0:p = .int .i64 x:=a0;have a1:q = .int .i64 y:=a1;rw [a0,a1]
 subst hs
 have hl:(d9 s).length=s.size:=by simp [d9]
 refine (OX x y s w (by omega)).mono ?_
 rintro e w' ⟨⟨r,n,rfl,hw⟩,q,os,rfl⟩
 have hb:(d9 r).length≤jo∧IntKind.i64.has n:=by
  have e1:d9 r=(ah.wrap (x,y,()) (d9 s)).1:=by rw [hw]
  have e2:n=(ah.wrap (x,y,()) (d9 s)).2.1:=by rw [hw]
  rw [e1,e2];unfold ah.wrap
  cases !ah.fM (x,y,()) with
  | true=>exact ⟨fG _,(by constructor<;>decide:IntKind.i64.has 2)⟩
  | false=>
   cases decide (64<(d9 s).length+2) with
   | true=>exact ⟨fG _,(by constructor<;>decide:IntKind.i64.has 3)⟩
   | false=>
    refine ⟨?_,(by constructor<;>decide:IntKind.i64.has 0)⟩
    show (x::y::d9 s).length≤jo;simp only [List.length_cons,jo];omega
 have hR:=Rel.done (E':=uG E c51.rs.num c51.bZ) R (below_grow w q os) (IJ _ _).2 (s':=gK c51 (ah.wrap (x,y,()) (d9 s),())) (n:=2) (vs:=#[.string r,.int .i64 n]) rfl (fun t=>by
  rw [hw]
  match t with
  | 0=>exact ⟨_,rfl,rfl,hb.1⟩
  | 1=>exact ⟨rfl,hb.2⟩
  | t+2=>rw [show get (gK c51 ((d9 r,n,()),())) (2*(t+2)) = .undef from (IJ _ _).1 (t+2) (by omega)];trivial) (fun t b=>by
  rw [hw]
  match t with
  | 0=>rfl
  | 1=>rfl
  | t+2=>rw [show get (gK c51 ((d9 r,n,()),())) (2*(t+2)) = .undef from (IJ _ _).1 (t+2) (by omega)];exact dX b _) (IJ _ _).2 (IJ _ _).1 rfl rfl
 exact hK _ _ _ _ hR
theorem aro:gy Tryz.prog B 51 c51:=⟨by decide,fun _=>akS,fun x h=>(by cases h),Tryz.f51,Tryz.func51,by kernel_rfl,by kernel_rfl⟩
end Go.gI.qJ
namespace Go.gI.qJ
open Go Go.Proofs
abbrev AL (L:List (Nat×aY)):Prop:=∀ g con,sN L g=some con→gy Tryz.prog B (g%1000000) con
theorem gq {L:List (Nat×aY)} (hL:AL L) {f:Nat} {fn:Func} (E:Env) (hE:mG Tryz.prog E) (hg:B.glob=E.glob) (plan:Plan) {c:aY} (hf:Tryz.prog.funcs[f%1000000]? = some fn) (hck:vI E fn c=true)
 (hF:∀ x y,c.okV x→c.F x=some y→(evF (fun _ _=>Loop) E (sN L) fn plan c x).den=some y):AL ((f,c)::L):=
 vK rfl (glue hE hg L hL plan hf hck hF) hL
theorem gr {L:List (Nat×aY)} (hL:AL L) {f:Nat} {fn:Func} (E:Env) (hE:mG Tryz.prog E) (hg:B.glob=E.glob) (plan:Plan) {c:aY} (hf:Tryz.prog.funcs[f%1000000]? = some fn) (hck:vI E fn c=true)
 (hF:∀ x,(evF (fun _ _=>Loop) E (sN L) fn plan c x).den=c.F x):AL ((f,c)::L):=
 gq hL E hE hg plan hf hck fun x y _ h=>(hF x).trans h
theorem akT:AL L68:=gq U4 E68 (cu _ _ _) rfl aaZ Tryz.func68 (by kernel_rfl) (by
 rintro ⟨⟨⟩,a0,a1,⟨⟩⟩ y r h
 exact Eq.trans (by kernel_rfl) ((acR a0 a1 r.2.2.1).trans h))
theorem akU:AL L69:=gq akT E69 (cu _ _ _) rfl aa0 Tryz.func69 (by kernel_rfl) (by
 rintro ⟨⟨a0,a1,⟨⟩⟩,⟨⟩⟩ y r h;obtain ⟨h1,h2⟩:=ah.iq h;subst h2
 exact Eq.trans (by kernel_rfl) (acQ a0 a1 h1))
theorem akV:AL L31:=gq akU E31 (cu _ _ _) rfl aa1 Tryz.func31 (by kernel_rfl) (by
 rintro ⟨⟨a0,a1,⟨⟩⟩,a2,⟨⟩⟩ y r h;obtain ⟨h1,h2⟩:=ah.iq h;subst h2
 exact Eq.trans (by kernel_rfl) (acS a0 a1 a2 h1))
theorem arp:AL L5:=gq akV E5 (cu _ _ _) rfl ahm Tryz.func5 (by kernel_rfl) (by
 rintro ⟨⟨⟩,a0,⟨⟩⟩ y r h
 exact Eq.trans (by kernel_rfl) ((akm a0).trans h))
theorem akW:AL L54:=gq arp E54 (cu _ _ _) rfl aa2 Tryz.func54 (by kernel_rfl) (by
 rintro ⟨⟨a0,a1,⟨⟩⟩,a2,a3,⟨⟩⟩ y r h;obtain ⟨h1,h2⟩:=ah.iq h;subst h2
 exact Eq.trans (by kernel_rfl) (acT a0 a1 a2 a3 h1))
theorem akX:AL L28:=gq akW E28 (cu _ _ _) rfl aa3 Tryz.func28 (by kernel_rfl) (by
 rintro ⟨⟨a0,a1,⟨⟩⟩,a2,⟨⟩⟩ y r h;obtain ⟨h1,h2⟩:=ah.iq h;subst h2
 exact Eq.trans (by kernel_rfl) (acU a0 a1 a2 h1))
theorem akY:AL L64:=gq akX E64 (cu _ _ _) rfl aa4 Tryz.func64 (by kernel_rfl) (by
 rintro ⟨⟨a0,a1,⟨⟩⟩,a2,⟨⟩⟩ y r h;obtain ⟨h1,h2⟩:=ah.iq h;subst h2
 exact Eq.trans (by kernel_rfl) (adr a0 a1 a2 h1))
theorem aee:AL ah7:=gq akY anQ (cu _ _ _) rfl Vi Tryz.func154 (by kernel_rfl) (by
 rintro ⟨⟨⟩,a0,a1,⟨⟩⟩ y r h
 exact Eq.trans (by kernel_rfl) ((Xt a0 a1 r.2.1).trans h))
theorem akZ:AL L27:=gq aee E27 (cu _ _ _) rfl aa5 Tryz.func27 (by kernel_rfl) (by
 rintro ⟨⟨⟩,a0,a1,⟨⟩⟩ y r h;obtain ⟨h1,h2⟩:=ah.iq h;subst h2
 exact Eq.trans (by kernel_rfl) (acX a0 a1 h1))
theorem aef:AL ah8:=gq akZ anR (cu _ _ _) rfl Vj Tryz.func122 (by kernel_rfl) (by
 rintro ⟨⟨a0,a1,⟨⟩⟩,a2,⟨⟩⟩ y r h;obtain ⟨h1,h2⟩:=ah.iq h;subst h2
 exact Eq.trans (by kernel_rfl) (XA a0 a1 a2 h1))
theorem ak0:AL L65:=gq aef E65 (cu _ _ _) rfl aa6 Tryz.func65 (by kernel_rfl) (by
 rintro ⟨⟨a0,a1,⟨⟩⟩,⟨⟩⟩ y r h;obtain ⟨h1,h2⟩:=ah.iq h;subst h2
 exact Eq.trans (by kernel_rfl) (acY a0 a1 h1))
theorem aeg:AL ah9:=gq ak0 anS (cu _ _ _) rfl Vk Tryz.func108 (by kernel_rfl) (by
 rintro ⟨⟨⟩,⟨a0,a1,⟨⟩⟩,⟨⟩⟩ y r h
 exact Eq.trans (by kernel_rfl) ((Xx a0 a1 r.2.1.2.1).trans h))
theorem aeh:AL aia:=gq aeg anT (cu _ _ _) rfl Vl Tryz.func109 (by kernel_rfl) (by
 rintro ⟨⟨⟩,⟨a0,a1,⟨⟩⟩,⟨a2,a3,⟨⟩⟩,⟨⟩⟩ y r h
 exact Eq.trans (by kernel_rfl) ((Xv a0 a1 a2 a3).trans h))
theorem aei:AL aib:=gq aeh anU (cu _ _ _) rfl Vm Tryz.func169 (by kernel_rfl) (by
 rintro ⟨⟨⟩,a0,a1,a2,⟨⟩⟩ y r h
 exact Eq.trans (by kernel_rfl) ((Xu a0 a1 a2).trans h))
theorem aej:AL aic:=gq aei anV (cu _ _ _) rfl Vn Tryz.func125 (by kernel_rfl) (by
 rintro ⟨⟨⟩,⟨a0,a1,a2,a3,a4,a5,a6,a7,a8,a9,⟨⟩⟩,⟨⟩⟩ y r h
 exact Eq.trans (by kernel_rfl) ((Xz a0 a1 a2 a3 a4 a5 a6 a7 a8 a9 r.2.1.2.2.2.2.1).trans h))
theorem aek:AL aie:=gq aej anW (cu _ _ _) rfl Vo Tryz.func111 (by kernel_rfl) (by
 rintro ⟨⟨⟩,a0,a1,⟨⟩⟩ y r h
 exact Eq.trans (by kernel_rfl) ((YT a0 a1 r.2.1).trans h))
theorem ak1:AL L29:=gr aek E29 (cu _ _ _) rfl aa7 Tryz.func29 (by kernel_rfl) fun x=>by kernel_rfl
theorem ak2:AL L70:=gr ak1 E70 (cu _ _ _) rfl aa8 Tryz.func70 (by kernel_rfl) fun x=>by kernel_rfl
theorem ak4:AL L25:=gr ak2 E25 (cu _ _ _) rfl abb Tryz.func25 (by kernel_rfl) fun x=>by kernel_rfl
theorem ak5:AL L26:=gr ak4 E26 (cu _ _ _) rfl abd Tryz.func26 (by kernel_rfl) fun x=>by kernel_rfl
theorem ak6:AL L74:=gq ak5 E74 (cu _ _ _) rfl abe Tryz.func74 (by kernel_rfl) (by
 rintro ⟨⟨⟩,⟨⟩⟩ y r h
 exact Eq.trans (by kernel_rfl) ((adL  ).trans h))
theorem ael:AL aif:=gq ak6 anX (cu _ _ _) rfl Vp Tryz.func168 (by kernel_rfl) (by
 rintro ⟨⟨⟩,a0,a1,a2,⟨⟩⟩ y r h
 exact Eq.trans (by kernel_rfl) ((Y1 a0 a1 a2).trans h))
theorem aem:AL aii:=gr ael anY (cu _ _ _) rfl Vq Tryz.func130 (by kernel_rfl) fun x=>by kernel_rfl
theorem aen:AL aij:=gr aem anZ (cu _ _ _) rfl Vr Tryz.func123 (by kernel_rfl) fun x=>by kernel_rfl
theorem ak7:AL L66:=gr aen E66 (cu _ _ _) rfl abf Tryz.func66 (by kernel_rfl) fun x=>by kernel_rfl
theorem aeo:AL aik:=gr ak7 an0 (cu _ _ _) rfl Vs Tryz.func124 (by kernel_rfl) fun x=>by kernel_rfl
theorem ak8:AL L67:=gr aeo E67 (cu _ _ _) rfl abg Tryz.func67 (by kernel_rfl) fun x=>by kernel_rfl
theorem ak9:AL L30:=gr ak8 E30 (cu _ _ _) rfl abh Tryz.func30 (by kernel_rfl) fun x=>by kernel_rfl
theorem ala:AL L76:=gr ak9 E76 (cu _ _ _) rfl abj Tryz.func76 (by kernel_rfl) fun x=>by kernel_rfl
theorem alb:AL L81:=gr ala E81 (cu _ _ _) rfl abk Tryz.func81 (by kernel_rfl) fun x=>by kernel_rfl
theorem aep:AL ail:=gr alb an1 (cu _ _ _) rfl Vt Tryz.func128 (by kernel_rfl) fun x=>by kernel_rfl
theorem alc:AL L77:=gr aep E77 (cu _ _ _) rfl abl Tryz.func77 (by kernel_rfl) fun x=>by kernel_rfl
theorem aer:AL ain:=gr alc an2 (cu _ _ _) rfl Vu Tryz.func129 (by kernel_rfl) fun x=>by kernel_rfl
theorem ald:AL L78:=gr aer E78 (cu _ _ _) rfl abm Tryz.func78 (by kernel_rfl) fun x=>by kernel_rfl
theorem aes:AL aio:=gr ald an3 (cu _ _ _) rfl Vv Tryz.func131 (by kernel_rfl) fun x=>by kernel_rfl
theorem ale:AL L79:=gr aes E79 (cu _ _ _) rfl abn Tryz.func79 (by kernel_rfl) fun x=>by kernel_rfl
theorem aeu:AL aip:=gr ale an4 (cu _ _ _) rfl Vw Tryz.func171 (by kernel_rfl) fun x=>by kernel_rfl
theorem aev:AL aiq:=gr aeu an5 (cu _ _ _) rfl Vx Tryz.func132 (by kernel_rfl) fun x=>by kernel_rfl
theorem aew:AL air:=gr aev an6 (cu _ _ _) rfl Vy Tryz.func133 (by kernel_rfl) fun x=>by kernel_rfl
theorem alf:AL L80:=gr aew E80 (cu _ _ _) rfl abo Tryz.func80 (by kernel_rfl) fun x=>by kernel_rfl
theorem alg:AL L34:=gr alf E34 (cu _ _ _) rfl abp Tryz.func34 (by kernel_rfl) fun x=>by kernel_rfl
theorem aex:AL ais:=gr alg an7 (cu _ _ _) rfl Vz Tryz.func126 (by kernel_rfl) fun x=>by kernel_rfl
theorem alh:AL L71:=gr aex E71 (cu _ _ _) rfl abq Tryz.func71 (by kernel_rfl) fun x=>by kernel_rfl
theorem ali:AL L82:=gr alh E82 (cu _ _ _) rfl abr Tryz.func82 (by kernel_rfl) fun x=>by kernel_rfl
theorem aey:AL ait:=gr ali an8 (cu _ _ _) rfl VA Tryz.func134 (by kernel_rfl) fun x=>by kernel_rfl
theorem alj:AL L83:=gr aey E83 (cu _ _ _) rfl abt Tryz.func83 (by kernel_rfl) fun x=>by kernel_rfl
theorem alk:AL L84:=gr alj E84 (cu _ _ _) rfl abu Tryz.func84 (by kernel_rfl) fun x=>by kernel_rfl
theorem alm:AL L85:=gr alk E85 (cu _ _ _) rfl abv Tryz.func85 (by kernel_rfl) fun x=>by kernel_rfl
theorem aln:AL L35:=gr alm E35 (cu _ _ _) rfl abw Tryz.func35 (by kernel_rfl) fun x=>by kernel_rfl
theorem alo:AL L36:=gr aln E36 (cu _ _ _) rfl abx Tryz.func36 (by kernel_rfl) fun x=>by kernel_rfl
theorem alp:AL L72:=gr alo E72 (cu _ _ _) rfl aby Tryz.func72 (by kernel_rfl) fun x=>by kernel_rfl
theorem alq:AL L32:=gr alp E32 (cu _ _ _) rfl abz Tryz.func32 (by kernel_rfl) fun x=>by kernel_rfl
theorem alr:AL L53:=gq alq E53 (cu _ _ _) rfl abA Tryz.func53 (by kernel_rfl) (by
 rintro ⟨⟨⟩,⟨a0,a1,⟨⟩⟩,a2,⟨⟩⟩ y r h
 exact Eq.trans (by kernel_rfl) ((adK a0 a1 a2).trans h))
theorem aez:AL aiu:=gr alr an9 (cu _ _ _) rfl VB Tryz.func170 (by kernel_rfl) fun x=>by kernel_rfl
theorem aeA:AL aiv:=gr aez aoa (cu _ _ _) rfl VD Tryz.func127 (by kernel_rfl) fun x=>by kernel_rfl
theorem als:AL L75:=gr aeA E75 (cu _ _ _) rfl abB Tryz.func75 (by kernel_rfl) fun x=>by kernel_rfl
theorem aeB:AL aiw:=gq als aob (cu _ _ _) rfl VE Tryz.func110 (by kernel_rfl) (by
 rintro ⟨⟨⟩,⟨a0,a1,a2,a3,a4,⟨⟩⟩,a5,a6,⟨⟩⟩ y r h
 exact Eq.trans (by kernel_rfl) ((YX a0 a1 a2 a3 a4 a5 a6).trans h))
theorem alu:AL L52:=gq aeB E52 (cu _ _ _) rfl abC Tryz.func52 (by kernel_rfl) (by
 rintro ⟨⟨⟩,⟨a0,a1,⟨⟩⟩,⟨⟩⟩ y r h
 exact Eq.trans (by kernel_rfl) ((adQ a0 a1 r.2.1.2.1).trans h))
theorem alv:AL L73:=gr alu E73 (cu _ _ _) rfl abD Tryz.func73 (by kernel_rfl) fun x=>by kernel_rfl
theorem alx:AL L33:=gr alv E33 (cu _ _ _) rfl abE Tryz.func33 (by kernel_rfl) fun x=>by kernel_rfl
theorem arq:AL L6:=gr alx E6 (cu _ _ _) rfl ahn Tryz.func6 (by kernel_rfl) fun x=>by kernel_rfl
theorem aly:AL L38:=gr arq E38 (cu _ _ _) rfl abF Tryz.func38 (by kernel_rfl) fun x=>by kernel_rfl
theorem alz:AL L19:=gr aly E19 (cu _ _ _) rfl abG Tryz.func19 (by kernel_rfl) fun x=>by kernel_rfl
theorem alA:AL L50:=gq alz E50 (cu _ _ _) rfl abH Tryz.func50 (by kernel_rfl) (by
 rintro ⟨⟨⟩,⟨a0,a1,⟨⟩⟩,⟨⟩⟩ y r h
 exact Eq.trans (by kernel_rfl) ((adM a0 a1).trans h))
theorem alB:AL L59:=gq alA E59 (cu _ _ _) rfl abI Tryz.func59 (by kernel_rfl) (by
 rintro ⟨⟨⟩,⟨a0,a1,⟨⟩⟩,a2,⟨⟩⟩ y r h;obtain ⟨h1,h2⟩:=ah.iq h;subst h2
 exact Eq.trans (by kernel_rfl) (adO a0 a1 a2 h1))
theorem alC:AL L10:=gq alB E10 (cu _ _ _) rfl abJ Tryz.func10 (by kernel_rfl) (by
 rintro ⟨⟨⟩,a0,⟨⟩⟩ y r h
 exact Eq.trans (by kernel_rfl) ((adN a0 r.2.1).trans h))
theorem aeC:AL aix:=gr alC aoc (cu _ _ _) rfl VF Tryz.func139 (by kernel_rfl) fun x=>by kernel_rfl
theorem aeD:AL aiy:=gr aeC aod (cu _ _ _) rfl VG Tryz.func195 (by kernel_rfl) fun x=>by kernel_rfl
theorem aeE:AL aiz:=gr aeD aoe (cu _ _ _) rfl VH Tryz.func177 (by kernel_rfl) fun x=>by kernel_rfl
theorem aeF:AL aiA:=gr aeE aof (cu _ _ _) rfl VI Tryz.func140 (by kernel_rfl) fun x=>by kernel_rfl
theorem aeG:AL aiB:=gr aeF aog (cu _ _ _) rfl VJ Tryz.func141 (by kernel_rfl) fun x=>by kernel_rfl
theorem aeH:AL aiC:=gq aeG aoh (cu _ _ _) rfl VK Tryz.func113 (by kernel_rfl) (by
 rintro ⟨⟨⟩,a0,⟨⟩⟩ y r h
 exact Eq.trans (by kernel_rfl) ((XB a0).trans h))
theorem aeI:AL aiD:=gq aeH aoi (cu _ _ _) rfl VL Tryz.func112 (by kernel_rfl) (by
 rintro ⟨⟨⟩,a0,a1,a2,⟨⟩⟩ y r h
 exact Eq.trans (by kernel_rfl) ((XC a0 a1 a2).trans h))
theorem alD:AL L57:=gq aeI E57 (cu _ _ _) rfl abK Tryz.func57 (by kernel_rfl) (by
 rintro ⟨⟨⟩,a0,a1,a2,⟨⟩⟩ y r h
 exact Eq.trans (by kernel_rfl) ((ac3 a0 a1 a2).trans h))
theorem aeJ:AL aiE:=gq alD aoj (cu _ _ _) rfl VN Tryz.func179 (by kernel_rfl) (by
 rintro ⟨⟨⟩,a0,a1,⟨⟩⟩ y r h
 exact Eq.trans (by kernel_rfl) ((XG a0 a1).trans h))
theorem aeK:AL aiF:=gq aeJ aok (cu _ _ _) rfl VO Tryz.func114 (by kernel_rfl) (by
 rintro ⟨⟨⟩,a0,⟨⟩⟩ y r h
 exact Eq.trans (by kernel_rfl) ((XE a0 r.2.1).trans h))
theorem alE:AL L55:=gq aeK E55 (cu _ _ _) rfl abL Tryz.func55 (by kernel_rfl) (by
 rintro ⟨⟨⟩,⟨a0,a1,a2,⟨⟩⟩,⟨⟩⟩ y r h
 exact Eq.trans (by kernel_rfl) ((ac1 a0 a1 a2 r.2.1.2.2.1).trans h))
theorem aeL:AL aiG:=gq alE aol (cu _ _ _) rfl VP Tryz.func178 (by kernel_rfl) (by
 rintro ⟨⟨⟩,⟨a0,a1,a2,⟨⟩⟩,a3,⟨⟩⟩ y r h
 exact Eq.trans (by kernel_rfl) ((Yq a0 a1 a2 a3 r.2.1.2.2.1).trans h))
theorem aeM:AL aiH:=gq aeL aom (cu _ _ _) rfl VQ Tryz.func147 (by kernel_rfl) (by
 rintro ⟨⟨⟩,a0,⟨⟩⟩ y r h
 exact Eq.trans (by kernel_rfl) ((XI a0).trans h))
theorem aeN:AL aiI:=gq aeM aon (cu _ _ _) rfl VR Tryz.func142 (by kernel_rfl) (by
 rintro ⟨⟨⟩,⟨a0,a1,a2,⟨⟩⟩,a3,⟨⟩⟩ y r h
 exact Eq.trans (by kernel_rfl) ((Yu a0 a1 a2 a3 r.2.2.1).trans h))
theorem alF:AL L88:=gr aeN E88 (cu _ _ _) rfl abM Tryz.func88 (by kernel_rfl) fun x=>by kernel_rfl
theorem alG:AL L89:=gr alF E89 (cu _ _ _) rfl abN Tryz.func89 (by kernel_rfl) fun x=>by kernel_rfl
theorem aeO:AL aiJ:=gq alG aoo (cu _ _ _) rfl VT Tryz.func155 (by kernel_rfl) (by
 rintro ⟨⟨⟩,a0,⟨⟩⟩ y r h
 exact Eq.trans (by kernel_rfl) ((XK a0).trans h))
theorem aeP:AL aiK:=gq aeO aop (cu _ _ _) rfl VU Tryz.func115 (by kernel_rfl) (by
 rintro ⟨⟨⟩,a0,a1,⟨⟩⟩ y r h
 exact Eq.trans (by kernel_rfl) ((X4 a0 a1).trans h))
theorem aeQ:AL aiL:=gq aeP aoq (cu _ _ _) rfl VW Tryz.func116 (by kernel_rfl) (by
 rintro ⟨⟨⟩,a0,a1,⟨⟩⟩ y r h
 exact Eq.trans (by kernel_rfl) ((X3 a0 a1 r.2.1).trans h))
theorem alH:AL L56:=gq aeQ E56 (cu _ _ _) rfl abO Tryz.func56 (by kernel_rfl) (by
 rintro ⟨⟨⟩,⟨a0,a1,a2,a3,a4,a5,a6,a7,a8,a9,⟨⟩⟩,⟨⟩⟩ y r h
 exact Eq.trans (by kernel_rfl) ((adf a0 a1 a2 a3 a4 a5 a6 a7 a8 a9).trans h))
theorem alI:AL L90:=gr alH E90 (cu _ _ _) rfl abP Tryz.func90 (by kernel_rfl) fun x=>by kernel_rfl
theorem alJ:AL L39:=gr alI E39 (cu _ _ _) rfl abQ Tryz.func39 (by kernel_rfl) fun x=>by kernel_rfl
theorem aeR:AL aiM:=gq alJ aor (cu _ _ _) rfl VX Tryz.func196 (by kernel_rfl) (by
 rintro ⟨⟨⟩,a0,a1,a2,⟨⟩⟩ y r h
 exact Eq.trans (by kernel_rfl) ((Ya a0 a1 a2).trans h))
theorem aeS:AL aiN:=gq aeR aos (cu _ _ _) rfl VY Tryz.func176 (by kernel_rfl) (by
 rintro ⟨⟨⟩,a0,a1,⟨⟩⟩ y r h
 exact Eq.trans (by kernel_rfl) ((X8 a0 a1 r.2.1).trans h))
theorem aeT:AL aiO:=gq aeS aot (cu _ _ _) rfl VZ Tryz.func180 (by kernel_rfl) (by
 rintro ⟨⟨⟩,⟨a0,a1,a2,a3,⟨⟩⟩,⟨⟩⟩ y r h
 exact Eq.trans (by kernel_rfl) ((Ye a0 a1 a2 a3 r.2.1.2.2.2.1).trans h))
theorem aeU:AL aiP:=gr aeT aou (cu _ _ _) rfl V3 Tryz.func143 (by kernel_rfl) fun x=>by kernel_rfl
theorem alK:AL L92:=gr aeU E92 (cu _ _ _) rfl abR Tryz.func92 (by kernel_rfl) fun x=>by kernel_rfl
theorem alL:AL L91:=gr alK E91 (cu _ _ _) rfl abS Tryz.func91 (by kernel_rfl) fun x=>by kernel_rfl
theorem aeV:AL aiQ:=gq alL aov (cu _ _ _) rfl V4 Tryz.func197 (by kernel_rfl) (by
 rintro ⟨⟨⟩,a0,a1,⟨⟩⟩ y r h
 exact Eq.trans (by kernel_rfl) ((XR a0 a1 r.2.1).trans h))
theorem aeW:AL aiR:=gq aeV aow (cu _ _ _) rfl V5 Tryz.func183 (by kernel_rfl) (by
 rintro ⟨⟨⟩,a0,⟨⟩⟩ y r h
 exact Eq.trans (by kernel_rfl) ((XP a0).trans h))
theorem aeX:AL aiS:=gq aeW aox (cu _ _ _) rfl V6 Tryz.func181 (by kernel_rfl) (by
 rintro ⟨⟨⟩,a0,a1,⟨⟩⟩ y r h
 exact Eq.trans (by kernel_rfl) ((Yj a0 a1).trans h))
theorem aeY:AL aiT:=gq aeX aoy (cu _ _ _) rfl V7 Tryz.func144 (by kernel_rfl) (by
 rintro ⟨⟨⟩,a0,⟨⟩⟩ y r h
 exact Eq.trans (by kernel_rfl) ((Yk a0).trans h))
theorem aeZ:AL aiU:=gq aeY aoz (cu _ _ _) rfl V8 Tryz.func182 (by kernel_rfl) (by
 rintro ⟨⟨⟩,⟨a0,a1,a2,a3,⟨⟩⟩,a4,⟨⟩⟩ y r h
 exact Eq.trans (by kernel_rfl) ((Yc a0 a1 a2 a3 a4 r.2.1.2.2.2.1).trans h))
theorem ae0:AL L145:=gq aeZ aoA (cu _ _ _) rfl V9 Tryz.func145 (by kernel_rfl) (by
 rintro ⟨⟨⟩,⟨a0,a1,a2,a3,⟨⟩⟩,a4,a5,⟨⟩⟩ y r h;obtain ⟨h1,h2⟩:=ah.iq h;subst h2
 exact Eq.trans (by kernel_rfl) (Yd a0 a1 a2 a3 a4 a5 h1))
theorem ae1:AL aiV:=gq ae0 aoB (cu _ _ _) rfl Wd Tryz.func146 (by kernel_rfl) (by
 rintro ⟨⟨⟩,⟨a0,a1,a2,a3,a4,a5,a6,a7,a8,a9,⟨⟩⟩,⟨⟩⟩ y r h
 exact Eq.trans (by kernel_rfl) ((X5 a0 a1 a2 a3 a4 a5 a6 a7 a8 a9).trans h))
theorem ae2:AL aiW:=gq ae1 aoC (cu _ _ _) rfl Wh Tryz.func148 (by kernel_rfl) (by
 rintro ⟨⟨⟩,⟨a0,a1,a2,a3,⟨⟩⟩,a4,a5,a6,⟨⟩⟩ y r h;obtain ⟨h1,h2⟩:=ah.iq h;subst h2
 exact Eq.trans (by kernel_rfl) (Yh a0 a1 a2 a3 a4 a5 a6 h1))
theorem ae3:AL aiX:=gq ae2 aoD (cu _ _ _) rfl Wi Tryz.func149 (by kernel_rfl) (by
 rintro ⟨⟨⟩,⟨a0,a1,a2,a3,a4,a5,a6,a7,a8,a9,⟨⟩⟩,bJ,⟨⟩⟩ y r h
 exact Eq.trans (by kernel_rfl) ((Yl a0 a1 a2 a3 a4 a5 a6 a7 a8 a9 bJ r.2.1.2.2.2.2.2.2.2.2.1 r.2.2.1).trans h))
theorem alM:AL L93:=gq ae3 E93 (cu _ _ _) rfl abT Tryz.func93 (by kernel_rfl) (by
 rintro ⟨⟨⟩,⟨a0,a1,a2,a3,⟨⟩⟩,⟨a4,a5,a6,a7,a8,a9,bJ,bS,a12,dD,⟨⟩⟩,⟨⟩⟩ y r h;obtain ⟨h1,h2⟩:=ah.iq h;subst h2
 exact Eq.trans (by kernel_rfl) (adk a0 a1 a2 a3 a4 a5 a6 a7 a8 a9 bJ bS a12 dD r.2.2.1.2.2.2.2.2.2.2.2.1 h1))
theorem ae4:AL aiY:=gq alM aoE (cu _ _ _) rfl Wj Tryz.func184 (by kernel_rfl) (by
 rintro ⟨⟨⟩,⟨a0,a1,a2,a3,a4,a5,a6,a7,a8,a9,⟨⟩⟩,bJ,⟨⟩⟩ y r h
 exact Eq.trans (by kernel_rfl) ((Yv a0 a1 a2 a3 a4 a5 a6 a7 a8 a9 bJ).trans h))
theorem ae5:AL aiZ:=gq ae4 aoF (cu _ _ _) rfl Wm Tryz.func150 (by kernel_rfl) (by
 rintro ⟨⟨⟩,a0,⟨a1,a2,a3,⟨⟩⟩,⟨a4,a5,a6,a7,a8,a9,bJ,bS,a12,dD,⟨⟩⟩,⟨⟩⟩ y r h
 exact Eq.trans (by kernel_rfl) ((Yw a0 a1 a2 a3 a4 a5 a6 a7 a8 a9 bJ bS a12 dD).trans h))
theorem alN:AL L94:=gr ae5 E94 (cu _ _ _) rfl abU Tryz.func94 (by kernel_rfl) fun x=>by kernel_rfl
theorem alO:AL L40:=gr alN E40 (cu _ _ _) rfl abV Tryz.func40 (by kernel_rfl) fun x=>by kernel_rfl
theorem ae6:AL ai0:=gq alO aoG (cu _ _ _) rfl Wn Tryz.func135 (by kernel_rfl) (by
 rintro ⟨⟨⟩,a0,⟨⟩⟩ y r h
 exact Eq.trans (by kernel_rfl) ((XV a0).trans h))
theorem ae7:AL ai1:=gq ae6 aoH (cu _ _ _) rfl Wo Tryz.func136 (by kernel_rfl) (by
 rintro ⟨⟨⟩,⟨a0,a1,⟨⟩⟩,a2,⟨⟩⟩ y r h
 exact Eq.trans (by kernel_rfl) ((XW a0 a1 a2 r.2.1.1).trans h))
theorem alP:AL L86:=gq ae7 E86 (cu _ _ _) rfl abW Tryz.func86 (by kernel_rfl) (by
 rintro ⟨⟨⟩,⟨a0,a1,⟨⟩⟩,⟨⟩⟩ y r h
 exact Eq.trans (by kernel_rfl) ((ada a0 a1 r.2.1.1 r.2.1.2.1).trans h))
theorem ae8:AL ai2:=gq alP aoI (cu _ _ _) rfl Wp Tryz.func137 (by kernel_rfl) (by
 rintro ⟨⟨⟩,⟨a0,a1,⟨⟩⟩,a2,⟨⟩⟩ y r h
 exact Eq.trans (by kernel_rfl) ((XY a0 a1 a2 r.2.1.1).trans h))
theorem ae9:AL ai3:=gq ae8 aoJ (cu _ _ _) rfl Wq Tryz.func172 (by kernel_rfl) (by
 rintro ⟨⟨⟩,⟨a0,a1,⟨⟩⟩,a2,⟨⟩⟩ y r h
 exact Eq.trans (by kernel_rfl) ((YK a0 a1 a2).trans h))
theorem afa:AL ai4:=gq ae9 aoK (cu _ _ _) rfl Ws Tryz.func194 (by kernel_rfl) (by
 rintro ⟨⟨⟩,⟨a0,a1,⟨⟩⟩,a2,a3,⟨⟩⟩ y r h
 exact Eq.trans (by kernel_rfl) ((YL a0 a1 a2 a3 r.2.1.2.1).trans h))
theorem afb:AL ai5:=gq afa aoL (cu _ _ _) rfl Wt Tryz.func193 (by kernel_rfl) (by
 rintro ⟨⟨⟩,⟨a0,a1,⟨⟩⟩,a2,⟨⟩⟩ y r h
 exact Eq.trans (by kernel_rfl) ((YM a0 a1 a2 r.2.1.1).trans h))
theorem afc:AL ai6:=gq afb aoM (cu _ _ _) rfl Wu Tryz.func175 (by kernel_rfl) (by
 rintro ⟨⟨⟩,a0,a1,⟨⟩⟩ y r h
 exact Eq.trans (by kernel_rfl) ((YN a0 a1).trans h))
theorem afd:AL ai7:=gq afc aoN (cu _ _ _) rfl Wv Tryz.func191 (by kernel_rfl) (by
 rintro ⟨⟨⟩,⟨a0,a1,⟨⟩⟩,a2,⟨⟩⟩ y r h
 exact Eq.trans (by kernel_rfl) ((YO a0 a1 a2).trans h))
theorem afe:AL ai8:=gq afd aoO (cu _ _ _) rfl Ww Tryz.func173 (by kernel_rfl) (by
 rintro ⟨⟨⟩,⟨a0,a1,⟨⟩⟩,a2,⟨⟩⟩ y r h
 exact Eq.trans (by kernel_rfl) ((YP a0 a1 a2).trans h))
theorem aff:AL L192:=gq afe aoP (cu _ _ _) rfl Wx Tryz.func192 (by kernel_rfl) (by
 rintro ⟨⟨⟩,⟨a0,a1,⟨⟩⟩,a2,a3,⟨⟩⟩ y r h
 exact Eq.trans (by kernel_rfl) ((YQ a0 a1 a2 a3).trans h))
theorem afg:AL ai9:=gq aff aoQ (cu _ _ _) rfl Wy Tryz.func174 (by kernel_rfl) (by
 rintro ⟨⟨⟩,⟨a0,a1,⟨⟩⟩,a2,a3,⟨⟩⟩ y r h
 exact Eq.trans (by kernel_rfl) ((YR a0 a1 a2 a3).trans h))
theorem afh:AL aja:=gq afg aoR (cu _ _ _) rfl Wz Tryz.func138 (by kernel_rfl) (by
 rintro ⟨⟨⟩,⟨a0,a1,⟨⟩⟩,a2,a3,⟨⟩⟩ y r h
 exact Eq.trans (by kernel_rfl) ((YS a0 a1 a2 a3).trans h))
theorem alQ:AL L87:=gq afh E87 (cu _ _ _) rfl abX Tryz.func87 (by kernel_rfl) (by
 rintro ⟨⟨⟩,⟨a0,a1,⟨⟩⟩,⟨a2,a3,a4,⟨⟩⟩,a5,⟨⟩⟩ y r h
 exact Eq.trans (by kernel_rfl) ((adI a0 a1 a2 a3 a4 a5).trans h))
theorem alR:AL L37:=gq alQ E37 (cu _ _ _) rfl abY Tryz.func37 (by kernel_rfl) (by
 rintro ⟨⟨⟩,⟨a0,a1,⟨⟩⟩,⟨a2,a3,a4,⟨⟩⟩,⟨⟩⟩ y r h
 exact Eq.trans (by kernel_rfl) ((adJ a0 a1 a2 a3 a4).trans h))
theorem ars:AL L7:=gr alR E7 (cu _ _ _) rfl aho Tryz.func7 (by kernel_rfl) fun x=>by kernel_rfl
theorem alT:AL L95:=gq ars E95 (cu _ _ _) rfl ab0 Tryz.func95 (by kernel_rfl) (by
 rintro ⟨⟨⟩,a0,a1,a2,⟨⟩⟩ y r h
 exact Eq.trans (by kernel_rfl) ((ac0 a0 a1 a2).trans h))
theorem alU:AL L96:=gq alT E96 (cu _ _ _) rfl ab1 Tryz.func96 (by kernel_rfl) (by
 rintro ⟨⟨⟩,a0,⟨⟩⟩ y r h
 exact Eq.trans (by kernel_rfl) ((acZ a0).trans h))
theorem alV:AL L98:=gq alU E98 (cu _ _ _) rfl ab2 Tryz.func98 (by kernel_rfl) (by
 rintro ⟨⟨⟩,⟨a0,a1,⟨⟩⟩,⟨a2,a3,⟨⟩⟩,⟨⟩⟩ y r h
 exact Eq.trans (by kernel_rfl) ((adl a0 a1 a2 a3).trans h))
theorem afi:AL ajb:=gq alV aoS (cu _ _ _) rfl WA Tryz.func151 (by kernel_rfl) (by
 rintro ⟨⟨⟩,a0,⟨a1,a2,⟨⟩⟩,⟨⟩⟩ y r h
 exact Eq.trans (by kernel_rfl) ((Zl a0 a1 a2 r.2.1).trans h))
theorem alW:AL L97:=gq afi E97 (cu _ _ _) rfl ab3 Tryz.func97 (by kernel_rfl) (by
 rintro ⟨⟨⟩,a0,⟨a1,a2,⟨⟩⟩,⟨⟩⟩ y r h
 exact Eq.trans (by kernel_rfl) ((ad8 a0 a1 a2).trans h))
theorem alX:AL L41:=gq alW E41 (cu _ _ _) rfl ab4 Tryz.func41 (by kernel_rfl) (by
 rintro ⟨⟨⟩,⟨a0,a1,a2,⟨⟩⟩,⟨⟩⟩ y r h
 exact Eq.trans (by kernel_rfl) ((adn a0 a1 a2 r.2.1.2.2.1).trans h))
theorem alY:AL L99:=gq alX E99 (cu _ _ _) rfl ab5 Tryz.func99 (by kernel_rfl) (by
 rintro ⟨⟨⟩,a0,a1,⟨⟩⟩ y r h
 exact Eq.trans (by kernel_rfl) ((adb a0 a1).trans h))
theorem afj:AL ajc:=gq alY aoT (cu _ _ _) rfl WB Tryz.func152 (by kernel_rfl) (by
 rintro ⟨⟨⟩,a0,⟨⟩⟩ y r h
 exact Eq.trans (by kernel_rfl) ((XZ a0).trans h))
theorem afk:AL L100:=gq afj aoU (cu _ _ _) rfl WC Tryz.func100 (by kernel_rfl) (by
 rintro ⟨⟨⟩,a0,a1,⟨⟩⟩ y r h
 exact Eq.trans (by kernel_rfl) ((X0 a0 a1 r.2.1).trans h))
theorem alZ:AL L42:=gq afk E42 (cu _ _ _) rfl ab6 Tryz.func42 (by kernel_rfl) (by
 rintro ⟨⟨⟩,⟨a0,a1,a2,a3,a4,a5,a6,a7,a8,a9,⟨⟩⟩,⟨⟩⟩ y r h
 exact Eq.trans (by kernel_rfl) ((ade a0 a1 a2 a3 a4 a5 a6 a7 a8 a9).trans h))
theorem al0:AL L43:=gq alZ E43 (cu _ _ _) rfl ab7 Tryz.func43 (by kernel_rfl) (by
 rintro ⟨⟨⟩,a0,⟨⟩⟩ y r h
 exact Eq.trans (by kernel_rfl) ((adF a0 r.2.1).trans h))
theorem al1:AL L45:=gq al0 E45 (cu _ _ _) rfl ab8 Tryz.func45 (by kernel_rfl) (by
 rintro ⟨⟨⟩,a0,⟨⟩⟩ y r h;obtain ⟨h1,h2⟩:=ah.iq h;subst h2
 exact Eq.trans (by kernel_rfl) (ac6 a0 r.2.1 h1))
theorem al2:AL L44:=gq al1 E44 (cu _ _ _) rfl ab9 Tryz.func44 (by kernel_rfl) (by
 rintro ⟨⟨⟩,a0,a1,a2,⟨⟩⟩ y r h
 exact Eq.trans (by kernel_rfl) ((ac2 a0 a1 a2).trans h))
theorem afl:AL ajd:=gq al2 aoV (cu _ _ _) rfl WE Tryz.func101 (by kernel_rfl) (by
 rintro ⟨⟨⟩,a0,⟨a1,a2,⟨⟩⟩,⟨⟩⟩ y r h
 exact Eq.trans (by kernel_rfl) ((Y5 a0 a1 a2 r.2.1).trans h))
theorem al3:AL L46:=gq afl E46 (cu _ _ _) rfl acd Tryz.func46 (by kernel_rfl) (by
 rintro ⟨⟨⟩,a0,⟨a1,a2,⟨⟩⟩,⟨⟩⟩ y r h
 exact Eq.trans (by kernel_rfl) ((adP a0 a1 a2).trans h))
theorem aru:AL L8:=gq al3 E8 (cu _ _ _) rfl ahp Tryz.func8 (by kernel_rfl) (by
 rintro ⟨⟨⟩,⟨a0,a1,a2,⟨⟩⟩,⟨a3,a4,a5,a6,a7,a8,a9,bJ,bS,a12,dD,⟨⟩⟩,⟨⟩⟩ y r h
 exact Eq.trans (by kernel_rfl) ((aky a0 a1 a2 a3 a4 a5 a6 a7 a8 a9 bJ bS a12 dD r.2.2.1.2.2.2.2.2.2.2.2.2.1).trans h))
theorem afm:AL aje:=gq aru aoW (cu _ _ _) rfl WG Tryz.func166 (by kernel_rfl) (by
 rintro ⟨⟨⟩,a0,⟨⟩⟩ y r h
 exact Eq.trans (by kernel_rfl) ((Yx a0).trans h))
theorem afo:AL ajg:=gq afm aoY (cu _ _ _) rfl WI Tryz.func120 (by kernel_rfl) (by
 rintro ⟨⟨⟩,a0,a1,⟨⟩⟩ y r h
 exact Eq.trans (by kernel_rfl) ((Yz a0 a1).trans h))
theorem afq:AL aji:=gq afo ao0 (cu _ _ _) rfl WK Tryz.func119 (by kernel_rfl) (by
 rintro ⟨⟨⟩,a0,⟨⟩⟩ y r h
 exact Eq.trans (by kernel_rfl) ((YB a0 r.2.1).trans h))
theorem afr:AL ajj:=gq afq ao1 (cu _ _ _) rfl WL Tryz.func102 (by kernel_rfl) (by
 rintro ⟨⟨⟩,a0,a1,a2,⟨⟩⟩ y r h
 exact Eq.trans (by kernel_rfl) ((Y0 a0 a1 a2).trans h))
theorem afs:AL ajk:=gq afr ao2 (cu _ _ _) rfl WM Tryz.func103 (by kernel_rfl) (by
 rintro ⟨⟨⟩,⟨a0,a1,⟨⟩⟩,⟨⟩⟩ y r h
 exact Eq.trans (by kernel_rfl) ((Xw a0 a1 r.2.1.2.1).trans h))
theorem aft:AL ajl:=gq afs ao3 (cu _ _ _) rfl WO Tryz.func104 (by kernel_rfl) (by
 rintro ⟨⟨⟩,⟨a0,a1,⟨⟩⟩,⟨⟩⟩ y r h
 exact Eq.trans (by kernel_rfl) ((Y2 a0 a1).trans h))
theorem afu:AL ajm:=gq aft ao4 (cu _ _ _) rfl WQ Tryz.func105 (by kernel_rfl) (by
 rintro ⟨⟨⟩,⟨a0,a1,a2,a3,a4,⟨⟩⟩,⟨a5,a6,⟨⟩⟩,⟨⟩⟩ y r h
 exact Eq.trans (by kernel_rfl) ((YZ a0 a1 a2 a3 a4 a5 a6).trans h))
theorem al5:AL L47:=gq afu E47 (cu _ _ _) rfl acf Tryz.func47 (by kernel_rfl) (by
 rintro ⟨⟨⟩,⟨a0,a1,⟨⟩⟩,⟨⟩⟩ y r h
 exact Eq.trans (by kernel_rfl) ((adR a0 a1 r.2.1.2.1).trans h))
theorem afv:AL L106:=gq al5 ao5 (cu _ _ _) rfl WR Tryz.func106 (by kernel_rfl) (by
 rintro ⟨⟨⟩,⟨a0,a1,⟨⟩⟩,⟨⟩⟩ y r h
 exact Eq.trans (by kernel_rfl) ((Y3 a0 a1).trans h))
theorem al6:AL L48:=gq afv E48 (cu _ _ _) rfl acg Tryz.func48 (by kernel_rfl) (by
 rintro ⟨⟨⟩,a0,⟨⟩⟩ y r h
 exact Eq.trans (by kernel_rfl) ((TD a0 r.2.1).trans h))
theorem al7:AL L51:=vK rfl aro al6
theorem afw:AL ajn:=gq al7 ao6 (cu _ _ _) rfl WS Tryz.func200 (by kernel_rfl) (by
 rintro ⟨⟨⟩,a0,a1,⟨⟩⟩ y r h
 exact Eq.trans (by kernel_rfl) ((X6 a0 a1 r.2.1).trans h))
theorem afx:AL L198:=gq afw ao7 (cu _ _ _) rfl WT Tryz.func198 (by kernel_rfl) (by
 rintro ⟨⟨⟩,a0,a1,⟨⟩⟩ y r h
 exact Eq.trans (by kernel_rfl) ((X7 a0 a1).trans h))
theorem afy:AL ajo:=gq afx ao8 (cu _ _ _) rfl WU Tryz.func185 (by kernel_rfl) (by
 rintro ⟨⟨⟩,⟨a0,a1,⟨⟩⟩,a2,⟨⟩⟩ y r h
 exact Eq.trans (by kernel_rfl) ((YW a0 a1 a2).trans h))
theorem afz:AL ajp:=gq afy ao9 (cu _ _ _) rfl WV Tryz.func153 (by kernel_rfl) (by
 rintro ⟨⟨⟩,⟨a0,a1,⟨⟩⟩,a2,⟨⟩⟩ y r h
 exact Eq.trans (by kernel_rfl) ((YU a0 a1 a2).trans h))
theorem afA:AL ajq:=gq afz apa (cu _ _ _) rfl WW Tryz.func107 (by kernel_rfl) (by
 rintro ⟨⟨⟩,⟨a0,a1,⟨⟩⟩,⟨a2,a3,⟨⟩⟩,⟨⟩⟩ y r h
 exact Eq.trans (by kernel_rfl) ((Y9 a0 a1 a2 a3 r.2.1.1 r.2.1.2.1 r.2.2.1.1 r.2.2.1.2.1).trans h))
theorem al8:AL L13:=gq afA E13 (cu _ _ _) rfl ach Tryz.func13 (by kernel_rfl) (by
 rintro ⟨⟨⟩,⟨a0,a1,⟨⟩⟩,⟨a2,a3,⟨⟩⟩,⟨⟩⟩ y r h
 exact Eq.trans (by kernel_rfl) ((TH a0 a1 a2 a3 r.2.1.1 r.2.1.2.1 r.2.2.1.1 r.2.2.1.2.1).trans h))
theorem al9:AL L49:=gq al8 E49 (cu _ _ _) rfl aci Tryz.func49 (by kernel_rfl) (by
 rintro ⟨⟨⟩,⟨a0,a1,⟨⟩⟩,a2,⟨a3,a4,⟨⟩⟩,a5,⟨⟩⟩ y r h
 exact Eq.trans (by kernel_rfl) ((TK a0 a1 a2 a3 a4 a5 r.2.1.1 r.2.1.2.1 r.2.2.1 r.2.2.2.1.1 r.2.2.2.1.2.1 r.2.2.2.2.1).trans h))
theorem arv:AL L9:=gq al9 E9 (cu _ _ _) rfl ahq Tryz.func9 (by kernel_rfl) (by
 rintro ⟨⟨⟩,⟨a0,a1,a2,⟨⟩⟩,⟨a3,a4,⟨⟩⟩,⟨a5,a6,a7,a8,a9,bJ,bS,a12,dD,iR,jg,⟨⟩⟩,⟨⟩⟩ y r h
 exact Eq.trans (by kernel_rfl) ((aae a0 a1 a2 a3 a4 a5 a6 a7 a8 a9 bJ bS a12 dD iR jg r.2.1.1 r.2.1.2.1 r.2.1.2.2.1 r.2.2.1.1 r.2.2.1.2.1 r.2.2.2.1.1 r.2.2.2.1.2.1 r.2.2.2.1.2.2.1 r.2.2.2.1.2.2.2.1 r.2.2.2.1.2.2.2.2.1 r.2.2.2.1.2.2.2.2.2.1 r.2.2.2.1.2.2.2.2.2.2.1 r.2.2.2.1.2.2.2.2.2.2.2.1 r.2.2.2.1.2.2.2.2.2.2.2.2.1 r.2.2.2.1.2.2.2.2.2.2.2.2.2.1 r.2.2.2.1.2.2.2.2.2.2.2.2.2.2.1).trans h))
theorem amc:AL L11:=gq arv E11 (cu _ _ _) rfl aco Tryz.func11 (by kernel_rfl) (by
 rintro ⟨⟨⟩,⟨a0,a1,⟨⟩⟩,a2,⟨a3,a4,⟨⟩⟩,a5,⟨⟩⟩ y r h;obtain ⟨h1,h2⟩:=ah.iq h;subst h2
 exact Eq.trans (by kernel_rfl) (TL a0 a1 a2 a3 a4 a5 r.2.1.1 r.2.1.2.1 r.2.2.1 r.2.2.2.1.1 r.2.2.2.1.2.1 r.2.2.2.2.1 h1))
theorem ami:AL L12:=gq amc E12 (cu _ _ _) rfl acu Tryz.func12 (by kernel_rfl) (by
 rintro ⟨⟨⟩,a0,a1,⟨⟩⟩ y r h
 exact Eq.trans (by kernel_rfl) ((adt a0 a1 r.2.1 r.2.2.1).trans h))
theorem amn:AL L14:=gq ami E14 (cu _ _ _) rfl acA Tryz.func14 (by kernel_rfl) (by
 rintro ⟨⟨⟩,⟨⟩⟩ y r h
 exact Eq.trans (by kernel_rfl) ((aea  ).trans h))
set_option maxRecDepth 100000
theorem ok3:gy Tryz.prog B 3 c3:=glue (E:=E3) (cu _ _ _) rfl L14 amn anc Tryz.func3 (by kernel_rfl) (by
 rintro ⟨⟨⟩,a0,⟨⟩⟩ y r h
 exact Eq.trans (by kernel_rfl) ((anv a0).trans h))
end Go.gI.qJ