/- Chapter 29 (egress, answers): proved is that functions that the law reaches keep their contracts (copies and sorts of receipts, payloads; all functions); no conditions but those that each theorem states. -/
import Derived.Test.YtaabojpgjgeigaaGreatDoorRunE
import Derived.RegionTactic
import Derived.WalkSpells
import Derived.Lib.SliceRun
import Derived.Laws.Cells
import Derived.WalkKit
import Derived.Lib.Hide
import Derived.StillTactics
import Derived.Deep.RegionHeld3
import Derived.Shelf.SlSortCmp.WholeK
import Derived.KernelRfl
import Derived.Shelf.SlSortCmp.NoneTotal
set_option linter.unusedVariables false
set_option linter.unusedSimpArgs false
namespace Go.gI.qJ
open Go Go.Proofs
set_option maxRecDepth 100000 in
set_option maxHeartbeats 2000000 in
theorem Zm {w:World} {n c:Nat} {Q:Ending→World→Prop} (hQ:Q (.returned (.slice none 0 0)) w) :
 Calls Tryz.prog 60 #[.slice none n c] w Q:=by
 have hu:Tryz.prog.underlying 54=some (.slice 66):=by kernel_rfl
 go_enter Tryz.func60,Tryz.ntmps60
 go_wp2
 rw [Lib.run_eql_slice_nil _ _ _ _ _ _ _ _ hu];simp only [Result.andThen];rw [Oper.upon_value];simp only [Option.isNone]
 go_wp2
 exact hQ
set_option maxRecDepth 100000 in
set_option maxHeartbeats 2000000 in
theorem OT {w:World} {p:Addr} {c:Nat} {Q:Ending→World→Prop} (hQ:Q (.returned (.slice (some ⟨w.heap.size,0,none⟩) 0 0)) (w.alloc (.cells #[] 66))) :
 Calls Tryz.prog 60 #[.slice (some p) 0 c] w Q:=by
 have hu:Tryz.prog.underlying 54=some (.slice 66):=by kernel_rfl
 have hl:(loadCellsFrom p 0 0 #[]).run Tryz.prog (w.alloc (.cells #[] 66)) = .ok #[] (w.alloc (.cells #[] 66)):=by simp [loadCellsFrom]
 go_enter Tryz.func60,Tryz.ntmps60
 go_wp2
 rw [Lib.run_eql_slice_nil _ _ _ _ _ _ _ _ hu];simp only [Result.andThen];rw [Oper.upon_value];simp only [Option.isNone]
 go_wp2
 exact hQ
set_option maxRecDepth 100000 in
set_option maxHeartbeats 2000000 in
theorem OU {w:World} {p:Addr} {n c:Nat} {cs:Array Value} {Q:Ending→World→Prop} (hn:0<n) (hn2:n≤2932031007402)
 (hl:(loadCellsFrom p 0 (n*5) #[]).run Tryz.prog (w.alloc (.cells #[] 66)).drew = .ok cs (w.alloc (.cells #[] 66)).drew)
 (hQ:∀ k:Nat,n≤k→Q (.returned (.slice (some ⟨w.heap.size+1,0,none⟩) n k)) ((w.alloc (.cells #[] 66)).alloc (.cells (cs++Builtin.zeroCells #[.int .i64 0,.int .i64 0,.int .i64 0,.int .i64 0,.string "".toUTF8] (k - n)) 66)).drew) :
  Calls Tryz.prog 60 #[.slice (some p) n c] w Q:=by
 have hu:Tryz.prog.underlying 54=some (.slice 66):=by kernel_rfl
 have hbt:Tryz.t66.bytes=48:=rfl
 go_enter Tryz.func60,Tryz.ntmps60
 go_wp2
 rw [Lib.run_eql_slice_nil _ _ _ _ _ _ _ _ hu];simp only [Result.andThen];rw [Oper.upon_value];simp only [Option.isNone]
 go_wp2
 all_goals (try (exfalso;simp only [Builtin.nextslicecap] at *;(repeat' split at *)<;>omega))
 all_goals (simp only [Question.cut];omega)
set_option maxRecDepth 100000
abbrev B:Env:=mkE tab gl 0 false []
theorem glue {f:Nat} {fn:Func} {E:Env} (hE:mG Tryz.prog E) (hg:B.glob=E.glob) (L:List (Nat×aY)) (hL:∀ g con,sN L g=some con→gy Tryz.prog B (g%1000000) con) (plan:Plan) {c:aY}
 (hf:Tryz.prog.funcs[f]? = some fn) (hck:vI E fn c=true) (hF:∀ x y,c.okV x→c.F x=some y→(evF (fun _ _=>Loop) E (sN L) fn plan c x).den=some y):gy Tryz.prog B f c:=
 gy.env (E:=E) hg (aaO hE mix (fun g con h=>gy.env (E:=B) hg.symm (hL g con h)) plan hf hck hF)
end Go.gI.qJ
namespace Go.gI
variable {E:Env} {C:Ctx} {s:St} {a:Act} {w:World} {G:Nat→Nat} {pt:Nat→Nat→Option Value}
theorem uD {a b:Nat} (h:a≠b):Nat.beq a b=false:=by
 cases hb:Nat.beq a b with
 | false=>rfl
 | true=>exact absurd (dM hb) h
theorem ML (d:D) (k:Nat) (h:k≠0):get [(0,d)] k = .undef:=by
 simp only [get,uD h,bU]
theorem Rel.Uf {n:Nat} (R:Rel (uG E n false) C s a w G pt) (hb:∀ id,get s (2*id+1) = .undef) :
 Rel (uG E 1 false) C [(0,get s 0)] { tmps:=#[a.tmps.getD 0 Go.undef],defers:=[] } w G pt:=by
 have g1:∀ id,get [(0,get s 0)] (2*id+1) = .undef:=fun id=>ML _ _ (by omega)
 have g2:∀ t,1≤t→get [(0,get s 0)] (2*t) = .undef:=fun t ht=>ML _ _ (by omega)
 have ZG:∀ b,TC 1 C.m [(0,get s 0)] { tmps:=#[a.tmps.getD 0 Go.undef],defers:=[] } w pt b=cT s a b 0:=by
  intro b
  have z2:dh C.m (cB [(0,get s 0)] w pt b)=0:=oq fun i hi=>by
   rw [cB,g1];rfl
  unfold TC;rw [z2];show 0+cT [(0,get s 0)] _ b 0+0=_;rw [Nat.zero_add,Nat.add_zero];rfl
 refine ⟨rfl,rfl,fun t=>?_,fun id=>?_,fun t ht=>g2 t ht,fun id hid=>g1 id,fun b=>?_,fun b hb=>?_,R.fr,R.ex,R.gz,R.os,R.out,R.tape,R.hs,fun id st h=>?_,R.gl,R.pn⟩
 ·cases t with
  | zero=>exact R.tm 0
  | succ t=>rw [g2 (t+1) (by omega)];trivial
 ·rw [g1];trivial
 ·exact jQ (Nat.le_of_eq (ZG b)) (jQ (R.mM b 0) (R.ct b))
 ·exact R.cb b (nG (by have:=ZG b;exact this▸hb) (R.mM b 0))
 ·rw [g1] at h
  have:=R.pf id st;rw [hb] at this;exact this h
end Go.gI
namespace Go.gI.qJ
open Go Go.Proofs Go.Sort Go.RowKit
def aeb (x:ah.Rc):List Value:=[.int .i64 x.1,.int .i64 x.2.1,.int .i64 x.2.2.1.1,.int .i64 x.2.2.1.2.1,.string (bs x.2.2.2.1)]
def cellC (l:List ah.Rc) (j:Nat):Value:=(aeb (l.getD (j / 5) ah.qc))[j%5]!
theorem Ug {w:World} {G:Nat→Nat} {l:List ah.Rc} {b o:Nat} (hr:fJ w G uj l b o) (j:Nat) (hj:j<l.length*5):w.cell? ⟨b,o+j,none⟩=some (cellC l j):=by
 have hi:j / 5<l.length:=by omega
 obtain ⟨h1,h2,⟨h3,h4,-⟩,⟨s,h5,h6,h7⟩,-⟩:=hr (j / 5) hi;have h6:d9 s=(l[j / 5]).2.2.2.1:=h6;unfold cellC aeb;rw [dV hi]
 rcases (by omega:j%5=0∨j%5=1∨j%5=2∨j%5=3∨j%5=4) with h | h | h | h | h
 ·rw [h,show o+j=o+j / 5*5 by omega];exact h1.1
 ·rw [h,show o+j=o+j / 5*5+1 by omega];exact h2.1
 ·rw [h,show o+j=o+j / 5*5+1+1 by omega];exact h3.1
 ·rw [h,show o+j=o+j / 5*5+1+1+1 by omega];exact h4.1
 ·rw [h,show o+j=o+j / 5*5+1+1+1+1 by omega,←h6,EA];exact h5
theorem Zn {w:World} {G:Nat→Nat} (hgz:∀ b,w.heap.size≤b→G b=0) {l:List ah.Rc} {b o:Nat} (ho:o+l.length*5≤G b) (hr:fJ w G uj l b o) :
 (loadCellsFrom ⟨b,o,none⟩ 0 (l.length*5) #[]).run Tryz.prog (w.alloc (.cells #[] 66)).drew = .ok ((List.range (l.length*5)).map (cellC l)).toArray (w.alloc (.cells #[] 66)).drew:=by
 have h:=run_loadCellsFrom (P:=Tryz.prog) (w.alloc (.cells #[] 66)).drew ⟨b,o,none⟩ (cellC l) (l.length*5) 0 #[] (fun j hj=>by
  have hadd:(⟨b,o,none⟩:Addr).add (0+j)=⟨b,o+j,none⟩:=by
   unfold Addr.add;simp
  rw [hadd];show (w.alloc (.cells #[] 66)).cell? _=_
  have hE:=(gN (w:=w) (G:=G) (.cells #[] 66) hgz).cell b (o+j) (by omega)
  rw [hE,Nat.zero_add]
  exact Ug hr j hj)
 rw [h];simp only [Nat.zero_add,List.append_nil,Array.empty_append]
theorem akQ {E:Env}:rO Tryz.prog E 60 c60:=by
 rintro ⟨⟨⟩,l,⟨⟩⟩ y hy C args w G pt hm gF hargs R K hK;obtain rfl:(l,())=y:=Option.some.inj hy
 obtain ⟨v0,rfl⟩:∃ v0,args = #[v0]:=by
  have:args.size=1:=hargs
  match args,this with
  | ⟨[v0]⟩,_=>exact ⟨v0,rfl⟩
 have t0:=R.tm 0
 obtain ⟨a,n,c,hv,hn,hb,hc,hs⟩:∃ a n c,v0 = .slice a n c∧n=List.length (α:=ah.Rc) l∧n*48≤big∧SlR w G 0 uj l a c:=t0
 subst hv
 have g0:∀ (d:D) id,get ((0,d)::bY c60 ((),l,())) (2*id+1) = .undef:=by
  intro d id;show get [(0,d),(0,D.sl 0 uj l)] (2*id+1) = .undef
  have e0:Nat.beq (2*id+1) 0=false:=uD (by omega)
  simp only [get,e0,bU]
 by_cases hl:l=[]
 ·subst hl
  cases a with
  | none=>
   refine Zm ?_
   have R1:=R.afQ 0 (by decide:0<1) (d:=.sl 2 uj ([]:List uj.den)) (v:=.slice none 0 0) ⟨none,0,0,rfl,rfl,by decide,.inl ⟨rfl,rfl,rfl⟩⟩ (fun b=>rfl)
   exact hK #[.slice none 0 0] w G pt (R1.Uf (g0 _))
  | some p=>
   have hn0:n=0:=hn;subst hn0;refine OT ?_
   have R1:=R.newRow (e:=66) (fr:=(0,0)) { dst:=some 0,op:=.move (.tmp 0),type:=0,pos:="",after:=#[],guard:=none } (fun t ht=>by cases ht;exact (by decide:0<1)) (t:=uj) (l:=([]:List uj.den)) (cells:=#[]) (c:=0)
    (fun i hi=>by simp at hi) (fG _) (by simp) (fun o ho=>by simp only;omega) (by simp) (by decide)
   exact hK #[.slice (some ⟨w.heap.size,0,none⟩) 0 0] _ G pt (R1.Uf (g0 _))
 ·obtain ⟨b,o,rfl,ho,hr⟩:=hs.resolve_left hl
  have hpos:0<List.length (α:=ah.Rc) l:=List.length_pos_iff.2 hl;unfold big at hb;subst hn
  refine OU hpos (by omega) (Zn R.gz ho hr) fun k hk=>?_
  have R1:=R.newRow (e:=66) (fr:=(0,0)) { dst:=some 0,op:=.move (.tmp 0),type:=0,pos:="",after:=#[],guard:=none } (fun t ht=>by cases ht;exact (by decide:0<1)) (t:=uj) (l:=([]:List uj.den)) (cells:=#[]) (c:=0)
   (fun i hi=>by simp at hi) (fG _) (by simp) (fun o ho=>by simp only;omega) (by simp) (by decide)
  have hsz:(w.alloc (.cells #[] 66)).heap.size=w.heap.size+1:=by
   show (w.heap.push _).size=_;rw [Array.size_push]
  have hcs:(((List.range (l.length*5)).map (cellC l)).toArray++Builtin.zeroCells #[Value.int .i64 0,Value.int .i64 0,Value.int .i64 0,Value.int .i64 0,Value.string "".toUTF8] (k - l.length)).size=k*5:=by
   simp only [Builtin.zeroCells,Array.size_append,Array.size_map,Array.size_range,List.size_toArray,List.length_map,List.length_range,List.length_cons,List.length_nil];omega
  have hcell:∀ j,j<l.length*5→(World.cell? (((w.alloc (.cells #[] 66))).alloc (.cells (((List.range (l.length*5)).map (cellC l)).toArray++Builtin.zeroCells #[Value.int .i64 0,Value.int .i64 0,Value.int .i64 0,Value.int .i64 0,Value.string "".toUTF8] (k - l.length)) 66)) ⟨(w.alloc (.cells #[] 66)).heap.size,j,none⟩)=some (cellC l j):=by
   intro j hj;rw [jA]
   rw [Array.getElem?_append_left (by simp;omega)]
   rw [List.getElem?_toArray,List.getElem?_map,List.getElem?_range hj,Option.map_some]
  have R2:=R1.newRow (e:=66) (fr:=(0,0)) { dst:=some 0,op:=.move (.tmp 0),type:=0,pos:="",after:=#[],guard:=none } (fun t ht=>by cases ht;exact (by decide:0<1)) (t:=uj) (l:=l) (cells:=((List.range (l.length*5)).map (cellC l)).toArray++Builtin.zeroCells #[Value.int .i64 0,Value.int .i64 0,Value.int .i64 0,Value.int .i64 0,Value.string "".toUTF8] (k - l.length)) (c:=k)
   (fun i hi=>by
    obtain ⟨h1,h2,⟨h3,h4,-⟩,⟨s,h5,h6,h7⟩,-⟩:=hr i hi;have h6:d9 s=(l[i]).2.2.2.1:=h6
    have ce:∀ q,q<5→cellC l (i*5+q)=(aeb l[i])[q]!:=by
     intro q hq;unfold cellC
     rw [show (i*5+q) / 5=i by omega,show (i*5+q)%5=q by omega,dV hi]
    have c0:=hcell (i*5+0) (by omega)
    have c1:=hcell (i*5+1) (by omega)
    have c2:=hcell (i*5+2) (by omega)
    have c3:=hcell (i*5+3) (by omega)
    have c4:=hcell (i*5+4) (by omega)
    rw [ce 0 (by omega)] at c0
    rw [ce 1 (by omega)] at c1
    rw [ce 2 (by omega)] at c2
    rw [ce 3 (by omega)] at c3
    rw [ce 4 (by omega)] at c4
    refine ⟨⟨?_,h1.2⟩,⟨?_,h2.2⟩,⟨⟨?_,h3.2⟩,⟨?_,h4.2⟩,trivial⟩,⟨bs (l[i]).2.2.2.1,?_,?_,h7⟩,trivial⟩
    ·rw [show 0+i*uj.nc=i*5+0 from by show 0+i*5=_;omega];exact c0
    ·rw [show 0+i*uj.nc+(Ty.int IntKind.i64).nc=i*5+1 from by show 0+i*5+1=_;omega];exact c1
    ·rw [show 0+i*uj.nc+(Ty.int IntKind.i64).nc+(Ty.int IntKind.i64).nc=i*5+2 from by show 0+i*5+1+1=_;omega];exact c2
    ·rw [show 0+i*uj.nc+(Ty.int IntKind.i64).nc+(Ty.int IntKind.i64).nc+(Ty.int IntKind.i64).nc=i*5+3 from by show 0+i*5+1+1+1=_;omega];exact c3
    ·show World.cell? _ ⟨_,0+i*5+1+1+2,none⟩=_
     rw [show 0+i*5+1+1+2=i*5+4 by omega];exact c4
    ·rw [←h6,EA])
   hk (by rw [hcs];exact dQ _) (fun o ho=>by simp only;omega) (by show l.length*48≤140737488355328;exact hb) (by decide)
  have R3:=R2.drew (w':=((w.alloc (.cells #[] 66)).alloc (.cells (((List.range (l.length*5)).map (cellC l)).toArray++Builtin.zeroCells #[Value.int .i64 0,Value.int .i64 0,Value.int .i64 0,Value.int .i64 0,Value.string "".toUTF8] (k - l.length)) 66)).drew) rfl rfl rfl rfl;rw [hsz] at R3
  have g1:∀ id,get ((0,D.sl 2 uj l)::(0,D.sl 2 uj ([]:List uj.den))::bY c60 ((),l,())) (2*id+1) = .undef:=by
   intro id;show get [(0,_),(0,_),(0,D.sl 0 uj l)] (2*id+1) = .undef
   have e0:Nat.beq (2*id+1) 0=false:=uD (by omega)
   simp only [get,e0,bU]
  exact hK #[.slice (some ⟨w.heap.size+1,0,none⟩) l.length k] _ G pt (R3.Uf g1)
theorem arh:gy Tryz.prog B 60 c60:=⟨by decide,fun _=>akQ,fun x h=>(by cases h),Tryz.f60,Tryz.func60,by kernel_rfl,by kernel_rfl⟩
set_option maxRecDepth 100000 in
set_option maxHeartbeats 2000000 in
theorem Ku (x:Int) (w:World):Calls Tryz.prog 166 #[.int .i64 x] w fun e w'=>e = .returned (.bool false)∧w' = w:=by
 go_enter Tryz.func166,Tryz.ntmps166
 go_wp2
 go_ret
 first | exact ⟨rfl,rfl⟩ | simp
set_option maxRecDepth 100000 in
set_option maxHeartbeats 2000000 in
theorem Kv (x:ByteArray) (w:World):Calls Tryz.prog 167 #[.string x] w fun e w'=>e = .returned (.bool false)∧w' = w:=by
 go_enter Tryz.func167,Tryz.ntmps167
 go_wp2
 go_ret
 first | exact ⟨rfl,rfl⟩ | simp
set_option maxRecDepth 100000 in
set_option maxHeartbeats 2000000 in
theorem Kw (x y:Int) (w:World):Calls Tryz.prog 120 #[.int .i64 x,.int .i64 y] w fun e w'=>e = .returned (.int .i64 (ah.gV x y))∧w' = w:=by
 have ari:=fun z W=>Ku z W
 go_enter Tryz.func120,Tryz.ntmps120
 go_wp2_with (go_at_call 166;refine (ari _ _).mono ?_;rintro e w' ⟨rfl,rfl⟩)
 all_goals go_ret
 all_goals (unfold ah.gV;try simp [*])
 all_goals (rw [dF (show ¬ x<y by omega)];first | rfl | (rw [dF (show ¬ y<x by omega)];rfl))
theorem Zo (s t:ByteArray) (w:World):(binOp .gtr 9 (.string s) (.string t)).run Tryz.prog w = .ok (.bool (!(bC (d9 s) (d9 t) || d9 s==d9 t))) w:=by
 have e1:(s.toList==t.toList)=(d9 s==d9 t):=DV
 have e2:Op.bytesLess s.toList t.toList=bC (d9 s) (d9 t):=by rw [lU,ByteArray.toList_eq,ByteArray.toList_eq];rfl
 simp only [binOp,Op.stringOp,e1,e2];rfl
set_option maxRecDepth 100000 in
set_option maxHeartbeats 2000000 in
theorem Ky (x y:ByteArray) (w:World):Calls Tryz.prog 121 #[.string x,.string y] w fun e w'=>e = .returned (.int .i64 (ah.ug (d9 x) (d9 y)))∧w' = w:=by
 have arj:=fun z W=>Kv z W
 go_enter Tryz.func121,Tryz.ntmps121
 go_wp2_with (go_at_call 167;refine (arj _ _).mono ?_;rintro e w' ⟨rfl,rfl⟩)
 ·rename_i h
  rw [show Op.bytesLess x.toList y.toList=bC (d9 x) (d9 y) by rw [lU,ByteArray.toList_eq,ByteArray.toList_eq];rfl] at h
  go_ret
  unfold ah.ug;rw [h];exact ⟨rfl,rfl⟩
 ·have h:Op.bytesLess x.toList y.toList=false:=by assumption
  rw [show Op.bytesLess x.toList y.toList=bC (d9 x) (d9 y) by rw [lU,ByteArray.toList_eq,ByteArray.toList_eq];rfl] at h
  rw [Zo];simp only [Result.andThen];rw [Oper.upon_value]
  cases hb:(d9 x==d9 y) with
  | true=>
   rw [h];simp only [Bool.or_true,Bool.not_true]
   go_wp2
   go_ret
   unfold ah.ug;rw [h,hb];exact ⟨rfl,rfl⟩
  | false=>
   rw [h];simp only [Bool.or_self,Bool.not_false]
   go_wp2
   go_ret
   unfold ah.ug;rw [h,hb];exact ⟨rfl,rfl⟩
theorem IG (l:List Int) (i:Nat) (h:i<l.length):ah.eH (l.drop i)=bif decide (l.getD i 0=0) then ah.eH (l.drop (i+1)) else l.getD i 0:=by
 rw [List.drop_eq_getElem_cons h]
 have:l.getD i 0=l[i]:=by rw [yP,List.getElem?_eq_getElem h];rfl
 rw [this];rfl
set_option maxRecDepth 100000 in
set_option maxHeartbeats 2000000 in
theorem Kz (b:Nat) (l:List Int) (w:World) (hl:l.length<1000) (hc:∀ j:Nat,j<l.length→w.cell? ⟨b,j,none⟩=some (.int .i64 (l.getD j 0))) :
 Calls Tryz.prog 119 #[.slice (some ⟨b,0,none⟩) l.length l.length] w fun e w'=>e = .returned (.int .i64 (ah.eH l))∧w' = w:=by
 obtain ⟨n,hn⟩:∃ n:Nat,n=l.length:=⟨_,rfl⟩
 rw [←hn] at hl hc ⊢;have H:=Go.Lib.hid hc;clear hc;have N:=Go.Lib.hid hn;clear hn
 go_enter Tryz.func119,Tryz.ntmps119
 go_wp2
 go_loop [8] (fun i=>∃ k:Nat,k≤n∧i = .int .i64 k∧ah.eH (l.drop k)=ah.eH l) (fun i=>n - (RowKit.intOf i).toNat)
 case atStart=>exact ⟨0,fG _,rfl,by rw [List.drop_zero]⟩
 case round=>
  obtain ⟨k,hk,rfl,hf⟩:=hrel;have F:=Go.Lib.hid hf;clear hf
  by_cases h:k<n
  ·have hck:=H.out k h
   obtain ⟨v,hv⟩:∃ v,v=l.getD k 0:=⟨_,rfl⟩
   rw [←hv] at hck;have V:=Go.Lib.hid hv;clear hv
   have h1:(0:Int)≤(k:Int):=by omega
   have h2:(k:Int)<(n:Int):=by omega
   go_wp2
   ·have hz:(v != 0)=true:=by assumption
    go_ret
    have e:=V.out
    have hz:v≠0:=by simpa using hz
    rw [←F.out,IG l k (by rw [←N.out];exact h),←e,dF hz]
    exact ⟨rfl,rfl⟩
   ·have hz:(v != 0)=false:=by assumption
    have hz:v=0:=by simpa using hz
    have e:=V.out
    go_round
    case rel=>exact ⟨k+1,by omega,by go_num,by rw [←F.out,IG l k (by rw [←N.out];exact h),←e,dT hz];rfl⟩
    case measure=>simp [RowKit.intOf];omega
  ·have e:k=n:=by omega
   subst e
   go_wp2
   go_ret
   rw [←F.out,N.out,List.drop_length];exact ⟨rfl,rfl⟩
def encR (x:ah.Rc):List Value:=[.int .i64 x.1,.int .i64 x.2.1,.int .i64 x.2.2.1.1,.int .i64 x.2.2.1.2.1,.string (bs x.2.2.2.1)]
theorem II {W:World} {a b:Obj} {c:Array Value} {e:Nat} {j:Nat}:World.cell? ((((W.alloc a).alloc b).alloc (.cells c e)).drew) ⟨W.heap.size+1+1,j,none⟩=c[j]?:=by
 have h:((W.alloc a).alloc b).heap.size=W.heap.size+1+1:=by
  show ((W.heap.push _).push _).size=_;rw [Array.size_push,Array.size_push]
 rw [←h];show World.cell? (((W.alloc a).alloc b).alloc (.cells c e)) _=_;exact jA c e _ j
set_option maxRecDepth 100000 in
set_option maxHeartbeats 12800000 in
theorem OV (x y:ah.Rc) (W:World):Calls Tryz.prog 62 #[.agg (encR x).toArray,.agg (encR y).toArray] W fun e w'=>e = .returned (.int .i64 (ah.JL (Dr x) (Dr y)))∧∃ q os',w' = grow (W.drewN q) os':=by
 obtain ⟨x0,x1,⟨x2,x3,⟨⟩⟩,x4,⟨⟩⟩:=x;obtain ⟨y0,y1,⟨y2,y3,⟨⟩⟩,y4,⟨⟩⟩:=y;show Calls Tryz.prog 62 #[.agg #[.int .i64 x0,.int .i64 x1,.int .i64 x2,.int .i64 x3,.string (bs x4)],.agg #[.int .i64 y0,.int .i64 y1,.int .i64 y2,.int .i64 y3,.string (bs y4)]] W _;have hfin:ah.JL (Dr (x0,x1,(x2,x3,()),x4,())) (Dr (y0,y1,(y2,y3,()),y4,()))=ah.eH [ah.gV x0 y0,ah.gV x1 y1,ah.gV x2 y2,ah.gV x3 y3,ah.ug (d9 (bs x4)) (d9 (bs y4))]:=rfl;rw [hfin];clear hfin;generalize bs x4=sx;generalize bs y4=sy
 have h119:∀ (b:Nat) (w:World),w.cell? ⟨b,0,none⟩=some (.int .i64 (ah.gV x0 y0))→w.cell? ⟨b,1,none⟩=some (.int .i64 (ah.gV x1 y1))→w.cell? ⟨b,2,none⟩=some (.int .i64 (ah.gV x2 y2))→w.cell? ⟨b,3,none⟩=some (.int .i64 (ah.gV x3 y3))→w.cell? ⟨b,4,none⟩=some (.int .i64 (ah.ug (d9 sx) (d9 sy))) →
  Calls Tryz.prog 119 #[.slice (some ⟨b,0,none⟩) 5 5] w fun e w'=>e = .returned (.int .i64 (ah.eH [ah.gV x0 y0,ah.gV x1 y1,ah.gV x2 y2,ah.gV x3 y3,ah.ug (d9 sx) (d9 sy)]))∧w' = w:=by
  intro b w k0 k1 k2 k3 k4
  refine Kz b [ah.gV x0 y0,ah.gV x1 y1,ah.gV x2 y2,ah.gV x3 y3,ah.ug (d9 sx) (d9 sy)] w (show (5:Nat)<1000 by decide) fun j hj=>?_
  have hj:j<5:=hj
  rcases (by omega:j=0∨j=1∨j=2∨j=3∨j=4) with rfl | rfl | rfl | rfl | rfl<;>assumption
 go_enter Tryz.func62,Tryz.ntmps62
 go_wp2
 go_region_held3 (fun w'=>w'.cell? ⟨W.heap.size,0,none⟩=some (.int .i64 x0)∧w'.cell? ⟨W.heap.size,1,none⟩=some (.int .i64 x1)∧w'.cell? ⟨W.heap.size,2,none⟩=some (.int .i64 x2)∧w'.cell? ⟨W.heap.size,3,none⟩=some (.int .i64 x3)∧w'.cell? ⟨W.heap.size,4,none⟩=some (.string sx) ∧
  w'.cell? ⟨W.heap.size+1,0,none⟩=some (.int .i64 y0)∧w'.cell? ⟨W.heap.size+1,1,none⟩=some (.int .i64 y1)∧w'.cell? ⟨W.heap.size+1,2,none⟩=some (.int .i64 y2)∧w'.cell? ⟨W.heap.size+1,3,none⟩=some (.int .i64 y3)∧w'.cell? ⟨W.heap.size+1,4,none⟩=some (.string sy)) (go_keep)
  (first | (go_at_call 120;refine (Kw _ _ _).mono ?_;rintro e w' ⟨rfl,rfl⟩) | (go_at_call 121;refine (Ky _ _ _).mono ?_;rintro e w' ⟨rfl,rfl⟩) | (go_at_call 119;refine (h119 _ _ (by exact II) (by exact II) (by exact II) (by exact II) (by exact II)).mono ?_;rintro e w' ⟨rfl,rfl⟩))
 all_goals go_wp2
 all_goals go_ret
 all_goals exact ⟨rfl,1,_,by
  show World.drew _=_;rw [alloc_eq_grow,alloc_eq_grow,alloc_eq_grow,grow_grow,grow_grow]
  rfl⟩
end Go.gI.qJ
namespace Go.gI.qJ
open Go Go.Proofs Go.Shelf
def uE:Go.Shelf.Ren:=⟨fun | 6=>61 | 15=>118 | 14=>117 | 28=>164 | 29=>165 | 20=>156 | 21=>157 | 22=>158 | 23=>159 | 24=>160 | 25=>161 | 26=>162 | 27=>163 | 46=>186 | 47=>187 | 48=>188 | 49=>189 | 50=>190 | 57=>199 | n=>n,fun | 22=>54 | 24=>66 | 25=>130 | 3=>3 | 39=>127 | 0=>0 | 53=>240 | 55=>43 | 4=>4 | 46=>262 | 45=>261 | 50=>117 | 5=>5 | 9=>9 | 66=>285 | 70=>289 | 76=>296 | 77=>297 | n=>n,fun | n=>n⟩
theorem Uh:Go.Proofs.SlLaysF0.n6 Tryz.prog uE:={
 mixed:=by kernel_rfl
 f6:=⟨Tryz.f61.name,by decide,Tryz.func61.trans (congrArg some (by kernel_rfl))⟩
 f14:=⟨Tryz.f117.name,by decide,Tryz.func117.trans (congrArg some (by kernel_rfl))⟩
 f15:=Tryz.func118.trans (congrArg some (by kernel_rfl))
 f20:=⟨Tryz.f156.name,by decide,Tryz.func156.trans (congrArg some (by kernel_rfl))⟩
 f21:=⟨Tryz.f157.name,by decide,Tryz.func157.trans (congrArg some (by kernel_rfl))⟩
 f22:=⟨Tryz.f158.name,by decide,Tryz.func158.trans (congrArg some (by kernel_rfl))⟩
 f23:=⟨Tryz.f159.name,by decide,Tryz.func159.trans (congrArg some (by kernel_rfl))⟩
 f24:=⟨Tryz.f160.name,by decide,Tryz.func160.trans (congrArg some (by kernel_rfl))⟩
 f25:=⟨Tryz.f161.name,by decide,Tryz.func161.trans (congrArg some (by kernel_rfl))⟩
 f26:=⟨Tryz.f162.name,by decide,Tryz.func162.trans (congrArg some (by kernel_rfl))⟩
 f27:=⟨Tryz.f163.name,by decide,Tryz.func163.trans (congrArg some (by kernel_rfl))⟩
 f28:=Tryz.func164.trans (congrArg some (by kernel_rfl))
 f29:=Tryz.func165.trans (congrArg some (by kernel_rfl))
 f46:=⟨Tryz.f186.name,by decide,Tryz.func186.trans (congrArg some (by kernel_rfl))⟩
 f47:=Tryz.func187.trans (congrArg some (by kernel_rfl))
 f48:=Tryz.func188.trans (congrArg some (by kernel_rfl))
 f49:=⟨Tryz.f189.name,by decide,Tryz.func189.trans (congrArg some (by kernel_rfl))⟩
 f50:=⟨Tryz.f190.name,by decide,Tryz.func190.trans (congrArg some (by kernel_rfl))⟩
 f57:=⟨Tryz.f199.name,by decide,Tryz.func199.trans (congrArg some (by kernel_rfl))⟩
 t0:=Tryz.underlying0
 a0:=Tryz.isAgg0
 z0:=Tryz.sizeOf0
 v0:=Tryz.zeroValue0
 t3:=Tryz.underlying3
 a3:=Tryz.isAgg3
 z3:=Tryz.sizeOf3
 v3:=Tryz.zeroValue3
 t4:=Tryz.underlying4
 a4:=Tryz.isAgg4
 z4:=Tryz.sizeOf4
 v4:=Tryz.zeroValue4
 t5:=Tryz.underlying5
 a5:=Tryz.isAgg5
 z5:=Tryz.sizeOf5
 v5:=Tryz.zeroValue5
 t9:=Tryz.underlying9
 a9:=Tryz.isAgg9
 z9:=Tryz.sizeOf9
 v9:=Tryz.zeroValue9
 t22:=Tryz.underlying54
 a22:=Tryz.isAgg54
 z22:=Tryz.sizeOf54
 v22:=Tryz.zeroValue54
 t25:=Tryz.underlying130
 a25:=Tryz.isAgg130
 z25:=Tryz.sizeOf130
 v25:=Tryz.zeroValue130
 t39:=Tryz.underlying127
 a39:=Tryz.isAgg127
 z39:=Tryz.sizeOf127
 v39:=Tryz.zeroValue127
 t45:=Tryz.underlying261
 a45:=Tryz.isAgg261
 z45:=Tryz.sizeOf261
 v45:=Tryz.zeroValue261
 t46:=Tryz.underlying262
 a46:=Tryz.isAgg262
 z46:=Tryz.sizeOf262
 v46:=Tryz.zeroValue262
 t50:=Tryz.underlying117
 a50:=Tryz.isAgg117
 z50:=Tryz.sizeOf117
 v50:=Tryz.zeroValue117
 t53:=Tryz.underlying240
 a53:=Tryz.isAgg240
 z53:=Tryz.sizeOf240
 v53:=Tryz.zeroValue240
 t55:=Tryz.underlying43
 a55:=Tryz.isAgg43
 z55:=Tryz.sizeOf43
 v55:=Tryz.zeroValue43
 t66:=Tryz.underlying285
 a66:=Tryz.isAgg285
 z66:=Tryz.sizeOf285
 v66:=Tryz.zeroValue285
 t70:=Tryz.underlying289
 a70:=Tryz.isAgg289
 z70:=Tryz.sizeOf289
 v70:=Tryz.zeroValue289
 t76:=Tryz.underlying296
 a76:=Tryz.isAgg296
 z76:=Tryz.sizeOf296
 v76:=Tryz.zeroValue296
 t77:=Tryz.underlying297
 a77:=Tryz.isAgg297
 z77:=Tryz.sizeOf297
 v77:=Tryz.zeroValue297 }
open Go.Sort Go.RowKit
theorem Ui:ltOf (fun x y:ah.Rc=>ah.JL (Dr x) (Dr y))=Hz:=by
 funext x y
 rfl
theorem ark:SWO (ltOf (fun x y:ah.Rc=>ah.JL (Dr x) (Dr y))):=by
 rw [Ui];exact YD
theorem arl:∀ args w,(callFunc 62 args).run Tryz.prog w = .ok (.enter 62 args) w:=enters_of Tryz.func62 (by kernel_rfl) rfl
theorem flat_get (d:Array ah.Rc) (j:Nat) (hj:j<d.size) (q:Nat) (hq:q<5):(flatK encR 5 d)[j*5+q]! = (encR d[j]!)[q]!:=by
 rw [get_flatK encR 5 d (j*5+q) (by omega),show (j*5+q) / 5=j by omega,show (j*5+q)%5=q by omega]
theorem aec {w:World} {G:Nat→Nat} {l:List ah.Rc} {b:Nat} (hr:fJ w G Rh l b 0) (hm:Room w b (l.length*5)):HoldsK encR 5 w b 0 l.toArray:=by
 intro j hj;rw [size_flatK] at hj
 have hj:j<l.length*5:=by simpa using hj
 refine ⟨?_,(hm.some (j:=0+j) (by omega)).2⟩
 have hi:j / 5<l.length:=by omega
 obtain ⟨h1,h2,⟨h3,h4,-⟩,⟨s,h5,h6,h7⟩,-⟩:=hr (j / 5) hi;have h6:d9 s=(l[j / 5]).2.2.2.1:=h6
 have f:=flat_get l.toArray (j / 5) (by simpa using hi) (j%5) (by omega)
 have hd:l.toArray[j / 5]! = l[j / 5]:=by
  rw [getElem!_pos l.toArray (j / 5) (by simpa using hi)]
  simp
 rw [hd,show j / 5*5+j%5=j by omega] at f
 rw [f];unfold encR
 rcases (by omega:j%5=0∨j%5=1∨j%5=2∨j%5=3∨j%5=4) with h | h | h | h | h
 ·rw [h,show 0+j=0+j / 5*5 by omega];exact h1.1
 ·rw [h,show 0+j=0+j / 5*5+1 by omega];exact h2.1
 ·rw [h,show 0+j=0+j / 5*5+1+1 by omega];exact h3.1
 ·rw [h,show 0+j=0+j / 5*5+1+1+1 by omega];exact h4.1
 ·rw [h,show 0+j=0+j / 5*5+1+1+1+1 by omega,←h6,EA];exact h5
theorem Zp {w:World} {b:Nat} {d d':Array (ah.Rc)} (h:HoldsK encR 5 w b 0 d) (hs:d'.size=d.size):putRowK encR 5 w b 0 d' = w.setCells b 0 (flatK encR 5 d').toList:=by
 have e0:putRow id w b 0 (flatK encR 5 d)=w:=putRow_self id w b 0 _ h
 have e1:=setCells_putRow w b 0 (flatK encR 5 d').toList 0 (flatK encR 5 d) (by simp [hs])
 rw [e0] at e1;rw [Nat.add_zero] at e1;rw [e1];unfold putRowK
 congr 1
 refine ext_get! (by simp [hs]) fun t ht=>?_
 have ht2:t<(flatK encR 5 d).size:=by rw [size_flatK] at ht ⊢;omega
 rw [get_setMany _ _ _ _ ht2,if_pos ⟨fG _,by simpa using ht⟩,Nat.sub_zero]
 rw [getElem!_pos _ t ht,getElem!_pos _ t (by simpa using ht)]
 simp
theorem Uj {dst st:Nat} {l:List (D×D)} {g:Bool} {u:St} (h:WZ dst st l=some (g,u)):∃ X s2 r,l=[(.gZ X s2,.aW s2 true false Rh r),(.BS 62,(l.getD 1 (.undef,.undef)).2)]∧g=true ∧
 u=[(2*X+1,.aW s2 true false Rh (cO r)),(2*dst,.undef)]:=by
 unfold WZ at h;split at h
 ·rename_i X sx s2 r z
  cases hb:Nat.beq sx s2 with
  | false=>rw [hb] at h;cases h
  | true=>
   rw [hb] at h;have:=dM hb;subst this;simp only [aQ,bq,eX] at h;exact ⟨X,sx,r,rfl,h.1.symm,h.2.symm⟩
 ·cases h
theorem akR {α β:Type} {f:α→β} {l:List α} {a b:β} (h:l.map f=[a,b]):∃ x y,l=[x,y]∧f x=a∧f y=b:=by
 match l,h with
 | [x,y],h=>simp at h;exact ⟨x,y,rfl,h⟩
 | [],h=>simp at h
 | [_],h=>simp at h
 | _::_::_::_,h=>simp at h
end Go.gI.qJ
namespace Go.gI.qJ
open Go Go.Proofs Go.Sort Go.RowKit Go.Shelf
set_option maxRecDepth 100000
theorem OW {w:World} {G:Nat→Nat} {l:List (ah.Rc)} {b c:Nat} (hr:fJ w G Rh l b 0) (hm:Room w b (l.length*5)) (hb:b<w.heap.size) (hsz:l.length<4611686018427387904) :
 Calls Tryz.prog 61 #[.slice (some ⟨b,0,none⟩) l.length c,.func (.func 62) #[] #[]] w fun e w'=>e = .returned (.tuple #[])∧∃ n os,w' = grow (Go.Sort.ahead (w.setCells b 0 (flatK encR 5 (cO l).toArray).toList) n) os:=by
 have hH:=aec hr hm
 have h:=AnyQ.slices_SortFunc_eq (P:=Tryz.prog) (ρ:=uE) Uh 5 Tryz.isAgg66 Tryz.sizeOf66 encR (fun _=>rfl) (fun x v hv=>by simp [encR] at hv;rcases hv with rfl | rfl | rfl | rfl | rfl<;>rfl) (fun x y:ah.Rc=>ah.JL (Dr x) (Dr y)) ark 62 #[] b 0 c l.toArray w arl
  (fun m os dk hs x y=>OV x y _) hH hb (by simpa using hsz)
 have h:Calls Tryz.prog 61 #[.slice (some ⟨b,0,none⟩) l.toArray.size c,.func (.func 62) #[] #[]] w _:=h
 rw [show l.toArray.size=l.length from by simp] at h
 refine h.mono ?_;rintro e w' ⟨rfl,n,os,rfl⟩;refine ⟨rfl,n,os,?_⟩;unfold sortWorldK;rw [Ui]
 have hs:(cO l).toArray=Sort.pdq Hz l.toArray 0 l.length (Go.Lib.bitLen l.length) true true:=by
  unfold cO;simp
 rw [←hs]
 congr 1
 show putRow id (Go.Sort.ahead w n) b 0 (flatK encR 5 (cO l).toArray)=_;rw [putRow_ahead]
 congr 1
 refine Zp hH ?_;rw [hs]
 obtain ⟨⟨k1,-,-⟩,-⟩:=Go.Sort.pdq_sorts Hz YD l.toArray 0 l.length (Go.Lib.bitLen l.length) true true (fG _) (by simp) (.inl rfl)
 exact k1
theorem Uk {E:Env} {C:Ctx} {s:St} {a:Act} {w:World} {G:Nat→Nat} {pt:Nat→Nat→Option Value} (R:Rel E C s a w G pt) (os:Array Obj) (o:Oper) (t:Nat) (hdst:o.dst=some t) (ht:t<E.n) (v:Value) :
 Rel E C ((2*t,.undef)::s) (a.put o.dst v) (grow w os) G pt:=by
 have h:=R.put o (fun u hu=>by rw [hdst] at hu;cases hu;exact ht) (w':=grow w os) (G':=G) (d':=.undef) (v':=v) (fun _=>False)
  ⟨fun b j hj=>by
   have hb:b<w.heap.size:=by
    rcases Nat.lt_or_ge b w.heap.size with h | h
    ·exact h
    ·rw [R.gz b h] at hj;exact absurd hj (by omega)
   unfold World.cell? grow;simp only
   rw [Array.getElem?_append_left hb],fun _=>dQ _⟩
  (fun b _ hb=>⟨by show (w.heap++os)[b]? = _;rw [Array.getElem?_append_left hb],rfl⟩) (fun b h=>h.elim) trivial (fun b=>by
   rw [dX]
   exact ⟨fG _,fun h=>absurd h (by omega)⟩) (fun b hb=>R.gz b (by
    have:(grow w os).heap.size=w.heap.size+os.size:=by show (w.heap++os).size=_;rw [Array.size_append]
    omega)) rfl rfl rfl (by show w.heap.size≤(w.heap++os).size;rw [Array.size_append];omega)
 rw [nU hdst] at h;exact h
theorem Ul {w:World}:Calls Tryz.prog 61 #[.slice none 0 0,.func (.func 62) #[] #[]] w fun e w'=>e = .returned (.tuple #[])∧w' = w:=
 AnyF.slices_SortFunc_none (P:=Tryz.prog) (ρ:=uE) Uh none 0 (.func (.func 62) #[] #[]) w
theorem aed:agj Tryz.prog B.glob 61 WZ:=by
 intro E C o cl s a w G pt t u _ hm ht hdst hop hcl R hx;obtain ⟨X,s2,r,hl,-,hu⟩:=Uj hx;subst hu;obtain ⟨x0,x1,hargs,e0,e1⟩:=akR hl;have p0:aX s x0 = .gZ X s2:=congrArg Prod.fst e0;have q0:Qc s (aX s x0) = .aW s2 true false Rh r:=congrArg Prod.snd e0;have p1:aX s x1 = .BS 62:=congrArg Prod.fst e1;rw [p0] at q0;have q0:get s (2*X+1) = .aW s2 true false Rh r:=q0;have r0:=aV R x0;rw [p0] at r0;have r1:=aV R x1;rw [p1] at r1;have r0:pt X s2=some (a.eval x0):=r0;have r1:a.eval x1 = .func (.func 62) #[] #[]:=r1;have hB:=R.bx X;rw [q0] at hB;have hB:=hB rfl;simp only [sI,if_false] at hB;obtain ⟨ad,n,c,h1,hn,hbd,hsl⟩:=hB
 have hv:a.eval x0 = .slice ad n c:=by rw [r0] at h1;exact Option.some.inj h1
 intro K Q hK
 have hrun:(execOp a.eval o).run Tryz.prog w = .ok (.enter 61 (cl.args.map a.eval)) w:=by
  have e:execOp a.eval o=callFunc 61 (#[]++cl.args.map a.eval++#[]):=by
   simp only [execOp,hop,resolve,hcl];rfl
  rw [e];simp only [callFunc]
  have h2:¬ Tryz.f61.name = "runtime.NumGoroutine":=by decide
  have h3b:Tryz.f61.body.isNone=false:=by kernel_rfl
  have h3:¬ Tryz.f61.body=none:=fun h=>by rw [h] at h3b;cases h3b
  simp [go_sem,Tryz.func61,h2,h3]
 unfold Oper.wp;rw [hrun,Oper.upon_enter]
 have ha:cl.args.map a.eval = #[.slice ad n c,.func (.func 62) #[] #[]]:=by
  apply Array.ext';rw [Array.toList_map,hargs];simp only [List.map_cons,List.map_nil,hv,r1]
 rw [ha]
 have hts:∀ {w':World} (R':Rel E C ((2*X+1,.aW s2 true false Rh (cO r))::s) a w' G pt) (n:Nat) (os:Array Obj),
  Rel E C (aA [(2*X+1,.aW s2 true false Rh (cO r)),(2*t,.undef)] s) (a.put o.dst (.tuple #[])) (grow (Go.Sort.ahead w' n) os) G pt:=by
  intro w' R' n os;exact Uk (R'.world (w':=Go.Sort.ahead w' n) rfl rfl rfl rfl) os o t hdst ht _
 rcases hsl with ⟨h5,h6,h7⟩ | ⟨b,h5,h6,h7,h8,h9,h10⟩
 ·subst h5 h7
  have h6:r=[]:=h6;subst h6;have hn:n=0:=hn;subst hn;refine (Ul).mono ?_;rintro e w' ⟨rfl,rfl⟩;have e0:cO []=[]:=(kM []).eq_nil
  have R1:Rel E C ((2*X+1,.aW s2 true false Rh (cO []))::s) a w' G pt:=by
   rw [e0]
   refine R.congr fun k=>?_
   rw [aH];split
   ·rename_i hk;rw [hk,q0]
   ·rfl
  have R2:=hts R1 0 #[]
  rw [show grow (Go.Sort.ahead w' 0) #[]=w' from by rw [grow_empty];rfl] at R2
  exact hK _ _ _ _ R2
 ·subst h5
  have hn:n=r.length:=hn;subst hn;have hbd:r.length*48≤140737488355328:=hbd
  have hroom:Room w b (r.length*5):=by
   obtain ⟨cur,e,fr,k1,k2,k3⟩:=h7;exact ⟨cur,e,fr,k1,jQ (sW _ h8) k2,k3⟩
  have hblk:bH (pt X s2)=some b:=by rw [h1];rfl
  have hbs:b<w.heap.size:=by
   obtain ⟨cur,e,fr,k1,-,-⟩:=h7
   rcases Nat.lt_or_ge b w.heap.size with h | h
   ·exact h
   ·rw [Array.getElem?_eq_none h] at k1;cases k1
  refine (OW h9 hroom hbs (by omega)).mono ?_
  rintro e w' ⟨rfl,q,os,rfl⟩;have hlen:(cO r).length=r.length:=(kM r).length_eq
  have hvs:(flatK encR 5 (cO r).toArray).toList.length=r.length*5:=by simp [hlen]
  have R1:=R.uT (t:=Rh) (l:=r) (off:=0) (vs:=(flatK encR 5 (cO r).toArray).toList) (l':=cO r) q0 hblk hlen (by
   intro i hi;have hi:i<(cO r).length:=hi
   have hd:(cO r).toArray[i]! = (cO r)[i]:=by
    rw [getElem!_pos (cO r).toArray i (by simpa using hi)]
    simp
   have hsz:(flatK encR 5 (cO r).toArray).size=r.length*5:=by simp [hlen]
   have hmem:(cO r)[i]∈r:=(kM r).subset (List.getElem_mem _);obtain ⟨k,hk,hke⟩:=List.getElem_of_mem hmem;obtain ⟨g1,g2,⟨g3,g4,-⟩,⟨s,g5,g6,g7⟩,-⟩:=h9 k hk;have g6:d9 s=(r[k]).2.2.2.1:=g6
   have hcell:∀ j,j<r.length*5→(w.setCells b 0 (flatK encR 5 (cO r).toArray).toList).cell? ⟨b,0+j,none⟩=some (flatK encR 5 (cO r).toArray)[j]!:=by
    intro j hj
    rw [wO hroom _ (by omega) (j:=j) (by rw [hvs];exact hj)]
    rw [getElem!_pos _ j (by rw [hsz];exact hj)]
    simp
   have cc:∀ q,q<5→(w.setCells b 0 (flatK encR 5 (cO r).toArray).toList).cell? ⟨b,0+(i*5+q),none⟩=some ((encR (cO r)[i])[q]!):=by
    intro q hq;have hlt:i<(cO r).length:=hi
    rw [hcell (i*5+q) (by omega),flat_get (cO r).toArray i (by simpa using hi) q hq,hd]
   have c0:=cc 0 (by omega)
   have c1:=cc 1 (by omega)
   have c2:=cc 2 (by omega)
   have c3:=cc 3 (by omega)
   have c4:=cc 4 (by omega)
   refine ⟨⟨?_,?_⟩,⟨?_,?_⟩,⟨⟨?_,?_⟩,⟨?_,?_⟩,trivial⟩,⟨bs ((cO r)[i]).2.2.2.1,?_,?_,?_⟩,trivial⟩
   ·show World.cell? _ ⟨b,0+i*5,none⟩=_
    rw [show 0+i*5=0+(i*5+0) by omega];exact c0
   ·have:=g1.2;rw [hke] at this;exact this
   ·show World.cell? _ ⟨b,0+i*5+1,none⟩=_
    rw [show 0+i*5+1=0+(i*5+1) by omega];exact c1
   ·have:=g2.2;rw [hke] at this;exact this
   ·show World.cell? _ ⟨b,0+i*5+1+1,none⟩=_
    rw [show 0+i*5+1+1=0+(i*5+2) by omega];exact c2
   ·have:=g3.2;rw [hke] at this;exact this
   ·show World.cell? _ ⟨b,0+i*5+1+1+1,none⟩=_
    rw [show 0+i*5+1+1+1=0+(i*5+3) by omega];exact c3
   ·have:=g4.2;rw [hke] at this;exact this
   ·show World.cell? _ ⟨b,0+i*5+1+1+2,none⟩=_
    rw [show 0+i*5+1+1+2=0+(i*5+4) by omega];exact c4
   ·rw [←hke,←g6,EA]
   ·rw [←hke];exact g7)
  exact hK _ _ _ _ (hts R1 q os)
end Go.gI.qJ
namespace Go.gI.qJ
open Go Go.Proofs Go.Sort Go.RowKit
set_option maxRecDepth 100000 in
set_option maxHeartbeats 2000000 in
theorem KA (x y:Int) (w:World):Calls Tryz.prog 106 #[.agg #[.int .i64 x,.int .i64 y]] w fun e w'=>e = .returned (.bool (ah.fM (x,y,())))∧w' = w.alloc (.cells #[.int .i64 x,.int .i64 y] 59):=by
 have e1:∀ v,ah.fM (x,y,())=v↔((decide (1≤x)&&decide (x≤99))&&(decide (1≤y)&&decide (y≤99)))=v:=fun v=>Iff.rfl
 go_enter Tryz.func106,Tryz.ntmps106
 go_wp2
 all_goals go_ret
 ·refine ⟨congrArg (fun b=>Ending.returned (.bool b)) ?_,rfl⟩
  rw [eq_comm,e1];rename_i h1 h2 h3;simp [h1,h2,h3]
 ·refine ⟨congrArg (fun b=>Ending.returned (.bool b)) ?_,rfl⟩
  rw [eq_comm,e1];rename_i h1 h2 h3;simp [show ¬ 1≤y by omega]
 ·refine ⟨congrArg (fun b=>Ending.returned (.bool b)) ?_,rfl⟩
  rw [eq_comm,e1];rename_i h1 h2;simp [show ¬ x≤99 by omega]
 ·refine ⟨congrArg (fun b=>Ending.returned (.bool b)) ?_,rfl⟩
  rw [eq_comm,e1];rename_i h1;simp [show ¬ 1≤x by omega]
set_option maxRecDepth 100000 in
set_option maxHeartbeats 2000000 in
theorem OX (x y:Int) (s:ByteArray) (w:World) (hs:s.size≤1000000):Calls Tryz.prog 51 #[.agg #[.int .i64 x,.int .i64 y],.string s] w fun e w'=>(∃ r n,e = .returned (.tuple #[.string r,.int .i64 n])∧ah.wrap (x,y,()) (d9 s)=(d9 r,n,()))∧∃ q os,w' = grow (w.drewN q) os:=by
 have arn:=fun W=>KA x y W
 go_enter Tryz.func51,Tryz.ntmps51
 go_wp2_with (go_at_call 106;refine (arn _).mono ?_;rintro e w' ⟨rfl,rfl⟩)
 ·have hv:ah.fM (x,y,())=false:=by cases h:ah.fM (x,y,())<;>simp_all
  go_ret2
  refine ⟨⟨_,_,rfl,?_⟩,0,#[_,_],by rw [alloc_eq_grow,alloc_eq_grow,grow_grow];rfl⟩
  unfold ah.wrap;rw [hv];rfl
 ·have hv:ah.fM (x,y,())=true:=by cases h:ah.fM (x,y,())<;>simp_all
  rename_i h
  go_ret2
  refine ⟨⟨_,_,rfl,?_⟩,0,#[_,_,_],by rw [alloc_eq_grow,alloc_eq_grow,alloc_eq_grow,grow_grow,grow_grow];rfl⟩
  unfold ah.wrap
  have hl:(d9 s).length=s.size:=by simp [d9]
  rw [hv,dT (show 64<(d9 s).length+2 by omega)];rfl
 ·have hv:ah.fM (x,y,())=true:=by cases h:ah.fM (x,y,())<;>simp_all
  rename_i h
  have hl:(d9 s).length=s.size:=by simp [d9]
  have hv2:(1≤x∧x≤99)∧(1≤y∧y≤99):=by
   have:((decide (1≤x)&&decide (x≤99))&&(decide (1≤y)&&decide (y≤99)))=true:=hv
   simpa using this
  have hb:∀ W:World,W.heap.size=w.heap.size+1+1→(convert 210 9 (.slice (some ⟨w.heap.size+1+1,0,none⟩) 2 2)).run Tryz.prog (W.alloc (.cells #[.int .u8 (x%256),.int .u8 (y%256)] 209)) = .ok (.string (strOfNums [x%256,y%256])) (W.alloc (.cells #[.int .u8 (x%256),.int .u8 (y%256)] 209)):=by
   intro W hW
   refine run_convert_bytes_arg (P:=Tryz.prog) (W.alloc (.cells #[.int .u8 (x%256),.int .u8 (y%256)] 209)) 210 5 (by kernel_rfl) (by kernel_rfl) (w.heap.size+1+1) 0 2 2 [x%256,y%256] rfl (fun i hi=>?_) 9 (by kernel_rfl)
   rw [←hW,Nat.zero_add,jA]
   rcases (by omega:i=0∨i=1) with rfl | rfl<;>rfl
  rw [hb _ (by simp)]
  simp only [Result.andThen];rw [Oper.upon_value]
  go_wp2
  ·exfalso
   rename_i hh;have e2:(strOfNums [x%256,y%256]).size=2:=rfl;omega
  ·go_ret2
   refine ⟨⟨_,_,rfl,?_⟩,0,#[_,_,_],by rw [alloc_eq_grow,alloc_eq_grow,alloc_eq_grow,grow_grow,grow_grow];rfl⟩
   have hx:x%256=x:=by omega
   have hy:y%256=y:=by omega
   have e1:d9 (strOfNums [x%256,y%256]++s)=x::y::d9 s:=by
    have e2:d9 (strOfNums [x%256,y%256]++s)=d9 (strOfNums [x%256,y%256])++d9 s:=by simp [d9]
    rw [e2,sK _ (by intro z hz;simp at hz;omega),hx,hy];rfl
   rw [e1];unfold ah.wrap
   rw [hv,dF (show ¬ 64<(d9 s).length+2 by omega)];rfl
theorem below_grow (w:World) (q:Nat) (os:Array Obj):Below w.heap.size w (grow (w.drewN q) os):=by
 refine ⟨rfl,rfl,rfl,?_,fun k hk=>?_⟩
 ·show w.heap.size≤(w.heap++os).size
  rw [Array.size_append];omega
 ·show (w.heap++os)[k]? = w.heap[k]?
  rw [Array.getElem?_append_left hk]
theorem IJ (d e:D):(∀ t,2≤t→get [(0,d),(2,e)] (2*t) = .undef)∧∀ id,get [(0,d),(2,e)] (2*id+1) = .undef:=by
 refine ⟨fun t ht=>?_,fun id=>?_⟩
 ·simp only [get,uD (show 2*t≠0 by omega),uD (show 2*t≠2 by omega),bU]
 ·simp only [get,uD (show 2*id+1≠0 by omega),uD (show 2*id+1≠2 by omega),bU]
theorem akS {E:Env}:rO Tryz.prog E 51 c51:=by
 rintro ⟨⟨⟩,⟨x,y,⟨⟩⟩,d,⟨⟩⟩ z hz C args w G pt hm gF hargs R K hK;obtain ⟨h1,h2⟩:=ah.iq hz;subst h2;have h1:d.length≤1000000:=of_decide_eq_true h1
 obtain ⟨v0,v1,rfl⟩:∃ v0 v1,args = #[v0,v1]:=by
  have:args.size=2:=hargs
  match args,this with
  | ⟨[v0,v1]⟩,_=>exact ⟨v0,v1,rfl⟩
 have t0:∃ arr,v0 = .agg arr∧arr.size=2∧aR w G pt [.int .i64 x,.int .i64 y] (aS arr):=R.tm 0
 have t1:∃ s,v1 = .string s∧d9 s=d∧d.length≤jo:=R.tm 1
 obtain ⟨arr,rfl,ha,hr⟩:=t0;obtain ⟨s,rfl,hs,hd⟩:=t1;have a0:aS arr 0 = .int .i64 x:=(hr 0 (Nat.zero_lt_succ _)).1.1;have a1:aS arr 1 = .int .i64 y:=(hr 1 (Nat.lt_succ_self 1)).1.1
 obtain rfl:arr = #[.int .i64 x,.int .i64 y]:=by
  match arr,ha with
  | ⟨[p,q]⟩,_=>
   have a0:p = .int .i64 x:=a0;have a1:q = .int .i64 y:=a1;rw [a0,a1]
 subst hs
 have hl:(d9 s).length=s.size:=by simp [d9]
 refine (OX x y s w (by omega)).mono ?_
 rintro e w' ⟨⟨r,n,rfl,hw⟩,q,os,rfl⟩
 have hb:(d9 r).length≤jo∧IntKind.i64.has n:=by
  have e1:d9 r=(ah.wrap (x,y,()) (d9 s)).1:=by rw [hw]
  have e2:n=(ah.wrap (x,y,()) (d9 s)).2.1:=by rw [hw]
  rw [e1,e2];unfold ah.wrap
  cases !ah.fM (x,y,()) with
  | true=>exact ⟨fG _,(by constructor<;>decide:IntKind.i64.has 2)⟩
  | false=>
   cases decide (64<(d9 s).length+2) with
   | true=>exact ⟨fG _,(by constructor<;>decide:IntKind.i64.has 3)⟩
   | false=>
    refine ⟨?_,(by constructor<;>decide:IntKind.i64.has 0)⟩
    show (x::y::d9 s).length≤jo;simp only [List.length_cons,jo];omega
 have hR:=Rel.done (E':=uG E c51.rs.num c51.bZ) R (below_grow w q os) (IJ _ _).2 (s':=gK c51 (ah.wrap (x,y,()) (d9 s),())) (n:=2) (vs:=#[.string r,.int .i64 n]) rfl (fun t=>by
  rw [hw]
  match t with
  | 0=>exact ⟨_,rfl,rfl,hb.1⟩
  | 1=>exact ⟨rfl,hb.2⟩
  | t+2=>rw [show get (gK c51 ((d9 r,n,()),())) (2*(t+2)) = .undef from (IJ _ _).1 (t+2) (by omega)];trivial) (fun t b=>by
  rw [hw]
  match t with
  | 0=>rfl
  | 1=>rfl
  | t+2=>rw [show get (gK c51 ((d9 r,n,()),())) (2*(t+2)) = .undef from (IJ _ _).1 (t+2) (by omega)];exact dX b _) (IJ _ _).2 (IJ _ _).1 rfl rfl
 exact hK _ _ _ _ hR
theorem aro:gy Tryz.prog B 51 c51:=⟨by decide,fun _=>akS,fun x h=>(by cases h),Tryz.f51,Tryz.func51,by kernel_rfl,by kernel_rfl⟩
end Go.gI.qJ
namespace Go.gI.qJ
open Go Go.Proofs
abbrev AL (L:List (Nat×aY)):Prop:=∀ g con,sN L g=some con→gy Tryz.prog B (g%1000000) con
theorem gq {L:List (Nat×aY)} (hL:AL L) {f:Nat} {fn:Func} (E:Env) (hE:mG Tryz.prog E) (hg:B.glob=E.glob) (plan:Plan) {c:aY} (hf:Tryz.prog.funcs[f%1000000]? = some fn) (hck:vI E fn c=true)
 (hF:∀ x y,c.okV x→c.F x=some y→(evF (fun _ _=>Loop) E (sN L) fn plan c x).den=some y):AL ((f,c)::L):=
 vK rfl (glue hE hg L hL plan hf hck hF) hL
theorem gr {L:List (Nat×aY)} (hL:AL L) {f:Nat} {fn:Func} (E:Env) (hE:mG Tryz.prog E) (hg:B.glob=E.glob) (plan:Plan) {c:aY} (hf:Tryz.prog.funcs[f%1000000]? = some fn) (hck:vI E fn c=true)
 (hF:∀ x,(evF (fun _ _=>Loop) E (sN L) fn plan c x).den=c.F x):AL ((f,c)::L):=
 gq hL E hE hg plan hf hck fun x y _ h=>(hF x).trans h
theorem akT:AL L68:=gq U4 E68 (cu _ _ _) rfl aaZ Tryz.func68 (by kernel_rfl) (by
 rintro ⟨⟨⟩,a0,a1,⟨⟩⟩ y r h
 exact Eq.trans (by kernel_rfl) ((acR a0 a1 r.2.2.1).trans h))
theorem akU:AL L69:=gq akT E69 (cu _ _ _) rfl aa0 Tryz.func69 (by kernel_rfl) (by
 rintro ⟨⟨a0,a1,⟨⟩⟩,⟨⟩⟩ y r h;obtain ⟨h1,h2⟩:=ah.iq h;subst h2
 exact Eq.trans (by kernel_rfl) (acQ a0 a1 h1))
theorem akV:AL L31:=gq akU E31 (cu _ _ _) rfl aa1 Tryz.func31 (by kernel_rfl) (by
 rintro ⟨⟨a0,a1,⟨⟩⟩,a2,⟨⟩⟩ y r h;obtain ⟨h1,h2⟩:=ah.iq h;subst h2
 exact Eq.trans (by kernel_rfl) (acS a0 a1 a2 h1))
theorem arp:AL L5:=gq akV E5 (cu _ _ _) rfl ahm Tryz.func5 (by kernel_rfl) (by
 rintro ⟨⟨⟩,a0,⟨⟩⟩ y r h
 exact Eq.trans (by kernel_rfl) ((akm a0).trans h))
theorem akW:AL L54:=gq arp E54 (cu _ _ _) rfl aa2 Tryz.func54 (by kernel_rfl) (by
 rintro ⟨⟨a0,a1,⟨⟩⟩,a2,a3,⟨⟩⟩ y r h;obtain ⟨h1,h2⟩:=ah.iq h;subst h2
 exact Eq.trans (by kernel_rfl) (acT a0 a1 a2 a3 h1))
theorem akX:AL L28:=gq akW E28 (cu _ _ _) rfl aa3 Tryz.func28 (by kernel_rfl) (by
 rintro ⟨⟨a0,a1,⟨⟩⟩,a2,⟨⟩⟩ y r h;obtain ⟨h1,h2⟩:=ah.iq h;subst h2
 exact Eq.trans (by kernel_rfl) (acU a0 a1 a2 h1))
theorem akY:AL L64:=gq akX E64 (cu _ _ _) rfl aa4 Tryz.func64 (by kernel_rfl) (by
 rintro ⟨⟨a0,a1,⟨⟩⟩,a2,⟨⟩⟩ y r h;obtain ⟨h1,h2⟩:=ah.iq h;subst h2
 exact Eq.trans (by kernel_rfl) (adr a0 a1 a2 h1))
theorem aee:AL ah7:=gq akY anQ (cu _ _ _) rfl Vi Tryz.func154 (by kernel_rfl) (by
 rintro ⟨⟨⟩,a0,a1,⟨⟩⟩ y r h
 exact Eq.trans (by kernel_rfl) ((Xt a0 a1 r.2.1).trans h))
theorem akZ:AL L27:=gq aee E27 (cu _ _ _) rfl aa5 Tryz.func27 (by kernel_rfl) (by
 rintro ⟨⟨⟩,a0,a1,⟨⟩⟩ y r h;obtain ⟨h1,h2⟩:=ah.iq h;subst h2
 exact Eq.trans (by kernel_rfl) (acX a0 a1 h1))
theorem aef:AL ah8:=gq akZ anR (cu _ _ _) rfl Vj Tryz.func122 (by kernel_rfl) (by
 rintro ⟨⟨a0,a1,⟨⟩⟩,a2,⟨⟩⟩ y r h;obtain ⟨h1,h2⟩:=ah.iq h;subst h2
 exact Eq.trans (by kernel_rfl) (XA a0 a1 a2 h1))
theorem ak0:AL L65:=gq aef E65 (cu _ _ _) rfl aa6 Tryz.func65 (by kernel_rfl) (by
 rintro ⟨⟨a0,a1,⟨⟩⟩,⟨⟩⟩ y r h;obtain ⟨h1,h2⟩:=ah.iq h;subst h2
 exact Eq.trans (by kernel_rfl) (acY a0 a1 h1))
theorem aeg:AL ah9:=gq ak0 anS (cu _ _ _) rfl Vk Tryz.func108 (by kernel_rfl) (by
 rintro ⟨⟨⟩,⟨a0,a1,⟨⟩⟩,⟨⟩⟩ y r h
 exact Eq.trans (by kernel_rfl) ((Xx a0 a1 r.2.1.2.1).trans h))
theorem aeh:AL aia:=gq aeg anT (cu _ _ _) rfl Vl Tryz.func109 (by kernel_rfl) (by
 rintro ⟨⟨⟩,⟨a0,a1,⟨⟩⟩,⟨a2,a3,⟨⟩⟩,⟨⟩⟩ y r h
 exact Eq.trans (by kernel_rfl) ((Xv a0 a1 a2 a3).trans h))
theorem aei:AL aib:=gq aeh anU (cu _ _ _) rfl Vm Tryz.func169 (by kernel_rfl) (by
 rintro ⟨⟨⟩,a0,a1,a2,⟨⟩⟩ y r h
 exact Eq.trans (by kernel_rfl) ((Xu a0 a1 a2).trans h))
theorem aej:AL aic:=gq aei anV (cu _ _ _) rfl Vn Tryz.func125 (by kernel_rfl) (by
 rintro ⟨⟨⟩,⟨a0,a1,a2,a3,a4,a5,a6,a7,a8,a9,⟨⟩⟩,⟨⟩⟩ y r h
 exact Eq.trans (by kernel_rfl) ((Xz a0 a1 a2 a3 a4 a5 a6 a7 a8 a9 r.2.1.2.2.2.2.1).trans h))
theorem aek:AL aie:=gq aej anW (cu _ _ _) rfl Vo Tryz.func111 (by kernel_rfl) (by
 rintro ⟨⟨⟩,a0,a1,⟨⟩⟩ y r h
 exact Eq.trans (by kernel_rfl) ((YT a0 a1 r.2.1).trans h))
theorem ak1:AL L29:=gr aek E29 (cu _ _ _) rfl aa7 Tryz.func29 (by kernel_rfl) fun x=>by kernel_rfl
theorem ak2:AL L70:=gr ak1 E70 (cu _ _ _) rfl aa8 Tryz.func70 (by kernel_rfl) fun x=>by kernel_rfl
theorem ak3:AL L15:=gr ak2 E15 (cu _ _ _) rfl aa9 Tryz.func15 (by kernel_rfl) fun x=>by kernel_rfl
theorem ak4:AL L25:=gr ak3 E25 (cu _ _ _) rfl abb Tryz.func25 (by kernel_rfl) fun x=>by kernel_rfl
theorem ak5:AL L26:=gr ak4 E26 (cu _ _ _) rfl abd Tryz.func26 (by kernel_rfl) fun x=>by kernel_rfl
theorem ak6:AL L74:=gq ak5 E74 (cu _ _ _) rfl abe Tryz.func74 (by kernel_rfl) (by
 rintro ⟨⟨⟩,⟨⟩⟩ y r h
 exact Eq.trans (by kernel_rfl) ((adL  ).trans h))
theorem ael:AL aif:=gq ak6 anX (cu _ _ _) rfl Vp Tryz.func168 (by kernel_rfl) (by
 rintro ⟨⟨⟩,a0,a1,a2,⟨⟩⟩ y r h
 exact Eq.trans (by kernel_rfl) ((Y1 a0 a1 a2).trans h))
theorem aem:AL aii:=gr ael anY (cu _ _ _) rfl Vq Tryz.func130 (by kernel_rfl) fun x=>by kernel_rfl
theorem aen:AL aij:=gr aem anZ (cu _ _ _) rfl Vr Tryz.func123 (by kernel_rfl) fun x=>by kernel_rfl
theorem ak7:AL L66:=gr aen E66 (cu _ _ _) rfl abf Tryz.func66 (by kernel_rfl) fun x=>by kernel_rfl
theorem aeo:AL aik:=gr ak7 an0 (cu _ _ _) rfl Vs Tryz.func124 (by kernel_rfl) fun x=>by kernel_rfl
theorem ak8:AL L67:=gr aeo E67 (cu _ _ _) rfl abg Tryz.func67 (by kernel_rfl) fun x=>by kernel_rfl
theorem ak9:AL L30:=gr ak8 E30 (cu _ _ _) rfl abh Tryz.func30 (by kernel_rfl) fun x=>by kernel_rfl
theorem ala:AL L76:=gr ak9 E76 (cu _ _ _) rfl abj Tryz.func76 (by kernel_rfl) fun x=>by kernel_rfl
theorem alb:AL L81:=gr ala E81 (cu _ _ _) rfl abk Tryz.func81 (by kernel_rfl) fun x=>by kernel_rfl
theorem aep:AL ail:=gr alb an1 (cu _ _ _) rfl Vt Tryz.func128 (by kernel_rfl) fun x=>by kernel_rfl
theorem alc:AL L77:=gr aep E77 (cu _ _ _) rfl abl Tryz.func77 (by kernel_rfl) fun x=>by kernel_rfl
theorem aer:AL ain:=gr alc an2 (cu _ _ _) rfl Vu Tryz.func129 (by kernel_rfl) fun x=>by kernel_rfl
theorem ald:AL L78:=gr aer E78 (cu _ _ _) rfl abm Tryz.func78 (by kernel_rfl) fun x=>by kernel_rfl
theorem aes:AL aio:=gr ald an3 (cu _ _ _) rfl Vv Tryz.func131 (by kernel_rfl) fun x=>by kernel_rfl
theorem ale:AL L79:=gr aes E79 (cu _ _ _) rfl abn Tryz.func79 (by kernel_rfl) fun x=>by kernel_rfl
theorem aeu:AL aip:=gr ale an4 (cu _ _ _) rfl Vw Tryz.func171 (by kernel_rfl) fun x=>by kernel_rfl
theorem aev:AL aiq:=gr aeu an5 (cu _ _ _) rfl Vx Tryz.func132 (by kernel_rfl) fun x=>by kernel_rfl
theorem aew:AL air:=gr aev an6 (cu _ _ _) rfl Vy Tryz.func133 (by kernel_rfl) fun x=>by kernel_rfl
theorem alf:AL L80:=gr aew E80 (cu _ _ _) rfl abo Tryz.func80 (by kernel_rfl) fun x=>by kernel_rfl
theorem alg:AL L34:=gr alf E34 (cu _ _ _) rfl abp Tryz.func34 (by kernel_rfl) fun x=>by kernel_rfl
theorem aex:AL ais:=gr alg an7 (cu _ _ _) rfl Vz Tryz.func126 (by kernel_rfl) fun x=>by kernel_rfl
theorem alh:AL L71:=gr aex E71 (cu _ _ _) rfl abq Tryz.func71 (by kernel_rfl) fun x=>by kernel_rfl
theorem ali:AL L82:=gr alh E82 (cu _ _ _) rfl abr Tryz.func82 (by kernel_rfl) fun x=>by kernel_rfl
theorem aey:AL ait:=gr ali an8 (cu _ _ _) rfl VA Tryz.func134 (by kernel_rfl) fun x=>by kernel_rfl
theorem alj:AL L83:=gr aey E83 (cu _ _ _) rfl abt Tryz.func83 (by kernel_rfl) fun x=>by kernel_rfl
theorem alk:AL L84:=gr alj E84 (cu _ _ _) rfl abu Tryz.func84 (by kernel_rfl) fun x=>by kernel_rfl
theorem alm:AL L85:=gr alk E85 (cu _ _ _) rfl abv Tryz.func85 (by kernel_rfl) fun x=>by kernel_rfl
theorem aln:AL L35:=gr alm E35 (cu _ _ _) rfl abw Tryz.func35 (by kernel_rfl) fun x=>by kernel_rfl
theorem alo:AL L36:=gr aln E36 (cu _ _ _) rfl abx Tryz.func36 (by kernel_rfl) fun x=>by kernel_rfl
theorem alp:AL L72:=gr alo E72 (cu _ _ _) rfl aby Tryz.func72 (by kernel_rfl) fun x=>by kernel_rfl
theorem alq:AL L32:=gr alp E32 (cu _ _ _) rfl abz Tryz.func32 (by kernel_rfl) fun x=>by kernel_rfl
theorem alr:AL L53:=gq alq E53 (cu _ _ _) rfl abA Tryz.func53 (by kernel_rfl) (by
 rintro ⟨⟨⟩,⟨a0,a1,⟨⟩⟩,a2,⟨⟩⟩ y r h
 exact Eq.trans (by kernel_rfl) ((adK a0 a1 a2).trans h))
theorem aez:AL aiu:=gr alr an9 (cu _ _ _) rfl VB Tryz.func170 (by kernel_rfl) fun x=>by kernel_rfl
theorem aeA:AL aiv:=gr aez aoa (cu _ _ _) rfl VD Tryz.func127 (by kernel_rfl) fun x=>by kernel_rfl
theorem als:AL L75:=gr aeA E75 (cu _ _ _) rfl abB Tryz.func75 (by kernel_rfl) fun x=>by kernel_rfl
theorem aeB:AL aiw:=gq als aob (cu _ _ _) rfl VE Tryz.func110 (by kernel_rfl) (by
 rintro ⟨⟨⟩,⟨a0,a1,a2,a3,a4,⟨⟩⟩,a5,a6,⟨⟩⟩ y r h
 exact Eq.trans (by kernel_rfl) ((YX a0 a1 a2 a3 a4 a5 a6).trans h))
theorem alu:AL L52:=gq aeB E52 (cu _ _ _) rfl abC Tryz.func52 (by kernel_rfl) (by
 rintro ⟨⟨⟩,⟨a0,a1,⟨⟩⟩,⟨⟩⟩ y r h
 exact Eq.trans (by kernel_rfl) ((adQ a0 a1 r.2.1.2.1).trans h))
theorem alv:AL L73:=gr alu E73 (cu _ _ _) rfl abD Tryz.func73 (by kernel_rfl) fun x=>by kernel_rfl
theorem alx:AL L33:=gr alv E33 (cu _ _ _) rfl abE Tryz.func33 (by kernel_rfl) fun x=>by kernel_rfl
theorem arq:AL L6:=gr alx E6 (cu _ _ _) rfl ahn Tryz.func6 (by kernel_rfl) fun x=>by kernel_rfl
theorem aly:AL L38:=gr arq E38 (cu _ _ _) rfl abF Tryz.func38 (by kernel_rfl) fun x=>by kernel_rfl
theorem alz:AL L19:=gr aly E19 (cu _ _ _) rfl abG Tryz.func19 (by kernel_rfl) fun x=>by kernel_rfl
theorem alA:AL L50:=gq alz E50 (cu _ _ _) rfl abH Tryz.func50 (by kernel_rfl) (by
 rintro ⟨⟨⟩,⟨a0,a1,⟨⟩⟩,⟨⟩⟩ y r h
 exact Eq.trans (by kernel_rfl) ((adM a0 a1).trans h))
theorem alB:AL L59:=gq alA E59 (cu _ _ _) rfl abI Tryz.func59 (by kernel_rfl) (by
 rintro ⟨⟨⟩,⟨a0,a1,⟨⟩⟩,a2,⟨⟩⟩ y r h;obtain ⟨h1,h2⟩:=ah.iq h;subst h2
 exact Eq.trans (by kernel_rfl) (adO a0 a1 a2 h1))
theorem alC:AL L10:=gq alB E10 (cu _ _ _) rfl abJ Tryz.func10 (by kernel_rfl) (by
 rintro ⟨⟨⟩,a0,⟨⟩⟩ y r h
 exact Eq.trans (by kernel_rfl) ((adN a0 r.2.1).trans h))
theorem aeC:AL aix:=gr alC aoc (cu _ _ _) rfl VF Tryz.func139 (by kernel_rfl) fun x=>by kernel_rfl
theorem aeD:AL aiy:=gr aeC aod (cu _ _ _) rfl VG Tryz.func195 (by kernel_rfl) fun x=>by kernel_rfl
theorem aeE:AL aiz:=gr aeD aoe (cu _ _ _) rfl VH Tryz.func177 (by kernel_rfl) fun x=>by kernel_rfl
theorem aeF:AL aiA:=gr aeE aof (cu _ _ _) rfl VI Tryz.func140 (by kernel_rfl) fun x=>by kernel_rfl
theorem aeG:AL aiB:=gr aeF aog (cu _ _ _) rfl VJ Tryz.func141 (by kernel_rfl) fun x=>by kernel_rfl
theorem aeH:AL aiC:=gq aeG aoh (cu _ _ _) rfl VK Tryz.func113 (by kernel_rfl) (by
 rintro ⟨⟨⟩,a0,⟨⟩⟩ y r h
 exact Eq.trans (by kernel_rfl) ((XB a0).trans h))
theorem aeI:AL aiD:=gq aeH aoi (cu _ _ _) rfl VL Tryz.func112 (by kernel_rfl) (by
 rintro ⟨⟨⟩,a0,a1,a2,⟨⟩⟩ y r h
 exact Eq.trans (by kernel_rfl) ((XC a0 a1 a2).trans h))
theorem alD:AL L57:=gq aeI E57 (cu _ _ _) rfl abK Tryz.func57 (by kernel_rfl) (by
 rintro ⟨⟨⟩,a0,a1,a2,⟨⟩⟩ y r h
 exact Eq.trans (by kernel_rfl) ((ac3 a0 a1 a2).trans h))
theorem aeJ:AL aiE:=gq alD aoj (cu _ _ _) rfl VN Tryz.func179 (by kernel_rfl) (by
 rintro ⟨⟨⟩,a0,a1,⟨⟩⟩ y r h
 exact Eq.trans (by kernel_rfl) ((XG a0 a1).trans h))
theorem aeK:AL aiF:=gq aeJ aok (cu _ _ _) rfl VO Tryz.func114 (by kernel_rfl) (by
 rintro ⟨⟨⟩,a0,⟨⟩⟩ y r h
 exact Eq.trans (by kernel_rfl) ((XE a0 r.2.1).trans h))
theorem alE:AL L55:=gq aeK E55 (cu _ _ _) rfl abL Tryz.func55 (by kernel_rfl) (by
 rintro ⟨⟨⟩,⟨a0,a1,a2,⟨⟩⟩,⟨⟩⟩ y r h
 exact Eq.trans (by kernel_rfl) ((ac1 a0 a1 a2 r.2.1.2.2.1).trans h))
theorem aeL:AL aiG:=gq alE aol (cu _ _ _) rfl VP Tryz.func178 (by kernel_rfl) (by
 rintro ⟨⟨⟩,⟨a0,a1,a2,⟨⟩⟩,a3,⟨⟩⟩ y r h
 exact Eq.trans (by kernel_rfl) ((Yq a0 a1 a2 a3 r.2.1.2.2.1).trans h))
theorem aeM:AL aiH:=gq aeL aom (cu _ _ _) rfl VQ Tryz.func147 (by kernel_rfl) (by
 rintro ⟨⟨⟩,a0,⟨⟩⟩ y r h
 exact Eq.trans (by kernel_rfl) ((XI a0).trans h))
theorem aeN:AL aiI:=gq aeM aon (cu _ _ _) rfl VR Tryz.func142 (by kernel_rfl) (by
 rintro ⟨⟨⟩,⟨a0,a1,a2,⟨⟩⟩,a3,⟨⟩⟩ y r h
 exact Eq.trans (by kernel_rfl) ((Yu a0 a1 a2 a3 r.2.2.1).trans h))
theorem alF:AL L88:=gr aeN E88 (cu _ _ _) rfl abM Tryz.func88 (by kernel_rfl) fun x=>by kernel_rfl
theorem alG:AL L89:=gr alF E89 (cu _ _ _) rfl abN Tryz.func89 (by kernel_rfl) fun x=>by kernel_rfl
theorem aeO:AL aiJ:=gq alG aoo (cu _ _ _) rfl VT Tryz.func155 (by kernel_rfl) (by
 rintro ⟨⟨⟩,a0,⟨⟩⟩ y r h
 exact Eq.trans (by kernel_rfl) ((XK a0).trans h))
theorem aeP:AL aiK:=gq aeO aop (cu _ _ _) rfl VU Tryz.func115 (by kernel_rfl) (by
 rintro ⟨⟨⟩,a0,a1,⟨⟩⟩ y r h
 exact Eq.trans (by kernel_rfl) ((X4 a0 a1).trans h))
theorem aeQ:AL aiL:=gq aeP aoq (cu _ _ _) rfl VW Tryz.func116 (by kernel_rfl) (by
 rintro ⟨⟨⟩,a0,a1,⟨⟩⟩ y r h
 exact Eq.trans (by kernel_rfl) ((X3 a0 a1 r.2.1).trans h))
theorem alH:AL L56:=gq aeQ E56 (cu _ _ _) rfl abO Tryz.func56 (by kernel_rfl) (by
 rintro ⟨⟨⟩,⟨a0,a1,a2,a3,a4,a5,a6,a7,a8,a9,⟨⟩⟩,⟨⟩⟩ y r h
 exact Eq.trans (by kernel_rfl) ((adf a0 a1 a2 a3 a4 a5 a6 a7 a8 a9).trans h))
theorem alI:AL L90:=gr alH E90 (cu _ _ _) rfl abP Tryz.func90 (by kernel_rfl) fun x=>by kernel_rfl
theorem alJ:AL L39:=gr alI E39 (cu _ _ _) rfl abQ Tryz.func39 (by kernel_rfl) fun x=>by kernel_rfl
theorem aeR:AL aiM:=gq alJ aor (cu _ _ _) rfl VX Tryz.func196 (by kernel_rfl) (by
 rintro ⟨⟨⟩,a0,a1,a2,⟨⟩⟩ y r h
 exact Eq.trans (by kernel_rfl) ((Ya a0 a1 a2).trans h))
theorem aeS:AL aiN:=gq aeR aos (cu _ _ _) rfl VY Tryz.func176 (by kernel_rfl) (by
 rintro ⟨⟨⟩,a0,a1,⟨⟩⟩ y r h
 exact Eq.trans (by kernel_rfl) ((X8 a0 a1 r.2.1).trans h))
theorem aeT:AL aiO:=gq aeS aot (cu _ _ _) rfl VZ Tryz.func180 (by kernel_rfl) (by
 rintro ⟨⟨⟩,⟨a0,a1,a2,a3,⟨⟩⟩,⟨⟩⟩ y r h
 exact Eq.trans (by kernel_rfl) ((Ye a0 a1 a2 a3 r.2.1.2.2.2.1).trans h))
theorem aeU:AL aiP:=gr aeT aou (cu _ _ _) rfl V3 Tryz.func143 (by kernel_rfl) fun x=>by kernel_rfl
theorem alK:AL L92:=gr aeU E92 (cu _ _ _) rfl abR Tryz.func92 (by kernel_rfl) fun x=>by kernel_rfl
theorem alL:AL L91:=gr alK E91 (cu _ _ _) rfl abS Tryz.func91 (by kernel_rfl) fun x=>by kernel_rfl
theorem aeV:AL aiQ:=gq alL aov (cu _ _ _) rfl V4 Tryz.func197 (by kernel_rfl) (by
 rintro ⟨⟨⟩,a0,a1,⟨⟩⟩ y r h
 exact Eq.trans (by kernel_rfl) ((XR a0 a1 r.2.1).trans h))
theorem aeW:AL aiR:=gq aeV aow (cu _ _ _) rfl V5 Tryz.func183 (by kernel_rfl) (by
 rintro ⟨⟨⟩,a0,⟨⟩⟩ y r h
 exact Eq.trans (by kernel_rfl) ((XP a0).trans h))
theorem aeX:AL aiS:=gq aeW aox (cu _ _ _) rfl V6 Tryz.func181 (by kernel_rfl) (by
 rintro ⟨⟨⟩,a0,a1,⟨⟩⟩ y r h
 exact Eq.trans (by kernel_rfl) ((Yj a0 a1).trans h))
theorem aeY:AL aiT:=gq aeX aoy (cu _ _ _) rfl V7 Tryz.func144 (by kernel_rfl) (by
 rintro ⟨⟨⟩,a0,⟨⟩⟩ y r h
 exact Eq.trans (by kernel_rfl) ((Yk a0).trans h))
theorem aeZ:AL aiU:=gq aeY aoz (cu _ _ _) rfl V8 Tryz.func182 (by kernel_rfl) (by
 rintro ⟨⟨⟩,⟨a0,a1,a2,a3,⟨⟩⟩,a4,⟨⟩⟩ y r h
 exact Eq.trans (by kernel_rfl) ((Yc a0 a1 a2 a3 a4 r.2.1.2.2.2.1).trans h))
theorem ae0:AL L145:=gq aeZ aoA (cu _ _ _) rfl V9 Tryz.func145 (by kernel_rfl) (by
 rintro ⟨⟨⟩,⟨a0,a1,a2,a3,⟨⟩⟩,a4,a5,⟨⟩⟩ y r h;obtain ⟨h1,h2⟩:=ah.iq h;subst h2
 exact Eq.trans (by kernel_rfl) (Yd a0 a1 a2 a3 a4 a5 h1))
theorem ae1:AL aiV:=gq ae0 aoB (cu _ _ _) rfl Wd Tryz.func146 (by kernel_rfl) (by
 rintro ⟨⟨⟩,⟨a0,a1,a2,a3,a4,a5,a6,a7,a8,a9,⟨⟩⟩,⟨⟩⟩ y r h
 exact Eq.trans (by kernel_rfl) ((X5 a0 a1 a2 a3 a4 a5 a6 a7 a8 a9).trans h))
theorem ae2:AL aiW:=gq ae1 aoC (cu _ _ _) rfl Wh Tryz.func148 (by kernel_rfl) (by
 rintro ⟨⟨⟩,⟨a0,a1,a2,a3,⟨⟩⟩,a4,a5,a6,⟨⟩⟩ y r h;obtain ⟨h1,h2⟩:=ah.iq h;subst h2
 exact Eq.trans (by kernel_rfl) (Yh a0 a1 a2 a3 a4 a5 a6 h1))
theorem ae3:AL aiX:=gq ae2 aoD (cu _ _ _) rfl Wi Tryz.func149 (by kernel_rfl) (by
 rintro ⟨⟨⟩,⟨a0,a1,a2,a3,a4,a5,a6,a7,a8,a9,⟨⟩⟩,bJ,⟨⟩⟩ y r h
 exact Eq.trans (by kernel_rfl) ((Yl a0 a1 a2 a3 a4 a5 a6 a7 a8 a9 bJ r.2.1.2.2.2.2.2.2.2.2.1 r.2.2.1).trans h))
theorem alM:AL L93:=gq ae3 E93 (cu _ _ _) rfl abT Tryz.func93 (by kernel_rfl) (by
 rintro ⟨⟨⟩,⟨a0,a1,a2,a3,⟨⟩⟩,⟨a4,a5,a6,a7,a8,a9,bJ,bS,a12,dD,⟨⟩⟩,⟨⟩⟩ y r h;obtain ⟨h1,h2⟩:=ah.iq h;subst h2
 exact Eq.trans (by kernel_rfl) (adk a0 a1 a2 a3 a4 a5 a6 a7 a8 a9 bJ bS a12 dD r.2.2.1.2.2.2.2.2.2.2.2.1 h1))
theorem ae4:AL aiY:=gq alM aoE (cu _ _ _) rfl Wj Tryz.func184 (by kernel_rfl) (by
 rintro ⟨⟨⟩,⟨a0,a1,a2,a3,a4,a5,a6,a7,a8,a9,⟨⟩⟩,bJ,⟨⟩⟩ y r h
 exact Eq.trans (by kernel_rfl) ((Yv a0 a1 a2 a3 a4 a5 a6 a7 a8 a9 bJ).trans h))
theorem ae5:AL aiZ:=gq ae4 aoF (cu _ _ _) rfl Wm Tryz.func150 (by kernel_rfl) (by
 rintro ⟨⟨⟩,a0,⟨a1,a2,a3,⟨⟩⟩,⟨a4,a5,a6,a7,a8,a9,bJ,bS,a12,dD,⟨⟩⟩,⟨⟩⟩ y r h
 exact Eq.trans (by kernel_rfl) ((Yw a0 a1 a2 a3 a4 a5 a6 a7 a8 a9 bJ bS a12 dD).trans h))
theorem alN:AL L94:=gr ae5 E94 (cu _ _ _) rfl abU Tryz.func94 (by kernel_rfl) fun x=>by kernel_rfl
theorem alO:AL L40:=gr alN E40 (cu _ _ _) rfl abV Tryz.func40 (by kernel_rfl) fun x=>by kernel_rfl
theorem ae6:AL ai0:=gq alO aoG (cu _ _ _) rfl Wn Tryz.func135 (by kernel_rfl) (by
 rintro ⟨⟨⟩,a0,⟨⟩⟩ y r h
 exact Eq.trans (by kernel_rfl) ((XV a0).trans h))
theorem ae7:AL ai1:=gq ae6 aoH (cu _ _ _) rfl Wo Tryz.func136 (by kernel_rfl) (by
 rintro ⟨⟨⟩,⟨a0,a1,⟨⟩⟩,a2,⟨⟩⟩ y r h
 exact Eq.trans (by kernel_rfl) ((XW a0 a1 a2 r.2.1.1).trans h))
theorem alP:AL L86:=gq ae7 E86 (cu _ _ _) rfl abW Tryz.func86 (by kernel_rfl) (by
 rintro ⟨⟨⟩,⟨a0,a1,⟨⟩⟩,⟨⟩⟩ y r h
 exact Eq.trans (by kernel_rfl) ((ada a0 a1 r.2.1.1 r.2.1.2.1).trans h))
theorem ae8:AL ai2:=gq alP aoI (cu _ _ _) rfl Wp Tryz.func137 (by kernel_rfl) (by
 rintro ⟨⟨⟩,⟨a0,a1,⟨⟩⟩,a2,⟨⟩⟩ y r h
 exact Eq.trans (by kernel_rfl) ((XY a0 a1 a2 r.2.1.1).trans h))
theorem ae9:AL ai3:=gq ae8 aoJ (cu _ _ _) rfl Wq Tryz.func172 (by kernel_rfl) (by
 rintro ⟨⟨⟩,⟨a0,a1,⟨⟩⟩,a2,⟨⟩⟩ y r h
 exact Eq.trans (by kernel_rfl) ((YK a0 a1 a2).trans h))
theorem afa:AL ai4:=gq ae9 aoK (cu _ _ _) rfl Ws Tryz.func194 (by kernel_rfl) (by
 rintro ⟨⟨⟩,⟨a0,a1,⟨⟩⟩,a2,a3,⟨⟩⟩ y r h
 exact Eq.trans (by kernel_rfl) ((YL a0 a1 a2 a3 r.2.1.2.1).trans h))
theorem afb:AL ai5:=gq afa aoL (cu _ _ _) rfl Wt Tryz.func193 (by kernel_rfl) (by
 rintro ⟨⟨⟩,⟨a0,a1,⟨⟩⟩,a2,⟨⟩⟩ y r h
 exact Eq.trans (by kernel_rfl) ((YM a0 a1 a2 r.2.1.1).trans h))
theorem afc:AL ai6:=gq afb aoM (cu _ _ _) rfl Wu Tryz.func175 (by kernel_rfl) (by
 rintro ⟨⟨⟩,a0,a1,⟨⟩⟩ y r h
 exact Eq.trans (by kernel_rfl) ((YN a0 a1).trans h))
theorem afd:AL ai7:=gq afc aoN (cu _ _ _) rfl Wv Tryz.func191 (by kernel_rfl) (by
 rintro ⟨⟨⟩,⟨a0,a1,⟨⟩⟩,a2,⟨⟩⟩ y r h
 exact Eq.trans (by kernel_rfl) ((YO a0 a1 a2).trans h))
theorem afe:AL ai8:=gq afd aoO (cu _ _ _) rfl Ww Tryz.func173 (by kernel_rfl) (by
 rintro ⟨⟨⟩,⟨a0,a1,⟨⟩⟩,a2,⟨⟩⟩ y r h
 exact Eq.trans (by kernel_rfl) ((YP a0 a1 a2).trans h))
theorem aff:AL L192:=gq afe aoP (cu _ _ _) rfl Wx Tryz.func192 (by kernel_rfl) (by
 rintro ⟨⟨⟩,⟨a0,a1,⟨⟩⟩,a2,a3,⟨⟩⟩ y r h
 exact Eq.trans (by kernel_rfl) ((YQ a0 a1 a2 a3).trans h))
theorem afg:AL ai9:=gq aff aoQ (cu _ _ _) rfl Wy Tryz.func174 (by kernel_rfl) (by
 rintro ⟨⟨⟩,⟨a0,a1,⟨⟩⟩,a2,a3,⟨⟩⟩ y r h
 exact Eq.trans (by kernel_rfl) ((YR a0 a1 a2 a3).trans h))
theorem afh:AL aja:=gq afg aoR (cu _ _ _) rfl Wz Tryz.func138 (by kernel_rfl) (by
 rintro ⟨⟨⟩,⟨a0,a1,⟨⟩⟩,a2,a3,⟨⟩⟩ y r h
 exact Eq.trans (by kernel_rfl) ((YS a0 a1 a2 a3).trans h))
theorem alQ:AL L87:=gq afh E87 (cu _ _ _) rfl abX Tryz.func87 (by kernel_rfl) (by
 rintro ⟨⟨⟩,⟨a0,a1,⟨⟩⟩,⟨a2,a3,a4,⟨⟩⟩,a5,⟨⟩⟩ y r h
 exact Eq.trans (by kernel_rfl) ((adI a0 a1 a2 a3 a4 a5).trans h))
theorem alR:AL L37:=gq alQ E37 (cu _ _ _) rfl abY Tryz.func37 (by kernel_rfl) (by
 rintro ⟨⟨⟩,⟨a0,a1,⟨⟩⟩,⟨a2,a3,a4,⟨⟩⟩,⟨⟩⟩ y r h
 exact Eq.trans (by kernel_rfl) ((adJ a0 a1 a2 a3 a4).trans h))
theorem ars:AL L7:=gr alR E7 (cu _ _ _) rfl aho Tryz.func7 (by kernel_rfl) fun x=>by kernel_rfl
theorem alS:AL L16:=gr ars E16 (cu _ _ _) rfl abZ Tryz.func16 (by kernel_rfl) fun x=>by kernel_rfl
theorem alT:AL L95:=gq alS E95 (cu _ _ _) rfl ab0 Tryz.func95 (by kernel_rfl) (by
 rintro ⟨⟨⟩,a0,a1,a2,⟨⟩⟩ y r h
 exact Eq.trans (by kernel_rfl) ((ac0 a0 a1 a2).trans h))
theorem alU:AL L96:=gq alT E96 (cu _ _ _) rfl ab1 Tryz.func96 (by kernel_rfl) (by
 rintro ⟨⟨⟩,a0,⟨⟩⟩ y r h
 exact Eq.trans (by kernel_rfl) ((acZ a0).trans h))
theorem alV:AL L98:=gq alU E98 (cu _ _ _) rfl ab2 Tryz.func98 (by kernel_rfl) (by
 rintro ⟨⟨⟩,⟨a0,a1,⟨⟩⟩,⟨a2,a3,⟨⟩⟩,⟨⟩⟩ y r h
 exact Eq.trans (by kernel_rfl) ((adl a0 a1 a2 a3).trans h))
theorem afi:AL ajb:=gq alV aoS (cu _ _ _) rfl WA Tryz.func151 (by kernel_rfl) (by
 rintro ⟨⟨⟩,a0,⟨a1,a2,⟨⟩⟩,⟨⟩⟩ y r h
 exact Eq.trans (by kernel_rfl) ((Zl a0 a1 a2 r.2.1).trans h))
theorem alW:AL L97:=gq afi E97 (cu _ _ _) rfl ab3 Tryz.func97 (by kernel_rfl) (by
 rintro ⟨⟨⟩,a0,⟨a1,a2,⟨⟩⟩,⟨⟩⟩ y r h
 exact Eq.trans (by kernel_rfl) ((ad8 a0 a1 a2).trans h))
theorem alX:AL L41:=gq alW E41 (cu _ _ _) rfl ab4 Tryz.func41 (by kernel_rfl) (by
 rintro ⟨⟨⟩,⟨a0,a1,a2,⟨⟩⟩,⟨⟩⟩ y r h
 exact Eq.trans (by kernel_rfl) ((adn a0 a1 a2 r.2.1.2.2.1).trans h))
theorem alY:AL L99:=gq alX E99 (cu _ _ _) rfl ab5 Tryz.func99 (by kernel_rfl) (by
 rintro ⟨⟨⟩,a0,a1,⟨⟩⟩ y r h
 exact Eq.trans (by kernel_rfl) ((adb a0 a1).trans h))
theorem afj:AL ajc:=gq alY aoT (cu _ _ _) rfl WB Tryz.func152 (by kernel_rfl) (by
 rintro ⟨⟨⟩,a0,⟨⟩⟩ y r h
 exact Eq.trans (by kernel_rfl) ((XZ a0).trans h))
theorem afk:AL L100:=gq afj aoU (cu _ _ _) rfl WC Tryz.func100 (by kernel_rfl) (by
 rintro ⟨⟨⟩,a0,a1,⟨⟩⟩ y r h
 exact Eq.trans (by kernel_rfl) ((X0 a0 a1 r.2.1).trans h))
theorem alZ:AL L42:=gq afk E42 (cu _ _ _) rfl ab6 Tryz.func42 (by kernel_rfl) (by
 rintro ⟨⟨⟩,⟨a0,a1,a2,a3,a4,a5,a6,a7,a8,a9,⟨⟩⟩,⟨⟩⟩ y r h
 exact Eq.trans (by kernel_rfl) ((ade a0 a1 a2 a3 a4 a5 a6 a7 a8 a9).trans h))
theorem al0:AL L43:=gq alZ E43 (cu _ _ _) rfl ab7 Tryz.func43 (by kernel_rfl) (by
 rintro ⟨⟨⟩,a0,⟨⟩⟩ y r h
 exact Eq.trans (by kernel_rfl) ((adF a0 r.2.1).trans h))
theorem al1:AL L45:=gq al0 E45 (cu _ _ _) rfl ab8 Tryz.func45 (by kernel_rfl) (by
 rintro ⟨⟨⟩,a0,⟨⟩⟩ y r h;obtain ⟨h1,h2⟩:=ah.iq h;subst h2
 exact Eq.trans (by kernel_rfl) (ac6 a0 r.2.1 h1))
theorem al2:AL L44:=gq al1 E44 (cu _ _ _) rfl ab9 Tryz.func44 (by kernel_rfl) (by
 rintro ⟨⟨⟩,a0,a1,a2,⟨⟩⟩ y r h
 exact Eq.trans (by kernel_rfl) ((ac2 a0 a1 a2).trans h))
theorem afl:AL ajd:=gq al2 aoV (cu _ _ _) rfl WE Tryz.func101 (by kernel_rfl) (by
 rintro ⟨⟨⟩,a0,⟨a1,a2,⟨⟩⟩,⟨⟩⟩ y r h
 exact Eq.trans (by kernel_rfl) ((Y5 a0 a1 a2 r.2.1).trans h))
theorem al3:AL L46:=gq afl E46 (cu _ _ _) rfl acd Tryz.func46 (by kernel_rfl) (by
 rintro ⟨⟨⟩,a0,⟨a1,a2,⟨⟩⟩,⟨⟩⟩ y r h
 exact Eq.trans (by kernel_rfl) ((adP a0 a1 a2).trans h))
theorem aru:AL L8:=gq al3 E8 (cu _ _ _) rfl ahp Tryz.func8 (by kernel_rfl) (by
 rintro ⟨⟨⟩,⟨a0,a1,a2,⟨⟩⟩,⟨a3,a4,a5,a6,a7,a8,a9,bJ,bS,a12,dD,⟨⟩⟩,⟨⟩⟩ y r h
 exact Eq.trans (by kernel_rfl) ((aky a0 a1 a2 a3 a4 a5 a6 a7 a8 a9 bJ bS a12 dD r.2.2.1.2.2.2.2.2.2.2.2.2.1).trans h))
theorem al4:AL L17:=gq aru E17 (cu _ _ _) rfl ace Tryz.func17 (by kernel_rfl) (by
 rintro ⟨⟨⟩,⟨a0,a1,a2,⟨⟩⟩,⟨a3,a4,a5,a6,a7,a8,a9,bJ,bS,a12,dD,⟨⟩⟩,⟨⟩⟩ y r h
 exact Eq.trans (by kernel_rfl) ((adZ a0 a1 a2 a3 a4 a5 a6 a7 a8 a9 bJ bS a12 dD r.2.1.2.2.1 r.2.2.1.2.2.2.2.2.2.2.2.2.1).trans h))
theorem afm:AL aje:=gq al4 aoW (cu _ _ _) rfl WG Tryz.func166 (by kernel_rfl) (by
 rintro ⟨⟨⟩,a0,⟨⟩⟩ y r h
 exact Eq.trans (by kernel_rfl) ((Yx a0).trans h))
theorem afn:AL ajf:=gq afm aoX (cu _ _ _) rfl WH Tryz.func167 (by kernel_rfl) (by
 rintro ⟨⟨⟩,a0,⟨⟩⟩ y r h
 exact Eq.trans (by kernel_rfl) ((Yy a0).trans h))
theorem afo:AL ajg:=gq afn aoY (cu _ _ _) rfl WI Tryz.func120 (by kernel_rfl) (by
 rintro ⟨⟨⟩,a0,a1,⟨⟩⟩ y r h
 exact Eq.trans (by kernel_rfl) ((Yz a0 a1).trans h))
theorem afp:AL ajh:=gq afo aoZ (cu _ _ _) rfl WJ Tryz.func121 (by kernel_rfl) (by
 rintro ⟨⟨⟩,a0,a1,⟨⟩⟩ y r h
 exact Eq.trans (by kernel_rfl) ((YA a0 a1).trans h))
theorem afq:AL aji:=gq afp ao0 (cu _ _ _) rfl WK Tryz.func119 (by kernel_rfl) (by
 rintro ⟨⟨⟩,a0,⟨⟩⟩ y r h
 exact Eq.trans (by kernel_rfl) ((YB a0 r.2.1).trans h))
theorem afr:AL ajj:=gq afq ao1 (cu _ _ _) rfl WL Tryz.func102 (by kernel_rfl) (by
 rintro ⟨⟨⟩,a0,a1,a2,⟨⟩⟩ y r h
 exact Eq.trans (by kernel_rfl) ((Y0 a0 a1 a2).trans h))
theorem afs:AL ajk:=gq afr ao2 (cu _ _ _) rfl WM Tryz.func103 (by kernel_rfl) (by
 rintro ⟨⟨⟩,⟨a0,a1,⟨⟩⟩,⟨⟩⟩ y r h
 exact Eq.trans (by kernel_rfl) ((Xw a0 a1 r.2.1.2.1).trans h))
theorem aft:AL ajl:=gq afs ao3 (cu _ _ _) rfl WO Tryz.func104 (by kernel_rfl) (by
 rintro ⟨⟨⟩,⟨a0,a1,⟨⟩⟩,⟨⟩⟩ y r h
 exact Eq.trans (by kernel_rfl) ((Y2 a0 a1).trans h))
theorem afu:AL ajm:=gq aft ao4 (cu _ _ _) rfl WQ Tryz.func105 (by kernel_rfl) (by
 rintro ⟨⟨⟩,⟨a0,a1,a2,a3,a4,⟨⟩⟩,⟨a5,a6,⟨⟩⟩,⟨⟩⟩ y r h
 exact Eq.trans (by kernel_rfl) ((YZ a0 a1 a2 a3 a4 a5 a6).trans h))
theorem al5:AL L47:=gq afu E47 (cu _ _ _) rfl acf Tryz.func47 (by kernel_rfl) (by
 rintro ⟨⟨⟩,⟨a0,a1,⟨⟩⟩,⟨⟩⟩ y r h
 exact Eq.trans (by kernel_rfl) ((adR a0 a1 r.2.1.2.1).trans h))
theorem afv:AL L106:=gq al5 ao5 (cu _ _ _) rfl WR Tryz.func106 (by kernel_rfl) (by
 rintro ⟨⟨⟩,⟨a0,a1,⟨⟩⟩,⟨⟩⟩ y r h
 exact Eq.trans (by kernel_rfl) ((Y3 a0 a1).trans h))
theorem al6:AL L48:=gq afv E48 (cu _ _ _) rfl acg Tryz.func48 (by kernel_rfl) (by
 rintro ⟨⟨⟩,a0,⟨⟩⟩ y r h
 exact Eq.trans (by kernel_rfl) ((TD a0 r.2.1).trans h))
theorem al7:AL L51:=vK rfl aro al6
theorem afw:AL ajn:=gq al7 ao6 (cu _ _ _) rfl WS Tryz.func200 (by kernel_rfl) (by
 rintro ⟨⟨⟩,a0,a1,⟨⟩⟩ y r h
 exact Eq.trans (by kernel_rfl) ((X6 a0 a1 r.2.1).trans h))
theorem afx:AL L198:=gq afw ao7 (cu _ _ _) rfl WT Tryz.func198 (by kernel_rfl) (by
 rintro ⟨⟨⟩,a0,a1,⟨⟩⟩ y r h
 exact Eq.trans (by kernel_rfl) ((X7 a0 a1).trans h))
theorem afy:AL ajo:=gq afx ao8 (cu _ _ _) rfl WU Tryz.func185 (by kernel_rfl) (by
 rintro ⟨⟨⟩,⟨a0,a1,⟨⟩⟩,a2,⟨⟩⟩ y r h
 exact Eq.trans (by kernel_rfl) ((YW a0 a1 a2).trans h))
theorem afz:AL ajp:=gq afy ao9 (cu _ _ _) rfl WV Tryz.func153 (by kernel_rfl) (by
 rintro ⟨⟨⟩,⟨a0,a1,⟨⟩⟩,a2,⟨⟩⟩ y r h
 exact Eq.trans (by kernel_rfl) ((YU a0 a1 a2).trans h))
theorem afA:AL ajq:=gq afz apa (cu _ _ _) rfl WW Tryz.func107 (by kernel_rfl) (by
 rintro ⟨⟨⟩,⟨a0,a1,⟨⟩⟩,⟨a2,a3,⟨⟩⟩,⟨⟩⟩ y r h
 exact Eq.trans (by kernel_rfl) ((Y9 a0 a1 a2 a3 r.2.1.1 r.2.1.2.1 r.2.2.1.1 r.2.2.1.2.1).trans h))
theorem al8:AL L13:=gq afA E13 (cu _ _ _) rfl ach Tryz.func13 (by kernel_rfl) (by
 rintro ⟨⟨⟩,⟨a0,a1,⟨⟩⟩,⟨a2,a3,⟨⟩⟩,⟨⟩⟩ y r h
 exact Eq.trans (by kernel_rfl) ((TH a0 a1 a2 a3 r.2.1.1 r.2.1.2.1 r.2.2.1.1 r.2.2.1.2.1).trans h))
theorem al9:AL L49:=gq al8 E49 (cu _ _ _) rfl aci Tryz.func49 (by kernel_rfl) (by
 rintro ⟨⟨⟩,⟨a0,a1,⟨⟩⟩,a2,⟨a3,a4,⟨⟩⟩,a5,⟨⟩⟩ y r h
 exact Eq.trans (by kernel_rfl) ((TK a0 a1 a2 a3 a4 a5 r.2.1.1 r.2.1.2.1 r.2.2.1 r.2.2.2.1.1 r.2.2.2.1.2.1 r.2.2.2.2.1).trans h))
theorem ama:AL L58:=gq al9 E58 (cu _ _ _) rfl acj Tryz.func58 (by kernel_rfl) (by
 rintro ⟨⟨⟩,⟨a0,a1,⟨⟩⟩,a2,⟨a3,a4,⟨⟩⟩,a5,⟨⟩⟩ y r h
 exact Eq.trans (by kernel_rfl) ((adS a0 a1 a2 a3 a4 a5 r.2.1.1 r.2.1.2.1 r.2.2.1 r.2.2.2.1.1 r.2.2.2.1.2.1 r.2.2.2.2.1).trans h))
theorem arv:AL L9:=gq ama E9 (cu _ _ _) rfl ahq Tryz.func9 (by kernel_rfl) (by
 rintro ⟨⟨⟩,⟨a0,a1,a2,⟨⟩⟩,⟨a3,a4,⟨⟩⟩,⟨a5,a6,a7,a8,a9,bJ,bS,a12,dD,iR,jg,⟨⟩⟩,⟨⟩⟩ y r h
 exact Eq.trans (by kernel_rfl) ((aae a0 a1 a2 a3 a4 a5 a6 a7 a8 a9 bJ bS a12 dD iR jg r.2.1.1 r.2.1.2.1 r.2.1.2.2.1 r.2.2.1.1 r.2.2.1.2.1 r.2.2.2.1.1 r.2.2.2.1.2.1 r.2.2.2.1.2.2.1 r.2.2.2.1.2.2.2.1 r.2.2.2.1.2.2.2.2.1 r.2.2.2.1.2.2.2.2.2.1 r.2.2.2.1.2.2.2.2.2.2.1 r.2.2.2.1.2.2.2.2.2.2.2.1 r.2.2.2.1.2.2.2.2.2.2.2.2.1 r.2.2.2.1.2.2.2.2.2.2.2.2.2.1 r.2.2.2.1.2.2.2.2.2.2.2.2.2.2.1).trans h))
theorem amb:AL L18:=gq arv E18 (cu _ _ _) rfl acn Tryz.func18 (by kernel_rfl) (by
 rintro ⟨⟨⟩,⟨a0,a1,a2,⟨⟩⟩,⟨a3,a4,⟨⟩⟩,⟨a5,a6,a7,a8,a9,bJ,bS,a12,dD,iR,jg,⟨⟩⟩,⟨⟩⟩ y r h
 exact Eq.trans (by kernel_rfl) ((adT a0 a1 a2 a3 a4 a5 a6 a7 a8 a9 bJ bS a12 dD iR jg r.2.1.1 r.2.1.2.1 r.2.1.2.2.1 r.2.2.1.1 r.2.2.1.2.1 r.2.2.2.1.1 r.2.2.2.1.2.1 r.2.2.2.1.2.2.1 r.2.2.2.1.2.2.2.1 r.2.2.2.1.2.2.2.2.1 r.2.2.2.1.2.2.2.2.2.1 r.2.2.2.1.2.2.2.2.2.2.1 r.2.2.2.1.2.2.2.2.2.2.2.1 r.2.2.2.1.2.2.2.2.2.2.2.2.1 r.2.2.2.1.2.2.2.2.2.2.2.2.2.1 r.2.2.2.1.2.2.2.2.2.2.2.2.2.2.1).trans h))
theorem amc:AL L11:=gq amb E11 (cu _ _ _) rfl aco Tryz.func11 (by kernel_rfl) (by
 rintro ⟨⟨⟩,⟨a0,a1,⟨⟩⟩,a2,⟨a3,a4,⟨⟩⟩,a5,⟨⟩⟩ y r h;obtain ⟨h1,h2⟩:=ah.iq h;subst h2
 exact Eq.trans (by kernel_rfl) (TL a0 a1 a2 a3 a4 a5 r.2.1.1 r.2.1.2.1 r.2.2.1 r.2.2.2.1.1 r.2.2.2.1.2.1 r.2.2.2.2.1 h1))
theorem amd:AL L20:=gq amc E20 (cu _ _ _) rfl acp Tryz.func20 (by kernel_rfl) (by
 rintro ⟨⟨⟩,⟨a0,a1,⟨⟩⟩,a2,⟨a3,a4,⟨⟩⟩,a5,⟨⟩⟩ y r h;obtain ⟨h1,h2⟩:=ah.iq h;subst h2
 exact Eq.trans (by kernel_rfl) (adU a0 a1 a2 a3 a4 a5 r.2.1.1 r.2.1.2.1 r.2.2.1 r.2.2.2.1.1 r.2.2.2.1.2.1 r.2.2.2.2.1 h1))
theorem ame:AL L62:=gq amd E62 (cu _ _ _) rfl acr Tryz.func62 (by kernel_rfl) (by
 rintro ⟨⟨⟩,⟨a0,a1,a2,a3,a4,⟨⟩⟩,⟨a5,a6,a7,a8,a9,⟨⟩⟩,⟨⟩⟩ y r h
 exact Eq.trans (by kernel_rfl) ((ads a0 a1 a2 a3 a4 a5 a6 a7 a8 a9).trans h))
theorem amf:AL L60:=vK rfl arh ame
theorem arw:gy Tryz.prog B 61 c61:=⟨rfl,fun h=>(by cases h),fun x hx=>(by cases hx;exact aed),_,Tryz.func61,by kernel_rfl,by kernel_rfl⟩
theorem amg:AL L61:=vK rfl arw amf
theorem amh:AL L21:=gq amg E21 (cu _ _ _) rfl acs Tryz.func21 (by kernel_rfl) (by
 rintro ⟨⟨⟩,a0,⟨⟩⟩ y r h
 exact Eq.trans (by kernel_rfl) ((ad9 a0).trans h))
theorem ami:AL L12:=gq amh E12 (cu _ _ _) rfl acu Tryz.func12 (by kernel_rfl) (by
 rintro ⟨⟨⟩,a0,a1,⟨⟩⟩ y r h
 exact Eq.trans (by kernel_rfl) ((adt a0 a1 r.2.1 r.2.2.1).trans h))
theorem amj:AL L23:=gq ami E23 (cu _ _ _) rfl acv Tryz.func23 (by kernel_rfl) (by
 rintro ⟨⟨⟩,a0,⟨⟩⟩ y r h
 exact Eq.trans (by kernel_rfl) ((adu a0 r.2.1).trans h))
theorem amk:AL L63:=gq amj E63 (cu _ _ _) rfl acw Tryz.func63 (by kernel_rfl) (by
 rintro ⟨⟨⟩,⟨a0,a1,a2,a3,a4,⟨⟩⟩,⟨a5,a6,a7,a8,a9,⟨⟩⟩,⟨⟩⟩ y r h
 exact Eq.trans (by kernel_rfl) ((adV a0 a1 a2 a3 a4 a5 a6 a7 a8 a9).trans h))
theorem aml:AL L22:=gq amk E22 (cu _ _ _) rfl acy Tryz.func22 (by kernel_rfl) (by
 rintro ⟨⟨⟩,a0,⟨⟩⟩ y r h
 exact Eq.trans (by kernel_rfl) ((adX a0 r.2.1).trans h))
theorem amm:AL L24:=gq aml E24 (cu _ _ _) rfl acz Tryz.func24 (by kernel_rfl) (by
 rintro ⟨⟨⟩,a0,⟨⟩⟩ y r h
 exact Eq.trans (by kernel_rfl) ((adY a0 r.2.1).trans h))
theorem amn:AL L14:=gq amm E14 (cu _ _ _) rfl acA Tryz.func14 (by kernel_rfl) (by
 rintro ⟨⟨⟩,⟨⟩⟩ y r h
 exact Eq.trans (by kernel_rfl) ((aea  ).trans h))
set_option maxRecDepth 100000
theorem ok4:gy Tryz.prog B 4 c4:=glue (E:=E4) (cu _ _ _) rfl L14 amn ahr Tryz.func4 (by kernel_rfl) (by
 rintro ⟨⟨⟩,a0,⟨a1,a2,a3,⟨⟩⟩,⟨a4,a5,⟨⟩⟩,⟨a6,a7,a8,a9,bJ,bS,a12,dD,iR,jg,a16,⟨⟩⟩,⟨a17,yN,⟨⟩⟩,H6,a20,a21,⟨⟩⟩ y r h
 exact Eq.trans (by kernel_rfl) ((akP a0 a1 a2 a3 a4 a5 a6 a7 a8 a9 bJ bS a12 dD iR jg a16 a17 yN H6 a20 a21 r.2.2.2.2.2.2.2.1).trans h))
end Go.gI.qJ