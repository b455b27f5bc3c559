/- The top statements: proved is that functions that the law reaches keep their contracts (the solver's maps and tables); no conditions but those that each theorem states. -/
import Derived.Test.YtlfiacncaggbcaaGreatRunA
import Derived.RegionTactic
import Derived.WalkSpells
import Derived.WalkKit
import Derived.StillTactics
import Derived.StillTailTactics
import Derived.Deep.RegionHeld3
import Derived.Deep.LoopGhost
import Derived.Maps.AppendAt
import Derived.OwnWalk
import Derived.Maps.RangeRun
import Derived.Deep.AppendLies
set_option linter.unusedVariables false
set_option linter.unusedSimpArgs false
set_option maxHeartbeats 8000000
set_option maxRecDepth 1000000
namespace Go.dw
open Go.ChangeMaps (setBlock)
section
variable {P:Program} {w:World} {b:Nat} {T k e:TypeId} {kt vt:Ty} {l:List (kt.den×vt.den)}
theorem eZ {w:World} {b:Nat} {o:Obj} (h:b<w.heap.size):(setBlock w b o).heap[b]? = some o:=by simp [setBlock,h]
theorem GV {k v:Ty} (hk:k.fk=true) {x:k.den} {y z:v.den}:∀ {l:List (k.den×v.den)},gM k v (gM k v l x y) x z=gM k v l x z
 | []=>by simp only [gM,(zY hk).2 rfl,aQ]
 | p::r=>by
  cases hc:k.om p.1 x with
  | true=>simp only [gM,hc,aQ,(zY hk).2 rfl]
  | false=>simp only [gM,hc,bJ,GV hk]
theorem MapAt.entry (h:MapAt w b kt vt l) (M:tX P k e kt vt) (ht:P.underlying T=some (.map k e)) {x:kt.den} (hx:kt.ok x) :
 ∃ CB qK born,(Instr.mapEntry T (.map (some b)) (je kt x)).run P w = .ok (.tuple #[je vt (cZ kt vt l x),goInt born]) (setBlock w b (.map CB qK)) ∧
  ∀ (w2:World) (y:vt.den),w2.heap[b]? = some (.map CB qK)→vt.ok y→∃ es2,(Instr.entryStore T (.map (some b)) (goInt born) (je vt y)).run P w2 = .ok () (setBlock w2 b (.map es2 qK)) ∧
   MapAt (setBlock w2 b (.map es2 qK)) b kt vt (gM kt vt l x y):=by
 obtain ⟨es,clock,hb,h1,h2,h3,h4,h5,hk,hv⟩:=h;have aT:b<w.heap.size:=(E5 hb).1;obtain ⟨kl,pQ⟩:=M.key x hx
 -- the second half,from a block in which the entry stands at j
 have store:∀ (CB:Array MapEntry) (qK:Nat) (l1:List (kt.den×vt.den)) (j:Nat) (e0:MapEntry) (p:kt.den×vt.den),CB.toList.map (fun e=>(e.key,e.val))=l1.map (fun p=>(je kt p.1,je vt p.2)) →
  (CB.toList.map (·.born)).Nodup→(∀ e∈CB.toList,e.born<qK)→l1.Pairwise (fun p q=>kt.om p.1 q.1=false)→(∀ p∈l1,kt.ok p.1∧vt.ok p.2)→CB.toList[j]? = some e0→l1[j]? = some p→p.1=x →
  (∀ y,gM kt vt l1 x y=gM kt vt l x y) →
  ∀ (w2:World) (y:vt.den),w2.heap[b]? = some (.map CB qK)→vt.ok y→∃ es2,(Instr.entryStore T (.map (some b)) (goInt e0.born) (je vt y)).run P w2 = .ok () (setBlock w2 b (.map es2 qK)) ∧
   MapAt (setBlock w2 b (.map es2 qK)) b kt vt (gM kt vt l x y):=by
  intro CB qK l1 j e0 p g1 g2 g3 g4 g5 hj hl hp ajv w2 y hw2 hy;have ah3:b<w2.heap.size:=(E5 hw2).1;have Om:j<CB.toList.length:=(List.getElem?_eq_some_iff.1 hj).1
  have apq:CB.findIdx? (fun e=>(e.born:Int)==(e0.born:Int))=some j:=by
   rw [show CB=CB.toList.toArray from rfl,List.findIdx?_toArray,List.findIdx?_eq_some_iff_getElem]
   have e1:CB.toList[j]=e0:=(List.getElem?_eq_some_iff.1 hj).2
   refine ⟨Om,by rw [e1];simp,fun i hi=>?_⟩
   have ZA:i<CB.toList.length:=by omega
   simp only [beq_iff_eq,Int.natCast_inj];intro hh
   have n1:(CB.toList.map (·.born))[i]'(by simpa using ZA)=(CB.toList.map (·.born))[j]'(by simpa using Om):=by
    simp only [List.getElem_map,e1];exact hh
   exact List.pairwise_iff_getElem.1 g2 i j (by simpa using ZA) (by simpa using Om) hi n1
  have ajw:(CB.modify j (fun e'=>{ e' with val:=je vt y })).toList=CB.toList.set j { e0 with val:=je vt y }:=by
   rw [Array.toList_modify,Go.ChangeMaps.modify_eq_set _ _ _ _ hj]
  have l9:=Lx hk (y:=y) g4 hl;rw [hp] at l9;obtain ⟨p',q1,q2,q3⟩:=iO g1 hj
  have hpp:p' = p:=by rw [hl] at q1;exact (Option.some.inj q1).symm
  subst hpp
  refine ⟨CB.modify j (fun e'=>{ e' with val:=je vt y }),?_,_,_,eZ ah3,?_,?_,?_,?_,?_,hk,hv⟩
  ·simp [Instr.entryStore,MapKept.run_getObj_map hw2,asInt,asIntOf,goInt,apq,MapKept.run_setObj_map _ hw2,Result.andThen,setBlock]
  ·rw [ajw,←ajv,l9,List.map_set,List.map_set,g1]
   congr 1
   rw [q2,hp]
  ·rw [ajw,List.map_set]
   have:(CB.toList.map (·.born)).set j e0.born=CB.toList.map (·.born):=by
    refine List.ext_getElem? fun i=>?_
    rw [List.getElem?_set];split
    ·rename_i qO
     subst qO;simp only [pJ,Om,if_true,List.getElem?_map,hj,Option.map_some]
    ·rfl
   rw [this];exact g2
  ·intro e1 he
   rw [ajw] at he
   rcases List.mem_or_eq_of_mem_set he with he | rfl
   ·exact g3 e1 he
   ·exact g3 e0 (List.mem_of_getElem? hj)
  ·rw [←ajv,l9]
   have:(l1.set j (x,y)).map (·.1)=l1.map (·.1):=by
    rw [List.map_set]
    refine List.ext_getElem? fun i=>?_
    rw [List.getElem?_set];split
    ·rename_i qO
     subst qO;have:=(List.getElem?_eq_some_iff.1 hl).1;simp only [pJ,this,if_true,List.getElem?_map,hl,Option.map_some,hp]
    ·rfl
   have LA:(l1.map (·.1)).Pairwise (fun a c=>kt.om a c=false):=List.pairwise_map.2 g4
   rw [←this] at LA;exact List.pairwise_map.1 LA
  ·rw [←ajv,l9]
   intro p'' ajx
   rcases List.mem_or_eq_of_mem_set ajx with ajx | rfl
   ·exact g5 p'' ajx
   ·exact ⟨hx,hy⟩
 rcases M.keyed.find w pQ es.toList (fun e0 he=>by
  obtain ⟨p,hp,q⟩:=qc h1 he
  rw [q];exact M.key p.1 (h5 p hp).1) with ⟨f1,f2⟩ | ⟨j,e0,f1,f2,f3⟩
 ·have fC:∀ p∈l,p.1≠x:=fun p hp fC=>by
   obtain ⟨e0,q1,q2⟩:=ng h1 hp
   exact f2 e0 q1 (by rw [q2,fC])
  have hg:cZ kt vt l x=vt.dflt:=by simp only [cZ,EF hk fC]
  refine ⟨es.push ⟨je kt x,je vt vt.dflt,clock⟩,clock+1,clock,?_,?_⟩
  ·rw [hg]
   simp [Instr.mapEntry,run_underlying ht,MapKept.run_getObj_map hb,M.keyed.check w false pQ,f1,M.zero w,MapKept.run_setObj_map _ hb,Result.andThen,setBlock]
  ·refine store _ _ (l++[(x,vt.dflt)]) l.length ⟨je kt x,je vt vt.dflt,clock⟩ (x,vt.dflt) ?_ ?_ ?_ ?_ ?_ ?_ ?_ rfl ?_
   ·rw [Array.toList_push,vO,vO,h1];rfl
   ·rw [Array.toList_push,vO,List.map_singleton]
    refine List.nodup_append.2 ⟨h2,by simp,fun a ha c hc=>?_⟩
    simp only [List.mem_singleton] at hc;obtain ⟨e0,he0,rfl⟩:=List.mem_map.1 ha;have:=h3 e0 he0;omega
   ·intro e0 he
    simp only [Array.toList_push,pV,List.mem_singleton] at he
    rcases he with he | rfl
    ·have:=h3 e0 he;omega
    ·show clock<clock+1
     omega
   ·refine List.pairwise_append.2 ⟨h4,by simp,fun p hp q hq=>?_⟩
    simp only [List.mem_singleton] at hq;subst hq
    cases hc:kt.om p.1 x with
    | false=>rfl
    | true=>exact absurd ((zY hk).1 hc) (fC p hp)
   ·intro p hp
    rcases List.mem_append.1 hp with hp | hp
    ·exact h5 p hp
    ·simp only [List.mem_singleton] at hp
     subst hp;exact ⟨hx,M.zok⟩
   ·have:es.toList.length=l.length:=by have:=congrArg List.length h1;simpa using this
    rw [Array.toList_push,←this];simp
   ·simp
   ·intro y
    rw [←zZ hk (y:=vt.dflt) fC,GV hk]
 ·obtain ⟨p,q1,q2,q3⟩:=iO h1 f2
  have Yx:=List.mem_of_getElem? q1
  have QZ:p.1=x:=EG hk (h5 p Yx).1 hx (by rw [←q2,f3])
  have Om:j<es.toList.length:=(List.getElem?_eq_some_iff.1 f2).1
  have hj:es[j]? = some e0:=by simpa using f2
  have hg:=wD hk h4 q1;rw [QZ] at hg
  have Lg:cZ kt vt l x=p.2:=by simp only [cZ,hg]
  have FT:(es.modify j (fun e'=>{ e' with key:=je kt x })).toList=es.toList:=by
   rw [Array.toList_modify,Go.ChangeMaps.modify_eq_set _ _ _ _ f2]
   refine List.ext_getElem? fun i=>?_
   rw [List.getElem?_set];split
   ·rename_i qO
    subst qO;simp only [Om,if_true,f2,←f3]
   ·rfl
  have hes:es.modify j (fun e'=>{ e' with key:=je kt x })=es:=Array.ext' FT
  refine ⟨es,clock,e0.born,?_,?_⟩
  ·rw [Lg,←q3]
   simp [Instr.mapEntry,run_underlying ht,MapKept.run_getObj_map hb,M.keyed.check w false pQ,f1,hj,f3,M.keyed.stays w pQ,MapKept.run_setObj_map _ hb,Result.andThen,setBlock,hes]
  ·exact store es clock l j e0 p h1 h2 h3 h4 h5 f2 q1 QZ (fun _=>rfl)
end
end Go.dw
namespace Go.dw.rO
open Go Go.Proofs Go.RowKit aA
open Go.ChangeMaps (setBlock)
def vD (w:World) (b:Nat) (vt:Ty) (f:Int→Option vt.den):Prop:=∃ l,MapAt w b (.int .i64) vt l∧∀ x,iE (.int .i64) vt l x=f x
theorem vD.same {w w':World} {b:Nat} {vt:Ty} {f:Int→Option vt.den} (h:vD w b vt f) (hb:w'.heap[b]? = w.heap[b]?):vD w' b vt f:=by
 obtain ⟨l,h1,h2⟩:=h;exact ⟨l,h1.same hb,h2⟩
theorem vD.lt {w:World} {b:Nat} {vt:Ty} {f:Int→Option vt.den} (h:vD w b vt f):b<w.heap.size:=by
 obtain ⟨l,⟨es,c,h1,_⟩,_⟩:=h;exact (E5 h1).1
structure nK (w:World) (s cb sb n:Nat) (mc ms:Nat→Nat) (T:List SB):Prop where
 c1:∃ c,w.cell? ⟨s,1,none⟩=some (.slice (some ⟨cb,0,none⟩) n c)
 c2:∃ c,w.cell? ⟨s,2,none⟩=some (.slice (some ⟨sb,0,none⟩) n c)
 pc:∀ i,i<n→w.cell? ⟨cb,i,none⟩=some (.map (some (mc i)))
 ps:∀ i,i<n→w.cell? ⟨sb,i,none⟩=some (.map (some (ms i)))
 fc:∀ i,i<n→vD w (mc i) (.int .i64) (T.getD i zB).1
 fs:∀ i,i<n→vD w (ms i) hpY (T.getD i zB).2
 dc:∀ i j,i<n→j<n→i≠j→mc i≠mc j
 ds:∀ i j,i<n→j<n→i≠j→ms i≠ms j
 dm:∀ i j,i<n→j<n→mc i≠ms j
 ns:∀ i,i<n→mc i≠s∧mc i≠cb∧mc i≠sb∧ms i≠s∧ms i≠cb∧ms i≠sb
theorem abw {T:List SB} {i:Nat} {l:List (Int×Int)} {x:Int} (h:iE (.int .i64) (.int .i64) l x=(T.getD i zB).1 x) :
 (bif DX (.int .i64) (.int .i64) l x then cZ (.int .i64) (.int .i64) l x else wR)=eD (T.getD i zB) x:=by
 unfold DX cZ eD;rw [h]
 cases (T.getD i zB).1 x<;>rfl
theorem pG {w:World} {s cb sb n:Nat} {mc ms:Nat→Nat} {T:List SB} (S:nK w s cb sb n mc ms T) {i:Nat} (hi:i<n) (hn:n≤64) {r:Int} (hr:IntKind.i64.has r) :
 Calls Tryz.prog 119 #[.pointer (some ⟨s,0,none⟩),.int .i64 i,.int .i64 r] w fun e w'=>e = .returned (.int .i64 (eD (T.getD i zB) r))∧w' = w:=by
 obtain ⟨c,h1⟩:=S.c1;have h2:=S.pc i hi;obtain ⟨l,hM,hl⟩:=S.fc i hi;have h3:=(hM.lookup Mg Tryz.underlying169 (x:=r) hr true).1;have Ip:(Instr.lookup 169 (.map (some (mc i))) (.int .i64 r) true).run Tryz.prog w = .ok (.tuple #[.int .i64 (cZ (.int .i64) (.int .i64) l r),.bool (DX (.int .i64) (.int .i64) l r)]) w:=h3;have e:=abw (T:=T) (i:=i) (hl r)
 have hi0:(0:Int)≤(i:Int):=by omega
 have hi1:(i:Int)<(n:Int):=by omega
 generalize eD (T.getD i zB) r=A at e ⊢
 cases hb:DX (.int .i64) (.int .i64) l r with
 | true=>
  rw [hb] at Ip e
  go_enter Tryz.func119,Tryz.ntmps119
  go_wp2
  go_ret
  exact ⟨by rw [←e];rfl,rfl⟩
 | false=>
  rw [hb] at Ip e
  go_enter Tryz.func119,Tryz.ntmps119
  go_wp2
  go_ret
  exact ⟨by rw [←e];rfl,rfl⟩
structure aC (w w':World) (X:Nat→Prop):Prop where
 os:w'.os=w.os
 tape:w'.tape=w.tape
 output:w'.output=w.output
 size:w.heap.size≤w'.heap.size
 block:∀ b,b<w.heap.size→¬ X b→w'.heap[b]? = w.heap[b]?
theorem aC.refl (w:World) (X:Nat→Prop):aC w w X:=⟨rfl,rfl,rfl,bT _,fun _ _ _=>rfl⟩
theorem aC.trans {w1 w2 w3:World} {X Y:Nat→Prop} (h:aC w1 w2 X) (k:aC w2 w3 Y) (hY:∀ b,b<w1.heap.size→Y b→X b):aC w1 w3 X:=
 ⟨k.os.trans h.os,k.tape.trans h.tape,k.output.trans h.output,gX h.size k.size,fun b hb hX=>(k.block b (mK hb h.size) fun hy=>hX (hY b hb hy)).trans (h.block b hb hX)⟩
theorem aC.of_below {w w':World} (h:Below w.heap.size w w') (X:Nat→Prop):aC w w' X:=⟨h.os,h.tape,h.output,h.size,fun b hb _=>h.block b hb⟩
theorem aC.cell {w w':World} {X:Nat→Prop} (h:aC w w' X) {b o:Nat} {v:Value} (hc:w.cell? ⟨b,o,none⟩=some v) (hX:¬ X b):w'.cell? ⟨b,o,none⟩=some v:=by
 have hb:b<w.heap.size:=by
  rcases Nat.lt_or_ge b w.heap.size with h | h
  ·exact h
  ·simp [World.cell?,Array.getElem?_eq_none h] at hc
 rw [cell_of_heap (h.block b hb hX)];exact hc
theorem lt_of_cell {w:World} {b o:Nat} {v:Value} (hc:w.cell? ⟨b,o,none⟩=some v):b<w.heap.size:=by
 rcases Nat.lt_or_ge b w.heap.size with h | h
 ·exact h
 ·simp [World.cell?,Array.getElem?_eq_none h] at hc
def Sl (s cb sb n:Nat) (mc ms:Nat→Nat) (b:Nat):Prop:=b=s∨b=cb∨b=sb∨∃ i,i<n∧(b=mc i∨b=ms i)
theorem nK.kept {w w':World} {s cb sb n:Nat} {mc ms:Nat→Nat} {T:List SB} (S:nK w s cb sb n mc ms T) {X:Nat→Prop} (h:aC w w' X) (hX:∀ b,X b→¬ Sl s cb sb n mc ms b):nK w' s cb sb n mc ms T:=by
 have n1:∀ b,Sl s cb sb n mc ms b→¬ X b:=fun b h1 h2=>hX b h2 h1
 obtain ⟨c1,h1⟩:=S.c1;obtain ⟨c2,h2⟩:=S.c2
 exact ⟨⟨c1,h.cell h1 (n1 _ (.inl rfl))⟩,⟨c2,h.cell h2 (n1 _ (.inl rfl))⟩,fun i hi=>h.cell (S.pc i hi) (n1 _ (.inr (.inl rfl))),fun i hi=>h.cell (S.ps i hi) (n1 _ (.inr (.inr (.inl rfl)))),
  fun i hi=>(S.fc i hi).same (h.block _ (S.fc i hi).lt (n1 _ (.inr (.inr (.inr ⟨i,hi,.inl rfl⟩))))),fun i hi=>(S.fs i hi).same (h.block _ (S.fs i hi).lt (n1 _ (.inr (.inr (.inr ⟨i,hi,.inr rfl⟩))))),
  S.dc,S.ds,S.dm,S.ns⟩
theorem nK.below {w w':World} {s cb sb n:Nat} {mc ms:Nat→Nat} {T:List SB} (S:nK w s cb sb n mc ms T) (h:Below w.heap.size w w'):nK w' s cb sb n mc ms T:=
 S.kept (aC.of_below h fun _=>False) fun _ h=>h.elim
theorem vD.put {w:World} {b:Nat} {vt:Ty} {f:Int→Option vt.den} {l:List (Int×vt.den)} (hl:∀ x,iE (.int .i64) vt l x=f x) {r:Int} {y:vt.den}
 (h:MapAt w b (.int .i64) vt (gM (.int .i64) vt l r y)):vD w b vt (rT f r y):=by
 refine ⟨_,h,fun x=>?_⟩
 unfold rT
 have key:∀ l:List (Int×vt.den),iE (.int .i64) vt (gM (.int .i64) vt l r y) x=bif decide (x=r) then some y else iE (.int .i64) vt l x:=by
  intro l
  induction l with
  | nil=>
   simp only [gM,iE,Ty.om]
   by_cases h:x=r
   ·subst h;simp
   ·simp [h,Ne.symm h]
  | cons p q ih=>
   simp only [gM,Ty.om]
   by_cases hp:p.1=r
   ·rw [bL hp]
    simp only [aQ,iE,Ty.om]
    by_cases h:x=r
    ·subst h;simp [hp]
    ·have:¬ p.1=x:=fun h'=>h (h'.symm.trans hp)
     simp [h,Ne.symm h,this]
   ·rw [d9 hp]
    simp only [bJ,iE,Ty.om,ih]
    by_cases h:x=r
    ·subst h
     rw [d9 hp];simp
    ·simp [h]
 rw [key,hl]
theorem aaf {α:Type} {T:List α} {i j:Nat} {x d:α} (hi:i<T.length):(T.set i x).getD j d=if j=i then x else T.getD j d:=by
 simp only [List.getD,List.getElem?_set]
 by_cases h:i=j
 ·subst h;simp [hi]
 ·simp [h,Ne.symm h]
theorem Sm {W:World} {s cb sb n:Nat} {mc ms:Nat→Nat} {T:List SB} (Sd:nK W s cb sb n mc ms T) (hT:T.length=n) {i:Nat} (hi:i<n) {r v nx pt:Int} (hr:IntKind.i64.has r) (hv:IntKind.i64.has v)
 (hnx:IntKind.i64.has nx) (nQ:IntKind.i64.has pt):∃ (Wa Wb Wc Wd:World) (q1 q3:Value) (vc vs:Value),
  (Instr.mapEntry 169 (.map (some (mc i))) (.int .i64 r)).run Tryz.prog W = .ok (.tuple #[vc,q1]) Wa ∧
  (Instr.entryStore 169 (.map (some (mc i))) q1 (.int .i64 v)).run Tryz.prog Wa = .ok () Wb ∧
  (Instr.mapEntry 222 (.map (some (ms i))) (.int .i64 r)).run Tryz.prog Wb = .ok (.tuple #[vs,q3]) Wc ∧
  (Instr.entryStore 222 (.map (some (ms i))) q3 (.agg #[.int .i64 nx,.int .i64 pt])).run Tryz.prog Wc = .ok () Wd ∧
  (∀ b o x,b≠mc i→b≠ms i→W.cell? ⟨b,o,none⟩=some x→Wa.cell? ⟨b,o,none⟩=some x∧Wb.cell? ⟨b,o,none⟩=some x∧Wc.cell? ⟨b,o,none⟩=some x∧Wd.cell? ⟨b,o,none⟩=some x) ∧
  nK Wd s cb sb n mc ms (T.set i (rT (T.getD i zB).1 r v,rT (T.getD i zB).2 r (nx,pt,())))∧aC W Wd (fun b=>b=mc i∨b=ms i):=by
 obtain ⟨lc,hMc,hlc⟩:=Sd.fc i hi;obtain ⟨ls,hMs,hls⟩:=Sd.fs i hi;obtain ⟨CB,k1,b1,hE1,hS1⟩:=hMc.entry Mg Tryz.underlying169 (x:=r) hr;have hmc:=(Sd.fc i hi).lt;have hms:=(Sd.fs i hi).lt;have fC:=Sd.dm i i hi hi;obtain ⟨es2,hE2,WT⟩:=hS1 (setBlock W (mc i) (.map CB k1)) v (eZ hmc) hv
 obtain ⟨Wb,hWb⟩:∃ w,w=setBlock (setBlock W (mc i) (.map CB k1)) (mc i) (.map es2 k1):=⟨_,rfl⟩
 rw [←hWb] at hE2 WT
 have other:∀ b,b≠mc i→Wb.heap[b]? = W.heap[b]?:=fun b hb=>by rw [hWb,aN hb,aN hb]
 have szb:Wb.heap.size=W.heap.size:=by rw [hWb];simp [setBlock]
 obtain ⟨es3,k3,b3,hE3,hS3⟩:=(hMs.same (other _ (Ne.symm fC))).entry Cy Tryz.underlying222 (x:=r) hr
 obtain ⟨es4,hE4,hM4⟩:=hS3 (setBlock Wb (ms i) (.map es3 k3)) (nx,pt,()) (eZ (by rw [szb];exact hms)) ⟨hnx,nQ,trivial⟩
 obtain ⟨Wd,hWd⟩:∃ w,w=setBlock (setBlock Wb (ms i) (.map es3 k3)) (ms i) (.map es4 k3):=⟨_,rfl⟩
 rw [←hWd] at hE4 hM4
 have Mt:∀ b,b≠mc i→b≠ms i→Wd.heap[b]? = W.heap[b]?:=fun b hb ku=>by rw [hWd,aN ku,aN ku,other b hb]
 have avR:Wd.heap[mc i]? = Wb.heap[mc i]?:=by rw [hWd,aN fC,aN fC]
 have hK:aC W Wd (fun b=>b=mc i∨b=ms i):=⟨by rw [hWd,hWb];rfl,by rw [hWd,hWb];rfl,by rw [hWd,hWb];rfl,by rw [hWd,hWb];simp [setBlock],fun b _ hb=>Mt b (fun h=>hb (.inl h)) (fun h=>hb (.inr h))⟩
 refine ⟨_,Wb,_,Wd,_,_,_,_,hE1,hE2,hE3,hE4,fun b o x hb ku hx=>⟨?_,?_,?_,?_⟩,?_,hK⟩
 ·rw [cell_of_heap (aN hb)];exact hx
 ·rw [cell_of_heap (other b hb)];exact hx
 ·rw [cell_of_heap (aN ku),cell_of_heap (other b hb)];exact hx
 ·rw [cell_of_heap (Mt b hb ku)];exact hx
 ·obtain ⟨c1,h1⟩:=Sd.c1
  obtain ⟨c2,h2⟩:=Sd.c2
  have nX:∀ b,b=s∨b=cb∨b=sb→¬ (b=mc i∨b=ms i):=by
   obtain ⟨n1,n2,n3,n4,n5,n6⟩:=Sd.ns i hi;rintro b (rfl | rfl | rfl) (h | h)
   ·exact n1 h.symm
   ·exact n4 h.symm
   ·exact n2 h.symm
   ·exact n5 h.symm
   ·exact n3 h.symm
   ·exact n6 h.symm
  refine ⟨⟨c1,hK.cell h1 (nX _ (.inl rfl))⟩,⟨c2,hK.cell h2 (nX _ (.inl rfl))⟩,fun j hj=>hK.cell (Sd.pc j hj) (nX _ (.inr (.inl rfl))),fun j hj=>hK.cell (Sd.ps j hj) (nX _ (.inr (.inr rfl))),fun j hj=>?_,fun j hj=>?_,Sd.dc,Sd.ds,Sd.dm,Sd.ns⟩
  ·rw [aaf (by omega)]
   by_cases h:j=i
   ·subst h
    rw [if_pos rfl];exact (vD.put hlc WT).same avR
   ·rw [if_neg h]
    exact (Sd.fc j hj).same (Mt _ (Sd.dc j i hj hi h) (Sd.dm j i hj hi))
  ·rw [aaf (by omega)]
   by_cases h:j=i
   ·subst h
    rw [if_pos rfl];exact vD.put hls hM4
   ·rw [if_neg h]
    exact (Sd.fs j hj).same (Mt _ (fun h'=>Sd.dm i j hi hj h'.symm) (Sd.ds j i hj hi h))
theorem yM {w:World} {s cb sb n:Nat} {mc ms:Nat→Nat} {T:List SB} (S:nK w s cb sb n mc ms T) (hT:T.length=n) {i:Nat} (hi:i<n) (hn:n≤64) {r v nx pt:Int} (hr:IntKind.i64.has r) (hv:IntKind.i64.has v)
 (hnx:IntKind.i64.has nx) (nQ:IntKind.i64.has pt) :
 Calls Tryz.prog 118 #[.pointer (some ⟨s,0,none⟩),.int .i64 i,.int .i64 r,.int .i64 v,.agg #[.int .i64 nx,.int .i64 pt]] w fun e w'=>
  e = .returned (.bool (nV (T.getD i zB) r v))∧nK w' s cb sb n mc ms (T.set i (jo (T.getD i zB) r v (nx,pt,())))∧aC w w' (fun b=>b=mc i∨b=ms i):=by
 have xB:Below w.heap.size w (w.alloc (.cells #[.int .i64 nx,.int .i64 pt] 225)):=(Below.refl _ _).alloc (bT _) _;have S1:=S.below xB
 have O7:T.set i (T.getD i zB)=T:=by
  rw [List.getD,iw (by omega)]
  simp
 cases hb:nV (T.getD i zB) r v with
 | false=>
  have aT:eD (T.getD i zB) r≤v:=by
   have:decide (v<eD (T.getD i zB) r)=false:=hb;have:=of_decide_eq_false this;omega
  have e1:jo (T.getD i zB) r v (nx,pt,())=T.getD i zB:=by unfold jo;rw [hb];rfl
  rw [e1,O7]
  have GX:∀ W,W=w.alloc (.cells #[.int .i64 nx,.int .i64 pt] 225)→Calls Tryz.prog 119 #[.pointer (some ⟨s,0,none⟩),.int .i64 i,.int .i64 r] W fun e w'=>e = .returned (.int .i64 (eD (T.getD i zB) r))∧w' = W:=by
   rintro W rfl;exact pG S1 hi hn hr
  generalize eD (T.getD i zB) r=A at GX aT
  go_enter Tryz.func118,Tryz.ntmps118
  go_wp2_with (first
   | (go_at_call 119;refine (GX _ rfl).mono ?_;rintro e w1 ⟨rfl,rfl⟩))
  go_ret
  exact ⟨rfl,S1,aC.of_below xB _⟩
 | true=>
  have aT:¬ eD (T.getD i zB) r≤v:=by
   have:decide (v<eD (T.getD i zB) r)=true:=hb;have:=vP this;omega
  have e1:jo (T.getD i zB) r v (nx,pt,())=(rT (T.getD i zB).1 r v,rT (T.getD i zB).2 r (nx,pt,())):=by unfold jo;rw [hb];rfl
  rw [e1]
  have GX:∀ W,W=w.alloc (.cells #[.int .i64 nx,.int .i64 pt] 225)→Calls Tryz.prog 119 #[.pointer (some ⟨s,0,none⟩),.int .i64 i,.int .i64 r] W fun e w'=>e = .returned (.int .i64 (eD (T.getD i zB) r))∧w' = W:=by
   rintro W rfl;exact pG S1 hi hn hr
  generalize eD (T.getD i zB) r=A at GX aT;have Sd:nK (w.alloc (.cells #[.int .i64 nx,.int .i64 pt] 225)).drew s cb sb n mc ms T:=S1.below ((Below.refl _ _).drew);obtain ⟨c1,h1⟩:=Sd.c1;obtain ⟨c2,h2⟩:=Sd.c2;have h3:=Sd.pc i hi;have h4:=Sd.ps i hi;obtain ⟨n1,n2,n3,n4,n5,n6⟩:=Sd.ns i hi;have hlc:=(S.fc i hi).lt;have hls:=(S.fs i hi).lt;have g0:(w.alloc (.cells #[.int .i64 nx,.int .i64 pt] 225)).cell? ⟨w.heap.size,0,none⟩=some (.int .i64 nx):=bV _ _ _ _;have g1:(w.alloc (.cells #[.int .i64 nx,.int .i64 pt] 225)).cell? ⟨w.heap.size,1,none⟩=some (.int .i64 pt):=bV _ _ _ _;obtain ⟨Wa,Wb,Wc,Wd,q1,q3,vc,vs,hE1,hE2,hE3,hE4,qF,hSd,hKd⟩:=Sm Sd hT hi (r:=r) (v:=v) (nx:=nx) (pt:=pt) hr hv hnx nQ;obtain ⟨a1,b1,d1,f1⟩:=qF s 1 _ (Ne.symm n1) (Ne.symm n4) h1;obtain ⟨a2,b2,d2,f2⟩:=qF s 2 _ (Ne.symm n1) (Ne.symm n4) h2;obtain ⟨a3,b3,d3,f3⟩:=qF cb i _ (Ne.symm n2) (Ne.symm n5) h3;obtain ⟨a4,b4,d4,f4⟩:=qF sb i _ (Ne.symm n3) (Ne.symm n6) h4
  obtain ⟨a5,b5,d5,f5⟩:=qF w.heap.size 0 _ (by omega) (by omega) g0
  obtain ⟨a6,b6,d6,f6⟩:=qF w.heap.size 1 _ (by omega) (by omega) g1
  clear qF
  have hi0:(0:Int)≤(i:Int):=by omega
  have hi1:(i:Int)<(n:Int):=by omega
  have key:Calls Tryz.prog 118 #[.pointer (some ⟨s,0,none⟩),.int .i64 i,.int .i64 r,.int .i64 v,.agg #[.int .i64 nx,.int .i64 pt]] w fun e w'=>e = .returned (.bool true)∧w' = Wd:=by
   clear hSd hKd
   go_enter Tryz.func118,Tryz.ntmps118
   go_wp2_with (first
    | (go_at_call 119;refine (GX _ rfl).mono ?_;rintro e w1 ⟨rfl,rfl⟩))
   go_region_held3 (fun w'=>w'.cell? ⟨s,1,none⟩=some (.slice (some ⟨cb,0,none⟩) n c1)∧w'.cell? ⟨s,2,none⟩=some (.slice (some ⟨sb,0,none⟩) n c2)∧w'.cell? ⟨cb,i,none⟩=some (.map (some (mc i)))∧w'.cell? ⟨sb,i,none⟩=some (.map (some (ms i)))∧w'.cell? ⟨w.heap.size,0,none⟩=some (.int .i64 nx)∧w'.cell? ⟨w.heap.size,1,none⟩=some (.int .i64 pt)) (first | go_keep | (refine ⟨?_,?_,?_,?_,?_,?_⟩<;>assumption)) (fail)
   all_goals go_wp2
   all_goals go_ret
   exact ⟨rfl,rfl⟩
  refine key.mono ?_;rintro e w' ⟨rfl,rfl⟩;refine ⟨rfl,hSd,?_⟩
  exact ((aC.of_below xB _).trans (aC.of_below ((Below.refl _ _).drew) (fun b=>b=mc i∨b=ms i)) (fun _ _ h=>h)).trans hKd fun _ _ h=>h
structure qL (w:World) (ab ao:Nat) (l:List Ar):Prop where
 p0:∀ k,k<l.length→w.cell? ⟨ab,ao+k*3,none⟩=some (.int .i64 (l.getD k zA).1.1)
 p1:∀ k,k<l.length→w.cell? ⟨ab,ao+k*3+1,none⟩=some (.int .i64 (l.getD k zA).1.2.1)
 p2:∀ k,k<l.length→w.cell? ⟨ab,ao+k*3+2,none⟩=some (.int .i64 (l.getD k zA).2.1)
theorem qL.kept {w w':World} {ab ao:Nat} {l:List Ar} (h:qL w ab ao l) {X:Nat→Prop} (hk:aC w w' X) (hX:¬ X ab):qL w' ab ao l:=
 ⟨fun k hl=>hk.cell (h.p0 k hl) hX,fun k hl=>hk.cell (h.p1 k hl) hX,fun k hl=>hk.cell (h.p2 k hl) hX⟩
def EN (t:SB):Prop:=∀ r c,t.1 r=some c→0≤c∧c≤wR
theorem EN.at_ {t:SB} (h:EN t) (r:Int):0≤eD t r∧eD t r≤wR:=by
 unfold eD
 cases hc:t.1 r with
 | none=>exact ⟨by decide,by decide⟩
 | some c=>exact h r c hc
theorem EN.Sr {t:SB} (h:EN t) {r v:Int} {x:Se} (hv:0≤v):EN (jo t r v x):=by
 unfold jo
 cases hb:nV t r v with
 | false=>exact h
 | true=>
  have:v<eD t r:=vP hb;have h2:=(h.at_ r).2;intro q c hc;simp only [aQ,rT] at hc
  by_cases hq:q=r
  ·subst hq
   simp only [decide_true,aQ,bn] at hc;subst hc
   exact ⟨hv,by omega⟩
  ·rw [d9 hq] at hc
   exact h q c hc
theorem PG {s:SB×Bool} {a:Ar} (h:EN s.1) (ha:0≤a.2.1):EN (kH s a).1:=h.Sr (by have:=(h.at_ a.1.2.1).1;omega)
theorem fold_succ (l:List Ar) (t:SB) (k:Nat) (hk:k<l.length):(l.take (k+1)).foldl kH (t,false)=kH ((l.take k).foldl kH (t,false)) (l.getD k zA):=by
 rw [List.take_add_one,List.foldl_append,List.getD,iw hk];rfl
theorem abx (l:List Ar) {t:SB} (ht:EN t) (hl:∀ a∈l,0≤a.2.1):∀ k,EN ((l.take k).foldl kH (t,false)).1:=by
 intro k
 have key:∀ (l:List Ar) (s:SB×Bool),EN s.1→(∀ a∈l,0≤a.2.1)→EN (l.foldl kH s).1:=by
  intro l
  induction l with
  | nil=>exact fun s h _=>h
  | cons a r ih=>exact fun s h hl=>ih _ (PG h (hl a (by simp))) fun b hb=>hl b (by simp [hb])
 exact key _ _ ht fun a ha=>hl a (List.take_subset _ _ ha)
theorem ko {x:Int} (h:0≤x∧x≤2*wR):IntKind.i64.has x:=by
 have e:wR=2305843009213693951:=rfl
 have e1:IntKind.i64.min = -9223372036854775808:=by decide
 have e2:IntKind.i64.max=9223372036854775807:=by decide
 exact ⟨by rw [e1];omega,by rw [e2];omega⟩
theorem ae8 {l:List Ar} (h:nW l=true) {k:Nat} (hk:k<l.length):(1≤(l.getD k zA).1.1∧(l.getD k zA).1.1≤99)∧(1≤(l.getD k zA).1.2.1∧(l.getD k zA).1.2.1≤99)∧1≤(l.getD k zA).2.1∧(l.getD k zA).2.1≤1000:=by
 simp only [nW,dA,List.all_eq_true,inside,mX] at h
 have hm:l.getD k zA∈l:=by rw [List.getD,iw hk];exact zG hk
 obtain ⟨⟨h1,h2⟩,h3⟩:=h.2 _ hm;exact ⟨h1,h2,h3⟩
theorem Xo {l:List Ar} {t t2 t':SB} {f2:Bool} {m:Nat} (h:l.foldl kH (t,false)=(t2,f2))
 (hm:wF (fun t=>some (bif (kR l t).2 then .inl (kR l t).1 else .inr (kR l t).1)) m t=some t') :
 (bif f2 then 0<m∧wF (fun t=>some (bif (kR l t).2 then .inl (kR l t).1 else .inr (kR l t).1)) (m - 1) t2=some t' else t2=t':Prop):=by
 have hr:kR l t=(t2,f2):=h
 cases m with
 | zero=>exact absurd hm (by simp [wF])
 | succ m=>
  simp only [wF,hr] at hm
  cases f2 with
  | true=>exact ⟨Nat.succ_pos _,by simpa using hm⟩
  | false=>simpa using hm
theorem PI {l:List Ar} (h:nW l=true):l.length≤1000:=by
 simp only [nW,dA,mX] at h;exact h.1
theorem Kv {k n:Nat} (h:k<n) (hn:n≤1000):wrap64 ((k:Int)+1)=((k+1:Nat):Int):=by unfold wrap64;omega
theorem ji {k n:Nat} (h:k<n):n - (intOf (.int .i64 ((k+1:Nat):Int))).toNat<n - (intOf (.int .i64 (k:Int))).toNat:=by
 show n - (((k+1:Nat):Int)).toNat<n - ((k:Int)).toNat;rw [jd,jd];omega
theorem yN {w:World} {s cb sb n:Nat} {mc ms:Nat→Nat} {T:List SB} (S:nK w s cb sb n mc ms T) (hT:T.length=n) {i:Nat} (hi:i<n) (hn:n≤64) {l:List Ar} {ab ao c:Nat} {p:Option Addr}
 (hl:qL w ab ao l) (yg:ab≠mc i∧ab≠ms i) (hp:l≠[]→p=some ⟨ab,ao,none⟩) (h0:w.cell? ⟨s,0,none⟩=some (.slice p l.length c)) (bK:nW l=true) (hb:EN (T.getD i zB)) {m:Nat} {t':SB}
 (hm:wF (fun t=>some (bif (kR l t).2 then .inl (kR l t).1 else .inr (kR l t).1)) m (T.getD i zB)=some t') :
 Calls Tryz.prog 120 #[.pointer (some ⟨s,0,none⟩),.int .i64 i] w fun e w'=>
  e = .returned (.tuple #[])∧nK w' s cb sb n mc ms (T.set i t')∧aC w w' (fun b=>b=mc i∨b=ms i)∧EN t':=by
 have aps:∀ a∈l,0≤a.2.1:=fun a ha=>by
  simp only [nW,dA,List.all_eq_true,inside,mX] at bK;have:=(bK.2 a ha).2;omega
 have O7:T.set i (T.getD i zB)=T:=by
  rw [List.getD,iw (by omega)]
  simp
 have hsN:¬ (s=mc i∨s=ms i):=by
  obtain ⟨n1,_,_,n4,_⟩:=S.ns i hi;rintro (h | h)
  ·exact n1 h.symm
  ·exact n4 h.symm
 go_enter Tryz.func120,Tryz.ntmps120
 go_wp2
 go_loopg [4] (m+1) (fun k ch wr=>∃ (t:SB) (f:Bool),ch = .bool f∧nK wr s cb sb n mc ms (T.set i t)∧aC w wr (fun b=>b=mc i∨b=ms i)∧EN t ∧
  (bif f then 0<k∧wF (fun t=>some (bif (kR l t).2 then .inl (kR l t).1 else .inr (kR l t).1)) (k - 1) t=some t' else t=t'))
 case atStart=>
  exact ⟨T.getD i zB,true,rfl,by rw [O7];exact S,aC.refl _ _,hb,by simpa using hm⟩
 case round=>
  obtain ⟨t,f,rfl,S1,K1,B1,hf⟩:=hrel;have h0':=K1.cell h0 hsN
  have Yr:=hl.kept K1 (fun h=>by rcases h with h | h;exact yg.1 h;exact yg.2 h)
  cases f with
  | false=>
   have hf:t=t':=hf;subst hf
   have A:Aside (nK wr s cb sb n mc ms (T.set i t)∧aC w wr (fun b=>b=mc i∨b=ms i)∧EN t):=⟨S1,K1,B1⟩
   clear S1 K1 B1 Yr hm hl
   go_wp2
   go_end0
   exact ⟨rfl,A.out.1,A.out.2.1,A.out.2.2⟩
  | true=>
   obtain ⟨Ni,hit⟩:0<gk∧wF (fun t=>some (bif (kR l t).2 then .inl (kR l t).1 else .inr (kR l t).1)) (gk - 1) t=some t':=hf
   have A:Aside (wF (fun t=>some (bif (kR l t).2 then .inl (kR l t).1 else .inr (kR l t).1)) (gk - 1) t=some t'):=hit
   clear hit hm;have avS:wr.cell? ⟨s,0,none⟩=some (.slice p l.length c):=h0'
   go_wp2
   go_loopw [13,4] (fun ix ch w2=>∃ k:Nat,k≤l.length∧ix = .int .i64 k∧ch = .bool ((l.take k).foldl kH (t,false)).2∧nK w2 s cb sb n mc ms (T.set i ((l.take k).foldl kH (t,false)).1)∧aC w w2 (fun b=>b=mc i∨b=ms i))
    (fun ix _ _=>l.length - (intOf ix).toNat)
   case atStart=>
    exact ⟨0,mY _,rfl,rfl,S1,K1⟩
   case round=>
    obtain ⟨k,hk,rfl,rfl,S2,K2⟩:=hrel;generalize gG:(l.take k).foldl kH (t,false)=st at S2;obtain ⟨t2,f2⟩:=st;simp only at S2
    have yF:EN t2:=by have:=abx l B1 aps k;rw [gG] at this;exact this
    have h02:=K2.cell h0 hsN
    have D5:=hl.kept K2 (fun h=>by rcases h with h | h;exact yg.1 h;exact yg.2 h)
    rcases Nat.lt_or_ge k l.length with aT | hge
    ·obtain rfl:=hp (fun h=>by rw [h] at aT;exact absurd aT (Nat.not_lt_zero _))
     have q0:=D5.p0 k aT;have q1:=D5.p1 k aT;have q2:=D5.p2 k aT;obtain ⟨⟨r1,r2⟩,⟨r3,r4⟩,r5,r6⟩:=ae8 bK aT;have hfs:=fold_succ l t k aT;rw [gG] at hfs;generalize l.getD k zA=a at q0 q1 q2 r1 r2 r3 r4 r5 r6 hfs;obtain ⟨⟨fr,to,u1⟩,co,u2⟩:=a;simp only at q0 q1 q2 r1 r2 r3 r4 r5 r6
     have tY:(T.set i t2).length=n:=by rw [List.length_set];exact hT
     have Zq:(T.set i t2).getD i zB=t2:=by rw [aaf (by omega),if_pos rfl]
     have hA:=yF.at_ to;have ajA:wR=2305843009213693951:=rfl
     have apt:IntKind.i64.has to:=ko (by omega)
     have avT:IntKind.i64.has fr:=ko (by omega)
     have hhv:IntKind.i64.has (co+eD t2 to):=ko (by omega)
     have IX:∀ W,nK W s cb sb n mc ms (T.set i t2)→Calls Tryz.prog 119 #[.pointer (some ⟨s,0,none⟩),.int .i64 i,.int .i64 to] W fun e w'=>e = .returned (.int .i64 (eD t2 to))∧w' = W:=fun W SW=>by
      have:=pG SW hi hn apt;rw [Zq] at this;exact this
     have Mv:∀ W,nK W s cb sb n mc ms (T.set i t2)→Calls Tryz.prog 118 #[.pointer (some ⟨s,0,none⟩),.int .i64 i,.int .i64 fr,.int .i64 (co+eD t2 to),.agg #[.int .i64 to,.int .i64 0]] W fun e w'=>
      e = .returned (.bool (nV t2 fr (co+eD t2 to)))∧nK w' s cb sb n mc ms (T.set i (jo t2 fr (co+eD t2 to) (to,0,())))∧aC W w' (fun b=>b=mc i∨b=ms i):=fun W SW=>by
      have:=yM SW tY hi hn (r:=fr) (v:=co+eD t2 to) (nx:=to) (pt:=0) avT hhv apt (ko (by omega))
      rw [Zq,List.set_set] at this;exact this
     have hwr:aR (co+eD t2 to)=co+eD t2 to:=jm (by omega) (by omega)
     have hfs:(l.take (k+1)).foldl kH (t,false)=(jo t2 fr (co+eD t2 to) (to,0,()),f2 || nV t2 fr (co+eD t2 to)):=hfs;generalize jo t2 fr (co+eD t2 to) (to,0,())=t3 at Mv hfs;generalize nV t2 fr (co+eD t2 to)=f3 at Mv hfs;generalize eD t2 to=Av at *
     have hH:¬ (wr.heap.size=mc i∨wr.heap.size=ms i):=by
      have:=(S2.fc i hi).lt;have:=(S2.fs i hi).lt
      rintro (h | h)<;>omega
     have S3:nK (wr.alloc (.cells #[.int .i64 fr,.int .i64 to,.int .i64 co] 231)).drew s cb sb n mc ms (T.set i t2):=(S2.below ((Below.refl _ _).alloc (bT _) _)).below ((Below.refl _ _).drew)
     have KH:aC wr (wr.alloc (.cells #[.int .i64 fr,.int .i64 to,.int .i64 co] 231)).drew (fun b=>b=mc i∨b=ms i):=
      (aC.of_below ((Below.refl _ _).alloc (bT _) _) (fun b=>b=mc i∨b=ms i)).trans (aC.of_below ((Below.refl _ _).drew) (fun b=>b=mc i∨b=ms i)) (fun _ _ h=>h)
     have g0:(wr.alloc (.cells #[.int .i64 fr,.int .i64 to,.int .i64 co] 231)).cell? ⟨wr.heap.size,0,none⟩=some (.int .i64 fr):=bV _ _ _ _;have g1:(wr.alloc (.cells #[.int .i64 fr,.int .i64 to,.int .i64 co] 231)).cell? ⟨wr.heap.size,1,none⟩=some (.int .i64 to):=bV _ _ _ _;have g2:(wr.alloc (.cells #[.int .i64 fr,.int .i64 to,.int .i64 co] 231)).cell? ⟨wr.heap.size,2,none⟩=some (.int .i64 co):=bV _ _ _ _
     have i1:(k:Int)<(l.length:Int):=by omega
     have i0:(0:Int)≤(k:Int):=by omega
     have AS:Aside ((l.take (k+1)).foldl kH (t,false)=(t3,f2 || f3)∧aC w wr (fun b=>b=mc i∨b=ms i)∧aC wr (wr.alloc (.cells #[.int .i64 fr,.int .i64 to,.int .i64 co] 231)).drew (fun b=>b=mc i∨b=ms i)):=⟨hfs,K2,KH⟩
     clear hfs K2 KH S2 gG D5 hl h02
     cases f3 with
     | true=>
      go_wp2
      go_region_held3 (fun w'=>w'.cell? ⟨wr.heap.size,0,none⟩=some (.int .i64 fr)∧w'.cell? ⟨wr.heap.size,1,none⟩=some (.int .i64 to)∧w'.cell? ⟨wr.heap.size,2,none⟩=some (.int .i64 co))
       (first | go_keep | (refine ⟨?_,?_,?_⟩<;>exact aC.cell (by assumption) (by assumption) (by assumption)))
       (first
        | (go_at_call 119;refine (IX _ S3).mono ?_;rintro e w1 ⟨rfl,rfl⟩)
        | (go_at_call 118;refine (Mv _ S3).mono ?_;rintro e w1 ⟨rfl,hS4,hK4⟩))
      all_goals go_wp2
      obtain ⟨b1,b2,b3⟩:=AS.out;have hw:=Kv aT (PI bK);rw [hw]
      exact ⟨⟨k+1,aT,rfl,by rw [b1];simp,by rw [b1];exact hS4,(b2.trans b3 (fun _ _ h=>h)).trans hK4 (fun _ _ h=>h)⟩,ji aT⟩
     | false=>
      go_wp2
      go_region_held3 (fun w'=>w'.cell? ⟨wr.heap.size,0,none⟩=some (.int .i64 fr)∧w'.cell? ⟨wr.heap.size,1,none⟩=some (.int .i64 to)∧w'.cell? ⟨wr.heap.size,2,none⟩=some (.int .i64 co))
       (first | go_keep | (refine ⟨?_,?_,?_⟩<;>exact aC.cell (by assumption) (by assumption) (by assumption)))
       (first
        | (go_at_call 119;refine (IX _ S3).mono ?_;rintro e w1 ⟨rfl,rfl⟩)
        | (go_at_call 118;refine (Mv _ S3).mono ?_;rintro e w1 ⟨rfl,hS4,hK4⟩))
      all_goals go_wp2
      obtain ⟨b1,b2,b3⟩:=AS.out;have hw:=Kv aT (PI bK);rw [hw]
      exact ⟨⟨k+1,aT,rfl,by rw [b1];simp,by rw [b1];exact hS4,(b2.trans b3 (fun _ _ h=>h)).trans hK4 (fun _ _ h=>h)⟩,ji aT⟩
    ·have gI:k=l.length:=by omega
     rw [gI,List.take_length] at gG
     go_wp2
     have hh:(bif f2 then 0<gk - 1∧wF (fun t=>some (bif (kR l t).2 then .inl (kR l t).1 else .inr (kR l t).1)) (gk - 1 - 1) t2=some t' else t2=t'):=Xo gG A.out
     go_roundg (gk - 1)
     case measure=>omega
     case rel=>exact ⟨t2,f2,rfl,S2,K2,yF,hh⟩
def jP (h:List Hp):List Value:=h.flatMap fun x=>[.int .i64 x.1,.int .i64 x.2.1]
structure jI (w:World) (base vb:Nat) (v:Value) (h:List Hp):Prop where
 lt:vb<base
 le:base≤w.heap.size
 var:w.heap[vb]? = some (.cells #[v] 32 (0,0))
 row:w.ownsRow base 44 2 v h.length (jP h)
structure kD (w w':World) (vb:Nat) (v v':Value):Prop where
 own:∀ g,v'.ownBlock=some g→v.ownBlock=some g∨w.heap.size≤g
 kept:aC w w' fun k=>k=vb∨v.ownBlock=some k
theorem kD.refl (w:World) (vb:Nat) (v:Value):kD w w vb v v:=⟨fun _ h=>.inl h,aC.refl _ _⟩
theorem kD.trans {w1 w2 w3:World} {vb:Nat} {v1 v2 v3:Value} (h:kD w1 w2 vb v1 v2) (k:kD w2 w3 vb v2 v3):kD w1 w3 vb v1 v3:=by
 refine ⟨fun g hg=>?_,h.kept.trans k.kept fun b hb hY=>?_⟩
 ·rcases k.own g hg with h1 | h1
  ·exact h.own g h1
  ·exact .inr (gX h.kept.size h1)
 ·rcases hY with hY | hY
  ·exact .inl hY
  ·rcases h.own b hY with h1 | h1
   ·exact .inr h1
   ·omega
theorem kD.below {w w1 w2:World} {vb:Nat} {v v':Value} (h:Below w.heap.size w w1) (k:kD w1 w2 vb v v'):kD w w2 vb v v':=
 ⟨fun g hg=>(k.own g hg).imp id fun h1=>gX h.size h1,(aC.of_below h fun k=>k=vb∨v.ownBlock=some k).trans k.kept fun _ _ h=>h⟩
theorem jI.below {w w':World} {base vb:Nat} {v:Value} {h:List Hp} (R:jI w base vb v h) (hk:Below w.heap.size w w'):jI w' base vb v h:=by
 obtain ⟨aT,hle,hv,fP⟩:=R;refine ⟨aT,gX hle hk.size,(hk.block vb (lt_of_block hv)).trans hv,fP.1,?_⟩
 rcases fP.2 with h | ⟨g,cap,cur,e1,e2,e3,e4⟩
 ·exact .inl h
 ·exact .inr ⟨g,cap,cur,e1,e2,(hk.block g (lt_of_block e3)).trans e3,e4⟩
theorem jI.own {w:World} {base vb:Nat} {v:Value} {h:List Hp} (R:jI w base vb v h) {g:Nat} (hg:v.ownBlock=some g):base≤g∧g<w.heap.size:=by
 rcases R.row.2 with ⟨rfl,_⟩ | ⟨g',cap,cur,rfl,e2,e3,e4⟩
 ·simp [Value.ownBlock] at hg
 ·simp only [Value.ownBlock,bn] at hg
  subst hg;exact ⟨e2,lt_of_block e3⟩
theorem ajB:(Tryz.prog.info? 44).map (fun i=>(i.zero,i.size,i.bytes))=some (some (.agg #[.int .i64 0,.int .i64 0]),2,16):=by kernel_rfl
theorem cell_two_new (w:World) (x y:Value) (t:TypeId):∀ j u,[x,y][j]? = some u→(w.alloc (.cells #[x,y] t)).cell? ((⟨w.heap.size,0,none⟩:Addr).add j)=some u:=by
 intro j u hj
 match j,hj with
 | 0,hj=>simp at hj;subst hj;simp [Addr.add]
 | 1,hj=>simp at hj;subst hj;simp [Addr.add]
theorem apu (a b:Int):∀ u∈[Value.int .i64 a,Value.int .i64 b],u.oneCell' = true:=by
 intro u hu;simp only [List.mem_cons,List.not_mem_nil,or_false] at hu
 rcases hu with rfl | rfl<;>rfl
theorem tJ {w:World} {base e size n:Nat} {v:Value} {xs:List Value} (h:w.ownsRow base e size v (n+1) xs):∃ p c,v = .slice p (n+1) c:=by
 rcases h.2 with ⟨_,h⟩ | ⟨g,cap,cur,rfl,_⟩
 ·exact absurd h (by omega)
 ·exact ⟨_,_,rfl⟩
theorem Sv {w:World} {base vb:Nat} {v:Value} {h:List Hp} (R:jI w base vb v h) (hn:h.length<100000) {a b:Int} :
 Calls Tryz.prog 122 #[.agg #[.int .i64 a,.int .i64 b],.pointer (some ⟨vb,0,none⟩)] w fun e w'=>
  e = .returned (.tuple #[])∧∃ v',jI w' base vb v' (h++[(a,b,())])∧kD w w' vb v v':=by
 have apv:∀ k,v.ownBlock=some k→k<w.heap.size:=fun k hk=>(R.own hk).2
 obtain ⟨aT,hle,hv,fP⟩:=R;obtain ⟨i0,hi,Lr,Iu,Wq⟩:=info_parts ajB;have Q5:=lt_of_block hv;have uQ:(w.alloc (.cells #[.int .i64 a,.int .i64 b] 44)).heap[vb]? = some (.cells #[v] 32 (0,0)):=(heap_alloc_old w _ Q5).trans hv;have cV:=cell_of_one uQ;have fV:=free_of_one uQ
 have c2:∀ j u,[Value.int .i64 a,Value.int .i64 b][j]? = some u→((w.alloc (.cells #[.int .i64 a,.int .i64 b] 44)).alloc (.cells #[.int .i64 a,.int .i64 b] 44)).cell? ((⟨w.heap.size+1,0,none⟩:Addr).add j)=some u:=by
  have:=cell_two_new (w.alloc (.cells #[.int .i64 a,.int .i64 b] 44)) (.int .i64 a) (.int .i64 b) 44
  simpa using this
 have fC:some vb≠v.ownBlock:=by
  rcases fP.2 with ⟨rfl,_⟩ | ⟨g,cap,cur,rfl,hg,_⟩
  ·simp [Value.ownBlock]
  ·simp only [Value.ownBlock,ne_eq,bn]
   omega
 have Ll:((w.alloc (.cells #[.int .i64 a,.int .i64 b] 44)).alloc (.cells #[.int .i64 a,.int .i64 b] 44)).heap[vb]? = some (.cells #[v] 32 (0,0)):=(heap_alloc_old _ _ (by simp;omega)).trans uQ
 go_enter Tryz.func122,Tryz.ntmps122
 go_wp2_with (first
  | (at_builtin;refine wpList_append_own_at _ rfl _ _ 32 rfl base 44 i0 _ 2 16 Tryz.underlying32 hi Lr Iu Wq rfl (by decide) _ _ _ rfl ((fP.alloc _).alloc _) ⟨w.heap.size+1,0,none⟩ 1 1 [.int .i64 a,.int .i64 b] rfl rfl c2 (apu a b) (by unfold maxLen;omega) (by omega) (by simp;omega) ?_;intro v' w3 AV jY yh Mw;have mF:World.grownBy _ w3 v.ownBlock:=jY;have aby:_∨_:=Mw;clear yh Mw jY;obtain ⟨p,c,rfl⟩:=tJ AV;have NR:=(mF.block vb (by simp;omega) fC).trans Ll;have cV3:=cell_of_one NR;have fV3:=free_of_one NR;have A:Aside (_∧World.grownBy _ w3 v.ownBlock∧_∧(_=v.ownBlock∨_)):=⟨AV,mF,NR,aby⟩;clear AV mF NR aby))
 go_end0
 obtain ⟨PK,hg,NR,ajC⟩:=A.out;refine ⟨rfl,_,⟨aT,?_,one_setCell NR,?_⟩,?_,?_⟩
 ·have:=hg.size
  simp only [World.size_alloc] at this;simp only [World.size_setCell];omega
 ·have hl:(h++[(a,b,())]).length=h.length+1:=by simp
  have hf:jP (h++[(a,b,())])=jP h++[Value.int .i64 a,Value.int .i64 b]:=by simp [jP]
  rw [hl,hf]
  rcases PK.2 with ⟨h0,_⟩ | ⟨g,cap,cur,e1,e2,e3,e4⟩
  ·cases h0
  ·exact ⟨PK.1,.inr ⟨g,cap,cur,e1,e2,(Below.heap_setCell _ _ _ _ (by show g≠vb;omega)).trans e3,e4⟩⟩
 ·intro g Gq
  rcases ajC with h1 | h1
  ·exact .inl (h1.symm.trans Gq)
  ·rw [h1] at Gq
   simp only [World.size_alloc,bn] at Gq
   exact .inr (by omega)
 ·refine ⟨hg.os,hg.tape,hg.output,?_,fun k hk hX=>?_⟩
  ·have:=hg.size
   simp only [World.size_alloc] at this;simp only [World.size_setCell];omega
  ·rw [Below.heap_setCell _ _ _ _ (fun hh=>hX (.inl hh))]
   rw [hg.block k (by simp;omega) (fun hh=>hX (.inr hh.symm)),heap_alloc_old _ _ (by simp;omega),heap_alloc_old _ _ hk]
def Stp (t:SB) (i:Nat):Prop:=∀ r x,t.2 r=some x→0≤x.1∧x.1≤99∧∃ p:Nat,x.2.1=p∧Nat.land p i=p
theorem nK.up {w w':World} {s cb sb n:Nat} {mc ms:Nat→Nat} {T:List SB} {base vb:Nat} {v v':Value} {h:List Hp} (S:nK w s cb sb n mc ms T) (R:jI w base vb v h) (U:kD w w' vb v v')
 (rV:∀ b,Sl s cb sb n mc ms b→b<base∧b≠vb):nK w' s cb sb n mc ms T:=S.kept U.kept fun b hX hS=>by
 have:=rV b hS
 rcases hX with rfl | hX
 ·exact this.2 rfl
 ·have:=(R.own hX).1
  omega
theorem CF (x:Nat) (h:x<64):(BitVec.ofInt 64 (x:Int)).toNat=x:=by
 simp only [BitVec.ofInt_natCast,BitVec.toNat_ofNat];omega
theorem GY {p i:Nat} (h:Nat.land p i=p) (hi:i<64):bits .andNot .i64 (i:Int) (p:Int)=((i - p:Nat):Int):=by
 have hp:p≤i:=by rw [←h];exact Nat.and_le_right
 show IntKind.i64.wrap ((BitVec.ofInt 64 (i:Int) &&& ~~~BitVec.ofInt 64 (p:Int)).toNat:Int)=_
 have e:BitVec.ofInt 64 (i:Int) &&& ~~~BitVec.ofInt 64 (p:Int)=BitVec.ofInt 64 ((i - p:Nat):Int):=by
  have key:∀ i:Fin 64,∀ p:Fin 64,Nat.land p.1 i.1=p.1→BitVec.ofInt 64 (i.1:Int) &&& ~~~BitVec.ofInt 64 (p.1:Int)=BitVec.ofInt 64 ((i.1 - p.1:Nat):Int):=by decide
  exact key ⟨i,hi⟩ ⟨p,by omega⟩ h
 rw [e,CF _ (by omega)]
 exact jm (by omega) (by omega)
theorem Sw {s cb sb n:Nat} {mc ms:Nat→Nat} {T:List SB} {base vb:Nat} (hn:n≤64) (rV:∀ b,Sl s cb sb n mc ms b→b<base∧b≠vb) (gG:∀ i,i<n→Stp (T.getD i zB) i) :
 ∀ (f:Nat) (w:World) (i:Nat) (r:Int) (v:Value) (h h':List Hp),nK w s cb sb n mc ms T→jI w base vb v h→i<n→IntKind.i64.has r→jM T f i r=some h'→h.length+h'.length<100000 →
 Calls Tryz.prog 121 #[.pointer (some ⟨s,0,none⟩),.int .i64 i,.int .i64 r,.func (.func 122) #[] #[.pointer (some ⟨vb,0,none⟩)]] w fun e w'=>
  e = .returned (.tuple #[])∧∃ v',jI w' base vb v' (h++h')∧kD w w' vb v v':=by
 intro f
 induction f with
 | zero=>exact fun _ _ _ _ _ _ _ _ _ _ hc=>by cases hc
 | succ f ih=>
  intro w i r v h h' S R hi rr hc hlen;obtain ⟨c,h1⟩:=S.c2;have h2:=S.ps i hi;obtain ⟨l,hM,hl⟩:=S.fs i hi;have h3:=(hM.lookup Cy Tryz.underlying222 (x:=r) rr false).1
  have hx:cZ (.int .i64) hpY l r=((T.getD i zB).2 r).getD (0,0,()):=by
   unfold cZ;rw [hl]
   cases (T.getD i zB).2 r<;>rfl
  have yO:∀ x,((T.getD i zB).2 r).getD (0,0,())=x→0≤x.1∧x.1≤99∧∃ p:Nat,x.2.1=p∧Nat.land p i=p:=by
   rintro x rfl
   cases hh:(T.getD i zB).2 r with
   | none=>exact ⟨by decide,by decide,0,rfl,Nat.zero_and _⟩
   | some y=>exact gG i hi r y hh
  rw [hx] at h3;simp only [jM] at hc;generalize ((T.getD i zB).2 r).getD (0,0,())=x at hc h3 yO;obtain ⟨x1,x2,u⟩:=x;obtain ⟨y1,y2,p,hp,hpi⟩:=yO _ rfl;simp only at y1 y2 hp hc;subst hp
  have Ma:p≤i:=by rw [←hpi];exact Nat.and_le_right
  have Ip:(Instr.lookup 222 (.map (some (ms i))) (.int .i64 r) false).run Tryz.prog w = .ok (.agg #[.int .i64 x1,.int .i64 p]) w:=h3;have hB:Below w.heap.size w (w.alloc (.cells #[.int .i64 x1,.int .i64 p] 225)):=(Below.refl _ _).alloc (bT _) _;have S1:=S.below hB;have R1:=R.below hB
  have hi0:(0:Int)≤(i:Int):=by omega
  have hi1:(i:Int)<(n:Int):=by omega
  have g0:(w.alloc (.cells #[.int .i64 x1,.int .i64 p] 225)).cell? ⟨w.heap.size,0,none⟩=some (.int .i64 x1):=bV _ _ _ _;have g1:(w.alloc (.cells #[.int .i64 x1,.int .i64 p] 225)).cell? ⟨w.heap.size,1,none⟩=some (.int .i64 p):=bV _ _ _ _
  have hX:¬ (w.heap.size=vb∨v.ownBlock=some w.heap.size):=by
   have:=R.lt;have:=R.le;rintro (h4 | h4)
   ·omega
   ·have:=(R.own h4).2
    omega
  by_cases e1:x1=0
  ·subst e1
   by_cases e2:p=0
   ·subst e2
    simp at hc;subst hc;clear h3 hM hl ih gG rV hx yO;have A:Aside (jI w base vb v h∧Below w.heap.size w (w.alloc (.cells #[.int .i64 0,.int .i64 0] 225))∧jI (w.alloc (.cells #[.int .i64 0,.int .i64 0] 225)) base vb v h):=⟨R,hB,R1⟩;clear R R1 hB S S1
    go_enter Tryz.func121,Tryz.ntmps121
    go_wp2
    go_end0
    refine ⟨rfl,v,?_,kD.below A.out.2.1 (kD.refl _ _ _)⟩;rw [List.append_nil];exact A.out.2.2
   ·have e2':¬ (p:Int)=0:=fun hh=>e2 (by omega)
    rw [bL rfl,d9 e2'] at hc;simp only [Bool.not_true,Bool.not_false,aQ,bJ,jd] at hc
    cases rz:jM T f p r with
    | none=>rw [rz] at hc;cases hc
    | some l1=>
     rw [rz] at hc;simp only [qB] at hc
     cases zI:jM T f (i - p) r with
     | none=>rw [zI] at hc;cases hc
     | some l2=>
      rw [zI] at hc;simp only [qB,bn] at hc;subst hc;simp only [nP] at hlen
      have c1:∀ W,W=w.alloc (.cells #[.int .i64 0,.int .i64 p] 225)→Calls Tryz.prog 121 #[.pointer (some ⟨s,0,none⟩),.int .i64 p,.int .i64 r,.func (.func 122) #[] #[.pointer (some ⟨vb,0,none⟩)]] W fun e w'=>
       e = .returned (.tuple #[])∧∃ v',w'.cell? ⟨w.heap.size,1,none⟩=some (.int .i64 p)∧Aside (jI w' base vb v' (h++l1)∧kD W w' vb v v'∧nK w' s cb sb n mc ms T):=by
       rintro W rfl
       refine (ih _ p r v h l1 S1 R1 (by omega) rr rz (by omega)).mono ?_
       rintro e w' ⟨he,v',R',U'⟩;exact ⟨he,v',U'.kept.cell g1 hX,R',U',S1.up R1 U' rV⟩
      have c3:∀ W v',jI W base vb v' (h++l1)→nK W s cb sb n mc ms T→Calls Tryz.prog 121 #[.pointer (some ⟨s,0,none⟩),.int .i64 (i - p:Nat),.int .i64 r,.func (.func 122) #[] #[.pointer (some ⟨vb,0,none⟩)]] W fun e w'=>
       e = .returned (.tuple #[])∧∃ v2,jI w' base vb v2 ((h++l1)++l2)∧kD W w' vb v' v2:=fun W v' RW SW=>
       ih W (i - p) r v' _ _ SW RW (by omega) rr zI (by simp only [nP];omega)
      have A:Aside (jI w base vb v h∧Below w.heap.size w (w.alloc (.cells #[.int .i64 0,.int .i64 p] 225))):=⟨R,hB⟩;have hd:=GY hpi (mK hi hn);generalize i - p=d at c3 hd;clear h3 hM hl ih gG rV hx yO rz zI R R1 hB S S1
      go_enter Tryz.func121,Tryz.ntmps121
      go_wp2_with (first
       | (go_at_call 121;refine (c3 _ _ A1.out.1 A1.out.2.2).mono ?_;rintro e w2 ⟨rfl,v2,R2,U2⟩)
       | (go_at_call 121;refine (c1 _ rfl).mono ?_;rintro e w1 ⟨rfl,v1,k1,A1⟩))
      go_end0
      obtain ⟨B1,B2,B3⟩:=A1.out;refine ⟨rfl,v2,?_,kD.below A.out.2 (B2.trans U2)⟩;rw [←List.append_assoc];exact R2
  ·rw [d9 e1] at hc
   simp only [Bool.not_false,aQ] at hc
   cases rz:jM T f i x1 with
   | none=>rw [rz] at hc;cases hc
   | some l1=>
    rw [rz] at hc;simp only [qB,bn] at hc;subst hc
    have qN:h.length<100000:=by omega
    simp only [lD] at hlen
    have avW:∀ W,W=w.alloc (.cells #[.int .i64 x1,.int .i64 p] 225)→Calls Tryz.prog 122 #[.agg #[.int .i64 r,.int .i64 x1],.pointer (some ⟨vb,0,none⟩)] W fun e w'=>
     e = .returned (.tuple #[])∧∃ v',w'.cell? ⟨w.heap.size,0,none⟩=some (.int .i64 x1)∧Aside (jI w' base vb v' (h++[(r,x1,())])∧kD W w' vb v v'∧nK w' s cb sb n mc ms T):=by
     rintro W rfl;refine (Sv R1 qN).mono ?_;rintro e w' ⟨he,v',R',U'⟩;exact ⟨he,v',U'.kept.cell g0 hX,R',U',S1.up R1 U' rV⟩
    have ajD:∀ W v',jI W base vb v' (h++[(r,x1,())])→nK W s cb sb n mc ms T→Calls Tryz.prog 121 #[.pointer (some ⟨s,0,none⟩),.int .i64 i,.int .i64 x1,.func (.func 122) #[] #[.pointer (some ⟨vb,0,none⟩)]] W fun e w'=>
     e = .returned (.tuple #[])∧∃ v2,jI w' base vb v2 ((h++[(r,x1,())])++l1)∧kD W w' vb v' v2:=fun W v' RW SW=>
     ih W i x1 v' _ _ SW RW hi (ko (by unfold wR;omega)) rz (by simp only [nP,lD,List.length_nil];omega)
    have A:Aside (jI w base vb v h∧Below w.heap.size w (w.alloc (.cells #[.int .i64 x1,.int .i64 p] 225))):=⟨R,hB⟩;clear h3 hM hl ih gG rV hx yO rz R R1 hB S S1
    go_enter Tryz.func121,Tryz.ntmps121
    go_wp2_with (first
     | (go_at_call 122;refine (avW _ rfl).mono ?_;rintro e w1 ⟨rfl,v1,k1,A1⟩)
     | (go_at_call 121;refine (ajD _ _ A1.out.1 A1.out.2.2).mono ?_;rintro e w2 ⟨rfl,v2,R2,U2⟩))
    go_end0
    obtain ⟨B1,B2,B3⟩:=A1.out;refine ⟨rfl,v2,?_,kD.below A.out.2 (B2.trans U2)⟩
    have:(h++[(r,x1,())])++l1=h++(r,x1,())::l1:=by simp
    rw [←this];exact R2
def nL (w:World) (r bm:Nat) (f:Int→Option Int) (seen:Int→Bool) (n:Nat):Prop:=
 ∃ (l:List (Int×Int)) (es:Array MapEntry) (clock since c0:Nat) (sn:Array Nat),w.heap[r]? = some (.mapIter (some bm) since sn c0)∧w.heap[bm]? = some (.map es clock) ∧
  es.toList.map (fun e=>(e.key,e.val))=l.map (fun p=>(je (.int .i64) p.1,je (.int .i64) p.2))∧(es.toList.map (·.born)).Nodup∧(∀ e∈es.toList,e.born<since)∧since≤c0∧since≤clock ∧
  l.Pairwise (fun p q=>(Ty.int .i64).om p.1 q.1=false)∧(∀ p∈l,IntKind.i64.has p.1∧IntKind.i64.has p.2)∧(∀ x,iE (.int .i64) (.int .i64) l x=f x)∧(leftOf es sn).size=n ∧
  (∀ e∈es.toList,∀ x,e.key = .int .i64 x→(seen x=sn.contains e.born))
theorem nL.same {w w':World} {r bm n:Nat} {f:Int→Option Int} {seen:Int→Bool} (h:nL w r bm f seen n) (h1:w'.heap[r]? = w.heap[r]?) (h2:w'.heap[bm]? = w.heap[bm]?):nL w' r bm f seen n:=by
 obtain ⟨l,es,clock,since,c0,sn,a,b,c⟩:=h;exact ⟨l,es,clock,since,c0,sn,h1.trans a,h2.trans b,c⟩
theorem abz {l:List (Int×Int)} {x c:Int} (h:iE (.int .i64) (.int .i64) l x=some c):∃ p∈l,p.1=x:=by
 induction l with
 | nil=>cases h
 | cons p r ih=>
  by_cases hp:p.1=x
  ·exact ⟨p,by simp,hp⟩
  ·simp only [iE,Ty.om,d9 hp,bJ] at h
   obtain ⟨q,h1,h2⟩:=ih h
   exact ⟨q,by simp [h1],h2⟩
theorem Xp {l:List (Int×Int)} (h4:l.Pairwise (fun p q=>(Ty.int .i64).om p.1 q.1=false)) {p:Int×Int} (hp:p∈l):iE (.int .i64) (.int .i64) l p.1=some p.2:=by
 obtain ⟨j,hj⟩:=List.getElem?_of_mem hp;exact wD (k:=.int .i64) rfl h4 hj
theorem Mx {es:Array MapEntry} {l:List (Int×Int)} (h:es.toList.map (fun e=>(e.key,e.val))=l.map (fun p=>(je (.int .i64) p.1,je (.int .i64) p.2))) {e0:MapEntry} (he:e0∈es.toList) :
 ∃ p∈l,e0.key = .int .i64 p.1∧e0.val = .int .i64 p.2:=by
 obtain ⟨j,hj⟩:=List.getElem?_of_mem he;obtain ⟨p,h1,h2,h3⟩:=iO (kt:=.int .i64) (vt:=.int .i64) h hj;exact ⟨p,List.mem_of_getElem? h1,h2,h3⟩
theorem PL {es:Array MapEntry} {l:List (Int×Int)} (h:es.toList.map (fun e=>(e.key,e.val))=l.map (fun p=>(je (.int .i64) p.1,je (.int .i64) p.2)))
 (h4:l.Pairwise (fun p q=>(Ty.int .i64).om p.1 q.1=false)) {e1 e2:MapEntry} (he1:e1∈es.toList) (he2:e2∈es.toList) (hk:e1.key=e2.key):e1=e2:=by
 obtain ⟨i,hi⟩:=List.getElem?_of_mem he1;obtain ⟨j,hj⟩:=List.getElem?_of_mem he2;obtain ⟨p,p1,p2,_⟩:=iO (kt:=.int .i64) (vt:=.int .i64) h hi;obtain ⟨q,q1,q2,_⟩:=iO (kt:=.int .i64) (vt:=.int .i64) h hj
 have hpq:p.1=q.1:=by
  have:je (.int .i64) p.1=je (.int .i64) q.1:=by rw [←p2,←q2,hk]
  exact (Value.int.inj this).2
 have ZA:=(List.getElem?_eq_some_iff.1 p1).1;have Om:=(List.getElem?_eq_some_iff.1 q1).1
 have key:i=j:=by
  rcases Nat.lt_trichotomy i j with hh | hh | hh
  ·have:=List.pairwise_iff_getElem.1 h4 i j ZA Om hh
   rw [(List.getElem?_eq_some_iff.1 p1).2,(List.getElem?_eq_some_iff.1 q1).2,hpq] at this;simp [Ty.om] at this
  ·exact hh
  ·have:=List.pairwise_iff_getElem.1 h4 j i Om ZA hh
   rw [(List.getElem?_eq_some_iff.1 p1).2,(List.getElem?_eq_some_iff.1 q1).2,hpq] at this;simp [Ty.om] at this
 subst key;exact Option.some.inj (hi.symm.trans hj)
theorem nL.start {w:World} {bm:Nat} {f:Int→Option Int} (h:vD w bm (.int .i64) f):∃ n:Nat×Nat,
 (Instr.range 169 (.map (some bm))).run Tryz.prog w = .ok (.pointer (some ⟨w.heap.size,0,none⟩)) (w.alloc (.mapIter (some bm) n.1 #[] n.1)) ∧
  nL (w.alloc (.mapIter (some bm) n.1 #[] n.1)) w.heap.size bm f (fun _=>false) n.2:=by
 obtain ⟨l,⟨es,clock,hb,h1,h2,h3,h4,h5,hk,hv⟩,hl⟩:=h;have aT:bm<w.heap.size:=(E5 hb).1;refine ⟨(clock,(leftOf es #[]).size),run_range_map w 169 3 3 bm es clock Tryz.underlying169 hb,l,es,clock,clock,clock,#[],heap_alloc_new _ _,(heap_alloc_old _ _ aT).trans hb,h1,h2,h3,bT _,bT _,h4,h5,hl,rfl,?_⟩;intro e _ x _;simp
theorem nL.next {w:World} {r bm n:Nat} {f:Int→Option Int} {seen:Int→Bool} (h:nL w r bm f seen n) (fC:r≠bm) (ty:TypeId) :
 ((∀ x c,f x=some c→seen x=true)∧(Instr.next (.pointer (some ⟨r,0,none⟩)) false ty).run Tryz.prog w = .ok (.tuple #[.bool false]) w) ∨
 ∃ x c w' n',f x=some c∧seen x=false∧IntKind.i64.has x∧(Instr.next (.pointer (some ⟨r,0,none⟩)) false ty).run Tryz.prog w = .ok (.tuple #[.bool true,.int .i64 x,.int .i64 c]) w' ∧
  (Instr.entry (.pointer (some ⟨r,0,none⟩))).run Tryz.prog w' = .ok (.tuple #[.int .i64 x,.int .i64 c]) w'∧aC w w' (fun b=>b=r)∧n' < n∧nL w' r bm f (fun y=>seen y || decide (y=x)) n':=by
 obtain ⟨l,es,clock,since,c0,sn,hr,hb,h1,h2,h3,hsc,abA,h4,h5,hl,hn,abB⟩:=h;have abC:r<w.heap.size:=(E5 hr).1
 rcases run_next_at (P:=Tryz.prog) w ty r bm since c0 sn es clock hr hb h3 hsc with ⟨e1,e2⟩ | ⟨e,he,w1,Od,e2⟩
 ·refine .inl ⟨fun x c hx=>?_,e2⟩
  rw [←hl] at hx;obtain ⟨p,hp,QZ⟩:=abz hx;obtain ⟨e0,q1,q2⟩:=ng (kt:=.int .i64) (vt:=.int .i64) h1 hp
  rw [abB e0 q1 x (by rw [q2,QZ];rfl)]
  exact all_seen es sn e1 e0 q1
 ·have hm:=mem_left he
  obtain ⟨p,hp,QJ,YB⟩:=Mx h1 hm.1
  have hx:f p.1=some p.2:=by rw [←hl];exact Xp h4 hp
  have MB:w1.heap=w.heap:=by rcases Od with rfl | rfl<;>rfl
  refine .inr ⟨p.1,p.2,_,(leftOf es (sn.push e.born)).size,hx,?_,(h5 p hp).1,by rw [QJ,YB] at e2;exact e2,?_,?_,?_,?_⟩
  ·rw [abB e hm.1 p.1 QJ]
   exact hm.2
  ·have:=run_entry_at (P:=Tryz.prog) (setBlock w1 r (.mapIter (some bm) since (sn.push e.born) clock)) r bm since sn es clock e (eZ (by rw [MB];exact abC)) (by rw [aN (Ne.symm fC),MB];exact hb) hm.1 h2
   rw [QJ,YB] at this;exact this
  ·rcases Od with rfl | rfl<;>exact ⟨rfl,rfl,rfl,by simp [setBlock],fun b _ hbr=>aN hbr⟩
  ·rw [←hn]
   exact left_shrinks es sn e he
  ·refine ⟨l,es,clock,since,clock,sn.push e.born,eZ (by rw [MB];exact abC),by rw [aN (Ne.symm fC),MB];exact hb,h1,h2,h3,abA,abA,h4,h5,hl,rfl,?_⟩
   intro e0 he0 x hx0;show (seen x || decide (x=p.1))=_;rw [contains_push,abB e0 he0 x hx0]
   congr 1
   by_cases yO:x=p.1
   ·subst yO
    have:e0=e:=PL h1 h4 he0 hm.1 (by rw [hx0];exact QJ.symm)
    subst this;simp
   ·have:¬ e0.born=e.born:=fun hh=>by
     have:=born_inj h2 he0 hm.1 hh;subst this;rw [QJ] at hx0
     exact yO (by cases hx0;rfl)
    rw [d9 yO];exact (beq_eq_false_iff_ne.2 this).symm
def qz:Code→List Code
 | .loop c=>c::qz c
 | .seq a b=>qz a++qz b
 | .block _ c=>qz c
 | .scope c=>qz c
 | .cond _ a b=>qz a++qz b
 | _=>[]
noncomputable def MC (k:Nat):Code:=((qz (Tryz.f55.body.getD .skip))[k]?).getD .skip
theorem rW {T:List SB} {t:SB} {i:Nat} (h:i<T.length):(T++[t]).getD i zB=T.getD i zB:=by
 simp only [List.getD,List.getElem?_append_left h]
theorem jk {T:List SB} {t:SB} {i:Nat} (h:T.length=i):(T++[t]).getD i zB=t:=by
 subst h;simp [List.getD]
theorem vE {T:List SB} {t t':SB} {i:Nat} (h:T.length=i):(T++[t]).set i t' = T++[t']:=by
 subst h;simp
def visit (T:List SB) (set part:Nat) (t:SB) (x c:Int):SB:=jo t x (c+eD (T.getD (set - part) zB) x) (0,(part:Int),())
def Way (T:List SB) (set part:Nat) (t0:SB) (seen:Int→Bool) (t:SB):Prop:=
 ∀ y,t.1 y=(bif seen y then (dZ T set t0 part).1 y else t0.1 y)∧t.2 y=(bif seen y then (dZ T set t0 part).2 y else t0.2 y)
theorem ajE {t t':SB} {x v:Int} {e:Se} (h1:t.1 x=t'.1 x) (h2:t.2 x=t'.2 x):(jo t x v e).1 x=(jo t' x v e).1 x∧(jo t x v e).2 x=(jo t' x v e).2 x:=by
 have:nV t x v=nV t' x v:=by unfold nV eD;rw [h1]
 unfold jo;rw [this]
 cases nV t' x v with
 | false=>exact ⟨h1,h2⟩
 | true=>simp [rT]
theorem ae9 {t:SB} {x y v:Int} {e:Se} (h:¬ y=x):(jo t x v e).1 y=t.1 y∧(jo t x v e).2 y=t.2 y:=by
 unfold jo
 cases nV t x v with
 | false=>exact ⟨rfl,rfl⟩
 | true=>simp [rT,h]
theorem Way.step {T:List SB} {set part:Nat} {t0 t:SB} {seen:Int→Bool} (h:Way T set part t0 seen t) {x c:Int} (hf:(T.getD part zB).1 x=some c) (hs:seen x=false) :
 Way T set part t0 (fun y=>seen y || decide (y=x)) (visit T set part t x c):=by
 intro y
 by_cases hy:y=x
 ·subst hy
  have h0:=h y;rw [hs] at h0;have h1:=ajE (v:=c+eD (T.getD (set - part) zB) y) (e:=(0,(part:Int),())) h0.1 h0.2;simp only [decide_true,Bool.or_true,aQ,visit,dZ,hf];exact h1
 ·have h1:=ae9 (t:=t) (v:=c+eD (T.getD (set - part) zB) x) (e:=(0,(part:Int),())) hy
  have h0:=h y;simp only [d9 hy,Bool.or_false,visit];exact ⟨h1.1.trans h0.1,h1.2.trans h0.2⟩
theorem Way.end_ {T:List SB} {set part:Nat} {t0 t:SB} {seen:Int→Bool} (h:Way T set part t0 seen t) (hs:∀ x c,(T.getD part zB).1 x=some c→seen x=true):t=dZ T set t0 part:=by
 have key:∀ y,t.1 y=(dZ T set t0 part).1 y∧t.2 y=(dZ T set t0 part).2 y:=by
  intro y;have h0:=h y
  cases hf:(T.getD part zB).1 y with
  | some c=>rw [hs y c hf] at h0;exact h0
  | none=>
   have e1:(dZ T set t0 part).1 y=t0.1 y:=by simp only [dZ,hf]
   have e2:(dZ T set t0 part).2 y=t0.2 y:=by simp only [dZ,hf]
   cases hb:seen y with
   | true=>rw [hb] at h0;exact h0
   | false=>rw [hb] at h0;rw [e1,e2];exact h0
 exact Prod.ext (funext fun y=>(key y).1) (funext fun y=>(key y).2)
theorem Sy {s cb sb set part rb:Nat} {mc ms:Nat→Nat} {T:List SB} {t0:SB} {w:World} {k0:Nat} {Q0:Exit→Act→World→Prop} {x0 x1 x2 x3 x4 x5 x6 x7 x8 x9 Xq Xr Nn Py SA Kk Km Kl Kr Kt Ku IW SC SE SF YD Px Ms U6 YE YF PE YG YH YI YJ YK YL YM YN YO Pt YP Pv YQ YR YS YT Pw Mj IU Kq U7 U8 U9 IV Mr Va x61 x62 Nr Pz Nt Xt Nu Np Xu Xv Xw Xx Xy Xz XA XB XC Vb Vd Ve Vf XD XE Nq Ko Mq XG Ns XH XI XJ XK XL XM XO XP XQ XR D9 Ea Eb Ec Ed Ee Ef Eh Ei Ej El Em En Eo Ep Er Es vC Et AX AY AZ A8 yP yQ yR yS pF yU yV yX yY nZ pU rU yZ za zf zh zi:Value}
 (S:nK w s cb sb (set+1) mc ms (T++[t0])) (hT:T.length=set) (l9:set<64) (hp:0<part) (hps:part<set) (Vg:Nat.land part set=part)
 (It:nL w rb (mc part) (T.getD part zB).1 (fun _=>false) k0) (QT:¬ Sl s cb sb (set+1) mc ms rb) (hB:∀ i,i<set→EN (T.getD i zB))
 (xP:∀ (u15 u16 IY IZ I4 I5 I6 I7 I8 I9 Ja Jb Jc Jd Je Jf Jg Jh Ji Jj Jk:Value) (w':World),nK w' s cb sb (set+1) mc ms (T++[dZ T set t0 part])→aC w w' (fun b=>b=mc set∨b=ms set∨b=rb)→Q0 (.exit 6) ⟨List.toArray (x0::x1::x2::x3::x4::x5::x6::x7::x8::x9::.pointer (some ⟨s,0,none⟩)::.int .i64 set::Xq::Xr::.int .i64 part::u15::u16::SA::Kk::Km::Kl::Kr::Kt::Ku::IW::SC::SE::SF::YD::Px::Ms::U6::YE::YF::PE::YG::YH::YI::YJ::YK::YL::YM::YN::YO::Pt::YP::Pv::YQ::YR::YS::YT::Pw::Mj::IU::Kq::U7::U8::U9::IV::Mr::Va::x61::x62::Nr::Pz::Nt::Xt::Nu::Np::Xu::Xv::Xw::Xx::Xy::Xz::XA::XB::XC::Vb::Vd::Ve::Vf::XD::XE::Nq::Ko::Mq::XG::Ns::XH::XI::XJ::XK::XL::XM::XO::XP::XQ::XR::.pointer (some ⟨rb,0,none⟩)::IY::IZ::I4::I5::I6::I7::I8::I9::Ja::Jb::Jc::Jd::Je::Jf::Jg::Jh::Ji::Jj::Jk::AX::AY::AZ::A8::yP::yQ::yR::yS::pF::yU::yV::yX::yY::nZ::pU::rU::yZ::za::zf::zh::zi::[]),[]⟩ w') :
 Code.wp Tryz.prog (Code.loop (MC 3)) Q0 ⟨List.toArray (x0::x1::x2::x3::x4::x5::x6::x7::x8::x9::.pointer (some ⟨s,0,none⟩)::.int .i64 set::Xq::Xr::.int .i64 part::Nn::Py::SA::Kk::Km::Kl::Kr::Kt::Ku::IW::SC::SE::SF::YD::Px::Ms::U6::YE::YF::PE::YG::YH::YI::YJ::YK::YL::YM::YN::YO::Pt::YP::Pv::YQ::YR::YS::YT::Pw::Mj::IU::Kq::U7::U8::U9::IV::Mr::Va::x61::x62::Nr::Pz::Nt::Xt::Nu::Np::Xu::Xv::Xw::Xx::Xy::Xz::XA::XB::XC::Vb::Vd::Ve::Vf::XD::XE::Nq::Ko::Mq::XG::Ns::XH::XI::XJ::XK::XL::XM::XO::XP::XQ::XR::.pointer (some ⟨rb,0,none⟩)::D9::Ea::Eb::Ec::Ed::Ee::Ef::Eh::Ei::Ej::El::Em::En::Eo::Ep::Er::Es::vC::Et::AX::AY::AZ::A8::yP::yQ::yR::yS::pF::yU::yV::yX::yY::nZ::pU::rU::yZ::za::zf::zh::zi::[]),[]⟩ w:=by
 conv=>arg 2;arg 1;whnf
 have hmp:mc part≠mc set∧mc part≠ms set:=⟨S.dc _ _ (by omega) (by omega) (by omega),S.dm _ _ (by omega) (by omega)⟩
 have hrm:rb≠mc part∧rb≠mc set∧rb≠ms set:=⟨fun h=>QT (.inr (.inr (.inr ⟨part,by omega,.inl h⟩))),fun h=>QT (.inr (.inr (.inr ⟨set,by omega,.inl h⟩))),fun h=>QT (.inr (.inr (.inr ⟨set,by omega,.inr h⟩)))⟩
 go_loopg [] k0 (fun k wr=>∃ (seen:Int→Bool) (t:SB),Way T set part t0 seen t∧nL wr rb (mc part) (T.getD part zB).1 seen k∧nK wr s cb sb (set+1) mc ms (T++[t])∧aC w wr (fun b=>b=mc set∨b=ms set∨b=rb))
 case atStart=>
  exact ⟨fun _=>false,t0,fun y=>⟨rfl,rfl⟩,It,S,aC.refl _ _⟩
 case round=>
  obtain ⟨seen,t,hw,hI,hS,hK⟩:=hrel
  rcases hI.next hrm.1 0 with ⟨oO,bB⟩ | ⟨x,c,w1,n1,hfx,hsx,hxh,bB,ajF,SG,V3,hI1⟩
  ·have e:=hw.end_ oO
   subst e
   have A:Aside (nK wr s cb sb (set+1) mc ms (T++[dZ T set t0 part])∧aC w wr (fun b=>b=mc set∨b=ms set∨b=rb)):=⟨hS,hK⟩
   clear hw hI hS hK S It hB oO
   go_wp2
   exact xP _ _ _ _ _ _ _ _ _ _ _ _ _ _ _ _ _ _ _ _ _ _ A.out.1 A.out.2
  ·have gG:=hw.step hfx hsx
   have hbp:=hB part hps x c hfx
   have YA:=(hB (set - part) (by omega)).at_ x
   have ajA:wR=2305843009213693951:=rfl;have hd:=GY Vg l9
   have S1:nK w1 s cb sb (set+1) mc ms (T++[t]):=hS.kept SG (fun b hb=>by subst hb;exact QT)
   have QZ:IntKind.i64.has (part:Int):=ko (by omega)
   have hvx:IntKind.i64.has (c+eD (T.getD (set - part) zB) x):=ko (by omega)
   have hwr:aR (c+eD (T.getD (set - part) zB) x)=c+eD (T.getD (set - part) zB) x:=jm (by omega) (by omega)
   have hlen:(T++[t]).length=set+1:=by simp [hT]
   have IX:Calls Tryz.prog 119 #[.pointer (some ⟨s,0,none⟩),.int .i64 (set - part:Nat),.int .i64 x] w1 fun e w'=>e = .returned (.int .i64 (eD (T.getD (set - part) zB) x))∧w' = w1:=by
    have:=pG S1 (i:=set - part) (by omega) (by omega) hxh
    rw [rW (by omega)] at this
    exact this
   have Mv:Calls Tryz.prog 118 #[.pointer (some ⟨s,0,none⟩),.int .i64 set,.int .i64 x,.int .i64 (c+eD (T.getD (set - part) zB) x),.agg #[.int .i64 0,.int .i64 part]] w1 fun e w'=>
    ∃ q,e = .returned (.bool q)∧Aside (nK w' s cb sb (set+1) mc ms (T++[visit T set part t x c])∧aC w1 w' (fun b=>b=mc set∨b=ms set)):=by
    have:=yM S1 hlen (i:=set) (by omega) (by omega) (r:=x) (v:=c+eD (T.getD (set - part) zB) x) (nx:=0) (pt:=part) hxh hvx (ko (by decide)) QZ
    rw [jk hT,vE hT] at this;refine this.mono ?_;rintro e w' ⟨rfl,h1,h2⟩;exact ⟨_,rfl,h1,h2⟩
   have A:Aside (Way T set part t0 (fun y=>seen y || decide (y=x)) (visit T set part t x c)∧aC w wr (fun b=>b=mc set∨b=ms set∨b=rb)∧aC wr w1 (fun b=>b=rb)∧nL w1 rb (mc part) (T.getD part zB).1 (fun y=>seen y || decide (y=x)) n1):=⟨gG,hK,SG,hI1⟩
   generalize eD (T.getD (set - part) zB) x=V at YA hvx hwr IX Mv;generalize set - part=d at hd IX;clear hw hI hS hK S It hB gG SG hI1 S1 hfx hsx
   go_wp2_with (first
    | (go_at_call 119;refine IX.mono ?_;rintro e w2 ⟨rfl,rfl⟩)
    | (go_at_call 118;refine Mv.mono ?_;rintro e w2 ⟨q,rfl,A2⟩))
   obtain ⟨B1,B2⟩:=A2.out;obtain ⟨C1,C2,C3,C4⟩:=A.out
   go_roundg n1
   case measure=>exact V3
   case rel=>
    refine ⟨_,_,C1,C4.same (B2.block rb ?_ ?_) (B2.block _ ?_ ?_),B1,(C2.trans C3 ?_).trans B2 ?_⟩
    ·obtain ⟨_,_,_,_,_,_,q,_⟩:=C4
     exact (E5 q).1
    ·rintro (h | h)
     ·exact hrm.2.1 h
     ·exact hrm.2.2 h
    ·obtain ⟨_,_,_,_,_,_,_,q,_⟩:=C4
     exact (E5 q).1
    ·rintro (h | h)
     ·exact hmp.1 h
     ·exact hmp.2 h
    ·exact fun b _ h=>.inr (.inr h)
    ·rintro b _ (h | h)
     ·exact .inl h
     ·exact .inr (.inl h)
theorem Vh {k set:Nat} (hk:k<64) (hs:set<64):bits .and .i64 (k:Int) (set:Int)=((Nat.land k set:Nat):Int):=by
 show IntKind.i64.wrap ((BitVec.ofInt 64 (k:Int) &&& BitVec.ofInt 64 (set:Int)).toNat:Int)=_;have hl:Nat.land k set≤k:=Nat.and_le_left;rw [BitVec.toNat_and,CF k hk,CF set hs]
 exact jm (by show _≤((Nat.land k set:Nat):Int);omega) (by show ((Nat.land k set:Nat):Int)≤_;omega)
theorem PN {k set:Nat} (h0:0<k) (hk:k<64) (hs:set<64):bits .and .i64 ((k:Int) - 1) (set:Int)=((Nat.land (k - 1) set:Nat):Int):=by
 rw [←Vh (by omega) hs]
 congr 1
 omega
theorem zk {s cb sb set p0 f0:Nat} {mc ms:Nat→Nat} {T:List SB} {t0 tf:SB} {w:World} {Q0:Exit→Act→World→Prop} {x0 x1 x2 x3 x4 x5 x6 x7 x8 x9 Xq Xr Nn Py SA Kk Km Kl Kr Kt Ku IW SC SE SF YD Px Ms U6 YE YF PE YG YH YI YJ YK YL YM YN YO Pt YP Pv YQ YR YS YT Pw Mj IU Kq U7 U8 U9 IV Mr Va x61 x62 Nr Pz Nt Xt Nu Np Xu Xv Xw Xx Xy Xz XA XB XC Vb Vd Ve Vf XD XE Nq Ko Mq XG Ns XH XI XJ XK XL XM XO XP XQ XR x99 D9 Ea Eb Ec Ed Ee Ef Eh Ei Ej El Em En Eo Ep Er Es vC Et AX AY AZ A8 yP yQ yR yS pF yU yV yX yY nZ pU rU yZ za zf zh zi:Value}
 (S:nK w s cb sb (set+1) mc ms (T++[t0])) (hT:T.length=set) (l9:set<64) (hp:p0≤set) (hps:0<p0→p0<set) (Vg:Nat.land p0 set=p0) (hB:∀ i,i<set→EN (T.getD i zB))
 (hf:p0<f0) (ahK:(mE set f0 p0).foldl (dZ T set) t0=tf)
 (xP:∀ (u14 u15 u16 u82 u83 u84 u85 u86 u87 u88 u89 u90 u91 u92 u93 u94 u95 u96 u97 u98 u99 IY IZ I4 I5 I6 I7 I8 I9 Ja Jb Jc Jd Je Jf Jg Jh Ji Jj Jk:Value) (w':World),nK w' s cb sb (set+1) mc ms (T++[tf])→aC w w' (fun b=>b=mc set∨b=ms set)→Q0 (.exit 4) ⟨List.toArray (x0::x1::x2::x3::x4::x5::x6::x7::x8::x9::.pointer (some ⟨s,0,none⟩)::.int .i64 set::Xq::Xr::u14::u15::u16::SA::Kk::Km::Kl::Kr::Kt::Ku::IW::SC::SE::SF::YD::Px::Ms::U6::YE::YF::PE::YG::YH::YI::YJ::YK::YL::YM::YN::YO::Pt::YP::Pv::YQ::YR::YS::YT::Pw::Mj::IU::Kq::U7::U8::U9::IV::Mr::Va::x61::x62::Nr::Pz::Nt::Xt::Nu::Np::Xu::Xv::Xw::Xx::Xy::Xz::XA::XB::XC::Vb::Vd::Ve::Vf::u82::u83::u84::u85::u86::u87::u88::u89::u90::u91::u92::u93::u94::u95::u96::u97::u98::u99::IY::IZ::I4::I5::I6::I7::I8::I9::Ja::Jb::Jc::Jd::Je::Jf::Jg::Jh::Ji::Jj::Jk::AX::AY::AZ::A8::yP::yQ::yR::yS::pF::yU::yV::yX::yY::nZ::pU::rU::yZ::za::zf::zh::zi::[]),[]⟩ w') :
 Code.wp Tryz.prog (Code.loop (MC 2)) Q0 ⟨List.toArray (x0::x1::x2::x3::x4::x5::x6::x7::x8::x9::.pointer (some ⟨s,0,none⟩)::.int .i64 set::Xq::Xr::.int .i64 p0::Nn::Py::SA::Kk::Km::Kl::Kr::Kt::Ku::IW::SC::SE::SF::YD::Px::Ms::U6::YE::YF::PE::YG::YH::YI::YJ::YK::YL::YM::YN::YO::Pt::YP::Pv::YQ::YR::YS::YT::Pw::Mj::IU::Kq::U7::U8::U9::IV::Mr::Va::x61::x62::Nr::Pz::Nt::Xt::Nu::Np::Xu::Xv::Xw::Xx::Xy::Xz::XA::XB::XC::Vb::Vd::Ve::Vf::XD::XE::Nq::Ko::Mq::XG::Ns::XH::XI::XJ::XK::XL::XM::XO::XP::XQ::XR::x99::D9::Ea::Eb::Ec::Ed::Ee::Ef::Eh::Ei::Ej::El::Em::En::Eo::Ep::Er::Es::vC::Et::AX::AY::AZ::A8::yP::yQ::yR::yS::pF::yU::yV::yX::yY::nZ::pU::rU::yZ::za::zf::zh::zi::[]),[]⟩ w:=by
 conv=>arg 2;arg 1;whnf
 go_loopg [14] p0 (fun k v14 wr=>∃ (f:Nat) (t:SB),v14 = .int .i64 k∧k≤set∧(0<k→k<set)∧Nat.land k set=k∧k<f∧(mE set f k).foldl (dZ T set) t=tf∧nK wr s cb sb (set+1) mc ms (T++[t])∧aC w wr (fun b=>b=mc set∨b=ms set))
 case atStart=>
  exact ⟨f0,t0,rfl,hp,hps,Vg,hf,ahK,S,aC.refl _ _⟩
 case round=>
  obtain ⟨f,t,rfl,hk,hks,gI,hkf,DI,hS,hK⟩:=hrel
  by_cases Ni:gk=0
  ·subst Ni
   have e:t=tf:=by
    cases f with
    | zero=>exact DI
    | succ f=>exact DI
   subst e
   have A:Aside (nK wr s cb sb (set+1) mc ms (T++[t])∧aC w wr (fun b=>b=mc set∨b=ms set)):=⟨hS,hK⟩
   clear hS hK S hB DI gI Vg
   by_cases Yt:(0:Int)<(set:Int)
   ·go_wp2
    exact xP _ _ _ _ _ _ _ _ _ _ _ _ _ _ _ _ _ _ _ _ _ _ _ _ _ _ _ _ _ _ _ _ _ _ _ _ _ _ _ _ _ A.out.1 A.out.2
   ·go_wp2
    exact xP _ _ _ _ _ _ _ _ _ _ _ _ _ _ _ _ _ _ _ _ _ _ _ _ _ _ _ _ _ _ _ _ _ _ _ _ _ _ _ _ _ A.out.1 A.out.2
  ·have h0:0<gk:=by omega
   have hks:=hks h0
   obtain ⟨f,rfl⟩:∃ f',f=f' + 1:=⟨f - 1,by omega⟩
   have DI:(mE set f (Nat.land (gk - 1) set)).foldl (dZ T set) (dZ T set t gk)=tf:=by
    have:mE set (f+1) gk=gk::mE set f (Nat.land (gk - 1) set):=by simp only [mE,d9 Ni,bJ]
    rw [this] at DI;exact DI
   have hle:Nat.land (gk - 1) set≤gk - 1:=Nat.and_le_left
   have D5:Nat.land (Nat.land (gk - 1) set) set=Nat.land (gk - 1) set:=by
    show ((gk - 1) &&& set) &&& set=(gk - 1) &&& set;rw [Nat.and_assoc,Nat.and_self]
   have Yt:(0:Int)<(set:Int):=by omega
   have Uf:(0:Int)<(gk:Int):=by omega
   have Zq:(0:Int)≤(gk:Int):=by omega
   have V6:(gk:Int)<((set+1:Nat):Int):=by omega
   obtain ⟨c1,h1⟩:=hS.c1
   have h2:=hS.pc gk (by omega)
   have hM:=hS.fc gk (by omega)
   rw [rW (by omega)] at hM
   obtain ⟨⟨n1,n2⟩,bB,hIt⟩:=nL.start hM;generalize Nv:wr.alloc (.mapIter (some (mc gk)) n1 #[] n1)=wa at bB hIt;have Eu:Below wr.heap.size wr wa:=Nv▸(Below.refl _ _).alloc (bT _) _;have hSa:=hS.below Eu
   have QT:¬ Sl s cb sb (set+1) mc ms wr.heap.size:=by
    rintro (h | h | h | ⟨i,hi,h | h⟩)
    ·have:=lt_of_cell h1;omega
    ·have:=lt_of_cell h2;omega
    ·obtain ⟨c2,h3⟩:=hS.c2
     have:=lt_of_cell (hS.ps gk (by omega))
     omega
    ·have:=(hS.fc i hi).lt;omega
    ·have:=(hS.fs i hi).lt;omega
   have A:Aside (aC w wr (fun b=>b=mc set∨b=ms set)∧Below wr.heap.size wr wa∧Nat.land (gk - 1) set≤gk - 1∧Nat.land (Nat.land (gk - 1) set) set=Nat.land (gk - 1) set∧(mE set f (Nat.land (gk - 1) set)).foldl (dZ T set) (dZ T set t gk)=tf∧0<gk∧gk<f+1∧gk<set):=⟨hK,Eu,hle,D5,DI,h0,hkf,hks⟩
   clear hK Eu hle D5 DI Nv
   go_wp2
   refine Sy hSa hT l9 h0 hks gI hIt QT hB ?_;clear bB hIt hSa hM h1 h2 hS S hB;intro u15 u16 IY IZ I4 I5 I6 I7 I8 I9 Ja Jb Jc Jd Je Jf Jg Jh Ji Jj Jk w1 hS1 SG
   go_wp2
   obtain ⟨B1,B2,B3,B4,B5,B6,B7,B8⟩:=A.out
   go_roundg (Nat.land (gk - 1) set)
   case measure=>omega
   case rel=>
    refine ⟨f,_,by rw [PN B6 (by omega) l9],by omega,fun _=>by omega,B4,by omega,B5,hS1,?_⟩
    refine (B1.trans ((aC.of_below B2 fun b=>b=mc set∨b=ms set∨b=wr.heap.size).trans SG fun _ _ h=>h) (Y:=fun b=>b=mc set∨b=ms set∨b=wr.heap.size) ?_)
    rintro b hb (h | h | h)
    ·exact .inl h
    ·exact .inr h
    ·have:=B1.size
     omega
structure tK (w:World) (tb Nw:Nat) (ts:List Int):Prop where
 at_:∀ k,k<ts.length→w.cell? ⟨tb,Nw+k,none⟩=some (.int .i64 (ts.getD k 0))
theorem tK.kept {w w':World} {tb Nw:Nat} {ts:List Int} (h:tK w tb Nw ts) {X:Nat→Prop} (hk:aC w w' X) (hX:¬ X tb):tK w' tb Nw ts:=⟨fun k hl=>hk.cell (h.at_ k hl) hX⟩
theorem SH (set:Nat) (ts:List Int) (i:Nat) (t:SB) (h:i<ts.length) :
 kM set (ts.drop i) i t=kM set (ts.drop (i+1)) (i+1) (bif decide (set=2 ^ i) then jo t (ts.getD i 0) 0 (0,0,()) else t):=by
 rw [List.drop_eq_getElem_cons h];simp only [kM,List.getD,iw h,sw]
theorem Vi {i:Nat} (hi:i<6):wrap64 (2 ^ i)=((2 ^ i:Nat):Int):=by
 have:i=0∨i=1∨i=2∨i=3∨i=4∨i=5:=by omega
 rcases this with rfl | rfl | rfl | rfl | rfl | rfl<;>simp [wrap64]
theorem ajZ {set i:Nat} (hi:i<6) (h:set=2 ^ i):((set:Int)==wrap64 (2 ^ i))=true:=by
 rw [Vi hi,h];exact beq_self_eq_true _
theorem aj0 {set i:Nat} (hi:i<6) (h:¬ set=2 ^ i):((set:Int)==wrap64 (2 ^ i))=false:=by
 rw [Vi hi]
 exact beq_eq_false_iff_ne.2 fun h1=>h (by exact_mod_cast h1)
theorem XT {s cb sb set tb Nw cap:Nat} {ts:List Int} {mc ms:Nat→Nat} {T:List SB} {t0:SB} {w:World} {Q0:Exit→Act→World→Prop} {x0 x1 x2 x3 x4 x5 x6 x7 x8 x9 Xq Xr x14 Nn Py SA Kk Km Kl Kr Kt Ku IW SC SE SF YD Px Ms U6 YE YF PE YG YH YI YJ YK YL YM YN YO Pt YP Pv YQ YR YS YT Pw Mj IU Kq U7 U8 U9 IV Mr Va Pz Nt Xt Nu Np Xu Xv Xw Xx Xy Xz XA XB XC Vb Vd Ve Vf XD XE Nq Ko Mq XG Ns XH XI XJ XK XL XM XO XP XQ XR x99 D9 Ea Eb Ec Ed Ee Ef Eh Ei Ej El Em En Eo Ep Er Es vC Et AX AY AZ A8 yP yQ yR yS pF yU yV yX yY nZ pU rU yZ za zf zh zi:Value}
 (S:nK w s cb sb (set+1) mc ms (T++[t0])) (hT:T.length=set) (l9:set<64) (qD:tK w tb Nw ts) (Xj:tb≠mc set∧tb≠ms set) (hlen:ts.length≤6) (ME:∀ x∈ts,IntKind.i64.has x)
 (xP:∀ (u12 u13 u63 u64 u65 u66 u67 u68 u69 u70 u71 u72 u73 u74 u75 u76 u77:Value) (w':World),nK w' s cb sb (set+1) mc ms (T++[kM set ts 0 t0])→aC w w' (fun b=>b=mc set∨b=ms set)→Q0 (.exit 2) ⟨List.toArray (x0::x1::x2::x3::x4::x5::x6::x7::x8::x9::.pointer (some ⟨s,0,none⟩)::.int .i64 set::u12::u13::x14::Nn::Py::SA::Kk::Km::Kl::Kr::Kt::Ku::IW::SC::SE::SF::YD::Px::Ms::U6::YE::YF::PE::YG::YH::YI::YJ::YK::YL::YM::YN::YO::Pt::YP::Pv::YQ::YR::YS::YT::Pw::Mj::IU::Kq::U7::U8::U9::IV::Mr::Va::.slice (some ⟨tb,Nw,none⟩) ts.length cap::.int .i64 ts.length::u63::u64::u65::u66::u67::u68::u69::u70::u71::u72::u73::u74::u75::u76::u77::Vb::Vd::Ve::Vf::XD::XE::Nq::Ko::Mq::XG::Ns::XH::XI::XJ::XK::XL::XM::XO::XP::XQ::XR::x99::D9::Ea::Eb::Ec::Ed::Ee::Ef::Eh::Ei::Ej::El::Em::En::Eo::Ep::Er::Es::vC::Et::AX::AY::AZ::A8::yP::yQ::yR::yS::pF::yU::yV::yX::yY::nZ::pU::rU::yZ::za::zf::zh::zi::[]),[]⟩ w') :
 Code.wp Tryz.prog (Code.loop (MC 1)) Q0 ⟨List.toArray (x0::x1::x2::x3::x4::x5::x6::x7::x8::x9::.pointer (some ⟨s,0,none⟩)::.int .i64 set::Xq::Xr::x14::Nn::Py::SA::Kk::Km::Kl::Kr::Kt::Ku::IW::SC::SE::SF::YD::Px::Ms::U6::YE::YF::PE::YG::YH::YI::YJ::YK::YL::YM::YN::YO::Pt::YP::Pv::YQ::YR::YS::YT::Pw::Mj::IU::Kq::U7::U8::U9::IV::Mr::Va::.slice (some ⟨tb,Nw,none⟩) ts.length cap::.int .i64 ts.length::.int .i64 0::Pz::Nt::Xt::Nu::Np::Xu::Xv::Xw::Xx::Xy::Xz::XA::XB::XC::Vb::Vd::Ve::Vf::XD::XE::Nq::Ko::Mq::XG::Ns::XH::XI::XJ::XK::XL::XM::XO::XP::XQ::XR::x99::D9::Ea::Eb::Ec::Ed::Ee::Ef::Eh::Ei::Ej::El::Em::En::Eo::Ep::Er::Es::vC::Et::AX::AY::AZ::A8::yP::yQ::yR::yS::pF::yU::yV::yX::yY::nZ::pU::rU::yZ::za::zf::zh::zi::[]),[]⟩ w:=by
 conv=>arg 2;arg 1;whnf
 go_loopw [63] (fun v63 wr=>∃ (i:Nat) (t:SB),i≤ts.length∧v63 = .int .i64 i∧kM set (ts.drop i) i t=kM set ts 0 t0∧nK wr s cb sb (set+1) mc ms (T++[t])∧aC w wr (fun b=>b=mc set∨b=ms set))
  (fun v63 _=>ts.length - (intOf v63).toNat)
 case atStart=>
  exact ⟨0,t0,mY _,rfl,rfl,S,aC.refl _ _⟩
 case round=>
  obtain ⟨i,t,hi,rfl,hb,hS,hK⟩:=hrel
  have i0:(0:Int)≤(i:Int):=by omega
  by_cases ZA:(i:Int)<(ts.length:Int)
  ·have BD:i<ts.length:=by omega
   have hq:=(qD.kept hK (fun h=>h.elim Xj.1 Xj.2)).at_ i BD
   rw [SH set ts i t BD] at hb
   have hxm:IntKind.i64.has (ts.getD i 0):=by
    rw [List.getD,iw BD];exact ME _ (zG BD)
   generalize ts.getD i 0=x at hq hb hxm
   by_cases hse:set=2 ^ i
   ·rw [bL hse,aQ] at hb
    have Mv:Calls Tryz.prog 118 #[.pointer (some ⟨s,0,none⟩),.int .i64 set,.int .i64 x,.int .i64 0,.agg #[.int .i64 0,.int .i64 0]] wr fun e w'=>
     ∃ q,e = .returned (.bool q)∧Aside (nK w' s cb sb (set+1) mc ms (T++[jo t x 0 (0,0,())])∧aC wr w' (fun b=>b=mc set∨b=ms set)):=by
     have:=yM hS (by simp [hT]) (i:=set) (by omega) (by omega) (r:=x) (v:=0) (nx:=0) (pt:=0) hxm (ko (by decide)) (ko (by decide)) (ko (by decide))
     rw [jk hT,vE hT] at this;refine this.mono ?_;rintro e w' ⟨rfl,h1,h2⟩;exact ⟨_,rfl,h1,h2⟩
    have A:Aside (aC w wr (fun b=>b=mc set∨b=ms set)∧kM set (ts.drop (i+1)) (i+1) (jo t x 0 (0,0,()))=kM set ts 0 t0∧set=2 ^ i):=⟨hK,hb,hse⟩
    clear hK hb hse hS S qD
    go_wp2_with (first
     | (go_at_call 118;refine Mv.mono ?_;rintro e w2 ⟨q,rfl,A2⟩))
    all_goals rename_i hh
    all_goals have kW:=ajZ (i:=i) (by omega) A.out.2.2
    all_goals first
     | exact absurd (hh.symm.trans kW) (by decide)
     | skip
    clear hh kW
    exact ⟨⟨i+1,_,BD,rfl,A.out.2.1,A2.out.1,A.out.1.trans A2.out.2 fun _ _ h=>h⟩,ji BD⟩
   ·rw [d9 hse,bJ] at hb
    have A:Aside (aC w wr (fun b=>b=mc set∨b=ms set)∧kM set (ts.drop (i+1)) (i+1) t=kM set ts 0 t0∧¬ set=2 ^ i∧nK wr s cb sb (set+1) mc ms (T++[t])):=⟨hK,hb,hse,hS⟩
    clear hK hb hse hS S qD
    go_wp2_with (first
     | (go_at_call 118;have hh:((set:Int)==wrap64 (2 ^ i))=true:=by assumption
        exact absurd (hh.symm.trans (aj0 (i:=i) (by omega) A.out.2.2.1)) (by decide)))
    exact ⟨⟨i+1,_,BD,rfl,A.out.2.1,A.out.2.2.2,A.out.1⟩,ji BD⟩
  ·have hie:i=ts.length:=by omega
   subst hie
   have e:t=kM set ts 0 t0:=by rw [←hb,List.drop_length];rfl
   have A:Aside (nK wr s cb sb (set+1) mc ms (T++[kM set ts 0 t0])∧aC w wr (fun b=>b=mc set∨b=ms set)):=⟨by rw [←e];exact hS,hK⟩
   clear hS hK S qD hb e
   go_wp2
   exact xP _ _ _ _ _ _ _ _ _ _ _ _ _ _ _ _ _ _ A.out.1 A.out.2
section
variable {P:Program} {ops:Array Oper} {Q:Exit→Act→World→Prop} {md:Region.Mode} {S:World→Prop} {U:Nat→Bool}
def jE (P:Program) (md:Region.Mode) (ops:Array Oper) (Q:Exit→Act→World→Prop) (S:World→Prop) (U:Nat→Bool):Nat→Array Bool→Act→World→Prop
 | 0,dx,a,w=>Region.ready md ops dx=[]∧Q .normal a w
 | fuel+1,dx,a,w=>
  (Region.ready md ops dx=[]→Q .normal a w) ∧
  ∀ i∈Region.ready md ops dx,wpOp P ops Q i (fun a' w'=>(U i=true→S w→S w')∧jE P md ops Q S U fuel (dx.setIfInBounds i true) a' w') a w
theorem GZ:∀ (fuel:Nat) (dx:Array Bool) (a:Act) (w:World),jE P md ops Q S U fuel dx a w→wpAny P md ops Q fuel dx a w
 | 0,_,_,_,h=>h
 | fuel+1,_,_,_,h=>⟨h.1,fun i hi=>wpOp_mono (fun a' w' h'=>GZ fuel _ a' w' h'.2) (h.2 i hi)⟩
def waitsFor (md:Region.Mode) (ops:Array Oper) (U:Nat→Bool) (i:Nat):Bool:=
 (List.range ops.size).all fun j=>U j || ((ops[j]?).map fun o=>o.after.any fun e=>Region.binds md e&&decide (e.on=i)).getD true
theorem waitsFor_spec {i:Nat} (h:waitsFor md ops U i=true) {j:Nat} {oj:Oper} (hj:ops[j]? = some oj) (hn:∀ e∈oj.after,Region.binds md e=true→e.on≠i):U j=true:=by
 unfold waitsFor at h;rw [List.all_eq_true] at h;have aT:j<ops.size:=(E5 hj).1;have h1:=h j (List.mem_range.2 aT)
 cases hu:U j with
 | true=>rfl
 | false=>
  rw [hu,hj] at h1;simp only [Bool.false_or,Option.map_some,sw,Array.any_eq_true,dA,mX] at h1;obtain ⟨k,hk,h2,h3⟩:=h1;exact absurd h3 (hn _ (Array.getElem_mem hk) h2)
theorem A9 {i:Nat} {oi:Oper} {v:Value} {S1:World→Prop} (hi:ops[i]? = some oi) (apN:∀ (j:Nat) (o:Oper) cs b,ops[j]? = some o→o.op≠.select cs b)
 (hQ:∀ c a w,Q (.panic c) (a.put oi.dst v) w→Q (.panic c) a w) (hU:(∀ w,S1 w)∨waitsFor md ops U i=true∧S1=S) :
 ∀ (fuel:Nat) (dx:Array Bool) (a:Act) (w:World),
  (∀ j oj,ops[j]? = some oj→j≠i→dx.getD j true=false→(∀ e∈oj.after,Region.binds md e=true→e.on≠i)→oi.apart ops oj=true) →
  i∈Region.ready md ops dx→YieldsIf P ops S1 oi v a→S1 w →
  jE P md ops Q S U fuel (dx.setIfInBounds i true) (a.put oi.dst v) w→jE P md ops Q S U (fuel+1) dx a w:=by
 intro fuel
 induction fuel with
 | zero=>
  intro dx a w _ hr hy hS H
  refine ⟨fun h=>(by rw [h] at hr;cases hr),fun j hj=>?_⟩
  by_cases hji:j=i
  ·subst hji;exact hy.wpOp hi hS ⟨fun _ h=>h,H⟩
  ·have:=ready_mono hj hji
   rw [H.1] at this;cases this
 | succ fuel ih=>
  intro dx a w Di hr hy hS H
  refine ⟨fun h=>(by rw [h] at hr;cases hr),fun j hj=>?_⟩
  by_cases hji:j=i
  ·subst hji;exact hy.wpOp hi hS ⟨fun _ h=>h,H⟩
  ·have h1:=H.2 j (ready_mono hj hji)
   obtain ⟨apO,oj,hoj,oO⟩:=mem_ready.1 hj
   have apP:∀ e∈oj.after,Region.binds md e=true→e.on≠i:=fun e he hb heq=>by
    have h1:=oO e he hb;have h0:=(mem_ready.1 hr).1;rw [heq] at h1
    rcases Nat.lt_or_ge i dx.size with h' | h'
    ·simp [h'] at h0 h1;rw [h0] at h1;cases h1
    ·simp [Array.getElem?_eq_none h'] at h1
   have h2:=wpOp_putIf hoj (Di j oj hoj hji apO apP) (fun cs b=>apN i oi cs b hi) (fun cs b=>apN j oj cs b hoj) hQ hy h1
   have aj1:∀ k ok,ops[k]? = some ok→k≠i→(dx.setIfInBounds j true).getD k true=false →
    (∀ e∈ok.after,Region.binds md e=true→e.on≠i)→oi.apart ops ok=true:=fun k ok hk FN hun Le=>by
    refine Di k ok hk FN ?_ Le
    by_cases PO:j=k
    ·subst PO;exact apO
    ·rw [getD_set_ne true PO] at hun;exact hun
   refine wpOp_mono (fun a' w' h3=>⟨h3.2.1,ih (dx.setIfInBounds j true) a' w' aj1 (ready_mono hr (Ne.symm hji)) h3.1 ?_ ?_⟩) h2
   ·rcases hU with hU | ⟨hU,hSS⟩
    ·exact hU w'
    ·subst hSS
     exact h3.2.1 (waitsFor_spec hU hoj apP) hS
   rw [Array.setIfInBounds_comm _ _ hji];exact h3.2.2
theorem fG {i:Nat} {oi:Oper} {v:Value} {fuel:Nat} {dx:Array Bool} {a:Act} {w:World} (hi:ops[i]? = some oi)
 (hs:Region.noSelect ops=true) (hf:Region.free md ops dx i=true) (hr:(Region.ready md ops dx).contains i=true)
 (hQ:∀ c a w,Q (.panic c) (a.put oi.dst v) w→Q (.panic c) a w) (hy:Yields P ops oi v a)
 (h:jE P md ops Q S U fuel (dx.setIfInBounds i true) (a.put oi.dst v) w):jE P md ops Q S U (fuel+1) dx a w:=
 A9 (S1:=fun _=>True) hi (Region.noSelect_spec hs) hQ (.inl fun _=>trivial) fuel dx a w (Region.free_spec hi hf) (by simpa using hr) hy.yieldsIf trivial h
theorem DJ {i:Nat} {oi:Oper} {v:Value} {fuel:Nat} {dx:Array Bool} {a:Act} {w:World} (hi:ops[i]? = some oi)
 (hs:Region.noSelect ops=true) (hf:Region.free md ops dx i=true) (hr:(Region.ready md ops dx).contains i=true) (hU:waitsFor md ops U i=true)
 (hQ:∀ c a w,Q (.panic c) (a.put oi.dst v) w→Q (.panic c) a w) (hy:YieldsIf P ops S oi v a) (hS:S w)
 (h:jE P md ops Q S U fuel (dx.setIfInBounds i true) (a.put oi.dst v) w):jE P md ops Q S U (fuel+1) dx a w:=
 A9 hi (Region.noSelect_spec hs) hQ (.inr ⟨hU,rfl⟩) fuel dx a w (Region.free_spec hi hf) (by simpa using hr) hy hS h
theorem PS {id:Nat} {a:Act} {w:World} (hm:P.follows .mixedOrders=true)
 (h:jE P .any ops Q S U ops.size (Array.replicate ops.size false) a w.drew):(Code.region id ops true).wp P Q a w:=
 wp_region_any hm (GZ _ _ _ _ h)
theorem G5 {fuel:Nat} {dx:Array Bool} {a:Act} {w:World} {i:Nat} {o:Oper} (hr:Region.ready md ops dx=[i]) (ho:ops[i]? = some o) (hw:o.guard=none)
 (h:∀ K':Act→World→Prop,Aside (∀ a w',(U i=true→S w→S w')→jE P md ops Q S U fuel (dx.setIfInBounds i true) a w'→K' a w')→Oper.wp P o a w K' Q):jE P md ops Q S U (fuel+1) dx a w:=by
 refine ⟨fun h0=>(by rw [h0] at hr;cases hr),fun j hj=>?_⟩
 rw [hr] at hj;simp only [List.mem_singleton] at hj;subst hj;unfold wpOp;rw [ho]
 have:Region.wanted o (yielded ops a.tmps)=true:=by unfold Region.wanted;rw [hw]
 simp only [this,if_true]
 exact .inl (h _ fun _ _ h1 h2=>⟨h1,h2⟩)
theorem PU {dx:Array Bool} {a:Act} {w:World} (hr:Region.ready md ops dx=[]) (h:Q .normal a w):∀ fuel,jE P md ops Q S U fuel dx a w
 | 0=>⟨hr,h⟩
 | _+1=>⟨fun _=>h,by rw [hr];simp⟩
end
theorem mG {P:Program} {o:Oper} {cl:Call} {a:Act} {w:World} {f:Nat} {fn:Func} (aY:o.op = .call cl) (qF:cl.callee = .value (.func f)) (hf:P.funcs[f]? = some fn) (h2:¬ fn.name = "runtime.NumGoroutine") (h3b:fn.body.isNone=false) :
 (execOp a.eval o).run P w = .ok (.enter f (cl.args.map a.eval)) w:=by
 have e:execOp a.eval o=callFunc f (#[]++cl.args.map a.eval++#[]):=by
  simp only [execOp,aY,resolve,qF];rfl
 rw [e];simp only [callFunc]
 have h3:¬ fn.body=none:=fun h=>by rw [h] at h3b;cases h3b
 simp [go_sem,hf,h2,h3]
end Go.dw.rO