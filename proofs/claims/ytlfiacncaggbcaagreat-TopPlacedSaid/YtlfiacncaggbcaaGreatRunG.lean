/- Proved is that the law answers true; no conditions but those that each theorem states. -/
import Derived.Test.YtlfiacncaggbcaaGreatRunF
set_option linter.unusedVariables false
set_option linter.unusedSimpArgs false
set_option maxRecDepth 100000
namespace Go.dw.rO
open Go Go.Proofs Go.Sort aA
abbrev Lt2 (a b:Lk):Prop:=a.1<b.1∨a.1=b.1∧a.2.1<b.2.1
theorem KX:∀ {ls:List Lk},ls.Pairwise Lt2→(∀ l∈ls,l.1<l.2.1)→∀ a∈ls.flatMap dV,price ls a.1.1 a.1.2.1=(a.2.1,true,())
 | [],_,_,a,ha=>by cases ha
 | l::r,h1,h2,a,ha=>by
  obtain ⟨k1,k2⟩:=List.pairwise_cons.1 h1
  have hl:=h2 l (by simp)
  simp only [List.flatMap_cons,pV] at ha;simp only [price]
  rcases ha with ha | ha
  ·have ha:a∈[((l.1,l.2.1,()),l.2.2.1,()),((l.2.1,l.1,()),l.2.2.2.1,())]:=ha
   simp only [List.mem_cons,List.not_mem_nil,or_false] at ha
   rcases ha with rfl | rfl
   ·simp only [decide_true,Bool.and_self,aQ]
   ·have e:¬ l.1=l.2.1:=by omega
    simp only [dF e,decide_true,Bool.false_and,Bool.and_self,bJ,aQ]
  ·have ih:=KX k2 (fun x hx=>h2 x (kE _ hx)) a ha
   rw [ih];obtain ⟨q,hq,haq⟩:=List.mem_flatMap.1 ha;have aT:=k1 q hq;have hql:=h2 q (kE _ hq);have haq:a∈[((q.1,q.2.1,()),q.2.2.1,()),((q.2.1,q.1,()),q.2.2.2.1,())]:=haq;simp only [List.mem_cons,List.not_mem_nil,or_false] at haq
   have key:∀ x y:Int,(x=q.1∧y=q.2.1∨x=q.2.1∧y=q.1)→(bif decide (l.1=x)&&decide (l.2.1=y) then (l.2.2.1,true,()) else bif decide (l.2.1=x)&&decide (l.1=y) then (l.2.2.2.1,true,()) else (a.2.1,true,()))=((a.2.1,true,()):Int×Bool×Unit):=by
    intro x y hxy
    have e1:(decide (l.1=x)&&decide (l.2.1=y))=false:=by
     rw [Bool.and_eq_false_iff]
     by_cases c:l.1=x
     ·right;exact d9 (by unfold Lt2 at aT;omega)
     ·left;exact d9 c
    have e2:(decide (l.2.1=x)&&decide (l.1=y))=false:=by
     rw [Bool.and_eq_false_iff]
     by_cases c:l.2.1=x
     ·right;exact d9 (by unfold Lt2 at aT;omega)
     ·left;exact d9 c
    rw [e1,e2];rfl
   rcases haq with rfl | rfl
   ·exact key _ _ (.inl ⟨rfl,rfl⟩)
   ·exact key _ _ (.inr ⟨rfl,rfl⟩)
theorem QB:∀ {ls:List Lk} {x y:Int},(price ls x y).2.1=true→∃ a∈ls.flatMap dV,a.1=(x,y,())
 | [],x,y,h=>by cases h
 | l::r,x,y,h=>by
  simp only [price] at h;simp only [List.flatMap_cons,pV]
  cases h1:(decide (l.1=x)&&decide (l.2.1=y)) with
  | true=>
   rw [dA,mX,mX] at h1
   exact ⟨((l.1,l.2.1,()),l.2.2.1,()),.inl (by simp [dV]),by rw [←h1.1,←h1.2]⟩
  | false=>
   rw [h1] at h
   cases h2:(decide (l.2.1=x)&&decide (l.1=y)) with
   | true=>
    rw [dA,mX,mX] at h2
    exact ⟨((l.2.1,l.1,()),l.2.2.2.1,()),.inl (by simp [dV]),by rw [←h2.1,←h2.2]⟩
   | false=>
    rw [h2] at h;simp only [bJ] at h;obtain ⟨a,ha,e⟩:=QB h;exact ⟨a,.inr ha,e⟩
def wg (g:To) (h:Hp):Int:=(price g.2.1 h.1 h.2.1).1
theorem ac5 {x y:Ar}:ltA x y=true↔(x.1.1<y.1.1∨x.1.1=y.1.1∧x.1.2.1<y.1.2.1):=by
 unfold ltA;rw [mX];exact acu _ _ _ _
theorem ac6 {x y:Ar}:ltA x y=false↔¬ (x.1.1<y.1.1∨x.1.1=y.1.1∧x.1.2.1<y.1.2.1):=by
 rw [←ac5]
 cases ltA x y<;>simp
theorem ash:SWO ltA:=⟨fun x=>ac6.2 (by omega),fun x y z h1 h2=>ac5.2 (by rw [ac5] at h1 h2;omega),fun x y z h1 h2=>ac6.2 (by rw [ac6] at h1 h2;omega)⟩
theorem M9 (l:List Ar):(fO l).Perm l:=by
 obtain ⟨⟨k1,-,k2⟩,-⟩:=Go.Sort.pdq_sorts ltA ash l.toArray 0 l.length (Go.Lib.bitLen l.length) true true (mY _) (by simp) (.inl rfl)
 unfold fO;generalize Go.Sort.pdq ltA l.toArray 0 l.length (Go.Lib.bitLen l.length) true true=d at k1 k2
 have eU:d.size=l.length:=by simpa using k1
 rw [←eU] at k2
 have e1:d.extract 0 d.size=d:=by simp
 have e2:l.toArray.extract 0 d.size=l.toArray:=by rw [eU];simp
 rw [e1,e2] at k2
 simpa using k2
theorem sj {M:Mp} {ls:List Lk} {r:Int} {a:Ar}:a∈dR M ls r↔a∈ls.flatMap dV∧r≤mg M a.1:=by
 unfold dR;rw [List.mem_filter,Bool.not_eq_true',decide_eq_false_iff_not,Int.not_lt]
 exact and_congr_left fun _=>(M9 _).mem_iff
theorem ac7 (M:Mp) (ls:List Lk) (r:Int):(dR M ls r).length≤2*ls.length:=by
 have e1:(dR M ls r).length≤(fO (ls.flatMap dV)).length:=List.length_filter_le _ _;rw [(M9 _).length_eq,List.length_flatMap] at e1
 have:(List.map (fun a=>(dV a).length) ls).sum=2*ls.length:=by
  clear e1
  induction ls with
  | nil=>rfl
  | cons x t ih=>simp only [jy,List.sum_cons,ih,lD];show 2+2*t.length=_;omega
 omega
section
variable {m:Nat} {g:To}
theorem gQ.arc (h:gQ m g) {a:Ar} (ha:a∈g.2.1.flatMap dV):(1≤a.1.1∧a.1.1≤99)∧(1≤a.1.2.1∧a.1.2.1≤99)∧(1≤a.2.1∧a.2.1≤1000)∧a.1.1∈ids g∧a.1.2.1∈ids g∧a.1.1≠a.1.2.1:=by
 obtain ⟨l,hl,ha⟩:=List.mem_flatMap.1 ha;have h1:=h.lin l hl;have h2:=h.lend l hl;have r1:=h.rin _ h2.1;have r2:=h.rin _ h2.2.1;have ha:a∈[((l.1,l.2.1,()),l.2.2.1,()),((l.2.1,l.1,()),l.2.2.2.1,())]:=ha;simp only [List.mem_cons,List.not_mem_nil,or_false] at ha
 rcases ha with rfl | rfl
 ·exact ⟨r1,r2,⟨h1.1,h1.2.1⟩,h2.1,h2.2.1,by show l.1≠l.2.1;omega⟩
 ·exact ⟨r2,r1,⟨h1.2.2.1,h1.2.2.2.1⟩,h2.2.1,h2.1,by show l.2.1≠l.1;omega⟩
theorem gQ.nW (h:gQ m g) (hm:m≤7) (M:Mp) (r:Int):nW (dR M g.2.1 r)=true:=by
 unfold aA.nW;rw [dA];have h1:=ac7 M g.2.1 r;have h2:g.2.1.length≤49:=gX h.llen (Nat.mul_le_mul hm hm)
 refine ⟨bL (by omega),List.all_eq_true.2 fun a ha=>?_⟩
 obtain ⟨k1,k2,k3,-⟩:=h.arc (sj.1 ha).1;rw [nD.2 k1,nD.2 k2,nD.2 k3];rfl
theorem gQ.price (h:gQ m g) {a:Ar} (ha:a∈g.2.1.flatMap dV):aA.price g.2.1 a.1.1 a.1.2.1=(a.2.1,true,()):=KX h.lup (fun l hl=>(h.lend l hl).2.2) a ha
theorem gQ.wg (h:gQ m g) {a:Ar} (ha:a∈g.2.1.flatMap dV):wg g a.1=a.2.1:=by
 unfold rO.wg;rw [h.price ha]
end
structure Rb (M:Mp) (n:Nat):Prop where
 bd:∀ h,0≤mg M h∧mg M h≤1000
 dk:Dk M
 len:M.length≤n
theorem VL (r:Int) (hr:1≤r∧r≤1000):∀ (L:List Hp) (M:Mp) (b:Bool) (n:Nat),L.Nodup→(∀ h∈L,r≤mg M h)→Rb M n→(L.foldl (GN r) (M,b)).2=b∧Rb (L.foldl (GN r) (M,b)).1 (n+L.length)∧∀ h,mg (L.foldl (GN r) (M,b)).1 h=if h∈L then mg M h-r else mg M h
 | [],M,b,n,_,_,hM=>⟨rfl,hM,fun h=>by simp⟩
 | x::L,M,b,n,hn,hL,hM=>by
  obtain ⟨n1,n2⟩:=List.nodup_cons.1 hn
  have hx:=hL x (by simp)
  have hxb:=hM.bd x
  have ew:aR (mg M x-r)=mg M x-r:=by rw [jc];omega
  have e1:mg (mp M x (mg M x-r)) x=mg M x-r:=by rw [lM,if_pos rfl]
  have gG:GN r (M,b) x=(mp M x (mg M x-r),b):=by
   unfold GN;simp only [ew,e1]
   rw [dT (show (0:Int)≤mg M x-r by omega),Bool.and_true]
  have hM':Rb (mp M x (mg M x-r)) (n+1):=⟨fun h=>by
   rw [lM]
   by_cases e:x=h
   ·rw [if_pos e];omega
   ·rw [if_neg e];exact hM.bd h,hM.dk.put _ _,gX (M5 _ _ _) (Nat.succ_le_succ hM.len)⟩
  obtain ⟨k1,k2,k3⟩:=VL r hr L (mp M x (mg M x-r)) b (n+1) n2 (fun h hh=>by
   rw [lM,if_neg (fun e=>n1 (by rw [e];exact hh))]
   exact hL h (kE _ hh)) hM'
  simp only [List.foldl_cons,gG]
  refine ⟨k1,by rw [lD];rw [show n+(L.length+1)=n+1+L.length by omega];exact k2,fun h=>?_⟩
  rw [k3,lM]
  by_cases e:x=h
  ·subst e
   rw [if_neg n1,if_pos rfl,if_pos (by simp)]
  ·rw [if_neg e]
   by_cases hh:h∈L
   ·rw [if_pos hh,if_pos (kE _ hh)]
   ·rw [if_neg hh,if_neg (fun hc=>by
     rcases lC hc with h2 | h2
     ·exact e h2.symm
     ·exact hh h2)]
theorem ac8 {r:Int} (hr:1≤r∧r≤1000) {L:List Hp} {M:Mp} {n:Nat} (hn:L.Nodup) (hL:∀ h∈L,r≤mg M h) (hM:Rb M n):(eX M L r).2=true∧Rb (eX M L r).1 (n+L.length)∧∀ h,mg (eX M L r).1 h=if h∈L then mg M h-r else mg M h:=VL r hr L M true n hn hL hM
section
variable {m:Nat} {g:To}
theorem t117 (hg:gQ m g) (hm:m≤7) {d:Dm} (hd:Bu g d):iA (vC g d) (fun r=>r=(0,())):=by
 obtain ⟨rs,ls,⟨⟩⟩:=g;obtain ⟨ro,re,ra,⟨⟩⟩:=d;have hl:re.length≤3:=hd.len;have hra:1≤ra∧ra≤1000:=hd.rate
 have hup:re.Pairwise (· < ·):=hd.up
 unfold vC aoI;simp only [fQ]
 refine aF (fun c=>absurd c (by omega)) fun _=>aj (P:=fun y=>y.1=false) ?_ fun y5 h5=>?_
 ·refine iq (fun s=>1≤s.1∧s.1≤5) (fun s=>5-s.1.toNat) ⟨Int.le_refl _,by simp⟩ ?_
  rintro ⟨i,⟨⟩⟩ ⟨i1,i2⟩;have i1:1≤i:=i1;have i2:i≤5:=i2;unfold UZ;simp only [fQ]
  refine aF (fun c=>?_) fun c=>ah rfl
  have c:i<(re.length:Int):=c
  have e1:aR (i-1)=i-1:=by rw [jc];omega
  have e2:aR (i+1)=i+1:=by rw [jc];omega
  rw [e1,e2]
  refine aK (by omega) (by omega) (aK (by omega) (by omega) (aF (fun c2=>absurd c2 ?_) fun c2=>ah ⟨⟨by show 1≤i+1;omega,by show i+1≤5;omega⟩,by show 5-(i+1).toNat<5-i.toNat;omega⟩))
  have q1:(i-1).toNat<re.length:=by omega
  have q2:i.toNat<re.length:=by omega
  have:=List.pairwise_iff_getElem.1 hup (i-1).toNat i.toNat q1 q2 (by omega)
  rw [iW,iw q1,iW,iw q2];simp only [sw];omega
 rw [h5];simp only [bJ]
 refine jF (by omega) (aj (P:=fun y=>y.1=false) ?_ fun y6 h6=>?_)
 ·refine bH (re.length+1) (fun s=>s.1) (fun s=>s.2.1=ro::([]++re)) rfl rfl ?_
  rintro ⟨i,l,⟨⟩⟩ k hk hle hI;obtain rfl:i=k:=hk;have hI:l=ro::([]++re):=hI;subst hI;unfold U1;simp only [fQ,jd,lD,List.nil_append]
  refine aF (fun c=>aK (by omega) (by omega) (iI (by omega) (bX (fun c2=>?_) fun c2=>ah ⟨by omega,dn (by omega),rfl⟩))) fun c=>ah rfl
  exfalso
  have hk:k<(ro::re).length:=by simp;omega
  have lG:(ro::re).getD k 0∈ids (rs,ls,()):=by
   have:=gK (d:=0) hk
   rcases lC this with h | h
   ·rw [h];exact hd.root
   ·exact hd.rcv _ h
  have:=hg.has hm lG;rw [this] at c2;cases c2
 ·rw [h6]
  simp only [bJ]
  have c1:¬ ra<1:=by omega
  have c2:¬ ra>1000:=by omega
  rw [dF c1];simp only [Bool.not_false,aQ,qB];rw [dF c2];exact ah rfl
theorem t53 (hg:gQ m g) (hm:m≤7) {ds:List Dm} (hd:∀ d∈ds,Bu g d) (hl:ds.length≤12):iA (IU g ds) (fun r=>r=(0,())):=by
 obtain ⟨rs,ls,⟨⟩⟩:=g;unfold IU r53;simp only [fQ];have Na:lT (rs,ls,())=0:=hg.chk hm;rw [Na,bL rfl];simp only [Bool.not_true,bJ]
 refine aF (fun c=>absurd c (by omega)) fun _=>aj (P:=fun y=>y.1=false) ?_ fun y h=>?_
 ·refine bH ds.length (fun s=>s.1) (fun _=>True) rfl trivial ?_
  rintro ⟨i,⟨⟩⟩ k hk hle -;obtain rfl:i=k:=hk;unfold aaZ;simp only [fQ,jd]
  refine aF (fun c=>aK (by omega) c (aj (t117 hg hm (hd _ (gK (by omega)))) fun y hy=>?_)) fun c=>ah rfl
  subst hy
  exact ah ⟨by omega,dn (by omega),trivial⟩
 ·rw [h]
  exact ah rfl
def su (M:Mp) (k:Lk):Mp:=mp (mp M (k.1,k.2.1,()) k.2.2.2.2.1) (k.2.1,k.1,()) k.2.2.2.2.1
def whole (ls:List Lk):Mp:=ls.foldl su []
theorem t54 (g:To) (h:g.2.1.length≤1000):iA (Kq g) (fun r=>r=(whole g.2.1,())):=by
 obtain ⟨rs,ls,⟨⟩⟩:=g;have h:ls.length≤1000:=h;unfold Kq r54
 refine aj (P:=fun y=>y=(whole ls,())) ?_ fun y hy=>by subst hy;exact ah rfl
 refine bH ls.length (fun s=>s.2.1) (fun s=>s.1=(ls.take s.2.1.toNat).foldl su []) rfl rfl ?_
 rintro ⟨M,i,⟨⟩⟩ k hk hle hI;obtain rfl:i=k:=hk;have hI:M=(ls.take k).foldl su []:=hI;unfold abn;simp only [fQ,jd]
 refine aF (fun c=>aK (by omega) c (ah ⟨by omega,dn (by omega),?_⟩)) fun c=>ah ?_
 ·have gI:k<ls.length:=by have c:(k:Int)<(ls.length:Int):=c;omega
  show su M (ls.getD k (0,0,0,0,0,()))=(ls.take (aR ((k:Int)+1)).toNat).foldl su []
  rw [show (aR ((k:Int)+1)).toNat=k+1 from by rw [dn (by omega)];omega,List.take_add_one,iw gI,List.foldl_append,←hI,iW,iw gI]
  rfl
 ·have c:¬ (k:Int)<(ls.length:Int):=c
  rw [List.take_of_length_le (by omega)] at hI
  show (M,())=_;rw [hI];rfl
theorem KY:∀ (ls:List Lk) (M:Mp) (n:Nat),(∀ l∈ls,0≤l.2.2.2.2.1∧l.2.2.2.2.1≤1000)→Rb M n→Rb (ls.foldl su M) (n+2*ls.length)
 | [],M,n,_,h=>h
 | k::r,M,n,hl,h=>by
  have hk:=hl k (by simp)
  have e:n+2*(k::r).length=n+2+2*r.length:=by rw [lD];omega
  rw [e]
  refine KY r (su M k) (n+2) (fun l D5=>hl l (kE _ D5)) ⟨fun x=>?_,(h.dk.put _ _).put _ _,?_⟩
  ·unfold su
   rw [lM,lM]
   by_cases e1:((k.2.1,k.1,()):Hp)=x
   ·rw [if_pos e1];exact hk
   ·rw [if_neg e1]
    by_cases e2:((k.1,k.2.1,()):Hp)=x
    ·rw [if_pos e2];exact hk
    ·rw [if_neg e2];exact h.bd x
  ·have h1:=M5 M (k.1,k.2.1,()) k.2.2.2.2.1
   have h2:=M5 (mp M (k.1,k.2.1,()) k.2.2.2.2.1) (k.2.1,k.1,()) k.2.2.2.2.1;have h3:=h.len;unfold su;omega
theorem alU:Rb [] 0:=⟨fun h=>by show (0:Int)≤0∧(0:Int)≤1000;decide,.nil,bT _⟩
theorem gQ.whole (hg:gQ m g):Rb (whole g.2.1) (2*g.2.1.length):=by
 have:=KY g.2.1 [] 0 (fun l hl=>by have:=hg.lin l hl;exact ⟨this.2.2.2.2.1,this.2.2.2.2.2⟩) alU
 rw [Nat.zero_add] at this;exact this
theorem KZ:∀ {ls:List Lk},ls.Pairwise Lt2→(∀ l∈ls,l.1<l.2.1)→∀ (M:Mp),∀ l∈ls,mg (ls.foldl su M) (l.1,l.2.1,())=l.2.2.2.2.1∧mg (ls.foldl su M) (l.2.1,l.1,())=l.2.2.2.2.1
 | [],_,_,_,l,hl=>by cases hl
 | k::r,h1,h2,M,l,hl=>by
  obtain ⟨k1,k2⟩:=List.pairwise_cons.1 h1
  have hk:=h2 k (by simp)
  rcases lC hl with rfl | hl
  ·have yc:∀ (q:List Lk) (M:Mp),(∀ x∈q,Lt2 l x∧x.1<x.2.1)→mg (q.foldl su M) (l.1,l.2.1,())=mg M (l.1,l.2.1,())∧mg (q.foldl su M) (l.2.1,l.1,())=mg M (l.2.1,l.1,()):=by
    intro q
    induction q with
    | nil=>exact fun M _=>⟨rfl,rfl⟩
    | cons x t ih=>
     intro M hq
     obtain ⟨j1,j2⟩:=ih (su M x) fun y hy=>hq y (kE _ hy)
     obtain ⟨aT,yO⟩:=hq x (by simp)
     unfold Lt2 at aT
     have ne:∀ a b c d:Int,(a=x.1∧b=x.2.1∨a=x.2.1∧b=x.1)→(c=l.1∧d=l.2.1∨c=l.2.1∧d=l.1)→((a,b,()):Hp)≠(c,d,()):=by
      intro a b c d h1 h2 h3;simp only [gD,and_true] at h3;omega
     simp only [List.foldl_cons];rw [j1,j2];unfold su;rw [lM,lM,lM,lM,if_neg (ne _ _ _ _ (.inr ⟨rfl,rfl⟩) (.inl ⟨rfl,rfl⟩)),if_neg (ne _ _ _ _ (.inl ⟨rfl,rfl⟩) (.inl ⟨rfl,rfl⟩)),if_neg (ne _ _ _ _ (.inr ⟨rfl,rfl⟩) (.inr ⟨rfl,rfl⟩)),if_neg (ne _ _ _ _ (.inl ⟨rfl,rfl⟩) (.inr ⟨rfl,rfl⟩))];exact ⟨rfl,rfl⟩
   obtain ⟨j1,j2⟩:=yc r (su M l) fun x hx=>⟨k1 x hx,h2 x (kE _ hx)⟩
   simp only [List.foldl_cons];rw [j1,j2];unfold su
   have ne:((l.2.1,l.1,()):Hp)≠(l.1,l.2.1,()):=fun h=>by simp only [gD,and_true] at h;omega
   rw [lM,lM,lM,if_neg ne,if_pos rfl,if_pos rfl];exact ⟨rfl,rfl⟩
  ·exact KZ k2 (fun x hx=>h2 x (kE _ hx)) (su M k) l hl
end
abbrev vN:Tr:=(0,[],())
abbrev um:Dm:=(0,[],0,())
def zK (ls:List Lk) (ds:List Dm) (out:List Tr):Nat→Mp
 | 0=>whole ls
 | i+1=>(eX (zK ls ds out i) (out.getD i vN).2.1 (ds.getD i um).2.2.1).1
theorem K3 {ls:List Lk} {ds:List Dm} {o o':List Tr}:∀ {i:Nat},(∀ j,j<i→o'.getD j vN=o.getD j vN)→zK ls ds o' i=zK ls ds o i
 | 0,_=>rfl
 | i+1,h=>by
  simp only [zK]
  rw [K3 fun j hj=>h j (by omega),h i (by omega)]
inductive xS (g:To) (M:Mp) (d:Dm):Tr→Prop
 | none (h:¬ ∃ G,nM (dR M g.2.1 d.2.2.1) d.1 d.2.1 G):xS g M d vN
 | some {L G:List Hp} (h:nM (dR M g.2.1 d.2.2.1) d.1 d.2.1 G) (hp:L.Perm G) (hs:L.Pairwise fun x y=>Mh x y=true):xS g M d (d.1,L,())
section
variable {m:Nat} {g:To}
theorem CY (hg:gQ m g) {M:Mp} {r root:Int} {ts:List Int} {G L:List Hp} (hr:root∈ids g) (h:nM (dR M g.2.1 r) root ts G) (hp:L.Perm G) (hs:L.Pairwise fun x y=>Mh x y=true):uy root L:=
 ⟨hg.rin _ hr,fun x hx=>by
  obtain ⟨a,ha,rfl⟩:=h.arcs x (hp.mem_iff.1 hx);obtain ⟨k1,k2,-⟩:=hg.arc (sj.1 ha).1
  exact ⟨k1,k2⟩,hs,G,h.grow,hp⟩
theorem xS.take (hg:gQ m g) {M:Mp} {d:Dm} {x:Tr} {n:Nat} (hd:Bu g d) (h:xS g M d x) (hM:Rb M n):(eX M x.2.1 d.2.2.1).2=true∧Rb (eX M x.2.1 d.2.2.1).1 (n+99)∧∀ k,mg (eX M x.2.1 d.2.2.1).1 k=if k∈x.2.1 then mg M k-d.2.2.1 else mg M k:=by
 cases h with
 | none h=>exact ⟨rfl,⟨hM.bd,hM.dk,gX hM.len (by omega)⟩,fun k=>by simp [eX]⟩
 | @some L G h hp hs=>
  have ht:=CY hg hd.root h hp hs;have hn:L.Nodup:=(hp.nodup_iff).2 h.grow.MZ
  obtain ⟨k1,k2,k3⟩:=ac8 hd.rate hn (fun x hx=>by
   obtain ⟨a,ha,rfl⟩:=h.arcs x (hp.mem_iff.1 hx)
   exact (sj.1 ha).2) hM
  have:=ht.len
  exact ⟨k1,⟨k2.bd,k2.dk,gX k2.len (by omega)⟩,k3⟩
structure Plc (g:To) (ds:List Dm) (out:List Tr):Prop where
 len:out.length=ds.length
 at_:∀ i,i<ds.length→xS g (zK g.2.1 ds out i) (ds.getD i um) (out.getD i vN)
theorem Plc.rb (hg:gQ m g) {ds:List Dm} {out:List Tr} (hd:∀ d∈ds,Bu g d) (h:Plc g ds out):∀ i,i≤ds.length→Rb (zK g.2.1 ds out i) (2*g.2.1.length+99*i)
 | 0,_=>hg.whole
 | i+1,hi=>by
  have ih:=Plc.rb hg hd h i (by omega)
  have:=((h.at_ i (by omega)).take hg (hd _ (gK (by omega))) ih).2.1
  rw [show 2*g.2.1.length+99*(i+1)=2*g.2.1.length+99*i+99 by omega]
  exact this
theorem t21 (hg:gQ m g) (hm:m≤7) {ds:List Dm} (hd:∀ d∈ds,Bu g d) (hl:ds.length≤12):iA (Kr g ds) (fun r=>∃ out,r=((out,0,()),())∧Plc g ds out):=by
 obtain ⟨rs,ls,⟨⟩⟩:=g;have h49:ls.length≤49:=gX hg.llen (Nat.mul_le_mul hm hm);unfold Kr r21
 refine aj (t53 hg hm hd hl) fun y3 h3=>?_
 subst h3
 refine eH (fun c=>absurd rfl c) fun _=>aj (t54 (rs,ls,()) (by show ls.length≤1000;omega)) fun y4 h4=>mW ?_ ?_
 ·simp only [fQ]
  rw [dA,dA]
  exact ⟨⟨bL (by omega),bL (by omega)⟩,bL (by omega)⟩
 ·subst h4
  refine aj (P:=fun y=>Plc (rs,ls,()) ds y.1) ?_ fun y hy=>ah ⟨y.1,rfl,hy⟩
  refine bH ds.length (fun s=>s.1) (fun s=>s.2.2.1.length=ds.length∧(∀ j:Nat,s.1≤(j:Int)→s.2.2.1.getD j vN=vN)∧s.2.1=zK ls ds s.2.2.1 s.1.toNat∧(∀ i:Nat,(i:Int)<s.1→xS (rs,ls,()) (zK ls ds s.2.2.1 i) (ds.getD i um) (s.2.2.1.getD i vN))∧Rb s.2.1 (2*ls.length+99*s.1.toNat)) rfl ⟨?_,fun j _=>?_,rfl,fun i hi=>?_,hg.whole⟩ ?_
  ·show (List.replicate (Int.toNat (ds.length:Int)) vN).length=ds.length
   rw [List.length_replicate];omega
  ·show (List.replicate (Int.toNat (ds.length:Int)) vN).getD j vN=vN
   rw [iW,List.getElem?_replicate]
   split<;>rfl
  ·have hi:(i:Int)<0:=hi
   omega
  ·rintro ⟨i,M,out,⟨⟩⟩ k hk hle ⟨i1,i2,i3,i4,i5⟩
   obtain rfl:i=k:=hk;have i1:out.length=ds.length:=i1
   have i2:∀ j:Nat,(k:Int)≤(j:Int)→out.getD j vN=vN:=i2
   have i3:M=zK ls ds out k:=i3
   have i4:∀ i:Nat,(i:Int)<(k:Int)→xS (rs,ls,()) (zK ls ds out i) (ds.getD i um) (out.getD i vN):=i4
   have i5:Rb M (2*ls.length+99*k):=i5;unfold abo;simp only [fQ,jd]
   refine aF (fun c=>aK (by omega) c (jF (by omega) ?_)) fun c=>ah ⟨i1,fun i hi=>?_⟩
   ·have c:(k:Int)<(ds.length:Int):=c
    have hkd:k<ds.length:=by omega
    have Jq:Bu (rs,ls,()) (ds.getD k um):=hd _ (gK hkd)
    have ek:aR ((k:Int)+1)=(k:Int)+1:=dn (by omega)
    have CU:(aR ((k:Int)+1)).toNat=k+1:=by rw [ek];omega
    have fin:∀ (Ie:List Tr) (x:Tr),Ie.length=ds.length→(∀ j,j≠k→Ie.getD j vN=out.getD j vN)→Ie.getD k vN=x→xS (rs,ls,()) M (ds.getD k um) x →
     Cnt (ρ:=List Tr×Unit) ds.length (fun s:Int×Mp×List Tr×Unit=>s.1) (fun s=>s.2.2.1.length=ds.length∧(∀ j:Nat,s.1≤(j:Int)→s.2.2.1.getD j vN=vN)∧s.2.1=zK ls ds s.2.2.1 s.1.toNat∧(∀ i:Nat,(i:Int)<s.1→xS (rs,ls,()) (zK ls ds s.2.2.1 i) (ds.getD i um) (s.2.2.1.getD i vN))∧Rb s.2.1 (2*ls.length+99*s.1.toNat)) k (fun y=>Plc (rs,ls,()) ds y.1) (.inl (aR ((k:Int)+1),(eX M x.2.1 (ds.getD k um).2.2.1).1,Ie,())):=by
     intro Ie x Yr ho hx hP;obtain ⟨-,k2,-⟩:=hP.take hg Jq i5
     have hc:∀ i,i≤k→zK ls ds Ie i=zK ls ds out i:=fun i hi=>K3 fun j hj=>ho j (by omega)
     refine ⟨hkd,ek,Yr,fun j hj=>?_,?_,fun i hi=>?_,?_⟩
     ·have hj:aR ((k:Int)+1)≤(j:Int):=hj
      rw [ek] at hj
      rw [ho j (by omega)]
      exact i2 j (by omega)
     ·show _=zK ls ds Ie (aR ((k:Int)+1)).toNat
      rw [CU];show _=(eX (zK ls ds Ie k) (Ie.getD k vN).2.1 (ds.getD k um).2.2.1).1;rw [hc k (bT _),hx,←i3]
     ·have hi:(i:Int)<aR ((k:Int)+1):=hi
      rw [ek] at hi;show xS _ (zK ls ds Ie i) (ds.getD i um) (Ie.getD i vN)
      rw [hc i (by omega)]
      by_cases hik:i=k
      ·subst hik
       rw [hx,←i3];exact hP
      ·rw [ho i hik]
       exact i4 i (by omega)
     ·show Rb _ (2*ls.length+99*(aR ((k:Int)+1)).toNat)
      rw [CU,show 2*ls.length+99*(k+1)=2*ls.length+99*k+99 by omega]
      exact k2
    have bK:=hg.nW hm M (ds.getD k um).2.2.1
    have hn:(ds.getD k um).2.1.Nodup:=Jq.up.imp fun h e=>by omega
    have h6:(ds.getD k um).2.1.length≤6:=by have:=Jq.len;omega
    have JM:=Qh (l:=dR M ls (ds.getD k um).2.2.1) (root:=(ds.getD k um).1) (ts:=(ds.getD k um).2.1) (w:=wg (rs,ls,())) bK (fun a ha=>hg.wg (sj.1 ha).1) h6 hn
    rcases JM with ⟨G,L,h1,h2,h3,h4,-⟩ | ⟨h2,h1⟩
    ·refine aj (P:=fun y=>y=((L,iH (wg (rs,ls,())) L,true,()),())) ⟨_,h2,rfl⟩ fun y hy=>?_
     subst hy;simp only [aQ]
     have l9:(out.set k ((ds.getD k um).1,L,())).length=ds.length:=by rw [List.length_set];exact i1
     have aap:(out.set k ((ds.getD k um).1,L,())).getD k vN=((ds.getD k um).1,L,()):=by rw [ny (by omega),if_pos rfl]
     refine aj (P:=fun y=>y=((eX M L (ds.getD k um).2.2.1).1,out.set k ((ds.getD k um).1,L,()),())) (aK (by omega) (by omega) (iI (by omega) (aK (by omega) (by rw [List.length_set];omega) (iI (by rw [List.length_set];omega) (ah ?_))))) fun y hy=>?_
     ·show ((eX M ((out.set k ((ds.getD k um).1,L,())).getD k vN).2.1 (ds.getD k um).2.2.1).1,out.set k ((ds.getD k um).1,L,()),())=_
      rw [aap]
     ·subst hy
      exact ah (fin _ _ l9 (fun j hj=>by rw [ny (by omega),if_neg (fun e=>hj e.symm)]) aap (.some h1 h3 h4))
    ·refine aj (P:=fun y=>y=(([],0,false,()),())) ⟨_,h2,rfl⟩ fun y hy=>?_
     subst hy;simp only [bJ]
     refine aj (P:=fun y=>y=(M,out,())) (ah rfl) fun y hy=>?_
     subst hy
     exact ah (fin out vN i1 (fun j hj=>rfl) (i2 k (Int.le_refl _)) (.none h1))
   ·have c:¬ (k:Int)<(ds.length:Int):=c
    exact i4 i (by omega)
end
theorem QC {a b:Lk}:xO a b<0↔Lt2 a b:=acu _ _ _ _
theorem ac9 {a b:Lk} (h1:a.1=b.1) (h2:a.2.1=b.2.1):xO a b=0:=by
 unfold xO dJ dz;simp [h1,h2,dz]
theorem t44 {ls:List Lk} (hs:ls.Pairwise Lt2) (hlen:ls.length≤1000) {p:Nat} (hp:p<ls.length) (tg:Lk) (h1:ls[p].1=tg.1) (h2:ls[p].2.1=tg.2.1):iA (Pt ls tg ()) (fun r=>r=(((p:Int),true,()),())):=by
 obtain ⟨q1,q2,q3,q4,q5,⟨⟩⟩:=tg;have h1:ls[p].1=q1:=h1;have h2:ls[p].2.1=q2:=h2;unfold Pt r44
 have low:∀ i (hi:i<ls.length),Lt2 ls[i] (q1,q2,q3,q4,q5,())↔i<p:=by
  intro i hi
  have e:Lt2 ls[i] (q1,q2,q3,q4,q5,())↔Lt2 ls[i] ls[p]:=by unfold Lt2;rw [h1,h2]
  rw [e];constructor
  ·intro h
   rcases Nat.lt_trichotomy i p with h3 | h3 | h3
   ·exact h3
   ·subst h3;unfold Lt2 at h;omega
   ·have:=List.pairwise_iff_getElem.1 hs p i hp hi h3
    unfold Lt2 at h this;omega
  ·intro h
   exact List.pairwise_iff_getElem.1 hs i p hi hp h
 refine aj (P:=fun y=>y=((p:Int),())) ?_ fun y hy=>?_
 ·refine iq (fun s=>0≤s.2.1∧s.2.1≤(p:Int)∧(p:Int)≤s.1∧s.1≤(ls.length:Int)) (fun s=>(s.1-s.2.1).toNat) ⟨Int.le_refl _,by simp,by show (p:Int)≤(ls.length:Int);omega,Int.le_refl _⟩ ?_
  rintro ⟨j,i,⟨⟩⟩ ⟨i1,i2,i3,i4⟩;have i1:0≤i:=i1;have i2:i≤(p:Int):=i2;have i3:(p:Int)≤j:=i3;have i4:j≤(ls.length:Int):=i4;unfold aaS;simp only [fQ]
  refine aF (fun c=>?_) fun c=>ah ?_
  ·have c:i<j:=c
   have eh:aR (Int.fdiv (IntKind.wrap .u64 (aR (i+j))) 2)=(i+j) / 2:=by
    have e1:aR (i+j)=i+j:=by rw [jc];omega
    have e2:IntKind.wrap .u64 (i+j)=i+j:=wu64 (by omega) (by omega)
    rw [e1,e2,Int.fdiv_eq_ediv_of_nonneg _ (by decide)]
    rw [jc];omega
   rw [eh]
   have hh:((i+j) / 2).toNat<ls.length:=by omega
   have eg:ls.getD ((i+j) / 2).toNat (0,0,0,0,0,())=ls[((i+j) / 2).toNat]:=by rw [iW,iw hh];rfl
   have e3:aR ((i+j) / 2+1)=(i+j) / 2+1:=by rw [jc];omega
   refine aK (by omega) (by omega) ?_
   rw [eg,e3];have hlw:=low _ hh
   refine aj (P:=fun y=>0≤y.1∧y.1≤(p:Int)∧(p:Int)≤y.2.1∧y.2.1≤(ls.length:Int)∧y.2.1-y.1<j-i) (aF (fun c2=>?_) fun c2=>?_) fun y hy=>ah ⟨⟨hy.1,hy.2.1,hy.2.2.1,hy.2.2.2.1⟩,?_⟩
   ·have:=hlw.1 (QC.1 c2)
    exact ah ⟨by show 0≤(i+j) / 2+1;omega,by show (i+j) / 2+1≤(p:Int);omega,i3,i4,by show j-((i+j) / 2+1)<j-i;omega⟩
   ·have:¬ ((i+j) / 2).toNat<p:=fun h=>c2 (QC.2 (hlw.2 h))
    exact ah ⟨i1,i2,by show (p:Int)≤(i+j) / 2;omega,by show (i+j) / 2≤(ls.length:Int);omega,by show (i+j) / 2-i<j-i;omega⟩
   ·show (y.2.1-y.1).toNat<(j-i).toNat
    have:=hy.2.2.2.2;omega
  ·have c:¬ i<j:=c
   show (i,())=_
   rw [show i=(p:Int) by omega]
 ·subst hy
  simp only [fQ]
  have c:(p:Int)<(ls.length:Int):=by omega
  rw [dT c];simp only [aQ]
  rw [dT (show (0:Int)≤(p:Int) by omega)]
  simp only [Bool.true_and,aQ,qB]
  have eg:ls.getD (Int.toNat (p:Int)) (0,0,0,0,0,())=ls[p]:=by rw [jd,iW,iw hp];rfl
  rw [eg,ac9 h1 h2];exact ah rfl
section
variable {m:Nat} {g:To}
theorem t15 (hg:gQ m g) (hm:m≤7) {a:Ar} (ha:a∈g.2.1.flatMap dV):iA (Nn g a.1.1 a.1.2.1) (fun r=>r=((a.2.1,true,()),())):=by
 obtain ⟨rs,ls,⟨⟩⟩:=g;have h49:ls.length≤49:=gX hg.llen (Nat.mul_le_mul hm hm);obtain ⟨l,hl,ha⟩:=List.mem_flatMap.1 ha;obtain ⟨p,hp,rfl⟩:=List.getElem_of_mem hl;have hp:p<ls.length:=hp;have aT:ls[p].1<ls[p].2.1:=(hg.lend _ hl).2.2
 have eg:ls.getD (Int.toNat (p:Int)) (0,0,0,0,0,())=ls[p]:=by rw [jd,iW,iw hp];rfl
 unfold Nn r15;have bK:RZ (rs,ls,())=true:=hg.ok hm;rw [bK];simp only [Bool.not_true,bJ,fQ]
 have c0:(0:Int)≤(p:Int):=by omega
 have c1:(p:Int)<(ls.length:Int):=by omega
 have ha:a∈[((ls[p].1,ls[p].2.1,()),ls[p].2.2.1,()),((ls[p].2.1,ls[p].1,()),ls[p].2.2.2.1,())]:=ha;simp only [List.mem_cons,List.not_mem_nil,or_false] at ha
 rcases ha with rfl | rfl
 ·simp only
  have c:¬ ls[p].2.1<ls[p].1:=by omega
  rw [dF c,dT aT];simp only [aQ,bJ]
  refine aj (t44 (ls:=ls) hg.lup (by omega) hp _ rfl rfl) fun y hy=>?_
  subst hy;simp only [Bool.not_true,bJ];refine aK c0 c1 (ah ?_);rw [eg]
 ·simp only
  have c:¬ ls[p].2.1<ls[p].1:=by omega
  rw [dF c,dT aT];simp only [aQ,bJ]
  refine aj (t44 (ls:=ls) hg.lup (by omega) hp _ rfl rfl) fun y hy=>?_
  subst hy;simp only [Bool.not_true,bJ];refine aK c0 c1 (ah ?_);rw [eg]
theorem asi:iA (pF []) (fun r=>r=(true,())):=by
 unfold pF ajn
 refine aj (P:=fun y=>y.1=false) ?_ fun y h=>by rw [h];exact ah rfl
 refine iq (fun s=>s.1=1) (fun _=>0) rfl ?_
 rintro ⟨i,⟨⟩⟩ h;obtain rfl:i=1:=h;unfold Mk;simp only [List.length_nil];exact ah rfl
theorem t59 (hg:gQ m g) (hm:m≤7) {root:Int} {L:List Hp} (hr:root∈ids g) (ht:uy root L) (ha:∀ h∈L,∃ a∈g.2.1.flatMap dV,a.1=h):iA (Mr g (root,L,()) []) (fun r=>r=(0,())):=by
 obtain ⟨rs,ls,⟨⟩⟩:=g;have hlen:=ht.len;unfold Mr r59;have Na:lT (rs,ls,())=0:=hg.chk hm;simp only [Na,decide_true,Bool.not_true,bJ]
 refine aj (t85 ht) fun y5 h5=>?_
 subst h5
 refine eH (fun c=>absurd rfl c) fun _=>jF (by simp) (aj (P:=fun y=>y.1=false) ?_ fun y6 h6=>?_)
 ·refine bH 1 (fun s=>s.1) (fun s=>s.2.1=[root]) rfl rfl ?_
  rintro ⟨i,l,⟨⟩⟩ k hk hle hI;obtain rfl:i=k:=hk;have hI:l=[root]:=hI;subst hI;unfold abk;simp only [fQ,jd,lD,List.nil_append,List.length_nil]
  refine aF (fun c=>?_) fun c=>ah rfl
  have Ni:k=0:=by omega
  subst Ni
  refine aK (by omega) (by omega) (iI (by omega) (bX (fun c2=>?_) fun c2=>ah ⟨by omega,dn (k:=0) (by omega),rfl⟩))
  exfalso;have hh:AU (rs,ls,()) root=true:=hg.has hm hr;have c2:(!AU (rs,ls,()) root)=true:=c2;rw [hh] at c2;cases c2
 rw [h6];simp only [bJ]
 refine aj (P:=fun y=>y.1=false) ?_ fun y7 h7=>?_
 ·refine bH L.length (fun s=>s.1) (fun _=>True) rfl trivial ?_
  rintro ⟨i,⟨⟩⟩ k hk hle -;obtain rfl:i=k:=hk;unfold abl;simp only [fQ,jd]
  refine aF (fun c=>aK (by omega) c ?_) fun c=>ah rfl
  have c:(k:Int)<(L.length:Int):=c
  obtain ⟨a,Xc,e⟩:=ha _ (gK (d:=(0,0,())) (show k<L.length by omega))
  rw [←e]
  refine aj (t15 hg hm Xc) fun y hy=>?_
  subst hy;simp only [Bool.not_true,bJ]
  exact ah ⟨by omega,dn (by omega),trivial⟩
 rw [h7];simp only [bJ]
 refine aj asi fun y8 h8=>?_
 subst h8;simp only [Bool.not_true,bJ]
 refine aj (t86 ht) fun y9 h9=>aj (P:=fun y=>y.1=false) ?_ fun y h=>by rw [h];exact ah rfl
 refine bH 0 (fun s=>s.1) (fun _=>True) rfl trivial ?_
 rintro ⟨i,⟨⟩⟩ k hk hle -;obtain rfl:i=k:=hk
 have:k=0:=by omega
 subst this;unfold abm;simp only [List.length_nil];exact ah rfl
theorem axo:iA (IV vN) (fun r=>r=(true,())):=by
 unfold IV r58;simp only [decide_true,aQ,qB,List.length_nil];exact ah rfl
theorem axp {root:Int} {L:List Hp} (h:1≤root):iA (IV (root,L,())) (fun r=>r=(false,())):=by
 unfold IV r58
 have c:¬ root=0:=by omega
 simp only;rw [dF c];exact ah rfl
theorem t22 (hg:gQ m g) (hm:m≤7) {ds:List Dm} (hd:∀ d∈ds,Bu g d) (hl:ds.length≤12) {out:List Tr} (hP:Plc g ds out) {n:Nat} (hn:n≤ds.length):iA (Kt g ds (out.take n)) (fun r=>r=((jD (zK g.2.1 ds out n),0,()),())):=by
 obtain ⟨rs,ls,⟨⟩⟩:=g;have h49:ls.length≤49:=gX hg.llen (Nat.mul_le_mul hm hm)
 have hlen:(out.take n).length=n:=by rw [List.length_take,hP.len];omega
 unfold Kt r22
 refine aj (t53 hg hm hd hl) fun y4 h4=>?_
 subst h4
 refine eH (fun c=>absurd rfl c) fun _=>?_
 simp only [fQ,hlen]
 refine aF (fun c=>absurd c (by omega)) fun _=>aj (t54 (rs,ls,()) (by show ls.length≤1000;omega)) fun y5 h5=>?_
 subst h5
 refine aj (P:=fun y=>y.1=false∧y.2.2.1=zK ls ds out n) ?_ fun y6 h6=>?_
 ·refine bH n (fun s=>s.2.1) (fun s=>s.1=zK ls ds out s.2.1.toNat) rfl rfl ?_
  rintro ⟨M,i,⟨⟩⟩ k hk hle hI;obtain rfl:i=k:=hk;have hI:M=zK ls ds out k:=hI;unfold abp;simp only [fQ,jd,hlen]
  refine aF (fun c=>aK (by omega) c ?_) fun c=>ah ⟨rfl,?_⟩
  ·have c:(k:Int)<(n:Int):=c
   have OT:k<n:=by omega
   have ek:aR ((k:Int)+1)=(k:Int)+1:=dn (by omega)
   have CU:(aR ((k:Int)+1)).toNat=k+1:=by rw [ek];omega
   have eo:(out.take n).getD k (0,[],())=out.getD k vN:=by
    simp only [iW,List.getElem?_take,if_pos OT]
   have QJ:=hP.at_ k (by omega)
   have Jq:=hd _ (gK (d:=um) (show k<ds.length by omega))
   have QT:=hP.rb hg hd k (by omega)
   obtain ⟨j1,-,-⟩:=QJ.take hg Jq QT;rw [eo]
   have step:iA (bif (decide ((0:Int)≤(k:Int))&&decide ((k:Int)<(ds.length:Int))) then (some ((eX M (out.getD k vN).2.1 (ds.getD k (0,[],0,())).2.2.1).1,((!(eX M (out.getD k vN).2.1 (ds.getD k (0,[],0,())).2.2.1).2),()))) else none) (fun y:Mp×Bool×Unit=>y=(zK ls ds out (k+1),false,())):=by
    refine aK (by omega) (by omega) (ah ?_)
    have j1':(eX M (out.getD k vN).2.1 (ds.getD k um).2.2.1).2=true:=by rw [hI];exact j1
    show ((eX M (out.getD k vN).2.1 (ds.getD k um).2.2.1).1,!(eX M (out.getD k vN).2.1 (ds.getD k um).2.2.1).2,())=_;rw [j1',hI];rfl
   refine aj (P:=fun y=>y=(zK ls ds out (k+1),false,())) ?_ fun y hy=>?_
   ·generalize yO:out.getD k vN=xx at QJ step
    cases QJ with
    | none h=>
     refine aj axo fun y5 h5=>?_
     subst h5;simp only [Bool.not_true,bJ];exact step
    | @some L G h hp hs=>
     refine aj (axp (hg.rin _ Jq.root).1) fun y5 h5=>?_
     subst h5;simp only [Bool.not_false,aQ]
     refine aj (t59 hg hm Jq.root (CY hg Jq.root h hp hs) fun x hx=>by
      obtain ⟨a,ha,e⟩:=h.arcs x (hp.mem_iff.1 hx)
      exact ⟨a,(sj.1 ha).1,e⟩) fun y6 h6=>?_
     subst h6;simp only [decide_true,Bool.not_true,Bool.not_false,aQ];exact step
   ·subst hy
    simp only [bJ]
    refine ah ⟨by omega,ek,?_⟩
    show zK ls ds out (k+1)=zK ls ds out (aR ((k:Int)+1)).toNat;rw [CU]
  ·have c:¬ (k:Int)<(n:Int):=c
   have e:k=n:=by omega
   subst e;exact hI
 ·rw [h6.1,h6.2]
  simp only [bJ];have:=(hP.rb hg hd n hn).len
  have hll:(zK ls ds out n).length≤1000000:=by
   have:(zK ls ds out n).length≤2*ls.length+99*n:=this;omega
  exact jF hll (ah rfl)
theorem TP {M M':Mp} {ls:List Lk} {r:Int} (h:∀ k,mg M' k=mg M k):dR M' ls r=dR M ls r:=by
 unfold dR
 exact List.filter_congr fun a _=>by rw [h]
theorem t23 (hg:gQ m g) (hm:m≤7) {M:Mp} {n:Nat} (hM:Rb M n) {d:Dm} (hd:Bu g d) (Le:¬ ∃ G,nM (dR M g.2.1 d.2.2.1) d.1 d.2.1 G) :
 iA (Ku g (jD M) d) (fun r=>∃ w,r=((w,0,()),())∧aA.has w d.1=true):=by
 obtain ⟨rs,ls,⟨⟩⟩:=g;obtain ⟨ro,re,ra,⟨⟩⟩:=d;have h49:ls.length≤49:=gX hg.llen (Nat.mul_le_mul hm hm);unfold Ku r23;simp only
 refine aj (t53 hg hm (ds:=[(ro,re,ra,())]) (fun d h=>by obtain rfl:=List.mem_singleton.1 h;exact hd) (by simp)) fun y h=>?_
 subst h
 refine eH (fun c=>absurd rfl c) fun _=>jF (by omega) ?_
 have e:(fO (ls.flatMap dV)).filter (fun y8:Ar=>!decide (mg (pz (jD M)) y8.1<ra))=dR M ls ra:=TP (M':=pz (jD M)) fun k=>Ql hM.dk k
 rw [e]
 refine bX (fun c=>?_) fun c=>ah ⟨_,rfl,HZ.2 (acI _ _)⟩
 exfalso;apply Le
 obtain ⟨G,g1,g2,g3⟩:=Qd ro ((dR M ls ra).map fun a=>a.1)
 refine ⟨G,g1,fun h hh=>?_,fun x hx=>?_⟩
 ·obtain ⟨a,ha,e⟩:=List.mem_map.1 (g2 h hh)
  exact ⟨a,ha,e⟩
 ·have:=HZ.1 (List.all_eq_true.1 c x hx)
  exact (afF (fun a ha=>List.mem_map.2 ⟨a,ha,rfl⟩) x this).kr g3
abbrev Ey:Ad:=(0,0,0,0,())
structure K4 (g:To) (e:List Ad):Prop where
 len:e.length≤64
 bit:∀ k,k<e.length→(e.getD k Ey).1=k
 kind:∀ a∈e,(a.2.2.1=3∧a.2.2.2.1=a.2.1)∨(a.2.2.1=1∧∃ c∈g.2.1.flatMap dV,c.1=(a.2.1,a.2.2.2.1,()))
 rin:∀ a∈e,a.2.1∈ids g∧a.2.2.2.1∈ids g
 nd:(e.map fun a=>a.2).Nodup
 dl:∀ r∈ids g,(r,3,r,())∈e.map fun a=>a.2
 lk:∀ c∈g.2.1.flatMap dV,(c.1.1,1,c.1.2.1,())∈e.map fun a=>a.2
def rows (g:To) (r:Int):List Tg:=(r,3,r,())::(near g r).map fun q=>(r,1,q,())
theorem QD (hg:gQ m g) {r q:Int}:q∈near g r↔q∈ids g∧(price g.2.1 r q).2.1=true:=by
 unfold near;rw [List.mem_map];constructor
 ·rintro ⟨x,hx,rfl⟩
  obtain ⟨h1,h2⟩:=List.mem_filter.1 hx;exact ⟨List.mem_map.2 ⟨x,h1,rfl⟩,h2⟩
 ·rintro ⟨h1,h2⟩
  obtain ⟨x,hx,rfl⟩:=List.mem_map.1 h1;exact ⟨x,List.mem_filter.2 ⟨hx,h2⟩,rfl⟩
theorem af0 (hg:gQ m g) (r:Int):(near g r).Nodup:=by
 have h:(ids g).Nodup:=hg.rup.imp fun h e=>by omega
 exact List.Nodup.sublist (List.Sublist.map _ List.filter_sublist) h
theorem t52 (hg:gQ m g) (hm:m≤7) (r:Int):iA (Mj g r) (fun y=>y=(near g r,())):=by
 obtain ⟨rs,ls,⟨⟩⟩:=g;unfold Mj r52;have Na:lT (rs,ls,())=0:=hg.chk hm;simp only [Na,decide_true,Bool.not_true,bJ];exact ah rfl
theorem t51:iA (Pw 64) (fun y=>y=(true,())):=by
 unfold Pw r51;exact ah rfl
def Num (e:List Ad) (l:List Tg):Prop:=e.length=l.length∧∀ k (h:k<e.length),e[k]=((k:Int),l.getD k (0,0,0,()))
theorem Num.snoc {e:List Ad} {l:List Tg} (h:Num e l) (t:Tg):Num (e++[((e.length:Int),t)]) (l++[t]):=by
 refine ⟨by simp [h.1],fun k hk=>?_⟩
 rw [nP,zC7] at hk
 by_cases lX:k<e.length
 ·rw [List.getElem_append_left lX,h.2 k lX]
  simp only [iW,List.getElem?_append_left (show k<l.length by rw [←h.1];exact lX)]
 ·have:k=e.length:=by omega
  subst this;rw [List.getElem_append_right (bT _)]
  have e2:(l++[t]).getD e.length (0,0,0,())=t:=by rw [h.1];simp [iW]
  rw [e2];simp
theorem axq (hg:gQ m g) (hm:m≤7) {i:Nat} (hi:i<g.1.length) (r:Int) (hr:r=(g.1.getD i (0,false,())).1) {e:List Ad} {l:List Tg} (he:Num e l) (hl:e.length≤1000) :
 iA (Loop (@Sc g.1 ((i:Int),((64,e,()),())) (near g r,())) ((0:Int),((64,e++[((Int.ofNat e.length),r,3,r,())],()),()))) (fun y=>y.1.1=64∧Num y.1.2.1 (l++rows g r)):=by
 have hn:(near g r).length≤7:=by
  unfold near;rw [pJ];exact gX (List.length_filter_le _ _) (gX hg.len hm)
 refine bH (near g r).length (fun s=>s.1) (fun s=>s.2.1.1=64∧Num s.2.1.2.1 (l++((r,3,r,())::((near g r).take s.1.toNat).map fun q=>(r,1,q,())))) rfl ⟨rfl,by
  have:=he.snoc (r,3,r,())
  exact this⟩ ?_
 rintro ⟨j,⟨ln,e2,⟨⟩⟩,⟨⟩⟩ k hk hle ⟨i1,i2⟩;obtain rfl:j=k:=hk;obtain rfl:ln=64:=i1
 have i2:Num e2 (l++((r,3,r,())::((near g r).take k).map fun q=>(r,1,q,()))):=i2
 have D5:e2.length≤1010:=by
  rw [i2.1];have:=he.1;simp only [nP,lD,pJ,List.length_take];omega
 unfold Sc;simp only [fQ,jd]
 refine aF (fun c=>aK (by omega) c (jF (by omega) (ah ⟨by omega,dn (by omega),rfl,?_⟩))) fun c=>ah ⟨rfl,?_⟩
 ·have c:(k:Int)<((near g r).length:Int):=c
  have gI:k<(near g r).length:=by omega
  have CU:(aR ((k:Int)+1)).toNat=k+1:=by rw [dn (by omega)];omega
  show Num (e2++[((e2.length:Int),(g.1.getD i (0,false,())).1,1,(near g r).getD k 0,())]) (l++((r,3,r,())::((near g r).take (aR ((k:Int)+1)).toNat).map fun q=>(r,1,q,())))
  rw [CU,←hr,List.take_add_one,iw gI];have:=i2.snoc (r,1,(near g r).getD k 0,())
  have e3:(near g r).getD k 0=(near g r)[k]:=by rw [iW,iw gI];rfl
  rw [e3] at this ⊢;simp only [vO,jy,List.map_nil,Option.toList_some,List.append_assoc,List.cons_append] at this ⊢;exact this
 ·have c:¬ (k:Int)<((near g r).length:Int):=c
  rw [List.take_of_length_le (by omega)] at i2
  exact i2
theorem ada (hg:gQ m g) (hm:m≤7) (r:Int):(rows g r).length≤8:=by
 unfold rows near;rw [lD,pJ,pJ]
 have:=List.length_filter_le (fun x:Rt=>(price g.2.1 r x.1).2.1) g.1
 have:=hg.len;omega
theorem t20 (hg:gQ m g) (hm:m≤7):iA (Kl g 64) (fun y=>(∃ e,y=((e,3,()),()))∨∃ e,y=(((64,e,()),0,()),())∧e.length≤64∧Num e ((ids g).flatMap (rows g))):=by
 obtain ⟨rs,ls,⟨⟩⟩:=g;unfold Kl r20;have Na:lT (rs,ls,())=0:=hg.chk hm;simp only [Na,decide_true,Bool.not_true,bJ]
 refine aj t51 fun y3 h3=>?_
 subst h3;simp only [Bool.not_true,bJ];have hrl:rs.length≤7:=gX hg.len hm
 refine aj (P:=fun y=>y.1.1=64∧Num y.1.2.1 ((ids (rs,ls,())).flatMap (rows (rs,ls,())))) ?_ fun y4 h4=>?_
 ·refine bH rs.length (fun s=>s.1) (fun s=>s.2.1.1=64∧Num s.2.1.2.1 (((ids (rs,ls,())).take s.1.toNat).flatMap (rows (rs,ls,())))) rfl ⟨rfl,rfl,fun k h=>absurd h (Nat.not_lt_zero _)⟩ ?_
  rintro ⟨j,⟨ln,e,⟨⟩⟩,⟨⟩⟩ k hk hle ⟨i1,i2⟩;obtain rfl:j=k:=hk;obtain rfl:ln=64:=i1;have i2:Num e (((ids (rs,ls,())).take k).flatMap (rows (rs,ls,()))):=i2
  have Nh:e.length≤8*k:=by
   rw [i2.1]
   have key:∀ (q:List Int),(q.flatMap (rows (rs,ls,()))).length≤8*q.length:=by
    intro q
    induction q with
    | nil=>exact bT _
    | cons x t ih=>
     have h8:(rows (rs,ls,()) x).length≤8:=ada hg hm x;simp only [List.flatMap_cons,nP,lD];omega
   have h1:=key ((ids (rs,ls,())).take k)
   have h2:((ids (rs,ls,())).take k).length≤k:=by rw [List.length_take];omega
   omega
  unfold aaT;simp only [fQ,jd]
  refine aF (fun c=>aK (by omega) c (jF (by omega) (aj (t52 hg hm _) fun y3 h3=>?_))) fun c=>ah ⟨rfl,?_⟩
  ·have c:(k:Int)<(rs.length:Int):=c
   have gI:k<rs.length:=by omega
   subst h3
   have eI:(ids (rs,ls,())).take (k+1)=(ids (rs,ls,())).take k++[(rs.getD k (0,false,())).1]:=by
    show (rs.map fun x=>x.1).take (k+1)=(rs.map fun x=>x.1).take k++_
    rw [List.take_add_one,List.getElem?_map,iw gI];simp [iW,gI]
   refine aj (axq hg hm (i:=k) gI (rs.getD k (0,false,())).1 rfl i2 (by omega)) fun y4 h4=>ah ⟨by omega,dn (by omega),h4.1,?_⟩
   show Num y4.1.2.1 (((ids (rs,ls,())).take (aR ((k:Int)+1)).toNat).flatMap (rows (rs,ls,())))
   rw [show (aR ((k:Int)+1)).toNat=k+1 from by rw [dn (by omega)];omega,eI,List.flatMap_append]
   simpa using h4.2
  ·have c:¬ (k:Int)<(rs.length:Int):=c
   rw [List.take_of_length_le (by show (rs.map fun x=>x.1).length≤k;rw [pJ];omega)] at i2
   exact i2
 ·obtain ⟨⟨ln,e,⟨⟩⟩,⟨⟩⟩:=y4
  obtain ⟨h4,h5⟩:=h4;obtain rfl:ln=64:=h4;simp only [fQ]
  refine aF (fun c=>ah (.inl ⟨_,rfl⟩)) fun c=>ah (.inr ⟨e,rfl,by omega,h5⟩)
theorem Num.map {e:List Ad} {l:List Tg} (h:Num e l):e.map (fun a=>a.2)=l:=by
 refine List.ext_getElem (by simp [h.1]) fun k h1 h2=>?_
 have hk:k<e.length:=by simpa using h1
 rw [List.getElem_map,h.2 k hk];simp [iW,h2]
theorem alV (hg:gQ m g) {e:List Ad} (hl:e.length≤64) (h:Num e ((ids g).flatMap (rows g))):K4 g e:=by
 have hm:=h.map
 have mem:∀ a∈e,∃ r∈ids g,a.2∈rows g r:=fun a ha=>by
  have:a.2∈(ids g).flatMap (rows g):=by rw [←hm];exact List.mem_map.2 ⟨a,ha,rfl⟩
  exact List.mem_flatMap.1 this
 have row:∀ r∈ids g,∀ t∈rows g r,(t=(r,3,r,()))∨(∃ q,q∈ids g∧t=(r,1,q,())∧∃ c∈g.2.1.flatMap dV,c.1=(r,q,())):=by
  intro r hr t ht
  rcases lC ht with rfl | ht
  ·exact .inl rfl
  ·obtain ⟨q,hq,rfl⟩:=List.mem_map.1 ht
   obtain ⟨h1,h2⟩:=(QD hg).1 hq;exact .inr ⟨q,h1,rfl,QB h2⟩
 refine ⟨hl,fun k hk=>?_,fun a ha=>?_,fun a ha=>?_,?_,fun r hr=>?_,fun c hc=>?_⟩
 ·rw [iW,iw hk,sw,h.2 k hk]
 ·obtain ⟨r,hr,ht⟩:=mem a ha
  obtain ⟨a0,a1,a2,a3,⟨⟩⟩:=a
  rcases row r hr _ ht with h1 | ⟨q,_,h1,h2⟩
  ·simp only [gD,and_true] at h1
   obtain ⟨rfl,rfl,rfl⟩:=h1;exact .inl ⟨rfl,rfl⟩
  ·simp only [gD,and_true] at h1
   obtain ⟨rfl,rfl,rfl⟩:=h1;exact .inr ⟨rfl,h2⟩
 ·obtain ⟨r,hr,ht⟩:=mem a ha
  obtain ⟨a0,a1,a2,a3,⟨⟩⟩:=a
  rcases row r hr _ ht with h1 | ⟨q,hq,h1,h2⟩
  ·simp only [gD,and_true] at h1
   obtain ⟨rfl,rfl,rfl⟩:=h1;exact ⟨hr,hr⟩
  ·simp only [gD,and_true] at h1
   obtain ⟨rfl,rfl,rfl⟩:=h1;exact ⟨hr,hq⟩
 ·rw [hm]
  have J3:(ids g).Nodup:=hg.rup.imp fun h e=>by omega
  have first:∀ r,∀ t∈rows g r,t.1=r:=fun r t ht=>by
   rcases lC ht with rfl | ht
   ·rfl
   ·obtain ⟨q,_,rfl⟩:=List.mem_map.1 ht;rfl
  have each:∀ r,(rows g r).Nodup:=fun r=>by
   unfold rows
   refine List.nodup_cons.2 ⟨fun hc=>?_,?_⟩
   ·obtain ⟨q,_,e⟩:=List.mem_map.1 hc
    simp only [gD] at e;omega
   ·exact (List.Pairwise.map _ (fun a b yg e=>yg (by simp only [gD] at e;exact e.2.2.1)) (af0 hg r))
  generalize ids g=q at J3
  induction q with
  | nil=>exact .nil
  | cons x t ih=>
   obtain ⟨n1,n2⟩:=List.nodup_cons.1 J3;rw [List.flatMap_cons,List.nodup_append]
   refine ⟨each x,ih n2,fun a ha b hb e=>?_⟩
   obtain ⟨r,hr,hbr⟩:=List.mem_flatMap.1 hb
   have h1:=first x a ha
   have h2:=first r b hbr
   rw [e,h2] at h1;exact n1 (h1▸hr)
 ·rw [hm]
  exact List.mem_flatMap.2 ⟨r,hr,uD ..⟩
 ·rw [hm]
  obtain ⟨-,-,-,h1,h2,-⟩:=hg.arc hc;have hp:=hg.price hc
  refine List.mem_flatMap.2 ⟨c.1.1,h1,kE _ (List.mem_map.2 ⟨c.1.2.1,(QD hg).2 ⟨h2,by rw [hp]⟩,rfl⟩)⟩
end
abbrev Ub (x:Int):Prop:=0≤x∧x<18446744073709551616
def tb (x:Int) (k:Nat):Bool:=x.toNat.testBit k
theorem CZ {n:Nat} (h:n<2 ^ 64):Ub (n:Int):=by
 have h2:(2:Nat) ^ 64=18446744073709551616:=by decide
 exact ⟨by omega,by omega⟩
theorem C8 {k:Nat} (h:k<64):Ub ((2 ^ k:Nat):Int):=CZ (Nat.pow_lt_pow_right (by decide) h)
theorem p2 {k:Nat} (h:k<64):IntKind.wrap .u64 ((1:Int)*Int.pow 2 (min k 64))=((2 ^ k:Nat):Int):=by
 rw [Nat.min_eq_left (by omega),Int.one_mul,pow2,AJ]
 exact wu64 (C8 h).1 (C8 h).2
theorem e64:(2:Int) ^ 64=18446744073709551616:=by decide
theorem C9 {x:Int} (h:Ub x):x.toNat<2 ^ 64:=by
 have h2:(2:Nat) ^ 64=18446744073709551616:=by decide
 have:=h.1;have:=h.2;omega
theorem Nb {n:Nat} (h:n<2 ^ 64):IntKind.wrap .u64 (Int.ofNat n)=(n:Int):=wu64 (CZ h).1 (CZ h).2
theorem or1 {x:Int} {k:Nat} (hx:Ub x) (hk:k<64):Ub (IntKind.wrap .u64 (Int.ofNat (BitVec.toNat (BitVec.or (BitVec.ofInt 64 x) (BitVec.ofInt 64 (IntKind.wrap .u64 ((1:Int)*Int.pow 2 (min k 64)))))))) ∧
 ∀ j,tb (IntKind.wrap .u64 (Int.ofNat (BitVec.toNat (BitVec.or (BitVec.ofInt 64 x) (BitVec.ofInt 64 (IntKind.wrap .u64 ((1:Int)*Int.pow 2 (min k 64)))))))) j=(tb x j || decide (k=j)):=by
 rw [p2 hk,bvor hx.1 (by rw [e64];exact hx.2) (C8 hk).1 (by rw [e64];exact (C8 hk).2)]
 have aT:x.toNat ||| ((2 ^ k:Nat):Int).toNat<2 ^ 64:=Nat.or_lt_two_pow (C9 hx) (by rw [jd];exact Nat.pow_lt_pow_right (by decide) hk)
 rw [Nb aT]
 refine ⟨CZ aT,fun j=>?_⟩
 unfold tb;rw [jd,Nat.testBit_or,jd,Nat.testBit_two_pow]
theorem and1 {x:Int} {k:Nat} (hx:Ub x) (hk:k<64):decide (IntKind.wrap .u64 (Int.ofNat (BitVec.toNat (BitVec.and (BitVec.ofInt 64 x) (BitVec.ofInt 64 (IntKind.wrap .u64 ((1:Int)*Int.pow 2 (min k 64)))))))=0) = !tb x k:=by
 rw [p2 hk,bvand hx.1 (by rw [e64];exact hx.2) (C8 hk).1 (by rw [e64];exact (C8 hk).2),jd]
 have aT:x.toNat &&& 2 ^ k<2 ^ 64:=Nat.lt_of_le_of_lt Nat.and_le_left (C9 hx);rw [Nb aT]
 have asj:∀ j,(x.toNat &&& 2 ^ k).testBit j=(tb x j&&decide (k=j)):=fun j=>by rw [Nat.testBit_and,Nat.testBit_two_pow];rfl
 cases hb:tb x k with
 | false=>
  have e:x.toNat &&& 2 ^ k=0:=Nat.eq_of_testBit_eq fun j=>by
   rw [asj,Nat.zero_testBit]
   by_cases hj:k=j
   ·subst hj;rw [hb];rfl
   ·rw [d9 hj,Bool.and_false]
  rw [e];rfl
 | true=>
  have lX:=asj k;rw [hb,bL rfl,Bool.and_self] at lX
  refine d9 fun h0=>?_
  have e:x.toNat &&& 2 ^ k=0:=by omega
  rw [e,Nat.zero_testBit] at lX;cases lX
theorem aox {x y:Int} (hx:Ub x) (hy:Ub y):Ub (IntKind.wrap .u64 (Int.ofNat (BitVec.toNat (BitVec.and (BitVec.ofInt 64 x) (BitVec.not (BitVec.ofInt 64 y)))))) ∧
 ∀ j,j<64→tb (IntKind.wrap .u64 (Int.ofNat (BitVec.toNat (BitVec.and (BitVec.ofInt 64 x) (BitVec.not (BitVec.ofInt 64 y)))))) j=(tb x j && !tb y j):=by
 have e:BitVec.toNat (BitVec.and (BitVec.ofInt 64 x) (BitVec.not (BitVec.ofInt 64 y)))=x.toNat &&& (2 ^ 64-1-y.toNat):=by
  show (BitVec.ofInt 64 x &&& ~~~ (BitVec.ofInt 64 y)).toNat=_
  rw [BitVec.toNat_and,BitVec.toNat_not,toNat_ofInt hx.1 (by rw [e64];exact hx.2),toNat_ofInt hy.1 (by rw [e64];exact hy.2)]
 rw [e];have aT:x.toNat &&& (2 ^ 64-1-y.toNat)<2 ^ 64:=Nat.lt_of_le_of_lt Nat.and_le_left (C9 hx);rw [Nb aT]
 refine ⟨CZ aT,fun j hj=>?_⟩
 unfold tb;rw [jd,Nat.testBit_and]
 congr 1
 rw [show 2 ^ 64-1-y.toNat=2 ^ 64-(y.toNat+1) by omega,Nat.testBit_two_pow_sub_succ (C9 hy),bL hj,Bool.true_and]
theorem af2 {x:Int} (hx:Ub x) {j:Nat} (hj:64≤j):tb x j=false:=by
 unfold tb
 exact Nat.testBit_lt_two_pow (mK (C9 hx) (Nat.pow_le_pow_right (by decide) hj))
theorem EY (j:Nat):tb 0 j=false:=Nat.zero_testBit j
theorem ub0:Ub 0:=⟨by decide,by decide⟩
theorem af3 {k:Ty} (he:∀ x y:k.den,k.om x y=true↔x=y) (m:List (k.den×Bool)) (h x:k.den):Go.dw.cZ k .bool (Go.dw.gM k .bool m h true) x=true↔(h=x∨Go.dw.cZ k .bool m x=true):=by
 unfold Go.dw.cZ
 have key:Go.dw.iE k .bool (Go.dw.gM k .bool m h true) x=some true∧h=x∨h≠x∧Go.dw.iE k .bool (Go.dw.gM k .bool m h true) x=Go.dw.iE k .bool m x:=by
  induction m with
  | nil=>
   simp only [Go.dw.gM,Go.dw.iE]
   cases hb:k.om h x with
   | true=>exact .inl ⟨rfl,(he _ _).1 hb⟩
   | false=>exact .inr ⟨fun e=>(by rw [(he _ _).2 e] at hb;cases hb),rfl⟩
  | cons p r ih=>
   simp only [Go.dw.gM]
   cases hb:k.om p.1 h with
   | true=>
    have e0:=(he _ _).1 hb;simp only [aQ,Go.dw.iE]
    cases ku:k.om h x with
    | true=>exact .inl ⟨rfl,(he _ _).1 ku⟩
    | false=>
     refine .inr ⟨fun e=>(by rw [(he _ _).2 e] at ku;cases ku),?_⟩
     rw [e0,ku];rfl
   | false=>
    simp only [bJ,Go.dw.iE]
    cases ku:k.om p.1 x with
    | true=>
     have e2:=(he _ _).1 ku
     refine .inr ⟨fun e=>?_,rfl⟩
     rw [←e] at e2;rw [(he _ _).2 e2] at hb;cases hb
    | false=>exact ih
 rcases key with ⟨h1,h2⟩ | ⟨h1,h2⟩
 ·rw [h1];simp [h2]
 ·rw [h2];simp [h1]
abbrev tgX:Ty:=.st 24 (.cons (.int .i64) (.cons (.int .i64) (.cons (.int .i64) .unit)))
theorem alX (x y:tgX.den):tgX.om x y=true↔x=y:=by
 obtain ⟨a,b,c,⟨⟩⟩:=x;obtain ⟨d,e,f,⟨⟩⟩:=y;show (decide (a=d)&&(decide (b=e)&&(decide (c=f)&&true)))=true↔_;simp only [Bool.and_true,dA,mX,gD,and_true]
section
variable {m:Nat} {g:To} {e:List Ad}
theorem K4.gd (he:K4 g e) {k:Nat} (h:k<e.length):e.getD k Ey∈e:=gK h
theorem alY (a:Ad):iA (pU a) (fun r=>r=(a.2,())):=by
 obtain ⟨a0,a1,a2,a3,⟨⟩⟩:=a;unfold pU aoL;exact ah rfl
theorem K4.ad (hg:gQ m g) (he:K4 g e) {a:Ad} (ha:a∈e):(1≤a.2.1∧a.2.1≤99)∧(1≤a.2.2.2.1∧a.2.2.2.1≤99)∧(a.2.2.1=3∨a.2.2.1=1)∧(a.2.2.2.1=a.2.1↔a.2.2.1=3):=by
 have h1:=he.rin a ha;refine ⟨hg.rin _ h1.1,hg.rin _ h1.2,?_,?_⟩
 ·rcases he.kind a ha with h | h
  ·exact .inl h.1
  ·exact .inr h.1
 ·rcases he.kind a ha with h | ⟨h,c,hc,ec⟩
  ·exact ⟨fun _=>h.1,fun _=>h.2⟩
  ·have:=(hg.arc hc).2.2.2.2.2
   rw [ec] at this
   exact ⟨fun hh=>absurd hh.symm this,fun hh=>by omega⟩
def Sz (n:Int) (e:List Ad):Prop:=(n=64∨n=8)∧(e.length:Int)≤n
theorem t63 {n:Int} (hg:gQ m g) (he:K4 g e) (hn:Sz n e):iA (Nr (n,e,())) (fun r=>r=(0,())):=by
 have XW:=he.len;unfold Nr r63
 have hv:rQ n=true:=by rcases hn.1 with rfl | rfl<;>decide
 have hn2:=hn.2;simp only [hv,Bool.not_true,bJ]
 refine aj (P:=fun y=>y.1=false) ?_ fun y2 h2=>?_
 ·refine bH e.length (fun s=>s.1) (fun _=>True) rfl trivial ?_
  rintro ⟨i,⟨⟩⟩ k hk hle -;obtain rfl:i=k:=hk;unfold aa5;simp only [fQ,jd]
  refine aF (fun c=>aK (by omega) c ?_) fun c=>ah rfl
  have c:(k:Int)<(e.length:Int):=c
  have gI:k<e.length:=by omega
  have hb:=he.bit k gI;have ha:=he.ad hg (he.gd gI)
  have c1:¬ (e.getD k Ey).1<0:=by omega
  have c2:¬ (e.getD k Ey).1≥n:=by omega
  rw [dF c1,dF c2];simp only [Bool.not_false,aQ]
  refine aj (P:=fun y=>y=(false,())) (aj (acE _ ha.1) fun y hy=>?_) fun y hy=>?_
  ·subst hy
   simp only [Bool.not_true,Bool.not_false,aQ]
   exact aj (acE _ ha.2.1) fun y hy=>by subst hy;exact ah rfl
  ·subst hy
   exact ah ⟨by omega,dn (by omega),trivial⟩
 rw [h2];simp only [bJ]
 refine aj (P:=fun y=>y.1=false) ?_ fun y3 h3=>?_
 ·refine bH e.length (fun s=>s.1) (fun _=>True) rfl trivial ?_
  rintro ⟨i,⟨⟩⟩ k hk hle -;obtain rfl:i=k:=hk;unfold aa6;simp only [fQ,jd]
  refine aF (fun c=>aK (by omega) c ?_) fun c=>ah rfl
  have c:(k:Int)<(e.length:Int):=c
  have ha:=(he.ad hg (he.gd (show k<e.length by omega))).2.2.1
  have c1:¬ (e.getD k Ey).2.2.1<1:=by omega
  have c2:¬ (e.getD k Ey).2.2.1>3:=by omega
  rw [dF c1];simp only [Bool.not_false,aQ,qB];rw [dF c2]
  exact ah ⟨by omega,dn (by omega),trivial⟩
 rw [h3];simp only [bJ]
 refine aj (P:=fun y=>y.1=false) ?_ fun y4 h4=>?_
 ·refine bH e.length (fun s=>s.1) (fun _=>True) rfl trivial ?_
  rintro ⟨i,⟨⟩⟩ k hk hle -;obtain rfl:i=k:=hk;unfold aa7;simp only [fQ,jd]
  refine aF (fun c=>aK (by omega) c ?_) fun c=>ah rfl
  have c:(k:Int)<(e.length:Int):=c
  have ha:=(he.ad hg (he.gd (show k<e.length by omega))).2.2.2
  refine eH (fun c2=>absurd ?_ c2) fun c2=>ah ⟨by omega,dn (by omega),trivial⟩
  exact decide_eq_decide.2 ha
 rw [h4];simp only [bJ]
 refine aj (P:=fun y=>y.1=false) ?_ fun y5 h5=>?_
 ·refine iq (fun s=>1≤s.1∧s.1≤70) (fun s=>70-s.1.toNat) ⟨Int.le_refl _,by simp⟩ ?_
  rintro ⟨i,⟨⟩⟩ ⟨i1,i2⟩;have i1:1≤i:=i1;have i2:i≤70:=i2;unfold aa8;simp only [fQ]
  refine aF (fun c=>?_) fun c=>ah rfl
  have c:i<(e.length:Int):=c
  have e1:aR (i-1)=i-1:=by rw [jc];omega
  have e2:aR (i+1)=i+1:=by rw [jc];omega
  rw [e1,e2]
  have b1:=he.bit (i-1).toNat (by omega)
  have b2:=he.bit i.toNat (by omega)
  refine aK (by omega) (by omega) (aK (by omega) (by omega) (aF (fun c2=>absurd c2 ?_) fun c2=>ah ⟨⟨by show 1≤i+1;omega,by show i+1≤70;omega⟩,by show 70-(i+1).toNat<70-i.toNat;omega⟩))
  rw [b1,b2];omega
 rw [h5];simp only [bJ]
 refine aj (P:=fun y=>y.1=false) ?_ fun y6 h6=>by rw [h6];exact ah rfl
 refine bH e.length (fun s=>s.2.1) (fun s=>∀ t,Go.dw.cZ tgX .bool s.1 t=true→t∈(e.take s.2.1.toNat).map fun a=>a.2) rfl (fun t h=>(by cases h)) ?_
 rintro ⟨M,i,⟨⟩⟩ k hk hle hI;obtain rfl:i=k:=hk
 have hI:∀ t,Go.dw.cZ tgX .bool M t=true→t∈(e.take k).map fun a=>a.2:=hI
 unfold aa9;simp only [fQ,jd]
 refine aF (fun c=>aK (by omega) c (aj (alY _) fun y2 h2=>?_)) fun c=>ah rfl
 have c:(k:Int)<(e.length:Int):=c
 have gI:k<e.length:=by omega
 have eE:e.getD k Ey=e[k]:=by rw [iW,iw gI];rfl
 rw [eE] at h2 ⊢;subst h2
 have Le:Go.dw.cZ tgX .bool M e[k].2=false:=by
  cases hb:Go.dw.cZ tgX .bool M e[k].2 with
  | false=>rfl
  | true=>
   exfalso;have h1:=hI _ hb;obtain ⟨j,hj,ej⟩:=List.getElem_of_mem h1
   have nR:j<k∧j<e.length:=by simp at hj;omega
   have J3:=List.pairwise_iff_getElem.1 he.nd j k (by simp;omega) (by simp;omega) nR.1
   simp only [List.getElem_map,List.getElem_take] at ej J3;exact J3 ej
 show iA (bif Go.dw.cZ tgX .bool M e[k].2 then _ else _) _
 rw [Le];simp only [bJ]
 refine aj (alY _) fun y3 h3=>?_
 subst h3
 refine ah ⟨by omega,dn (by omega),fun t ht=>?_⟩
 show t∈(e.take (aR ((k:Int)+1)).toNat).map fun a=>a.2
 rw [show (aR ((k:Int)+1)).toNat=k+1 from by rw [dn (by omega)];omega,List.take_add_one,iw gI,vO]
 rcases (af3 alX M e[k].2 t).1 ht with h | h
 ·subst h
  exact List.mem_append_right _ (by simp)
 ·exact List.mem_append_left _ (hI t h)
def iZ (e:List Ad) (k:Nat):Tg:=(e.getD k Ey).2
theorem K4.Nc (he:K4 g e) {j k:Nat} (hj:j<e.length) (hk:k<e.length) (h:iZ e j=iZ e k):j=k:=by
 rcases Nat.lt_trichotomy j k with h1 | h1 | h1
 ·exfalso
  have:=List.pairwise_iff_getElem.1 he.nd j k (by simpa using hj) (by simpa using hk) h1
  simp only [List.getElem_map] at this;unfold iZ at h;rw [iW,iw hj,iW,iw hk] at h;exact this h
 ·exact h1
 ·exfalso
  have:=List.pairwise_iff_getElem.1 he.nd k j (by simpa using hk) (by simpa using hj) h1
  simp only [List.getElem_map] at this;unfold iZ at h;rw [iW,iw hj,iW,iw hk] at h;exact this h.symm
theorem Ig {t:Tg} (h:t∈e.map fun a=>a.2):∃ k,k<e.length∧iZ e k=t:=by
 obtain ⟨a,ha,rfl⟩:=List.mem_map.1 h;obtain ⟨k,hk,rfl⟩:=List.getElem_of_mem ha
 exact ⟨k,hk,by unfold iZ;rw [iW,iw hk];rfl⟩
theorem t156 (a:Ad) (t:Tg):iA (ae5 a t) (fun r=>r=(decide (a.2=t),())):=by
 obtain ⟨a0,a1,a2,a3,⟨⟩⟩:=a;obtain ⟨t1,t2,t3,⟨⟩⟩:=t;unfold ae5 aoN
 refine aj (alY _) fun y hy=>?_
 subst hy;refine ah ?_;simp only [Bool.and_true,←Bool.decide_and,gD,and_true]
theorem asl (he:K4 g e) {k:Nat} (hk:k<e.length):iA (U5 e (iZ e k)) (fun r=>r=((k:Int),())):=by
 have XW:=he.len;generalize ht:iZ e k=t;obtain ⟨t1,t2,t3,⟨⟩⟩:=t;unfold U5 agG
 refine aj (P:=fun y=>y=(true,((k:Int),()),())) ?_ fun y hy=>by subst hy;exact ah rfl
 refine bH (k+1) (fun s=>s.1) (fun s=>s.1≤(k:Int)) rfl (by show (0:Int)≤(k:Int);omega) ?_
 rintro ⟨i,⟨⟩⟩ j hj hle hI;obtain rfl:i=j:=hj;have hI:(j:Int)≤(k:Int):=hI;unfold PD;simp only [fQ,jd]
 refine aF (fun c=>aK (by omega) c (aj (t156 _ _) fun y5 h5=>?_)) fun c=>absurd (show (j:Int)<(e.length:Int) by omega) c
 subst h5
 refine aF (fun c2=>ah ?_) fun c2=>ah ⟨by omega,dn (by omega),?_⟩
 ·have:j=k:=he.Nc (by omega) hk (by rw [ht];exact c2)
  subst this;rfl
 ·show aR ((j:Int)+1)≤(k:Int)
  have:j≠k:=fun h=>c2 (by subst h;exact ht)
  rw [dn (by omega)];omega
theorem t88 {n:Int} (he:K4 g e) {k:Nat} (hk:k<e.length):iA (Ns (n,e,()) (iZ e k)) (fun r=>r=(((k:Int),true,()),())):=by
 have hb:=he.bit k hk;unfold Ns r88
 refine aj (asl he hk) fun y hy=>?_
 subst hy
 have c:¬ (k:Int)<0:=by omega
 simp only;rw [dF c];simp only [bJ,fQ]
 refine aK (by omega) (by omega) (ah ?_)
 rw [jd,hb]
theorem axu:iA (Nq [0,0]) (fun r=>r=(0,())):=by
 unfold Nq r84
 refine aj (P:=fun y=>y.1=false) ?_ fun y hy=>by rw [hy];exact ah rfl
 refine bH 2 (fun s=>s.1) (fun _=>True) rfl trivial ?_
 rintro ⟨i,⟨⟩⟩ k hk hle -;obtain rfl:i=k:=hk;unfold aa0;simp only [fQ,jd]
 refine aF (fun c=>aK (by omega) c ?_) fun c=>ah rfl
 have c:(k:Int)<2:=c
 have hz:([0,0]:List Int).getD k 0=0:=by
  match k,(show k<2 by omega) with
  | 0,_=>rfl
  | 1,_=>rfl
 exact eH (fun c2=>absurd hz c2) fun c2=>ah ⟨by omega,dn (by omega),trivial⟩
def jT (rcv:List Int) (L:List Hp):List Tg:=rcv.map (fun r=>(r,3,r,()))++L.map fun h=>(h.1,1,h.2)
theorem t34 {n:Int} (hg:gQ m g) (hm:m≤7) (he:K4 g e) (hn:Sz n e) {root:Int} {L:List Hp} {rcv:List Int} (ht:uy root L) (ha:∀ h∈L,∃ a∈g.2.1.flatMap dV,a.1=h) (hup:rcv.Pairwise (· < ·)) (hl:rcv.length≤6) (hid:∀ r∈rcv,r∈ids g) (hr:∀ r∈rcv,r∈kr root L) :
 iA (PE (n,e,()) (root,L,()) rcv) (fun y=>∃ b,y=((b,0,()),())∧Ub b∧∀ k,tb b k=decide (k<e.length∧iZ e k∈jT rcv L)):=by
 have hlen:=ht.len;have XW:=he.len;unfold PE r34
 refine aj (t63 hg he hn) fun y5 h5=>?_
 subst h5
 refine aj (t85 ht) fun y6 h6=>?_
 subst h6
 refine aj axu fun y7 h7=>?_
 subst h7
 refine eH (fun c=>absurd rfl c) fun _=>aj (P:=fun y=>y.1=false) ?_ fun y8 h8=>?_
 ·refine iq (fun s=>1≤s.1∧s.1≤10) (fun s=>10-s.1.toNat) ⟨Int.le_refl _,by simp⟩ ?_
  rintro ⟨i,⟨⟩⟩ ⟨i1,i2⟩;have i1:1≤i:=i1;have i2:i≤10:=i2;unfold abd;simp only [fQ]
  refine aF (fun c=>?_) fun c=>ah rfl
  have c:i<(rcv.length:Int):=c
  have e1:aR (i-1)=i-1:=by rw [jc];omega
  have e2:aR (i+1)=i+1:=by rw [jc];omega
  rw [e1,e2]
  refine aK (by omega) (by omega) (aK (by omega) (by omega) (aF (fun c2=>absurd c2 ?_) fun c2=>ah ⟨⟨by show 1≤i+1;omega,by show i+1≤10;omega⟩,by show 10-(i+1).toNat<10-i.toNat;omega⟩))
  have q1:(i-1).toNat<rcv.length:=by omega
  have q2:i.toNat<rcv.length:=by omega
  have:=List.pairwise_iff_getElem.1 hup (i-1).toNat i.toNat q1 q2 (by omega)
  rw [iW,iw q1,iW,iw q2];simp only [sw];omega
 rw [h8];simp only [bJ]
 refine aj (t86 ht) fun y9 h9=>?_
 subst h9
 have J3:(root::L.map fun x=>x.2.1).Nodup:=ht.nd
 have axv:upI (fF (root::L.map fun x=>x.2.1))=true:=acF (Qm J3)
 refine aj (P:=fun y=>y.1=false∧y.2.2.1=rcv.map fun r=>(r,3,r,())) ?_ fun Mi QF=>?_
 ·refine bH rcv.length (fun s=>s.1) (fun s=>s.2.1=(rcv.take s.1.toNat).map fun r=>(r,3,r,())) rfl rfl ?_
  rintro ⟨i,o,⟨⟩⟩ k hk hle hI;obtain rfl:i=k:=hk
  have hI:o=(rcv.take k).map fun r=>(r,3,r,()):=hI
  unfold abe;simp only [fQ,jd]
  refine aF (fun c=>aK (by omega) c (aj (vF axv (Q:=fun r=>r=(bsI (fF (root::L.map fun x=>x.2.1)) (rcv.getD k 0),())) rfl) fun y3 h3=>?_)) fun c=>ah ⟨rfl,?_⟩
  ·have c:(k:Int)<(rcv.length:Int):=c
   have gI:k<rcv.length:=by omega
   have eE:rcv.getD k 0=rcv[k]:=by rw [iW,iw gI];rfl
   subst h3;rw [eE]
   have hh:aA.has (fF (root::L.map fun x=>x.2.1)) rcv[k]=true:=HZ.2 ((iV _).mem_iff.2 (hr _ (zG gI)))
   show iA (bif !aA.has (fF (root::L.map fun x=>x.2.1)) rcv[k] then _ else _) _
   rw [hh];simp only [Bool.not_true,bJ]
   have hol:o.length≤6:=by rw [hI,pJ,List.length_take];omega
   refine jF (by omega) (ah ⟨by omega,dn (by omega),?_⟩)
   show o++[(rcv[k],3,rcv[k],())]=(rcv.take (aR ((k:Int)+1)).toNat).map fun r=>(r,3,r,())
   rw [show (aR ((k:Int)+1)).toNat=k+1 from by rw [dn (by omega)];omega,List.take_add_one,iw gI,hI,vO]
   rfl
  ·have c:¬ (k:Int)<(rcv.length:Int):=c
   rw [List.take_of_length_le (by omega)] at hI
   exact hI
 obtain ⟨axw,alZ⟩:=QF;rw [axw];simp only [bJ]
 refine aj (P:=fun y=>y=(jT rcv L,())) ?_ fun y11 h11=>?_
 ·obtain ⟨b10,q10,l10,⟨⟩⟩:=Mi
  have alZ:l10=rcv.map fun r=>(r,3,r,()):=alZ
  refine bH L.length (fun s=>s.1) (fun s=>s.2.1=jT rcv (L.take s.1.toNat)) rfl (by show l10=jT rcv [];rw [alZ];simp [jT]) ?_
  rintro ⟨i,o,⟨⟩⟩ k hk hle hI;obtain rfl:i=k:=hk;have hI:o=jT rcv (L.take k):=hI;unfold abf;simp only [fQ,jd]
  refine aF (fun c=>aK (by omega) c ?_) fun c=>ah ?_
  ·have c:(k:Int)<(L.length:Int):=c
   have gI:k<L.length:=by omega
   have eE:L.getD k (0,0,())=L[k]:=by rw [iW,iw gI];rfl
   have hol:o.length≤120:=by
    rw [hI];simp only [jT,nP,pJ,List.length_take];omega
   refine jF (by omega) (ah ⟨by omega,dn (by omega),?_⟩)
   rw [eE];show o++[(L[k].1,1,L[k].2)]=jT rcv (L.take (aR ((k:Int)+1)).toNat)
   rw [show (aR ((k:Int)+1)).toNat=k+1 from by rw [dn (by omega)];omega,List.take_add_one,iw gI,hI]
   unfold jT;rw [vO,←List.append_assoc];rfl
  ·have c:¬ (k:Int)<(L.length:Int):=c
   rw [List.take_of_length_le (by omega)] at hI
   show (o,())=_;rw [hI]
 subst h11
 have asn:∀ t∈jT rcv L,∃ k,k<e.length∧iZ e k=t:=fun t Dg=>by
  unfold jT at Dg
  rcases List.mem_append.1 Dg with h | h
  ·obtain ⟨r,Nf,rfl⟩:=List.mem_map.1 h
   exact Ig (he.dl r (hid r Nf))
  ·obtain ⟨x,hx,rfl⟩:=List.mem_map.1 h
   obtain ⟨a,hA,rfl⟩:=ha x hx;exact Ig (he.lk a hA)
 have hnl:(jT rcv L).length≤200:=by simp only [jT,nP,pJ];omega
 refine aj (P:=fun y=>y.1=false∧Ub y.2.2.1∧∀ k,tb y.2.2.1 k=decide (k<e.length∧iZ e k∈jT rcv L)) ?_ fun y12 h12=>?_
 ·refine bH (jT rcv L).length (fun s=>s.2.2.1) (fun s=>s.1=jT rcv L∧Ub s.2.1∧∀ k,tb s.2.1 k=decide (k<e.length∧iZ e k∈(jT rcv L).take s.2.2.1.toNat)) rfl ⟨rfl,ub0,fun k=>by rw [EY];exact (d9 (by simp)).symm⟩ ?_
  rintro ⟨o,b,i,⟨⟩⟩ k hk hle ⟨i1,i2,i3⟩;obtain rfl:i=k:=hk;have i1:o=jT rcv L:=i1;subst i1;have i2:Ub b:=i2
  have i3:∀ j,tb b j=decide (j<e.length∧iZ e j∈(jT rcv L).take k):=i3
  unfold abg;simp only [fQ,jd]
  refine aF (fun c=>?_) fun c=>ah ⟨rfl,i2,?_⟩
  ·have c:(k:Int)<((jT rcv L).length:Int):=c
   have gI:k<(jT rcv L).length:=by omega
   have eE:(jT rcv L).getD k (0,0,0,())=(jT rcv L)[k]:=by rw [iW,iw gI];rfl
   obtain ⟨j,hj,ej⟩:=asn _ (zG gI)
   refine aK (by omega) c (iI (by omega) ?_)
   rw [eE,←ej]
   refine aj (t88 he hj) fun y4 h4=>?_
   subst h4;simp only [Bool.not_true,bJ]
   obtain ⟨o1,o2⟩:=or1 (k:=j) i2 (by omega)
   refine mW (bL (by omega)) (ah ⟨by omega,dn (by omega),rfl,?_,fun q=>?_⟩)
   ·rw [jd];exact o1
   ·show tb (IntKind.wrap .u64 (Int.ofNat (BitVec.toNat (BitVec.or (BitVec.ofInt 64 b) (BitVec.ofInt 64 (IntKind.wrap .u64 ((1:Int)*Int.pow 2 (min (Int.toNat (j:Int)) 64)))))))) q=decide (q<e.length∧iZ e q∈(jT rcv L).take (aR ((k:Int)+1)).toNat)
    rw [jd,o2,i3 q,show (aR ((k:Int)+1)).toNat=k+1 from by rw [dn (by omega)];omega,List.take_add_one,iw gI,←Bool.decide_or,decide_eq_decide]
    simp only [pV,Option.toList_some,List.mem_singleton];constructor
    ·rintro (⟨h,h2⟩ | h)
     ·exact ⟨h,.inl h2⟩
     ·subst h;exact ⟨hj,.inr ej⟩
    ·rintro ⟨hq,h | h⟩
     ·exact .inl ⟨hq,h⟩
     ·exact .inr (he.Nc hj hq (by rw [ej,h]))
  ·have c:¬ (k:Int)<((jT rcv L).length:Int):=c
   rw [List.take_of_length_le (by omega)] at i3
   exact i3
 ·rw [h12.1]
  simp only [bJ];exact ah ⟨_,rfl,h12.2⟩
abbrev pk0 (ttl:Int):Pk:=(0,0,0,0,ttl,0,0,0,0,[],())
abbrev DV (n ttl b:Int):Pk:=(2,0,0,n,ttl,0,0,0,b,[],())
theorem ag9 {n ttl b:Int} (hn:Sz n e) (h1:0≤ttl∧ttl≤63) (h2:Ub b) (h3:∀ k,tb b k=true→k<e.length):mD (DV n ttl b)=true:=by
 unfold mD
 have e1:vB b n=true:=by
  unfold vB;rw [dA]
  refine ⟨by rcases hn.1 with rfl | rfl<;>decide,bL ?_⟩
  have h4:b.toNat<2 ^ n.toNat:=Nat.lt_pow_two_of_testBit _ fun i hi=>by
   cases hb:b.toNat.testBit i with
   | false=>rfl
   | true=>
    have:=h3 i hb;have:=hn.2;omega
  have h5:((2 ^ n.toNat:Nat):Int)=2 ^ n.toNat:=Int.natCast_pow ..;have:=h2.1;omega
 have e2:aA.inside ttl 0 63=true:=nD.2 h1;show (aA.inside 2 1 3&&aA.inside 0 0 7&&aA.inside 0 0 31&&vB b n&&aA.inside ttl 0 63&&aA.inside 0 0 1023&&aA.inside 0 0 256&&aA.inside 0 0 7&&decide (([]:List Int).length≤64))=true;rw [e1,e2]
 decide
theorem t11 {n ttl:Int} (hg:gQ m g) (hm:m≤7) (he:K4 g e) (hn:Sz n e) (htl:0≤ttl∧ttl≤63) {root:Int} {L:List Hp} {rcv:List Int} (ht:uy root L) (ha:∀ h∈L,∃ a∈g.2.1.flatMap dV,a.1=h) (hup:rcv.Pairwise (· < ·)) (hl:rcv.length≤6) (hid:∀ r∈rcv,r∈ids g) (hr:∀ r∈rcv,r∈kr root L) :
 iA (x11 (n,e,()) (root,L,()) rcv (pk0 ttl)) (fun y=>∃ b,y=((DV n ttl b,0,()),())∧Ub b∧∀ k,tb b k=decide (k<e.length∧iZ e k∈jT rcv L)):=by
 unfold x11 r11
 refine aj (t34 hg hm he hn ht ha hup hl hid hr) fun y hy=>?_
 obtain ⟨b,rfl,hb,ku⟩:=hy
 refine eH (fun c=>absurd rfl c) fun _=>?_
 have hv:mD (DV n ttl b)=true:=ag9 hn htl hb fun k hk=>by
  rw [ku,mX] at hk;exact hk.1
 refine bX (fun c=>?_) fun c=>ah ⟨b,rfl,hb,ku⟩
 exfalso;have c:(!mD (DV n ttl b))=true:=c;rw [hv] at c;cases c
end
def Bit (e:List Ad) (b:Int) (P:Nat→Prop):Prop:=Ub b∧∀ k,tb b k=true↔k<e.length∧P k
section
variable {m:Nat} {g:To} {e:List Ad}
theorem Bit.congr {b:Int} {P Q:Nat→Prop} (h:Bit e b P) (hq:∀ k,k<e.length→(P k↔Q k)):Bit e b Q:=⟨h.1,fun k=>(h.2 k).trans ⟨fun ⟨a,c⟩=>⟨a,(hq k a).1 c⟩,fun ⟨a,c⟩=>⟨a,(hq k a).2 c⟩⟩⟩
theorem Bit.zero {b:Int} {P:Nat→Prop} (h:Bit e b P):b=0↔∀ k,k<e.length→¬ P k:=by
 constructor
 ·rintro rfl k hk hp
  have:=(h.2 k).2 ⟨hk,hp⟩;rw [EY] at this;cases this
 ·intro hn
  have e0:b.toNat=0:=Nat.eq_of_testBit_eq fun j=>by
   rw [Nat.zero_testBit]
   cases hb:b.toNat.testBit j with
   | false=>rfl
   | true=>
    have:=(h.2 j).1 hb;exact absurd this.2 (hn j this.1)
  have:=h.1.1;omega
theorem axx {n:Int} (hg:gQ m g) (he:K4 g e) (hn:Sz n e) (v:Int):iA (rU (n,e,()) v) (fun r=>∃ own,r=(own,())∧Bit e own fun k=>(iZ e k).1=v):=by
 have XW:=he.len;unfold rU aoM
 refine aj (t63 hg he hn) fun y3 h3=>?_
 subst h3
 refine aj (P:=fun y=>∃ own,y=(own,())∧Bit e own fun k=>(iZ e k).1=v) ?_ fun y hy=>?_
 ·refine aF (fun _=>aj (P:=fun y=>∃ own,y=(own,())∧Bit e own fun k=>(iZ e k).1=v) ?_ fun y hy=>ah hy) fun c=>absurd rfl c
  refine bH e.length (fun s=>s.2.1) (fun s=>Ub s.1∧∀ k,tb s.1 k=true↔(k<e.length∧(k:Int)<s.2.1)∧(iZ e k).1=v) rfl ⟨ub0,fun k=>⟨fun h=>absurd h (by rw [show tb (0,(0,())).1 k=false from EY k];exact Bool.false_ne_true),fun h=>absurd (show (k:Int)<0 from h.1.2) (by omega)⟩⟩ ?_
  rintro ⟨b,i,⟨⟩⟩ k hk hle ⟨i1,i2⟩;obtain rfl:i=k:=hk;have i1:Ub b:=i1
  have i2:∀ j:Nat,tb b j=true↔(j<e.length∧(j:Int)<(k:Int))∧(iZ e j).1=v:=i2
  unfold U4;simp only [fQ,jd]
  refine aF (fun c=>aK (by omega) c ?_) fun c=>ah ⟨b,rfl,i1,fun j=>?_⟩
  ·have c:(k:Int)<(e.length:Int):=c
   have gI:k<e.length:=by omega
   have hb:=he.bit k gI
   have ek:aR ((k:Int)+1)=(k:Int)+1:=dn (by omega)
   refine aj (P:=fun y=>Ub y.1∧∀ j:Nat,tb y.1 j=true↔(j<e.length∧(j:Int)<(k:Int)+1)∧(iZ e j).1=v) (aF (fun c2=>mW (bL (by rw [hb];omega)) (ah ?_)) fun c2=>ah ⟨i1,fun j=>?_⟩) fun y hy=>ah ⟨gI,ek,hy.1,fun j=>?_⟩
   ·have eb:Int.toNat (e.getD k Ey).1=k:=by rw [hb];rfl
    rw [eb]
    obtain ⟨o1,o2⟩:=or1 (k:=k) i1 (by omega)
    refine ⟨o1,fun j=>?_⟩
    show tb (IntKind.wrap .u64 (Int.ofNat (BitVec.toNat (BitVec.or (BitVec.ofInt 64 b) (BitVec.ofInt 64 (IntKind.wrap .u64 ((1:Int)*Int.pow 2 (min k 64)))))))) j=true↔_;rw [o2,Bool.or_eq_true,mX,i2 j];constructor
    ·rintro (⟨⟨h1,h2⟩,h3⟩ | h)
     ·exact ⟨⟨h1,by omega⟩,h3⟩
     ·subst h;exact ⟨⟨gI,by omega⟩,c2⟩
    ·rintro ⟨⟨h1,h2⟩,h3⟩
     by_cases PO:k=j
     ·exact .inr PO
     ·exact .inl ⟨⟨h1,by omega⟩,h3⟩
   ·rw [show tb (b,()).1 j=tb b j from rfl,i2 j]
    constructor
    ·rintro ⟨⟨h1,h2⟩,h3⟩;exact ⟨⟨h1,by omega⟩,h3⟩
    ·rintro ⟨⟨h1,h2⟩,h3⟩
     by_cases PO:j=k
     ·subst PO;exact absurd h3 c2
     ·exact ⟨⟨h1,by omega⟩,h3⟩
   ·show tb y.1 j=true↔(j<e.length∧(j:Int)<aR ((k:Int)+1))∧(iZ e j).1=v
    rw [ek];exact hy.2 j
  ·have c:¬ (k:Int)<(e.length:Int):=c
   rw [i2 j];constructor
   ·rintro ⟨⟨h1,h2⟩,h3⟩;exact ⟨h1,h3⟩
   ·rintro ⟨h1,h3⟩;exact ⟨⟨h1,by omega⟩,h3⟩
 ·exact ah hy
def sends (e:List Ad) (b v:Int):List Ad:=e.filter fun a=>decide (a.2.1=v)&&decide (a.2.2.1=1)&&tb b a.1.toNat
def sn (n ttl rest:Int) (a:Ad):Sn:=(a,(a.2.2.2.1,([],DV n ttl rest,()),()),())
theorem t65 {n:Int} (hg:gQ m g) (he:K4 g e) (hn:Sz n e) (v:Int) {ttl b:Int} {P:Nat→Prop} (htt:1≤ttl∧ttl≤63) (hb:Bit e b P) :
 iA (Nt (n,e,()) v (DV n ttl b)) (fun r=>∃ loc Yk rest,r=(((loc,0,Yk,()),(bif decide (rest=0) then [] else (sends e b v).map (sn n (ttl-1) rest)),()),())∧Bit e loc (fun k=>P k∧(iZ e k).1=v∧(iZ e k).2.1=3)∧Bit e rest (fun k=>P k∧(iZ e k).1≠v)):=by
 have XW:=he.len;unfold Nt r65
 refine aj (axx hg he hn v) fun y13 h13=>?_
 obtain ⟨own,rfl,fP⟩:=h13;obtain ⟨a1,a2⟩:=aox hb.1 fP.1;generalize hrr:IntKind.wrap .u64 (Int.ofNat (BitVec.toNat (BitVec.and (BitVec.ofInt 64 b) (BitVec.not (BitVec.ofInt 64 own)))))=rest at a1 a2
 have K5:Bit e rest (fun k=>P k∧(iZ e k).1≠v):=⟨a1,fun k=>by
  by_cases hk:k<64
  ·rw [a2 k hk,dA,hb.2 k,Bool.not_eq_true']
   constructor
   ·rintro ⟨⟨h1,h2⟩,h3⟩
    refine ⟨h1,h2,fun h4=>?_⟩
    have:=(fP.2 k).2 ⟨h1,h4⟩;rw [this] at h3;cases h3
   ·rintro ⟨h1,h2,h3⟩
    refine ⟨⟨h1,h2⟩,?_⟩
    cases ho:tb own k with
    | false=>rfl
    | true=>exact absurd ((fP.2 k).1 ho).2 h3
  ·rw [af2 a1 (by omega)]
   exact ⟨fun h=>absurd h Bool.false_ne_true,fun h=>absurd h.1 (by omega)⟩⟩
 refine aj (P:=fun y=>y.1=(bif decide (rest=0) then [] else (sends e b v).map (sn n (ttl-1) rest))∧y.2.1.2.1=0∧Bit e y.2.1.1 (fun k=>P k∧(iZ e k).1=v∧(iZ e k).2.1=3)) ?_ fun y14 h14=>?_
 ·refine bH e.length (fun s=>s.1) (fun s=>s.2.1=(bif decide (rest=0) then [] else (sends (e.take s.1.toNat) b v).map (sn n (ttl - 1) rest))∧s.2.2.1.2.1=0∧s.2.2.1.2.2.1.length≤s.1.toNat∧Ub s.2.2.1.1∧∀ k,tb s.2.2.1.1 k=true↔(k<e.length∧(k:Int)<s.1)∧P k∧(iZ e k).1=v∧(iZ e k).2.1=3) rfl
   ⟨by show []=_;cases decide (rest=0)<;>rfl,rfl,bT _,ub0,fun k=>⟨fun h=>absurd h (by rw [show tb ((0:Int),((0:Int),(([]:List Cp),()))).1 k=false from EY k];exact Bool.false_ne_true),fun h=>absurd (show (k:Int)<0 from h.1.2) (by omega)⟩⟩ ?_
  rintro ⟨i,sl,⟨loc,lost,Yk,⟨⟩⟩,⟨⟩⟩ k hk hle ⟨i1,i2,i3,i4,i5⟩;obtain rfl:i=k:=hk
  have j1:sl=(bif decide (rest=0) then [] else (sends (e.take k) b v).map (sn n (ttl-1) rest)):=i1
  obtain rfl:lost=0:=i2;have i3:Yk.length≤k:=i3;have i4:Ub loc:=i4
  have i5:∀ j:Nat,tb loc j=true↔(j<e.length∧(j:Int)<(k:Int))∧P j∧(iZ e j).1=v∧(iZ e j).2.1=3:=i5
  have kW:sl.length≤k:=by
   rw [j1]
   cases decide (rest=0) with
   | true=>simp
   | false=>
    simp only [bJ,pJ]
    exact gX (List.length_filter_le _ _) (by rw [List.length_take];omega)
  unfold abj;simp only [fQ,jd]
  refine aF (fun c=>aK (by omega) c ?_) fun c=>ah ⟨?_,rfl,i4,fun j=>?_⟩
  ·have c:(k:Int)<(e.length:Int):=c
   have gI:k<e.length:=by omega
   have PX:=he.bit k gI;have aBF:=(he.ad hg (he.gd gI)).2.2.1
   have eb:Int.toNat (e.getD k Ey).1=k:=by rw [PX];rfl
   have ek:aR ((k:Int)+1)=(k:Int)+1:=dn (by omega)
   have CU:(aR ((k:Int)+1)).toNat=k+1:=by rw [ek];omega
   have eE:e.getD k Ey=e[k]:=by rw [iW,iw gI];rfl
   have etk:sends (e.take (k+1)) b v=sends (e.take k) b v++(bif decide ((iZ e k).1=v)&&decide ((iZ e k).2.1=1)&&tb b k then [e.getD k Ey] else []):=by
    unfold sends iZ;rw [List.take_add_one,iw gI,List.filter_append,eE]
    congr 1
    simp only [Option.toList_some,List.filter_cons,List.filter_nil];rw [eE] at eb;rw [eb]
    cases (decide (e[k].2.1=v)&&decide (e[k].2.2.1=1)&&tb b k)<;>rfl
   -- where nothing is sent and nothing delivered
   have skip:¬ ((iZ e k).1=v∧P k)→Cnt (ρ:=List Sn×Oc×Unit) e.length (fun s:Int×List Sn×Oc×Unit=>s.1) (fun s=>s.2.1=(bif decide (rest=0) then [] else (sends (e.take s.1.toNat) b v).map (sn n (ttl-1) rest))∧s.2.2.1.2.1=0∧s.2.2.1.2.2.1.length≤s.1.toNat∧Ub s.2.2.1.1∧∀ k,tb s.2.2.1.1 k=true↔(k<e.length∧(k:Int)<s.1)∧P k∧(iZ e k).1=v∧(iZ e k).2.1=3) k (fun y=>y.1=(bif decide (rest=0) then [] else (sends e b v).map (sn n (ttl-1) rest))∧y.2.1.2.1=0∧Bit e y.2.1.1 (fun k=>P k∧(iZ e k).1=v∧(iZ e k).2.1=3)) (.inl (aR ((k:Int)+1),sl,(loc,0,Yk,()),())):=by
    intro Le
    refine ⟨gI,ek,?_,rfl,?_,i4,fun j=>?_⟩
    ·show sl=(bif decide (rest=0) then [] else (sends (e.take (aR ((k:Int)+1)).toNat) b v).map (sn n (ttl-1) rest))
     rw [CU,etk,j1]
     have hz:(decide ((iZ e k).1=v)&&decide ((iZ e k).2.1=1)&&tb b k)=false:=by
      cases xq:tb b k with
      | false=>rw [Bool.and_false]
      | true=>
       have:=((hb.2 k).1 xq).2
       rw [dF (show ¬ (iZ e k).1=v from fun h=>Le ⟨h,this⟩)];rfl
     rw [hz,bJ,List.append_nil]
    ·show Yk.length≤(aR ((k:Int)+1)).toNat
     rw [CU];omega
    ·show tb loc j=true↔(j<e.length∧(j:Int)<aR ((k:Int)+1))∧P j∧(iZ e j).1=v∧(iZ e j).2.1=3
     rw [ek,i5 j];constructor
     ·rintro ⟨⟨h1,h2⟩,h3⟩;exact ⟨⟨h1,by omega⟩,h3⟩
     ·rintro ⟨⟨h1,h2⟩,h3⟩
      by_cases PO:j=k
      ·subst PO;exact absurd ⟨h3.2.1,h3.1⟩ Le
      ·exact ⟨⟨h1,by omega⟩,h3⟩
   refine mW (bL (by rw [PX];omega)) (aj (P:=fun y=>y=(!(decide ((iZ e k).1=v)&&tb b k),())) ?_ fun y14 h14=>?_)
   ·by_cases hv:(iZ e k).1=v
    ·have Ll:(e.getD k Ey).2.1=v:=hv
     rw [dT Ll,dT hv];simp only [Bool.not_true,Bool.not_false,aQ,Bool.true_and];refine ah ?_
     have q1:=and1 (k:=k) hb.1 (by omega)
     simp only [fQ] at q1;simp only [eb];rw [q1]
    ·have Ll:¬ (e.getD k Ey).2.1=v:=hv
     rw [dF Ll,dF hv];exact ah rfl
   ·subst h14
    cases hgo:(decide ((iZ e k).1=v)&&tb b k) with
    | false=>
     simp only [Bool.not_false,aQ]
     refine ah (skip fun ⟨h1,h2⟩=>?_)
     rw [dT h1,(hb.2 k).2 ⟨gI,h2⟩] at hgo;cases hgo
    | true=>
     rw [dA,mX] at hgo;have hPk:=((hb.2 k).1 hgo.2).2;simp only [Bool.not_true,bJ]
     refine aj (P:=fun y=>Cnt (ρ:=List Sn×Oc×Unit) e.length (fun s:Int×List Sn×Oc×Unit=>s.1) (fun s=>s.2.1=(bif decide (rest=0) then [] else (sends (e.take s.1.toNat) b v).map (sn n (ttl-1) rest))∧s.2.2.1.2.1=0∧s.2.2.1.2.2.1.length≤s.1.toNat∧Ub s.2.2.1.1∧∀ k,tb s.2.2.1.1 k=true↔(k<e.length∧(k:Int)<s.1)∧P k∧(iZ e k).1=v∧(iZ e k).2.1=3) k (fun y=>y.1=(bif decide (rest=0) then [] else (sends e b v).map (sn n (ttl-1) rest))∧y.2.1.2.1=0∧Bit e y.2.1.1 (fun k=>P k∧(iZ e k).1=v∧(iZ e k).2.1=3)) (.inl (aR ((k:Int)+1),y))) ?_ fun y hy=>ah hy
     by_cases hk3:(e.getD k Ey).2.2.1=3
     ·rw [dT hk3]
      simp only [aQ]
      have Zi:¬ (iZ e k).2.1=1:=by show ¬ (e.getD k Ey).2.2.1=1;omega
      refine ah ⟨gI,ek,?_,rfl,?_,?_⟩
      ·show sl=(bif decide (rest=0) then [] else (sends (e.take (aR ((k:Int)+1)).toNat) b v).map (sn n (ttl-1) rest))
       rw [CU,etk,j1,dF Zi,Bool.and_false,Bool.false_and,bJ,List.append_nil]
      ·show Yk.length≤(aR ((k:Int)+1)).toNat
       rw [CU];omega
      ·rw [eb]
       obtain ⟨o1,o2⟩:=or1 (k:=k) i4 (by omega)
       refine ⟨o1,fun j=>?_⟩
       show tb (IntKind.wrap .u64 (Int.ofNat (BitVec.toNat (BitVec.or (BitVec.ofInt 64 loc) (BitVec.ofInt 64 (IntKind.wrap .u64 ((1:Int)*Int.pow 2 (min k 64)))))))) j=true↔(j<e.length∧(j:Int)<aR ((k:Int)+1))∧P j∧(iZ e j).1=v∧(iZ e j).2.1=3;rw [o2,Bool.or_eq_true,mX,i5 j,ek];constructor
       ·rintro (⟨⟨h1,h2⟩,h3⟩ | h)
        ·exact ⟨⟨h1,by omega⟩,h3⟩
        ·subst h;exact ⟨⟨gI,by omega⟩,hPk,hgo.1,hk3⟩
       ·rintro ⟨⟨h1,h2⟩,h3⟩
        by_cases PO:k=j
        ·exact .inr PO
        ·exact .inl ⟨⟨h1,by omega⟩,h3⟩
     ·rw [dF hk3]
      simp only [bJ]
      have Zi:(e.getD k Ey).2.2.1=1:=by omega
      have asq:∀ j:Nat,tb loc j=true↔(j<e.length∧(j:Int)<aR ((k:Int)+1))∧P j∧(iZ e j).1=v∧(iZ e j).2.1=3:=fun j=>by
       rw [ek,i5 j];constructor
       ·rintro ⟨⟨h1,h2⟩,h3⟩;exact ⟨⟨h1,by omega⟩,h3⟩
       ·rintro ⟨⟨h1,h2⟩,h3⟩
        by_cases PO:j=k
        ·subst PO;exact absurd h3.2.2 hk3
        ·exact ⟨⟨h1,by omega⟩,h3⟩
      have htz:¬ ttl=0:=by omega
      have Nf:=hrr;simp only [fQ] at Nf;rw [dF htz];simp only [bJ,Nf]
      have e2:¬ (e.getD k Ey).2.2.1=2:=by omega
      have ett:aR (ttl-1)=ttl-1:=by rw [jc];omega
      by_cases hr0:rest=0
      ·rw [dT hr0]
       simp only [Bool.not_true,bJ,qB];refine ah ⟨gI,ek,?_,rfl,?_,i4,asq⟩
       ·show sl=_
        rw [j1,dT hr0];rfl
       ·show Yk.length≤(aR ((k:Int)+1)).toNat
        rw [CU];omega
      ·rw [dF hr0,dF e2,ett]
       simp only [Bool.not_false,aQ,bJ,qB]
       rw [show Nat.ble ((Yk.length+1)*120) 140737488355328=true from Ph (by omega),show Nat.ble ((sl.length+1)*152) 140737488355328=true from Ph (by omega)]
       simp only [aQ,qB];refine ah ⟨gI,ek,?_,rfl,?_,i4,asq⟩
       ·show sl++[sn n (ttl-1) rest (e.getD k Ey)]=(sends (e.take (aR ((k:Int)+1)).toNat) b v).map (sn n (ttl-1) rest)
        have axz:(iZ e k).2.1=1:=Zi;rw [CU,etk,j1,dF hr0,dT hgo.1,dT axz,hgo.2];simp only [Bool.and_self,aQ,bJ,vO,jy,List.map_nil]
       ·show (Yk++[_]).length≤(aR ((k:Int)+1)).toNat
        rw [CU,nP,zC7];omega
  ·have c:¬ (k:Int)<(e.length:Int):=c
   rw [List.take_of_length_le (show e.length≤k by omega)] at j1
   exact j1
  ·have c:¬ (k:Int)<(e.length:Int):=c
   rw [show tb (loc,((0:Int),(Yk,()))).1 j=tb loc j from rfl,i5 j]
   constructor
   ·rintro ⟨⟨h1,h2⟩,h3⟩;exact ⟨h1,h3⟩
   ·rintro ⟨h1,h3⟩;exact ⟨⟨h1,by omega⟩,h3⟩
 ·obtain ⟨sl,⟨loc,lost,Yk,⟨⟩⟩,⟨⟩⟩:=y14
  obtain ⟨q1,q2,q3⟩:=h14;obtain rfl:lost=0:=q2;have q1:sl=_:=q1;subst q1;exact ah ⟨loc,Yk,rest,rfl,q3,K5⟩
end
theorem axA {x:Int} {k:Nat} (hx:Ub x) (hk:k<64):decide (IntKind.wrap .u64 (Int.ofNat (BitVec.toNat (BitVec.and (BitVec.ofInt 64 (Int.fdiv x (Int.pow 2 (min k 64)))) (BitVec.ofInt 64 1))))=1)=tb x k:=by
 have e1:Int.fdiv x (Int.pow 2 (min k 64))=((x.toNat / 2 ^ k:Nat):Int):=by
  rw [Nat.min_eq_left (by omega),Int.fdiv_eq_ediv_of_nonneg _ (by show (0:Int)≤2 ^ k;exact Int.le_of_lt (Int.pow_pos (by decide)))]
  have e0:x=(x.toNat:Int):=by have:=hx.1;omega
  rw [Int.natCast_ediv,←e0,Int.natCast_pow];rfl
 have h1:x.toNat / 2 ^ k<2 ^ 64:=Nat.lt_of_le_of_lt (Nat.div_le_self _ _) (C9 hx);have h2:=CZ h1
 rw [e1,bvand h2.1 (by rw [e64];exact h2.2) (by decide) (by rw [e64];decide),jd,show (1:Int).toNat=1 from rfl,Nat.and_one_is_mod]
 have h3:x.toNat / 2 ^ k%2<2:=Nat.mod_lt _ (by decide)
 rw [Nb (by omega)]
 unfold tb;rw [Nat.testBit_eq_decide_div_mod_eq]
 exact decide_eq_decide.2 (by omega)
abbrev Qe:=Int×Pk×Unit
abbrev zQe:Qe:=(0,(0,0,0,0,0,0,0,0,0,[],()),())
abbrev RSt:=Unit×List Qe×Tc×Tc×Unit
section
variable {m:Nat} {g:To} {e:List Ad}
theorem axB (hg:gQ m g) (he:K4 g e) {loc v:Int} {P:Nat→Prop} (hl:Bit e loc P) (uq:∀ j k,j<e.length→k<e.length→P j→P k→j=k) (a1:RSt) (y5:(Oc×List Sn×Unit)×Unit) (hy:y5.1.1.1=loc) (hv:(a1.2.1.getD 0 zQe).1=v) (T:Tc) (hT:T.1.length≤1000) :
 iA (Loop (@Sg e a1 y5) (0,(T,()))) (fun r=>∃ E:List Dl,r=((T.1++E,T.2),())∧((∃ j,j<e.length∧P j)→E.map (fun d=>d.1)=[v])∧((¬ ∃ j,j<e.length∧P j)→E=[])):=by
 have XW:=he.len;subst hy hv
 refine bH e.length (fun s=>s.1) (fun s=>∃ E:List Dl,s.2=((T.1++E,T.2),())∧((∃ j:Nat,(j:Int)<s.1∧j<e.length∧P j)→E.map (fun d=>d.1)=[(a1.2.1.getD 0 zQe).1])∧((¬ ∃ j:Nat,(j:Int)<s.1∧j<e.length∧P j)→E=[])) rfl ⟨[],by show (T,())=_;rw [List.append_nil],fun ⟨j,h,_⟩=>absurd (show (j:Int)<0 from h) (by omega),fun _=>rfl⟩ ?_
 rintro ⟨i,s⟩ k hk hle ⟨E,i1,i2,i3⟩;obtain rfl:i=k:=hk;obtain rfl:s=((T.1++E,T.2),()):=i1
 have i2:(∃ j:Nat,(j:Int)<(k:Int)∧j<e.length∧P j)→E.map (fun d=>d.1)=[(a1.2.1.getD 0 zQe).1]:=i2
 have i3:(¬ ∃ j:Nat,(j:Int)<(k:Int)∧j<e.length∧P j)→E=[]:=i3
 unfold Sg;simp only [fQ,jd]
 refine aF (fun c=>aK (by omega) c ?_) fun c=>ah ⟨E,rfl,fun ⟨j,h1,h2⟩=>i2 ⟨j,by have c:¬ (k:Int)<(e.length:Int):=c;omega,h1,h2⟩,fun h=>i3 fun ⟨j,h1,h2⟩=>h ⟨j,h2⟩⟩
 have c:(k:Int)<(e.length:Int):=c
 have gI:k<e.length:=by omega
 have PX:=he.bit k gI
 have eb:Int.toNat (e.getD k Ey).1=k:=by rw [PX];rfl
 have ek:aR ((k:Int)+1)=(k:Int)+1:=dn (by omega)
 have q1:=axA (k:=k) hl.1 (by omega)
 simp only [fQ] at q1
 refine mW (bL (by rw [PX];omega)) ?_
 simp only [eb];rw [q1]
 refine aj (P:=fun y=>∃ E:List Dl,y=((T.1++E,T.2),())∧((∃ j:Nat,(j:Int)<(k:Int)+1∧j<e.length∧P j)→E.map (fun d=>d.1)=[(a1.2.1.getD 0 zQe).1])∧((¬ ∃ j:Nat,(j:Int)<(k:Int)+1∧j<e.length∧P j)→E=[])) ?_ fun y hy=>?_
 ·refine bX (fun c2=>?_) fun c2=>ah ⟨E,rfl,fun ⟨j,h1,h2,h3⟩=>i2 ⟨j,?_,h2,h3⟩,fun h=>i3 fun ⟨j,h1,h2⟩=>h ⟨j,by omega,h2⟩⟩
  ·have hP:=((hl.2 k).1 c2).2
   have hE:E=[]:=i3 fun ⟨j,h1,h2,h3⟩=>by have:=uq j k h2 gI h3 hP;omega
   subst hE
   refine jF (by rw [List.append_nil];omega) (ah ⟨[((a1.2.1.getD 0 zQe).1,aA.only (a1.2.1.getD 0 zQe).2.1 (e.getD k Ey).1,())],by rw [List.append_nil],fun _=>rfl,fun h=>absurd ⟨k,by omega,gI,hP⟩ h⟩)
  ·by_cases PO:j=k
   ·subst PO
    rw [(hl.2 j).2 ⟨h2,h3⟩] at c2;cases c2
   ·omega
 ·obtain ⟨E',rfl,h1,h2⟩:=hy
  refine ah ⟨gI,ek,E',rfl,?_,?_⟩
  ·show (∃ j:Nat,(j:Int)<aR ((k:Int)+1)∧j<e.length∧P j)→_
   rw [ek];exact h1
  ·show (¬ ∃ j:Nat,(j:Int)<aR ((k:Int)+1)∧j<e.length∧P j)→_
   rw [ek];exact h2
theorem axC (y5:(Oc×List Sn×Unit)×Unit) (a1:Tc×Int×List Qe×Tc×Unit) (v q:Int) (ok:qx) (T:Tc) (hT:T.2.1.length≤3000) :
 iA (Loop (@Si y5 a1 (([q],ok),())) (0,(v,(T,())))) (fun r=>∃ b,r=(q,((T.1,T.2.1++[(v,q,b,())],T.2.2),()))):=by
 refine bH 1 (fun s=>s.1) (fun s=>(s.1=0∧s.2=(v,(T,())))∨(s.1=1∧∃ b,s.2=(q,((T.1,T.2.1++[(v,q,b,())],T.2.2),())))) rfl (.inl ⟨rfl,rfl⟩) ?_
 rintro ⟨i,s⟩ k hk hle hi;unfold Si
 rcases hi with ⟨h1,h2⟩ | ⟨h1,b,h2⟩
 ·obtain rfl:i=0:=h1
  obtain rfl:s=(v,(T,())):=h2
  have Ni:k=0:=by have:(0:Int)=k:=hk;omega
  subst Ni
  refine aF (fun c=>aK (show (0:Int)≤0 by decide) c (jF (by show (T.2.1.length+1)*24≤_;omega) (ah ⟨Nat.zero_lt_one,rfl,.inr ⟨rfl,_,rfl⟩⟩))) fun c=>absurd (show (0:Int)<1 by decide) c
 ·obtain rfl:i=1:=h1
  refine aF (fun c=>absurd (show (1:Int)<1 from c) (by decide)) fun c=>ah ⟨b,h2⟩
theorem t67 (hg:gQ m g) (hm:m≤7) {a:Ad} {v:Int} (h1:a.2.2.1=1) (h2:∃ c∈g.2.1.flatMap dV,c.1=(v,a.2.2.2.1,())):iA (Nu g v a) (fun r=>r=(([a.2.2.2.1],true,()),())):=by
 obtain ⟨c,hc,zI⟩:=h2;have t:=t15 hg hm hc;rw [zI] at t;unfold Nu r67
 refine aF (fun h=>by omega) fun _=>aj t fun y hy=>?_
 subst hy;exact ah rfl
theorem axD (hg:gQ m g) (hm:m≤7) {l:List Ad} {n ttl rest v:Int} (h1:∀ a∈l,a.2.2.1=1∧∃ c∈g.2.1.flatMap dV,c.1=(v,a.2.2.2.1,())) (hl:l.length≤64) (a2:RSt) (hv:(a2.2.1.getD 0 zQe).1=v) (y5:(Oc×List Sn×Unit)×Unit) (hS:y5.1.2.1=l.map (sn n ttl rest)) (T1 T:Tc) (Q:List Qe) (hT:T.2.1.length≤100) (hQ:Q.length≤100) :
 iA (Loop (@Sj g.1 g.2.1 a2 y5) (T1,(0,(Q,(T,()))))) (fun r=>∃ z C,r=(false,(z,(T1,(Q++l.map (fun a=>(a.2.2.2.1,DV n ttl rest,())),((T.1,T.2.1++C,T.2.2),())))))∧C.map (fun c=>(c.1,c.2.1))=l.map (fun a=>(v,a.2.2.2.1))):=by
 obtain ⟨rs,ls,⟨⟩⟩:=g
 refine bH l.length (fun s=>s.2.1) (fun s=>s.1=T1∧∃ C:List Cr,s.2.2=(Q++(l.take s.2.1.toNat).map (fun a=>(a.2.2.2.1,DV n ttl rest,())),((T.1,T.2.1++C,T.2.2),()))∧C.map (fun c=>(c.1,c.2.1))=(l.take s.2.1.toNat).map (fun a=>(v,a.2.2.2.1))) rfl ⟨rfl,[],by show (Q,(T,()))=_;rw [show l.take (Int.toNat 0)=[] from rfl,List.map_nil,List.append_nil,List.append_nil],rfl⟩ ?_
 rintro ⟨t1,i,s⟩ k hk hle ⟨i1,C,i2,i3⟩;obtain rfl:i=k:=hk;obtain rfl:t1=T1:=i1
 have i2:s=(Q++(l.take k).map (fun a=>(a.2.2.2.1,DV n ttl rest,())),((T.1,T.2.1++C,T.2.2),())):=i2
 subst i2
 have i3:C.map (fun c=>(c.1,c.2.1))=(l.take k).map (fun a=>(v,a.2.2.2.1)):=i3
 have hC:C.length≤64:=by
  have:=congrArg List.length i3;rw [pJ,pJ,List.length_take] at this;omega
 unfold Sj;simp only [fQ,jd];rw [hS,pJ]
 refine aF (fun c=>aK (by omega) c ?_) fun c=>?_
 ·have c:(k:Int)<(l.length:Int):=c
  have gI:k<l.length:=by omega
  have ek:aR ((k:Int)+1)=(k:Int)+1:=dn (by omega)
  have CU:(aR ((k:Int)+1)).toNat=k+1:=by rw [ek];omega
  have Lg:∀ z,(l.map (sn n ttl rest)).getD k z=sn n ttl rest l[k]:=fun z=>by
   rw [iW,List.getElem?_map,iw gI];rfl
  obtain ⟨Zi,lX⟩:=h1 l[k] (zG gI);simp only [Lg];rw [hv]
  refine aj (t67 hg hm Zi lX) fun y hy=>?_
  subst hy;simp only [Bool.not_true,bJ]
  refine aj (axC y5 _ v l[k].2.2.2.1 (true,()) (T.1,T.2.1++C,T.2.2) (by rw [show (T.1,T.2.1++C,T.2.2).2.1=T.2.1++C from rfl,nP];omega)) fun y hy=>?_
  obtain ⟨b,rfl⟩:=hy
  refine aF (fun c2=>?_) fun c2=>jF ?_ (ah ⟨gI,ek,rfl,C++[(v,l[k].2.2.2.1,b,())],?_,?_⟩)
  ·exfalso
   have c2:(((T.2.1++C)++[(v,l[k].2.2.2.1,b,())]).length:Int)>2000:=c2;rw [nP,nP,zC7] at c2;omega
  ·show ((Q++_).length+1)*96≤_
   rw [nP,pJ,List.length_take];omega
  ·show ((Q++_)++[_],_)=_
   rw [CU,List.take_add_one,iw gI,vO,←List.append_assoc,←List.append_assoc];rfl
  ·rw [vO,i3]
   show _=(l.take (aR ((k:Int)+1)).toNat).map _;rw [CU,List.take_add_one,iw gI,vO];rfl
 ·have c:¬ (k:Int)<(l.length:Int):=c
  rw [List.take_of_length_le (by omega)] at i3
  exact ah ⟨_,C,by rw [List.take_of_length_le (show l.length≤k by omega)],i3⟩
end
theorem map_inj {α β:Type} {f:α→β}:∀ {l:List α},(l.map f).Nodup→∀ {a b:α},a∈l→b∈l→f a=f b→a=b
 | [],_,_,_,h,_,_=>by cases h
 | x::l,hn,a,b,h1,h2,hf=>by
  rw [jy,List.nodup_cons] at hn
  rcases lC h1 with rfl | k1<;>rcases lC h2 with rfl | k2
  ·rfl
  ·exact absurd (List.mem_map.2 ⟨b,k2,hf.symm⟩) hn.1
  ·exact absurd (List.mem_map.2 ⟨a,k1,hf⟩) hn.1
  ·exact map_inj hn.2 k1 k2 hf
theorem Da:∀ {l k:List Int},l.Nodup→(∀ x∈l,x∈k)→l.length≤k.length
 | [],_,_,_=>mY _
 | x::l,k,hn,h=>by
  rw [List.nodup_cons] at hn;have h1:=h x (uD ..)
  have:=Da (k:=k.erase x) hn.2 fun y hy=>(List.mem_erase_of_ne (fun (e:y=x)=>hn.1 (e▸hy))).2 (h y (kE _ hy))
  rw [List.length_erase_of_mem h1] at this;have:=List.length_pos_of_mem h1;rw [lD];omega
structure Rn (n t0:Int) (e:List Ad) (root:Int) (L:List Hp) (rcv nE:List Int) (Q:List Qe) (T:Tc):Prop where
 nod:(nE++Q.map fun x=>x.1).Nodup
 cr:root::T.2.1.map (fun c=>c.2.1)=nE++Q.map fun x=>x.1
 aY:∀ c∈T.2.1,((c.1,c.2.1,()):Hp)∈L∧c.1∈nE
 q:∀ x∈Q,∃ (EZ:List Int) (b:Int),x.2.1=DV n (t0-EZ.length) b∧(∀ y∈EZ,y∈nE)∧EZ.Nodup∧Bit e b fun k=>iZ e k∈jT rcv L∧(iZ e k).1 ∉ EZ
 all:(∀ r∈rcv,r∈nE)∨∀ h∈L,h.1∈nE→h.2.1∈nE++Q.map fun x=>x.1
 del:T.1.map (fun d=>d.1)=nE.filter fun x=>decide (x∈rcv)
theorem adb {rcv:List Int} {L:List Hp} {v w:Int}:((v,3,w,()):Tg)∈jT rcv L↔v∈rcv∧w=v:=by
 unfold jT;rw [pV,List.mem_map,List.mem_map];constructor
 ·rintro (⟨r,h1,h2⟩ | ⟨h,h1,h2⟩)
  ·have a1:r=v:=congrArg (fun t:Tg=>t.1) h2
   have a2:r=w:=congrArg (fun t:Tg=>t.2.2.1) h2
   subst a1;exact ⟨h1,a2.symm⟩
  ·exact absurd (congrArg (fun t:Tg=>t.2.1) h2) (show (1:Int)≠3 by decide)
 ·rintro ⟨h1,rfl⟩
  exact .inl ⟨_,h1,rfl⟩
theorem ahb {rcv:List Int} {L:List Hp} {v w:Int}:((v,1,w,()):Tg)∈jT rcv L↔((v,w,()):Hp)∈L:=by
 unfold jT;rw [pV,List.mem_map,List.mem_map];constructor
 ·rintro (⟨r,h1,h2⟩ | ⟨h,h1,h2⟩)
  ·exact absurd (congrArg (fun t:Tg=>t.2.1) h2) (show (3:Int)≠1 by decide)
  ·obtain ⟨h,k,⟨⟩⟩:=h
   have a1:h=v:=congrArg (fun t:Tg=>t.1) h2
   have a2:k=w:=congrArg (fun t:Tg=>t.2.2.1) h2
   subst a1 a2;exact h1
 ·intro h
  exact .inr ⟨_,h,rfl⟩
section
variable {m:Nat} {n t0:Int} {g:To} {e:List Ad} {root:Int} {L:List Hp} {rcv:List Int}
theorem Rn.sub {nE:List Int} {Q:List Qe} {T:Tc} (h:Rn n t0 e root L rcv nE Q T):∀ x∈nE++Q.map (fun x=>x.1),x∈kr root L:=by
 intro x hx;rw [←h.cr] at hx
 rcases lC hx with rfl | hx
 ·exact uD ..
 ·obtain ⟨c,hc,rfl⟩:=List.mem_map.1 hx
  exact kE _ (List.mem_map.2 ⟨_,(h.aY c hc).1,rfl⟩)
theorem VN (hg:gQ m g) (hr:root∈ids g) (ha:∀ h∈L,∃ a∈g.2.1.flatMap dV,a.1=h):∀ x∈kr root L,x∈ids g:=by
 intro x hx
 rcases lC hx with rfl | hx
 ·exact hr
 ·obtain ⟨h,hh,rfl⟩:=List.mem_map.1 hx
  obtain ⟨a,h1,rfl⟩:=ha h hh;exact (hg.arc h1).2.2.2.2.1
theorem Rn.len (hg:gQ m g) (hm:m≤7) (hr:root∈ids g) (ha:∀ h∈L,∃ a∈g.2.1.flatMap dV,a.1=h) {nE:List Int} {Q:List Qe} {T:Tc} (h:Rn n t0 e root L rcv nE Q T):nE.length+Q.length≤7∧T.2.1.length+1=nE.length+Q.length∧nE.length+Q.length≤g.1.length:=by
 have h1:=Da h.nod fun x hx=>VN hg hr ha x (h.sub x hx)
 have h2:=hg.len;have h3:=congrArg List.length h.cr;simp only [nP,pJ,lD] at h1 h3;omega
theorem Rn.next (hg:gQ m g) (he:K4 g e) (ht:uy root L) (ha:∀ h∈L,∃ a∈g.2.1.flatMap dV,a.1=h) (hid:∀ r∈rcv,r∈ids g) {nE:List Int} {v ttl b rest:Int} {Q:List Qe} {T:Tc} {EZ:List Int} (h:Rn n t0 e root L rcv nE ((v,DV n ttl b,())::Q) T)
 (axE:ttl=t0-EZ.length) (TQ:∀ y∈EZ,y∈nE) (J3:EZ.Nodup) (hb:Bit e b fun k=>iZ e k∈jT rcv L∧(iZ e k).1 ∉ EZ) (K5:Bit e rest fun k=>(iZ e k∈jT rcv L∧(iZ e k).1 ∉ EZ)∧(iZ e k).1≠v) {l:List Ad} (hl:l=bif decide (rest=0) then [] else sends e b v)
 {E:List Dl} (hE:E.map (fun d=>d.1)=if v∈rcv then [v] else []) {C:List Cr} (hC:C.map (fun c=>(c.1,c.2.1))=l.map fun a=>(v,a.2.2.2.1)) :
 Rn n t0 e root L rcv (nE++[v]) (Q++l.map fun a=>(a.2.2.2.1,DV n (ttl-1) rest,())) (T.1++E,T.2.1++C,T.2.2):=by
 have QE:=h.nod;rw [jy] at QE
 have hvV:v ∉ nE:=fun hv=>by
  rw [List.nodup_append] at QE;exact QE.2.2 v hv v (uD ..) rfl
 have hva:v ∉ EZ:=fun hv=>hvV (TQ v hv)
 have kW:∀ a∈l,a∈e∧a.2=(v,1,a.2.2.2.1,())∧((v,a.2.2.2.1,()):Hp)∈L:=by
  intro a Nv;rw [hl] at Nv
  cases hd:decide (rest=0) with
  | true=>rw [hd] at Nv;cases Nv
  | false=>
   rw [hd] at Nv;have Nv:a∈sends e b v:=Nv;obtain ⟨h1,h2⟩:=List.mem_filter.1 Nv;rw [dA,dA,mX,mX] at h2;obtain ⟨⟨h2,h3⟩,h4⟩:=h2
   have h5:a.2=(v,1,a.2.2.2.1,()):=by
    obtain ⟨i,w,kd,t,⟨⟩⟩:=a;have h2:w=v:=h2;have h3:kd=1:=h3;subst h2 h3;rfl
   refine ⟨h1,h5,?_⟩;obtain ⟨k,hk,lX⟩:=List.mem_iff_getElem.1 h1
   have hgk:e.getD k Ey=a:=by rw [iW,iw hk];exact lX
   have PX:=he.bit k hk;rw [hgk] at PX;rw [PX] at h4;have h6:=((hb.2 k).1 h4).2.1
   have h7:iZ e k=(v,1,a.2.2.2.1,()):=by rw [←h5,←hgk];rfl
   rw [h7] at h6;exact ahb.1 h6
 have hCt:C.map (fun c=>c.2.1)=l.map fun a=>a.2.2.2.1:=by
  have:=congrArg (List.map fun x:Int×Int=>x.2) hC
  rw [List.map_map,List.map_map] at this;exact this
 have lF:l.Sublist e:=by
  rw [hl]
  cases decide (rest=0) with
  | true=>exact List.nil_sublist _
  | false=>exact List.filter_sublist
 have hnl:(l.map fun a=>a.2.2.2.1).Nodup:=by
  have h1:(l.map fun a=>a.2).Nodup:=List.Nodup.sublist (lF.map _) he.nd
  have h2:=List.pairwise_map.1 h1
  exact List.pairwise_map.2 (h2.imp_of_mem fun {x y} hx hy hxy h3=>hxy (by rw [(kW x hx).2.1,(kW y hy).2.1,h3]))
 have hLn:=(List.nodup_cons.1 ht.nd)
 have axF:∀ a∈l,a.2.2.2.1 ∉ nE++v::Q.map fun x=>x.1:=by
  intro a Nv lG;have hL:=(kW a Nv).2.2;have hcr:=h.cr;rw [jy] at hcr;rw [←hcr] at lG
  rcases lC lG with Bf | lG
  ·exact hLn.1 (List.mem_map.2 ⟨_,hL,Bf⟩)
  ·obtain ⟨c,hc,zI⟩:=List.mem_map.1 lG
   obtain ⟨h1,h2⟩:=h.aY c hc
   have:=map_inj hLn.2 h1 hL (by show c.2.1=a.2.2.2.1;exact zI)
   have:c.1=v:=congrArg (fun t:Hp=>t.1) this
   exact hvV (this▸h2)
 have emap:(Q++l.map fun a=>((a.2.2.2.1,DV n (ttl-1) rest,()):Qe)).map (fun x=>x.1)=Q.map (fun x=>x.1)++l.map fun a=>a.2.2.2.1:=by
  rw [vO,List.map_map];rfl
 have al0:(nE++[v])++(Q++l.map fun a=>((a.2.2.2.1,DV n (ttl-1) rest,()):Qe)).map (fun x=>x.1)=(nE++v::Q.map fun x=>x.1)++l.map fun a=>a.2.2.2.1:=by
  rw [emap];simp only [List.append_assoc,List.cons_append,List.nil_append]
 refine ⟨?_,?_,?_,?_,?_,?_⟩
 ·rw [al0,List.nodup_append]
  refine ⟨QE,hnl,fun x hx y hy hxy=>?_⟩
  obtain ⟨a,Nv,rfl⟩:=List.mem_map.1 hy;exact axF a Nv (hxy▸hx)
 ·rw [al0]
  show root::(T.2.1++C).map (fun c=>c.2.1)=_
  have hcr:=h.cr;rw [jy] at hcr;rw [vO,hCt,←hcr];rfl
 ·intro c hc
  rcases List.mem_append.1 hc with hc | hc
  ·exact ⟨(h.aY c hc).1,List.mem_append_left _ (h.aY c hc).2⟩
  ·have hcm:((c.1,c.2.1):Int×Int)∈C.map (fun c=>(c.1,c.2.1)):=List.mem_map.2 ⟨c,hc,rfl⟩
   rw [hC] at hcm;obtain ⟨a,Nv,h1⟩:=List.mem_map.1 hcm
   have e1:v=c.1:=congrArg (fun t:Int×Int=>t.1) h1
   have e2:a.2.2.2.1=c.2.1:=congrArg (fun t:Int×Int=>t.2) h1
   rw [←e1,←e2];exact ⟨(kW a Nv).2.2,List.mem_append_right _ (uD ..)⟩
 ·intro x hx
  rcases List.mem_append.1 hx with hx | hx
  ·obtain ⟨an,b',h1,h2,h3⟩:=h.q x (kE _ hx)
   exact ⟨an,b',h1,fun y hy=>List.mem_append_left _ (h2 y hy),h3⟩
  ·obtain ⟨a,Nv,rfl⟩:=List.mem_map.1 hx
   refine ⟨v::EZ,rest,?_,?_,List.nodup_cons.2 ⟨hva,J3⟩,K5.congr fun k _=>?_⟩
   ·show DV n (ttl-1) rest=DV n (t0-((v::EZ).length:Int)) rest
    rw [axE,lD];congr 1;omega
   ·intro y hy
    rcases lC hy with rfl | hy
    ·exact List.mem_append_right _ (uD ..)
    ·exact List.mem_append_left _ (TQ y hy)
   ·rw [List.mem_cons,not_or]
    exact ⟨fun ⟨⟨a,b⟩,c⟩=>⟨a,c,b⟩,fun ⟨a,c,b⟩=>⟨⟨a,b⟩,c⟩⟩
 ·rcases h.all with h1 | h1
  ·exact .inl fun r hr=>List.mem_append_left _ (h1 r hr)
  ·by_cases hr0:rest=0
   ·refine .inl fun r hr=>?_
    obtain ⟨k,hk,lX⟩:=Ig (he.dl r (hid r hr))
    by_cases hra:r∈EZ
    ·exact List.mem_append_left _ (TQ r hra)
    ·by_cases hrv:r=v
     ·subst hrv;exact List.mem_append_right _ (uD ..)
     ·refine absurd ⟨⟨?_,?_⟩,?_⟩ (K5.zero.1 hr0 k hk)
      ·rw [lX];exact adb.2 ⟨hr,rfl⟩
      ·rw [lX];exact hra
      ·rw [lX];exact hrv
   ·rw [d9 hr0] at hl
    have hl:l=sends e b v:=hl
    refine .inr fun x hx hv=>?_
    rw [al0]
    rcases List.mem_append.1 hv with hv | hv
    ·exact List.mem_append_left _ (h1 x hx hv)
    ·rw [List.mem_singleton] at hv
     obtain ⟨a,ha1,ha2⟩:=ha x hx;have hlk:=he.lk a ha1;rw [ha2] at hlk;obtain ⟨k,hk,lX⟩:=Ig hlk;obtain ⟨x1,x2,⟨⟩⟩:=x;have hv:x1=v:=hv;subst hv;refine List.mem_append_right _ (List.mem_map.2 ⟨e.getD k Ey,?_,?_⟩)
     ·rw [hl]
      refine List.mem_filter.2 ⟨he.gd hk,?_⟩
      have e1:(e.getD k Ey).2.1=x1:=congrArg (fun t:Tg=>t.1) lX
      have e2:(e.getD k Ey).2.2.1=1:=congrArg (fun t:Tg=>t.2.1) lX
      rw [bL e1,bL e2,he.bit k hk,(hb.2 _).2]
      ·rfl
      ·exact ⟨hk,by rw [show Int.toNat (k:Int)=k from rfl,lX];exact ahb.2 hx,by rw [show Int.toNat (k:Int)=k from rfl,lX];exact hva⟩
     ·exact congrArg (fun t:Tg=>t.2.2.1) lX
 ·show (T.1++E).map (fun d=>d.1)=_
  rw [vO,h.del,hE,List.filter_append]
  congr 1
  by_cases hv:v∈rcv
  ·rw [if_pos hv,List.filter_cons,if_pos (bL hv)];rfl
  ·rw [if_neg hv,List.filter_cons,if_neg (by simpa using hv)];rfl
theorem Rn.done (ht:uy root L) (hr:∀ r∈rcv,r∈kr root L) {nE:List Int} {T:Tc} (h:Rn n t0 e root L rcv nE [] T):∀ x,x∈T.1.map (fun d=>d.1)↔x∈rcv:=by
 have oO:∀ r∈rcv,r∈nE:=by
  rcases h.all with h1 | h1
  ·exact h1
  ·have Bf:root∈nE:=by
    have h2:=h.cr;rw [List.map_nil,List.append_nil] at h2;rw [←h2];exact uD ..
   obtain ⟨G,h2,h3⟩:=ht.gr
   have key:∀ {l:List Hp},Grow root l→(∀ x∈l,x∈G)→∀ x∈kr root l,x∈nE:=by
    intro l hg
    induction hg with
    | nil=>
     intro _ x hx
     rcases lC hx with rfl | hx
     ·exact Bf
     ·cases hx
    | @cons a l hl hf hto ih=>
     intro hs x hx
     have ih:=ih fun y hy=>hs y (kE _ hy)
     rcases lC hx with rfl | hx
     ·exact Bf
     ·rw [jy] at hx
      rcases lC hx with rfl | hx
      ·have h4:=h1 a (h3.mem_iff.2 (hs a (uD ..))) (ih _ hf)
       rw [List.map_nil,List.append_nil] at h4;exact h4
      ·exact ih x (kE _ hx)
   intro r hrr;have h5:=hr r hrr
   exact key h2 (fun x hx=>hx) r ((List.Perm.cons root (h3.map fun x=>x.2.1)).mem_iff.1 h5)
 intro x;rw [h.del,List.mem_filter,mX]
 exact ⟨fun ⟨_,h⟩=>h,fun h=>⟨oO x h,h⟩⟩
theorem al1 (hg:gQ m g) (hm:m≤7) (he:K4 g e) (hn:Sz n e) (QI:(g.1.length:Int)≤t0∧t0≤63) (ht:uy root L) (ha:∀ h∈L,∃ a∈g.2.1.flatMap dV,a.1=h) (hrt:root∈ids g) (hid:∀ r∈rcv,r∈ids g) (s:RSt) (hs:∃ nE,Rn n t0 e root L rcv nE s.2.1 s.2.2.2.1) :
 iA (@Sk n e g.1 g.2.1 s) (Step (fun s=>∃ nE,Rn n t0 e root L rcv nE s.2.1 s.2.2.2.1) (fun s=>200+s.2.1.length-s.2.2.2.1.2.1.length) s (fun r=>∃ z T0 nE T,r=(false,(z,((),(T0,(T,())))))∧Rn n t0 e root L rcv nE [] T)):=by
 have XW:=he.len;obtain ⟨⟨⟩,Q,T0,T,⟨⟩⟩:=s;obtain ⟨nE,hR⟩:=hs;have hR:Rn n t0 e root L rcv nE Q T:=hR;have hlen:=hR.len hg hm hrt ha;unfold Sk;simp only [fQ]
 cases Q with
 | nil=>
  refine aF (fun c=>absurd (show ((0:Nat):Int)>0 from c) (by decide)) fun c=>ah ⟨_,T0,nE,T,rfl,hR⟩
 | cons x Q=>
  refine aF (fun c=>mW (by rw [Bool.true_and];exact bL c) ?_) fun c=>absurd (show (((x::Q).length:Nat):Int)>0 by rw [lD];omega) c
  obtain ⟨v,pk,⟨⟩⟩:=x;obtain ⟨EZ,b,QJ,TQ,J3,hb⟩:=hR.q _ (uD ..);have QJ:pk=DV n (t0-EZ.length) b:=QJ;subst QJ;rw [lD] at hlen;have Nv:=Da J3 TQ;have nH:=hb
  refine aj (t65 hg he hn v (ttl:=t0-EZ.length) ⟨by omega,by omega⟩ hb) fun y5 hy5=>?_
  obtain ⟨loc,Yk,rest,rfl,axG,K5⟩:=hy5;have QE:=hR.nod;rw [jy] at QE
  have hvV:v ∉ nE:=fun hv=>by
   rw [List.nodup_append] at QE;exact QE.2.2 v hv v (uD ..) rfl
  have hva:v ∉ EZ:=fun hv=>hvV (TQ v hv)
  have axH:v∈ids g:=VN hg hrt ha v (hR.sub v (List.mem_append_right _ (uD ..)))
  have t3:∀ k,k<e.length→(iZ e k).1=v→(iZ e k).2.1=3→iZ e k=(v,3,v,()):=by
   intro k hk h1 h2
   rcases he.kind _ (he.gd hk) with ⟨h3,h4⟩ | ⟨h3,h4⟩
   ·have h4:(iZ e k).2.2.1=(iZ e k).1:=h4
    generalize iZ e k=t at h1 h2 h4;obtain ⟨t1,t2,t3,⟨⟩⟩:=t;have h1:t1=v:=h1;have h2:t2=3:=h2;have h4:t3=t1:=h4;show (t1,t2,t3,())=((v,3,v,()):Tg);rw [h4,h1,h2]
   ·have h3:(iZ e k).2.1=1:=h3
    omega
  refine aj (axB hg he axG (fun j k hj hk h1 h2=>he.Nc hj hk (by rw [t3 j hj h1.2.1 h1.2.2,t3 k hk h2.2.1 h2.2.2])) _ _ rfl (v:=v) rfl T ?_) fun y6 hy6=>?_
  ·have h1:=congrArg List.length hR.del
   rw [pJ] at h1
   have h2:=List.length_filter_le (fun x=>decide (x∈rcv)) nE
   omega
  obtain ⟨E,rfl,hE1,hE2⟩:=hy6
  have hE:E.map (fun d=>d.1)=if v∈rcv then [v] else []:=by
   by_cases hv:v∈rcv
   ·rw [if_pos hv]
    obtain ⟨k,hk,lX⟩:=Ig (he.dl v axH)
    exact hE1 ⟨k,hk,⟨by rw [lX];exact adb.2 ⟨hv,rfl⟩,by rw [lX];exact hva⟩,by rw [lX],by rw [lX]⟩
   ·rw [if_neg hv]
    rw [hE2 fun ⟨k,hk,h1,h2,h3⟩=>hv ?_]
    ·rfl
    ·have h4:=h1.1
     rw [t3 k hk h2 h3] at h4;exact (adb.1 h4).1
  refine aj (P:=fun y=>y=((T.1++E,T.2),())) (eH (fun c=>absurd rfl c) fun _=>ah rfl) fun y7 hy7=>?_
  subst hy7
  have hS:(bif decide (rest=0) then [] else (sends e b v).map (sn n (t0-(EZ.length:Int)-1) rest))=(bif decide (rest=0) then [] else sends e b v).map (sn n (t0-(EZ.length:Int)-1) rest):=by
   cases decide (rest=0)<;>rfl
  have qN:∀ a∈(bif decide (rest=0) then [] else sends e b v),a.2.2.1=1∧∃ c∈g.2.1.flatMap dV,c.1=(v,a.2.2.2.1,()):=by
   intro a Yl
   have Yl:a∈sends e b v:=by
    cases hd:decide (rest=0) with
    | true=>rw [hd] at Yl;cases Yl
    | false=>rw [hd] at Yl;exact Yl
   obtain ⟨h1,h2⟩:=List.mem_filter.1 Yl;rw [dA,dA,mX,mX] at h2;obtain ⟨⟨h2,h3⟩,h4⟩:=h2;refine ⟨h3,?_⟩
   rcases he.kind a h1 with ⟨h5,_⟩ | ⟨_,c,h5,h6⟩
   ·omega
   ·exact ⟨c,h5,by rw [h6,h2]⟩
  have D5:(bif decide (rest=0) then [] else sends e b v).length≤64:=by
   cases decide (rest=0) with
   | true=>exact mY _
   | false=>exact gX (List.length_filter_le _ _) XW
  refine aj (axD hg hm qN D5 _ rfl _ hS T0 (T.1++E,T.2) ((v,DV n (t0-EZ.length) b,())::Q) (by show T.2.1.length≤100;omega) (by rw [lD];omega)) fun y8 hy8=>?_
  obtain ⟨z,C,rfl,hC⟩:=hy8;have hn:=hR.next hg he ht ha hid rfl TQ J3 nH K5 rfl hE hC;have Il:=hn.len hg hm hrt ha
  refine bX (fun c=>absurd c Bool.false_ne_true) fun _=>mW ?_ (ah ⟨⟨nE++[v],hn⟩,?_⟩)
  ·rw [Bool.true_and]
   refine bL ?_;show (1:Int)≤((((v,DV n (t0-EZ.length) b,())::Q)++_:List Qe).length:Int);rw [nP,lD];omega
  ·show 200+(Q++_).length-(T.2.1++C).length<200+((v,DV n (t0-EZ.length) b,())::Q).length-T.2.1.length
   have h1:=Il.2.1;have h2:=Il.1;have h3:(T.2.1++C).length+1=(nE++[v]).length+(Q++_).length:=h1
   rw [show (nE++[v]).length=nE.length+1 by simp] at h3
   rw [lD]
   have h4:(nE++[v]).length+(Q++(bif decide (rest=0) then [] else sends e b v).map fun a=>((a.2.2.2.1,DV n (t0-EZ.length-1) rest,()):Qe)).length≤7:=h2
   rw [show (nE++[v]).length=nE.length+1 by simp] at h4
   omega
theorem t24 (hg:gQ m g) (hm:m≤7) (he:K4 g e) (hn:Sz n e) (QI:(g.1.length:Int)≤t0∧t0≤63) (ht:uy root L) (ha:∀ h∈L,∃ a∈g.2.1.flatMap dV,a.1=h) (hrt:root∈ids g) (hid:∀ r∈rcv,r∈ids g) (hr:∀ r∈rcv,r∈kr root L) {b:Int} (hb:Bit e b fun k=>iZ e k∈jT rcv L) :
 iA (IW (n,e,()) g (DV n t0 b) root) (fun r=>∃ T:Tc,r=((T,0,()),())∧(∀ x,x∈T.1.map (fun d=>d.1)↔x∈rcv)∧T.1.length≤7∧(T.1.map fun d=>d.1).Nodup∧T.2.1.length≤7∧(∀ c∈T.2.1,((c.1,c.2.1,()):Hp)∈L)∧(T.2.1.map fun c=>c.2.1).Nodup):=by
 unfold IW r24
 refine aj (P:=fun y=>y=(false,())) (aj (t63 hg he hn) fun y hy=>?_) fun y hy=>?_
 ·subst hy
  refine bX (fun _=>?_) fun c=>absurd c (by decide)
  have hc:lT (g.1,g.2.1,())=0:=hg.chk hm;rw [hc]
  refine bX (fun _=>?_) fun c=>absurd c (by decide)
  have hv:=ag9 (ttl:=t0) hn ⟨by omega,QI.2⟩ hb.1 fun k hk=>((hb.2 k).1 hk).1
  exact ah (by show (!mD (DV n t0 b),())=_;rw [hv];rfl)
 subst hy
 refine bX (fun c=>absurd c Bool.false_ne_true) fun _=>?_
 have hh:AU (g.1,g.2.1,()) root=true:=hg.has hm hrt;rw [hh]
 refine bX (fun c=>absurd c Bool.false_ne_true) fun _=>?_
 refine aj (P:=fun y=>y=(0,())) ?_ fun y hy=>?_
 ·unfold Pz r64
  refine eH (fun c=>absurd rfl c) fun _=>eH (fun c=>absurd rfl c) fun _=>ah rfl
 subst hy
 refine eH (fun c=>absurd rfl c) fun _=>?_
 refine aj (iq (fun s:RSt=>∃ nE,Rn n t0 e root L rcv nE s.2.1 s.2.2.2.1) (fun s=>200+s.2.1.length-s.2.2.2.1.2.1.length) (Q:=fun r=>∃ z T0 nE T,r=(false,(z,((),(T0,(T,())))))∧Rn n t0 e root L rcv nE [] T) ⟨[],?_⟩ (al1 hg hm he hn QI ht ha hrt hid)) fun y hy=>?_
 ·refine ⟨(by show [root].Nodup;simp),rfl,fun c hc=>(by cases hc),fun x hx=>?_,.inr fun h _ hh=>(by cases hh),rfl⟩
  obtain rfl:x=(root,DV n t0 b,()):=List.mem_singleton.1 hx
  exact ⟨[],b,(by show DV n t0 b=DV n (t0-(([]:List Int).length:Int)) b;rw [show t0-(([]:List Int).length:Int)=t0 by simp]),fun y hy=>(by cases hy),.nil,hb.congr fun k _=>⟨fun h=>⟨h,(by simp)⟩,fun h=>h.1⟩⟩
 ·obtain ⟨z,T0,nE,T,rfl,hR⟩:=hy
  have hlen:=hR.len hg hm hrt ha
  refine bX (fun c=>absurd c Bool.false_ne_true) fun _=>ah ⟨T,rfl,hR.done ht hr,?_,?_,(by have:=hlen.2.1;have:=hlen.1;omega),fun c hc=>(hR.aY c hc).1,?_⟩
  ·have h1:=congrArg List.length hR.del
   rw [pJ] at h1
   have h2:=List.length_filter_le (fun x=>decide (x∈rcv)) nE
   have:=hlen.1;omega
  ·rw [hR.del]
   have:=hR.nod;rw [List.map_nil,List.append_nil] at this;exact this.sublist List.filter_sublist
  ·have h1:=hR.nod
   rw [←hR.cr] at h1;exact (List.nodup_cons.1 h1).2
end
theorem af4 (l:List Int) (x:Int):∀ y,y∈qJ l x↔y=x∨y∈l:=by
 induction l with
 | nil=>intro y;simp [qJ]
 | cons z r ih=>
  intro y;rw [qJ]
  by_cases h1:z<x
  ·rw [bL h1,aQ,List.mem_cons,ih,List.mem_cons]
   exact ⟨fun h=>h.elim (fun h=>.inr (.inl h)) fun h=>h.elim .inl fun h=>.inr (.inr h),fun h=>h.elim (fun h=>.inr (.inl h)) fun h=>h.elim .inl fun h=>.inr (.inr h)⟩
  ·rw [d9 h1,bJ]
   by_cases h2:z=x
   ·rw [bL h2,aQ]
    subst h2
    exact ⟨.inr,fun h=>h.elim (fun h=>h▸uD ..) id⟩
   ·rw [d9 h2,bJ,List.mem_cons]
theorem ade:∀ {a b:List Int},a.Pairwise (· < ·)→b.Pairwise (· < ·)→(∀ x,x∈a↔x∈b)→a=b
 | [],[],_,_,_=>rfl
 | [],y::b,_,_,h=>absurd ((h y).2 (uD ..)) (by simp)
 | x::a,[],_,_,h=>absurd ((h x).1 (uD ..)) (by simp)
 | x::a,y::b,h1,h2,h=>by
  rw [List.pairwise_cons] at h1 h2
  have e:x=y:=by
   rcases lC ((h x).1 (uD ..)) with e | e
   ·exact e
   ·rcases lC ((h y).2 (uD ..)) with e2 | e2
    ·exact e2.symm
    ·have:=h1.1 y e2;have:=h2.1 x e;omega
  subst e
  rw [ade h1.2 h2.2 fun z=>⟨fun hz=>?_,fun hz=>?_⟩]
  ·rcases lC ((h z).1 (kE _ hz)) with e | e
   ·have:=h1.1 z hz;omega
   ·exact e
  ·rcases lC ((h z).2 (kE _ hz)) with e | e
   ·have:=h2.1 z hz;omega
   ·exact e
theorem t46 (g:To) (a b:Int):iA (Pv g a b) (fun _=>True):=by
 unfold Pv r46
 exact eH (fun _=>ah trivial) fun _=>ah trivial
theorem t16 (g:To) (T:Tc) (h1:T.1.length≤100) (h2:T.2.1.length≤100) {rcv:List Int} (hup:rcv.Pairwise (· < ·)) (hm:∀ x,x∈T.1.map (fun d=>d.1)↔x∈rcv) :
 iA (Py g T) (fun r=>∃ s,r=((s,rcv,()),())):=by
 unfold Py r16
 refine aj (P:=fun _=>True) ?_ fun y5 _=>aj (P:=fun y=>y=(rcv,())) ?_ fun y6 hy=>?_
 ·refine bH T.2.1.length (fun s=>s.2.1) (fun _=>True) rfl trivial ?_
  rintro ⟨a,i,⟨⟩⟩ k hk hle -;obtain rfl:i=k:=hk;unfold aaW;simp only [fQ,jd]
  refine aF (fun c=>aK (by omega) c (aj (t46 _ _ _) fun y _=>ah ⟨?_,dn ?_,trivial⟩)) fun _=>ah trivial
  ·have c:(k:Int)<(T.2.1.length:Int):=c
   omega
  ·omega
 ·refine bH T.1.length (fun s=>s.2.1) (fun s=>s.1.Pairwise (· < ·)∧s.1.length≤s.2.1.toNat∧∀ x,x∈s.1↔x∈(T.1.take s.2.1.toNat).map fun d=>d.1) rfl ⟨.nil,bT _,fun x=>Iff.rfl⟩ ?_
  rintro ⟨l,i,⟨⟩⟩ k hk hle ⟨i1,i2,i3⟩;obtain rfl:i=k:=hk
  have i1:l.Pairwise (· < ·):=i1
  have i2:l.length≤k:=i2
  have i3:∀ x,x∈l↔x∈(T.1.take k).map fun d=>d.1:=i3
  unfold aaX;simp only [fQ,jd]
  refine aF (fun c=>aK (by omega) c ?_) fun c=>ah ?_
  ·have c:(k:Int)<(T.1.length:Int):=c
   have gI:k<T.1.length:=by omega
   have ek:aR ((k:Int)+1)=(k:Int)+1:=dn (by omega)
   have CU:(aR ((k:Int)+1)).toNat=k+1:=by rw [ek];omega
   refine aj (vF (Q:=fun y=>y=(qJ l (T.1.getD k zQe).1,())) (bL (by omega)) rfl) fun y hy=>?_
   subst hy
   refine ah ⟨gI,ek,Qj _ i1,?_,fun x=>?_⟩
   ·show (qJ l _).length≤(aR ((k:Int)+1)).toNat
    rw [CU]
    exact gX (Qk _ _) (by omega)
   ·show x∈qJ l _↔x∈(T.1.take (aR ((k:Int)+1)).toNat).map fun d=>d.1
    rw [CU,af4,i3,List.take_add_one,iw gI,vO,pV,iW,iw gI];simp only [sw,Option.toList_some,jy,List.map_nil,List.mem_singleton];exact Or.comm
  ·have c:¬ (k:Int)<(T.1.length:Int):=c
   rw [List.take_of_length_le (by omega)] at i3
   show (l,())=(rcv,())
   rw [ade i1 hup fun x=>(i3 x).trans (hm x)]
 ·subst hy
  exact ah ⟨_,rfl⟩
def ent (M:List (List Int)) (a b:Nat):Int:=(M.getD a []).getD b 0
def Tb (M:List (List Int)):Prop:=M.length=100∧∀ a,a<100→(M.getD a []).length=100
theorem xg {α:Type} (l:List α) (i j:Nat) (v d:α) (h:i<l.length):(l.set i v).getD j d=if i=j then v else l.getD j d:=by
 rw [iW,iW,List.getElem?_set]
 by_cases qO:i=j
 ·subst qO;rw [if_pos rfl,if_pos h,if_pos rfl];rfl
 ·rw [if_neg qO,if_neg qO]
theorem Tb.set {M:List (List Int)} (h:Tb M) {x y:Nat} (hx:x<100) (hy:y<100) (v:Int):Tb (M.set x ((M.getD x []).set y v))∧∀ a b,ent (M.set x ((M.getD x []).set y v)) a b=if x=a∧y=b then v else ent M a b:=by
 have hxl:x<M.length:=by rw [h.1];exact hx
 refine ⟨⟨by rw [List.length_set];exact h.1,fun a ha=>?_⟩,fun a b=>?_⟩
 ·rw [xg _ _ _ _ _ hxl]
  by_cases e:x=a
  ·rw [if_pos e,List.length_set];exact h.2 x hx
  ·rw [if_neg e];exact h.2 a ha
 ·unfold ent
  rw [xg _ _ _ _ _ hxl]
  by_cases e:x=a
  ·subst e
   rw [if_pos rfl,xg _ _ _ _ _ (by rw [h.2 x hx];exact hy)]
   by_cases e2:y=b
   ·rw [if_pos e2,if_pos ⟨rfl,e2⟩]
   ·rw [if_neg e2,if_neg fun h=>e2 h.2]
  ·rw [if_neg e,if_neg fun h=>e h.1]
theorem r4z:iA (Loop abq (List.replicate 100 [],(0,()))) (fun y=>∃ M,y=(M,())∧Tb M∧∀ a b,ent M a b=0):=by
 refine bH 100 (fun s=>s.2.1) (fun s=>s.1.length=100∧∀ j:Nat,(j:Int)<s.2.1→s.1.getD j []=List.replicate 100 (0:Int)) rfl ⟨List.length_replicate,fun j h=>absurd (show (j:Int)<0 from h) (by omega)⟩ ?_
 rintro ⟨M,i,⟨⟩⟩ k hk hle ⟨i1,i2⟩;obtain rfl:i=k:=hk;have i1:M.length=100:=i1
 have i2:∀ j:Nat,(j:Int)<(k:Int)→M.getD j []=List.replicate 100 (0:Int):=i2
 unfold abq;simp only [jd]
 refine aF (fun c=>aK (by omega) c (iI ?_ (ah ⟨?_,dn (by omega),by rw [List.length_set];exact i1,fun j hj=>?_⟩))) fun c=>ah ⟨M,rfl,⟨i1,fun a ha=>?_⟩,fun a b=>?_⟩
 ·have c:(k:Int)<100:=c
  omega
 ·have c:(k:Int)<100:=c
  omega
 ·have c:(k:Int)<100:=c
  have hj:(j:Int)<aR ((k:Int)+1):=hj
  rw [dn (by omega)] at hj
  show (M.set k _).getD j []=_
  rw [xg _ _ _ _ _ (by omega)]
  by_cases e:k=j
  ·rw [if_pos e]
  ·rw [if_neg e];exact i2 j (by omega)
 ·have c:¬ (k:Int)<100:=c
  rw [i2 a (by omega),List.length_replicate]
 ·have c:¬ (k:Int)<100:=c
  unfold ent
  by_cases ha:a<100
  ·rw [i2 a (by omega),iW,List.getElem?_replicate]
   by_cases hb:b<100
   ·rw [if_pos hb];rfl
   ·rw [if_neg hb];rfl
  ·rw [show M.getD a []=[] by rw [iW,List.getElem?_eq_none (by omega)];rfl];rfl
theorem r4t {y2:List Dm×Tp} {s:Int×List (List Int)×Unit} {y6:(Tc×Int×Unit)×Unit} {M:List (List Int)} (hM:Tb M) {C:List Cr} (hC:y6.1.1.2.1=C) (hl:C.length≤100) (BD:∀ c∈C,(1≤c.1∧c.1≤99)∧1≤c.2.1∧c.2.1≤99) (J3:(C.map fun c=>c.2.1).Nodup) {i:Nat} (hi:s.1=i) (ZA:i<y2.1.length) {rate:Int} (hr:(y2.1.getD i um).2.2.1=rate) (Nf:1≤rate∧rate≤1000) (hb:∀ a b,0≤ent M a b∧ent M a b≤1000) :
 iA (Loop (@abr y2 s y6) (0,(M,()))) (fun y=>∃ M',y=(M',())∧Tb M'∧∀ a b:Nat,ent M' a b=ent M a b+if ((a:Int),(b:Int))∈C.map (fun c=>(c.1,c.2.1)) then rate else 0):=by
 subst hC;generalize hCC:y6.1.1.2.1=C at *
 refine bH C.length (fun s=>s.1) (fun s=>Tb s.2.1∧∀ a b:Nat,ent s.2.1 a b=ent M a b+if ((a:Int),(b:Int))∈(C.take s.1.toNat).map (fun c=>(c.1,c.2.1)) then rate else 0) rfl ⟨hM,fun a b=>(by
  have hn:¬ ((a:Int),(b:Int))∈(C.take (Int.toNat 0)).map (fun c=>(c.1,c.2.1)):=by simp
  exact (by rw [if_neg hn,Int.add_zero]:ent M a b=ent M a b+if ((a:Int),(b:Int))∈(C.take (Int.toNat 0)).map (fun c=>(c.1,c.2.1)) then rate else 0))⟩ ?_
 rintro ⟨j,N,⟨⟩⟩ k hk hle ⟨i1,i2⟩;obtain rfl:j=k:=hk;have i1:Tb N:=i1
 have i2:∀ a b:Nat,ent N a b=ent M a b+if ((a:Int),(b:Int))∈(C.take k).map (fun c=>(c.1,c.2.1)) then rate else 0:=i2
 unfold abr;simp only [fQ,jd];rw [hCC]
 refine aF (fun c=>aK (by omega) c ?_) fun c=>ah ⟨N,rfl,i1,?_⟩
 ·have c:(k:Int)<(C.length:Int):=c
  have gI:k<C.length:=by omega
  have Lg:∀ z,C.getD k z=C[k]:=fun z=>by rw [iW,iw gI];rfl
  simp only [Lg];obtain ⟨h1,h2⟩:=BD C[k] (zG gI)
  have ek:aR ((k:Int)+1)=(k:Int)+1:=dn (by omega)
  have CU:(aR ((k:Int)+1)).toNat=k+1:=by rw [ek];omega
  have hx:C[k].1.toNat<100:=by omega
  have hy:C[k].2.1.toNat<100:=by omega
  have oU:=i1.2 _ hx;have asy:(y2.1.getD i (0,[],0,())).2.2.1=rate:=hr;rw [hi];simp only [jd];rw [asy];obtain ⟨t1,t2⟩:=i1.set hx hy (aR (ent N C[k].1.toNat C[k].2.1.toNat+rate))
  have ZR:((C[k].1.toNat:Int),(C[k].2.1.toNat:Int)) ∉ (C.take k).map (fun c=>(c.1,c.2.1)):=by
   intro lG;obtain ⟨c',T9,e⟩:=List.mem_map.1 lG
   have e2:c'.2.1=C[k].2.1:=by
    have:c'.2.1=(C[k].2.1.toNat:Int):=congrArg (fun t:Int×Int=>t.2) e
    omega
   have hs:=List.pairwise_map.1 J3;obtain ⟨j',nR,vQ⟩:=List.mem_take_iff_getElem.1 T9
   have:=List.pairwise_iff_getElem.1 hs j' k (by omega) gI (by omega)
   exact this (by rw [vQ,e2])
  have hv:aR (ent N C[k].1.toNat C[k].2.1.toNat+rate)=ent M C[k].1.toNat C[k].2.1.toNat+rate:=by
   have h3:=i2 C[k].1.toNat C[k].2.1.toNat;rw [if_neg ZR] at h3;have h4:=hb C[k].1.toNat C[k].2.1.toNat;rw [h3,jc];omega
  refine aK (by omega) (by omega) (iI (by rw [i1.1];exact hx) (aK (by omega) (by rw [oU];omega) (iI (by rw [oU];exact hy) (aK (by omega) (by omega) (aK (by omega) (by rw [oU];omega) (iI (by rw [oU];exact hy) (ah ⟨gI,ek,t1,fun a b=>?_⟩)))))))
  show ent (N.set C[k].1.toNat ((N.getD C[k].1.toNat []).set C[k].2.1.toNat (aR (ent N C[k].1.toNat C[k].2.1.toNat+rate)))) a b=ent M a b+if ((a:Int),(b:Int))∈(C.take (aR ((k:Int)+1)).toNat).map (fun c=>(c.1,c.2.1)) then rate else 0
  rw [CU,t2,hv,List.take_add_one,iw gI,vO]
  by_cases he:C[k].1.toNat=a∧C[k].2.1.toNat=b
  ·rw [if_pos he,if_pos,he.1,he.2]
   refine List.mem_append_right _ (List.mem_map.2 ⟨C[k],by simp,?_⟩)
   rw [←he.1,←he.2,Int.toNat_of_nonneg (by omega),Int.toNat_of_nonneg (by omega)]
  ·rw [if_neg he,i2]
   congr 1
   have axJ:((a:Int),(b:Int))∈(C.take k).map (fun c=>(c.1,c.2.1))↔((a:Int),(b:Int))∈(C.take k).map (fun c=>(c.1,c.2.1))++(some C[k]).toList.map (fun c=>(c.1,c.2.1)):=by
    refine ⟨List.mem_append_left _,fun h=>?_⟩
    rcases List.mem_append.1 h with h | h
    ·exact h
    ·exfalso
     simp only [Option.toList_some,jy,List.map_nil,List.mem_singleton] at h
     have q1:(a:Int)=C[k].1:=congrArg (fun t:Int×Int=>t.1) h
     have q2:(b:Int)=C[k].2.1:=congrArg (fun t:Int×Int=>t.2) h
     exact he ⟨by omega,by omega⟩
   simp only [axJ]
 ·have c:¬ (k:Int)<(C.length:Int):=c
  rw [List.take_of_length_le (show C.length≤k by omega)] at i2
  exact i2
theorem ff {p:Prop} (h:true=false):p:=by cases h
theorem fg {p:Prop} (h:false=true):p:=by cases h
section
variable {m:Nat} {g:To} {e:List Ad}
def Tk (g:To) (ds:List Dm) (out:List Tr) (i:Nat) (M:List (List Int)):Prop:=Tb M∧∀ a b:Nat,0≤ent M a b∧ent M a b≤mg (whole g.2.1) ((a:Int),(b:Int),())-mg (zK g.2.1 ds out i) ((a:Int),(b:Int),())
theorem r4l (hg:gQ m g) (hm:m≤7) (he:K4 g e) (hn:Sz 64 e) {ds:List Dm} (hd:∀ d∈ds,Bu g d) (hl:ds.length≤12) {out:List Tr} (hP:Plc g ds out) (tp tq:Tp) {M:List (List Int)} (hM:Tb M) (hM0:∀ a b,ent M a b=0) :
 iA (Loop (@abt (g,tp) (ds,tq) (((64,e,()),0,()),()) ((out,0,()),())) (0,(M,()))) (fun y=>∃ M',y=(false,((false,()),(M',())))∧Tk g ds out ds.length M'):=by
 refine bH ds.length (fun s=>s.1) (fun s=>Tk g ds out s.1.toNat s.2.1) rfl ⟨hM,fun a b=>?_⟩ ?_
 ·show 0≤ent M a b∧ent M a b≤mg (whole g.2.1) _-mg (whole g.2.1) _
  rw [hM0];omega
 rintro ⟨i,M,⟨⟩⟩ k hk hle hI;obtain rfl:i=k:=hk;have hI:Tk g ds out k M:=hI;unfold abt;simp only [fQ,jd,List.drop_zero];rw [hP.len]
 refine aF (fun c=>aK (by omega) c ?_) fun c=>ah ⟨M,rfl,?_⟩
 ·have c:(k:Int)<(ds.length:Int):=c
  have gI:k<ds.length:=by omega
  have ek:aR ((k:Int)+1)=(k:Int)+1:=dn (by omega)
  have CU:(aR ((k:Int)+1)).toNat=k+1:=by rw [ek];omega
  have QT:=hP.rb hg hd k hle;have Jq:=hd _ (gK (d:=um) gI);have hPk:=hP.at_ k gI
  obtain ⟨x,hx⟩:∃ x,x=out.getD k vN:=⟨_,rfl⟩
  have VB:∀ h,mg (zK g.2.1 ds out (k+1)) h=if h∈x.2.1 then mg (zK g.2.1 ds out k) h-(ds.getD k um).2.2.1 else mg (zK g.2.1 ds out k) h:=by
   subst hx;exact (hPk.take hg Jq QT).2.2
  rw [←hx] at hPk
  simp only [show out.getD k (0,[],())=x from hx.symm]
  clear hx
  cases hPk with
  | none Le=>
   refine aF (fun _=>?_) fun c2=>absurd rfl c2
   refine mW (by rw [bL (show (0:Int)≤(k:Int) by omega),bL (show (k:Int)≤(ds.length:Int) by omega)];rfl) (aj (t22 hg hm hd hl hP hle) fun y5 hy5=>?_)
   subst hy5
   refine aK (by omega) c (aj (t23 hg hm QT Jq Le) fun y6 hy6=>?_)
   obtain ⟨w,rfl,hw⟩:=hy6
   refine aj (P:=fun y=>y=(false,())) (bX (fun _=>bX (fun _=>aK (by omega) c (ah ?_)) fun c=>ff c) fun c=>ff c) fun y7 hy7=>?_
   ·have hw:aA.has w (ds.getD k (0,[],0,())).1=true:=hw
    show (!aA.has w (ds.getD k (0,[],0,())).1,())=_;rw [hw];rfl
   subst hy7
   refine bX (fun c=>fg c) fun _=>ah ⟨gI,ek,?_⟩
   show Tk g ds out (aR ((k:Int)+1)).toNat M;rw [CU]
   refine ⟨hI.1,fun a b=>?_⟩
   rw [VB,if_neg (by simp)]
   exact hI.2 a b
  | @some L G h hp hs=>
   have Bf:=hg.rin _ Jq.root
   refine aF (fun c2=>?_) fun _=>?_
   ·have c2:(ds.getD k um).1=0:=c2
    omega
   have htr:=CY hg Jq.root h hp hs
   have acj:∀ h∈L,∃ a∈g.2.1.flatMap dV,a.1=h:=fun y hy=>by
    obtain ⟨a,ha,e⟩:=h.arcs y (hp.mem_iff.1 hy);exact ⟨a,(sj.1 ha).1,e⟩
   have hrc:∀ r∈(ds.getD k um).2.1,r∈kr (ds.getD k um).1 L:=fun r hr=>(List.Perm.cons _ (hp.map fun x=>x.2.1)).mem_iff.2 (h.iZ r hr)
   have asz:=Jq.len
   refine aK (by omega) c (aj (t11 hg hm he hn (ttl:=63) (by decide) htr acj Jq.up (by exact gX asz (by decide)) Jq.rcv hrc) fun y5 hy5=>?_)
   obtain ⟨b,rfl,nI,ku⟩:=hy5
   have hb:Bit e b fun k'=>iZ e k'∈jT (ds.getD k um).2.1 L:=⟨nI,fun j=>by rw [ku,mX]⟩
   refine aj (t24 hg hm he hn ⟨by have:=hg.len;omega,by decide⟩ htr acj Jq.root Jq.rcv hrc hb) fun y6 hy6=>?_
   obtain ⟨T,rfl,hT1,hT2,-,hT3,hT4,hT5⟩:=hy6
   refine aj (t16 g T (by omega) (by omega) Jq.up hT1) fun y7 hy7=>?_
   obtain ⟨s,rfl⟩:=hy7
   refine aj (P:=fun y=>y=(false,())) (bX (fun _=>bX (fun _=>aK (by omega) c (ah ?_)) fun c=>ff c) fun c=>ff c) fun y8 hy8=>?_
   ·show (!decide ((ds.getD k um).2.1=(ds.getD k um).2.1),())=_
    rw [bL rfl];rfl
   subst hy8
   refine bX (fun c=>fg c) fun _=>?_
   have hwb:=hg.whole.bd;have hrk:=QT.bd
   refine aj (r4t (i:=k) (rate:=(ds.getD k um).2.2.1) hI.1 (C:=T.2.1) rfl (by omega) (fun c hc=>htr.BD _ (hT4 c hc)) hT5 rfl gI rfl Jq.rate (fun a b=>?_)) fun y9 hy9=>?_
   ·have h1:=hI.2 a b
    have h2:=hwb ((a:Int),(b:Int),());have h3:=hrk ((a:Int),(b:Int),());omega
   ·obtain ⟨M',rfl,h1,h2⟩:=hy9
    refine ah ⟨gI,ek,?_⟩;show Tk g ds out (aR ((k:Int)+1)).toNat M';rw [CU]
    refine ⟨h1,fun a b=>?_⟩
    rw [h2,VB];have h3:=hI.2 a b;have h4:=Jq.rate
    by_cases lG:((a:Int),(b:Int))∈T.2.1.map (fun c=>(c.1,c.2.1))
    ·rw [if_pos lG]
     obtain ⟨c,hc,zI⟩:=List.mem_map.1 lG;have h5:=hT4 c hc
     have q1:c.1=(a:Int):=congrArg (fun t:Int×Int=>t.1) zI
     have q2:c.2.1=(b:Int):=congrArg (fun t:Int×Int=>t.2) zI
     rw [q1,q2] at h5;rw [if_pos h5];omega
    ·rw [if_neg lG]
     by_cases h5:(((a:Int),(b:Int),()):Hp)∈L
     ·rw [if_pos h5];omega
     ·rw [if_neg h5];omega
 ·have c:¬ (k:Int)<(ds.length:Int):=c
  have:k=ds.length:=by omega
  subst this;exact hI
theorem r4c (hg:gQ m g) {M:List (List Int)} (hM:Tb M) (hle:∀ a b:Nat,ent M a b≤mg (whole g.2.1) ((a:Int),(b:Int),())) (hm:m≤7) (tp:Tp) (z:qx) :
 iA (Loop (@abu (g,tp) (false,(z,(M,())))) (0,())) (fun y=>y=(false,((false,()),()))):=by
 have h49:g.2.1.length≤49:=gX hg.llen (Nat.mul_le_mul hm hm)
 refine bH g.2.1.length (fun s=>s.1) (fun _=>True) rfl trivial ?_
 rintro ⟨i,⟨⟩⟩ k hk aGS -;obtain rfl:i=k:=hk;unfold abu;simp only [fQ,jd]
 refine aF (fun c=>aK (by omega) c ?_) fun c=>ah rfl
 have c:(k:Int)<(g.2.1.length:Int):=c
 have gI:k<g.2.1.length:=by omega
 have ek:aR ((k:Int)+1)=(k:Int)+1:=dn (by omega)
 have Lg:g.2.1.getD k (0,0,0,0,0,())∈g.2.1:=gK gI
 obtain ⟨l,hl⟩:∃ l,l=g.2.1.getD k (0,0,0,0,0,()):=⟨_,rfl⟩
 simp only [←hl] at Lg ⊢;clear hl;obtain ⟨h1,h2,h3⟩:=hg.lend l Lg;have h1:=hg.rin _ h1;have h2:=hg.rin _ h2
 have Q9:=KZ hg.lup (fun l hl=>(hg.lend l hl).2.2) [] l Lg
 have hx:l.1.toNat<100:=by omega
 have hy:l.2.1.toNat<100:=by omega
 have Yq:=hM.2 _ hx;have Nf:=hM.2 _ hy;have q1:=hle l.1.toNat l.2.1.toNat;have q2:=hle l.2.1.toNat l.1.toNat
 rw [Int.toNat_of_nonneg (by omega),Int.toNat_of_nonneg (by omega)] at q1 q2
 have q1:(M.getD l.1.toNat []).getD l.2.1.toNat 0≤mg (g.2.1.foldl su []) (l.1,l.2.1,()):=q1;have q2:(M.getD l.2.1.toNat []).getD l.1.toNat 0≤mg (g.2.1.foldl su []) (l.2.1,l.1,()):=q2;rw [Q9.1] at q1;rw [Q9.2] at q2
 refine aj (P:=fun y=>y=(false,())) (aK (by omega) (by omega) (iI (by rw [hM.1];exact hx) (aK (by omega) (by rw [Yq];omega) (eH (fun _=>aK (by omega) (by omega) (iI (by rw [hM.1];exact hy) (aK (by omega) (by rw [Nf];omega) (ah ?_)))) fun c2=>?_)))) fun y hy=>?_
 ·rw [d9 (by omega)]
 ·exfalso;omega
 ·subst hy
  exact bX (fun c=>fg c) fun _=>ah ⟨gI,ek,trivial⟩
end
theorem af5 (l:List Int):wf (aA.tape l)=true:=by
 unfold wf aA.tape
 have:(l.take 2000).length≤2000:=by rw [List.length_take];omega
 rw [show ((l.take 2000,0,()):Tp).2.1=0 from rfl,show ((l.take 2000,0,()):Tp).1=l.take 2000 from rfl,bL this,bL (show (0:Int)≤0 by decide),bL (show (0:Int)≤((l.take 2000).length:Int) by omega)]
 rfl
theorem t4 (h8:iA aA.x8 (fun r=>r=(true,()))) (a:List Int):iA (x4 a) (fun r=>r=(true,())):=by
 unfold x4 r4
 refine aj (t18 (aA.tape a) 6 (by decide) (af5 a)) fun y1 h1=>?_
 obtain ⟨g,tp⟩:=y1;obtain ⟨hw,hg⟩:=h1;have hg:gQ 6 g:=hg
 refine aj (t19 tp g 6 (by decide) hw hg.pos) fun y2 h2=>?_
 obtain ⟨ds,tq⟩:=y2;obtain ⟨hw2,hd,hl⟩:=h2
 have hd:∀ d∈ds,Bu g d:=hd
 have hl:ds.length≤6:=hl
 refine aj (t20 hg (by decide)) fun y3 h3=>?_
 have Te:iA (Option.bind aA.x8 fun y4=>some y4) (fun r=>r=(true,())):=aj h8 fun y hy=>by subst hy;exact ah rfl
 rcases h3 with ⟨e,rfl⟩ | ⟨e,rfl,he1,he2⟩
 ·exact eH (fun _=>Te) fun c=>absurd (show (3:Int)=0 from c) (by decide)
 ·have he:=alV hg he1 he2
  refine eH (fun c=>absurd rfl c) fun _=>aj (t21 hg (by decide) hd (by omega)) fun y4 h4=>?_
  obtain ⟨out,rfl,hP⟩:=h4
  refine aj (P:=fun y=>y=(false,())) (bX (fun _=>ah ?_) fun c=>ff c) fun y5 h5=>?_
  ·show (!decide (Int.ofNat out.length=Int.ofNat ds.length),())=_
   rw [bL (by rw [hP.len])];rfl
  subst h5
  refine bX (fun c=>fg c) fun _=>aj r4z fun y6 h6=>?_
  obtain ⟨M,rfl,hM,hM0⟩:=h6
  refine aj (r4l hg (by decide) he ⟨.inl rfl,by omega⟩ hd (by omega) hP tp tq hM hM0) fun y7 h7=>?_
  obtain ⟨M',rfl,hT⟩:=h7
  refine bX (fun c=>fg c) fun _=>aj (r4c hg hT.1 (fun a b=>?_) (by decide) tp _) fun y8 h8=>?_
  ·have q1:=(hT.2 a b).2
   have q2:=(hP.rb hg hd ds.length (bT _)).bd ((a:Int),(b:Int),());omega
  subst h8
  exact bX (fun c=>fg c) fun _=>Te
theorem asB (x:Int):iA (pF [x]) (fun r=>r=(true,())):=by
 unfold pF ajn
 refine aj (P:=fun y=>y.1=false) ?_ fun y h=>by rw [h];exact ah rfl
 refine iq (fun s=>s.1=1) (fun _=>0) rfl ?_
 rintro ⟨i,⟨⟩⟩ h;obtain rfl:i=1:=h;unfold Mk;simp only [zC7];exact ah rfl
theorem af6:gQ 2 nY where
 pos:=by decide
 len:=by decide
 rin:=by decide
 rup:=by decide
 lin:=by decide
 lend:=by decide
 lup:=by decide
 llen:=by decide
abbrev e34:List Ad:=[(0,1,3,1,()),(1,1,1,2,()),(2,2,3,2,()),(3,2,1,1,())]
theorem ahd:K4 nY e34 where
 len:=by decide
 bit:=by decide
 kind:=by decide
 rin:=by decide
 nd:=by decide
 dl:=by decide
 lk:=by decide
theorem asC:Sz 8 e34:=⟨.inr rfl,by decide⟩
theorem asD:uy 1 [(1,2,())]:=⟨by decide,by decide,List.pairwise_singleton ..,[(1,2,())],.cons .nil (by simp) (by simp),.refl _⟩
theorem t68:iA (Np nY 1 [2]) (fun r=>r=(0,())):=by
 unfold Np r68
 have Na:lT (nY.1,nY.2.1,())=0:=af6.chk (by decide)
 rw [Na]
 refine bX (fun c=>fg c) fun _=>aj (asB 2) fun y hy=>?_
 subst hy
 refine bX (fun c=>fg c) fun _=>jF (by decide) (aj (P:=fun y=>y.1=false) ?_ fun y h=>?_)
 ·refine bH 2 (fun s=>s.1) (fun s=>s.2.1=[1,2]) rfl rfl ?_
  rintro ⟨i,l,⟨⟩⟩ k hk hle hI;obtain rfl:i=k:=hk;have hI:l=[1,2]:=hI;subst hI;unfold aaY;simp only [fQ,jd,lD,List.nil_append,List.length_nil]
  refine aF (fun c=>aK (by omega) (by omega) (iI (by omega) (bX (fun c2=>?_) fun c2=>ah ⟨by omega,dn (by omega),rfl⟩))) fun c=>ah rfl
  exfalso
  have hk:k<([1,2]:List Int).length:=by show k<2;omega
  have lG:([1,2]:List Int).getD k 0∈ids nY:=gK hk
  have:=af6.has (by decide) lG
  have c2:(!AU (nY.1,nY.2.1,()) (([1,2]:List Int).getD k 0))=true:=c2
  rw [show AU (nY.1,nY.2.1,()) (([1,2]:List Int).getD k 0)=true from this] at c2
  cases c2
 ·rw [h]
  exact ah rfl
abbrev a34:List Ar:=[((1,2,()),3,()),((2,1,()),1,())]
abbrev s34:List Ar:=fO (nY.2.1.flatMap dV)
theorem Ih:s34.Perm a34:=M9 _
theorem asF:nW s34=true:=by
 have h:nW a34=true:=by decide
 unfold nW at h ⊢;rw [dA] at h ⊢
 refine ⟨by rw [Ih.length_eq];exact h.1,List.all_eq_true.2 fun a ha=>List.all_eq_true.1 h.2 a (Ih.mem_iff.1 ha)⟩
def w34 (h:Hp):Int:=if h.1=1 then 3 else 1
theorem al2 {G:List Hp} (h:nM s34 1 [2] G) {L:List Hp} (hp:L.Perm G):L=[(1,2,())]:=by
 have hn:L.Nodup:=(hp.nodup_iff).2 h.grow.MZ
 have oO:∀ x∈L,x=(1,2,()):=by
  intro x hx;have hx:=hp.mem_iff.1 hx;obtain ⟨a,ha,rfl⟩:=h.arcs x hx;have h1:=(List.nodup_cons.1 h.grow.nodup).1
  rcases lC (Ih.mem_iff.1 ha) with rfl | ha
  ·rfl
  ·obtain rfl:=List.mem_singleton.1 ha
   exact absurd (List.mem_map.2 ⟨_,hx,rfl⟩) h1
 have h2:(2:Int)∈kr 1 G:=h.iZ 2 (by simp)
 cases L with
 | nil=>
  have:G=[]:=hp.symm.eq_nil;subst this;simp at h2
 | cons x L=>
  obtain rfl:=oO x (uD ..)
  cases L with
  | nil=>rfl
  | cons y L=>
   obtain rfl:=oO y (kE _ (uD ..));simp at hn
theorem t30:iA (Ms nY 1 [2]) (fun r=>r=(((1,[(1,2,())],()),3,0,()),())):=by
 unfold Ms r30
 refine aj t68 fun y hy=>?_
 subst hy
 refine eH (fun c=>absurd rfl c) fun _=>aF (fun c=>absurd c (by decide)) fun _=>aj (P:=fun y=>y=(s34,())) (vF (by decide) rfl) fun y hy=>?_
 ·subst hy
  refine aj (P:=fun y=>y=(([(1,2,())],3,true,()),())) ?_ fun y hy=>?_
  ·rcases Qh (l:=s34) (root:=1) (ts:=[2]) (w:=w34) asF (fun a ha=>(by decide:∀ a∈a34,w34 a.1=a.2.1) a (Ih.mem_iff.1 ha)) (by decide) (by decide) with ⟨G,L,h1,h2,h3,-,-⟩ | ⟨-,h2⟩
   ·obtain rfl:=al2 h1 h3
    exact ⟨_,h2,rfl⟩
   ·refine absurd ⟨[(1,2,())],?_⟩ h2
    exact ⟨.cons .nil (by simp) (by simp),fun h hh=>⟨((1,2,()),3,()),Ih.mem_iff.2 (by decide),(List.mem_singleton.1 hh).symm⟩,by decide⟩
  ·subst hy
   exact bX (fun c=>fg c) fun _=>ah rfl
theorem t8:iA aA.x8 (fun r=>r=(true,())):=by
 unfold aA.x8 r8
 refine aj t30 fun y0 h0=>?_
 subst h0
 refine aj (P:=fun y=>y=(((8,e34,()),0,()),())) (vF (by decide) rfl) fun y1 h1=>?_
 subst h1
 refine aj (t11 (n:=8) (ttl:=4) (rcv:=[2]) af6 (by decide) ahd asC (by decide) asD (by decide) (by decide) (by decide) (by decide) (by decide)) fun y2 h2=>?_
 obtain ⟨b,rfl,nI,ku⟩:=h2
 have hb:Bit e34 b fun k'=>iZ e34 k'∈jT [2] [(1,2,())]:=⟨nI,fun j=>by rw [ku,mX]⟩
 refine aj (t24 (n:=8) (t0:=4) (root:=1) (L:=[(1,2,())]) (rcv:=[2]) af6 (by decide) ahd asC (by decide) asD (by decide) (by decide) (by decide) (by decide) hb) fun y3 h3=>?_
 obtain ⟨T,rfl,hT1,-,hT3,-⟩:=h3;obtain ⟨D,C,Lo,⟨⟩⟩:=T
 have hD:D.map (fun d=>d.1)=[2]:=by
  have hT1:∀ x,x∈D.map (fun d=>d.1)↔x∈[2]:=hT1
  have hT3:(D.map fun d=>d.1).Nodup:=hT3
  generalize D.map (fun d=>d.1)=l at hT1 hT3
  cases l with
  | nil=>exact absurd ((hT1 2).2 (by simp)) (by simp)
  | cons x l=>
   have q1:x=2:=by simpa using (hT1 x).1 (uD ..)
   subst q1
   cases l with
   | nil=>rfl
   | cons y l=>
    have q2:y=2:=by simpa using (hT1 y).1 (kE _ (uD ..))
    subst q2;simp at hT3
 cases D with
 | nil=>cases hD
 | cons d D=>
  cases D with
  | cons _ _=>simp at hD
  | nil=>
   have hd:d.1=2:=by simpa using hD
   refine aj (P:=fun y=>y=(true,())) ?_ fun y hy=>by subst hy;exact ah rfl
   refine bX (fun _=>bX (fun _=>bX (fun _=>bX (fun _=>bX (fun _=>bX (fun _=>bX (fun _=>ah ?_) fun c=>ff c) fun c=>ff c) fun c=>ff c) fun c=>ff c) fun c=>ff c) fun c=>ff c) fun c=>ff c
   show (decide (d.1=2),())=_;rw [bL hd]
theorem af7 (a:List Int):iA (x4 a) (fun r=>r=(true,())):=t4 t8 a
theorem dM.weak {P:Program} {E:Env} {f:Nat} {c:cu} (H:dM P E f c) (F') (hF:∀ x y,F' x=some y→c.F x=some y):dM P E f { c with F:=F' }:=
 ⟨H.ok,fun h x y hx=>H.sem h x y (hF x y hx),H.aei,H.fn⟩
theorem axM:dM Tryz.prog B 4 c4:=glue (E:=E4) (iG _ _ _) rfl L8 axn aow Tryz.func4 (by kernel_rfl) fun x y r h=>Eq.trans (by kernel_rfl) h
theorem ok4:dM Tryz.prog B 4 { c4 with F:=fun _=>some (true,()) }:=dM.weak axM _ (by
 rintro ⟨⟨⟩,a0,⟨⟩⟩ y h;obtain ⟨q,e,rfl⟩:=af7 a0
 exact e.trans h)
end Go.dw.rO