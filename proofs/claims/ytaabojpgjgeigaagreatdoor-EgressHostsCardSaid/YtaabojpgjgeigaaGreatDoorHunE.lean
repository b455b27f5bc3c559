/- Chapter 29 (egress, hosts): proved is that further runs come to an end (engines, packets on their way, topologies), what they hold, and the law; no conditions but those that each theorem states. -/
import Derived.Test.YtaabojpgjgeigaaGreatDoorHunD
import Derived.KernelRfl
set_option linter.unusedVariables false
set_option linter.unusedSimpArgs false
namespace Go.gI.qJ
open Go Go.Proofs ah
set_option maxRecDepth 100000
theorem t38 (t:Tp) (s:Sc) (hw:wf t=true):dS (x38 t s) (fun r=>wf r.2=true):=by
 obtain ⟨a0,a1,⟨⟩⟩:=t;unfold x38 r38;simp only [bK]
 refine ak (P:=fun y=>wf y.1=true∧(y.2.1=false→0<s.2.2.2.2.2.1.length)) (bE (fun c=>ak (fV 30 hw) fun y k=>aj ⟨k.1,fun _=>by omega⟩) fun _=>aj ⟨hw,fun e=>by cases e⟩) fun jP k11=>au (fun _=>ak (jf [0,1,2,99] k11.1 (by rw [k11.1];rfl) (by decide)) fun y k=>aj k.1) fun c=>ak (fV _ k11.1) fun pX k12=>aF k12.2.1 (by have:=k12.2.2;have:=k11.2 c;omega) (aj k12.1)
theorem t19 (t:Tp) (hw:wf t=true):dS (x19 t) (fun r=>wf r.2=true):=by
 obtain ⟨a0,a1,⟨⟩⟩:=t;unfold x19 r19
 exact ak (jJ 1 6 hw (by decide) (by decide)) fun y2 k2=>ak (jJ 1 20 k2.1 (by decide) (by decide)) fun y3 k3=>ak (jJ 1 99 k3.1 (by decide) (by decide)) fun y4 k4=>ak (jf [y2.1,y3.1,y4.1] k4.1 (by rw [k4.1];rfl) (by simp)) fun y5 k5=>ak (jJ 1 4 k5.1 (by decide) (by decide)) fun y6 k6=>ak (fV 30 k6.1) fun y7 k7=>ak (P:=fun y=>wf y.2.1=true) (au (fun _=>ak (jf [0,1,100] k7.1 (by rw [k7.1];rfl) (by decide)) fun y8 k8=>ak (jf [0,1,100] k8.1 (by rw [k8.1];rfl) (by decide)) fun y9 k9=>aj k9.1) fun _=>aj k7.1) fun y8 k8=>aj k8
theorem t139 (o:Ov) (r:Int) (h:o.1.length≤1000):dS (R8 o r) (fun _=>True):=by
 obtain ⟨a0,a1,a2,⟨⟩⟩:=o;have h:a0.length≤1000:=h;unfold R8 ahT
 refine ak (P:=fun _=>True) (aJ a0.length (fun s=>s.1) (fun _=>True) rfl trivial ?_) fun y _=>au (fun _=>aj trivial) fun _=>aj trivial
 rintro ⟨i,⟨⟩⟩ k hk hle -;obtain rfl:i=k:=hk;unfold LW;simp only [bK,dG]
 exact aB (fun c=>aF (by omega) (by omega) (au (fun _=>aj trivial) fun _=>aj ⟨by omega,aG (by omega),trivial⟩)) fun _=>aj trivial
theorem aqR (l:Li) (r:Int) {f:Nat} (hl:pG f l) (hf:f≤1000000000000):dS (Xe l r) (fun r=>r.1.1.2.2.2.1.length≤f):=by
 have aqS:=t124 l hl hf;obtain ⟨a0,a1,a2,⟨⟩⟩:=l;obtain ⟨h2,h3⟩:=hl;have h2:a2.length≤1000:=h2
 have h3:∀ h∈a2,h.2.2.2.1.length≤f:=h3
 unfold Xe ahU
 refine ak aqS fun y4 _=>ak (P:=fun y=>y.1=true→y.2.1.2.1.2.2.2.1.length≤f) (au (fun _=>ak (P:=fun y=>y.1=true→y.2.1.2.1.2.2.2.1.length≤f) (aJ a2.length (fun s=>s.2.1) (fun _=>True) rfl trivial ?_) fun y5 k5=>au (fun c=>aj fun _=>k5 c) fun _=>aj fun e=>by cases e) fun _=>aj fun e=>by cases e) fun y5 k5=>au (fun c=>aj (k5 c)) fun _=>aj (fG _)
 rintro ⟨e,i,⟨⟩⟩ k hk hle -;obtain rfl:i=k:=hk;unfold LX;simp only [bK,dG]
 exact aB (fun c=>aF (by omega) (by omega) (au (fun _=>aj fun _=>h3 _ (getD_in (by omega))) fun _=>aj ⟨by omega,aG (by omega),trivial⟩)) fun _=>aj fun e=>by cases e
theorem aqT (l:Li) (r:Int) {f:Nat} (hl:pG f l) (hf:f≤1000000000000):dS (Xf l r) (fun r=>r.1.length≤99):=by
 unfold Xf ahV
 exact ak (aqR _ r hl hf) fun y4 k4=>ak (t79 _ (jQ k4 hf)) fun y5 k5=>aj k5
theorem t141 (l:List Wa) (w:Fw) (hl:l.length≤1000):dS (Xh l w) (fun _=>True):=by
 unfold Xh ahX
 exact ak (P:=fun _=>True) (ak (t77 l) fun y _=>au (fun _=>ak (TS l _ (by omega)) fun y4 _=>aj trivial) fun _=>aj trivial) fun y _=>aj trivial
theorem aqU (o:Ov) (r g:Int) {n f:Nat} (h:kY n f o) (hn:n≤1000000000000) (hf:f≤1000000000000):dS (Xg o r g) (fun r=>r.1.1.length≤99):=by
 have e76:=t76 o r h.s;have aqV:=t76 o g h.s;obtain ⟨a0,a1,a2,⟨⟩⟩:=o;have h1:a0.length≤1000:=h.s
 have hsi:∀ s∈a0,pY n s:=h.si
 have Zt:∀ l∈a1,pG f l:=h.li
 unfold Xg ahW;dsimp only
 refine ak (t67 _ h hn hf) fun y5 hy=>bE (fun _=>aj (fG _)) fun c0=>?_
 have hl:a1.length=a0.length:=(hy c0).l;rw [e76,aqV];simp only [gL,bK]
 have hi:=uz (fun s:Sk=>decide (s.1=r)) a0
 have hi':=uz (fun s:Sk=>decide (s.1=g)) a0
 generalize ah.idx (fun s:Sk=>decide (s.1=r)) a0=k at hi ⊢
 generalize ah.idx (fun s:Sk=>decide (s.1=g)) a0=j at hi' ⊢
 refine ak (P:=fun y=>y.1=false→0≤k∧0≤j) (bE (fun c=>aj fun e=>⟨by omega,by have:=of_decide_eq_false e;omega⟩) fun _=>aj fun e=>by cases e) fun y8 k8=>au (fun _=>aj (fG _)) fun c=>?_
 obtain ⟨q1,q2⟩:=k8 c
 refine au (fun _=>aF (by omega) (by omega) (ak (t79 _ ?_) fun y9 k9=>aj k9)) fun _=>aF (by omega) (by omega) (ak (aqT _ _ (Zt _ (getD_in (by omega))) hf) fun y9 k9=>aj k9)
 have:=(hsi _ (getD_in (d:=((0,(0,(0,([],([],()))))):Sk)) (show j.toNat<a0.length by omega))).1
 omega
theorem IB (b:Int) (out:List SB) (x:Int):(fD b out x).length≤out.length+1:=by
 unfold fD;dsimp only;rw [List.length_set];generalize (decide (out.length=0) || !decide ((out.getD (out.length - 1) zS).1=(place x b).1))=c
 cases c<;>simp
theorem IC (p:Pn) (l:List Int):(sets p l).1.length≤l.length:=by
 have key:∀ (l:List Int) (out:List SB),(l.foldl (fD p.2.1) out).length≤out.length+l.length:=by
  intro l
  induction l with
  | nil=>intro out;exact dQ _
  | cons x r ih=>
   intro out;have h1:=ih (fD p.2.1 out x);have h2:=IB p.2.1 out x;rw [List.foldl_cons,List.length_cons];omega
 unfold sets
 cases !dZ p with
 | true=>exact fG _
 | false=>cases !yE l with
  | true=>exact fG _
  | false=>cases l.any (fun id=>!yK p id) with
   | true=>exact fG _
   | false=>have:=key l [];simpa using this
theorem t88 (o:Ov) (p:Pn) (r:Int) (w:Fw) {n f:Nat} (h:kY n f o) (hn:n≤1000000000000) (hf:f≤1000000000000) (hp:p.2.2.1.length≤1000):dS (x88 o p r w) (fun y=>y.1.1.length≤1000):=by
 have k67:=t67 o h hn hf
 have akK:=fun r=>t139 o r h.s
 have aqW:=fun r g=>aqU o r g h hn hf
 obtain ⟨a0,a1,a2,⟨⟩⟩:=o;obtain ⟨p0,p1,es,⟨⟩⟩:=p;obtain ⟨w0,w1,⟨⟩⟩:=w;have hp:es.length≤1000:=hp;unfold x88 r88;dsimp only
 refine ak k67 fun y9 _=>au (fun _=>aj (fG _)) fun _=>au (fun _=>aj (fG _)) fun _=>au (fun _=>aj (fG _)) fun _=>ak (akK r) fun mq _=>au (fun _=>aj (fG _)) fun _=>ak (P:=fun y=>y.1.length≤1000) (aJ es.length (fun s=>s.2.1) (fun s=>(s.1.length:Int)≤s.2.1) rfl (Int.le_refl _) ?_) fun jP k11=>aj k11
 rintro ⟨l,i,⟨⟩⟩ k hk hle i1;obtain rfl:i=k:=hk;have i1:(l.length:Int)≤(k:Int):=i1;unfold R9;simp only [bK,dG]
 refine aB (fun c=>aF (by omega) (by omega) (ak (P:=fun _=>True) (bE (fun _=>ak (akK _) fun y8 _=>aj trivial) fun _=>aj trivial) fun y8 _=>au (fun _=>aj ⟨by omega,aG (by omega),?_⟩) fun _=>ak (aqW _ _) fun y9 k9=>ak (P:=fun _=>True) (au (fun _=>ak (t141 _ _ (by omega)) fun mq _=>aj trivial) fun _=>aj trivial) fun mq _=>ak (P:=fun y=>y.1.length≤l.length+1) (au (fun _=>bF (by omega) (aj (by simp))) fun _=>aj (Nat.le_succ _)) fun jP k11=>aj ⟨by omega,aG (by omega),?_⟩)) fun c=>aj (by show l.length≤1000;omega)
 ·show (l.length:Int)≤IntKind.wrap .i64 ((k:Int)+1);rw [aG (by omega)];omega
 ·show (jP.1.length:Int)≤IntKind.wrap .i64 ((k:Int)+1);rw [aG (by omega)];omega
abbrev zT:Tb:=(0,(0,(0,([],()))))
structure ad4 (l:List Tb):Prop where
 len:l.length≤24
 ok:∀ t∈l,sD t=0
 sm:∀ t∈l,t.2.1=(l.getD 0 zT).2.1∧t.2.2.1=(l.getD 0 zT).2.2.1
theorem t143 (l:List Tb):dS (Xi l) (fun r=>r.1=0→ad4 l):=by
 unfold Xi ahY
 refine aB (fun _=>aj fun e=>absurd (show (3:Int)=0 from e) (by decide)) fun c0=>?_
 have h24:l.length≤24:=by simp only [bK] at c0;omega
 refine ak (P:=fun y=>(y.1=true→y.2.1.1≠0)∧(y.1=false→∀ j:Nat,j<l.length→sD (l.getD j zT)=0)) (aJ l.length (fun s=>s.1) (fun s=>∀ j:Nat,(j:Int)<s.1→sD (l.getD j zT)=0) rfl (fun j hj=>absurd hj (by show ¬ (j:Int)<0;omega)) ?_) fun y1 k1=>au (fun c=>aj fun e=>absurd e (k1.1 c)) fun c1=>?_
 ·rintro ⟨i,⟨⟩⟩ k hk hle hI
  obtain rfl:i=k:=hk
  have hI:∀ j:Nat,(j:Int)<(k:Int)→sD (l.getD j zT)=0:=hI
  unfold LY;simp only [bK,dG]
  refine aB (fun c=>aF (by omega) (by omega) (bE (fun _=>aj ⟨fun _=>by show (1:Int)≠0;decide,fun e=>by cases e⟩) fun c2=>aj ⟨by omega,aG (by omega),fun j hj=>?_⟩)) fun c=>aj ⟨fun e=>(by cases e),fun _ j hj=>hI j (by omega)⟩
  have hj:(j:Int)<IntKind.wrap .i64 ((k:Int)+1):=hj
  rw [aG (by omega)] at hj
  by_cases e:j=k
  ·rw [e];exact c2
  ·exact hI j (by omega)
 have f1:=k1.2 c1
 refine ak (P:=fun y=>y.1=true→y.2.1.1≠0) (iM (fun s=>1≤s.1) (fun s=>((l.length:Int) - s.1).toNat) (Int.le_refl _) ?_) fun y2 k2=>au (fun c=>aj fun e=>absurd e (k2 c)) fun _=>?_
 ·rintro ⟨i,⟨⟩⟩ h1
  have h1:1≤i:=h1;unfold LZ;simp only [bK]
  refine aB (fun c=>aF (by simp only [bW];omega) (by simp only [bW];omega) (aF (by omega) (by omega) (au (fun _=>aj fun _=>by show (25:Int)≠0;decide) fun _=>aj ⟨?_,?_⟩))) fun c=>aj fun e=>by cases e
  ·show 1≤IntKind.wrap .i64 (i+1);simp only [bW];omega
  ·show ((l.length:Int) - IntKind.wrap .i64 (i+1)).toNat<((l.length:Int) - i).toNat;simp only [bW];omega
 refine ak (P:=fun y=>(y.1=true→y.2.1.1≠0)∧(y.1=false→∀ j:Nat,j<l.length→(l.getD j zT).2.1=(l.getD 0 zT).2.1∧(l.getD j zT).2.2.1=(l.getD 0 zT).2.2.1)) (iM (fun s=>1≤s.1∧∀ j:Nat,(j:Int)<s.1→(l.getD j zT).2.1=(l.getD 0 zT).2.1∧(l.getD j zT).2.2.1=(l.getD 0 zT).2.2.1) (fun s=>((l.length:Int) - s.1).toNat) ⟨Int.le_refl _,fun j hj=>?_⟩ ?_) fun y3 k3=>au (fun c=>aj fun e=>absurd e (k3.1 c)) fun c3=>aj fun _=>⟨h24,fun t ht=>?_,fun t ht=>?_⟩
 ·have hj:(j:Int)<1:=hj
  obtain rfl:j=0:=by omega
  exact ⟨rfl,rfl⟩
 ·rintro ⟨i,⟨⟩⟩ ⟨h1,h2⟩
  have h1:1≤i:=h1
  have h2:∀ j:Nat,(j:Int)<i→(l.getD j zT).2.1=(l.getD 0 zT).2.1∧(l.getD j zT).2.2.1=(l.getD 0 zT).2.2.1:=h2
  unfold Ma;simp only [bK]
  refine aB (fun c=>ak (P:=fun y=>y.1=false→(l.getD i.toNat zT).2.1=(l.getD 0 zT).2.1∧(l.getD i.toNat zT).2.2.1=(l.getD 0 zT).2.2.1) ?_ fun y2 k2=>au (fun _=>aj ⟨fun _=>by show (8:Int)≠0;decide,fun e=>by cases e⟩) fun c2=>aj ⟨⟨?_,fun j hj=>?_⟩,?_⟩) fun c=>aj ⟨fun e=>(by cases e),fun _ j hj=>h2 j (by omega)⟩
  ·have g0:(true&&decide (0<(l.length:Int)))=true:=by rw [Bool.true_and];exact fB (by omega)
   refine aF (by omega) (by omega) (jI g0 (au (fun c3=>aF (by omega) (by omega) (jI g0 (aj fun e=>⟨?_,?_⟩))) fun _=>aj fun e=>by cases e))
   ·rw [Bool.not_not] at c3
    exact of_decide_eq_true c3
   ·have e:(!decide ((l.getD i.toNat zT).2.2.1=(l.getD 0 zT).2.2.1))=false:=e
    by_cases q:(l.getD i.toNat zT).2.2.1=(l.getD 0 zT).2.2.1
    ·exact q
    ·rw [jM q] at e;cases e
  ·show 1≤IntKind.wrap .i64 (i+1);simp only [bW];omega
  ·have hj:(j:Int)<IntKind.wrap .i64 (i+1):=hj
   rw [bW] at hj
   by_cases e:(j:Int)=i
   ·have:=k2 c2
    rw [←e,dG] at this;exact this
   ·exact h2 j (by omega)
  ·show ((l.length:Int) - IntKind.wrap .i64 (i+1)).toNat<((l.length:Int) - i).toNat;simp only [bW];omega
 ·obtain ⟨j,hj,rfl⟩:=List.getElem_of_mem ht
  have:=f1 j hj;rw [getD_at hj] at this;exact this
 ·obtain ⟨j,hj,rfl⟩:=List.getElem_of_mem ht
  have:=k3.2 c3 j hj;rw [getD_at (l:=l) (i:=j) hj] at this;exact this
theorem t92 (l:List Tb) (r:Int) (hl:l.length≤24):dS (x92 l r) (fun y=>y.1.2.1=true→y.1.1∈l∧y.1.1.1=r):=by
 unfold x92 r92
 refine ak (P:=fun y=>y.1=true→y.2.1.1∈l∧y.2.1.1.1=r) (aJ l.length (fun s=>s.2.1) (fun _=>True) rfl trivial ?_) fun y2 k2=>au (fun c=>aj fun _=>k2 c) fun _=>aj fun e=>by cases e
 rintro ⟨z,i,⟨⟩⟩ k hk hle -;obtain rfl:i=k:=hk;unfold Sb;simp only [bK,dG]
 exact aB (fun c=>aF (by omega) (by omega) (aB (fun c2=>aF (by omega) (by omega) (aj fun _=>⟨getD_in (by omega),c2⟩)) fun _=>aj ⟨by omega,aG (by omega),trivial⟩)) fun _=>aj fun e=>by cases e
theorem aah {p:Prop} {i:Decidable p} (c:(!!@decide p i)=true):p:=by
 cases i with
 | isTrue h=>exact h
 | isFalse h=>cases c
theorem akL {p:Prop} {i:Decidable p} (c:(!@decide p i)=false):p:=by
 cases i with
 | isTrue h=>exact h
 | isFalse h=>cases c
structure Goes (l:List Tb) (k:Pk):Prop extends ad4 l where
 v:dz k=true
 m:k.1≠2
 e:∀ t∈l,t.2.1=sd k∧t.2.2.1=ln k
theorem t91 (l:List Tb) (k:Pk) (r:Int):dS (x91 l k r) (fun y=>y.1=0→Goes l k):=by
 obtain ⟨b1,b2,b3,b4,b5,b6,b7,b8,b9,b10,⟨⟩⟩:=k;unfold x91 r91
 refine ak (P:=fun y=>y.1=false→ad4 l∧dz (b1,b2,b3,b4,b5,b6,b7,b8,b9,b10,())=true) (ak (t143 l) fun pX k12=>au (fun c=>aj fun e=>⟨k12 (aah c),?_⟩) fun _=>aj fun e=>by cases e) fun pX k12=>au (fun _=>aj fun e=>absurd (show (1:Int)=0 from e) (by decide)) fun c=>?_
 ·have e:(!dz (b1,b2,b3,b4,b5,b6,b7,b8,b9,b10,()))=false:=e
  cases q:dz (b1,b2,b3,b4,b5,b6,b7,b8,b9,b10,()) with
  | true=>rfl
  | false=>rw [q] at e;cases e
 obtain ⟨h1,h2⟩:=k12 c
 refine ak (t92 l r h1.len) fun y13 k13=>au (fun _=>aj fun e=>absurd (show (4:Int)=0 from e) (by decide)) fun c1=>aB (fun _=>aj fun e=>absurd (show (7:Int)=0 from e) (by decide)) fun c2=>ak (P:=fun y=>y.1=false→b2=y13.1.1.2.1∧b4=y13.1.1.2.2.1) (au (fun c=>aj fun e=>⟨aah c,akL e⟩) fun _=>aj fun e=>by cases e) fun iV k14=>au (fun _=>aj fun e=>absurd (show (8:Int)=0 from e) (by decide)) fun c3=>aj fun _=>⟨h1,h2,c2,fun t ht=>?_⟩
 have q1:y13.1.2.1=true:=by
  cases q:y13.1.2.1 with
  | true=>rfl
  | false=>rw [q] at c1;cases c1
 obtain ⟨m1,m2⟩:=k13 q1;have s1:=h1.sm t ht;have s2:=h1.sm _ m1;obtain ⟨e1,e2⟩:=k14 c3;exact ⟨s1.1.trans (s2.1.symm.trans e1.symm),s1.2.trans (s2.2.symm.trans e2.symm)⟩
structure TrN (N:Nat) (tr:Tr):Prop where
 d:tr.1.length≤64*N
 c:tr.2.1.length≤99*N
 l:tr.2.2.1.length≤N
theorem t94 (tr:Tr) (r:Int) (k:Pk) (o:Oc) {N:Nat} (h:TrN N tr) (hN:N≤1000000) (hc:o.2.2.1.length≤99):dS (x94 tr r k o) (fun y=>TrN (N+1) y.1):=by
 have hk:=OG r o k;obtain ⟨d,c,l,⟨⟩⟩:=tr;obtain ⟨o1,o2,cs,⟨⟩⟩:=o;obtain ⟨b1,b2,b3,b4,b5,b6,b7,b8,b9,b10,⟨⟩⟩:=k;obtain ⟨h1,h2,h3⟩:=h;have h1:d.length≤64*N:=h1;have h2:c.length≤99*N:=h2;have h3:l.length≤N:=h3;have hc:cs.length≤99:=hc;have hk:(uf r (o1,o2,cs,()) (b1,b2,b3,b4,b5,b6,b7,b8,b9,b10,())).length≤64:=hk;unfold x94 r94;dsimp only
 refine bF (by omega) (ak (P:=fun y=>y.1.1.length≤64*(N+1)∧y.1.2.1=c∧y.1.2.2.1.length≤N+1) (au (fun _=>bF (by omega) (aj ⟨?_,rfl,?_⟩)) fun _=>aj ⟨?_,rfl,?_⟩) fun lC k17=>ak (P:=fun y=>TrN (N+1) y.1) (aJ cs.length (fun s=>s.2.1) (fun s=>s.1.1=lC.1.1∧s.1.2.2=lC.1.2.2∧(s.1.2.1.length:Int)≤(c.length:Int)+s.2.1) rfl ⟨rfl,rfl,by show ((lC.1.2.1.length:Nat):Int)≤(c.length:Int)+0;rw [k17.2.1];omega⟩ ?_) fun Us k18=>aj k18)
 ·show (_++_:List Dl).length≤_;rw [kZ];omega
 ·show (_++[_]:List Lo).length≤_;rw [kZ,FL];omega
 ·show (_++_:List Dl).length≤_;rw [kZ];omega
 ·show l.length≤_;omega
 rintro ⟨⟨d',c',l',⟨⟩⟩,i,⟨⟩⟩ k hk hle ⟨i1,i2,i3⟩;obtain rfl:i=k:=hk;have i1:d' = lC.1.1:=i1;have i2:(l',())=lC.1.2.2:=i2;have i3:(c'.length:Int)≤(c.length:Int)+(k:Int):=i3;unfold Sd;simp only [bK,dG]
 refine aB (fun c=>aF (by omega) (by omega) (aF (by omega) (by omega) (bF (by omega) (aj ⟨by omega,aG (by omega),i1,i2,?_⟩)))) fun c=>aj ⟨by show d'.length≤_;rw [i1];exact k17.1,by show c'.length≤_;omega,by show (l',()).1.length≤_;rw [i2];exact k17.2.2⟩
 show ((c'++[_]:List Cr).length:Int)≤_+IntKind.wrap .i64 ((k:Int)+1)
 rw [aG (by omega),kZ,FL];omega
end Go.gI.qJ
namespace Go.gI.qJ
open Go Go.Proofs ah ah.Bt
set_option maxRecDepth 100000
theorem Zf {α:Type} (key:α→Int):∀ (K:List Int) (L:List α),K.Nodup→(K.map fun k=>(L.filter fun x=>decide (key x=k)).length).sum≤L.length:=by
 intro K
 induction K with
 | nil=>intro L _;exact fG _
 | cons k K ih=>
  intro L hK;obtain ⟨h1,h2⟩:=List.nodup_cons.mp hK
  have e:=ih (L.filter fun x=>!decide (key x=k)) h2
  rw [List.map_cons,List.sum_cons]
  have e2:(K.map fun j=>((L.filter fun x=>!decide (key x=k)).filter fun x=>decide (key x=j)).length)=K.map fun j=>(L.filter fun x=>decide (key x=j)).length:=by
   refine List.map_congr_left fun j hj=>?_
   rw [List.filter_filter]
   congr 1
   refine List.filter_congr fun x _=>?_
   by_cases q:key x=j
   ·have:key x≠k:=fun e=>h1 (by rw [←e,q];exact hj)
    simp [q,this];intro e;exact this (q.trans e)
   ·simp [q]
  rw [e2] at e
  have e3:(L.filter fun x=>decide (key x=k)).length+(L.filter fun x=>!decide (key x=k)).length=L.length:=by
   clear e e2 ih
   induction L with
   | nil=>rfl
   | cons x r ih=>by_cases q:key x=k<;>simp [q] at ih ⊢<;>omega
  omega
def wt (k:Pk):Nat:=(ah.tl k+1).toNat*(ones (bt k)).length+1
theorem ad5 (n w:Cp→Nat) (T:Nat):∀ cs:List Cp,(∀ c∈cs,w c≤T*n c+1∧1≤n c)→(cs.map w).sum≤(T+1)*(cs.map n).sum:=by
 intro cs
 induction cs with
 | nil=>intro _;exact fG _
 | cons c r ih=>
  intro h;have h1:=h c (List.mem_cons_self ..)
  have h2:=ih fun x hx=>h x (oH _ hx)
  rw [List.map_cons,List.sum_cons,List.map_cons,List.sum_cons,Nat.mul_add]
  have e:(T+1)*n c=T*n c+n c:=by rw [Nat.add_mul,Nat.one_mul]
  omega
structure DK (l:List Tb) (k:Pk):Prop where
 v:dz k=true
 u:U (bt k)
 e:∀ t∈l,t.2.2.1=ln k
theorem ride {l:List Tb} {k:Pk} (h:DK l k) {t:Tb} (ht:t∈l) (hb:sD t=0):(∀ c∈(sF t k).2.2.1,DK l c.2.1.2.1)∧((sF t k).2.2.1.map fun c=>wt c.2.1.2.1).sum+1≤wt k∧(sF t k).2.2.1.length≤64:=by
 have F:qQ t k:=⟨rX.1 hb,h.v,h.e t ht⟩;have I:=YE F h.u;have hc:=I.cps;have hn:=I.nd;have htt:=I.tt
 have hc:∀ c∈(sF t k).2.2.1,∃ g,c=(c.1,([],pkB k g,()),())∧U g∧g≠0∧c.1≠0∧c.1≠t.1∧(∀ i,i<64→tb g i=(tb (bt k) i&&decide (hp t k i=c.1)))∧_:=hc
 have hn:((sF t k).2.2.1.map fun c=>c.1).Nodup:=hn
 have htt:(sF t k).2.2.1≠[]→ah.tl k≠0:=htt;generalize (sF t k).2.2.1=cs at hc hn htt ⊢;have fk:=lG.1 h.v;have htl:0≤ah.tl k∧ah.tl k≤63:=fk.2.2.2.2.1
 have n1:∀ c∈cs,wt c.2.1.2.1≤(ah.tl k).toNat*((ones (bt k)).filter fun i=>decide (hp t k i=c.1)).length+1∧1≤((ones (bt k)).filter fun i=>decide (hp t k i=c.1)).length:=by
  intro c hcc;obtain ⟨g,e,gu,g0,_,_,gb,_⟩:=hc c hcc
  have eo:ones g=(ones (bt k)).filter fun i=>decide (hp t k i=c.1):=by
   unfold ones;rw [List.filter_filter]
   refine List.filter_congr fun i hi=>?_
   rw [gb i (List.mem_range.mp hi),Bool.and_comm]
  rw [←eo];constructor
  ·rw [e]
   show (ah.tl k - 1+1).toNat*(ones g).length+1≤_
   rw [show ah.tl k - 1+1=ah.tl k from by omega]
   exact dQ _
  ·refine Nat.pos_of_ne_zero fun z=>g0 (BK gu z)
 have hp1:=Zf (fun i=>hp t k i) (cs.map fun c=>c.1) (ones (bt k)) hn
 rw [List.map_map] at hp1
 have hs:=ad5 (fun c=>((ones (bt k)).filter fun i=>decide (hp t k i=c.1)).length) (fun c=>wt c.2.1.2.1) (ah.tl k).toNat cs n1
 have hp2:(cs.map fun c=>((ones (bt k)).filter fun i=>decide (hp t k i=c.1)).length).sum≤(ones (bt k)).length:=hp1
 refine ⟨fun c hcc=>?_,?_,?_⟩
 ·obtain ⟨g,e,gu,g0,_,_,gb,_⟩:=hc c hcc
  have t0:=htt (List.ne_nil_of_mem hcc)
  have gl:g≤bt k:=Dy gu h.u fun i hi q=>by
   rw [gb i hi] at q;exact (bP _ _▸q).1
  rw [e];refine ⟨lG.2 ⟨fk.1,fk.2.1,fk.2.2.1,⟨fk.2.2.2.1.1,?_⟩,⟨?_,?_⟩,fk.2.2.2.2.2⟩,gu,h.e⟩
  ·have:=fk.2.2.2.1.2
   show g<_;exact Int.lt_of_le_of_lt gl this
  ·show 0≤ah.tl k - 1;omega
  ·show ah.tl k - 1≤63;omega
 ·have e:(ah.tl k+1).toNat=(ah.tl k).toNat+1:=by omega
  unfold wt at hs ⊢;rw [e];have:=Nat.mul_le_mul_left ((ah.tl k).toNat+1) hp2;omega
 ·have q:cs.length≤(cs.map fun c=>((ones (bt k)).filter fun i=>decide (hp t k i=c.1)).length).sum:=by
   clear hs hp2 hp1 hn htt hc
   induction cs with
   | nil=>exact fG _
   | cons c r ih=>
    have h1:=(n1 c (List.mem_cons_self ..)).2
    have h2:=ih fun x hx=>n1 x (oH _ hx)
    rw [List.length_cons,List.map_cons,List.sum_cons];omega
  have:=mD (bt k);omega
abbrev zQ:Cp:=(0,(([],((0,(0,(0,(0,(0,(0,(0,(0,(0,([],())))))))))),())),()))
theorem aai {k:Pk} (h:dz k=true):wt k≤4097:=by
 have fk:=(lG.1 h).2.2.2.2.1;have h1:=mD (bt k);have h2:0≤ah.tl k∧ah.tl k≤63:=fk;unfold wt
 have:=Nat.mul_le_mul (show (ah.tl k+1).toNat≤64 by omega) h1
 omega
theorem ad6 (cs:List Cp):cs.length≤(cs.map fun c=>wt c.2.1.2.1).sum:=by
 induction cs with
 | nil=>exact fG _
 | cons c r ih=>
  rw [List.length_cons,List.map_cons,List.sum_cons];have:1≤wt c.2.1.2.1:=Nat.le_add_left ..;omega
theorem t40 (l:List Tb) (k:Pk) (r:Int) (hu:U (bt k)):dS (x40 l k r) (fun y=>y.1.1.1.length≤262208):=by
 have k91:=t91 l k r;obtain ⟨b1,b2,b3,b4,b5,b6,b7,b8,b9,b10,⟨⟩⟩:=k;unfold x40 r40;dsimp only
 refine ak k91 fun pX k12=>bE (fun _=>aj (fG _)) fun c0=>?_
 have G:=k12 c0;have hw:wt (b1,b2,b3,b4,b5,b6,b7,b8,b9,b10,())≤4097:=aai G.v
 refine ak (P:=fun y=>y.1.1.length≤262208) (aJ (wt (b1,b2,b3,b4,b5,b6,b7,b8,b9,b10,())) (fun s=>s.2.1) (fun s=>(∀ c∈s.2.2.1,DK l c.2.1.2.1)∧s.2.1.toNat+((s.2.2.1.drop s.2.1.toNat).map fun c=>wt c.2.1.2.1).sum≤wt (b1,b2,b3,b4,b5,b6,b7,b8,b9,b10,())∧TrN s.2.1.toNat s.1) rfl ⟨fun c hc=>?_,?_,⟨fG _,fG _,fG _⟩⟩ ?_) fun y13 k13=>aj k13
 ·obtain rfl:=List.mem_singleton.mp hc
  exact ⟨G.v,hu,fun t ht=>(G.e t ht).2⟩
 ·show 0+(wt (b1,b2,b3,b4,b5,b6,b7,b8,b9,b10,())+0)≤_
  omega
 rintro ⟨tr,i,q,⟨⟩⟩ k hk hle ⟨i1,i2,i3⟩;obtain rfl:i=k:=hk
 have i1:∀ c∈q,DK l c.2.1.2.1:=i1
 have i2:k+((q.drop k).map fun c=>wt c.2.1.2.1).sum≤wt (b1,b2,b3,b4,b5,b6,b7,b8,b9,b10,()):=i2
 have i3:TrN k tr:=i3
 have hq:q.length≤4097:=by
  have:=ad6 (q.drop k);rw [List.length_drop] at this;omega
 unfold Sj;simp only [bK,dG]
 refine aB (fun c=>aF (by omega) (by omega) (bL (by omega) (aF (by omega) (by omega) (bL (by omega) ?_)))) fun c=>aj (by have:=i3.d;show tr.1.length≤_;omega)
 have hk:k<q.length:=by omega
 have hxm:q.getD k zQ∈q:=getD_in hk
 have hdr:q.drop k=q.getD k zQ::q.drop (k+1):=by rw [List.drop_eq_getElem_cons hk,getD_at hk]
 have R:=i1 _ hxm;rw [hdr,List.map_cons,List.sum_cons] at i2
 refine ak (t92 l _ G.len) fun y2 k2=>ak (P:=fun y=>(∀ c∈y.1.2.2.1,DK l c.2.1.2.1)∧(y.1.2.2.1.map fun c=>wt c.2.1.2.1).sum+1≤wt (q.getD k zQ).2.1.2.1∧y.1.2.2.1.length≤64) (au (fun ct=>?_) fun _=>aj ⟨fun c hc=>(by cases hc),Nat.le_add_left ..,fG _⟩) fun y3 k3=>ak (t94 tr _ _ _ i3 (by omega) (by have:=k3.2.2;omega)) fun y4 k4=>bF (by have:=k3.2.2;omega) (aj ⟨by have:=aai R.v;have:=i2;omega,aG (by omega),?_,?_,?_⟩)
 ·obtain ⟨m1,-⟩:=k2 ct
  have rd:=ride R m1 (G.ok _ m1)
  exact ak (jL (Q:=fun y=>(∀ c∈y.1.2.2.1,DK l c.2.1.2.1)∧(y.1.2.2.1.map fun c=>wt c.2.1.2.1).sum+1≤wt (q.getD k zQ).2.1.2.1∧y.1.2.2.1.length≤64) (by rw [fB (G.ok _ m1),R.v,fB (R.e _ m1)];rfl) rd) fun y3 k3=>aj k3
 ·intro c hc
  have hc:c∈q++y3.1.2.2.1:=hc
  rcases List.mem_append.mp hc with hc | hc
  ·exact i1 c hc
  ·exact k3.1 c hc
 ·show (IntKind.wrap .i64 ((k:Int)+1)).toNat+(((q++y3.1.2.2.1).drop (IntKind.wrap .i64 ((k:Int)+1)).toNat).map fun c=>wt c.2.1.2.1).sum≤_
  rw [aG (by omega),dG,List.drop_append_of_le_length (by omega),List.map_append,List.sum_append]
  have:=k3.2.1;omega
 ·show TrN (IntKind.wrap .i64 ((k:Int)+1)).toNat y4.1
  rw [aG (by omega),dG]
  exact k4
theorem akN (a b:Int):0≤Bt.or a b:=by unfold Bt.or;exact Int.natCast_nonneg _
theorem TY {α:Type} {l:List α} {n:Nat} {a x:α} (h:x∈l.set n a):x∈l∨x=a:=List.mem_or_eq_of_mem_set h
theorem Kt (b:Int) (out:List SB) (x:Int) (h:∀ s∈out,0≤s.2.1):∀ s∈fD b out x,0≤s.2.1:=by
 intro s hs;unfold fD at hs;dsimp only at hs
 rcases TY hs with hs | rfl
 ·generalize (decide (out.length=0) || !decide ((out.getD (out.length - 1) zS).1=(place x b).1))=c at hs
  cases c with
  | false=>exact h s hs
  | true=>
   have hs:s∈out++[((place x b).1,0,())]:=hs
   rcases List.mem_append.mp hs with hs | hs
   ·exact h s hs
   ·obtain rfl:=List.mem_singleton.mp hs
    exact Int.le_refl _
 ·exact akN _ _
theorem Zg (p:Pn) (l:List Int):∀ s∈(sets p l).1,0≤s.2.1:=by
 have key:∀ (l:List Int) (out:List SB),(∀ s∈out,0≤s.2.1)→∀ s∈l.foldl (fD p.2.1) out,0≤s.2.1:=by
  intro l
  induction l with
  | nil=>intro out h;exact h
  | cons x r ih=>
   intro out h;rw [List.foldl_cons];exact ih _ (Kt _ _ _ h)
 unfold sets
 have z:∀ s∈([]:List SB),0≤s.2.1:=fun _ h=>by cases h
 cases !dZ p with
 | true=>exact z
 | false=>cases !yE l with
  | true=>exact z
  | false=>cases l.any (fun id=>!yK p id) with
   | true=>exact z
   | false=>exact key l [] z
theorem akO {k:Pk} (h:dz k=true) (h0:0≤bt k):U (bt k):=by
 obtain ⟨h1,h2⟩:=(lG.1 h).2.2.2.1;refine ⟨h0,Int.lt_of_lt_of_le h2 ?_⟩
 have e:(ln k).toNat≤64:=by
  unfold dW at h1;simp at h1;omega
 have:=Nat.pow_le_pow_right (n:=2) (by omega) e
 have:((2 ^ (ln k).toNat:Nat):Int)≤((2 ^ 64:Nat):Int):=by exact_mod_cast this
 simpa using this
theorem aqY (p:Pn) (l:List Int) (q:Pk) (hl:l.length≤1000):dS (x90 p l q) (fun y=>y.1.1.length≤1000∧∀ k∈y.1.1,U (bt k)):=by
 have hs:=IC p l;have hz:=Zg p l;obtain ⟨p0,p1,es,⟨⟩⟩:=p;have hs:(sets (p0,p1,es,()) l).1.length≤l.length:=hs
 have hz:∀ s∈(sets (p0,p1,es,()) l).1,0≤s.2.1:=hz
 unfold x90 r90;dsimp only
 have z:∀ k∈([]:List Pk),U (bt k):=fun _ h=>by cases h
 refine au (fun _=>aj ⟨fG _,z⟩) fun _=>ak (P:=fun y=>(y.2.1.1.length≤1000∧∀ k∈y.2.1.1,U (bt k))∧y.2.2.1.length≤1000∧∀ k∈y.2.2.1,U (bt k)) (aJ (sets (p0,p1,es,()) l).1.length (fun s=>s.2.2.1) (fun s=>(s.2.1.length:Int)≤s.2.2.1∧∀ k∈s.2.1,U (bt k)) rfl ⟨Int.le_refl _,z⟩ ?_) fun iV k14=>au (fun _=>aj k14.1) fun _=>aj k14.2
 rintro ⟨q,out,i,⟨⟩⟩ k hk hle ⟨i1,i2⟩;obtain rfl:i=k:=hk;have i1:(out.length:Int)≤(k:Int):=i1
 have i2:∀ k∈out,U (bt k):=i2
 unfold J3;simp only [bK,dG]
 refine aB (fun c=>aF (by omega) (by omega) (aF (by omega) (by omega) (au (fun _=>aj ⟨⟨fG _,z⟩,fG _,z⟩) fun cv=>bF (by omega) (aj ⟨by omega,aG (by omega),?_,fun x hx=>?_⟩)))) fun c=>aj ⟨⟨fG _,z⟩,by show out.length≤1000;omega,i2⟩
 ·show ((out++[_]).length:Int)≤IntKind.wrap .i64 ((k:Int)+1)
  rw [aG (by omega),kZ,FL];omega
 ·have hx:x∈out++[_]:=hx
  rcases List.mem_append.mp hx with hx | hx
  ·exact i2 x hx
  ·obtain rfl:=List.mem_singleton.mp hx
   refine akO ?_ (hz _ (getD_in (by omega)))
   rw [Bool.not_eq_false'] at cv;exact cv
theorem aqZ (o:Ov) (p:Pn) (r:Int) (w:Fw) (l:List Int) {n f:Nat} (h:kY n f o) (hn:n≤1000000000000) (hf:f≤1000000000000) (hp:p.2.2.1.length≤1000) (hl:l.length≤1000000):dS (x39 o p r w l) (fun y=>y.1.1.length≤1000∧∀ k∈y.1.1,U (bt k)):=by
 have k88:=t88 o p r w h hn hf hp;obtain ⟨a0,a1,a2,⟨⟩⟩:=o;obtain ⟨p0,p1,es,⟨⟩⟩:=p;obtain ⟨w0,w1,⟨⟩⟩:=w;have hp:es.length≤1000:=hp
 have z:∀ k∈([]:List Pk),U (bt k):=fun _ h=>by cases h
 unfold x39 r39;dsimp only
 refine ak k88 fun mq k10=>au (fun _=>aj ⟨fG _,z⟩) fun _=>ak (P:=fun _=>True) (jL (fB hl) trivial) fun jP _=>au (fun _=>aj ⟨fG _,z⟩) fun _=>ak (P:=fun _=>True) ⟨_,rfl,trivial⟩ fun pX _=>ak (P:=fun _=>True) (aJ es.length (fun s=>s.2.1) (fun _=>True) rfl trivial ?_) fun y13 _=>ak (aqY _ _ _ k10) fun iV k14=>aj k14
 rintro ⟨q,i,⟨⟩⟩ k hk hle -;obtain rfl:i=k:=hk;unfold J4;simp only [bK,dG]
 exact aB (fun c=>aF (by omega) (by omega) (ak (P:=fun _=>True) (au (fun _=>aj trivial) fun _=>aj trivial) fun y3 _=>aj ⟨by omega,aG (by omega),trivial⟩)) fun _=>aj trivial
theorem t7a (jP:((List Tb)×Int×Unit)×Unit) (y:Int×Tp) (y13:((List Pk)×Int×Unit)×Unit) (d:List Dl) (h1:y13.1.1.length≤1000) (hu:∀ k∈y13.1.1,U (bt k)) {D:Nat} (hd:d.length≤D) (hD:D≤1000000000):dS (Loop (@Sl jP y y13) (0,(d,()))) (fun r=>r.1.length≤D+262208000):=by
 refine aJ y13.1.1.length (fun s=>s.1) (fun s=>(s.2.1.length:Int)≤(D:Int)+262208*s.1) rfl (by show (d.length:Int)≤(D:Int)+262208*0;omega) ?_
 rintro ⟨i,ds,⟨⟩⟩ k hk hle i1;obtain rfl:i=k:=hk;have i1:(ds.length:Int)≤(D:Int)+262208*(k:Int):=i1;unfold Sl;simp only [bK,dG]
 refine aB (fun c=>aF (by omega) (by omega) (ak (t40 _ _ _ (hu _ (getD_in (by omega)))) fun y4 k4=>bF (by omega) (aj ⟨by omega,aG (by omega),?_⟩))) fun c=>aj (by show ds.length≤_;omega)
 show ((ds++_:List Dl).length:Int)≤(D:Int)+262208*IntKind.wrap .i64 ((k:Int)+1)
 rw [aG (by omega),kZ];omega
theorem t7 (t:Tp) (s:Sc) (hw:wf t=true) (hs:Cn 5 s) (ho:p9 11 s.2.2.2.2.2.2):dS (x7 t s) (fun r=>wf r.2=true∧r.1.length≤1000000000):=by
 obtain ⟨a0,a1,⟨⟩⟩:=t;obtain ⟨rs,ls,id,bs,es,si,sk,li,sg,⟨⟩⟩:=s;have he:es.length≤5:=hs.2.1.1;have hv:kY (32*11) (fb 11) (sk,(li,(sg,()))):=ho
 have hf:=MK 11 (by decide)
 unfold x7 r7;dsimp only;obtain ⟨tb,e0,e1,-,-⟩:=adH (rs,ls,()) (id,bs,es,())
 refine ak (P:=fun _=>True) ⟨_,e1,trivial⟩ fun jP _=>ak (P:=fun y=>wf y.2.1=true∧y.1.length≤1000000000) (aJ 3 (fun s=>s.1) (fun s=>wf s.2.2.1=true∧(s.2.1.length:Int)≤262208000*s.1) rfl ⟨hw,Int.le_refl _⟩ ?_) fun pX k12=>aj k12
 rintro ⟨i,d,t,⟨⟩⟩ k hk hle ⟨i1,i2⟩;obtain rfl:i=k:=hk;have i1:wf t=true:=i1;have i2:(d.length:Int)≤262208000*(k:Int):=i2;unfold Z4;simp only [bK,dG]
 refine aB (fun c=>ak (t38 _ _ i1) fun jP k11=>ak (t19 _ k11) fun pX k12=>ak (aqZ _ _ _ _ _ hv (by omega) (by omega) (by show es.length≤1000;omega) (by show 4≤1000000;omega)) fun y13 k13=>ak (t7a _ _ _ d k13.1 k13.2 (D:=262208000*k) (by omega) (by omega)) fun iV k14=>aj ⟨by omega,aG (by omega),k12,?_⟩) fun c=>aj ⟨i1,by show d.length≤_;omega⟩
 show (iV.1.length:Int)≤262208000*IntKind.wrap .i64 ((k:Int)+1)
 rw [aG (by omega)]
 omega
end Go.gI.qJ
namespace Go.gI.qJ
open Go Go.Proofs ah
set_option maxRecDepth 100000
def Sq (n:Nat) (l:List (List Bool)):Prop:=l.length=n∧∀ r∈l,r.length=n
theorem Sq.set {n:Nat} {l:List (List Bool)} (h:Sq n l) (i:Nat) {r:List Bool} (hr:r.length=n):Sq n (l.set i r):=
 ⟨by rw [List.length_set];exact h.1,fun x hx=>by
  rcases List.mem_or_eq_of_mem_set hx with hx | hx
  ·exact h.2 x hx
  ·rw [hx];exact hr⟩
theorem Sq.row {n:Nat} {l:List (List Bool)} (h:Sq n l) {i:Nat} (hi:i<n):(l.getD i []).length=n:=by
 have hi':i<l.length:=by rw [h.1];exact hi
 rw [show l.getD i []=l[i] from by simp [hi']]
 exact h.2 _ (List.getElem_mem hi')
def Rts (k:Nat) (l:List (Int×Bool×Unit)):Prop:=l.length=k∧∀ x∈l,1≤x.1∧x.1≤99
theorem aq4 (a0:Int×Tp) (t:Tp) (hn:1≤a0.1∧a0.1≤5) (hw:wf t=true):dS (Loop (@JM a0) (t,(0,(([],([],())),(0,()))))) (fun y=>wf y.1=true∧Rts a0.1.toNat y.2.1.1∧y.2.1.2.1=[]):=by
 refine aJ a0.1.toNat (fun s=>s.2.2.2.1) (fun s=>wf s.1=true∧0≤s.2.1∧s.2.1≤5*s.2.2.2.1∧Rts s.2.2.2.1.toNat s.2.2.1.1∧s.2.2.1.2.1=[]) rfl ⟨hw,Int.le_refl _,Int.le_refl _,⟨rfl,fun x hx=>by cases hx⟩,rfl⟩ ?_
 rintro ⟨t,id,⟨rs,ls,⟨⟩⟩,i,⟨⟩⟩ k hk hle ⟨i1,i2,i3,i4,i5⟩;obtain rfl:i=k:=hk;have i1:wf t=true:=i1;have i2:0≤id:=i2;have i3:id≤5*(k:Int):=i3;have i4:Rts k rs:=i4;have hrl:rs.length=k:=i4.1;have i5:ls=[]:=i5;subst i5;unfold JM
 refine aB (fun c=>ak (jf _ i1 (by rw [i1];rfl) (by simp)) fun y hy=>bF (by show (rs.length+1)*16≤140737488355328;omega) (aj ?_)) fun c=>aj ?_
 ·obtain ⟨v,t',⟨⟩⟩:=y
  have c:(k:Int)<a0.1:=c;have hv:v∈[(1:Int),1,1,2,5]:=hy.2
  have hv2:1≤v∧v≤5:=by simp at hv;omega
  have ew:IntKind.wrap .i64 (id+v)=id+v:=by rw [bW];omega
  have ek:IntKind.wrap .i64 ((k:Int)+1)=(k:Int)+1:=aG (by omega)
  refine ⟨by omega,ek,hy.1,?_,?_,⟨?_,?_⟩,rfl⟩
  ·show 0≤IntKind.wrap .i64 (id+v);omega
  ·show IntKind.wrap .i64 (id+v)≤5*IntKind.wrap .i64 ((k:Int)+1);omega
  ·show (rs++[_]).length=(IntKind.wrap .i64 ((k:Int)+1)).toNat
   rw [ek,kZ,FL,hrl];omega
  ·intro x hx
   have hx:x∈rs++[_]:=hx
   rcases List.mem_append.mp hx with hx | hx
   ·exact i4.2 x hx
   ·obtain rfl:=List.mem_singleton.mp hx
    show 1≤IntKind.wrap .i64 (id+v)∧IntKind.wrap .i64 (id+v)≤99;omega
 ·have c:¬ (k:Int)<a0.1:=c
  obtain rfl:k=a0.1.toNat:=by omega
  exact ⟨i1,i4,rfl⟩
theorem aq5 (a0:Int×Tp) (hn:1≤a0.1∧a0.1≤5):dS (Loop (@JN a0) (List.replicate a0.1.toNat [],(0,()))) (fun y=>Sq a0.1.toNat y.1):=by
 refine aJ a0.1.toNat (fun s=>s.2.1) (fun s=>s.1.length=a0.1.toNat∧∀ j:Nat,(j:Int)<s.2.1→(s.1.getD j []).length=a0.1.toNat) rfl ⟨List.length_replicate,fun j hj=>absurd (show (j:Int)<0 from hj) (by omega)⟩ ?_
 rintro ⟨l,i,⟨⟩⟩ k hk hle ⟨i1,i2⟩;obtain rfl:i=k:=hk;have i1:l.length=a0.1.toNat:=i1
 have i2:∀ j:Nat,(j:Int)<(k:Int)→(l.getD j []).length=a0.1.toNat:=i2
 unfold JN;simp only [bK,dG]
 refine aB (fun c=>jI ?_ (aF (by omega) (by omega) (bL (by omega) (aj ⟨by omega,aG (by omega),?_,fun j hj=>?_⟩)))) fun c=>aj ⟨?_,fun r hr=>?_⟩
 ·rw [bP,bP]
  exact ⟨⟨fB (by omega),fB (by omega)⟩,fB (by omega)⟩
 ·show (l.set k _).length=_
  rw [List.length_set];exact i1
 ·have hj:(j:Int)<IntKind.wrap .i64 ((k:Int)+1):=hj
  rw [aG (by omega)] at hj
  show ((l.set k _).getD j []).length=_;rw [yP,List.getElem?_set]
  by_cases h:k=j
  ·subst h
   rw [if_pos rfl,if_pos (by omega)]
   simp
  ·rw [if_neg h,←yP]
   exact i2 j (by omega)
 ·show l.length=_
  exact i1
 ·have hr:r∈l:=hr
  obtain ⟨j,hj,rfl⟩:=List.getElem_of_mem hr
  have:=i2 j (by have c:¬ (k:Int)<(a0.1.toNat:Int):=c;omega)
  rw [show l.getD j []=l[j] from by simp [hj]] at this
  exact this
theorem aq6 (a0:Int×Tp) (l:List (List Bool)) (t:Tp) (hn:1≤a0.1∧a0.1≤5) (hw:wf t=true) (hl:Sq a0.1.toNat l):dS (Loop (@JO a0) (1,(l,(t,())))) (fun y=>Sq a0.1.toNat y.1∧wf y.2.1=true):=by
 refine iM (fun s=>1≤s.1∧s.1≤5∧Sq a0.1.toNat s.2.1∧wf s.2.2.1=true) (fun s=>5 - s.1.toNat) ⟨Int.le_refl _,by simp,hl,hw⟩ ?_
 rintro ⟨i,l,t,⟨⟩⟩ ⟨i1,i2,i3,i4⟩;have i1:1≤i:=i1;have i2:i≤5:=i2;have i3:Sq a0.1.toNat l:=i3;have i4:wf t=true:=i4;unfold JO;simp only [bK]
 refine aB (fun c=>ak (fV _ i4) fun y2 h2=>ak (P:=fun y=>Sq a0.1.toNat y.1∧wf y.2.1=true) (aB (fun c2=>ak (fV _ h2.1) fun y3 h3=>?_) fun c2=>aj ⟨i3,h2.1⟩) fun y hy=>aj ⟨⟨?_,?_,hy⟩,?_⟩) fun c=>aj ⟨i3,i4⟩
 ·have c:i<a0.1:=c
  have h3':=h3.2
  have hlt:y3.1.toNat<a0.1.toNat:=by omega
  have hrow:=i3.row hlt
  refine aF (by omega) (by omega) (bL (by rw [i3.1];exact hlt) (aF (by omega) (by rw [hrow];omega) (bL (by rw [hrow];omega) (aj ⟨i3.set _ (by rw [List.length_set];exact hrow),h3.1⟩))))
 ·show 1≤IntKind.wrap .i64 (i+1)
  rw [bW];omega
 ·show IntKind.wrap .i64 (i+1)≤5
  have c:i<a0.1:=c;rw [bW];omega
 ·show 5 - (IntKind.wrap .i64 (i+1)).toNat<5 - i.toNat
  have c:i<a0.1:=c;rw [bW];omega
theorem aq7 (a0:Int×Tp) (m:Int) (l:List (List Bool)) (t:Tp) (hn:1≤a0.1∧a0.1≤5) (hm:0≤m∧m≤7) (hw:wf t=true) (hl:Sq a0.1.toNat l):dS (Loop (@JQ a0) (m,(l,(t,())))) (fun y=>Sq a0.1.toNat y.1∧wf y.2.1=true):=by
 refine iM (fun s=>0≤s.1∧s.1≤7∧Sq a0.1.toNat s.2.1∧wf s.2.2.1=true) (fun s=>s.1.toNat) ⟨hm.1,hm.2,hl,hw⟩ ?_
 rintro ⟨i,l,t,⟨⟩⟩ ⟨i1,i2,i3,i4⟩;have i1:0≤i:=i1;have i2:i≤7:=i2;have i3:Sq a0.1.toNat l:=i3;have i4:wf t=true:=i4;unfold JQ;simp only [bK]
 refine aB (fun c=>ak (fV _ i4) fun y2 h2=>ak (fV _ h2.1) fun y3 h3=>ak (P:=fun y=>Sq a0.1.toNat y.1) (bE (fun c2=>?_) fun c2=>aj i3) fun y hy=>aj ⟨⟨?_,?_,hy,h3.1⟩,?_⟩) fun c=>aj ⟨i3,i4⟩
 ·have h2':=h2.2
  have h3':=h3.2
  have e1:0≤(bif (decide (y3.1<y2.1)) then y3.1 else y2.1)∧(bif (decide (y3.1<y2.1)) then y3.1 else y2.1)<a0.1:=by cases decide (y3.1<y2.1)<;>simp<;>omega
  have e2:0≤(bif (decide (y2.1<y3.1)) then y3.1 else y2.1)∧(bif (decide (y2.1<y3.1)) then y3.1 else y2.1)<a0.1:=by cases decide (y2.1<y3.1)<;>simp<;>omega
  generalize (bif (decide (y3.1<y2.1)) then y3.1 else y2.1)=p at e1
  generalize (bif (decide (y2.1<y3.1)) then y3.1 else y2.1)=q at e2
  have hlt:p.toNat<a0.1.toNat:=by omega
  have hrow:=i3.row hlt
  refine aF (by omega) (by omega) (bL (by rw [i3.1];exact hlt) (aF (by omega) (by rw [hrow];omega) (bL (by rw [hrow];omega) (aj (i3.set _ (by rw [List.length_set];exact hrow))))))
 ·have c:i > 0:=c
  show 0≤IntKind.wrap .i64 (i - 1);rw [bW];omega
 ·have c:i > 0:=c
  show IntKind.wrap .i64 (i - 1)≤7;rw [bW];omega
 ·have c:i > 0:=c
  show (IntKind.wrap .i64 (i - 1)).toNat<i.toNat;rw [bW];omega
def Lk (n m:Nat) (l:List (List Bool)) (t:Tp) (g:To):Prop:=Sq n l∧wf t=true∧Rts n g.1∧g.2.1.length≤m
theorem aq8 (a0 a1:Int×Tp) (a2:Int×(List (List Bool)×(Tp×(To×Unit)))) (k:Nat) (hn:1≤a0.1∧a0.1≤5) (hk:a2.1=(k:Int)) (hlt:(k:Int)<a0.1) (h:Lk a0.1.toNat (5*k) a2.2.1 a2.2.2.1 a2.2.2.2.1) :
 dS (Loop (@JR a0 a1 a2) (a2.2.1,(a2.2.2.1,(a2.2.2.2.1,(0,()))))) (fun y=>Lk a0.1.toNat (5*(k+1)) y.1 y.2.1 y.2.2.1):=by
 obtain ⟨i,l0,t0,g0,⟨⟩⟩:=a2;obtain rfl:i=k:=hk
 refine aJ a0.1.toNat (fun s=>s.2.2.2.1) (fun s=>Lk a0.1.toNat (5*k+s.2.2.2.1.toNat) s.1 s.2.1 s.2.2.1) rfl h ?_
 rintro ⟨l,t,⟨rs,ls,⟨⟩⟩,j,⟨⟩⟩ q hq hle ⟨i1,i2,i3,i4⟩;obtain rfl:j=q:=hq;have i1:Sq a0.1.toNat l:=i1;have i2:wf t=true:=i2;have i3:Rts a0.1.toNat rs:=i3;have i4:ls.length≤5*k+q:=i4
 have hkn:k<a0.1.toNat:=by omega
 have hrow:=i1.row hkn
 have h5:a0.1.toNat≤5:=by omega
 have hrl:=i3.1;unfold JR;simp only [bK,dG]
 refine aB (fun c=>?_) fun c=>aj ⟨i1,i2,i3,by show ls.length≤_;omega⟩
 have c:(q:Int)<(a0.1.toNat:Int):=c
 have eq1:IntKind.wrap .i64 ((q:Int)+1)=(q:Int)+1:=aG (by omega)
 refine aF (by omega) (by omega) (bL (by rw [i1.1];exact hkn) (aF (by omega) (by rw [hrow];exact c) (bL (by rw [hrow];omega) (au (fun c2=>aj ⟨by omega,eq1,i1.set _ hrow,i2,i3,?_⟩) fun c2=>?_))))
 ·show ls.length≤5*k+(IntKind.wrap .i64 ((q:Int)+1)).toNat
  omega
 ·refine aF (by omega) (by rw [hrl];omega) (bL (by rw [hrl];exact hkn) (aF (by omega) (by rw [hrl];exact c) (bL (by rw [hrl];omega) (ak (jf _ i2 (by rw [i2];rfl) (by simp)) fun y4 h4=>ak (P:=fun y=>wf y.2.1=true) ?_ fun y5 h5'=>bF (by omega) (aj ⟨by omega,eq1,i1.set _ hrow,h5',i3,?_⟩)))))
  ·refine bE (fun c3=>ak (jJ _ _ h4.1 (by decide) (by decide)) fun y5 h5=>ak (jf _ h5.1 (by rw [h5.1];rfl) (by simp)) fun y6 h6=>ak (jJ _ _ h6.1 (by decide) (by decide)) fun y7 h7=>ak (jf _ h7.1 (by rw [h7.1];rfl) (by simp)) fun y8 h8=>aj h8.1) fun c3=>aj h4.1
  ·show (ls++[_]).length≤5*k+(IntKind.wrap .i64 ((q:Int)+1)).toNat
   rw [kZ,FL];omega
theorem H25 (t:Tp) (hw:wf t=true):dS (x25 t 5) (fun r=>wf r.2=true∧TW r.1):=by
 obtain ⟨b0,b1,⟨⟩⟩:=t;unfold x25 r25;simp only [bK]
 refine ak (jJ 1 5 hw (by decide) (by decide)) fun y3 h3=>?_
 have hn:1≤y3.1∧y3.1≤5:=h3.2
 refine ak (aq4 y3 y3.2 hn h3.1) fun y4 h4=>jI ?_ (ak (aq5 y3 hn) fun y5 h5=>ak (aq6 y3 y5.1 y4.1 hn h4.1 h5) fun y6 h6=>ak (fV _ h6.2) fun y7 h7=>?_)
 ·rw [bP,bP]
  exact ⟨⟨fB (by omega),fB (by first | trivial | omega)⟩,fB (by omega)⟩
 ·have h7':=h7.2
  rw [bW] at h7'
  refine ak (aq7 y3 y7.1 y6.1 y7.2 hn ⟨h7'.1,by omega⟩ h7.1 h6.1) fun y8 h8=>ak (fV _ h8.2) fun y9 h9=>?_
  refine ak (P:=fun y=>wf y.1=true∧Rts y3.1.toNat y.2.1.1) ?_ fun mq h10=>aj ⟨h10.1,by rw [h10.2.1];omega,h10.2.2⟩
  refine aJ y3.1.toNat (fun s=>s.1) (fun s=>Lk y3.1.toNat (5*s.1.toNat) s.2.1 s.2.2.1 s.2.2.2.1) rfl ⟨h8.1,h9.1,h4.2.1,by rw [h4.2.2];exact fG _⟩ ?_
  rintro ⟨i,l,t,g,⟨⟩⟩ k hk hle hL;obtain rfl:i=k:=hk;have hL:Lk y3.1.toNat (5*k) l t g:=hL;unfold Rm;simp only [bK]
  refine aB (fun c=>ak (aq8 y3 y9 ((k:Int),(l,(t,(g,())))) k hn rfl (by have c:(k:Int)<(y3.1.toNat:Int):=c;omega) hL) fun y hy=>aj ⟨?_,?_,?_⟩) fun c=>aj ⟨hL.2.1,hL.2.2.1⟩
  ·have c:(k:Int)<(y3.1.toNat:Int):=c
   omega
  ·exact aG (by omega)
  ·show Lk y3.1.toNat (5*(IntKind.wrap .i64 ((k:Int)+1)).toNat) y.1 y.2.1 y.2.2.1
   have c:(k:Int)<(y3.1.toNat:Int):=c
   rw [show (IntKind.wrap .i64 ((k:Int)+1)).toNat=k+1 from by rw [aG (by omega)];omega]
   exact hy
def Par {α:Type} (o:Option α) (Q:α→Prop):Prop:=∀ r,o=some r→Q r
theorem aaj {α:Type} {Q:α→Prop} {r:α} (h:Q r):Par (some r) Q:=fun _ e=>Option.some.inj e▸h
theorem ahF {α:Type} {Q:α→Prop}:Par (none:Option α) Q:=fun _ e=>by cases e
theorem aal {α:Type} {Q:α→Prop} {c:Bool} {a b:Option α} (h1:c=true→Par a Q) (h2:c=false→Par b Q):Par (bif c then a else b) Q:=by
 cases c with
 | true=>exact h1 rfl
 | false=>exact h2 rfl
theorem aam {α:Type} {Q:α→Prop} {c:Bool} {a:Option α} (h:c=true→Par a Q):Par (bif c then a else none) Q:=aal h fun _=>ahF
theorem aaA {α:Type} {Q:α→Prop} {p:Prop} {i:Decidable p} {a b:Option α} (h1:p→Par a Q) (h2:¬ p→Par b Q):Par (bif @decide p i then a else b) Q:=aal (fun h=>h1 (of_decide_eq_true h)) fun h=>h2 (of_decide_eq_false h)
theorem aak {α β:Type} {P:α→Prop} {Q:β→Prop} {o:Option α} {f:α→Option β} (h1:Par o P) (h2:∀ r,P r→Par (f r) Q):Par (Option.bind o f) Q:=by
 intro r e
 cases ho:o with
 | none=>rw [ho] at e;cases e
 | some x=>rw [ho] at e;exact h2 x (h1 x ho) r e
theorem aau {α β:Type} {Q:β→Prop} {o:Option α} {f:α→Option β} (h:∀ r,o=some r→Par (f r) Q):Par (Option.bind o f) Q:=aak (P:=fun r=>o=some r) (fun _ e=>e) h
theorem acK {α:Type} {Q:α→Prop} {b:Bool} {x:α} (h:b=true→Q x):Par (on b x) Q:=fun r e=>by
 obtain ⟨h1,h2⟩:=iq e;exact h2▸h h1
theorem ahG {α:Type} {P Q:α→Prop} {o:Option α} (h:Par o P) (h2:∀ r,P r→Q r):Par o Q:=fun r e=>h2 r (h r e)
def anj {σ ρ:Type} (I:σ→Prop) (Q:ρ→Prop):Sum σ ρ→Prop
 | .inl s=>I s
 | .inr r=>Q r
theorem aaz {σ ρ:Type} {step:σ→Option (Sum σ ρ)} (I:σ→Prop) {Q:ρ→Prop} {s0:σ} (h0:I s0) (h:∀ s,I s→Par (step s) (anj I Q)):Par (Loop step s0) Q:=by
 intro r e;obtain ⟨n,hn⟩:=rF e
 have key:∀ n s,I s→Ar step n s=some r→Q r:=by
  intro n
  induction n with
  | zero=>intro s _ e;cases e
  | succ n ih=>
   intro s hs e;simp only [Ar] at e
   cases hx:step s with
   | none=>rw [hx] at e;cases e
   | some x=>
    have hp:=h s hs x hx;rw [hx] at e
    cases x with
    | inl s'=>exact ih s' hp e
    | inr q=>cases e;exact hp
 exact key n s0 h0 hn
theorem af3 {α:Type} {P Q:α→Prop} {o:Option α} (h:dS o P) (h2:Par o Q):dS o (fun r=>P r∧Q r):=by
 obtain ⟨r,e,hp⟩:=h;exact ⟨r,e,hp,h2 r e⟩
theorem af5 {g:To} (h:xD g=0):∀ l∈g.2.1,l.1<l.2.1:=by
 unfold xD at h
 cases h1:(decide (24<g.1.length) || decide (60<g.2.1.length)) with
 | true=>rw [h1] at h;cases h
 | false=>
  rw [h1] at h
  cases h2:g.1.any Q7 with
  | true=>rw [h2] at h;cases h
  | false=>
   rw [h2] at h
   cases h3:!upR g.1 with
   | true=>rw [h3] at h;cases h
   | false=>
    rw [h3] at h
    cases h4:g.2.1.any Od with
    | true=>rw [h4] at h;cases h
    | false=>
     rw [h4] at h
     cases h5:g.2.1.any (fun l=>!ah.ni g.1 l.1 || !ah.ni g.1 l.2.1) with
     | true=>rw [h5] at h;cases h
     | false=>
      rw [h5] at h
      cases h6:g.2.1.any down with
      | true=>rw [h6] at h;cases h
      | false=>
       intro l hl;have:=List.any_eq_false.mp h6 l hl;unfold down at this
       have:¬ l.2.1≤l.1:=by simpa using this
       omega
theorem afE {r:Int}:∀ {l:List ah.Lk},(∀ x∈l,x.1<x.2.1)→(price l r r).2.1=false
 | [],_=>rfl
 | x::l,h=>by
  have hx:=h x (List.mem_cons_self ..)
  have ih:=afE (r:=r) (l:=l) fun y hy=>h y (oH _ hy)
  have e1:(decide (x.1=r)&&decide (x.2.1=r))=false:=by
   by_cases h1:x.1=r
   ·rw [dF (show ¬ x.2.1=r by omega),Bool.and_false]
   ·rw [dF h1];rfl
  have e2:(decide (x.2.1=r)&&decide (x.1=r))=false:=by rw [Bool.and_comm];exact e1
  simp only [price,e1,e2,bU];exact ih
theorem af8 {g:To} {r:Int} (h:xD g=0):r ∉ near g r:=by
 intro hm;obtain ⟨x,hx,e⟩:=List.mem_map.mp hm;have hp:=(List.mem_filter.mp hx).2;have e:x.1=r:=e;rw [e,afE (af5 h)] at hp;cases hp
theorem ahH {g:To} {r x:Int} (h:xD g=0) (hc:∀ y∈g.1,y.2.1=true) (hx:x∈near g r):Ey g x=true:=by
 obtain ⟨y,hy,e⟩:=List.mem_map.mp hx;have hy:=(List.mem_filter.mp hy).1;have e:y.1=x:=e;unfold Ey okT acC;rw [dT h,Bool.true_and]
 have hi:g.1.findIdx (fun r=>decide (r.1=x))<g.1.length:=List.findIdx_lt_length_of_exists ⟨y,hy,by simp [e]⟩
 rw [show g.1.getD (g.1.findIdx fun r=>decide (r.1=x)) zR=g.1[g.1.findIdx fun r=>decide (r.1=x)] from by simp [hi]]
 exact hc _ (List.getElem_mem hi)
theorem afC {l:List Int} {i:Nat} (h:i<l.length):l.getD i 0∈l:=by
 rw [show l.getD i 0=l[i] from by simp [h]]
 exact List.getElem_mem h
theorem aqD (g:To) (d:List Int) (r:Int):Par (HY g d r) (fun y=>∀ x∈y.1,x∈near g r):=by
 unfold HY acD
 refine aau fun y4 _=>aau fun y5 _=>aal (fun _=>aaj fun x hx=>by cases hx) fun _=>aak (P:=fun y=>∀ x∈y.1,x∈near g r) ?_ fun y6 h6=>aaj h6
 refine aaz (fun s=>(∀ x∈s.2.1,x∈near g r)∧s.2.2.1=near g r) ⟨(fun x hx=>by cases hx),rfl⟩ ?_
 rintro ⟨i,out,nr,⟨⟩⟩ ⟨i1,i2⟩
 have i1:∀ x∈out,x∈near g r:=i1
 obtain rfl:nr=near g r:=i2;unfold lF
 refine aal (fun c1=>aam fun c2=>aam fun c3=>aak (P:=fun y:List Int×(Bool×Unit)=>y.1=near g r) (aam fun _=>aam fun _=>aau fun y6 _=>?_) fun y6 h6=>aak (P:=fun y:List Int×(List Int×Unit)=>(∀ x∈y.1,x∈near g r)∧y.2.1=near g r) (aal (fun _=>aam fun _=>aam fun c4=>aam fun _=>aaj ⟨?_,h6⟩) fun _=>aaj ⟨i1,h6⟩) fun y7 h7=>aaj h7) fun _=>aaj i1
 ·repeat (first | exact aaj rfl | (refine aam fun _=>?_) | (refine aau fun _ _=>?_) | (refine aal (fun _=>?_) (fun _=>?_)))
 ·intro x hx
  rcases List.mem_append.mp hx with hx | hx
  ·exact i1 x hx
  ·obtain rfl:=List.mem_singleton.mp hx
   have c4:Int.toNat i<y6.1.length:=by simpa using c4
   have:=afC c4;rw [h6] at this ⊢;exact this
theorem aqF (l:List Int) (x:Int):Par (x107 l x) (fun y=>∀ z∈y.1,z∈l∨z=x):=by
 unfold x107 ahB
 refine aau fun y2 _=>aau fun y3 _=>aal (fun _=>aaj fun z hz=>.inl hz) fun _=>?_
 repeat (refine aam fun _=>?_)
 refine aaj fun z hz=>?_
 rcases List.mem_append.mp hz with hz | hz
 ·rcases List.mem_append.mp hz with hz | hz
  ·rw [List.nil_append] at hz
   exact .inl (List.mem_of_mem_take (List.mem_of_mem_drop hz))
  ·exact .inr (List.mem_singleton.mp hz)
 ·exact .inl (List.mem_of_mem_take (List.mem_of_mem_drop hz))
theorem afF {i:Int} {n:Nat} (h:(decide (0≤i)&&decide (i<Int.ofNat n))=true):0≤i∧i.toNat<n:=by
 rw [bP] at h;have h1:=of_decide_eq_true h.1;have h2:=of_decide_eq_true h.2;rw [bK] at h2;omega
theorem aqH (g:To) (a b:Int) (hg:xD g=0) (hc:∀ y∈g.1,y.2.1=true):Par (x102 g a b) (fun y=>∀ x∈y.1,x∈near g a):=by
 unfold x102 ahE
 refine aau fun y4 _=>aal (fun _=>aaj fun x hx=>by cases hx) fun _=>aau fun y5 _=>aak (P:=fun y:List Int×Unit=>∀ x∈y.1,x∈near g a) ?_ fun y6 h6=>aaj h6
 refine aaz (fun s=>(∀ x∈s.2.1,x∈near g a)∧s.2.2.1=[a]) ⟨(fun x hx=>by cases hx),rfl⟩ ?_
 rintro ⟨i,out,q,⟨⟩⟩ ⟨i1,i2⟩
 have i1:∀ x∈out,x∈near g a:=i1
 obtain rfl:q=[a]:=i2;unfold vU
 refine aal (fun _=>aam fun c2=>aam fun _=>?_) fun _=>aaj i1
 obtain ⟨c3,c4⟩:=afF c2;have c4:i.toNat<1:=c4
 have ea:([a]:List Int).getD (Int.toNat i) 0=a:=by rw [show Int.toNat i=0 by omega];rfl
 refine aak (P:=fun y:List Int×Unit=>∀ x∈y.1,x∈near g a) (fun r e=>?_) fun y4 h4=>aak (P:=fun y:List Int×(List Int×Unit)=>y.1=[a]∧∀ x∈y.2.1,x∈near g a) ?_ fun y5 h5=>aaj ⟨h5.2,h5.1⟩
 ·have e:HY g y5.1 (([a]:List Int).getD (Int.toNat i) 0)=some r:=e
  rw [ea] at e;exact aqD g _ a r e
 ·refine aaz (fun s=>s.1=[a]∧∀ x∈s.2.1,x∈near g a) ⟨rfl,i1⟩ ?_
  rintro ⟨q,out,k,⟨⟩⟩ ⟨j1,j2⟩;obtain rfl:q=[a]:=j1
  have j2:∀ x∈out,x∈near g a:=j2
  unfold vT
  refine aal (fun _=>aam fun d2=>aak (P:=fun y:List Int×(List Int×Unit)=>(∀ x∈y.1,x∈near g a)∧y.2.1=[a]) ?_ fun y h=>aaj ⟨h.2,h.1⟩) fun _=>aaj ⟨rfl,j2⟩
  have hn:=h4 _ (afC (afF d2).2)
  refine aal (fun _=>aam fun _=>aak (aqF _ _) fun y hy=>aaj ⟨fun x hx=>?_,rfl⟩) fun e=>?_
  ·rcases hy x hx with hx | hx
   ·exact j2 x hx
   ·rw [hx];exact hn
  ·have:=ahH hg hc hn
   have e:Ey g (y4.1.getD (Int.toNat k) 0)=false:=e;rw [this] at e;cases e
def TbP (p:Pn) (t:Tb):Prop:=t.2.1=p.1∧t.2.2.1=p.2.1∧∀ w∈t.2.2.2.1,t.1∈w.2.1→(t.1,w.1,())∈p.2.2.1
theorem p87 (g:To) (p:Pn) (r:Int) (hg:xD g=0) (hc:∀ y∈g.1,y.2.1=true):Par (x87 g p r) (fun y=>TbP p y.1):=by
 unfold x87 r87
 refine aak (P:=fun y:Tb×Unit=>TbP p y.1) ?_ fun y6 h6=>aaj h6
 refine aaz (fun s=>s.1.1=r∧TbP p s.1) ⟨rfl,rfl,rfl,(fun w hw=>by cases hw)⟩ ?_
 rintro ⟨⟨tr,ts,tl,rows,⟨⟩⟩,i,⟨⟩⟩ ⟨i1,i2,i3,i4⟩;obtain rfl:tr=r:=i1;have i2:ts=p.1:=i2;have i3:tl=p.2.1:=i3
 have i4:∀ w∈rows,tr∈w.2.1→(tr,w.1,())∈p.2.2.1:=i4
 unfold Bo
 refine aal (fun _=>aam fun c2=>aam fun _=>?_) fun _=>aaj ⟨i2,i3,i4⟩
 have hlt:=(afF c2).2
 have hm:(p.2.2.1.getD (Int.toNat i) (0,0,()))∈p.2.2.1:=by
  rw [show p.2.2.1.getD (Int.toNat i) (0,0,())=p.2.2.1[Int.toNat i] from by simp [hlt]]
  exact List.getElem_mem hlt
 refine aak (P:=fun y:Rw×Unit=>y.1.1=(p.2.2.1.getD (Int.toNat i) (0,0,())).2.1∧(tr∈y.1.2.1→(p.2.2.1.getD (Int.toNat i) (0,0,())).1=tr)) ?_ fun y5 h5=>aam fun _=>aaj ⟨rfl,i2,i3,fun w hw hr=>?_⟩
 ·refine aaA (fun c=>aaj ⟨rfl,fun _=>c⟩) fun _=>aam fun _=>aak (P:=fun y:Rw×Unit=>y.1.1=(p.2.2.1.getD (Int.toNat i) (0,0,())).2.1∧(tr∈y.1.2.1→(p.2.2.1.getD (Int.toNat i) (0,0,())).1=tr)) (aal (fun _=>aam fun _=>aak (aqH g _ _ hg hc) fun y hy=>aaj ⟨rfl,fun h=>absurd (hy _ h) (af8 hg)⟩) fun _=>aaj ⟨rfl,fun h=>by cases h⟩) fun y hy=>aaj hy
 ·have hw:w∈rows++[y5.1]:=hw
  rcases List.mem_append.mp hw with hw | hw
  ·exact i4 w hw hr
  ·obtain rfl:=List.mem_singleton.mp hw
   have e1:=h5.2 hr;rw [h5.1,←e1];show ((p.2.2.1.getD (Int.toNat i) (0,0,())).1,(p.2.2.1.getD (Int.toNat i) (0,0,())).2.1,())∈p.2.2.1;exact hm
theorem p57 (g:To) (p:Pn) (hc:∀ y∈g.1,y.2.1=true):Par (x57 g p) (fun y=>∀ t∈y.1.1,dZ p=true∧TbP p t):=by
 unfold x57 r57
 refine aak (P:=fun y:Bool×Unit=>y.1=false→xD g=0∧dZ p=true) (aal (fun c=>aaj fun e=>?_) fun _=>aaj fun e=>by cases e) fun y5 h5=>aal (fun _=>aaj fun t ht=>by cases ht) fun c5=>?_
 ·refine ⟨?_,?_⟩
  ·have c:(!(!(decide (xD g=0))))=true:=c
   rw [Bool.not_not] at c;exact of_decide_eq_true c
  ·have e:(!(dZ p))=false:=e
   cases h:dZ p with
   | true=>rfl
   | false=>rw [h] at e;cases e
 ·obtain ⟨hg,hv⟩:=h5 c5
  refine aak (P:=fun y:List Tb×Unit=>∀ t∈y.1,TbP p t) ?_ fun y6 h6=>aaj fun t ht=>⟨hv,h6 t ht⟩
  refine aaz (fun s=>∀ t∈s.1,TbP p t) (fun t ht=>by cases ht) ?_
  rintro ⟨l,i,⟨⟩⟩ i1
  have i1:∀ t∈l,TbP p t:=i1
  unfold Bp
  refine aal (fun _=>aam fun _=>aak (P:=fun y:List Tb×Unit=>∀ t∈y.1,TbP p t) (aal (fun _=>aam fun _=>aak (p87 g p _ hg hc) fun y hy=>aam fun _=>aaj fun t ht=>?_) fun _=>aaj i1) fun y h=>aaj h) fun _=>aaj i1
  rcases List.mem_append.mp ht with ht | ht
  ·exact i1 t ht
  ·obtain rfl:=List.mem_singleton.mp ht
   exact hy
theorem amy:∀ i,i<64→(List.range 64).filter (fun j=>decide (i=j))=[i]:=by decide
theorem ahS {i:Nat} (h:i<64):Bt.ones (Bt.fK (i:Int))=[i]:=by
 unfold Bt.ones;rw [←amy i h]
 exact List.filter_congr fun j _=>jZ h j
theorem aga {p:Pn} {t:Tb} {k:Pk} {i:Nat} (TP:TbP p t) (F:qQ t k) (h:hp t k i=t.1):(at_ (ah.st k) i (ln k)).2.1=true∧(t.1,(at_ (ah.st k) i (ln k)).1,())∈p.2.2.1:=by
 have h1:1≤t.1:=F.T.r.1
 have hne:iA (fF t (at_ (ah.st k) i t.2.2.1).1).1 (aK k)≠0:=by
  have:iA (fF t (at_ (ah.st k) i t.2.2.1).1).1 (aK k)=t.1:=h;rw [this];omega
 obtain ⟨m1,m2⟩:=BL hne
 have hw:t.1∈(fF t (at_ (ah.st k) i t.2.2.1).1).1.2.1:=by
  have h:iA (fF t (at_ (ah.st k) i t.2.2.1).1).1 (aK k)=t.1:=h;unfold iA at h
  by_cases hl:(fF t (at_ (ah.st k) i t.2.2.1).1).1.2.1.length=0
  ·rw [dT hl] at h
   have h:(0:Int)=t.1:=h;omega
  ·rw [dF hl] at h
   have hp:=F.pl
   have h2:=Int.emod_lt_of_pos (aK k) (show (0:Int)<((fF t (at_ (ah.st k) i t.2.2.1).1).1.2.1.length:Int) by omega)
   have h3:=Int.emod_nonneg (aK k) (show ((fF t (at_ (ah.st k) i t.2.2.1).1).1.2.1.length:Int)≠0 by omega)
   have h:(fF t (at_ (ah.st k) i t.2.2.1).1).1.2.1.getD (aK k%((fF t (at_ (ah.st k) i t.2.2.1).1).1.2.1.length:Int)).toNat 0=t.1:=h;rw [←h]
   exact afC (by omega)
 have hid:=F.T.id _ m1;rw [←F.n];have m2:(fF t (at_ (ah.st k) i t.2.2.1).1).1.1=(at_ (ah.st k) i t.2.2.1).1:=m2;refine ⟨?_,?_⟩
 ·cases hb:(at_ (ah.st k) i t.2.2.1).2.1 with
  | true=>rfl
  | false=>
   exfalso
   have:(at_ (ah.st k) i t.2.2.1).1=0:=by
    unfold at_ at hb ⊢
    cases h1:(!dW t.2.2.1 || !ah.inside (i:Int) 0 (t.2.2.1 - 1) || !ah.inside (ah.st k) 0 31) with
    | true=>rfl
    | false=>
     rw [h1] at hb
     cases h2:decide (256<ah.st k*t.2.2.1+i+1) with
     | true=>rfl
     | false=>rw [h2] at hb;cases hb
   rw [m2,this] at hid;omega
 ·have:=TP.2.2 _ m1 hw
  rw [m2] at this;exact this
theorem amA {p:Pn} {t:Tb} {k:Pk} (hv:dZ p=true) (TP:TbP p t) (F:qQ t k) (hu:U (bt k)) (hmd:md k=1) (hsd:sd k=p.1):∀ d∈uf t.1 (sF t k) k,accept p (d.1,d.2.1)=true∧py d.2.1=py k:=by
 intro d hd;obtain ⟨j,hj,rfl⟩:=List.mem_map.mp hd;obtain ⟨i,hi,rfl⟩:=List.mem_map.mp hj;obtain ⟨hi1,hi2⟩:=List.mem_filter.mp hi;have hi1:i<64:=List.mem_range.mp hi1;have I:=YE F hu;have hl:=I.loc i hi1;simp only [mZ,Bool.not_false,Bool.and_true] at hl;have hi2:Bt.tb (sF t k).1 i=true:=hi2;have hl:Bt.tb (sF t k).1 i=(Bt.tb (bt k) i&&decide (hp t k i=t.1)):=hl;rw [hl,bP] at hi2;obtain ⟨hb,hh⟩:=hi2;have hh:=of_decide_eq_true hh;obtain ⟨e1,e2⟩:=aga TP F hh
 have hhas:Bt.has (bt k) (i:Int)=true:=by
  unfold Bt.has
  rw [dT (show (0:Int)≤i by omega),dT (show (i:Int)<64 by omega)]
  exact hb
 have eo:only k (i:Int)=(md k,sd k,ah.st k,ln k,tl k,en k,ig k,pr k,Bt.fK (i:Int),py k,()):=by
  unfold only;rw [F.k,hhas];rfl
 have hf:=lG.1 F.k
 have hbit:Bt.fK (i:Int)≤bt k:=by
  have:2 ^ i≤(bt k).toNat:=Nat.ge_two_pow_of_testBit hb
  have e:Bt.fK (i:Int)=((2 ^ i:Nat):Int):=by
   unfold Bt.fK
   rw [dF (show ¬ (i:Int)<0 by omega),dF (show ¬ (63:Int)<i by omega)]
   simp
  rw [e];have:=hu.1;omega
 have hval:dz (only k (i:Int))=true:=by
  rw [eo]
  exact lG.2 ⟨hf.1,hf.2.1,hf.2.2.1,⟨hf.2.2.2.1.1,by have:=hf.2.2.2.1.2;exact Int.lt_of_le_of_lt hbit this⟩,hf.2.2.2.2.1,hf.2.2.2.2.2.1,hf.2.2.2.2.2.2.1,hf.2.2.2.2.2.2.2.1,hf.2.2.2.2.2.2.2.2⟩
 have hcnt:count (Bt.fK (i:Int))=1:=by
  unfold count Bt.list;rw [ahS hi1];rfl
 have aqL:Bt.nth (Bt.fK (i:Int)) 0=i:=by
  unfold Bt.nth Bt.list;rw [ahS hi1];rfl
 refine ⟨?_,by rw [eo];rfl⟩
 unfold accept;have hval:dz (t.1,only k (i:Int)).2=true:=hval;show (dZ p&&dz (only k (i:Int))&&decide (md (only k (i:Int))=1)&&decide (sd (only k (i:Int))=p.1)&&decide (ln (only k (i:Int))=p.2.1)&&decide (count (bt (only k (i:Int)))=1)&&_)=true;rw [hv,hval,eo]
 show (true&&true&&decide (md k=1)&&decide (sd k=p.1)&&decide (ln k=p.2.1)&&decide (count (Bt.fK (i:Int))=1)&&((at_ (ah.st k) (Bt.nth (Bt.fK (i:Int)) 0) (ln k)).2.1&&p.2.2.1.any fun e=>decide ((t.1,(at_ (ah.st k) (Bt.nth (Bt.fK (i:Int)) 0) (ln k)).1,())=e)))=true
 rw [dT hmd,dT hsd,dT (show ln k=p.2.1 by rw [←F.n];exact TP.2.1),hcnt,aqL,e1]
 show (p.2.2.1.any fun e=>decide ((t.1,(at_ (ah.st k) (i:Int) (ln k)).1,())=e))=true
 exact List.any_eq_true.mpr ⟨_,e2,fB rfl⟩
theorem acL {α:Type} {Q:α→Prop} {o:Option α} (h:dS o Q):Par o Q:=fun r e=>by
 obtain ⟨r',e',hq⟩:=h;rw [e'] at e;exact Option.some.inj e▸hq
theorem anl:Bt.list 0=[]:=by decide
theorem adi {α:Type} {l:List α} {d:α} {i:Nat} (h:i<l.length):l.getD i d∈l:=by
 rw [show l.getD i d=l[i] from by simp [h]]
 exact List.getElem_mem h
theorem p94 (tr:Tr) (a:Int) (k:Pk) (o:Oc):Par (x94 tr a k o) (fun y=>y.1.1=tr.1++uf a o k):=by
 unfold x94 r94
 refine aam fun _=>aak (P:=fun y:Tr×Unit=>y.1.1=tr.1++uf a o k) (aal (fun _=>aam fun _=>aaj rfl) fun _=>aaj rfl) fun lC h17=>aak (P:=fun y:Tr×Unit=>y.1.1=tr.1++uf a o k) ?_ fun y h=>aaj h
 refine aaz (fun s=>s.1.1=tr.1++uf a o k) h17 ?_
 rintro ⟨tr',i,⟨⟩⟩ i1;have i1:tr'.1=tr.1++uf a o k:=i1;unfold Sd
 refine aal (fun _=>aam fun _=>aam fun _=>aam fun _=>aaj i1) fun _=>aaj i1
structure amB (l:List Tb) (p:Pn) (v:List Int) (k:Pk):Prop where
 r:DK l k
 m:md k=1
 s:sd k=p.1
 v:py k=v
def afJ (p:Pn) (v:List Int) (d:Dl):Prop:=accept p (d.1,d.2.1)=true∧py d.2.1=v
theorem p40 (l:List Tb) (k:Pk) (a:Int) (p:Pn) (hL:∀ t∈l,dZ p=true∧TbP p t) (hm:md k=1) (hU:U (bt k)):Par (x40 l k a) (fun y=>∀ d∈y.1.1.1,afJ p (py k) d):=by
 unfold x40 r40
 refine aak (acL (t91 l k a)) fun pX h12=>aal (fun _=>aaj fun d hd=>by cases hd) fun c=>?_
 have h12:pX.1=0→Goes l k:=h12;have hG:=h12 (akL c)
 refine aak (P:=fun y:Tr×Unit=>∀ d∈y.1.1,afJ p (py k) d) ?_ fun y13 h13=>aaj h13
 by_cases hne:∃ t,t∈l
 case neg=>
  -- no table: nothing is delivered
  refine aaz (fun s=>s.1.1=[]) rfl ?_ |> fun h=>ahG h fun r e d hd=>by
   have e:r.1.1=[]:=e;rw [e] at hd;cases hd
  rintro ⟨tr,i,q,⟨⟩⟩ i1;have i1:tr.1=[]:=i1;unfold Sj
  refine aal (fun _=>aam fun _=>aam fun _=>aam fun _=>aam fun _=>aak (acL (t92 l _ hG.len)) fun y2 h2=>aak (P:=fun y:Oc×Unit=>y.1.1=0) (aal (fun c=>absurd ⟨_,(h2 c).1⟩ hne) fun _=>aaj rfl) fun y3 h3=>aak (p94 _ _ _ _) fun y4 h4=>aam fun _=>aaj ?_) fun _=>aaj i1
  show y4.1.1=[];have h3:y3.1.1=0:=h3;rw [h4,i1];unfold uf;rw [h3];rfl
 case pos=>
  obtain ⟨t0,ht0⟩:=hne
  have hsd:sd k=p.1:=by rw [←(hG.e t0 ht0).1];exact (hL t0 ht0).2.1
  refine aaz (fun s=>(∀ d∈s.1.1,afJ p (py k) d)∧∀ c∈s.2.2.1,amB l p (py k) c.2.1.2.1) ⟨(fun d hd=>by cases hd),fun c hc=>?_⟩ ?_
  ·obtain rfl:=List.mem_singleton.mp hc
   exact ⟨⟨hG.v,hU,fun t ht=>(hG.e t ht).2⟩,hm,hsd,rfl⟩
  rintro ⟨tr,i,q,⟨⟩⟩ ⟨i1,i2⟩
  have i1:∀ d∈tr.1,afJ p (py k) d:=i1
  have i2:∀ c∈q,amB l p (py k) c.2.1.2.1:=i2
  unfold Sj
  refine aal (fun _=>aam fun c2=>aam fun _=>aam fun _=>aam fun _=>?_) fun _=>aaj i1
  have hw:=i2 _ (adi (d:=(0,([],(0,0,0,0,0,0,0,0,0,[],()),()),())) (afF c2).2);generalize hW:(q.getD (Int.toNat i) (0,([],(0,0,0,0,0,0,0,0,0,[],()),()),()):Cp)=W at hw;have hW':(q.getD (Int.toNat i) (0,(([],((0,(0,(0,(0,(0,(0,(0,(0,(0,([],())))))))))),())),())):Cp)=W:=hW
  refine aak (P:=fun y:(Tb×(Bool×Unit))×Unit=>y.1.2.1=true→y.1.1∈l∧y.1.1.1=W.1) (fun r e=>?_) fun y2 h2=>aak (P:=fun y:Oc×Unit=>(∀ d∈uf W.1 y.1 W.2.1.2.1,afJ p (py k) d)∧∀ c∈y.1.2.2.1,amB l p (py k) c.2.1.2.1) ?_ fun y3 h3=>aak (P:=fun y:Tr×Unit=>∀ d∈y.1.1,afJ p (py k) d) (fun r e=>?_) fun y4 h4=>aam fun _=>aaj ⟨h4,fun c hc=>?_⟩
  ·have e:x92 l W.1=some r:=e
   exact acL (t92 l W.1 hG.len) r e
  ·refine aal (fun c=>aak (P:=fun y:Oc×Unit=>y.1=sF y2.1.1 W.2.1.2.1) (fun r e=>?_) fun y hy=>aaj ?_) fun _=>aaj ⟨(fun d hd=>by unfold uf at hd;rw [anl] at hd;cases hd),(fun c hc=>by cases hc)⟩
   ·have e:on ((decide (sD y2.1.1=0)&&dz W.2.1.2.1)&&decide (y2.1.1.2.2.1=ln W.2.1.2.1)) (sF y2.1.1 W.2.1.2.1,())=some r:=e
    obtain ⟨-,e2⟩:=iq e;rw [←e2]
   ·obtain ⟨ht,hr⟩:=h2 c
    obtain ⟨hv,TP⟩:=hL _ ht;have hb:=hG.ok _ ht;have F:qQ y2.1.1 W.2.1.2.1:=⟨rX.1 hb,hw.r.v,hw.r.e _ ht⟩;rw [hy];refine ⟨?_,?_⟩
    ·rw [←hr]
     intro d hd;obtain ⟨d1,d2⟩:=amA hv TP F hw.r.u hw.m hw.s d hd;exact ⟨d1,d2.trans hw.v⟩
    ·intro c hc
     have hR:=(ride hw.r ht hb).1 c hc;obtain ⟨g,eg,-⟩:=(YE F hw.r.u).cps c hc
     have eg:c.2.1.2.1=pkB W.2.1.2.1 g:=by rw [eg]
     exact ⟨hR,by rw [eg];exact hw.m,by rw [eg];exact hw.s,by rw [eg];exact hw.v⟩
  ·have e:x94 tr W.1 W.2.1.2.1 y3.1=some r:=e
   have:=p94 tr W.1 W.2.1.2.1 y3.1 r e
   show ∀ d∈r.1.1,afJ p (py k) d
   rw [this];intro d hd
   rcases List.mem_append.mp hd with hd | hd
   ·exact i1 d hd
   ·exact h3.1 d hd
  ·have hc:c∈q++y3.1.2.2.1:=hc
   rcases List.mem_append.mp hc with hc | hc
   ·exact i2 c hc
   ·exact h3.2 c hc
theorem p90 (p:Pn) (l:List Int) (k:Pk):Par (x90 p l k) (fun y=>∀ q∈y.1.1,(md q=md k∧py q=py k)∧U (bt q)):=by
 unfold x90 r90
 refine aal (fun _=>aaj fun q hq=>by cases hq) fun _=>aak (P:=fun y:Bool×(((List Pk)×(Int×Unit))×((List Pk)×Unit))=>(y.1=true→∀ q∈y.2.1.1,(md q=md k∧py q=py k)∧U (bt q))∧∀ q∈y.2.2.1,(md q=md k∧py q=py k)∧U (bt q)) ?_ fun y h=>aal (fun c=>aaj (h.1 c)) fun _=>aaj h.2
 refine aaz (fun s=>(md s.1=md k∧py s.1=py k)∧∀ q∈s.2.1,(md q=md k∧py q=py k)∧U (bt q)) ⟨⟨rfl,rfl⟩,fun q hq=>by cases hq⟩ ?_
 rintro ⟨k',out,i,⟨⟩⟩ ⟨i1,i2⟩;have i1:md k' = md k∧py k' = py k:=i1
 have i2:∀ q∈out,(md q=md k∧py q=py k)∧U (bt q):=i2
 unfold J3
 refine aal (fun _=>aam fun c2=>aam fun _=>aal (fun _=>aaj ⟨(fun _ q hq=>by cases hq),(fun q hq=>by cases hq)⟩) fun cv=>aam fun _=>aaj ⟨i1,fun q hq=>?_⟩) fun _=>aaj ⟨(fun e=>by cases e),i2⟩
 rcases List.mem_append.mp hq with hq | hq
 ·exact i2 q hq
 ·obtain rfl:=List.mem_singleton.mp hq
  refine ⟨i1,akO ?_ (Zg p l _ (adi (afF c2).2))⟩;rw [Bool.not_eq_false'] at cv;exact cv
abbrev dta:List Int:=[100,97,116,97]
theorem ahZ {f:Fw} (h:(ah.wrap f dta).2.1=0):fM f=true∧(ah.wrap f dta).1=f.1::f.2.1::dta:=by
 unfold ah.wrap at h ⊢
 cases hv:fM f with
 | false=>rw [hv] at h;cases h
 | true=>exact ⟨rfl,rfl⟩
def PkF (q:Pk):Prop:=md q=1∧∃ f:Fw,fM f=true∧py q=f.1::f.2.1::dta
theorem p39 (o:Ov) (p:Pn) (a:Int) (f:Fw):Par (x39 o p a f dta) (fun y=>∀ q∈y.1.1,PkF q∧U (bt q)):=by
 unfold x39 r39
 refine aau fun mq _=>aal (fun _=>aaj fun q hq=>by cases hq) fun _=>aak (P:=fun y:(List Int×(Int×Unit))×Unit=>y.1=ah.wrap f dta) (acK fun _=>rfl) fun jP h11=>aal (fun _=>aaj fun q hq=>by cases hq) fun c=>aau fun pX _=>?_
 have c:=akL c;rw [h11] at c;obtain ⟨hv,he⟩:=ahZ c
 refine aak (P:=fun y:Pk×Unit=>md y.1=1∧py y.1=f.1::f.2.1::dta) ?_ fun y13 h13=>aak (p90 p _ _) fun y h=>aaj fun q hq=>?_
 ·refine aaz (fun s=>md s.1=1∧py s.1=f.1::f.2.1::dta) ⟨rfl,by show jP.1.1=_;rw [h11];exact he⟩ ?_
  rintro ⟨k,i,⟨⟩⟩ i1;have i1:md k=1∧py k=f.1::f.2.1::dta:=i1;unfold J4
  exact aal (fun _=>aam fun _=>aak (P:=fun y:Pk×Unit=>md y.1=1∧py y.1=f.1::f.2.1::dta) (aal (fun _=>aaj i1) fun _=>aaj i1) fun y h=>aaj h) fun _=>aaj i1
 ·obtain ⟨⟨e1,e2⟩,e3⟩:=h q hq
  exact ⟨⟨e1.trans h13.1,f,hv,e2.trans h13.2⟩,e3⟩
def DvF (p:Pn) (d:Dl):Prop:=∃ f:Fw,fM f=true∧afJ p (f.1::f.2.1::dta) d
theorem p7 (t:Tp) (s:Sc) (hc:∀ y∈s.1,y.2.1=true):Par (x7 t s) (fun y=>∀ d∈y.1,DvF (s.2.2.1,s.2.2.2.1,s.2.2.2.2.1,()) d):=by
 unfold x7 r7
 refine aak (p57 (s.1,s.2.1,()) (s.2.2.1,s.2.2.2.1,s.2.2.2.2.1,()) hc) fun jP h11=>aak (P:=fun y:List Dl×(Tp×Unit)=>∀ d∈y.1,DvF (s.2.2.1,s.2.2.2.1,s.2.2.2.2.1,()) d) ?_ fun y h=>aaj h
 refine aaz (fun x=>∀ d∈x.2.1,DvF (s.2.2.1,s.2.2.2.1,s.2.2.2.2.1,()) d) (fun d hd=>by cases hd) ?_
 rintro ⟨i,out,tp,⟨⟩⟩ i1
 have i1:∀ d∈out,DvF (s.2.2.1,s.2.2.2.1,s.2.2.2.2.1,()) d:=i1
 unfold Z4
 refine aal (fun _=>aau fun asB _=>aau fun pX _=>aak (P:=fun y:((List Pk)×(Int×Unit))×Unit=>∀ q∈y.1.1,PkF q∧U (bt q)) (fun r e=>?_) fun y13 h13=>aak (P:=fun y:List Dl×Unit=>∀ d∈y.1,DvF (s.2.2.1,s.2.2.2.1,s.2.2.2.2.1,()) d) ?_ fun iV h14=>aaj h14) fun _=>aaj i1
 ·exact p39 _ _ _ _ r e
 ·refine aaz (fun x=>∀ d∈x.2.1,DvF (s.2.2.1,s.2.2.2.1,s.2.2.2.2.1,()) d) i1 ?_
  rintro ⟨j,out,⟨⟩⟩ j1
  have j1:∀ d∈out,DvF (s.2.2.1,s.2.2.2.1,s.2.2.2.2.1,()) d:=j1
  unfold Sl
  refine aal (fun _=>aam fun c2=>?_) fun _=>aaj j1
  obtain ⟨⟨hm,f,hv,hp⟩,hu⟩:=h13 _ (adi (d:=(0,0,0,0,0,0,0,0,0,[],())) (afF c2).2)
  refine aak (p40 _ _ _ (s.2.2.1,s.2.2.2.1,s.2.2.2.2.1,()) h11 hm hu) fun y4 h4=>aam fun _=>aaj fun d hd=>?_
  rcases List.mem_append.mp hd with hd | hd
  ·exact j1 d hd
  ·refine ⟨f,hv,?_⟩
   rw [←hp];exact h4 d hd
theorem ah0:∀ {l:List Int},l.Pairwise (· < ·)→Ra l=true
 | [],_=>rfl
 | [_],_=>rfl
 | x::y::r,h=>by
  have h1:=List.rel_of_pairwise_cons h (List.mem_cons_self ..);have h2:=ah0 (List.Pairwise.of_cons h);simp only [Ra,h2,Bool.and_true];exact fB h1
def Gd (l:List Int):Prop:=l.Pairwise (· < ·)∧∀ x∈l,1≤x∧x≤99
theorem afD (t:Tp) {a b:Int} (h:a≤b):a≤(ah.range t a b).1∧(ah.range t a b).1≤b:=by
 have:=FJ t (b - a+1);unfold ah.range;dsimp only;omega
theorem afI (t:Tp) {l:List Int} (h:0<l.length):(pick t l).1∈l:=by
 have:=FJ t l.length;unfold pick
 exact getD_in (by omega)
theorem ah6 (n:Nat):∀ (t:Tp) (l:List Int),Gd l→Gd (srcs n t l).1:=by
 induction n with
 | zero=>intro t l h;exact h
 | succ n ih=>
  intro t l h;rw [srcs]
  refine ih _ _ ⟨TV _ h.1,fun x hx=>?_⟩
  rcases Iz _ _ x hx with hx | hx
  ·have p:=afI (ah.range (ah.range (ah.range t 1 6).2 1 20).2 1 99).2 (l:=[(ah.range t 1 6).1,(ah.range (ah.range t 1 6).2 1 20).1,(ah.range (ah.range (ah.range t 1 6).2 1 20).2 1 99).1]) (by simp)
   have a:=afD t (a:=1) (b:=6) (by decide)
   have b:=afD (ah.range t 1 6).2 (a:=1) (b:=20) (by decide)
   have c:=afD (ah.range (ah.range t 1 6).2 1 20).2 (a:=1) (b:=99) (by decide)
   simp only [List.mem_cons,List.not_mem_nil,or_false] at p;rw [hx];omega
  ·exact h.2 x hx
theorem akr (t:Tp):(1≤(filter t).1.1∧(filter t).1.1≤2)∧Gd (filter t).1.2.1:=
 ⟨afD (pick t [0,2,4,4,16,99]).2 (by decide),ah6 _ _ _ ⟨List.Pairwise.nil,fun x hx=>by cases hx⟩⟩
theorem afK {m:Int} {l:List Int} (hm:1≤m∧m≤2) (h:Gd l):dU (m,l,())=0:=by
 have h1:(decide (m=1) || decide (m=2))=true:=by
  rcases (by omega:m=1∨m=2) with rfl | rfl<;>rfl
 have h2:l.all (fun s=>ah.inside s 1 99)=true:=List.all_eq_true.2 fun x hx=>by
  unfold ah.inside;rw [dT (h.2 x hx).1,dT (h.2 x hx).2];rfl
 unfold dU;simp only [h1,h2,ah0 h.1,Bool.not_true,bU]
def ltM (x y:Mb):Prop:=x.2.1<y.2.1∨(x.2.1=y.2.1∧x.1<y.1)
structure akA (now:Int) (x:Mb):Prop where
 h:1≤x.1∧x.1≤8
 g:1≤x.2.1∧x.2.1≤4
 f:dU x.2.2.1=0
 n:O1 x.2.2.1=false
 u:now≤x.2.2.2.1∧x.2.2.2.1≤now+1000
structure MsT (m:Ms):Prop where
 n:0≤m.1∧m.1≤998000
 e:∀ x∈m.2.1,akA m.1 x
 s:m.2.1.Pairwise ltM
theorem afG {x y z:Mb} (h1:ltM x y) (h2:ltM y z):ltM x z:=by unfold ltM at *;omega
theorem afM {l:List Mb} (h:l.Pairwise ltM) {i j:Nat} (hi:i<j) (hj:j<l.length):ltM (l.getD i BU) (l.getD j BU):=by
 rw [show l.getD i BU=l[i] from by simp [show i<l.length by omega],show l.getD j BU=l[j] from by simp [hj]]
 exact List.pairwise_iff_getElem.mp h i j (by omega) hj hi
theorem amC {l:List Mb} {x:Mb} {i:Nat} (h:l.Pairwise ltM) (hi:i≤l.length) (h1:∀ j,j<i→ltM (l.getD j BU) x) (h2:i<l.length→ltM x (l.getD i BU)):(l.take i++x::l.drop i).Pairwise ltM:=by
 refine List.pairwise_append.mpr ⟨h.sublist (List.take_sublist _ _),List.pairwise_cons.mpr ⟨fun y hy=>?_,h.sublist (List.drop_sublist _ _)⟩,fun a ha b hb=>?_⟩
 ·obtain ⟨j,hj,rfl⟩:=List.getElem_of_mem hy
  rw [List.getElem_drop]
  have hl:i+j<l.length:=by rw [List.length_drop] at hj;omega
  have e:l[i+j]=l.getD (i+j) BU:=by simp [hl]
  rw [e]
  rcases Nat.eq_zero_or_pos j with h0 | h0
  ·subst h0;exact h2 (by omega)
  ·exact afG (h2 (by omega)) (afM h (by omega) hl)
 ·obtain ⟨j,hj,rfl⟩:=List.getElem_of_mem ha
  have hj':j<i:=by rw [List.length_take] at hj;omega
  have e:(l.take i)[j]=l.getD j BU:=by rw [List.getElem_take];simp [show j<l.length by omega]
  rw [e]
  rcases List.mem_cons.mp hb with rfl | hb
  ·exact h1 j hj'
  ·obtain ⟨q,hq,rfl⟩:=List.getElem_of_mem hb
   rw [List.getElem_drop]
   have hl:i+q<l.length:=by rw [List.length_drop] at hq;omega
   have e:l[i+q]=l.getD (i+q) BU:=by simp [hl]
   rw [e]
   exact afM h (by omega) hl
theorem amD {l:List Mb} {x:Mb} {i:Nat} (h:l.Pairwise ltM) (hi:i<l.length) (e:(l.getD i BU).2.1=x.2.1∧(l.getD i BU).1=x.1):(l.set i x).Pairwise ltM:=by
 rw [List.pairwise_iff_getElem] at h ⊢;intro a b ha hb hab;rw [List.length_set] at ha hb
 have hg:l.getD i BU=l[i]:=by simp [hi]
 rw [hg] at e;have q:=h a b ha hb hab;rw [List.getElem_set,List.getElem_set];unfold ltM at *
 by_cases h1:i=a
 ·subst h1
  rw [if_pos rfl,if_neg (by omega)]
  omega
 ·rw [if_neg h1]
  by_cases h2:i=b
  ·subst h2;rw [if_pos rfl];omega
  ·rw [if_neg h2];exact q
theorem aqN (y6:(Int×(Int×(Int×Tp)))×Unit) (m:Ms) (x:Mb) (hx:x.1=y6.1.1∧x.2.1=y6.1.2.1) (hl:m.2.1.length≤1000) :
 Par (Loop (@Ri y6) (0,(m,()))) (fun y=>y.2.1=m∧0≤y.1∧y.1.toNat≤m.2.1.length∧(∀ j,j<y.1.toNat→ltM (m.2.1.getD j BU) x)∧(y.1.toNat<m.2.1.length→¬ ltM (m.2.1.getD y.1.toNat BU) x)):=by
 refine aaz (fun s=>s.2.1=m∧0≤s.1∧s.1.toNat≤m.2.1.length∧∀ j,j<s.1.toNat→ltM (m.2.1.getD j BU) x) ⟨rfl,Int.le_refl _,fG _,fun j hj=>absurd (show j<0 from hj) (by omega)⟩ ?_
 rintro ⟨i,m',⟨⟩⟩ ⟨i1,i2,i3,i4⟩;obtain rfl:m' = m:=i1;have i2:0≤i:=i2;have i3:i.toNat≤m'.2.1.length:=i3
 have i4:∀ j,j<i.toNat→ltM (m'.2.1.getD j BU) x:=i4
 unfold Ri
 refine aak (P:=fun y:Ms×(Bool×Unit)=>y.1=m'∧(y.2.1=true→i.toNat<m'.2.1.length∧ltM (m'.2.1.getD i.toNat BU) x)∧(y.2.1=false→i.toNat<m'.2.1.length→¬ ltM (m'.2.1.getD i.toNat BU) x)) ?_ fun y h=>aal (fun c=>aaj ?_) fun c=>aaj ⟨h.1,i2,i3,i4,h.2.2 c⟩
 ·refine aaA (fun c1=>aam fun _=>aam fun c3=>aal (fun c4=>aam fun _=>aam fun _=>aaA (fun c5=>aam fun _=>aam fun _=>aaj ⟨rfl,fun e=>?_,fun e _=>?_⟩) fun c5=>aaj ⟨rfl,(fun e=>by cases e),fun _ _=>?_⟩) fun c4=>aaj ⟨rfl,fun _=>?_,fun e=>by cases e⟩) fun c1=>aaj ⟨rfl,(fun e=>by cases e),fun _ h=>?_⟩
  ·have c3:i.toNat<m'.2.1.length:=by simpa using c3
   have e:=of_decide_eq_true e;refine ⟨c3,.inr ⟨?_,?_⟩⟩
   ·rw [hx.2];exact c5
   ·rw [hx.1];exact e
  ·have e:=of_decide_eq_false e
   have c5:(m'.2.1.getD i.toNat BU).2.1=y6.1.2.1:=c5;have e:¬ (m'.2.1.getD i.toNat BU).1<y6.1.1:=e;unfold ltM;rw [hx.1,hx.2];omega
  ·have c4:¬ (m'.2.1.getD i.toNat BU).2.1<y6.1.2.1:=by
    intro h;have c4:(!decide ((m'.2.1.getD i.toNat BU).2.1<y6.1.2.1))=true:=c4;rw [dT h] at c4;cases c4
   have c5:¬ (m'.2.1.getD i.toNat BU).2.1=y6.1.2.1:=c5;unfold ltM;rw [hx.2];omega
  ·have c3:i.toNat<m'.2.1.length:=by simpa using c3
   have c4:(m'.2.1.getD i.toNat BU).2.1<y6.1.2.1:=akL c4
   exact ⟨c3,.inl (by rw [hx.2];exact c4)⟩
  ·exfalso
   have c1:¬ i<Int.ofNat m'.2.1.length:=c1;rw [bK] at c1;omega
 ·obtain ⟨h1,h2⟩:=h.2.1 c
  have e:IntKind.wrap .i64 (i+1)=i+1:=by rw [bW];omega
  refine ⟨h.1,?_,?_,fun j hj=>?_⟩
  ·show 0≤IntKind.wrap .i64 (i+1);omega
  ·show (IntKind.wrap .i64 (i+1)).toNat≤_;omega
  ·have hj:j<(IntKind.wrap .i64 (i+1)).toNat:=hj
   rcases Nat.lt_or_ge j i.toNat with h3 | h3
   ·exact i4 j h3
   ·obtain rfl:j=i.toNat:=by omega
    exact h2
theorem p29 (t:Tp):Par (x29 t 4) (fun y=>MsT y.1∧y.1.2.1.length≤4):=by
 unfold x29 r29
 refine aak (P:=fun y:Int×Tp=>0≤y.1∧y.1≤998000) (acK fun _=>?_) fun y3 h3=>aak (P:=fun y:Int×Tp=>0≤y.1∧y.1≤4) (acK fun _=>?_) fun y4 h4=>aak (P:=fun y:Ms×(Tp×Unit)=>MsT y.1∧y.1.2.1.length≤4) ?_ fun y5 h5=>aaj h5
 ·have:=afI (t.1,t.2.1,()) (l:=[0,10,500,998000]) (by decide)
  simp only [List.mem_cons,List.not_mem_nil,or_false] at this;omega
 ·have:=FJ y3.2 (IntKind.wrap .i64 (4+1))
  rw [show IntKind.wrap .i64 (4+1)=5 from by decide] at this
  show 0≤(next y3.2 (IntKind.wrap .i64 (4+1))).1∧(next y3.2 (IntKind.wrap .i64 (4+1))).1≤4
  rw [show IntKind.wrap .i64 (4+1)=5 from by decide]
  omega
 refine aaz (fun s=>(MsT s.2.1∧(s.2.1.2.1.length:Int)+s.1≤4)∧0≤s.1) ⟨⟨⟨h3,(fun x hx=>by cases hx),List.Pairwise.nil⟩,?_⟩,h4.1⟩ ?_
 ·show ((0:Nat):Int)+y4.1≤4;omega
 rintro ⟨c,⟨now,l,⟨⟩⟩,tp,⟨⟩⟩ ⟨⟨iM,iL⟩,iC⟩;have iM:MsT (now,l,()):=iM;have iL:(l.length:Int)+c≤4:=iL;have iC:0≤c:=iC;unfold Rj
 refine aaA (fun c1=>?_) fun c1=>aaj ⟨iM,by show l.length≤4;omega⟩
 have c1:c > 0:=c1
 have ec:IntKind.wrap .i64 (c - 1)=c - 1:=by rw [bW];omega
 refine aak (P:=fun y:Int×Tp=>1≤y.1∧y.1≤8) (acK fun _=>afD _ (by decide)) fun y1 h1=>aak (P:=fun y:Int×Tp=>1≤y.1∧y.1≤4) (acK fun _=>afD _ (by decide)) fun y2 h2=>aak (P:=fun y:Fl×Tp=>(1≤y.1.1∧y.1.1≤2)∧Gd y.1.2.1) (acK fun _=>akr _) fun y3 h3'=>aak (P:=fun y:Int×Tp=>0≤y.1∧y.1≤1000) (acK fun _=>?_) fun y4 h4'=>aak (P:=fun y:Bool×Unit=>y.1=(decide (y3.1.1=1)&&decide (y3.1.2.1.length=0))) ?_ fun y5 h5=>?_
 ·have:=afI y3.2 (l:=[0,1,30,1000]) (by decide)
  simp only [List.mem_cons,List.not_mem_nil,or_false] at this;omega
 ·refine aaA (fun d=>aaj ?_) fun d=>aaj ?_
  ·rw [dT d,Bool.true_and]
   by_cases h0:y3.1.2.1.length=0
   ·rw [dT h0];exact dT (by rw [bK];omega)
   ·rw [dF h0];exact dF (by rw [bK];omega)
  ·rw [dF d];rfl
 have eu:IntKind.wrap .i64 (now+y4.1)=now+y4.1:=by
  have:=iM.n;rw [bW];have:0≤now∧now≤998000:=this;omega
 refine aak (P:=fun y:(Int×(Int×(Int×Tp)))×Unit=>akA now (y.1.1,y.1.2.1,(y.1.2.2.1,y.1.2.2.2.1,()),y.1.2.2.2.2)) ?_ fun y6 h6=>aak (aqN y6 (now,l,()) (y6.1.1,y6.1.2.1,(y6.1.2.2.1,y6.1.2.2.2.1,()),y6.1.2.2.2.2) ⟨rfl,rfl⟩ (by show l.length≤1000;omega)) fun y7 h7=>?_
 ·refine aal (fun d=>aaj ⟨h1,h2,afK (m:=2) ⟨(by decide:(1:Int)≤2),(by decide:(2:Int)≤2)⟩ h3'.2,rfl,?_⟩) fun d=>aaj ⟨h1,h2,afK h3'.1 h3'.2,?_,?_⟩
  ·show now≤IntKind.wrap .i64 (now+y4.1)∧IntKind.wrap .i64 (now+y4.1)≤now+1000
   rw [eu];omega
  ·show (decide (y3.1.1=1)&&decide (y3.1.2.1.length=0))=false
   rw [←h5];exact d
  ·show now≤IntKind.wrap .i64 (now+y4.1)∧IntKind.wrap .i64 (now+y4.1)≤now+1000
   rw [eu];omega
 obtain ⟨i,m7,⟨⟩⟩:=y7;obtain ⟨k1,k2,k3,k4,k5⟩:=h7;obtain rfl:m7=(now,l,()):=k1;have k2:0≤i:=k2;have k3:i.toNat≤l.length:=k3;generalize hX:((y6.1.1,y6.1.2.1,(y6.1.2.2.1,y6.1.2.2.2.1,()),y6.1.2.2.2.2):Mb)=X at h6 k4 k5
 have k4:∀ j,j<i.toNat→ltM (l.getD j BU) X:=k4
 have k5:i.toNat<l.length→¬ ltM (l.getD i.toNat BU) X:=k5
 have eX1:X.1=y6.1.1:=by rw [←hX]
 have eX2:X.2.1=y6.1.2.1:=by rw [←hX]
 refine aak (P:=fun y:Ms×(Bool×Unit)=>y.1=(now,l,())∧(y.2.1=true→i.toNat<l.length∧(l.getD i.toNat BU).2.1=X.2.1∧(l.getD i.toNat BU).1=X.1)∧(y.2.1=false→i.toNat<l.length→¬ ((l.getD i.toNat BU).2.1=X.2.1∧(l.getD i.toNat BU).1=X.1))) ?_ fun y8 h8=>aal (fun d=>aam fun _=>aam fun _=>aaj ⟨⟨⟨?_,?_,?_⟩,?_⟩,?_⟩) fun d=>?_
 ·refine aaA (fun d1=>aam fun _=>aam fun d3=>aaA (fun d4=>aam fun _=>aam fun _=>aaj ⟨rfl,fun e=>?_,fun e _ h=>?_⟩) fun d4=>aaj ⟨rfl,(fun e=>by cases e),fun _ _ h=>d4 (h.1.trans eX2)⟩) fun d1=>aaj ⟨rfl,(fun e=>by cases e),fun _ h=>?_⟩
  ·have e:=of_decide_eq_true e
   exact ⟨by simpa using d3,d4.trans eX2.symm,e.trans eX1.symm⟩
  ·have e:=of_decide_eq_false e
   exact e (h.2.trans eX1)
  ·exfalso
   have d1:¬ i<Int.ofNat l.length:=d1;rw [bK] at d1;omega
 ·have:y8.1=(now,l,()):=h8.1
  rw [this];exact iM.n
 ·intro x hx
  rw [h8.1] at hx ⊢
  rcases List.mem_or_eq_of_mem_set hx with hx | hx
  ·exact iM.e x hx
  ·rw [hx];exact h6
 ·rw [h8.1]
  obtain ⟨q1,q2,q3⟩:=h8.2.1 d;exact amD iM.s q1 ⟨q2,q3⟩
 ·rw [h8.1]
  show (((l.set _ _).length:Nat):Int)+IntKind.wrap .i64 (c - 1)≤4;rw [List.length_set];omega
 ·show 0≤IntKind.wrap .i64 (c - 1);omega
 ·repeat (refine aam fun _=>?_)
  rw [h8.1]
  have e1:(List.drop 0 (List.take (Int.toNat i) l)++X::([]++List.drop (Int.toNat i) (List.take (Int.toNat (Int.ofNat l.length)) l)):List Mb)=l.take i.toNat++X::l.drop i.toNat:=by
   rw [List.drop_zero,List.nil_append,bK,dG,List.take_length]
  have hlt:i.toNat<l.length→ltM X (l.getD i.toNat BU):=by
   intro h;have a:=k5 h;have b:=h8.2.2 d h;unfold ltM at a ⊢;omega
  refine aaj ⟨⟨⟨iM.n,?_,?_⟩,?_⟩,?_⟩
  ·intro x hx
   have hx:x∈(List.drop 0 (List.take (Int.toNat i) l)++X::([]++List.drop (Int.toNat i) (List.take (Int.toNat (Int.ofNat l.length)) l)):List Mb):=hx;rw [e1] at hx
   rcases List.mem_append.mp hx with hx | hx
   ·exact iM.e x (List.mem_of_mem_take hx)
   ·rcases List.mem_cons.mp hx with rfl | hx
    ·exact h6
    ·exact iM.e x (List.mem_of_mem_drop hx)
  ·show (List.drop 0 (List.take (Int.toNat i) l)++X::([]++List.drop (Int.toNat i) (List.take (Int.toNat (Int.ofNat l.length)) l)):List Mb).Pairwise ltM
   rw [e1];exact amC iM.s k3 k4 hlt
  ·show (((List.drop 0 (List.take (Int.toNat i) l)++X::([]++List.drop (Int.toNat i) (List.take (Int.toNat (Int.ofNat l.length)) l)):List Mb).length:Nat):Int)+IntKind.wrap .i64 (c - 1)≤4
   rw [e1,kZ,List.length_cons,List.length_take,List.length_drop];omega
  ·show 0≤IntKind.wrap .i64 (c - 1);omega
theorem p25 (t:Tp) (n:Int):Par (x25 t n) (fun y=>∀ x∈y.1.1,x.2.1=true):=by
 unfold x25 r25
 refine aau fun y3 _=>aak (P:=fun y:Tp×(To×Unit)=>∀ x∈y.2.1.1,x.2.1=true) ?_ fun y4 h4=>aam fun _=>aau fun y5 _=>aau fun y6 _=>aau fun y7 _=>aau fun y8 _=>aau fun y9 _=>aak (P:=fun y:Tp×(To×Unit)=>∀ x∈y.2.1.1,x.2.1=true) ?_ fun mq h10=>aaj h10
 ·refine aaz (fun s=>∀ x∈s.2.2.1.1,x.2.1=true) (fun x hx=>by cases hx) ?_
  rintro ⟨tp,id,⟨rs,ls,⟨⟩⟩,i,⟨⟩⟩ i1
  have i1:∀ x∈rs,x.2.1=true:=i1
  unfold JM
  refine aal (fun _=>aau fun y _=>aam fun _=>aaj fun x hx=>?_) fun _=>aaj i1
  rcases List.mem_append.mp hx with hx | hx
  ·exact i1 x hx
  ·obtain rfl:=List.mem_singleton.mp hx;rfl
 ·refine aaz (fun s=>∀ x∈s.2.2.2.1.1,x.2.1=true) h4 ?_
  rintro ⟨i,l,tp,g,⟨⟩⟩ i1
  have i1:∀ x∈g.1,x.2.1=true:=i1
  unfold Rm
  refine aal (fun _=>aak (P:=fun y:List (List Bool)×(Tp×(To×Unit))=>∀ x∈y.2.2.1.1,x.2.1=true) ?_ fun y h=>aaj h) fun _=>aaj i1
  refine aaz (fun s=>∀ x∈s.2.2.1.1,x.2.1=true) i1 ?_
  rintro ⟨l,tp,⟨rs,ls,⟨⟩⟩,j,⟨⟩⟩ j1
  have j1:∀ x∈rs,x.2.1=true:=j1
  unfold JR
  refine aal (fun _=>aam fun _=>aam fun _=>aam fun _=>aam fun _=>aal (fun _=>aaj j1) fun _=>aam fun _=>aam fun _=>aam fun _=>aam fun _=>aau fun y4 _=>aau fun y5 _=>aam fun _=>aaj j1) fun _=>aaj j1
def upd (k d:Int) (x:Mb):Mb:=(10*k+x.1,x.2.1,x.2.2.1,x.2.2.2.1+d,())
theorem val_ok {now now' k:Int} {l l':List Mb} (h0:0≤now'∧now'≤1000000) (hk:0≤k∧k≤5) (hl:l.length≤4) (hm:∀ x∈l,akA now x) (hs:l.Pairwise ltM) (e:l' = l.map (upd k (now' - now))):jw (now',l',())=0:=by
 subst e
 have hx:∀ x∈l.map (upd k (now' - now)),(1≤x.1∧x.1≤99)∧(1≤x.2.1∧x.2.1≤99)∧dU x.2.2.1=0∧O1 x.2.2.1=false∧now'≤x.2.2.2.1∧x.2.2.2.1≤now' + 1000:=by
  intro x hx;obtain ⟨y,hy,rfl⟩:=List.mem_map.mp hx;have q:=hm y hy;have a:=q.h;have b:=q.g;have c:=q.u
  exact ⟨⟨by show 1≤10*k+y.1;omega,by show 10*k+y.1≤99;omega⟩,⟨b.1,by show y.2.1≤99;omega⟩,q.f,q.n,by show now'≤y.2.2.2.1+(now' - now);omega,by show y.2.2.2.1+(now' - now)≤now' + 1000;omega⟩
 have hp:(l.map (upd k (now' - now))).Pairwise ltM:=by
  refine List.pairwise_map.mpr (hs.imp fun {a b} h=>?_)
  unfold ltM upd at *;dsimp only;omega
 have hlen:(l.map (upd k (now' - now))).length≤4:=by rw [List.length_map];exact hl
 generalize l.map (upd k (now' - now))=L at hx hp hlen;unfold jw
 have e1:(!ah.inside now' 0 1000000)=false:=by unfold ah.inside;rw [dT h0.1,dT h0.2];rfl
 have e3:L.any (ah.yJ now')=false:=by
  rw [List.any_eq_false];intro x hx';obtain ⟨⟨a1,a2⟩,⟨b1,b2⟩,-,-,c1,c2⟩:=hx x hx';unfold ah.yJ
  rw [dF (show ¬ x.1<1 by omega),dF (show ¬ x.1 > 99 by omega),dF (show ¬ x.2.1<1 by omega),dF (show ¬ x.2.1 > 99 by omega),dF (show ¬ x.2.2.2.1<now' by omega),dF (show ¬ x.2.2.2.1 > now' + 1000 by omega)]
  simp
 have e4:L.find? Bn=none:=by
  rw [List.find?_eq_none];intro x hx';unfold Bn;rw [dT (hx x hx').2.2.1];simp
 have e5:L.any (fun x=>O1 x.2.2.1)=false:=by
  rw [List.any_eq_false];intro x hx';rw [(hx x hx').2.2.2.1];simp
 have e6:ZN L=true:=by
  unfold ZN;rw [List.all_eq_true];intro i hi;have hi:=List.mem_range.mp hi
  have q:=afM hp (i:=i) (j:=i+1) (by omega) (by omega)
  unfold Hy Lr;unfold ltM at q
  rcases q with q | q
  ·rw [dT q];rfl
  ·rw [dT q.1,dT q.2];simp
 show (bif !ah.inside now' 0 1000000 then (2:Int) else bif decide (64<L.length) then 3 else bif L.any (ah.yJ now') then 2 else (L.find? Bn).elim (bif L.any (fun x=>O1 x.2.2.1) then 1 else bif !ZN L then 25 else 0) (fun x=>dU x.2.2.1))=0
 rw [e1,dF (show ¬ 64<L.length by omega),e3,e4,e5,e6]
 rfl
theorem wk1 {u d:Int} (h1:-2000000≤d∧d≤2000000) (h2:0≤u∧u≤2000000):IntKind.wrap .i64 (u+IntKind.wrap .i64 d)=u+d:=by
 rw [fU (n:=d) (by omega) (by omega),fU (n:=u+d) (by omega) (by omega)]
theorem wk2 {n:Nat} {x:Int} (h1:n≤10) (h2:0≤x∧x≤1000):IntKind.wrap .i64 (IntKind.wrap .i64 (10*Int.ofNat n)+x)=10*(n:Int)+x:=by
 rw [bK,fU (n:=10*(n:Int)) (by omega) (by omega),fU (n:=10*(n:Int)+x) (by omega) (by omega)]
theorem mv {f:Mb→Mb} {l0:List Mb} {j:Nat} (h:j<l0.length):((l0.take j).map f++l0.drop j).set j (f (l0.getD j BU))=(l0.take (j+1)).map f++l0.drop (j+1):=by
 have hg:l0.getD j BU=l0[j]:=by simp [h]
 rw [hg,List.take_succ_eq_append_getElem h,List.map_append,List.map_singleton,List.drop_eq_getElem_cons h,List.append_assoc]
 rw [List.set_append_right _ _ (by rw [List.length_map,List.length_take];omega),List.length_map,List.length_take,show j - min j l0.length=0 by omega,List.set_cons_zero]
 rfl
theorem anp {f:Mb→Mb} {l0:List Mb} {j:Nat} (h:j<l0.length):((l0.take j).map f++l0.drop j).getD j BU=l0.getD j BU:=by
 rw [yP,List.getElem?_append_right (by rw [List.length_map,List.length_take];omega),List.length_map,List.length_take,List.getElem?_drop,show j+(j - min j l0.length)=j by omega,←yP]
def rnd (n:Nat) (now' now:Int) (l:List Mb) (j:Nat):List Mb:=
 let A:Mb:=((l.getD j BU).1,(l.getD j BU).2.1,(l.getD j BU).2.2.1,IntKind.wrap .i64 ((l.getD j BU).2.2.2.1+IntKind.wrap .i64 (now' - now)),())
 List.set (List.set l j A) j (IntKind.wrap .i64 (IntKind.wrap .i64 (10*Int.ofNat n)+((List.set l j A).getD j BU).1),((List.set l j A).getD j BU).2)
theorem amE {n:Nat} {now' now:Int} {l0:List Mb} {j:Nat} (hj:j<l0.length) (hn:0≤now'∧now'≤100) (h0:0≤now∧now≤998000) (hk:n≤4) (hm:akA now (l0.getD j BU)) :
 rnd n now' now ((l0.take j).map (upd n (now' - now))++l0.drop j) j=(l0.take (j+1)).map (upd n (now' - now))++l0.drop (j+1):=by
 have hu:=hm.u;have hh:=hm.h;unfold rnd;simp only [];rw [anp hj]
 have hlen:j<((l0.take j).map (upd n (now' - now))++l0.drop j).length:=by rw [kZ,List.length_map,List.length_take,List.length_drop];omega
 have hA:∀ A:Mb,(((l0.take j).map (upd n (now' - now))++l0.drop j).set j A).getD j BU=A:=by
  intro A;rw [yP,List.getElem?_set_self hlen];rfl
 rw [hA,List.set_set,wk1 (by omega) (by omega),←mv hj]
 congr 1
 show (IntKind.wrap .i64 (IntKind.wrap .i64 (10*Int.ofNat n)+(l0.getD j BU).1),(l0.getD j BU).2.1,(l0.getD j BU).2.2.1,(l0.getD j BU).2.2.2.1+(now' - now),())=upd n (now' - now) (l0.getD j BU)
 rw [wk2 (by omega) (by omega)]
 rfl
theorem p6s (a0:Int×Tp) (a1:Ms×Tp) (sc:Sc) (hn:0≤a0.1∧a0.1≤100) (hM:MsT a1.1) (hl:a1.1.2.1.length≤4) (hk:sc.2.2.2.2.2.1.length≤4) :
 Par (Loop (@RY a0 a1) (0,(sc,(a1.1,())))) (fun y=>y.1=sc∧y.2.1.2.1=a1.1.2.1.map (upd sc.2.2.2.2.2.1.length (a0.1 - a1.1.1))):=by
 obtain ⟨now',tp'⟩:=a0;obtain ⟨⟨now,l0,⟨⟩⟩,tp1⟩:=a1;have hn:0≤now'∧now'≤100:=hn;have hl:l0.length≤4:=hl;have hN:0≤now∧now≤998000:=hM.n
 refine aaz (fun s=>s.2.1=sc∧s.2.2.1.1=now∧0≤s.1∧s.1.toNat≤l0.length∧s.2.2.1.2.1=(l0.take s.1.toNat).map (upd sc.2.2.2.2.2.1.length (now' - now))++l0.drop s.1.toNat) ⟨rfl,rfl,Int.le_refl _,fG _,rfl⟩ ?_
 rintro ⟨j,sc',⟨nw,l,⟨⟩⟩,⟨⟩⟩ ⟨i1,i2,i3,i4,i5⟩;obtain rfl:sc' = sc:=i1;obtain rfl:nw=now:=i2;have i3:0≤j:=i3;have i4:j.toNat≤l0.length:=i4;have i5:l=(l0.take j.toNat).map (upd sc'.2.2.2.2.2.1.length (now' - nw))++l0.drop j.toNat:=i5
 have hlen:l.length=l0.length:=by rw [i5,kZ,List.length_map,List.length_take,List.length_drop];omega
 unfold RY
 refine aaA (fun c=>?_) fun c=>?_
 ·repeat (refine aam fun _=>?_)
  have c:j<Int.ofNat l0.length:=c;rw [bK] at c
  have hj:j.toNat<l0.length:=by omega
  have e1:IntKind.wrap .i64 (j+1)=j+1:=fU (by omega) (by omega)
  refine aaj ⟨rfl,rfl,?_,?_,?_⟩
  ·show 0≤IntKind.wrap .i64 (j+1);omega
  ·show (IntKind.wrap .i64 (j+1)).toNat≤_;omega
  ·show rnd sc'.2.2.2.2.2.1.length now' nw l j.toNat=(l0.take (IntKind.wrap .i64 (j+1)).toNat).map (upd sc'.2.2.2.2.2.1.length (now' - nw))++l0.drop (IntKind.wrap .i64 (j+1)).toNat
   rw [e1,show (j+1).toNat=j.toNat+1 by omega,i5]
   exact amE hj hn hN hk (hM.e _ (adi hj))
 ·have c:¬ j<Int.ofNat l0.length:=c
  rw [bK] at c;refine aaj ⟨rfl,?_⟩;show l=l0.map _
  rw [i5,show j.toNat=l0.length by omega,List.take_length,List.drop_length,List.append_nil]
def ScV (g:List Rt) (s:Sc):Prop:=s.1=g∧∀ x∈s.2.2.2.2.2.1,jw x.2.1=0
theorem p6 (t:Tp) (hw:wf t=true):Par (x6 t 5) (fun y=>(∀ r∈y.1.1,r.2.1=true)∧∀ x∈y.1.2.2.2.2.2.1,jw x.2.1=0):=by
 obtain ⟨a0,a1,⟨⟩⟩:=t;unfold x6 r6
 refine aak (P:=fun y:To×Tp=>(wf y.2=true∧TW y.1)∧∀ x∈y.1.1,x.2.1=true) (fun r e=>⟨acL (H25 _ hw) r e,p25 _ _ r e⟩) fun y3 k3=>?_
 obtain ⟨⟨w3,k3⟩,c3⟩:=k3
 refine aak (acL (t26 _ _ w3 (by have:=k3.1;omega) k3.2)) fun y4 k4=>?_
 have e5:y4.1.2.2.1.length≤5:=by have:=k3.1;have:=k4.2.1;omega
 refine aak (acL (t6a y4 e5 k4.2.2)) fun y5 k5=>aak (P:=fun y:Int×Tp=>0≤y.1∧y.1≤100) (acK fun _=>?_) fun y6 k6=>?_
 ·have:=afI y4.2 (l:=[0,100]) (by decide)
  simp only [List.mem_cons,List.not_mem_nil,or_false] at this;omega
 obtain ⟨l,⟨⟩⟩:=y5;have k5:l.length≤5:=k5.2
 refine aak (P:=fun y:Sc×(Tp×Unit)=>ScV y3.1.1 y.1) ?_ fun y7 k7=>aau fun y8 _=>aau fun y9 _=>aak (P:=fun y:Sc×(Tp×Unit)=>ScV y3.1.1 y.1) ?_ fun mq k10=>aak (P:=fun y:Tp×(Sc×Unit)=>ScV y3.1.1 y.2.1) ?_ fun jP k11=>aau fun pX _=>aak (P:=fun y:Sc×(Tp×Unit)=>ScV y3.1.1 y.1) ?_ fun y13 k13=>aaj ⟨fun r hr=>?_,k13.2⟩
 ·refine aaz (fun s=>ScV y3.1.1 s.2.1∧0≤s.1∧(s.2.1.2.2.2.2.2.1.length:Int)≤s.1) ⟨⟨rfl,fun x hx=>by cases hx⟩,Int.le_refl _,Int.le_refl _⟩ ?_
  rintro ⟨i,sc,tp,⟨⟩⟩ ⟨i1,i2,i3⟩;have i1:ScV y3.1.1 sc:=i1;have i2:0≤i:=i2;have i3:(sc.2.2.2.2.2.1.length:Int)≤i:=i3;unfold RZ
  refine aal (fun _=>aam fun c2=>aak (p29 tp) fun y3' h3=>?_) fun _=>aaj i1
  have hi:=(afF c2).2;have hi:i.toNat<l.length:=hi
  have hk:sc.2.2.2.2.2.1.length≤4:=by omega
  refine aak (p6s y6 y3' sc k6 h3.1 h3.2 hk) fun y4' h4=>aam fun _=>aaj ⟨⟨?_,fun x hx=>?_⟩,?_,?_⟩
  ·show y4'.1.1=y3.1.1
   rw [h4.1];exact i1.1
  ·have hx:x∈y4'.1.2.2.2.2.2.1++[_]:=hx
   rw [h4.1] at hx
   rcases List.mem_append.mp hx with hx | hx
   ·exact i1.2 x hx
   ·obtain rfl:=List.mem_singleton.mp hx
    show jw (y6.1,y4'.2.1.2)=0;have e:y4'.2.1.2=(y4'.2.1.2.1,()):=rfl;rw [e]
    exact val_ok ⟨k6.1,by have:=k6.2;omega⟩ ⟨by omega,by omega⟩ h3.2 h3.1.e h3.1.s h4.2
  ·show 0≤IntKind.wrap .i64 (i+1)
   rw [fU (by omega) (by omega)];omega
  ·show (((y4'.1.2.2.2.2.2.1++[_]:List Si).length:Nat):Int)≤IntKind.wrap .i64 (i+1)
   rw [h4.1,fU (by omega) (by omega),kZ,FL]
   omega
 ·refine aaz (fun s=>ScV y3.1.1 s.2.1) k7 ?_
  rintro ⟨i,sc,tp,⟨⟩⟩ i1;have i1:ScV y3.1.1 sc:=i1;unfold R5
  exact aal (fun _=>aak (P:=fun y:Sc×(Tp×Unit)=>ScV y3.1.1 y.1) (aal (fun _=>aau fun y2 _=>aaj i1) fun _=>aaj i1) fun y h=>aaj h) fun _=>aaj i1
 ·refine aaz (fun s=>ScV y3.1.1 s.2.1) k10 ?_
  rintro ⟨tp,sc,i,⟨⟩⟩ i1;have i1:ScV y3.1.1 sc:=i1;unfold R6
  exact aal (fun _=>aam fun _=>aau fun y2 _=>aau fun y3' _=>aak (P:=fun y:Sc×Unit=>ScV y3.1.1 y.1) (aal (fun _=>aau fun y4' _=>aak (P:=fun y:Sc×Unit=>ScV y3.1.1 y.1) (aal (fun _=>aaj i1) fun _=>aaj i1) fun y h=>aaj h) fun _=>aaj i1) fun y h=>aaj h) fun _=>aaj i1
 ·refine aaz (fun s=>ScV y3.1.1 s.2.1) k11 ?_
  rintro ⟨i,sc,tp,⟨⟩⟩ i1;have i1:ScV y3.1.1 sc:=i1;unfold R7
  exact aal (fun _=>aau fun y1 _=>aau fun y2 _=>aaj i1) fun _=>aaj i1
 ·have hr:r∈y13.1.1:=hr
  rw [k13.1] at hr;exact c3 r hr
theorem unw {f:Fw} (hv:fM f=true):gG (f.1::f.2.1::dta)=(f,dta,0,()):=by
 unfold gG
 rw [dF (show ¬ (f.1::f.2.1::dta).length<2 by simp)]
 have e:fM ((f.1::f.2.1::dta).getD 0 0,(f.1::f.2.1::dta).getD 1 0,())=true:=hv;rw [e];rfl
theorem akD {p:Pn} {m:Ms} {d:DlF} {f:Fw} (hm:jw m=0) (ha:accept p d=true) (hv:fM f=true) (hp:py d.2=f.1::f.2.1::dta):gH p m d=(recs m d.1 f dta,0,()):=by
 unfold gH;rw [dT hm,ha,hp,unw hv];rfl
theorem akM {m:Ms} {r:Int} {f:Fw} (hm:jw m=0) (hr:1≤r∧r≤99) (hv:fM f=true):je m r f dta=(recs m r f dta,0,()):=by
 unfold je
 have e1:ah.inside r 1 99=true:=by unfold ah.inside;rw [dT hr.1,dT hr.2];rfl
 have e2:(ah.wrap f dta).2.1=0:=by unfold ah.wrap;rw [hv];rfl
 rw [dT hm,e1,dT e2];rfl
theorem afU {p:Pn} {d:DlF} (h:accept p d=true):∃ e∈p.2.2.1,d.1=e.1:=by
 unfold accept at h;rw [bP] at h;have h:=h.2;rw [bP] at h;obtain ⟨e,he,q⟩:=List.any_eq_true.mp h.2;have q:=of_decide_eq_true q
 exact ⟨e,he,by rw [←q]⟩
theorem anq {l:List Mb} (h:ZN l=true):l.Pairwise ltM:=by
 unfold ZN at h;rw [List.all_eq_true] at h
 have st:∀ i,i+1<l.length→ltM (l.getD i BU) (l.getD (i+1) BU):=by
  intro i hi
  have q:=h i (List.mem_range.mpr (by omega))
  unfold Hy Lr at q;rw [Bool.or_eq_true] at q;unfold ltM
  rcases q with q | q
  ·exact .inl (of_decide_eq_true q)
  ·rw [bP] at q
   exact .inr ⟨of_decide_eq_true q.1,of_decide_eq_true q.2⟩
 have key:∀ n i,i+n+1<l.length→ltM (l.getD i BU) (l.getD (i+n+1) BU):=by
  intro n
  induction n with
  | zero=>intro i hi;exact st i hi
  | succ n ih=>
   intro i hi
   exact afG (ih i (by omega)) (st (i+n+1) (by omega))
 rw [List.pairwise_iff_getElem];intro i j hi hj hij
 have:=key (j - i - 1) i (by omega)
 rw [show i+(j - i - 1)+1=j by omega] at this
 rw [show l.getD i BU=l[i] from by simp [hi],show l.getD j BU=l[j] from by simp [hj]] at this
 exact this
theorem amG {m:Ms} (h:jw m=0):ZN m.2.1=true:=by
 unfold jw at h
 cases h1:!ah.inside m.1 0 1000000 with
 | true=>rw [h1] at h;cases h
 | false=>
  rw [h1] at h
  by_cases h2:64<m.2.1.length
  ·rw [dT h2] at h;cases h
  ·rw [dF h2] at h
   cases h3:m.2.1.any (ah.yJ m.1) with
   | true=>rw [h3] at h;cases h
   | false=>
    rw [h3] at h
    cases h4:m.2.1.find? Bn with
    | some x=>
     rw [h4] at h;have hb:=List.find?_some h4;unfold Bn at hb;have h:dU x.2.2.1=0:=h;rw [dT h] at hb;cases hb
    | none=>
     rw [h4] at h
     have h:(bif m.2.1.any (fun x=>O1 x.2.2.1) then (1:Int) else bif !ZN m.2.1 then 25 else 0)=0:=h
     cases h5:m.2.1.any (fun x=>O1 x.2.2.1) with
     | true=>rw [h5] at h;cases h
     | false=>
      rw [h5] at h
      cases h6:ZN m.2.1 with
      | true=>rfl
      | false=>rw [h6] at h;cases h
theorem agh {m:Ms} (h:jw m=0) (f:Fw):(hosts m f).Pairwise (· < ·):=by
 unfold hosts;rw [dT h];have hp:=(anq (amG h)).sublist (List.filter_sublist (p:=Ls f))
 refine List.pairwise_map.mpr (hp.imp_of_mem fun {a b} ha hb hab=>?_)
 have ga:=(List.mem_filter.mp ha).2;have gb:=(List.mem_filter.mp hb).2;unfold Ls at ga gb;rw [bP,bP] at ga gb;have e1:=of_decide_eq_true ga.1.1;have e2:=of_decide_eq_true gb.1.1;unfold ltM at hab;omega
theorem afL (m:Ms) (r:Int) (f:Fw) (d:List Int):(recs m r f d).length=(hosts m f).length:=List.length_map _
theorem amH (m:Ms) (f:Fw):(hosts m f).length≤64:=by
 unfold hosts
 by_cases h:jw m=0
 ·rw [dT h]
  show ((m.2.1.filter _).map _).length≤64;rw [List.length_map];exact jQ (List.length_filter_le _ _) (BR h)
 ·rw [dF h];exact fG _
theorem ah1 {m:Ms} {r:Int} {f:Fw} {d:List Int} (h:jw m=0):∀ x∈recs m r f d,¬ x.1=f.1∧x.2.2.1=f∧x.2.2.2.1=d:=by
 intro x hx;obtain ⟨q,hq,rfl⟩:=List.mem_map.mp hx;refine ⟨?_,rfl,rfl⟩;unfold hosts at hq;rw [dT h] at hq;obtain ⟨y,hy,rfl⟩:=List.mem_map.mp hq;have g:=(List.mem_filter.mp hy).2;unfold Ls at g;rw [bP,bP] at g;intro e;have e:y.1=f.1:=e;rw [dT e] at g;cases g.1.2
theorem ah2 {m:Ms} {r:Int} {f:Fw} {d:List Int} (h:jw m=0):(recs m r f d).Pairwise (fun x y=>x.1<y.1):=List.pairwise_map.mpr (agh h f)
theorem oG (l:List Rc):pU l l=true:=by unfold pU;exact dT rfl
abbrev zD:Dl:=(0,(0,0,0,0,0,0,0,0,0,[],()),())
abbrev zS2:Si:=(0,(0,[],()),())
abbrev afH (s:Sc):Pn:=(s.2.2.1,s.2.2.2.1,s.2.2.2.2.1,())
theorem amo:List.beq dta [100,97,116,97]=true:=by decide
theorem aqX (a0:Sc×Tp) (a1:Int×(List Dl×Unit)) (a2:Int×Unit) (f:Fw) (R:List Rc)
 (he:gH (afH a0.1) (List.getD a0.1.2.2.2.2.2.1 (Int.toNat a2.1) zS2).2.1 ((List.getD a1.2.1 (Int.toNat a1.1) zD).1,(List.getD a1.2.1 (Int.toNat a1.1) zD).2.1)=(R,0,()))
 (hu:gG (List.getD a1.2.1 (Int.toNat a1.1) zD).2.1.2.2.2.2.2.2.2.2.2.1=(f,dta,0,()))
 (hR:∀ x∈R,¬ x.1=f.1∧x.2.2.1=f∧x.2.2.2.1=dta) (hS:R.Pairwise (fun x y=>x.1<y.1)) (hl:R.length≤64) :
 dS (Loop (@ahw a0 a1 a2) (0,())) (fun y=>y.1=false):=by
 refine aJ R.length (fun s=>s.1) (fun _=>True) rfl trivial ?_
 rintro ⟨i,⟨⟩⟩ k hk hle -;obtain rfl:i=k:=hk;unfold ahw;simp only [he,hu,bK,dG]
 refine aB (fun c=>aF (by omega) c ?_) fun c=>aj rfl
 have hk:k<R.length:=by omega
 obtain ⟨q1,q2,q3⟩:=hR _ (getD_in (d:=(0,0,(0,0,()),[],())) hk)
 refine ak (P:=fun y=>y.1=false) ?_ fun y4 h4=>au (fun e=>by rw [h4] at e;cases e) fun _=>aj ⟨hk,aG (by omega),trivial⟩
 have e2:(R.getD k (0,0,(0,0,()),[],())).2.2.1.1=f.1:=by rw [q2]
 have e3:(R.getD k (0,0,(0,0,()),[],())).2.2.1.2.1=f.2.1:=by rw [q2]
 have e4:List.beq (R.getD k (0,0,(0,0,()),[],())).2.2.2.1 (100::(97::(116::(97::[]))))=true:=by rw [q3];exact amo
 refine au (fun _=>au (fun _=>au (fun _=>aB (fun c5=>?_) fun _=>aj rfl) fun e=>?_) fun e=>?_) fun e=>?_
 ·have c5:(k:Int) > 0:=c5
  have ew:IntKind.wrap .i64 ((k:Int) - 1)=(k:Int) - 1:=fU (by omega) (by omega)
  refine aF (by rw [ew];omega) (by rw [ew];omega) (aj ?_)
  have hlt:=List.pairwise_iff_getElem.mp hS (k - 1) k (by omega) hk (by omega)
  show decide ((R.getD (Int.toNat (IntKind.wrap .i64 ((k:Int) - 1))) (0,0,(0,0,()),[],())).1≥(R.getD k (0,0,(0,0,()),[],())).1)=false
  rw [ew,show ((k:Int) - 1).toNat=k - 1 by omega]
  refine jM ?_
  rw [show R.getD (k - 1) (0,0,(0,0,()),[],())=R[k - 1] from by simp [show k - 1<R.length by omega],show R.getD k (0,0,(0,0,()),[],())=R[k] from by simp [hk]]
  omega
 ·rw [e4] at e;cases e
 ·rw [dT e2,dT e3] at e;cases e
 ·exact absurd (akL e) q1
theorem arf (a0:Sc×Tp) (a1:Int×(List Dl×Unit)) (hd:DvF (afH a0.1) (List.getD a1.2.1 (Int.toNat a1.1) zD)) (hm:∀ x∈a0.1.2.2.2.2.2.1,jw x.2.1=0) (hs:a0.1.2.2.2.2.2.1.length≤5)
 (he:∀ e∈a0.1.2.2.2.2.1,1≤e.1∧e.1≤99):dS (Loop (@ahx a0 a1) (0,())) (fun y=>y.1=false):=by
 obtain ⟨f,hv,ha,hp⟩:=hd
 refine aJ a0.1.2.2.2.2.2.1.length (fun s=>s.1) (fun _=>True) rfl trivial ?_
 rintro ⟨i,⟨⟩⟩ k hk hle -;obtain rfl:i=k:=hk
 have hr:1≤(List.getD a1.2.1 (Int.toNat a1.1) zD).1∧(List.getD a1.2.1 (Int.toNat a1.1) zD).1≤99:=by
  obtain ⟨e,h1,h2⟩:=afU ha;have h2:(List.getD a1.2.1 (Int.toNat a1.1) zD).1=e.1:=h2;rw [h2];exact he e h1
 have hu:gG (List.getD a1.2.1 (Int.toNat a1.1) zD).2.1.2.2.2.2.2.2.2.2.2.1=(f,dta,0,()):=by
  have hp:(List.getD a1.2.1 (Int.toNat a1.1) zD).2.1.2.2.2.2.2.2.2.2.2.1=f.1::f.2.1::dta:=hp;rw [hp];exact unw hv
 unfold ahx;simp only [hu,bK,dG]
 refine aB (fun c=>aF (by omega) c ?_) fun c=>aj rfl
 have hk:k<a0.1.2.2.2.2.2.1.length:=by omega
 have hM:=hm _ (getD_in (d:=zS2) hk);have hR:gH (afH a0.1) (List.getD a0.1.2.2.2.2.2.1 k zS2).2.1 ((List.getD a1.2.1 (Int.toNat a1.1) zD).1,(List.getD a1.2.1 (Int.toNat a1.1) zD).2.1)=(recs (List.getD a0.1.2.2.2.2.2.1 k zS2).2.1 (List.getD a1.2.1 (Int.toNat a1.1) zD).1 f dta,0,()):=akD hM ha hv hp
 refine bE (fun _=>aj ⟨hk,aG (by omega),trivial⟩) fun er=>?_
 have er:(List.getD a0.1.2.2.2.2.2.1 k zS2).1=(List.getD a1.2.1 (Int.toNat a1.1) zD).1:=er
 have hL:je (List.getD a0.1.2.2.2.2.2.1 k zS2).2.1 (List.getD a0.1.2.2.2.2.2.1 k zS2).1 f dta=(recs (List.getD a0.1.2.2.2.2.2.1 k zS2).2.1 (List.getD a1.2.1 (Int.toNat a1.1) zD).1 f dta,0,()):=by
  rw [er];exact akM hM hr hv
 refine ak (P:=fun y=>y=((recs (List.getD a0.1.2.2.2.2.2.1 k zS2).2.1 (List.getD a1.2.1 (Int.toNat a1.1) zD).1 f dta,0,()),())) (jL (fB (by decide)) ?_) fun y3 h3=>?_
 ·show (je (List.getD a0.1.2.2.2.2.2.1 k zS2).2.1 (List.getD a0.1.2.2.2.2.2.1 k zS2).1 f dta,())=_
  rw [hL]
 subst h3
 refine ak (P:=fun y=>y=(false,())) ?_ fun y4 h4=>?_
 ·simp only [hR]
  rw [oG,afL]
  refine au (fun _=>au (fun _=>au (fun _=>au (fun _=>aj ?_) fun e=>?_) fun e=>?_) fun e=>?_) fun e=>?_
  ·rw [dT rfl];rfl
  ·simp at e
  ·simp at e
  ·simp at e
  ·simp at e
 subst h4
 refine au (fun e=>by cases e) fun _=>ak (aqX a0 a1 ((k:Int),()) f _ hR hu (ah1 hM) (ah2 hM) (by rw [afL];exact amH _ _)) fun y5 h5=>au (fun e=>by rw [h5] at e;cases e) fun _=>aj ⟨hk,aG (by omega),trivial⟩
theorem arx (a0:Sc×Tp) (a1:List Dl×Tp) (hd:∀ d∈a1.1,DvF (afH a0.1) d) (hl:a1.1.length≤1000000000) (hm:∀ x∈a0.1.2.2.2.2.2.1,jw x.2.1=0) (hs:a0.1.2.2.2.2.2.1.length≤5)
 (he:∀ e∈a0.1.2.2.2.2.1,1≤e.1∧e.1≤99):dS (Loop (@ahy a0 a1) (0,(a1.1,()))) (fun y=>y.1=false):=by
 refine aJ a1.1.length (fun s=>s.1) (fun s=>s.2.1=a1.1) rfl rfl ?_
 rintro ⟨i,l,⟨⟩⟩ k hk hle i1;obtain rfl:i=k:=hk;obtain rfl:l=a1.1:=i1;unfold ahy;simp only [bK,dG]
 refine aB (fun c=>aF (by omega) c (bL (by omega) ?_)) fun c=>aj rfl
 have hk:k<a1.1.length:=by omega
 have hD:=hd _ (getD_in (d:=zD) hk)
 have ha:accept (afH a0.1) ((a1.1.getD k zD).1,(a1.1.getD k zD).2.1)=true:=by
  obtain ⟨f,hv,ha,hp⟩:=hD;exact ha
 refine au (fun e=>?_) fun _=>ak (arf a0 ((k:Int),(a1.1,())) hD hm hs he) fun y3 h3=>au (fun e=>by rw [h3] at e;cases e) fun _=>aj ⟨hk,aG (by omega),rfl⟩
 have e:(!(accept (afH a0.1) ((a1.1.getD k zD).1,(a1.1.getD k zD).2.1)))=true:=e;rw [ha] at e;cases e
theorem amq (l:List Int):wf (ah.tape l)=true:=Fg.2 ⟨by simp [ah.tape],by simp [ah.tape],by simp [ah.tape];omega⟩
theorem anv (a0:List Int):g3 a0=some (true,()):=by
 have key:dS (g3 a0) (fun r=>r=(true,())):=by
  unfold g3;have t6':=af3 (t6 H25 _ (amq a0)) (p6 _ (amq a0))
  refine ak t6' fun y1 h1=>?_
  obtain ⟨⟨w1,q1,o1⟩,c1,m1⟩:=h1
  refine ak (af3 (t7 _ _ w1 q1 o1) (p7 _ _ c1)) fun y2 h2=>ak (arx y1 y2 h2.2 h2.1.2 m1 q1.2.2.1 q1.2.1.2) fun y3 h3=>au (fun e=>by rw [h3] at e;cases e) fun _=>aj rfl
 obtain ⟨r,e,rfl⟩:=key;exact e
theorem Zl (a0:List ah.Ed) (a1 a2:Int) (r0:(Ty.sl (J5)).ok a0):ajL a0 a1 a2=some (ah.idx (fun e=>decide (e.1=a1)) a0,()):=by
 have hl:=Fh r0;unfold ajL
 refine oD (zn a0 a1 a2) a0 (fun e=>decide (e.1=a1)) zE (fun i hi=>?_) ?_
 ·unfold zn
  simp only [bK,dG]
  rw [fB (show (i:Int)<(a0.length:Int) by omega),fB (show (0:Int)≤(i:Int) by omega),fU (n:=(i:Int)+1) (by omega) (by omega)]
  rfl
 ·unfold zn
  simp only [bK]
  rw [jM (show ¬ (a0.length:Int)<(a0.length:Int) by omega)]
  rfl
theorem ad8 (a0:List ah.Ed) (a1 a2:Int):g97 a0 a1 a2=some (a0.any (fun e=>decide (e.1=a1)),()):=by
 unfold g97;rw [Fj]
theorem aea    : g14  = some (true,()):=by
 kernel_rfl
end Go.gI.qJ