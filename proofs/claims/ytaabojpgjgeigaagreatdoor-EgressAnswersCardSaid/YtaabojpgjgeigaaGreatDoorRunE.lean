/- Chapter 29 (egress, answers): proved is that further runs come to an end (engines, packets on their way, topologies), and the law; no conditions but those that each theorem states. -/
import Derived.Test.YtaabojpgjgeigaaGreatDoorRunD
import Derived.KernelRfl
set_option linter.unusedVariables false
set_option linter.unusedSimpArgs false
namespace Go.gI.qJ
open Go Go.Proofs ah
set_option maxRecDepth 100000
theorem t15 (m:Ms):dS (x15 m) (fun _=>True):=by
 obtain ⟨a0,a1,⟨⟩⟩:=m;unfold x15 r15
 refine ak (P:=fun _=>True) (aJ a1.length (fun s=>s.2.1) (fun s=>(s.2.1=0→s.1=(a1.length:Int))∧(0<s.2.1→a1.length<900)) rfl ⟨fun _=>rfl,fun h=>absurd h (by show ¬ (0:Int)<0;omega)⟩ ?_) fun y _=>aj trivial
 rintro ⟨n,i,⟨⟩⟩ k hk hle ⟨i1,i2⟩;obtain rfl:i=k:=hk;have i1:(k:Int)=0→n=(a1.length:Int):=i1;have i2:0<(k:Int)→a1.length<900:=i2;unfold Rl;simp only [bK,dG]
 refine ak (P:=fun y=>y.1=true→k<a1.length∧n<900) (aB (fun c=>aj fun e=>⟨by omega,of_decide_eq_true e⟩) fun _=>aj fun e=>by cases e) fun y hy=>au (fun c=>?_) fun _=>aj trivial
 obtain ⟨k1,k2⟩:=hy c
 have k3:a1.length<900:=by
  by_cases e:k=0
  ·have:=i1 (by omega);omega
  ·exact i2 (by omega)
 exact aF (by omega) (by omega) (aj ⟨k1,aG (by omega),fun e=>absurd e (by show ¬ IntKind.wrap .i64 ((k:Int)+1)=0;rw [aG (by omega)];omega),fun _=>k3⟩)
theorem t38 (t:Tp) (s:Sc) (hw:wf t=true):dS (x38 t s) (fun r=>wf r.2=true):=by
 obtain ⟨a0,a1,⟨⟩⟩:=t;unfold x38 r38;simp only [bK]
 refine ak (P:=fun y=>wf y.1=true∧(y.2.1=false→0<s.2.2.2.2.2.1.length)) (bE (fun c=>ak (fV 30 hw) fun y k=>aj ⟨k.1,fun _=>by omega⟩) fun _=>aj ⟨hw,fun e=>by cases e⟩) fun jP k11=>au (fun _=>ak (jf [0,1,2,99] k11.1 (by rw [k11.1];rfl) (by decide)) fun y k=>aj k.1) fun c=>ak (fV _ k11.1) fun pX k12=>aF k12.2.1 (by have:=k12.2.2;have:=k11.2 c;omega) (aj k12.1)
theorem t19 (t:Tp) (hw:wf t=true):dS (x19 t) (fun r=>wf r.2=true):=by
 obtain ⟨a0,a1,⟨⟩⟩:=t;unfold x19 r19
 exact ak (jJ 1 6 hw (by decide) (by decide)) fun y2 k2=>ak (jJ 1 20 k2.1 (by decide) (by decide)) fun y3 k3=>ak (jJ 1 99 k3.1 (by decide) (by decide)) fun y4 k4=>ak (jf [y2.1,y3.1,y4.1] k4.1 (by rw [k4.1];rfl) (by simp)) fun y5 k5=>ak (jJ 1 4 k5.1 (by decide) (by decide)) fun y6 k6=>ak (fV 30 k6.1) fun y7 k7=>ak (P:=fun y=>wf y.2.1=true) (au (fun _=>ak (jf [0,1,100] k7.1 (by rw [k7.1];rfl) (by decide)) fun y8 k8=>ak (jf [0,1,100] k8.1 (by rw [k8.1];rfl) (by decide)) fun y9 k9=>aj k9.1) fun _=>aj k7.1) fun y8 k8=>aj k8
theorem akJ (n:Int):0≤IntKind.wrap .u64 n:=by
 have e1:(2:Int) ^ IntKind.u64.bits=18446744073709551616:=by decide
 have e3:IntKind.u64.signed=false:=rfl;simp only [IntKind.wrap,e1,e3,Bool.false_and]
 exact Int.emod_nonneg _ (by decide)
theorem t16 (t:Tp) (d:DlF) (hw:wf t=true):dS (x16 t d) (fun r=>wf r.2=true):=by
 obtain ⟨a0,a1,⟨⟩⟩:=t;unfold x16 r16
 refine ak (fV 7 hw) fun y13 k13=>?_
 refine ak (P:=fun y=>wf y.1=true) (au (fun _=>ak (jf [0,1,2,99] k13.1 (by rw [k13.1];rfl) (by decide)) fun y k=>aj k.1) fun _=>?_) fun iV k14=>aj k14
 refine ak (P:=fun y=>wf y.2.1=true) (au (fun _=>ak (jJ 0 4 k13.1 (by decide) (by decide)) fun y k=>aj k.1) fun _=>?_) fun iV k14=>aj k14
 refine ak (P:=fun y=>wf y.1=true) (au (fun _=>ak (fV 64 k13.1) fun y k=>jI (fB (akJ _)) (aj k.1)) fun _=>?_) fun iV k14=>aj k14
 refine ak (P:=fun y=>wf y.2.1=true) (au (fun _=>ak (jf [0,1,31,32] k13.1 (by rw [k13.1];rfl) (by decide)) fun y k=>aj k.1) fun _=>?_) fun iV k14=>aj k14
 refine ak (P:=fun y=>wf y.1=true) (au (fun _=>ak (jJ 0 8 k13.1 (by decide) (by decide)) fun y k=>aj k.1) fun _=>?_) fun iV k14=>aj k14
 refine ak (P:=fun y=>wf y.2.1=true) (au (fun _=>ak (jf [8,16,64,7] k13.1 (by rw [k13.1];rfl) (by decide)) fun y k=>aj k.1) fun _=>?_) fun iV k14=>aj k14
 exact ak (fV 5 k13.1) fun y k=>aF k.2.1 (by have:=k.2.2;omega) (aj k.1)
theorem t139 (o:Ov) (r:Int) (h:o.1.length≤1000):dS (R8 o r) (fun _=>True):=by
 obtain ⟨a0,a1,a2,⟨⟩⟩:=o;have h:a0.length≤1000:=h;unfold R8 ahT
 refine ak (P:=fun _=>True) (aJ a0.length (fun s=>s.1) (fun _=>True) rfl trivial ?_) fun y _=>au (fun _=>aj trivial) fun _=>aj trivial
 rintro ⟨i,⟨⟩⟩ k hk hle -;obtain rfl:i=k:=hk;unfold LW;simp only [bK,dG]
 exact aB (fun c=>aF (by omega) (by omega) (au (fun _=>aj trivial) fun _=>aj ⟨by omega,aG (by omega),trivial⟩)) fun _=>aj trivial
theorem aqR (l:Li) (r:Int) {f:Nat} (hl:pG f l) (hf:f≤1000000000000):dS (Xe l r) (fun r=>r.1.1.2.2.2.1.length≤f):=by
 have aqS:=t124 l hl hf;obtain ⟨a0,a1,a2,⟨⟩⟩:=l;obtain ⟨h2,h3⟩:=hl;have h2:a2.length≤1000:=h2
 have h3:∀ h∈a2,h.2.2.2.1.length≤f:=h3
 unfold Xe ahU
 refine ak aqS fun y4 _=>ak (P:=fun y=>y.1=true→y.2.1.2.1.2.2.2.1.length≤f) (au (fun _=>ak (P:=fun y=>y.1=true→y.2.1.2.1.2.2.2.1.length≤f) (aJ a2.length (fun s=>s.2.1) (fun _=>True) rfl trivial ?_) fun y5 k5=>au (fun c=>aj fun _=>k5 c) fun _=>aj fun e=>by cases e) fun _=>aj fun e=>by cases e) fun y5 k5=>au (fun c=>aj (k5 c)) fun _=>aj (fG _)
 rintro ⟨e,i,⟨⟩⟩ k hk hle -;obtain rfl:i=k:=hk;unfold LX;simp only [bK,dG]
 exact aB (fun c=>aF (by omega) (by omega) (au (fun _=>aj fun _=>h3 _ (getD_in (by omega))) fun _=>aj ⟨by omega,aG (by omega),trivial⟩)) fun _=>aj fun e=>by cases e
theorem aqT (l:Li) (r:Int) {f:Nat} (hl:pG f l) (hf:f≤1000000000000):dS (Xf l r) (fun r=>r.1.length≤99):=by
 unfold Xf ahV
 exact ak (aqR _ r hl hf) fun y4 k4=>ak (t79 _ (jQ k4 hf)) fun y5 k5=>aj k5
theorem t141 (l:List Wa) (w:Fw) (hl:l.length≤1000):dS (Xh l w) (fun _=>True):=by
 unfold Xh ahX
 exact ak (P:=fun _=>True) (ak (t77 l) fun y _=>au (fun _=>ak (TS l _ (by omega)) fun y4 _=>aj trivial) fun _=>aj trivial) fun y _=>aj trivial
theorem aqU (o:Ov) (r g:Int) {n f:Nat} (h:kY n f o) (hn:n≤1000000000000) (hf:f≤1000000000000):dS (Xg o r g) (fun r=>r.1.1.length≤99):=by
 have e76:=t76 o r h.s;have aqV:=t76 o g h.s;obtain ⟨a0,a1,a2,⟨⟩⟩:=o;have h1:a0.length≤1000:=h.s
 have hsi:∀ s∈a0,pY n s:=h.si
 have Zt:∀ l∈a1,pG f l:=h.li
 unfold Xg ahW;dsimp only
 refine ak (t67 _ h hn hf) fun y5 hy=>bE (fun _=>aj (fG _)) fun c0=>?_
 have hl:a1.length=a0.length:=(hy c0).l;rw [e76,aqV];simp only [gL,bK]
 have hi:=uz (fun s:Sk=>decide (s.1=r)) a0
 have hi':=uz (fun s:Sk=>decide (s.1=g)) a0
 generalize ah.idx (fun s:Sk=>decide (s.1=r)) a0=k at hi ⊢
 generalize ah.idx (fun s:Sk=>decide (s.1=g)) a0=j at hi' ⊢
 refine ak (P:=fun y=>y.1=false→0≤k∧0≤j) (bE (fun c=>aj fun e=>⟨by omega,by have:=of_decide_eq_false e;omega⟩) fun _=>aj fun e=>by cases e) fun y8 k8=>au (fun _=>aj (fG _)) fun c=>?_
 obtain ⟨q1,q2⟩:=k8 c
 refine au (fun _=>aF (by omega) (by omega) (ak (t79 _ ?_) fun y9 k9=>aj k9)) fun _=>aF (by omega) (by omega) (ak (aqT _ _ (Zt _ (getD_in (by omega))) hf) fun y9 k9=>aj k9)
 have:=(hsi _ (getD_in (d:=((0,(0,(0,([],([],()))))):Sk)) (show j.toNat<a0.length by omega))).1
 omega
theorem IB (b:Int) (out:List SB) (x:Int):(fD b out x).length≤out.length+1:=by
 unfold fD;dsimp only;rw [List.length_set];generalize (decide (out.length=0) || !decide ((out.getD (out.length - 1) zS).1=(place x b).1))=c
 cases c<;>simp
theorem IC (p:Pn) (l:List Int):(sets p l).1.length≤l.length:=by
 have key:∀ (l:List Int) (out:List SB),(l.foldl (fD p.2.1) out).length≤out.length+l.length:=by
  intro l
  induction l with
  | nil=>intro out;exact dQ _
  | cons x r ih=>
   intro out;have h1:=ih (fD p.2.1 out x);have h2:=IB p.2.1 out x;rw [List.foldl_cons,List.length_cons];omega
 unfold sets
 cases !dZ p with
 | true=>exact fG _
 | false=>cases !yE l with
  | true=>exact fG _
  | false=>cases l.any (fun id=>!yK p id) with
   | true=>exact fG _
   | false=>have:=key l [];simpa using this
theorem t88 (o:Ov) (p:Pn) (r:Int) (w:Fw) {n f:Nat} (h:kY n f o) (hn:n≤1000000000000) (hf:f≤1000000000000) (hp:p.2.2.1.length≤1000):dS (x88 o p r w) (fun y=>y.1.1.length≤1000):=by
 have k67:=t67 o h hn hf
 have akK:=fun r=>t139 o r h.s
 have aqW:=fun r g=>aqU o r g h hn hf
 obtain ⟨a0,a1,a2,⟨⟩⟩:=o;obtain ⟨p0,p1,es,⟨⟩⟩:=p;obtain ⟨w0,w1,⟨⟩⟩:=w;have hp:es.length≤1000:=hp;unfold x88 r88;dsimp only
 refine ak k67 fun y9 _=>au (fun _=>aj (fG _)) fun _=>au (fun _=>aj (fG _)) fun _=>au (fun _=>aj (fG _)) fun _=>ak (akK r) fun mq _=>au (fun _=>aj (fG _)) fun _=>ak (P:=fun y=>y.1.length≤1000) (aJ es.length (fun s=>s.2.1) (fun s=>(s.1.length:Int)≤s.2.1) rfl (Int.le_refl _) ?_) fun jP k11=>aj k11
 rintro ⟨l,i,⟨⟩⟩ k hk hle i1;obtain rfl:i=k:=hk;have i1:(l.length:Int)≤(k:Int):=i1;unfold R9;simp only [bK,dG]
 refine aB (fun c=>aF (by omega) (by omega) (ak (P:=fun _=>True) (bE (fun _=>ak (akK _) fun y8 _=>aj trivial) fun _=>aj trivial) fun y8 _=>au (fun _=>aj ⟨by omega,aG (by omega),?_⟩) fun _=>ak (aqW _ _) fun y9 k9=>ak (P:=fun _=>True) (au (fun _=>ak (t141 _ _ (by omega)) fun mq _=>aj trivial) fun _=>aj trivial) fun mq _=>ak (P:=fun y=>y.1.length≤l.length+1) (au (fun _=>bF (by omega) (aj (by simp))) fun _=>aj (Nat.le_succ _)) fun jP k11=>aj ⟨by omega,aG (by omega),?_⟩)) fun c=>aj (by show l.length≤1000;omega)
 ·show (l.length:Int)≤IntKind.wrap .i64 ((k:Int)+1);rw [aG (by omega)];omega
 ·show (jP.1.length:Int)≤IntKind.wrap .i64 ((k:Int)+1);rw [aG (by omega)];omega
theorem t90 (p:Pn) (l:List Int) (q:Pk) (hl:l.length≤1000):dS (x90 p l q) (fun y=>y.1.1.length≤1000):=by
 have hs:=IC p l;obtain ⟨p0,p1,es,⟨⟩⟩:=p;have hs:(sets (p0,p1,es,()) l).1.length≤l.length:=hs;unfold x90 r90;dsimp only
 refine au (fun _=>aj (fG _)) fun _=>ak (P:=fun y=>y.2.1.1.length≤1000∧y.2.2.1.length≤1000) (aJ (sets (p0,p1,es,()) l).1.length (fun s=>s.2.2.1) (fun s=>(s.2.1.length:Int)≤s.2.2.1) rfl (Int.le_refl _) ?_) fun iV k14=>au (fun _=>aj k14.1) fun _=>aj k14.2
 rintro ⟨q,out,i,⟨⟩⟩ k hk hle i1;obtain rfl:i=k:=hk;have i1:(out.length:Int)≤(k:Int):=i1;unfold J3;simp only [bK,dG]
 refine aB (fun c=>aF (by omega) (by omega) (aF (by omega) (by omega) (au (fun _=>aj ⟨fG _,fG _⟩) fun _=>bF (by omega) (aj ⟨by omega,aG (by omega),?_⟩)))) fun c=>aj ⟨fG _,by show out.length≤1000;omega⟩
 show ((out++[_]).length:Int)≤IntKind.wrap .i64 ((k:Int)+1)
 rw [aG (by omega),kZ,FL];omega
theorem t39 (o:Ov) (p:Pn) (r:Int) (w:Fw) (l:List Int) {n f:Nat} (h:kY n f o) (hn:n≤1000000000000) (hf:f≤1000000000000) (hp:p.2.2.1.length≤1000) (hl:l.length≤1000000):dS (x39 o p r w l) (fun y=>y.1.1.length≤1000):=by
 have k88:=t88 o p r w h hn hf hp;obtain ⟨a0,a1,a2,⟨⟩⟩:=o;obtain ⟨p0,p1,es,⟨⟩⟩:=p;obtain ⟨w0,w1,⟨⟩⟩:=w;have hp:es.length≤1000:=hp;unfold x39 r39;dsimp only
 refine ak k88 fun mq k10=>au (fun _=>aj (fG _)) fun _=>ak (P:=fun _=>True) (jL (fB hl) trivial) fun jP _=>au (fun _=>aj (fG _)) fun _=>ak (P:=fun _=>True) ⟨_,rfl,trivial⟩ fun pX _=>ak (P:=fun _=>True) (aJ es.length (fun s=>s.2.1) (fun _=>True) rfl trivial ?_) fun y13 _=>ak (t90 _ _ _ k10) fun iV k14=>aj k14
 rintro ⟨q,i,⟨⟩⟩ k hk hle -;obtain rfl:i=k:=hk;unfold J4;simp only [bK,dG]
 exact aB (fun c=>aF (by omega) (by omega) (ak (P:=fun _=>True) (au (fun _=>aj trivial) fun _=>aj trivial) fun y3 _=>aj ⟨by omega,aG (by omega),trivial⟩)) fun _=>aj trivial
abbrev zT:Tb:=(0,(0,(0,([],()))))
structure ad4 (l:List Tb):Prop where
 len:l.length≤24
 ok:∀ t∈l,sD t=0
 sm:∀ t∈l,t.2.1=(l.getD 0 zT).2.1∧t.2.2.1=(l.getD 0 zT).2.2.1
theorem t143 (l:List Tb):dS (Xi l) (fun r=>r.1=0→ad4 l):=by
 unfold Xi ahY
 refine aB (fun _=>aj fun e=>absurd (show (3:Int)=0 from e) (by decide)) fun c0=>?_
 have h24:l.length≤24:=by simp only [bK] at c0;omega
 refine ak (P:=fun y=>(y.1=true→y.2.1.1≠0)∧(y.1=false→∀ j:Nat,j<l.length→sD (l.getD j zT)=0)) (aJ l.length (fun s=>s.1) (fun s=>∀ j:Nat,(j:Int)<s.1→sD (l.getD j zT)=0) rfl (fun j hj=>absurd hj (by show ¬ (j:Int)<0;omega)) ?_) fun y1 k1=>au (fun c=>aj fun e=>absurd e (k1.1 c)) fun c1=>?_
 ·rintro ⟨i,⟨⟩⟩ k hk hle hI
  obtain rfl:i=k:=hk
  have hI:∀ j:Nat,(j:Int)<(k:Int)→sD (l.getD j zT)=0:=hI
  unfold LY;simp only [bK,dG]
  refine aB (fun c=>aF (by omega) (by omega) (bE (fun _=>aj ⟨fun _=>by show (1:Int)≠0;decide,fun e=>by cases e⟩) fun c2=>aj ⟨by omega,aG (by omega),fun j hj=>?_⟩)) fun c=>aj ⟨fun e=>(by cases e),fun _ j hj=>hI j (by omega)⟩
  have hj:(j:Int)<IntKind.wrap .i64 ((k:Int)+1):=hj
  rw [aG (by omega)] at hj
  by_cases e:j=k
  ·rw [e];exact c2
  ·exact hI j (by omega)
 have f1:=k1.2 c1
 refine ak (P:=fun y=>y.1=true→y.2.1.1≠0) (iM (fun s=>1≤s.1) (fun s=>((l.length:Int) - s.1).toNat) (Int.le_refl _) ?_) fun y2 k2=>au (fun c=>aj fun e=>absurd e (k2 c)) fun _=>?_
 ·rintro ⟨i,⟨⟩⟩ h1
  have h1:1≤i:=h1;unfold LZ;simp only [bK]
  refine aB (fun c=>aF (by simp only [bW];omega) (by simp only [bW];omega) (aF (by omega) (by omega) (au (fun _=>aj fun _=>by show (25:Int)≠0;decide) fun _=>aj ⟨?_,?_⟩))) fun c=>aj fun e=>by cases e
  ·show 1≤IntKind.wrap .i64 (i+1);simp only [bW];omega
  ·show ((l.length:Int) - IntKind.wrap .i64 (i+1)).toNat<((l.length:Int) - i).toNat;simp only [bW];omega
 refine ak (P:=fun y=>(y.1=true→y.2.1.1≠0)∧(y.1=false→∀ j:Nat,j<l.length→(l.getD j zT).2.1=(l.getD 0 zT).2.1∧(l.getD j zT).2.2.1=(l.getD 0 zT).2.2.1)) (iM (fun s=>1≤s.1∧∀ j:Nat,(j:Int)<s.1→(l.getD j zT).2.1=(l.getD 0 zT).2.1∧(l.getD j zT).2.2.1=(l.getD 0 zT).2.2.1) (fun s=>((l.length:Int) - s.1).toNat) ⟨Int.le_refl _,fun j hj=>?_⟩ ?_) fun y3 k3=>au (fun c=>aj fun e=>absurd e (k3.1 c)) fun c3=>aj fun _=>⟨h24,fun t ht=>?_,fun t ht=>?_⟩
 ·have hj:(j:Int)<1:=hj
  obtain rfl:j=0:=by omega
  exact ⟨rfl,rfl⟩
 ·rintro ⟨i,⟨⟩⟩ ⟨h1,h2⟩
  have h1:1≤i:=h1
  have h2:∀ j:Nat,(j:Int)<i→(l.getD j zT).2.1=(l.getD 0 zT).2.1∧(l.getD j zT).2.2.1=(l.getD 0 zT).2.2.1:=h2
  unfold Ma;simp only [bK]
  refine aB (fun c=>ak (P:=fun y=>y.1=false→(l.getD i.toNat zT).2.1=(l.getD 0 zT).2.1∧(l.getD i.toNat zT).2.2.1=(l.getD 0 zT).2.2.1) ?_ fun y2 k2=>au (fun _=>aj ⟨fun _=>by show (8:Int)≠0;decide,fun e=>by cases e⟩) fun c2=>aj ⟨⟨?_,fun j hj=>?_⟩,?_⟩) fun c=>aj ⟨fun e=>(by cases e),fun _ j hj=>h2 j (by omega)⟩
  ·have g0:(true&&decide (0<(l.length:Int)))=true:=by rw [Bool.true_and];exact fB (by omega)
   refine aF (by omega) (by omega) (jI g0 (au (fun c3=>aF (by omega) (by omega) (jI g0 (aj fun e=>⟨?_,?_⟩))) fun _=>aj fun e=>by cases e))
   ·rw [Bool.not_not] at c3
    exact of_decide_eq_true c3
   ·have e:(!decide ((l.getD i.toNat zT).2.2.1=(l.getD 0 zT).2.2.1))=false:=e
    by_cases q:(l.getD i.toNat zT).2.2.1=(l.getD 0 zT).2.2.1
    ·exact q
    ·rw [jM q] at e;cases e
  ·show 1≤IntKind.wrap .i64 (i+1);simp only [bW];omega
  ·have hj:(j:Int)<IntKind.wrap .i64 (i+1):=hj
   rw [bW] at hj
   by_cases e:(j:Int)=i
   ·have:=k2 c2
    rw [←e,dG] at this;exact this
   ·exact h2 j (by omega)
  ·show ((l.length:Int) - IntKind.wrap .i64 (i+1)).toNat<((l.length:Int) - i).toNat;simp only [bW];omega
 ·obtain ⟨j,hj,rfl⟩:=List.getElem_of_mem ht
  have:=f1 j hj;rw [getD_at hj] at this;exact this
 ·obtain ⟨j,hj,rfl⟩:=List.getElem_of_mem ht
  have:=k3.2 c3 j hj;rw [getD_at (l:=l) (i:=j) hj] at this;exact this
theorem t92 (l:List Tb) (r:Int) (hl:l.length≤24):dS (x92 l r) (fun y=>y.1.2.1=true→y.1.1∈l∧y.1.1.1=r):=by
 unfold x92 r92
 refine ak (P:=fun y=>y.1=true→y.2.1.1∈l∧y.2.1.1.1=r) (aJ l.length (fun s=>s.2.1) (fun _=>True) rfl trivial ?_) fun y2 k2=>au (fun c=>aj fun _=>k2 c) fun _=>aj fun e=>by cases e
 rintro ⟨z,i,⟨⟩⟩ k hk hle -;obtain rfl:i=k:=hk;unfold Sb;simp only [bK,dG]
 exact aB (fun c=>aF (by omega) (by omega) (aB (fun c2=>aF (by omega) (by omega) (aj fun _=>⟨getD_in (by omega),c2⟩)) fun _=>aj ⟨by omega,aG (by omega),trivial⟩)) fun _=>aj fun e=>by cases e
theorem aah {p:Prop} {i:Decidable p} (c:(!!@decide p i)=true):p:=by
 cases i with
 | isTrue h=>exact h
 | isFalse h=>cases c
theorem akL {p:Prop} {i:Decidable p} (c:(!@decide p i)=false):p:=by
 cases i with
 | isTrue h=>exact h
 | isFalse h=>cases c
structure Goes (l:List Tb) (k:Pk):Prop extends ad4 l where
 v:dz k=true
 m:k.1≠2
 e:∀ t∈l,t.2.1=sd k∧t.2.2.1=ln k
theorem t91 (l:List Tb) (k:Pk) (r:Int):dS (x91 l k r) (fun y=>y.1=0→Goes l k):=by
 obtain ⟨b1,b2,b3,b4,b5,b6,b7,b8,b9,b10,⟨⟩⟩:=k;unfold x91 r91
 refine ak (P:=fun y=>y.1=false→ad4 l∧dz (b1,b2,b3,b4,b5,b6,b7,b8,b9,b10,())=true) (ak (t143 l) fun pX k12=>au (fun c=>aj fun e=>⟨k12 (aah c),?_⟩) fun _=>aj fun e=>by cases e) fun pX k12=>au (fun _=>aj fun e=>absurd (show (1:Int)=0 from e) (by decide)) fun c=>?_
 ·have e:(!dz (b1,b2,b3,b4,b5,b6,b7,b8,b9,b10,()))=false:=e
  cases q:dz (b1,b2,b3,b4,b5,b6,b7,b8,b9,b10,()) with
  | true=>rfl
  | false=>rw [q] at e;cases e
 obtain ⟨h1,h2⟩:=k12 c
 refine ak (t92 l r h1.len) fun y13 k13=>au (fun _=>aj fun e=>absurd (show (4:Int)=0 from e) (by decide)) fun c1=>aB (fun _=>aj fun e=>absurd (show (7:Int)=0 from e) (by decide)) fun c2=>ak (P:=fun y=>y.1=false→b2=y13.1.1.2.1∧b4=y13.1.1.2.2.1) (au (fun c=>aj fun e=>⟨aah c,akL e⟩) fun _=>aj fun e=>by cases e) fun iV k14=>au (fun _=>aj fun e=>absurd (show (8:Int)=0 from e) (by decide)) fun c3=>aj fun _=>⟨h1,h2,c2,fun t ht=>?_⟩
 have q1:y13.1.2.1=true:=by
  cases q:y13.1.2.1 with
  | true=>rfl
  | false=>rw [q] at c1;cases c1
 obtain ⟨m1,m2⟩:=k13 q1;have s1:=h1.sm t ht;have s2:=h1.sm _ m1;obtain ⟨e1,e2⟩:=k14 c3;exact ⟨s1.1.trans (s2.1.symm.trans e1.symm),s1.2.trans (s2.2.symm.trans e2.symm)⟩
structure TrN (N:Nat) (tr:Tr):Prop where
 d:tr.1.length≤64*N
 c:tr.2.1.length≤99*N
 l:tr.2.2.1.length≤N
theorem t94 (tr:Tr) (r:Int) (k:Pk) (o:Oc) {N:Nat} (h:TrN N tr) (hN:N≤1000000) (hc:o.2.2.1.length≤99):dS (x94 tr r k o) (fun y=>TrN (N+1) y.1):=by
 have hk:=OG r o k;obtain ⟨d,c,l,⟨⟩⟩:=tr;obtain ⟨o1,o2,cs,⟨⟩⟩:=o;obtain ⟨b1,b2,b3,b4,b5,b6,b7,b8,b9,b10,⟨⟩⟩:=k;obtain ⟨h1,h2,h3⟩:=h;have h1:d.length≤64*N:=h1;have h2:c.length≤99*N:=h2;have h3:l.length≤N:=h3;have hc:cs.length≤99:=hc;have hk:(uf r (o1,o2,cs,()) (b1,b2,b3,b4,b5,b6,b7,b8,b9,b10,())).length≤64:=hk;unfold x94 r94;dsimp only
 refine bF (by omega) (ak (P:=fun y=>y.1.1.length≤64*(N+1)∧y.1.2.1=c∧y.1.2.2.1.length≤N+1) (au (fun _=>bF (by omega) (aj ⟨?_,rfl,?_⟩)) fun _=>aj ⟨?_,rfl,?_⟩) fun lC k17=>ak (P:=fun y=>TrN (N+1) y.1) (aJ cs.length (fun s=>s.2.1) (fun s=>s.1.1=lC.1.1∧s.1.2.2=lC.1.2.2∧(s.1.2.1.length:Int)≤(c.length:Int)+s.2.1) rfl ⟨rfl,rfl,by show ((lC.1.2.1.length:Nat):Int)≤(c.length:Int)+0;rw [k17.2.1];omega⟩ ?_) fun Us k18=>aj k18)
 ·show (_++_:List Dl).length≤_;rw [kZ];omega
 ·show (_++[_]:List Lo).length≤_;rw [kZ,FL];omega
 ·show (_++_:List Dl).length≤_;rw [kZ];omega
 ·show l.length≤_;omega
 rintro ⟨⟨d',c',l',⟨⟩⟩,i,⟨⟩⟩ k hk hle ⟨i1,i2,i3⟩;obtain rfl:i=k:=hk;have i1:d' = lC.1.1:=i1;have i2:(l',())=lC.1.2.2:=i2;have i3:(c'.length:Int)≤(c.length:Int)+(k:Int):=i3;unfold Sd;simp only [bK,dG]
 refine aB (fun c=>aF (by omega) (by omega) (aF (by omega) (by omega) (bF (by omega) (aj ⟨by omega,aG (by omega),i1,i2,?_⟩)))) fun c=>aj ⟨by show d'.length≤_;rw [i1];exact k17.1,by show c'.length≤_;omega,by show (l',()).1.length≤_;rw [i2];exact k17.2.2⟩
 show ((c'++[_]:List Cr).length:Int)≤_+IntKind.wrap .i64 ((k:Int)+1)
 rw [aG (by omega),kZ,FL];omega
end Go.gI.qJ
namespace Go.gI.qJ
open Go Go.Proofs ah ah.Bt
set_option maxRecDepth 100000
theorem Zf {α:Type} (key:α→Int):∀ (K:List Int) (L:List α),K.Nodup→(K.map fun k=>(L.filter fun x=>decide (key x=k)).length).sum≤L.length:=by
 intro K
 induction K with
 | nil=>intro L _;exact fG _
 | cons k K ih=>
  intro L hK;obtain ⟨h1,h2⟩:=List.nodup_cons.mp hK
  have e:=ih (L.filter fun x=>!decide (key x=k)) h2
  rw [List.map_cons,List.sum_cons]
  have e2:(K.map fun j=>((L.filter fun x=>!decide (key x=k)).filter fun x=>decide (key x=j)).length)=K.map fun j=>(L.filter fun x=>decide (key x=j)).length:=by
   refine List.map_congr_left fun j hj=>?_
   rw [List.filter_filter]
   congr 1
   refine List.filter_congr fun x _=>?_
   by_cases q:key x=j
   ·have:key x≠k:=fun e=>h1 (by rw [←e,q];exact hj)
    simp [q,this];intro e;exact this (q.trans e)
   ·simp [q]
  rw [e2] at e
  have e3:(L.filter fun x=>decide (key x=k)).length+(L.filter fun x=>!decide (key x=k)).length=L.length:=by
   clear e e2 ih
   induction L with
   | nil=>rfl
   | cons x r ih=>by_cases q:key x=k<;>simp [q] at ih ⊢<;>omega
  omega
def wt (k:Pk):Nat:=(ah.tl k+1).toNat*(ones (bt k)).length+1
theorem ad5 (n w:Cp→Nat) (T:Nat):∀ cs:List Cp,(∀ c∈cs,w c≤T*n c+1∧1≤n c)→(cs.map w).sum≤(T+1)*(cs.map n).sum:=by
 intro cs
 induction cs with
 | nil=>intro _;exact fG _
 | cons c r ih=>
  intro h;have h1:=h c (List.mem_cons_self ..)
  have h2:=ih fun x hx=>h x (oH _ hx)
  rw [List.map_cons,List.sum_cons,List.map_cons,List.sum_cons,Nat.mul_add]
  have e:(T+1)*n c=T*n c+n c:=by rw [Nat.add_mul,Nat.one_mul]
  omega
structure DK (l:List Tb) (k:Pk):Prop where
 v:dz k=true
 u:U (bt k)
 e:∀ t∈l,t.2.2.1=ln k
theorem ride {l:List Tb} {k:Pk} (h:DK l k) {t:Tb} (ht:t∈l) (hb:sD t=0):(∀ c∈(sF t k).2.2.1,DK l c.2.1.2.1)∧((sF t k).2.2.1.map fun c=>wt c.2.1.2.1).sum+1≤wt k∧(sF t k).2.2.1.length≤64:=by
 have F:qQ t k:=⟨rX.1 hb,h.v,h.e t ht⟩;have I:=YE F h.u;have hc:=I.cps;have hn:=I.nd;have htt:=I.tt
 have hc:∀ c∈(sF t k).2.2.1,∃ g,c=(c.1,([],pkB k g,()),())∧U g∧g≠0∧c.1≠0∧c.1≠t.1∧(∀ i,i<64→tb g i=(tb (bt k) i&&decide (hp t k i=c.1)))∧_:=hc
 have hn:((sF t k).2.2.1.map fun c=>c.1).Nodup:=hn
 have htt:(sF t k).2.2.1≠[]→ah.tl k≠0:=htt;generalize (sF t k).2.2.1=cs at hc hn htt ⊢;have fk:=lG.1 h.v;have htl:0≤ah.tl k∧ah.tl k≤63:=fk.2.2.2.2.1
 have n1:∀ c∈cs,wt c.2.1.2.1≤(ah.tl k).toNat*((ones (bt k)).filter fun i=>decide (hp t k i=c.1)).length+1∧1≤((ones (bt k)).filter fun i=>decide (hp t k i=c.1)).length:=by
  intro c hcc;obtain ⟨g,e,gu,g0,_,_,gb,_⟩:=hc c hcc
  have eo:ones g=(ones (bt k)).filter fun i=>decide (hp t k i=c.1):=by
   unfold ones;rw [List.filter_filter]
   refine List.filter_congr fun i hi=>?_
   rw [gb i (List.mem_range.mp hi),Bool.and_comm]
  rw [←eo];constructor
  ·rw [e]
   show (ah.tl k - 1+1).toNat*(ones g).length+1≤_
   rw [show ah.tl k - 1+1=ah.tl k from by omega]
   exact dQ _
  ·refine Nat.pos_of_ne_zero fun z=>g0 (BK gu z)
 have hp1:=Zf (fun i=>hp t k i) (cs.map fun c=>c.1) (ones (bt k)) hn
 rw [List.map_map] at hp1
 have hs:=ad5 (fun c=>((ones (bt k)).filter fun i=>decide (hp t k i=c.1)).length) (fun c=>wt c.2.1.2.1) (ah.tl k).toNat cs n1
 have hp2:(cs.map fun c=>((ones (bt k)).filter fun i=>decide (hp t k i=c.1)).length).sum≤(ones (bt k)).length:=hp1
 refine ⟨fun c hcc=>?_,?_,?_⟩
 ·obtain ⟨g,e,gu,g0,_,_,gb,_⟩:=hc c hcc
  have t0:=htt (List.ne_nil_of_mem hcc)
  have gl:g≤bt k:=Dy gu h.u fun i hi q=>by
   rw [gb i hi] at q;exact (bP _ _▸q).1
  rw [e];refine ⟨lG.2 ⟨fk.1,fk.2.1,fk.2.2.1,⟨fk.2.2.2.1.1,?_⟩,⟨?_,?_⟩,fk.2.2.2.2.2⟩,gu,h.e⟩
  ·have:=fk.2.2.2.1.2
   show g<_;exact Int.lt_of_le_of_lt gl this
  ·show 0≤ah.tl k - 1;omega
  ·show ah.tl k - 1≤63;omega
 ·have e:(ah.tl k+1).toNat=(ah.tl k).toNat+1:=by omega
  unfold wt at hs ⊢;rw [e];have:=Nat.mul_le_mul_left ((ah.tl k).toNat+1) hp2;omega
 ·have q:cs.length≤(cs.map fun c=>((ones (bt k)).filter fun i=>decide (hp t k i=c.1)).length).sum:=by
   clear hs hp2 hp1 hn htt hc
   induction cs with
   | nil=>exact fG _
   | cons c r ih=>
    have h1:=(n1 c (List.mem_cons_self ..)).2
    have h2:=ih fun x hx=>n1 x (oH _ hx)
    rw [List.length_cons,List.map_cons,List.sum_cons];omega
  have:=mD (bt k);omega
abbrev zQ:Cp:=(0,(([],((0,(0,(0,(0,(0,(0,(0,(0,(0,([],())))))))))),())),()))
theorem aai {k:Pk} (h:dz k=true):wt k≤4097:=by
 have fk:=(lG.1 h).2.2.2.2.1;have h1:=mD (bt k);have h2:0≤ah.tl k∧ah.tl k≤63:=fk;unfold wt
 have:=Nat.mul_le_mul (show (ah.tl k+1).toNat≤64 by omega) h1
 omega
theorem ad6 (cs:List Cp):cs.length≤(cs.map fun c=>wt c.2.1.2.1).sum:=by
 induction cs with
 | nil=>exact fG _
 | cons c r ih=>
  rw [List.length_cons,List.map_cons,List.sum_cons];have:1≤wt c.2.1.2.1:=Nat.le_add_left ..;omega
theorem t40 (l:List Tb) (k:Pk) (r:Int) (hu:U (bt k)):dS (x40 l k r) (fun y=>y.1.1.1.length≤262208):=by
 have k91:=t91 l k r;obtain ⟨b1,b2,b3,b4,b5,b6,b7,b8,b9,b10,⟨⟩⟩:=k;unfold x40 r40;dsimp only
 refine ak k91 fun pX k12=>bE (fun _=>aj (fG _)) fun c0=>?_
 have G:=k12 c0;have hw:wt (b1,b2,b3,b4,b5,b6,b7,b8,b9,b10,())≤4097:=aai G.v
 refine ak (P:=fun y=>y.1.1.length≤262208) (aJ (wt (b1,b2,b3,b4,b5,b6,b7,b8,b9,b10,())) (fun s=>s.2.1) (fun s=>(∀ c∈s.2.2.1,DK l c.2.1.2.1)∧s.2.1.toNat+((s.2.2.1.drop s.2.1.toNat).map fun c=>wt c.2.1.2.1).sum≤wt (b1,b2,b3,b4,b5,b6,b7,b8,b9,b10,())∧TrN s.2.1.toNat s.1) rfl ⟨fun c hc=>?_,?_,⟨fG _,fG _,fG _⟩⟩ ?_) fun y13 k13=>aj k13
 ·obtain rfl:=List.mem_singleton.mp hc
  exact ⟨G.v,hu,fun t ht=>(G.e t ht).2⟩
 ·show 0+(wt (b1,b2,b3,b4,b5,b6,b7,b8,b9,b10,())+0)≤_
  omega
 rintro ⟨tr,i,q,⟨⟩⟩ k hk hle ⟨i1,i2,i3⟩;obtain rfl:i=k:=hk
 have i1:∀ c∈q,DK l c.2.1.2.1:=i1
 have i2:k+((q.drop k).map fun c=>wt c.2.1.2.1).sum≤wt (b1,b2,b3,b4,b5,b6,b7,b8,b9,b10,()):=i2
 have i3:TrN k tr:=i3
 have hq:q.length≤4097:=by
  have:=ad6 (q.drop k);rw [List.length_drop] at this;omega
 unfold Sj;simp only [bK,dG]
 refine aB (fun c=>aF (by omega) (by omega) (bL (by omega) (aF (by omega) (by omega) (bL (by omega) ?_)))) fun c=>aj (by have:=i3.d;show tr.1.length≤_;omega)
 have hk:k<q.length:=by omega
 have hxm:q.getD k zQ∈q:=getD_in hk
 have hdr:q.drop k=q.getD k zQ::q.drop (k+1):=by rw [List.drop_eq_getElem_cons hk,getD_at hk]
 have R:=i1 _ hxm;rw [hdr,List.map_cons,List.sum_cons] at i2
 refine ak (t92 l _ G.len) fun y2 k2=>ak (P:=fun y=>(∀ c∈y.1.2.2.1,DK l c.2.1.2.1)∧(y.1.2.2.1.map fun c=>wt c.2.1.2.1).sum+1≤wt (q.getD k zQ).2.1.2.1∧y.1.2.2.1.length≤64) (au (fun ct=>?_) fun _=>aj ⟨fun c hc=>(by cases hc),Nat.le_add_left ..,fG _⟩) fun y3 k3=>ak (t94 tr _ _ _ i3 (by omega) (by have:=k3.2.2;omega)) fun y4 k4=>bF (by have:=k3.2.2;omega) (aj ⟨by have:=aai R.v;have:=i2;omega,aG (by omega),?_,?_,?_⟩)
 ·obtain ⟨m1,-⟩:=k2 ct
  have rd:=ride R m1 (G.ok _ m1)
  exact ak (jL (Q:=fun y=>(∀ c∈y.1.2.2.1,DK l c.2.1.2.1)∧(y.1.2.2.1.map fun c=>wt c.2.1.2.1).sum+1≤wt (q.getD k zQ).2.1.2.1∧y.1.2.2.1.length≤64) (by rw [fB (G.ok _ m1),R.v,fB (R.e _ m1)];rfl) rd) fun y3 k3=>aj k3
 ·intro c hc
  have hc:c∈q++y3.1.2.2.1:=hc
  rcases List.mem_append.mp hc with hc | hc
  ·exact i1 c hc
  ·exact k3.1 c hc
 ·show (IntKind.wrap .i64 ((k:Int)+1)).toNat+(((q++y3.1.2.2.1).drop (IntKind.wrap .i64 ((k:Int)+1)).toNat).map fun c=>wt c.2.1.2.1).sum≤_
  rw [aG (by omega),dG,List.drop_append_of_le_length (by omega),List.map_append,List.sum_append]
  have:=k3.2.1;omega
 ·show TrN (IntKind.wrap .i64 ((k:Int)+1)).toNat y4.1
  rw [aG (by omega),dG]
  exact k4
theorem akN (a b:Int):0≤Bt.or a b:=by unfold Bt.or;exact Int.natCast_nonneg _
theorem TY {α:Type} {l:List α} {n:Nat} {a x:α} (h:x∈l.set n a):x∈l∨x=a:=List.mem_or_eq_of_mem_set h
theorem Kt (b:Int) (out:List SB) (x:Int) (h:∀ s∈out,0≤s.2.1):∀ s∈fD b out x,0≤s.2.1:=by
 intro s hs;unfold fD at hs;dsimp only at hs
 rcases TY hs with hs | rfl
 ·generalize (decide (out.length=0) || !decide ((out.getD (out.length - 1) zS).1=(place x b).1))=c at hs
  cases c with
  | false=>exact h s hs
  | true=>
   have hs:s∈out++[((place x b).1,0,())]:=hs
   rcases List.mem_append.mp hs with hs | hs
   ·exact h s hs
   ·obtain rfl:=List.mem_singleton.mp hs
    exact Int.le_refl _
 ·exact akN _ _
theorem Zg (p:Pn) (l:List Int):∀ s∈(sets p l).1,0≤s.2.1:=by
 have key:∀ (l:List Int) (out:List SB),(∀ s∈out,0≤s.2.1)→∀ s∈l.foldl (fD p.2.1) out,0≤s.2.1:=by
  intro l
  induction l with
  | nil=>intro out h;exact h
  | cons x r ih=>
   intro out h;rw [List.foldl_cons];exact ih _ (Kt _ _ _ h)
 unfold sets
 have z:∀ s∈([]:List SB),0≤s.2.1:=fun _ h=>by cases h
 cases !dZ p with
 | true=>exact z
 | false=>cases !yE l with
  | true=>exact z
  | false=>cases l.any (fun id=>!yK p id) with
   | true=>exact z
   | false=>exact key l [] z
theorem akO {k:Pk} (h:dz k=true) (h0:0≤bt k):U (bt k):=by
 obtain ⟨h1,h2⟩:=(lG.1 h).2.2.2.1;refine ⟨h0,Int.lt_of_lt_of_le h2 ?_⟩
 have e:(ln k).toNat≤64:=by
  unfold dW at h1;simp at h1;omega
 have:=Nat.pow_le_pow_right (n:=2) (by omega) e
 have:((2 ^ (ln k).toNat:Nat):Int)≤((2 ^ 64:Nat):Int):=by exact_mod_cast this
 simpa using this
theorem aqY (p:Pn) (l:List Int) (q:Pk) (hl:l.length≤1000):dS (x90 p l q) (fun y=>y.1.1.length≤1000∧∀ k∈y.1.1,U (bt k)):=by
 have hs:=IC p l;have hz:=Zg p l;obtain ⟨p0,p1,es,⟨⟩⟩:=p;have hs:(sets (p0,p1,es,()) l).1.length≤l.length:=hs
 have hz:∀ s∈(sets (p0,p1,es,()) l).1,0≤s.2.1:=hz
 unfold x90 r90;dsimp only
 have z:∀ k∈([]:List Pk),U (bt k):=fun _ h=>by cases h
 refine au (fun _=>aj ⟨fG _,z⟩) fun _=>ak (P:=fun y=>(y.2.1.1.length≤1000∧∀ k∈y.2.1.1,U (bt k))∧y.2.2.1.length≤1000∧∀ k∈y.2.2.1,U (bt k)) (aJ (sets (p0,p1,es,()) l).1.length (fun s=>s.2.2.1) (fun s=>(s.2.1.length:Int)≤s.2.2.1∧∀ k∈s.2.1,U (bt k)) rfl ⟨Int.le_refl _,z⟩ ?_) fun iV k14=>au (fun _=>aj k14.1) fun _=>aj k14.2
 rintro ⟨q,out,i,⟨⟩⟩ k hk hle ⟨i1,i2⟩;obtain rfl:i=k:=hk;have i1:(out.length:Int)≤(k:Int):=i1
 have i2:∀ k∈out,U (bt k):=i2
 unfold J3;simp only [bK,dG]
 refine aB (fun c=>aF (by omega) (by omega) (aF (by omega) (by omega) (au (fun _=>aj ⟨⟨fG _,z⟩,fG _,z⟩) fun cv=>bF (by omega) (aj ⟨by omega,aG (by omega),?_,fun x hx=>?_⟩)))) fun c=>aj ⟨⟨fG _,z⟩,by show out.length≤1000;omega,i2⟩
 ·show ((out++[_]).length:Int)≤IntKind.wrap .i64 ((k:Int)+1)
  rw [aG (by omega),kZ,FL];omega
 ·have hx:x∈out++[_]:=hx
  rcases List.mem_append.mp hx with hx | hx
  ·exact i2 x hx
  ·obtain rfl:=List.mem_singleton.mp hx
   refine akO ?_ (hz _ (getD_in (by omega)))
   rw [Bool.not_eq_false'] at cv;exact cv
theorem aqZ (o:Ov) (p:Pn) (r:Int) (w:Fw) (l:List Int) {n f:Nat} (h:kY n f o) (hn:n≤1000000000000) (hf:f≤1000000000000) (hp:p.2.2.1.length≤1000) (hl:l.length≤1000000):dS (x39 o p r w l) (fun y=>y.1.1.length≤1000∧∀ k∈y.1.1,U (bt k)):=by
 have k88:=t88 o p r w h hn hf hp;obtain ⟨a0,a1,a2,⟨⟩⟩:=o;obtain ⟨p0,p1,es,⟨⟩⟩:=p;obtain ⟨w0,w1,⟨⟩⟩:=w;have hp:es.length≤1000:=hp
 have z:∀ k∈([]:List Pk),U (bt k):=fun _ h=>by cases h
 unfold x39 r39;dsimp only
 refine ak k88 fun mq k10=>au (fun _=>aj ⟨fG _,z⟩) fun _=>ak (P:=fun _=>True) (jL (fB hl) trivial) fun jP _=>au (fun _=>aj ⟨fG _,z⟩) fun _=>ak (P:=fun _=>True) ⟨_,rfl,trivial⟩ fun pX _=>ak (P:=fun _=>True) (aJ es.length (fun s=>s.2.1) (fun _=>True) rfl trivial ?_) fun y13 _=>ak (aqY _ _ _ k10) fun iV k14=>aj k14
 rintro ⟨q,i,⟨⟩⟩ k hk hle -;obtain rfl:i=k:=hk;unfold J4;simp only [bK,dG]
 exact aB (fun c=>aF (by omega) (by omega) (ak (P:=fun _=>True) (au (fun _=>aj trivial) fun _=>aj trivial) fun y3 _=>aj ⟨by omega,aG (by omega),trivial⟩)) fun _=>aj trivial
theorem t7a (jP:((List Tb)×Int×Unit)×Unit) (y:Int×Tp) (y13:((List Pk)×Int×Unit)×Unit) (d:List Dl) (h1:y13.1.1.length≤1000) (hu:∀ k∈y13.1.1,U (bt k)) {D:Nat} (hd:d.length≤D) (hD:D≤1000000000):dS (Loop (@Sl jP y y13) (0,(d,()))) (fun r=>r.1.length≤D+262208000):=by
 refine aJ y13.1.1.length (fun s=>s.1) (fun s=>(s.2.1.length:Int)≤(D:Int)+262208*s.1) rfl (by show (d.length:Int)≤(D:Int)+262208*0;omega) ?_
 rintro ⟨i,ds,⟨⟩⟩ k hk hle i1;obtain rfl:i=k:=hk;have i1:(ds.length:Int)≤(D:Int)+262208*(k:Int):=i1;unfold Sl;simp only [bK,dG]
 refine aB (fun c=>aF (by omega) (by omega) (ak (t40 _ _ _ (hu _ (getD_in (by omega)))) fun y4 k4=>bF (by omega) (aj ⟨by omega,aG (by omega),?_⟩))) fun c=>aj (by show ds.length≤_;omega)
 show ((ds++_:List Dl).length:Int)≤(D:Int)+262208*IntKind.wrap .i64 ((k:Int)+1)
 rw [aG (by omega),kZ];omega
theorem t7 (t:Tp) (s:Sc) (hw:wf t=true) (hs:Cn 5 s) (ho:p9 11 s.2.2.2.2.2.2):dS (x7 t s) (fun r=>wf r.2=true∧r.1.length≤1000000000):=by
 obtain ⟨a0,a1,⟨⟩⟩:=t;obtain ⟨rs,ls,id,bs,es,si,sk,li,sg,⟨⟩⟩:=s;have he:es.length≤5:=hs.2.1.1;have hv:kY (32*11) (fb 11) (sk,(li,(sg,()))):=ho
 have hf:=MK 11 (by decide)
 unfold x7 r7;dsimp only;obtain ⟨tb,e0,e1,-,-⟩:=adH (rs,ls,()) (id,bs,es,())
 refine ak (P:=fun _=>True) ⟨_,e1,trivial⟩ fun jP _=>ak (P:=fun y=>wf y.2.1=true∧y.1.length≤1000000000) (aJ 3 (fun s=>s.1) (fun s=>wf s.2.2.1=true∧(s.2.1.length:Int)≤262208000*s.1) rfl ⟨hw,Int.le_refl _⟩ ?_) fun pX k12=>aj k12
 rintro ⟨i,d,t,⟨⟩⟩ k hk hle ⟨i1,i2⟩;obtain rfl:i=k:=hk;have i1:wf t=true:=i1;have i2:(d.length:Int)≤262208000*(k:Int):=i2;unfold Z4;simp only [bK,dG]
 refine aB (fun c=>ak (t38 _ _ i1) fun jP k11=>ak (t19 _ k11) fun pX k12=>ak (aqZ _ _ _ _ _ hv (by omega) (by omega) (by show es.length≤1000;omega) (by show 4≤1000000;omega)) fun y13 k13=>ak (t7a _ _ _ d k13.1 k13.2 (D:=262208000*k) (by omega) (by omega)) fun iV k14=>aj ⟨by omega,aG (by omega),k12,?_⟩) fun c=>aj ⟨i1,by show d.length≤_;omega⟩
 show (iV.1.length:Int)≤262208000*IntKind.wrap .i64 ((k:Int)+1)
 rw [aG (by omega)]
 omega
end Go.gI.qJ
namespace Go.gI.qJ
open Go Go.Proofs ah
set_option maxRecDepth 100000
theorem xV (x:Rc):∀ l:List Rc,(xG x l).Perm (x::l)
 | []=>List.Perm.refl _
 | y::r=>by
  unfold xG
  cases qM (eZ x) (eZ y) with
  | true=>exact List.Perm.refl _
  | false=>exact ((xV x r).cons y).trans (List.Perm.swap x y r)
theorem OQ (l:List Rc):(iX l).Perm l:=by
 have key:∀ (l o:List Rc),(l.foldl (fun o x=>xG x o) o).Perm (o++l):=by
  intro l
  induction l with
  | nil=>intro o;rw [List.append_nil];exact List.Perm.refl _
  | cons x r ih=>
   intro o;rw [List.foldl_cons];refine (ih _).trans (((xV x o).append_right r).trans ?_);exact List.perm_middle.symm
 exact key l []
theorem bx (a b:Int) (q:Bool):(bif !decide (a=b) then decide (a<b) else q)=true↔lx a b (q=true):=by
 unfold lx
 by_cases h:a=b
 ·subst h;simp
 ·rw [jM h]
  simp [h]
theorem T9 (a b:Rf):qM a b=true↔L a b:=by
 unfold qM L;rw [bx,bx,bx,bx]
def Ord (l:List Rc):Prop:=l.Pairwise fun a b=>¬ L (eZ b) (eZ a)
theorem IE (x:Rc):∀ l:List Rc,Ord l→Ord (xG x l)
 | [],_=>List.pairwise_singleton ..
 | y::r,h=>by
  obtain ⟨h1,h2⟩:=List.pairwise_cons.mp h;unfold xG
  cases e:qM (eZ x) (eZ y) with
  | true=>
   have lxy:=(T9 _ _).mp e
   have nyx:¬ L (eZ y) (eZ x):=fun q=>Z7 _ (FC lxy q)
   refine List.pairwise_cons.mpr ⟨fun z hz=>?_,h⟩
   rcases List.mem_cons.mp hz with rfl | hz
   ·exact nyx
   ·exact Im (h1 z hz) nyx
  | false=>
   have nxy:¬ L (eZ x) (eZ y):=fun q=>by rw [(T9 _ _).mpr q] at e;cases e
   refine List.pairwise_cons.mpr ⟨fun z hz=>?_,IE x r h2⟩
   rcases List.mem_cons.mp ((xV x r).mem_iff.mp hz) with rfl | hz
   ·exact nxy
   ·exact h1 z hz
theorem Ua (l:List Rc):Ord (iX l):=by
 have key:∀ (l o:List Rc),Ord o→Ord (l.foldl (fun o x=>xG x o) o):=by
  intro l
  induction l with
  | nil=>intro o h;exact h
  | cons x r ih=>intro o h;rw [List.foldl_cons];exact ih _ (IE x o h)
 exact key l [] List.Pairwise.nil
theorem FK (l:List Rc) (i j:Nat) (hij:i<j) (hj:j<(cO l).length):Hz ((cO l).getD j qc) ((cO l).getD i qc)=false:=by
 obtain ⟨⟨k1,k2,k3⟩,k4⟩:=Go.Sort.pdq_sorts Hz YD l.toArray 0 l.length (Go.Lib.bitLen l.length) true true (fG _) (by simp) (.inl rfl)
 have hd:cO l=(Go.Sort.pdq Hz l.toArray 0 l.length (Go.Lib.bitLen l.length) true true).toList:=rfl;rw [hd] at hj ⊢
 have hsz:(Go.Sort.pdq Hz l.toArray 0 l.length (Go.Lib.bitLen l.length) true true).size=l.length:=by simpa using k1
 generalize Go.Sort.pdq Hz l.toArray 0 l.length (Go.Lib.bitLen l.length) true true=d at k4 hj hsz ⊢
 have hj':j<d.size:=by simpa using hj
 have e:∀ k,k<d.size→d.toList.getD k qc=d[k]!:=by
  intro k hk
  rw [getElem!_pos d k hk,dV (by simpa using hk)]
  simp
 rw [e j hj',e i (by omega)]
 exact k4 i j (by omega) hij (by omega)
theorem Ub {x y:Rc} (h:eZ x=eZ y):x=y:=by
 obtain ⟨a,b,⟨c,d,⟨⟩⟩,e,⟨⟩⟩:=x;obtain ⟨a',b',⟨c',d',⟨⟩⟩,e',⟨⟩⟩:=y;simp only [eZ,eX] at h;obtain ⟨rfl,rfl,rfl,rfl,rfl,-⟩:=h;rfl
theorem uniq:∀ a b:List Rc,Ord a→Ord b→a.Perm b→a=b
 | [],b,_,_,h=>(List.nil_perm.mp h).symm
 | x::r,[],_,_,h=>absurd h.length_eq (by simp)
 | x::r,y::s,ha,hb,h=>by
  obtain ⟨a1,a2⟩:=List.pairwise_cons.mp ha;obtain ⟨b1,b2⟩:=List.pairwise_cons.mp hb
  have e:x=y:=by
   rcases List.mem_cons.mp (h.mem_iff.mp (List.mem_cons_self ..)) with e | hx
   ·exact e
   ·rcases List.mem_cons.mp (h.mem_iff.mpr (List.mem_cons_self ..)) with e | hy
    ·exact e.symm
    ·exact Ub (Z8 (b1 x hx) (a1 y hy))
  subst e;rw [uniq r s a2 b2 (List.Perm.cons_inv h)]
theorem Uc {l:List Rc} (h:∀ x∈l,Dr x=x):cO l=iX l:=by
 refine uniq _ _ (List.pairwise_iff_getElem.mpr fun i j hi hj hij=>?_) (Ua l) ((kM l).trans (OQ l).symm)
 have s:=(Io _ _).1 (FK l i j hij hj)
 have e:∀ k,(hk:k<(cO l).length)→Dr ((cO l).getD k qc)=(cO l)[k]:=fun k hk=>by
  rw [getD_at hk];exact h _ ((kM l).mem_iff.mp (List.getElem_mem hk))
 rw [e i hi,e j hj] at s;exact s
theorem oG (l:List Rc):pU l l=true:=by unfold pU;exact dT rfl
theorem aq0 (a0:Sc×Tp) (m:Ms) (h:a0.1.2.2.2.2.2.1.length≤5):dS (Loop (@Sn a0) (0,([m],()))) (fun y=>y.1.length≤6):=by
 refine aJ a0.1.2.2.2.2.2.1.length (fun s=>s.1) (fun s=>(s.2.1.length:Int)≤s.1+1) rfl (by simp) ?_
 rintro ⟨i,l,⟨⟩⟩ k hk hle i1;obtain rfl:i=k:=hk;have i1:(l.length:Int)≤(k:Int)+1:=i1;unfold Sn;simp only [bK,dG]
 refine aB (fun c=>aF (by omega) (by omega) (bF (by omega) (aj ⟨by omega,aG (by omega),?_⟩))) fun c=>aj (by show l.length≤6;omega)
 show ((l++[_]:List Ms).length:Int)≤IntKind.wrap .i64 ((k:Int)+1)+1
 rw [aG (by omega),kZ,FL];omega
theorem aq1 (a0:Tp×List Ms×Int×Unit) (a1:Int×List Dl×Unit) (a2:Int×List Pn×Unit) (h:a0.2.1.length≤1000):dS (Loop (@Sr a0 a1 a2) (0,())) (fun y=>y.1=false):=by
 refine aJ a0.2.1.length (fun s=>s.1) (fun _=>True) rfl trivial ?_
 rintro ⟨i,⟨⟩⟩ k hk hle -;obtain rfl:i=k:=hk;unfold Sr;simp only [bK,dG]
 refine aB (fun c=>aF (by omega) (by omega) (ak (P:=fun y=>y.1=false) (au (fun _=>aj ?_) fun e=>absurd e (by simp)) fun y4 k4=>au (fun e=>by rw [k4] at e;cases e) fun _=>aj ⟨by omega,aG (by omega),trivial⟩)) fun c=>aj rfl
 rw [oG];rfl
theorem aq2 (a0 a1:Int) (a2:List Ed) (a3:Sc×Tp) (a4:Tp×List Ms×Int×Unit) (a5:Int×List Dl×Unit) (ps:List Pn) (h:a4.2.1.length≤1000) (hp:ps.length=2):dS (Loop (@Sv a0 a1 a2 a3 a4 a5) (0,(ps,()))) (fun y=>y.1=false):=by
 refine aJ 2 (fun s=>s.1) (fun s=>s.2.1.length=2) rfl hp ?_
 rintro ⟨i,ps,⟨⟩⟩ k hk hle i1;obtain rfl:i=k:=hk;have i1:ps.length=2:=i1;unfold Sv;simp only [bK,dG,List.length_cons,List.length_nil]
 refine aB (fun c=>aF (by omega) (by omega) (bL (by omega) (au (fun e=>absurd e (by simp)) fun _=>ak (aq1 a4 a5 _ h) fun y7 k7=>au (fun e=>by rw [k7] at e;cases e) fun _=>aj ⟨by omega,aG (by omega),i1⟩))) fun c=>aj rfl
theorem aq3 (a0 a1:Int) (a2:List Ed) (a3 a4 a5 a6 a7 a8 a9 bJ bS a12:Int) (dD:List Int) (iR:Sc×Tp) (jg:List Dl×Tp) (a16:Tp×List Ms×Int×Unit) (a17:(Int×Pk)×Tp) (ds:List Dl) (h:a16.2.1.length≤1000) (hd:ds.length=2):dS (Loop (@Sw a0 a1 a2 a3 a4 a5 a6 a7 a8 a9 bJ bS a12 dD iR jg a16 a17) (0,(ds,()))) (fun y=>y.1=false):=by
 refine aJ 2 (fun s=>s.1) (fun s=>s.2.1.length=2) rfl hd ?_
 rintro ⟨i,ds,⟨⟩⟩ k hk hle i1;obtain rfl:i=k:=hk;have i1:ds.length=2:=i1;unfold Sw;rw [List.length_cons,List.length_cons,List.length_nil];simp only [bK]
 refine aB (fun c=>aF (by omega) (by omega) (bL (by show Int.toNat (k:Int)<ds.length;omega) (ak (aq2 a0 a1 a2 iR a16 _ _ h rfl) fun y7 k7=>au (fun e=>by rw [k7] at e;cases e) fun _=>aj ⟨by omega,aG (by omega),i1⟩))) fun c=>aj rfl
def Sq (n:Nat) (l:List (List Bool)):Prop:=l.length=n∧∀ r∈l,r.length=n
theorem Sq.set {n:Nat} {l:List (List Bool)} (h:Sq n l) (i:Nat) {r:List Bool} (hr:r.length=n):Sq n (l.set i r):=
 ⟨by rw [List.length_set];exact h.1,fun x hx=>by
  rcases List.mem_or_eq_of_mem_set hx with hx | hx
  ·exact h.2 x hx
  ·rw [hx];exact hr⟩
theorem Sq.row {n:Nat} {l:List (List Bool)} (h:Sq n l) {i:Nat} (hi:i<n):(l.getD i []).length=n:=by
 have hi':i<l.length:=by rw [h.1];exact hi
 rw [show l.getD i []=l[i] from by simp [hi']]
 exact h.2 _ (List.getElem_mem hi')
def Rts (k:Nat) (l:List (Int×Bool×Unit)):Prop:=l.length=k∧∀ x∈l,1≤x.1∧x.1≤99
theorem aq4 (a0:Int×Tp) (t:Tp) (hn:1≤a0.1∧a0.1≤5) (hw:wf t=true):dS (Loop (@JM a0) (t,(0,(([],([],())),(0,()))))) (fun y=>wf y.1=true∧Rts a0.1.toNat y.2.1.1∧y.2.1.2.1=[]):=by
 refine aJ a0.1.toNat (fun s=>s.2.2.2.1) (fun s=>wf s.1=true∧0≤s.2.1∧s.2.1≤5*s.2.2.2.1∧Rts s.2.2.2.1.toNat s.2.2.1.1∧s.2.2.1.2.1=[]) rfl ⟨hw,Int.le_refl _,Int.le_refl _,⟨rfl,fun x hx=>by cases hx⟩,rfl⟩ ?_
 rintro ⟨t,id,⟨rs,ls,⟨⟩⟩,i,⟨⟩⟩ k hk hle ⟨i1,i2,i3,i4,i5⟩;obtain rfl:i=k:=hk;have i1:wf t=true:=i1;have i2:0≤id:=i2;have i3:id≤5*(k:Int):=i3;have i4:Rts k rs:=i4;have hrl:rs.length=k:=i4.1;have i5:ls=[]:=i5;subst i5;unfold JM
 refine aB (fun c=>ak (jf _ i1 (by rw [i1];rfl) (by simp)) fun y hy=>bF (by show (rs.length+1)*16≤140737488355328;omega) (aj ?_)) fun c=>aj ?_
 ·obtain ⟨v,t',⟨⟩⟩:=y
  have c:(k:Int)<a0.1:=c;have hv:v∈[(1:Int),1,1,2,5]:=hy.2
  have hv2:1≤v∧v≤5:=by simp at hv;omega
  have ew:IntKind.wrap .i64 (id+v)=id+v:=by rw [bW];omega
  have ek:IntKind.wrap .i64 ((k:Int)+1)=(k:Int)+1:=aG (by omega)
  refine ⟨by omega,ek,hy.1,?_,?_,⟨?_,?_⟩,rfl⟩
  ·show 0≤IntKind.wrap .i64 (id+v);omega
  ·show IntKind.wrap .i64 (id+v)≤5*IntKind.wrap .i64 ((k:Int)+1);omega
  ·show (rs++[_]).length=(IntKind.wrap .i64 ((k:Int)+1)).toNat
   rw [ek,kZ,FL,hrl];omega
  ·intro x hx
   have hx:x∈rs++[_]:=hx
   rcases List.mem_append.mp hx with hx | hx
   ·exact i4.2 x hx
   ·obtain rfl:=List.mem_singleton.mp hx
    show 1≤IntKind.wrap .i64 (id+v)∧IntKind.wrap .i64 (id+v)≤99;omega
 ·have c:¬ (k:Int)<a0.1:=c
  obtain rfl:k=a0.1.toNat:=by omega
  exact ⟨i1,i4,rfl⟩
theorem aq5 (a0:Int×Tp) (hn:1≤a0.1∧a0.1≤5):dS (Loop (@JN a0) (List.replicate a0.1.toNat [],(0,()))) (fun y=>Sq a0.1.toNat y.1):=by
 refine aJ a0.1.toNat (fun s=>s.2.1) (fun s=>s.1.length=a0.1.toNat∧∀ j:Nat,(j:Int)<s.2.1→(s.1.getD j []).length=a0.1.toNat) rfl ⟨List.length_replicate,fun j hj=>absurd (show (j:Int)<0 from hj) (by omega)⟩ ?_
 rintro ⟨l,i,⟨⟩⟩ k hk hle ⟨i1,i2⟩;obtain rfl:i=k:=hk;have i1:l.length=a0.1.toNat:=i1
 have i2:∀ j:Nat,(j:Int)<(k:Int)→(l.getD j []).length=a0.1.toNat:=i2
 unfold JN;simp only [bK,dG]
 refine aB (fun c=>jI ?_ (aF (by omega) (by omega) (bL (by omega) (aj ⟨by omega,aG (by omega),?_,fun j hj=>?_⟩)))) fun c=>aj ⟨?_,fun r hr=>?_⟩
 ·rw [bP,bP]
  exact ⟨⟨fB (by omega),fB (by omega)⟩,fB (by omega)⟩
 ·show (l.set k _).length=_
  rw [List.length_set];exact i1
 ·have hj:(j:Int)<IntKind.wrap .i64 ((k:Int)+1):=hj
  rw [aG (by omega)] at hj
  show ((l.set k _).getD j []).length=_;rw [yP,List.getElem?_set]
  by_cases h:k=j
  ·subst h
   rw [if_pos rfl,if_pos (by omega)]
   simp
  ·rw [if_neg h,←yP]
   exact i2 j (by omega)
 ·show l.length=_
  exact i1
 ·have hr:r∈l:=hr
  obtain ⟨j,hj,rfl⟩:=List.getElem_of_mem hr
  have:=i2 j (by have c:¬ (k:Int)<(a0.1.toNat:Int):=c;omega)
  rw [show l.getD j []=l[j] from by simp [hj]] at this
  exact this
theorem aq6 (a0:Int×Tp) (l:List (List Bool)) (t:Tp) (hn:1≤a0.1∧a0.1≤5) (hw:wf t=true) (hl:Sq a0.1.toNat l):dS (Loop (@JO a0) (1,(l,(t,())))) (fun y=>Sq a0.1.toNat y.1∧wf y.2.1=true):=by
 refine iM (fun s=>1≤s.1∧s.1≤5∧Sq a0.1.toNat s.2.1∧wf s.2.2.1=true) (fun s=>5 - s.1.toNat) ⟨Int.le_refl _,by simp,hl,hw⟩ ?_
 rintro ⟨i,l,t,⟨⟩⟩ ⟨i1,i2,i3,i4⟩;have i1:1≤i:=i1;have i2:i≤5:=i2;have i3:Sq a0.1.toNat l:=i3;have i4:wf t=true:=i4;unfold JO;simp only [bK]
 refine aB (fun c=>ak (fV _ i4) fun y2 h2=>ak (P:=fun y=>Sq a0.1.toNat y.1∧wf y.2.1=true) (aB (fun c2=>ak (fV _ h2.1) fun y3 h3=>?_) fun c2=>aj ⟨i3,h2.1⟩) fun y hy=>aj ⟨⟨?_,?_,hy⟩,?_⟩) fun c=>aj ⟨i3,i4⟩
 ·have c:i<a0.1:=c
  have h3':=h3.2
  have hlt:y3.1.toNat<a0.1.toNat:=by omega
  have hrow:=i3.row hlt
  refine aF (by omega) (by omega) (bL (by rw [i3.1];exact hlt) (aF (by omega) (by rw [hrow];omega) (bL (by rw [hrow];omega) (aj ⟨i3.set _ (by rw [List.length_set];exact hrow),h3.1⟩))))
 ·show 1≤IntKind.wrap .i64 (i+1)
  rw [bW];omega
 ·show IntKind.wrap .i64 (i+1)≤5
  have c:i<a0.1:=c;rw [bW];omega
 ·show 5 - (IntKind.wrap .i64 (i+1)).toNat<5 - i.toNat
  have c:i<a0.1:=c;rw [bW];omega
theorem aq7 (a0:Int×Tp) (m:Int) (l:List (List Bool)) (t:Tp) (hn:1≤a0.1∧a0.1≤5) (hm:0≤m∧m≤7) (hw:wf t=true) (hl:Sq a0.1.toNat l):dS (Loop (@JQ a0) (m,(l,(t,())))) (fun y=>Sq a0.1.toNat y.1∧wf y.2.1=true):=by
 refine iM (fun s=>0≤s.1∧s.1≤7∧Sq a0.1.toNat s.2.1∧wf s.2.2.1=true) (fun s=>s.1.toNat) ⟨hm.1,hm.2,hl,hw⟩ ?_
 rintro ⟨i,l,t,⟨⟩⟩ ⟨i1,i2,i3,i4⟩;have i1:0≤i:=i1;have i2:i≤7:=i2;have i3:Sq a0.1.toNat l:=i3;have i4:wf t=true:=i4;unfold JQ;simp only [bK]
 refine aB (fun c=>ak (fV _ i4) fun y2 h2=>ak (fV _ h2.1) fun y3 h3=>ak (P:=fun y=>Sq a0.1.toNat y.1) (bE (fun c2=>?_) fun c2=>aj i3) fun y hy=>aj ⟨⟨?_,?_,hy,h3.1⟩,?_⟩) fun c=>aj ⟨i3,i4⟩
 ·have h2':=h2.2
  have h3':=h3.2
  have e1:0≤(bif (decide (y3.1<y2.1)) then y3.1 else y2.1)∧(bif (decide (y3.1<y2.1)) then y3.1 else y2.1)<a0.1:=by cases decide (y3.1<y2.1)<;>simp<;>omega
  have e2:0≤(bif (decide (y2.1<y3.1)) then y3.1 else y2.1)∧(bif (decide (y2.1<y3.1)) then y3.1 else y2.1)<a0.1:=by cases decide (y2.1<y3.1)<;>simp<;>omega
  generalize (bif (decide (y3.1<y2.1)) then y3.1 else y2.1)=p at e1
  generalize (bif (decide (y2.1<y3.1)) then y3.1 else y2.1)=q at e2
  have hlt:p.toNat<a0.1.toNat:=by omega
  have hrow:=i3.row hlt
  refine aF (by omega) (by omega) (bL (by rw [i3.1];exact hlt) (aF (by omega) (by rw [hrow];omega) (bL (by rw [hrow];omega) (aj (i3.set _ (by rw [List.length_set];exact hrow))))))
 ·have c:i > 0:=c
  show 0≤IntKind.wrap .i64 (i - 1);rw [bW];omega
 ·have c:i > 0:=c
  show IntKind.wrap .i64 (i - 1)≤7;rw [bW];omega
 ·have c:i > 0:=c
  show (IntKind.wrap .i64 (i - 1)).toNat<i.toNat;rw [bW];omega
def Lk (n m:Nat) (l:List (List Bool)) (t:Tp) (g:To):Prop:=Sq n l∧wf t=true∧Rts n g.1∧g.2.1.length≤m
theorem aq8 (a0 a1:Int×Tp) (a2:Int×(List (List Bool)×(Tp×(To×Unit)))) (k:Nat) (hn:1≤a0.1∧a0.1≤5) (hk:a2.1=(k:Int)) (hlt:(k:Int)<a0.1) (h:Lk a0.1.toNat (5*k) a2.2.1 a2.2.2.1 a2.2.2.2.1) :
 dS (Loop (@JR a0 a1 a2) (a2.2.1,(a2.2.2.1,(a2.2.2.2.1,(0,()))))) (fun y=>Lk a0.1.toNat (5*(k+1)) y.1 y.2.1 y.2.2.1):=by
 obtain ⟨i,l0,t0,g0,⟨⟩⟩:=a2;obtain rfl:i=k:=hk
 refine aJ a0.1.toNat (fun s=>s.2.2.2.1) (fun s=>Lk a0.1.toNat (5*k+s.2.2.2.1.toNat) s.1 s.2.1 s.2.2.1) rfl h ?_
 rintro ⟨l,t,⟨rs,ls,⟨⟩⟩,j,⟨⟩⟩ q hq hle ⟨i1,i2,i3,i4⟩;obtain rfl:j=q:=hq;have i1:Sq a0.1.toNat l:=i1;have i2:wf t=true:=i2;have i3:Rts a0.1.toNat rs:=i3;have i4:ls.length≤5*k+q:=i4
 have hkn:k<a0.1.toNat:=by omega
 have hrow:=i1.row hkn
 have h5:a0.1.toNat≤5:=by omega
 have hrl:=i3.1;unfold JR;simp only [bK,dG]
 refine aB (fun c=>?_) fun c=>aj ⟨i1,i2,i3,by show ls.length≤_;omega⟩
 have c:(q:Int)<(a0.1.toNat:Int):=c
 have eq1:IntKind.wrap .i64 ((q:Int)+1)=(q:Int)+1:=aG (by omega)
 refine aF (by omega) (by omega) (bL (by rw [i1.1];exact hkn) (aF (by omega) (by rw [hrow];exact c) (bL (by rw [hrow];omega) (au (fun c2=>aj ⟨by omega,eq1,i1.set _ hrow,i2,i3,?_⟩) fun c2=>?_))))
 ·show ls.length≤5*k+(IntKind.wrap .i64 ((q:Int)+1)).toNat
  omega
 ·refine aF (by omega) (by rw [hrl];omega) (bL (by rw [hrl];exact hkn) (aF (by omega) (by rw [hrl];exact c) (bL (by rw [hrl];omega) (ak (jf _ i2 (by rw [i2];rfl) (by simp)) fun y4 h4=>ak (P:=fun y=>wf y.2.1=true) ?_ fun y5 h5'=>bF (by omega) (aj ⟨by omega,eq1,i1.set _ hrow,h5',i3,?_⟩)))))
  ·refine bE (fun c3=>ak (jJ _ _ h4.1 (by decide) (by decide)) fun y5 h5=>ak (jf _ h5.1 (by rw [h5.1];rfl) (by simp)) fun y6 h6=>ak (jJ _ _ h6.1 (by decide) (by decide)) fun y7 h7=>ak (jf _ h7.1 (by rw [h7.1];rfl) (by simp)) fun y8 h8=>aj h8.1) fun c3=>aj h4.1
  ·show (ls++[_]).length≤5*k+(IntKind.wrap .i64 ((q:Int)+1)).toNat
   rw [kZ,FL];omega
theorem H25 (t:Tp) (hw:wf t=true):dS (x25 t 5) (fun r=>wf r.2=true∧TW r.1):=by
 obtain ⟨b0,b1,⟨⟩⟩:=t;unfold x25 r25;simp only [bK]
 refine ak (jJ 1 5 hw (by decide) (by decide)) fun y3 h3=>?_
 have hn:1≤y3.1∧y3.1≤5:=h3.2
 refine ak (aq4 y3 y3.2 hn h3.1) fun y4 h4=>jI ?_ (ak (aq5 y3 hn) fun y5 h5=>ak (aq6 y3 y5.1 y4.1 hn h4.1 h5) fun y6 h6=>ak (fV _ h6.2) fun y7 h7=>?_)
 ·rw [bP,bP]
  exact ⟨⟨fB (by omega),fB (by first | trivial | omega)⟩,fB (by omega)⟩
 ·have h7':=h7.2
  rw [bW] at h7'
  refine ak (aq7 y3 y7.1 y6.1 y7.2 hn ⟨h7'.1,by omega⟩ h7.1 h6.1) fun y8 h8=>ak (fV _ h8.2) fun y9 h9=>?_
  refine ak (P:=fun y=>wf y.1=true∧Rts y3.1.toNat y.2.1.1) ?_ fun mq h10=>aj ⟨h10.1,by rw [h10.2.1];omega,h10.2.2⟩
  refine aJ y3.1.toNat (fun s=>s.1) (fun s=>Lk y3.1.toNat (5*s.1.toNat) s.2.1 s.2.2.1 s.2.2.2.1) rfl ⟨h8.1,h9.1,h4.2.1,by rw [h4.2.2];exact fG _⟩ ?_
  rintro ⟨i,l,t,g,⟨⟩⟩ k hk hle hL;obtain rfl:i=k:=hk;have hL:Lk y3.1.toNat (5*k) l t g:=hL;unfold Rm;simp only [bK]
  refine aB (fun c=>ak (aq8 y3 y9 ((k:Int),(l,(t,(g,())))) k hn rfl (by have c:(k:Int)<(y3.1.toNat:Int):=c;omega) hL) fun y hy=>aj ⟨?_,?_,?_⟩) fun c=>aj ⟨hL.2.1,hL.2.2.1⟩
  ·have c:(k:Int)<(y3.1.toNat:Int):=c
   omega
  ·exact aG (by omega)
  ·show Lk y3.1.toNat (5*(IntKind.wrap .i64 ((k:Int)+1)).toNat) y.1 y.2.1 y.2.2.1
   have c:(k:Int)<(y3.1.toNat:Int):=c
   rw [show (IntKind.wrap .i64 ((k:Int)+1)).toNat=k+1 from by rw [aG (by omega)];omega]
   exact hy
theorem Zh {a b n:Nat} {l:List Dl} (h:l.length≤n):(List.drop a (List.take b l)).length≤n:=by
 rw [List.length_drop,List.length_take];omega
theorem aq9 (a0 a1:Int) (a2:List Ed) (a3 a4 a5 a6 a7 a8 a9 bJ bS a12:Int) (dD:List Int) (iR:Sc×Tp) (jg:List Dl×Tp) (t:Tp) (ms:List Ms) (hw:wf t=true) (hm:ms.length≤1000) (hd:jg.1.length≤1000000000) :
 dS (Loop (@Sy a0 a1 a2 a3 a4 a5 a6 a7 a8 a9 bJ bS a12 dD iR jg) (t,(ms,(0,())))) (fun y=>y.1=false∧wf y.2.2.1=true∧y.2.2.2.1=ms):=by
 refine aJ 1000000001 (fun s=>s.2.2.1) (fun s=>wf s.1=true∧s.2.1=ms) rfl ⟨hw,rfl⟩ ?_
 rintro ⟨t,l,i,⟨⟩⟩ k hk hle ⟨i1,i2⟩;obtain rfl:i=k:=hk;have i1:wf t=true:=i1;obtain rfl:l=ms:=i2;unfold Sy;simp only [bK,dG]
 refine aB (fun c=>?_) fun c=>aj ⟨rfl,i1,rfl⟩
 have hk1:k<1000000001:=nG (Int.ofNat_lt.mp c) (Zh (by rw [kZ,FL];omega))
 refine aF (by omega) c (ak (t16 _ _ i1) fun lC h17=>ak (aq3 a0 a1 a2 a3 a4 a5 a6 a7 a8 a9 bJ bS a12 dD iR jg (t,l,(k:Int),()) lC _ hm rfl) fun Us h18=>au (fun e=>by rw [h18] at e;cases e) fun _=>aj ⟨hk1,aG (by omega),h17,rfl⟩)
def nE (l:List Rc):Prop:=∀ x∈l,Dr x=x
theorem Ud {x:Rc} (h:∀ c∈x.2.2.2.1,0≤c∧c<256):Dr x=x:=by
 have e:d9 (bs x.2.2.2.1)=x.2.2.2.1:=by
  simp only [d9,bs,List.map_map]
  rw [List.map_congr_left (g:=id) fun n hn=>?_,List.map_id]
  have:=h n hn;simp only [Function.comp_apply,UInt8.toNat_ofNat',id_eq];omega
 show (x.1,x.2.1,x.2.2.1,d9 (bs x.2.2.2.1),())=x;rw [e]
theorem Zi {a b:List Rc} (ha:nE a) (hb:nE b):nE (a++b):=fun x hx=>(List.mem_append.mp hx).elim (ha x) (hb x)
theorem Zj (m:Ms) (r:Int) (f:Fw) {d:List Int} (h:∀ c∈d,0≤c∧c<256):nE (je m r f d).1:=by
 have key:nE (recs m r f d):=by
  intro x hx;obtain ⟨q,_,rfl⟩:=List.mem_map.mp hx;exact Ud h
 have nil:nE []:=fun x hx=>by cases hx
 unfold je
 cases !decide (jw m=0) with
 | true=>exact nil
 | false=>
  cases !inside r 1 99 with
  | true=>exact nil
  | false=>
   cases !decide ((ah.wrap f d).2.1=0) with
   | true=>exact nil
   | false=>exact key
theorem Zk (m:Ms) (r:Int) (f:Fw) (d:List Int):(je m r f d).1.length≤64:=by
 have key:(recs m r f d).length≤64:=by
  unfold recs hosts;rw [List.length_map]
  by_cases h:jw m=0
  ·rw [dT h]
   show ((m.2.1.filter _).map _).length≤64;rw [List.length_map];exact jQ (List.length_filter_le _ _) (BR h)
  ·rw [dF h];exact fG _
 unfold je
 cases !decide (jw m=0) with
 | true=>exact fG _
 | false=>
  cases !inside r 1 99 with
  | true=>exact fG _
  | false=>
   cases !decide ((ah.wrap f d).2.1=0) with
   | true=>exact fG _
   | false=>exact key
theorem ad7:∀ c∈([111,107]:List Int),0≤c∧c<256:=by intro c hc;simp at hc;omega
theorem ara (a0:List Int) (a1:Bool×((Bool×Unit)×(Tp×(List Ms×Unit)))) (a2:Tp×(List Rc×(Int×Unit))) (a3:Int×(List Rc×(List Ed×Unit))) (l:List Rc) (x y:Int) (n:Nat) (hn:n≤10000) (h0:a0.length≤1000) (hl:l.length≤n) (hf:nE l) :
 dS (Loop (@Sz a0 a1 a2 a3) (0,(l,((x::(y::[])),())))) (fun z=>z.1=false∧z.2.2.1.length≤n+128∧nE z.2.2.1):=by
 refine aJ 2 (fun s=>s.1) (fun s=>(s.2.1.length:Int)≤(n:Int)+64*s.1∧nE s.2.1∧s.2.2.1.length=2) rfl ⟨by show (l.length:Int)≤(n:Int)+64*0;omega,hf,rfl⟩ ?_
 rintro ⟨i,l,e,⟨⟩⟩ k hk hle ⟨i1,i2,i3⟩;obtain rfl:i=k:=hk;have i1:(l.length:Int)≤(n:Int)+64*(k:Int):=i1;have i2:nE l:=i2;have i3:e.length=2:=i3;unfold Sz;simp only [bK,dG]
 refine aB (fun c=>aF (by omega) (by omega) (bL (by omega) ?_)) fun c=>aj ⟨rfl,by show l.length≤_;omega,i2⟩
 refine ak (P:=fun y=>y=(je _ _ _ a0,())) (jL (fB (by omega)) rfl) fun y5 h5=>ak (P:=fun y=>y=(je _ _ _ a0,())) (jL (fB (by omega)) rfl) fun y6 h6=>?_
 refine ak (P:=fun y=>y=(je _ _ _ [111,107],())) (jL (fB (by omega)) rfl) fun y7 h7=>ak (P:=fun y=>y=(je _ _ _ [111,107],())) (jL (fB (by omega)) rfl) fun y8 h8=>?_
 have h1:y8.1.1.length≤64:=by rw [h8];exact Zk _ _ _ _
 have h2:nE y8.1.1:=by rw [h8];exact Zj _ _ _ ad7
 refine ak (P:=fun y=>y=(false,())) ?_ fun y9 h9=>?_
 ·rw [h5,h6,h7,h8,oG,oG]
  refine au (fun e=>?_) fun e=>?_
  ·refine au (fun e=>?_) fun e=>?_
   ·exact aj rfl
   ·simp at e
  ·simp at e
 ·subst h9
  refine au (fun e=>by cases e) fun _=>bF ?_ (bF ?_ (aj ⟨by omega,aG (by omega),?_,?_,i3⟩))
  ·show (0+l.length)*48≤140737488355328;omega
  ·rw [List.nil_append]
   show (l.length+y8.1.1.length)*48≤140737488355328;omega
  ·show ((([]++l)++y8.1.1:List Rc).length:Int)≤(n:Int)+64*IntKind.wrap .i64 ((k:Int)+1)
   rw [aG (by omega),List.nil_append,kZ]
   omega
  ·show nE (([]++l)++y8.1.1)
   rw [List.nil_append];exact Zi i2 h2
theorem arb (a0 a1:Int) (a2:List Int) (a3:Int) (a4:Bool×((Bool×Unit)×(Tp×(List Ms×Unit)))) (a5:Tp×(List Rc×(Int×Unit))) (a6:Ed×Tp) (l:List Rc) (es:List Ed) (he:es.length=2) (n:Nat) (hn:n≤9000) (h0:a2.length≤1000) (hl:l.length≤n) (hf:nE l) :
 dS (Loop (@SA a0 a1 a2 a3 a4 a5 a6) (0,(l,(es,())))) (fun z=>z.1=false∧z.2.2.1.length≤n+256∧nE z.2.2.1):=by
 refine aJ 2 (fun s=>s.1) (fun s=>(s.2.1.length:Int)≤(n:Int)+128*s.1∧nE s.2.1∧s.2.2.1.length=2) rfl ⟨by show (l.length:Int)≤(n:Int)+128*0;omega,hf,he⟩ ?_
 rintro ⟨i,l,es,⟨⟩⟩ k hk hle ⟨i1,i2,i3⟩;obtain rfl:i=k:=hk;have i1:(l.length:Int)≤(n:Int)+128*(k:Int):=i1;have i2:nE l:=i2;have i3:es.length=2:=i3;unfold SA;simp only [bK,dG,List.length_cons,List.length_nil]
 refine aB (fun c=>aF (by omega) (by omega) (bL (by omega) (ak (ara a2 a4 a5 _ l _ _ (n+128*k) (by omega) h0 (by omega) i2) fun y h=>au (fun e=>by rw [h.1] at e;cases e) fun _=>aj ⟨by omega,aG (by omega),?_,h.2.2,i3⟩))) fun c=>aj ⟨rfl,by show l.length≤_;omega,i2⟩
 show (y.2.2.1.length:Int)≤(n:Int)+128*IntKind.wrap .i64 ((k:Int)+1);have:=h.2.1
 rw [aG (by omega)]
 omega
theorem ard (a0 a1:Int) (a2:List Int) (a3:Int) (a4:Bool×((Bool×Unit)×(Tp×(List Ms×Unit)))) (t:Tp) (l:List Rc) (hw:wf t=true) (h4:a4.2.2.2.1.length≤3) (h0:a2.length≤1000) (hl:l.length≤60) (hf:nE l) :
 dS (Loop (@SC a0 a1 a2 a3 a4) (t,(l,(0,())))) (fun z=>z.1=false∧nE z.2.2.1):=by
 refine aJ 3 (fun s=>s.2.2.1) (fun s=>wf s.1=true∧(s.2.1.length:Int)≤60+256*s.2.2.1∧nE s.2.1) rfl ⟨hw,by show (l.length:Int)≤60+256*0;omega,hf⟩ ?_
 rintro ⟨t,l,i,⟨⟩⟩ k hk hle ⟨i1,i2,i3⟩;obtain rfl:i=k:=hk;have i1:wf t=true:=i1;have i2:(l.length:Int)≤60+256*(k:Int):=i2;have i3:nE l:=i3;unfold SC;simp only [bK,dG]
 refine aB (fun c=>aF (by omega) (by omega) (ak (t19 _ i1) fun y6 h6=>ak (arb a0 a1 a2 a3 a4 _ y6 l _ rfl (60+256*k) (by omega) h0 (by omega) i3) fun y h=>au (fun e=>by rw [h.1] at e;cases e) fun _=>aj ⟨by omega,aG (by omega),h6,?_,h.2.2⟩)) fun c=>aj ⟨rfl,i3⟩
 show (y.2.2.1.length:Int)≤60+256*IntKind.wrap .i64 ((k:Int)+1);have:=h.2.1
 rw [aG (by omega)]
 omega
theorem Ue (l:List Int):wf (ah.tape l)=true:=Fg.2 ⟨by simp [ah.tape],by simp [ah.tape],by simp [ah.tape];omega⟩
theorem akP (a0:List Int) (a1 a2:Int) (a3:List ah.Ed) (a4:Int) (a5:List ah.Mb) (a6 a7 a8 a9 bJ bS a12 dD iR jg:Int) (a16:List Int) (a17 yN:Int) (H6:List Int) (a20:List ah.Rc) (a21:Int) (r20:(Ty.sl (uj)).ok a20):g4 a0 a1 a2 a3 a4 a5 a6 a7 a8 a9 bJ bS a12 dD iR jg a16 a17 yN H6 a20 a21=some (true,()):=by
 have key:dS (g4 a0 a1 a2 a3 a4 a5 a6 a7 a8 a9 bJ bS a12 dD iR jg a16 a17 yN H6 a20 a21) (fun r=>r=(true,())):=by
  unfold g4;simp only [bK,dG]
  refine ak (P:=fun y=>y.1=false→H6.length≤200∧a20.length≤60) ?_ fun y22 h22=>au (fun _=>aj rfl) fun c22=>?_
  ·refine bE (fun c1=>ak (t15 _) fun y _=>au (fun c2=>bE (fun c3=>aj fun e=>?_) fun _=>aj fun e=>by cases e) fun _=>aj fun e=>by cases e) fun _=>aj fun e=>by cases e
   have e:decide ((a20.length:Int) > 60)=false:=e;have:=of_decide_eq_false e;omega
  obtain ⟨hd,hr⟩:=h22 c22
  have hfin:nE a20:=fun x hx=>Ud fun c hc=>((r20.2 x hx).2.2.2.1).2 c hc
  refine ak (t6 H25 _ (Ue a0)) fun y23 h23=>ak (t7 _ _ h23.1 h23.2.1 h23.2.2) fun y24 h24=>bF (by have:=h24.2;omega) (ak (aq0 y23 _ h23.2.1.2.2.1) fun y25 h25=>?_)
  generalize hp:(bif decide ((3:Int)<_) then (3:Int) else _)=p
  have hp2:0≤p∧p≤3∧p≤(y25.1.length:Int):=by
   rw [←hp]
   by_cases h:(3:Int)<(y25.1.length:Int)
   ·rw [dT h];simp only [aQ];omega
   ·rw [dF h];simp only [bU];omega
  refine aF hp2.1 hp2.2.2 ?_;generalize hL:(y24.1++_:List Dl)=L
  have hLl:L.length≤1000000001:=by rw [←hL,kZ,FL];have:=h24.2;omega
  generalize hq:(bif decide ((0:Int)<_) then _ else (0:Int))=q
  have hq2:0≤q∧q≤(L.length:Int):=by
   rw [←hq]
   have ew:IntKind.wrap .i64 ((L.length:Int) - 5)=(L.length:Int) - 5:=by rw [bW];omega
   rw [ew]
   by_cases h:(0:Int)<(L.length:Int) - 5
   ·rw [dT h];simp only [aQ];omega
   ·rw [dF h];simp only [bU];omega
  refine jI ?_ (ak (aq9 _ _ _ _ _ _ _ _ _ _ _ _ _ _ y23 y24 y24.2 _ h24.1 (by rw [List.length_take];omega) h24.2) fun y26 h26=>au (fun e=>by rw [h26.1] at e;cases e) fun _=>?_)
  ·rw [bP,bP]
   exact ⟨⟨fB hq2.1,fB hq2.2⟩,fB (Int.le_refl _)⟩
  refine ak (ard _ _ _ _ y26 _ _ h26.2.1 (by rw [h26.2.2,List.length_take];omega) (by omega) hr hfin) fun y27 h27=>au (fun e=>by rw [h27.1] at e;cases e) fun _=>?_
  refine ak (P:=fun y=>y=(true,())) ?_ fun y28 h28=>aj h28
  rw [Uc h27.2,oG,oG];exact aj rfl
 obtain ⟨r,e,rfl⟩:=key;exact e
theorem Zl (a0:List ah.Ed) (a1 a2:Int) (r0:(Ty.sl (J5)).ok a0):ajL a0 a1 a2=some (ah.idx (fun e=>decide (e.1=a1)) a0,()):=by
 have hl:=Fh r0;unfold ajL
 refine oD (zn a0 a1 a2) a0 (fun e=>decide (e.1=a1)) zE (fun i hi=>?_) ?_
 ·unfold zn
  simp only [bK,dG]
  rw [fB (show (i:Int)<(a0.length:Int) by omega),fB (show (0:Int)≤(i:Int) by omega),fU (n:=(i:Int)+1) (by omega) (by omega)]
  rfl
 ·unfold zn
  simp only [bK]
  rw [jM (show ¬ (a0.length:Int)<(a0.length:Int) by omega)]
  rfl
theorem ad8 (a0:List ah.Ed) (a1 a2:Int):g97 a0 a1 a2=some (a0.any (fun e=>decide (e.1=a1)),()):=by
 unfold g97;rw [Fj]
theorem ad9 (a0:List ah.Rc):g21 a0=some (Go.gI.qJ.cO a0,()):=by
 rfl
theorem aea    : g14  = some (true,()):=by
 kernel_rfl
end Go.gI.qJ