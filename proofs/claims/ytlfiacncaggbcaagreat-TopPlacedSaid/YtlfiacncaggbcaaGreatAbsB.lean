/- The abstract evaluator, part 2: proved is that loads, stores, slices, appends and copies keep the relation between abstract values and memory; no conditions but those that each theorem states. -/
import Derived.Test.YtlfiacncaggbcaaGreatAbsA
import Derived.Laws.BytesArg
import Derived.Laws.IdiomStrings
import Derived.Laws.MakeOwn
import Derived.Maps.Keyed
import Derived.Carry
set_option linter.unusedVariables false
set_option linter.unusedSimpArgs false
namespace Go.dw
section
variable {P:Program} {E:Env} {C:Ctx} {s:St} {a:Act} {w:World} {G:Nat→Nat} {pt:Nat→Nat→Option Value} {o:Oper} {u:St}
theorem mO {T e:TypeId} {i:Operand} {k:IntKind} {n:Int} {pi:TypeInfo} (hu:P.underlying T=some (.slice e)) (hi:P.info? e=some pi) (hiv:a.eval i = .int k n)
 {x:Operand} {b off len c:Nat} (hv:a.eval x = .slice (some ⟨b,off,none⟩) len c) (h0:0≤n) (h1:n<(len:Int)) (aY:o.op = .indexAddr T x i) :
 (execOp a.eval o).run P w = .ok (.value (.pointer (some ⟨b,off+n.toNat*pi.size,none⟩))) w:=by
 simp [execOp,aY,Instr.indexAt,hiv,hv,asIntOf,run_underlying hu,h0,h1,sizeOf,typeInfo,hi,Addr.add_mid]
theorem Lj (HP:nS P E) (R:Rel E C s a w G pt) (ho:∀ t,o.dst=some t→t<E.n) (T:Nat) (x i:Operand) (aY:o.op = .indexAddr T x i)
 (h:l7 E o s T x i=some (true,u)):fB P E C o a w (au u s):=by
 have hx:=aJ R x;have hi:=aJ R i;simp only [l7] at h;split at h
 ·rename_i ti k n hti h2
  rw [h2] at hi;obtain ⟨hiv,_⟩:=hi;have hu:=(HP.ti _ _ hti).und;split at h
  ·rename_i e hd
   rw [hd] at hu;split at h
   ·rename_i ei Ng
    obtain ⟨pi,z,p1,p2,_⟩:=(HP.ti _ _ Ng).info;split at h
    ·rename_i f t l h1
     cases hb:Nat.beq ei.size t.nc with
     | false=>simp [hb] at h
     | true=>
      simp only [hb,aQ,bn,gD,dA,mX] at h;obtain ⟨⟨QW,V3⟩,rfl⟩:=h;have hb:=fD hb
      obtain ⟨G',eG,R1,uQ,Ll,NR⟩:=R.Jz x (by rw [h1];rfl)
      rw [h1] at uQ;obtain ⟨ad,m,c,hv,hm,oN,kW,Nh⟩:=uQ
      rcases Nh with Nh | ⟨b,off,had,hG,hE⟩
      ·subst Nh;simp at V3;omega
      ·subst had
       rw [bg]
       have bB:=mO (P:=P) (w:=w) hu p1 hiv hv QW (by omega) aY
       refine ⟨_,w,G',pt,.inl bB,R1.Fq o ho ⟨b,off,?_,by omega,hG,hE⟩ (fun _=>rfl)⟩
       rw [p2,hb];simp
    ·rename_i id st h1
     split at h
     ·rename_i st' t l tV
      cases hb:(Nat.beq st st' && Nat.beq ei.size t.nc) with
      | false=>simp [hb] at h
      | true=>
       simp only [hb,aQ,bn,gD,dA,mX] at h;obtain ⟨⟨QW,V3⟩,rfl⟩:=h;simp only [dA] at hb;have gG:=fD hb.1;have eU:=fD hb.2;subst gG;rw [h1] at hx;have hB:=R.bx id;rw [tV] at hB;have hB:=hB rfl;simp only [xD,if_false] at hB;obtain ⟨ad,m,c,q1,q2,q3,q4⟩:=hB;have hv:pt id st=some (a.eval x):=hx;rw [hv] at q1
       injection q1 with q1
       rcases q4 with ⟨_,q5,_⟩ | ⟨b,q5,_⟩
       ·subst q5;simp at V3;omega
       ·subst q5
        have bB:=mO (P:=P) (w:=w) hu p1 hiv q1 QW (by omega) aY
        refine pure_ok R ho bB ⟨b,by rw [hv,q1];rfl,?_⟩ (fun _=>rfl)
        rw [p2];simp
     ·cases h
    ·rename_i id st m h1
     rw [h1] at hx;obtain ⟨hx,hm⟩:=hx
     have hw:0≤n→n<(m:Int)→∃ b c,bE (pt id st)=some b∧a.eval x = .slice (some ⟨b,0,none⟩) m c:=by
      intro g0 g1
      rcases hx with hx | ⟨hx,_⟩
      ·exact hx
      ·subst hx;omega
     split at h
     ·rename_i st' t l tV
      cases hb:(Nat.beq st st' && Nat.beq ei.size t.nc) with
      | false=>simp [hb] at h
      | true=>
       simp only [hb,aQ,bn,gD,dA,mX] at h;obtain ⟨⟨QW,V3⟩,rfl⟩:=h;obtain ⟨b,c,nI,hv⟩:=hw QW V3;have bB:=mO (P:=P) (w:=w) hu p1 hiv hv QW V3 aY
       refine pure_ok R ho bB ⟨b,nI,?_⟩ (fun _=>rfl)
       rw [p2];simp
     ·rename_i st' _ _ tV
      cases hb:(Nat.beq st st' && Nat.beq ei.size 1) with
      | false=>simp [hb] at h
      | true=>
       simp only [hb,aQ,bn,gD,dA,mX] at h;obtain ⟨⟨QW,V3⟩,rfl⟩:=h;obtain ⟨b,c,nI,hv⟩:=hw QW V3;have bB:=mO (P:=P) (w:=w) hu p1 hiv hv QW V3 aY
       refine pure_ok R ho bB ⟨b,nI,?_⟩ (fun _=>rfl)
       simp only [dA] at hb;rw [p2,fD hb.2];simp
     ·cases h
    ·cases h
   ·cases h
  ·cases h
 ·cases h
theorem uR (R:Rel E C s a w G pt) {x:Option Operand} {z:Nat} {n:Int} (h:bound s x z=some n) :
 (x=none∧n=z)∨∃ y k,x=some y∧a.eval y = .int k n:=by
 cases x with
 | none=>simp only [bound,bn] at h;exact .inl ⟨rfl,h.symm⟩
 | some y=>
  have hy:=aJ R y;simp only [bound] at h;split at h
  ·rename_i k m h1
   simp only [bn] at h;subst h;rw [h1] at hy;exact .inr ⟨y,k,rfl,hy.1⟩
  ·cases h
theorem nJ (R:Rel E C s a w G pt) (isS:Bool) {lo hi:Option Operand} {len cap:Nat} {p q:Int} (hl:bound s lo 0=some p) (hh:bound s hi len=some q) (h0:0≤p) (h1:p≤q) (h2:q≤(len:Int)) (hc:len≤cap) :
 (Instr.sliceBounds isS len cap (lo.map a.eval) (hi.map a.eval) none).run P w = .ok (p.toNat,q.toNat,cap) w:=by
 rcases uR R hl with ⟨rfl,rfl⟩ | ⟨y,k,rfl,hy⟩<;>rcases uR R hh with ⟨rfl,rfl⟩ | ⟨z,k',rfl,hz⟩
 ·simp [Instr.sliceBounds]
 ·simp [Instr.sliceBounds,Instr.sliceBound,hz,asIntOf,show 0≤q by omega,show q≤(cap:Int) by omega]
 ·simp [Instr.sliceBounds,Instr.sliceBound,hy,asIntOf,h0,show p≤(len:Int) by omega]
 ·simp [Instr.sliceBounds,Instr.sliceBound,hz,hy,asIntOf,h0,show 0≤q by omega,show q≤(cap:Int) by omega]
  intro h;omega
theorem BR (R:Rel E C s a w G pt) {lo:Option Operand} {hi mx:Operand} {len cap:Nat} {p q m:Int} (hl:bound s lo 0=some p) (hh:bound s (some hi) len=some q) (hm:bound s (some mx) 0=some m) (h0:0≤p) (h1:p≤q) (h2:q≤(len:Int)) (hc:len≤cap) (hmq:m=q) :
 (Instr.sliceBounds true len cap (lo.map a.eval) (some (a.eval hi)) (some (a.eval mx))).run P w = .ok (p.toNat,q.toNat,q.toNat) w:=by
 subst hmq
 rcases uR R hh with ⟨h,_⟩ | ⟨z,k',h,hz⟩
 ·cases h
 ·cases h
  rcases uR R hm with ⟨h,_⟩ | ⟨z',k'',h,hz'⟩
  ·cases h
  ·cases h
   have hmm:max m 0=m:=by omega
   rcases uR R hl with ⟨rfl,rfl⟩ | ⟨y,k,rfl,hy⟩
   ·simp [Instr.sliceBounds,Instr.sliceBound,hz,hz',asIntOf,show 0≤m by omega,show m≤(cap:Int) by omega,hmm]
   ·simp [Instr.sliceBounds,Instr.sliceBound,hz,hz',hy,asIntOf,h0,h1,show 0≤m by omega,show m≤(cap:Int) by omega,hmm]
theorem V4 (HP:nS P E) (R:Rel E C s a w G pt) (ho:∀ t,o.dst=some t→t<E.n) (T:Nat) (x:Operand) (lo:Option Operand) (hi mx:Operand) (aY:o.op = .slice T x lo (some hi) (some mx))
 (h:vV E o s T x lo hi mx=some (true,u)):fB P E C o a w (au u s):=by
 have hx:=aJ R x;simp only [vV] at h;split at h
 ·rename_i ti hti
  have hu:=(HP.ti _ _ hti).und;split at h
  ·rename_i e f t l hd h1
   rw [hd] at hu;split at h
   ·rename_i ei p q mm Ng hl hh hmx
    obtain ⟨pi,z,p1,p2,_⟩:=(HP.ti _ _ Ng).info
    cases hb:Nat.beq ei.size t.nc with
    | false=>simp [hb] at h
    | true=>
     simp only [hb,aQ,bn,gD,dA,mX] at h;obtain ⟨⟨⟨⟨h0,BA⟩,h2⟩,h3⟩,rfl⟩:=h;have hb:=fD hb
     obtain ⟨G',eG,R1,uQ,Ll,NR⟩:=R.Jz x (by rw [h1];rfl)
     rw [h1] at uQ;obtain ⟨ad,m,c,hv,hm,oN,kW,Nh⟩:=uQ;have Zl:=BR (P:=P) R hl hh hmx h0 BA h2 kW h3
     have hlen:((l.take q.toNat).drop p.toNat).length=q.toNat - p.toNat:=by simp;omega
     rw [bg]
     have bB:(execOp a.eval o).run P w = .ok (.value (.slice (if q.toNat=p.toNat then ad else ad.map (·.add (p.toNat*pi.size))) (q.toNat - p.toNat) (q.toNat - p.toNat))) w:=by
      rw [hm] at hv;simp [execOp,aY,Instr.sliceAt,run_underlying hu,Instr.slice,hv,Zl,sizeOf,typeInfo,p1]
     refine ⟨_,w,G',pt,.inl bB,R1.Fq o ho ⟨_,_,rfl,hlen.symm,?_,?_⟩ (fun b=>?_)⟩
     ·refine gX (zF _ ?_) oN
      omega
     ·refine ⟨by omega,?_⟩
      by_cases fC:q.toNat=p.toNat
      ·left
       apply List.eq_nil_of_length_eq_zero;rw [hlen];omega
      ·right
       rcases Nh with Nh | ⟨b,off,had,hG,hE⟩
       ·subst Nh;simp at h2;omega
       ·subst had
        refine ⟨b,off+p.toNat*t.nc,?_,?_,?_⟩
        ·rw [if_neg fC]
         simp only [Option.map_some,Addr.add_mid,p2,hb]
        ·rw [hlen]
         have:off+l.length*t.nc≤G' b:=hG
         have e1:(p.toNat+(q.toNat - p.toNat))*t.nc≤l.length*t.nc:=zF _ (by omega)
         rw [Nat.add_mul] at e1;omega
        ·intro j hj
         have nR:p.toNat+j<l.length:=by rw [hlen] at hj;omega
         have:=hE (p.toNat+j) nR;rw [Nat.add_mul,←Nat.add_assoc] at this
         simpa using this
     ·cases (if q.toNat=p.toNat then ad else ad.map (·.add (p.toNat*pi.size)))<;>rfl
   ·cases h
  ·cases h
 ·cases h
theorem QX (HP:nS P E) (R:Rel E C s a w G pt) (ho:∀ t,o.dst=some t→t<E.n) (T:Nat) (x:Operand) (lo:Option Operand) (hi mx:Operand) (aY:o.op = .slice T x lo (some hi) (some mx))
 (h:uI E o s T x lo hi mx=some (true,u)):fB P E C o a w (au u s):=by unfold uI at h;cases h
theorem NS {f:Nat} {t:Ty} {l:List t.den} {v:Value} (h:bF w G pt (.sl f t l) v) (hf:f≠0):∃ G',Ext w G w G'∧(∀ b,dS b (.sl f t l) v=0→G' b=G b)∧bF w G' pt (.sl 3 t l) v:=by
 obtain ⟨ad,n,c,hv,hn,oN,kW⟩:=h;subst hv
 have key:(ad=none∧l=[]∧c=0)∨∃ b o d,ad=some ⟨b,o,none⟩∧(d=0∨c=0)∧G b≤o+d+l.length*t.nc∧Room w b (o+d+c*t.nc)∧l.length≤c∧fA w G t l b o∧0<t.nc:=by
  match f,hf,kW with
  | 1,_,kW=>
   rcases kW with h | ⟨b,h1,h2,h3,h4,h5,h6⟩
   ·exact .inl h
   ·exact .inr ⟨b,0,0,h1,.inl rfl,by omega,by simpa using h3,h4,h5,h6⟩
  | 2,_,kW=>
   rcases kW with h | ⟨b,h1,h2,h3,h4,h5,h6⟩
   ·exact .inl h
   ·exact .inr ⟨b,0,0,h1,.inl rfl,by omega,by simpa using h3,h4,h5,h6⟩
  | 3,_,kW=>
   rcases kW with h | ⟨b,o,d,h1,h0,h2,h3,h4,h5,h6⟩
   ·exact .inl h
   ·exact .inr ⟨b,o,d,h1,h0,by omega,h3,h4,h5,h6⟩
  | k+4,_,kW=>exact kW.elim
 rcases key with h | ⟨b,off,d,h1,h0,h2,h3,h4,h5,h6⟩
 ·exact ⟨G,Ext.refl _ _,fun _ _=>rfl,ad,n,c,rfl,hn,oN,.inl h⟩
 ·have hE:Ext w G w (fun x=>if x=b then off+d+l.length*t.nc else G x):=⟨fun _ _ _=>rfl,fun x=>by
   show G x≤if x=b then _ else _
   by_cases hx:x=b
   ·subst hx;rw [if_pos rfl];exact h2
   ·rw [if_neg hx];exact bT _⟩
  refine ⟨_,hE,fun x hx=>?_,ad,n,c,rfl,hn,oN,.inr ⟨b,off,d,h1,h0,by simp,h3,h4,h5.mono hE fun _ _ _=>rfl,h6⟩⟩
  show (if x=b then _ else _)=_
  by_cases hb:x=b
  ·subst hb;subst h1
   simp [dS,hf] at hx
  ·rw [if_neg hb]
theorem NT (R:Rel E C s a w G pt) (ho:∀ t,o.dst=some t→t<E.n) (x:Operand) (aY:o.op = .assign x)
 (h:Ju E o s x=some (true,u)):fB P E C o a w (au u s):=by
 have hx:=aJ R x;simp only [Ju] at h;split at h
 ·rename_i f t l h1
  cases hf:Nat.beq f 0 with
  | true=>simp [hf] at h
  | false=>
   simp only [hf,bJ,bn,gD,true_and] at h;subst h;rw [h1] at hx;have hx:bF w G pt (.sl f t l) (a.eval x):=hx
   obtain ⟨G',hE,hG,hr⟩:=NS hx (fun e=>by subst e;simp at hf)
   have bB:(execOp a.eval o).run P w = .ok (.value (a.eval x)) w:=by simp [execOp,aY]
   refine ⟨_,w,G',pt,.inl bB,R.take x o ho hE (fun b hb=>hG b (by rw [h1] at hb;exact hb)) hr (fun b=>?_)⟩
   rw [h1]
   have hf0:f≠0:=fun e=>by subst e;simp at hf
   show dS b (.sl 3 t l) (a.eval x)≤dS b (.sl f t l) (a.eval x)
   cases a.eval x with
   | slice ad _ _=>cases ad<;>simp [dS,hf0]
   | _=>exact bT _
 ·cases h
theorem V5 (HP:nS P E) (R:Rel E C s a w G pt) (ho:∀ t,o.dst=some t→t<E.n) (T:Nat) (x:Operand) (lo hi:Option Operand) (aY:o.op = .slice T x lo hi none)
 (h:vW E o s T x lo hi=some (true,u)):fB P E C o a w (au u s):=by
 have hx:=aJ R x;simp only [vW] at h;split at h
 ·rename_i ti hti
  have hu:=(HP.ti _ _ hti).und;split at h
  ·rename_i e f t l hd h1
   rw [hd] at hu;split at h
   ·rename_i ei p Ng hl
    obtain ⟨pi,z,p1,p2,_⟩:=(HP.ti _ _ Ng).info
    cases hb:(Nat.beq ei.size t.nc && !Nat.beq f 0) with
    | false=>simp [hb] at h
    | true=>
     simp only [hb,aQ,bn,gD,dA,mX] at h;obtain ⟨⟨h0,h2⟩,rfl⟩:=h;simp only [dA,Bool.not_eq_true'] at hb;have eU:=fD hb.1
     have hf0:f≠0:=fun e=>by have:=hb.2;subst e;simp at this
     rw [h1] at hx;have hx:bF w G pt (.sl f t l) (a.eval x):=hx;obtain ⟨G',hE,hG,ad,m,c,hv,hm,oN,kW⟩:=NS hx hf0
     have hlc:l.length≤c:=by
      rcases kW with ⟨_,q5,_⟩ | ⟨b,_,_,_,_,_,_,q5,_⟩
      ·subst q5;simp
      ·exact q5
     have Zl:=nJ (P:=P) R true (hi:=none) hl rfl h0 h2 (Int.le_refl _) hlc
     have bB:(execOp a.eval o).run P w = .ok (.value (.slice (if c=p.toNat then ad else ad.map (·.add (p.toNat*pi.size))) (l.length - p.toNat) (c - p.toNat))) w:=by
      rw [hm] at hv;simp only [jd,Option.map_none] at Zl;simp [execOp,aY,Instr.sliceAt,run_underlying hu,Instr.slice,hv,Zl,sizeOf,typeInfo,p1]
     refine ⟨_,w,G',pt,.inl bB,R.take x o ho hE (fun b hb=>hG b (by rw [h1] at hb;exact hb)) ⟨_,_,_,rfl,by simp,gX (zF _ (by omega)) oN,?_⟩ (fun b=>?_)⟩
     ·rcases kW with ⟨g1,g2,g3⟩ | ⟨b,off,d,g0,gd,g1,g2,g3,g4,g5⟩
      ·subst g1;subst g2;subst g3
       exact .inl ⟨by simp,by simp,by simp⟩
      ·subst g0
       by_cases hcp:c=p.toNat
       ·rw [if_pos hcp]
        have hlp:l.length=p.toNat:=by omega
        have yh:l.drop p.toNat=[]:=by rw [←hlp];exact List.drop_length
        refine .inr ⟨b,off,d+l.length*t.nc,rfl,.inr (by omega),by rw [yh,g1];simp;omega,?_,by rw [yh];simp,fun i hi=>by rw [yh] at hi;simp at hi,g5⟩
        obtain ⟨cur,e',fr,k1,k2,k3⟩:=g2;have:l.length*t.nc≤c*t.nc:=zF _ g3
        exact ⟨cur,e',fr,k1,by rw [show c - p.toNat=0 by omega,Nat.zero_mul];omega,k3⟩
       ·rw [if_neg hcp]
        have Yp:d=0:=by omega
        subst Yp
        have e1:p.toNat*t.nc+(l.length - p.toNat)*t.nc=l.length*t.nc:=by rw [←Nat.add_mul];congr 1;omega
        have e2:p.toNat*t.nc+(c - p.toNat)*t.nc=c*t.nc:=by rw [←Nat.add_mul];congr 1;omega
        refine .inr ⟨b,off+p.toNat*t.nc,0,?_,.inl rfl,?_,?_,by simp;omega,fun j hj=>?_,g5⟩
        ·simp only [Option.map_some,Addr.add_mid,p2,eU]
        ·rw [g1,List.length_drop];omega
        ·obtain ⟨cur,e',fr,k1,k2,k3⟩:=g2
         exact ⟨cur,e',fr,k1,by omega,k3⟩
        ·have nR:p.toNat+j<l.length:=by simp at hj;omega
         have:=g4 (p.toNat+j) nR;rw [Nat.add_mul,←Nat.add_assoc] at this
         simpa using this
     ·rw [h1]
      show dS b (.sl 3 t _) _≤dS b (.sl f t l) (a.eval x);rw [hv]
      rcases kW with ⟨g1,_,_⟩ | ⟨b',off,d,g0,_⟩
      ·subst g1;simp [dS]
      ·subst g0
       by_cases hcp:c=p.toNat
       ·rw [if_pos hcp];simp [dS,hf0]
       ·rw [if_neg hcp];simp [dS,hf0,Addr.add_mid]
   ·cases h
  ·cases h
 ·cases h
theorem Zm (HP:nS P E) (R:Rel E C s a w G pt) (ho:∀ t,o.dst=some t→t<E.n) (T:Nat) (x:Operand) (lo hi:Option Operand) (aY:o.op = .slice T x lo hi none)
 (h:BL E o s T x lo hi=some (true,u)):fB P E C o a w (au u s):=by
 have hx:=aJ R x;simp only [BL] at h;split at h
 ·rename_i ti hti
  have hu:=(HP.ti _ _ hti).und;split at h
  ·rename_i e f t l hd h1
   rw [hd] at hu;split at h
   ·rename_i ei p q Ng hl hh
    obtain ⟨pi,z,p1,p2,_⟩:=(HP.ti _ _ Ng).info
    cases hb:Nat.beq ei.size t.nc with
    | false=>simp [hb] at h
    | true=>
     simp only [hb,aQ,bn,gD,dA,mX] at h;obtain ⟨⟨⟨h0,BA⟩,h2⟩,rfl⟩:=h;have hb:=fD hb
     obtain ⟨G',eG,R1,uQ,Ll,NR⟩:=R.Jz x (by rw [h1];rfl)
     rw [h1] at uQ;obtain ⟨ad,m,c,hv,hm,oN,kW,Nh⟩:=uQ;have Zl:=nJ (P:=P) R true hl hh h0 BA h2 kW
     have hlen:((l.take q.toNat).drop p.toNat).length=q.toNat - p.toNat:=by simp;omega
     rw [bg]
     have bB:(execOp a.eval o).run P w = .ok (.value (.slice (if c=p.toNat then ad else ad.map (·.add (p.toNat*pi.size))) (q.toNat - p.toNat) (c - p.toNat))) w:=by
      rw [hm] at hv;simp [execOp,aY,Instr.sliceAt,run_underlying hu,Instr.slice,hv,Zl,sizeOf,typeInfo,p1]
     refine ⟨_,w,G',pt,.inl bB,R1.Fq o ho ⟨_,_,_,rfl,hlen.symm,?_,?_⟩ (fun b=>?_)⟩
     ·refine gX (zF _ ?_) oN
      omega
     ·refine ⟨by omega,?_⟩
      by_cases fC:q.toNat=p.toNat
      ·left
       apply List.eq_nil_of_length_eq_zero;rw [hlen];omega
      ·right
       rcases Nh with Nh | ⟨b,off,had,hG,hE⟩
       ·subst Nh;simp at h2;omega
       ·subst had
        have hcp:¬ c=p.toNat:=by omega
        refine ⟨b,off+p.toNat*t.nc,?_,?_,?_⟩
        ·rw [if_neg hcp]
         simp only [Option.map_some,Addr.add_mid,p2,hb]
        ·rw [hlen]
         have:off+l.length*t.nc≤G' b:=hG
         have e1:(p.toNat+(q.toNat - p.toNat))*t.nc≤l.length*t.nc:=zF _ (by omega)
         rw [Nat.add_mul] at e1;omega
        ·intro j hj
         have nR:p.toNat+j<l.length:=by rw [hlen] at hj;omega
         have:=hE (p.toNat+j) nR;rw [Nat.add_mul,←Nat.add_assoc] at this
         simpa using this
     ·cases (if c=p.toNat then ad else ad.map (·.add (p.toNat*pi.size)))<;>rfl
   ·cases h
  ·rename_i l hd h1
   rw [hd] at hu;rw [h1] at hx;obtain ⟨b,hv,Yr,hb⟩:=hx;split at h
   ·rename_i p q hl hh
    simp only [bn,gD,dA,mX] at h;obtain ⟨⟨⟨h0,BA⟩,h2⟩,rfl⟩:=h
    have eU:l.length=b.size:=by rw [←Yr];exact oM b
    rw [eU] at hh h2;have Zl:=nJ (P:=P) R false hl hh h0 BA h2 (bT _)
    refine pure_ok R ho (v:=.string (b.extract p.toNat q.toNat)) ?_ ⟨_,rfl,?_,?_⟩ (fun _=>rfl)
    ·simp [execOp,aY,Instr.sliceAt,run_underlying hu,Instr.slice,hv,Zl]
    ·rw [←Yr]
     simp [lZ,List.map_take,List.map_drop,List.extract_eq_take_drop,List.drop_take]
    ·simp;omega
   ·cases h
  ·cases h
 ·cases h
end
theorem iR {b:Nat}:∀ {ds:List D} {f g:Nat→Value},(∀ j,j<ds.length→f j=g j)→aM b ds f=aM b ds g
 | [],_,_,_=>rfl
 | d::r,f,g,h=>by
  simp only [aM]
  rw [h 0 (by simp),iR (f:=fun i=>f (i+1)) (g:=fun i=>g (i+1)) fun j hj=>h (j+1) (by simpa using hj)]
def NU (agg:Bool) (n:Nat) (f:Nat→Value):Value:=bif agg then .agg ((List.range n).map f).toArray else f 0
section
variable {P:Program} {E:Env} {C:Ctx} {s:St} {a:Act} {w:World} {G:Nat→Nat} {pt:Nat→Nat→Option Value} {o:Oper} {u:St}
theorem aP.congr {ds:List D} {f g:Nat→Value} (h:aP w G pt ds f) (hfg:∀ j,j<ds.length→f j=g j):aP w G pt ds g:=by
 intro j hj;rw [←hfg j hj];exact h j hj
theorem pY {agg:Bool} {n:Nat} {ds:List D} {d:D} {f:Nat→Value} (h:mk1 agg ds=some d) (hl:ds.length=n) (hr:aP w G pt ds f) :
 aU w G pt d (NU agg n f)∧∀ b,dP b d (NU agg n f)=aM b ds f:=by
 cases agg with
 | true=>
  simp only [mk1,aQ,bn] at h;subst h
  have e:∀ j,j<ds.length→f j=aS ((List.range n).map f).toArray j:=by
   intro j hj
   have hn:j<n:=by omega
   simp [aS,xE,hn]
  refine ⟨⟨_,rfl,by simp [hl],hr.congr e⟩,fun b=>?_⟩
  show aM b ds (aS ((List.range n).map f).toArray)=_;exact (iR e).symm
 | false=>
  simp only [mk1,bJ] at h
  match ds,h with
  | [d0],h=>
   simp only [bn] at h;subst h
   have h0:=(hr 0 (by simp)).1
   simp only [List.getElem_cons_zero] at h0
   refine ⟨?_,fun b=>?_⟩
   ·cases d0<;>first | exact h0 | exact absurd h0 id
   ·simp only [NU,bJ,aM,Nat.add_zero]
    cases d0<;>first | rfl | exact absurd h0 id
    all_goals (cases f 0<;>rfl)
theorem uS {T:TypeId} {i:TI} (hT:Zb P T i) {b off:Nat} {f:Nat→Value} (hc:∀ j,j<i.size→w.cell? ⟨b,off+j,none⟩=some (f j)) :
 (loadVar T ⟨b,off,none⟩).run P w = .ok (NU i.agg i.size f) w:=by
 obtain ⟨pi,z,p1,p2,_⟩:=hT.info
 cases JA:i.agg with
 | true=>
  have h1:kG i.desc=true:=by rw [←hT.agg];exact JA
  have:=run_loadVar_mid (P:=P) w b off T ((List.range i.size).map f) i.desc (fun j v hj=>by
   rw [List.getElem?_map] at hj
   by_cases hjn:j<i.size
   ·rw [List.getElem?_range hjn] at hj
    simp at hj;rw [←hj];exact hc j hjn
   ·rw [List.getElem?_eq_none (by simpa using hjn)] at hj;simp at hj) hT.und (by cases hd:i.desc<;>rw [hd] at h1<;>first | rfl | exact h1) (by simp [p1,p2])
  exact this
 | false=>
  have h1:kG i.desc=false:=by rw [←hT.agg];exact JA
  have Zf:(isAgg T).run P w = .ok false w:=by
   unfold isAgg;rw [Sem.run_bind,run_underlying hT.und w]
   cases hd:i.desc<;>rw [hd] at h1<;>simp_all [kG]
  have h0:=hc 0 (by rw [hT.one JA];omega)
  simp only [Nat.add_zero] at h0;simp [loadVar,Zf,h0,NU]
theorem Fy {T:TypeId} {i:TI} (hT:Zb P T i) {b off:Nat} {f:Nat→Value} (hc:∀ j,j<i.size→w.cell? ⟨b,off+j,none⟩=some (f j)) {x:Operand}
 (aY:o.op = .load T x) (hv:a.eval x = .pointer (some ⟨b,off,none⟩)):(execOp a.eval o).run P w = .ok (.value (NU i.agg i.size f)) w:=by
 simp [execOp,aY,hv,Instr.loadAt,Instr.sureAddr,uS hT hc]
theorem rA {b k:Nat} (h:Room w b k) {j:Nat} (hj:j<k):w.cell? ⟨b,j,none⟩=some (aB w b j):=by
 obtain ⟨cur,e,fr,h1,h2,h3⟩:=h
 have aT:j<cur.size:=by omega
 simp [aB,World.cell?,h1,aT]
theorem aP.sub {ds:List D} {f:Nat→Value} (h:aP w G pt ds f) (off n:Nat):aP w G pt ((ds.drop off).take n) (fun j=>f (off+j)):=(h.drop off).take n
theorem gZ {cs ds:List D} {off:Nat} (h:off+ds.length≤cs.length):(dL cs off ds).length=cs.length:=by
 simp [dL];omega
theorem rC {cs ds:List D} {off:Nat} (h:off+ds.length≤cs.length) {j:Nat} (hj:j<(dL cs off ds).length) :
 (off≤j∧j<off+ds.length→∀ hh:j - off<ds.length,(dL cs off ds)[j]=ds[j - off]) ∧
 (¬ (off≤j∧j<off+ds.length)→∀ hh:j<cs.length,(dL cs off ds)[j]=cs[j]):=by
 have aT:(cs.take off).length=off:=by simp;omega
 constructor
 ·intro h1 hh
  simp only [dL]
  rw [List.getElem_append_right (by omega),List.getElem_append_left (by omega)]
  simp [aT]
 ·intro h1 hh
  simp only [dL]
  by_cases h2:j<off
  ·rw [List.getElem_append_left (by omega)]
   simp
  ·rw [List.getElem_append_right (by omega),List.getElem_append_right (by omega)]
   simp only [List.getElem_drop]
   congr 1
   omega
theorem aP.dL {cs ds:List D} {f:Nat→Value} {off:Nat} (h:aP w G pt cs f) (hd:aP w G pt ds (fun j=>f (off+j))) (hl:off+ds.length≤cs.length) :
 aP w G pt (dw.dL cs off ds) f:=by
 intro j hj;obtain ⟨q1,q2⟩:=rC hl hj;have hlen:=gZ hl
 by_cases h1:off≤j∧j<off+ds.length
 ·rw [q1 h1 (by omega)]
  have:=hd (j - off) (by omega)
  simp only [show off+(j - off)=j by omega] at this
  exact this
 ·rw [q2 h1 (by omega)]
  exact h j (by omega)
theorem iB {b:Nat}:∀ (xs ys:List D) (f:Nat→Value),aM b (xs++ys) f=aM b xs f+aM b ys (fun j=>f (xs.length+j))
 | [],ys,f=>by simp [aM]
 | d::xs,ys,f=>by
  simp only [List.cons_append,aM,iB xs ys,lD]
  have:(fun j=>f (xs.length+j+1))=fun j=>f (xs.length+1+j):=funext fun j=>by rw [Nat.add_right_comm]
  rw [this];omega
theorem jK {b:Nat} {cs ds:List D} {f:Nat→Value} {off:Nat} (hl:off+ds.length≤cs.length) :
 aM b (dL cs off ds) f+aM b ((cs.drop off).take ds.length) (fun j=>f (off+j))=aM b cs f+aM b ds (fun j=>f (off+j)):=by
 have h1:cs=cs.take off++((cs.drop off).take ds.length++cs.drop (off+ds.length)):=by
  rw [←List.drop_drop,List.take_append_drop,List.take_append_drop]
 have aT:(cs.take off).length=off:=by simp;omega
 have hlm:((cs.drop off).take ds.length).length=ds.length:=by simp;omega
 have e2:aM b cs f=aM b (cs.take off) f+(aM b ((cs.drop off).take ds.length) (fun j=>f (off+j))+aM b (cs.drop (off+ds.length)) (fun j=>f (off+(ds.length+j)))):=by
  conv=>lhs;rw [h1]
  rw [iB,iB,aT,hlm]
 simp only [dL,iB,aT];omega
theorem Rel.QY (R:Rel E C s a w G pt) (id st off n:Nat) {cs:List D} (hb:get s (2*id+1) = .aI st true cs) (hl:off+n≤cs.length) :
 ∃ G' bR,Ext w G w G'∧bE (pt id st)=some bR∧Room w bR cs.length ∧
  Rel E C ((2*id+1,.aI st true (dL cs off (((cs.drop off).take n).map bP)))::s) a w G' pt ∧
  aP w G' pt (((cs.drop off).take n).map bP) (fun j=>aB w bR (off+j)):=by
 have hB:=R.bx id;rw [hb] at hB;obtain ⟨bR,h1,h2,h3,h4⟩:=hB rfl
 have hblk:bE (pt id st)=some bR:=by rw [h1];rfl
 have lF:=h4.sub off n
 have Il:((cs.drop off).take n).length=n:=by simp;omega
 have Zn:∀ b,cB s w pt b id=dh b (pt id st)+aM b cs (aB w bR):=fun b=>by simp only [cB,hb,gY,hblk,sw]
 have hrp:∀ b,aM b (dL cs off (((cs.drop off).take n).map bP)) (aB w bR)=aM b cs (aB w bR):=by
  intro b
  have:=jK (b:=b) (cs:=cs) (ds:=((cs.drop off).take n).map bP) (f:=aB w bR) (off:=off) (by simp;omega)
  rw [pJ,Il,oK] at this;omega
 have Zo:∀ b,aM b ((cs.drop off).take n) (fun j=>aB w bR (off+j))≤aM b cs (aB w bR):=by
  intro b
  have:=jK (b:=b) (cs:=cs) (ds:=((cs.drop off).take n).map stripL) (f:=aB w bR) (off:=off) (by simp;omega)
  rw [pJ,Il,jJ l8] at this;omega
 have hid:=fT R (id:=id) (by rw [hb];simp)
 obtain ⟨e,Ud⟩:=lF.share (fun b=>by
  have:=Zo b;have:=Zn b;have:=R.jq b id;have:=R.ct b;omega)
 refine ⟨oJ G ((cs.drop off).take n) (fun j=>aB w bR (off+j)),bR,e,hblk,h2,?_,Ud⟩
 have hG:∀ b,cB s w pt b id=0→oJ G ((cs.drop off).take n) (fun j=>aB w bR (off+j)) b=G b:=fun b hb=>iL (by have:=Zo b;have:=Zn b;omega)
 have hGb:oJ G ((cs.drop off).take n) (fun j=>aB w bR (off+j)) bR=G bR:=by
  refine iL ?_;have:=Zo bR;have:=Zn bR;have:=R.jq bR id;have:=R.ct bR
  have:dh bR (pt id st)=1:=by simp [dh,hblk]
  omega
 -- all that stood in the box stands under the new bounds
 have oO:aP w (oJ G ((cs.drop off).take n) (fun j=>aB w bR (off+j))) pt (dL cs off (((cs.drop off).take n).map bP)) (aB w bR):=by
  intro j hj
  have hlen:(dL cs off (((cs.drop off).take n).map bP)).length=cs.length:=gZ (by simp;omega)
  obtain ⟨q1,q2⟩:=rC (cs:=cs) (ds:=((cs.drop off).take n).map bP) (off:=off) (by simp;omega) hj
  by_cases BD:off≤j∧j<off+(((cs.drop off).take n).map bP).length
  ·have aT:j - off<(((cs.drop off).take n).map bP).length:=by omega
   rw [q1 BD aT];have:=Ud (j - off) aT
   simp only [show off+(j - off)=j by omega] at this
   exact this
  ·have Ue:j<cs.length:=by omega
   rw [q2 BD Ue]
   refine ⟨(h4 j Ue).1.mono e (fun _ _ _ h=>h) fun b hb=>⟨rfl,iL ?_⟩,(h4 j Ue).2⟩
   -- the leaf at j lies outside of the part
   have hz:aM b (dL cs off (((cs.drop off).take n).map stripL)) (aB w bR)+aM b ((cs.drop off).take n) (fun j=>aB w bR (off+j))=aM b cs (aB w bR):=by
    have:=jK (b:=b) (cs:=cs) (ds:=((cs.drop off).take n).map stripL) (f:=aB w bR) (off:=off) (by simp;omega)
    rw [pJ,Il,jJ l8] at this;omega
   have tY:(dL cs off (((cs.drop off).take n).map stripL)).length=cs.length:=gZ (by simp;omega)
   have hg:=kI (b:=b) (ds:=dL cs off (((cs.drop off).take n).map stripL)) (f:=aB w bR) j (by omega)
   rw [(rC (cs:=cs) (ds:=((cs.drop off).take n).map stripL) (off:=off) (by simp;omega) (by omega)).2 (by simpa using BD) Ue] at hg
   have:=Zn b;have:=R.jq b id;have:=R.ct b;omega
 refine R.step (fun _=>False) (fun i=>i=id) (fun b=>0<cB s w pt b id) rfl R.df (fun t _=>⟨by simp,rfl⟩) (fun i hi=>⟨by simp [hi],rfl⟩) e (fun _ _ _ h=>h)
  (fun b hb _=>⟨rfl,hG b (by omega)⟩) (fun b hb t _=>R.bt hb t) (fun b hb i hi=>R.bb hb hi) (fun b hb=>(R.cb b (mK hb (R.jq b id))).2) (fun t h=>h.elim)
  (fun i hi=>?_) (fun c1 c2 b=>?_) (fun b hb=>?_) rfl rfl rfl (bT _)
 ·subst hi
  refine ⟨hid,?_,?_⟩
  ·simp only [aW,if_true]
   exact fun _=>⟨bR,h1,by rw [gZ (by simp;omega)];exact h2,hGb.trans h3,oO⟩
  ·simp only [aW,if_true]
   intro st' Lm
   exact R.pf i st' (by rw [hb];exact Lm)
 ·have e1:=aG (n:=E.n) (f:=cT s a b) (g:=cT ((2*id+1,.aI st true (dL cs off (((cs.drop off).take n).map bP)))::s) a b) (fun i _=>(c1 i (fun h=>h) b).symm)
  have e2:=dG (n:=C.m) (f:=cB s w pt b) (g:=cB ((2*id+1,.aI st true (dL cs off (((cs.drop off).take n).map bP)))::s) w pt b) hid (fun i hi=>c2 i hi b)
  have e3:cB ((2*id+1,.aI st true (dL cs off (((cs.drop off).take n).map bP)))::s) w pt b id=cB s w pt b id:=by
   rw [Zn b];simp only [cB,aW,if_true,gY,hblk,sw,hrp]
  have h1:=R.ct b;have h2:=R.cb b;unfold TC at *
  exact ⟨by omega,fun h=>h2 (by omega)⟩
 ·have:cB s w pt b id=0:=by
   rcases Nat.eq_zero_or_pos (cB s w pt b id) with h | h
   ·exact h
   ·have:=(R.cb b (mK h (R.jq b id))).1;omega
  rw [hG b this];exact R.gz b hb
end
theorem am7 {x y z z':D} {s:St} {i j:Nat} (h:i≠j) (m:Nat) :
 get ((2*i,x)::(2*i+1,y)::(2*j+1,z)::s) m=get ((2*j+1,z)::(2*i,x)::(2*i+1,y)::(2*j+1,z')::s) m:=by
 simp only [aD]
 (repeat' split)<;>first | rfl | omega
section
variable {P:Program} {E:Env} {C:Ctx} {s:St} {a:Act} {w:World} {G:Nat→Nat} {pt:Nat→Nat→Option Value} {o:Oper} {u:St}
theorem Rel.Zp (R:Rel E C s a w G pt) {id st bR:Nat} {cs cs':List D} (hb:get s (2*id+1) = .aI st true cs) (hblk:bE (pt id st)=some bR) (hl:cs'.length=cs.length)
 (hr:aP w G pt cs' (aB w bR)) (hc:∀ b,aM b cs' (aB w bR)≤aM b cs (aB w bR)) :
 Rel E C ((2*id+1,.aI st true cs')::s) a w G pt ∧
  ∀ b,TC E.n C.m ((2*id+1,.aI st true cs')::s) a w pt b+aM b cs (aB w bR)=TC E.n C.m s a w pt b+aM b cs' (aB w bR):=by
 have hB:=R.bx id;rw [hb] at hB;obtain ⟨bU,h1,h2,h3,h4⟩:=hB rfl
 have xq:bU=bR:=by rw [h1] at hblk;simpa [bE] using hblk
 subst xq
 have hid:=fT R (id:=id) (by rw [hb];simp)
 have c0:∀ b,cB s w pt b id=dh b (pt id st)+aM b cs (aB w bU):=fun b=>by simp only [cB,hb,gY,hblk,sw]
 have c1':∀ b,cB ((2*id+1,.aI st true cs')::s) w pt b id=dh b (pt id st)+aM b cs' (aB w bU):=fun b=>by simp only [cB,aW,if_true,gY,hblk,sw]
 have tcs:∀ b,TC E.n C.m ((2*id+1,.aI st true cs')::s) a w pt b+aM b cs (aB w bU)=TC E.n C.m s a w pt b+aM b cs' (aB w bU):=by
  intro b
  have e1:=aG (n:=E.n) (f:=cT s a b) (g:=cT ((2*id+1,.aI st true cs')::s) a b) (fun i _=>by simp only [cT,get_bt])
  have e2:=dG (n:=C.m) (f:=cB s w pt b) (g:=cB ((2*id+1,.aI st true cs')::s) w pt b) hid (fun i hi=>by simp only [cB,aW,hi,if_false])
  have:=c0 b;have:=c1' b;unfold TC;omega
 refine ⟨?_,tcs⟩
 refine R.step (fun _=>False) (fun i=>i=id) (fun _=>False) rfl R.df (fun t _=>⟨by simp,rfl⟩) (fun i hi=>⟨by simp [hi],rfl⟩) (Ext.refl _ _) (fun _ _ _ h=>h)
  (fun b _ _=>⟨rfl,rfl⟩) (fun b h=>h.elim) (fun b h=>h.elim) (fun b h=>h.elim) (fun t h=>h.elim)
  (fun i hi=>?_) (fun _ _ b=>?_) R.gz rfl rfl rfl (bT _)
 ·subst hi
  refine ⟨hid,?_,?_⟩
  ·simp only [aW,if_true]
   exact fun _=>⟨bU,h1,by rw [hl];exact h2,h3,hr⟩
  ·simp only [aW,if_true]
   intro st' Lm
   exact R.pf i st' (by rw [hb];exact Lm)
 ·have:=tcs b
  have:=hc b;have h1:=R.ct b;have h2:=R.cb b
  exact ⟨by omega,fun h=>h2 (by omega)⟩
theorem NV (HP:nS P E) (R:Rel E C s a w G pt) (hm:E.n≤C.m) (ho:∀ t,o.dst=some t→t<E.n) (T:Nat) (x:Operand) (aY:o.op = .load T x) {i:TI} (hi:E.T T=some i)
 {id st off st':Nat} {cs:List D} (hx:aV s x = .ptr id st off) (tV:get s (2*id+1) = .aI st' true cs)
 (h:(bif Nat.beq st st' && Nat.beq ((cs.drop off).take i.size).length i.size&&Nat.blt 0 i.size then
  (match tag E o with
  | 3=>match (cs.drop off).take i.size,o.dst with
   | [.sl f t l],some dst=>
    let st2:=aL (get s (2*dst+1))+1
    bif Nat.beq f 2&&Nat.blt 0 t.nc && !Nat.beq dst id && !i.agg then
     some (true,[(2*id+1,.aI st true (dL cs off [.fU dst st2])),(2*dst+1,.aX st2 true false t l),(2*dst,.fU dst st2)]) else none
   | [.fU a b],_=>bif i.agg then none else some (true,dN o (.fU a b))
   | _,_=>none
  | 1=>match mk1 i.agg ((cs.drop off).take i.size) with
   | some d=>some (true,(2*id+1,.aI st true (dL cs off (((cs.drop off).take i.size).map stripL)))::dN o d)
   | none=>none
  | _=>match mk1 i.agg (((cs.drop off).take i.size).map dD) with
   | some d=>some (true,(bif ((cs.drop off).take i.size).any Fa then [(2*id+1,.aI st true (dL cs off (((cs.drop off).take i.size).map bP)))] else [])++dN o d)
   | none=>none) else none)=some (true,u)):fB P E C o a w (au u s):=by
 cases hb:(Nat.beq st st' && Nat.beq ((cs.drop off).take i.size).length i.size&&Nat.blt 0 i.size) with
 | false=>simp only [hb,bJ,reduceCtorEq] at h
 | true=>
  simp only [hb,aQ] at h;simp only [dA] at hb;have gG:=fD hb.1.1;subst gG;have Il:=fD hb.1.2
  have uO:0<i.size:=by simpa [Nat.blt_eq] using hb.2
  have am9:off+i.size≤cs.length:=by simp at Il;omega
  have hT:=HP.ti _ _ hi;have Fz:=aJ R x;rw [hx] at Fz;obtain ⟨bR,hblk,hv⟩:=Fz;have hB:=R.bx id;rw [tV] at hB;obtain ⟨bU,h1,h2,h3,h4⟩:=hB rfl
  have xq:bU=bR:=by rw [h1] at hblk;simpa [bE] using hblk
  subst xq
  have bB:(execOp a.eval o).run P w = .ok (.value (NU i.agg i.size fun j=>aB w bU (off+j))) w:=
   Fy hT (fun j hj=>rA h2 (by omega)) aY hv
  have hid:=fT R (id:=id) (by rw [tV];simp)
  have c0:∀ b,cB s w pt b id=dh b (pt id st)+aM b cs (aB w bU):=fun b=>by simp only [cB,tV,gY,hblk,sw]
  split at h
  ·-- promote
   split at h
   ·rename_i f t l dst hds iN
    cases hg:(Nat.beq f 2&&Nat.blt 0 t.nc && !Nat.beq dst id && !i.agg) with
    | false=>simp [hg] at h
    | true=>
     simp only [hg,aQ,bn,gD,true_and] at h;simp only [dA,Bool.not_eq_true'] at hg;obtain ⟨⟨⟨Uf,Zq⟩,V6⟩,hg4⟩:=hg;have hf:=fD Uf;have fC:=zC5 V6;subst hf;subst h;have eU:i.size=1:=hT.one hg4;have lF:=h4.sub off i.size;rw [hds] at lF
     have gy:=(lF 0 (by simp)).1
     simp only [List.getElem_cons_zero,Nat.add_zero] at gy;obtain ⟨ad,n,c,uQ,hn,oN,kW⟩:=gy
     -- the box without its slice
     have qN:off+[D.undef].length≤cs.length:=by simp;omega
     have hrl:∀ d:D,dS 0 d (aB w bU off)=dS 0 d (aB w bU off):=fun _=>rfl
     obtain ⟨R1,tc1⟩:=R.Zp (cs':=dL cs off [.undef]) tV hblk (gZ qN) (h4.dL (fun j hj=>by
      have:j=0:=by simp at hj;exact hj
      subst this
      exact ⟨trivial,(h4 (off+0) (by omega)).2⟩) qN) (fun b=>by
      have:=jK (b:=b) (f:=aB w bU) qN
      have e0:aM b [D.undef] (fun j=>aB w bU (off+j))=0:=by
       show dS b .undef _+0=0
       cases aB w bU (off+0)<;>rfl
      omega)
     have hdt:=ho dst iN
     have hg0:get ((2*id+1,D.aI st true (dL cs off [.undef]))::s) (2*dst+1)=get s (2*dst+1):=by simp [fC]
     have atP:∀ b,dS b (.sl 2 t l) (aB w bU off)=dh b (some (aB w bU off)):=by
      intro b;rw [uQ]
      rcases kW with ⟨h5,_⟩ | ⟨b',h5,_⟩
      ·subst h5;simp [dh,bE,dS]
      ·subst h5;simp [dh,bE,dS]
     have tc2:∀ b,TC E.n C.m ((2*id+1,.aI st true (dL cs off [.undef]))::s) a w pt b+dS b (.sl 2 t l) (aB w bU off)=TC E.n C.m s a w pt b:=by
      intro b;have h5:=tc1 b;have h6:=jK (b:=b) (f:=aB w bU) qN
      have e0:aM b [D.undef] (fun j=>aB w bU (off+j))=0:=by
       show dS b .undef _+0=0
       cases aB w bU (off+0)<;>rfl
      have e1:aM b ((cs.drop off).take [D.undef].length) (fun j=>aB w bU (off+j))=dS b (.sl 2 t l) (aB w bU off):=by
       have:(cs.drop off).take [D.undef].length=[.sl 2 t l]:=by rw [←hds,eU];rfl
       rw [this];rfl
      omega
     have key:=R1.xY dst hdt hm (w':=w) (G':=G) (dB:=.aX (aL (get ((2*id+1,D.aI st true (dL cs off [.undef]))::s) (2*dst+1))+1) true false t l)
      (d':=.fU dst (aL (get ((2*id+1,D.aI st true (dL cs off [.undef]))::s) (2*dst+1))+1)) (pv:=aB w bU off) (v':=aB w bU off) (Ext.refl _ _) (fun _ _=>⟨rfl,rfl⟩)
      (by show bG _ _ _ _ _ _=_;simp [bG]) (fun b=>by cases aB w bU off<;>rfl)
      (fun _=>by
       simp only [xD,if_false];refine ⟨ad,n,c,?_,hn,oN,kW⟩
       simp [bG,uQ]) rfl
      (fun b=>by
       have e:gY w (bG pt dst (aL (get ((2*id+1,D.aI st true (dL cs off [.undef]))::s) (2*dst+1))+1) (aB w bU off)) b dst
        (.aX (aL (get ((2*id+1,D.aI st true (dL cs off [.undef]))::s) (2*dst+1))+1) true false t l)=dh b (some (aB w bU off)):=by
        simp [gY,bG]
       rw [e,←atP];have h5:=tc2 b;have h6:=R.ct b;have h7:=R.cb b
       exact ⟨by omega,fun h=>⟨by omega,h7 (by omega)⟩⟩)
      R.gz rfl rfl rfl (bT _)
     rw [hg0] at key;generalize aB6:aL (get s (2*dst+1))+1=st2 at key ⊢
     -- now the reference into the box
     have ana:get ((2*dst,D.fU dst st2)::(2*dst+1,.aX st2 true false t l)::(2*id+1,.aI st true (dL cs off [.undef]))::s) (2*id+1) = .aI st true (dL cs off [.undef]):=by
      simp [Ne.symm fC]
     have adS:∀ i j v,pt i j=some v→bG pt dst st2 (aB w bU off) i j=some v:=by
      intro i j v hv;unfold bG;rw [if_neg]
      ·exact hv
      ·rintro ⟨rfl,rfl⟩
       rw [R.pf i j (by omega)] at hv;cases hv
     have JC:bE (bG pt dst st2 (aB w bU off) id st)=some bU:=by
      have:bG pt dst st2 (aB w bU off) id st=pt id st:=by simp [bG,Ne.symm fC]
      rw [this];exact hblk
     have ahu:aP w G (bG pt dst st2 (aB w bU off)) (dL cs off [.undef]) (aB w bU):=by
      have:=key.bx id;rw [ana] at this;obtain ⟨b9,g1,_,_,g4⟩:=this rfl
      have:b9=bU:=by rw [g1] at JC;simpa [bE] using JC
      subst this;exact g4
     have hlu:(dL cs off [D.undef]).length=cs.length:=gZ qN
     have e9:dL (dL cs off [D.undef]) off [D.fU dst st2]=dL cs off [D.fU dst st2]:=by
      simp only [dL,zC7]
      have aT:(cs.take off).length=off:=by simp;omega
      rw [List.take_append_of_le_length (by omega),List.take_take,Nat.min_self]
      congr 2
      rw [List.drop_append,aT]
      simp only [show off+1 - off=1 by omega]
      rw [List.drop_eq_nil_of_le (by simp;omega)]
      simp
     obtain ⟨R3,_⟩:=key.Zp (cs':=dL cs off [.fU dst st2]) ana JC (by rw [hlu];exact gZ (by simp;omega)) (by
      rw [←e9]
      refine ahu.dL (fun j hj=>?_) (by simp;omega)
      have:j=0:=by simp at hj;exact hj
      subst this
      refine ⟨?_,(h4 (off+0) (by omega)).2⟩
      show bG pt dst st2 (aB w bU off) dst st2=some (aB w bU (off+0))
      simp [bG]) (fun b=>by
      rw [←e9]
      have h5:=jK (b:=b) (cs:=dL cs off [D.undef]) (ds:=[D.fU dst st2]) (f:=aB w bU) (off:=off) (by simp;omega)
      have e0:aM b [D.fU dst st2] (fun j=>aB w bU (off+j))=0:=by
       show dS b (.fU dst st2) _+0=0
       cases aB w bU (off+0)<;>rfl
      omega)
     -- the order of the changes
     have fin:Rel E C (au [(2*id+1,D.aI st true (dL cs off [D.fU dst st2])),(2*dst+1,D.aX st2 true false t l),(2*dst,D.fU dst st2)] s)
      (a.put (some dst) (aB w bU off)) w G (bG pt dst st2 (aB w bU off)):=by
      exact Rel.congr R3 (fun m=>am7 fC m)
     have ev:NU i.agg i.size (fun j=>aB w bU (off+j))=aB w bU off:=by rw [hg4];simp [NU]
     rw [ev] at bB
     exact ⟨_,w,G,_,.inl bB,by rw [iN];exact fin⟩
   ·rename_i _ a' b' hds
    cases JA:i.agg with
    | true=>simp [JA] at h
    | false=>
     simp only [JA,bJ,bn,gD,true_and] at h;subst h;have lF:=h4.sub off i.size;rw [hds] at lF
     have gy:=(lF 0 (by simp)).1
     simp only [List.getElem_cons_zero,Nat.add_zero] at gy
     refine ⟨_,w,G,pt,.inl bB,R.Fq o ho ?_ (fun b=>?_)⟩
     ·rw [JA];simp only [NU,bJ,Nat.add_zero];exact gy
     ·cases NU i.agg i.size (fun j=>aB w bU (off+j))<;>rfl
   ·cases h
  ·-- take
   split at h
   ·rename_i d hd
    simp only [bn,gD,true_and] at h;subst h
    ·have lF:=h4.sub off i.size
     obtain ⟨q1,q2⟩:=pY (n:=i.size) hd Il lF
     have qN:off+(((cs.drop off).take i.size).map stripL).length≤cs.length:=by rw [pJ,Il];exact am9
     obtain ⟨R1,tc1⟩:=R.Zp (cs':=dL cs off (((cs.drop off).take i.size).map stripL)) tV hblk (gZ qN) (h4.dL (lF.map fun _ _ h=>h.strip) qN) (fun b=>by
      have:=jK (b:=b) (f:=aB w bU) qN
      have e0:=jJ l8 b ((cs.drop off).take i.size) (fun j=>aB w bU (off+j))
      omega)
     have tc2:∀ b,TC E.n C.m ((2*id+1,.aI st true (dL cs off (((cs.drop off).take i.size).map stripL)))::s) a w pt b+dP b d (NU i.agg i.size fun j=>aB w bU (off+j))=TC E.n C.m s a w pt b:=by
      intro b;have h5:=tc1 b;have h6:=jK (b:=b) (f:=aB w bU) qN
      have e0:=jJ l8 b ((cs.drop off).take i.size) (fun j=>aB w bU (off+j))
      rw [pJ,Il] at h6;rw [q2];omega
     refine ⟨_,w,G,pt,.inl bB,R1.put o ho (fun _=>False) (Ext.refl _ _) (fun _ _ _=>⟨rfl,rfl⟩) (fun b h=>h.elim) q1 (fun b=>?_) R.gz rfl rfl rfl (bT _)⟩
     have h5:=tc2 b;have h6:=R.ct b;have h7:=R.cb b
     exact ⟨by omega,fun h=>⟨by omega,h7 (by omega)⟩⟩
   ·cases h
  ·-- view
   split at h
   ·rename_i d hd
    simp only [bn,gD,true_and] at h;subst h
    ·obtain ⟨G',ahv,e,JC,_,R1,Yq⟩:=R.QY id st off i.size tV am9
     have:ahv=bU:=by rw [hblk] at JC;injection JC with h;exact h.symm
     subst this
     obtain ⟨q1,q2⟩:=pY (n:=i.size) hd (by rw [pJ];exact Il) Yq.view
     have FB:∀ b,dP b d (NU i.agg i.size fun j=>aB w ahv (off+j))=0:=fun b=>by rw [q2];exact jJ ru b _ _
     rw [bg]
     cases hU:((cs.drop off).take i.size).any Fa with
     | true=>
      simp only [aQ];exact ⟨_,w,G',pt,.inl bB,R1.Fq o ho q1 FB⟩
     | false=>
      simp only [bJ];have NW:=zP _ hU
      have h5:aP w G pt ((cs.drop off).take i.size) (fun j=>aB w ahv (off+j)):=h4.sub off i.size
      rw [←NW] at h5
      obtain ⟨q3,_⟩:=pY (n:=i.size) hd (by rw [pJ];exact Il) h5.view
      exact ⟨_,w,G,pt,.inl bB,R.Fq o ho q3 FB⟩
   ·cases h
end
theorem FC (t:Ty) (l:List t.den) (h1:t.nc=1):∀ j (h:j<(l.flatMap (enc t)).length),∃ (h':j<l.length) (h'':0<(enc t l[j]).length),(l.flatMap (enc t))[j]=(enc t l[j])[0]:=by
 induction l with
 | nil=>intro j h;simp at h
 | cons x l ih=>
  intro j h
  have hx:(enc t x).length=1:=by rw [jZ,h1]
  match j,h with
  | 0,h=>
   refine ⟨by simp,by simp [hx],?_⟩
   simp only [List.flatMap_cons,List.getElem_cons_zero]
   exact List.getElem_append_left (by omega)
  | j+1,h=>
   simp only [List.flatMap_cons,nP,hx] at h
   obtain ⟨h',h'',e⟩:=ih j (by omega)
   refine ⟨by simpa using h',by simpa using h'',?_⟩
   simp only [List.flatMap_cons,List.getElem_cons_succ]
   rw [List.getElem_append_right (by omega)]
   simp only [hx,Nat.add_sub_cancel];exact e
theorem rD (t:Ty) (l:List t.den) (h1:t.nc=1):(l.flatMap (enc t)).length=l.length:=by
 induction l with
 | nil=>rfl
 | cons x l ih=>simp only [List.flatMap_cons,nP,jZ,h1,ih,lD];omega
section
variable {P:Program} {E:Env} {C:Ctx} {s:St} {a:Act} {w:World} {G:Nat→Nat} {pt:Nat→Nat→Option Value} {o:Oper} {u:St}
theorem bF.one {d:D} {v:Value} (h:bF w G pt d v) (hd:d≠.undef) (hp:(∀ id st,d≠.fU id st)∧∀ k l,d≠.av k l):v.oneCell' = true:=by
 cases d with
 | undef=>exact absurd rfl hd
 | bool b=>rw [show v = .bool b from h];rfl
 | int k n=>rw [h.1];rfl
 | str l=>obtain ⟨s,h,_⟩:=h;rw [h];rfl
 | lS=>rw [show v = .slice none 0 0 from h];rfl
 | sl f t l=>obtain ⟨a,n,c,h,_⟩:=h;rw [h];rfl
 | ptr id st off=>obtain ⟨b,_,h⟩:=h;rw [h];rfl
 | uE id st i off es=>obtain ⟨b,_,h⟩:=h;rw [h];rfl
 | BF g off=>rw [show v = .pointer (some ⟨g,off,none⟩) from h];rfl
 | jQ t l i off=>obtain ⟨b,o,h,_⟩:=h;rw [h];rfl
 | csl t l=>obtain ⟨a,n,h,_⟩:=h;rw [h];rfl
 | fU id st=>exact absurd rfl (hp.1 id st)
 | av k l=>exact absurd rfl (hp.2 k l)
 | vpa k l=>obtain ⟨b,o,h,_⟩:=h;rw [h];rfl
 | BG f=>rw [show v = .func (.func f) #[] #[] from h];rfl
 | iF f t x=>obtain ⟨b,o,h,_⟩:=h;rw [h];rfl
 | VO id st nc o n=>obtain ⟨ad,m,c,ad',c',_,h,_⟩:=h;rw [h];rfl
 | Jr id st n=>rcases h.1 with ⟨b,c,_,h⟩ | ⟨_,h⟩<;>rw [h]<;>rfl
 | _=>exact absurd h id
theorem rE:∀ (t:Ty) (x:t.den),∀ d∈enc t x,d≠.undef∧(∀ id st,d≠.fU id st)∧∀ k l,d≠.av k l
 | .int _,_,d,h=>by simp [enc] at h;subst h;simp
 | .bool,_,d,h=>by simp [enc] at h;subst h;simp
 | .str,_,d,h=>by simp [enc] at h;subst h;simp
 | .sl _,_,d,h=>by simp [enc] at h;subst h;simp
 | .unit,_,d,h=>by simp [enc] at h
 | .cons a b,x,d,h=>by
  have e:enc (.cons a b) x=enc a x.1++enc b x.2:=rfl;rw [e,pV] at h
  rcases h with h | h
  ·exact rE a x.1 d h
  ·exact rE b x.2 d h
 | .st _ c,x,d,h=>rE c x d h
 | .iF _ _,_,d,h=>by simp [enc] at h;subst h;simp
theorem FD {t:Ty} {x:t.den} {b o:Nat} (h:dK w G t x b o) (off n:Nat) (hn:off+n≤t.nc) :
 aP w G pt (((enc t x).drop off).take n) (fun j=>aB w b (o+off+j))∧(((enc t x).drop off).take n).length=n ∧
  (∀ j,j<n→w.cell? ⟨b,o+off+j,none⟩=some (aB w b (o+off+j)))∧∀ c,aM c (((enc t x).drop off).take n) (fun j=>aB w b (o+off+j))=0:=by
 have hl:(((enc t x).drop off).take n).length=n:=by rw [List.length_take,List.length_drop,jZ];omega
 have key:∀ j,j<n→∃ (h:off+j<(enc t x).length),w.cell? ⟨b,o+off+j,none⟩=some (aB w b (o+off+j))∧bF w G pt (enc t x)[off+j] (aB w b (o+off+j))∧∀ c,dS c (enc t x)[off+j] (aB w b (o+off+j))=0:=by
  intro j hj
  have aT:off+j<(enc t x).length:=by rw [jZ];omega
  obtain ⟨v,h1,h2,h3⟩:=wh pt h (off+j) aT;rw [←Nat.add_assoc] at h1
  have e:aB w b (o+off+j)=v:=by simp [aB,h1]
  rw [e];exact ⟨aT,h1,h2,h3⟩
 refine ⟨fun j hj=>?_,hl,fun j hj=>(key j hj).2.1,fun c=>?_⟩
 ·have nR:j<n:=by omega
  obtain ⟨aT,_,h2,_⟩:=key j nR
  have e:(((enc t x).drop off).take n)[j]=(enc t x)[off+j]:=by simp
  rw [e];have hm:=rE t x _ (zG aT);exact ⟨h2,h2.one hm.1 hm.2⟩
 ·have BS:∀ (ds:List D) (f:Nat→Value),(∀ j (h:j<ds.length),dS c ds[j] (f j)=0)→aM c ds f=0:=by
   intro ds
   induction ds with
   | nil=>intro f _;rfl
   | cons d ds ih=>
    intro f hf;simp only [aM]
    rw [ih (fun i=>f (i+1)) (fun j h=>by have:=hf (j+1) (by simpa using h);exact this)]
    have:=hf 0 (by simp)
    simpa using this
  refine BS _ _ fun j hj=>?_
  obtain ⟨aT,_,_,h3⟩:=key j (by omega)
  have e:(((enc t x).drop off).take n)[j]=(enc t x)[off+j]:=by simp
  rw [e];exact h3 c
theorem wB (R:Rel E C s a w G pt) {id st bR:Nat} {ar:Bool} {t:Ty} {l:List t.den} (hb:get s (2*id+1) = .aX st true ar t l) (hblk:bE (pt id st)=some bR) :
 fA w G t l bR 0∧Room w bR (l.length*t.nc)∧G bR=0:=by
 have hB:=R.bx id;rw [hb] at hB;have hB:=hB rfl
 cases ar with
 | true=>
  simp only [if_true] at hB;obtain ⟨b,h1,h2,h3,h4⟩:=hB
  have:b=bR:=by rw [h1] at hblk;simpa [bE] using hblk
  subst this;exact ⟨h4,h2,h3⟩
 | false=>
  simp only [xD,if_false] at hB;obtain ⟨ad,n,c,h1,h2,h3,h4⟩:=hB
  rcases h4 with ⟨h5,_⟩ | ⟨b,h5,h6,h7,h8,h9,QF⟩
  ·subst h5;rw [h1] at hblk;simp [bE] at hblk
  ·subst h5
   have:b=bR:=by rw [h1] at hblk;simpa [bE] using hblk
   subst this;obtain ⟨cur,e,fr,g1,g2,g3⟩:=h7;exact ⟨h9,⟨cur,e,fr,g1,gX (zF _ h8) g2,g3⟩,h6⟩
theorem Zr {t:Ty} {l:List t.den} {b o:Nat} (Im:t.nc=1) (hE:fA w G t l b o) :
 (∀ j (h:j<(l.flatMap (enc t)).length),bF w G pt (l.flatMap (enc t))[j] (aB w b (o+j))∧(aB w b (o+j)).oneCell' = true∧∀ c,dS c (l.flatMap (enc t))[j] (aB w b (o+j))=0) ∧
 (∀ c,aM c (l.flatMap (enc t)) (fun j=>aB w b (o+j))=0)∧∀ j,j<l.length→w.cell? ⟨b,o+j,none⟩=some (aB w b (o+j)):=by
 have hfl:=rD t l Im
 have key:∀ j (h:j<(l.flatMap (enc t)).length),w.cell? ⟨b,o+j,none⟩=some (aB w b (o+j))∧bF w G pt (l.flatMap (enc t))[j] (aB w b (o+j))∧(aB w b (o+j)).oneCell' = true∧∀ c,dS c (l.flatMap (enc t))[j] (aB w b (o+j))=0:=by
  intro j hj;obtain ⟨h',h'',e⟩:=FC t l Im j hj;obtain ⟨v,p1,p2,p3⟩:=wh pt (hE j h') 0 h''
  rw [show o+j*t.nc+0=o+j by rw [Im];omega] at p1
  have e2:aB w b (o+j)=v:=by simp only [aB,p1];rfl
  rw [e,e2];have hm:=rE t l[j] _ (zG h'');exact ⟨p1,p2,p2.one hm.1 hm.2,p3⟩
 refine ⟨fun j h=>(key j h).2,fun c=>?_,fun j h=>(key j (by omega)).1⟩
 have BS:∀ (ds:List D) (f:Nat→Value),(∀ j (h:j<ds.length),dS c ds[j] (f j)=0)→aM c ds f=0:=by
  intro ds
  induction ds with
  | nil=>intro f _;rfl
  | cons d ds ih=>
   intro f hf;simp only [aM]
   rw [ih (fun i=>f (i+1)) (fun j h=>by have:=hf (j+1) (by simpa using h);exact this)]
   have:=hf 0 (by simp)
   simpa using this
 exact BS _ _ fun j hj=>(key j hj).2.2.2 c
theorem NY (k:IntKind):∀ l:List Int,l.flatMap (enc (.int k))=l.map (D.int k)
 | []=>rfl
 | x::r=>by rw [List.flatMap_cons,jy,NY k r];rfl
theorem ane {k:IntKind} {l:List Int} {v:Value} (h:aU w G pt (.agg (l.flatMap (enc (.int k)))) v):bF w G pt (.av k l) v:=by
 obtain ⟨arr,h1,h2,h3⟩:=h;rw [NY] at h2 h3
 refine ⟨arr,h1,by simpa using h2,fun j hj=>?_⟩
 have:=(h3 j (by simpa using hj)).1
 simp only [List.getElem_map] at this;exact this
theorem Zt {n:Nat}:∀ {t:Ty} {l:List t.den} {v:Value},aU w G pt (.agg (l.flatMap (enc t))) v→aU w G pt (YX n t l) v
 | .int k,l,v,h=>by
  unfold YX
  cases Nat.blt 64 n with
  | true=>exact ane h
  | false=>exact h
 | .bool,_,_,h | .str,_,_,h | .sl _,_,_,h | .unit,_,_,h | .cons _ _,_,_,h | .st _ _,_,_,h | .iF _ _,_,_,h=>h
theorem ahx {b:Nat} {k:IntKind} {l:List Int} (v:Value):dP b (.av k l) v=0:=by cases v<;>rfl
theorem adU {n b:Nat} {v:Value}:∀ {t:Ty} {l:List t.den},dP b (.agg (l.flatMap (enc t))) v=0→dP b (YX n t l) v=0
 | .int k,l,h=>by
  unfold YX
  cases Nat.blt 64 n with
  | true=>exact ahx v
  | false=>exact h
 | .bool,_,h | .str,_,h | .sl _,_,h | .unit,_,h | .cons _ _,_,h | .st _ _,_,h | .iF _ _,_,h=>h
theorem Ug (HP:nS P E) (R:Rel E C s a w G pt) (hm:E.n≤C.m) (ho:∀ t,o.dst=some t→t<E.n) (T:Nat) (x:Operand) (aY:o.op = .load T x)
 (h:Df E o s T x=some (true,u)):fB P E C o a w (au u s):=by
 have Fz:=aJ R x;simp only [Df] at h;split at h
 ·rename_i i hi
  have hT:=HP.ti _ _ hi;split at h
  ·rename_i id st off hx
   split at h
   ·rename_i st' cs tV
    exact NV HP R hm ho T x aY hi hx tV h
   ·cases h
  ·rename_i id st i0 off es hx
   rw [hx] at Fz;obtain ⟨bR,hblk,hv⟩:=Fz;split at h
   ·rename_i st' ar t l tV
    cases JA:(i.agg&&Nat.beq t.nc 1&&Nat.blt 1 i.size) with
    | true=>simp only [JA,aQ,reduceCtorEq] at h
    | false=>
    simp only [JA,bJ] at h;split at h
    ·rename_i d hd
     cases hb:(Nat.beq st st' && Nat.beq es t.nc&&Nat.ble (off+i.size) t.nc) with
     | false=>simp only [hb,bJ,reduceCtorEq] at h
     | true=>
      simp only [hb,aQ,bn,gD] at h;simp only [dA] at hb;obtain ⟨⟨nI,ku⟩,Lp⟩:=hb;have gG:=fD nI;have hes:=fD ku;have hle:=Ii Lp;subst gG;subst hes;obtain ⟨aT,rfl⟩:=h
      have aT:i0<l.length:=by simpa [Nat.blt_eq] using aT
      obtain ⟨g1,g2,g3⟩:=wB R tV hblk
      have e:l.getD i0 t.dflt=l[i0]:=by simp [aT]
      rw [e] at hd;obtain ⟨q1,q2,q3,q4⟩:=FD (pt:=pt) (g1 i0 aT) off i.size hle;obtain ⟨r1,r2⟩:=pY (n:=i.size) hd q2 q1;rw [Nat.zero_add] at q3 r1 r2 q4
      have bB:=Fy (P:=P) (w:=w) (a:=a) hT (b:=bR) (off:=i0*t.nc+off) (f:=fun j=>aB w bR (i0*t.nc+off+j)) q3 aY hv
      exact pure_ok R ho bB r1 (fun b=>by rw [r2];exact q4 b)
    ·cases h
   ·cases h
  ·rename_i t l i0 off hx
   rw [hx] at Fz;obtain ⟨bR,ob,hv,aT,hG,hE⟩:=Fz;split at h
   ·rename_i d hd
    cases hb:Nat.ble (off+i.size) t.nc with
    | false=>simp only [hb,bJ,reduceCtorEq] at h
    | true=>
     simp only [hb,aQ,bn,gD,true_and] at h;subst h;have hb:=Ii hb
     have e:l.getD i0 t.dflt=l[i0]:=by simp [aT]
     rw [e] at hd;obtain ⟨q1,q2,q3,q4⟩:=FD (pt:=pt) (hE i0 aT) off i.size hb;obtain ⟨r1,r2⟩:=pY (n:=i.size) hd q2 q1
     have bB:=Fy (P:=P) (w:=w) (a:=a) hT (b:=bR) (off:=ob+i0*t.nc+off) (f:=fun j=>aB w bR (ob+i0*t.nc+off+j)) q3 aY hv
     exact pure_ok R ho bB r1 (fun b=>by rw [r2];exact q4 b)
   ·cases h
  ·cases h
 ·cases h
end
theorem JD:∀ (l:List Value) (st off:Nat) (cs:Array Value),off+st+l.length≤cs.size →
 ((l.zipIdx st).foldl (fun cs (c,j)=>cs.setIfInBounds (off+j) c) cs).size=cs.size ∧
 ∀ k,aS ((l.zipIdx st).foldl (fun cs (c,j)=>cs.setIfInBounds (off+j) c) cs) k=if off+st≤k∧k<off+st+l.length then l.getD (k - (off+st)) undef else aS cs k
 | [],st,off,cs,h=>⟨rfl,fun k=>by rw [if_neg (by simp)];rfl⟩
 | v::l,st,off,cs,h=>by
  simp only [lD] at h
  obtain ⟨h1,h2⟩:=JD l (st+1) off (cs.setIfInBounds (off+st) v) (by simp;omega)
  simp only [List.zipIdx_cons,List.foldl_cons]
  refine ⟨by rw [h1];simp,fun k=>?_⟩
  rw [h2 k];simp only [lD]
  by_cases hk:off+(st+1)≤k∧k<off+(st+1)+l.length
  ·rw [if_pos hk,if_pos (by omega)]
   rw [show k - (off+st)=(k - (off+(st+1)))+1 by omega,List.getD_cons_succ]
  ·rw [if_neg hk]
   by_cases lX:k=off+st
   ·rw [if_pos (by omega),lX]
    simp [aS,xE,show off+st<cs.size by omega]
   ·rw [if_neg (by omega)]
    simp [aS,xE,Ne.symm lX]
theorem Zu (off:Nat) (v:Value) (cs:Array Value) (h:off+v.cells.size≤cs.size) :
 (v.cells.zipIdx.foldl (fun cs (c,j)=>cs.setIfInBounds (off+j) c) cs).size=cs.size ∧
 ∀ k,aS (v.cells.zipIdx.foldl (fun cs (c,j)=>cs.setIfInBounds (off+j) c) cs) k=if off≤k∧k<off+v.cells.size then aS v.cells (k - off) else aS cs k:=by
 have e:v.cells.zipIdx.foldl (fun cs (c,j)=>cs.setIfInBounds (off+j) c) cs=(v.cells.toList.zipIdx 0).foldl (fun cs (c,j)=>cs.setIfInBounds (off+j) c) cs:=by
  rw [←Array.foldl_toList,Array.toList_zipIdx]
 rw [e]
 obtain ⟨h1,h2⟩:=JD v.cells.toList 0 off cs (by simpa using h)
 refine ⟨h1,fun k=>?_⟩
 rw [h2 k];simp only [Nat.add_zero,Array.length_toList]
 by_cases hk:off≤k∧k<off+v.cells.size
 ·rw [if_pos hk,if_pos hk];simp [aS,xE,iW]
 ·rw [if_neg hk,if_neg hk]
section
variable {P:Program} {E:Env} {C:Ctx} {s:St} {a:Act} {w:World} {G:Nat→Nat} {pt:Nat→Nat→Option Value} {o:Oper} {u:St}
theorem sH {d:D} {v:Value} (h:aU w G pt d v) (hd:iK d=true) :
 aP w G pt (leaves d) (aS v.cells)∧v.cells.size=(leaves d).length∧∀ b,aM b (leaves d) (aS v.cells)=dP b d v:=by
 have leaf:∀ d',bF w G pt d' v→d'≠.undef→((∀ id st,d'≠.fU id st)∧∀ k l,d'≠.av k l)→(∀ b,dP b d' v=dS b d' v)→leaves d' = [d'] →
  aP w G pt (leaves d') (aS v.cells)∧v.cells.size=(leaves d').length∧∀ b,aM b (leaves d') (aS v.cells)=dP b d' v:=by
  intro d' h1 h2 h3 h4 h5;have ho:=h1.one h2 h3
  have hv:v.cells = #[v]:=by cases v<;>first | rfl | simp [Value.oneCell'] at ho
  rw [hv,h5]
  refine ⟨fun j hj=>?_,rfl,fun b=>by rw [h4];show dS b d' (aS #[v] 0)+0=_;rfl⟩
  have:j=0:=by simpa using hj
  subst this;exact ⟨h1,ho⟩
 cases d with
 | agg cs=>
  obtain ⟨arr,rfl,h2,h3⟩:=h
  exact ⟨h3,h2,fun _=>rfl⟩
 | undef=>simp [iK] at hd
 | fU a b=>simp [iK] at hd
 | Jr a b c=>simp [iK] at hd
 | VO a b c d e=>simp [iK] at hd
 | BG a=>simp [iK] at hd
 | av a b=>simp [iK] at hd
 | vpa a b=>simp [iK] at hd
 | iJ a=>simp [iK] at hd
 | fn f a=>simp [iK] at hd
 | aI a b c=>simp [iK] at hd
 | aX a b c d e=>simp [iK] at hd
 | _=>exact leaf _ h (by simp) (by simp) (fun b=>by cases v<;>rfl) rfl
theorem adV {z ds:List D} {f:Nat→Value} (h:aP w G pt ds f):aP w G pt (fit z ds) f∧(fit z ds).length=ds.length∧∀ b,aM b (fit z ds) f=aM b ds f:=by
 unfold fit;split
 ·split
  ·rename_i f' t l
   cases hb:Nat.ble f' 2 with
   | false=>exact ⟨h,rfl,fun _=>rfl⟩
   | true=>
    have hb:=Ii hb
    have h0:=h 0 (by simp)
    have hv:f 0 = .slice none 0 0:=h0.1
    refine ⟨fun j hj=>?_,rfl,fun b=>?_⟩
    ·have:j=0:=by simpa using hj
     subst this;refine ⟨?_,h0.2⟩;show bF w G pt (.sl f' t []) (f 0);rw [hv]
     refine ⟨none,0,0,rfl,rfl,by simp,?_⟩
     match f',hb with
     | 0,_=>exact ⟨by simp,.inl rfl⟩
     | 1,_=>exact .inl ⟨rfl,rfl,rfl⟩
     | 2,_=>exact .inl ⟨rfl,rfl,rfl⟩
    ·simp only [aM,aQ,hv];rfl
  ·exact ⟨h,rfl,fun _=>rfl⟩
 ·exact ⟨h,rfl,fun _=>rfl⟩
def DZ (s:St) (a:Act) (f:D→D) (b:Nat):List (Nat×Operand)→Nat
 | []=>0
 | (_,x)::r=>dP b (f (aV s x)) (a.eval x)+DZ s a f b r
theorem FE (pl:Nat→Option (Nat×Nat)) (f:D→D) (hf:∀ d,iK d=true→iK (f d)=true) :
 ∀ (parts:List (Nat×Operand)) (cs:List D) (cells:Array Value) {cs':List D},(∀ p∈parts,aU w G pt (f (aV s p.2)) (a.eval p.2)) →
  aP w G pt cs (aS cells)→cells.size=cs.length→iC pl s f cs parts=some cs' →
  ∃ oP,Instr.fill pl cells (parts.map fun p=>(p.1,a.eval p.2))=some oP∧oP.size=cs'.length∧aP w G pt cs' (aS oP) ∧
   cs'.length=cs.length∧∀ b,aM b cs' (aS oP)≤aM b cs (aS cells)+DZ s a f b parts
 | [],cs,cells,cs',_,hr,hs,h=>by
  simp only [iC,bn] at h;subst h
  exact ⟨cells,rfl,hs,hr,rfl,fun b=>by simp [DZ]⟩
 | (j,x)::r,cs,cells,cs',hp,hr,hs,h=>by
  simp only [iC] at h;split at h
  ·rename_i off sz hpl
   cases hb:(iK (aV s x)&&Nat.beq (fit ((cs.drop off).take sz) (leaves (f (aV s x)))).length sz&&Nat.ble (off+sz) cs.length) with
   | false=>simp only [hb,bJ,reduceCtorEq] at h
   | true=>
    simp only [hb,aQ] at h;simp only [dA] at hb;obtain ⟨⟨nI,ku⟩,Lp⟩:=hb;have ku:=fD ku;have Lp:=Ii Lp
    have QZ:aU w G pt (f (aV s x)) (a.eval x):=hp (j,x) (by simp)
    obtain ⟨q1,q2,q3⟩:=sH QZ (hf _ nI);obtain ⟨g1,g2,g3⟩:=adV (z:=(cs.drop off).take sz) q1
    have Q5:(a.eval x).cells.size=sz:=by rw [q2,←g2,ku]
    obtain ⟨e1,e2⟩:=Zu off (a.eval x) cells (by omega)
    generalize zI:(a.eval x).cells.zipIdx.foldl (fun cs (c,j)=>cs.setIfInBounds (off+j) c) cells=bA at e1 e2
    have hl:off+(fit ((cs.drop off).take sz) (leaves (f (aV s x)))).length≤cs.length:=by omega
    have hold:aP w G pt cs (aS cells):=hr
    have Nf:aP w G pt (dL cs off (fit ((cs.drop off).take sz) (leaves (f (aV s x))))) (aS bA):=by
     intro k hk;obtain ⟨t1,t2⟩:=rC hl hk;rw [e2 k]
     by_cases BD:off≤k∧k<off+(fit ((cs.drop off).take sz) (leaves (f (aV s x)))).length
     ·rw [t1 BD (by omega),if_pos (by omega)]
      exact g1 (k - off) (by omega)
     ·have hkc:k<cs.length:=by rw [gZ hl] at hk;exact hk
      rw [t2 BD hkc,if_neg (by omega)]
      exact hold k hkc
    have hct:∀ b,aM b (dL cs off (fit ((cs.drop off).take sz) (leaves (f (aV s x))))) (aS bA)≤aM b cs (aS cells)+dP b (f (aV s x)) (a.eval x):=by
     intro b
     have aT:(cs.take off).length=off:=by simp;omega
     have h1:cs=cs.take off++((cs.drop off).take sz++cs.drop (off+sz)):=by
      rw [←List.drop_drop,List.take_append_drop,List.take_append_drop]
     have hlm:((cs.drop off).take sz).length=sz:=by simp;omega
     have a1:aM b cs (aS cells)=aM b (cs.take off) (aS cells)+(aM b ((cs.drop off).take sz) (fun j=>aS cells (off+j))+aM b (cs.drop (off+sz)) (fun j=>aS cells (off+(sz+j)))):=by
      conv=>lhs;rw [h1]
      rw [iB,iB,aT,hlm]
     simp only [dL,iB,aT,ku]
     have b1:aM b (cs.take off) (aS bA)=aM b (cs.take off) (aS cells):=
      iR fun k hk=>by rw [e2,if_neg (by omega)]
     have b2:aM b (fit ((cs.drop off).take sz) (leaves (f (aV s x)))) (fun j=>aS bA (off+j))=dP b (f (aV s x)) (a.eval x):=by
      rw [←q3,←g3]
      exact iR fun k hk=>by rw [e2,if_pos (by omega)];congr 1;omega
     have b3:aM b (cs.drop (off+sz)) (fun j=>aS bA (off+(sz+j)))=aM b (cs.drop (off+sz)) (fun j=>aS cells (off+(sz+j))):=
      iR fun k hk=>by rw [e2,if_neg (by omega)]
     omega
    obtain ⟨oP,f1,f2,f3,f4,f5⟩:=FE pl f hf r _ _ (fun p NZ=>hp p (by simp [NZ])) Nf (by rw [e1,gZ hl];exact hs) h
    refine ⟨oP,?_,f2,f3,by rw [f4,gZ hl],fun b=>?_⟩
    ·have anf:(decide ((a.eval x).cells.size≠sz) || decide (off+(a.eval x).cells.size > cells.size))=false:=by
      simp only [Bool.or_eq_false_iff,decide_eq_false_iff_not];omega
     simp only [jy,Instr.fill,hpl];rw [anf,zI];exact f1
    ·have:=f5 b
     have:=hct b;simp only [DZ];omega
  ·cases h
theorem zW {s s1:St} {f:D→D} {h:D→Bool}:∀ (parts:List (Nat×Operand)),(∀ t,tmpsOf parts t=true→get s1 (2*t)=get s (2*t))→iy s1 f h parts=iy s f h parts
 | [],_=>rfl
 | (j,x)::r,hq=>by
  simp only [iy]
  rw [zW r fun t ht=>hq t (by simp only [tmpsOf,Bool.or_eq_true];exact .inr ht)]
  congr 1
  cases x with
  | tmp t=>simp only [dU];rw [hq t (by simp [tmpsOf,TS])]
  | _=>rfl
theorem Dh {s s1:St}:∀ (parts:List (Nat×Operand)),(∀ t,tmpsOf parts t=true→get s1 (2*t)=get s (2*t))→nN s1 parts=nN s parts
 | [],_=>rfl
 | (j,x)::r,hq=>by
  have ih:=Dh r fun t ht=>hq t (by simp only [tmpsOf,Bool.or_eq_true];exact .inr ht)
  cases x with
  | tmp t=>simp only [nN];rw [ih,hq t (by simp [tmpsOf,TS])]
  | _=>simp only [nN];exact ih
theorem FH {s s1:St} {f:D→D} (b:Nat):∀ (parts:List (Nat×Operand)),(∀ t,tmpsOf parts t=true→get s1 (2*t)=get s (2*t))→DZ s1 a f b parts=DZ s a f b parts
 | [],_=>rfl
 | (j,x)::r,hq=>by
  simp only [DZ]
  rw [FH b r fun t ht=>hq t (by simp only [tmpsOf,Bool.or_eq_true];exact .inr ht)]
  congr 1
  cases x with
  | tmp t=>simp only [aV];rw [hq t (by simp [tmpsOf,TS])]
  | _=>rfl
theorem Rel.N7:∀ (parts:List (Nat×Operand)) {s:St},Rel E C s a w G pt→nN s parts=true →
 Rel E C (au (iy s strip gN parts) s) a w G pt∧∀ b,TC E.n C.m (au (iy s strip gN parts) s) a w pt b+DZ s a (fun d=>d) b parts=TC E.n C.m s a w pt b
 | [],s,R,_=>⟨R,fun b=>rfl⟩
 | (j,x)::r,s,R,hn=>by
  obtain ⟨R1,t1⟩:=R.qE x;simp only [iy,bg]
  have NW:∀ t,tmpsOf r t=true→get (au (dU s x strip gN) s) (2*t)=get s (2*t):=by
   intro t ht
   cases x with
   | tmp t0=>
    simp only [nN,dA,Bool.or_eq_true,Bool.not_eq_true'] at hn;simp only [dU]
    cases hX:gN (get s (2*t0)) with
    | false=>rfl
    | true=>
     have hnr:=hn.1.resolve_left (by simp [hX])
     simp only [aQ,au,dQ];rw [if_neg];intro hte;subst hte;rw [hnr] at ht;cases ht
   | _=>rfl
  have hn2:nN s r=true:=by
   cases x with
   | tmp t0=>simp only [nN,dA] at hn;exact hn.2
   | _=>exact hn
  obtain ⟨R2,t2⟩:=Rel.N7 r R1 (by rw [Dh r NW];exact hn2)
  rw [zW r NW] at R2 t2
  refine ⟨R2,fun b=>?_⟩
  have h1:=t1 b;have h2:=t2 b;rw [FH b r NW] at h2;simp only [DZ];omega
theorem JE (HP:nS P E):∀ (l:List Field),(l.all fun (f:Field)=>(E.T f.type).isSome)=true →
 ∃ Q6,l.mapM (fun (f:Field)=>(P.info? f.type).map fun i=>(f.offset,i.size))=some Q6∧Q6.length=l.length ∧
  ∀ (j:Nat) (f:Field),l[j]? = some f→∃ fi,E.T f.type=some fi∧Q6[j]? = some (f.offset,fi.size)
 | [],_=>⟨[],by simp,rfl,fun j f h=>by simp at h⟩
 | f::l,h=>by
  simp only [List.all_cons,dA] at h;obtain ⟨fi,hfi⟩:=Option.isSome_iff_exists.1 h.1;obtain ⟨pi,z,p1,p2,_⟩:=(HP.ti _ _ hfi).info;obtain ⟨pl,q1,q2,q3⟩:=JE HP l h.2
  refine ⟨(f.offset,pi.size)::pl,by simp [List.mapM_cons,p1,q1],by simp [q2],fun j g hj=>?_⟩
  match j,hj with
  | 0,hj=>
   simp only [List.getElem?_cons_zero,bn] at hj;subst hj
   exact ⟨fi,hfi,by simp [p2]⟩
  | j+1,hj=>simpa using q3 j g (by simpa using hj)
theorem Zv (HP:nS P E) (R:Rel E C s a w G pt) (ho:∀ t,o.dst=some t→t<E.n) (T:Nat) (parts:Array (Nat×Operand)) (aY:o.op = .build T parts)
 (h:BI E o s T parts.toList=some (true,u)):fB P E C o a w (au u s):=by
 simp only [BI] at h;split at h
 ·rename_i i hi
  have hT:=HP.ti _ _ hi;obtain ⟨pi,z,p1,p2,p3,p4,p5,p6,p7,p8⟩:=hT.info;split at h
  ·rename_i cs Uh
   cases hb:(nN s parts.toList&&uF E i) with
   | false=>simp only [hb,bJ,reduceCtorEq] at h
   | true=>
    simp only [hb,aQ,bn,gD,true_and] at h;subst h;simp only [dA] at hb;obtain ⟨nI,ku⟩:=hb
    have hz:aP w G pt i.zero (aS z.cells):=fun j hj=>⟨(p8 j hj).1 w G pt,p7 j (by omega)⟩
    have Lr:∀ b,aM b i.zero (aS z.cells)=0:=by
     intro b
     have BS:∀ (ds:List D) (f:Nat→Value),(∀ j (h:j<ds.length),dS b ds[j] (f j)=0)→aM b ds f=0:=by
      intro ds
      induction ds with
      | nil=>intro f _;rfl
      | cons d ds ih=>
       intro f hf;simp only [aM]
       rw [ih (fun i=>f (i+1)) (fun j h=>by have:=hf (j+1) (by simpa using h);exact this)]
       have:=hf 0 (by simp)
       simpa using this
     exact BS _ _ fun j hj=>(p8 j hj).2 b
    obtain ⟨cells,f1,f2,f3,f4,f5⟩:=FE (w:=w) (G:=G) (pt:=pt) (a:=a) (partAt E i) (fun d=>d) (fun _ h=>h) parts.toList i.zero z.cells (fun p _=>aJ R p.2) hz (by omega) Uh
    have ahA:P.built T (parts.map fun (i,x)=>(i,a.eval x)).toList=some cells:=by
     have e:(parts.map fun (i,x)=>(i,a.eval x)).toList=parts.toList.map fun p=>(p.1,a.eval p.2):=by simp
     rw [e];unfold Program.built;rw [p1,hT.und];unfold uF at ku
     have ang:∀ pl:Nat→Option (Nat×Nat),(∀ p∈parts.toList,∀ q,partAt E i p.1=some q→pl p.1=some q) →
      ∀ (l:List (Nat×Operand)) (cs cs':List D) (cells oP:Array Value),(∀ p∈l,p∈parts.toList)→iC (partAt E i) s (fun d=>d) cs l=some cs'→Instr.fill (partAt E i) cells (l.map fun p=>(p.1,a.eval p.2))=some oP →
       Instr.fill pl cells (l.map fun p=>(p.1,a.eval p.2))=some oP:=by
      intro pl hpl l
      induction l with
      | nil=>intro cs cs' cells oP _ _ h;exact h
      | cons p l ih=>
       intro cs cs' cells oP lG hp hf;obtain ⟨j,x⟩:=p;simp only [iC] at hp
       cases hq:partAt E i j with
       | none=>simp [hq] at hp
       | some q=>
        obtain ⟨off,sz⟩:=q;simp only [hq] at hp
        have:=hpl (j,x) (lG _ (by simp)) _ hq
        simp only [jy,Instr.fill,hq,this] at hf ⊢;split at hf
        ·cases hf
        ·rename_i eU
         cases xq:(iK (aV s x)&&Nat.beq (fit ((cs.drop off).take sz) (leaves (aV s x))).length sz&&Nat.ble (off+sz) cs.length) with
         | false=>simp only [xq,bJ,reduceCtorEq] at hp
         | true=>
          simp only [xq,aQ] at hp;rw [if_neg eU]
          exact ih _ _ _ _ (fun p hp=>lG p (by simp [hp])) hp hf
     cases hd:i.desc<;>rw [hd] at ku<;>simp only [xD] at ku
     ·rename_i n e
      obtain ⟨ei,Ng⟩:=Option.isSome_iff_exists.1 ku;obtain ⟨pe,ze,g1,g2,_⟩:=(HP.ti _ _ Ng).info;simp only [p4,g1]
      refine ang _ (fun p _ q hq=>?_) parts.toList i.zero cs z.cells cells (fun _ h=>h) Uh f1
      simp only [partAt,hd,Ng,bn] at hq;rw [←hq,g2]
     ·rename_i fs
      obtain ⟨pl,g1,g2,g3⟩:=JE HP fs.toList ku;simp only [p4,g1]
      refine ang _ (fun p _ q hq=>?_) parts.toList i.zero cs z.cells cells (fun _ h=>h) Uh f1
      simp only [partAt,hd] at hq;split at hq
      ·rename_i f hf
       obtain ⟨fi,r1,r2⟩:=g3 _ _ hf;rw [r1] at hq;simp only [bn] at hq;rw [←hq]
       simpa using r2
      ·cases hq
    have bB:(execOp a.eval o).run P w = .ok (.value (.agg cells)) w:=by
     simp only [execOp,aY,Sem.run_bind,run_build w T _ cells ahA,Result.andThen_ok,Sem.run_pure]
    obtain ⟨R1,t1⟩:=Rel.N7 parts.toList R nI;rw [bg]
    refine ⟨_,w,G,pt,.inl bB,R1.put o ho (fun _=>False) (Ext.refl _ _) (fun _ _ _=>⟨rfl,rfl⟩) (fun b h=>h.elim) ⟨cells,rfl,f2,f3⟩ (fun b=>?_) R.gz rfl rfl rfl (bT _)⟩
    have h1:=t1 b;have h2:=f5 b;have h3:=Lr b;have h4:=R.ct b;have h5:=R.cb b;show aM b cs (aS cells)≤1∧(0<aM b cs (aS cells)→_)
    exact ⟨by omega,fun h=>⟨by omega,h5 (by omega)⟩⟩
  ·cases h
 ·cases h
end
theorem qb:∀ (n:Nat) (z:List D),(rep n z).length=n*z.length
 | 0,_=>by simp [rep]
 | n+1,z=>by simp only [rep,nP,qb n z,Nat.add_mul];omega
theorem zX:∀ (n:Nat) (z:List D) (k:Nat) (h:k<(rep n z).length),∃ h':k%z.length<z.length,(rep n z)[k]=z[k%z.length]
 | 0,z,k,h=>by simp [rep] at h
 | n+1,z,k,h=>by
  have hz:0<z.length:=by
   rcases Nat.eq_zero_or_pos z.length with h0 | h0
   ·rw [qb,h0] at h;omega
   ·exact h0
  refine ⟨Nat.mod_lt _ hz,?_⟩;simp only [rep]
  by_cases hk:k<z.length
  ·rw [List.getElem_append_left hk]
   congr 1
   exact (Nat.mod_eq_of_lt hk).symm
  ·have aT:k - z.length<(rep n z).length:=by simp only [rep,nP] at h;omega
   obtain ⟨h1,h2⟩:=zX n z (k - z.length) aT
   rw [List.getElem_append_right (by omega),h2]
   congr 1
   have:k=(k - z.length)+z.length:=by omega
   conv=>rhs;rw [this]
   rw [Nat.add_mod_right]
theorem FI (zero:Array Value) (n:Nat):((Array.range (n*zero.size)).map (zero[· % zero.size]!)).size=n*zero.size ∧
 ∀ k,k<n*zero.size→aS ((Array.range (n*zero.size)).map (zero[· % zero.size]!)) k=aS zero (k%zero.size):=by
 refine ⟨by simp,fun k hk=>?_⟩
 have hz:0<zero.size:=by
  rcases Nat.eq_zero_or_pos zero.size with h | h
  ·rw [h] at hk;omega
  ·exact h
 have:=Nat.mod_lt k hz;simp [aS,xE,hk,getElem!_pos zero (k%zero.size) this,Array.getElem?_eq_getElem this]
section
variable {P:Program} {E:Env} {C:Ctx} {s:St} {a:Act} {w:World} {G:Nat→Nat} {pt:Nat→Nat→Option Value} {o:Oper} {u:St}
theorem BS {b:Nat}:∀ (ds:List D) (f:Nat→Value),(∀ j (h:j<ds.length),dS b ds[j] (f j)=0)→aM b ds f=0
 | [],_,_=>rfl
 | d::ds,f,hf=>by
  simp only [aM]
  rw [BS ds (fun i=>f (i+1)) (fun j h=>by have:=hf (j+1) (by simpa using h);exact this)]
  have:=hf 0 (by simp)
  simpa using this
theorem bF.view0 {d:D} {v:Value} (h:bF w G pt d v) (hc:∀ b,dS b d v=0):bF w G pt (dD d) v:=by
 cases d with
 | sl f t l=>
  obtain ⟨ad,n,c,h1,h2,h3,h4⟩:=h;subst h1;refine ⟨ad,n,c,rfl,h2,h3,?_⟩
  match f,h4,hc with
  | 0,h4,_=>exact h4
  | 1,h4,hc=>
   rcases h4 with ⟨h5,h6,h7⟩ | ⟨b,h5,_⟩
   ·subst h6;exact ⟨by simp,.inl rfl⟩
   ·subst h5;have:=hc b;simp [dS] at this
  | 2,h4,hc=>
   rcases h4 with ⟨h5,h6,h7⟩ | ⟨b,h5,_⟩
   ·subst h6;exact ⟨by simp,.inl rfl⟩
   ·subst h5;have:=hc b;simp [dS] at this
  | 3,h4,hc=>
   rcases h4 with ⟨h5,h6,h7⟩ | ⟨b,_,_,h5,_⟩
   ·subst h6;exact ⟨by simp,.inl rfl⟩
   ·subst h5;have:=hc b;simp [dS] at this
  | (k+4),h4,_=>exact h4.elim
 | _=>exact h
theorem aP.view0 {ds:List D} {f:Nat→Value} (h:aP w G pt ds f) (hc:∀ b,aM b ds f=0):aP w G pt (ds.map dD) f:=by
 intro j hj;simp only [List.getElem_map]
 have nR:j<ds.length:=by simpa using hj
 exact ⟨(h j nR).1.view0 fun b=>by have:=kI (b:=b) (ds:=ds) (f:=f) j nR;have:=hc b;omega,(h j nR).2⟩
theorem FJ {w':World} {G':Nat→Nat} (hE:Ext w G w' G') {t:Ty}:∀ (n:Nat) {ds:List D} {l:List t.den} {f:Nat→Value} {b o:Nat},ND t n ds=some l →
 aP w G pt (ds.map dD) f→(∀ j,j<n*t.nc→w'.cell? ⟨b,o+j,none⟩=some (f j))→fA w' G' t l b o∧l.length=n
 | 0,ds,l,f,b,o,h,_,_=>by
  cases ds with
  | nil=>simp only [ND,bn] at h;subst h;exact ⟨fun i hi=>by simp at hi,rfl⟩
  | cons d ds=>simp [ND] at h
 | n+1,ds,l,f,b,o,h,hr,hc=>by
  simp only [ND] at h;split at h
  ·rename_i x r hd
   split at h
   ·rename_i l' hl
    simp only [bn] at h;subst h
    have hmul:(n+1)*t.nc=n*t.nc+t.nc:=by rw [Nat.add_mul];omega
    obtain ⟨h1,h2,h3⟩:=zQ hE (b:=b) (o:=o) hd hr (fun j hj=>hc j (by omega))
    subst h2
    obtain ⟨h4,h5⟩:=FJ hE n (b:=b) (o:=o+t.nc) (f:=fun j=>f (t.nc+j)) hl
     (fun j hj=>by
      have D5:t.nc+j<(ds.map dD).length:=by simp at hj ⊢;omega
      have:=hr (t.nc+j) D5
      simpa using this)
     (fun j hj=>by
      have:=hc (t.nc+j) (by omega)
      rw [Nat.add_assoc];exact this)
    refine ⟨fun i hi=>?_,by simp [h5]⟩
    match i,hi with
    | 0,_=>simpa using h1
    | i+1,hi=>
     have:=h4 i (by simpa using hi)
     rw [show o+t.nc+i*t.nc=o+(i+1)*t.nc by rw [Nat.add_mul];omega] at this
     exact this
   ·cases h
  ·cases h
theorem kX (ob:Obj) (Ik:∀ b,w.heap.size≤b→G b=0):Ext w G (w.alloc ob) G:=
 ⟨fun b o ho=>World.cell?_alloc_lt w ob ⟨b,o,none⟩ (by
  show b<w.heap.size
  rcases Nat.lt_or_ge b w.heap.size with h | h
  ·exact h
  ·rw [Ik b h] at ho;omega),fun _=>bT _⟩
theorem alloc_old (ob:Obj) {b:Nat} (h:b<w.heap.size):(w.alloc ob).heap[b]? = w.heap[b]?:=by
 simp only [World.alloc,Array.getElem?_push]
 rw [if_neg (by omega)]
theorem ou (ob:Obj):(w.alloc ob).heap[w.heap.size]? = some ob:=by
 show (w.heap.push ob)[w.heap.size]? = some ob;simp
theorem Rel.fresh (R:Rel E C s a w G pt):TC E.n C.m s a w pt w.heap.size=0:=by
 rcases Nat.eq_zero_or_pos (TC E.n C.m s a w pt w.heap.size) with h | h
 ·exact h
 ·have:=(R.cb _ h).1;omega
theorem Rel.newRow (R:Rel E C s a w G pt) (o:Oper) (ho:∀ t,o.dst=some t→t<E.n) {t:Ty} {l:List t.den} {cells:Array Value} {e:TypeId} {fr:Nat×Nat} {c:Nat}
 (hl:fA (w.alloc (.cells cells e fr)) G t l w.heap.size 0) (hc:l.length≤c) (Uh:c*t.nc≤cells.size) (hfr:∀ o,o<cells.size→¬ (fr.1≤o∧o<fr.2)) (hb:l.length*t.xk≤lW) (Im:0<t.nc) :
 Rel E C (au (dN o (.sl 2 t l)) s) (a.put o.dst (.slice (some ⟨w.heap.size,0,none⟩) l.length c)) (w.alloc (.cells cells e fr)) G pt:=by
 refine R.put o ho (fun _=>False) (kX _ R.gz) (fun b _ hb=>⟨alloc_old _ hb,rfl⟩) (fun b h=>h.elim)
  ⟨_,_,_,rfl,rfl,hb,.inr ⟨_,rfl,R.gz _ (bT _),⟨cells,e,fr,ou _,Uh,hfr⟩,hc,hl,Im⟩⟩ (fun b=>?_) (fun b hb=>R.gz b (by simp at hb;omega)) rfl rfl rfl (by simp)
 rw [show dP b (.sl 2 t l) (.slice (some ⟨w.heap.size,0,none⟩) l.length c)=dS b (.sl 2 t l) (.slice (some ⟨w.heap.size,0,none⟩) l.length c) from rfl]
 simp only [dS]
 by_cases h:w.heap.size=b
 ·subst h
  exact ⟨by simp,fun _=>⟨R.fresh,by simp,.inl R.hs⟩⟩
 ·simp [h]
theorem Rel.FK:∀ (parts:List (Nat×Operand)) {s1:St} {G:Nat→Nat},Rel E C s1 a w G pt →
 (∀ t,get s1 (2*t)=get s (2*t)∨get s1 (2*t)=share (get s (2*t)))→(∀ p∈parts,fZ (aV s p.2)=false) →
 ∃ G',Ext w G w G'∧Rel E C (au (iy s share oH parts) s1) a w G' pt ∧
  (∀ p∈parts,aU w G' pt (view (aV s p.2)) (a.eval p.2)) ∧
  (∀ t,get (au (iy s share oH parts) s1) (2*t)=get s (2*t)∨get (au (iy s share oH parts) s1) (2*t)=share (get s (2*t)))
 | [],s1,G,R,hs,_=>⟨G,Ext.refl _ _,R,fun p hp=>by simp at hp,hs⟩
 | (j,x)::r,s1,G,R,hs,ht=>by
  have htx:fZ (aV s x)=false:=ht (j,x) (by simp)
  have ss:∀ d:D,share (share d)=share d:=by
   intro d
   cases d with
   | agg cs=>
    simp only [share,List.map_map]
    congr 1
    apply List.map_congr_left;intro d _
    cases d with
    | sl f t l=>
     show D.sl _ t l=D.sl _ t l
     by_cases h:f=2
     ·subst h;rfl
     ·rw [show Nat.beq f 2=false by rw [gF];simp [h]]
      simp only [bJ]
      rw [show Nat.beq f 2=false by rw [gF];simp [h]]
      rfl
    | _=>rfl
   | sl f t l=>
    show D.sl _ t l=D.sl _ t l
    by_cases h:f=2
    ·subst h;rfl
    ·rw [show Nat.beq f 2=false by rw [gF];simp [h]]
     simp only [bJ]
     rw [show Nat.beq f 2=false by rw [gF];simp [h]]
     rfl
   | _=>rfl
  -- the head
  have head:∃ G1,Ext w G w G1∧Rel E C (au (dU s x share oH) s1) a w G1 pt∧aU w G1 pt (view (aV s x)) (a.eval x) ∧
   (∀ t,get (au (dU s x share oH) s1) (2*t)=get s (2*t)∨get (au (dU s x share oH) s1) (2*t)=share (get s (2*t))):=by
   cases x with
   | tmp t=>
    have wo:fZ (get s1 (2*t))=false:=by
     have ahB:fZ (get s (2*t))=false:=htx
     rcases hs t with h | h
     ·rw [h];exact ahB
     ·rw [h];cases hd:get s (2*t)<;>rw [hd] at ahB<;>first | rfl | exact ahB
    cases hU:oH (get s (2*t)) with
    | false=>
     have e1:dU s (.tmp t) share oH=[]:=by simp [dU,hU]
     rw [e1]
     have h1:get s1 (2*t)=get s (2*t):=by
      rcases hs t with h | h
      ·exact h
      ·rw [h,sF hU]
     refine ⟨G,Ext.refl _ _,R,?_,hs⟩;have:=R.tm t;rw [h1,←sF hU] at this;exact this.view htx
    | true=>
     have e1:dU s (.tmp t) share oH=[(2*t,share (get s (2*t)))]:=by simp [dU,hU]
     rw [e1]
     have h1:share (get s1 (2*t))=share (get s (2*t)):=by
      rcases hs t with h | h
      ·rw [h]
      ·rw [h,ss]
     obtain ⟨G1,q1,q2,q3,_⟩:=R.Fu t wo;rw [h1] at q2 q3
     refine ⟨G1,q1,q2,q3.view htx,fun t'=>?_⟩
     show get ((2*t,share (get s (2*t)))::s1) (2*t')=_∨_
     rw [show au [(2*t,share (get s (2*t)))] s1=(2*t,share (get s (2*t)))::s1 from rfl,dQ]
     by_cases h:t' = t
     ·subst h;rw [if_pos rfl];exact .inr rfl
     ·rw [if_neg h];exact hs t'
   | const v=>
    refine ⟨G,Ext.refl _ _,R,?_,hs⟩;have hr:=aJ R (.const v);have e:share (aV s1 (.const v))=aV s1 (.const v):=Jy v;rw [←e] at hr;exact hr.view htx
   | global g=>exact ⟨G,Ext.refl _ _,R,aJ R (.global g),hs⟩
   | func f=>exact ⟨G,Ext.refl _ _,R,aJ R (.func f),hs⟩
  obtain ⟨G1,e1,R1,uQ,Yt⟩:=head
  obtain ⟨G2,e2,R2,Ll,hs2⟩:=Rel.FK r R1 Yt (fun p hp=>ht p (by simp [hp]))
  refine ⟨G2,e1.trans e2,by simp only [iy,bg];exact R2,fun p hp=>?_,by simp only [iy,bg];exact hs2⟩
  rcases lC hp with rfl | hp
  ·refine aU.mono (pt:=pt) e2 (fun _ _ _ h=>h) uQ fun b hb=>?_
   rw [uL _ _ _ htx] at hb;omega
  ·exact Ll p hp
theorem Ir (HP:nS P E) (R:Rel E C s a w G pt) (ho:∀ t,o.dst=some t→t<E.n) (T n:Nat) (parts:Array (Nat×Operand)) (aY:o.op = .buildSlice T n parts)
 (h:kU E o s T n parts.toList=some (true,u)):fB P E C o a w (au u s):=by
 simp only [kU] at h;split at h
 ·rename_i i hi
  have hu:=(HP.ti _ _ hi).und;split at h
  ·rename_i e hd
   rw [hd] at hu;split at h
   ·rename_i ei Ng
    obtain ⟨pi,z,p1,p2,p3,p4,p5,p6,p7,p8⟩:=(HP.ti _ _ Ng).info;split at h
    ·rename_i cs Uh
     split at h
     ·rename_i l hl
      cases hb:(Nat.ble (n*ei.size) 16777216&&Nat.beq ei.size ei.ty.nc&&Nat.blt 0 ei.size&&Nat.ble (n*ei.ty.xk) lW) with
      | false=>simp only [hb,bJ,reduceCtorEq] at h
      | true=>
       simp only [hb,aQ,bn,gD,true_and] at h;subst h;simp only [dA] at hb;obtain ⟨⟨⟨nI,ku⟩,Lp⟩,V7⟩:=hb;have nI:=Ii nI;have ku:=fD ku
       have Lp:0<ei.size:=by simpa [Nat.blt_eq] using Lp
       have V7:=Ii V7
       -- no part is a tuple
       have wo:∀ (l:List (Nat×Operand)) (cs cs':List D),iC (fun j=>some (j*ei.size,ei.size)) s view cs l=some cs'→∀ p∈l,fZ (aV s p.2)=false:=by
        intro l
        induction l with
        | nil=>intro _ _ _ p hp;simp at hp
        | cons q l ih=>
         intro cs cs' h p hp;obtain ⟨j,x⟩:=q;simp only [iC] at h
         cases xq:(iK (aV s x)&&Nat.beq (fit ((cs.drop (j*ei.size)).take ei.size) (leaves (view (aV s x)))).length ei.size&&Nat.ble (j*ei.size+ei.size) cs.length) with
         | false=>simp only [xq,bJ,reduceCtorEq] at h
         | true=>
          simp only [xq,aQ] at h;simp only [dA] at xq
          rcases lC hp with rfl | hp
          ·have:=xq.1.1
           cases hd:aV s x<;>rw [hd] at this<;>first | rfl | (simp [iK] at this)
          ·exact ih _ _ h p hp
       have anh:=wo _ _ _ Uh
       obtain ⟨G1,e1,R1,uQ,Yt⟩:=Rel.FK (s:=s) parts.toList R (fun t=>.inl rfl) anh
       have Yu:z.cells.size=ei.size:=p5;obtain ⟨rc1,rc2⟩:=FI z.cells n
       have hz:aP w G1 pt (rep n ei.zero) (aS ((Array.range (n*z.cells.size)).map (z.cells[· % z.cells.size]!))):=by
        intro k hk;obtain ⟨h',e⟩:=zX n ei.zero k hk;rw [qb,p6] at hk
        rw [rc2 k (by rw [Yu];exact hk),e,Yu]
        simp only [p6] at h' ⊢
        exact ⟨(p8 (k%ei.size) (by omega)).1 w G1 pt,p7 _ h'⟩
       have Lr:∀ b,aM b (rep n ei.zero) (aS ((Array.range (n*z.cells.size)).map (z.cells[· % z.cells.size]!)))=0:=by
        intro b
        refine BS _ _ fun k hk=>?_
        obtain ⟨h',e⟩:=zX n ei.zero k hk;rw [qb,p6] at hk
        rw [rc2 k (by rw [Yu];exact hk),e,Yu]
        simp only [p6] at h' ⊢
        exact (p8 (k%ei.size) (by omega)).2 b
       have ani:∀ d,iK d=true→iK (view d)=true:=by intro d hd;cases d<;>first | rfl | exact hd
       obtain ⟨cells,f1,f2,f3,f4,f5⟩:=FE (w:=w) (G:=G1) (pt:=pt) (a:=a) (s:=s) (fun j=>some (j*ei.size,ei.size)) view ani parts.toList (rep n ei.zero) _ uQ hz
        (by rw [rc1,qb,p6,Yu]) Uh
       have FB:∀ b,aM b cs (aS cells)=0:=by
        intro b;have h1:=f5 b;have h2:=Lr b
        have h3:DZ s a view b parts.toList=0:=by
         have key:∀ l:List (Nat×Operand),(∀ p∈l,fZ (aV s p.2)=false)→DZ s a view b l=0:=by
          intro l
          induction l with
          | nil=>intro _;rfl
          | cons q l ih=>
           intro hl;simp only [DZ]
           rw [ih fun p hp=>hl p (by simp [hp]),uL _ _ _ (hl q (by simp))]
         exact key _ anh
        omega
       have eU:cells.size=n*ei.size:=by rw [f2,f4,qb,p6]
       have bB:(execOp a.eval o).run P w = .ok (.value (.slice (some ⟨w.heap.size,0,none⟩) n n)) (w.alloc (.cells cells e)):=by
        have e0:(parts.map fun (i,x)=>(i,a.eval x)).toList=parts.toList.map fun p=>(p.1,a.eval p.2):=by simp
        have Zw:(sizeOf e).run P w = .ok ei.size w:=by simp [sizeOf,typeInfo,p1,p2]
        by_cases QW:n*ei.size=0
        ·have hf:Instr.fill (fun i=>some (i*ei.size,ei.size)) #[] (parts.toList.map fun p=>(p.1,a.eval p.2))=some cells:=by
          rw [Yu,QW] at f1
          simpa [Array.range_zero'] using f1
         simp [execOp,aY,Instr.buildSlice,run_underlying hu,Zw,QW,hf,newRow,Array.range_zero']
        ·have hf:Instr.fill (fun i=>some (i*ei.size,ei.size)) ((Array.range (n*ei.size)).map (z.cells[· % ei.size]!)) (parts.toList.map fun p=>(p.1,a.eval p.2))=some cells:=by
          simp only [Yu] at f1;exact f1
         have hle:¬ (16777216<n*ei.size):=by omega
         simp [execOp,aY,Instr.buildSlice,run_underlying hu,Zw,QW,hle,zeroValue,typeInfo,p1,p4,Yu,hf,newRow]
       have ahD:=FJ (w:=w) (G:=G1) (pt:=pt) (kX (.cells cells e (0,0)) R1.gz) n (b:=w.heap.size) (o:=0) hl (f3.view0 FB) (fun j hj=>by
        rw [World.cell?_alloc_new]
        have nR:0+j<cells.size:=by rw [eU,ku];omega
        rw [Array.getElem?_eq_getElem nR]
        simp [aS,xE,show j<cells.size by omega])
       obtain ⟨ahD,hlen⟩:=ahD;rw [bg];refine ⟨_,_,G1,pt,.inl bB,?_⟩
       have:=R1.newRow o ho (c:=n) (cells:=cells) (e:=e) (fr:=(0,0)) ahD (by omega) (by rw [eU,ku];exact bT _) (fun _ _=>by simp) (by rw [hlen];exact V7) (by omega)
       rw [hlen] at this;exact this
     ·cases h
    ·cases h
   ·cases h
  ·cases h
 ·cases h
theorem bV (cs:Array Value) (e:TypeId) (fr:Nat×Nat) (j:Nat):(w.alloc (.cells cs e fr)).cell? ⟨w.heap.size,j,none⟩=cs[j]?:=by
 simp only [World.cell?,ou];simp
theorem wC (cs:Array Value) (e:TypeId) (fr:Nat×Nat) (j:Nat):aB (w.alloc (.cells cs e fr)) w.heap.size j=aS cs j:=by
 simp [aB,bV,aS,xE]
theorem Rel.newVar (R:Rel E C s a w G pt) (hm:E.n≤C.m) (dst:Nat) (hd:dst<E.n) {ds:List D} {cells:Array Value} {e:TypeId}
 (hr:aP (w.alloc (.cells cells e)) G pt ds (aS cells)) (eU:ds.length≤cells.size)
 (hc:∀ b,aM b ds (aS cells)≤1∧(0<aM b ds (aS cells)→TC E.n C.m s a w pt b=0∧b<w.heap.size∧(C.w0.heap.size≤b∨C.X b))) :
 Rel E C ((2*dst,.ptr dst (aL (get s (2*dst+1))+1) 0)::(2*dst+1,.aI (aL (get s (2*dst+1))+1) true ds)::s) (a.put (some dst) (.pointer (some ⟨w.heap.size,0,none⟩)))
  (w.alloc (.cells cells e)) G (bG pt dst (aL (get s (2*dst+1))+1) (.pointer (some ⟨w.heap.size,0,none⟩))):=by
 have adS:∀ i j v,pt i j=some v→bG pt dst (aL (get s (2*dst+1))+1) (.pointer (some ⟨w.heap.size,0,none⟩)) i j=some v:=by
  intro i j v hv;unfold bG;rw [if_neg]
  ·exact hv
  ·rintro ⟨rfl,rfl⟩
   rw [R.pf i _ (Nat.lt_succ_self _)] at hv;cases hv
 have hpd:bG pt dst (aL (get s (2*dst+1))+1) (.pointer (some ⟨w.heap.size,0,none⟩)) dst (aL (get s (2*dst+1))+1)=some (.pointer (some ⟨w.heap.size,0,none⟩)):=by simp [bG]
 refine R.xY dst hd hm (kX _ R.gz) (fun b hb=>⟨alloc_old _ hb,rfl⟩) ⟨w.heap.size,by rw [hpd];rfl,rfl⟩ (fun _=>rfl)
  (fun _=>⟨w.heap.size,hpd,⟨cells,e,(0,0),ou _,eU,fun _ _=>by simp⟩,R.gz _ (bT _),?_⟩) rfl (fun b=>?_) (fun b hb=>R.gz b (by simp at hb;omega)) rfl rfl rfl (by simp)
 ·refine (hr.congr fun j _=>(wC cells e (0,0) j).symm).mono (Ext.refl _ _) adS (fun _ _=>rfl) fun _ _=>⟨rfl,rfl⟩
 ·have e1:gY (w.alloc (.cells cells e)) (bG pt dst (aL (get s (2*dst+1))+1) (.pointer (some ⟨w.heap.size,0,none⟩))) b dst (.aI (aL (get s (2*dst+1))+1) true ds) =
   (if w.heap.size=b then 1 else 0)+aM b ds (aS cells):=by
   simp only [gY,hpd]
   congr 1
   ·simp [dh,bE]
   ·refine iR fun j _=>?_
    simp only [bE,sw];exact wC cells e (0,0) j
  rw [e1];have h1:=hc b
  by_cases hb:w.heap.size=b
  ·rw [if_pos hb]
   have:aM b ds (aS cells)=0:=by
    rcases Nat.eq_zero_or_pos (aM b ds (aS cells)) with h | h
    ·exact h
    ·have:=(h1.2 h).2.1;omega
   exact ⟨by omega,fun _=>⟨by rw [←hb];exact R.fresh,by rw [←hb];simp,.inl (by rw [←hb];exact R.hs)⟩⟩
  ·rw [if_neg hb]
   exact ⟨by omega,fun h=>⟨(h1.2 (by omega)).1,by have:=(h1.2 (by omega)).2.1;simp;omega,(h1.2 (by omega)).2.2⟩⟩
theorem Rel.ahF (R:Rel E C s a w G pt) (hm:E.n≤C.m) (dst:Nat) (hd:dst<E.n) {ds:List D} {cells:Array Value} {e:TypeId}
 (hr:aP (w.alloc (.cells cells e)) G pt ds (aS cells)) {n:Nat} (eU:ds.length≤cells.size)
 (hc:∀ b,aM b ds (aS cells)≤1∧(0<aM b ds (aS cells)→TC E.n C.m s a w pt b=0∧b<w.heap.size∧(C.w0.heap.size≤b∨C.X b))) (hn:n≤nG) :
 Rel E C ((2*dst,.Jr dst (aL (get s (2*dst+1))+1) n)::(2*dst+1,.aI (aL (get s (2*dst+1))+1) true ds)::s) (a.put (some dst) (.slice (some ⟨w.heap.size,0,none⟩) n n))
  (w.alloc (.cells cells e)) G (bG pt dst (aL (get s (2*dst+1))+1) (.pointer (some ⟨w.heap.size,0,none⟩))):=by
 have adS:∀ i j v,pt i j=some v→bG pt dst (aL (get s (2*dst+1))+1) (.pointer (some ⟨w.heap.size,0,none⟩)) i j=some v:=by
  intro i j v hv;unfold bG;rw [if_neg]
  ·exact hv
  ·rintro ⟨rfl,rfl⟩
   rw [R.pf i _ (Nat.lt_succ_self _)] at hv;cases hv
 have hpd:bG pt dst (aL (get s (2*dst+1))+1) (.pointer (some ⟨w.heap.size,0,none⟩)) dst (aL (get s (2*dst+1))+1)=some (.pointer (some ⟨w.heap.size,0,none⟩)):=by simp [bG]
 refine R.xY dst hd hm (kX _ R.gz) (fun b hb=>⟨alloc_old _ hb,rfl⟩) ⟨.inl ⟨w.heap.size,n,by rw [hpd];rfl,rfl⟩,hn⟩ (fun _=>rfl)
  (fun _=>⟨w.heap.size,hpd,⟨cells,e,(0,0),ou _,eU,fun _ _=>by simp⟩,R.gz _ (bT _),?_⟩) rfl (fun b=>?_) (fun b hb=>R.gz b (by simp at hb;omega)) rfl rfl rfl (by simp)
 ·refine (hr.congr fun j _=>(wC cells e (0,0) j).symm).mono (Ext.refl _ _) adS (fun _ _=>rfl) fun _ _=>⟨rfl,rfl⟩
 ·have e1:gY (w.alloc (.cells cells e)) (bG pt dst (aL (get s (2*dst+1))+1) (.pointer (some ⟨w.heap.size,0,none⟩))) b dst (.aI (aL (get s (2*dst+1))+1) true ds) =
   (if w.heap.size=b then 1 else 0)+aM b ds (aS cells):=by
   simp only [gY,hpd]
   congr 1
   ·simp [dh,bE]
   ·refine iR fun j _=>?_
    simp only [bE,sw];exact wC cells e (0,0) j
  rw [e1];have h1:=hc b
  by_cases hb:w.heap.size=b
  ·rw [if_pos hb]
   have:aM b ds (aS cells)=0:=by
    rcases Nat.eq_zero_or_pos (aM b ds (aS cells)) with h | h
    ·exact h
    ·have:=(h1.2 h).2.1;omega
   exact ⟨by omega,fun _=>⟨by rw [←hb];exact R.fresh,by rw [←hb];simp,.inl (by rw [←hb];exact R.hs)⟩⟩
  ·rw [if_neg hb]
   exact ⟨by omega,fun h=>⟨(h1.2 (by omega)).1,by have:=(h1.2 (by omega)).2.1;simp;omega,(h1.2 (by omega)).2.2⟩⟩
theorem Zx (HP:nS P E) (R:Rel E C s a w G pt) (hm:E.n≤C.m) (ho:∀ t,o.dst=some t→t<E.n) (T:Nat) (aY:o.op = .alloc T)
 (h:xV E o s T=some (true,u)):fB P E C o a w (au u s):=by
 simp only [xV] at h;split at h
 ·rename_i i dst hi iN
  obtain ⟨pi,z,p1,p2,p3,p4,p5,p6,p7,p8⟩:=(HP.ti _ _ hi).info
  have bB:(execOp a.eval o).run P w = .ok (.value (.pointer (some ⟨w.heap.size,0,none⟩))) (w.alloc (.cells z.cells T)):=by
   simp [execOp,aY,Instr.alloc,zeroValue,typeInfo,p1,p4,newVar,newRow]
  split at h
  ·cases h
  ·simp only [bn,gD,true_and] at h
   subst h
   have:=R.newVar hm dst (ho dst iN) (ds:=i.zero) (cells:=z.cells) (e:=T) (fun j hj=>⟨(p8 j hj).1 _ G pt,p7 j (by omega)⟩) (by omega)
    (fun b=>by
     have:aM b i.zero (aS z.cells)=0:=BS _ _ fun j hj=>(p8 j hj).2 b
     exact ⟨by omega,fun h=>by omega⟩)
   exact ⟨_,_,G,_,.inl bB,by rw [iN];exact this⟩
 ·cases h
theorem uT (x:Operand) (f:D→D) (h:D→Bool) (i:Nat):get (au (dU s x f h) s) (2*i+1)=get s (2*i+1):=by
 cases x with
 | tmp t=>simp only [dU];cases h (get s (2*t))<;>simp [au]
 | _=>rfl
theorem ahG (HP:nS P E) (R:Rel E C s a w G pt) (hm:E.n≤C.m) (ho:∀ t,o.dst=some t→t<E.n) (T:Nat) (x:Operand) (aY:o.op = .box T x)
 (h:QL E o s T x=some (true,u)):fB P E C o a w (au u s):=by
 simp only [QL] at h;split at h
 ·rename_i i dst hi iN
  cases hD:iK (dW i.ty (aV s x)) with
  | false=>simp [hD] at h
  | true=>
   simp only [hD,aQ] at h;obtain ⟨q1,q2⟩:=xZ (t:=i.ty) (aJ R x)
   have wo:fZ (dW i.ty (aV s x))=false:=by cases hd:dW i.ty (aV s x)<;>rw [hd] at hD<;>first | rfl | (simp [iK] at hD)
   have bB:(execOp a.eval o).run P w = .ok (.value (.pointer (some ⟨w.heap.size,0,none⟩))) (w.alloc (.cells (a.eval x).cells T)):=by
    simp [execOp,aY,Instr.box,newVar,newRow]
   split at h
   ·cases h
   ·-- a variable: what is taken goes into it
    have yc:∀ (ds:List D) (G':Nat→Nat),Ext w G w G'→(∀ b,dP b (aV s x) (a.eval x)=0→G' b=G b)→aP w G' pt ds (aS (a.eval x).cells)→ds.length=(a.eval x).cells.size →
     (∀ b,aM b ds (aS (a.eval x).cells)=dP b (aV s x) (a.eval x)) →
     fB P E C o a w (au (dU s x strip gN++[(2*dst+1,.aI (aL (get s (2*dst+1))+1) true ds),(2*dst,.ptr dst (aL (get s (2*dst+1))+1) 0)]) s):=by
     intro ds G' e' DY hds hdl hdc;obtain ⟨R0,t0⟩:=R.qE x
     -- the bounds may be raised for blocks that nobody holds any more
     have R1:Rel E C (au (dU s x strip gN) s) a w G' pt:=by
      refine R0.step (fun _=>False) (fun _=>False) (fun b=>0<dP b (aV s x) (a.eval x)) rfl R0.df (fun _ _=>⟨rfl,rfl⟩) (fun _ _=>⟨rfl,rfl⟩) e' (fun _ _ _ h=>h) (fun b hb _=>⟨rfl,DY b (by omega)⟩)
       (fun b hb t _=>?_) (fun b hb id _=>?_) (fun b hb=>(R.held x hb).2) (fun t h=>h.elim) (fun id h=>h.elim) (fun _ _ b=>⟨R0.ct b,R0.cb b⟩) (fun b hb=>?_) rfl rfl rfl (bT _)
      ·have:=R0.qZ b t;have:=t0 b;have:=R.ct b;omega
      ·have:=R0.jq b id;have:=t0 b;have:=R.ct b;omega
      ·rw [DY b ?_];exact R.gz b hb
       rcases Nat.eq_zero_or_pos (dP b (aV s x) (a.eval x)) with h | h
       ·exact h
       ·have:=(R.held x h).1;omega
     rw [bg,←uT x strip gN dst]
     have:=R1.newVar hm dst (ho dst iN) (ds:=ds) (cells:=(a.eval x).cells) (e:=T) (hds.mono (kX _ R1.gz) (fun _ _ _ h=>h) (fun _ _=>rfl) fun b hb=>⟨alloc_old _ (by
      rw [hdc] at hb;exact (R.held x hb).1),rfl⟩) (by omega)
      (fun b=>by
       rw [hdc];have h1:=t0 b;have h2:=R.ct b
       exact ⟨by omega,fun h=>⟨by omega,R.held x h⟩⟩)
     exact ⟨_,_,G',_,.inl bB,by rw [iN];exact this⟩
    obtain ⟨l1,l2,l3⟩:=sH q1 hD
    have rz:∀ b,dP b (aV s x) (a.eval x)≤1:=fun b=>by have:=(R.qE x).2 b;have:=R.ct b;omega
    cases hb:Nat.beq (tag E o) 2 with
    | true=>
     simp only [hb,aQ,bn,gD,true_and] at h;subst h
     exact yc _ G (Ext.refl _ _) (fun _ _=>rfl) l1 l2.symm (fun b=>by rw [l3,q2])
    | false=>
     simp only [hb,bJ,bn,gD,true_and] at h;subst h
     obtain ⟨e',Ud⟩:=l1.share (fun b=>by rw [l3,q2];exact rz b)
     exact yc _ _ e' (fun b hb=>iL (by rw [l3,q2];exact hb)) Ud (by rw [pJ];exact l2.symm) (fun b=>by rw [oK,l3,q2])
 ·cases h
theorem N8 (HP:nS P E) (hm:E.n≤C.m) (R:Rel E C s a w G pt) (ho:∀ t,o.dst=some t→t<E.n) (T n:Nat) (parts:Array (Nat×Operand)) (aY:o.op = .buildSlice T n parts)
 (h:qR E o s T n parts.toList=some (true,u)):fB P E C o a w (au u s):=by unfold qR at h;cases h
theorem uU {t:Ty} {z:t.den} {zs:List D} (hz:dec t zs=some (z,[])) (hlz:zs.length=t.nc):∀ n,ND t n (rep n zs)=some (List.replicate n z)
 | 0=>rfl
 | n+1=>by
  have key:∀ (t:Ty) (ds r:List D) (x:t.den) ,dec t ds=some (x,[])→dec t (ds++r)=some (x,r):=by
   have gen:∀ (t:Ty) (ds r r':List D) (x:t.den),dec t ds=some (x,r')→dec t (ds++r)=some (x,r'++r):=by
    intro t
    induction t with
    | int k=>
     intro ds r r' x h
     cases ds with
     | nil=>simp [dec] at h
     | cons d ds=>
      cases d<;>simp only [dec] at h<;>try (cases h;done)
      rename_i k' n
      cases hk:mZ k k' with
      | false=>simp [hk] at h
      | true=>
       simp only [hk,aQ,bn,gD] at h;obtain ⟨rfl,rfl⟩:=h;simp [dec,hk]
    | bool=>
     intro ds r r' x h
     cases ds with
     | nil=>simp [dec] at h
     | cons d ds=>
      cases d<;>simp only [dec] at h<;>try (cases h;done)
      simp only [bn,gD] at h;obtain ⟨rfl,rfl⟩:=h;simp [dec]
    | str=>
     intro ds r r' x h
     cases ds with
     | nil=>simp [dec] at h
     | cons d ds=>
      cases d<;>simp only [dec] at h<;>try (cases h;done)
      simp only [bn,gD] at h;obtain ⟨rfl,rfl⟩:=h;simp [dec]
    | iF f0 t _=>
     intro ds r r' x h
     cases ds with
     | nil=>simp [dec] at h
     | cons d ds=>
      cases d<;>simp only [dec] at h<;>try (cases h;done)
      rename_i f' t' y
      by_cases hb:(Ty.iF f' t').beq (.iF f0 t)=true
      ·simp only [hb,dite_true,bn,gD] at h
       obtain ⟨rfl,rfl⟩:=h;simp [dec,hb]
      ·simp [hb] at h
    | sl t _=>
     intro ds r r' x h
     cases ds with
     | nil=>simp [dec] at h
     | cons d ds=>
      cases d<;>simp only [dec] at h<;>try (cases h;done)
      ·simp only [bn,gD] at h
       obtain ⟨rfl,rfl⟩:=h;simp [dec]
      ·rename_i fl t' l
       by_cases hb:t'.beq t=true
       ·simp only [hb,dite_true,bn,gD] at h
        obtain ⟨rfl,rfl⟩:=h;simp [dec,hb]
       ·simp [hb] at h
    | unit=>
     intro ds r r' x h;simp only [dec,bn,gD] at h;simp [dec,h.2]
    | cons p q ihp ihq=>
     intro ds r r' x h;simp only [dec] at h
     cases hp:dec p ds with
     | none=>simp [hp] at h
     | some y=>
      obtain ⟨y,ry⟩:=y;simp only [hp] at h
      cases hq:dec q ry with
      | none=>simp [hq] at h
      | some y2=>
       obtain ⟨y2,ry2⟩:=y2;simp only [hq,bn,gD] at h;obtain ⟨rfl,rfl⟩:=h;simp [dec,ihp ds r ry y hp,ihq ry r ry2 y2 hq]
    | st b c ih=>
     intro ds r r' x h;exact ih ds r r' x h
   intro t ds r x h
   simpa using gen t ds r [] x h
  simp only [rep,ND,key t zs (rep n zs) z hz,uU hz hlz n,List.replicate_succ]
theorem Ls (HP:nS P E) (R:Rel E C s a w G pt) (ho:∀ t,o.dst=some t→t<E.n) (T:Nat) (x y:Operand) (aY:o.op = .makeSlice T x y)
 (h:l5 E o s T x y=some (true,u)):fB P E C o a w (au u s):=by
 simp only [l5] at h;split at h
 ·rename_i i hi
  have hu:=(HP.ti _ _ hi).und;split at h
  ·rename_i e hd
   rw [hd] at hu;split at h
   ·rename_i ei Ng
    obtain ⟨pi,z,p1,p2,p3,p4,p5,p6,p7,p8⟩:=(HP.ti _ _ Ng).info;split at h
    ·rename_i zz k n k' m hz hx hy
     cases hb:(Nat.beq ei.size ei.ty.nc&&Nat.beq ei.bytes ei.ty.xk&&Nat.blt 0 ei.size&&Nat.blt 0 ei.bytes) with
     | false=>simp only [hb,bJ,reduceCtorEq] at h
     | true=>
      simp only [hb,aQ,bn,gD,dA,mX] at h;obtain ⟨⟨⟨h0,h1⟩,h2⟩,rfl⟩:=h;simp only [dA] at hb;obtain ⟨⟨⟨nI,ku⟩,Lp⟩,V7⟩:=hb;have nI:=fD nI;have ku:=fD ku
      have Lp:0<ei.size:=by simpa [Nat.blt_eq] using Lp
      have V7:0<ei.bytes:=by simpa [Nat.blt_eq] using V7
      have hxv:=aJ R x;rw [hx] at hxv;have hyv:=aJ R y;rw [hy] at hyv
      have hm0:0≤m:=by omega
      have hmb:m≤m*(ei.bytes:Int):=by
       have:m*1≤m*(ei.bytes:Int):=Int.mul_le_mul_of_nonneg_left (by omega) hm0
       omega
      have ahI:m≤9223372036854775807:=by unfold lW at h2;omega
      have hby:((pi.bytes:Nat):Int)*m≤281474976710656:=by rw [p3,Int.mul_comm];unfold lW at h2;omega
      have bB:(execOp a.eval o).run P w = .ok (.value (.slice (some ⟨w.heap.size,0,none⟩) n.toNat m.toNat)) (w.alloc (.cells (madeCells z.cells (m.toNat*pi.size)) e)):=by
       have:=run_make (P:=P) w T e pi z hu p1 p4 k k' n m h0 h1 hby ahI;simp [execOp,aY,hxv.1,hyv.1,this]
      have hzl:ei.zero.length=ei.ty.nc:=by rw [p6,nI]
      have hzr:aP w G pt (rep n.toNat ei.zero) (aS (madeCells z.cells (m.toNat*pi.size)))∧∀ b,aM b (rep n.toNat ei.zero) (aS (madeCells z.cells (m.toNat*pi.size)))=0:=by
       have eU:z.cells.size=ei.size:=p5;obtain ⟨rc1,rc2⟩:=FI z.cells m.toNat
       have hmc:madeCells z.cells (m.toNat*pi.size)=(Array.range (m.toNat*z.cells.size)).map (z.cells[· % z.cells.size]!):=by rw [show m.toNat*pi.size=m.toNat*z.cells.size by rw [p2,eU]];rfl
       rw [hmc]
       have hle:n.toNat*ei.size≤m.toNat*ei.size:=zF _ (by omega)
       constructor
       ·intro kk hk
        obtain ⟨h',e⟩:=zX n.toNat ei.zero kk hk;rw [qb,p6] at hk
        rw [rc2 kk (by rw [eU];omega),e,eU]
        simp only [p6] at h' ⊢
        exact ⟨(p8 (kk%ei.size) (by omega)).1 w G pt,p7 _ h'⟩
       ·intro b
        refine BS _ _ fun kk hk=>?_
        obtain ⟨h',e⟩:=zX n.toNat ei.zero kk hk;rw [qb,p6] at hk
        rw [rc2 kk (by rw [eU];omega),e,eU]
        simp only [p6] at h' ⊢
        exact (p8 (kk%ei.size) (by omega)).2 b
      have adX:(madeCells z.cells (m.toNat*pi.size)).size=m.toNat*ei.size:=by rw [size_madeCells,p2]
      have hnm:n.toNat*ei.ty.nc≤m.toNat*ei.size:=by rw [nI];exact zF _ (by omega)
      obtain ⟨r1,r2⟩:=FJ (w:=w) (G:=G) (pt:=pt) (kX (.cells (madeCells z.cells (m.toNat*pi.size)) e) R.gz) n.toNat (b:=w.heap.size) (o:=0) (uU hz hzl n.toNat) (hzr.1.view0 hzr.2) (fun j hj=>by
       rw [bV]
       have nR:0+j<(madeCells z.cells (m.toNat*pi.size)).size:=by rw [adX];omega
       rw [Array.getElem?_eq_getElem nR]
       simp [aS,xE,show j<(madeCells z.cells (m.toNat*pi.size)).size by omega])
      have hbz:n.toNat*ei.ty.xk≤lW:=by
       rw [←ku]
       have h3:n.toNat*ei.bytes≤m.toNat*ei.bytes:=zF _ (by omega)
       have h4:((m.toNat*ei.bytes:Nat):Int)≤(lW:Int):=by
        rw [Int.natCast_mul,Int.toNat_of_nonneg hm0];exact h2
       omega
      have:=R.newRow o ho (c:=m.toNat) (cells:=madeCells z.cells (m.toNat*pi.size)) (e:=e) (fr:=(0,0)) r1 (by rw [r2];omega) (by rw [adX,nI];exact bT _) (fun _ _=>by simp) (by rw [r2];exact hbz) (by omega)
      rw [r2] at this;exact ⟨_,_,G,pt,.inl bB,this⟩
    ·cases h
   ·cases h
  ·cases h
 ·cases h
theorem adY (HP:nS P E) (R:Rel E C s a w G pt) (ho:∀ t,o.dst=some t→t<E.n) (src dst:Nat) (x:Operand) (aY:o.op = .convert src dst x)
 (h:Jt E o s src dst x=some (true,u)):fB P E C o a w (au u s):=by
 have hx:=aJ R x;simp only [Jt] at h;split at h
 ·rename_i ia ib ha hb
  have hua:=(HP.ti _ _ ha).und;have hub:=(HP.ti _ _ hb).und;split at h
  ·rename_i k' k k'' n d1 d2 h1
   rw [h1] at hx;rw [d1] at hua;rw [d2] at hub;obtain ⟨hx,_⟩:=hx;simp only [bn,gD,true_and] at h;subst h
   exact pure_ok R ho (v:=.int k (k.wrap n)) (by simp [execOp,aY,convert,run_underlying hua,run_underlying hub,hx,Conv.intToInt]) ⟨rfl,jg _ _⟩ (fun _=>rfl)
  ·cases h
 ·cases h
theorem Zy (HP:nS P E) (R:Rel E C s a w G pt) (ho:∀ t,o.dst=some t→t<E.n) (T:Nat) (x:Operand) (f:Nat) (aY:o.op = .field T x f)
 (h:BN E o s T x f=some (true,u)):fB P E C o a w (au u s):=by
 simp only [BN] at h;split at h
 ·rename_i i hi
  have hu:=(HP.ti _ _ hi).und;split at h
  ·rename_i fs hd
   rw [hd] at hu;split at h
   ·rename_i fd hfd
    split at h
    ·rename_i fi cs hfi h1
     have hT:=HP.ti _ _ hfi;obtain ⟨pi,z,p1,p2,_⟩:=hT.info
     cases hb:Nat.beq ((cs.drop fd.offset).take fi.size).length fi.size with
     | false=>simp only [hb,bJ,reduceCtorEq] at h
     | true=>
      simp only [hb,aQ] at h;have Il:=fD hb;split at h
      ·rename_i d hmk
       simp only [bn,gD,true_and] at h;subst h
       obtain ⟨G',e,R1,uQ,Ll,_⟩:=R.Jz x (by rw [h1];rfl)
       rw [h1] at uQ;obtain ⟨arr,hv,eU,hr⟩:=uQ;have hlm:(cs.map dD).length=cs.length:=pJ ..
       have lF:aP w G' pt (((cs.drop fd.offset).take fi.size).map dD) (fun j=>aS arr (fd.offset+j)):=by
        have:=(hr.drop fd.offset).take fi.size
        simpa [List.map_drop,List.map_take] using this
       obtain ⟨q1,q2⟩:=pY (n:=fi.size) hmk (by rw [pJ];exact Il) lF
       have atW:fs[f]? = some fd:=by simpa using hfd
       have bB:(execOp a.eval o).run P w = .ok (.value (NU fi.agg fi.size fun j=>aS arr (fd.offset+j))) w:=by
        have anj:(part fd.type arr fd.offset).run P w = .ok (NU fi.agg fi.size fun j=>aS arr (fd.offset+j)) w:=by
         cases JA:fi.agg with
         | true=>
          have h2:kG fi.desc=true:=by rw [←hT.agg];exact JA
          rw [uM hT.und h2 (by rw [p1];rfl)]
          simp only [NU,aQ]
          congr 2
          have Uh:P.cellsOf fd.type=fi.size:=by simp [Program.cellsOf,p1,p2]
          rw [Uh];apply Array.ext
          ·simp at Il ⊢;omega
          ·intro j K8 vQ
           have hj:fd.offset+j<arr.size:=by simp at K8;omega
           simp [aS,xE,hj]
         | false=>
          have h2:kG fi.desc=false:=by rw [←hT.agg];exact JA
          have h3:=hT.one JA
          have aT:fd.offset<arr.size:=by simp at Il;omega
          rw [BQ hT.und h2 arr fd.offset aT];simp [NU]
        simp [execOp,aY,Instr.field,run_underlying hu,atW,hv,asAgg,anj]
       rw [bg]
       exact ⟨_,w,G',pt,.inl bB,R1.Fq o ho q1 (fun b=>by rw [q2];exact jJ ru b _ _)⟩
      ·cases h
    ·cases h
   ·cases h
  ·cases h
 ·cases h
theorem eY:∀ (vs:List Value) (w:World) (b off:Nat),(∀ b',b'≠b→(w.setCells b off vs).heap[b']? = w.heap[b']?) ∧
 (∀ cur e fr,w.heap[b]? = some (.cells cur e fr)→∃ FL,(w.setCells b off vs).heap[b]? = some (.cells FL e fr)∧FL.size=cur.size) ∧
 (w.setCells b off vs).heap.size=w.heap.size∧(w.setCells b off vs).os=w.os∧(w.setCells b off vs).output=w.output∧(w.setCells b off vs).tape=w.tape
 | [],w,b,off=>⟨fun _ _=>rfl,fun cur e fr h=>⟨cur,h,rfl⟩,rfl,rfl,rfl,rfl⟩
 | v::r,w,b,off=>by
  obtain ⟨h1,h2,h3,h4,h5,h6⟩:=eY r (w.setCell ⟨b,off,none⟩ v) b (off+1)
  refine ⟨fun b' hb=>?_,fun cur e fr h=>?_,?_,h4,h5,h6⟩
  ·rw [World.setCells,h1 b' hb]
   simp only [World.setCell,Array.getElem?_modify];rw [if_neg (Ne.symm hb)]
  ·obtain ⟨FL,q1,q2⟩:=h2 (cur.setIfInBounds off v) e fr (by
    simp only [World.setCell,Array.getElem?_modify,if_true,h,Option.map_some]
    simp)
   exact ⟨FL,by rw [World.setCells];exact q1,by rw [q2];simp⟩
  ·rw [World.setCells,h3];simp
theorem Room.set {b k:Nat} (h:Room w b k) (b' off:Nat) (vs:List Value):Room (w.setCells b' off vs) b k:=by
 obtain ⟨cur,e,fr,h1,h2,h3⟩:=h;obtain ⟨q1,q2,_⟩:=eY vs w b' off
 by_cases hb:b=b'
 ·subst hb
  obtain ⟨FL,r1,r2⟩:=q2 cur e fr h1
  exact ⟨FL,e,fr,r1,by omega,by rw [r2];exact h3⟩
 ·exact ⟨cur,e,fr,by rw [q1 b hb];exact h1,h2,h3⟩
theorem Room.some {b k:Nat} (h:Room w b k) {j:Nat} (hj:j<k):(w.cell? ⟨b,j,none⟩).isSome=true∧w.frozen? ⟨b,j,none⟩=false:=by
 obtain ⟨cur,e,fr,h1,h2,h3⟩:=h
 have aT:j<cur.size:=by omega
 refine ⟨by simp [World.cell?,h1,aT],?_⟩
 have:=h3 j aT;simp only [World.frozen?,h1];obtain ⟨lo,hi⟩:=fr;simp only at this ⊢;rw [Bool.and_eq_false_iff,decide_eq_false_iff_not,decide_eq_false_iff_not];omega
theorem sI {b k off:Nat} (h:Room w b k) (vs:List Value) (hk:off+vs.length≤k) {j:Nat} (hj:j<vs.length):(w.setCells b off vs).cell? ⟨b,off+j,none⟩=some vs[j]:=
 World.cell?_setCells_in b vs off w (fun i hi=>(h.some (by omega)).1) j hj
theorem mP (b off:Nat) (vs:List Value) {b' j:Nat} (h:b' = b→j<off∨off+vs.length≤j):(w.setCells b off vs).cell? ⟨b',j,none⟩=w.cell? ⟨b',j,none⟩:=
 World.cell?_setCells_out b vs off w ⟨b',j,none⟩ (fun h1 _=>h h1)
theorem N9 {T:TypeId} {i:TI} (hT:Zb P T i) {b off k:Nat} {v:Value} (hr:Room w b k) (hk:off+v.cells.size≤k) (hs:v.cells.size=i.size) (h1:∀ j,j<v.cells.size→(aS v.cells j).oneCell' = true) :
 (Instr.storeAt T (.pointer (some ⟨b,off,none⟩)) v).run P w = .ok () (w.setCells b off v.cells.toList):=by
 obtain ⟨pi,z,p1,p2,_⟩:=hT.info
 have gG:=run_storeCells_cells (P:=P) b off v.cells.toList 0 w (fun j hj=>by simpa using (hr.some (j:=off+j) (by simp at hj;omega)).1) (fun j hj=>by simpa using (hr.some (j:=off+j) (by simp at hj;omega)).2)
  (fun x hx=>by
   obtain ⟨j,hj,rfl⟩:=List.getElem_of_mem hx
   have nR:j<v.cells.size:=by simpa using hj
   have:=h1 j nR
   simpa [aS,xE,nR] using this)
 simp only [Nat.add_zero] at gG
 have fC:¬ (v.cells.size≠pi.size):=by omega
 simp [Instr.storeAt,Instr.sureAddr,storeVar,sizeOf,typeInfo,p1,hs,p2,gG]
theorem Rel.Oa (R:Rel E C s a w G pt) {id st bR off:Nat} {x:Operand} {dB dB':D} {vs:List Value} {G':Nat→Nat}
 (hb:get s (2*id+1)=dB) (hid:id<C.m) (hblk:bE (pt id st)=some bR) (Zz:0<cB s w pt bR id)
 (hE:Ext w G w G') (hG:∀ b,dP b (aV s x) (a.eval x)=0→G' b=G b) (gG:aL dB' = aL dB)
 (hB:pK (w.setCells bR off vs) G' pt id dB')
 (hc:∀ b,gY (w.setCells bR off vs) pt b id dB'≤cB s w pt b id+dP b (aV s x) (a.eval x)) (Di:∀ b,b=bR→dP b (aV s x) (a.eval x)=0) (hG0:G bR=0)  :
 Rel E C ((2*id+1,dB')::au (dU s x strip gN) s) a (w.setCells bR off vs) G' pt:=by
 obtain ⟨R0,t0⟩:=R.qE x;have hgb:=uT (s:=s) x strip gN;obtain ⟨q1,q2,q3,q4,q5,q6⟩:=eY vs w bR off
 have Zn:∀ b i,cB (au (dU s x strip gN) s) w pt b i=cB s w pt b i:=fun b i=>by simp only [cB,hgb]
 have hEw:Ext w G (w.setCells bR off vs) G':=⟨fun b j hj=>by
  refine mP bR off vs fun h=>?_
  subst h;omega,hE.le⟩
 refine R0.step (fun _=>False) (fun i=>i=id) (fun b=>b=bR∨0<dP b (aV s x) (a.eval x)) rfl R0.df (fun t _=>⟨by simp,rfl⟩) (fun i hi=>⟨by simp [hi],rfl⟩) hEw (fun _ _ _ h=>h)
  (fun b hb _=>⟨q1 b (fun h=>hb (.inl h)),hG b (by have:=fun h=>hb (.inr h);omega)⟩) (fun b hb t _=>?_) (fun b hb i hi=>?_) (fun b hb=>?_) (fun t h=>h.elim) (fun i hi=>?_) (fun c1 c2 b=>?_)
  (fun b hb=>?_) q4 q5 q6 (by rw [q3];exact bT _)
 ·rcases hb with hb | hb
  ·subst hb;exact R0.bt (by rw [Zn];exact Zz) t
  ·have:=R0.qZ b t;have:=t0 b;have:=R.ct b;omega
 ·rcases hb with hb | hb
  ·subst hb;exact R0.bb (by rw [Zn];exact Zz) hi
  ·have:=R0.jq b i;have:=t0 b;have:=R.ct b;omega
 ·rcases hb with hb | hb
  ·subst hb;exact (R.cb b (mK Zz (R.jq b id))).2
  ·exact (R.held x hb).2
 ·subst hi
  refine ⟨hid,by simpa using hB,fun j hj=>?_⟩
  simp only [aW,if_true] at hj
  exact R.pf i j (by rw [hb];omega)
 ·have e1:=aG (n:=E.n) (f:=cT (au (dU s x strip gN) s) a b) (g:=cT ((2*id+1,dB')::au (dU s x strip gN) s) a b) (fun i _=>(c1 i (fun h=>h) b).symm)
  have e2:=dG (n:=C.m) (f:=cB (au (dU s x strip gN) s) w pt b) (g:=cB ((2*id+1,dB')::au (dU s x strip gN) s) (w.setCells bR off vs) pt b) hid (fun i hi=>c2 i hi b)
  have e3:cB ((2*id+1,dB')::au (dU s x strip gN) s) (w.setCells bR off vs) pt b id=gY (w.setCells bR off vs) pt b id dB':=by simp only [cB,aW,if_true]
  have e4:=Zn b id;have h1:=t0 b;have h2:=R.ct b;have h3:=R.cb b;have h4:=hc b;rw [q3];unfold TC at *
  exact ⟨by omega,fun h=>h3 (by omega)⟩
 ·rw [q3] at hb
  rw [hG b ?_];exact R.gz b hb
  rcases Nat.eq_zero_or_pos (dP b (aV s x) (a.eval x)) with h | h
  ·exact h
  ·have:=(R.held x h).1;omega
theorem Rel.FM (R:Rel E C s a w G pt) {id st bR off:Nat} {ar:Bool} {t:Ty} {l l':List t.den} {vs:List Value}
 (hb:get s (2*id+1) = .aX st true ar t l) (hblk:bE (pt id st)=some bR) (hl:l'.length=l.length) (hE:fA (w.setCells bR off vs) G t l' bR 0) :
 Rel E C ((2*id+1,.aX st true ar t l')::s) a (w.setCells bR off vs) G pt:=by
 obtain ⟨g1,g2,g3⟩:=wB R hb hblk;have hB:=R.bx id;rw [hb] at hB;have hB:=hB rfl
 have:=R.Oa (x:=.func 0) (off:=off) (vs:=vs) (G':=G) (dB':=.aX st true ar t l') hb (fT R (id:=id) (by rw [hb];simp)) hblk
  (by simp only [cB,hb,gY,dh,hblk,if_true];omega) (Ext.refl _ _) (fun _ _=>rfl) rfl
  (fun _=>by
   cases ar with
   | true=>
    simp only [if_true] at hB ⊢;obtain ⟨b,h1,h2,h3,h4⟩:=hB
    have:b=bR:=by rw [h1] at hblk;simpa [bE] using hblk
    subst this
    exact ⟨b,h1,by rw [hl];exact h2.set _ _ _,h3,hE⟩
   | false=>
    simp only [xD,if_false] at hB ⊢;obtain ⟨ad,n,c,h1,h2,h3,h4⟩:=hB
    refine ⟨ad,n,c,h1,by omega,h3,?_⟩
    rcases h4 with ⟨h5,_⟩ | ⟨b,h5,h6,h7,h8,h9,QF⟩
    ·subst h5;rw [h1] at hblk;simp [bE] at hblk
    ·subst h5
     have:b=bR:=by rw [h1] at hblk;simpa [bE] using hblk
     subst this
     exact .inr ⟨b,rfl,h6,h7.set _ _ _,by omega,hE,QF⟩)
  (fun b=>by simp only [cB,hb,gY];omega) (fun b _=>rfl) g3
 exact this
theorem V8 (d:D):(leaves (view d)).length=(leaves d).length:=by cases d<;>simp [view,leaves,dD]
theorem Q7 (HP:nS P E) (R:Rel E C s a w G pt) (iN:o.dst=none) (T:Nat) (x y:Operand) (aY:o.op = .store T x y) {k:IntKind} {l':List Int} (hy:aV s y = .av k l')
 (h:uG E s T x k l' = some (true,u)):fB P E C o a w (au u s):=by unfold uG at h;cases h
theorem V9 (HP:nS P E) (R:Rel E C s a w G pt) (iN:o.dst=none) (T:Nat) (x y:Operand) (aY:o.op = .store T x y)
 (h:pW E o s T x y=some (true,u)):fB P E C o a w (au u s):=by
 have Fz:=aJ R x;simp only [pW] at h;split at h
 ·rename_i i hi
  have hT:=HP.ti _ _ hi
  cases hD:iK (dW i.ty (aV s y)) with
  | false=>simp [hD] at h
  | true=>
   simp only [hD,aQ] at h;obtain ⟨q1,q2⟩:=xZ (t:=i.ty) (aJ R y)
   have wo:fZ (dW i.ty (aV s y))=false:=by cases hd:dW i.ty (aV s y)<;>rw [hd] at hD<;>first | rfl | (simp [iK] at hD)
   obtain ⟨l1,l2,l3⟩:=sH q1 hD
   have rz:∀ b,dP b (aV s y) (a.eval y)≤1:=fun b=>by have:=(R.qE y).2 b;have:=R.ct b;omega
   have Q8:∀ j,j<(a.eval y).cells.size→(aS (a.eval y).cells j).oneCell' = true:=fun j hj=>(l1 j (by omega)).2
   have run:∀ (b off k:Nat),Room w b k→off+(a.eval y).cells.size≤k→(a.eval y).cells.size=i.size→a.eval x = .pointer (some ⟨b,off,none⟩) →
    (execOp a.eval o).run P w = .ok .skip (w.setCells b off (a.eval y).cells.toList):=by
    intro b off k h1 h2 h3 h4;have:=N9 hT h1 h2 h3 Q8;simp [execOp,aY,h4,this]
   -- the two ways to hand the leaves on
   have two:∀ yc:Bool,∃ G',Ext w G w G'∧(∀ b,dP b (aV s y) (a.eval y)=0→G' b=G b) ∧
    aP w G' pt (bif yc then leaves (dW i.ty (aV s y)) else (leaves (dW i.ty (aV s y))).map bP) (aS (a.eval y).cells) ∧
    (bif yc then leaves (dW i.ty (aV s y)) else (leaves (dW i.ty (aV s y))).map bP).length=(a.eval y).cells.size ∧
    ∀ b,aM b (bif yc then leaves (dW i.ty (aV s y)) else (leaves (dW i.ty (aV s y))).map bP) (aS (a.eval y).cells)=dP b (aV s y) (a.eval y):=by
    intro yc
    cases yc with
    | true=>exact ⟨G,Ext.refl _ _,fun _ _=>rfl,l1,l2.symm,fun b=>by simp only [aQ];rw [l3,q2]⟩
    | false=>
     obtain ⟨e',Ud⟩:=l1.share (fun b=>by rw [l3,q2];exact rz b)
     exact ⟨_,e',fun b hb=>iL (by rw [l3,q2];exact hb),Ud,by simp only [bJ,pJ];exact l2.symm,fun b=>by simp only [bJ];rw [oK,l3,q2]⟩
   have ank:∃ G',Ext w G w G'∧Rel E C (au (dU s y share oH) s) a w G' pt∧aP w G' pt ((leaves (view (dW i.ty (aV s y)))).map dD) (aS (a.eval y).cells) ∧
    (leaves (view (dW i.ty (aV s y)))).length=(a.eval y).cells.size:=by
    obtain ⟨G',e',R1,uQ,Ll,_⟩:=R.Jz y (QO wo)
    have hvr:aU w G' pt (view (dW i.ty (aV s y))) (a.eval y):=by
     cases hd:aV s y with
     | lS=>
      rw [hd] at uQ;have hv:a.eval y = .slice none 0 0:=uQ;rw [hv]
      cases ht:i.ty<;>first | rfl | skip
      exact ⟨none,0,0,rfl,rfl,by simp,by simp,.inl rfl⟩
     | _=>rw [hd] at uQ;exact uQ
    have hdv:iK (view (dW i.ty (aV s y)))=true:=by cases hd:dW i.ty (aV s y)<;>rw [hd] at hD<;>first | rfl | exact hD
    obtain ⟨k1,k2,k3⟩:=sH hvr hdv
    exact ⟨G',e',R1,k1.view0 (fun b=>by rw [k3];exact uL _ _ _ wo),k2.symm⟩
   split at h
   ·rename_i id st off hx
    rw [hx] at Fz;obtain ⟨bR,hblk,hv⟩:=Fz;split at h
    ·rename_i st' cs tV
     simp only [QM] at h;obtain ⟨G',e',DY,hr',Yr,VZ⟩:=two (NG E y)
     generalize (bif NG E y then leaves (dW i.ty (aV s y)) else (leaves (dW i.ty (aV s y))).map bP)=ds at h hr' Yr VZ
     cases hb:(Nat.beq st st' && Nat.beq ds.length i.size&&Nat.ble (off+i.size) cs.length) with
     | false=>simp only [hb,bJ,reduceCtorEq] at h
     | true=>
      simp only [hb,aQ,bn,gD,true_and] at h;subst h;simp only [dA] at hb;obtain ⟨⟨nI,ku⟩,Lp⟩:=hb;have gG:=fD nI;subst gG;have ku:=fD ku;have Lp:=Ii Lp;have hB:=R.bx id;rw [tV] at hB;obtain ⟨bU,g1,g2,g3,g4⟩:=hB rfl
      have xq:bU=bR:=by rw [g1] at hblk;simpa [bE] using hblk
      subst xq
      have bB:=run bU off cs.length g2 (by omega) (by omega) hv
      have Wh:∀ b,cB s w pt b id=dh b (pt id st)+aM b cs (aB w bU):=fun b=>by simp only [cB,tV,gY,hblk,sw]
      have hib:dh bU (pt id st)=1:=by simp [dh,hblk]
      have Q5:(a.eval y).cells.toList.length=ds.length:=by simp;omega
      have BD:∀ j,j<ds.length→aB (w.setCells bU off (a.eval y).cells.toList) bU (off+j)=aS (a.eval y).cells j:=by
       intro j hj
       have vQ:j<(a.eval y).cells.toList.length:=by omega
       simp only [aB]
       rw [sI g2 _ (by omega) vQ]
       have hj3:j<(a.eval y).cells.size:=by simpa using vQ
       simp [aS,xE,hj3]
      have sD:∀ j,(j<off∨off+ds.length≤j)→aB (w.setCells bU off (a.eval y).cells.toList) bU j=aB w bU j:=by
       intro j hj;simp only [aB]
       rw [mP bU off _ (fun _=>by omega)]
      have Il:off+ds.length≤cs.length:=by omega
      have Di:dP bU (aV s y) (a.eval y)=0:=by
       have h1:=(R.qE y).2 bU;have h2:=R.ct bU;have h3:=(R.qE y).1.jq bU id
       have h4:cB (au (dU s y strip gN) s) w pt bU id=cB s w pt bU id:=by simp only [cB,uT]
       have h5:=Wh bU;omega
      have atY:∀ b,aM b (dL cs off ds) (aB (w.setCells bU off (a.eval y).cells.toList) bU)≤aM b cs (aB w bU)+dP b (aV s y) (a.eval y):=by
       intro b
       have aT:(cs.take off).length=off:=by simp;omega
       have h1:cs=cs.take off++((cs.drop off).take ds.length++cs.drop (off+ds.length)):=by
        rw [←List.drop_drop,List.take_append_drop,List.take_append_drop]
       have hlm:((cs.drop off).take ds.length).length=ds.length:=by simp;omega
       have a1:aM b cs (aB w bU)=aM b (cs.take off) (aB w bU)+(aM b ((cs.drop off).take ds.length) (fun j=>aB w bU (off+j))+aM b (cs.drop (off+ds.length)) (fun j=>aB w bU (off+(ds.length+j)))):=by
        conv=>lhs;rw [h1]
        rw [iB,iB,aT,hlm]
       simp only [dL,iB,aT]
       have b1:aM b (cs.take off) (aB (w.setCells bU off (a.eval y).cells.toList) bU)=aM b (cs.take off) (aB w bU):=iR fun k hk=>sD k (by omega)
       have b2:aM b ds (fun j=>aB (w.setCells bU off (a.eval y).cells.toList) bU (off+j))=dP b (aV s y) (a.eval y):=by
        rw [←VZ b];exact iR fun k hk=>BD k hk
       have b3:aM b (cs.drop (off+ds.length)) (fun j=>aB (w.setCells bU off (a.eval y).cells.toList) bU (off+(ds.length+j)))=aM b (cs.drop (off+ds.length)) (fun j=>aB w bU (off+(ds.length+j))):=iR fun k hk=>sD _ (by omega)
       omega
      have hEs:Ext w G (w.setCells bU off (a.eval y).cells.toList) G':=⟨fun b j hj=>mP bU off _ (fun h=>by subst h;omega),e'.le⟩
      obtain ⟨sh1,sh2,sh3,_⟩:=eY (a.eval y).cells.toList w bU off
      have atZ:G' bU=0:=by rw [DY bU Di];exact g3
      have key:=R.Oa (x:=y) (off:=off) (vs:=(a.eval y).cells.toList) (G':=G') (dB':=.aI st true (dL cs off ds)) tV (fT R (id:=id) (by rw [tV];simp)) hblk (by rw [Wh,hib];omega) e' DY rfl
       (fun _=>⟨bU,g1,by rw [gZ Il];exact g2.set _ _ _,atZ,fun j hj=>by
        obtain ⟨t1,t2⟩:=rC Il hj
        by_cases hi2:off≤j∧j<off+ds.length
        ·have anl:=BD (j - off) (by omega)
         rw [show off+(j - off)=j by omega] at anl
         rw [t1 hi2 (by omega),anl]
         have:=hr' (j - off) (by omega)
         refine ⟨this.1.mono ⟨fun b k hk=>mP bU off _ (fun h=>by subst h;omega),fun _=>bT _⟩ (fun _ _ _ h=>h) fun b hb=>⟨sh1 b (fun h=>?_),rfl⟩,this.2⟩
         subst h
         have h1:=kI (b:=b) (ds:=ds) (f:=aS (a.eval y).cells) (j - off) (by omega)
         have h2:=VZ b;omega
        ·have Ue:j<cs.length:=by rw [gZ Il] at hj;exact hj
         rw [t2 hi2 Ue,sD j (by omega)]
         refine ⟨(g4 j Ue).1.mono hEs (fun _ _ _ h=>h) fun b hb=>⟨sh1 b (fun h=>?_),DY b ?_⟩,(g4 j Ue).2⟩
         ·subst h
          have h1:=kI (b:=b) (ds:=cs) (f:=aB w b) j Ue;have h2:=Wh b;have h3:=R.jq b id;have h4:=R.ct b;omega
         ·have h1:=kI (b:=b) (ds:=cs) (f:=aB w bU) j Ue
          have h2:=Wh b;have h3:=(R.qE y).2 b;have h4:=(R.qE y).1.jq b id
          have h5:cB (au (dU s y strip gN) s) w pt b id=cB s w pt b id:=by simp only [cB,uT]
          have h6:=R.ct b
          omega⟩)
       (fun b=>by
        simp only [gY,hblk,sw];rw [Wh];have:=atY b
        omega)
       (fun b hb=>by subst hb;exact Di) g3
      rw [bg]
      exact ⟨_,_,G',pt,.inr ⟨bB,rfl⟩,by rw [iN];exact key⟩
    ·cases h
   ·rename_i id st i0 off es hx
    rw [hx] at Fz;obtain ⟨bR,hblk,hv⟩:=Fz;split at h
    ·rename_i st' ar t l tV
     split at h
     ·rename_i v hd
      cases hb:(Nat.beq st st' && Nat.beq es t.nc&&Nat.beq (leaves (dW i.ty (aV s y))).length i.size&&Nat.ble (off+i.size) t.nc) with
      | false=>simp only [hb,bJ,reduceCtorEq] at h
      | true=>
       simp only [hb,aQ,bn,gD] at h;simp only [dA] at hb;obtain ⟨⟨⟨nI,ku⟩,Lp⟩,V7⟩:=hb;have gG:=fD nI;have hes:=fD ku;have Il:=fD Lp;have hle:=Ii V7;subst gG;subst hes;obtain ⟨aT,rfl⟩:=h
       have aT:i0<l.length:=by simpa [Nat.blt_eq] using aT
       obtain ⟨G',e',R1,v1,v2⟩:=ank
       have anm:get (au (dU s y share oH) s) (2*id+1) = .aX st true ar t l:=by rw [uT];exact tV
       obtain ⟨g1,g2,g3⟩:=wB R1 anm hblk;have hvl:=V8 (dW i.ty (aV s y))
       have eU:(a.eval y).cells.size=i.size:=by omega
       have hmul:(i0+1)*t.nc≤l.length*t.nc:=zF _ aT;rw [Nat.add_mul] at hmul
       have bB:=run bR (i0*t.nc+off) (l.length*t.nc) g2 (by omega) (by omega) hv
       have e:l.getD i0 t.dflt=l[i0]:=by simp [aT]
       rw [e] at hd
       obtain ⟨q1,q2,q3,q4⟩:=FD (pt:=pt) (g1 i0 aT) 0 t.nc (by omega)
       rw [show ((enc t l[i0]).drop 0).take t.nc=enc t l[i0] by rw [List.drop_zero,←jZ t l[i0],List.take_length]] at q1 q4
       have Nh:=jZ t l[i0]
       have hEs:Ext w G' (w.setCells bR (i0*t.nc+off) (a.eval y).cells.toList) G':=⟨fun b j hj=>mP bR _ _ (fun h=>by subst h;omega),fun _=>bT _⟩
       have hls:(a.eval y).cells.toList.length=i.size:=by simp;omega
       have Yo:∀ j,j<i.size→(w.setCells bR (i0*t.nc+off) (a.eval y).cells.toList).cell? ⟨bR,i0*t.nc+off+j,none⟩=some (aS (a.eval y).cells j):=by
        intro j hj
        rw [sI g2 _ (by omega) (by omega:j<(a.eval y).cells.toList.length)]
        have hj3:j<(a.eval y).cells.size:=by omega
        simp [aS,xE,hj3]
       have out:∀ j,(j<i0*t.nc+off∨i0*t.nc+off+i.size≤j)→(w.setCells bR (i0*t.nc+off) (a.eval y).cells.toList).cell? ⟨bR,j,none⟩=w.cell? ⟨bR,j,none⟩:=by
        intro j hj
        exact mP bR _ _ (fun _=>by omega)
       have hrl:=gZ (cs:=enc t l[i0]) (ds:=leaves (view (dW i.ty (aV s y)))) (off:=off) (by omega)
       have zS:aP w G' pt ((dL (enc t l[i0]) off (leaves (view (dW i.ty (aV s y))))).map dD) (fun j=>aB (w.setCells bR (i0*t.nc+off) (a.eval y).cells.toList) bR (i0*t.nc+j)):=by
        intro j hj;rw [pJ] at hj;rw [List.getElem_map]
        obtain ⟨t1,t2⟩:=rC (cs:=enc t l[i0]) (ds:=leaves (view (dW i.ty (aV s y)))) (off:=off) (by omega) hj
        by_cases hi2:off≤j∧j<off+(leaves (view (dW i.ty (aV s y)))).length
        ·rw [t1 hi2 (by omega)]
         have h1:=v1 (j - off) (by rw [pJ];omega)
         rw [List.getElem_map] at h1
         have h2:=Yo (j - off) (by omega)
         rw [show i0*t.nc+off+(j - off)=i0*t.nc+j by omega] at h2
         simp only [aB,h2,sw];exact h1
        ·have Ue:j<(enc t l[i0]).length:=by omega
         rw [t2 hi2 Ue];have h1:=q1 j Ue
         have h2:=out (i0*t.nc+j) (by omega)
         have h3:∀ b,dS b (enc t l[i0])[j] (aB w bR (0+i0*t.nc+0+j))=0:=fun b=>by
          have:=kI (b:=b) (ds:=enc t l[i0]) (f:=fun j=>aB w bR (0+i0*t.nc+0+j)) j Ue
          have:=q4 b;omega
         simp only [aB,h2];simp only [aB,Nat.zero_add,Nat.add_zero] at h1 h3;exact ⟨h1.1.view0 h3,h1.2⟩
       have gy:∀ j,j<t.nc→(w.setCells bR (i0*t.nc+off) (a.eval y).cells.toList).cell? ⟨bR,i0*t.nc+j,none⟩=some (aB (w.setCells bR (i0*t.nc+off) (a.eval y).cells.toList) bR (i0*t.nc+j)):=by
        intro j hj
        exact rA (g2.set _ _ _) (by omega)
       obtain ⟨d1,_,_⟩:=zQ hEs (b:=bR) (o:=i0*t.nc) hd zS gy
       have hRE:fA (w.setCells bR (i0*t.nc+off) (a.eval y).cells.toList) G' t (l.set i0 v) bR 0:=by
        intro k hk
        have hk':k<l.length:=by simpa using hk
        by_cases FN:k=i0
        ·subst FN
         rw [List.getElem_set_self,Nat.zero_add];exact d1
        ·rw [List.getElem_set_ne (Ne.symm FN)]
         refine (g1 k hk').mono hEs fun j K8 vQ=>out j ?_
         rcases Nat.lt_or_ge k i0 with h | h
         ·have:(k+1)*t.nc≤i0*t.nc:=zF _ h
          rw [Nat.add_mul] at this;omega
         ·have:(i0+1)*t.nc≤k*t.nc:=zF _ (by omega)
          rw [Nat.add_mul] at this;omega
       rw [bg]
       exact ⟨_,_,G',pt,.inr ⟨bB,rfl⟩,by rw [iN];exact R1.FM anm hblk (by simp) hRE⟩
     ·cases h
    ·cases h
   ·cases h
 ·cases h
theorem Ob (HP:nS P E) (R:Rel E C s a w G pt) (iN:o.dst=none) (T:Nat) (x y:Operand) (aY:o.op = .store T x y)
 (h:uH E o s T x y=some (true,u)):fB P E C o a w (au u s):=by
 unfold uH at h;split at h
 ·rename_i k l' hy
  exact Q7 HP R iN T x y aY hy h
 ·exact V9 HP R iN T x y aY h
theorem fA.cells {t:Ty} {l:List t.den} {b off:Nat} (h:fA w G t l b off):∀ j,j<l.length*t.nc→∃ v,w.cell? ⟨b,off+j,none⟩=some v∧v.oneCell' = true:=by
 intro j hj
 have Im:0<t.nc:=by
  rcases Nat.eq_zero_or_pos t.nc with h0 | h0
  ·rw [h0] at hj;omega
  ·exact h0
 have hi:j / t.nc<l.length:=by
  rw [Nat.div_lt_iff_lt_mul Im];exact hj
 have hm:j%t.nc<(enc t l[j / t.nc]).length:=by rw [jZ];exact Nat.mod_lt _ Im
 obtain ⟨v,h1,h2,h3⟩:=wh (fun _ _=>none) (h (j / t.nc) hi) (j%t.nc) hm
 have hlf:=rE t _ _ (zG hm);refine ⟨v,?_,h2.one hlf.1 hlf.2⟩;rw [←h1]
 congr 2
 have:=Nat.div_add_mod j t.nc;rw [Nat.mul_comm] at this;omega
theorem Ez (R:Rel E C s a w G pt) {t:Ty} (y:Operand) {l':List t.den} (h:tail s t (aV s y)=some l') :
 (∀ w1,(Builtin.lenOf (a.eval y)).run P w1 = .ok l'.length w1)∧(∀ k n,a.eval y≠.int k n)∧∀ k,k≤l'.length→∃ news:List Value,(∀ w1:World,w1.heap=w.heap→(Builtin.firstCells t.nc k (a.eval y)).run P w1 = .ok news.toArray w1) ∧
  news.length=k*t.nc∧(∀ v∈news,v.oneCell' = true) ∧
  ∀ w' G' b off,Ext w G w' G'→(∀ j (h:j<news.length),w'.cell? ⟨b,off+j,none⟩=some news[j])→fA w' G' t (l'.take k) b off:=by
 have hy:=aJ R y
 have gen:∀ d,content s d=some ⟨t,l'⟩→aV s y=d→(∀ w1,(Builtin.lenOf (a.eval y)).run P w1 = .ok l'.length w1)∧(∀ k n,a.eval y≠.int k n)∧∀ k,k≤l'.length→∃ news:List Value,(∀ w1:World,w1.heap=w.heap→(Builtin.firstCells t.nc k (a.eval y)).run P w1 = .ok news.toArray w1) ∧
  news.length=k*t.nc∧(∀ v∈news,v.oneCell' = true) ∧
  ∀ w' G' b off,Ext w G w' G'→(∀ j (h:j<news.length),w'.cell? ⟨b,off+j,none⟩=some news[j])→fA w' G' t (l'.take k) b off:=by
  intro d hc hd;rw [hd] at hy;obtain ⟨ad,n,c,hv,hn,oN,Im,Nh⟩:=uP R hy hc
  refine ⟨fun w1=>by rw [hv];simp [Builtin.lenOf,hn],fun k n=>by rw [hv];simp,fun k hk=>?_⟩
  rcases Nh with Nh | ⟨b,off,had,hE⟩
  ·subst Nh
   have Ni:k=0:=by simpa using hk
   subst Ni
   refine ⟨[],fun w1 _=>?_,by simp,by simp,fun _ _ _ _ _ _ i hi=>by simp at hi⟩
   rw [hv]
   cases ad with
   | none=>simp [Builtin.firstCells]
   | some ad=>exact run_firstCells_some w1 t.nc 0 ad n c [] (by simp) (by simp)
  ·subst had
   have hks:k*t.nc≤l'.length*t.nc:=zF _ hk
   have gy:∀ j,j<k*t.nc→w.cell? ⟨b,off+j,none⟩=some (aB w b (off+j))∧(aB w b (off+j)).oneCell' = true:=by
    intro j hj
    obtain ⟨v,h1,h2⟩:=hE.cells j (by omega)
    have:aB w b (off+j)=v:=by simp [aB,h1]
    rw [this];exact ⟨h1,h2⟩
   refine ⟨(List.range (k*t.nc)).map (fun j=>aB w b (off+j)),fun w1 Od=>?_,by simp,fun v hv=>?_,fun w' G' b' aCl hE' T9=>?_⟩
   ·rw [hv]
    refine run_firstCells_some w1 t.nc k ⟨b,off,none⟩ n c _ (by simp) fun j v hj=>?_
    have nR:j<k*t.nc:=by
     rcases Nat.lt_or_ge j (k*t.nc) with h | h
     ·exact h
     ·rw [List.getElem?_eq_none (by simpa using h)] at hj;cases hj
    rw [Addr.add_lit]
    have h1:w1.cell? ⟨b,off+j,none⟩=w.cell? ⟨b,off+j,none⟩:=by simp [World.cell?,Od]
    rw [h1,(gy j nR).1]
    simpa [nR] using hj
   ·obtain ⟨j,hj,rfl⟩:=List.mem_map.1 hv
    exact (gy j (by simpa using hj)).2
   ·intro i hi
    have Yv:i<k:=by simp at hi;omega
    have ZA:i<l'.length:=by omega
    have e:(l'.take k)[i]=l'[i]:=by simp
    rw [e]
    refine (hE i ZA).move hE' fun j hj=>?_
    have h2:(i+1)*t.nc≤k*t.nc:=zF _ Yv;rw [Nat.add_mul] at h2
    have h3:=T9 (i*t.nc+j) (by simp;omega)
    rw [←Nat.add_assoc] at h3;rw [h3,List.getElem_map,List.getElem_range,←Nat.add_assoc]
    have h4:=(gy (i*t.nc+j) (by omega)).1
    rw [←Nat.add_assoc] at h4;exact h4.symm
 unfold tail at h;split at h
 ·rename_i hd
  simp only [bn] at h;subst h;rw [hd] at hy;have hv:a.eval y = .slice none 0 0:=hy
  refine ⟨fun w1=>by rw [hv];simp [Builtin.lenOf],fun k n=>by rw [hv];simp,fun k hk=>⟨[],fun w1 _=>by rw [hv];simp [Builtin.firstCells],by simp at hk;simp [hk],by simp,fun _ _ _ _ _ _ i hi=>by simp at hi⟩⟩
 ·rename_i l hd
  split at h
  ·simp only [bn] at h
   subst h;rw [hd] at hy;obtain ⟨sv,hv,hl,oN⟩:=hy
   have eU:l.length=sv.size:=by rw [←hl];exact oM sv
   refine ⟨fun w1=>by rw [hv];simp [Builtin.lenOf,eU],fun k n=>by rw [hv];simp,fun k hk=>⟨(l.take k).map fun x=>Value.int .u8 x,fun w1 _=>?_,by simp [Ty.nc];omega,fun v hv=>?_,fun w' G' b off hE' T9 i hi=>?_⟩⟩
   ·rw [hv]
    simp only [Builtin.firstCells,Sem.run_pure]
    congr 1
    apply Array.ext';simp only [Array.toList_map,←hl,lZ,List.map_take,List.map_map]
    have:(sv.extract 0 k).data.toList=sv.data.toList.take k:=by simp
    rw [this,List.map_take];rfl
   ·obtain ⟨x,_,rfl⟩:=List.mem_map.1 hv;rfl
   ·have Yv:i<l.length:=by simp at hi;omega
    have hik:i<k:=by simp at hi;omega
    have h1:=T9 i (by simp;omega)
    simp only [Ty.nc,Nat.mul_one,dK]
    refine ⟨by rw [h1];simp,?_⟩
    have:(l.take k)[i]=l[i]:=by simp
    rw [this]
    have h2:l[i]=(sv.data[i]'(by simpa [eU] using Yv)).toNat:=by
     have:l[i]=(lZ sv)[i]'(by rw [hl];exact Yv):=by simp [hl]
     rw [this];simp [lZ]
    rw [h2]
    have:=(sv.data[i]'(by simpa [eU] using Yv)).toNat_lt
    unfold IntKind.has;simp [IntKind.min,IntKind.max,IntKind.bits,IntKind.signed];omega
  ·cases h
 ·split at h
  ·rename_i t' l hc
   split at h
   ·rename_i hb
    have he:=Ty.eq_of_beq hb;subst he;simp only [bn] at h;have:xG (Ty.eq_of_beq hb) l=l:=rfl;rw [this] at h;subst h;exact gen _ hc rfl
   ·cases h
  ·cases h
theorem Oe {T T' ty e:TypeId} {i:TypeInfo} {EA:TypeDesc} {b o0 n c m:Nat} {vy:Value} {news:List Value} (hT:P.underlying T=some (.slice e)) (JF:P.underlying T' = some EA) (hd:(∃ e',EA = .slice e')∨EA = .string) (hi:P.info? e=some i)
 (hl:(Builtin.lenOf vy).run P w = .ok m w) (hf:(Builtin.firstCells i.size m vy).run P w = .ok news.toArray w) (jr:n+m≤c)
 (gG:(storeCells ⟨b,o0+n*i.size,none⟩ news).run P w = .ok () (w.setCells b (o0+n*i.size) news)) :
 (Builtin.append_ #[T,T'] ty #[.slice (some ⟨b,o0,none⟩) n c,vy]).run P w = .ok (.slice (some ⟨b,o0,none⟩) (n+m) c) (w.setCells b (o0+n*i.size) news):=by
 rcases hd with ⟨e',rfl⟩ | rfl<;>simp [Builtin.append_,run_underlying hT,run_underlying JF,sizeOf,typeInfo,hi,hl,jr,hf,Addr.add_lit,gG]
theorem Og {T T' ty e:TypeId} {i:TypeInfo} {EA:TypeDesc} {c:Nat} {vy:Value} {news:List Value} (hT:P.underlying T=some (.slice e)) (JF:P.underlying T' = some EA) (hd:(∃ e',EA = .slice e')∨EA = .string) (hi:P.info? e=some i)
 (hl:(Builtin.lenOf vy).run P w = .ok 0 w) (hf:(Builtin.firstCells i.size 0 vy).run P w = .ok news.toArray w) :
 (Builtin.append_ #[T,T'] ty #[.slice none 0 c,vy]).run P w = .ok (.slice none 0 c) w:=by
 rcases hd with ⟨e',rfl⟩ | rfl<;>simp [Builtin.append_,run_underlying hT,run_underlying JF,sizeOf,typeInfo,hi,hl,hf]
theorem Oh {T T' ty e:TypeId} {i:TypeInfo} {z:Value} {EA:TypeDesc} {ad:Option Addr} {n c m:Nat} {vy:Value} {olds news:List Value} (hT:P.underlying T=some (.slice e)) (JF:P.underlying T' = some EA) (hd:(∃ e',EA = .slice e')∨EA = .string) (hi:P.info? e=some i)
 (hz:i.zero=some z) (hl:(Builtin.lenOf vy).run P w = .ok m w) (hf:(Builtin.firstCells i.size m vy).run P w.drew = .ok news.toArray w.drew)
 (ho:(Builtin.firstCells i.size n (.slice ad n c)).run P w.drew = .ok olds.toArray w.drew) (jr:c<n+m) (Ui:0<i.bytes) (nT:(n+m)*i.bytes≤lW) :
 (Builtin.append_ #[T,T'] ty #[.slice ad n c,vy]).run P w = .ok (.slice (some ⟨w.heap.size,0,none⟩) (n+m) (grownCap w (n+m) c e))
  (w.drew.alloc (.cells (olds++news++(Builtin.zeroCells z.cells (grownCap w (n+m) c e - (n+m))).toList).toArray e)):=by
 have hn:¬ (n+m≤c):=by omega
 have hle:n+m≤(n+m)*i.bytes:=Nat.le_mul_of_pos_right _ Ui
 have at0:¬ (9223372036854775807<((n:Int)+(m:Int))):=by unfold lW at nT;omega
 have at1:¬ (281474976710656<Builtin.nextslicecap (n+m) c*i.bytes):=by
  have:=growslice_fits jr (show (n+m)*i.bytes≤140737488355328 from nT)
  omega
 have ahK:olds.toArray++news.toArray++Builtin.zeroCells z.cells (grownCap w (n+m) c e - (n+m))=(olds++news++(Builtin.zeroCells z.cells (grownCap w (n+m) c e - (n+m))).toList).toArray:=by
  apply Array.ext';simp
 rw [←ahK]
 rcases hd with ⟨e',rfl⟩ | rfl<;>simp [Builtin.append_,run_underlying hT,run_underlying JF,sizeOf,typeInfo,zeroValue,hi,hz,hl,hn,at0,at1,Question.forced,hf,ho,newRow,grownCap]<;>(congr 2;apply Array.ext';simp)
theorem Rel.ZB (R:Rel E C s a w G pt) (o:Oper) (ho:∀ t,o.dst=some t→t<E.n) {w':World} {f:Nat} {t:Ty} {L:List t.den} {b c o0 d:Nat} (hf:(f=1∨f=2)∧o0=0∧d=0∨f=3∧(d=0∨c=0))
 (hE:Ext w G w' (fun x=>if x=b then (if f=2 then 0 else o0+d+L.length*t.nc) else G x)) (hT:∀ x,x≠b→x<w.heap.size→w'.heap[x]? = w.heap[x]?)
 (h0:TC E.n C.m s a w pt b=0∧(C.w0.heap.size≤b∨C.X b)) (yj:b<w'.heap.size) (hL:fA w' (fun x=>if x=b then (if f=2 then 0 else o0+d+L.length*t.nc) else G x) t L b o0)
 (room:Room w' b (o0+d+c*t.nc)) (hc:L.length≤c) (hbz:L.length*t.xk≤lW) (Im:0<t.nc)
 (Y5:w'.os=w.os) (sD:w'.output=w.output) (Y6:w'.tape=w.tape) (Y7:w.heap.size≤w'.heap.size) :
 Rel E C (au (dN o (.sl f t L)) s) (a.put o.dst (.slice (some ⟨b,o0,none⟩) L.length c)) w' (fun x=>if x=b then (if f=2 then 0 else o0+d+L.length*t.nc) else G x) pt:=by
 refine R.put o ho (fun x=>x=b) hE (fun x hx QH=>⟨hT x hx QH,if_neg hx⟩) (fun x hx=>by subst hx;exact h0) ?_ (fun x=>?_) (fun x hx=>?_) Y5 sD Y6 Y7
 ·refine ⟨_,_,_,rfl,rfl,hbz,?_⟩
  rcases hf with ⟨rfl | rfl,rfl,rfl⟩ | ⟨rfl,hd⟩
  ·simp only [Nat.zero_add] at room
   exact .inr ⟨b,rfl,by simp,room,hc,hL,Im⟩
  ·simp only [Nat.zero_add] at room
   exact .inr ⟨b,rfl,by simp,room,hc,hL,Im⟩
  ·exact .inr ⟨b,o0,d,rfl,hd,by simp,room,hc,hL,Im⟩
 ·have e:dP x (.sl f t L) (.slice (some ⟨b,o0,none⟩) L.length c)=if f≠0∧b=x then 1 else 0:=rfl
  rw [e]
  by_cases h:b=x
  ·subst h
   refine ⟨by split<;>omega,fun _=>⟨h0.1,yj,h0.2⟩⟩
  ·simp [h]
 ·rw [if_neg (by omega)]
  exact R.gz x (by omega)
theorem Rel.Uj (R:Rel E C s a w G pt) {id st:Nat} {t:Ty} {l:List t.den} {ar:Bool} (hb:get s (2*id+1) = .aX st true ar t l) :
 Rel E C ((2*id+1,.aX st false ar t [])::s) a w G pt ∧
  ∀ b,TC E.n C.m ((2*id+1,.aX st false ar t [])::s) a w pt b+dh b (pt id st)=TC E.n C.m s a w pt b:=by
 have hid:=fT R (id:=id) (by rw [hb];simp)
 have tc:∀ b,TC E.n C.m ((2*id+1,.aX st false ar t [])::s) a w pt b+dh b (pt id st)=TC E.n C.m s a w pt b:=by
  intro b
  have e1:=aG (n:=E.n) (f:=cT s a b) (g:=cT ((2*id+1,.aX st false ar t [])::s) a b) (fun i _=>by simp only [cT,get_bt])
  have e2:=dG (n:=C.m) (f:=cB s w pt b) (g:=cB ((2*id+1,.aX st false ar t [])::s) w pt b) hid (fun i hi=>by simp only [cB,aW,hi,if_false])
  have e3:cB ((2*id+1,.aX st false ar t [])::s) w pt b id=0:=by simp only [cB,aW,if_true,gY]
  have e4:cB s w pt b id=dh b (pt id st):=by simp only [cB,hb,gY]
  unfold TC;omega
 refine ⟨R.step (fun _=>False) (fun i=>i=id) (fun _=>False) rfl R.df (fun t _=>⟨by simp,rfl⟩) (fun i hi=>⟨by simp [hi],rfl⟩) (Ext.refl _ _) (fun _ _ _ h=>h) (fun _ _ _=>⟨rfl,rfl⟩)
  (fun b h=>h.elim) (fun b h=>h.elim) (fun b h=>h.elim) (fun t h=>h.elim) (fun i hi=>?_) (fun _ _ b=>?_) R.gz rfl rfl rfl (bT _),tc⟩
 ·subst hi
  refine ⟨hid,?_,fun j hj=>?_⟩
  ·simp only [aW,if_true,pK];intro h;cases h
  ·simp only [aW,if_true] at hj
   exact R.pf i j (by rw [hb];exact hj)
 ·have h1:=tc b
  have h2:=R.ct b;have h3:=R.cb b
  exact ⟨by omega,fun h=>h3 (by omega)⟩
theorem Wi {t:Ty} {l:List t.den} {ad:Option Addr} {c:Nat} (h:VQ w G 0 t l ad c) :
 ∃ olds:List Value,(∀ w1:World,w1.heap=w.heap→(Builtin.firstCells t.nc l.length (.slice ad l.length c)).run P w1 = .ok olds.toArray w1)∧olds.length=l.length*t.nc ∧
  ∀ w' G' b,Ext w G w' G'→(∀ j (h:j<olds.length),w'.cell? ⟨b,0+j,none⟩=some olds[j])→fA w' G' t l b 0:=by
 rcases h.2 with h1 | ⟨b,o,h1,hG,h5⟩
 ·subst h1
  refine ⟨[],fun w1 _=>?_,by simp,fun _ _ _ _ _ i hi=>by simp at hi⟩
  cases ad with
  | none=>simp [Builtin.firstCells]
  | some q=>
   refine run_firstCells_some w1 t.nc 0 q 0 c _ (by simp) fun j v hj=>?_
   simp at hj
 ·subst h1
  have gy:∀ j,j<l.length*t.nc→w.cell? ⟨b,o+j,none⟩=some (aB w b (o+j)):=by
   intro j hj;obtain ⟨v,h1,_⟩:=h5.cells j hj;simp only [aB];rw [h1];rfl
  refine ⟨(List.range (l.length*t.nc)).map (fun j=>aB w b (o+j)),fun w1 Od=>?_,by simp,fun w' G' b' hE' T9 i hi=>(h5 i hi).move hE' fun j hj=>?_⟩
  ·refine run_firstCells_some w1 t.nc l.length ⟨b,o,none⟩ l.length c _ (by simp) fun j v hj=>?_
   have nR:j<l.length*t.nc:=by
    rcases Nat.lt_or_ge j (l.length*t.nc) with h | h
    ·exact h
    ·rw [List.getElem?_eq_none (by simpa using h)] at hj;cases hj
   rw [Addr.add_mid]
   have h1:w1.cell? ⟨b,o+j,none⟩=w.cell? ⟨b,o+j,none⟩:=by simp [World.cell?,Od]
   rw [h1,gy j nR]
   simpa [nR] using hj
  ·have h2:(i+1)*t.nc≤l.length*t.nc:=zF _ hi
   rw [Nat.add_mul] at h2
   have h3:=T9 (i*t.nc+j) (by simp;omega)
   rw [←Nat.add_assoc] at h3;rw [h3,List.getElem_map,List.getElem_range,Nat.add_assoc]
   exact (gy (i*t.nc+j) (by omega)).symm
theorem FP {s0:St} (R0:Rel E C s0 a w G pt) (ho:∀ t,o.dst=some t→t<E.n) {T T':Nat} {x y:Operand} {e:TypeId} {pi:TypeInfo} {z:Value} {EA:TypeDesc}
 (aY:o.op = .call { callee:=.builtin .append,args:=#[x,y],argTypes:=#[T,T'] })
 (hT:P.underlying T=some (.slice e)) (JF:P.underlying T' = some EA) (hd:(∃ e',EA = .slice e')∨EA = .string) (hi:P.info? e=some pi) (hz:pi.zero=some z) (Yu:z.cells.size=pi.size)
 {t:Ty} (eU:pi.size=t.nc) (Im:0<t.nc) (yj:pi.bytes=t.xk) (Ui:0<pi.bytes)
 {f:Nat} (hf:f=1∨f=2∨f=3) {l l':List t.den} {ad:Option Addr} {c:Nat} (hx:a.eval x = .slice ad l.length c) (jr:¬ l.length+l'.length≤c)
 {olds:List Value} (k1:∀ w1:World,w1.heap=w.heap→(Builtin.firstCells t.nc l.length (.slice ad l.length c)).run P w1 = .ok olds.toArray w1) (k2:olds.length=l.length*t.nc)
 (k3:∀ w' G' b,Ext w G w' G'→(∀ j (h:j<olds.length),w'.cell? ⟨b,0+j,none⟩=some olds[j])→fA w' G' t l b 0)
 (hlen:∀ w1,(Builtin.lenOf (a.eval y)).run P w1 = .ok l'.length w1)
 {news:List Value} (hfc:∀ w1:World,w1.heap=w.heap→(Builtin.firstCells t.nc l'.length (a.eval y)).run P w1 = .ok news.toArray w1) (hnl:news.length=l'.length*t.nc) (Q8:∀ v∈news,v.oneCell' = true)
 (Dj:∀ w' G' b off,Ext w G w' G'→(∀ j (h:j<news.length),w'.cell? ⟨b,off+j,none⟩=some news[j])→fA w' G' t l' b off)
 (nT:(l.length+l'.length)*pi.bytes≤lW) :
 fB P E C o a w (au (dN o (.sl f t (l++l'))) s0):=by
 have run:∀ v w',(Builtin.append_ #[T,T'] o.type #[a.eval x,a.eval y]).run P w = .ok v w'→(execOp a.eval o).run P w = .ok (.value v) w':=by
  intro v w' h;simp [execOp,aY,resolve,invoke,builtin,h]
 have hbz:(l++l').length*t.xk≤lW:=by rw [nP,←yj];exact nT
 have app:∀ w' G' b,fA w' G' t l b 0→fA w' G' t l' b (l.length*t.nc)→fA w' G' t (l++l') b 0:=by
  intro w' G' b h1 h2 i hi
  by_cases h:i<l.length
  ·rw [List.getElem_append_left h];exact h1 i h
  ·rw [List.getElem_append_right (by omega)]
   have:=h2 (i - l.length) (by simp at hi;omega)
   rw [show l.length*t.nc+(i - l.length)*t.nc=0+i*t.nc by rw [Nat.zero_add,←Nat.add_mul,Nat.add_sub_cancel' (by omega)]] at this
   exact this
 have hr:=run _ _ (by rw [hx];exact Oh (ty:=o.type) (olds:=olds) hT JF hd hi hz (hlen w) (by rw [eU];exact hfc _ rfl) (by rw [eU];exact k1 _ rfl) (by omega) Ui nT)
 have Q9:=grownCap_ge w (l.length+l'.length) c e;generalize grownCap w (l.length+l'.length) c e=c' at hr Q9;generalize Uh:olds++news++(Builtin.zeroCells z.cells (c' - (l.length+l'.length))).toList=cells at hr
 have Uk:l.length+l'.length=(l++l').length:=by simp
 have qF:cells.length=c' * t.nc:=by
  rw [←Uh];simp only [nP,k2,hnl,Array.length_toList,size_zeroCells,Yu,eU,←Nat.add_mul]
  congr 1;omega
 have R1:=R0.drew (w':=w.drew) rfl rfl rfl rfl
 have gy:∀ j (h:j<cells.length),(w.drew.alloc (.cells cells.toArray e)).cell? ⟨w.heap.size,j,none⟩=some cells[j]:=by
  intro j hj;have:=bV (w:=w.drew) cells.toArray e (0,0) j
  exact this.trans (by simp [hj])
 have hEG:∀ x,(if x=w.heap.size then (if f=2 then 0 else 0+0+(l++l').length*t.nc) else G x)=(if x=w.heap.size then (if f=2 then 0 else 0+0+(l++l').length*t.nc) else G x):=fun _=>rfl
 have hEE:Ext w.drew G (w.drew.alloc (.cells cells.toArray e)) (fun x=>if x=w.heap.size then (if f=2 then 0 else 0+0+(l++l').length*t.nc) else G x):=by
  have:=kX (w:=w.drew) (.cells cells.toArray e) R1.gz
  refine ⟨this.cell,fun x=>?_⟩
  show G x≤if x=_ then _ else _
  by_cases h:x=w.heap.size
  ·rw [h,R0.gz _ (bT _)];exact mY _
  ·rw [if_neg h];exact bT _
 have anq:Ext w G (w.drew.alloc (.cells cells.toArray e)) (fun x=>if x=w.heap.size then (if f=2 then 0 else 0+0+(l++l').length*t.nc) else G x):=⟨hEE.cell,hEE.le⟩
 have adZ:TC E.n C.m s0 a w.drew pt w.heap.size=0:=R1.fresh
 have:=R1.ZB o ho (w':=w.drew.alloc (.cells cells.toArray e)) (L:=l++l') (b:=w.heap.size) (c:=c') (o0:=0) (d:=0) (by omega) hEE (fun x _ QH=>alloc_old _ QH) ⟨adZ,.inl R0.hs⟩ (by simp)
  (app _ _ _ (k3 _ _ _ anq fun j hj=>by
   rw [gy (0+j) (by rw [qF];have:(l.length+l'.length)*t.nc≤c' * t.nc:=zF _ Q9
                    rw [Nat.add_mul] at this;omega)]
   subst Uh
   simp [hj])
   (Dj _ _ _ _ anq fun j hj=>by
    rw [gy (l.length*t.nc+j) (by rw [qF];have:(l.length+l'.length)*t.nc≤c' * t.nc:=zF _ Q9
                                 rw [Nat.add_mul] at this;omega)]
    subst Uh
    congr 1
    rw [List.getElem_append_left (by simp;omega),List.getElem_append_right (by omega)]
    congr 1
    omega))
  ⟨cells.toArray,e,(0,0),ou _,by simp [qF],fun _ _=>by simp⟩ (by omega) hbz Im rfl rfl rfl (by simp)
 rw [←Uk] at this;exact ⟨_,_,_,pt,.inl hr,this⟩
theorem uV {s0:St} (R0:Rel E C s0 a w G pt) (ho:∀ t,o.dst=some t→t<E.n) {T T':Nat} {x y:Operand} {e:TypeId} {pi:TypeInfo} {z:Value} {EA:TypeDesc}
 (aY:o.op = .call { callee:=.builtin .append,args:=#[x,y],argTypes:=#[T,T'] })
 (hT:P.underlying T=some (.slice e)) (JF:P.underlying T' = some EA) (hd:(∃ e',EA = .slice e')∨EA = .string) (hi:P.info? e=some pi) (hz:pi.zero=some z) (Yu:z.cells.size=pi.size)
 {t:Ty} (eU:pi.size=t.nc) (Im:0<t.nc) (yj:pi.bytes=t.xk) (Ui:0<pi.bytes)
 {f:Nat} (hf:f=1∨f=2∨f=3) {l l':List t.den} {ad:Option Addr} {n c:Nat} (hx:a.eval x = .slice ad n c) (hn:n=l.length) (kW:VQ w G f t l ad c)
 (Di:∀ b o,ad=some ⟨b,o,none⟩→TC E.n C.m s0 a w pt b=0∧(C.w0.heap.size≤b∨C.X b)∧b<w.heap.size)
 (hlen:∀ w1,(Builtin.lenOf (a.eval y)).run P w1 = .ok l'.length w1)
 {news:List Value} (hfc:∀ w1:World,w1.heap=w.heap→(Builtin.firstCells t.nc l'.length (a.eval y)).run P w1 = .ok news.toArray w1) (hnl:news.length=l'.length*t.nc) (Q8:∀ v∈news,v.oneCell' = true)
 (Dj:∀ w' G' b off,Ext w G w' G'→(∀ j (h:j<news.length),w'.cell? ⟨b,off+j,none⟩=some news[j])→fA w' G' t l' b off)
 (nT:(l.length+l'.length)*pi.bytes≤lW) :
 fB P E C o a w (au (dN o (.sl f t (l++l'))) s0):=by
 have run:∀ v w',(Builtin.append_ #[T,T'] o.type #[a.eval x,a.eval y]).run P w = .ok v w'→(execOp a.eval o).run P w = .ok (.value v) w':=by
  intro v w' h;simp [execOp,aY,resolve,invoke,builtin,h]
 have hbz:(l++l').length*t.xk≤lW:=by rw [nP,←yj];exact nT
 have app:∀ w' G' b o0,fA w' G' t l b o0→fA w' G' t l' b (o0+l.length*t.nc)→fA w' G' t (l++l') b o0:=by
  intro w' G' b o0 h1 h2 i hi
  by_cases h:i<l.length
  ·rw [List.getElem_append_left h];exact h1 i h
  ·rw [List.getElem_append_right (by omega)]
   have:=h2 (i - l.length) (by simp at hi;omega)
   rw [Nat.add_assoc,←Nat.add_mul,Nat.add_sub_cancel' (by omega)] at this
   exact this
 have split:(ad=none∧l=[]∧c=0)∨∃ b o0 d,ad=some ⟨b,o0,none⟩∧((f=1∨f=2)∧o0=0∧d=0∨f=3∧(d=0∨c=0))∧(G b=if f=2 then 0 else o0+d+l.length*t.nc)∧Room w b (o0+d+c*t.nc)∧l.length≤c∧fA w G t l b o0:=by
  rcases hf with rfl | rfl | rfl
  ·rcases kW with h | ⟨b,h1,h2,h3,h4,h5,_⟩
   ·exact .inl h
   ·exact .inr ⟨b,0,0,h1,.inl ⟨.inl rfl,rfl,rfl⟩,by simpa using h2,by simpa using h3,h4,h5⟩
  ·rcases kW with h | ⟨b,h1,h2,h3,h4,h5,_⟩
   ·exact .inl h
   ·exact .inr ⟨b,0,0,h1,.inl ⟨.inr rfl,rfl,rfl⟩,by simpa using h2,by simpa using h3,h4,h5⟩
  ·rcases kW with h | ⟨b,o0,d,h1,h0,h2,h3,h4,h5,_⟩
   ·exact .inl h
   ·exact .inr ⟨b,o0,d,h1,.inr ⟨rfl,h0⟩,by simpa using h2,h3,h4,h5⟩
 subst hn
 by_cases jr:l.length+l'.length≤c
 ·rcases split with ⟨h1,h2,h3⟩ | ⟨b,o0,d,h1,hfo,hG,h3,h4,h5⟩
  ·subst h1 h2 h3
   have hl0:l' = []:=by simp at jr;exact jr
   subst hl0
   have hr:=run _ _ (by rw [hx];exact Og (c:=0) (ty:=o.type) hT JF hd hi (hlen w) (by rw [eU];exact hfc w rfl))
   refine ⟨_,w,G,pt,.inl hr,R0.put o ho (fun _=>False) (Ext.refl _ _) (fun _ _ _=>⟨rfl,rfl⟩) (fun _ h=>h.elim) ?_ (fun b=>?_) R0.gz rfl rfl rfl (bT _)⟩
   ·refine ⟨none,0,0,rfl,rfl,by simp,?_⟩
    rcases hf with rfl | rfl | rfl
    ·exact .inl ⟨rfl,rfl,rfl⟩
    ·exact .inl ⟨rfl,rfl,rfl⟩
    ·exact .inl ⟨rfl,rfl,rfl⟩
   ·rw [show dP b (.sl f t ([]++[])) (.slice none 0 0)=0 from rfl];simp
  ·subst h1
   obtain ⟨g1,g2,g3⟩:=Di b o0 rfl;have ahN:(l.length+l'.length)*t.nc≤c*t.nc:=zF _ jr;rw [Nat.add_mul] at ahN
   have Yp:d=0∨news.length=0:=by
    rcases hfo with h | ⟨_,h | h⟩
    ·exact .inl h.2.2
    ·exact .inl h
    ·rw [hnl];exact .inr (by rw [show l'.length=0 by omega,Nat.zero_mul])
   have gG:=run_storeCells_cells (P:=P) b (o0+l.length*t.nc) news 0 w (fun j hj=>by simpa using (h3.some (j:=o0+l.length*t.nc+j) (by omega)).1) (fun j hj=>by simpa using (h3.some (j:=o0+l.length*t.nc+j) (by omega)).2) Q8
   simp only [Nat.add_zero] at gG
   have hr:=run _ _ (by rw [hx];exact Oe (ty:=o.type) hT JF hd hi (hlen w) (by rw [eU];exact hfc w rfl) jr (by rw [eU];exact gG))
   rw [eU] at hr;obtain ⟨q1,q2,q3,q4,q5,q6⟩:=eY news w b (o0+l.length*t.nc)
   have hEE:Ext w G (w.setCells b (o0+l.length*t.nc) news) (fun x=>if x=b then (if f=2 then 0 else o0+d+(l++l').length*t.nc) else G x):=by
    refine ⟨fun x j hj=>mP b _ _ (fun h=>?_),fun x=>?_⟩
    ·subst h
     rw [hG] at hj
     split at hj<;>omega
    ·show G x≤if x=b then _ else _
     by_cases h:x=b
     ·subst h
      rw [if_pos rfl,hG,nP,Nat.add_mul]
      split<;>omega
     ·rw [if_neg h];exact bT _
   have Uk:l.length+l'.length=(l++l').length:=by simp
   have:=R0.ZB o ho (w':=w.setCells b (o0+l.length*t.nc) news) (L:=l++l') (b:=b) (c:=c) hfo hEE (fun x hx _=>q1 x hx) ⟨g1,g2⟩ (by rw [q3];exact g3)
    (app _ _ _ _ (h5.mono hEE fun j _ vQ=>mP b _ _ (fun _=>.inl (by omega))) (Dj _ _ _ _ hEE fun j hj=>sI h3 news (by omega) hj))
    (h3.set _ _ _) (by rw [←Uk];exact jr) hbz Im q4 q5 q6 (by rw [q3];exact bT _)
   rw [←Uk] at this;exact ⟨_,_,_,pt,.inl hr,this⟩
 ·obtain ⟨olds,k1,k2,k3⟩:∃ olds:List Value,(∀ w1:World,w1.heap=w.heap→(Builtin.firstCells t.nc l.length (.slice ad l.length c)).run P w1 = .ok olds.toArray w1)∧olds.length=l.length*t.nc ∧
   ∀ w' G' b,Ext w G w' G'→(∀ j (h:j<olds.length),w'.cell? ⟨b,0+j,none⟩=some olds[j])→fA w' G' t l b 0:=by
   rcases split with ⟨h1,h2,h3⟩ | ⟨b,o0,d,h1,_,hG,h3,h4,h5⟩
   ·subst h1 h2 h3
    exact ⟨[],fun w1 _=>by simp [Builtin.firstCells],by simp,fun _ _ _ _ _ i hi=>by simp at hi⟩
   ·subst h1
    have gy:∀ j,j<l.length*t.nc→w.cell? ⟨b,o0+j,none⟩=some (aB w b (o0+j)):=by
     intro j hj;obtain ⟨v,h1,_⟩:=h5.cells j hj;simp only [aB];rw [h1];rfl
    refine ⟨(List.range (l.length*t.nc)).map (fun j=>aB w b (o0+j)),fun w1 Od=>?_,by simp,fun w' G' b' hE' T9 i hi=>(h5 i hi).move hE' fun j hj=>?_⟩
    ·refine run_firstCells_some w1 t.nc l.length ⟨b,o0,none⟩ l.length c _ (by simp) fun j v hj=>?_
     have nR:j<l.length*t.nc:=by
      rcases Nat.lt_or_ge j (l.length*t.nc) with h | h
      ·exact h
      ·rw [List.getElem?_eq_none (by simpa using h)] at hj;cases hj
     rw [Addr.add_lit]
     have h1:w1.cell? ⟨b,o0+j,none⟩=w.cell? ⟨b,o0+j,none⟩:=by simp [World.cell?,Od]
     rw [h1,gy j nR]
     simpa [nR] using hj
    ·have h2:(i+1)*t.nc≤l.length*t.nc:=zF _ hi
     rw [Nat.add_mul] at h2
     have h3:=T9 (i*t.nc+j) (by simp;omega)
     rw [←Nat.add_assoc] at h3;rw [h3,List.getElem_map,List.getElem_range]
     have h4:=gy (i*t.nc+j) (by omega)
     rw [←Nat.add_assoc] at h4;rw [h4,←Nat.add_assoc]
  exact FP (P:=P) R0 ho aY hT JF hd hi hz Yu eU Im yj Ui hf hx jr k1 k2 k3 hlen hfc hnl Q8 Dj nT
theorem Wj (HP:nS P E) (R:Rel E C s a w G pt) (ho:∀ t,o.dst=some t→t<E.n) (T T':Nat) (x y:Operand) (hN:TW E T' = true)
 (aY:o.op = .call { callee:=.builtin .append,args:=#[x,y],argTypes:=#[T,T'] })
 (h:vX E o s T x y=some (true,u)):fB P E C o a w (au u s):=by
 have Fz:=aJ R x
 obtain ⟨EA,JF,hd⟩:∃ EA,P.underlying T' = some EA∧((∃ e',EA = .slice e')∨EA = .string):=by
  unfold TW at hN;split at hN
  ·rename_i i hi
   refine ⟨_,(HP.ti _ _ hi).und,?_⟩;split at hN
   ·rename_i e' he;exact .inl ⟨e',he⟩
   ·rename_i he;exact .inr he
   ·cases hN
  ·cases hN
 simp only [vX] at h;split at h
 ·rename_i i hi
  have hu:=(HP.ti _ _ hi).und;split at h
  ·rename_i e hde
   rw [hde] at hu;split at h
   ·rename_i ei Ng
    obtain ⟨pi,z,p1,p2,p3,p4,p5,p6,p7,p8⟩:=(HP.ti _ _ Ng).info
    cases hb:(Nat.beq ei.size ei.ty.nc&&Nat.beq ei.bytes ei.ty.xk&&Nat.blt 0 ei.size&&Nat.blt 0 ei.bytes) with
    | false=>simp only [hb,bJ,reduceCtorEq] at h
    | true=>
     simp only [hb,aQ] at h;simp only [dA] at hb;obtain ⟨⟨⟨nI,ku⟩,Lp⟩,V7⟩:=hb;have nI:=fD nI;have ku:=fD ku
     have Lp:0<ei.size:=by simpa [Nat.blt_eq] using Lp
     have V7:0<ei.bytes:=by simpa [Nat.blt_eq] using V7
     split at h
     ·rename_i hx
      rw [hx] at Fz;have hv:a.eval x = .slice none 0 0:=Fz;split at h
      ·rename_i l' ht
       simp only [bn,gD] at h;obtain ⟨nT,rfl⟩:=h;have nT:=Ii nT;obtain ⟨k1,k2,k3⟩:=Ez (P:=P) R y ht;obtain ⟨news,n1,n2,n3,n4⟩:=k3 _ (bT _);rw [List.take_length] at n4
       have:=uV (P:=P) R ho aY hu JF hd p1 p4 (by omega) (t:=ei.ty) (by omega) (by omega) (by omega) (by omega) (f:=2) (.inr (.inl rfl)) (l:=[]) (l':=l') hv rfl (.inl ⟨rfl,rfl,rfl⟩) (fun b o h=>by cases h)
        k1 n1 n2 n3 n4 (by rw [p3];simpa using nT)
       exact this
      ·cases h
     ·rename_i f t l hx
      cases hf0:Nat.beq f 0 with
      | true=>simp [hf0] at h
      | false=>
       simp only [hf0,bJ] at h;split at h
       ·rename_i l' tx ht
        cases Ra:t.beq ei.ty with
        | false=>simp [Ra] at h
        | true=>
         simp only [Ra,aQ,bn,gD] at h;obtain ⟨nT,rfl⟩:=h;have nT:=Ii nT;have hte:=Ty.eq_of_beq Ra;subst hte;obtain ⟨k1,k2,k3⟩:=Ez (P:=P) R y ht;obtain ⟨news,n1,n2,n3,n4⟩:=k3 _ (bT _);rw [List.take_length] at n4;have zU:get s (2*tx) = .sl f ei.ty l:=hx;rw [hx] at Fz;obtain ⟨ad,n,c,hv,hn,oN,kW⟩:=Fz
         have hf:f=1∨f=2∨f=3:=by
          match f,hf0,kW with
          | 1,_,_=>exact .inl rfl
          | 2,_,_=>exact .inr (.inl rfl)
          | 3,_,_=>exact .inr (.inr rfl)
          | (k+4),_,h=>exact h.elim
         have hxn:tx<E.n:=xX R (t:=tx) (by rw [zU];simp [gN,Dc,hf0])
         obtain ⟨R0,t0⟩:=R.Za tx hxn (d:=.undef) trivial (fun b=>dX b _)
         have:=uV (P:=P) R0 ho aY hu JF hd p1 p4 (by omega) (t:=ei.ty) (by omega) (by omega) (by omega) (by omega) hf hv hn kW (fun b o0 yg=>by
          have hc:cT s a b tx=1:=by
           subst yg;have e:a.tmps.getD tx Go.undef = .slice (some ⟨b,o0,none⟩) n c:=hv;simp only [cT,zU,e]
           show (if f≠0∧b=b then 1 else 0)=1
           rw [if_pos ⟨by omega,rfl⟩]
          have h1:=t0 b;have h2:=R.ct b
          have h3:=R.cb b (by omega)
          exact ⟨by omega,h3.2,h3.1⟩) k1 n1 n2 n3 n4 (by rw [p3];exact nT)
         exact this
       ·cases h
     ·rename_i id st hx
      split at h
      ·rename_i st' t l tV
       split at h
       ·rename_i l' ht
        cases Ra:(Nat.beq st st' && t.beq ei.ty) with
        | false=>simp [Ra] at h
        | true=>
         simp only [Ra,aQ,bn,gD] at h;obtain ⟨nT,rfl⟩:=h;have nT:=Ii nT;simp only [dA] at Ra;have gG:=fD Ra.1;subst gG;have hte:=Ty.eq_of_beq Ra.2;subst hte;obtain ⟨k1,k2,k3⟩:=Ez (P:=P) R y ht;obtain ⟨news,n1,n2,n3,n4⟩:=k3 _ (bT _);rw [List.take_length] at n4;have hB:=R.bx id;rw [tV] at hB;have hB:=hB rfl;simp only [xD,if_false] at hB;obtain ⟨ad,n,c,h1,hn,oN,kW⟩:=hB;rw [hx] at Fz;have Fz:pt id st=some (a.eval x):=Fz
         have hv:a.eval x = .slice ad n c:=by rw [Fz] at h1;exact Option.some.inj h1
         obtain ⟨R0,t0⟩:=R.Uj tV
         have:=uV (P:=P) R0 ho aY hu JF hd p1 p4 (by omega) (t:=ei.ty) (by omega) (by omega) (by omega) (by omega) (.inr (.inl rfl)) hv hn kW (fun b o0 yg=>by
          have h0:o0=0:=by
           rcases kW with h | ⟨b',e,_⟩
           ·rw [h.1] at yg;cases yg
           ·rw [e] at yg;cases yg;rfl
          subst h0
          have hc:dh b (pt id st)=1:=by
           subst yg;rw [h1];simp [dh,bE]
          have h1:=t0 b;have h2:=R.ct b
          have h3:=R.cb b (by omega)
          exact ⟨by omega,h3.2,h3.1⟩) k1 n1 n2 n3 n4 (by rw [p3];exact nT)
         exact this
       ·cases h
      ·cases h
     ·rename_i t l hx
      split at h
      ·rename_i l' ht
       cases Ra:t.beq ei.ty with
       | false=>simp [Ra] at h
       | true=>
        simp only [Ra,aQ,bn,gD,dA] at h;obtain ⟨⟨uO,nT⟩,rfl⟩:=h
        have uO:0<l'.length:=by simpa [Nat.blt_eq] using uO
        have nT:=Ii nT;have hte:=Ty.eq_of_beq Ra;subst hte;obtain ⟨k1,k2,k3⟩:=Ez (P:=P) R y ht;obtain ⟨news,n1,n2,n3,n4⟩:=k3 _ (bT _);rw [List.take_length] at n4;rw [hx] at Fz;obtain ⟨ad,n,hv,hn,oN,kW⟩:=Fz;subst hn;obtain ⟨olds,q1,q2,q3⟩:=Wi (P:=P) kW
        exact FP (P:=P) R ho aY hu JF hd p1 p4 (by omega) (t:=ei.ty) (by omega) (by omega) (by omega) (by omega) (.inr (.inl rfl)) hv (by omega) q1 q2 q3 k1 n1 n2 n3 n4 (by rw [p3];exact nT)
      ·cases h
     ·cases h
   ·cases h
  ·cases h
 ·cases h
theorem ad3 (HP:nS P E) (R:Rel E C s a w G pt) (ho:∀ t,o.dst=some t→t<E.n) (T T':Nat) (x y:Operand)
 (aY:o.op = .call { callee:=.builtin .copy,args:=#[x,y],argTypes:=#[T,T'] })
 (h:Y2 E o s T x y=some (true,u)):fB P E C o a w (au u s):=by unfold Y2 at h;cases h
theorem Wm (HP:nS P E) (R:Rel E C s a w G pt) (ho:∀ t,o.dst=some t→t<E.n) (T:Nat) (x:Operand) (lo hi:Option Operand) (aY:o.op = .slice T x lo hi none)
 (h:zN E o s T x lo hi=some (true,u)):fB P E C o a w (au u s):=by unfold zN at h;cases h
theorem Wn (HP:nS P E) (R:Rel E C s a w G pt) (ho:∀ t,o.dst=some t→t<E.n) (T:Nat) (x:Operand) (lo hi:Option Operand) (aY:o.op = .slice T x lo hi none)
 (h:zM E o s T x lo hi=some (true,u)):fB P E C o a w (au u s):=by unfold zM at h;cases h
theorem ZC (hm:E.n≤C.m) (R:Rel E C s a w G pt) (ho:∀ t,o.dst=some t→t<E.n) (x:Operand) (aY:o.op = .move x)
 (h:Fg E o s x=some (true,u)):fB P E C o a w (au u s):=by unfold Fg at h;cases h
theorem Rel.flatten (R:Rel E C s a w G pt) {id st:Nat} {l:List (Int×(List Int×Unit))} (hb:get s (2*id+1) = .DW st l) :
 Rel E C ((2*id+1,.aX st true false rwY l)::s) a w G pt ∧
 ∀ b,TC E.n C.m ((2*id+1,.aX st true false rwY l)::s) a w pt b+aM b (Yo l) (inf w pt id st)=TC E.n C.m s a w pt b:=by
 have hid:id<C.m:=by
  rcases Nat.lt_or_ge id C.m with h | h
  ·exact h
  ·rw [R.hb id h] at hb;cases hb
 have hB:=R.bx id;rw [hb] at hB
 have tc:∀ b,TC E.n C.m ((2*id+1,.aX st true false rwY l)::s) a w pt b+aM b (Yo l) (inf w pt id st)=TC E.n C.m s a w pt b:=by
  intro b
  have e1:=aG (n:=E.n) (f:=cT s a b) (g:=cT ((2*id+1,.aX st true false rwY l)::s) a b) (fun i _=>by simp only [cT,get_bt])
  have e2:=dG (n:=C.m) (f:=cB s w pt b) (g:=cB ((2*id+1,.aX st true false rwY l)::s) w pt b) hid (fun i hi=>by simp only [cB,aW,hi,if_false])
  have e3:cB ((2*id+1,.aX st true false rwY l)::s) w pt b id=dh b (pt id st):=by simp only [cB,aW,if_true,gY]
  have e4:cB s w pt b id=dh b (pt id st)+aM b (Yo l) (inf w pt id st):=by simp only [cB,hb,gY]
  unfold TC;omega
 refine ⟨?_,tc⟩
 refine R.step (fun _=>False) (fun i=>i=id) (fun _=>False) rfl R.df (fun i _=>?_) (fun i hi=>?_) (Ext.refl _ _) (fun _ _ _ h=>h) (fun _ _ _=>⟨rfl,rfl⟩) (fun b h=>h.elim) (fun b h=>h.elim) (fun b h=>h.elim)
  (fun i hi=>hi.elim) (fun i hi=>?_) (fun c1 c2 b=>?_) R.gz rfl rfl rfl (bT _)
 ·simp only [get_bt];exact ⟨trivial,trivial⟩
 ·simp only [aW,hi,if_false];exact ⟨trivial,trivial⟩
 ·subst hi
  simp only [aW,if_true]
  refine ⟨hid,fun _=>?_,fun st' h=>?_⟩
  ·simp only [xD,if_false]
   exact hB.1
  ·refine R.pf i st' ?_
   rw [hb];exact h
 ·have h1:=tc b
  have h2:=R.ct b;have h3:=R.cb b
  exact ⟨by omega,fun h=>h3 (by omega)⟩
theorem ZE (HP:nS P E) (R:Rel E C s a w G pt) (ho:∀ t,o.dst=some t→t<E.n) (T:Nat) (x:Operand) (aY:o.op = .load T x)
 (h:Fh E o s T x=some (true,u)):fB P E C o a w (au u s):=by unfold Fh at h;cases h
theorem Rel.sameBox (R:Rel E C s a w G pt) {id:Nat} {d d':D} (hb:get s (2*id+1)=d) (fC:d≠.undef) (h1:pK w G pt id d→pK w G pt id d')
 (h2:∀ b,gY w pt b id d' = gY w pt b id d) (h3:aL d' = aL d):Rel E C ((2*id+1,d')::s) a w G pt:=by
 have hid:id<C.m:=by
  rcases Nat.lt_or_ge id C.m with h | h
  ·exact h
  ·rw [R.hb id h] at hb;exact absurd hb.symm fC
 have hB:=R.bx id;rw [hb] at hB
 have tc:∀ b,TC E.n C.m ((2*id+1,d')::s) a w pt b=TC E.n C.m s a w pt b:=by
  intro b;unfold TC
  congr 1
  ·exact aG fun i _=>by simp only [cT,get_bt]
  ·refine aG fun i _=>?_
   simp only [cB,aW]
   by_cases hi:i=id
   ·subst hi;rw [if_pos rfl,h2,hb]
   ·rw [if_neg hi]
 refine R.step (fun _=>False) (fun i=>i=id) (fun _=>False) rfl R.df (fun i _=>?_) (fun i hi=>?_) (Ext.refl _ _) (fun _ _ _ h=>h) (fun _ _ _=>⟨rfl,rfl⟩) (fun b h=>h.elim) (fun b h=>h.elim) (fun b h=>h.elim)
  (fun i hi=>hi.elim) (fun i hi=>?_) (fun c1 c2 b=>?_) R.gz rfl rfl rfl (bT _)
 ·simp only [get_bt];exact ⟨trivial,trivial⟩
 ·simp only [aW,hi,if_false];exact ⟨trivial,trivial⟩
 ·subst hi
  simp only [aW,if_true]
  refine ⟨hid,h1 hB,fun st' h=>?_⟩
  refine R.pf i st' ?_;rw [hb,←h3];exact h
 ·rw [tc b]
  exact ⟨R.ct b,R.cb b⟩
theorem anr (p q:Nat):¬ (2*p+1=2*q):=by omega
theorem at5 (p q:Nat) (h:q≠p):¬ (2*p+1=2*q+1):=by omega
theorem Rel.Oi (R:Rel E C s a w G pt) {id st:Nat} {t:Ty} {l:List (List t.den)} {h:Option (Nat×Nat×Nat)} (hb:get s (2*id+1) = .dI st t l h) :
 Rel E C ((2*id+1,.aI st true (bA t l h))::s) a w G pt:=
 R.sameBox hb (by simp) Js.1 (fun b=>rfl) rfl
theorem Rel.Oj (R:Rel E C s a w G pt) {id st:Nat} {t:Ty} {l:List (List t.den)} {h:Option (Nat×Nat×Nat)} (hb:get s (2*id+1) = .aI st true (bA t l h)) :
 Rel E C ((2*id+1,.dI st t l h)::s) a w G pt:=
 R.sameBox hb (by simp) Js.2 (fun b=>rfl) rfl
theorem FQ {cs:List D} {i:Nat} {d:D} (h:i<cs.length):dL cs i [d]=cs.set i d:=by
 simp only [dL,zC7,List.set_eq_take_append_cons_drop,h,if_true,List.singleton_append]
theorem drop_one {cs:List D} {i:Nat} (h:i<cs.length):(cs.drop i).take 1=[cs[i]]:=by
 rw [List.drop_eq_getElem_cons h];rfl
theorem oQ {t:Ty} {l:List (List t.den)} {h:Option (Nat×Nat×Nat)}:(bA t l h).length=l.length:=by
 cases h with
 | none=>simp [bA]
 | some p=>obtain ⟨i,X,st⟩:=p;simp [bA]
theorem Rc {t:Ty} {l:List (List t.den)} {i:Nat} {r:List t.den}:(bA t l none).set i (.sl 2 t r)=bA t (l.set i r) none:=by
 simp only [bA,List.map_set]
theorem Ol {t:Ty} {l:List (List t.den)} {i X st:Nat} {r:List t.den}:(bA t l (some (i,X,st))).set i (.sl 2 t r)=bA t (l.set i r) none:=by
 simp only [bA,List.map_set,List.set_set]
theorem Wo (x:Operand) (f:D→D) (h:D→Bool) (id:Nat) (d:D):dU ((2*id+1,d)::s) x f h=dU s x f h:=by
 cases x<;>simp only [dU,get_bt]
theorem Lu (x:Operand) (id:Nat) (d:D):aV ((2*id+1,d)::s) x=aV s x:=by
 cases x<;>simp only [aV,get_bt]
theorem Wp (HP:nS P E) (R:Rel E C s a w G pt) (iN:o.dst=none) (T:Nat) (x y:Operand) (aY:o.op = .store T x y)
 (h:vS E s T x y=some (true,u)):fB P E C o a w (au u s):=by
 unfold vS at h;split at h
 ·rename_i i f t r hi hy
  split at h
  ·rename_i id st off hx
   split at h
   ·rename_i st' t' l hb
    cases hc:(Nat.beq st st' && Nat.beq f 2&&Nat.beq i.size 1&&NG E y) with
    | false=>rw [hc] at h;cases h
    | true=>
     rw [hc] at h;simp only [dA] at hc;obtain ⟨⟨⟨q1,q2⟩,q3⟩,q4⟩:=hc;have q1:=fD q1;have q2:=fD q2;have q3':=fD q3;subst q1 q2;simp only [aQ] at h;split at h
     ·rename_i ht
      have Yw:=Ty.eq_of_beq ht;subst Yw;simp only [bn,gD,Nat.blt_eq] at h;obtain ⟨aT,rfl⟩:=h;have R1:=R.Oi hb
      have ad4:off<(bA t l none).length:=by rw [oQ];exact aT
      have hs:uH E o ((2*id+1,.aI st true (bA t l none))::s) T x y=some (true,dU s y strip gN++[(2*id+1,.aI st true (bA t (l.set off r) none))]):=by
       unfold uH;rw [Lu,hy];show pW _ _ _ _ _ _=_;unfold pW;rw [hi];simp only [Lu,hy,hx,aW,if_true];have e1:dW i.ty (.sl 2 t r) = .sl 2 t r:=rfl;simp only [e1,iK,aQ,leaves,QM,q4,zC7,beq_self_eq_true,Wo,FQ ad4,Rc]
       have e2:(Nat.beq st st&&Nat.beq 1 i.size&&Nat.ble (off+i.size) (bA t l none).length)=true:=by
        rw [q3',dA,dA]
        exact ⟨⟨Nat.beq_refl st,rfl⟩,by rw [Nat.ble_eq];omega⟩
       rw [e2];rfl
      obtain ⟨v,w',G',bC,hr,R2⟩:=Ob HP R1 iN T x y aY hs;refine ⟨v,w',G',bC,hr,?_⟩
      have hg:get (au (dU s y strip gN++[(2*id+1,.aI st true (bA t (l.set off r) none))]) ((2*id+1,.aI st true (bA t l none))::s)) (2*id+1) = .aI st true (bA t (l.set off r) none):=by
       rw [bg];show get ((2*id+1,_)::_) _=_;simp only [aW,if_true]
      have R3:=R2.Oj hg
      refine R3.congr fun k=>?_
      rw [bg,bg];show get ((2*id+1,_)::_) k=get ((2*id+1,_)::(2*id+1,_)::_) k;simp only [aD]
      by_cases hk:k=2*id+1
      ·simp only [hk,if_true];rfl
      ·simp only [hk,if_false]
       cases y with
       | tmp q=>
        simp only [dU]
        cases gN (get s (2*q)) with
        | true=>simp only [aQ,au,aD,hk,if_false]
        | false=>simp only [bJ,au,aD,hk,if_false]
       | _=>simp only [dU,au,aD,hk,if_false]
     ·cases h
   ·cases h
  ·cases h
 ·cases h
def yt (E:Env) (f:Nat→Nat):Env:={ E with md:=f }
theorem Rel.md (R:Rel E C s a w G pt) (f:Nat→Nat):Rel (yt E f) C s a w G pt:=
 ⟨R.sz,R.df,R.tm,R.bx,R.ht,R.hb,R.ct,R.cb,R.fr,R.ex,R.gz,R.os,R.out,R.tape,R.hs,R.pf,R.gl,R.pn⟩
theorem Rel.at6 {f:Nat→Nat} (R:Rel (yt E f) C s a w G pt):Rel E C s a w G pt:=
 ⟨R.sz,R.df,R.tm,R.bx,R.ht,R.hb,R.ct,R.cb,R.fr,R.ex,R.gz,R.os,R.out,R.tape,R.hs,R.pf,R.gl,R.pn⟩
theorem ZF (HP:nS P E) (R:Rel E C s a w G pt) (hm:E.n≤C.m) (ho:∀ t,o.dst=some t→t<E.n) (T:Nat) (x:Operand) (aY:o.op = .load T x)
 (h:BJ E o s T x=some (true,u)):fB P E C o a w (au u s):=by
 unfold BJ at h;split at h
 ·rename_i i dst hi hd
  split at h
  ·rename_i id st off hx
   split at h
   ·rename_i st' t l hb
    cases hc:(Nat.beq st st' && Nat.beq i.size 1 && !i.agg&&Nat.blt 0 t.nc && !Nat.beq dst id) with
    | false=>rw [hc] at h;cases h
    | true=>
     rw [hc] at h;simp only [dA,Bool.not_eq_true'] at hc;obtain ⟨⟨⟨⟨q1,q2⟩,q3⟩,q4⟩,q5⟩:=hc;have q1:=fD q1;have q2':=fD q2;subst q1;have fC:dst≠id:=zC5 q5;simp only [aQ,bn,gD,Nat.blt_eq] at h;obtain ⟨aT,rfl⟩:=h
     have R1:=(R.Oi hb).md fun _=>3
     have ad4:off<(bA t l none).length:=by rw [oQ];exact aT
     have oU:(bA t l none)[off] = .sl 2 t (l.getD off []):=by simp [bA,aT]
     have hs:Df (yt E fun _=>3) o ((2*id+1,.aI st true (bA t l none))::s) T x =
      some (true,[(2*id+1,.aI st true (bA t l (some (off,dst,aL (get s (2*dst+1))+1)))),(2*dst+1,.aX (aL (get s (2*dst+1))+1) true false t (l.getD off [])),(2*dst,.fU dst (aL (get s (2*dst+1))+1))]):=by
      have et:tag (yt E fun _=>3) o=3:=by simp only [tag,hd,yt];rfl
      unfold Df
      rw [show (yt E fun _=>3).T T=some i from hi]
      simp only [Lu,hx,aW,if_true,q2',drop_one ad4,oU,et,hd,q3,FQ ad4,fC,if_false]
      have e2:(Nat.beq st st&&Nat.beq [D.sl 2 t (l.getD off [])].length 1&&Nat.blt 0 1)=true:=by
       rw [dA,dA];exact ⟨⟨Nat.beq_refl st,rfl⟩,rfl⟩
      rw [e2]
      have e3:(Nat.beq 2 2&&Nat.blt 0 t.nc && !Nat.beq dst id && !false)=true:=by
       rw [q4,q5];rfl
      simp only [aQ];rw [e3];rfl
     obtain ⟨v,w',G',bC,hr,R2⟩:=Ug (E:=yt E fun _=>3) ⟨HP.ti,HP.mp,HP.cmp⟩ R1 hm ho T x aY hs
     refine ⟨v,w',G',bC,hr,?_⟩;have R2:=R2.at6
     have hg:get (au [(2*id+1,.aI st true (bA t l (some (off,dst,aL (get s (2*dst+1))+1)))),(2*dst+1,.aX (aL (get s (2*dst+1))+1) true false t (l.getD off [])),(2*dst,.fU dst (aL (get s (2*dst+1))+1))]
      ((2*id+1,.aI st true (bA t l none))::s)) (2*id+1) = .aI st true (bA t l (some (off,dst,aL (get s (2*dst+1))+1))):=by
      simp only [au,kF,aW,if_true,Ne.symm fC,if_false]
     have R3:=R2.Oj hg
     refine R3.congr fun k=>?_
     simp only [au,aD]
     by_cases hk:k=2*id+1
     ·subst hk
      simp only [if_true];rw [if_neg (anr id dst),if_neg (at5 id dst fC)]
     ·simp only [hk,if_false]
   ·cases h
  ·cases h
 ·cases h
theorem ZG (HP:nS P E) (R:Rel E C s a w G pt) (hm:E.n≤C.m) (ho:∀ t,o.dst=some t→t<E.n) (T:Nat) (x y:Operand) (aY:o.op = .makeSlice T x y)
 (h:BK E o s T x y=some (true,u)):fB P E C o a w (au u s):=by
 unfold BK at h;split at h
 ·rename_i i dst hi hd
  have hdn:=ho dst hd;have hu:=(HP.ti _ _ hi).und;split at h
  ·rename_i e hde
   rw [hde] at hu;split at h
   ·rename_i ei Ng
    obtain ⟨pi,z,p1,p2,p3,p4,p5,p6,p7,p8⟩:=(HP.ti _ _ Ng).info;split at h
    ·rename_i t t' k n k' m hty hz hx hy
     cases hb:(t'.beq t&&Nat.beq ei.size 1&&Nat.beq ei.bytes 24) with
     | false=>simp only [hb,bJ,reduceCtorEq] at h
     | true=>
      simp only [hb,aQ,bn,gD,dA,mX] at h;obtain ⟨⟨⟨h0,rfl⟩,h2⟩,rfl⟩:=h;simp only [dA] at hb;have Ra:=Ty.eq_of_beq hb.1.1;subst Ra;have nI:=fD hb.1.2;have ku:=fD hb.2;have hxv:=aJ R x;rw [hx] at hxv;have hyv:=aJ R y;rw [hy] at hyv
      have ahI:m≤9223372036854775807:=by rw [ku] at h2;unfold lW at h2;omega
      have hby:((pi.bytes:Nat):Int)*m≤281474976710656:=by rw [p3,Int.mul_comm];unfold lW at h2;omega
      have bB:(execOp a.eval o).run P w = .ok (.value (.slice (some ⟨w.heap.size,0,none⟩) m.toNat m.toNat)) (w.alloc (.cells (madeCells z.cells (m.toNat*pi.size)) e)):=by
       have:=run_make (P:=P) w T e pi z hu p1 p4 k k' m m h0 (Int.le_refl _) hby ahI;simp [execOp,aY,hxv.1,hyv.1,this]
      have hzn:∀ j,j<m.toNat→aS (madeCells z.cells (m.toNat*pi.size)) j=aS z.cells 0:=by
       intro j hj;have eU:z.cells.size=ei.size:=p5;obtain ⟨rc1,rc2⟩:=FI z.cells m.toNat
       have hmc:madeCells z.cells (m.toNat*pi.size)=(Array.range (m.toNat*z.cells.size)).map (z.cells[· % z.cells.size]!):=by rw [show m.toNat*pi.size=m.toNat*z.cells.size by rw [p2,eU]];rfl
       rw [hmc,rc2 j (by rw [eU,nI];omega),eU,nI,Nat.mod_one]
      have Lr:ei.zero[0]'(by rw [hz];simp) = .sl 2 t' []:=by simp [hz]
      have Iu:=p8 0 (by rw [hz];simp)
      rw [Lr] at Iu
      have Wq:=p7 0 (by rw [nI];omega)
      have adX:(madeCells z.cells (m.toNat*pi.size)).size=m.toNat:=by rw [size_madeCells,p2,nI,Nat.mul_one]
      have hl:(bA t' (List.replicate m.toNat []) none).length=m.toNat:=by rw [oQ,List.length_replicate]
      have oU:∀ j (hj:j<(bA t' (List.replicate m.toNat []) none).length),(bA t' (List.replicate m.toNat []) none)[j] = .sl 2 t' []:=by
       intro j hj;simp [bA]
      have ahP:m.toNat≤lW:=by rw [ku] at h2;unfold lW at h2 ⊢;omega
      have:=R.ahF hm dst hdn (ds:=bA t' (List.replicate m.toNat []) none) (cells:=madeCells z.cells (m.toNat*pi.size)) (e:=e) (n:=m.toNat)
       (fun j hj=>by
        rw [hl] at hj;rw [oU,hzn j hj]
        exact ⟨Iu.1 _ _ _,Wq⟩)
       (by rw [hl,adX];exact bT _)
       (fun b=>by
        have:aM b (bA t' (List.replicate m.toNat []) none) (aS (madeCells z.cells (m.toNat*pi.size)))=0:=
         BS _ _ fun j hj=>by
          rw [hl] at hj;rw [oU,hzn j hj];exact Iu.2 b
        omega) (gX ahP (by decide))
      have R3:=this.Oj (id:=dst) (st:=aL (get s (2*dst+1))+1) (t:=t') (l:=List.replicate m.toNat []) (h:=none) (by simp only [kF,aW,if_true])
      have R4:=R3.congr (s':=au [(2*dst+1,D.dI (aL (get s (2*dst+1))+1) t' (List.replicate m.toNat []) none),(2*dst,D.Jr dst (aL (get s (2*dst+1))+1) m.toNat)] s) fun k=>by
       simp only [au,aD]
       by_cases hk:k=2*dst+1
       ·subst hk
        simp only [if_true];rw [if_neg (anr dst dst)]
       ·simp only [hk,if_false]
      rw [←hd] at R4;exact ⟨_,_,G,_,.inl bB,R4⟩
    ·cases h
   ·cases h
  ·cases h
 ·cases h
end
theorem EB:∀ {t:Ty} {x y:t.den},t.fl=true→(t.om x y=true↔x=y)
 | .int _,x,y,_=>by simp only [Ty.om,mX]
 | .bool,x,y,_=>by cases x<;>cases y<;>simp [Ty.om]
 | .unit,_,_,_=>by simp [Ty.om]
 | .cons a b,x,y,h=>by
  simp only [Ty.fl,dA] at h;simp only [Ty.om,dA,EB h.1,EB h.2]
  exact ⟨fun h=>Prod.ext h.1 h.2,fun h=>by rw [h];exact ⟨rfl,rfl⟩⟩
 | .st _ c,x,y,h=>by
  simp only [Ty.fl] at h;simp only [Ty.om,EB (t:=c) h]
theorem agf {t:Ty} (h:t.fk=true):t.fl=true:=by
 cases t<;>first | rfl | (cases h;done) | exact h
theorem zY {t:Ty} {x y:t.den} (h:t.fk=true):t.om x y=true↔x=y:=EB (agf h)
section
variable {w:World} {G:Nat→Nat} {pt:Nat→Nat→Option Value}
theorem EC:∀ {t:Ty} {ds r:List D} {x:t.den} {f:Nat→Value},t.fl=true→dec t ds=some (x,r)→aP w G pt ds f →
 t.ok x∧ds.length=(toC t x).length+r.length∧(∀ j (h:j<(toC t x).length),(toC t x)[j]=f j)∧aP w G pt r (fun i=>f (i+(toC t x).length))
 | .int k,ds,r,x,f,_,h,hr=>by
  cases ds with
  | nil=>cases h
  | cons d ds=>
   cases d<;>simp only [dec,reduceCtorEq] at h
   rename_i k' n
   cases hk:mZ k k' with
   | false=>rw [hk] at h;cases h
   | true=>
    rw [hk] at h;simp only [aQ,bn,gD] at h;obtain ⟨rfl,rfl⟩:=h;have hk:=gW hk;subst hk
    obtain ⟨h1,h2⟩:=(hr 0 (by simp)).1
    refine ⟨h2,by simp [toC];omega,fun j hj=>?_,fun j hj=>hr (j+1) (by simpa using hj)⟩
    have:j=0:=by simp [toC] at hj;omega
    subst this;exact h1.symm
 | .bool,ds,r,x,f,_,h,hr=>by
  cases ds with
  | nil=>cases h
  | cons d ds=>
   cases d<;>simp only [dec,reduceCtorEq] at h
   simp only [bn,gD] at h;obtain ⟨rfl,rfl⟩:=h
   have h1:=(hr 0 (by simp)).1
   refine ⟨trivial,by simp [toC];omega,fun j hj=>?_,fun j hj=>hr (j+1) (by simpa using hj)⟩
   have:j=0:=by simp [toC] at hj;omega
   subst this;exact h1.symm
 | .unit,ds,r,x,f,_,h,hr=>by
  simp only [dec,bn,gD] at h;obtain ⟨_,rfl⟩:=h
  exact ⟨trivial,by simp [toC],fun j hj=>by simp [toC] at hj,by simpa [toC] using hr⟩
 | .cons a b,ds,r,x,f,hf,h,hr=>by
  simp only [Ty.fl,dA] at hf;simp only [dec] at h;split at h
  ·rename_i y r' h1
   split at h
   ·rename_i z r'' h2
    simp only [bn,gD] at h;obtain ⟨rfl,rfl⟩:=h;obtain ⟨a1,a2,a3,a4⟩:=EC hf.1 h1 hr;obtain ⟨b1,b2,b3,b4⟩:=EC hf.2 h2 a4
    refine ⟨⟨a1,b1⟩,by simp only [toC,nP];omega,fun j hj=>?_,fun j hj=>?_⟩
    ·simp only [toC,List.getElem_append]
     split
     ·rename_i h;exact a3 j h
     ·rename_i h
      have:=b3 (j - (toC a y).length) (by simp only [toC,nP] at hj;omega)
      rw [this]
      congr 1
      omega
    ·have:=b4 j hj
     simp only [toC,nP]
     rw [show j+((toC a y).length+(toC b z).length)=j+(toC b z).length+(toC a y).length by omega]
     exact this
   ·cases h
  ·cases h
 | .st _ c,ds,r,x,f,hf,h,hr=>EC (t:=c) hf h hr
theorem FR {t:Ty} {d:D} {x:t.den} {v:Value} (hf:t.fk=true) (h:Y3 t d=some x) (hv:aU w G pt d v):v=je t x∧t.ok x:=by
 unfold Y3 at h;split at h
 ·rename_i y h1 h2 h3
  simp only [bn] at h;subst h
  cases t<;>simp only [TY,reduceCtorEq] at h1
  cases d<;>simp only [La,reduceCtorEq] at h2
  obtain ⟨arr,rfl,e1,e2⟩:=hv;obtain ⟨q1,q2,q3,_⟩:=EC (agf hf) h3 e2;refine ⟨?_,q1⟩;simp only [leaves,List.length_nil,Nat.add_zero] at q2;simp only [je,toC] at q2 q3 ⊢
  congr 1
  refine Array.ext (by simp;omega) fun j h1 h2=>?_
  have:=q3 j (by simpa using h2)
  simp only [List.getElem_toArray];rw [this];simp [aS,xE,h1]
 ·rename_i y h1 h2 h3
  simp only [bn] at h;subst h
  cases t<;>simp only [TY,reduceCtorEq] at h1<;>simp only [Ty.fk,xD] at hf
  ·cases d<;>simp only [La,reduceCtorEq] at h2<;>simp only [leaves,dec,reduceCtorEq] at h3
   rw [Bool.cond_eq_ite] at h3;split at h3
   ·rename_i hk
    simp only [bn,gD,and_true] at h3;subst h3;have hk:=gW hk;subst hk;exact hv
   ·cases h3
  ·cases d<;>simp only [La,reduceCtorEq] at h2<;>simp only [leaves,dec,reduceCtorEq] at h3
   simp only [bn,gD,and_true] at h3;subst h3;exact ⟨hv,trivial⟩
 ·cases h
theorem ED:∀ {t:Ty} {x:t.den},t.fl=true→t.ok x→(enc t x).length=(toC t x).length ∧
 (∀ j (h:j<(enc t x).length) (h':j<(toC t x).length),bF w G pt (enc t x)[j] (toC t x)[j]∧(toC t x)[j].oneCell' = true)∧∀ d∈enc t x,∀ b v,dS b d v=0
 | .int k,x,_,ho=>⟨rfl,fun j h h'=>by
  have:j=0:=by simp [enc] at h;omega
  subst this
  exact ⟨⟨rfl,ho⟩,rfl⟩,fun d hd b v=>by simp only [enc,List.mem_singleton] at hd;subst hd;rfl⟩
 | .bool,x,_,_=>⟨rfl,fun j h h'=>by
  have:j=0:=by simp [enc] at h;omega
  subst this
  exact ⟨rfl,rfl⟩,fun d hd b v=>by simp only [enc,List.mem_singleton] at hd;subst hd;rfl⟩
 | .unit,x,_,_=>⟨rfl,fun j h _=>by simp [enc] at h,fun d hd=>by simp [enc] at hd⟩
 | .cons a b,x,hf,ho=>by
  simp only [Ty.fl,dA] at hf;obtain ⟨a1,a2,a3⟩:=ED (t:=a) (x:=x.1) hf.1 ho.1;obtain ⟨b1,b2,b3⟩:=ED (t:=b) (x:=x.2) hf.2 ho.2
  refine ⟨by simp only [enc,toC,nP];omega,fun j h h'=>?_,fun d hd=>?_⟩
  ·simp only [enc,toC,nP] at h h'
   simp only [enc,toC,List.getElem_append]
   by_cases hj:j<(enc a x.1).length
   ·simp only [hj,show j<(toC a x.1).length by omega,dite_true]
    exact a2 j hj (by omega)
   ·simp only [hj,show ¬ j<(toC a x.1).length by omega,dite_false]
    have:=b2 (j - (enc a x.1).length) (by omega) (by omega)
    simp only [←a1];exact this
  ·simp only [enc,pV] at hd
   rcases hd with hd | hd
   ·exact a3 d hd
   ·exact b3 d hd
 | .st _ c,x,hf,ho=>ED (t:=c) hf ho
theorem Ul {t:Ty} {x:t.den} (hf:t.fk=true) (ho:t.ok x):BH w G pt (mkV t x) (je t x)∧(∀ b,Fb b (mkV t x) (je t x)=0):=by
 cases t<;>simp only [Ty.fk,xD] at hf
 ·exact ⟨⟨rfl,ho⟩,fun _=>rfl⟩
 ·exact ⟨rfl,fun _=>rfl⟩
 ·rename_i n c
  obtain ⟨h1,h2,h3⟩:=ED (w:=w) (G:=G) (pt:=pt) (t:=c) (x:=x) hf ho
  refine ⟨⟨_,rfl,h1.symm,fun j hj=>?_⟩,fun b=>?_⟩
  ·have nR:j<(toC c x).length:=by rw [←h1];exact hj
   have:=h2 j hj nR;simp only [aS,xE,List.getElem?_toArray,iw nR,sw];exact this
  ·show aM b (enc c x) _=0
   exact BS _ _ fun j hj=>h3 _ (zG hj) b _
theorem ant {t:Ty} {x:t.den} (hf:t.fk=true) (ho:t.ok x):aU w G pt (mkV t x) (je t x)∧(∀ b,dP b (mkV t x) (je t x)=0):=by
 have h:=Ul (w:=w) (G:=G) (pt:=pt) hf ho
 cases t<;>simp only [Ty.fk,xD] at hf<;>exact h
end
theorem EF {k v:Ty} (hk:k.fk=true):∀ {l:List (k.den×v.den)} {x:k.den},(∀ p∈l,p.1≠x)→iE k v l x=none
 | [],_,_=>rfl
 | p::r,x,h=>by
  have h1:k.om p.1 x=false:=by
   cases hc:k.om p.1 x with
   | false=>rfl
   | true=>exact absurd ((zY hk).1 hc) (h p (by simp))
  simp only [iE,h1,bJ]
  exact EF hk fun q hq=>h q (by simp [hq])
theorem wD {k v:Ty} (hk:k.fk=true):∀ {l:List (k.den×v.den)} {j:Nat} {p:k.den×v.den},l.Pairwise (fun p q=>k.om p.1 q.1=false)→l[j]? = some p→iE k v l p.1=some p.2
 | [],_,_,_,h=>by simp at h
 | q::r,0,p,_,h=>by
  simp only [List.getElem?_cons_zero,bn] at h;subst h;simp only [iE,(zY hk).2 rfl,aQ]
 | q::r,j+1,p,hp,h=>by
  simp only [List.getElem?_cons_succ] at h;obtain ⟨h1,h2⟩:=List.pairwise_cons.1 hp;simp only [iE,h1 p (List.mem_of_getElem? h),bJ];exact wD hk h2 h
theorem zZ {k v:Ty} (hk:k.fk=true) {y:v.den}:∀ {l:List (k.den×v.den)} {x:k.den},(∀ p∈l,p.1≠x)→gM k v l x y=l++[(x,y)]
 | [],_,_=>rfl
 | p::r,x,h=>by
  have h1:k.om p.1 x=false:=by
   cases hc:k.om p.1 x with
   | false=>rfl
   | true=>exact absurd ((zY hk).1 hc) (h p (by simp))
  simp only [gM,h1,bJ,List.cons_append]
  rw [zZ hk fun q hq=>h q (by simp [hq])]
theorem Lx {k v:Ty} (hk:k.fk=true) {y:v.den}:∀ {l:List (k.den×v.den)} {j:Nat} {p:k.den×v.den},l.Pairwise (fun p q=>k.om p.1 q.1=false)→l[j]? = some p→gM k v l p.1 y=l.set j (p.1,y)
 | [],_,_,_,h=>by simp at h
 | q::r,0,p,_,h=>by
  simp only [List.getElem?_cons_zero,bn] at h;subst h;simp only [gM,(zY hk).2 rfl,aQ,K6]
 | q::r,j+1,p,hp,h=>by
  simp only [List.getElem?_cons_succ] at h;obtain ⟨h1,h2⟩:=List.pairwise_cons.1 hp;simp only [gM,h1 p (List.mem_of_getElem? h),bJ,K7];rw [Lx hk h2 h]
section
variable {P:Program} {w:World} {b:Nat} {T k e:TypeId} {kt vt:Ty} {l:List (kt.den×vt.den)}
open Go.ChangeMaps (setBlock)
theorem iO {es:Array MapEntry} (h:es.toList.map (fun e=>(e.key,e.val))=l.map (fun p=>(je kt p.1,je vt p.2))) {j:Nat} {e0:MapEntry} (he:es.toList[j]? = some e0) :
 ∃ p,l[j]? = some p∧e0.key=je kt p.1∧e0.val=je vt p.2:=by
 have h1:(es.toList.map (fun e=>(e.key,e.val)))[j]? = some (e0.key,e0.val):=by rw [List.getElem?_map,he];rfl
 rw [h,List.getElem?_map] at h1
 cases hl:l[j]? with
 | none=>rw [hl] at h1;cases h1
 | some p=>
  rw [hl] at h1;simp only [Option.map_some,bn,gD] at h1;exact ⟨p,rfl,h1.1.symm,h1.2.symm⟩
theorem qc {es:Array MapEntry} (h:es.toList.map (fun e=>(e.key,e.val))=l.map (fun p=>(je kt p.1,je vt p.2))) {e0:MapEntry} (he:e0∈es.toList):∃ p∈l,e0.key=je kt p.1:=by
 obtain ⟨j,hj⟩:=List.getElem?_of_mem he;obtain ⟨p,h1,h2,_⟩:=iO h hj;exact ⟨p,List.mem_of_getElem? h1,h2⟩
theorem ng {es:Array MapEntry} (h:es.toList.map (fun e=>(e.key,e.val))=l.map (fun p=>(je kt p.1,je vt p.2))) {p:kt.den×vt.den} (hp:p∈l):∃ e0∈es.toList,e0.key=je kt p.1:=by
 have:(je kt p.1,je vt p.2)∈es.toList.map (fun e=>(e.key,e.val)):=by rw [h];exact List.mem_map.2 ⟨p,hp,rfl⟩
 obtain ⟨e0,h1,h2⟩:=List.mem_map.1 this;simp only [gD] at h2;exact ⟨e0,h1,h2.1⟩
theorem EG {t:Ty} (hf:t.fk=true) {x y:t.den} (hx:t.ok x) (hy:t.ok y) (h:je t x=je t y):x=y:=by
 cases t<;>simp only [Ty.fk,xD] at hf
 ·simp only [je,Value.int.injEq,true_and] at h;exact h
 ·simp only [je,Value.bool.injEq] at h;exact h
 ·rename_i n c
  simp only [je,Value.agg.injEq] at h
  have h:toC c x=toC c y:=by simpa using h
  have key:∀ (t:Ty) (x y:t.den) (r r':List Value),t.fl=true→toC t x++r=toC t y++r'→x=y∧r=r':=by
   intro t
   induction t with
   | int k=>
    intro x y r r' _ h;simp only [toC,List.singleton_append,List.cons.injEq,Value.int.injEq,true_and] at h;exact h
   | bool=>
    intro x y r r' _ h;simp only [toC,List.singleton_append,List.cons.injEq,Value.bool.injEq] at h;exact h
   | unit=>
    intro x y r r' _ h
    exact ⟨rfl,by simpa [toC] using h⟩
   | cons a b iha ihb=>
    intro x y r r' hf h;simp only [Ty.fl,dA] at hf;simp only [toC,List.append_assoc] at h;obtain ⟨h1,h2⟩:=iha _ _ _ _ hf.1 h;obtain ⟨h3,h4⟩:=ihb _ _ _ _ hf.2 h2;exact ⟨Prod.ext h1 h3,h4⟩
   | st _ c ih=>exact fun x y r r' hf h=>ih x y r r' hf h
   | str=>intro _ _ _ _ hf;cases hf
   | sl _ _=>intro _ _ _ _ hf;cases hf
   | iF _ _ _=>intro _ _ _ _ hf;cases hf
  exact (key c x y [] [] hf (by rw [h])).1
theorem MapAt.lookup (h:MapAt w b kt vt l) (M:tX P k e kt vt) (ht:P.underlying T=some (.map k e)) {x:kt.den} (hx:kt.ok x) (ok:Bool) :
 (Instr.lookup T (.map (some b)) (je kt x) ok).run P w = .ok (if ok then .tuple #[je vt (cZ kt vt l x),.bool (DX kt vt l x)] else je vt (cZ kt vt l x)) w ∧
  vt.ok (cZ kt vt l x):=by
 obtain ⟨es,clock,hb,h1,h2,h3,h4,h5,hk,hv⟩:=h;obtain ⟨kl,pQ⟩:=M.key x hx
 rcases M.keyed.find w pQ es.toList (fun e0 he=>by
  obtain ⟨p,hp,q⟩:=qc h1 he
  rw [q];exact M.key p.1 (h5 p hp).1) with ⟨f1,f2⟩ | ⟨j,e0,f1,f2,f3⟩
 ·have hn:iE kt vt l x=none:=EF hk fun p hp fC=>by
   obtain ⟨e0,q1,q2⟩:=ng h1 hp
   exact f2 e0 q1 (by rw [q2,fC])
  have e1:cZ kt vt l x=vt.dflt:=by simp only [cZ,hn]
  have e2:DX kt vt l x=false:=by simp only [DX,hn]
  rw [e1,e2];refine ⟨?_,M.zok⟩;simp [Instr.lookup,run_underlying ht,MapKept.run_getObj_map hb,M.keyed.check w _ pQ,f1,M.zero w,Result.andThen]
 ·obtain ⟨p,q1,q2,q3⟩:=iO h1 f2
  have Yx:=List.mem_of_getElem? q1
  have QZ:p.1=x:=EG hk (h5 p Yx).1 hx (by rw [←q2,f3])
  have hg:=wD hk h4 q1;rw [QZ] at hg
  have e1:cZ kt vt l x=p.2:=by simp only [cZ,hg]
  have e2:DX kt vt l x=true:=by simp only [DX,hg]
  rw [e1,e2];refine ⟨?_,(h5 p Yx).2⟩;simp [Instr.lookup,run_underlying ht,MapKept.run_getObj_map hb,M.keyed.check w _ pQ,f1,Result.andThen,q3]
theorem aN {o:Obj} {c:Nat} (h:c≠b):(setBlock w b o).heap[c]? = w.heap[c]?:=by
 simp only [setBlock,Array.getElem?_setIfInBounds]
 rw [if_neg (fun h'=>h h'.symm)]
theorem MapAt.update (h:MapAt w b kt vt l) (M:tX P k e kt vt) (ht:P.underlying T=some (.map k e)) {x:kt.den} {y:vt.den} (hx:kt.ok x) (hy:vt.ok y) :
 ∃ Yy uW,(Instr.mapUpdate T (.map (some b)) (je kt x) (je vt y)).run P w = .ok () (setBlock w b (.map Yy uW))∧MapAt (setBlock w b (.map Yy uW)) b kt vt (gM kt vt l x y):=by
 obtain ⟨es,clock,hb,h1,h2,h3,h4,h5,hk,hv⟩:=h;have aT:b<w.heap.size:=(E5 hb).1
 have new:∀ o,(setBlock w b o).heap[b]? = some o:=fun o=>by simp [setBlock,aT]
 obtain ⟨kl,pQ⟩:=M.key x hx
 rcases M.keyed.find w pQ es.toList (fun e0 he=>by
  obtain ⟨p,hp,q⟩:=qc h1 he
  rw [q];exact M.key p.1 (h5 p hp).1) with ⟨f1,f2⟩ | ⟨j,e0,f1,f2,f3⟩
 ·have fC:∀ p∈l,p.1≠x:=fun p hp fC=>by
   obtain ⟨e0,q1,q2⟩:=ng h1 hp
   exact f2 e0 q1 (by rw [q2,fC])
  refine ⟨es.push ⟨je kt x,je vt y,clock⟩,clock+1,?_,_,_,new _,?_,?_,?_,?_,?_,hk,hv⟩
  ·simp [Instr.mapUpdate,run_underlying ht,MapKept.run_getObj_map hb,M.keyed.check w false pQ,f1,MapKept.run_setObj_map _ hb,Result.andThen,setBlock]
  ·rw [zZ hk fC,Array.toList_push,vO,vO,h1];rfl
  ·rw [Array.toList_push,vO,List.map_singleton]
   refine List.nodup_append.2 ⟨h2,by simp,fun a ha c hc=>?_⟩
   simp only [List.mem_singleton] at hc;obtain ⟨e0,he0,rfl⟩:=List.mem_map.1 ha;have:=h3 e0 he0;omega
  ·intro e0 he
   simp only [Array.toList_push,pV,List.mem_singleton] at he
   rcases he with he | rfl
   ·have:=h3 e0 he;omega
   ·show clock<clock+1
    omega
  ·rw [zZ hk fC]
   refine List.pairwise_append.2 ⟨h4,by simp,fun p hp q hq=>?_⟩
   simp only [List.mem_singleton] at hq;subst hq
   cases hc:kt.om p.1 x with
   | false=>rfl
   | true=>exact absurd ((zY hk).1 hc) (fC p hp)
  ·rw [zZ hk fC]
   intro p hp
   rcases List.mem_append.1 hp with hp | hp
   ·exact h5 p hp
   ·simp only [List.mem_singleton] at hp
    subst hp;exact ⟨hx,hy⟩
 ·obtain ⟨p,q1,q2,q3⟩:=iO h1 f2
  have Yx:=List.mem_of_getElem? q1
  have QZ:p.1=x:=EG hk (h5 p Yx).1 hx (by rw [←q2,f3])
  have Om:j<es.toList.length:=(List.getElem?_eq_some_iff.1 f2).1
  have hj:es[j]? = some e0:=by simpa using f2
  have l9:=Lx hk (y:=y) h4 q1;rw [QZ] at l9
  have FT:(es.modify j (fun e'=>{ e' with key:=je kt x,val:=je vt y })).toList=es.toList.set j { e0 with key:=je kt x,val:=je vt y }:=by
   rw [Array.toList_modify,Go.ChangeMaps.modify_eq_set _ _ _ _ f2]
  refine ⟨es.modify j (fun e'=>{ e' with key:=je kt x,val:=je vt y }),clock,?_,_,_,new _,?_,?_,?_,?_,?_,hk,hv⟩
  ·simp [Instr.mapUpdate,run_underlying ht,MapKept.run_getObj_map hb,M.keyed.check w false pQ,f1,hj,f3,M.keyed.stays w pQ,MapKept.run_setObj_map _ hb,Result.andThen,setBlock]
  ·rw [FT,l9,List.map_set,List.map_set,h1]
  ·rw [FT,List.map_set]
   have:(es.toList.map (·.born)).set j e0.born=es.toList.map (·.born):=by
    refine List.ext_getElem? fun i=>?_
    rw [List.getElem?_set];split
    ·rename_i qO
     subst qO;simp only [pJ,Om,if_true,List.getElem?_map,f2,Option.map_some]
    ·rfl
   rw [this];exact h2
  ·intro e1 he
   rw [FT] at he
   rcases List.mem_or_eq_of_mem_set he with he | rfl
   ·exact h3 e1 he
   ·exact h3 e0 (List.mem_of_getElem? f2)
  ·rw [l9]
   have:(l.set j (x,y)).map (·.1)=l.map (·.1):=by
    rw [List.map_set]
    refine List.ext_getElem? fun i=>?_
    rw [List.getElem?_set];split
    ·rename_i qO
     subst qO;have:=(List.getElem?_eq_some_iff.1 q1).1;simp only [pJ,this,if_true,List.getElem?_map,q1,Option.map_some,QZ]
    ·rfl
   have LA:(l.map (·.1)).Pairwise (fun a c=>kt.om a c=false):=List.pairwise_map.2 h4
   rw [←this] at LA;exact List.pairwise_map.1 LA
  ·rw [l9]
   intro p' hp
   rcases List.mem_or_eq_of_mem_set hp with hp | rfl
   ·exact h5 p' hp
   ·exact ⟨hx,hy⟩
end
section
variable {P:Program} {E:Env} {C:Ctx} {s:St} {a:Act} {w:World} {G:Nat→Nat} {pt:Nat→Nat→Option Value} {o:Oper} {u:St}
open Go.ChangeMaps (setBlock)
theorem Rf (HP:nS P E) (R:Rel E C s a w G pt) (hm:E.n≤C.m) (ho:∀ t,o.dst=some t→t<E.n) (T:Nat) (r:Option Operand) (aY:o.op = .makeMap T r)
 (h:qW E o s T r=some (true,u)):fB P E C o a w (au u s):=by
 unfold qW at h;split at h
 ·rename_i i dst hi hd
  split at h
  ·rename_i k e ax4
   cases hc:((pO E k).fk&&(pO E e).fk) with
   | false=>rw [hc] at h;cases h
   | true=>
    rw [hc] at h;simp only [aQ,bn,gD,true_and] at h;subst h;simp only [dA] at hc
    have bB:(execOp a.eval o).run P w = .ok (.value (.map (some w.heap.size))) (w.alloc (.map #[] 0)):=by
     simp [execOp,aY,RowKit.run_makeMap]
    generalize gG:aL (get s (2*dst+1))+1=st
    have hp:bG pt dst st (.map (some w.heap.size)) dst st=some (.map (some w.heap.size)):=by simp [bG]
    have key:=R.xY dst (ho dst hd) hm (w':=w.alloc (.map #[] 0)) (G':=G) (dB:=.bO st (pO E k) (pO E e) []) (d':=.fU dst st) (pv:=.map (some w.heap.size)) (v':=.map (some w.heap.size))
     (kX _ R.gz) (fun b hb=>⟨alloc_old _ hb,rfl⟩) (by rw [gG];exact hp) (fun b=>rfl)
     (by rw [gG];exact ⟨w.heap.size,hp,R.gz _ (bT _),#[],0,ou _,rfl,List.nodup_nil,fun e he=>by simp at he,List.Pairwise.nil,fun p hp=>by simp at hp,hc.1,hc.2⟩)
     (by rw [gG];rfl)
     (fun b=>by
      rw [gG];simp only [gY,dh,hp,bE]
      by_cases hb:w.heap.size=b
      ·subst hb
       exact ⟨by simp,fun _=>⟨R.fresh,by simp,.inl R.hs⟩⟩
      ·rw [if_neg (by simpa using hb)]
       exact ⟨by omega,fun h=>absurd h (by omega)⟩)
     (fun b hb=>R.gz b (by simp at hb;omega)) rfl rfl rfl (by simp)
    rw [gG] at key
    exact ⟨_,_,G,_,.inl bB,by rw [hd];exact key⟩
  ·cases h
 ·cases h
theorem Ws (HP:nS P E) (R:Rel E C s a w G pt) (ho:∀ t,o.dst=some t→t<E.n) (T:Nat) (m x:Operand) (ok:Bool) (aY:o.op = .lookup T m x ok)
 (h:vY E o s T m x ok=some (true,u)):fB P E C o a w (au u s):=by
 unfold vY at h;split at h
 ·rename_i i id st hi hm
  split at h
  ·rename_i k e st' kt vt l hd hb
   split at h
   ·rename_i key pQ
    cases hc:(Nat.beq st st' && kt.beq (pO E k)&&vt.beq (pO E e)) with
    | false=>rw [hc] at h;cases h
    | true=>
     rw [hc] at h;simp only [aQ,bn,gD,true_and] at h;subst h;simp only [dA] at hc;obtain ⟨⟨c1,c2⟩,c3⟩:=hc;have c1:=fD c1;have c2:=Ty.eq_of_beq c2;have c3:=Ty.eq_of_beq c3;subst c1;have hB:=R.bx id;rw [hb] at hB;obtain ⟨b,hp,hG,hM⟩:=hB;have Rh:=aJ R m;rw [hm] at Rh;have Rh:pt id st=some (a.eval m):=Rh;rw [hp] at Rh;have Rh:a.eval m = .map (some b):=(Option.some.inj Rh).symm;have hMO:=HP.mp T i k e hi hd;rw [←c2,←c3] at hMO;have hfk:=hM;obtain ⟨_,_,_,_,_,_,_,_,hkf,hvf⟩:=hfk;obtain ⟨hxv,hxo⟩:=FR hkf pQ (aJ R x)
     obtain ⟨hr,hvo⟩:=hM.lookup hMO (by rw [(HP.ti _ _ hi).und,hd]) hxo ok
     have bB:(execOp a.eval o).run P w = .ok (.value (if ok then .tuple #[je vt (cZ kt vt l key),.bool (DX kt vt l key)] else je vt (cZ kt vt l key))) w:=by
      simp [execOp,aY,Rh,hxv,hr,Result.andThen]
     obtain ⟨r1,r2⟩:=ant (w:=w) (G:=G) (pt:=pt) hvf hvo;obtain ⟨r3,r4⟩:=Ul (w:=w) (G:=G) (pt:=pt) hvf hvo
     cases ok with
     | false=>exact pure_ok R ho bB r1 r2
     | true=>
      refine pure_ok R ho bB ⟨_,rfl,rfl,fun j hj=>?_⟩ fun b=>?_
      ·match j,hj with
       | 0,_=>exact r3
       | 1,_=>exact rfl
       | j+2,hj=>simp at hj;omega
      ·show Fb b _ _+(Fb b (.bool _) _+0)=0
       have:Fb b (mkV vt (cZ kt vt l key)) (je vt (cZ kt vt l key))=0:=r4 b;have h0:aS #[je vt (cZ kt vt l key),.bool (DX kt vt l key)] 0=je vt (cZ kt vt l key):=rfl;rw [h0,this];rfl
   ·cases h
  ·cases h
 ·cases h
theorem Aa (HP:nS P E) (R:Rel E C s a w G pt) (T:Nat) (m x y:Operand) (aY:o.op = .mapUpdate T m x y∨o.op = .insert T m x y)
 (h:kN E o s T m x y=some (true,u)):fB P E C o a w (au u s):=by
 unfold kN at h;split at h
 ·rename_i i id st hi hm iN
  split at h
  ·rename_i k e st' kt vt l hd hb
   split at h
   ·rename_i key val pQ ZH
    cases hc:(Nat.beq st st' && kt.beq (pO E k)&&vt.beq (pO E e)) with
    | false=>rw [hc] at h;cases h
    | true=>
     rw [hc] at h;simp only [aQ,bn,gD,true_and] at h;subst h;simp only [dA] at hc;obtain ⟨⟨c1,c2⟩,c3⟩:=hc;have c1:=fD c1;have c2:=Ty.eq_of_beq c2;have c3:=Ty.eq_of_beq c3;subst c1
     have hid:id<C.m:=fT R (by rw [hb];simp)
     have hB:=R.bx id;rw [hb] at hB;obtain ⟨b,hp,hG,hM⟩:=hB;have Rh:=aJ R m;rw [hm] at Rh;have Rh:pt id st=some (a.eval m):=Rh;rw [hp] at Rh;have Rh:a.eval m = .map (some b):=(Option.some.inj Rh).symm;have hMO:=HP.mp T i k e hi hd;rw [←c2,←c3] at hMO;have hfk:=hM;obtain ⟨es0,ck0,Ui,_,_,_,_,_,hkf,hvf⟩:=hfk;obtain ⟨hxv,hxo⟩:=FR hkf pQ (aJ R x);obtain ⟨hyv,hyo⟩:=FR hvf ZH (aJ R y)
     obtain ⟨Yy,uW,hr,hM'⟩:=hM.update hMO (by rw [(HP.ti _ _ hi).und,hd]) hxo hyo
     have bB:(execOp a.eval o).run P w = .ok .skip (setBlock w b (.map Yy uW)):=by
      rcases aY with aY | aY<;>simp [execOp,aY,Rh,hxv,hyv,hr,Result.andThen]
     refine ⟨Go.undef,_,G,pt,.inr ⟨bB,rfl⟩,?_⟩;rw [iN]
     have Wh:∀ c,cB s w pt c id=dh c (pt id st):=fun c=>by simp only [cB,hb,gY]
     have xq:0<cB s w pt b id:=by rw [Wh,dh,hp];simp [bE]
     have eU:(setBlock w b (.map Yy uW)).heap.size=w.heap.size:=by simp [setBlock]
     have tc:∀ c,TC E.n C.m ((2*id+1,.bO st kt vt (gM kt vt l key val))::s) a (setBlock w b (.map Yy uW)) pt c=TC E.n C.m s a w pt c∨True:=fun _=>.inr trivial
     show Rel E C ((2*id+1,.bO st kt vt (gM kt vt l key val))::s) a (setBlock w b (.map Yy uW)) G pt
     refine R.step (fun _=>False) (fun i=>i=id) (fun c=>c=b) rfl R.df (fun t _=>⟨by simp,rfl⟩) (fun i hi=>⟨by simp [hi],rfl⟩) ⟨fun c o hc=>?_,fun _=>bT _⟩ (fun _ _ _ h=>h) (fun c h1 h2=>⟨aN h1,rfl⟩)
      (fun c hc t _=>by subst hc;exact R.bt xq t) (fun c hc i hi=>by subst hc;exact R.bb xq hi) (fun c hc=>by subst hc;exact (R.cb c (mK xq (R.jq c id))).2) (fun t h=>h.elim) (fun i hi=>?_) (fun c1 c2 c=>?_)
      (fun c hc=>R.gz c (by rw [eU] at hc;exact hc)) rfl rfl rfl (by rw [eU];exact bT _)
     ·by_cases h:c=b
      ·subst h;rw [hG] at hc;omega
      ·exact cell_of_heap (aN h) o
     ·subst hi
      refine ⟨hid,by simp only [aW,if_true];exact ⟨b,hp,hG,hM'⟩,fun j hj=>?_⟩
      simp only [aW,if_true,aL] at hj
      exact R.pf i j (by rw [hb];exact hj)
     ·have:TC E.n C.m ((2*id+1,.bO st kt vt (gM kt vt l key val))::s) a (setBlock w b (.map Yy uW)) pt c=TC E.n C.m s a w pt c:=by
       unfold TC
       rw [aG fun i _=>c1 i (fun h=>h) c]
       congr 1
       refine aG fun i _=>?_
       by_cases hi:i=id
       ·subst hi
        simp only [cB,aW,if_true,gY,hb]
       ·exact c2 i hi c
      rw [this]
      exact ⟨R.ct c,fun h=>⟨by rw [eU];exact (R.cb c h).1,(R.cb c h).2⟩⟩
   ·cases h
  ·cases h
 ·cases h
end
section
variable {E:Env} {C:Ctx} {s:St} {a:Act} {w:World} {G:Nat→Nat} {pt:Nat→Nat→Option Value}
theorem Oo (cs:List D) (f:D→D):dL cs 0 (((cs.drop 0).take cs.length).map f)=cs.map f:=by
 simp [dL]
theorem Rel.agh (R:Rel E C s a w G pt) (id st:Nat) {cs:List D} (hb:get s (2*id+1) = .aI st true cs)
 (hv:∀ bR,bE (pt id st)=some bR→aP w G pt (cs.map dD) (aB w bR)) :
 Rel E C ((2*id+1,.aI st true (cs.map dD))::s) a w G pt:=by
 have hB:=R.bx id;rw [hb] at hB;obtain ⟨bR,h1,h2,h3,h4⟩:=hB rfl
 have hblk:bE (pt id st)=some bR:=by rw [h1];rfl
 have hid:=fT R (id:=id) (by rw [hb];simp)
 refine R.step (fun _=>False) (fun i=>i=id) (fun _=>False) rfl R.df (fun t _=>⟨by simp,rfl⟩) (fun i hi=>⟨by simp [hi],rfl⟩) (Ext.refl _ _) (fun _ _ _ h=>h) (fun _ _ _=>⟨rfl,rfl⟩) (fun b h=>h.elim) (fun b h=>h.elim) (fun b h=>h.elim)
  (fun t h=>h.elim) (fun i hi=>?_) (fun c1 c2 b=>?_) R.gz rfl rfl rfl (bT _)
 ·subst hi
  refine ⟨hid,?_,?_⟩
  ·simp only [aW,if_true]
   exact fun _=>⟨bR,h1,by rw [pJ];exact h2,h3,hv bR hblk⟩
  ·simp only [aW,if_true]
   intro st' Lm
   exact R.pf i st' (by rw [hb];exact Lm)
 ·have e1:=aG (n:=E.n) (f:=cT s a b) (g:=cT ((2*id+1,.aI st true (cs.map dD))::s) a b) (fun i _=>(c1 i (fun h=>h) b).symm)
  have e2:=dG (n:=C.m) (f:=cB s w pt b) (g:=cB ((2*id+1,.aI st true (cs.map dD))::s) w pt b) hid (fun i hi=>c2 i hi b)
  have e3:cB ((2*id+1,.aI st true (cs.map dD))::s) w pt b id≤cB s w pt b id:=by
   simp only [cB,aW,if_true,hb,gY];rw [jJ ru];omega
  have h1:=R.ct b;have h2:=R.cb b;unfold TC at *
  exact ⟨by omega,fun h=>h2 (by omega)⟩
theorem sJ (cs:List D):(cs.map bP).map dD=cs.map dD:=by
 rw [List.map_map]
 refine List.map_congr_left fun d _=>?_
 cases d<;>rfl
theorem Rel.Um (R:Rel E C s a w G pt) {id st:Nat} {t:Ty} {l:List (List t.den)} (hb:get s (2*id+1) = .dI st t l none) :
 ∃ G',Rel E C ((2*id+1,.aX st true true (.sl t) l)::s) a w G' pt:=by
 have R1:=R.Oi hb
 have nI:get ((2*id+1,D.aI st true (bA t l none))::s) (2*id+1) = .aI st true (bA t l none):=by rw [aD,if_pos rfl]
 obtain ⟨G',bR,e,hblk,jr,R2,hr⟩:=R1.QY id st 0 (bA t l none).length nI (by omega)
 rw [Oo] at R2
 have R3:=R2.agh id st (cs:=(bA t l none).map bP) (by rw [aD,if_pos rfl]) (fun b nH=>by
  rw [hblk] at nH;simp only [bn] at nH;subst nH;rw [sJ]
  have h2:aP w G' pt ((bA t l none).map bP) (aB w bR):=by
   have h3:=hr;simp only [List.drop_zero,List.take_length,Nat.zero_add] at h3;exact h3
  exact h2.view)
 rw [sJ] at R3
 have hv:(bA t l none).map dD=l.map fun r=>D.sl 0 t r:=by
  simp only [bA,List.map_map];rfl
 rw [hv] at R3
 have R4:=R3.sameBox (id:=id) (d:=.aI st true (l.map fun r=>D.sl 0 t r)) (d':=.aX st true true (.sl t) l) (by rw [aD,if_pos rfl]) (by simp) (fun hB=>?_) (fun b=>?_) rfl
 ·refine ⟨G',R4.congr fun k=>?_⟩
  simp only [aD]
  by_cases hk:k=2*id+1
  ·simp only [hk,if_true]
  ·simp only [hk,if_false]
 ·obtain ⟨b,h1,h2,h3,h4⟩:=hB rfl
  intro _;rw [if_pos rfl]
  refine ⟨b,h1,by simpa [Ty.nc] using h2,h3,fun i hi=>?_⟩
  have h5:=(h4 i (by simpa using hi)).1
  simp only [List.getElem_map] at h5;obtain ⟨ad,n,c,q1,q2,q3,q4,q5⟩:=h5
  have hc:w.cell? ⟨b,i,none⟩=some (aB w b i):=rA h2 (by simpa using hi)
  simp only [dK,Ty.nc,Nat.mul_one,Nat.zero_add]
  refine ⟨ad,n,c,by rw [hc,q1],q2,q3,by omega,?_⟩
  rcases q5 with q5 | ⟨b',o',q5,q6,q7⟩
  ·exact .inl q5
  ·exact .inr ⟨b',o',q5,by rw [q2];exact q6,fun j hj=>q7 j hj⟩
 ·simp only [gY]
  have:∀ f,aM b (l.map fun r=>D.sl 0 t r) f=0:=fun f=>BS _ _ fun j hj=>by
   simp only [List.getElem_map]
   cases f j<;>first | rfl | (rename_i a' _ _;cases a'<;>rfl)
  rw [this];rfl
end
def fE (E:Env) (o:Oper):Bool:=
 match o.dst with
 | some t=>Nat.blt t E.n
 | none=>true
def LB:Op→Bool
 | .store _ _ _=>true
 | _=>false
def Ri (E:Env) (o:Oper) (s:St):Option (Bool×St):=
 bif fE E o&&(!LB o.op || o.dst.isNone) then act E o s else none
section
variable {P:Program} {E:Env} {C:Ctx} {s:St} {a:Act} {w:World} {G:Nat→Nat} {pt:Nat→Nat→Option Value} {o:Oper} {u:St}
theorem anv {α:Type} {xs:Array α} {x:α} (h:xs.toList=[x]):xs = #[x]:=by apply Array.ext';simpa using h
theorem dI {α:Type} {xs:Array α} {x y:α} (h:xs.toList=[x,y]):xs = #[x,y]:=by apply Array.ext';simpa using h
theorem Rj (HP:nS P E) (R:Rel E C s a w G pt) (ho:∀ t,o.dst=some t→t<E.n) (b:Builtin) (args:Array Operand) (ts:Array TypeId)
 (aY:o.op = .call { callee:=.builtin b,args:=args,argTypes:=ts }) (h:qV E o s b args.toList ts.toList=some (true,u)):fB P E C o a w (au u s):=by
 unfold qV at h;split at h
 ·rename_i x T hx hT
  split at h
  ·rename_i n hn
   simp only [bn,gD,true_and] at h;subst h;have hx:=anv hx;subst hx;exact ahp HP R ho x T ts hT aY hn
  ·cases h
 ·rename_i x y T T' hx hT
  have hx:=dI hx;have hT:=dI hT;subst hx hT
  cases hn:TW E T' with
  | false=>simp [hn] at h
  | true=>
   simp only [hn,aQ] at h;exact Wj HP R ho T T' x y hn aY h
 ·rename_i x y T T' hx hT
  have hx:=dI hx;have hT:=dI hT;subst hx hT;exact ad3 HP R ho T T' x y aY h
 ·exact JB R ho args ts false aY h
 ·exact JB R ho args ts true aY h
 ·cases h
theorem ZI (R:Rel E C s a w G pt) (ho:∀ t,o.dst=some t→t<E.n) (x:Operand) (aY:o.op = .move x)
 (h:xU o s x=some (true,u)):fB P E C o a w (au u s):=by unfold xU at h;cases h
theorem Un (R:Rel E C s a w G pt) (ho:∀ t,o.dst=some t→t<E.n) (x:Operand) (aY:o.op = .move x)
 (h:oI E o s x=some (true,u)):fB P E C o a w (au u s):=by
 unfold oI at h
 cases hc:Nat.beq (tag E o) 6 with
 | true=>rw [hc] at h;exact ZI R ho x aY h
 | false=>rw [hc] at h;exact Y9 R ho x aY h
theorem Oq (R:Rel E C s a w G pt) (ho:∀ t,o.dst=some t→t<E.n) (fn:Fn) (first qC:Array Operand) (aY:o.op = .makeFunc fn first qC)
 (h:oq o s fn first.toList qC.toList=some (true,u)):fB P E C o a w (au u s):=by
 unfold oq at h;split at h
 ·rename_i f x hf hc
  split at h
  ·rename_i t v hx
   simp only [bn,gD,true_and] at h;subst h;have hr:=aJ R x;rw [hx] at hr;obtain ⟨b,off,h1,h2,h3,h4⟩:=hr;have hc:=anv hc
   have hf:first = #[]:=by apply Array.ext';simpa using hf
   subst hc hf
   refine pure_ok R ho (v:=.func (.func f) #[] #[a.eval x]) (by simp [execOp,aY];rfl) ⟨b,off,by rw [h1];simp,by simpa using h3,by simpa using h4 0 (by simp)⟩ (fun _=>rfl)
  ·cases h
 ·cases h
theorem ZJ (HP:nS P E) (hm:E.n≤C.m) (R:Rel E C s a w G pt) (h:Ri E o s=some (true,u)):fB P E C o a w (au u s):=by
 unfold Ri at h
 cases hd:(fE E o&&(!LB o.op || o.dst.isNone)) with
 | false=>simp [hd] at h
 | true=>
  simp only [hd,aQ] at h;simp only [dA] at hd;obtain ⟨hd,hs⟩:=hd
  have ho:∀ t,o.dst=some t→t<E.n:=by
   intro t ht
   simpa [fE,ht,Nat.blt_eq] using hd
  unfold act at h;split at h
  ·rename_i x aY
   cases h9:Nat.beq (tag E o) 9 with
   | true=>rw [h9] at h;exact ZC hm R ho x aY h
   | false=>rw [h9] at h;exact Un R ho x aY h
  ·rename_i x aY
   cases h15:Nat.beq (tag E o) 15 with
   | true=>rw [h15] at h;exact NT R ho x aY h
   | false=>rw [h15] at h;exact VU R hm ho x aY h
  ·rename_i T aY;exact Zx HP R hm ho T aY h
  ·rename_i T x aY;exact ahG HP R hm ho T x aY h
  ·rename_i T ps aY;exact Zv HP R ho T ps aY h
  ·rename_i T n ps aY
   cases h8:Nat.beq (tag E o) 8 with
   | true=>rw [h8] at h;exact N8 HP hm R ho T n ps aY h
   | false=>rw [h8] at h;exact Ir HP R ho T n ps aY h
  ·rename_i T x aY
   cases h11:Nat.beq (tag E o) 11 with
   | true=>rw [h11] at h;exact ZE HP R ho T x aY h
   | false=>
    rw [h11] at h
    cases h13:Nat.beq (tag E o) 13 with
    | true=>rw [h13] at h;exact ZF HP R hm ho T x aY h
    | false=>rw [h13] at h;exact Ug HP R hm ho T x aY h
  ·rename_i T x y aY
   have:o.dst=none:=by
    rw [aY] at hs
    simpa [LB] using hs
   split at h
   ·rename_i r hr
    cases h;exact Wp HP R this T x y aY hr
   ·exact Ob HP R this T x y aY h
  ·rename_i x aY;exact NJ R ho x aY h
  ·rename_i op xT x y yT aY;exact ahm HP R ho op xT x y yT aY h
  ·rename_i op xT x aY;exact am2 R ho op xT x aY h
  ·rename_i sT dT x aY;exact adY HP R ho sT dT x aY h
  ·rename_i T l c aY
   cases h13:Nat.beq (tag E o) 13 with
   | true=>rw [h13] at h;exact ZG HP R hm ho T l c aY h
   | false=>rw [h13] at h;exact Ls HP R ho T l c aY h
  ·rename_i T x lo hi aY
   split at h
   ·cases h14:Nat.beq (tag E o) 14 with
    | true=>rw [h14] at h;exact Wm HP R ho T x lo hi aY h
    | false=>rw [h14] at h;exact Wn HP R ho T x lo hi aY h
   ·cases h15:Nat.beq (tag E o) 15 with
    | true=>rw [h15] at h;exact V5 HP R ho T x lo hi aY h
    | false=>rw [h15] at h;exact Zm HP R ho T x lo hi aY h
  ·rename_i T x lo hi mx aY
   cases h12:Nat.beq (tag E o) 12 with
   | true=>rw [h12] at h;exact QX HP R ho T x lo hi mx aY h
   | false=>rw [h12] at h;exact V4 HP R ho T x lo hi mx aY h
  ·rename_i T x f aY;exact Lh HP R ho T x f aY h
  ·rename_i T x f aY;exact Zy HP R ho T x f aY h
  ·rename_i T x i aY;exact Lj HP R ho T x i aY h
  ·rename_i T x i aY;exact Zk HP R ho T x i aY h
  ·rename_i x i aY;exact QU R ho x i aY h
  ·rename_i fn first qC aY;exact Oq R ho fn first qC aY h
  ·rename_i T r aY;exact Rf HP R hm ho T r aY h
  ·rename_i T m x ok aY;exact Ws HP R ho T m x ok aY h
  ·rename_i T m x y aY;exact Aa HP R T m x y (.inl aY) h
  ·rename_i T m x y aY;exact Aa HP R T m x y (.inr aY) h
  ·rename_i c aY
   split at h
   ·rename_i b hb
    obtain ⟨callee,args,argTypes⟩:=c;simp only at hb h;subst hb;exact Rj HP R ho b args argTypes aY h
   ·cases h
  ·cases h
theorem ad6 (R:Rel E C s a w G pt) (hd:fE E o=true) (c x y:Operand) (b:Bool) (aY:o.op = .pick c x y) (hc:aV s c = .bool b)
 (h:oI E o s (bif b then x else y)=some (true,u)):fB P E C o a w (au u s):=by
 have ho:∀ t,o.dst=some t→t<E.n:=by
  intro t ht
  simpa [fE,ht,Nat.blt_eq] using hd
 have hcv:=aJ R c;rw [hc] at hcv;have hcv:a.eval c = .bool b:=hcv
 have hx:∀ o':Oper,o'.dst=o.dst→o'.op = .move (bif b then x else y)→oI E o' s (bif b then x else y)=some (true,u)→fB P E C o a w (au u s):=by
  intro o' hd' anz h'
  obtain ⟨v,w',G',bC,hr,hR⟩:=Un (P:=P) R (by rw [hd'];exact ho) (bif b then x else y) anz h'
  have e:(execOp a.eval o).run P w=(execOp a.eval o').run P w:=by
   cases b<;>simp [execOp,aY,anz,hcv,asBool]
  rw [←e] at hr;rw [hd'] at hR;exact ⟨v,w',G',bC,hr,hR⟩
 refine hx { o with op:=.move (bif b then x else y) } rfl rfl ?_
 exact h
end
end Go.dw