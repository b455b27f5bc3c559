/- The abstract evaluator, part 2: proved is that loads, stores, slices, appends and copies keep the relation between abstract values and memory; no conditions but those that each theorem states. -/
import Derived.Test.YtaabojpgjgeigaaGreatDoorAbsA
import Derived.Laws.BytesArg
import Derived.Laws.IdiomStrings
import Derived.Laws.MakeOwn
set_option linter.unusedVariables false
set_option linter.unusedSimpArgs false
namespace Go.gI
section
variable {P:Program} {E:Env} {C:Ctx} {s:St} {a:Act} {w:World} {G:Nat→Nat} {pt:Nat→Nat→Option Value} {o:Oper} {u:St}
theorem iO {T e:TypeId} {i:Operand} {k:IntKind} {n:Int} {pi:TypeInfo} (hu:P.underlying T=some (.slice e)) (hi:P.info? e=some pi) (hiv:a.eval i = .int k n)
 {x:Operand} {b off len c:Nat} (hv:a.eval x = .slice (some ⟨b,off,none⟩) len c) (h0:0≤n) (h1:n<(len:Int)) (hop:o.op = .indexAddr T x i) :
 (execOp a.eval o).run P w = .ok (.value (.pointer (some ⟨b,off+n.toNat*pi.size,none⟩))) w:=by
 simp [execOp,hop,Instr.indexAt,hiv,hv,asIntOf,run_underlying hu,h0,h1,sizeOf,typeInfo,hi,Addr.add_mid]
theorem gW {T e len:TypeId} {i:Operand} {k:IntKind} {n:Int} {pi:TypeInfo} (hu:P.underlying T=some (.array len e)) (hi:P.info? e=some pi) (hiv:a.eval i = .int k n)
 {x:Operand} {b off:Nat} (hv:a.eval x = .pointer (some ⟨b,off,none⟩)) (h0:0≤n) (h1:n<(len:Int)) (hop:o.op = .indexAddr T x i) :
 (execOp a.eval o).run P w = .ok (.value (.pointer (some ⟨b,off+n.toNat*pi.size,none⟩))) w:=by
 simp [execOp,hop,Instr.indexAt,hiv,hv,asIntOf,run_underlying hu,h0,h1,sizeOf,typeInfo,hi,Addr.add_mid,Instr.sureAddr]
theorem DY (HP:mG P E) (R:Rel E C s a w G pt) (ho:∀ t,o.dst=some t→t<E.n) (T:Nat) (x i:Operand) (hop:o.op = .indexAddr T x i)
 (h:kC E o s T x i=some (true,u)):fC P E C o a w (aA u s):=by
 have hx:=aV R x;have hi:=aV R i;simp only [kC] at h;split at h
 ·rename_i ti k n hti h2
  rw [h2] at hi;obtain ⟨hiv,_⟩:=hi;have hu:=(HP.ti _ _ hti).und;split at h
  ·rename_i e hd
   rw [hd] at hu;split at h
   ·rename_i ei uF
    obtain ⟨pi,z,p1,p2,_⟩:=(HP.ti _ _ uF).info;split at h
    ·rename_i f t l h1
     cases hb:Nat.beq ei.size t.nc with
     | false=>simp [hb] at h
     | true=>
      simp only [hb,aQ,bq,eX,bP,jH] at h;obtain ⟨⟨hn0,hn1⟩,rfl⟩:=h;have hb:=dM hb
      obtain ⟨G',eG,R1,hv1,hv2,hv3⟩:=R.zX x (by rw [h1];rfl)
      rw [h1] at hv1;obtain ⟨ad,m,c,hv,hm,hbd,hsl,hel⟩:=hv1
      rcases hel with hel | ⟨b,off,had,hG,hE⟩
      ·subst hel;simp at hn1;omega
      ·subst had
       rw [aU]
       have hrun:=iO (P:=P) (w:=w) hu p1 hiv hv hn0 (by omega) hop
       refine ⟨_,w,G',pt,.inl hrun,R1.zU o ho ⟨b,off,?_,by omega,hG,hE⟩ (fun _=>rfl)⟩
       rw [p2,hb];simp
    ·rename_i id st h1
     split at h
     ·rename_i st' t l hbx
      cases hb:(Nat.beq st st' && Nat.beq ei.size t.nc) with
      | false=>simp [hb] at h
      | true=>
       simp only [hb,aQ,bq,eX,bP,jH] at h;obtain ⟨⟨hn0,hn1⟩,rfl⟩:=h;simp only [bP] at hb;have hst:=dM hb.1;have hsz:=dM hb.2;subst hst;rw [h1] at hx;have hB:=R.bx id;rw [hbx] at hB;have hB:=hB rfl;simp only [sI,if_false] at hB;obtain ⟨ad,m,c,q1,q2,q3,q4⟩:=hB;have hv:pt id st=some (a.eval x):=hx;rw [hv] at q1
       injection q1 with q1
       rcases q4 with ⟨_,q5,_⟩ | ⟨b,q5,_⟩
       ·subst q5;simp at hn1;omega
       ·subst q5
        have hrun:=iO (P:=P) (w:=w) hu p1 hiv q1 hn0 (by omega) hop
        refine pure_ok R ho hrun ⟨b,by rw [hv,q1];rfl,?_⟩ (fun _=>rfl)
        rw [p2];simp
     ·rename_i st' l hbx
      cases hb:(Nat.beq st st' && Nat.beq ei.size 2) with
      | false=>simp [hb] at h
      | true=>
       simp only [hb,aQ,bq,eX,bP,jH] at h;obtain ⟨⟨hn0,hn1⟩,rfl⟩:=h;simp only [bP] at hb;have hst:=dM hb.1;have hsz:=dM hb.2;subst hst;rw [h1] at hx;have hB:=R.bx id;rw [hbx] at hB;obtain ⟨⟨ad,m,c,q1,q2,q3,q4⟩,_⟩:=hB;have hv:pt id st=some (a.eval x):=hx;rw [hv] at q1
       injection q1 with q1
       rcases q4 with ⟨_,q5,_⟩ | ⟨b,q5,_⟩
       ·subst q5;simp at hn1;omega
       ·subst q5
        have hrun:=iO (P:=P) (w:=w) hu p1 hiv q1 hn0 (by omega) hop
        refine pure_ok R ho hrun ⟨b,by rw [hv,q1];rfl,?_⟩ (fun _=>rfl)
        rw [p2,hsz];simp
     ·cases h
    ·rename_i id st m h1
     rw [h1] at hx;obtain ⟨hx,hm⟩:=hx
     have hw:0≤n→n<(m:Int)→∃ b c,bH (pt id st)=some b∧a.eval x = .slice (some ⟨b,0,none⟩) m c:=by
      intro g0 g1
      rcases hx with hx | ⟨hx,_⟩
      ·exact hx
      ·subst hx;omega
     split at h
     ·rename_i st' t l hbx
      cases hb:(Nat.beq st st' && Nat.beq ei.size t.nc) with
      | false=>simp [hb] at h
      | true=>
       simp only [hb,aQ,bq,eX,bP,jH] at h;obtain ⟨⟨hn0,hn1⟩,rfl⟩:=h;obtain ⟨b,c,hb1,hv⟩:=hw hn0 hn1;have hrun:=iO (P:=P) (w:=w) hu p1 hiv hv hn0 hn1 hop
       refine pure_ok R ho hrun ⟨b,hb1,?_⟩ (fun _=>rfl)
       rw [p2];simp
     ·rename_i st' cs hbx
      cases hb:Nat.beq st st' with
      | false=>simp [hb] at h
      | true=>
       simp only [hb,aQ,bq,eX,bP,jH] at h;obtain ⟨⟨hn0,hn1⟩,rfl⟩:=h;obtain ⟨b,c,hb1,hv⟩:=hw hn0 hn1;have hrun:=iO (P:=P) (w:=w) hu p1 hiv hv hn0 hn1 hop
       refine pure_ok R ho hrun ⟨b,hb1,?_⟩ (fun _=>rfl)
       rw [p2];simp
     ·rename_i st' _ _ hbx
      cases hb:(Nat.beq st st' && Nat.beq ei.size 1) with
      | false=>simp [hb] at h
      | true=>
       simp only [hb,aQ,bq,eX,bP,jH] at h;obtain ⟨⟨hn0,hn1⟩,rfl⟩:=h;obtain ⟨b,c,hb1,hv⟩:=hw hn0 hn1;have hrun:=iO (P:=P) (w:=w) hu p1 hiv hv hn0 hn1 hop
       refine pure_ok R ho hrun ⟨b,hb1,?_⟩ (fun _=>rfl)
       simp only [bP] at hb;rw [p2,dM hb.2];simp
     ·cases h
    ·cases h
   ·cases h
  ·rename_i len e hd
   rw [hd] at hu;split at h
   ·rename_i ei uF
    obtain ⟨pi,z,p1,p2,_⟩:=(HP.ti _ _ uF).info;split at h
    ·rename_i id st off h1
     rw [h1] at hx;obtain ⟨b,hb,hv⟩:=hx;split at h
     ·rename_i st' t l hbx
      cases hbb:(Nat.beq st st' && Nat.beq off 0) with
      | false=>simp [hbb] at h
      | true=>
       simp only [hbb,aQ] at h;simp only [bP] at hbb;have hoff:=dM hbb.2;subst hoff
       cases ht1:Nat.beq t.nc 1 with
       | true=>
        simp only [ht1,aQ,bq,eX,bP,jH] at h;obtain ⟨⟨hn0,hn1⟩,rfl⟩:=h;have hrun:=gW (P:=P) (w:=w) hu p1 hiv hv hn0 hn1 hop
        exact pure_ok R ho hrun ⟨b,hb,by rw [p2];simp⟩ (fun _=>rfl)
       | false=>
        simp only [ht1,bU,bq,eX,bP,jH] at h;obtain ⟨⟨hn0,hn1⟩,rfl⟩:=h;have hrun:=gW (P:=P) (w:=w) hu p1 hiv hv hn0 hn1 hop
        exact pure_ok R ho hrun ⟨b,hb,by rw [p2];simp⟩ (fun _=>rfl)
     ·rename_i hbx
      simp only [bq,eX,bP,jH] at h;obtain ⟨⟨hn0,hn1⟩,rfl⟩:=h;have hrun:=gW (P:=P) (w:=w) hu p1 hiv hv hn0 hn1 hop
      exact pure_ok R ho hrun ⟨b,hb,by rw [p2]⟩ (fun _=>rfl)
     ·cases h
    ·rename_i id st i0 off es h1
     rw [h1] at hx;obtain ⟨b,hb,hv⟩:=hx
     cases hbb:(Nat.beq off 0&&Nat.beq es 1) with
     | false=>simp [hbb] at h
     | true=>
      simp only [hbb,aQ,bq,eX,bP,jH] at h;obtain ⟨⟨hn0,hn1⟩,rfl⟩:=h;simp only [bP] at hbb;have e1:=dM hbb.1;have e2:=dM hbb.2;subst e1;subst e2;have hrun:=gW (P:=P) (w:=w) hu p1 hiv hv hn0 hn1 hop
      exact pure_ok R ho hrun ⟨b,hb,by rw [p2];simp⟩ (fun _=>rfl)
    ·rename_i g off h1
     rw [h1] at hx;have hv:a.eval x = .pointer (some ⟨g,off,none⟩):=hx;simp only [bq,eX,bP,jH] at h;obtain ⟨⟨hn0,hn1⟩,rfl⟩:=h;have hrun:=gW (P:=P) (w:=w) hu p1 hiv hv hn0 hn1 hop
     exact pure_ok R ho hrun (by rw [p2];rfl) (fun _=>rfl)
    ·rename_i t l j off h1
     rw [h1] at hx;obtain ⟨b,ob,hv,hr⟩:=hx;simp only [bq,eX,bP,jH] at h;obtain ⟨⟨hn0,hn1⟩,rfl⟩:=h;have hrun:=gW (P:=P) (w:=w) hu p1 hiv hv hn0 hn1 hop
     exact pure_ok R ho hrun ⟨b,ob,by rw [p2,Nat.add_assoc],hr⟩ (fun _=>rfl)
    ·rename_i kk l h1
     rw [h1] at hx;obtain ⟨b,ob,hv,hG,hr⟩:=hx
     cases hb1:Nat.beq ei.size 1 with
     | false=>simp [hb1] at h
     | true=>
      simp only [hb1,aQ,bq,eX,bP,jH] at h;obtain ⟨⟨⟨hn0,hn1⟩,hlt⟩,rfl⟩:=h
      have hlt:n.toNat<l.length:=by simpa [Nat.blt_eq] using hlt
      have hb1:=dM hb1;have hrun:=gW (P:=P) (w:=w) hu p1 hiv hv hn0 hn1 hop
      refine pure_ok R ho hrun ⟨b,ob,by rw [p2,hb1];simp [Ty.nc],hlt,by simpa [Ty.nc] using hG,hr⟩ (fun _=>rfl)
    ·cases h
   ·cases h
  ·cases h
 ·cases h
theorem qp (R:Rel E C s a w G pt) {x:Option Operand} {z:Nat} {n:Int} (h:bound s x z=some n) :
 (x=none∧n=z)∨∃ y k,x=some y∧a.eval y = .int k n:=by
 cases x with
 | none=>simp only [bound,bq] at h;exact .inl ⟨rfl,h.symm⟩
 | some y=>
  have hy:=aV R y;simp only [bound] at h;split at h
  ·rename_i k m h1
   simp only [bq] at h;subst h;rw [h1] at hy;exact .inr ⟨y,k,rfl,hy.1⟩
  ·cases h
theorem iL (R:Rel E C s a w G pt) (isS:Bool) {lo hi:Option Operand} {len cap:Nat} {p q:Int} (hl:bound s lo 0=some p) (hh:bound s hi len=some q) (h0:0≤p) (h1:p≤q) (h2:q≤(len:Int)) (hc:len≤cap) :
 (Instr.sliceBounds isS len cap (lo.map a.eval) (hi.map a.eval) none).run P w = .ok (p.toNat,q.toNat,cap) w:=by
 rcases qp R hl with ⟨rfl,rfl⟩ | ⟨y,k,rfl,hy⟩<;>rcases qp R hh with ⟨rfl,rfl⟩ | ⟨z,k',rfl,hz⟩
 ·simp [Instr.sliceBounds]
 ·simp [Instr.sliceBounds,Instr.sliceBound,hz,asIntOf,show 0≤q by omega,show q≤(cap:Int) by omega]
 ·simp [Instr.sliceBounds,Instr.sliceBound,hy,asIntOf,h0,show p≤(len:Int) by omega]
 ·simp [Instr.sliceBounds,Instr.sliceBound,hz,hy,asIntOf,h0,show 0≤q by omega,show q≤(cap:Int) by omega]
  intro h;omega
theorem nW (R:Rel E C s a w G pt) {lo:Option Operand} {hi mx:Operand} {len cap:Nat} {p q m:Int} (hl:bound s lo 0=some p) (hh:bound s (some hi) len=some q) (hm:bound s (some mx) 0=some m) (h0:0≤p) (h1:p≤q) (h2:q≤(len:Int)) (hc:len≤cap) (hmq:m=q) :
 (Instr.sliceBounds true len cap (lo.map a.eval) (some (a.eval hi)) (some (a.eval mx))).run P w = .ok (p.toNat,q.toNat,q.toNat) w:=by
 subst hmq
 rcases qp R hh with ⟨h,_⟩ | ⟨z,k',h,hz⟩
 ·cases h
 ·cases h
  rcases qp R hm with ⟨h,_⟩ | ⟨z',k'',h,hz'⟩
  ·cases h
  ·cases h
   have hmm:max m 0=m:=by omega
   rcases qp R hl with ⟨rfl,rfl⟩ | ⟨y,k,rfl,hy⟩
   ·simp [Instr.sliceBounds,Instr.sliceBound,hz,hz',asIntOf,show 0≤m by omega,show m≤(cap:Int) by omega,hmm]
   ·simp [Instr.sliceBounds,Instr.sliceBound,hz,hz',hy,asIntOf,h0,h1,show 0≤m by omega,show m≤(cap:Int) by omega,hmm]
theorem MX (HP:mG P E) (R:Rel E C s a w G pt) (ho:∀ t,o.dst=some t→t<E.n) (T:Nat) (x:Operand) (lo:Option Operand) (hi mx:Operand) (hop:o.op = .slice T x lo (some hi) (some mx))
 (h:qX E o s T x lo hi mx=some (true,u)):fC P E C o a w (aA u s):=by
 have hx:=aV R x;simp only [qX] at h;split at h
 ·rename_i ti hti
  have hu:=(HP.ti _ _ hti).und;split at h
  ·rename_i e f t l hd h1
   rw [hd] at hu;split at h
   ·rename_i ei p q mm uF hl hh hmx
    obtain ⟨pi,z,p1,p2,_⟩:=(HP.ti _ _ uF).info
    cases hb:Nat.beq ei.size t.nc with
    | false=>simp [hb] at h
    | true=>
     simp only [hb,aQ,bq,eX,bP,jH] at h;obtain ⟨⟨⟨⟨h0,h1'⟩,h2⟩,h3⟩,rfl⟩:=h;have hb:=dM hb
     obtain ⟨G',eG,R1,hv1,hv2,hv3⟩:=R.zX x (by rw [h1];rfl)
     rw [h1] at hv1;obtain ⟨ad,m,c,hv,hm,hbd,hsl,hel⟩:=hv1;have hsb:=nW (P:=P) R hl hh hmx h0 h1' h2 hsl h3
     have hlen:((l.take q.toNat).drop p.toNat).length=q.toNat - p.toNat:=by simp;omega
     rw [aU]
     have hrun:(execOp a.eval o).run P w = .ok (.value (.slice (if q.toNat=p.toNat then ad else ad.map (·.add (p.toNat*pi.size))) (q.toNat - p.toNat) (q.toNat - p.toNat))) w:=by
      rw [hm] at hv;simp [execOp,hop,Instr.sliceAt,run_underlying hu,Instr.slice,hv,hsb,sizeOf,typeInfo,p1]
     refine ⟨_,w,G',pt,.inl hrun,R1.zU o ho ⟨_,_,rfl,hlen.symm,?_,?_⟩ (fun b=>?_)⟩
     ·refine jQ (sW _ ?_) hbd
      omega
     ·refine ⟨by omega,?_⟩
      by_cases hne:q.toNat=p.toNat
      ·left
       apply List.eq_nil_of_length_eq_zero;rw [hlen];omega
      ·right
       rcases hel with hel | ⟨b,off,had,hG,hE⟩
       ·subst hel;simp at h2;omega
       ·subst had
        refine ⟨b,off+p.toNat*t.nc,?_,?_,?_⟩
        ·rw [if_neg hne]
         simp only [Option.map_some,Addr.add_mid,p2,hb]
        ·rw [hlen]
         have:off+l.length*t.nc≤G' b:=hG
         have e1:(p.toNat+(q.toNat - p.toNat))*t.nc≤l.length*t.nc:=sW _ (by omega)
         rw [Nat.add_mul] at e1;omega
        ·intro j hj
         have hj':p.toNat+j<l.length:=by rw [hlen] at hj;omega
         have:=hE (p.toNat+j) hj';rw [Nat.add_mul,←Nat.add_assoc] at this
         simpa using this
     ·cases (if q.toNat=p.toNat then ad else ad.map (·.add (p.toNat*pi.size)))<;>rfl
   ·cases h
  ·cases h
 ·cases h
theorem I7 (HP:mG P E) (R:Rel E C s a w G pt) (ho:∀ t,o.dst=some t→t<E.n) (T:Nat) (x:Operand) (lo:Option Operand) (hi mx:Operand) (hop:o.op = .slice T x lo (some hi) (some mx))
 (h:nM E o s T x lo hi mx=some (true,u)):fC P E C o a w (aA u s):=by
 have hx:=aV R x;simp only [nM] at h;split at h
 ·rename_i ti hti
  have hu:=(HP.ti _ _ hti).und;split at h
  ·rename_i e t l hd h1
   rw [hd] at hu;split at h
   ·rename_i ei q mm uF hh hmx
    obtain ⟨pi,z,p1,p2,_⟩:=(HP.ti _ _ uF).info
    cases hb:Nat.beq ei.size t.nc with
    | false=>simp [hb] at h
    | true=>
     simp only [hb,aQ,bq,eX,bP,jH] at h;obtain ⟨⟨⟨h0,h2⟩,h3⟩,rfl⟩:=h;rw [h1] at hx;obtain ⟨ad,m,c,hv,hm,hbd,hsl⟩:=hx
     have hlc:l.length≤c:=by
      rcases hsl with ⟨_,q5,_⟩ | ⟨b,_,_,_,q5,_⟩
      ·subst q5;simp
      ·exact q5
     have hsb:=nW (P:=P) R (lo:=none) (p:=0) rfl hh hmx (Int.le_refl _) h0 h2 hlc h3
     have ead:(if q.toNat=(0:Int).toNat then ad else ad.map (·.add ((0:Int).toNat*pi.size)))=ad:=by
      rcases hsl with ⟨q5,_,_⟩ | ⟨b,q5,_⟩
      ·subst q5;simp
      ·subst q5
       simp [Addr.add_mid]
     have hrun:(execOp a.eval o).run P w = .ok (.value (.slice ad q.toNat q.toNat)) w:=by
      rw [hm] at hv;have:=hsb;simp only [Option.map_none] at this;simp [execOp,hop,Instr.sliceAt,run_underlying hu,Instr.slice,hv,this,sizeOf,typeInfo,p1]
      simpa using ead
     refine ⟨_,w,G,pt,.inl hrun,R.take x o ho (Ext.refl _ _) (fun _ _=>rfl) ⟨ad,q.toNat,q.toNat,rfl,by simp;omega,jQ (sW _ (by omega)) hbd,?_⟩ (fun b=>?_)⟩
     ·rcases hsl with ⟨g1,g2,g3⟩ | ⟨b,g0,g1,g2,g3,g4,g5⟩
      ·subst g2
       exact .inl ⟨g1,by simp,by simp at h2;omega⟩
      ·refine .inr ⟨b,g0,g1,(let ⟨cur,e,fr,k1,k2,k3⟩:=g2;⟨cur,e,fr,k1,jQ (sW _ (by omega)) k2,k3⟩),by simp;omega,fun i hi=>?_,g5⟩
       have hi':i<l.length:=by simp at hi;omega
       have:=g4 i hi'
       simpa using this
     ·rw [h1,hv]
      cases ad<;>exact dQ _
   ·cases h
  ·cases h
 ·cases h
theorem Pz (HP:mG P E) (R:Rel E C s a w G pt) (ho:∀ t,o.dst=some t→t<E.n) (T:Nat) (x:Operand) (lo hi:Option Operand) (hop:o.op = .slice T x lo hi none)
 (h:wI E o s T x lo hi=some (true,u)):fC P E C o a w (aA u s):=by
 have hx:=aV R x;simp only [wI] at h;split at h
 ·rename_i ti hti
  have hu:=(HP.ti _ _ hti).und;split at h
  ·rename_i e f t l hd h1
   rw [hd] at hu;split at h
   ·rename_i ei p q uF hl hh
    obtain ⟨pi,z,p1,p2,_⟩:=(HP.ti _ _ uF).info
    cases hb:Nat.beq ei.size t.nc with
    | false=>simp [hb] at h
    | true=>
     simp only [hb,aQ,bq,eX,bP,jH] at h;obtain ⟨⟨⟨h0,h1'⟩,h2⟩,rfl⟩:=h;have hb:=dM hb
     obtain ⟨G',eG,R1,hv1,hv2,hv3⟩:=R.zX x (by rw [h1];rfl)
     rw [h1] at hv1;obtain ⟨ad,m,c,hv,hm,hbd,hsl,hel⟩:=hv1;have hsb:=iL (P:=P) R true hl hh h0 h1' h2 hsl
     have hlen:((l.take q.toNat).drop p.toNat).length=q.toNat - p.toNat:=by simp;omega
     rw [aU]
     have hrun:(execOp a.eval o).run P w = .ok (.value (.slice (if c=p.toNat then ad else ad.map (·.add (p.toNat*pi.size))) (q.toNat - p.toNat) (c - p.toNat))) w:=by
      rw [hm] at hv;simp [execOp,hop,Instr.sliceAt,run_underlying hu,Instr.slice,hv,hsb,sizeOf,typeInfo,p1]
     refine ⟨_,w,G',pt,.inl hrun,R1.zU o ho ⟨_,_,_,rfl,hlen.symm,?_,?_⟩ (fun b=>?_)⟩
     ·refine jQ (sW _ ?_) hbd
      omega
     ·refine ⟨by omega,?_⟩
      by_cases hne:q.toNat=p.toNat
      ·left
       apply List.eq_nil_of_length_eq_zero;rw [hlen];omega
      ·right
       rcases hel with hel | ⟨b,off,had,hG,hE⟩
       ·subst hel;simp at h2;omega
       ·subst had
        have hcp:¬ c=p.toNat:=by omega
        refine ⟨b,off+p.toNat*t.nc,?_,?_,?_⟩
        ·rw [if_neg hcp]
         simp only [Option.map_some,Addr.add_mid,p2,hb]
        ·rw [hlen]
         have:off+l.length*t.nc≤G' b:=hG
         have e1:(p.toNat+(q.toNat - p.toNat))*t.nc≤l.length*t.nc:=sW _ (by omega)
         rw [Nat.add_mul] at e1;omega
        ·intro j hj
         have hj':p.toNat+j<l.length:=by rw [hlen] at hj;omega
         have:=hE (p.toNat+j) hj';rw [Nat.add_mul,←Nat.add_assoc] at this
         simpa using this
     ·cases (if c=p.toNat then ad else ad.map (·.add (p.toNat*pi.size)))<;>rfl
   ·cases h
  ·rename_i l hd h1
   rw [hd] at hu;rw [h1] at hx;obtain ⟨b,hv,hl',hb⟩:=hx;split at h
   ·rename_i p q hl hh
    simp only [bq,eX,bP,jH] at h;obtain ⟨⟨⟨h0,h1'⟩,h2⟩,rfl⟩:=h
    have hsz:l.length=b.size:=by rw [←hl'];exact jR b
    rw [hsz] at hh h2;have hsb:=iL (P:=P) R false hl hh h0 h1' h2 (dQ _)
    refine pure_ok R ho (v:=.string (b.extract p.toNat q.toNat)) ?_ ⟨_,rfl,?_,?_⟩ (fun _=>rfl)
    ·simp [execOp,hop,Instr.sliceAt,run_underlying hu,Instr.slice,hv,hsb]
    ·rw [←hl']
     simp [d9,List.map_take,List.map_drop,List.extract_eq_take_drop,List.drop_take]
    ·simp;omega
   ·cases h
  ·cases h
 ·cases h
end
theorem gX {b:Nat}:∀ {ds:List D} {f g:Nat→Value},(∀ j,j<ds.length→f j=g j)→aP b ds f=aP b ds g
 | [],_,_,_=>rfl
 | d::r,f,g,h=>by
  simp only [aP]
  rw [h 0 (by simp),gX (f:=fun i=>f (i+1)) (g:=fun i=>g (i+1)) fun j hj=>h (j+1) (by simpa using hj)]
def F3 (agg:Bool) (n:Nat) (f:Nat→Value):Value:=bif agg then .agg ((List.range n).map f).toArray else f 0
section
variable {P:Program} {E:Env} {C:Ctx} {s:St} {a:Act} {w:World} {G:Nat→Nat} {pt:Nat→Nat→Option Value} {o:Oper} {u:St}
theorem aR.congr {ds:List D} {f g:Nat→Value} (h:aR w G pt ds f) (hfg:∀ j,j<ds.length→f j=g j):aR w G pt ds g:=by
 intro j hj;rw [←hfg j hj];exact h j hj
theorem jS {agg:Bool} {n:Nat} {ds:List D} {d:D} {f:Nat→Value} (h:mk1 agg ds=some d) (hl:ds.length=n) (hr:aR w G pt ds f) :
 bg w G pt d (F3 agg n f)∧∀ b,dN b d (F3 agg n f)=aP b ds f:=by
 cases agg with
 | true=>
  simp only [mk1,aQ,bq] at h;subst h
  have e:∀ j,j<ds.length→f j=aS ((List.range n).map f).toArray j:=by
   intro j hj
   have hn:j<n:=by omega
   simp [aS,sJ,hn]
  refine ⟨⟨_,rfl,by simp [hl],hr.congr e⟩,fun b=>?_⟩
  show aP b ds (aS ((List.range n).map f).toArray)=_;exact (gX e).symm
 | false=>
  simp only [mk1,bU] at h
  match ds,h with
  | [d0],h=>
   simp only [bq] at h;subst h
   have h0:=(hr 0 (by simp)).1
   simp only [List.getElem_cons_zero] at h0
   refine ⟨?_,fun b=>?_⟩
   ·cases d0<;>first | exact h0 | exact absurd h0 id
   ·simp only [F3,bU,aP,Nat.add_zero]
    cases d0<;>first | rfl | exact absurd h0 id
    all_goals (cases f 0<;>rfl)
theorem qw {T:TypeId} {i:TI} (hT:Po P T i) {b off:Nat} {f:Nat→Value} (hc:∀ j,j<i.size→w.cell? ⟨b,off+j,none⟩=some (f j)) :
 (loadVar T ⟨b,off,none⟩).run P w = .ok (F3 i.agg i.size f) w:=by
 obtain ⟨pi,z,p1,p2,_⟩:=hT.info
 cases hag:i.agg with
 | true=>
  have h1:jr i.desc=true:=by rw [←hT.agg];exact hag
  have:=run_loadVar_mid (P:=P) w b off T ((List.range i.size).map f) i.desc (fun j v hj=>by
   rw [List.getElem?_map] at hj
   by_cases hjn:j<i.size
   ·rw [List.getElem?_range hjn] at hj
    simp at hj;rw [←hj];exact hc j hjn
   ·rw [List.getElem?_eq_none (by simpa using hjn)] at hj;simp at hj) hT.und (by cases hd:i.desc<;>rw [hd] at h1<;>first | rfl | exact h1) (by simp [p1,p2])
  exact this
 | false=>
  have h1:jr i.desc=false:=by rw [←hT.agg];exact hag
  have hagg:(isAgg T).run P w = .ok false w:=by
   unfold isAgg;rw [Sem.run_bind,run_underlying hT.und w]
   cases hd:i.desc<;>rw [hd] at h1<;>simp_all [jr]
  have h0:=hc 0 (by rw [hT.one hag];omega)
  simp only [Nat.add_zero] at h0;simp [loadVar,hagg,h0,F3]
theorem lV {T:TypeId} {i:TI} (hT:Po P T i) {b off:Nat} {f:Nat→Value} (hc:∀ j,j<i.size→w.cell? ⟨b,off+j,none⟩=some (f j)) {x:Operand}
 (hop:o.op = .load T x) (hv:a.eval x = .pointer (some ⟨b,off,none⟩)):(execOp a.eval o).run P w = .ok (.value (F3 i.agg i.size f)) w:=by
 simp [execOp,hop,hv,Instr.loadAt,Instr.sureAddr,qw hT hc]
theorem nX {b k:Nat} (h:Room w b k) {j:Nat} (hj:j<k):w.cell? ⟨b,j,none⟩=some (aD w b j):=by
 obtain ⟨cur,e,fr,h1,h2,h3⟩:=h
 have hlt:j<cur.size:=by omega
 simp [aD,World.cell?,h1,hlt]
theorem aR.sub {ds:List D} {f:Nat→Value} (h:aR w G pt ds f) (off n:Nat):aR w G pt ((ds.drop off).take n) (fun j=>f (off+j)):=(h.drop off).take n
theorem fP {cs ds:List D} {off:Nat} (h:off+ds.length≤cs.length):(dL cs off ds).length=cs.length:=by
 simp [dL];omega
theorem nY {cs ds:List D} {off:Nat} (h:off+ds.length≤cs.length) {j:Nat} (hj:j<(dL cs off ds).length) :
 (off≤j∧j<off+ds.length→∀ hh:j - off<ds.length,(dL cs off ds)[j]=ds[j - off]) ∧
 (¬ (off≤j∧j<off+ds.length)→∀ hh:j<cs.length,(dL cs off ds)[j]=cs[j]):=by
 have hlt:(cs.take off).length=off:=by simp;omega
 constructor
 ·intro h1 hh
  simp only [dL]
  rw [List.getElem_append_right (by omega),List.getElem_append_left (by omega)]
  simp [hlt]
 ·intro h1 hh
  simp only [dL]
  by_cases h2:j<off
  ·rw [List.getElem_append_left (by omega)]
   simp
  ·rw [List.getElem_append_right (by omega),List.getElem_append_right (by omega)]
   simp only [List.getElem_drop]
   congr 1
   omega
theorem aR.dL {cs ds:List D} {f:Nat→Value} {off:Nat} (h:aR w G pt cs f) (hd:aR w G pt ds (fun j=>f (off+j))) (hl:off+ds.length≤cs.length) :
 aR w G pt (gI.dL cs off ds) f:=by
 intro j hj;obtain ⟨q1,q2⟩:=nY hl hj;have hlen:=fP hl
 by_cases h1:off≤j∧j<off+ds.length
 ·rw [q1 h1 (by omega)]
  have:=hd (j - off) (by omega)
  simp only [show off+(j - off)=j by omega] at this
  exact this
 ·rw [q2 h1 (by omega)]
  exact h j (by omega)
theorem fZ {b:Nat}:∀ (xs ys:List D) (f:Nat→Value),aP b (xs++ys) f=aP b xs f+aP b ys (fun j=>f (xs.length+j))
 | [],ys,f=>by simp [aP]
 | d::xs,ys,f=>by
  simp only [List.cons_append,aP,fZ xs ys,List.length_cons]
  have:(fun j=>f (xs.length+j+1))=fun j=>f (xs.length+1+j):=funext fun j=>by rw [Nat.add_right_comm]
  rw [this];omega
theorem iP {b:Nat} {cs ds:List D} {f:Nat→Value} {off:Nat} (hl:off+ds.length≤cs.length) :
 aP b (dL cs off ds) f+aP b ((cs.drop off).take ds.length) (fun j=>f (off+j))=aP b cs f+aP b ds (fun j=>f (off+j)):=by
 have h1:cs=cs.take off++((cs.drop off).take ds.length++cs.drop (off+ds.length)):=by
  rw [←List.drop_drop,List.take_append_drop,List.take_append_drop]
 have hlt:(cs.take off).length=off:=by simp;omega
 have hlm:((cs.drop off).take ds.length).length=ds.length:=by simp;omega
 have e2:aP b cs f=aP b (cs.take off) f+(aP b ((cs.drop off).take ds.length) (fun j=>f (off+j))+aP b (cs.drop (off+ds.length)) (fun j=>f (off+(ds.length+j)))):=by
  conv=>lhs;rw [h1]
  rw [fZ,fZ,hlt,hlm]
 simp only [dL,fZ,hlt];omega
theorem Rel.PD (R:Rel E C s a w G pt) (id st off n:Nat) {cs:List D} (hb:get s (2*id+1) = .aI st true cs) (hl:off+n≤cs.length) :
 ∃ G' blk,Ext w G w G'∧bH (pt id st)=some blk∧Room w blk cs.length ∧
  Rel E C ((2*id+1,.aI st true (dL cs off (((cs.drop off).take n).map bV)))::s) a w G' pt ∧
  aR w G' pt (((cs.drop off).take n).map bV) (fun j=>aD w blk (off+j)):=by
 have hB:=R.bx id;rw [hb] at hB;obtain ⟨blk,h1,h2,h3,h4⟩:=hB rfl
 have hblk:bH (pt id st)=some blk:=by rw [h1];rfl
 have hsub:=h4.sub off n
 have hln:((cs.drop off).take n).length=n:=by simp;omega
 have hcB:∀ b,cB s w pt b id=dx b (pt id st)+aP b cs (aD w blk):=fun b=>by simp only [cB,hb,gQ,hblk,Option.getD_some]
 have hrp:∀ b,aP b (dL cs off (((cs.drop off).take n).map bV)) (aD w blk)=aP b cs (aD w blk):=by
  intro b
  have:=iP (b:=b) (cs:=cs) (ds:=((cs.drop off).take n).map bV) (f:=aD w blk) (off:=off) (by simp;omega)
  rw [List.length_map,hln,lQ] at this;omega
 have PE:∀ b,aP b ((cs.drop off).take n) (fun j=>aD w blk (off+j))≤aP b cs (aD w blk):=by
  intro b
  have:=iP (b:=b) (cs:=cs) (ds:=((cs.drop off).take n).map stripL) (f:=aD w blk) (off:=off) (by simp;omega)
  rw [List.length_map,hln,iN kD] at this;omega
 have hid:=gB R (id:=id) (by rw [hb];simp)
 obtain ⟨e,hsh⟩:=hsub.share (fun b=>by
  have:=PE b;have:=hcB b;have:=R.iT b id;have:=R.ct b;omega)
 refine ⟨lN G ((cs.drop off).take n) (fun j=>aD w blk (off+j)),blk,e,hblk,h2,?_,hsh⟩
 have hG:∀ b,cB s w pt b id=0→lN G ((cs.drop off).take n) (fun j=>aD w blk (off+j)) b=G b:=fun b hb=>gT (by have:=PE b;have:=hcB b;omega)
 have hGb:lN G ((cs.drop off).take n) (fun j=>aD w blk (off+j)) blk=G blk:=by
  refine gT ?_;have:=PE blk;have:=hcB blk;have:=R.iT blk id;have:=R.ct blk
  have:dx blk (pt id st)=1:=by simp [dx,hblk]
  omega
 -- all that stood in the box stands under the new bounds
 have hall:aR w (lN G ((cs.drop off).take n) (fun j=>aD w blk (off+j))) pt (dL cs off (((cs.drop off).take n).map bV)) (aD w blk):=by
  intro j hj
  have hlen:(dL cs off (((cs.drop off).take n).map bV)).length=cs.length:=fP (by simp;omega)
  obtain ⟨q1,q2⟩:=nY (cs:=cs) (ds:=((cs.drop off).take n).map bV) (off:=off) (by simp;omega) hj
  by_cases hin:off≤j∧j<off+(((cs.drop off).take n).map bV).length
  ·have hlt:j - off<(((cs.drop off).take n).map bV).length:=by omega
   rw [q1 hin hlt];have:=hsh (j - off) hlt
   simp only [show off+(j - off)=j by omega] at this
   exact this
  ·have hjc:j<cs.length:=by omega
   rw [q2 hin hjc]
   refine ⟨(h4 j hjc).1.mono e (fun _ _ _ h=>h) fun b hb=>⟨rfl,gT ?_⟩,(h4 j hjc).2⟩
   -- the leaf at j lies outside of the part
   have hz:aP b (dL cs off (((cs.drop off).take n).map stripL)) (aD w blk)+aP b ((cs.drop off).take n) (fun j=>aD w blk (off+j))=aP b cs (aD w blk):=by
    have:=iP (b:=b) (cs:=cs) (ds:=((cs.drop off).take n).map stripL) (f:=aD w blk) (off:=off) (by simp;omega)
    rw [List.length_map,hln,iN kD] at this;omega
   have KM:(dL cs off (((cs.drop off).take n).map stripL)).length=cs.length:=fP (by simp;omega)
   have hg:=jy (b:=b) (ds:=dL cs off (((cs.drop off).take n).map stripL)) (f:=aD w blk) j (by omega)
   rw [(nY (cs:=cs) (ds:=((cs.drop off).take n).map stripL) (off:=off) (by simp;omega) (by omega)).2 (by simpa using hin) hjc] at hg
   have:=hcB b;have:=R.iT b id;have:=R.ct b;omega
 refine R.step (fun _=>False) (fun i=>i=id) (fun b=>0<cB s w pt b id) rfl R.df (fun t _=>⟨by simp,rfl⟩) (fun i hi=>⟨by simp [hi],rfl⟩) e (fun _ _ _ h=>h)
  (fun b hb _=>⟨rfl,hG b (by omega)⟩) (fun b hb t _=>R.bt hb t) (fun b hb i hi=>R.bb hb hi) (fun b hb=>(R.cb b (nG hb (R.iT b id))).2) (fun t h=>h.elim)
  (fun i hi=>?_) (fun c1 c2 b=>?_) (fun b hb=>?_) rfl rfl rfl (dQ _)
 ·subst hi
  refine ⟨hid,?_,?_⟩
  ·simp only [bA,if_true]
   exact fun _=>⟨blk,h1,by rw [fP (by simp;omega)];exact h2,hGb.trans h3,hall⟩
  ·simp only [bA,if_true]
   intro st' hst'
   exact R.pf i st' (by rw [hb];exact hst')
 ·have e1:=aM (n:=E.n) (f:=cT s a b) (g:=cT ((2*id+1,.aI st true (dL cs off (((cs.drop off).take n).map bV)))::s) a b) (fun i _=>(c1 i (fun h=>h) b).symm)
  have e2:=dH (n:=C.m) (f:=cB s w pt b) (g:=cB ((2*id+1,.aI st true (dL cs off (((cs.drop off).take n).map bV)))::s) w pt b) hid (fun i hi=>c2 i hi b)
  have e3:cB ((2*id+1,.aI st true (dL cs off (((cs.drop off).take n).map bV)))::s) w pt b id=cB s w pt b id:=by
   rw [hcB b];simp only [cB,bA,if_true,gQ,hblk,Option.getD_some,hrp]
  have h1:=R.ct b;have h2:=R.cb b;unfold TC at *
  exact ⟨by omega,fun h=>h2 (by omega)⟩
 ·have:cB s w pt b id=0:=by
   rcases Nat.eq_zero_or_pos (cB s w pt b id) with h | h
   ·exact h
   ·have:=(R.cb b (nG h (R.iT b id))).1;omega
  rw [hG b this];exact R.gz b hb
end
theorem afV {x y z z':D} {s:St} {i j:Nat} (h:i≠j) (m:Nat) :
 get ((2*i,x)::(2*i+1,y)::(2*j+1,z)::s) m=get ((2*j+1,z)::(2*i,x)::(2*i+1,y)::(2*j+1,z')::s) m:=by
 simp only [aH]
 (repeat' split)<;>first | rfl | omega
section
variable {P:Program} {E:Env} {C:Ctx} {s:St} {a:Act} {w:World} {G:Nat→Nat} {pt:Nat→Nat→Option Value} {o:Oper} {u:St}
theorem Rel.PG (R:Rel E C s a w G pt) {id st blk:Nat} {cs cs':List D} (hb:get s (2*id+1) = .aI st true cs) (hblk:bH (pt id st)=some blk) (hl:cs'.length=cs.length)
 (hr:aR w G pt cs' (aD w blk)) (hc:∀ b,aP b cs' (aD w blk)≤aP b cs (aD w blk)) :
 Rel E C ((2*id+1,.aI st true cs')::s) a w G pt ∧
  ∀ b,TC E.n C.m ((2*id+1,.aI st true cs')::s) a w pt b+aP b cs (aD w blk)=TC E.n C.m s a w pt b+aP b cs' (aD w blk):=by
 have hB:=R.bx id;rw [hb] at hB;obtain ⟨bT,h1,h2,h3,h4⟩:=hB rfl
 have hbb:bT=blk:=by rw [h1] at hblk;simpa [bH] using hblk
 subst hbb
 have hid:=gB R (id:=id) (by rw [hb];simp)
 have c0:∀ b,cB s w pt b id=dx b (pt id st)+aP b cs (aD w bT):=fun b=>by simp only [cB,hb,gQ,hblk,Option.getD_some]
 have c1':∀ b,cB ((2*id+1,.aI st true cs')::s) w pt b id=dx b (pt id st)+aP b cs' (aD w bT):=fun b=>by simp only [cB,bA,if_true,gQ,hblk,Option.getD_some]
 have tcs:∀ b,TC E.n C.m ((2*id+1,.aI st true cs')::s) a w pt b+aP b cs (aD w bT)=TC E.n C.m s a w pt b+aP b cs' (aD w bT):=by
  intro b
  have e1:=aM (n:=E.n) (f:=cT s a b) (g:=cT ((2*id+1,.aI st true cs')::s) a b) (fun i _=>by simp only [cT,get_bt])
  have e2:=dH (n:=C.m) (f:=cB s w pt b) (g:=cB ((2*id+1,.aI st true cs')::s) w pt b) hid (fun i hi=>by simp only [cB,bA,hi,if_false])
  have:=c0 b;have:=c1' b;unfold TC;omega
 refine ⟨?_,tcs⟩
 refine R.step (fun _=>False) (fun i=>i=id) (fun _=>False) rfl R.df (fun t _=>⟨by simp,rfl⟩) (fun i hi=>⟨by simp [hi],rfl⟩) (Ext.refl _ _) (fun _ _ _ h=>h)
  (fun b _ _=>⟨rfl,rfl⟩) (fun b h=>h.elim) (fun b h=>h.elim) (fun b h=>h.elim) (fun t h=>h.elim)
  (fun i hi=>?_) (fun _ _ b=>?_) R.gz rfl rfl rfl (dQ _)
 ·subst hi
  refine ⟨hid,?_,?_⟩
  ·simp only [bA,if_true]
   exact fun _=>⟨bT,h1,by rw [hl];exact h2,h3,hr⟩
  ·simp only [bA,if_true]
   intro st' hst'
   exact R.pf i st' (by rw [hb];exact hst')
 ·have:=tcs b
  have:=hc b;have h1:=R.ct b;have h2:=R.cb b
  exact ⟨by omega,fun h=>h2 (by omega)⟩
theorem F4 (HP:mG P E) (R:Rel E C s a w G pt) (hm:E.n≤C.m) (ho:∀ t,o.dst=some t→t<E.n) (T:Nat) (x:Operand) (hop:o.op = .load T x) {i:TI} (hi:E.T T=some i)
 {id st off st':Nat} {cs:List D} (hx:aX s x = .ptr id st off) (hbx:get s (2*id+1) = .aI st' true cs)
 (h:(bif Nat.beq st st' && Nat.beq ((cs.drop off).take i.size).length i.size&&Nat.blt 0 i.size then
  (match tag E o with
  | 3=>match (cs.drop off).take i.size,o.dst with
   | [.sl f t l],some dst=>
    let st2:=aO (get s (2*dst+1))+1
    bif Nat.beq f 2&&Nat.blt 0 t.nc && !Nat.beq dst id && !i.agg then
     some (true,[(2*id+1,.aI st true (dL cs off [.gZ dst st2])),(2*dst+1,.aW st2 true false t l),(2*dst,.gZ dst st2)]) else none
   | [.gZ a b],_=>bif i.agg then none else some (true,bN o (.gZ a b))
   | _,_=>none
  | 1=>match mk1 i.agg ((cs.drop off).take i.size) with
   | some d=>some (true,(2*id+1,.aI st true (dL cs off (((cs.drop off).take i.size).map stripL)))::bN o d)
   | none=>none
  | _=>match mk1 i.agg (((cs.drop off).take i.size).map dw) with
   | some d=>some (true,(bif ((cs.drop off).take i.size).any zI then [(2*id+1,.aI st true (dL cs off (((cs.drop off).take i.size).map bV)))] else [])++bN o d)
   | none=>none) else none)=some (true,u)):fC P E C o a w (aA u s):=by
 cases hb:(Nat.beq st st' && Nat.beq ((cs.drop off).take i.size).length i.size&&Nat.blt 0 i.size) with
 | false=>simp only [hb,bU,reduceCtorEq] at h
 | true=>
  simp only [hb,aQ] at h;simp only [bP] at hb;have hst:=dM hb.1.1;subst hst;have hln:=dM hb.1.2
  have hpos:0<i.size:=by simpa [Nat.blt_eq] using hb.2
  have afW:off+i.size≤cs.length:=by simp at hln;omega
  have hT:=HP.ti _ _ hi;have hrx:=aV R x;rw [hx] at hrx;obtain ⟨blk,hblk,hv⟩:=hrx;have hB:=R.bx id;rw [hbx] at hB;obtain ⟨bT,h1,h2,h3,h4⟩:=hB rfl
  have hbb:bT=blk:=by rw [h1] at hblk;simpa [bH] using hblk
  subst hbb
  have hrun:(execOp a.eval o).run P w = .ok (.value (F3 i.agg i.size fun j=>aD w bT (off+j))) w:=
   lV hT (fun j hj=>nX h2 (by omega)) hop hv
  have hid:=gB R (id:=id) (by rw [hbx];simp)
  have c0:∀ b,cB s w pt b id=dx b (pt id st)+aP b cs (aD w bT):=fun b=>by simp only [cB,hbx,gQ,hblk,Option.getD_some]
  split at h
  ·-- promote
   split at h
   ·rename_i f t l dst hds hdst
    cases hg:(Nat.beq f 2&&Nat.blt 0 t.nc && !Nat.beq dst id && !i.agg) with
    | false=>simp [hg] at h
    | true=>
     simp only [hg,aQ,bq,eX,true_and] at h;simp only [bP,Bool.not_eq_true'] at hg;obtain ⟨⟨⟨hg1,hg2⟩,hg3⟩,hg4⟩:=hg;have hf:=dM hg1;have hne:=zC5 hg3;subst hf;subst h;have hsz:i.size=1:=hT.one hg4;have hsub:=h4.sub off i.size;rw [hds] at hsub
     have hcell:=(hsub 0 (by simp)).1
     simp only [List.getElem_cons_zero,Nat.add_zero] at hcell;obtain ⟨ad,n,c,hv1,hn,hbd,hsl⟩:=hcell
     -- the box without its slice
     have hl1:off+[D.undef].length≤cs.length:=by simp;omega
     have hrl:∀ d:D,eu 0 d (aD w bT off)=eu 0 d (aD w bT off):=fun _=>rfl
     obtain ⟨R1,tc1⟩:=R.PG (cs':=dL cs off [.undef]) hbx hblk (fP hl1) (h4.dL (fun j hj=>by
      have:j=0:=by simp at hj;exact hj
      subst this
      exact ⟨trivial,(h4 (off+0) (by omega)).2⟩) hl1) (fun b=>by
      have:=iP (b:=b) (f:=aD w bT) hl1
      have e0:aP b [D.undef] (fun j=>aD w bT (off+j))=0:=by
       show eu b .undef _+0=0
       cases aD w bT (off+0)<;>rfl
      omega)
     have hdt:=ho dst hdst
     have hg0:get ((2*id+1,D.aI st true (dL cs off [.undef]))::s) (2*dst+1)=get s (2*dst+1):=by simp [hne]
     have am9:∀ b,eu b (.sl 2 t l) (aD w bT off)=dx b (some (aD w bT off)):=by
      intro b;rw [hv1]
      rcases hsl with ⟨h5,_⟩ | ⟨b',h5,_⟩
      ·subst h5;simp [dx,bH,eu]
      ·subst h5;simp [dx,bH,eu]
     have tc2:∀ b,TC E.n C.m ((2*id+1,.aI st true (dL cs off [.undef]))::s) a w pt b+eu b (.sl 2 t l) (aD w bT off)=TC E.n C.m s a w pt b:=by
      intro b;have h5:=tc1 b;have h6:=iP (b:=b) (f:=aD w bT) hl1
      have e0:aP b [D.undef] (fun j=>aD w bT (off+j))=0:=by
       show eu b .undef _+0=0
       cases aD w bT (off+0)<;>rfl
      have e1:aP b ((cs.drop off).take [D.undef].length) (fun j=>aD w bT (off+j))=eu b (.sl 2 t l) (aD w bT off):=by
       have:(cs.drop off).take [D.undef].length=[.sl 2 t l]:=by rw [←hds,hsz];rfl
       rw [this];rfl
      omega
     have key:=R1.wM dst hdt hm (w':=w) (G':=G) (dB:=.aW (aO (get ((2*id+1,D.aI st true (dL cs off [.undef]))::s) (2*dst+1))+1) true false t l)
      (d':=.gZ dst (aO (get ((2*id+1,D.aI st true (dL cs off [.undef]))::s) (2*dst+1))+1)) (pv:=aD w bT off) (v':=aD w bT off) (Ext.refl _ _) (fun _ _=>⟨rfl,rfl⟩)
      (by show bB _ _ _ _ _ _=_;simp [bB]) (fun b=>by cases aD w bT off<;>rfl)
      (fun _=>by
       simp only [sI,if_false];refine ⟨ad,n,c,?_,hn,hbd,hsl⟩
       simp [bB,hv1]) rfl
      (fun b=>by
       have e:gQ w (bB pt dst (aO (get ((2*id+1,D.aI st true (dL cs off [.undef]))::s) (2*dst+1))+1) (aD w bT off)) b dst
        (.aW (aO (get ((2*id+1,D.aI st true (dL cs off [.undef]))::s) (2*dst+1))+1) true false t l)=dx b (some (aD w bT off)):=by
        simp [gQ,bB]
       rw [e,←am9];have h5:=tc2 b;have h6:=R.ct b;have h7:=R.cb b
       exact ⟨by omega,fun h=>⟨by omega,h7 (by omega)⟩⟩)
      R.gz rfl rfl rfl (dQ _)
     rw [hg0] at key;generalize au5:aO (get s (2*dst+1))+1=st2 at key ⊢
     -- now the reference into the box
     have afX:get ((2*dst,D.gZ dst st2)::(2*dst+1,.aW st2 true false t l)::(2*id+1,.aI st true (dL cs off [.undef]))::s) (2*id+1) = .aI st true (dL cs off [.undef]):=by
      simp [Ne.symm hne]
     have UC:∀ i j v,pt i j=some v→bB pt dst st2 (aD w bT off) i j=some v:=by
      intro i j v hv;unfold bB;rw [if_neg]
      ·exact hv
      ·rintro ⟨rfl,rfl⟩
       rw [R.pf i j (by omega)] at hv;cases hv
     have hblk2:bH (bB pt dst st2 (aD w bT off) id st)=some bT:=by
      have:bB pt dst st2 (aD w bT off) id st=pt id st:=by simp [bB,Ne.symm hne]
      rw [this];exact hblk
     have aap:aR w G (bB pt dst st2 (aD w bT off)) (dL cs off [.undef]) (aD w bT):=by
      have:=key.bx id;rw [afX] at this;obtain ⟨b9,g1,_,_,g4⟩:=this rfl
      have:b9=bT:=by rw [g1] at hblk2;simpa [bH] using hblk2
      subst this;exact g4
     have hlu:(dL cs off [D.undef]).length=cs.length:=fP hl1
     have e9:dL (dL cs off [D.undef]) off [D.gZ dst st2]=dL cs off [D.gZ dst st2]:=by
      simp only [dL,FL]
      have hlt:(cs.take off).length=off:=by simp;omega
      rw [List.take_append_of_le_length (by omega),List.take_take,Nat.min_self]
      congr 2
      rw [List.drop_append,hlt]
      simp only [show off+1 - off=1 by omega]
      rw [List.drop_eq_nil_of_le (by simp;omega)]
      simp
     obtain ⟨R3,_⟩:=key.PG (cs':=dL cs off [.gZ dst st2]) afX hblk2 (by rw [hlu];exact fP (by simp;omega)) (by
      rw [←e9]
      refine aap.dL (fun j hj=>?_) (by simp;omega)
      have:j=0:=by simp at hj;exact hj
      subst this
      refine ⟨?_,(h4 (off+0) (by omega)).2⟩
      show bB pt dst st2 (aD w bT off) dst st2=some (aD w bT (off+0))
      simp [bB]) (fun b=>by
      rw [←e9]
      have h5:=iP (b:=b) (cs:=dL cs off [D.undef]) (ds:=[D.gZ dst st2]) (f:=aD w bT) (off:=off) (by simp;omega)
      have e0:aP b [D.gZ dst st2] (fun j=>aD w bT (off+j))=0:=by
       show eu b (.gZ dst st2) _+0=0
       cases aD w bT (off+0)<;>rfl
      omega)
     -- the order of the changes
     have fin:Rel E C (aA [(2*id+1,D.aI st true (dL cs off [D.gZ dst st2])),(2*dst+1,D.aW st2 true false t l),(2*dst,D.gZ dst st2)] s)
      (a.put (some dst) (aD w bT off)) w G (bB pt dst st2 (aD w bT off)):=by
      exact Rel.congr R3 (fun m=>afV hne m)
     have ev:F3 i.agg i.size (fun j=>aD w bT (off+j))=aD w bT off:=by rw [hg4];simp [F3]
     rw [ev] at hrun
     exact ⟨_,w,G,_,.inl hrun,by rw [hdst];exact fin⟩
   ·rename_i _ a' b' hds
    cases hag:i.agg with
    | true=>simp [hag] at h
    | false=>
     simp only [hag,bU,bq,eX,true_and] at h;subst h;have hsub:=h4.sub off i.size;rw [hds] at hsub
     have hcell:=(hsub 0 (by simp)).1
     simp only [List.getElem_cons_zero,Nat.add_zero] at hcell
     refine ⟨_,w,G,pt,.inl hrun,R.zU o ho ?_ (fun b=>?_)⟩
     ·rw [hag];simp only [F3,bU,Nat.add_zero];exact hcell
     ·cases F3 i.agg i.size (fun j=>aD w bT (off+j))<;>rfl
   ·cases h
  ·-- take
   split at h
   ·rename_i d hd
    simp only [bq,eX,true_and] at h;subst h
    ·have hsub:=h4.sub off i.size
     obtain ⟨q1,q2⟩:=jS (n:=i.size) hd hln hsub
     have hl1:off+(((cs.drop off).take i.size).map stripL).length≤cs.length:=by rw [List.length_map,hln];exact afW
     obtain ⟨R1,tc1⟩:=R.PG (cs':=dL cs off (((cs.drop off).take i.size).map stripL)) hbx hblk (fP hl1) (h4.dL (hsub.map fun _ _ h=>h.strip) hl1) (fun b=>by
      have:=iP (b:=b) (f:=aD w bT) hl1
      have e0:=iN kD b ((cs.drop off).take i.size) (fun j=>aD w bT (off+j))
      omega)
     have tc2:∀ b,TC E.n C.m ((2*id+1,.aI st true (dL cs off (((cs.drop off).take i.size).map stripL)))::s) a w pt b+dN b d (F3 i.agg i.size fun j=>aD w bT (off+j))=TC E.n C.m s a w pt b:=by
      intro b;have h5:=tc1 b;have h6:=iP (b:=b) (f:=aD w bT) hl1
      have e0:=iN kD b ((cs.drop off).take i.size) (fun j=>aD w bT (off+j))
      rw [List.length_map,hln] at h6;rw [q2];omega
     refine ⟨_,w,G,pt,.inl hrun,R1.put o ho (fun _=>False) (Ext.refl _ _) (fun _ _ _=>⟨rfl,rfl⟩) (fun b h=>h.elim) q1 (fun b=>?_) R.gz rfl rfl rfl (dQ _)⟩
     have h5:=tc2 b;have h6:=R.ct b;have h7:=R.cb b
     exact ⟨by omega,fun h=>⟨by omega,h7 (by omega)⟩⟩
   ·cases h
  ·-- view
   split at h
   ·rename_i d hd
    simp only [bq,eX,true_and] at h;subst h
    ·obtain ⟨G',aaq,e,hblk2,_,R1,hr1⟩:=R.PD id st off i.size hbx afW
     have:aaq=bT:=by rw [hblk] at hblk2;injection hblk2 with h;exact h.symm
     subst this
     obtain ⟨q1,q2⟩:=jS (n:=i.size) hd (by rw [List.length_map];exact hln) hr1.view
     have hc0:∀ b,dN b d (F3 i.agg i.size fun j=>aD w aaq (off+j))=0:=fun b=>by rw [q2];exact iN nS b _ _
     rw [aU]
     cases hU:((cs.drop off).take i.size).any zI with
     | true=>
      simp only [aQ];exact ⟨_,w,G',pt,.inl hrun,R1.zU o ho q1 hc0⟩
     | false=>
      simp only [bU];have hsame:=uM _ hU
      have h5:aR w G pt ((cs.drop off).take i.size) (fun j=>aD w aaq (off+j)):=h4.sub off i.size
      rw [←hsame] at h5
      obtain ⟨q3,_⟩:=jS (n:=i.size) hd (by rw [List.length_map];exact hln) h5.view
      exact ⟨_,w,G,pt,.inl hrun,R.zU o ho q3 hc0⟩
   ·cases h
end
theorem qx (t:Ty) (l:List t.den) (h1:t.nc=1):∀ j (h:j<(l.flatMap (enc t)).length),∃ (h':j<l.length) (h'':0<(enc t l[j]).length),(l.flatMap (enc t))[j]=(enc t l[j])[0]:=by
 induction l with
 | nil=>intro j h;simp at h
 | cons x l ih=>
  intro j h
  have hx:(enc t x).length=1:=by rw [jh,h1]
  match j,h with
  | 0,h=>
   refine ⟨by simp,by simp [hx],?_⟩
   simp only [List.flatMap_cons,List.getElem_cons_zero]
   exact List.getElem_append_left (by omega)
  | j+1,h=>
   simp only [List.flatMap_cons,kZ,hx] at h
   obtain ⟨h',h'',e⟩:=ih j (by omega)
   refine ⟨by simpa using h',by simpa using h'',?_⟩
   simp only [List.flatMap_cons,List.getElem_cons_succ]
   rw [List.getElem_append_right (by omega)]
   simp only [hx,Nat.add_sub_cancel];exact e
theorem uQ (t:Ty) (l:List t.den) (h1:t.nc=1):(l.flatMap (enc t)).length=l.length:=by
 induction l with
 | nil=>rfl
 | cons x l ih=>simp only [List.flatMap_cons,kZ,jh,h1,ih,List.length_cons];omega
section
variable {P:Program} {E:Env} {C:Ctx} {s:St} {a:Act} {w:World} {G:Nat→Nat} {pt:Nat→Nat→Option Value} {o:Oper} {u:St}
theorem bO.one {d:D} {v:Value} (h:bO w G pt d v) (hd:d≠.undef) (hp:(∀ id st,d≠.gZ id st)∧∀ k l,d≠.av k l):v.oneCell' = true:=by
 cases d with
 | undef=>exact absurd rfl hd
 | bool b=>rw [show v = .bool b from h];rfl
 | int k n=>rw [h.1];rfl
 | str l=>obtain ⟨s,h,_⟩:=h;rw [h];rfl
 | jK=>rw [show v = .slice none 0 0 from h];rfl
 | sl f t l=>obtain ⟨a,n,c,h,_⟩:=h;rw [h];rfl
 | ptr id st off=>obtain ⟨b,_,h⟩:=h;rw [h];rfl
 | mH id st i off es=>obtain ⟨b,_,h⟩:=h;rw [h];rfl
 | sj g off=>rw [show v = .pointer (some ⟨g,off,none⟩) from h];rfl
 | iF t l i off=>obtain ⟨b,o,h,_⟩:=h;rw [h];rfl
 | csl t l=>obtain ⟨a,n,h,_⟩:=h;rw [h];rfl
 | gZ id st=>exact absurd rfl (hp.1 id st)
 | av k l=>exact absurd rfl (hp.2 k l)
 | O6 k l=>obtain ⟨b,o,h,_⟩:=h;rw [h];rfl
 | BS f=>rw [show v = .func (.func f) #[] #[] from h];rfl
 | gM f t x=>obtain ⟨b,o,h,_⟩:=h;rw [h];rfl
 | IQ id st nc o n=>obtain ⟨ad,m,c,Uu,c',_,h,_⟩:=h;rw [h];rfl
 | BZ id st n=>rcases h.1 with ⟨b,c,_,h⟩ | ⟨_,h⟩<;>rw [h]<;>rfl
 | _=>exact absurd h id
theorem lW:∀ (t:Ty) (x:t.den),∀ d∈enc t x,d≠.undef∧(∀ id st,d≠.gZ id st)∧∀ k l,d≠.av k l
 | .int _,_,d,h=>by simp [enc] at h;subst h;simp
 | .bool,_,d,h=>by simp [enc] at h;subst h;simp
 | .str,_,d,h=>by simp [enc] at h;subst h;simp
 | .sl _,_,d,h=>by simp [enc] at h;subst h;simp
 | .unit,_,d,h=>by simp [enc] at h
 | .cons a b,x,d,h=>by
  have e:enc (.cons a b) x=enc a x.1++enc b x.2:=rfl;rw [e,qb] at h
  rcases h with h | h
  ·exact lW a x.1 d h
  ·exact lW b x.2 d h
 | .st _ c,x,d,h=>lW c x d h
 | .gM _ _,_,d,h=>by simp [enc] at h;subst h;simp
theorem Aa {t:Ty} {x:t.den} {b o:Nat} (h:dK w G t x b o) (off n:Nat) (hn:off+n≤t.nc) :
 aR w G pt (((enc t x).drop off).take n) (fun j=>aD w b (o+off+j))∧(((enc t x).drop off).take n).length=n ∧
  (∀ j,j<n→w.cell? ⟨b,o+off+j,none⟩=some (aD w b (o+off+j)))∧∀ c,aP c (((enc t x).drop off).take n) (fun j=>aD w b (o+off+j))=0:=by
 have hl:(((enc t x).drop off).take n).length=n:=by rw [List.length_take,List.length_drop,jh];omega
 have key:∀ j,j<n→∃ (h:off+j<(enc t x).length),w.cell? ⟨b,o+off+j,none⟩=some (aD w b (o+off+j))∧bO w G pt (enc t x)[off+j] (aD w b (o+off+j))∧∀ c,eu c (enc t x)[off+j] (aD w b (o+off+j))=0:=by
  intro j hj
  have hlt:off+j<(enc t x).length:=by rw [jh];omega
  obtain ⟨v,h1,h2,h3⟩:=oJ pt h (off+j) hlt;rw [←Nat.add_assoc] at h1
  have e:aD w b (o+off+j)=v:=by simp [aD,h1]
  rw [e];exact ⟨hlt,h1,h2,h3⟩
 refine ⟨fun j hj=>?_,hl,fun j hj=>(key j hj).2.1,fun c=>?_⟩
 ·have hj':j<n:=by omega
  obtain ⟨hlt,_,h2,_⟩:=key j hj'
  have e:(((enc t x).drop off).take n)[j]=(enc t x)[off+j]:=by simp
  rw [e];have hm:=lW t x _ (List.getElem_mem hlt);exact ⟨h2,h2.one hm.1 hm.2⟩
 ·have su:∀ (ds:List D) (f:Nat→Value),(∀ j (h:j<ds.length),eu c ds[j] (f j)=0)→aP c ds f=0:=by
   intro ds
   induction ds with
   | nil=>intro f _;rfl
   | cons d ds ih=>
    intro f hf;simp only [aP]
    rw [ih (fun i=>f (i+1)) (fun j h=>by have:=hf (j+1) (by simpa using h);exact this)]
    have:=hf 0 (by simp)
    simpa using this
  refine su _ _ fun j hj=>?_
  obtain ⟨hlt,_,_,h3⟩:=key j (by omega)
  have e:(((enc t x).drop off).take n)[j]=(enc t x)[off+j]:=by simp
  rw [e];exact h3 c
theorem kQ (R:Rel E C s a w G pt) {id st blk:Nat} {ar:Bool} {t:Ty} {l:List t.den} (hb:get s (2*id+1) = .aW st true ar t l) (hblk:bH (pt id st)=some blk) :
 fJ w G t l blk 0∧Room w blk (l.length*t.nc)∧G blk=0:=by
 have hB:=R.bx id;rw [hb] at hB;have hB:=hB rfl
 cases ar with
 | true=>
  simp only [if_true] at hB;obtain ⟨b,h1,h2,h3,h4⟩:=hB
  have:b=blk:=by rw [h1] at hblk;simpa [bH] using hblk
  subst this;exact ⟨h4,h2,h3⟩
 | false=>
  simp only [sI,if_false] at hB;obtain ⟨ad,n,c,h1,h2,h3,h4⟩:=hB
  rcases h4 with ⟨h5,_⟩ | ⟨b,h5,h6,h7,h8,h9,h10⟩
  ·subst h5;rw [h1] at hblk;simp [bH] at hblk
  ·subst h5
   have:b=blk:=by rw [h1] at hblk;simpa [bH] using hblk
   subst this;obtain ⟨cur,e,fr,g1,g2,g3⟩:=h7;exact ⟨h9,⟨cur,e,fr,g1,jQ (sW _ h8) g2,g3⟩,h6⟩
theorem F5 {t:Ty} {l:List t.den} {b o:Nat} (hnc:t.nc=1) (hE:fJ w G t l b o) :
 (∀ j (h:j<(l.flatMap (enc t)).length),bO w G pt (l.flatMap (enc t))[j] (aD w b (o+j))∧(aD w b (o+j)).oneCell' = true∧∀ c,eu c (l.flatMap (enc t))[j] (aD w b (o+j))=0) ∧
 (∀ c,aP c (l.flatMap (enc t)) (fun j=>aD w b (o+j))=0)∧∀ j,j<l.length→w.cell? ⟨b,o+j,none⟩=some (aD w b (o+j)):=by
 have hfl:=uQ t l hnc
 have key:∀ j (h:j<(l.flatMap (enc t)).length),w.cell? ⟨b,o+j,none⟩=some (aD w b (o+j))∧bO w G pt (l.flatMap (enc t))[j] (aD w b (o+j))∧(aD w b (o+j)).oneCell' = true∧∀ c,eu c (l.flatMap (enc t))[j] (aD w b (o+j))=0:=by
  intro j hj;obtain ⟨h',h'',e⟩:=qx t l hnc j hj;obtain ⟨v,p1,p2,p3⟩:=oJ pt (hE j h') 0 h''
  rw [show o+j*t.nc+0=o+j by rw [hnc];omega] at p1
  have e2:aD w b (o+j)=v:=by simp only [aD,p1];rfl
  rw [e,e2];have hm:=lW t l[j] _ (List.getElem_mem h'');exact ⟨p1,p2,p2.one hm.1 hm.2,p3⟩
 refine ⟨fun j h=>(key j h).2,fun c=>?_,fun j h=>(key j (by omega)).1⟩
 have su:∀ (ds:List D) (f:Nat→Value),(∀ j (h:j<ds.length),eu c ds[j] (f j)=0)→aP c ds f=0:=by
  intro ds
  induction ds with
  | nil=>intro f _;rfl
  | cons d ds ih=>
   intro f hf;simp only [aP]
   rw [ih (fun i=>f (i+1)) (fun j h=>by have:=hf (j+1) (by simpa using h);exact this)]
   have:=hf 0 (by simp)
   simpa using this
 exact su _ _ fun j hj=>(key j hj).2.2.2 c
theorem fJ.PI {t:Ty} {l:List t.den} {b o:Nat} (h:fJ w G t l b o) (i n:Nat):fJ w G t ((l.drop i).take n) b (o+i*t.nc):=by
 intro j hj
 have hj':j<n∧i+j<l.length:=by rw [List.length_take,List.length_drop] at hj;omega
 have:=h (i+j) hj'.2;rw [Nat.add_mul,←Nat.add_assoc] at this
 have e:((l.drop i).take n)[j]=l[i+j]'hj'.2:=by simp
 rw [e];exact this
theorem F6 (k:IntKind):∀ l:List Int,l.flatMap (enc (.int k))=l.map (D.int k)
 | []=>rfl
 | x::r=>by rw [List.flatMap_cons,List.map_cons,F6 k r];rfl
theorem afY {k:IntKind} {l:List Int} {v:Value} (h:bg w G pt (.agg (l.flatMap (enc (.int k)))) v):bO w G pt (.av k l) v:=by
 obtain ⟨arr,h1,h2,h3⟩:=h;rw [F6] at h2 h3
 refine ⟨arr,h1,by simpa using h2,fun j hj=>?_⟩
 have:=(h3 j (by simpa using hj)).1
 simp only [List.getElem_map] at this;exact this
theorem F7 {n:Nat}:∀ {t:Ty} {l:List t.den} {v:Value},bg w G pt (.agg (l.flatMap (enc t))) v→bg w G pt (IW n t l) v
 | .int k,l,v,h=>by
  unfold IW
  cases Nat.blt 64 n with
  | true=>exact afY h
  | false=>exact h
 | .bool,_,_,h | .str,_,_,h | .sl _,_,_,h | .unit,_,_,h | .cons _ _,_,_,h | .st _ _,_,_,h | .gM _ _,_,_,h=>h
theorem aar {b:Nat} {k:IntKind} {l:List Int} (v:Value):dN b (.av k l) v=0:=by cases v<;>rfl
theorem KN {n b:Nat} {v:Value}:∀ {t:Ty} {l:List t.den},dN b (.agg (l.flatMap (enc t))) v=0→dN b (IW n t l) v=0
 | .int k,l,h=>by
  unfold IW
  cases Nat.blt 64 n with
  | true=>exact aar v
  | false=>exact h
 | .bool,_,h | .str,_,h | .sl _,_,h | .unit,_,h | .cons _ _,_,h | .st _ _,_,h | .gM _ _,_,h=>h
theorem KO (HP:mG P E) (R:Rel E C s a w G pt) (hm:E.n≤C.m) (ho:∀ t,o.dst=some t→t<E.n) (T:Nat) (x:Operand) (hop:o.op = .load T x)
 (h:xX E o s T x=some (true,u)):fC P E C o a w (aA u s):=by
 have hrx:=aV R x;simp only [xX] at h;split at h
 ·rename_i i hi
  have hT:=HP.ti _ _ hi;split at h
  ·rename_i id st off hx
   split at h
   ·rename_i st' cs hbx
    exact F4 HP R hm ho T x hop hi hx hbx h
   ·rename_i st' t l hbx
    cases hb:(Nat.beq st st' && Nat.beq off 0&&i.agg&&Nat.beq t.nc 1) with
    | false=>simp only [hb,bU,reduceCtorEq] at h
    | true=>
     simp only [hb,aQ,bq,eX] at h;simp only [bP] at hb;obtain ⟨⟨⟨hb1,hb2⟩,hb3⟩,hb4⟩:=hb;have hnc:=dM hb4;have hst:=dM hb1;have hoff:=dM hb2;subst hst;subst hoff;obtain ⟨hln,rfl⟩:=h;have hln:=dM hln;rw [hx] at hrx;obtain ⟨blk,hblk,hv⟩:=hrx;obtain ⟨g1,g2,g3⟩:=kQ R hbx hblk
     have hrun:=lV (P:=P) (w:=w) (a:=a) hT (b:=blk) (off:=0) (f:=fun j=>aD w blk (0+j)) (fun j hj=>nX g2 (by rw [hnc];omega)) hop hv
     have hfl:=uQ t l hnc
     have hcell:∀ j (h:j<(l.flatMap (enc t)).length),bO w G pt (l.flatMap (enc t))[j] (aD w blk (0+j))∧(aD w blk (0+j)).oneCell' = true∧∀ c,eu c (l.flatMap (enc t))[j] (aD w blk (0+j))=0:=by
      intro j hj;obtain ⟨h',h'',e⟩:=qx t l hnc j hj;obtain ⟨v,p1,p2,p3⟩:=oJ pt (g1 j h') 0 h''
      have e2:aD w blk (0+j)=v:=by
       simp only [aD]
       rw [show 0+j=0+j*t.nc+0 by rw [hnc];omega,p1];rfl
      rw [e,e2];have hm:=lW t l[j] _ (List.getElem_mem h'');exact ⟨p2,p2.one hm.1 hm.2,p3⟩
     obtain ⟨r1,r2⟩:=jS (w:=w) (G:=G) (pt:=pt) (agg:=true) (n:=i.size) (ds:=l.flatMap (enc t)) (d:=.agg (l.flatMap (enc t))) (f:=fun j=>aD w blk (0+j)) rfl (by omega) (fun j hj=>⟨(hcell j hj).1,(hcell j hj).2.1⟩)
     rw [hb3] at hrun;rw [Uw hln]
     refine pure_ok R ho hrun (F7 r1) (fun b=>KN ?_)
     rw [r2]
     have su:∀ (ds:List D) (f:Nat→Value),(∀ j (h:j<ds.length),eu b ds[j] (f j)=0)→aP b ds f=0:=by
      intro ds
      induction ds with
      | nil=>intro f _;rfl
      | cons d ds ih=>
       intro f hf;simp only [aP]
       rw [ih (fun i=>f (i+1)) (fun j h=>by have:=hf (j+1) (by simpa using h);exact this)]
       have:=hf 0 (by simp)
       simpa using this
     exact su _ _ fun j hj=>(hcell j hj).2.2 b
   ·cases h
  ·rename_i id st i0 off es hx
   rw [hx] at hrx;obtain ⟨blk,hblk,hv⟩:=hrx;split at h
   ·rename_i st' ar t l hbx
    cases hag:(i.agg&&Nat.beq t.nc 1&&Nat.blt 1 i.size) with
    | true=>
     simp only [hag,aQ] at h
     cases hb:(Nat.beq st st' && Nat.beq off 0&&Nat.beq es 1) with
     | false=>simp only [hb,bU,reduceCtorEq] at h
     | true=>
      simp only [hb,aQ,bq,eX] at h;simp only [bP] at hb hag;obtain ⟨⟨hb1,hb2⟩,hb3⟩:=hb;have hnc:=dM hag.1.2;have hst:=dM hb1;have hoff:=dM hb2;have hes:=dM hb3;subst hst;subst hoff;subst hes;obtain ⟨hle,rfl⟩:=h;have hle:=Nat.le_of_ble_eq_true hle;rw [yQ _ _ hle];obtain ⟨g1,g2,g3⟩:=kQ R hbx hblk;have g4:=g1.PI i0 i.size;rw [hnc,Nat.zero_add,Nat.mul_one] at g4
      have hsl:((l.drop i0).take i.size).length=i.size:=by rw [List.length_take,List.length_drop];omega
      obtain ⟨f1,f2,f3⟩:=F5 (pt:=pt) hnc g4;have hfl:=uQ t ((l.drop i0).take i.size) hnc;rw [Nat.mul_one,Nat.add_zero] at hv
      have hrun:=lV (P:=P) (w:=w) (a:=a) hT (b:=blk) (off:=i0) (f:=fun j=>aD w blk (i0+j)) (fun j hj=>f3 j (by omega)) hop hv
      obtain ⟨r1,r2⟩:=jS (w:=w) (G:=G) (pt:=pt) (agg:=true) (n:=i.size) (ds:=((l.drop i0).take i.size).flatMap (enc t)) (d:=.agg (((l.drop i0).take i.size).flatMap (enc t))) (f:=fun j=>aD w blk (i0+j)) rfl (by omega) (fun j hj=>⟨(f1 j hj).1,(f1 j hj).2.1⟩)
      rw [hag.1.1] at hrun
      exact pure_ok R ho hrun r1 (fun b=>by rw [r2];exact f2 b)
    | false=>
    simp only [hag,bU] at h;split at h
    ·rename_i d hd
     cases hb:(Nat.beq st st' && Nat.beq es t.nc&&Nat.ble (off+i.size) t.nc) with
     | false=>simp only [hb,bU,reduceCtorEq] at h
     | true=>
      simp only [hb,aQ,bq,eX] at h;simp only [bP] at hb;obtain ⟨⟨hb1,hb2⟩,hb3⟩:=hb;have hst:=dM hb1;have hes:=dM hb2;have hle:=Nat.le_of_ble_eq_true hb3;subst hst;subst hes;obtain ⟨hlt,rfl⟩:=h
      have hlt:i0<l.length:=by simpa [Nat.blt_eq] using hlt
      obtain ⟨g1,g2,g3⟩:=kQ R hbx hblk
      have e:l.getD i0 t.dflt=l[i0]:=by simp [hlt]
      rw [e] at hd;obtain ⟨q1,q2,q3,q4⟩:=Aa (pt:=pt) (g1 i0 hlt) off i.size hle;obtain ⟨r1,r2⟩:=jS (n:=i.size) hd q2 q1;rw [Nat.zero_add] at q3 r1 r2 q4
      have hrun:=lV (P:=P) (w:=w) (a:=a) hT (b:=blk) (off:=i0*t.nc+off) (f:=fun j=>aD w blk (i0*t.nc+off+j)) q3 hop hv
      exact pure_ok R ho hrun r1 (fun b=>by rw [r2];exact q4 b)
    ·cases h
   ·cases h
  ·rename_i g off hx
   rw [hx] at hrx;have hv:a.eval x = .pointer (some ⟨g,off,none⟩):=hrx;split at h
   ·rename_i k l k' hg hd
    cases hb:(jm k k' && !i.agg&&Nat.beq i.size 1) with
    | false=>simp only [hb,bU,reduceCtorEq] at h
    | true=>
     simp only [hb,aQ,bq,eX] at h;obtain ⟨hlt,rfl⟩:=h
     have hlt:off<l.length:=by simpa [Nat.blt_eq] using hlt
     simp only [bP,Bool.not_eq_true'] at hb;obtain ⟨_,hgl⟩:=R.gl g k l hg;obtain ⟨h1,h2⟩:=hgl off hlt
     have hrun:=lV (P:=P) (w:=w) (a:=a) hT (b:=g) (off:=off) (f:=fun _=>.int k l[off]) (fun j hj=>by
      have hsz:=dM hb.2
      have:j=0:=by omega
      subst this
      simpa using h1) hop hv
     rw [hb.1.2] at hrun
     refine pure_ok R ho hrun ?_ (fun _=>rfl)
     have e:l.getD off 0=l[off]:=by simp [hlt]
     rw [e];exact ⟨rfl,h2⟩
   ·rename_i k l fs hg hd
    cases hb:i.agg with
    | false=>simp only [hb,bU,reduceCtorEq] at h
    | true=>
     simp only [hb,aQ,bq,eX] at h;obtain ⟨hle,rfl⟩:=h;have hle:=Nat.le_of_ble_eq_true hle;obtain ⟨_,hgl⟩:=R.gl g k l hg
     have hc:∀ j (hj:j<i.size),w.cell? ⟨g,off+j,none⟩=some (aD w g (off+j))∧aD w g (off+j) = .int k (l[off+j]'(by omega))∧k.has (l[off+j]'(by omega)):=by
      intro j hj
      obtain ⟨h1,h2⟩:=hgl (off+j) (by omega)
      have e:aD w g (off+j) = .int k (l[off+j]'(by omega)):=by simp only [aD,h1];rfl
      exact ⟨by rw [e];exact h1,e,h2⟩
     have hrun:=lV (P:=P) (w:=w) (a:=a) hT (b:=g) (off:=off) (f:=fun j=>aD w g (off+j)) (fun j hj=>(hc j hj).1) hop hv
     have hln:(((l.drop off).take i.size).map (D.int k)).length=i.size:=by simp;omega
     have hel:∀ j (hj:j<(((l.drop off).take i.size).map (D.int k)).length),(((l.drop off).take i.size).map (D.int k))[j] = .int k (l[off+j]'(by omega)):=by
      intro j hj;simp
     obtain ⟨r1,r2⟩:=jS (w:=w) (G:=G) (pt:=pt) (agg:=true) (n:=i.size) (ds:=((l.drop off).take i.size).map (D.int k)) (d:=.agg (((l.drop off).take i.size).map (D.int k))) (f:=fun j=>aD w g (off+j)) rfl hln (fun j hj=>by
      rw [hel j hj]
      obtain ⟨_,e,h2⟩:=hc j (by omega)
      simp only [e]
      exact ⟨⟨rfl,h2⟩,rfl⟩)
     rw [hb] at hrun
     refine pure_ok R ho hrun r1 (fun b=>?_)
     rw [r2]
     have su:∀ (ds:List D) (f:Nat→Value),(∀ j (h:j<ds.length),eu b ds[j] (f j)=0)→aP b ds f=0:=by
      intro ds
      induction ds with
      | nil=>intro f _;rfl
      | cons d ds ih=>
       intro f hf;simp only [aP]
       rw [ih (fun i=>f (i+1)) (fun j h=>by have:=hf (j+1) (by simpa using h);exact this)]
       have:=hf 0 (by simp)
       simpa using this
     exact su _ _ fun j hj=>by rw [hel j hj];rfl
   ·cases h
  ·rename_i t l i0 off hx
   rw [hx] at hrx;obtain ⟨blk,ob,hv,hlt,hG,hE⟩:=hrx;split at h
   ·rename_i d hd
    cases hb:Nat.ble (off+i.size) t.nc with
    | false=>simp only [hb,bU,reduceCtorEq] at h
    | true=>
     simp only [hb,aQ,bq,eX,true_and] at h;subst h;have hb:=Nat.le_of_ble_eq_true hb
     have e:l.getD i0 t.dflt=l[i0]:=by simp [hlt]
     rw [e] at hd;obtain ⟨q1,q2,q3,q4⟩:=Aa (pt:=pt) (hE i0 hlt) off i.size hb;obtain ⟨r1,r2⟩:=jS (n:=i.size) hd q2 q1
     have hrun:=lV (P:=P) (w:=w) (a:=a) hT (b:=blk) (off:=ob+i0*t.nc+off) (f:=fun j=>aD w blk (ob+i0*t.nc+off+j)) q3 hop hv
     exact pure_ok R ho hrun r1 (fun b=>by rw [r2];exact q4 b)
   ·cases h
  ·cases h
 ·cases h
end
theorem Cx:∀ (l:List Value) (st off:Nat) (cs:Array Value),off+st+l.length≤cs.size →
 ((l.zipIdx st).foldl (fun cs (c,j)=>cs.setIfInBounds (off+j) c) cs).size=cs.size ∧
 ∀ k,aS ((l.zipIdx st).foldl (fun cs (c,j)=>cs.setIfInBounds (off+j) c) cs) k=if off+st≤k∧k<off+st+l.length then l.getD (k - (off+st)) undef else aS cs k
 | [],st,off,cs,h=>⟨rfl,fun k=>by rw [if_neg (by simp)];rfl⟩
 | v::l,st,off,cs,h=>by
  simp only [List.length_cons] at h
  obtain ⟨h1,h2⟩:=Cx l (st+1) off (cs.setIfInBounds (off+st) v) (by simp;omega)
  simp only [List.zipIdx_cons,List.foldl_cons]
  refine ⟨by rw [h1];simp,fun k=>?_⟩
  rw [h2 k];simp only [List.length_cons]
  by_cases hk:off+(st+1)≤k∧k<off+(st+1)+l.length
  ·rw [if_pos hk,if_pos (by omega)]
   rw [show k - (off+st)=(k - (off+(st+1)))+1 by omega,List.getD_cons_succ]
  ·rw [if_neg hk]
   by_cases hk2:k=off+st
   ·rw [if_pos (by omega),hk2]
    simp [aS,sJ,show off+st<cs.size by omega]
   ·rw [if_neg (by omega)]
    simp [aS,sJ,Ne.symm hk2]
theorem PK (off:Nat) (v:Value) (cs:Array Value) (h:off+v.cells.size≤cs.size) :
 (v.cells.zipIdx.foldl (fun cs (c,j)=>cs.setIfInBounds (off+j) c) cs).size=cs.size ∧
 ∀ k,aS (v.cells.zipIdx.foldl (fun cs (c,j)=>cs.setIfInBounds (off+j) c) cs) k=if off≤k∧k<off+v.cells.size then aS v.cells (k - off) else aS cs k:=by
 have e:v.cells.zipIdx.foldl (fun cs (c,j)=>cs.setIfInBounds (off+j) c) cs=(v.cells.toList.zipIdx 0).foldl (fun cs (c,j)=>cs.setIfInBounds (off+j) c) cs:=by
  rw [←Array.foldl_toList,Array.toList_zipIdx]
 rw [e]
 obtain ⟨h1,h2⟩:=Cx v.cells.toList 0 off cs (by simpa using h)
 refine ⟨h1,fun k=>?_⟩
 rw [h2 k];simp only [Nat.add_zero,Array.length_toList]
 by_cases hk:off≤k∧k<off+v.cells.size
 ·rw [if_pos hk,if_pos hk];simp [aS,sJ,yP]
 ·rw [if_neg hk,if_neg hk]
section
variable {P:Program} {E:Env} {C:Ctx} {s:St} {a:Act} {w:World} {G:Nat→Nat} {pt:Nat→Nat→Option Value} {o:Oper} {u:St}
theorem lX {d:D} {v:Value} (h:bg w G pt d v) (hd:gJ d=true) :
 aR w G pt (leaves d) (aS v.cells)∧v.cells.size=(leaves d).length∧∀ b,aP b (leaves d) (aS v.cells)=dN b d v:=by
 have leaf:∀ d',bO w G pt d' v→d'≠.undef→((∀ id st,d'≠.gZ id st)∧∀ k l,d'≠.av k l)→(∀ b,dN b d' v=eu b d' v)→leaves d' = [d'] →
  aR w G pt (leaves d') (aS v.cells)∧v.cells.size=(leaves d').length∧∀ b,aP b (leaves d') (aS v.cells)=dN b d' v:=by
  intro d' h1 h2 h3 h4 h5;have ho:=h1.one h2 h3
  have hv:v.cells = #[v]:=by cases v<;>first | rfl | simp [Value.oneCell'] at ho
  rw [hv,h5]
  refine ⟨fun j hj=>?_,rfl,fun b=>by rw [h4];show eu b d' (aS #[v] 0)+0=_;rfl⟩
  have:j=0:=by simpa using hj
  subst this;exact ⟨h1,ho⟩
 cases d with
 | agg cs=>
  obtain ⟨arr,rfl,h2,h3⟩:=h
  exact ⟨h3,h2,fun _=>rfl⟩
 | undef=>simp [gJ] at hd
 | gZ a b=>simp [gJ] at hd
 | BZ a b c=>simp [gJ] at hd
 | IQ a b c d e=>simp [gJ] at hd
 | BS a=>simp [gJ] at hd
 | av a b=>simp [gJ] at hd
 | O6 a b=>simp [gJ] at hd
 | fO a=>simp [gJ] at hd
 | fn f a=>simp [gJ] at hd
 | aI a b c=>simp [gJ] at hd
 | aW a b c d e=>simp [gJ] at hd
 | _=>exact leaf _ h (by simp) (by simp) (fun b=>by cases v<;>rfl) rfl
theorem UD {z ds:List D} {f:Nat→Value} (h:aR w G pt ds f):aR w G pt (fit z ds) f∧(fit z ds).length=ds.length∧∀ b,aP b (fit z ds) f=aP b ds f:=by
 unfold fit;split
 ·split
  ·rename_i f' t l
   cases hb:Nat.ble f' 2 with
   | false=>exact ⟨h,rfl,fun _=>rfl⟩
   | true=>
    have hb:=Nat.le_of_ble_eq_true hb
    have h0:=h 0 (by simp)
    have hv:f 0 = .slice none 0 0:=h0.1
    refine ⟨fun j hj=>?_,rfl,fun b=>?_⟩
    ·have:j=0:=by simpa using hj
     subst this;refine ⟨?_,h0.2⟩;show bO w G pt (.sl f' t []) (f 0);rw [hv]
     refine ⟨none,0,0,rfl,rfl,by simp,?_⟩
     match f',hb with
     | 0,_=>exact ⟨by simp,.inl rfl⟩
     | 1,_=>exact .inl ⟨rfl,rfl,rfl⟩
     | 2,_=>exact .inl ⟨rfl,rfl,rfl⟩
    ·simp only [aP,aQ,hv];rfl
  ·exact ⟨h,rfl,fun _=>rfl⟩
 ·exact ⟨h,rfl,fun _=>rfl⟩
def yI (s:St) (a:Act) (f:D→D) (b:Nat):List (Nat×Operand)→Nat
 | []=>0
 | (_,x)::r=>dN b (f (aX s x)) (a.eval x)+yI s a f b r
theorem Ab (pl:Nat→Option (Nat×Nat)) (f:D→D) (hf:∀ d,gJ d=true→gJ (f d)=true) :
 ∀ (parts:List (Nat×Operand)) (cs:List D) (cells:Array Value) {cs':List D},(∀ p∈parts,bg w G pt (f (aX s p.2)) (a.eval p.2)) →
  aR w G pt cs (aS cells)→cells.size=cs.length→gD pl s f cs parts=some cs' →
  ∃ cells',Instr.fill pl cells (parts.map fun p=>(p.1,a.eval p.2))=some cells'∧cells'.size=cs'.length∧aR w G pt cs' (aS cells') ∧
   cs'.length=cs.length∧∀ b,aP b cs' (aS cells')≤aP b cs (aS cells)+yI s a f b parts
 | [],cs,cells,cs',_,hr,hs,h=>by
  simp only [gD,bq] at h;subst h
  exact ⟨cells,rfl,hs,hr,rfl,fun b=>by simp [yI]⟩
 | (j,x)::r,cs,cells,cs',hp,hr,hs,h=>by
  simp only [gD] at h;split at h
  ·rename_i off sz hpl
   cases hb:(gJ (aX s x)&&Nat.beq (fit ((cs.drop off).take sz) (leaves (f (aX s x)))).length sz&&Nat.ble (off+sz) cs.length) with
   | false=>simp only [hb,bU,reduceCtorEq] at h
   | true=>
    simp only [hb,aQ] at h;simp only [bP] at hb;obtain ⟨⟨hb1,hb2⟩,hb3⟩:=hb;have hb2:=dM hb2;have hb3:=Nat.le_of_ble_eq_true hb3
    have hpx:bg w G pt (f (aX s x)) (a.eval x):=hp (j,x) (by simp)
    obtain ⟨q1,q2,q3⟩:=lX hpx (hf _ hb1);obtain ⟨g1,g2,g3⟩:=UD (z:=(cs.drop off).take sz) q1
    have hvs:(a.eval x).cells.size=sz:=by rw [q2,←g2,hb2]
    obtain ⟨e1,e2⟩:=PK off (a.eval x) cells (by omega)
    generalize hc2:(a.eval x).cells.zipIdx.foldl (fun cs (c,j)=>cs.setIfInBounds (off+j) c) cells=bM at e1 e2
    have hl:off+(fit ((cs.drop off).take sz) (leaves (f (aX s x)))).length≤cs.length:=by omega
    have hold:aR w G pt cs (aS cells):=hr
    have hr2:aR w G pt (dL cs off (fit ((cs.drop off).take sz) (leaves (f (aX s x))))) (aS bM):=by
     intro k hk;obtain ⟨t1,t2⟩:=nY hl hk;rw [e2 k]
     by_cases hin:off≤k∧k<off+(fit ((cs.drop off).take sz) (leaves (f (aX s x)))).length
     ·rw [t1 hin (by omega),if_pos (by omega)]
      exact g1 (k - off) (by omega)
     ·have hkc:k<cs.length:=by rw [fP hl] at hk;exact hk
      rw [t2 hin hkc,if_neg (by omega)]
      exact hold k hkc
    have hct:∀ b,aP b (dL cs off (fit ((cs.drop off).take sz) (leaves (f (aX s x))))) (aS bM)≤aP b cs (aS cells)+dN b (f (aX s x)) (a.eval x):=by
     intro b
     have hlt:(cs.take off).length=off:=by simp;omega
     have h1:cs=cs.take off++((cs.drop off).take sz++cs.drop (off+sz)):=by
      rw [←List.drop_drop,List.take_append_drop,List.take_append_drop]
     have hlm:((cs.drop off).take sz).length=sz:=by simp;omega
     have a1:aP b cs (aS cells)=aP b (cs.take off) (aS cells)+(aP b ((cs.drop off).take sz) (fun j=>aS cells (off+j))+aP b (cs.drop (off+sz)) (fun j=>aS cells (off+(sz+j)))):=by
      conv=>lhs;rw [h1]
      rw [fZ,fZ,hlt,hlm]
     simp only [dL,fZ,hlt,hb2]
     have b1:aP b (cs.take off) (aS bM)=aP b (cs.take off) (aS cells):=
      gX fun k hk=>by rw [e2,if_neg (by omega)]
     have b2:aP b (fit ((cs.drop off).take sz) (leaves (f (aX s x)))) (fun j=>aS bM (off+j))=dN b (f (aX s x)) (a.eval x):=by
      rw [←q3,←g3]
      exact gX fun k hk=>by rw [e2,if_pos (by omega)];congr 1;omega
     have b3:aP b (cs.drop (off+sz)) (fun j=>aS bM (off+(sz+j)))=aP b (cs.drop (off+sz)) (fun j=>aS cells (off+(sz+j))):=
      gX fun k hk=>by rw [e2,if_neg (by omega)]
     omega
    obtain ⟨cells',f1,f2,f3,f4,f5⟩:=Ab pl f hf r _ _ (fun p hp'=>hp p (by simp [hp'])) hr2 (by rw [e1,fP hl];exact hs) h
    refine ⟨cells',?_,f2,f3,by rw [f4,fP hl],fun b=>?_⟩
    ·have hcond:(decide ((a.eval x).cells.size≠sz) || decide (off+(a.eval x).cells.size > cells.size))=false:=by
      simp only [Bool.or_eq_false_iff,decide_eq_false_iff_not];omega
     simp only [List.map_cons,Instr.fill,hpl];rw [hcond,hc2];exact f1
    ·have:=f5 b
     have:=hct b;simp only [yI];omega
  ·cases h
theorem uR {s s1:St} {f:D→D} {h:D→Bool}:∀ (parts:List (Nat×Operand)),(∀ t,tmpsOf parts t=true→get s1 (2*t)=get s (2*t))→fT s1 f h parts=fT s f h parts
 | [],_=>rfl
 | (j,x)::r,hq=>by
  simp only [fT]
  rw [uR r fun t ht=>hq t (by simp only [tmpsOf,Bool.or_eq_true];exact .inr ht)]
  congr 1
  cases x with
  | tmp t=>simp only [dA];rw [hq t (by simp [tmpsOf,KG])]
  | _=>rfl
theorem xZ {s s1:St}:∀ (parts:List (Nat×Operand)),(∀ t,tmpsOf parts t=true→get s1 (2*t)=get s (2*t))→lq s1 parts=lq s parts
 | [],_=>rfl
 | (j,x)::r,hq=>by
  have ih:=xZ r fun t ht=>hq t (by simp only [tmpsOf,Bool.or_eq_true];exact .inr ht)
  cases x with
  | tmp t=>simp only [lq];rw [ih,hq t (by simp [tmpsOf,KG])]
  | _=>simp only [lq];exact ih
theorem Ac {s s1:St} {f:D→D} (b:Nat):∀ (parts:List (Nat×Operand)),(∀ t,tmpsOf parts t=true→get s1 (2*t)=get s (2*t))→yI s1 a f b parts=yI s a f b parts
 | [],_=>rfl
 | (j,x)::r,hq=>by
  simp only [yI]
  rw [Ac b r fun t ht=>hq t (by simp only [tmpsOf,Bool.or_eq_true];exact .inr ht)]
  congr 1
  cases x with
  | tmp t=>simp only [aX];rw [hq t (by simp [tmpsOf,KG])]
  | _=>rfl
theorem Rel.F8:∀ (parts:List (Nat×Operand)) {s:St},Rel E C s a w G pt→lq s parts=true →
 Rel E C (aA (fT s strip dY parts) s) a w G pt∧∀ b,TC E.n C.m (aA (fT s strip dY parts) s) a w pt b+yI s a (fun d=>d) b parts=TC E.n C.m s a w pt b
 | [],s,R,_=>⟨R,fun b=>rfl⟩
 | (j,x)::r,s,R,hn=>by
  obtain ⟨R1,t1⟩:=R.lS x;simp only [fT,aU]
  have hsame:∀ t,tmpsOf r t=true→get (aA (dA s x strip dY) s) (2*t)=get s (2*t):=by
   intro t ht
   cases x with
   | tmp t0=>
    simp only [lq,bP,Bool.or_eq_true,Bool.not_eq_true'] at hn;simp only [dA]
    cases hX:dY (get s (2*t0)) with
    | false=>rfl
    | true=>
     have hnr:=hn.1.resolve_left (by simp [hX])
     simp only [aQ,aA,dO];rw [if_neg];intro hte;subst hte;rw [hnr] at ht;cases ht
   | _=>rfl
  have hn2:lq s r=true:=by
   cases x with
   | tmp t0=>simp only [lq,bP] at hn;exact hn.2
   | _=>exact hn
  obtain ⟨R2,t2⟩:=Rel.F8 r R1 (by rw [xZ r hsame];exact hn2)
  rw [uR r hsame] at R2 t2
  refine ⟨R2,fun b=>?_⟩
  have h1:=t1 b;have h2:=t2 b;rw [Ac b r hsame] at h2;simp only [yI];omega
theorem Cy (HP:mG P E):∀ (l:List Field),(l.all fun (f:Field)=>(E.T f.type).isSome)=true →
 ∃ places,l.mapM (fun (f:Field)=>(P.info? f.type).map fun i=>(f.offset,i.size))=some places∧places.length=l.length ∧
  ∀ (j:Nat) (f:Field),l[j]? = some f→∃ fi,E.T f.type=some fi∧places[j]? = some (f.offset,fi.size)
 | [],_=>⟨[],by simp,rfl,fun j f h=>by simp at h⟩
 | f::l,h=>by
  simp only [List.all_cons,bP] at h;obtain ⟨fi,hfi⟩:=Option.isSome_iff_exists.1 h.1;obtain ⟨pi,z,p1,p2,_⟩:=(HP.ti _ _ hfi).info;obtain ⟨pl,q1,q2,q3⟩:=Cy HP l h.2
  refine ⟨(f.offset,pi.size)::pl,by simp [List.mapM_cons,p1,q1],by simp [q2],fun j g hj=>?_⟩
  match j,hj with
  | 0,hj=>
   simp only [List.getElem?_cons_zero,bq] at hj;subst hj
   exact ⟨fi,hfi,by simp [p2]⟩
  | j+1,hj=>simpa using q3 j g (by simpa using hj)
theorem PL (HP:mG P E) (R:Rel E C s a w G pt) (ho:∀ t,o.dst=some t→t<E.n) (T:Nat) (parts:Array (Nat×Operand)) (hop:o.op = .build T parts)
 (h:wF E o s T parts.toList=some (true,u)):fC P E C o a w (aA u s):=by
 simp only [wF] at h;split at h
 ·rename_i i hi
  have hT:=HP.ti _ _ hi;obtain ⟨pi,z,p1,p2,p3,p4,p5,p6,p7,p8⟩:=hT.info;split at h
  ·rename_i cs hcs
   cases hb:(lq s parts.toList&&qd E i) with
   | false=>simp only [hb,bU,reduceCtorEq] at h
   | true=>
    simp only [hb,aQ,bq,eX,true_and] at h;subst h;simp only [bP] at hb;obtain ⟨hb1,hb2⟩:=hb
    have hz:aR w G pt i.zero (aS z.cells):=fun j hj=>⟨(p8 j hj).1 w G pt,p7 j (by omega)⟩
    have hz0:∀ b,aP b i.zero (aS z.cells)=0:=by
     intro b
     have su:∀ (ds:List D) (f:Nat→Value),(∀ j (h:j<ds.length),eu b ds[j] (f j)=0)→aP b ds f=0:=by
      intro ds
      induction ds with
      | nil=>intro f _;rfl
      | cons d ds ih=>
       intro f hf;simp only [aP]
       rw [ih (fun i=>f (i+1)) (fun j h=>by have:=hf (j+1) (by simpa using h);exact this)]
       have:=hf 0 (by simp)
       simpa using this
     exact su _ _ fun j hj=>(p8 j hj).2 b
    obtain ⟨cells,f1,f2,f3,f4,f5⟩:=Ab (w:=w) (G:=G) (pt:=pt) (a:=a) (partAt E i) (fun d=>d) (fun _ h=>h) parts.toList i.zero z.cells (fun p _=>aV R p.2) hz (by omega) hcs
    have aas:P.built T (parts.map fun (i,x)=>(i,a.eval x)).toList=some cells:=by
     have e:(parts.map fun (i,x)=>(i,a.eval x)).toList=parts.toList.map fun p=>(p.1,a.eval p.2):=by simp
     rw [e];unfold Program.built;rw [p1,hT.und];unfold qd at hb2
     have hfun:∀ pl:Nat→Option (Nat×Nat),(∀ p∈parts.toList,∀ q,partAt E i p.1=some q→pl p.1=some q) →
      ∀ (l:List (Nat×Operand)) (cs cs':List D) (cells cells':Array Value),(∀ p∈l,p∈parts.toList)→gD (partAt E i) s (fun d=>d) cs l=some cs'→Instr.fill (partAt E i) cells (l.map fun p=>(p.1,a.eval p.2))=some cells' →
       Instr.fill pl cells (l.map fun p=>(p.1,a.eval p.2))=some cells':=by
      intro pl hpl l
      induction l with
      | nil=>intro cs cs' cells cells' _ _ h;exact h
      | cons p l ih=>
       intro cs cs' cells cells' hmem hp hf;obtain ⟨j,x⟩:=p;simp only [gD] at hp
       cases hq:partAt E i j with
       | none=>simp [hq] at hp
       | some q=>
        obtain ⟨off,sz⟩:=q;simp only [hq] at hp
        have:=hpl (j,x) (hmem _ (by simp)) _ hq
        simp only [List.map_cons,Instr.fill,hq,this] at hf ⊢;split at hf
        ·cases hf
        ·rename_i hsz
         cases hbb:(gJ (aX s x)&&Nat.beq (fit ((cs.drop off).take sz) (leaves (aX s x))).length sz&&Nat.ble (off+sz) cs.length) with
         | false=>simp only [hbb,bU,reduceCtorEq] at hp
         | true=>
          simp only [hbb,aQ] at hp;rw [if_neg hsz]
          exact ih _ _ _ _ (fun p hp=>hmem p (by simp [hp])) hp hf
     cases hd:i.desc<;>rw [hd] at hb2<;>simp only [sI] at hb2
     ·rename_i n e
      obtain ⟨ei,uF⟩:=Option.isSome_iff_exists.1 hb2;obtain ⟨pe,ze,g1,g2,_⟩:=(HP.ti _ _ uF).info;simp only [p4,g1]
      refine hfun _ (fun p _ q hq=>?_) parts.toList i.zero cs z.cells cells (fun _ h=>h) hcs f1
      simp only [partAt,hd,uF,bq] at hq;rw [←hq,g2]
     ·rename_i fs
      obtain ⟨pl,g1,g2,g3⟩:=Cy HP fs.toList hb2;simp only [p4,g1]
      refine hfun _ (fun p _ q hq=>?_) parts.toList i.zero cs z.cells cells (fun _ h=>h) hcs f1
      simp only [partAt,hd] at hq;split at hq
      ·rename_i f hf
       obtain ⟨fi,r1,r2⟩:=g3 _ _ hf;rw [r1] at hq;simp only [bq] at hq;rw [←hq]
       simpa using r2
      ·cases hq
    have hrun:(execOp a.eval o).run P w = .ok (.value (.agg cells)) w:=by
     simp only [execOp,hop,Sem.run_bind,run_build w T _ cells aas,Result.andThen_ok,Sem.run_pure]
    obtain ⟨R1,t1⟩:=Rel.F8 parts.toList R hb1;rw [aU]
    refine ⟨_,w,G,pt,.inl hrun,R1.put o ho (fun _=>False) (Ext.refl _ _) (fun _ _ _=>⟨rfl,rfl⟩) (fun b h=>h.elim) ⟨cells,rfl,f2,f3⟩ (fun b=>?_) R.gz rfl rfl rfl (dQ _)⟩
    have h1:=t1 b;have h2:=f5 b;have h3:=hz0 b;have h4:=R.ct b;have h5:=R.cb b;show aP b cs (aS cells)≤1∧(0<aP b cs (aS cells)→_)
    exact ⟨by omega,fun h=>⟨by omega,h5 (by omega)⟩⟩
  ·cases h
 ·cases h
end
theorem mP:∀ (n:Nat) (z:List D),(rep n z).length=n*z.length
 | 0,_=>by simp [rep]
 | n+1,z=>by simp only [rep,kZ,mP n z,Nat.add_mul];omega
theorem uS:∀ (n:Nat) (z:List D) (k:Nat) (h:k<(rep n z).length),∃ h':k%z.length<z.length,(rep n z)[k]=z[k%z.length]
 | 0,z,k,h=>by simp [rep] at h
 | n+1,z,k,h=>by
  have hz:0<z.length:=by
   rcases Nat.eq_zero_or_pos z.length with h0 | h0
   ·rw [mP,h0] at h;omega
   ·exact h0
  refine ⟨Nat.mod_lt _ hz,?_⟩;simp only [rep]
  by_cases hk:k<z.length
  ·rw [List.getElem_append_left hk]
   congr 1
   exact (Nat.mod_eq_of_lt hk).symm
  ·have hlt:k - z.length<(rep n z).length:=by simp only [rep,kZ] at h;omega
   obtain ⟨h1,h2⟩:=uS n z (k - z.length) hlt
   rw [List.getElem_append_right (by omega),h2]
   congr 1
   have:k=(k - z.length)+z.length:=by omega
   conv=>rhs;rw [this]
   rw [Nat.add_mod_right]
theorem Ad (zero:Array Value) (n:Nat):((Array.range (n*zero.size)).map (zero[· % zero.size]!)).size=n*zero.size ∧
 ∀ k,k<n*zero.size→aS ((Array.range (n*zero.size)).map (zero[· % zero.size]!)) k=aS zero (k%zero.size):=by
 refine ⟨by simp,fun k hk=>?_⟩
 have hz:0<zero.size:=by
  rcases Nat.eq_zero_or_pos zero.size with h | h
  ·rw [h] at hk;omega
  ·exact h
 have:=Nat.mod_lt k hz;simp [aS,sJ,hk,getElem!_pos zero (k%zero.size) this,Array.getElem?_eq_getElem this]
section
variable {P:Program} {E:Env} {C:Ctx} {s:St} {a:Act} {w:World} {G:Nat→Nat} {pt:Nat→Nat→Option Value} {o:Oper} {u:St}
theorem su {b:Nat}:∀ (ds:List D) (f:Nat→Value),(∀ j (h:j<ds.length),eu b ds[j] (f j)=0)→aP b ds f=0
 | [],_,_=>rfl
 | d::ds,f,hf=>by
  simp only [aP]
  rw [su ds (fun i=>f (i+1)) (fun j h=>by have:=hf (j+1) (by simpa using h);exact this)]
  have:=hf 0 (by simp)
  simpa using this
theorem bO.view0 {d:D} {v:Value} (h:bO w G pt d v) (hc:∀ b,eu b d v=0):bO w G pt (dw d) v:=by
 cases d with
 | sl f t l=>
  obtain ⟨ad,n,c,h1,h2,h3,h4⟩:=h;subst h1;refine ⟨ad,n,c,rfl,h2,h3,?_⟩
  match f,h4,hc with
  | 0,h4,_=>exact h4
  | 1,h4,hc=>
   rcases h4 with ⟨h5,h6,h7⟩ | ⟨b,h5,_⟩
   ·subst h6;exact ⟨by simp,.inl rfl⟩
   ·subst h5;have:=hc b;simp [eu] at this
  | 2,h4,hc=>
   rcases h4 with ⟨h5,h6,h7⟩ | ⟨b,h5,_⟩
   ·subst h6;exact ⟨by simp,.inl rfl⟩
   ·subst h5;have:=hc b;simp [eu] at this
  | (k+3),h4,_=>exact h4.elim
 | _=>exact h
theorem aR.view0 {ds:List D} {f:Nat→Value} (h:aR w G pt ds f) (hc:∀ b,aP b ds f=0):aR w G pt (ds.map dw) f:=by
 intro j hj;simp only [List.getElem_map]
 have hj':j<ds.length:=by simpa using hj
 exact ⟨(h j hj').1.view0 fun b=>by have:=jy (b:=b) (ds:=ds) (f:=f) j hj';have:=hc b;omega,(h j hj').2⟩
theorem nZ {w':World} {G':Nat→Nat} (hE:Ext w G w' G') {t:Ty}:∀ (n:Nat) {ds:List D} {l:List t.den} {f:Nat→Value} {b o:Nat},uK t n ds=some l →
 aR w G pt (ds.map dw) f→(∀ j,j<n*t.nc→w'.cell? ⟨b,o+j,none⟩=some (f j))→fJ w' G' t l b o∧l.length=n
 | 0,ds,l,f,b,o,h,_,_=>by
  cases ds with
  | nil=>simp only [uK,bq] at h;subst h;exact ⟨fun i hi=>by simp at hi,rfl⟩
  | cons d ds=>simp [uK] at h
 | n+1,ds,l,f,b,o,h,hr,hc=>by
  simp only [uK] at h;split at h
  ·rename_i x r hd
   split at h
   ·rename_i l' hl
    simp only [bq] at h;subst h
    have hmul:(n+1)*t.nc=n*t.nc+t.nc:=by rw [Nat.add_mul];omega
    obtain ⟨h1,h2,h3⟩:=uN hE (b:=b) (o:=o) hd hr (fun j hj=>hc j (by omega))
    subst h2
    obtain ⟨h4,h5⟩:=nZ hE n (b:=b) (o:=o+t.nc) (f:=fun j=>f (t.nc+j)) hl
     (fun j hj=>by
      have hl2:t.nc+j<(ds.map dw).length:=by simp at hj ⊢;omega
      have:=hr (t.nc+j) hl2
      simpa using this)
     (fun j hj=>by
      have:=hc (t.nc+j) (by omega)
      rw [Nat.add_assoc];exact this)
    refine ⟨fun i hi=>?_,by simp [h5]⟩
    match i,hi with
    | 0,_=>simpa using h1
    | i+1,hi=>
     have:=h4 i (by simpa using hi)
     rw [show o+t.nc+i*t.nc=o+(i+1)*t.nc by rw [Nat.add_mul];omega] at this
     exact this
   ·cases h
  ·cases h
theorem gN (ob:Obj) (hgz:∀ b,w.heap.size≤b→G b=0):Ext w G (w.alloc ob) G:=
 ⟨fun b o ho=>World.cell?_alloc_lt w ob ⟨b,o,none⟩ (by
  show b<w.heap.size
  rcases Nat.lt_or_ge b w.heap.size with h | h
  ·exact h
  ·rw [hgz b h] at ho;omega),fun _=>dQ _⟩
theorem alloc_old (ob:Obj) {b:Nat} (h:b<w.heap.size):(w.alloc ob).heap[b]? = w.heap[b]?:=by
 simp only [World.alloc,Array.getElem?_push]
 rw [if_neg (by omega)]
theorem kE (ob:Obj):(w.alloc ob).heap[w.heap.size]? = some ob:=by
 show (w.heap.push ob)[w.heap.size]? = some ob;simp
theorem Rel.fresh (R:Rel E C s a w G pt):TC E.n C.m s a w pt w.heap.size=0:=by
 rcases Nat.eq_zero_or_pos (TC E.n C.m s a w pt w.heap.size) with h | h
 ·exact h
 ·have:=(R.cb _ h).1;omega
theorem Rel.newRow (R:Rel E C s a w G pt) (o:Oper) (ho:∀ t,o.dst=some t→t<E.n) {t:Ty} {l:List t.den} {cells:Array Value} {e:TypeId} {fr:Nat×Nat} {c:Nat}
 (hl:fJ (w.alloc (.cells cells e fr)) G t l w.heap.size 0) (hc:l.length≤c) (hcs:c*t.nc≤cells.size) (hfr:∀ o,o<cells.size→¬ (fr.1≤o∧o<fr.2)) (hb:l.length*t.pV≤big) (hnc:0<t.nc) :
 Rel E C (aA (bN o (.sl 2 t l)) s) (a.put o.dst (.slice (some ⟨w.heap.size,0,none⟩) l.length c)) (w.alloc (.cells cells e fr)) G pt:=by
 refine R.put o ho (fun _=>False) (gN _ R.gz) (fun b _ hb=>⟨alloc_old _ hb,rfl⟩) (fun b h=>h.elim)
  ⟨_,_,_,rfl,rfl,hb,.inr ⟨_,rfl,R.gz _ (dQ _),⟨cells,e,fr,kE _,hcs,hfr⟩,hc,hl,hnc⟩⟩ (fun b=>?_) (fun b hb=>R.gz b (by simp at hb;omega)) rfl rfl rfl (by simp)
 rw [show dN b (.sl 2 t l) (.slice (some ⟨w.heap.size,0,none⟩) l.length c)=eu b (.sl 2 t l) (.slice (some ⟨w.heap.size,0,none⟩) l.length c) from rfl]
 simp only [eu]
 by_cases h:w.heap.size=b
 ·subst h
  exact ⟨by simp,fun _=>⟨R.fresh,by simp,.inl R.hs⟩⟩
 ·simp [h]
theorem Rel.Ae:∀ (parts:List (Nat×Operand)) {s1:St} {G:Nat→Nat},Rel E C s1 a w G pt →
 (∀ t,get s1 (2*t)=get s (2*t)∨get s1 (2*t)=share (get s (2*t)))→(∀ p∈parts,fu (aX s p.2)=false) →
 ∃ G',Ext w G w G'∧Rel E C (aA (fT s share ko parts) s1) a w G' pt ∧
  (∀ p∈parts,bg w G' pt (view (aX s p.2)) (a.eval p.2)) ∧
  (∀ t,get (aA (fT s share ko parts) s1) (2*t)=get s (2*t)∨get (aA (fT s share ko parts) s1) (2*t)=share (get s (2*t)))
 | [],s1,G,R,hs,_=>⟨G,Ext.refl _ _,R,fun p hp=>by simp at hp,hs⟩
 | (j,x)::r,s1,G,R,hs,ht=>by
  have htx:fu (aX s x)=false:=ht (j,x) (by simp)
  have ss:∀ d:D,share (share d)=share d:=by
   intro d
   cases d with
   | agg cs=>
    simp only [share,List.map_map]
    congr 1
    apply List.map_congr_left;intro d _
    cases d with
    | sl f t l=>
     show D.sl _ t l=D.sl _ t l
     by_cases h:f=2
     ·subst h;rfl
     ·rw [show Nat.beq f 2=false by rw [fH];simp [h]]
      simp only [bU]
      rw [show Nat.beq f 2=false by rw [fH];simp [h]]
      rfl
    | _=>rfl
   | sl f t l=>
    show D.sl _ t l=D.sl _ t l
    by_cases h:f=2
    ·subst h;rfl
    ·rw [show Nat.beq f 2=false by rw [fH];simp [h]]
     simp only [bU]
     rw [show Nat.beq f 2=false by rw [fH];simp [h]]
     rfl
   | _=>rfl
  -- the head
  have head:∃ G1,Ext w G w G1∧Rel E C (aA (dA s x share ko) s1) a w G1 pt∧bg w G1 pt (view (aX s x)) (a.eval x) ∧
   (∀ t,get (aA (dA s x share ko) s1) (2*t)=get s (2*t)∨get (aA (dA s x share ko) s1) (2*t)=share (get s (2*t))):=by
   cases x with
   | tmp t=>
    have hnt:fu (get s1 (2*t))=false:=by
     have aat:fu (get s (2*t))=false:=htx
     rcases hs t with h | h
     ·rw [h];exact aat
     ·rw [h];cases hd:get s (2*t)<;>rw [hd] at aat<;>first | rfl | exact aat
    cases hU:ko (get s (2*t)) with
    | false=>
     have e1:dA s (.tmp t) share ko=[]:=by simp [dA,hU]
     rw [e1]
     have h1:get s1 (2*t)=get s (2*t):=by
      rcases hs t with h | h
      ·exact h
      ·rw [h,oK hU]
     refine ⟨G,Ext.refl _ _,R,?_,hs⟩;have:=R.tm t;rw [h1,←oK hU] at this;exact this.view htx
    | true=>
     have e1:dA s (.tmp t) share ko=[(2*t,share (get s (2*t)))]:=by simp [dA,hU]
     rw [e1]
     have h1:share (get s1 (2*t))=share (get s (2*t)):=by
      rcases hs t with h | h
      ·rw [h]
      ·rw [h,ss]
     obtain ⟨G1,q1,q2,q3,_⟩:=R.zV t hnt;rw [h1] at q2 q3
     refine ⟨G1,q1,q2,q3.view htx,fun t'=>?_⟩
     show get ((2*t,share (get s (2*t)))::s1) (2*t')=_∨_
     rw [show aA [(2*t,share (get s (2*t)))] s1=(2*t,share (get s (2*t)))::s1 from rfl,dO]
     by_cases h:t' = t
     ·subst h;rw [if_pos rfl];exact .inr rfl
     ·rw [if_neg h];exact hs t'
   | const v=>
    refine ⟨G,Ext.refl _ _,R,?_,hs⟩;have hr:=aV R (.const v);have e:share (aX s1 (.const v))=aX s1 (.const v):=Cv v;rw [←e] at hr;exact hr.view htx
   | global g=>exact ⟨G,Ext.refl _ _,R,aV R (.global g),hs⟩
   | func f=>exact ⟨G,Ext.refl _ _,R,aV R (.func f),hs⟩
  obtain ⟨G1,e1,R1,hv1,hs1⟩:=head
  obtain ⟨G2,e2,R2,hv2,hs2⟩:=Rel.Ae r R1 hs1 (fun p hp=>ht p (by simp [hp]))
  refine ⟨G2,e1.trans e2,by simp only [fT,aU];exact R2,fun p hp=>?_,by simp only [fT,aU];exact hs2⟩
  rcases List.mem_cons.1 hp with rfl | hp
  ·refine bg.mono (pt:=pt) e2 (fun _ _ _ h=>h) hv1 fun b hb=>?_
   rw [nT _ _ _ htx] at hb;omega
  ·exact hv2 p hp
theorem Ca (HP:mG P E) (R:Rel E C s a w G pt) (ho:∀ t,o.dst=some t→t<E.n) (T n:Nat) (parts:Array (Nat×Operand)) (hop:o.op = .buildSlice T n parts)
 (h:jN E o s T n parts.toList=some (true,u)):fC P E C o a w (aA u s):=by
 simp only [jN] at h;split at h
 ·rename_i i hi
  have hu:=(HP.ti _ _ hi).und;split at h
  ·rename_i e hd
   rw [hd] at hu;split at h
   ·rename_i ei uF
    obtain ⟨pi,z,p1,p2,p3,p4,p5,p6,p7,p8⟩:=(HP.ti _ _ uF).info;split at h
    ·rename_i cs hcs
     split at h
     ·rename_i l hl
      cases hb:(Nat.ble (n*ei.size) 16777216&&Nat.beq ei.size ei.ty.nc&&Nat.blt 0 ei.size&&Nat.ble (n*ei.ty.pV) big) with
      | false=>simp only [hb,bU,reduceCtorEq] at h
      | true=>
       simp only [hb,aQ,bq,eX,true_and] at h;subst h;simp only [bP] at hb;obtain ⟨⟨⟨hb1,hb2⟩,hb3⟩,hb4⟩:=hb;have hb1:=Nat.le_of_ble_eq_true hb1;have hb2:=dM hb2
       have hb3:0<ei.size:=by simpa [Nat.blt_eq] using hb3
       have hb4:=Nat.le_of_ble_eq_true hb4
       -- no part is a tuple
       have hnt:∀ (l:List (Nat×Operand)) (cs cs':List D),gD (fun j=>some (j*ei.size,ei.size)) s view cs l=some cs'→∀ p∈l,fu (aX s p.2)=false:=by
        intro l
        induction l with
        | nil=>intro _ _ _ p hp;simp at hp
        | cons q l ih=>
         intro cs cs' h p hp;obtain ⟨j,x⟩:=q;simp only [gD] at h
         cases hbb:(gJ (aX s x)&&Nat.beq (fit ((cs.drop (j*ei.size)).take ei.size) (leaves (view (aX s x)))).length ei.size&&Nat.ble (j*ei.size+ei.size) cs.length) with
         | false=>simp only [hbb,bU,reduceCtorEq] at h
         | true=>
          simp only [hbb,aQ] at h;simp only [bP] at hbb
          rcases List.mem_cons.1 hp with rfl | hp
          ·have:=hbb.1.1
           cases hd:aX s x<;>rw [hd] at this<;>first | rfl | (simp [gJ] at this)
          ·exact ih _ _ h p hp
       have afZ:=hnt _ _ _ hcs
       obtain ⟨G1,e1,R1,hv1,hs1⟩:=Rel.Ae (s:=s) parts.toList R (fun t=>.inl rfl) afZ
       have hzs:z.cells.size=ei.size:=p5;obtain ⟨rc1,rc2⟩:=Ad z.cells n
       have hz:aR w G1 pt (rep n ei.zero) (aS ((Array.range (n*z.cells.size)).map (z.cells[· % z.cells.size]!))):=by
        intro k hk;obtain ⟨h',e⟩:=uS n ei.zero k hk;rw [mP,p6] at hk
        rw [rc2 k (by rw [hzs];exact hk),e,hzs]
        simp only [p6] at h' ⊢
        exact ⟨(p8 (k%ei.size) (by omega)).1 w G1 pt,p7 _ h'⟩
       have hz0:∀ b,aP b (rep n ei.zero) (aS ((Array.range (n*z.cells.size)).map (z.cells[· % z.cells.size]!)))=0:=by
        intro b
        refine su _ _ fun k hk=>?_
        obtain ⟨h',e⟩:=uS n ei.zero k hk;rw [mP,p6] at hk
        rw [rc2 k (by rw [hzs];exact hk),e,hzs]
        simp only [p6] at h' ⊢
        exact (p8 (k%ei.size) (by omega)).2 b
       have PN:∀ d,gJ d=true→gJ (view d)=true:=by intro d hd;cases d<;>first | rfl | exact hd
       obtain ⟨cells,f1,f2,f3,f4,f5⟩:=Ab (w:=w) (G:=G1) (pt:=pt) (a:=a) (s:=s) (fun j=>some (j*ei.size,ei.size)) view PN parts.toList (rep n ei.zero) _ hv1 hz
        (by rw [rc1,mP,p6,hzs]) hcs
       have hc0:∀ b,aP b cs (aS cells)=0:=by
        intro b;have h1:=f5 b;have h2:=hz0 b
        have h3:yI s a view b parts.toList=0:=by
         have key:∀ l:List (Nat×Operand),(∀ p∈l,fu (aX s p.2)=false)→yI s a view b l=0:=by
          intro l
          induction l with
          | nil=>intro _;rfl
          | cons q l ih=>
           intro hl;simp only [yI]
           rw [ih fun p hp=>hl p (by simp [hp]),nT _ _ _ (hl q (by simp))]
         exact key _ afZ
        omega
       have hsz:cells.size=n*ei.size:=by rw [f2,f4,mP,p6]
       have hrun:(execOp a.eval o).run P w = .ok (.value (.slice (some ⟨w.heap.size,0,none⟩) n n)) (w.alloc (.cells cells e)):=by
        have e0:(parts.map fun (i,x)=>(i,a.eval x)).toList=parts.toList.map fun p=>(p.1,a.eval p.2):=by simp
        have hsz2:(sizeOf e).run P w = .ok ei.size w:=by simp [sizeOf,typeInfo,p1,p2]
        by_cases hn0:n*ei.size=0
        ·have hf:Instr.fill (fun i=>some (i*ei.size,ei.size)) #[] (parts.toList.map fun p=>(p.1,a.eval p.2))=some cells:=by
          rw [hzs,hn0] at f1
          simpa [Array.range_zero'] using f1
         simp [execOp,hop,Instr.buildSlice,run_underlying hu,hsz2,hn0,hf,newRow,Array.range_zero']
        ·have hf:Instr.fill (fun i=>some (i*ei.size,ei.size)) ((Array.range (n*ei.size)).map (z.cells[· % ei.size]!)) (parts.toList.map fun p=>(p.1,a.eval p.2))=some cells:=by
          simp only [hzs] at f1;exact f1
         have hle:¬ (16777216<n*ei.size):=by omega
         simp [execOp,hop,Instr.buildSlice,run_underlying hu,hsz2,hn0,hle,zeroValue,typeInfo,p1,p4,hzs,hf,newRow]
       have hdec:=nZ (w:=w) (G:=G1) (pt:=pt) (gN (.cells cells e (0,0)) R1.gz) n (b:=w.heap.size) (o:=0) hl (f3.view0 hc0) (fun j hj=>by
        rw [World.cell?_alloc_new]
        have hj':0+j<cells.size:=by rw [hsz,hb2];omega
        rw [Array.getElem?_eq_getElem hj']
        simp [aS,sJ,show j<cells.size by omega])
       obtain ⟨hdec,hlen⟩:=hdec;rw [aU];refine ⟨_,_,G1,pt,.inl hrun,?_⟩
       have:=R1.newRow o ho (c:=n) (cells:=cells) (e:=e) (fr:=(0,0)) hdec (by omega) (by rw [hsz,hb2];exact dQ _) (fun _ _=>by simp) (by rw [hlen];exact hb4) (by omega)
       rw [hlen] at this;exact this
     ·cases h
    ·cases h
   ·cases h
  ·cases h
 ·cases h
theorem jA (cs:Array Value) (e:TypeId) (fr:Nat×Nat) (j:Nat):(w.alloc (.cells cs e fr)).cell? ⟨w.heap.size,j,none⟩=cs[j]?:=by
 simp only [World.cell?,kE];simp
theorem rC (cs:Array Value) (e:TypeId) (fr:Nat×Nat) (j:Nat):aD (w.alloc (.cells cs e fr)) w.heap.size j=aS cs j:=by
 simp [aD,jA,aS,sJ]
theorem Rel.newVar (R:Rel E C s a w G pt) (hm:E.n≤C.m) (dst:Nat) (hd:dst<E.n) {ds:List D} {cells:Array Value} {e:TypeId}
 (hr:aR (w.alloc (.cells cells e)) G pt ds (aS cells)) (hsz:ds.length≤cells.size)
 (hc:∀ b,aP b ds (aS cells)≤1∧(0<aP b ds (aS cells)→TC E.n C.m s a w pt b=0∧b<w.heap.size∧(C.w0.heap.size≤b∨C.X b))) :
 Rel E C ((2*dst,.ptr dst (aO (get s (2*dst+1))+1) 0)::(2*dst+1,.aI (aO (get s (2*dst+1))+1) true ds)::s) (a.put (some dst) (.pointer (some ⟨w.heap.size,0,none⟩)))
  (w.alloc (.cells cells e)) G (bB pt dst (aO (get s (2*dst+1))+1) (.pointer (some ⟨w.heap.size,0,none⟩))):=by
 have UC:∀ i j v,pt i j=some v→bB pt dst (aO (get s (2*dst+1))+1) (.pointer (some ⟨w.heap.size,0,none⟩)) i j=some v:=by
  intro i j v hv;unfold bB;rw [if_neg]
  ·exact hv
  ·rintro ⟨rfl,rfl⟩
   rw [R.pf i _ (Nat.lt_succ_self _)] at hv;cases hv
 have PO:bB pt dst (aO (get s (2*dst+1))+1) (.pointer (some ⟨w.heap.size,0,none⟩)) dst (aO (get s (2*dst+1))+1)=some (.pointer (some ⟨w.heap.size,0,none⟩)):=by simp [bB]
 refine R.wM dst hd hm (gN _ R.gz) (fun b hb=>⟨alloc_old _ hb,rfl⟩) ⟨w.heap.size,by rw [PO];rfl,rfl⟩ (fun _=>rfl)
  (fun _=>⟨w.heap.size,PO,⟨cells,e,(0,0),kE _,hsz,fun _ _=>by simp⟩,R.gz _ (dQ _),?_⟩) rfl (fun b=>?_) (fun b hb=>R.gz b (by simp at hb;omega)) rfl rfl rfl (by simp)
 ·refine (hr.congr fun j _=>(rC cells e (0,0) j).symm).mono (Ext.refl _ _) UC (fun _ _=>rfl) fun _ _=>⟨rfl,rfl⟩
 ·have e1:gQ (w.alloc (.cells cells e)) (bB pt dst (aO (get s (2*dst+1))+1) (.pointer (some ⟨w.heap.size,0,none⟩))) b dst (.aI (aO (get s (2*dst+1))+1) true ds) =
   (if w.heap.size=b then 1 else 0)+aP b ds (aS cells):=by
   simp only [gQ,PO]
   congr 1
   ·simp [dx,bH]
   ·refine gX fun j _=>?_
    simp only [bH,Option.getD_some];exact rC cells e (0,0) j
  rw [e1];have h1:=hc b
  by_cases hb:w.heap.size=b
  ·rw [if_pos hb]
   have:aP b ds (aS cells)=0:=by
    rcases Nat.eq_zero_or_pos (aP b ds (aS cells)) with h | h
    ·exact h
    ·have:=(h1.2 h).2.1;omega
   exact ⟨by omega,fun _=>⟨by rw [←hb];exact R.fresh,by rw [←hb];simp,.inl (by rw [←hb];exact R.hs)⟩⟩
  ·rw [if_neg hb]
   exact ⟨by omega,fun h=>⟨(h1.2 (by omega)).1,by have:=(h1.2 (by omega)).2.1;simp;omega,(h1.2 (by omega)).2.2⟩⟩
theorem Rel.aav (R:Rel E C s a w G pt) (hm:E.n≤C.m) (dst:Nat) (hd:dst<E.n) {ds:List D} {cells:Array Value} {e:TypeId}
 (hr:aR (w.alloc (.cells cells e)) G pt ds (aS cells)) {n:Nat} (hsz:ds.length≤cells.size)
 (hc:∀ b,aP b ds (aS cells)≤1∧(0<aP b ds (aS cells)→TC E.n C.m s a w pt b=0∧b<w.heap.size∧(C.w0.heap.size≤b∨C.X b))) (hn:n≤jo) :
 Rel E C ((2*dst,.BZ dst (aO (get s (2*dst+1))+1) n)::(2*dst+1,.aI (aO (get s (2*dst+1))+1) true ds)::s) (a.put (some dst) (.slice (some ⟨w.heap.size,0,none⟩) n n))
  (w.alloc (.cells cells e)) G (bB pt dst (aO (get s (2*dst+1))+1) (.pointer (some ⟨w.heap.size,0,none⟩))):=by
 have UC:∀ i j v,pt i j=some v→bB pt dst (aO (get s (2*dst+1))+1) (.pointer (some ⟨w.heap.size,0,none⟩)) i j=some v:=by
  intro i j v hv;unfold bB;rw [if_neg]
  ·exact hv
  ·rintro ⟨rfl,rfl⟩
   rw [R.pf i _ (Nat.lt_succ_self _)] at hv;cases hv
 have PO:bB pt dst (aO (get s (2*dst+1))+1) (.pointer (some ⟨w.heap.size,0,none⟩)) dst (aO (get s (2*dst+1))+1)=some (.pointer (some ⟨w.heap.size,0,none⟩)):=by simp [bB]
 refine R.wM dst hd hm (gN _ R.gz) (fun b hb=>⟨alloc_old _ hb,rfl⟩) ⟨.inl ⟨w.heap.size,n,by rw [PO];rfl,rfl⟩,hn⟩ (fun _=>rfl)
  (fun _=>⟨w.heap.size,PO,⟨cells,e,(0,0),kE _,hsz,fun _ _=>by simp⟩,R.gz _ (dQ _),?_⟩) rfl (fun b=>?_) (fun b hb=>R.gz b (by simp at hb;omega)) rfl rfl rfl (by simp)
 ·refine (hr.congr fun j _=>(rC cells e (0,0) j).symm).mono (Ext.refl _ _) UC (fun _ _=>rfl) fun _ _=>⟨rfl,rfl⟩
 ·have e1:gQ (w.alloc (.cells cells e)) (bB pt dst (aO (get s (2*dst+1))+1) (.pointer (some ⟨w.heap.size,0,none⟩))) b dst (.aI (aO (get s (2*dst+1))+1) true ds) =
   (if w.heap.size=b then 1 else 0)+aP b ds (aS cells):=by
   simp only [gQ,PO]
   congr 1
   ·simp [dx,bH]
   ·refine gX fun j _=>?_
    simp only [bH,Option.getD_some];exact rC cells e (0,0) j
  rw [e1];have h1:=hc b
  by_cases hb:w.heap.size=b
  ·rw [if_pos hb]
   have:aP b ds (aS cells)=0:=by
    rcases Nat.eq_zero_or_pos (aP b ds (aS cells)) with h | h
    ·exact h
    ·have:=(h1.2 h).2.1;omega
   exact ⟨by omega,fun _=>⟨by rw [←hb];exact R.fresh,by rw [←hb];simp,.inl (by rw [←hb];exact R.hs)⟩⟩
  ·rw [if_neg hb]
   exact ⟨by omega,fun h=>⟨(h1.2 (by omega)).1,by have:=(h1.2 (by omega)).2.1;simp;omega,(h1.2 (by omega)).2.2⟩⟩
theorem Rel.Cz (R:Rel E C s a w G pt) (hm:E.n≤C.m) (dst:Nat) (hd:dst<E.n) {t:Ty} {l:List t.den} {cells:Array Value} {e:TypeId}
 (hr:fJ (w.alloc (.cells cells e)) G t l w.heap.size 0) (hsz:l.length*t.nc≤cells.size) :
 Rel E C ((2*dst,.ptr dst (aO (get s (2*dst+1))+1) 0)::(2*dst+1,.aW (aO (get s (2*dst+1))+1) true true t l)::s) (a.put (some dst) (.pointer (some ⟨w.heap.size,0,none⟩)))
  (w.alloc (.cells cells e)) G (bB pt dst (aO (get s (2*dst+1))+1) (.pointer (some ⟨w.heap.size,0,none⟩))):=by
 have PO:bB pt dst (aO (get s (2*dst+1))+1) (.pointer (some ⟨w.heap.size,0,none⟩)) dst (aO (get s (2*dst+1))+1)=some (.pointer (some ⟨w.heap.size,0,none⟩)):=by simp [bB]
 refine R.wM dst hd hm (gN _ R.gz) (fun b hb=>⟨alloc_old _ hb,rfl⟩) ⟨w.heap.size,by rw [PO];rfl,rfl⟩ (fun _=>rfl)
  (fun _=>?_) rfl (fun b=>?_) (fun b hb=>R.gz b (by simp at hb;omega)) rfl rfl rfl (by simp)
 ·simp only [if_true]
  exact ⟨w.heap.size,PO,⟨cells,e,(0,0),kE _,hsz,fun _ _=>by simp⟩,R.gz _ (dQ _),hr⟩
 ·have e1:gQ (w.alloc (.cells cells e)) (bB pt dst (aO (get s (2*dst+1))+1) (.pointer (some ⟨w.heap.size,0,none⟩))) b dst (.aW (aO (get s (2*dst+1))+1) true true t l) =
   (if w.heap.size=b then 1 else 0):=by
   simp only [gQ,PO];simp [dx,bH]
  rw [e1]
  by_cases hb:w.heap.size=b
  ·rw [if_pos hb]
   exact ⟨by omega,fun _=>⟨by rw [←hb];exact R.fresh,by rw [←hb];simp,.inl (by rw [←hb];exact R.hs)⟩⟩
  ·rw [if_neg hb]
   exact ⟨by omega,fun h=>by omega⟩
theorem PS (HP:mG P E) (R:Rel E C s a w G pt) (hm:E.n≤C.m) (ho:∀ t,o.dst=some t→t<E.n) (T:Nat) (hop:o.op = .alloc T)
 (h:tq E o s T=some (true,u)):fC P E C o a w (aA u s):=by
 simp only [tq] at h;split at h
 ·rename_i i dst hi hdst
  obtain ⟨pi,z,p1,p2,p3,p4,p5,p6,p7,p8⟩:=(HP.ti _ _ hi).info
  have hrun:(execOp a.eval o).run P w = .ok (.value (.pointer (some ⟨w.heap.size,0,none⟩))) (w.alloc (.cells z.cells T)):=by
   simp [execOp,hop,Instr.alloc,zeroValue,typeInfo,p1,p4,newVar,newRow]
  split at h
  ·rename_i t harr
   split at h
   ·rename_i l hl
    cases hb:Nat.beq (i.size / t.nc*t.nc) i.size with
    | false=>simp [hb] at h
    | true=>
     simp only [hb,aQ,IU,bq,eX,true_and] at h;subst h;have hnc:=dM hb
     have hz:aR w G pt i.zero (aS z.cells):=fun j hj=>⟨(p8 j hj).1 w G pt,p7 j (by omega)⟩
     have hz0:∀ b,aP b i.zero (aS z.cells)=0:=fun b=>su _ _ fun j hj=>(p8 j hj).2 b
     obtain ⟨q1,q2⟩:=nZ (w:=w) (G:=G) (pt:=pt) (gN (.cells z.cells T) R.gz) (i.size / t.nc) (b:=w.heap.size) (o:=0) hl (hz.view0 hz0) (fun j hj=>by
      rw [jA]
      have hj':0+j<z.cells.size:=by rw [p5];rw [hnc] at hj;omega
      rw [Array.getElem?_eq_getElem hj']
      simp [aS,sJ,show j<z.cells.size by omega])
     have:=R.Cz hm dst (ho dst hdst) (cells:=z.cells) (e:=T) q1 (by rw [q2,hnc,p5];omega)
     exact ⟨_,_,G,_,.inl hrun,by rw [hdst];exact this⟩
   ·cases h
  ·simp only [bq,eX,true_and] at h
   subst h
   have:=R.newVar hm dst (ho dst hdst) (ds:=i.zero) (cells:=z.cells) (e:=T) (fun j hj=>⟨(p8 j hj).1 _ G pt,p7 j (by omega)⟩) (by omega)
    (fun b=>by
     have:aP b i.zero (aS z.cells)=0:=su _ _ fun j hj=>(p8 j hj).2 b
     exact ⟨by omega,fun h=>by omega⟩)
   exact ⟨_,_,G,_,.inl hrun,by rw [hdst];exact this⟩
 ·cases h
theorem lY (x:Operand) (f:D→D) (h:D→Bool) (i:Nat):get (aA (dA s x f h) s) (2*i+1)=get s (2*i+1):=by
 cases x with
 | tmp t=>simp only [dA];cases h (get s (2*t))<;>simp [aA]
 | _=>rfl
theorem aaw (HP:mG P E) (R:Rel E C s a w G pt) (hm:E.n≤C.m) (ho:∀ t,o.dst=some t→t<E.n) (T:Nat) (x:Operand) (hop:o.op = .box T x)
 (h:IV E o s T x=some (true,u)):fC P E C o a w (aA u s):=by
 simp only [IV] at h;split at h
 ·rename_i i dst hi hdst
  cases hD:gJ (cZ i.ty (aX s x)) with
  | false=>simp [hD] at h
  | true=>
   simp only [hD,aQ] at h;obtain ⟨q1,q2⟩:=tC (t:=i.ty) (aV R x)
   have hnt:fu (cZ i.ty (aX s x))=false:=by cases hd:cZ i.ty (aX s x)<;>rw [hd] at hD<;>first | rfl | (simp [gJ] at hD)
   have hrun:(execOp a.eval o).run P w = .ok (.value (.pointer (some ⟨w.heap.size,0,none⟩))) (w.alloc (.cells (a.eval x).cells T)):=by
    simp [execOp,hop,Instr.box,newVar,newRow]
   split at h
   ·rename_i t harr
    split at h
    ·rename_i l hl
     cases hb:Nat.beq t.nc 1 with
     | false=>simp [hb] at h
     | true=>
      simp only [hb,aQ,bq,eX,true_and] at h;subst h;have hnc:=dM hb;obtain ⟨G',e',R1,hv1,hv2,_⟩:=R.zX x (zY hnt)
      have hvr:bg w G' pt (view (cZ i.ty (aX s x))) (a.eval x):=by
       cases hd:aX s x with
       | jK=>
        rw [hd] at hv1;have hv:a.eval x = .slice none 0 0:=hv1;rw [hv]
        cases ht:i.ty<;>first | rfl | skip
        exact ⟨none,0,0,rfl,rfl,by simp,by simp,.inl rfl⟩
       | _=>rw [hd] at hv1;exact hv1
      have hdv:gJ (view (cZ i.ty (aX s x)))=true:=by cases hd:cZ i.ty (aX s x)<;>rw [hd] at hD<;>first | rfl | exact hD
      obtain ⟨l1,l2,l3⟩:=lX hvr hdv
      have hln:(leaves (view (cZ i.ty (aX s x)))).length=(leaves (cZ i.ty (aX s x))).length:=by
       cases cZ i.ty (aX s x)<;>simp [view,leaves,dw]
      have hl0:∀ b,aP b (leaves (view (cZ i.ty (aX s x)))) (aS (a.eval x).cells)=0:=fun b=>by rw [l3];exact nT _ _ _ hnt
      obtain ⟨r1,r2⟩:=nZ (w:=w) (G:=G') (pt:=pt) (gN (.cells (a.eval x).cells T) R1.gz) _ (b:=w.heap.size) (o:=0) hl (l1.view0 hl0) (fun j hj=>by
       rw [jA]
       have hj':0+j<(a.eval x).cells.size:=by rw [l2,hln];rw [hnc] at hj;omega
       rw [Array.getElem?_eq_getElem hj']
       simp [aS,sJ,show j<(a.eval x).cells.size by omega])
      rw [aU,←lY x share ko dst]
      have:=R1.Cz hm dst (ho dst hdst) (cells:=(a.eval x).cells) (e:=T) r1 (by rw [r2,hnc,l2,hln];omega)
      exact ⟨_,_,G',_,.inl hrun,by rw [hdst];exact this⟩
    ·cases h
   ·-- a variable: what is taken goes into it
    have keep:∀ (ds:List D) (G':Nat→Nat),Ext w G w G'→(∀ b,dN b (aX s x) (a.eval x)=0→G' b=G b)→aR w G' pt ds (aS (a.eval x).cells)→ds.length=(a.eval x).cells.size →
     (∀ b,aP b ds (aS (a.eval x).cells)=dN b (aX s x) (a.eval x)) →
     fC P E C o a w (aA (dA s x strip dY++[(2*dst+1,.aI (aO (get s (2*dst+1))+1) true ds),(2*dst,.ptr dst (aO (get s (2*dst+1))+1) 0)]) s):=by
     intro ds G' e' hG' hds hdl hdc;obtain ⟨R0,t0⟩:=R.lS x
     -- the bounds may be raised for blocks that nobody holds any more
     have R1:Rel E C (aA (dA s x strip dY) s) a w G' pt:=by
      refine R0.step (fun _=>False) (fun _=>False) (fun b=>0<dN b (aX s x) (a.eval x)) rfl R0.df (fun _ _=>⟨rfl,rfl⟩) (fun _ _=>⟨rfl,rfl⟩) e' (fun _ _ _ h=>h) (fun b hb _=>⟨rfl,hG' b (by omega)⟩)
       (fun b hb t _=>?_) (fun b hb id _=>?_) (fun b hb=>(R.held x hb).2) (fun t h=>h.elim) (fun id h=>h.elim) (fun _ _ b=>⟨R0.ct b,R0.cb b⟩) (fun b hb=>?_) rfl rfl rfl (dQ _)
      ·have:=R0.mM b t;have:=t0 b;have:=R.ct b;omega
      ·have:=R0.iT b id;have:=t0 b;have:=R.ct b;omega
      ·rw [hG' b ?_];exact R.gz b hb
       rcases Nat.eq_zero_or_pos (dN b (aX s x) (a.eval x)) with h | h
       ·exact h
       ·have:=(R.held x h).1;omega
     rw [aU,←lY x strip dY dst]
     have:=R1.newVar hm dst (ho dst hdst) (ds:=ds) (cells:=(a.eval x).cells) (e:=T) (hds.mono (gN _ R1.gz) (fun _ _ _ h=>h) (fun _ _=>rfl) fun b hb=>⟨alloc_old _ (by
      rw [hdc] at hb;exact (R.held x hb).1),rfl⟩) (by omega)
      (fun b=>by
       rw [hdc];have h1:=t0 b;have h2:=R.ct b
       exact ⟨by omega,fun h=>⟨by omega,R.held x h⟩⟩)
     exact ⟨_,_,G',_,.inl hrun,by rw [hdst];exact this⟩
    obtain ⟨l1,l2,l3⟩:=lX q1 hD
    have hc1:∀ b,dN b (aX s x) (a.eval x)≤1:=fun b=>by have:=(R.lS x).2 b;have:=R.ct b;omega
    cases hb:Nat.beq (tag E o) 2 with
    | true=>
     simp only [hb,aQ,bq,eX,true_and] at h;subst h
     exact keep _ G (Ext.refl _ _) (fun _ _=>rfl) l1 l2.symm (fun b=>by rw [l3,q2])
    | false=>
     simp only [hb,bU,bq,eX,true_and] at h;subst h
     obtain ⟨e',hsh⟩:=l1.share (fun b=>by rw [l3,q2];exact hc1 b)
     exact keep _ _ e' (fun b hb=>gT (by rw [l3,q2];exact hb)) hsh (by rw [List.length_map];exact l2.symm) (fun b=>by rw [lQ,l3,q2])
 ·cases h
theorem F9 (HP:mG P E) (hm:E.n≤C.m) (R:Rel E C s a w G pt) (ho:∀ t,o.dst=some t→t<E.n) (T n:Nat) (parts:Array (Nat×Operand)) (hop:o.op = .buildSlice T n parts)
 (h:nK E o s T n parts.toList=some (true,u)):fC P E C o a w (aA u s):=by unfold nK at h;cases h
theorem qy {t:Ty} {z:t.den} {zs:List D} (hz:dec t zs=some (z,[])) (hlz:zs.length=t.nc):∀ n,uK t n (rep n zs)=some (List.replicate n z)
 | 0=>rfl
 | n+1=>by
  have key:∀ (t:Ty) (ds r:List D) (x:t.den) ,dec t ds=some (x,[])→dec t (ds++r)=some (x,r):=by
   have gen:∀ (t:Ty) (ds r r':List D) (x:t.den),dec t ds=some (x,r')→dec t (ds++r)=some (x,r'++r):=by
    intro t
    induction t with
    | int k=>
     intro ds r r' x h
     cases ds with
     | nil=>simp [dec] at h
     | cons d ds=>
      cases d<;>simp only [dec] at h<;>try (cases h;done)
      rename_i k' n
      cases hk:jm k k' with
      | false=>simp [hk] at h
      | true=>
       simp only [hk,aQ,bq,eX] at h;obtain ⟨rfl,rfl⟩:=h;simp [dec,hk]
    | bool=>
     intro ds r r' x h
     cases ds with
     | nil=>simp [dec] at h
     | cons d ds=>
      cases d<;>simp only [dec] at h<;>try (cases h;done)
      simp only [bq,eX] at h;obtain ⟨rfl,rfl⟩:=h;simp [dec]
    | str=>
     intro ds r r' x h
     cases ds with
     | nil=>simp [dec] at h
     | cons d ds=>
      cases d<;>simp only [dec] at h<;>try (cases h;done)
      simp only [bq,eX] at h;obtain ⟨rfl,rfl⟩:=h;simp [dec]
    | gM f0 t _=>
     intro ds r r' x h
     cases ds with
     | nil=>simp [dec] at h
     | cons d ds=>
      cases d<;>simp only [dec] at h<;>try (cases h;done)
      rename_i f' t' y
      by_cases hb:(Ty.gM f' t').beq (.gM f0 t)=true
      ·simp only [hb,dite_true,bq,eX] at h
       obtain ⟨rfl,rfl⟩:=h;simp [dec,hb]
      ·simp [hb] at h
    | sl t _=>
     intro ds r r' x h
     cases ds with
     | nil=>simp [dec] at h
     | cons d ds=>
      cases d<;>simp only [dec] at h<;>try (cases h;done)
      ·simp only [bq,eX] at h
       obtain ⟨rfl,rfl⟩:=h;simp [dec]
      ·rename_i fl t' l
       by_cases hb:t'.beq t=true
       ·simp only [hb,dite_true,bq,eX] at h
        obtain ⟨rfl,rfl⟩:=h;simp [dec,hb]
       ·simp [hb] at h
    | unit=>
     intro ds r r' x h;simp only [dec,bq,eX] at h;simp [dec,h.2]
    | cons p q ihp ihq=>
     intro ds r r' x h;simp only [dec] at h
     cases hp:dec p ds with
     | none=>simp [hp] at h
     | some y=>
      obtain ⟨y,ry⟩:=y;simp only [hp] at h
      cases hq:dec q ry with
      | none=>simp [hq] at h
      | some y2=>
       obtain ⟨y2,ry2⟩:=y2;simp only [hq,bq,eX] at h;obtain ⟨rfl,rfl⟩:=h;simp [dec,ihp ds r ry y hp,ihq ry r ry2 y2 hq]
    | st b c ih=>
     intro ds r r' x h;exact ih ds r r' x h
   intro t ds r x h
   simpa using gen t ds r [] x h
  simp only [rep,uK,key t zs (rep n zs) z hz,qy hz hlz n,List.replicate_succ]
theorem DZ (HP:mG P E) (R:Rel E C s a w G pt) (ho:∀ t,o.dst=some t→t<E.n) (T:Nat) (x y:Operand) (hop:o.op = .makeSlice T x y)
 (h:kr E o s T x y=some (true,u)):fC P E C o a w (aA u s):=by
 simp only [kr] at h;split at h
 ·rename_i i hi
  have hu:=(HP.ti _ _ hi).und;split at h
  ·rename_i e hd
   rw [hd] at hu;split at h
   ·rename_i ei uF
    obtain ⟨pi,z,p1,p2,p3,p4,p5,p6,p7,p8⟩:=(HP.ti _ _ uF).info;split at h
    ·rename_i zz k n k' m hz hx hy
     cases hb:(Nat.beq ei.size ei.ty.nc&&Nat.beq ei.bytes ei.ty.pV&&Nat.blt 0 ei.size&&Nat.blt 0 ei.bytes) with
     | false=>simp only [hb,bU,reduceCtorEq] at h
     | true=>
      simp only [hb,aQ,bq,eX,bP,jH] at h;obtain ⟨⟨⟨h0,h1⟩,h2⟩,rfl⟩:=h;simp only [bP] at hb;obtain ⟨⟨⟨hb1,hb2⟩,hb3⟩,hb4⟩:=hb;have hb1:=dM hb1;have hb2:=dM hb2
      have hb3:0<ei.size:=by simpa [Nat.blt_eq] using hb3
      have hb4:0<ei.bytes:=by simpa [Nat.blt_eq] using hb4
      have hxv:=aV R x;rw [hx] at hxv;have hyv:=aV R y;rw [hy] at hyv
      have hm0:0≤m:=by omega
      have hmb:m≤m*(ei.bytes:Int):=by
       have:m*1≤m*(ei.bytes:Int):=Int.mul_le_mul_of_nonneg_left (by omega) hm0
       omega
      have hm63:m≤9223372036854775807:=by unfold big at h2;omega
      have hby:((pi.bytes:Nat):Int)*m≤281474976710656:=by rw [p3,Int.mul_comm];unfold big at h2;omega
      have hrun:(execOp a.eval o).run P w = .ok (.value (.slice (some ⟨w.heap.size,0,none⟩) n.toNat m.toNat)) (w.alloc (.cells (madeCells z.cells (m.toNat*pi.size)) e)):=by
       have:=run_make (P:=P) w T e pi z hu p1 p4 k k' n m h0 h1 hby hm63;simp [execOp,hop,hxv.1,hyv.1,this]
      have hzl:ei.zero.length=ei.ty.nc:=by rw [p6,hb1]
      have hzr:aR w G pt (rep n.toNat ei.zero) (aS (madeCells z.cells (m.toNat*pi.size)))∧∀ b,aP b (rep n.toNat ei.zero) (aS (madeCells z.cells (m.toNat*pi.size)))=0:=by
       have hsz:z.cells.size=ei.size:=p5;obtain ⟨rc1,rc2⟩:=Ad z.cells m.toNat
       have hmc:madeCells z.cells (m.toNat*pi.size)=(Array.range (m.toNat*z.cells.size)).map (z.cells[· % z.cells.size]!):=by rw [show m.toNat*pi.size=m.toNat*z.cells.size by rw [p2,hsz]];rfl
       rw [hmc]
       have hle:n.toNat*ei.size≤m.toNat*ei.size:=sW _ (by omega)
       constructor
       ·intro kk hk
        obtain ⟨h',e⟩:=uS n.toNat ei.zero kk hk;rw [mP,p6] at hk
        rw [rc2 kk (by rw [hsz];omega),e,hsz]
        simp only [p6] at h' ⊢
        exact ⟨(p8 (kk%ei.size) (by omega)).1 w G pt,p7 _ h'⟩
       ·intro b
        refine su _ _ fun kk hk=>?_
        obtain ⟨h',e⟩:=uS n.toNat ei.zero kk hk;rw [mP,p6] at hk
        rw [rc2 kk (by rw [hsz];omega),e,hsz]
        simp only [p6] at h' ⊢
        exact (p8 (kk%ei.size) (by omega)).2 b
      have UE:(madeCells z.cells (m.toNat*pi.size)).size=m.toNat*ei.size:=by rw [size_madeCells,p2]
      have hnm:n.toNat*ei.ty.nc≤m.toNat*ei.size:=by rw [hb1];exact sW _ (by omega)
      obtain ⟨r1,r2⟩:=nZ (w:=w) (G:=G) (pt:=pt) (gN (.cells (madeCells z.cells (m.toNat*pi.size)) e) R.gz) n.toNat (b:=w.heap.size) (o:=0) (qy hz hzl n.toNat) (hzr.1.view0 hzr.2) (fun j hj=>by
       rw [jA]
       have hj':0+j<(madeCells z.cells (m.toNat*pi.size)).size:=by rw [UE];omega
       rw [Array.getElem?_eq_getElem hj']
       simp [aS,sJ,show j<(madeCells z.cells (m.toNat*pi.size)).size by omega])
      have hbz:n.toNat*ei.ty.pV≤big:=by
       rw [←hb2]
       have h3:n.toNat*ei.bytes≤m.toNat*ei.bytes:=sW _ (by omega)
       have h4:((m.toNat*ei.bytes:Nat):Int)≤(big:Int):=by
        rw [Int.natCast_mul,Int.toNat_of_nonneg hm0];exact h2
       omega
      have:=R.newRow o ho (c:=m.toNat) (cells:=madeCells z.cells (m.toNat*pi.size)) (e:=e) (fr:=(0,0)) r1 (by rw [r2];omega) (by rw [UE,hb1];exact dQ _) (fun _ _=>by simp) (by rw [r2];exact hbz) (by omega)
      rw [r2] at this;exact ⟨_,_,G,pt,.inl hrun,this⟩
    ·cases h
   ·cases h
  ·cases h
 ·cases h
theorem PU (HP:mG P E) {T:Nat} (h:mK E T=true):∃ e,P.underlying T=some (.slice e)∧P.underlying e=some (.int .u8):=by
 unfold mK at h;split at h
 ·rename_i i hi
  split at h
  ·rename_i e hd
   split at h
   ·rename_i ei uF
    split at h
    ·rename_i hde
     exact ⟨e,by rw [(HP.ti _ _ hi).und,hd],by rw [(HP.ti _ _ uF).und,hde]⟩
    ·cases h
   ·cases h
  ·cases h
 ·cases h
theorem sK:∀ (l:List Int),(∀ x∈l,0≤x∧x≤255)→d9 (strOfNums l)=l:=by
 intro l hl
 have e:d9 (strOfNums l)=(l.map fun n=>((UInt8.ofNat n.toNat).toNat:Int)):=by
  simp [d9,strOfNums,Function.comp_def]
 rw [e]
 have:∀ x∈l,((UInt8.ofNat x.toNat).toNat:Int)=x:=fun x hx=>by
  have:=hl x hx;rw [UInt8.toNat_ofNat'];omega
 rw [List.map_congr_left this];simp
theorem I8 {c:(t:Ty)×List t.den} {lb:List Int} (h:DR c=some lb):c=⟨.int .u8,lb⟩:=by
 unfold DR at h;split at h
 ·simp only [bq] at h
  subst h;rfl
 ·cases h
theorem UF (HP:mG P E) (R:Rel E C s a w G pt) (ho:∀ t,o.dst=some t→t<E.n) (src dst:Nat) (x:Operand) (hop:o.op = .convert src dst x)
 (h:Cq E o s src dst x=some (true,u)):fC P E C o a w (aA u s):=by
 have hx:=aV R x;simp only [Cq] at h;split at h
 ·rename_i ia ib ha hb
  have hua:=(HP.ti _ _ ha).und;have hub:=(HP.ti _ _ hb).und;split at h
  ·rename_i k' k k'' n d1 d2 h1
   rw [h1] at hx;rw [d1] at hua;rw [d2] at hub;obtain ⟨hx,_⟩:=hx;simp only [bq,eX,true_and] at h;subst h
   exact pure_ok R ho (v:=.int k (k.wrap n)) (by simp [execOp,hop,convert,run_underlying hua,run_underlying hub,hx,Conv.intToInt]) ⟨rfl,iK _ _⟩ (fun _=>rfl)
  ·rename_i l d1 d2 h1
   rw [h1] at hx;rw [d1] at hua;rw [d2] at hub;obtain ⟨b,hx,hl⟩:=hx;simp only [bq,eX,true_and] at h;subst h
   exact pure_ok R ho (v:=.string b) (by simp [execOp,hop,convert,run_underlying hua,run_underlying hub,hx]) ⟨b,rfl,hl⟩ (fun _=>rfl)
  ·rename_i e l d1 d2 h1
   rw [h1] at hx;rw [d1] at hua;obtain ⟨b,hx,hl,hbd⟩:=hx
   cases hbt:mK E dst with
   | false=>simp [hbt] at h
   | true=>
    simp only [hbt,aQ,bq,eX] at h;obtain ⟨hle,rfl⟩:=h;have hle:=Nat.le_of_ble_eq_true hle;obtain ⟨e',g1,g2⟩:=PU HP hbt
    have hrun:(execOp a.eval o).run P w = .ok (.value (.slice (some ⟨w.heap.size,0,none⟩) b.size (grownCap w b.size 0 e')))
     (w.drew.alloc (.cells (bytesRow b (grownCap w b.size 0 e')) e' ((bytesRow b (grownCap w b.size 0 e')).size,(bytesRow b (grownCap w b.size 0 e')).size+1))):=by
     have:=run_bytes_of_string (P:=P) w src dst e' b hua g1 g2;simp [execOp,hop,hx,this]
    have hcap:=grownCap_ge w b.size 0 e';generalize grownCap w b.size 0 e' = c at *
    have hbs:(bytesRow b c).size=c:=by simp [bytesRow];omega
    have hsz:l.length=b.size:=by rw [←hl];exact jR b
    have hre:fJ (w.drew.alloc (.cells (bytesRow b c) e' ((bytesRow b c).size,(bytesRow b c).size+1))) G (.int .u8) l w.heap.size 0:=by
     intro i hi
     have hib:i<b.size:=by omega
     have hcell:(w.drew.alloc (.cells (bytesRow b c) e' ((bytesRow b c).size,(bytesRow b c).size+1))).cell? ⟨w.heap.size,0+i*(Ty.int .u8).nc,none⟩=(bytesRow b c)[i]?:=by
      have:=jA (w:=w.drew) (bytesRow b c) e' ((bytesRow b c).size,(bytesRow b c).size+1) i
      rw [show 0+i*(Ty.int .u8).nc=i by simp [Ty.nc]]
      exact this
     simp only [dK];rw [hcell]
     have Zt:l[i]=(b.data[i]'(by simpa using hib)).toNat:=by
      have:l[i]=(d9 b)[i]'(by rw [hl];exact hi):=by simp [hl]
      rw [this];simp [d9]
     refine ⟨?_,?_⟩
     ·rw [Zt]
      simp only [bytesRow]
      rw [Array.getElem?_append_left (by simpa using hib)]
      have hd2:i<b.data.size:=by simpa using hib
      simp only [Array.getElem?_map,Array.getElem?_eq_getElem hd2,Option.map_some]
     ·rw [Zt]
      have:=(b.data[i]'(by simpa using hib)).toNat_lt
      unfold IntKind.has;simp [IntKind.min,IntKind.max,IntKind.bits,IntKind.signed];omega
    have R':=R.drew (w':=w.drew) rfl rfl rfl rfl
    have:=R'.newRow o ho (c:=c) (cells:=bytesRow b c) (e:=e') (fr:=((bytesRow b c).size,(bytesRow b c).size+1)) hre (by omega) (by rw [hbs];simp [Ty.nc]) (fun o ho'=>by simp;omega) (by simp [Ty.pV,IntKind.bits];omega) (by simp [Ty.nc])
    rw [hsz] at this;exact ⟨_,_,G,pt,.inl hrun,this⟩
  ·rename_i e d1 d2 h1
   rw [h1] at hx;have hv:a.eval x = .slice none 0 0:=hx;rw [d2] at hub
   cases hbt:mK E src with
   | false=>simp [hbt] at h
   | true=>
    simp only [hbt,aQ,bq,eX,true_and] at h;subst h;obtain ⟨e',g1,g2⟩:=PU HP hbt;have:=run_convert_bytes_nil (P:=P) w src e' g1 g2 0 0 dst hub
    exact pure_ok R ho (v:=.string ByteArray.empty) (by simp [execOp,hop,hv,this]) ⟨_,rfl,rfl,by simp⟩ (fun _=>rfl)
  ·rename_i e _ d1 d2 _
   rw [d2] at hub
   cases hbt:mK E src with
   | false=>simp [hbt] at h
   | true=>
    simp only [hbt,aQ] at h;obtain ⟨e',g1,g2⟩:=PU HP hbt;split at h
    ·rename_i c hc
     split at h
     ·rename_i l hlb
      simp only [bq,eX,true_and] at h;subst h;rw [I8 hlb] at hc;obtain ⟨ad,n,c,hv,hn,hbd,hnc,hel⟩:=qo R hx hc
      ·skip
       have hlen:l.length≤jo:=by
        have:n≤big:=by simpa [Ty.pV,IntKind.bits] using hbd
        unfold big at this;unfold jo;omega
       rcases hel with hel | ⟨b,off,had,hE⟩
       ·subst hel
        subst hn
        have hrun:(execOp a.eval o).run P w = .ok (.value (.string ByteArray.empty)) w:=by
         cases ad with
         | none=>
          have:=run_convert_bytes_nil (P:=P) w src e' g1 g2 0 c dst hub;simp [execOp,hop,hv,this]
         | some ad=>
          have h1:=run_convert_bytes_string (P:=P) w src dst e' (some ad) 0 c g1 g2 hub
          have h2:=run_bytesToString (P:=P) w ad 0 c [] (by simp [loadCells,loadCellsFrom])
          simp only [List.length_nil] at hv;simp [execOp,hop,hv,h1,h2]
        exact pure_ok R ho hrun ⟨_,rfl,rfl,by simp⟩ (fun _=>rfl)
       ·subst had
        have hcell:∀ i,i<n→w.cell? ⟨b,off+i,none⟩=some (.int .u8 (l.getD i 0)):=by
         intro i hi
         have hil:i<l.length:=by omega
         have:=hE i hil;simp only [dK,Ty.nc,Nat.mul_one] at this;rw [this.1];simp [hil]
        have hr:=run_convert_bytes_arg (P:=P) w src e' g1 g2 b off n c l hn.symm hcell dst hub
        have hrange:∀ y∈l,0≤y∧y≤255:=by
         intro y hy;obtain ⟨i,hi,rfl⟩:=List.getElem_of_mem hy;have:=hE i hi;simp only [dK] at this;have h2:=this.2;unfold IntKind.has at h2
         simpa [IntKind.min,IntKind.max,IntKind.bits,IntKind.signed] using h2
        exact pure_ok R ho (v:=.string (strOfNums l)) (by simp [execOp,hop,hv,hr]) ⟨_,rfl,sK l hrange,hlen⟩ (fun _=>rfl)
     ·cases h
    ·cases h
  ·cases h
 ·cases h
theorem PV (HP:mG P E) (R:Rel E C s a w G pt) (ho:∀ t,o.dst=some t→t<E.n) (T:Nat) (x:Operand) (f:Nat) (hop:o.op = .field T x f)
 (h:wJ E o s T x f=some (true,u)):fC P E C o a w (aA u s):=by
 simp only [wJ] at h;split at h
 ·rename_i i hi
  have hu:=(HP.ti _ _ hi).und;split at h
  ·rename_i fs hd
   rw [hd] at hu;split at h
   ·rename_i fd hfd
    split at h
    ·rename_i fi cs hfi h1
     have hT:=HP.ti _ _ hfi;obtain ⟨pi,z,p1,p2,_⟩:=hT.info
     cases hb:Nat.beq ((cs.drop fd.offset).take fi.size).length fi.size with
     | false=>simp only [hb,bU,reduceCtorEq] at h
     | true=>
      simp only [hb,aQ] at h;have hln:=dM hb;split at h
      ·rename_i d hmk
       simp only [bq,eX,true_and] at h;subst h
       obtain ⟨G',e,R1,hv1,hv2,_⟩:=R.zX x (by rw [h1];rfl)
       rw [h1] at hv1;obtain ⟨arr,hv,hsz,hr⟩:=hv1;have hlm:(cs.map dw).length=cs.length:=List.length_map ..
       have hsub:aR w G' pt (((cs.drop fd.offset).take fi.size).map dw) (fun j=>aS arr (fd.offset+j)):=by
        have:=(hr.drop fd.offset).take fi.size
        simpa [List.map_drop,List.map_take] using this
       obtain ⟨q1,q2⟩:=jS (n:=fi.size) hmk (by rw [List.length_map];exact hln) hsub
       have ane:fs[f]? = some fd:=by simpa using hfd
       have hrun:(execOp a.eval o).run P w = .ok (.value (F3 fi.agg fi.size fun j=>aS arr (fd.offset+j))) w:=by
        have hpart:(part fd.type arr fd.offset).run P w = .ok (F3 fi.agg fi.size fun j=>aS arr (fd.offset+j)) w:=by
         cases hag:fi.agg with
         | true=>
          have h2:jr fi.desc=true:=by rw [←hT.agg];exact hag
          rw [ql hT.und h2 (by rw [p1];rfl)]
          simp only [F3,aQ]
          congr 2
          have hcs:P.cellsOf fd.type=fi.size:=by simp [Program.cellsOf,p1,p2]
          rw [hcs];apply Array.ext
          ·simp at hln ⊢;omega
          ·intro j hj1 hj2
           have hj:fd.offset+j<arr.size:=by simp at hj1;omega
           simp [aS,sJ,hj]
         | false=>
          have h2:jr fi.desc=false:=by rw [←hT.agg];exact hag
          have h3:=hT.one hag
          have hlt:fd.offset<arr.size:=by simp at hln;omega
          rw [nV hT.und h2 arr fd.offset hlt];simp [F3]
        simp [execOp,hop,Instr.field,run_underlying hu,ane,hv,asAgg,hpart]
       rw [aU]
       exact ⟨_,w,G',pt,.inl hrun,R1.zU o ho q1 (fun b=>by rw [q2];exact iN nS b _ _)⟩
      ·cases h
    ·cases h
   ·cases h
  ·cases h
 ·cases h
theorem jB:∀ (vs:List Value) (w:World) (b off:Nat),(∀ b',b'≠b→(w.setCells b off vs).heap[b']? = w.heap[b']?) ∧
 (∀ cur e fr,w.heap[b]? = some (.cells cur e fr)→∃ cur',(w.setCells b off vs).heap[b]? = some (.cells cur' e fr)∧cur'.size=cur.size) ∧
 (w.setCells b off vs).heap.size=w.heap.size∧(w.setCells b off vs).os=w.os∧(w.setCells b off vs).output=w.output∧(w.setCells b off vs).tape=w.tape
 | [],w,b,off=>⟨fun _ _=>rfl,fun cur e fr h=>⟨cur,h,rfl⟩,rfl,rfl,rfl,rfl⟩
 | v::r,w,b,off=>by
  obtain ⟨h1,h2,h3,h4,h5,h6⟩:=jB r (w.setCell ⟨b,off,none⟩ v) b (off+1)
  refine ⟨fun b' hb=>?_,fun cur e fr h=>?_,?_,h4,h5,h6⟩
  ·rw [World.setCells,h1 b' hb]
   simp only [World.setCell,Array.getElem?_modify];rw [if_neg (Ne.symm hb)]
  ·obtain ⟨cur',q1,q2⟩:=h2 (cur.setIfInBounds off v) e fr (by
    simp only [World.setCell,Array.getElem?_modify,if_true,h,Option.map_some]
    simp)
   exact ⟨cur',by rw [World.setCells];exact q1,by rw [q2];simp⟩
  ·rw [World.setCells,h3];simp
theorem Room.set {b k:Nat} (h:Room w b k) (b' off:Nat) (vs:List Value):Room (w.setCells b' off vs) b k:=by
 obtain ⟨cur,e,fr,h1,h2,h3⟩:=h;obtain ⟨q1,q2,_⟩:=jB vs w b' off
 by_cases hb:b=b'
 ·subst hb
  obtain ⟨cur',r1,r2⟩:=q2 cur e fr h1
  exact ⟨cur',e,fr,r1,by omega,by rw [r2];exact h3⟩
 ·exact ⟨cur,e,fr,by rw [q1 b hb];exact h1,h2,h3⟩
theorem Room.some {b k:Nat} (h:Room w b k) {j:Nat} (hj:j<k):(w.cell? ⟨b,j,none⟩).isSome=true∧w.frozen? ⟨b,j,none⟩=false:=by
 obtain ⟨cur,e,fr,h1,h2,h3⟩:=h
 have hlt:j<cur.size:=by omega
 refine ⟨by simp [World.cell?,h1,hlt],?_⟩
 have:=h3 j hlt;simp only [World.frozen?,h1];obtain ⟨lo,hi⟩:=fr;simp only at this ⊢;rw [Bool.and_eq_false_iff,decide_eq_false_iff_not,decide_eq_false_iff_not];omega
theorem wO {b k off:Nat} (h:Room w b k) (vs:List Value) (hk:off+vs.length≤k) {j:Nat} (hj:j<vs.length):(w.setCells b off vs).cell? ⟨b,off+j,none⟩=some vs[j]:=
 World.cell?_setCells_in b vs off w (fun i hi=>(h.some (by omega)).1) j hj
theorem lD (b off:Nat) (vs:List Value) {b' j:Nat} (h:b' = b→j<off∨off+vs.length≤j):(w.setCells b off vs).cell? ⟨b',j,none⟩=w.cell? ⟨b',j,none⟩:=
 World.cell?_setCells_out b vs off w ⟨b',j,none⟩ (fun h1 _=>h h1)
theorem x9 {T:TypeId} {i:TI} (hT:Po P T i) {b off k:Nat} {v:Value} (hr:Room w b k) (hk:off+v.cells.size≤k) (hs:v.cells.size=i.size) (h1:∀ j,j<v.cells.size→(aS v.cells j).oneCell' = true) :
 (Instr.storeAt T (.pointer (some ⟨b,off,none⟩)) v).run P w = .ok () (w.setCells b off v.cells.toList):=by
 obtain ⟨pi,z,p1,p2,_⟩:=hT.info
 have hst:=run_storeCells_cells (P:=P) b off v.cells.toList 0 w (fun j hj=>by simpa using (hr.some (j:=off+j) (by simp at hj;omega)).1) (fun j hj=>by simpa using (hr.some (j:=off+j) (by simp at hj;omega)).2)
  (fun x hx=>by
   obtain ⟨j,hj,rfl⟩:=List.getElem_of_mem hx
   have hj':j<v.cells.size:=by simpa using hj
   have:=h1 j hj'
   simpa [aS,sJ,hj'] using this)
 simp only [Nat.add_zero] at hst
 have hne:¬ (v.cells.size≠pi.size):=by omega
 simp [Instr.storeAt,Instr.sureAddr,storeVar,sizeOf,typeInfo,p1,hs,p2,hst]
theorem Rel.Ga (R:Rel E C s a w G pt) {id st blk off:Nat} {x:Operand} {dB Uo:D} {vs:List Value} {G':Nat→Nat}
 (hb:get s (2*id+1)=dB) (hid:id<C.m) (hblk:bH (pt id st)=some blk) (PW:0<cB s w pt blk id)
 (hE:Ext w G w G') (hG:∀ b,dN b (aX s x) (a.eval x)=0→G' b=G b) (hst:aO Uo=aO dB)
 (hB:nI (w.setCells blk off vs) G' pt id Uo)
 (hc:∀ b,gQ (w.setCells blk off vs) pt b id Uo≤cB s w pt b id+dN b (aX s x) (a.eval x)) (hfree:∀ b,b=blk→dN b (aX s x) (a.eval x)=0) (hG0:G blk=0)  :
 Rel E C ((2*id+1,Uo)::aA (dA s x strip dY) s) a (w.setCells blk off vs) G' pt:=by
 obtain ⟨R0,t0⟩:=R.lS x;have hgb:=lY (s:=s) x strip dY;obtain ⟨q1,q2,q3,q4,q5,q6⟩:=jB vs w blk off
 have hcB:∀ b i,cB (aA (dA s x strip dY) s) w pt b i=cB s w pt b i:=fun b i=>by simp only [cB,hgb]
 have hEw:Ext w G (w.setCells blk off vs) G':=⟨fun b j hj=>by
  refine lD blk off vs fun h=>?_
  subst h;omega,hE.le⟩
 refine R0.step (fun _=>False) (fun i=>i=id) (fun b=>b=blk∨0<dN b (aX s x) (a.eval x)) rfl R0.df (fun t _=>⟨by simp,rfl⟩) (fun i hi=>⟨by simp [hi],rfl⟩) hEw (fun _ _ _ h=>h)
  (fun b hb _=>⟨q1 b (fun h=>hb (.inl h)),hG b (by have:=fun h=>hb (.inr h);omega)⟩) (fun b hb t _=>?_) (fun b hb i hi=>?_) (fun b hb=>?_) (fun t h=>h.elim) (fun i hi=>?_) (fun c1 c2 b=>?_)
  (fun b hb=>?_) q4 q5 q6 (by rw [q3];exact dQ _)
 ·rcases hb with hb | hb
  ·subst hb;exact R0.bt (by rw [hcB];exact PW) t
  ·have:=R0.mM b t;have:=t0 b;have:=R.ct b;omega
 ·rcases hb with hb | hb
  ·subst hb;exact R0.bb (by rw [hcB];exact PW) hi
  ·have:=R0.iT b i;have:=t0 b;have:=R.ct b;omega
 ·rcases hb with hb | hb
  ·subst hb;exact (R.cb b (nG PW (R.iT b id))).2
  ·exact (R.held x hb).2
 ·subst hi
  refine ⟨hid,by simpa using hB,fun j hj=>?_⟩
  simp only [bA,if_true] at hj
  exact R.pf i j (by rw [hb];omega)
 ·have e1:=aM (n:=E.n) (f:=cT (aA (dA s x strip dY) s) a b) (g:=cT ((2*id+1,Uo)::aA (dA s x strip dY) s) a b) (fun i _=>(c1 i (fun h=>h) b).symm)
  have e2:=dH (n:=C.m) (f:=cB (aA (dA s x strip dY) s) w pt b) (g:=cB ((2*id+1,Uo)::aA (dA s x strip dY) s) (w.setCells blk off vs) pt b) hid (fun i hi=>c2 i hi b)
  have e3:cB ((2*id+1,Uo)::aA (dA s x strip dY) s) (w.setCells blk off vs) pt b id=gQ (w.setCells blk off vs) pt b id Uo:=by simp only [cB,bA,if_true]
  have e4:=hcB b id;have h1:=t0 b;have h2:=R.ct b;have h3:=R.cb b;have h4:=hc b;rw [q3];unfold TC at *
  exact ⟨by omega,fun h=>h3 (by omega)⟩
 ·rw [q3] at hb
  rw [hG b ?_];exact R.gz b hb
  rcases Nat.eq_zero_or_pos (dN b (aX s x) (a.eval x)) with h | h
  ·exact h
  ·have:=(R.held x h).1;omega
theorem Rel.uT (R:Rel E C s a w G pt) {id st blk off:Nat} {ar:Bool} {t:Ty} {l l':List t.den} {vs:List Value}
 (hb:get s (2*id+1) = .aW st true ar t l) (hblk:bH (pt id st)=some blk) (hl:l'.length=l.length) (hE:fJ (w.setCells blk off vs) G t l' blk 0) :
 Rel E C ((2*id+1,.aW st true ar t l')::s) a (w.setCells blk off vs) G pt:=by
 obtain ⟨g1,g2,g3⟩:=kQ R hb hblk;have hB:=R.bx id;rw [hb] at hB;have hB:=hB rfl
 have:=R.Ga (x:=.func 0) (off:=off) (vs:=vs) (G':=G) (Uo:=.aW st true ar t l') hb (gB R (id:=id) (by rw [hb];simp)) hblk
  (by simp only [cB,hb,gQ,dx,hblk,if_true];omega) (Ext.refl _ _) (fun _ _=>rfl) rfl
  (fun _=>by
   cases ar with
   | true=>
    simp only [if_true] at hB ⊢;obtain ⟨b,h1,h2,h3,h4⟩:=hB
    have:b=blk:=by rw [h1] at hblk;simpa [bH] using hblk
    subst this
    exact ⟨b,h1,by rw [hl];exact h2.set _ _ _,h3,hE⟩
   | false=>
    simp only [sI,if_false] at hB ⊢;obtain ⟨ad,n,c,h1,h2,h3,h4⟩:=hB
    refine ⟨ad,n,c,h1,by omega,h3,?_⟩
    rcases h4 with ⟨h5,_⟩ | ⟨b,h5,h6,h7,h8,h9,h10⟩
    ·subst h5;rw [h1] at hblk;simp [bH] at hblk
    ·subst h5
     have:b=blk:=by rw [h1] at hblk;simpa [bH] using hblk
     subst this
     exact .inr ⟨b,rfl,h6,h7.set _ _ _,by omega,hE,h10⟩)
  (fun b=>by simp only [cB,hb,gQ];omega) (fun b _=>rfl) g3
 exact this
theorem yR:∀ (t:Ty) {ds:List D} {x:t.den} {r:List D},dec t ds=some (x,r)→ds.length=t.nc+r.length
 | .int k,ds,x,r,h=>by
  cases ds with
  | nil=>simp [dec] at h
  | cons d ds=>
   cases d<;>simp only [dec] at h<;>try (cases h;done)
   rename_i k' n
   cases hk:jm k k' with
   | false=>simp [hk] at h
   | true=>simp [hk] at h;obtain ⟨rfl,rfl⟩:=h;simp [Ty.nc];omega
 | .bool,ds,x,r,h=>by
  cases ds with
  | nil=>simp [dec] at h
  | cons d ds=>cases d<;>simp [dec] at h;obtain ⟨rfl,rfl⟩:=h;simp [Ty.nc];omega
 | .str,ds,x,r,h=>by
  cases ds with
  | nil=>simp [dec] at h
  | cons d ds=>cases d<;>simp [dec] at h;obtain ⟨rfl,rfl⟩:=h;simp [Ty.nc];omega
 | .sl t,ds,x,r,h=>by
  cases ds with
  | nil=>simp [dec] at h
  | cons d ds=>
   cases d with
   | jK=>simp [dec] at h;obtain ⟨rfl,rfl⟩:=h;simp [Ty.nc];omega
   | sl f t' l=>
    simp only [dec] at h;split at h
    ·simp only [bq,eX] at h
     obtain ⟨_,rfl⟩:=h;simp [Ty.nc];omega
    ·cases h
   | _=>simp [dec] at h
 | .gM f0 t,ds,x,r,h=>by
  cases ds with
  | nil=>simp [dec] at h
  | cons d ds=>
   cases d with
   | gM f' t' y=>
    simp only [dec] at h;split at h
    ·simp only [bq,eX] at h
     obtain ⟨_,rfl⟩:=h;simp [Ty.nc];omega
    ·cases h
   | _=>simp [dec] at h
 | .unit,ds,x,r,h=>by simp [dec] at h;subst h;simp [Ty.nc]
 | .cons a b,ds,x,r,h=>by
  simp only [dec] at h;split at h
  ·rename_i y r' h1
   split at h
   ·rename_i z r'' h2
    simp only [bq,eX] at h;obtain ⟨_,rfl⟩:=h;have:=yR a h1;have:=yR b h2;simp only [Ty.nc];omega
   ·cases h
  ·cases h
 | .st _ c,ds,x,r,h=>yR c h
theorem MZ (d:D):(leaves (view d)).length=(leaves d).length:=by cases d<;>simp [view,leaves,dw]
theorem I9 (HP:mG P E) (R:Rel E C s a w G pt) (hdst:o.dst=none) (T:Nat) (x y:Operand) (hop:o.op = .store T x y) {k:IntKind} {l':List Int} (hy:aX s y = .av k l')
 (h:nL E s T x k l' = some (true,u)):fC P E C o a w (aA u s):=by
 have hrx:=aV R x;have hry:=aV R y;rw [hy] at hry;obtain ⟨arr,hv2,hsz,hr⟩:=hry;simp only [nL] at h;split at h
 ·rename_i i hi
  have hT:=HP.ti _ _ hi;split at h
  ·rename_i id st off hx
   rw [hx] at hrx;obtain ⟨blk,hblk,hv⟩:=hrx;split at h
   ·rename_i st' k' l hbx
    cases hb:(Nat.beq st st' && Nat.beq off 0&&i.agg&&jm k k') with
    | false=>simp only [hb,bU,reduceCtorEq] at h
    | true=>
     simp only [hb,aQ,bq,eX,bP] at h;simp only [bP] at hb;obtain ⟨⟨⟨hb1,hb2⟩,hb3⟩,hb4⟩:=hb;have hst:=dM hb1;have hoff:=dM hb2;have hk:=fq hb4;subst hst;subst hoff;subst hk;obtain ⟨⟨hln,aax⟩,rfl⟩:=h;have hln:=dM hln;have aax:=dM aax;rw [KC aax];obtain ⟨g1,g2,g3⟩:=kQ R hbx hblk
     have hcs:(a.eval y).cells=arr:=by rw [hv2];rfl
     have hlen:arr.size=l.length:=by omega
     have hrun:(execOp a.eval o).run P w = .ok .skip (w.setCells blk 0 arr.toList):=by
      have:=x9 (v:=a.eval y) hT g2 (off:=0) (by rw [hcs];simp only [Ty.nc];omega) (by rw [hcs];omega) (fun j hj=>by
       rw [hcs] at hj ⊢
       have:=(hr j (by omega)).1
       show (arr.getD j undef).oneCell' = true
       rw [this];rfl)
      simp [execOp,hop,hv,this,hcs]
     have hE:fJ (w.setCells blk 0 arr.toList) G (.int k) l' blk 0:=by
      intro j hj
      have hj':j<arr.toList.length:=by simp;omega
      have h1:=wO (off:=0) g2 arr.toList (by simp [Ty.nc];omega) hj'
      obtain ⟨e1,e2⟩:=hr j hj
      have e3:arr.toList[j] = .int k l'[j]:=by
       rw [←e1];simp [show j<arr.size by omega]
      rw [e3] at h1;refine ⟨?_,e2⟩
      rw [show 0+j*(Ty.int k).nc=0+j by simp [Ty.nc]]
      exact h1
     exact ⟨_,_,G,pt,.inr ⟨hrun,rfl⟩,by rw [hdst];exact R.uT hbx hblk (by omega) hE⟩
   ·cases h
  ·cases h
 ·cases h
theorem M0 (HP:mG P E) (R:Rel E C s a w G pt) (hdst:o.dst=none) (T:Nat) (x y:Operand) (hop:o.op = .store T x y)
 (h:mJ E o s T x y=some (true,u)):fC P E C o a w (aA u s):=by
 have hrx:=aV R x;simp only [mJ] at h;split at h
 ·rename_i i hi
  have hT:=HP.ti _ _ hi
  cases hD:gJ (cZ i.ty (aX s y)) with
  | false=>simp [hD] at h
  | true=>
   simp only [hD,aQ] at h;obtain ⟨q1,q2⟩:=tC (t:=i.ty) (aV R y)
   have hnt:fu (cZ i.ty (aX s y))=false:=by cases hd:cZ i.ty (aX s y)<;>rw [hd] at hD<;>first | rfl | (simp [gJ] at hD)
   obtain ⟨l1,l2,l3⟩:=lX q1 hD
   have hc1:∀ b,dN b (aX s y) (a.eval y)≤1:=fun b=>by have:=(R.lS y).2 b;have:=R.ct b;omega
   have hone:∀ j,j<(a.eval y).cells.size→(aS (a.eval y).cells j).oneCell' = true:=fun j hj=>(l1 j (by omega)).2
   have run:∀ (b off k:Nat),Room w b k→off+(a.eval y).cells.size≤k→(a.eval y).cells.size=i.size→a.eval x = .pointer (some ⟨b,off,none⟩) →
    (execOp a.eval o).run P w = .ok .skip (w.setCells b off (a.eval y).cells.toList):=by
    intro b off k h1 h2 h3 h4;have:=x9 hT h1 h2 h3 hone;simp [execOp,hop,h4,this]
   -- the two ways to hand the leaves on
   have two:∀ keep:Bool,∃ G',Ext w G w G'∧(∀ b,dN b (aX s y) (a.eval y)=0→G' b=G b) ∧
    aR w G' pt (bif keep then leaves (cZ i.ty (aX s y)) else (leaves (cZ i.ty (aX s y))).map bV) (aS (a.eval y).cells) ∧
    (bif keep then leaves (cZ i.ty (aX s y)) else (leaves (cZ i.ty (aX s y))).map bV).length=(a.eval y).cells.size ∧
    ∀ b,aP b (bif keep then leaves (cZ i.ty (aX s y)) else (leaves (cZ i.ty (aX s y))).map bV) (aS (a.eval y).cells)=dN b (aX s y) (a.eval y):=by
    intro keep
    cases keep with
    | true=>exact ⟨G,Ext.refl _ _,fun _ _=>rfl,l1,l2.symm,fun b=>by simp only [aQ];rw [l3,q2]⟩
    | false=>
     obtain ⟨e',hsh⟩:=l1.share (fun b=>by rw [l3,q2];exact hc1 b)
     exact ⟨_,e',fun b hb=>gT (by rw [l3,q2];exact hb),hsh,by simp only [bU,List.length_map];exact l2.symm,fun b=>by simp only [bU];rw [lQ,l3,q2]⟩
   have Zu:∃ G',Ext w G w G'∧Rel E C (aA (dA s y share ko) s) a w G' pt∧aR w G' pt ((leaves (view (cZ i.ty (aX s y)))).map dw) (aS (a.eval y).cells) ∧
    (leaves (view (cZ i.ty (aX s y)))).length=(a.eval y).cells.size:=by
    obtain ⟨G',e',R1,hv1,hv2,_⟩:=R.zX y (zY hnt)
    have hvr:bg w G' pt (view (cZ i.ty (aX s y))) (a.eval y):=by
     cases hd:aX s y with
     | jK=>
      rw [hd] at hv1;have hv:a.eval y = .slice none 0 0:=hv1;rw [hv]
      cases ht:i.ty<;>first | rfl | skip
      exact ⟨none,0,0,rfl,rfl,by simp,by simp,.inl rfl⟩
     | _=>rw [hd] at hv1;exact hv1
    have hdv:gJ (view (cZ i.ty (aX s y)))=true:=by cases hd:cZ i.ty (aX s y)<;>rw [hd] at hD<;>first | rfl | exact hD
    obtain ⟨k1,k2,k3⟩:=lX hvr hdv
    exact ⟨G',e',R1,k1.view0 (fun b=>by rw [k3];exact nT _ _ _ hnt),k2.symm⟩
   split at h
   ·rename_i id st off hx
    rw [hx] at hrx;obtain ⟨blk,hblk,hv⟩:=hrx;split at h
    ·rename_i st' cs hbx
     simp only [IX] at h;obtain ⟨G',e',hG',hr',hl',MW⟩:=two (FR E y)
     generalize (bif FR E y then leaves (cZ i.ty (aX s y)) else (leaves (cZ i.ty (aX s y))).map bV)=ds at h hr' hl' MW
     cases hb:(Nat.beq st st' && Nat.beq ds.length i.size&&Nat.ble (off+i.size) cs.length) with
     | false=>simp only [hb,bU,reduceCtorEq] at h
     | true=>
      simp only [hb,aQ,bq,eX,true_and] at h;subst h;simp only [bP] at hb;obtain ⟨⟨hb1,hb2⟩,hb3⟩:=hb;have hst:=dM hb1;subst hst;have hb2:=dM hb2;have hb3:=Nat.le_of_ble_eq_true hb3;have hB:=R.bx id;rw [hbx] at hB;obtain ⟨bT,g1,g2,g3,g4⟩:=hB rfl
      have hbb:bT=blk:=by rw [g1] at hblk;simpa [bH] using hblk
      subst hbb
      have hrun:=run bT off cs.length g2 (by omega) (by omega) hv
      have hcb:∀ b,cB s w pt b id=dx b (pt id st)+aP b cs (aD w bT):=fun b=>by simp only [cB,hbx,gQ,hblk,Option.getD_some]
      have hib:dx bT (pt id st)=1:=by simp [dx,hblk]
      have hvs:(a.eval y).cells.toList.length=ds.length:=by simp;omega
      have hin:∀ j,j<ds.length→aD (w.setCells bT off (a.eval y).cells.toList) bT (off+j)=aS (a.eval y).cells j:=by
       intro j hj
       have hj2:j<(a.eval y).cells.toList.length:=by omega
       simp only [aD]
       rw [wO g2 _ (by omega) hj2]
       have hj3:j<(a.eval y).cells.size:=by simpa using hj2
       simp [aS,sJ,hj3]
      have hout:∀ j,(j<off∨off+ds.length≤j)→aD (w.setCells bT off (a.eval y).cells.toList) bT j=aD w bT j:=by
       intro j hj;simp only [aD]
       rw [lD bT off _ (fun _=>by omega)]
      have hln:off+ds.length≤cs.length:=by omega
      have hfree:dN bT (aX s y) (a.eval y)=0:=by
       have h1:=(R.lS y).2 bT;have h2:=R.ct bT;have h3:=(R.lS y).1.iT bT id
       have h4:cB (aA (dA s y strip dY) s) w pt bT id=cB s w pt bT id:=by simp only [cB,lY]
       have h5:=hcb bT;omega
      have anf:∀ b,aP b (dL cs off ds) (aD (w.setCells bT off (a.eval y).cells.toList) bT)≤aP b cs (aD w bT)+dN b (aX s y) (a.eval y):=by
       intro b
       have hlt:(cs.take off).length=off:=by simp;omega
       have h1:cs=cs.take off++((cs.drop off).take ds.length++cs.drop (off+ds.length)):=by
        rw [←List.drop_drop,List.take_append_drop,List.take_append_drop]
       have hlm:((cs.drop off).take ds.length).length=ds.length:=by simp;omega
       have a1:aP b cs (aD w bT)=aP b (cs.take off) (aD w bT)+(aP b ((cs.drop off).take ds.length) (fun j=>aD w bT (off+j))+aP b (cs.drop (off+ds.length)) (fun j=>aD w bT (off+(ds.length+j)))):=by
        conv=>lhs;rw [h1]
        rw [fZ,fZ,hlt,hlm]
       simp only [dL,fZ,hlt]
       have b1:aP b (cs.take off) (aD (w.setCells bT off (a.eval y).cells.toList) bT)=aP b (cs.take off) (aD w bT):=gX fun k hk=>hout k (by omega)
       have b2:aP b ds (fun j=>aD (w.setCells bT off (a.eval y).cells.toList) bT (off+j))=dN b (aX s y) (a.eval y):=by
        rw [←MW b];exact gX fun k hk=>hin k hk
       have b3:aP b (cs.drop (off+ds.length)) (fun j=>aD (w.setCells bT off (a.eval y).cells.toList) bT (off+(ds.length+j)))=aP b (cs.drop (off+ds.length)) (fun j=>aD w bT (off+(ds.length+j))):=gX fun k hk=>hout _ (by omega)
       omega
      have Ux:Ext w G (w.setCells bT off (a.eval y).cells.toList) G':=⟨fun b j hj=>lD bT off _ (fun h=>by subst h;omega),e'.le⟩
      obtain ⟨sh1,sh2,sh3,_⟩:=jB (a.eval y).cells.toList w bT off
      have ang:G' bT=0:=by rw [hG' bT hfree];exact g3
      have key:=R.Ga (x:=y) (off:=off) (vs:=(a.eval y).cells.toList) (G':=G') (Uo:=.aI st true (dL cs off ds)) hbx (gB R (id:=id) (by rw [hbx];simp)) hblk (by rw [hcb,hib];omega) e' hG' rfl
       (fun _=>⟨bT,g1,by rw [fP hln];exact g2.set _ _ _,ang,fun j hj=>by
        obtain ⟨t1,t2⟩:=nY hln hj
        by_cases hi2:off≤j∧j<off+ds.length
        ·have hin':=hin (j - off) (by omega)
         rw [show off+(j - off)=j by omega] at hin'
         rw [t1 hi2 (by omega),hin']
         have:=hr' (j - off) (by omega)
         refine ⟨this.1.mono ⟨fun b k hk=>lD bT off _ (fun h=>by subst h;omega),fun _=>dQ _⟩ (fun _ _ _ h=>h) fun b hb=>⟨sh1 b (fun h=>?_),rfl⟩,this.2⟩
         subst h
         have h1:=jy (b:=b) (ds:=ds) (f:=aS (a.eval y).cells) (j - off) (by omega)
         have h2:=MW b;omega
        ·have hjc:j<cs.length:=by rw [fP hln] at hj;exact hj
         rw [t2 hi2 hjc,hout j (by omega)]
         refine ⟨(g4 j hjc).1.mono Ux (fun _ _ _ h=>h) fun b hb=>⟨sh1 b (fun h=>?_),hG' b ?_⟩,(g4 j hjc).2⟩
         ·subst h
          have h1:=jy (b:=b) (ds:=cs) (f:=aD w b) j hjc;have h2:=hcb b;have h3:=R.iT b id;have h4:=R.ct b;omega
         ·have h1:=jy (b:=b) (ds:=cs) (f:=aD w bT) j hjc
          have h2:=hcb b;have h3:=(R.lS y).2 b;have h4:=(R.lS y).1.iT b id
          have h5:cB (aA (dA s y strip dY) s) w pt b id=cB s w pt b id:=by simp only [cB,lY]
          have h6:=R.ct b
          omega⟩)
       (fun b=>by
        simp only [gQ,hblk,Option.getD_some];rw [hcb];have:=anf b
        omega)
       (fun b hb=>by subst hb;exact hfree) g3
      rw [aU]
      exact ⟨_,_,G',pt,.inr ⟨hrun,rfl⟩,by rw [hdst];exact key⟩
    ·rename_i st' t l hbx
     split at h
     ·rename_i l' hl'
      cases hb:(Nat.beq st st' && Nat.beq off 0&&i.agg&&Nat.beq t.nc 1) with
      | false=>simp only [hb,bU,reduceCtorEq] at h
      | true=>
       simp only [hb,aQ,bq,eX] at h;simp only [bP] at hb;obtain ⟨⟨⟨hb1,hb2⟩,hb3⟩,hb4⟩:=hb;have hnc:=dM hb4;have hst:=dM hb1;have hoff:=dM hb2;subst hst;subst hoff;obtain ⟨hln,rfl⟩:=h;have hln:=dM hln;obtain ⟨G',e',R1,v1,v2⟩:=Zu
       have PX:get (aA (dA s y share ko) s) (2*id+1) = .aW st true true t l:=by rw [lY];exact hbx
       obtain ⟨g1,g2,g3⟩:=kQ R1 PX hblk
       have hdl:∀ (n:Nat) (ds:List D) (l:List t.den),uK t n ds=some l→ds.length=n:=by
        intro n
        induction n with
        | zero=>intro ds l h;cases ds with
         | nil=>rfl
         | cons d ds=>simp [uK] at h
        | succ n ih=>
         intro ds l h;simp only [uK] at h;split at h
         ·rename_i x r hd
          split at h
          ·rename_i l'' hl''
           have h0:=ih _ _ hl'';have h1:=yR t hd;omega
          ·cases h
         ·cases h
       have hsz:(a.eval y).cells.size=l.length:=by rw [←v2];exact hdl _ _ _ hl'
       have hrun:=run blk 0 (l.length*t.nc) g2 (by rw [hnc];omega) (by omega) hv
       have Ux:Ext w G' (w.setCells blk 0 (a.eval y).cells.toList) G':=⟨fun b j hj=>lD blk 0 _ (fun h=>by subst h;omega),fun _=>dQ _⟩
       obtain ⟨r1,r2⟩:=nZ (pt:=pt) Ux l.length (b:=blk) (o:=0) hl' v1 (fun j hj=>by
        have hj':j<(a.eval y).cells.toList.length:=by simp;rw [hnc] at hj;omega
        rw [wO g2 _ (by simp;rw [hnc];omega) hj']
        have hj3:j<(a.eval y).cells.size:=by simpa using hj'
        simp [aS,sJ,hj3])
       rw [aU]
       exact ⟨_,_,G',pt,.inr ⟨hrun,rfl⟩,by rw [hdst];exact R1.uT PX hblk r2 r1⟩
     ·cases h
    ·cases h
   ·rename_i id st i0 off es hx
    rw [hx] at hrx;obtain ⟨blk,hblk,hv⟩:=hrx;split at h
    ·rename_i st' ar t l hbx
     split at h
     ·rename_i v hd
      cases hb:(Nat.beq st st' && Nat.beq es t.nc&&Nat.beq (leaves (cZ i.ty (aX s y))).length i.size&&Nat.ble (off+i.size) t.nc) with
      | false=>simp only [hb,bU,reduceCtorEq] at h
      | true=>
       simp only [hb,aQ,bq,eX] at h;simp only [bP] at hb;obtain ⟨⟨⟨hb1,hb2⟩,hb3⟩,hb4⟩:=hb;have hst:=dM hb1;have hes:=dM hb2;have hln:=dM hb3;have hle:=Nat.le_of_ble_eq_true hb4;subst hst;subst hes;obtain ⟨hlt,rfl⟩:=h
       have hlt:i0<l.length:=by simpa [Nat.blt_eq] using hlt
       obtain ⟨G',e',R1,v1,v2⟩:=Zu
       have PX:get (aA (dA s y share ko) s) (2*id+1) = .aW st true ar t l:=by rw [lY];exact hbx
       obtain ⟨g1,g2,g3⟩:=kQ R1 PX hblk;have hvl:=MZ (cZ i.ty (aX s y))
       have hsz:(a.eval y).cells.size=i.size:=by omega
       have hmul:(i0+1)*t.nc≤l.length*t.nc:=sW _ hlt;rw [Nat.add_mul] at hmul
       have hrun:=run blk (i0*t.nc+off) (l.length*t.nc) g2 (by omega) (by omega) hv
       have e:l.getD i0 t.dflt=l[i0]:=by simp [hlt]
       rw [e] at hd
       obtain ⟨q1,q2,q3,q4⟩:=Aa (pt:=pt) (g1 i0 hlt) 0 t.nc (by omega)
       rw [show ((enc t l[i0]).drop 0).take t.nc=enc t l[i0] by rw [List.drop_zero,←jh t l[i0],List.take_length]] at q1 q4
       have hel:=jh t l[i0]
       have Ux:Ext w G' (w.setCells blk (i0*t.nc+off) (a.eval y).cells.toList) G':=⟨fun b j hj=>lD blk _ _ (fun h=>by subst h;omega),fun _=>dQ _⟩
       have hls:(a.eval y).cells.toList.length=i.size:=by simp;omega
       have inn:∀ j,j<i.size→(w.setCells blk (i0*t.nc+off) (a.eval y).cells.toList).cell? ⟨blk,i0*t.nc+off+j,none⟩=some (aS (a.eval y).cells j):=by
        intro j hj
        rw [wO g2 _ (by omega) (by omega:j<(a.eval y).cells.toList.length)]
        have hj3:j<(a.eval y).cells.size:=by omega
        simp [aS,sJ,hj3]
       have out:∀ j,(j<i0*t.nc+off∨i0*t.nc+off+i.size≤j)→(w.setCells blk (i0*t.nc+off) (a.eval y).cells.toList).cell? ⟨blk,j,none⟩=w.cell? ⟨blk,j,none⟩:=by
        intro j hj
        exact lD blk _ _ (fun _=>by omega)
       have hrl:=fP (cs:=enc t l[i0]) (ds:=leaves (view (cZ i.ty (aX s y)))) (off:=off) (by omega)
       have hrep:aR w G' pt ((dL (enc t l[i0]) off (leaves (view (cZ i.ty (aX s y))))).map dw) (fun j=>aD (w.setCells blk (i0*t.nc+off) (a.eval y).cells.toList) blk (i0*t.nc+j)):=by
        intro j hj;rw [List.length_map] at hj;rw [List.getElem_map]
        obtain ⟨t1,t2⟩:=nY (cs:=enc t l[i0]) (ds:=leaves (view (cZ i.ty (aX s y)))) (off:=off) (by omega) hj
        by_cases hi2:off≤j∧j<off+(leaves (view (cZ i.ty (aX s y)))).length
        ·rw [t1 hi2 (by omega)]
         have h1:=v1 (j - off) (by rw [List.length_map];omega)
         rw [List.getElem_map] at h1
         have h2:=inn (j - off) (by omega)
         rw [show i0*t.nc+off+(j - off)=i0*t.nc+j by omega] at h2
         simp only [aD,h2,Option.getD_some];exact h1
        ·have hjc:j<(enc t l[i0]).length:=by omega
         rw [t2 hi2 hjc];have h1:=q1 j hjc
         have h2:=out (i0*t.nc+j) (by omega)
         have h3:∀ b,eu b (enc t l[i0])[j] (aD w blk (0+i0*t.nc+0+j))=0:=fun b=>by
          have:=jy (b:=b) (ds:=enc t l[i0]) (f:=fun j=>aD w blk (0+i0*t.nc+0+j)) j hjc
          have:=q4 b;omega
         simp only [aD,h2];simp only [aD,Nat.zero_add,Nat.add_zero] at h1 h3;exact ⟨h1.1.view0 h3,h1.2⟩
       have hcell:∀ j,j<t.nc→(w.setCells blk (i0*t.nc+off) (a.eval y).cells.toList).cell? ⟨blk,i0*t.nc+j,none⟩=some (aD (w.setCells blk (i0*t.nc+off) (a.eval y).cells.toList) blk (i0*t.nc+j)):=by
        intro j hj
        exact nX (g2.set _ _ _) (by omega)
       obtain ⟨d1,_,_⟩:=uN Ux (b:=blk) (o:=i0*t.nc) hd hrep hcell
       have hRE:fJ (w.setCells blk (i0*t.nc+off) (a.eval y).cells.toList) G' t (l.set i0 v) blk 0:=by
        intro k hk
        have hk':k<l.length:=by simpa using hk
        by_cases hki:k=i0
        ·subst hki
         rw [List.getElem_set_self,Nat.zero_add];exact d1
        ·rw [List.getElem_set_ne (Ne.symm hki)]
         refine (g1 k hk').mono Ux fun j hj1 hj2=>out j ?_
         rcases Nat.lt_or_ge k i0 with h | h
         ·have:(k+1)*t.nc≤i0*t.nc:=sW _ h
          rw [Nat.add_mul] at this;omega
         ·have:(i0+1)*t.nc≤k*t.nc:=sW _ (by omega)
          rw [Nat.add_mul] at this;omega
       rw [aU]
       exact ⟨_,_,G',pt,.inr ⟨hrun,rfl⟩,by rw [hdst];exact R1.uT PX hblk (by simp) hRE⟩
     ·cases h
    ·cases h
   ·cases h
 ·cases h
theorem Gb (HP:mG P E) (R:Rel E C s a w G pt) (hdst:o.dst=none) (T:Nat) (x y:Operand) (hop:o.op = .store T x y)
 (h:qg E o s T x y=some (true,u)):fC P E C o a w (aA u s):=by
 unfold qg at h;split at h
 ·rename_i k l' hy
  exact I9 HP R hdst T x y hop hy h
 ·exact M0 HP R hdst T x y hop h
theorem fJ.cells {t:Ty} {l:List t.den} {b off:Nat} (h:fJ w G t l b off):∀ j,j<l.length*t.nc→∃ v,w.cell? ⟨b,off+j,none⟩=some v∧v.oneCell' = true:=by
 intro j hj
 have hnc:0<t.nc:=by
  rcases Nat.eq_zero_or_pos t.nc with h0 | h0
  ·rw [h0] at hj;omega
  ·exact h0
 have hi:j / t.nc<l.length:=by
  rw [Nat.div_lt_iff_lt_mul hnc];exact hj
 have hm:j%t.nc<(enc t l[j / t.nc]).length:=by rw [jh];exact Nat.mod_lt _ hnc
 obtain ⟨v,h1,h2,h3⟩:=oJ (fun _ _=>none) (h (j / t.nc) hi) (j%t.nc) hm
 have hlf:=lW t _ _ (List.getElem_mem hm);refine ⟨v,?_,h2.one hlf.1 hlf.2⟩;rw [←h1]
 congr 2
 have:=Nat.div_add_mod j t.nc;rw [Nat.mul_comm] at this;omega
theorem yS (R:Rel E C s a w G pt) {t:Ty} (y:Operand) {l':List t.den} (h:tail s t (aX s y)=some l') :
 (∀ w1,(Builtin.lenOf (a.eval y)).run P w1 = .ok l'.length w1)∧(∀ k n,a.eval y≠.int k n)∧∀ k,k≤l'.length→∃ news:List Value,(∀ w1:World,w1.heap=w.heap→(Builtin.firstCells t.nc k (a.eval y)).run P w1 = .ok news.toArray w1) ∧
  news.length=k*t.nc∧(∀ v∈news,v.oneCell' = true) ∧
  ∀ w' G' b off,Ext w G w' G'→(∀ j (h:j<news.length),w'.cell? ⟨b,off+j,none⟩=some news[j])→fJ w' G' t (l'.take k) b off:=by
 have hy:=aV R y
 have gen:∀ d,content s d=some ⟨t,l'⟩→aX s y=d→(∀ w1,(Builtin.lenOf (a.eval y)).run P w1 = .ok l'.length w1)∧(∀ k n,a.eval y≠.int k n)∧∀ k,k≤l'.length→∃ news:List Value,(∀ w1:World,w1.heap=w.heap→(Builtin.firstCells t.nc k (a.eval y)).run P w1 = .ok news.toArray w1) ∧
  news.length=k*t.nc∧(∀ v∈news,v.oneCell' = true) ∧
  ∀ w' G' b off,Ext w G w' G'→(∀ j (h:j<news.length),w'.cell? ⟨b,off+j,none⟩=some news[j])→fJ w' G' t (l'.take k) b off:=by
  intro d hc hd;rw [hd] at hy;obtain ⟨ad,n,c,hv,hn,hbd,hnc,hel⟩:=qo R hy hc
  refine ⟨fun w1=>by rw [hv];simp [Builtin.lenOf,hn],fun k n=>by rw [hv];simp,fun k hk=>?_⟩
  rcases hel with hel | ⟨b,off,had,hE⟩
  ·subst hel
   have hk0:k=0:=by simpa using hk
   subst hk0
   refine ⟨[],fun w1 _=>?_,by simp,by simp,fun _ _ _ _ _ _ i hi=>by simp at hi⟩
   rw [hv]
   cases ad with
   | none=>simp [Builtin.firstCells]
   | some ad=>exact run_firstCells_some w1 t.nc 0 ad n c [] (by simp) (by simp)
  ·subst had
   have hks:k*t.nc≤l'.length*t.nc:=sW _ hk
   have hcell:∀ j,j<k*t.nc→w.cell? ⟨b,off+j,none⟩=some (aD w b (off+j))∧(aD w b (off+j)).oneCell' = true:=by
    intro j hj
    obtain ⟨v,h1,h2⟩:=hE.cells j (by omega)
    have:aD w b (off+j)=v:=by simp [aD,h1]
    rw [this];exact ⟨h1,h2⟩
   refine ⟨(List.range (k*t.nc)).map (fun j=>aD w b (off+j)),fun w1 hw1=>?_,by simp,fun v hv=>?_,fun w' G' b' off' hE' hc'=>?_⟩
   ·rw [hv]
    refine run_firstCells_some w1 t.nc k ⟨b,off,none⟩ n c _ (by simp) fun j v hj=>?_
    have hj':j<k*t.nc:=by
     rcases Nat.lt_or_ge j (k*t.nc) with h | h
     ·exact h
     ·rw [List.getElem?_eq_none (by simpa using h)] at hj;cases hj
    rw [Addr.add_lit]
    have h1:w1.cell? ⟨b,off+j,none⟩=w.cell? ⟨b,off+j,none⟩:=by simp [World.cell?,hw1]
    rw [h1,(hcell j hj').1]
    simpa [hj'] using hj
   ·obtain ⟨j,hj,rfl⟩:=List.mem_map.1 hv
    exact (hcell j (by simpa using hj)).2
   ·intro i hi
    have hi':i<k:=by simp at hi;omega
    have hil:i<l'.length:=by omega
    have e:(l'.take k)[i]=l'[i]:=by simp
    rw [e]
    refine (hE i hil).move hE' fun j hj=>?_
    have h2:(i+1)*t.nc≤k*t.nc:=sW _ hi';rw [Nat.add_mul] at h2
    have h3:=hc' (i*t.nc+j) (by simp;omega)
    rw [←Nat.add_assoc] at h3;rw [h3,List.getElem_map,List.getElem_range,←Nat.add_assoc]
    have h4:=(hcell (i*t.nc+j) (by omega)).1
    rw [←Nat.add_assoc] at h4;exact h4.symm
 unfold tail at h;split at h
 ·rename_i hd
  simp only [bq] at h;subst h;rw [hd] at hy;have hv:a.eval y = .slice none 0 0:=hy
  refine ⟨fun w1=>by rw [hv];simp [Builtin.lenOf],fun k n=>by rw [hv];simp,fun k hk=>⟨[],fun w1 _=>by rw [hv];simp [Builtin.firstCells],by simp at hk;simp [hk],by simp,fun _ _ _ _ _ _ i hi=>by simp at hi⟩⟩
 ·rename_i l hd
  split at h
  ·simp only [bq] at h
   subst h;rw [hd] at hy;obtain ⟨sv,hv,hl,hbd⟩:=hy
   have hsz:l.length=sv.size:=by rw [←hl];exact jR sv
   refine ⟨fun w1=>by rw [hv];simp [Builtin.lenOf,hsz],fun k n=>by rw [hv];simp,fun k hk=>⟨(l.take k).map fun x=>Value.int .u8 x,fun w1 _=>?_,by simp [Ty.nc];omega,fun v hv=>?_,fun w' G' b off hE' hc' i hi=>?_⟩⟩
   ·rw [hv]
    simp only [Builtin.firstCells,Sem.run_pure]
    congr 1
    apply Array.ext';simp only [Array.toList_map,←hl,d9,List.map_take,List.map_map]
    have:(sv.extract 0 k).data.toList=sv.data.toList.take k:=by simp
    rw [this,List.map_take];rfl
   ·obtain ⟨x,_,rfl⟩:=List.mem_map.1 hv;rfl
   ·have hi':i<l.length:=by simp at hi;omega
    have hik:i<k:=by simp at hi;omega
    have h1:=hc' i (by simp;omega)
    simp only [Ty.nc,Nat.mul_one,dK]
    refine ⟨by rw [h1];simp,?_⟩
    have:(l.take k)[i]=l[i]:=by simp
    rw [this]
    have h2:l[i]=(sv.data[i]'(by simpa [hsz] using hi')).toNat:=by
     have:l[i]=(d9 sv)[i]'(by rw [hl];exact hi'):=by simp [hl]
     rw [this];simp [d9]
    rw [h2]
    have:=(sv.data[i]'(by simpa [hsz] using hi')).toNat_lt
    unfold IntKind.has;simp [IntKind.min,IntKind.max,IntKind.bits,IntKind.signed];omega
  ·cases h
 ·split at h
  ·rename_i t' l hc
   split at h
   ·rename_i hb
    have he:=Ty.eq_of_beq hb;subst he;simp only [bq] at h;have:uJ (Ty.eq_of_beq hb) l=l:=rfl;rw [this] at h;subst h;exact gen _ hc rfl
   ·cases h
  ·cases h
theorem Gc {T T' ty e:TypeId} {i:TypeInfo} {yU:TypeDesc} {b n c m:Nat} {vy:Value} {news:List Value} (hT:P.underlying T=some (.slice e)) (hT':P.underlying T' = some yU) (hd:(∃ e',yU = .slice e')∨yU = .string) (hi:P.info? e=some i)
 (hl:(Builtin.lenOf vy).run P w = .ok m w) (hf:(Builtin.firstCells i.size m vy).run P w = .ok news.toArray w) (hroom:n+m≤c)
 (hst:(storeCells ⟨b,n*i.size,none⟩ news).run P w = .ok () (w.setCells b (n*i.size) news)) :
 (Builtin.append_ #[T,T'] ty #[.slice (some ⟨b,0,none⟩) n c,vy]).run P w = .ok (.slice (some ⟨b,0,none⟩) (n+m) c) (w.setCells b (n*i.size) news):=by
 rcases hd with ⟨e',rfl⟩ | rfl<;>simp [Builtin.append_,run_underlying hT,run_underlying hT',sizeOf,typeInfo,hi,hl,hroom,hf,Addr.add_lit,hst]
theorem Gd {T T' ty e:TypeId} {i:TypeInfo} {yU:TypeDesc} {c:Nat} {vy:Value} {news:List Value} (hT:P.underlying T=some (.slice e)) (hT':P.underlying T' = some yU) (hd:(∃ e',yU = .slice e')∨yU = .string) (hi:P.info? e=some i)
 (hl:(Builtin.lenOf vy).run P w = .ok 0 w) (hf:(Builtin.firstCells i.size 0 vy).run P w = .ok news.toArray w) :
 (Builtin.append_ #[T,T'] ty #[.slice none 0 c,vy]).run P w = .ok (.slice none 0 c) w:=by
 rcases hd with ⟨e',rfl⟩ | rfl<;>simp [Builtin.append_,run_underlying hT,run_underlying hT',sizeOf,typeInfo,hi,hl,hf]
theorem yc {T T' ty e:TypeId} {i:TypeInfo} {z:Value} {yU:TypeDesc} {ad:Option Addr} {n c m:Nat} {vy:Value} {olds news:List Value} (hT:P.underlying T=some (.slice e)) (hT':P.underlying T' = some yU) (hd:(∃ e',yU = .slice e')∨yU = .string) (hi:P.info? e=some i)
 (hz:i.zero=some z) (hl:(Builtin.lenOf vy).run P w = .ok m w) (hf:(Builtin.firstCells i.size m vy).run P w.drew = .ok news.toArray w.drew)
 (ho:(Builtin.firstCells i.size n (.slice ad n c)).run P w.drew = .ok olds.toArray w.drew) (hroom:c<n+m) (hb0:0<i.bytes) (hfit:(n+m)*i.bytes≤big) :
 (Builtin.append_ #[T,T'] ty #[.slice ad n c,vy]).run P w = .ok (.slice (some ⟨w.heap.size,0,none⟩) (n+m) (grownCap w (n+m) c e))
  (w.drew.alloc (.cells (olds++news++(Builtin.zeroCells z.cells (grownCap w (n+m) c e - (n+m))).toList).toArray e)):=by
 have hn:¬ (n+m≤c):=by omega
 have hle:n+m≤(n+m)*i.bytes:=Nat.le_mul_of_pos_right _ hb0
 have h63':¬ (9223372036854775807<((n:Int)+(m:Int))):=by unfold big at hfit;omega
 have h48':¬ (281474976710656<Builtin.nextslicecap (n+m) c*i.bytes):=by
  have:=growslice_fits hroom (show (n+m)*i.bytes≤140737488355328 from hfit)
  omega
 have hfin:olds.toArray++news.toArray++Builtin.zeroCells z.cells (grownCap w (n+m) c e - (n+m))=(olds++news++(Builtin.zeroCells z.cells (grownCap w (n+m) c e - (n+m))).toList).toArray:=by
  apply Array.ext';simp
 rw [←hfin]
 rcases hd with ⟨e',rfl⟩ | rfl<;>simp [Builtin.append_,run_underlying hT,run_underlying hT',sizeOf,typeInfo,zeroValue,hi,hz,hl,hn,h63',h48',Question.forced,hf,ho,newRow,grownCap]<;>(congr 2;apply Array.ext';simp)
theorem Rel.Ja (R:Rel E C s a w G pt) (o:Oper) (ho:∀ t,o.dst=some t→t<E.n) {w':World} {f:Nat} {t:Ty} {L:List t.den} {b c:Nat} (hf:f=1∨f=2)
 (hE:Ext w G w' (fun x=>if x=b then (if f=1 then L.length*t.nc else 0) else G x)) (hT:∀ x,x≠b→x<w.heap.size→w'.heap[x]? = w.heap[x]?)
 (h0:TC E.n C.m s a w pt b=0∧(C.w0.heap.size≤b∨C.X b)) (hbs:b<w'.heap.size) (hL:fJ w' (fun x=>if x=b then (if f=1 then L.length*t.nc else 0) else G x) t L b 0)
 (room:Room w' b (c*t.nc)) (hc:L.length≤c) (hbz:L.length*t.pV≤big) (hnc:0<t.nc)
 (hos:w'.os=w.os) (hout:w'.output=w.output) (htp:w'.tape=w.tape) (Ph:w.heap.size≤w'.heap.size) :
 Rel E C (aA (bN o (.sl f t L)) s) (a.put o.dst (.slice (some ⟨b,0,none⟩) L.length c)) w' (fun x=>if x=b then (if f=1 then L.length*t.nc else 0) else G x) pt:=by
 refine R.put o ho (fun x=>x=b) hE (fun x hx hxs=>⟨hT x hx hxs,if_neg hx⟩) (fun x hx=>by subst hx;exact h0) ?_ (fun x=>?_) (fun x hx=>?_) hos hout htp Ph
 ·refine ⟨_,_,_,rfl,rfl,hbz,?_⟩
  rcases hf with rfl | rfl
  ·exact .inr ⟨b,rfl,by simp,room,hc,hL,hnc⟩
  ·exact .inr ⟨b,rfl,by simp,room,hc,hL,hnc⟩
 ·have e:dN x (.sl f t L) (.slice (some ⟨b,0,none⟩) L.length c)=if f≠0∧b=x then 1 else 0:=rfl
  rw [e]
  by_cases h:b=x
  ·subst h
   refine ⟨by split<;>omega,fun _=>⟨h0.1,hbs,h0.2⟩⟩
  ·simp [h]
 ·rw [if_neg (by omega)]
  exact R.gz x (by omega)
theorem Rel.D5 (R:Rel E C s a w G pt) {id st:Nat} {t:Ty} {l:List t.den} {ar:Bool} (hb:get s (2*id+1) = .aW st true ar t l) :
 Rel E C ((2*id+1,.aW st false ar t [])::s) a w G pt ∧
  ∀ b,TC E.n C.m ((2*id+1,.aW st false ar t [])::s) a w pt b+dx b (pt id st)=TC E.n C.m s a w pt b:=by
 have hid:=gB R (id:=id) (by rw [hb];simp)
 have tc:∀ b,TC E.n C.m ((2*id+1,.aW st false ar t [])::s) a w pt b+dx b (pt id st)=TC E.n C.m s a w pt b:=by
  intro b
  have e1:=aM (n:=E.n) (f:=cT s a b) (g:=cT ((2*id+1,.aW st false ar t [])::s) a b) (fun i _=>by simp only [cT,get_bt])
  have e2:=dH (n:=C.m) (f:=cB s w pt b) (g:=cB ((2*id+1,.aW st false ar t [])::s) w pt b) hid (fun i hi=>by simp only [cB,bA,hi,if_false])
  have e3:cB ((2*id+1,.aW st false ar t [])::s) w pt b id=0:=by simp only [cB,bA,if_true,gQ]
  have e4:cB s w pt b id=dx b (pt id st):=by simp only [cB,hb,gQ]
  unfold TC;omega
 refine ⟨R.step (fun _=>False) (fun i=>i=id) (fun _=>False) rfl R.df (fun t _=>⟨by simp,rfl⟩) (fun i hi=>⟨by simp [hi],rfl⟩) (Ext.refl _ _) (fun _ _ _ h=>h) (fun _ _ _=>⟨rfl,rfl⟩)
  (fun b h=>h.elim) (fun b h=>h.elim) (fun b h=>h.elim) (fun t h=>h.elim) (fun i hi=>?_) (fun _ _ b=>?_) R.gz rfl rfl rfl (dQ _),tc⟩
 ·subst hi
  refine ⟨hid,?_,fun j hj=>?_⟩
  ·simp only [bA,if_true,nI];intro h;cases h
  ·simp only [bA,if_true] at hj
   exact R.pf i j (by rw [hb];exact hj)
 ·have h1:=tc b
  have h2:=R.ct b;have h3:=R.cb b
  exact ⟨by omega,fun h=>h3 (by omega)⟩
theorem M4 {t:Ty} {l:List t.den} {ad:Option Addr} {c:Nat} (h:SlR w G 0 t l ad c) :
 ∃ olds:List Value,(∀ w1:World,w1.heap=w.heap→(Builtin.firstCells t.nc l.length (.slice ad l.length c)).run P w1 = .ok olds.toArray w1)∧olds.length=l.length*t.nc ∧
  ∀ w' G' b,Ext w G w' G'→(∀ j (h:j<olds.length),w'.cell? ⟨b,0+j,none⟩=some olds[j])→fJ w' G' t l b 0:=by
 rcases h.2 with h1 | ⟨b,o,h1,hG,h5⟩
 ·subst h1
  refine ⟨[],fun w1 _=>?_,by simp,fun _ _ _ _ _ i hi=>by simp at hi⟩
  cases ad with
  | none=>simp [Builtin.firstCells]
  | some q=>
   refine run_firstCells_some w1 t.nc 0 q 0 c _ (by simp) fun j v hj=>?_
   simp at hj
 ·subst h1
  have hcell:∀ j,j<l.length*t.nc→w.cell? ⟨b,o+j,none⟩=some (aD w b (o+j)):=by
   intro j hj;obtain ⟨v,h1,_⟩:=h5.cells j hj;simp only [aD];rw [h1];rfl
  refine ⟨(List.range (l.length*t.nc)).map (fun j=>aD w b (o+j)),fun w1 hw1=>?_,by simp,fun w' G' b' hE' hc' i hi=>(h5 i hi).move hE' fun j hj=>?_⟩
  ·refine run_firstCells_some w1 t.nc l.length ⟨b,o,none⟩ l.length c _ (by simp) fun j v hj=>?_
   have hj':j<l.length*t.nc:=by
    rcases Nat.lt_or_ge j (l.length*t.nc) with h | h
    ·exact h
    ·rw [List.getElem?_eq_none (by simpa using h)] at hj;cases hj
   rw [Addr.add_mid]
   have h1:w1.cell? ⟨b,o+j,none⟩=w.cell? ⟨b,o+j,none⟩:=by simp [World.cell?,hw1]
   rw [h1,hcell j hj']
   simpa [hj'] using hj
  ·have h2:(i+1)*t.nc≤l.length*t.nc:=sW _ hi
   rw [Nat.add_mul] at h2
   have h3:=hc' (i*t.nc+j) (by simp;omega)
   rw [←Nat.add_assoc] at h3;rw [h3,List.getElem_map,List.getElem_range,Nat.add_assoc]
   exact (hcell (i*t.nc+j) (by omega)).symm
theorem Jb {s0:St} (R0:Rel E C s0 a w G pt) (ho:∀ t,o.dst=some t→t<E.n) {T T':Nat} {x y:Operand} {e:TypeId} {pi:TypeInfo} {z:Value} {yU:TypeDesc}
 (hop:o.op = .call { callee:=.builtin .append,args:=#[x,y],argTypes:=#[T,T'] })
 (hT:P.underlying T=some (.slice e)) (hT':P.underlying T' = some yU) (hd:(∃ e',yU = .slice e')∨yU = .string) (hi:P.info? e=some pi) (hz:pi.zero=some z) (hzs:z.cells.size=pi.size)
 {t:Ty} (hsz:pi.size=t.nc) (hnc:0<t.nc) (hbs:pi.bytes=t.pV) (hb0:0<pi.bytes)
 {f:Nat} (hf:f=1∨f=2) {l l':List t.den} {ad:Option Addr} {c:Nat} (hx:a.eval x = .slice ad l.length c) (hroom:¬ l.length+l'.length≤c)
 {olds:List Value} (k1:∀ w1:World,w1.heap=w.heap→(Builtin.firstCells t.nc l.length (.slice ad l.length c)).run P w1 = .ok olds.toArray w1) (k2:olds.length=l.length*t.nc)
 (k3:∀ w' G' b,Ext w G w' G'→(∀ j (h:j<olds.length),w'.cell? ⟨b,0+j,none⟩=some olds[j])→fJ w' G' t l b 0)
 (hlen:∀ w1,(Builtin.lenOf (a.eval y)).run P w1 = .ok l'.length w1)
 {news:List Value} (hfc:∀ w1:World,w1.heap=w.heap→(Builtin.firstCells t.nc l'.length (a.eval y)).run P w1 = .ok news.toArray w1) (hnl:news.length=l'.length*t.nc) (hone:∀ v∈news,v.oneCell' = true)
 (hre:∀ w' G' b off,Ext w G w' G'→(∀ j (h:j<news.length),w'.cell? ⟨b,off+j,none⟩=some news[j])→fJ w' G' t l' b off)
 (hfit:(l.length+l'.length)*pi.bytes≤big) :
 fC P E C o a w (aA (bN o (.sl f t (l++l'))) s0):=by
 have run:∀ v w',(Builtin.append_ #[T,T'] o.type #[a.eval x,a.eval y]).run P w = .ok v w'→(execOp a.eval o).run P w = .ok (.value v) w':=by
  intro v w' h;simp [execOp,hop,resolve,invoke,builtin,h]
 have hbz:(l++l').length*t.pV≤big:=by rw [kZ,←hbs];exact hfit
 have app:∀ w' G' b,fJ w' G' t l b 0→fJ w' G' t l' b (l.length*t.nc)→fJ w' G' t (l++l') b 0:=by
  intro w' G' b h1 h2 i hi
  by_cases h:i<l.length
  ·rw [List.getElem_append_left h];exact h1 i h
  ·rw [List.getElem_append_right (by omega)]
   have:=h2 (i - l.length) (by simp at hi;omega)
   rw [show l.length*t.nc+(i - l.length)*t.nc=0+i*t.nc by rw [Nat.zero_add,←Nat.add_mul,Nat.add_sub_cancel' (by omega)]] at this
   exact this
 have hr:=run _ _ (by rw [hx];exact yc (ty:=o.type) (olds:=olds) hT hT' hd hi hz (hlen w) (by rw [hsz];exact hfc _ rfl) (by rw [hsz];exact k1 _ rfl) (by omega) hb0 hfit)
 have hcap:=grownCap_ge w (l.length+l'.length) c e;generalize grownCap w (l.length+l'.length) c e=c' at hr hcap;generalize hcs:olds++news++(Builtin.zeroCells z.cells (c' - (l.length+l'.length))).toList=cells at hr
 have hlen':l.length+l'.length=(l++l').length:=by simp
 have hcl:cells.length=c' * t.nc:=by
  rw [←hcs];simp only [kZ,k2,hnl,Array.length_toList,size_zeroCells,hzs,hsz,←Nat.add_mul]
  congr 1;omega
 have R1:=R0.drew (w':=w.drew) rfl rfl rfl rfl
 have hcell:∀ j (h:j<cells.length),(w.drew.alloc (.cells cells.toArray e)).cell? ⟨w.heap.size,j,none⟩=some cells[j]:=by
  intro j hj;have:=jA (w:=w.drew) cells.toArray e (0,0) j
  exact this.trans (by simp [hj])
 have hEG:∀ x,(if x=w.heap.size then (if f=1 then (l++l').length*t.nc else 0) else G x)=(if x=w.heap.size then (if f=1 then (l++l').length*t.nc else 0) else G x):=fun _=>rfl
 have PY:Ext w.drew G (w.drew.alloc (.cells cells.toArray e)) (fun x=>if x=w.heap.size then (if f=1 then (l++l').length*t.nc else 0) else G x):=by
  have:=gN (w:=w.drew) (.cells cells.toArray e) R1.gz
  refine ⟨this.cell,fun x=>?_⟩
  show G x≤if x=_ then _ else _
  by_cases h:x=w.heap.size
  ·rw [h,R0.gz _ (dQ _)];exact fG _
  ·rw [if_neg h];exact dQ _
 have PZ:Ext w G (w.drew.alloc (.cells cells.toArray e)) (fun x=>if x=w.heap.size then (if f=1 then (l++l').length*t.nc else 0) else G x):=⟨PY.cell,PY.le⟩
 have D6:TC E.n C.m s0 a w.drew pt w.heap.size=0:=R1.fresh
 have:=R1.Ja o ho (w':=w.drew.alloc (.cells cells.toArray e)) (L:=l++l') (b:=w.heap.size) (c:=c') hf PY (fun x _ hxs=>alloc_old _ hxs) ⟨D6,.inl R0.hs⟩ (by simp)
  (app _ _ _ (k3 _ _ _ PZ fun j hj=>by
   rw [hcell (0+j) (by rw [hcl];have:(l.length+l'.length)*t.nc≤c' * t.nc:=sW _ hcap
                       rw [Nat.add_mul] at this;omega)]
   subst hcs
   simp [hj])
   (hre _ _ _ _ PZ fun j hj=>by
    rw [hcell (l.length*t.nc+j) (by rw [hcl];have:(l.length+l'.length)*t.nc≤c' * t.nc:=sW _ hcap
                                    rw [Nat.add_mul] at this;omega)]
    subst hcs
    congr 1
    rw [List.getElem_append_left (by simp;omega),List.getElem_append_right (by omega)]
    congr 1
    omega))
  ⟨cells.toArray,e,(0,0),kE _,by simp [hcl],fun _ _=>by simp⟩ (by omega) hbz hnc rfl rfl rfl (by simp)
 rw [←hlen'] at this;exact ⟨_,_,_,pt,.inl hr,this⟩
theorem qz {s0:St} (R0:Rel E C s0 a w G pt) (ho:∀ t,o.dst=some t→t<E.n) {T T':Nat} {x y:Operand} {e:TypeId} {pi:TypeInfo} {z:Value} {yU:TypeDesc}
 (hop:o.op = .call { callee:=.builtin .append,args:=#[x,y],argTypes:=#[T,T'] })
 (hT:P.underlying T=some (.slice e)) (hT':P.underlying T' = some yU) (hd:(∃ e',yU = .slice e')∨yU = .string) (hi:P.info? e=some pi) (hz:pi.zero=some z) (hzs:z.cells.size=pi.size)
 {t:Ty} (hsz:pi.size=t.nc) (hnc:0<t.nc) (hbs:pi.bytes=t.pV) (hb0:0<pi.bytes)
 {f:Nat} (hf:f=1∨f=2) {l l':List t.den} {ad:Option Addr} {n c:Nat} (hx:a.eval x = .slice ad n c) (hn:n=l.length) (hsl:SlR w G f t l ad c)
 (hfree:∀ b,ad=some ⟨b,0,none⟩→TC E.n C.m s0 a w pt b=0∧(C.w0.heap.size≤b∨C.X b)∧b<w.heap.size)
 (hlen:∀ w1,(Builtin.lenOf (a.eval y)).run P w1 = .ok l'.length w1)
 {news:List Value} (hfc:∀ w1:World,w1.heap=w.heap→(Builtin.firstCells t.nc l'.length (a.eval y)).run P w1 = .ok news.toArray w1) (hnl:news.length=l'.length*t.nc) (hone:∀ v∈news,v.oneCell' = true)
 (hre:∀ w' G' b off,Ext w G w' G'→(∀ j (h:j<news.length),w'.cell? ⟨b,off+j,none⟩=some news[j])→fJ w' G' t l' b off)
 (hfit:(l.length+l'.length)*pi.bytes≤big) :
 fC P E C o a w (aA (bN o (.sl f t (l++l'))) s0):=by
 have run:∀ v w',(Builtin.append_ #[T,T'] o.type #[a.eval x,a.eval y]).run P w = .ok v w'→(execOp a.eval o).run P w = .ok (.value v) w':=by
  intro v w' h;simp [execOp,hop,resolve,invoke,builtin,h]
 have hbz:(l++l').length*t.pV≤big:=by rw [kZ,←hbs];exact hfit
 have app:∀ w' G' b,fJ w' G' t l b 0→fJ w' G' t l' b (l.length*t.nc)→fJ w' G' t (l++l') b 0:=by
  intro w' G' b h1 h2 i hi
  by_cases h:i<l.length
  ·rw [List.getElem_append_left h];exact h1 i h
  ·rw [List.getElem_append_right (by omega)]
   have:=h2 (i - l.length) (by simp at hi;omega)
   rw [show l.length*t.nc+(i - l.length)*t.nc=0+i*t.nc by rw [Nat.zero_add,←Nat.add_mul,Nat.add_sub_cancel' (by omega)]] at this
   exact this
 have split:(ad=none∧l=[]∧c=0)∨∃ b,ad=some ⟨b,0,none⟩∧(G b=if f=1 then l.length*t.nc else 0)∧Room w b (c*t.nc)∧l.length≤c∧fJ w G t l b 0:=by
  rcases hf with rfl | rfl
  ·rcases hsl with h | ⟨b,h1,h2,h3,h4,h5,_⟩
   ·exact .inl h
   ·exact .inr ⟨b,h1,by simpa using h2,h3,h4,h5⟩
  ·rcases hsl with h | ⟨b,h1,h2,h3,h4,h5,_⟩
   ·exact .inl h
   ·exact .inr ⟨b,h1,by simpa using h2,h3,h4,h5⟩
 subst hn
 by_cases hroom:l.length+l'.length≤c
 ·rcases split with ⟨h1,h2,h3⟩ | ⟨b,h1,hG,h3,h4,h5⟩
  ·subst h1 h2 h3
   have hl0:l' = []:=by simp at hroom;exact hroom
   subst hl0
   have hr:=run _ _ (by rw [hx];exact Gd (c:=0) (ty:=o.type) hT hT' hd hi (hlen w) (by rw [hsz];exact hfc w rfl))
   refine ⟨_,w,G,pt,.inl hr,R0.put o ho (fun _=>False) (Ext.refl _ _) (fun _ _ _=>⟨rfl,rfl⟩) (fun _ h=>h.elim) ?_ (fun b=>?_) R0.gz rfl rfl rfl (dQ _)⟩
   ·refine ⟨none,0,0,rfl,rfl,by simp,?_⟩
    rcases hf with rfl | rfl
    ·exact .inl ⟨rfl,rfl,rfl⟩
    ·exact .inl ⟨rfl,rfl,rfl⟩
   ·rw [show dN b (.sl f t ([]++[])) (.slice none 0 0)=0 from rfl];simp
  ·subst h1
   obtain ⟨g1,g2,g3⟩:=hfree b rfl;have hroom':(l.length+l'.length)*t.nc≤c*t.nc:=sW _ hroom;rw [Nat.add_mul] at hroom'
   have hst:=run_storeCells_cells (P:=P) b (l.length*t.nc) news 0 w (fun j hj=>by simpa using (h3.some (j:=l.length*t.nc+j) (by omega)).1) (fun j hj=>by simpa using (h3.some (j:=l.length*t.nc+j) (by omega)).2) hone
   simp only [Nat.add_zero] at hst
   have hr:=run _ _ (by rw [hx];exact Gc (ty:=o.type) hT hT' hd hi (hlen w) (by rw [hsz];exact hfc w rfl) hroom (by rw [hsz];exact hst))
   rw [hsz] at hr;obtain ⟨q1,q2,q3,q4,q5,q6⟩:=jB news w b (l.length*t.nc)
   have PY:Ext w G (w.setCells b (l.length*t.nc) news) (fun x=>if x=b then (if f=1 then (l++l').length*t.nc else 0) else G x):=by
    refine ⟨fun x j hj=>lD b _ _ (fun h=>.inl ?_),fun x=>?_⟩
    ·subst h
     rw [hG] at hj
     split at hj<;>omega
    ·show G x≤if x=b then _ else _
     by_cases h:x=b
     ·subst h
      rw [if_pos rfl,hG,kZ,Nat.add_mul]
      split<;>omega
     ·rw [if_neg h];exact dQ _
   have hlen':l.length+l'.length=(l++l').length:=by simp
   have:=R0.Ja o ho (w':=w.setCells b (l.length*t.nc) news) (L:=l++l') (b:=b) (c:=c) hf PY (fun x hx _=>q1 x hx) ⟨g1,g2⟩ (by rw [q3];exact g3)
    (app _ _ _ (h5.mono PY fun j _ hj2=>lD b _ _ (fun _=>.inl (by omega))) (hre _ _ _ _ PY fun j hj=>wO h3 news (by omega) hj))
    (h3.set _ _ _) (by rw [←hlen'];exact hroom) hbz hnc q4 q5 q6 (by rw [q3];exact dQ _)
   rw [←hlen'] at this;exact ⟨_,_,_,pt,.inl hr,this⟩
 ·-- a new row
  obtain ⟨olds,k1,k2,k3⟩:∃ olds:List Value,(∀ w1:World,w1.heap=w.heap→(Builtin.firstCells t.nc l.length (.slice ad l.length c)).run P w1 = .ok olds.toArray w1)∧olds.length=l.length*t.nc ∧
   ∀ w' G' b,Ext w G w' G'→(∀ j (h:j<olds.length),w'.cell? ⟨b,0+j,none⟩=some olds[j])→fJ w' G' t l b 0:=by
   rcases split with ⟨h1,h2,h3⟩ | ⟨b,h1,hG,h3,h4,h5⟩
   ·subst h1 h2 h3
    exact ⟨[],fun w1 _=>by simp [Builtin.firstCells],by simp,fun _ _ _ _ _ i hi=>by simp at hi⟩
   ·subst h1
    have hcell:∀ j,j<l.length*t.nc→w.cell? ⟨b,0+j,none⟩=some (aD w b (0+j)):=by
     intro j hj;obtain ⟨v,h1,_⟩:=h5.cells j hj;simp only [aD];rw [h1];rfl
    refine ⟨(List.range (l.length*t.nc)).map (fun j=>aD w b (0+j)),fun w1 hw1=>?_,by simp,fun w' G' b' hE' hc' i hi=>(h5 i hi).move hE' fun j hj=>?_⟩
    ·refine run_firstCells_some w1 t.nc l.length ⟨b,0,none⟩ l.length c _ (by simp) fun j v hj=>?_
     have hj':j<l.length*t.nc:=by
      rcases Nat.lt_or_ge j (l.length*t.nc) with h | h
      ·exact h
      ·rw [List.getElem?_eq_none (by simpa using h)] at hj;cases hj
     rw [Addr.add_lit]
     have h1:w1.cell? ⟨b,0+j,none⟩=w.cell? ⟨b,0+j,none⟩:=by simp [World.cell?,hw1]
     rw [h1,hcell j hj']
     simpa [hj'] using hj
    ·have h2:(i+1)*t.nc≤l.length*t.nc:=sW _ hi
     rw [Nat.add_mul] at h2
     have h3:=hc' (i*t.nc+j) (by simp;omega)
     rw [←Nat.add_assoc] at h3;rw [h3,List.getElem_map,List.getElem_range,←Nat.add_assoc]
     have h4:=hcell (i*t.nc+j) (by omega)
     rw [←Nat.add_assoc] at h4;exact h4.symm
  have hr:=run _ _ (by rw [hx];exact yc (ty:=o.type) (olds:=olds) hT hT' hd hi hz (hlen w) (by rw [hsz];exact hfc _ rfl) (by rw [hsz];exact k1 _ rfl) (by omega) hb0 hfit)
  have hcap:=grownCap_ge w (l.length+l'.length) c e;generalize grownCap w (l.length+l'.length) c e=c' at hr hcap;generalize hcs:olds++news++(Builtin.zeroCells z.cells (c' - (l.length+l'.length))).toList=cells at hr
  have hlen':l.length+l'.length=(l++l').length:=by simp
  have hcl:cells.length=c' * t.nc:=by
   rw [←hcs];simp only [kZ,k2,hnl,Array.length_toList,size_zeroCells,hzs,hsz,←Nat.add_mul]
   congr 1;omega
  have R1:=R0.drew (w':=w.drew) rfl rfl rfl rfl
  have hcell:∀ j (h:j<cells.length),(w.drew.alloc (.cells cells.toArray e)).cell? ⟨w.heap.size,j,none⟩=some cells[j]:=by
   intro j hj;have:=jA (w:=w.drew) cells.toArray e (0,0) j
   exact this.trans (by simp [hj])
  have hEG:∀ x,(if x=w.heap.size then (if f=1 then (l++l').length*t.nc else 0) else G x)=(if x=w.heap.size then (if f=1 then (l++l').length*t.nc else 0) else G x):=fun _=>rfl
  have PY:Ext w.drew G (w.drew.alloc (.cells cells.toArray e)) (fun x=>if x=w.heap.size then (if f=1 then (l++l').length*t.nc else 0) else G x):=by
   have:=gN (w:=w.drew) (.cells cells.toArray e) R1.gz
   refine ⟨this.cell,fun x=>?_⟩
   show G x≤if x=_ then _ else _
   by_cases h:x=w.heap.size
   ·rw [h,R0.gz _ (dQ _)];exact fG _
   ·rw [if_neg h];exact dQ _
  have PZ:Ext w G (w.drew.alloc (.cells cells.toArray e)) (fun x=>if x=w.heap.size then (if f=1 then (l++l').length*t.nc else 0) else G x):=⟨PY.cell,PY.le⟩
  have D6:TC E.n C.m s0 a w.drew pt w.heap.size=0:=R1.fresh
  have:=R1.Ja o ho (w':=w.drew.alloc (.cells cells.toArray e)) (L:=l++l') (b:=w.heap.size) (c:=c') hf PY (fun x _ hxs=>alloc_old _ hxs) ⟨D6,.inl R0.hs⟩ (by simp)
   (app _ _ _ (k3 _ _ _ PZ fun j hj=>by
    rw [hcell (0+j) (by rw [hcl];have:(l.length+l'.length)*t.nc≤c' * t.nc:=sW _ hcap
                        rw [Nat.add_mul] at this;omega)]
    subst hcs
    simp [hj])
    (hre _ _ _ _ PZ fun j hj=>by
     rw [hcell (l.length*t.nc+j) (by rw [hcl];have:(l.length+l'.length)*t.nc≤c' * t.nc:=sW _ hcap
                                     rw [Nat.add_mul] at this;omega)]
     subst hcs
     congr 1
     rw [List.getElem_append_left (by simp;omega),List.getElem_append_right (by omega)]
     congr 1
     omega))
   ⟨cells.toArray,e,(0,0),kE _,by simp [hcl],fun _ _=>by simp⟩ (by omega) hbz hnc rfl rfl rfl (by simp)
  rw [←hlen'] at this;exact ⟨_,_,_,pt,.inl hr,this⟩
theorem M5 (HP:mG P E) (R:Rel E C s a w G pt) (ho:∀ t,o.dst=some t→t<E.n) (T T':Nat) (x y:Operand) (hN:KJ E T' = true)
 (hop:o.op = .call { callee:=.builtin .append,args:=#[x,y],argTypes:=#[T,T'] })
 (h:q8 E o s T x y=some (true,u)):fC P E C o a w (aA u s):=by
 have hrx:=aV R x
 obtain ⟨yU,hT',hd⟩:∃ yU,P.underlying T' = some yU∧((∃ e',yU = .slice e')∨yU = .string):=by
  unfold KJ at hN;split at hN
  ·rename_i i hi
   refine ⟨_,(HP.ti _ _ hi).und,?_⟩;split at hN
   ·rename_i e' he;exact .inl ⟨e',he⟩
   ·rename_i he;exact .inr he
   ·cases hN
  ·cases hN
 simp only [q8] at h;split at h
 ·rename_i i hi
  have hu:=(HP.ti _ _ hi).und;split at h
  ·rename_i e hde
   rw [hde] at hu;split at h
   ·rename_i ei uF
    obtain ⟨pi,z,p1,p2,p3,p4,p5,p6,p7,p8⟩:=(HP.ti _ _ uF).info
    cases hb:(Nat.beq ei.size ei.ty.nc&&Nat.beq ei.bytes ei.ty.pV&&Nat.blt 0 ei.size&&Nat.blt 0 ei.bytes) with
    | false=>simp only [hb,bU,reduceCtorEq] at h
    | true=>
     simp only [hb,aQ] at h;simp only [bP] at hb;obtain ⟨⟨⟨hb1,hb2⟩,hb3⟩,hb4⟩:=hb;have hb1:=dM hb1;have hb2:=dM hb2
     have hb3:0<ei.size:=by simpa [Nat.blt_eq] using hb3
     have hb4:0<ei.bytes:=by simpa [Nat.blt_eq] using hb4
     split at h
     ·rename_i hx
      rw [hx] at hrx;have hv:a.eval x = .slice none 0 0:=hrx;split at h
      ·rename_i l' ht
       simp only [bq,eX] at h;obtain ⟨hfit,rfl⟩:=h;have hfit:=Nat.le_of_ble_eq_true hfit;obtain ⟨k1,k2,k3⟩:=yS (P:=P) R y ht;obtain ⟨news,n1,n2,n3,n4⟩:=k3 _ (dQ _);rw [List.take_length] at n4
       have:=qz (P:=P) R ho hop hu hT' hd p1 p4 (by omega) (t:=ei.ty) (by omega) (by omega) (by omega) (by omega) (f:=2) (.inr rfl) (l:=[]) (l':=l') hv rfl (.inl ⟨rfl,rfl,rfl⟩) (fun b h=>by cases h)
        k1 n1 n2 n3 n4 (by rw [p3];simpa using hfit)
       exact this
      ·cases h
     ·rename_i f t l hx
      cases hf0:Nat.beq f 0 with
      | true=>simp [hf0] at h
      | false=>
       simp only [hf0,bU] at h;split at h
       ·rename_i l' tx ht
        cases hbt:t.beq ei.ty with
        | false=>simp [hbt] at h
        | true=>
         simp only [hbt,aQ,bq,eX] at h;obtain ⟨hfit,rfl⟩:=h;have hfit:=Nat.le_of_ble_eq_true hfit;have hte:=Ty.eq_of_beq hbt;subst hte;obtain ⟨k1,k2,k3⟩:=yS (P:=P) R y ht;obtain ⟨news,n1,n2,n3,n4⟩:=k3 _ (dQ _);rw [List.take_length] at n4;have hx':get s (2*tx) = .sl f ei.ty l:=hx;rw [hx] at hrx;obtain ⟨ad,n,c,hv,hn,hbd,hsl⟩:=hrx
         have hf:f=1∨f=2:=by
          match f,hf0,hsl with
          | 1,_,_=>exact .inl rfl
          | 2,_,_=>exact .inr rfl
          | (k+3),_,h=>exact h.elim
         have hxn:tx<E.n:=oL R (t:=tx) (by rw [hx'];simp [dY,xW,hf0])
         obtain ⟨R0,t0⟩:=R.IZ tx hxn (d:=.undef) trivial (fun b=>dX b _)
         have:=qz (P:=P) R0 ho hop hu hT' hd p1 p4 (by omega) (t:=ei.ty) (by omega) (by omega) (by omega) (by omega) hf hv hn hsl (fun b hab=>by
          have hc:cT s a b tx=1:=by
           subst hab;have e:a.tmps.getD tx Go.undef = .slice (some ⟨b,0,none⟩) n c:=hv;simp only [cT,hx',e]
           show (if f≠0∧b=b then 1 else 0)=1
           rw [if_pos ⟨by omega,rfl⟩]
          have h1:=t0 b;have h2:=R.ct b
          have h3:=R.cb b (by omega)
          exact ⟨by omega,h3.2,h3.1⟩) k1 n1 n2 n3 n4 (by rw [p3];exact hfit)
         exact this
       ·cases h
     ·rename_i id st hx
      split at h
      ·rename_i st' t l hbx
       split at h
       ·rename_i l' ht
        cases hbt:(Nat.beq st st' && t.beq ei.ty) with
        | false=>simp [hbt] at h
        | true=>
         simp only [hbt,aQ,bq,eX] at h;obtain ⟨hfit,rfl⟩:=h;have hfit:=Nat.le_of_ble_eq_true hfit;simp only [bP] at hbt;have hst:=dM hbt.1;subst hst;have hte:=Ty.eq_of_beq hbt.2;subst hte;obtain ⟨k1,k2,k3⟩:=yS (P:=P) R y ht;obtain ⟨news,n1,n2,n3,n4⟩:=k3 _ (dQ _);rw [List.take_length] at n4;have hB:=R.bx id;rw [hbx] at hB;have hB:=hB rfl;simp only [sI,if_false] at hB;obtain ⟨ad,n,c,h1,hn,hbd,hsl⟩:=hB;rw [hx] at hrx;have hrx:pt id st=some (a.eval x):=hrx
         have hv:a.eval x = .slice ad n c:=by rw [hrx] at h1;exact Option.some.inj h1
         obtain ⟨R0,t0⟩:=R.D5 hbx
         have:=qz (P:=P) R0 ho hop hu hT' hd p1 p4 (by omega) (t:=ei.ty) (by omega) (by omega) (by omega) (by omega) (.inr rfl) hv hn hsl (fun b hab=>by
          have hc:dx b (pt id st)=1:=by
           subst hab;rw [h1];simp [dx,bH]
          have h1:=t0 b;have h2:=R.ct b
          have h3:=R.cb b (by omega)
          exact ⟨by omega,h3.2,h3.1⟩) k1 n1 n2 n3 n4 (by rw [p3];exact hfit)
         exact this
       ·cases h
      ·cases h
     ·rename_i t l hx
      split at h
      ·rename_i l' ht
       cases hbt:t.beq ei.ty with
       | false=>simp [hbt] at h
       | true=>
        simp only [hbt,aQ,bq,eX,bP] at h;obtain ⟨⟨hpos,hfit⟩,rfl⟩:=h
        have hpos:0<l'.length:=by simpa [Nat.blt_eq] using hpos
        have hfit:=Nat.le_of_ble_eq_true hfit;have hte:=Ty.eq_of_beq hbt;subst hte;obtain ⟨k1,k2,k3⟩:=yS (P:=P) R y ht;obtain ⟨news,n1,n2,n3,n4⟩:=k3 _ (dQ _);rw [List.take_length] at n4;rw [hx] at hrx;obtain ⟨ad,n,hv,hn,hbd,hsl⟩:=hrx;subst hn;obtain ⟨olds,q1,q2,q3⟩:=M4 (P:=P) hsl
        exact Jb (P:=P) R ho hop hu hT' hd p1 p4 (by omega) (t:=ei.ty) (by omega) (by omega) (by omega) (by omega) (.inr rfl) hv (by omega) q1 q2 q3 k1 n1 n2 n3 n4 (by rw [p3];exact hfit)
      ·cases h
     ·cases h
   ·cases h
  ·cases h
 ·cases h
theorem UG (HP:mG P E) (R:Rel E C s a w G pt) (ho:∀ t,o.dst=some t→t<E.n) (T T':Nat) (x y:Operand)
 (hop:o.op = .call { callee:=.builtin .copy,args:=#[x,y],argTypes:=#[T,T'] })
 (h:Pf E o s T x y=some (true,u)):fC P E C o a w (aA u s):=by unfold Pf at h;cases h
theorem M6 (HP:mG P E) (R:Rel E C s a w G pt) (ho:∀ t,o.dst=some t→t<E.n) (T:Nat) (x:Operand) (lo hi:Option Operand) (hop:o.op = .slice T x lo hi none)
 (h:qZ E o s T x lo hi=some (true,u)):fC P E C o a w (aA u s):=by
 have hx:=aV R x;simp only [qZ] at h;split at h
 ·rename_i ti id st hti h1
  have hu:=(HP.ti _ _ hti).und;split at h
  ·rename_i e st' t l hd hbx
   rw [hd] at hu;split at h
   ·rename_i ei p q uF hl hh
    obtain ⟨pi,z,p1,p2,_⟩:=(HP.ti _ _ uF).info
    cases hbb:(Nat.beq st st' && Nat.beq ei.size t.nc) with
    | false=>simp [hbb] at h
    | true=>
     simp only [hbb,aQ,bq,eX,bP,jH] at h;obtain ⟨⟨⟨h0,h1'⟩,h2⟩,rfl⟩:=h;simp only [bP] at hbb;have hst:=dM hbb.1;have hsz:=dM hbb.2;subst hst;rw [h1] at hx;have hB:=R.bx id;rw [hbx] at hB;have hB:=hB rfl;simp only [sI,if_false] at hB;obtain ⟨ad,m,c,q1,q2,q3,q4⟩:=hB;have hv:pt id st=some (a.eval x):=hx;have hv2:=hv;rw [q1] at hv
     injection hv with hv
     have hsl:l.length≤c:=by
      rcases q4 with ⟨_,q5,_⟩ | ⟨b,_,_,_,q5,_⟩
      ·subst q5;simp
      ·exact q5
     have hsb:=iL (P:=P) R true hl hh h0 h1' h2 hsl
     have hrun:(execOp a.eval o).run P w = .ok (.value (.slice (if c=p.toNat then ad else ad.map (·.add (p.toNat*pi.size))) (q.toNat - p.toNat) (c - p.toNat))) w:=by
      rw [q2] at hv;simp [execOp,hop,Instr.sliceAt,run_underlying hu,Instr.slice,←hv,hsb,sizeOf,typeInfo,p1]
     refine pure_ok R ho hrun ⟨ad,m,c,_,_,q1,rfl,by omega,by omega,?_⟩ (fun _=>rfl)
     by_cases hn:q.toNat - p.toNat=0
     ·exact .inl hn
     ·right
      rcases q4 with ⟨_,q5,_⟩ | ⟨b,q5,_⟩
      ·subst q5;simp at h2;omega
      ·subst q5
       refine ⟨b,rfl,?_⟩
       rw [if_neg (by omega)]
       simp only [Option.map_some,Addr.add_mid,p2,hsz,Nat.zero_add]
   ·cases h
  ·cases h
 ·cases h
theorem M7 (HP:mG P E) (R:Rel E C s a w G pt) (ho:∀ t,o.dst=some t→t<E.n) (T:Nat) (x:Operand) (lo hi:Option Operand) (hop:o.op = .slice T x lo hi none)
 (h:qY E o s T x lo hi=some (true,u)):fC P E C o a w (aA u s):=by
 have hx:=aV R x;simp only [qY] at h;split at h
 ·rename_i ti id st hti h1
  have hu:=(HP.ti _ _ hti).und;split at h
  ·rename_i e st' t l hd hbx
   rw [hd] at hu;split at h
   ·rename_i ei q uF hh
    obtain ⟨pi,z,p1,p2,_⟩:=(HP.ti _ _ uF).info
    cases hbb:(Nat.beq st st' && Nat.beq ei.size t.nc) with
    | false=>simp [hbb] at h
    | true=>
     simp only [hbb,aQ] at h
     cases hw7:Nat.beq (tag E o) 7 with
     | true=>
      simp only [hw7,aQ] at h
      cases hbz:Nat.blt 0 t.pV with
      | false=>simp [hbz] at h
      | true=>
      simp only [hbz,aQ,bq,eX,bP,jH] at h;obtain ⟨⟨h0,h2⟩,rfl⟩:=h;simp only [bP] at hbb;have hst:=dM hbb.1;subst hst;rw [h1] at hx;have hB:=R.bx id;rw [hbx] at hB;have hB:=hB rfl;simp only [sI,if_false] at hB;obtain ⟨ad,m,c,q1,q2,q3,q4⟩:=hB;have hv:pt id st=some (a.eval x):=hx;rw [hv] at q1
      injection q1 with q1
      have hsl:l.length≤c:=by
       rcases q4 with ⟨_,q5,_⟩ | ⟨b,_,_,_,q5,_⟩
       ·subst q5;simp
       ·exact q5
      have ead:(if c=(0:Int).toNat then ad else ad.map (·.add ((0:Int).toNat*pi.size)))=ad:=by
       rcases q4 with ⟨q5,_,_⟩ | ⟨b,q5,_⟩
       ·subst q5;simp
       ·subst q5
        simp [Addr.add_mid]
      have hsb:=iL (P:=P) R true (lo:=none) (p:=0) rfl hh (Int.le_refl _) h0 h2 hsl
      have hrun:(execOp a.eval o).run P w = .ok (.value (.slice ad q.toNat c)) w:=by
       rw [q2] at q1;have:=hsb;simp only [Option.map_none] at this;simp [execOp,hop,Instr.sliceAt,run_underlying hu,Instr.slice,q1,this,sizeOf,typeInfo,p1]
       simpa using ead
      have hbz:0<t.pV:=by simpa [Nat.blt_eq] using hbz
      have hm:m≤jo:=by
       have:m≤m*t.pV:=Nat.le_mul_of_pos_right _ hbz;unfold big at q3;unfold jo;omega
      refine pure_ok R ho hrun ⟨?_,by omega⟩ (fun _=>rfl)
      rcases q4 with ⟨q5,q6,q7⟩ | ⟨b,q5,_⟩
      ·refine .inr ⟨?_,?_⟩
       ·subst q6;simp at h2;omega
       ·subst q5;subst q7
        have:q.toNat=0:=by subst q6;simp at h2;omega
        rw [this]
      ·refine .inl ⟨b,c,?_,?_⟩
       ·rw [hv,q1];subst q5;rfl
       ·subst q5;rfl
     | false=>
     simp only [hw7,bU,bq,eX,bP,jH] at h;obtain ⟨⟨h0,h2⟩,rfl⟩:=h;simp only [bP] at hbb;have hst:=dM hbb.1;subst hst;rw [h1] at hx;have hB:=R.bx id;rw [hbx] at hB;have hB:=hB rfl;simp only [sI,if_false] at hB;obtain ⟨ad,m,c,q1,q2,q3,q4⟩:=hB;have hv:pt id st=some (a.eval x):=hx;rw [hv] at q1
     injection q1 with q1
     have hsl:l.length≤c:=by
      rcases q4 with ⟨_,q5,_⟩ | ⟨b,_,_,_,q5,_⟩
      ·subst q5;simp
      ·exact q5
     have ead:(if c=(0:Int).toNat then ad else ad.map (·.add ((0:Int).toNat*pi.size)))=ad:=by
      rcases q4 with ⟨q5,_,_⟩ | ⟨b,q5,_⟩
      ·subst q5;simp
      ·subst q5
       simp [Addr.add_mid]
     have hsb:=iL (P:=P) R true (lo:=none) (p:=0) rfl hh (Int.le_refl _) h0 h2 hsl
     have hrun:(execOp a.eval o).run P w = .ok (.value (.slice ad q.toNat c)) w:=by
      rw [q2] at q1;have:=hsb;simp only [Option.map_none] at this;simp [execOp,hop,Instr.sliceAt,run_underlying hu,Instr.slice,q1,this,sizeOf,typeInfo,p1]
      simpa using ead
     obtain ⟨R1,tc⟩:=R.D5 hbx
     have hcnt:∀ b,dN b (.sl 2 t (l.take q.toNat)) (.slice ad q.toNat c)≤dx b (pt id st):=by
      intro b;rw [hv,q1]
      rcases q4 with ⟨q5,_,_⟩ | ⟨b',q5,_⟩
      ·subst q5
       show eu b (.sl 2 t (l.take q.toNat)) (.slice none q.toNat c)≤_;simp [eu]
      ·subst q5
       show eu b (.sl 2 t (l.take q.toNat)) (.slice (some ⟨b',0,none⟩) q.toNat c)≤_;simp only [eu,dx,bH]
       by_cases hb':b' = b
       ·subst hb';simp
       ·simp [hb']
     refine ⟨_,w,G,pt,.inl hrun,?_⟩
     refine R1.put o ho (fun _=>False) (Ext.refl _ _) (fun _ _ _=>⟨rfl,rfl⟩) (fun b h=>h.elim) (d':=.sl 2 t (l.take q.toNat)) ⟨ad,q.toNat,c,rfl,by simp;omega,jQ (sW _ (by omega)) q3,?_⟩ (fun b=>?_) R1.gz rfl rfl rfl (dQ _)
     ·rcases q4 with ⟨g1,g2,g3⟩ | ⟨b,g0,g1,g2,g3,g4,g5⟩
      ·exact .inl ⟨g1,by rw [g2];simp,g3⟩
      ·refine .inr ⟨b,g0,g1,g2,by simp;omega,fun i hi=>?_,g5⟩
       have hi':i<l.length:=by simp at hi;omega
       have:=g4 i hi'
       simpa using this
     ·have k1:=tc b
      have k2:=R.ct b;have k3:=R.cb b;have k4:=hcnt b
      exact ⟨by omega,fun hp=>⟨by omega,(k3 (by omega)).1,(k3 (by omega)).2⟩⟩
   ·cases h
  ·cases h
 ·cases h
theorem P5 (hm:E.n≤C.m) (R:Rel E C s a w G pt) (ho:∀ t,o.dst=some t→t<E.n) (x:Operand) (hop:o.op = .move x)
 (h:zK E o s x=some (true,u)):fC P E C o a w (aA u s):=by unfold zK at h;cases h
theorem Rel.flatten (R:Rel E C s a w G pt) {id st:Nat} {l:List (Int×(List Int×Unit))} (hb:get s (2*id+1) = .uI st l) :
 Rel E C ((2*id+1,.aW st true false Uv l)::s) a w G pt ∧
 ∀ b,TC E.n C.m ((2*id+1,.aW st true false Uv l)::s) a w pt b+aP b (inn l) (inf w pt id st)=TC E.n C.m s a w pt b:=by
 have hid:id<C.m:=by
  rcases Nat.lt_or_ge id C.m with h | h
  ·exact h
  ·rw [R.hb id h] at hb;cases hb
 have hB:=R.bx id;rw [hb] at hB
 have tc:∀ b,TC E.n C.m ((2*id+1,.aW st true false Uv l)::s) a w pt b+aP b (inn l) (inf w pt id st)=TC E.n C.m s a w pt b:=by
  intro b
  have e1:=aM (n:=E.n) (f:=cT s a b) (g:=cT ((2*id+1,.aW st true false Uv l)::s) a b) (fun i _=>by simp only [cT,get_bt])
  have e2:=dH (n:=C.m) (f:=cB s w pt b) (g:=cB ((2*id+1,.aW st true false Uv l)::s) w pt b) hid (fun i hi=>by simp only [cB,bA,hi,if_false])
  have e3:cB ((2*id+1,.aW st true false Uv l)::s) w pt b id=dx b (pt id st):=by simp only [cB,bA,if_true,gQ]
  have e4:cB s w pt b id=dx b (pt id st)+aP b (inn l) (inf w pt id st):=by simp only [cB,hb,gQ]
  unfold TC;omega
 refine ⟨?_,tc⟩
 refine R.step (fun _=>False) (fun i=>i=id) (fun _=>False) rfl R.df (fun i _=>?_) (fun i hi=>?_) (Ext.refl _ _) (fun _ _ _ h=>h) (fun _ _ _=>⟨rfl,rfl⟩) (fun b h=>h.elim) (fun b h=>h.elim) (fun b h=>h.elim)
  (fun i hi=>hi.elim) (fun i hi=>?_) (fun c1 c2 b=>?_) R.gz rfl rfl rfl (dQ _)
 ·simp only [get_bt];exact ⟨trivial,trivial⟩
 ·simp only [bA,hi,if_false];exact ⟨trivial,trivial⟩
 ·subst hi
  simp only [bA,if_true]
  refine ⟨hid,fun _=>?_,fun st' h=>?_⟩
  ·simp only [sI,if_false]
   exact hB.1
  ·refine R.pf i st' ?_
   rw [hb];exact h
 ·have h1:=tc b
  have h2:=R.ct b;have h3:=R.cb b
  exact ⟨by omega,fun h=>h3 (by omega)⟩
theorem P6 (HP:mG P E) (R:Rel E C s a w G pt) (ho:∀ t,o.dst=some t→t<E.n) (T:Nat) (x:Operand) (hop:o.op = .load T x)
 (h:zM E o s T x=some (true,u)):fC P E C o a w (aA u s):=by unfold zM at h;cases h
theorem Rel.sameBox (R:Rel E C s a w G pt) {id:Nat} {d d':D} (hb:get s (2*id+1)=d) (hne:d≠.undef) (h1:nI w G pt id d→nI w G pt id d')
 (h2:∀ b,gQ w pt b id d' = gQ w pt b id d) (h3:aO d' = aO d):Rel E C ((2*id+1,d')::s) a w G pt:=by
 have hid:id<C.m:=by
  rcases Nat.lt_or_ge id C.m with h | h
  ·exact h
  ·rw [R.hb id h] at hb;exact absurd hb.symm hne
 have hB:=R.bx id;rw [hb] at hB
 have tc:∀ b,TC E.n C.m ((2*id+1,d')::s) a w pt b=TC E.n C.m s a w pt b:=by
  intro b;unfold TC
  congr 1
  ·exact aM fun i _=>by simp only [cT,get_bt]
  ·refine aM fun i _=>?_
   simp only [cB,bA]
   by_cases hi:i=id
   ·subst hi;rw [if_pos rfl,h2,hb]
   ·rw [if_neg hi]
 refine R.step (fun _=>False) (fun i=>i=id) (fun _=>False) rfl R.df (fun i _=>?_) (fun i hi=>?_) (Ext.refl _ _) (fun _ _ _ h=>h) (fun _ _ _=>⟨rfl,rfl⟩) (fun b h=>h.elim) (fun b h=>h.elim) (fun b h=>h.elim)
  (fun i hi=>hi.elim) (fun i hi=>?_) (fun c1 c2 b=>?_) R.gz rfl rfl rfl (dQ _)
 ·simp only [get_bt];exact ⟨trivial,trivial⟩
 ·simp only [bA,hi,if_false];exact ⟨trivial,trivial⟩
 ·subst hi
  simp only [bA,if_true]
  refine ⟨hid,h1 hB,fun st' h=>?_⟩
  refine R.pf i st' ?_;rw [hb,←h3];exact h
 ·rw [tc b]
  exact ⟨R.ct b,R.cb b⟩
theorem af0 (p q:Nat):¬ (2*p+1=2*q):=by omega
theorem anh (p q:Nat) (h:q≠p):¬ (2*p+1=2*q+1):=by omega
theorem Rel.KP (R:Rel E C s a w G pt) {id st:Nat} {t:Ty} {l:List (List t.den)} {h:Option (Nat×Nat×Nat)} (hb:get s (2*id+1) = .dP st t l h) :
 Rel E C ((2*id+1,.aI st true (bM t l h))::s) a w G pt:=
 R.sameBox hb (by simp) Co.1 (fun b=>rfl) rfl
theorem Rel.Gf (R:Rel E C s a w G pt) {id st:Nat} {t:Ty} {l:List (List t.den)} {h:Option (Nat×Nat×Nat)} (hb:get s (2*id+1) = .aI st true (bM t l h)) :
 Rel E C ((2*id+1,.dP st t l h)::s) a w G pt:=
 R.sameBox hb (by simp) Co.2 (fun b=>rfl) rfl
theorem Af {cs:List D} {i:Nat} {d:D} (h:i<cs.length):dL cs i [d]=cs.set i d:=by
 simp only [dL,FL,List.set_eq_take_append_cons_drop,h,if_true,List.singleton_append]
theorem drop_one {cs:List D} {i:Nat} (h:i<cs.length):(cs.drop i).take 1=[cs[i]]:=by
 rw [List.drop_eq_getElem_cons h];rfl
theorem lZ {t:Ty} {l:List (List t.den)} {h:Option (Nat×Nat×Nat)}:(bM t l h).length=l.length:=by
 cases h with
 | none=>simp [bM]
 | some p=>obtain ⟨i,X,st⟩:=p;simp [bM]
theorem Jc {t:Ty} {l:List (List t.den)} {i:Nat} {r:List t.den}:(bM t l none).set i (.sl 2 t r)=bM t (l.set i r) none:=by
 simp only [bM,List.map_set]
theorem Gg {t:Ty} {l:List (List t.den)} {i X st:Nat} {r:List t.den}:(bM t l (some (i,X,st))).set i (.sl 2 t r)=bM t (l.set i r) none:=by
 simp only [bM,List.map_set,List.set_set]
theorem M8 (x:Operand) (f:D→D) (h:D→Bool) (id:Nat) (d:D):dA ((2*id+1,d)::s) x f h=dA s x f h:=by
 cases x<;>simp only [dA,get_bt]
theorem D7 (x:Operand) (id:Nat) (d:D):aX ((2*id+1,d)::s) x=aX s x:=by
 cases x<;>simp only [aX,get_bt]
theorem M9 (HP:mG P E) (R:Rel E C s a w G pt) (hdst:o.dst=none) (T:Nat) (x y:Operand) (hop:o.op = .store T x y)
 (h:qW E s T x y=some (true,u)):fC P E C o a w (aA u s):=by
 unfold qW at h;split at h
 ·rename_i i f t r hi hy
  split at h
  ·rename_i id st off hx
   split at h
   ·rename_i st' t' l hb
    cases hc:(Nat.beq st st' && Nat.beq f 2&&Nat.beq i.size 1&&FR E y) with
    | false=>rw [hc] at h;cases h
    | true=>
     rw [hc] at h;simp only [bP] at hc;obtain ⟨⟨⟨q1,q2⟩,q3⟩,q4⟩:=hc;have q1:=dM q1;have q2:=dM q2;have q3':=dM q3;subst q1 q2;simp only [aQ] at h;split at h
     ·rename_i ht
      have ht':=Ty.eq_of_beq ht;subst ht';simp only [bq,eX,Nat.blt_eq] at h;obtain ⟨hlt,rfl⟩:=h;have R1:=R.KP hb
      have hlt':off<(bM t l none).length:=by rw [lZ];exact hlt
      have hs:qg E o ((2*id+1,.aI st true (bM t l none))::s) T x y=some (true,dA s y strip dY++[(2*id+1,.aI st true (bM t (l.set off r) none))]):=by
       unfold qg;rw [D7,hy];show mJ _ _ _ _ _ _=_;unfold mJ;rw [hi];simp only [D7,hy,hx,bA,if_true];have e1:cZ i.ty (.sl 2 t r) = .sl 2 t r:=rfl;simp only [e1,gJ,aQ,leaves,IX,q4,FL,beq_self_eq_true,M8,Af hlt',Jc]
       have e2:(Nat.beq st st&&Nat.beq 1 i.size&&Nat.ble (off+i.size) (bM t l none).length)=true:=by
        rw [q3',bP,bP]
        exact ⟨⟨Nat.beq_refl st,rfl⟩,by rw [Nat.ble_eq];omega⟩
       rw [e2];rfl
      obtain ⟨v,w',G',bX,hr,R2⟩:=Gb HP R1 hdst T x y hop hs;refine ⟨v,w',G',bX,hr,?_⟩
      have hg:get (aA (dA s y strip dY++[(2*id+1,.aI st true (bM t (l.set off r) none))]) ((2*id+1,.aI st true (bM t l none))::s)) (2*id+1) = .aI st true (bM t (l.set off r) none):=by
       rw [aU];show get ((2*id+1,_)::_) _=_;simp only [bA,if_true]
      have R3:=R2.Gf hg
      refine R3.congr fun k=>?_
      rw [aU,aU];show get ((2*id+1,_)::_) k=get ((2*id+1,_)::(2*id+1,_)::_) k;simp only [aH]
      by_cases hk:k=2*id+1
      ·simp only [hk,if_true];rfl
      ·simp only [hk,if_false]
       cases y with
       | tmp q=>
        simp only [dA]
        cases dY (get s (2*q)) with
        | true=>simp only [aQ,aA,aH,hk,if_false]
        | false=>simp only [bU,aA,aH,hk,if_false]
       | _=>simp only [dA,aA,aH,hk,if_false]
     ·cases h
   ·cases h
  ·cases h
 ·cases h
def tF (E:Env) (f:Nat→Nat):Env:={ E with md:=f }
theorem Rel.md (R:Rel E C s a w G pt) (f:Nat→Nat):Rel (tF E f) C s a w G pt:=
 ⟨R.sz,R.df,R.tm,R.bx,R.ht,R.hb,R.ct,R.cb,R.fr,R.ex,R.gz,R.os,R.out,R.tape,R.hs,R.pf,R.gl,R.pn⟩
theorem Rel.ani {f:Nat→Nat} (R:Rel (tF E f) C s a w G pt):Rel E C s a w G pt:=
 ⟨R.sz,R.df,R.tm,R.bx,R.ht,R.hb,R.ct,R.cb,R.fr,R.ex,R.gz,R.os,R.out,R.tape,R.hs,R.pf,R.gl,R.pn⟩
theorem P7 (HP:mG P E) (R:Rel E C s a w G pt) (hm:E.n≤C.m) (ho:∀ t,o.dst=some t→t<E.n) (T:Nat) (x:Operand) (hop:o.op = .load T x)
 (h:wG E o s T x=some (true,u)):fC P E C o a w (aA u s):=by
 unfold wG at h;split at h
 ·rename_i i dst hi hd
  split at h
  ·rename_i id st off hx
   split at h
   ·rename_i st' t l hb
    cases hc:(Nat.beq st st' && Nat.beq i.size 1 && !i.agg&&Nat.blt 0 t.nc && !Nat.beq dst id) with
    | false=>rw [hc] at h;cases h
    | true=>
     rw [hc] at h;simp only [bP,Bool.not_eq_true'] at hc;obtain ⟨⟨⟨⟨q1,q2⟩,q3⟩,q4⟩,q5⟩:=hc;have q1:=dM q1;have q2':=dM q2;subst q1;have hne:dst≠id:=zC5 q5;simp only [aQ,bq,eX,Nat.blt_eq] at h;obtain ⟨hlt,rfl⟩:=h
     have R1:=(R.KP hb).md fun _=>3
     have hlt':off<(bM t l none).length:=by rw [lZ];exact hlt
     have hrow:(bM t l none)[off] = .sl 2 t (l.getD off []):=by simp [bM,hlt]
     have hs:xX (tF E fun _=>3) o ((2*id+1,.aI st true (bM t l none))::s) T x =
      some (true,[(2*id+1,.aI st true (bM t l (some (off,dst,aO (get s (2*dst+1))+1)))),(2*dst+1,.aW (aO (get s (2*dst+1))+1) true false t (l.getD off [])),(2*dst,.gZ dst (aO (get s (2*dst+1))+1))]):=by
      have et:tag (tF E fun _=>3) o=3:=by simp only [tag,hd,tF];rfl
      unfold xX
      rw [show (tF E fun _=>3).T T=some i from hi]
      simp only [D7,hx,bA,if_true,q2',drop_one hlt',hrow,et,hd,q3,Af hlt',hne,if_false]
      have e2:(Nat.beq st st&&Nat.beq [D.sl 2 t (l.getD off [])].length 1&&Nat.blt 0 1)=true:=by
       rw [bP,bP];exact ⟨⟨Nat.beq_refl st,rfl⟩,rfl⟩
      rw [e2]
      have e3:(Nat.beq 2 2&&Nat.blt 0 t.nc && !Nat.beq dst id && !false)=true:=by
       rw [q4,q5];rfl
      simp only [aQ];rw [e3];rfl
     obtain ⟨v,w',G',bX,hr,R2⟩:=KO (E:=tF E fun _=>3) ⟨HP.ti,HP.cmp⟩ R1 hm ho T x hop hs
     refine ⟨v,w',G',bX,hr,?_⟩;have R2:=R2.ani
     have hg:get (aA [(2*id+1,.aI st true (bM t l (some (off,dst,aO (get s (2*dst+1))+1)))),(2*dst+1,.aW (aO (get s (2*dst+1))+1) true false t (l.getD off [])),(2*dst,.gZ dst (aO (get s (2*dst+1))+1))]
      ((2*id+1,.aI st true (bM t l none))::s)) (2*id+1) = .aI st true (bM t l (some (off,dst,aO (get s (2*dst+1))+1))):=by
      simp only [aA,jq,bA,if_true,Ne.symm hne,if_false]
     have R3:=R2.Gf hg
     refine R3.congr fun k=>?_
     simp only [aA,aH]
     by_cases hk:k=2*id+1
     ·subst hk
      simp only [if_true];rw [if_neg (af0 id dst),if_neg (anh id dst hne)]
     ·simp only [hk,if_false]
   ·cases h
  ·cases h
 ·cases h
theorem P8 (HP:mG P E) (R:Rel E C s a w G pt) (hm:E.n≤C.m) (ho:∀ t,o.dst=some t→t<E.n) (T:Nat) (x y:Operand) (hop:o.op = .makeSlice T x y)
 (h:wH E o s T x y=some (true,u)):fC P E C o a w (aA u s):=by
 unfold wH at h;split at h
 ·rename_i i dst hi hd
  have hdn:=ho dst hd;have hu:=(HP.ti _ _ hi).und;split at h
  ·rename_i e hde
   rw [hde] at hu;split at h
   ·rename_i ei uF
    obtain ⟨pi,z,p1,p2,p3,p4,p5,p6,p7,p8⟩:=(HP.ti _ _ uF).info;split at h
    ·rename_i t t' k n k' m hty hz hx hy
     cases hb:(t'.beq t&&Nat.beq ei.size 1&&Nat.beq ei.bytes 24) with
     | false=>simp only [hb,bU,reduceCtorEq] at h
     | true=>
      simp only [hb,aQ,bq,eX,bP,jH] at h;obtain ⟨⟨⟨h0,rfl⟩,h2⟩,rfl⟩:=h;simp only [bP] at hb;have hbt:=Ty.eq_of_beq hb.1.1;subst hbt;have hb1:=dM hb.1.2;have hb2:=dM hb.2;have hxv:=aV R x;rw [hx] at hxv;have hyv:=aV R y;rw [hy] at hyv
      have hm63:m≤9223372036854775807:=by rw [hb2] at h2;unfold big at h2;omega
      have hby:((pi.bytes:Nat):Int)*m≤281474976710656:=by rw [p3,Int.mul_comm];unfold big at h2;omega
      have hrun:(execOp a.eval o).run P w = .ok (.value (.slice (some ⟨w.heap.size,0,none⟩) m.toNat m.toNat)) (w.alloc (.cells (madeCells z.cells (m.toNat*pi.size)) e)):=by
       have:=run_make (P:=P) w T e pi z hu p1 p4 k k' m m h0 (Int.le_refl _) hby hm63;simp [execOp,hop,hxv.1,hyv.1,this]
      have hzn:∀ j,j<m.toNat→aS (madeCells z.cells (m.toNat*pi.size)) j=aS z.cells 0:=by
       intro j hj;have hsz:z.cells.size=ei.size:=p5;obtain ⟨rc1,rc2⟩:=Ad z.cells m.toNat
       have hmc:madeCells z.cells (m.toNat*pi.size)=(Array.range (m.toNat*z.cells.size)).map (z.cells[· % z.cells.size]!):=by rw [show m.toNat*pi.size=m.toNat*z.cells.size by rw [p2,hsz]];rfl
       rw [hmc,rc2 j (by rw [hsz,hb1];omega),hsz,hb1,Nat.mod_one]
      have hz0:ei.zero[0]'(by rw [hz];simp) = .sl 2 t' []:=by simp [hz]
      have hz1:=p8 0 (by rw [hz];simp)
      rw [hz0] at hz1
      have hz2:=p7 0 (by rw [hb1];omega)
      have UE:(madeCells z.cells (m.toNat*pi.size)).size=m.toNat:=by rw [size_madeCells,p2,hb1,Nat.mul_one]
      have hl:(bM t' (List.replicate m.toNat []) none).length=m.toNat:=by rw [lZ,List.length_replicate]
      have hrow:∀ j (hj:j<(bM t' (List.replicate m.toNat []) none).length),(bM t' (List.replicate m.toNat []) none)[j] = .sl 2 t' []:=by
       intro j hj;simp [bM]
      have hbig:m.toNat≤big:=by rw [hb2] at h2;unfold big at h2 ⊢;omega
      have:=R.aav hm dst hdn (ds:=bM t' (List.replicate m.toNat []) none) (cells:=madeCells z.cells (m.toNat*pi.size)) (e:=e) (n:=m.toNat)
       (fun j hj=>by
        rw [hl] at hj;rw [hrow,hzn j hj]
        exact ⟨hz1.1 _ _ _,hz2⟩)
       (by rw [hl,UE];exact dQ _)
       (fun b=>by
        have:aP b (bM t' (List.replicate m.toNat []) none) (aS (madeCells z.cells (m.toNat*pi.size)))=0:=
         su _ _ fun j hj=>by
          rw [hl] at hj;rw [hrow,hzn j hj];exact hz1.2 b
        omega) (jQ hbig (by decide))
      have R3:=this.Gf (id:=dst) (st:=aO (get s (2*dst+1))+1) (t:=t') (l:=List.replicate m.toNat []) (h:=none) (by simp only [jq,bA,if_true])
      have R4:=R3.congr (s':=aA [(2*dst+1,D.dP (aO (get s (2*dst+1))+1) t' (List.replicate m.toNat []) none),(2*dst,D.BZ dst (aO (get s (2*dst+1))+1) m.toNat)] s) fun k=>by
       simp only [aA,aH]
       by_cases hk:k=2*dst+1
       ·subst hk
        simp only [if_true];rw [if_neg (af0 dst dst)]
       ·simp only [hk,if_false]
      rw [←hd] at R4;exact ⟨_,_,G,_,.inl hrun,R4⟩
    ·cases h
   ·cases h
  ·cases h
 ·cases h
end
def eO (E:Env) (o:Oper):Bool:=
 match o.dst with
 | some t=>Nat.blt t E.n
 | none=>true
def D8:Op→Bool
 | .store _ _ _=>true
 | _=>false
def Jd (E:Env) (o:Oper) (s:St):Option (Bool×St):=
 bif eO E o&&(!D8 o.op || o.dst.isNone) then act E o s else none
section
variable {P:Program} {E:Env} {C:Ctx} {s:St} {a:Act} {w:World} {G:Nat→Nat} {pt:Nat→Nat→Option Value} {o:Oper} {u:St}
theorem af2 {α:Type} {xs:Array α} {x:α} (h:xs.toList=[x]):xs = #[x]:=by apply Array.ext';simpa using h
theorem dP {α:Type} {xs:Array α} {x y:α} (h:xs.toList=[x,y]):xs = #[x,y]:=by apply Array.ext';simpa using h
theorem Je (HP:mG P E) (R:Rel E C s a w G pt) (ho:∀ t,o.dst=some t→t<E.n) (b:Builtin) (args:Array Operand) (ts:Array TypeId)
 (hop:o.op = .call { callee:=.builtin b,args:=args,argTypes:=ts }) (h:nO E o s b args.toList ts.toList=some (true,u)):fC P E C o a w (aA u s):=by
 unfold nO at h;split at h
 ·rename_i x T hx hT
  split at h
  ·rename_i n hn
   simp only [bq,eX,true_and] at h;subst h;have hx:=af2 hx;subst hx;exact aao HP R ho x T ts hT hop hn
  ·cases h
 ·rename_i x y T T' hx hT
  have hx:=dP hx;have hT:=dP hT;subst hx hT
  cases hn:KJ E T' with
  | false=>simp [hn] at h
  | true=>
   simp only [hn,aQ] at h;exact M5 HP R ho T T' x y hn hop h
 ·rename_i x y T T' hx hT
  have hx:=dP hx;have hT:=dP hT;subst hx hT;exact UG HP R ho T T' x y hop h
 ·exact Cw R ho args ts false hop h
 ·exact Cw R ho args ts true hop h
 ·cases h
theorem P9 (R:Rel E C s a w G pt) (ho:∀ t,o.dst=some t→t<E.n) (x:Operand) (hop:o.op = .move x)
 (h:sZ o s x=some (true,u)):fC P E C o a w (aA u s):=by
 have hrun:(execOp a.eval o).run P w = .ok (.value (a.eval x)) w:=by simp [execOp,hop]
 have fall:some (true,dA s x strip dY++bN o (aX s x))=some (true,u)→fC P E C o a w (aA u s):=by
  intro h;simp only [bq,eX,true_and] at h;subst h
  exact ⟨_,w,G,pt,.inl hrun,R.take x o ho (Ext.refl _ _) (fun _ _=>rfl) (aV R x) (fun _=>dQ _)⟩
 cases x with
 | const v=>exact fall h
 | global g=>exact fall h
 | func f=>exact fall h
 | tmp t=>
 simp only [sZ] at h;split at h
 ·rename_i ty l hx'
  simp only [bq,eX,true_and] at h;subst h;have hr:=R.tm t;rw [hx'] at hr;have hr0:=hr;obtain ⟨ad,n,c,hv,hn,hbd,hsl⟩:=hr0
  have hnE:t<E.n:=oL R (t:=t) (by rw [hx'];rfl)
  have PN:bg w G pt (.sl 0 ty l) (a.tmps.getD t Go.undef):=by
   refine ⟨ad,n,c,hv,hn,hbd,?_⟩
   rcases hsl with ⟨h1,h2,h3⟩ | ⟨b,h1,hG,h3,h4,h5,_⟩
   ·exact ⟨by subst h2;simp,.inl h2⟩
   ·exact ⟨h4,.inr ⟨b,0,h1,by rw [hG];omega,h5⟩⟩
  obtain ⟨R1,t1⟩:=R.IZ t hnE (d:=.sl 0 ty l) PN (fun b=>by rw [hv];cases ad<;>rfl)
  refine ⟨_,w,G,pt,.inl hrun,?_⟩;show Rel E C (aA (bN o (.sl 1 ty l)) ((2*t,.sl 0 ty l)::s)) (a.put o.dst (a.eval (.tmp t))) w G pt
  refine R1.put o ho (fun _=>False) (Ext.refl _ _) (fun _ _ _=>⟨rfl,rfl⟩) (fun _ h=>h.elim) hr (fun b=>?_) R1.gz rfl rfl rfl (dQ _)
  have e:dN b (.sl 1 ty l) (a.eval (.tmp t))=cT s a b t:=by
   simp only [cT,hx'];rfl
  have h1:=t1 b;have h2:=R.ct b;have h3:=R.cb b;rw [e]
  exact ⟨by omega,fun h=>⟨by omega,(h3 (by omega)).1,(h3 (by omega)).2⟩⟩
 ·exact fall h
theorem KQ (R:Rel E C s a w G pt) (ho:∀ t,o.dst=some t→t<E.n) (x:Operand) (hop:o.op = .move x)
 (h:lM E o s x=some (true,u)):fC P E C o a w (aA u s):=by
 unfold lM at h
 cases hc:Nat.beq (tag E o) 6 with
 | true=>rw [hc] at h;exact P9 R ho x hop h
 | false=>rw [hc] at h;exact Pm R ho x hop h
theorem Gh (R:Rel E C s a w G pt) (ho:∀ t,o.dst=some t→t<E.n) (fn:Fn) (first caps:Array Operand) (hop:o.op = .makeFunc fn first caps)
 (h:lI o s fn first.toList caps.toList=some (true,u)):fC P E C o a w (aA u s):=by
 unfold lI at h;split at h
 ·rename_i f x hf hc
  split at h
  ·rename_i t v hx
   simp only [bq,eX,true_and] at h;subst h;have hr:=aV R x;rw [hx] at hr;obtain ⟨b,off,h1,h2,h3,h4⟩:=hr;have hc:=af2 hc
   have hf:first = #[]:=by apply Array.ext';simpa using hf
   subst hc hf
   refine pure_ok R ho (v:=.func (.func f) #[] #[a.eval x]) (by simp [execOp,hop];rfl) ⟨b,off,by rw [h1];simp,by simpa using h3,by simpa using h4 0 (by simp)⟩ (fun _=>rfl)
  ·cases h
 ·cases h
theorem Qa (HP:mG P E) (hm:E.n≤C.m) (R:Rel E C s a w G pt) (h:Jd E o s=some (true,u)):fC P E C o a w (aA u s):=by
 unfold Jd at h
 cases hd:(eO E o&&(!D8 o.op || o.dst.isNone)) with
 | false=>simp [hd] at h
 | true=>
  simp only [hd,aQ] at h;simp only [bP] at hd;obtain ⟨hd,hs⟩:=hd
  have ho:∀ t,o.dst=some t→t<E.n:=by
   intro t ht
   simpa [eO,ht,Nat.blt_eq] using hd
  unfold act at h;split at h
  ·rename_i x hop
   cases h9:Nat.beq (tag E o) 9 with
   | true=>rw [h9] at h;exact P5 hm R ho x hop h
   | false=>rw [h9] at h;exact KQ R ho x hop h
  ·rename_i x hop;exact MR R hm ho x hop h
  ·rename_i T hop;exact PS HP R hm ho T hop h
  ·rename_i T x hop;exact aaw HP R hm ho T x hop h
  ·rename_i T ps hop;exact PL HP R ho T ps hop h
  ·rename_i T n ps hop
   cases h8:Nat.beq (tag E o) 8 with
   | true=>rw [h8] at h;exact F9 HP hm R ho T n ps hop h
   | false=>rw [h8] at h;exact Ca HP R ho T n ps hop h
  ·rename_i T x hop
   cases h11:Nat.beq (tag E o) 11 with
   | true=>rw [h11] at h;exact P6 HP R ho T x hop h
   | false=>
    rw [h11] at h
    cases h13:Nat.beq (tag E o) 13 with
    | true=>rw [h13] at h;exact P7 HP R hm ho T x hop h
    | false=>rw [h13] at h;exact KO HP R hm ho T x hop h
  ·rename_i T x y hop
   have:o.dst=none:=by
    rw [hop] at hs
    simpa [D8] using hs
   split at h
   ·rename_i r hr
    cases h;exact M9 HP R this T x y hop hr
   ·exact Gb HP R this T x y hop h
  ·rename_i x hop;exact FV R ho x hop h
  ·rename_i op xT x y yT hop;exact aan HP R ho op xT x y yT hop h
  ·rename_i op xT x hop;exact afR R ho op xT x hop h
  ·rename_i sT dT x hop;exact UF HP R ho sT dT x hop h
  ·rename_i T l c hop
   cases h13:Nat.beq (tag E o) 13 with
   | true=>rw [h13] at h;exact P8 HP R hm ho T l c hop h
   | false=>rw [h13] at h;exact DZ HP R ho T l c hop h
  ·rename_i T x lo hi hop
   split at h
   ·cases h14:Nat.beq (tag E o) 14 with
    | true=>rw [h14] at h;exact M6 HP R ho T x lo hi hop h
    | false=>rw [h14] at h;exact M7 HP R ho T x lo hi hop h
   ·exact Pz HP R ho T x lo hi hop h
  ·rename_i T x lo hi mx hop
   cases h12:Nat.beq (tag E o) 12 with
   | true=>rw [h12] at h;exact I7 HP R ho T x lo hi mx hop h
   | false=>rw [h12] at h;exact MX HP R ho T x lo hi mx hop h
  ·rename_i T x f hop;exact DW HP R ho T x f hop h
  ·rename_i T x f hop;exact PV HP R ho T x f hop h
  ·rename_i T x i hop;exact DY HP R ho T x i hop h
  ·rename_i T x i hop;exact Py HP R ho T x i hop h
  ·rename_i x i hop;exact I5 R ho x i hop h
  ·rename_i fn first caps hop;exact Gh R ho fn first caps hop h
  ·rename_i c hop
   split at h
   ·rename_i b hb
    obtain ⟨callee,args,argTypes⟩:=c;simp only at hb h;subst hb;exact Je HP R ho b args argTypes hop h
   ·cases h
  ·cases h
theorem UH (R:Rel E C s a w G pt) (hd:eO E o=true) (c x y:Operand) (b:Bool) (hop:o.op = .pick c x y) (hc:aX s c = .bool b)
 (h:lM E o s (bif b then x else y)=some (true,u)):fC P E C o a w (aA u s):=by
 have ho:∀ t,o.dst=some t→t<E.n:=by
  intro t ht
  simpa [eO,ht,Nat.blt_eq] using hd
 have hcv:=aV R c;rw [hc] at hcv;have hcv:a.eval c = .bool b:=hcv
 have hx:∀ o':Oper,o'.dst=o.dst→o'.op = .move (bif b then x else y)→lM E o' s (bif b then x else y)=some (true,u)→fC P E C o a w (aA u s):=by
  intro o' hd' hop' h'
  obtain ⟨v,w',G',bX,hr,hR⟩:=KQ (P:=P) R (by rw [hd'];exact ho) (bif b then x else y) hop' h'
  have e:(execOp a.eval o).run P w=(execOp a.eval o').run P w:=by
   cases b<;>simp [execOp,hop,hop',hcv,asBool]
  rw [←e] at hr;rw [hd'] at hR;exact ⟨v,w',G',bX,hr,hR⟩
 refine hx { o with op:=.move (bif b then x else y) } rfl rfl ?_
 exact h
end
end Go.gI