/- The abstract evaluator, part 2: proved is that loads, stores, slices, appends and copies keep the relation between abstract values and memory; no conditions but those that each theorem states. -/
import Derived.Test.YtmpfafdaadhabaaGreatDoorAbsA
import Derived.Laws.BytesArg
import Derived.Laws.IdiomStrings
import Derived.Laws.MakeOwn
set_option linter.unusedVariables false
set_option linter.unusedSimpArgs false
namespace Go.aW
section
variable {P:Program} {E:Env} {C:Ctx} {s:St} {a:Act} {w:World} {G:Nat→Nat} {pt:Nat→Nat→Option Value} {o:Oper} {u:St}
theorem iR {T e:TypeId} {i:Operand} {k:IntKind} {n:Int} {pi:TypeInfo} (hu:P.underlying T=some (.slice e)) (hi:P.info? e=some pi) (hiv:a.eval i = .int k n)
    {x:Operand} {b off len c:Nat} (hv:a.eval x = .slice (some ⟨b,off,none⟩) len c) (h0:0≤n) (h1:n<(len:Int)) (hop:o.op = .indexAddr T x i) :
    (execOp a.eval o).run P w = .ok (.value (.pointer (some ⟨b,off+n.toNat*pi.size,none⟩))) w:=by
  simp [execOp,hop,Instr.indexAt,hiv,hv,asIntOf,run_underlying hu,h0,h1,sizeOf,typeInfo,hi,Addr.add_mid]
theorem fV {T e len:TypeId} {i:Operand} {k:IntKind} {n:Int} {pi:TypeInfo} (hu:P.underlying T=some (.array len e)) (hi:P.info? e=some pi) (hiv:a.eval i = .int k n)
    {x:Operand} {b off:Nat} (hv:a.eval x = .pointer (some ⟨b,off,none⟩)) (h0:0≤n) (h1:n<(len:Int)) (hop:o.op = .indexAddr T x i) :
    (execOp a.eval o).run P w = .ok (.value (.pointer (some ⟨b,off+n.toNat*pi.size,none⟩))) w:=by
  simp [execOp,hop,Instr.indexAt,hiv,hv,asIntOf,run_underlying hu,h0,h1,sizeOf,typeInfo,hi,Addr.add_mid,Instr.sureAddr]
theorem Cm (HP:nM P E) (R:Rel E C s a w G pt) (ho:∀ t,o.dst=some t→t<E.n) (T:Nat) (x i:Operand) (hop:o.op = .indexAddr T x i)
    (h:jJ E o s T x i=some (true,u)):fC P E C o a w (ak u s):=by
  have hx:=aT R x
  have hi:=aT R i
  simp only [jJ] at h
  split at h
  · rename_i ti k n hti h2
    rw [h2] at hi
    obtain ⟨hiv,_⟩:=hi
    have hu:=(HP.ti _ _ hti).und
    split at h
    · rename_i e hd
      rw [hd] at hu
      split at h
      · rename_i ei uS
        obtain ⟨pi,z,p1,p2,_⟩:=(HP.ti _ _ uS).info
        split at h
        · rename_i f t l h1
          cases hb:Nat.beq ei.size t.nc with
          | false=>simp [hb] at h
          | true=>
            simp only [hb,cond_true,Option.some.injEq,Prod.mk.injEq,Bool.and_eq_true,decide_eq_true_eq] at h
            obtain ⟨⟨hn0,hn1⟩,rfl⟩:=h
            have hb:=Nat.eq_of_beq_eq_true hb
            obtain ⟨G',eG,R1,hv1,hv2,hv3⟩:=R.xL x (by rw [h1];rfl)
            rw [h1] at hv1
            obtain ⟨ad,m,c,hv,hm,hbd,hsl,hel⟩:=hv1
            rcases hel with hel | ⟨b,off,had,hG,hE⟩
            · subst hel;simp at hn1;omega
            · subst had
              rw [aP]
              have hrun:=iR (P:=P) (w:=w) hu p1 hiv hv hn0 (by omega) hop
              refine ⟨_,w,G',pt,.inl hrun,R1.wV o ho ⟨b,off,?_,by omega,hG,hE⟩ (fun _=>rfl)⟩
              rw [p2,hb]
              simp
        · rename_i id st h1
          split at h
          · rename_i st' t l hbx
            cases hb:(Nat.beq st st' && Nat.beq ei.size t.nc) with
            | false=>simp [hb] at h
            | true=>
              simp only [hb,cond_true,Option.some.injEq,Prod.mk.injEq,Bool.and_eq_true,decide_eq_true_eq] at h
              obtain ⟨⟨hn0,hn1⟩,rfl⟩:=h
              simp only [Bool.and_eq_true] at hb
              have hst:=Nat.eq_of_beq_eq_true hb.1
              have hsz:=Nat.eq_of_beq_eq_true hb.2
              subst hst
              rw [h1] at hx
              have hB:=R.bx id
              rw [hbx] at hB
              have hB:=hB rfl
              simp only [Bool.false_eq_true,if_false] at hB
              obtain ⟨ad,m,c,q1,q2,q3,q4⟩:=hB
              have hv:pt id st=some (a.eval x):=hx
              rw [hv] at q1
              injection q1 with q1
              rcases q4 with ⟨_,q5,_⟩ | ⟨b,q5,_⟩
              · subst q5;simp at hn1;omega
              · subst q5
                have hrun:=iR (P:=P) (w:=w) hu p1 hiv q1 hn0 (by omega) hop
                refine pure_ok R ho hrun ⟨b,by rw [hv,q1];rfl,?_⟩ (fun _=>rfl)
                rw [p2]
                simp
          · rename_i st' l hbx
            cases hb:(Nat.beq st st' && Nat.beq ei.size 2) with
            | false=>simp [hb] at h
            | true=>
              simp only [hb,cond_true,Option.some.injEq,Prod.mk.injEq,Bool.and_eq_true,decide_eq_true_eq] at h
              obtain ⟨⟨hn0,hn1⟩,rfl⟩:=h
              simp only [Bool.and_eq_true] at hb
              have hst:=Nat.eq_of_beq_eq_true hb.1
              have hsz:=Nat.eq_of_beq_eq_true hb.2
              subst hst
              rw [h1] at hx
              have hB:=R.bx id
              rw [hbx] at hB
              obtain ⟨⟨ad,m,c,q1,q2,q3,q4⟩,_⟩:=hB
              have hv:pt id st=some (a.eval x):=hx
              rw [hv] at q1
              injection q1 with q1
              rcases q4 with ⟨_,q5,_⟩ | ⟨b,q5,_⟩
              · subst q5;simp at hn1;omega
              · subst q5
                have hrun:=iR (P:=P) (w:=w) hu p1 hiv q1 hn0 (by omega) hop
                refine pure_ok R ho hrun ⟨b,by rw [hv,q1];rfl,?_⟩ (fun _=>rfl)
                rw [p2,hsz]
                simp
          · cases h
        · rename_i id st m h1
          rw [h1] at hx
          obtain ⟨hx,hm⟩:=hx
          have hw:0≤n→n<(m:Int)→∃ b c,bA (pt id st)=some b∧a.eval x = .slice (some ⟨b,0,none⟩) m c:=by
            intro g0 g1
            rcases hx with hx | ⟨hx,_⟩
            · exact hx
            · subst hx;omega
          split at h
          · rename_i st' t l hbx
            cases hb:(Nat.beq st st' && Nat.beq ei.size t.nc) with
            | false=>simp [hb] at h
            | true=>
              simp only [hb,cond_true,Option.some.injEq,Prod.mk.injEq,Bool.and_eq_true,decide_eq_true_eq] at h
              obtain ⟨⟨hn0,hn1⟩,rfl⟩:=h
              obtain ⟨b,c,hb1,hv⟩:=hw hn0 hn1
              have hrun:=iR (P:=P) (w:=w) hu p1 hiv hv hn0 hn1 hop
              refine pure_ok R ho hrun ⟨b,hb1,?_⟩ (fun _=>rfl)
              rw [p2]
              simp
          · rename_i st' cs hbx
            cases hb:Nat.beq st st' with
            | false=>simp [hb] at h
            | true=>
              simp only [hb,cond_true,Option.some.injEq,Prod.mk.injEq,Bool.and_eq_true,decide_eq_true_eq] at h
              obtain ⟨⟨hn0,hn1⟩,rfl⟩:=h
              obtain ⟨b,c,hb1,hv⟩:=hw hn0 hn1
              have hrun:=iR (P:=P) (w:=w) hu p1 hiv hv hn0 hn1 hop
              refine pure_ok R ho hrun ⟨b,hb1,?_⟩ (fun _=>rfl)
              rw [p2]
              simp
          · cases h
        · cases h
      · cases h
    · rename_i len e hd
      rw [hd] at hu
      split at h
      · rename_i ei uS
        obtain ⟨pi,z,p1,p2,_⟩:=(HP.ti _ _ uS).info
        split at h
        · rename_i id st off h1
          rw [h1] at hx
          obtain ⟨b,hb,hv⟩:=hx
          split at h
          · rename_i st' t l hbx
            cases hbb:(Nat.beq st st' && Nat.beq off 0) with
            | false=>simp [hbb] at h
            | true=>
              simp only [hbb,cond_true] at h
              simp only [Bool.and_eq_true] at hbb
              have hoff:=Nat.eq_of_beq_eq_true hbb.2
              subst hoff
              cases ht1:Nat.beq t.nc 1 with
              | true=>
                simp only [ht1,cond_true,Option.some.injEq,Prod.mk.injEq,Bool.and_eq_true,decide_eq_true_eq] at h
                obtain ⟨⟨hn0,hn1⟩,rfl⟩:=h
                have hrun:=fV (P:=P) (w:=w) hu p1 hiv hv hn0 hn1 hop
                exact pure_ok R ho hrun ⟨b,hb,by rw [p2];simp⟩ (fun _=>rfl)
              | false=>
                simp only [ht1,cond_false,Option.some.injEq,Prod.mk.injEq,Bool.and_eq_true,decide_eq_true_eq] at h
                obtain ⟨⟨hn0,hn1⟩,rfl⟩:=h
                have hrun:=fV (P:=P) (w:=w) hu p1 hiv hv hn0 hn1 hop
                exact pure_ok R ho hrun ⟨b,hb,by rw [p2];simp⟩ (fun _=>rfl)
          · rename_i hbx
            simp only [Option.some.injEq,Prod.mk.injEq,Bool.and_eq_true,decide_eq_true_eq] at h
            obtain ⟨⟨hn0,hn1⟩,rfl⟩:=h
            have hrun:=fV (P:=P) (w:=w) hu p1 hiv hv hn0 hn1 hop
            exact pure_ok R ho hrun ⟨b,hb,by rw [p2]⟩ (fun _=>rfl)
          · cases h
        · rename_i id st i0 off es h1
          rw [h1] at hx
          obtain ⟨b,hb,hv⟩:=hx
          cases hbb:(Nat.beq off 0&&Nat.beq es 1) with
          | false=>simp [hbb] at h
          | true=>
            simp only [hbb,cond_true,Option.some.injEq,Prod.mk.injEq,Bool.and_eq_true,decide_eq_true_eq] at h
            obtain ⟨⟨hn0,hn1⟩,rfl⟩:=h
            simp only [Bool.and_eq_true] at hbb
            have e1:=Nat.eq_of_beq_eq_true hbb.1
            have e2:=Nat.eq_of_beq_eq_true hbb.2
            subst e1;subst e2
            have hrun:=fV (P:=P) (w:=w) hu p1 hiv hv hn0 hn1 hop
            exact pure_ok R ho hrun ⟨b,hb,by rw [p2];simp⟩ (fun _=>rfl)
        · rename_i g off h1
          rw [h1] at hx
          have hv:a.eval x = .pointer (some ⟨g,off,none⟩):=hx
          simp only [Option.some.injEq,Prod.mk.injEq,Bool.and_eq_true,decide_eq_true_eq] at h
          obtain ⟨⟨hn0,hn1⟩,rfl⟩:=h
          have hrun:=fV (P:=P) (w:=w) hu p1 hiv hv hn0 hn1 hop
          exact pure_ok R ho hrun (by rw [p2];rfl) (fun _=>rfl)
        · rename_i t l j off h1
          rw [h1] at hx
          obtain ⟨b,ob,hv,hr⟩:=hx
          simp only [Option.some.injEq,Prod.mk.injEq,Bool.and_eq_true,decide_eq_true_eq] at h
          obtain ⟨⟨hn0,hn1⟩,rfl⟩:=h
          have hrun:=fV (P:=P) (w:=w) hu p1 hiv hv hn0 hn1 hop
          exact pure_ok R ho hrun ⟨b,ob,by rw [p2,Nat.add_assoc],hr⟩ (fun _=>rfl)
        · rename_i kk l h1
          rw [h1] at hx
          obtain ⟨b,ob,hv,hG,hr⟩:=hx
          cases hb1:Nat.beq ei.size 1 with
          | false=>simp [hb1] at h
          | true=>
            simp only [hb1,cond_true,Option.some.injEq,Prod.mk.injEq,Bool.and_eq_true,decide_eq_true_eq] at h
            obtain ⟨⟨⟨hn0,hn1⟩,hlt⟩,rfl⟩:=h
            have hlt:n.toNat<l.length:=by simpa [Nat.blt_eq] using hlt
            have hb1:=Nat.eq_of_beq_eq_true hb1
            have hrun:=fV (P:=P) (w:=w) hu p1 hiv hv hn0 hn1 hop
            refine pure_ok R ho hrun ⟨b,ob,by rw [p2,hb1];simp [Ty.nc],hlt,by simpa [Ty.nc] using hG,hr⟩ (fun _=>rfl)
        · cases h
      · cases h
    · cases h
  · cases h
theorem oP (R:Rel E C s a w G pt) {x:Option Operand} {z:Nat} {n:Int} (h:bound s x z=some n) :
    (x=none∧n=z)∨∃ y k,x=some y∧a.eval y = .int k n:=by
  cases x with
  | none=>simp only [bound,Option.some.injEq] at h;exact .inl ⟨rfl,h.symm⟩
  | some y=>
    have hy:=aT R y
    simp only [bound] at h
    split at h
    · rename_i k m h1
      simp only [Option.some.injEq] at h
      subst h
      rw [h1] at hy
      exact .inr ⟨y,k,rfl,hy.1⟩
    · cases h
theorem iZ (R:Rel E C s a w G pt) (isS:Bool) {lo hi:Option Operand} {len cap:Nat} {p q:Int} (hl:bound s lo 0=some p) (hh:bound s hi len=some q) (h0:0≤p) (h1:p≤q) (h2:q≤(len:Int)) (hc:len≤cap) :
    (Instr.sliceBounds isS len cap (lo.map a.eval) (hi.map a.eval) none).run P w = .ok (p.toNat,q.toNat,cap) w:=by
  rcases oP R hl with ⟨rfl,rfl⟩ | ⟨y,k,rfl,hy⟩<;>rcases oP R hh with ⟨rfl,rfl⟩ | ⟨z,k',rfl,hz⟩
  · simp [Instr.sliceBounds]
  · simp [Instr.sliceBounds,Instr.sliceBound,hz,asIntOf,show 0≤q by omega,show q≤(cap:Int) by omega]
  · simp [Instr.sliceBounds,Instr.sliceBound,hy,asIntOf,h0,show p≤(len:Int) by omega]
  · simp [Instr.sliceBounds,Instr.sliceBound,hz,hy,asIntOf,h0,show 0≤q by omega,show q≤(cap:Int) by omega]
    intro h
    omega
theorem vo (R:Rel E C s a w G pt) {lo:Option Operand} {hi mx:Operand} {len cap:Nat} {p q m:Int} (hl:bound s lo 0=some p) (hh:bound s (some hi) len=some q) (hm:bound s (some mx) 0=some m) (h0:0≤p) (h1:p≤q) (h2:q≤(len:Int)) (hc:len≤cap) (hmq:m=q) :
    (Instr.sliceBounds true len cap (lo.map a.eval) (some (a.eval hi)) (some (a.eval mx))).run P w = .ok (p.toNat,q.toNat,q.toNat) w:=by
  subst hmq
  rcases oP R hh with ⟨h,_⟩ | ⟨z,k',h,hz⟩
  · cases h
  · cases h
    rcases oP R hm with ⟨h,_⟩ | ⟨z',k'',h,hz'⟩
    · cases h
    · cases h
      have hmm:max m 0=m:=by omega
      rcases oP R hl with ⟨rfl,rfl⟩ | ⟨y,k,rfl,hy⟩
      · simp [Instr.sliceBounds,Instr.sliceBound,hz,hz',asIntOf,show 0≤m by omega,show m≤(cap:Int) by omega,hmm]
      · simp [Instr.sliceBounds,Instr.sliceBound,hz,hz',hy,asIntOf,h0,h1,show 0≤m by omega,show m≤(cap:Int) by omega,hmm]
theorem Km (HP:nM P E) (R:Rel E C s a w G pt) (ho:∀ t,o.dst=some t→t<E.n) (T:Nat) (x:Operand) (lo:Option Operand) (hi mx:Operand) (hop:o.op = .slice T x lo (some hi) (some mx))
    (h:qb E o s T x lo hi mx=some (true,u)):fC P E C o a w (ak u s):=by
  have hx:=aT R x
  simp only [qb] at h
  split at h
  · rename_i ti hti
    have hu:=(HP.ti _ _ hti).und
    split at h
    · rename_i e f t l hd h1
      rw [hd] at hu
      split at h
      · rename_i ei p q mm uS hl hh hmx
        obtain ⟨pi,z,p1,p2,_⟩:=(HP.ti _ _ uS).info
        cases hb:Nat.beq ei.size t.nc with
        | false=>simp [hb] at h
        | true=>
          simp only [hb,cond_true,Option.some.injEq,Prod.mk.injEq,Bool.and_eq_true,decide_eq_true_eq] at h
          obtain ⟨⟨⟨⟨h0,h1'⟩,h2⟩,h3⟩,rfl⟩:=h
          have hb:=Nat.eq_of_beq_eq_true hb
          obtain ⟨G',eG,R1,hv1,hv2,hv3⟩:=R.xL x (by rw [h1];rfl)
          rw [h1] at hv1
          obtain ⟨ad,m,c,hv,hm,hbd,hsl,hel⟩:=hv1
          have hsb:=vo (P:=P) R hl hh hmx h0 h1' h2 hsl h3
          have hlen:((l.take q.toNat).drop p.toNat).length=q.toNat - p.toNat:=by simp;omega
          rw [aP]
          have hrun:(execOp a.eval o).run P w = .ok (.value (.slice (if q.toNat=p.toNat then ad else ad.map (·.add (p.toNat*pi.size))) (q.toNat - p.toNat) (q.toNat - p.toNat))) w:=by
            rw [hm] at hv
            simp [execOp,hop,Instr.sliceAt,run_underlying hu,Instr.slice,hv,hsb,sizeOf,typeInfo,p1]
          refine ⟨_,w,G',pt,.inl hrun,R1.wV o ho ⟨_,_,rfl,hlen.symm,?_,?_⟩ (fun b=>?_)⟩
          · refine Nat.le_trans (Nat.mul_le_mul_right _ ?_) hbd
            omega
          · refine ⟨by omega,?_⟩
            by_cases hne:q.toNat=p.toNat
            · left
              apply List.eq_nil_of_length_eq_zero
              rw [hlen];omega
            · right
              rcases hel with hel | ⟨b,off,had,hG,hE⟩
              · subst hel;simp at h2;omega
              · subst had
                refine ⟨b,off+p.toNat*t.nc,?_,?_,?_⟩
                · rw [if_neg hne]
                  simp only [Option.map_some,Addr.add_mid,p2,hb]
                · rw [hlen]
                  have:off+l.length*t.nc≤G' b:=hG
                  have e1:(p.toNat+(q.toNat - p.toNat))*t.nc≤l.length*t.nc:=Nat.mul_le_mul_right _ (by omega)
                  rw [Nat.add_mul] at e1
                  omega
                · intro j hj
                  have hj':p.toNat+j<l.length:=by rw [hlen] at hj;omega
                  have:=hE (p.toNat+j) hj'
                  rw [Nat.add_mul,←Nat.add_assoc] at this
                  simpa using this
          · cases (if q.toNat=p.toNat then ad else ad.map (·.add (p.toNat*pi.size)))<;>rfl
      · cases h
    · cases h
  · cases h
theorem Mw (HP:nM P E) (R:Rel E C s a w G pt) (ho:∀ t,o.dst=some t→t<E.n) (T:Nat) (x:Operand) (lo hi:Option Operand) (hop:o.op = .slice T x lo hi none)
    (h:uY E o s T x lo hi=some (true,u)):fC P E C o a w (ak u s):=by
  have hx:=aT R x
  simp only [uY] at h
  split at h
  · rename_i ti hti
    have hu:=(HP.ti _ _ hti).und
    split at h
    · rename_i e f t l hd h1
      rw [hd] at hu
      split at h
      · rename_i ei p q uS hl hh
        obtain ⟨pi,z,p1,p2,_⟩:=(HP.ti _ _ uS).info
        cases hb:Nat.beq ei.size t.nc with
        | false=>simp [hb] at h
        | true=>
          simp only [hb,cond_true,Option.some.injEq,Prod.mk.injEq,Bool.and_eq_true,decide_eq_true_eq] at h
          obtain ⟨⟨⟨h0,h1'⟩,h2⟩,rfl⟩:=h
          have hb:=Nat.eq_of_beq_eq_true hb
          obtain ⟨G',eG,R1,hv1,hv2,hv3⟩:=R.xL x (by rw [h1];rfl)
          rw [h1] at hv1
          obtain ⟨ad,m,c,hv,hm,hbd,hsl,hel⟩:=hv1
          have hsb:=iZ (P:=P) R true hl hh h0 h1' h2 hsl
          have hlen:((l.take q.toNat).drop p.toNat).length=q.toNat - p.toNat:=by simp;omega
          rw [aP]
          have hrun:(execOp a.eval o).run P w = .ok (.value (.slice (if c=p.toNat then ad else ad.map (·.add (p.toNat*pi.size))) (q.toNat - p.toNat) (c - p.toNat))) w:=by
            rw [hm] at hv
            simp [execOp,hop,Instr.sliceAt,run_underlying hu,Instr.slice,hv,hsb,sizeOf,typeInfo,p1]
          refine ⟨_,w,G',pt,.inl hrun,R1.wV o ho ⟨_,_,_,rfl,hlen.symm,?_,?_⟩ (fun b=>?_)⟩
          · refine Nat.le_trans (Nat.mul_le_mul_right _ ?_) hbd
            omega
          · refine ⟨by omega,?_⟩
            by_cases hne:q.toNat=p.toNat
            · left
              apply List.eq_nil_of_length_eq_zero
              rw [hlen];omega
            · right
              rcases hel with hel | ⟨b,off,had,hG,hE⟩
              · subst hel;simp at h2;omega
              · subst had
                have hcp:¬ c=p.toNat:=by omega
                refine ⟨b,off+p.toNat*t.nc,?_,?_,?_⟩
                · rw [if_neg hcp]
                  simp only [Option.map_some,Addr.add_mid,p2,hb]
                · rw [hlen]
                  have:off+l.length*t.nc≤G' b:=hG
                  have e1:(p.toNat+(q.toNat - p.toNat))*t.nc≤l.length*t.nc:=Nat.mul_le_mul_right _ (by omega)
                  rw [Nat.add_mul] at e1
                  omega
                · intro j hj
                  have hj':p.toNat+j<l.length:=by rw [hlen] at hj;omega
                  have:=hE (p.toNat+j) hj'
                  rw [Nat.add_mul,←Nat.add_assoc] at this
                  simpa using this
          · cases (if c=p.toNat then ad else ad.map (·.add (p.toNat*pi.size)))<;>rfl
      · cases h
    · rename_i l hd h1
      rw [hd] at hu
      rw [h1] at hx
      obtain ⟨b,hv,hl',hb⟩:=hx
      split at h
      · rename_i p q hl hh
        simp only [Option.some.injEq,Prod.mk.injEq,Bool.and_eq_true,decide_eq_true_eq] at h
        obtain ⟨⟨⟨h0,h1'⟩,h2⟩,rfl⟩:=h
        have hsz:l.length=b.size:=by rw [←hl'];exact jr b
        rw [hsz] at hh h2
        have hsb:=iZ (P:=P) R false hl hh h0 h1' h2 (Nat.le_refl _)
        refine pure_ok R ho (v:=.string (b.extract p.toNat q.toNat)) ?_ ⟨_,rfl,?_,?_⟩ (fun _=>rfl)
        · simp [execOp,hop,Instr.sliceAt,run_underlying hu,Instr.slice,hv,hsb]
        · rw [←hl']
          simp [jq,List.map_take,List.map_drop,List.extract_eq_take_drop,List.drop_take]
        · simp;omega
      · cases h
    · cases h
  · cases h
end
end Go.aW
namespace Go.aW
theorem fZ {b:Nat}:∀ {ds:List D} {f g:Nat→Value},(∀ j,j<ds.length→f j=g j)→aK b ds f=aK b ds g
  | [],_,_,_=>rfl
  | d::r,f,g,h=>by
    simp only [aK]
    rw [h 0 (by simp),fZ (f:=fun i=>f (i+1)) (g:=fun i=>g (i+1)) fun j hj=>h (j+1) (by simpa using hj)]
def D6 (agg:Bool) (n:Nat) (f:Nat→Value):Value:=bif agg then .agg ((List.range n).map f).toArray else f 0
section
variable {P:Program} {E:Env} {C:Ctx} {s:St} {a:Act} {w:World} {G:Nat→Nat} {pt:Nat→Nat→Option Value} {o:Oper} {u:St}
theorem aQ.congr {ds:List D} {f g:Nat→Value} (h:aQ w G pt ds f) (hfg:∀ j,j<ds.length→f j=g j):aQ w G pt ds g:=by
  intro j hj
  rw [←hfg j hj]
  exact h j hj
theorem jv {agg:Bool} {n:Nat} {ds:List D} {d:D} {f:Nat→Value} (h:mk1 agg ds=some d) (hl:ds.length=n) (hr:aQ w G pt ds f) :
    aY w G pt d (D6 agg n f)∧∀ b,cO b d (D6 agg n f)=aK b ds f:=by
  cases agg with
  | true=>
    simp only [mk1,cond_true,Option.some.injEq] at h
    subst h
    have e:∀ j,j<ds.length→f j=aO ((List.range n).map f).toArray j:=by
      intro j hj
      have hn:j<n:=by omega
      simp [aO,Array.getD_eq_getD_getElem?,hn]
    refine ⟨⟨_,rfl,by simp [hl],hr.congr e⟩,fun b=>?_⟩
    show aK b ds (aO ((List.range n).map f).toArray)=_
    exact (fZ e).symm
  | false=>
    simp only [mk1,cond_false] at h
    match ds,h with
    | [d0],h=>
      simp only [Option.some.injEq] at h
      subst h
      have h0:=(hr 0 (by simp)).1
      simp only [List.getElem_cons_zero] at h0
      refine ⟨?_,fun b=>?_⟩
      · cases d0<;>first | exact h0 | exact absurd h0 id
      · simp only [D6,cond_false,aK,Nat.add_zero]
        cases d0<;>first | rfl | exact absurd h0 id
        all_goals (cases f 0<;>rfl)
theorem oQ {T:TypeId} {i:TI} (hT:Mj P T i) {b off:Nat} {f:Nat→Value} (hc:∀ j,j<i.size→w.cell? ⟨b,off+j,none⟩=some (f j)) :
    (loadVar T ⟨b,off,none⟩).run P w = .ok (D6 i.agg i.size f) w:=by
  obtain ⟨pi,z,p1,p2,_⟩:=hT.info
  cases hag:i.agg with
  | true=>
    have h1:iP i.desc=true:=by rw [←hT.agg];exact hag
    have:=run_loadVar_mid (P:=P) w b off T ((List.range i.size).map f) i.desc (fun j v hj=>by
      rw [List.getElem?_map] at hj
      by_cases hjn:j<i.size
      · rw [List.getElem?_range hjn] at hj
        simp at hj
        rw [←hj];exact hc j hjn
      · rw [List.getElem?_eq_none (by simpa using hjn)] at hj;simp at hj) hT.und (by cases hd:i.desc<;>rw [hd] at h1<;>first | rfl | exact h1) (by simp [p1,p2])
    exact this
  | false=>
    have h1:iP i.desc=false:=by rw [←hT.agg];exact hag
    have hagg:(isAgg T).run P w = .ok false w:=by
      unfold isAgg
      rw [Sem.run_bind,run_underlying hT.und w]
      cases hd:i.desc<;>rw [hd] at h1<;>simp_all [iP]
    have h0:=hc 0 (by rw [hT.one hag];omega)
    simp only [Nat.add_zero] at h0
    simp [loadVar,hagg,h0,D6]
theorem jV {T:TypeId} {i:TI} (hT:Mj P T i) {b off:Nat} {f:Nat→Value} (hc:∀ j,j<i.size→w.cell? ⟨b,off+j,none⟩=some (f j)) {x:Operand}
    (hop:o.op = .load T x) (hv:a.eval x = .pointer (some ⟨b,off,none⟩)):(execOp a.eval o).run P w = .ok (.value (D6 i.agg i.size f)) w:=by
  simp [execOp,hop,hv,Instr.loadAt,Instr.sureAddr,oQ hT hc]
theorem kF {b k:Nat} (h:Room w b k) {j:Nat} (hj:j<k):w.cell? ⟨b,j,none⟩=some (aC w b j):=by
  obtain ⟨cur,e,fr,h1,h2,h3⟩:=h
  have hlt:j<cur.size:=by omega
  simp [aC,World.cell?,h1,hlt]
theorem aQ.sub {ds:List D} {f:Nat→Value} (h:aQ w G pt ds f) (off n:Nat):aQ w G pt ((ds.drop off).take n) (fun j=>f (off+j)):=(h.drop off).take n
theorem fD {cs ds:List D} {off:Nat} (h:off+ds.length≤cs.length):(cZ cs off ds).length=cs.length:=by
  simp [cZ];omega
theorem mP {cs ds:List D} {off:Nat} (h:off+ds.length≤cs.length) {j:Nat} (hj:j<(cZ cs off ds).length) :
    (off≤j∧j<off+ds.length→∀ hh:j - off<ds.length,(cZ cs off ds)[j]=ds[j - off]) ∧
    (¬ (off≤j∧j<off+ds.length)→∀ hh:j<cs.length,(cZ cs off ds)[j]=cs[j]):=by
  have hlt:(cs.take off).length=off:=by simp;omega
  constructor
  · intro h1 hh
    simp only [cZ]
    rw [List.getElem_append_right (by omega),List.getElem_append_left (by omega)]
    simp [hlt]
  · intro h1 hh
    simp only [cZ]
    by_cases h2:j<off
    · rw [List.getElem_append_left (by omega)]
      simp
    · rw [List.getElem_append_right (by omega),List.getElem_append_right (by omega)]
      simp only [List.getElem_drop]
      congr 1
      omega
theorem aQ.cZ {cs ds:List D} {f:Nat→Value} {off:Nat} (h:aQ w G pt cs f) (hd:aQ w G pt ds (fun j=>f (off+j))) (hl:off+ds.length≤cs.length) :
    aQ w G pt (aW.cZ cs off ds) f:=by
  intro j hj
  obtain ⟨q1,q2⟩:=mP hl hj
  have hlen:=fD hl
  by_cases h1:off≤j∧j<off+ds.length
  · rw [q1 h1 (by omega)]
    have:=hd (j - off) (by omega)
    simp only [show off+(j - off)=j by omega] at this
    exact this
  · rw [q2 h1 (by omega)]
    exact h j (by omega)
theorem fH {b:Nat}:∀ (xs ys:List D) (f:Nat→Value),aK b (xs++ys) f=aK b xs f+aK b ys (fun j=>f (xs.length+j))
  | [],ys,f=>by simp [aK]
  | d::xs,ys,f=>by
    simp only [List.cons_append,aK,fH xs ys,List.length_cons]
    have:(fun j=>f (xs.length+j+1))=fun j=>f (xs.length+1+j):=funext fun j=>by rw [Nat.add_right_comm]
    rw [this]
    omega
theorem gW {b:Nat} {cs ds:List D} {f:Nat→Value} {off:Nat} (hl:off+ds.length≤cs.length) :
    aK b (cZ cs off ds) f+aK b ((cs.drop off).take ds.length) (fun j=>f (off+j))=aK b cs f+aK b ds (fun j=>f (off+j)):=by
  have h1:cs=cs.take off++((cs.drop off).take ds.length++cs.drop (off+ds.length)):=by
    rw [←List.drop_drop,List.take_append_drop,List.take_append_drop]
  have hlt:(cs.take off).length=off:=by simp;omega
  have hlm:((cs.drop off).take ds.length).length=ds.length:=by simp;omega
  have e2:aK b cs f=aK b (cs.take off) f+(aK b ((cs.drop off).take ds.length) (fun j=>f (off+j))+aK b (cs.drop (off+ds.length)) (fun j=>f (off+(ds.length+j)))):=by
    conv=>lhs;rw [h1]
    rw [fH,fH,hlt,hlm]
  simp only [cZ,fH,hlt]
  omega
theorem Rel.Mx (R:Rel E C s a w G pt) (id st off n:Nat) {cs:List D} (hb:get s (2*id+1) = .aH st true cs) (hl:off+n≤cs.length) :
    ∃ G' blk,Ext w G w G'∧bA (pt id st)=some blk∧Room w blk cs.length ∧
      Rel E C ((2*id+1,.aH st true (cZ cs off (((cs.drop off).take n).map bO)))::s) a w G' pt ∧
      aQ w G' pt (((cs.drop off).take n).map bO) (fun j=>aC w blk (off+j)):=by
  have hB:=R.bx id
  rw [hb] at hB
  obtain ⟨blk,h1,h2,h3,h4⟩:=hB rfl
  have hblk:bA (pt id st)=some blk:=by rw [h1];rfl
  have hsub:=h4.sub off n
  have hln:((cs.drop off).take n).length=n:=by simp;omega
  have hcB:∀ b,cB s w pt b id=bR b (pt id st)+aK b cs (aC w blk):=fun b=>by simp only [cB,hb,fI,hblk,Option.getD_some]
  have hrp:∀ b,aK b (cZ cs off (((cs.drop off).take n).map bO)) (aC w blk)=aK b cs (aC w blk):=by
    intro b
    have:=gW (b:=b) (cs:=cs) (ds:=((cs.drop off).take n).map bO) (f:=aC w blk) (off:=off) (by simp;omega)
    rw [List.length_map,hln,kQ] at this
    omega
  have MB:∀ b,aK b ((cs.drop off).take n) (fun j=>aC w blk (off+j))≤aK b cs (aC w blk):=by
    intro b
    have:=gW (b:=b) (cs:=cs) (ds:=((cs.drop off).take n).map stripL) (f:=aC w blk) (off:=off) (by simp;omega)
    rw [List.length_map,hln,gV jK] at this
    omega
  have hid:=dY R (id:=id) (by rw [hb];simp)
  obtain ⟨e,hsh⟩:=hsub.share (fun b=>by
    have:=MB b;have:=hcB b;have:=R.gJ b id;have:=R.ct b;omega)
  refine ⟨kP G ((cs.drop off).take n) (fun j=>aC w blk (off+j)),blk,e,hblk,h2,?_,hsh⟩
  have hG:∀ b,cB s w pt b id=0→kP G ((cs.drop off).take n) (fun j=>aC w blk (off+j)) b=G b:=fun b hb=>fP (by have:=MB b;have:=hcB b;omega)
  have hGb:kP G ((cs.drop off).take n) (fun j=>aC w blk (off+j)) blk=G blk:=by
    refine fP ?_
    have:=MB blk
    have:=hcB blk
    have:=R.gJ blk id
    have:=R.ct blk
    have:bR blk (pt id st)=1:=by simp [bR,hblk]
    omega
  -- all that stood in the box stands under the new bounds
  have hall:aQ w (kP G ((cs.drop off).take n) (fun j=>aC w blk (off+j))) pt (cZ cs off (((cs.drop off).take n).map bO)) (aC w blk):=by
    intro j hj
    have hlen:(cZ cs off (((cs.drop off).take n).map bO)).length=cs.length:=fD (by simp;omega)
    obtain ⟨q1,q2⟩:=mP (cs:=cs) (ds:=((cs.drop off).take n).map bO) (off:=off) (by simp;omega) hj
    by_cases hin:off≤j∧j<off+(((cs.drop off).take n).map bO).length
    · have hlt:j - off<(((cs.drop off).take n).map bO).length:=by omega
      rw [q1 hin hlt]
      have:=hsh (j - off) hlt
      simp only [show off+(j - off)=j by omega] at this
      exact this
    · have hjc:j<cs.length:=by omega
      rw [q2 hin hjc]
      refine ⟨(h4 j hjc).1.mono e (fun _ _ _ h=>h) fun b hb=>⟨rfl,fP ?_⟩,(h4 j hjc).2⟩
      -- the leaf at j lies outside of the part
      have hz:aK b (cZ cs off (((cs.drop off).take n).map stripL)) (aC w blk)+aK b ((cs.drop off).take n) (fun j=>aC w blk (off+j))=aK b cs (aC w blk):=by
        have:=gW (b:=b) (cs:=cs) (ds:=((cs.drop off).take n).map stripL) (f:=aC w blk) (off:=off) (by simp;omega)
        rw [List.length_map,hln,gV jK] at this
        omega
      have IX:(cZ cs off (((cs.drop off).take n).map stripL)).length=cs.length:=fD (by simp;omega)
      have hg:=iE (b:=b) (ds:=cZ cs off (((cs.drop off).take n).map stripL)) (f:=aC w blk) j (by omega)
      rw [(mP (cs:=cs) (ds:=((cs.drop off).take n).map stripL) (off:=off) (by simp;omega) (by omega)).2 (by simpa using hin) hjc] at hg
      have:=hcB b;have:=R.gJ b id;have:=R.ct b
      omega
  refine R.step (fun _=>False) (fun i=>i=id) (fun b=>0<cB s w pt b id) rfl R.df (fun t _=>⟨by simp,rfl⟩) (fun i hi=>⟨by simp [hi],rfl⟩) e (fun _ _ _ h=>h)
    (fun b hb _=>⟨rfl,hG b (by omega)⟩) (fun b hb t _=>R.bt hb t) (fun b hb i hi=>R.bb hb hi) (fun b hb=>(R.cb b (Nat.lt_of_lt_of_le hb (R.gJ b id))).2) (fun t h=>h.elim)
    (fun i hi=>?_) (fun c1 c2 b=>?_) (fun b hb=>?_) rfl rfl rfl (Nat.le_refl _)
  · subst hi
    refine ⟨hid,?_,?_⟩
    · simp only [bG,if_true]
      exact fun _=>⟨blk,h1,by rw [fD (by simp;omega)];exact h2,hGb.trans h3,hall⟩
    · simp only [bG,if_true]
      intro st' hst'
      exact R.pf i st' (by rw [hb];exact hst')
  · have e1:=aM (n:=E.n) (f:=cT s a b) (g:=cT ((2*id+1,.aH st true (cZ cs off (((cs.drop off).take n).map bO)))::s) a b) (fun i _=>(c1 i (fun h=>h) b).symm)
    have e2:=bM (n:=C.m) (f:=cB s w pt b) (g:=cB ((2*id+1,.aH st true (cZ cs off (((cs.drop off).take n).map bO)))::s) w pt b) hid (fun i hi=>c2 i hi b)
    have e3:cB ((2*id+1,.aH st true (cZ cs off (((cs.drop off).take n).map bO)))::s) w pt b id=cB s w pt b id:=by
      rw [hcB b]
      simp only [cB,bG,if_true,fI,hblk,Option.getD_some,hrp]
    have h1:=R.ct b
    have h2:=R.cb b
    unfold TC at *
    exact ⟨by omega,fun h=>h2 (by omega)⟩
  · have:cB s w pt b id=0:=by
      rcases Nat.eq_zero_or_pos (cB s w pt b id) with h | h
      · exact h
      · have:=(R.cb b (Nat.lt_of_lt_of_le h (R.gJ b id))).1;omega
    rw [hG b this]
    exact R.gz b hb
end
end Go.aW
namespace Go.aW
theorem abn {x y z z':D} {s:St} {i j:Nat} (h:i≠j) (m:Nat) :
    get ((2*i,x)::(2*i+1,y)::(2*j+1,z)::s) m=get ((2*j+1,z)::(2*i,x)::(2*i+1,y)::(2*j+1,z')::s) m:=by
  simp only [aF]
  (repeat' split)<;>first | rfl | omega
section
variable {P:Program} {E:Env} {C:Ctx} {s:St} {a:Act} {w:World} {G:Nat→Nat} {pt:Nat→Nat→Option Value} {o:Oper} {u:St}
theorem Rel.MC (R:Rel E C s a w G pt) {id st blk:Nat} {cs cs':List D} (hb:get s (2*id+1) = .aH st true cs) (hblk:bA (pt id st)=some blk) (hl:cs'.length=cs.length)
    (hr:aQ w G pt cs' (aC w blk)) (hc:∀ b,aK b cs' (aC w blk)≤aK b cs (aC w blk)) :
    Rel E C ((2*id+1,.aH st true cs')::s) a w G pt ∧
      ∀ b,TC E.n C.m ((2*id+1,.aH st true cs')::s) a w pt b+aK b cs (aC w blk)=TC E.n C.m s a w pt b+aK b cs' (aC w blk):=by
  have hB:=R.bx id
  rw [hb] at hB
  obtain ⟨bN,h1,h2,h3,h4⟩:=hB rfl
  have hbb:bN=blk:=by rw [h1] at hblk;simpa [bA] using hblk
  subst hbb
  have hid:=dY R (id:=id) (by rw [hb];simp)
  have c0:∀ b,cB s w pt b id=bR b (pt id st)+aK b cs (aC w bN):=fun b=>by simp only [cB,hb,fI,hblk,Option.getD_some]
  have c1':∀ b,cB ((2*id+1,.aH st true cs')::s) w pt b id=bR b (pt id st)+aK b cs' (aC w bN):=fun b=>by simp only [cB,bG,if_true,fI,hblk,Option.getD_some]
  have tcs:∀ b,TC E.n C.m ((2*id+1,.aH st true cs')::s) a w pt b+aK b cs (aC w bN)=TC E.n C.m s a w pt b+aK b cs' (aC w bN):=by
    intro b
    have e1:=aM (n:=E.n) (f:=cT s a b) (g:=cT ((2*id+1,.aH st true cs')::s) a b) (fun i _=>by simp only [cT,get_bt])
    have e2:=bM (n:=C.m) (f:=cB s w pt b) (g:=cB ((2*id+1,.aH st true cs')::s) w pt b) hid (fun i hi=>by simp only [cB,bG,hi,if_false])
    have:=c0 b;have:=c1' b
    unfold TC
    omega
  refine ⟨?_,tcs⟩
  refine R.step (fun _=>False) (fun i=>i=id) (fun _=>False) rfl R.df (fun t _=>⟨by simp,rfl⟩) (fun i hi=>⟨by simp [hi],rfl⟩) (Ext.refl _ _) (fun _ _ _ h=>h)
    (fun b _ _=>⟨rfl,rfl⟩) (fun b h=>h.elim) (fun b h=>h.elim) (fun b h=>h.elim) (fun t h=>h.elim)
    (fun i hi=>?_) (fun _ _ b=>?_) R.gz rfl rfl rfl (Nat.le_refl _)
  · subst hi
    refine ⟨hid,?_,?_⟩
    · simp only [bG,if_true]
      exact fun _=>⟨bN,h1,by rw [hl];exact h2,h3,hr⟩
    · simp only [bG,if_true]
      intro st' hst'
      exact R.pf i st' (by rw [hb];exact hst')
  · have:=tcs b
    have:=hc b
    have h1:=R.ct b
    have h2:=R.cb b
    exact ⟨by omega,fun h=>h2 (by omega)⟩
theorem Em (HP:nM P E) (R:Rel E C s a w G pt) (hm:E.n≤C.m) (ho:∀ t,o.dst=some t→t<E.n) (T:Nat) (x:Operand) (hop:o.op = .load T x) {i:TI} (hi:E.T T=some i)
    {id st off st':Nat} {cs:List D} (hx:aV s x = .ptr id st off) (hbx:get s (2*id+1) = .aH st' true cs)
    (h:(bif Nat.beq st st' && Nat.beq ((cs.drop off).take i.size).length i.size&&Nat.blt 0 i.size then
        (match tag E o with
        | 3=>match (cs.drop off).take i.size,o.dst with
          | [.sl f t l],some dst=>
            let st2:=aI (get s (2*dst+1))+1
            bif Nat.beq f 2&&Nat.blt 0 t.nc && !Nat.beq dst id && !i.agg then
              some (true,[(2*id+1,.aH st true (cZ cs off [.fM dst st2])),(2*dst+1,.aU st2 true false t l),(2*dst,.fM dst st2)]) else none
          | [.fM a b],_=>bif i.agg then none else some (true,bB o (.fM a b))
          | _,_=>none
        | 1=>match mk1 i.agg ((cs.drop off).take i.size) with
          | some d=>some (true,(2*id+1,.aH st true (cZ cs off (((cs.drop off).take i.size).map stripL)))::bB o d)
          | none=>none
        | _=>match mk1 i.agg (((cs.drop off).take i.size).map bU) with
          | some d=>some (true,(bif ((cs.drop off).take i.size).any xH then [(2*id+1,.aH st true (cZ cs off (((cs.drop off).take i.size).map bO)))] else [])++bB o d)
          | none=>none) else none)=some (true,u)):fC P E C o a w (ak u s):=by
  cases hb:(Nat.beq st st' && Nat.beq ((cs.drop off).take i.size).length i.size&&Nat.blt 0 i.size) with
  | false=>simp only [hb,cond_false,reduceCtorEq] at h
  | true=>
    simp only [hb,cond_true] at h
    simp only [Bool.and_eq_true] at hb
    have hst:=Nat.eq_of_beq_eq_true hb.1.1
    subst hst
    have hln:=Nat.eq_of_beq_eq_true hb.1.2
    have hpos:0<i.size:=by simpa [Nat.blt_eq] using hb.2
    have abo:off+i.size≤cs.length:=by simp at hln;omega
    have hT:=HP.ti _ _ hi
    have hrx:=aT R x
    rw [hx] at hrx
    obtain ⟨blk,hblk,hv⟩:=hrx
    have hB:=R.bx id
    rw [hbx] at hB
    obtain ⟨bN,h1,h2,h3,h4⟩:=hB rfl
    have hbb:bN=blk:=by rw [h1] at hblk;simpa [bA] using hblk
    subst hbb
    have hrun:(execOp a.eval o).run P w = .ok (.value (D6 i.agg i.size fun j=>aC w bN (off+j))) w:=
      jV hT (fun j hj=>kF h2 (by omega)) hop hv
    have hid:=dY R (id:=id) (by rw [hbx];simp)
    have c0:∀ b,cB s w pt b id=bR b (pt id st)+aK b cs (aC w bN):=fun b=>by simp only [cB,hbx,fI,hblk,Option.getD_some]
    split at h
    · -- promote
      split at h
      · rename_i f t l dst hds hdst
        cases hg:(Nat.beq f 2&&Nat.blt 0 t.nc && !Nat.beq dst id && !i.agg) with
        | false=>simp [hg] at h
        | true=>
          simp only [hg,cond_true,Option.some.injEq,Prod.mk.injEq,true_and] at h
          simp only [Bool.and_eq_true,Bool.not_eq_true'] at hg
          obtain ⟨⟨⟨hg1,hg2⟩,hg3⟩,hg4⟩:=hg
          have hf:=Nat.eq_of_beq_eq_true hg1
          have hne:=Nat.ne_of_beq_eq_false hg3
          subst hf
          subst h
          have hsz:i.size=1:=hT.one hg4
          have hsub:=h4.sub off i.size
          rw [hds] at hsub
          have hcell:=(hsub 0 (by simp)).1
          simp only [List.getElem_cons_zero,Nat.add_zero] at hcell
          obtain ⟨ad,n,c,hv1,hn,hbd,hsl⟩:=hcell
          -- the box without its slice
          have hl1:off+[D.undef].length≤cs.length:=by simp;omega
          have hrl:∀ d:D,dw 0 d (aC w bN off)=dw 0 d (aC w bN off):=fun _=>rfl
          obtain ⟨R1,tc1⟩:=R.MC (cs':=cZ cs off [.undef]) hbx hblk (fD hl1) (h4.cZ (fun j hj=>by
              have:j=0:=by simp at hj;exact hj
              subst this
              exact ⟨trivial,(h4 (off+0) (by omega)).2⟩) hl1) (fun b=>by
              have:=gW (b:=b) (f:=aC w bN) hl1
              have e0:aK b [D.undef] (fun j=>aC w bN (off+j))=0:=by
                show dw b .undef _+0=0
                cases aC w bN (off+0)<;>rfl
              omega)
          have hdt:=ho dst hdst
          have hg0:get ((2*id+1,D.aH st true (cZ cs off [.undef]))::s) (2*dst+1)=get s (2*dst+1):=by simp [hne]
          have ae6:∀ b,dw b (.sl 2 t l) (aC w bN off)=bR b (some (aC w bN off)):=by
            intro b
            rw [hv1]
            rcases hsl with ⟨h5,_⟩ | ⟨b',h5,_⟩
            · subst h5;simp [bR,bA,dw]
            · subst h5;simp [bR,bA,dw]
          have tc2:∀ b,TC E.n C.m ((2*id+1,.aH st true (cZ cs off [.undef]))::s) a w pt b+dw b (.sl 2 t l) (aC w bN off)=TC E.n C.m s a w pt b:=by
            intro b
            have h5:=tc1 b
            have h6:=gW (b:=b) (f:=aC w bN) hl1
            have e0:aK b [D.undef] (fun j=>aC w bN (off+j))=0:=by
              show dw b .undef _+0=0
              cases aC w bN (off+0)<;>rfl
            have e1:aK b ((cs.drop off).take [D.undef].length) (fun j=>aC w bN (off+j))=dw b (.sl 2 t l) (aC w bN off):=by
              have:(cs.drop off).take [D.undef].length=[.sl 2 t l]:=by rw [←hds,hsz];rfl
              rw [this];rfl
            omega
          have key:=R1.vg dst hdt hm (w':=w) (G':=G) (dB:=.aU (aI (get ((2*id+1,D.aH st true (cZ cs off [.undef]))::s) (2*dst+1))+1) true false t l)
            (d':=.fM dst (aI (get ((2*id+1,D.aH st true (cZ cs off [.undef]))::s) (2*dst+1))+1)) (pv:=aC w bN off) (v':=aC w bN off) (Ext.refl _ _) (fun _ _=>⟨rfl,rfl⟩)
            (by show aS _ _ _ _ _ _=_;simp [aS]) (fun b=>by cases aC w bN off<;>rfl)
            (fun _=>by
              simp only [Bool.false_eq_true,if_false]
              refine ⟨ad,n,c,?_,hn,hbd,hsl⟩
              simp [aS,hv1]) rfl
            (fun b=>by
              have e:fI w (aS pt dst (aI (get ((2*id+1,D.aH st true (cZ cs off [.undef]))::s) (2*dst+1))+1) (aC w bN off)) b dst
                  (.aU (aI (get ((2*id+1,D.aH st true (cZ cs off [.undef]))::s) (2*dst+1))+1) true false t l)=bR b (some (aC w bN off)):=by
                simp [fI,aS]
              rw [e,←ae6]
              have h5:=tc2 b
              have h6:=R.ct b
              have h7:=R.cb b
              exact ⟨by omega,fun h=>⟨by omega,h7 (by omega)⟩⟩)
            R.gz rfl rfl rfl (Nat.le_refl _)
          rw [hg0] at key
          generalize akz:aI (get s (2*dst+1))+1=st2 at key ⊢
          -- now the reference into the box
          have abp:get ((2*dst,D.fM dst st2)::(2*dst+1,.aU st2 true false t l)::(2*id+1,.aH st true (cZ cs off [.undef]))::s) (2*id+1) = .aH st true (cZ cs off [.undef]):=by
            simp [Ne.symm hne]
          have Rb:∀ i j v,pt i j=some v→aS pt dst st2 (aC w bN off) i j=some v:=by
            intro i j v hv
            unfold aS
            rw [if_neg]
            · exact hv
            · rintro ⟨rfl,rfl⟩
              rw [R.pf i j (by omega)] at hv;cases hv
          have hblk2:bA (aS pt dst st2 (aC w bN off) id st)=some bN:=by
            have:aS pt dst st2 (aC w bN off) id st=pt id st:=by simp [aS,Ne.symm hne]
            rw [this];exact hblk
          have Wj:aQ w G (aS pt dst st2 (aC w bN off)) (cZ cs off [.undef]) (aC w bN):=by
            have:=key.bx id
            rw [abp] at this
            obtain ⟨b9,g1,_,_,g4⟩:=this rfl
            have:b9=bN:=by rw [g1] at hblk2;simpa [bA] using hblk2
            subst this
            exact g4
          have hlu:(cZ cs off [D.undef]).length=cs.length:=fD hl1
          have e9:cZ (cZ cs off [D.undef]) off [D.fM dst st2]=cZ cs off [D.fM dst st2]:=by
            simp only [cZ,List.length_singleton]
            have hlt:(cs.take off).length=off:=by simp;omega
            rw [List.take_append_of_le_length (by omega),List.take_take,Nat.min_self]
            congr 2
            rw [List.drop_append,hlt]
            simp only [show off+1 - off=1 by omega]
            rw [List.drop_eq_nil_of_le (by simp;omega)]
            simp
          obtain ⟨R3,_⟩:=key.MC (cs':=cZ cs off [.fM dst st2]) abp hblk2 (by rw [hlu];exact fD (by simp;omega)) (by
              rw [←e9]
              refine Wj.cZ (fun j hj=>?_) (by simp;omega)
              have:j=0:=by simp at hj;exact hj
              subst this
              refine ⟨?_,(h4 (off+0) (by omega)).2⟩
              show aS pt dst st2 (aC w bN off) dst st2=some (aC w bN (off+0))
              simp [aS]) (fun b=>by
              rw [←e9]
              have h5:=gW (b:=b) (cs:=cZ cs off [D.undef]) (ds:=[D.fM dst st2]) (f:=aC w bN) (off:=off) (by simp;omega)
              have e0:aK b [D.fM dst st2] (fun j=>aC w bN (off+j))=0:=by
                show dw b (.fM dst st2) _+0=0
                cases aC w bN (off+0)<;>rfl
              omega)
          -- the order of the changes
          have fin:Rel E C (ak [(2*id+1,D.aH st true (cZ cs off [D.fM dst st2])),(2*dst+1,D.aU st2 true false t l),(2*dst,D.fM dst st2)] s)
              (a.put (some dst) (aC w bN off)) w G (aS pt dst st2 (aC w bN off)):=by
            exact Rel.congr R3 (fun m=>abn hne m)
          have ev:D6 i.agg i.size (fun j=>aC w bN (off+j))=aC w bN off:=by rw [hg4];simp [D6]
          rw [ev] at hrun
          exact ⟨_,w,G,_,.inl hrun,by rw [hdst];exact fin⟩
      · rename_i _ a' b' hds
        cases hag:i.agg with
        | true=>simp [hag] at h
        | false=>
          simp only [hag,cond_false,Option.some.injEq,Prod.mk.injEq,true_and] at h
          subst h
          have hsub:=h4.sub off i.size
          rw [hds] at hsub
          have hcell:=(hsub 0 (by simp)).1
          simp only [List.getElem_cons_zero,Nat.add_zero] at hcell
          refine ⟨_,w,G,pt,.inl hrun,R.wV o ho ?_ (fun b=>?_)⟩
          · rw [hag];simp only [D6,cond_false,Nat.add_zero];exact hcell
          · cases D6 i.agg i.size (fun j=>aC w bN (off+j))<;>rfl
      · cases h
    · -- take
      split at h
      · rename_i d hd
        simp only [Option.some.injEq,Prod.mk.injEq,true_and] at h
        subst h
        · have hsub:=h4.sub off i.size
          obtain ⟨q1,q2⟩:=jv (n:=i.size) hd hln hsub
          have hl1:off+(((cs.drop off).take i.size).map stripL).length≤cs.length:=by rw [List.length_map,hln];exact abo
          obtain ⟨R1,tc1⟩:=R.MC (cs':=cZ cs off (((cs.drop off).take i.size).map stripL)) hbx hblk (fD hl1) (h4.cZ (hsub.map fun _ _ h=>h.strip) hl1) (fun b=>by
              have:=gW (b:=b) (f:=aC w bN) hl1
              have e0:=gV jK b ((cs.drop off).take i.size) (fun j=>aC w bN (off+j))
              omega)
          have tc2:∀ b,TC E.n C.m ((2*id+1,.aH st true (cZ cs off (((cs.drop off).take i.size).map stripL)))::s) a w pt b+cO b d (D6 i.agg i.size fun j=>aC w bN (off+j))=TC E.n C.m s a w pt b:=by
            intro b
            have h5:=tc1 b
            have h6:=gW (b:=b) (f:=aC w bN) hl1
            have e0:=gV jK b ((cs.drop off).take i.size) (fun j=>aC w bN (off+j))
            rw [List.length_map,hln] at h6
            rw [q2]
            omega
          refine ⟨_,w,G,pt,.inl hrun,R1.put o ho (fun _=>False) (Ext.refl _ _) (fun _ _ _=>⟨rfl,rfl⟩) (fun b h=>h.elim) q1 (fun b=>?_) R.gz rfl rfl rfl (Nat.le_refl _)⟩
          have h5:=tc2 b
          have h6:=R.ct b
          have h7:=R.cb b
          exact ⟨by omega,fun h=>⟨by omega,h7 (by omega)⟩⟩
      · cases h
    · -- view
      split at h
      · rename_i d hd
        simp only [Option.some.injEq,Prod.mk.injEq,true_and] at h
        subst h
        · obtain ⟨G',Wm,e,hblk2,_,R1,hr1⟩:=R.Mx id st off i.size hbx abo
          have:Wm=bN:=by rw [hblk] at hblk2;injection hblk2 with h;exact h.symm
          subst this
          obtain ⟨q1,q2⟩:=jv (n:=i.size) hd (by rw [List.length_map];exact hln) hr1.view
          have hc0:∀ b,cO b d (D6 i.agg i.size fun j=>aC w Wm (off+j))=0:=fun b=>by rw [q2];exact gV mM b _ _
          rw [aP]
          cases hU:((cs.drop off).take i.size).any xH with
          | true=>
            simp only [cond_true]
            exact ⟨_,w,G',pt,.inl hrun,R1.wV o ho q1 hc0⟩
          | false=>
            simp only [cond_false]
            have hsame:=sw _ hU
            have h5:aQ w G pt ((cs.drop off).take i.size) (fun j=>aC w Wm (off+j)):=h4.sub off i.size
            rw [←hsame] at h5
            obtain ⟨q3,_⟩:=jv (n:=i.size) hd (by rw [List.length_map];exact hln) h5.view
            exact ⟨_,w,G,pt,.inl hrun,R.wV o ho q3 hc0⟩
      · cases h
end
end Go.aW
namespace Go.aW
theorem oU (t:Ty) (l:List t.den) (h1:t.nc=1):∀ j (h:j<(l.flatMap (enc t)).length),∃ (h':j<l.length) (h'':0<(enc t l[j]).length),(l.flatMap (enc t))[j]=(enc t l[j])[0]:=by
  induction l with
  | nil=>intro j h;simp at h
  | cons x l ih=>
    intro j h
    have hx:(enc t x).length=1:=by rw [iJ,h1]
    match j,h with
    | 0,h=>
      refine ⟨by simp,by simp [hx],?_⟩
      simp only [List.flatMap_cons,List.getElem_cons_zero]
      exact List.getElem_append_left (by omega)
    | j+1,h=>
      simp only [List.flatMap_cons,List.length_append,hx] at h
      obtain ⟨h',h'',e⟩:=ih j (by omega)
      refine ⟨by simpa using h',by simpa using h'',?_⟩
      simp only [List.flatMap_cons,List.getElem_cons_succ]
      rw [List.getElem_append_right (by omega)]
      simp only [hx,Nat.add_sub_cancel]
      exact e
theorem sH (t:Ty) (l:List t.den) (h1:t.nc=1):(l.flatMap (enc t)).length=l.length:=by
  induction l with
  | nil=>rfl
  | cons x l ih=>simp only [List.flatMap_cons,List.length_append,iJ,h1,ih,List.length_cons];omega
section
variable {P:Program} {E:Env} {C:Ctx} {s:St} {a:Act} {w:World} {G:Nat→Nat} {pt:Nat→Nat→Option Value} {o:Oper} {u:St}
theorem bI.one {d:D} {v:Value} (h:bI w G pt d v) (hd:d≠.undef) (hp:(∀ id st,d≠.fM id st)∧∀ k l,d≠.av k l):v.oneCell' = true:=by
  cases d with
  | undef=>exact absurd rfl hd
  | bool b=>rw [show v = .bool b from h];rfl
  | int k n=>rw [h.1];rfl
  | str l=>obtain ⟨s,h,_⟩:=h;rw [h];rfl
  | jf=>rw [show v = .slice none 0 0 from h];rfl
  | sl f t l=>obtain ⟨a,n,c,h,_⟩:=h;rw [h];rfl
  | ptr id st off=>obtain ⟨b,_,h⟩:=h;rw [h];rfl
  | kL id st i off es=>obtain ⟨b,_,h⟩:=h;rw [h];rfl
  | qO g off=>rw [show v = .pointer (some ⟨g,off,none⟩) from h];rfl
  | gN t l i off=>obtain ⟨b,o,h,_⟩:=h;rw [h];rfl
  | V9 t l=>obtain ⟨a,n,h,_⟩:=h;rw [h];rfl
  | fM id st=>exact absurd rfl (hp.1 id st)
  | av k l=>exact absurd rfl (hp.2 k l)
  | LY k l=>obtain ⟨b,o,h,_⟩:=h;rw [h];rfl
  | Ai f=>rw [show v = .func (.func f) #[] #[] from h];rfl
  | fO f t x=>obtain ⟨b,o,h,_⟩:=h;rw [h];rfl
  | AJ id st n=>rcases h.1 with ⟨b,c,_,h⟩ | ⟨_,h⟩<;>rw [h]<;>rfl
  | _=>exact absurd h id
theorem kU:∀ (t:Ty) (x:t.den),∀ d∈enc t x,d≠.undef∧(∀ id st,d≠.fM id st)∧∀ k l,d≠.av k l
  | .int _,_,d,h=>by simp [enc] at h;subst h;simp
  | .bool,_,d,h=>by simp [enc] at h;subst h;simp
  | .str,_,d,h=>by simp [enc] at h;subst h;simp
  | .sl _,_,d,h=>by simp [enc] at h;subst h;simp
  | .unit,_,d,h=>by simp [enc] at h
  | .cons a b,x,d,h=>by
    have e:enc (.cons a b) x=enc a x.1++enc b x.2:=rfl
    rw [e,List.mem_append] at h
    rcases h with h | h
    · exact kU a x.1 d h
    · exact kU b x.2 d h
  | .st _ c,x,d,h=>kU c x d h
  | .fO _ _,_,d,h=>by simp [enc] at h;subst h;simp
theorem xR {t:Ty} {x:t.den} {b o:Nat} (h:bX w G t x b o) (off n:Nat) (hn:off+n≤t.nc) :
    aQ w G pt (((enc t x).drop off).take n) (fun j=>aC w b (o+off+j))∧(((enc t x).drop off).take n).length=n ∧
      (∀ j,j<n→w.cell? ⟨b,o+off+j,none⟩=some (aC w b (o+off+j)))∧∀ c,aK c (((enc t x).drop off).take n) (fun j=>aC w b (o+off+j))=0:=by
  have hl:(((enc t x).drop off).take n).length=n:=by rw [List.length_take,List.length_drop,iJ];omega
  have key:∀ j,j<n→∃ (h:off+j<(enc t x).length),w.cell? ⟨b,o+off+j,none⟩=some (aC w b (o+off+j))∧bI w G pt (enc t x)[off+j] (aC w b (o+off+j))∧∀ c,dw c (enc t x)[off+j] (aC w b (o+off+j))=0:=by
    intro j hj
    have hlt:off+j<(enc t x).length:=by rw [iJ];omega
    obtain ⟨v,h1,h2,h3⟩:=nI pt h (off+j) hlt
    rw [←Nat.add_assoc] at h1
    have e:aC w b (o+off+j)=v:=by simp [aC,h1]
    rw [e]
    exact ⟨hlt,h1,h2,h3⟩
  refine ⟨fun j hj=>?_,hl,fun j hj=>(key j hj).2.1,fun c=>?_⟩
  · have hj':j<n:=by omega
    obtain ⟨hlt,_,h2,_⟩:=key j hj'
    have e:(((enc t x).drop off).take n)[j]=(enc t x)[off+j]:=by simp
    rw [e]
    have hm:=kU t x _ (List.getElem_mem hlt)
    exact ⟨h2,h2.one hm.1 hm.2⟩
  · have qP:∀ (ds:List D) (f:Nat→Value),(∀ j (h:j<ds.length),dw c ds[j] (f j)=0)→aK c ds f=0:=by
      intro ds
      induction ds with
      | nil=>intro f _;rfl
      | cons d ds ih=>
        intro f hf
        simp only [aK]
        rw [ih (fun i=>f (i+1)) (fun j h=>by have:=hf (j+1) (by simpa using h);exact this)]
        have:=hf 0 (by simp)
        simpa using this
    refine qP _ _ fun j hj=>?_
    obtain ⟨hlt,_,_,h3⟩:=key j (by omega)
    have e:(((enc t x).drop off).take n)[j]=(enc t x)[off+j]:=by simp
    rw [e]
    exact h3 c
theorem jO (R:Rel E C s a w G pt) {id st blk:Nat} {ar:Bool} {t:Ty} {l:List t.den} (hb:get s (2*id+1) = .aU st true ar t l) (hblk:bA (pt id st)=some blk) :
    fB w G t l blk 0∧Room w blk (l.length*t.nc)∧G blk=0:=by
  have hB:=R.bx id
  rw [hb] at hB
  have hB:=hB rfl
  cases ar with
  | true=>
    simp only [if_true] at hB
    obtain ⟨b,h1,h2,h3,h4⟩:=hB
    have:b=blk:=by rw [h1] at hblk;simpa [bA] using hblk
    subst this
    exact ⟨h4,h2,h3⟩
  | false=>
    simp only [Bool.false_eq_true,if_false] at hB
    obtain ⟨ad,n,c,h1,h2,h3,h4⟩:=hB
    rcases h4 with ⟨h5,_⟩ | ⟨b,h5,h6,h7,h8,h9,h10⟩
    · subst h5;rw [h1] at hblk;simp [bA] at hblk
    · subst h5
      have:b=blk:=by rw [h1] at hblk;simpa [bA] using hblk
      subst this
      obtain ⟨cur,e,fr,g1,g2,g3⟩:=h7
      exact ⟨h9,⟨cur,e,fr,g1,Nat.le_trans (Nat.mul_le_mul_right _ h8) g2,g3⟩,h6⟩
theorem Eo {t:Ty} {l:List t.den} {b o:Nat} (hnc:t.nc=1) (hE:fB w G t l b o) :
    (∀ j (h:j<(l.flatMap (enc t)).length),bI w G pt (l.flatMap (enc t))[j] (aC w b (o+j))∧(aC w b (o+j)).oneCell' = true∧∀ c,dw c (l.flatMap (enc t))[j] (aC w b (o+j))=0) ∧
    (∀ c,aK c (l.flatMap (enc t)) (fun j=>aC w b (o+j))=0)∧∀ j,j<l.length→w.cell? ⟨b,o+j,none⟩=some (aC w b (o+j)):=by
  have hfl:=sH t l hnc
  have key:∀ j (h:j<(l.flatMap (enc t)).length),w.cell? ⟨b,o+j,none⟩=some (aC w b (o+j))∧bI w G pt (l.flatMap (enc t))[j] (aC w b (o+j))∧(aC w b (o+j)).oneCell' = true∧∀ c,dw c (l.flatMap (enc t))[j] (aC w b (o+j))=0:=by
    intro j hj
    obtain ⟨h',h'',e⟩:=oU t l hnc j hj
    obtain ⟨v,p1,p2,p3⟩:=nI pt (hE j h') 0 h''
    rw [show o+j*t.nc+0=o+j by rw [hnc];omega] at p1
    have e2:aC w b (o+j)=v:=by simp only [aC,p1];rfl
    rw [e,e2]
    have hm:=kU t l[j] _ (List.getElem_mem h'')
    exact ⟨p1,p2,p2.one hm.1 hm.2,p3⟩
  refine ⟨fun j h=>(key j h).2,fun c=>?_,fun j h=>(key j (by omega)).1⟩
  have qP:∀ (ds:List D) (f:Nat→Value),(∀ j (h:j<ds.length),dw c ds[j] (f j)=0)→aK c ds f=0:=by
    intro ds
    induction ds with
    | nil=>intro f _;rfl
    | cons d ds ih=>
      intro f hf
      simp only [aK]
      rw [ih (fun i=>f (i+1)) (fun j h=>by have:=hf (j+1) (by simpa using h);exact this)]
      have:=hf 0 (by simp)
      simpa using this
  exact qP _ _ fun j hj=>(key j hj).2.2.2 c
theorem fB.ME {t:Ty} {l:List t.den} {b o:Nat} (h:fB w G t l b o) (i n:Nat):fB w G t ((l.drop i).take n) b (o+i*t.nc):=by
  intro j hj
  have hj':j<n∧i+j<l.length:=by rw [List.length_take,List.length_drop] at hj;omega
  have:=h (i+j) hj'.2
  rw [Nat.add_mul,←Nat.add_assoc] at this
  have e:((l.drop i).take n)[j]=l[i+j]'hj'.2:=by simp
  rw [e]
  exact this
theorem Ep (k:IntKind):∀ l:List Int,l.flatMap (enc (.int k))=l.map (D.int k)
  | []=>rfl
  | x::r=>by rw [List.flatMap_cons,List.map_cons,Ep k r];rfl
theorem abq {k:IntKind} {l:List Int} {v:Value} (h:aY w G pt (.agg (l.flatMap (enc (.int k)))) v):bI w G pt (.av k l) v:=by
  obtain ⟨arr,h1,h2,h3⟩:=h
  rw [Ep] at h2 h3
  refine ⟨arr,h1,by simpa using h2,fun j hj=>?_⟩
  have:=(h3 j (by simpa using hj)).1
  simp only [List.getElem_map] at this
  exact this
theorem Er {n:Nat}:∀ {t:Ty} {l:List t.den} {v:Value},aY w G pt (.agg (l.flatMap (enc t))) v→aY w G pt (Kc n t l) v
  | .int k,l,v,h=>by
    unfold Kc
    cases Nat.blt 64 n with
    | true=>exact abq h
    | false=>exact h
  | .bool,_,_,h | .str,_,_,h | .sl _,_,_,h | .unit,_,_,h | .cons _ _,_,_,h | .st _ _,_,_,h | .fO _ _,_,_,h=>h
theorem Wn {b:Nat} {k:IntKind} {l:List Int} (v:Value):cO b (.av k l) v=0:=by cases v<;>rfl
theorem IY {n b:Nat} {v:Value}:∀ {t:Ty} {l:List t.den},cO b (.agg (l.flatMap (enc t))) v=0→cO b (Kc n t l) v=0
  | .int k,l,h=>by
    unfold Kc
    cases Nat.blt 64 n with
    | true=>exact Wn v
    | false=>exact h
  | .bool,_,h | .str,_,h | .sl _,_,h | .unit,_,h | .cons _ _,_,h | .st _ _,_,h | .fO _ _,_,h=>h
theorem Rc (HP:nM P E) (R:Rel E C s a w G pt) (hm:E.n≤C.m) (ho:∀ t,o.dst=some t→t<E.n) (T:Nat) (x:Operand) (hop:o.op = .load T x)
    (h:AL E o s T x=some (true,u)):fC P E C o a w (ak u s):=by
  have hrx:=aT R x
  simp only [AL] at h
  split at h
  · rename_i i hi
    have hT:=HP.ti _ _ hi
    split at h
    · rename_i id st off hx
      split at h
      · rename_i st' cs hbx
        exact Em HP R hm ho T x hop hi hx hbx h
      · rename_i st' t l hbx
        cases hb:(Nat.beq st st' && Nat.beq off 0&&i.agg&&Nat.beq t.nc 1) with
        | false=>simp only [hb,cond_false,reduceCtorEq] at h
        | true=>
          simp only [hb,cond_true,Option.some.injEq,Prod.mk.injEq] at h
          simp only [Bool.and_eq_true] at hb
          obtain ⟨⟨⟨hb1,hb2⟩,hb3⟩,hb4⟩:=hb
          have hnc:=Nat.eq_of_beq_eq_true hb4
          have hst:=Nat.eq_of_beq_eq_true hb1
          have hoff:=Nat.eq_of_beq_eq_true hb2
          subst hst;subst hoff
          obtain ⟨hln,rfl⟩:=h
          have hln:=Nat.eq_of_beq_eq_true hln
          rw [hx] at hrx
          obtain ⟨blk,hblk,hv⟩:=hrx
          obtain ⟨g1,g2,g3⟩:=jO R hbx hblk
          have hrun:=jV (P:=P) (w:=w) (a:=a) hT (b:=blk) (off:=0) (f:=fun j=>aC w blk (0+j)) (fun j hj=>kF g2 (by rw [hnc];omega)) hop hv
          have hfl:=sH t l hnc
          have hcell:∀ j (h:j<(l.flatMap (enc t)).length),bI w G pt (l.flatMap (enc t))[j] (aC w blk (0+j))∧(aC w blk (0+j)).oneCell' = true∧∀ c,dw c (l.flatMap (enc t))[j] (aC w blk (0+j))=0:=by
            intro j hj
            obtain ⟨h',h'',e⟩:=oU t l hnc j hj
            obtain ⟨v,p1,p2,p3⟩:=nI pt (g1 j h') 0 h''
            have e2:aC w blk (0+j)=v:=by
              simp only [aC]
              rw [show 0+j=0+j*t.nc+0 by rw [hnc];omega,p1];rfl
            rw [e,e2]
            have hm:=kU t l[j] _ (List.getElem_mem h'')
            exact ⟨p2,p2.one hm.1 hm.2,p3⟩
          obtain ⟨r1,r2⟩:=jv (w:=w) (G:=G) (pt:=pt) (agg:=true) (n:=i.size) (ds:=l.flatMap (enc t)) (d:=.agg (l.flatMap (enc t))) (f:=fun j=>aC w blk (0+j)) rfl (by omega) (fun j hj=>⟨(hcell j hj).1,(hcell j hj).2.1⟩)
          rw [hb3] at hrun
          refine pure_ok R ho hrun (Er r1) (fun b=>IY ?_)
          rw [r2]
          have qP:∀ (ds:List D) (f:Nat→Value),(∀ j (h:j<ds.length),dw b ds[j] (f j)=0)→aK b ds f=0:=by
            intro ds
            induction ds with
            | nil=>intro f _;rfl
            | cons d ds ih=>
              intro f hf
              simp only [aK]
              rw [ih (fun i=>f (i+1)) (fun j h=>by have:=hf (j+1) (by simpa using h);exact this)]
              have:=hf 0 (by simp)
              simpa using this
          exact qP _ _ fun j hj=>(hcell j hj).2.2 b
      · cases h
    · rename_i id st i0 off es hx
      rw [hx] at hrx
      obtain ⟨blk,hblk,hv⟩:=hrx
      split at h
      · rename_i st' ar t l hbx
        cases hag:(i.agg&&Nat.beq t.nc 1&&Nat.blt 1 i.size) with
        | true=>
          simp only [hag,cond_true] at h
          cases hb:(Nat.beq st st' && Nat.beq off 0&&Nat.beq es 1) with
          | false=>simp only [hb,cond_false,reduceCtorEq] at h
          | true=>
            simp only [hb,cond_true,Option.some.injEq,Prod.mk.injEq] at h
            simp only [Bool.and_eq_true] at hb hag
            obtain ⟨⟨hb1,hb2⟩,hb3⟩:=hb
            have hnc:=Nat.eq_of_beq_eq_true hag.1.2
            have hst:=Nat.eq_of_beq_eq_true hb1
            have hoff:=Nat.eq_of_beq_eq_true hb2
            have hes:=Nat.eq_of_beq_eq_true hb3
            subst hst;subst hoff;subst hes
            obtain ⟨hle,rfl⟩:=h
            have hle:=Nat.le_of_ble_eq_true hle
            rw [Ce _ _ hle]
            obtain ⟨g1,g2,g3⟩:=jO R hbx hblk
            have g4:=g1.ME i0 i.size
            rw [hnc,Nat.zero_add,Nat.mul_one] at g4
            have hsl:((l.drop i0).take i.size).length=i.size:=by rw [List.length_take,List.length_drop];omega
            obtain ⟨f1,f2,f3⟩:=Eo (pt:=pt) hnc g4
            have hfl:=sH t ((l.drop i0).take i.size) hnc
            rw [Nat.mul_one,Nat.add_zero] at hv
            have hrun:=jV (P:=P) (w:=w) (a:=a) hT (b:=blk) (off:=i0) (f:=fun j=>aC w blk (i0+j)) (fun j hj=>f3 j (by omega)) hop hv
            obtain ⟨r1,r2⟩:=jv (w:=w) (G:=G) (pt:=pt) (agg:=true) (n:=i.size) (ds:=((l.drop i0).take i.size).flatMap (enc t)) (d:=.agg (((l.drop i0).take i.size).flatMap (enc t))) (f:=fun j=>aC w blk (i0+j)) rfl (by omega) (fun j hj=>⟨(f1 j hj).1,(f1 j hj).2.1⟩)
            rw [hag.1.1] at hrun
            exact pure_ok R ho hrun r1 (fun b=>by rw [r2];exact f2 b)
        | false=>
        simp only [hag,cond_false] at h
        split at h
        · rename_i d hd
          cases hb:(Nat.beq st st' && Nat.beq es t.nc&&Nat.ble (off+i.size) t.nc) with
          | false=>simp only [hb,cond_false,reduceCtorEq] at h
          | true=>
            simp only [hb,cond_true,Option.some.injEq,Prod.mk.injEq] at h
            simp only [Bool.and_eq_true] at hb
            obtain ⟨⟨hb1,hb2⟩,hb3⟩:=hb
            have hst:=Nat.eq_of_beq_eq_true hb1
            have hes:=Nat.eq_of_beq_eq_true hb2
            have hle:=Nat.le_of_ble_eq_true hb3
            subst hst;subst hes
            obtain ⟨hlt,rfl⟩:=h
            have hlt:i0<l.length:=by simpa [Nat.blt_eq] using hlt
            obtain ⟨g1,g2,g3⟩:=jO R hbx hblk
            have e:l.getD i0 t.dflt=l[i0]:=by simp [hlt]
            rw [e] at hd
            obtain ⟨q1,q2,q3,q4⟩:=xR (pt:=pt) (g1 i0 hlt) off i.size hle
            obtain ⟨r1,r2⟩:=jv (n:=i.size) hd q2 q1
            rw [Nat.zero_add] at q3 r1 r2 q4
            have hrun:=jV (P:=P) (w:=w) (a:=a) hT (b:=blk) (off:=i0*t.nc+off) (f:=fun j=>aC w blk (i0*t.nc+off+j)) q3 hop hv
            exact pure_ok R ho hrun r1 (fun b=>by rw [r2];exact q4 b)
        · cases h
      · cases h
    · rename_i g off hx
      rw [hx] at hrx
      have hv:a.eval x = .pointer (some ⟨g,off,none⟩):=hrx
      split at h
      · rename_i k l k' hg hd
        cases hb:(iO k k' && !i.agg&&Nat.beq i.size 1) with
        | false=>simp only [hb,cond_false,reduceCtorEq] at h
        | true=>
          simp only [hb,cond_true,Option.some.injEq,Prod.mk.injEq] at h
          obtain ⟨hlt,rfl⟩:=h
          have hlt:off<l.length:=by simpa [Nat.blt_eq] using hlt
          simp only [Bool.and_eq_true,Bool.not_eq_true'] at hb
          obtain ⟨_,hgl⟩:=R.gl g k l hg
          obtain ⟨h1,h2⟩:=hgl off hlt
          have hrun:=jV (P:=P) (w:=w) (a:=a) hT (b:=g) (off:=off) (f:=fun _=>.int k l[off]) (fun j hj=>by
            have hsz:=Nat.eq_of_beq_eq_true hb.2
            have:j=0:=by omega
            subst this
            simpa using h1) hop hv
          rw [hb.1.2] at hrun
          refine pure_ok R ho hrun ?_ (fun _=>rfl)
          have e:l.getD off 0=l[off]:=by simp [hlt]
          rw [e]
          exact ⟨rfl,h2⟩
      · rename_i k l fs hg hd
        cases hb:i.agg with
        | false=>simp only [hb,cond_false,reduceCtorEq] at h
        | true=>
          simp only [hb,cond_true,Option.some.injEq,Prod.mk.injEq] at h
          obtain ⟨hle,rfl⟩:=h
          have hle:=Nat.le_of_ble_eq_true hle
          obtain ⟨_,hgl⟩:=R.gl g k l hg
          have hc:∀ j (hj:j<i.size),w.cell? ⟨g,off+j,none⟩=some (aC w g (off+j))∧aC w g (off+j) = .int k (l[off+j]'(by omega))∧k.has (l[off+j]'(by omega)):=by
            intro j hj
            obtain ⟨h1,h2⟩:=hgl (off+j) (by omega)
            have e:aC w g (off+j) = .int k (l[off+j]'(by omega)):=by simp only [aC,h1];rfl
            exact ⟨by rw [e];exact h1,e,h2⟩
          have hrun:=jV (P:=P) (w:=w) (a:=a) hT (b:=g) (off:=off) (f:=fun j=>aC w g (off+j)) (fun j hj=>(hc j hj).1) hop hv
          have hln:(((l.drop off).take i.size).map (D.int k)).length=i.size:=by simp;omega
          have hel:∀ j (hj:j<(((l.drop off).take i.size).map (D.int k)).length),(((l.drop off).take i.size).map (D.int k))[j] = .int k (l[off+j]'(by omega)):=by
            intro j hj;simp
          obtain ⟨r1,r2⟩:=jv (w:=w) (G:=G) (pt:=pt) (agg:=true) (n:=i.size) (ds:=((l.drop off).take i.size).map (D.int k)) (d:=.agg (((l.drop off).take i.size).map (D.int k))) (f:=fun j=>aC w g (off+j)) rfl hln (fun j hj=>by
            rw [hel j hj]
            obtain ⟨_,e,h2⟩:=hc j (by omega)
            simp only [e]
            exact ⟨⟨rfl,h2⟩,rfl⟩)
          rw [hb] at hrun
          refine pure_ok R ho hrun r1 (fun b=>?_)
          rw [r2]
          have qP:∀ (ds:List D) (f:Nat→Value),(∀ j (h:j<ds.length),dw b ds[j] (f j)=0)→aK b ds f=0:=by
            intro ds
            induction ds with
            | nil=>intro f _;rfl
            | cons d ds ih=>
              intro f hf
              simp only [aK]
              rw [ih (fun i=>f (i+1)) (fun j h=>by have:=hf (j+1) (by simpa using h);exact this)]
              have:=hf 0 (by simp)
              simpa using this
          exact qP _ _ fun j hj=>by rw [hel j hj];rfl
      · cases h
    · rename_i t l i0 off hx
      rw [hx] at hrx
      obtain ⟨blk,ob,hv,hlt,hG,hE⟩:=hrx
      split at h
      · rename_i d hd
        cases hb:Nat.ble (off+i.size) t.nc with
        | false=>simp only [hb,cond_false,reduceCtorEq] at h
        | true=>
          simp only [hb,cond_true,Option.some.injEq,Prod.mk.injEq,true_and] at h
          subst h
          have hb:=Nat.le_of_ble_eq_true hb
          have e:l.getD i0 t.dflt=l[i0]:=by simp [hlt]
          rw [e] at hd
          obtain ⟨q1,q2,q3,q4⟩:=xR (pt:=pt) (hE i0 hlt) off i.size hb
          obtain ⟨r1,r2⟩:=jv (n:=i.size) hd q2 q1
          have hrun:=jV (P:=P) (w:=w) (a:=a) hT (b:=blk) (off:=ob+i0*t.nc+off) (f:=fun j=>aC w blk (ob+i0*t.nc+off+j)) q3 hop hv
          exact pure_ok R ho hrun r1 (fun b=>by rw [r2];exact q4 b)
      · cases h
    · cases h
  · cases h
end
end Go.aW
namespace Go.aW
theorem AY:∀ (l:List Value) (st off:Nat) (cs:Array Value),off+st+l.length≤cs.size →
    ((l.zipIdx st).foldl (fun cs (c,j)=>cs.setIfInBounds (off+j) c) cs).size=cs.size ∧
    ∀ k,aO ((l.zipIdx st).foldl (fun cs (c,j)=>cs.setIfInBounds (off+j) c) cs) k=if off+st≤k∧k<off+st+l.length then l.getD (k - (off+st)) undef else aO cs k
  | [],st,off,cs,h=>⟨rfl,fun k=>by rw [if_neg (by simp)];rfl⟩
  | v::l,st,off,cs,h=>by
    simp only [List.length_cons] at h
    obtain ⟨h1,h2⟩:=AY l (st+1) off (cs.setIfInBounds (off+st) v) (by simp;omega)
    simp only [List.zipIdx_cons,List.foldl_cons]
    refine ⟨by rw [h1];simp,fun k=>?_⟩
    rw [h2 k]
    simp only [List.length_cons]
    by_cases hk:off+(st+1)≤k∧k<off+(st+1)+l.length
    · rw [if_pos hk,if_pos (by omega)]
      rw [show k - (off+st)=(k - (off+(st+1)))+1 by omega,List.getD_cons_succ]
    · rw [if_neg hk]
      by_cases hk2:k=off+st
      · rw [if_pos (by omega),hk2]
        simp [aO,Array.getD_eq_getD_getElem?,show off+st<cs.size by omega]
      · rw [if_neg (by omega)]
        simp [aO,Array.getD_eq_getD_getElem?,Ne.symm hk2]
theorem MF (off:Nat) (v:Value) (cs:Array Value) (h:off+v.cells.size≤cs.size) :
    (v.cells.zipIdx.foldl (fun cs (c,j)=>cs.setIfInBounds (off+j) c) cs).size=cs.size ∧
    ∀ k,aO (v.cells.zipIdx.foldl (fun cs (c,j)=>cs.setIfInBounds (off+j) c) cs) k=if off≤k∧k<off+v.cells.size then aO v.cells (k - off) else aO cs k:=by
  have e:v.cells.zipIdx.foldl (fun cs (c,j)=>cs.setIfInBounds (off+j) c) cs=(v.cells.toList.zipIdx 0).foldl (fun cs (c,j)=>cs.setIfInBounds (off+j) c) cs:=by
    rw [←Array.foldl_toList,Array.toList_zipIdx]
  rw [e]
  obtain ⟨h1,h2⟩:=AY v.cells.toList 0 off cs (by simpa using h)
  refine ⟨h1,fun k=>?_⟩
  rw [h2 k]
  simp only [Nat.add_zero,Array.length_toList]
  by_cases hk:off≤k∧k<off+v.cells.size
  · rw [if_pos hk,if_pos hk];simp [aO,Array.getD_eq_getD_getElem?,List.getD_eq_getElem?_getD]
  · rw [if_neg hk,if_neg hk]
section
variable {P:Program} {E:Env} {C:Ctx} {s:St} {a:Act} {w:World} {G:Nat→Nat} {pt:Nat→Nat→Option Value} {o:Oper} {u:St}
theorem kV {d:D} {v:Value} (h:aY w G pt d v) (hd:fG d=true) :
    aQ w G pt (leaves d) (aO v.cells)∧v.cells.size=(leaves d).length∧∀ b,aK b (leaves d) (aO v.cells)=cO b d v:=by
  have leaf:∀ d',bI w G pt d' v→d'≠.undef→((∀ id st,d'≠.fM id st)∧∀ k l,d'≠.av k l)→(∀ b,cO b d' v=dw b d' v)→leaves d' = [d'] →
      aQ w G pt (leaves d') (aO v.cells)∧v.cells.size=(leaves d').length∧∀ b,aK b (leaves d') (aO v.cells)=cO b d' v:=by
    intro d' h1 h2 h3 h4 h5
    have ho:=h1.one h2 h3
    have hv:v.cells = #[v]:=by cases v<;>first | rfl | simp [Value.oneCell'] at ho
    rw [hv,h5]
    refine ⟨fun j hj=>?_,rfl,fun b=>by rw [h4];show dw b d' (aO #[v] 0)+0=_;rfl⟩
    have:j=0:=by simpa using hj
    subst this
    exact ⟨h1,ho⟩
  cases d with
  | agg cs=>
    obtain ⟨arr,rfl,h2,h3⟩:=h
    exact ⟨h3,h2,fun _=>rfl⟩
  | undef=>simp [fG] at hd
  | fM a b=>simp [fG] at hd
  | AJ a b c=>simp [fG] at hd
  | Ai a=>simp [fG] at hd
  | av a b=>simp [fG] at hd
  | LY a b=>simp [fG] at hd
  | gB a=>simp [fG] at hd
  | fn f a=>simp [fG] at hd
  | aH a b c=>simp [fG] at hd
  | aU a b c d e=>simp [fG] at hd
  | _=>exact leaf _ h (by simp) (by simp) (fun b=>by cases v<;>rfl) rfl
theorem Rf {z ds:List D} {f:Nat→Value} (h:aQ w G pt ds f):aQ w G pt (fit z ds) f∧(fit z ds).length=ds.length∧∀ b,aK b (fit z ds) f=aK b ds f:=by
  unfold fit
  split
  · split
    · rename_i f' t l
      cases hb:Nat.ble f' 2 with
      | false=>exact ⟨h,rfl,fun _=>rfl⟩
      | true=>
        have hb:=Nat.le_of_ble_eq_true hb
        have h0:=h 0 (by simp)
        have hv:f 0 = .slice none 0 0:=h0.1
        refine ⟨fun j hj=>?_,rfl,fun b=>?_⟩
        · have:j=0:=by simpa using hj
          subst this
          refine ⟨?_,h0.2⟩
          show bI w G pt (.sl f' t []) (f 0)
          rw [hv]
          refine ⟨none,0,0,rfl,rfl,by simp,?_⟩
          match f',hb with
          | 0,_=>exact ⟨by simp,.inl rfl⟩
          | 1,_=>exact .inl ⟨rfl,rfl,rfl⟩
          | 2,_=>exact .inl ⟨rfl,rfl,rfl⟩
        · simp only [aK,cond_true,hv];rfl
    · exact ⟨h,rfl,fun _=>rfl⟩
  · exact ⟨h,rfl,fun _=>rfl⟩
def rC (s:St) (a:Act) (f:D→D) (b:Nat):List (Nat×Operand)→Nat
  | []=>0
  | (_,x)::r=>cO b (f (aV s x)) (a.eval x)+rC s a f b r
theorem sI (pl:Nat→Option (Nat×Nat)) (f:D→D) (hf:∀ d,fG d=true→fG (f d)=true) :
    ∀ (parts:List (Nat×Operand)) (cs:List D) (cells:Array Value) {cs':List D},(∀ p∈parts,aY w G pt (f (aV s p.2)) (a.eval p.2)) →
      aQ w G pt cs (aO cells)→cells.size=cs.length→dW pl s f cs parts=some cs' →
      ∃ cells',Instr.fill pl cells (parts.map fun p=>(p.1,a.eval p.2))=some cells'∧cells'.size=cs'.length∧aQ w G pt cs' (aO cells') ∧
        cs'.length=cs.length∧∀ b,aK b cs' (aO cells')≤aK b cs (aO cells)+rC s a f b parts
  | [],cs,cells,cs',_,hr,hs,h=>by
    simp only [dW,Option.some.injEq] at h
    subst h
    exact ⟨cells,rfl,hs,hr,rfl,fun b=>by simp [rC]⟩
  | (j,x)::r,cs,cells,cs',hp,hr,hs,h=>by
    simp only [dW] at h
    split at h
    · rename_i off sz hpl
      cases hb:(fG (aV s x)&&Nat.beq (fit ((cs.drop off).take sz) (leaves (f (aV s x)))).length sz&&Nat.ble (off+sz) cs.length) with
      | false=>simp only [hb,cond_false,reduceCtorEq] at h
      | true=>
        simp only [hb,cond_true] at h
        simp only [Bool.and_eq_true] at hb
        obtain ⟨⟨hb1,hb2⟩,hb3⟩:=hb
        have hb2:=Nat.eq_of_beq_eq_true hb2
        have hb3:=Nat.le_of_ble_eq_true hb3
        have hpx:aY w G pt (f (aV s x)) (a.eval x):=hp (j,x) (by simp)
        obtain ⟨q1,q2,q3⟩:=kV hpx (hf _ hb1)
        obtain ⟨g1,g2,g3⟩:=Rf (z:=(cs.drop off).take sz) q1
        have hvs:(a.eval x).cells.size=sz:=by rw [q2,←g2,hb2]
        obtain ⟨e1,e2⟩:=MF off (a.eval x) cells (by omega)
        generalize hc2:(a.eval x).cells.zipIdx.foldl (fun cs (c,j)=>cs.setIfInBounds (off+j) c) cells=xS at e1 e2
        have hl:off+(fit ((cs.drop off).take sz) (leaves (f (aV s x)))).length≤cs.length:=by omega
        have hold:aQ w G pt cs (aO cells):=hr
        have hr2:aQ w G pt (cZ cs off (fit ((cs.drop off).take sz) (leaves (f (aV s x))))) (aO xS):=by
          intro k hk
          obtain ⟨t1,t2⟩:=mP hl hk
          rw [e2 k]
          by_cases hin:off≤k∧k<off+(fit ((cs.drop off).take sz) (leaves (f (aV s x)))).length
          · rw [t1 hin (by omega),if_pos (by omega)]
            exact g1 (k - off) (by omega)
          · have hkc:k<cs.length:=by rw [fD hl] at hk;exact hk
            rw [t2 hin hkc,if_neg (by omega)]
            exact hold k hkc
        have hct:∀ b,aK b (cZ cs off (fit ((cs.drop off).take sz) (leaves (f (aV s x))))) (aO xS)≤aK b cs (aO cells)+cO b (f (aV s x)) (a.eval x):=by
          intro b
          have hlt:(cs.take off).length=off:=by simp;omega
          have h1:cs=cs.take off++((cs.drop off).take sz++cs.drop (off+sz)):=by
            rw [←List.drop_drop,List.take_append_drop,List.take_append_drop]
          have hlm:((cs.drop off).take sz).length=sz:=by simp;omega
          have a1:aK b cs (aO cells)=aK b (cs.take off) (aO cells)+(aK b ((cs.drop off).take sz) (fun j=>aO cells (off+j))+aK b (cs.drop (off+sz)) (fun j=>aO cells (off+(sz+j)))):=by
            conv=>lhs;rw [h1]
            rw [fH,fH,hlt,hlm]
          simp only [cZ,fH,hlt,hb2]
          have b1:aK b (cs.take off) (aO xS)=aK b (cs.take off) (aO cells):=
            fZ fun k hk=>by rw [e2,if_neg (by omega)]
          have b2:aK b (fit ((cs.drop off).take sz) (leaves (f (aV s x)))) (fun j=>aO xS (off+j))=cO b (f (aV s x)) (a.eval x):=by
            rw [←q3,←g3]
            exact fZ fun k hk=>by rw [e2,if_pos (by omega)];congr 1;omega
          have b3:aK b (cs.drop (off+sz)) (fun j=>aO xS (off+(sz+j)))=aK b (cs.drop (off+sz)) (fun j=>aO cells (off+(sz+j))):=
            fZ fun k hk=>by rw [e2,if_neg (by omega)]
          omega
        obtain ⟨cells',f1,f2,f3,f4,f5⟩:=sI pl f hf r _ _ (fun p hp'=>hp p (by simp [hp'])) hr2 (by rw [e1,fD hl];exact hs) h
        refine ⟨cells',?_,f2,f3,by rw [f4,fD hl],fun b=>?_⟩
        · have hcond:(decide ((a.eval x).cells.size≠sz) || decide (off+(a.eval x).cells.size > cells.size))=false:=by
            simp only [Bool.or_eq_false_iff,decide_eq_false_iff_not];omega
          simp only [List.map_cons,Instr.fill,hpl]
          rw [hcond,hc2]
          exact f1
        · have:=f5 b
          have:=hct b
          simp only [rC]
          omega
    · cases h
theorem sJ {s s1:St} {f:D→D} {h:D→Bool}:∀ (parts:List (Nat×Operand)),(∀ t,tmpsOf parts t=true→get s1 (2*t)=get s (2*t))→dQ s1 f h parts=dQ s f h parts
  | [],_=>rfl
  | (j,x)::r,hq=>by
    simp only [dQ]
    rw [sJ r fun t ht=>hq t (by simp only [tmpsOf,Bool.or_eq_true];exact .inr ht)]
    congr 1
    cases x with
    | tmp t=>simp only [bZ];rw [hq t (by simp [tmpsOf,IJ])]
    | _=>rfl
theorem wE {s s1:St}:∀ (parts:List (Nat×Operand)),(∀ t,tmpsOf parts t=true→get s1 (2*t)=get s (2*t))→ko s1 parts=ko s parts
  | [],_=>rfl
  | (j,x)::r,hq=>by
    have ih:=wE r fun t ht=>hq t (by simp only [tmpsOf,Bool.or_eq_true];exact .inr ht)
    cases x with
    | tmp t=>simp only [ko];rw [ih,hq t (by simp [tmpsOf,IJ])]
    | _=>simp only [ko];exact ih
theorem xU {s s1:St} {f:D→D} (b:Nat):∀ (parts:List (Nat×Operand)),(∀ t,tmpsOf parts t=true→get s1 (2*t)=get s (2*t))→rC s1 a f b parts=rC s a f b parts
  | [],_=>rfl
  | (j,x)::r,hq=>by
    simp only [rC]
    rw [xU b r fun t ht=>hq t (by simp only [tmpsOf,Bool.or_eq_true];exact .inr ht)]
    congr 1
    cases x with
    | tmp t=>simp only [aV];rw [hq t (by simp [tmpsOf,IJ])]
    | _=>rfl
theorem Rel.Es:∀ (parts:List (Nat×Operand)) {s:St},Rel E C s a w G pt→ko s parts=true →
    Rel E C (ak (dQ s strip dJ parts) s) a w G pt∧∀ b,TC E.n C.m (ak (dQ s strip dJ parts) s) a w pt b+rC s a (fun d=>d) b parts=TC E.n C.m s a w pt b
  | [],s,R,_=>⟨R,fun b=>rfl⟩
  | (j,x)::r,s,R,hn=>by
    obtain ⟨R1,t1⟩:=R.kS x
    simp only [dQ,aP]
    have hsame:∀ t,tmpsOf r t=true→get (ak (bZ s x strip dJ) s) (2*t)=get s (2*t):=by
      intro t ht
      cases x with
      | tmp t0=>
        simp only [ko,Bool.and_eq_true,Bool.or_eq_true,Bool.not_eq_true'] at hn
        simp only [bZ]
        cases hX:dJ (get s (2*t0)) with
        | false=>rfl
        | true=>
          have hnr:=hn.1.resolve_left (by simp [hX])
          simp only [cond_true,ak,bV]
          rw [if_neg]
          intro hte
          subst hte
          rw [hnr] at ht
          cases ht
      | _=>rfl
    have hn2:ko s r=true:=by
      cases x with
      | tmp t0=>simp only [ko,Bool.and_eq_true] at hn;exact hn.2
      | _=>exact hn
    obtain ⟨R2,t2⟩:=Rel.Es r R1 (by rw [wE r hsame];exact hn2)
    rw [sJ r hsame] at R2 t2
    refine ⟨R2,fun b=>?_⟩
    have h1:=t1 b
    have h2:=t2 b
    rw [xU b r hsame] at h2
    simp only [rC]
    omega
theorem AZ (HP:nM P E):∀ (l:List Field),(l.all fun (f:Field)=>(E.T f.type).isSome)=true →
    ∃ places,l.mapM (fun (f:Field)=>(P.info? f.type).map fun i=>(f.offset,i.size))=some places∧places.length=l.length ∧
      ∀ (j:Nat) (f:Field),l[j]? = some f→∃ fi,E.T f.type=some fi∧places[j]? = some (f.offset,fi.size)
  | [],_=>⟨[],by simp,rfl,fun j f h=>by simp at h⟩
  | f::l,h=>by
    simp only [List.all_cons,Bool.and_eq_true] at h
    obtain ⟨fi,hfi⟩:=Option.isSome_iff_exists.1 h.1
    obtain ⟨pi,z,p1,p2,_⟩:=(HP.ti _ _ hfi).info
    obtain ⟨pl,q1,q2,q3⟩:=AZ HP l h.2
    refine ⟨(f.offset,pi.size)::pl,by simp [List.mapM_cons,p1,q1],by simp [q2],fun j g hj=>?_⟩
    match j,hj with
    | 0,hj=>
      simp only [List.getElem?_cons_zero,Option.some.injEq] at hj
      subst hj
      exact ⟨fi,hfi,by simp [p2]⟩
    | j+1,hj=>simpa using q3 j g (by simpa using hj)
theorem MG (HP:nM P E) (R:Rel E C s a w G pt) (ho:∀ t,o.dst=some t→t<E.n) (T:Nat) (parts:Array (Nat×Operand)) (hop:o.op = .build T parts)
    (h:uV E o s T parts.toList=some (true,u)):fC P E C o a w (ak u s):=by
  simp only [uV] at h
  split at h
  · rename_i i hi
    have hT:=HP.ti _ _ hi
    obtain ⟨pi,z,p1,p2,p3,p4,p5,p6,p7,p8⟩:=hT.info
    split at h
    · rename_i cs hcs
      cases hb:(ko s parts.toList&&oJ E i) with
      | false=>simp only [hb,cond_false,reduceCtorEq] at h
      | true=>
        simp only [hb,cond_true,Option.some.injEq,Prod.mk.injEq,true_and] at h
        subst h
        simp only [Bool.and_eq_true] at hb
        obtain ⟨hb1,hb2⟩:=hb
        have hz:aQ w G pt i.zero (aO z.cells):=fun j hj=>⟨(p8 j hj).1 w G pt,p7 j (by omega)⟩
        have hz0:∀ b,aK b i.zero (aO z.cells)=0:=by
          intro b
          have qP:∀ (ds:List D) (f:Nat→Value),(∀ j (h:j<ds.length),dw b ds[j] (f j)=0)→aK b ds f=0:=by
            intro ds
            induction ds with
            | nil=>intro f _;rfl
            | cons d ds ih=>
              intro f hf
              simp only [aK]
              rw [ih (fun i=>f (i+1)) (fun j h=>by have:=hf (j+1) (by simpa using h);exact this)]
              have:=hf 0 (by simp)
              simpa using this
          exact qP _ _ fun j hj=>(p8 j hj).2 b
        obtain ⟨cells,f1,f2,f3,f4,f5⟩:=sI (w:=w) (G:=G) (pt:=pt) (a:=a) (partAt E i) (fun d=>d) (fun _ h=>h) parts.toList i.zero z.cells (fun p _=>aT R p.2) hz (by omega) hcs
        have Wo:P.built T (parts.map fun (i,x)=>(i,a.eval x)).toList=some cells:=by
          have e:(parts.map fun (i,x)=>(i,a.eval x)).toList=parts.toList.map fun p=>(p.1,a.eval p.2):=by simp
          rw [e]
          unfold Program.built
          rw [p1,hT.und]
          unfold oJ at hb2
          have hfun:∀ pl:Nat→Option (Nat×Nat),(∀ p∈parts.toList,∀ q,partAt E i p.1=some q→pl p.1=some q) →
              ∀ (l:List (Nat×Operand)) (cs cs':List D) (cells cells':Array Value),(∀ p∈l,p∈parts.toList)→dW (partAt E i) s (fun d=>d) cs l=some cs'→Instr.fill (partAt E i) cells (l.map fun p=>(p.1,a.eval p.2))=some cells' →
                Instr.fill pl cells (l.map fun p=>(p.1,a.eval p.2))=some cells':=by
            intro pl hpl l
            induction l with
            | nil=>intro cs cs' cells cells' _ _ h;exact h
            | cons p l ih=>
              intro cs cs' cells cells' hmem hp hf
              obtain ⟨j,x⟩:=p
              simp only [dW] at hp
              cases hq:partAt E i j with
              | none=>simp [hq] at hp
              | some q=>
                obtain ⟨off,sz⟩:=q
                simp only [hq] at hp
                have:=hpl (j,x) (hmem _ (by simp)) _ hq
                simp only [List.map_cons,Instr.fill,hq,this] at hf ⊢
                split at hf
                · cases hf
                · rename_i hsz
                  cases hbb:(fG (aV s x)&&Nat.beq (fit ((cs.drop off).take sz) (leaves (aV s x))).length sz&&Nat.ble (off+sz) cs.length) with
                  | false=>simp only [hbb,cond_false,reduceCtorEq] at hp
                  | true=>
                    simp only [hbb,cond_true] at hp
                    rw [if_neg hsz]
                    exact ih _ _ _ _ (fun p hp=>hmem p (by simp [hp])) hp hf
          cases hd:i.desc<;>rw [hd] at hb2<;>simp only [Bool.false_eq_true] at hb2
          · rename_i n e
            obtain ⟨ei,uS⟩:=Option.isSome_iff_exists.1 hb2
            obtain ⟨pe,ze,g1,g2,_⟩:=(HP.ti _ _ uS).info
            simp only [p4,g1]
            refine hfun _ (fun p _ q hq=>?_) parts.toList i.zero cs z.cells cells (fun _ h=>h) hcs f1
            simp only [partAt,hd,uS,Option.some.injEq] at hq
            rw [←hq,g2]
          · rename_i fs
            obtain ⟨pl,g1,g2,g3⟩:=AZ HP fs.toList hb2
            simp only [p4,g1]
            refine hfun _ (fun p _ q hq=>?_) parts.toList i.zero cs z.cells cells (fun _ h=>h) hcs f1
            simp only [partAt,hd] at hq
            split at hq
            · rename_i f hf
              obtain ⟨fi,r1,r2⟩:=g3 _ _ hf
              rw [r1] at hq
              simp only [Option.some.injEq] at hq
              rw [←hq]
              simpa using r2
            · cases hq
        have hrun:(execOp a.eval o).run P w = .ok (.value (.agg cells)) w:=by
          simp only [execOp,hop,Sem.run_bind,run_build w T _ cells Wo,Result.andThen_ok,Sem.run_pure]
        obtain ⟨R1,t1⟩:=Rel.Es parts.toList R hb1
        rw [aP]
        refine ⟨_,w,G,pt,.inl hrun,R1.put o ho (fun _=>False) (Ext.refl _ _) (fun _ _ _=>⟨rfl,rfl⟩) (fun b h=>h.elim) ⟨cells,rfl,f2,f3⟩ (fun b=>?_) R.gz rfl rfl rfl (Nat.le_refl _)⟩
        have h1:=t1 b
        have h2:=f5 b
        have h3:=hz0 b
        have h4:=R.ct b
        have h5:=R.cb b
        show aK b cs (aO cells)≤1∧(0<aK b cs (aO cells)→_)
        exact ⟨by omega,fun h=>⟨by omega,h5 (by omega)⟩⟩
    · cases h
  · cases h
end
end Go.aW
namespace Go.aW
theorem jc:∀ (n:Nat) (z:List D),(rep n z).length=n*z.length
  | 0,_=>by simp [rep]
  | n+1,z=>by simp only [rep,List.length_append,jc n z,Nat.add_mul];omega
theorem nN:∀ (n:Nat) (z:List D) (k:Nat) (h:k<(rep n z).length),∃ h':k%z.length<z.length,(rep n z)[k]=z[k%z.length]
  | 0,z,k,h=>by simp [rep] at h
  | n+1,z,k,h=>by
    have hz:0<z.length:=by
      rcases Nat.eq_zero_or_pos z.length with h0 | h0
      · rw [jc,h0] at h;omega
      · exact h0
    refine ⟨Nat.mod_lt _ hz,?_⟩
    simp only [rep]
    by_cases hk:k<z.length
    · rw [List.getElem_append_left hk]
      congr 1
      exact (Nat.mod_eq_of_lt hk).symm
    · have hlt:k - z.length<(rep n z).length:=by simp only [rep,List.length_append] at h;omega
      obtain ⟨h1,h2⟩:=nN n z (k - z.length) hlt
      rw [List.getElem_append_right (by omega),h2]
      congr 1
      have:k=(k - z.length)+z.length:=by omega
      conv=>rhs;rw [this]
      rw [Nat.add_mod_right]
theorem xV (zero:Array Value) (n:Nat):((Array.range (n*zero.size)).map (zero[· % zero.size]!)).size=n*zero.size ∧
    ∀ k,k<n*zero.size→aO ((Array.range (n*zero.size)).map (zero[· % zero.size]!)) k=aO zero (k%zero.size):=by
  refine ⟨by simp,fun k hk=>?_⟩
  have hz:0<zero.size:=by
    rcases Nat.eq_zero_or_pos zero.size with h | h
    · rw [h] at hk;omega
    · exact h
  have:=Nat.mod_lt k hz
  simp [aO,Array.getD_eq_getD_getElem?,hk,getElem!_pos zero (k%zero.size) this,Array.getElem?_eq_getElem this]
section
variable {P:Program} {E:Env} {C:Ctx} {s:St} {a:Act} {w:World} {G:Nat→Nat} {pt:Nat→Nat→Option Value} {o:Oper} {u:St}
theorem qP {b:Nat}:∀ (ds:List D) (f:Nat→Value),(∀ j (h:j<ds.length),dw b ds[j] (f j)=0)→aK b ds f=0
  | [],_,_=>rfl
  | d::ds,f,hf=>by
    simp only [aK]
    rw [qP ds (fun i=>f (i+1)) (fun j h=>by have:=hf (j+1) (by simpa using h);exact this)]
    have:=hf 0 (by simp)
    simpa using this
theorem bI.view0 {d:D} {v:Value} (h:bI w G pt d v) (hc:∀ b,dw b d v=0):bI w G pt (bU d) v:=by
  cases d with
  | sl f t l=>
    obtain ⟨ad,n,c,h1,h2,h3,h4⟩:=h
    subst h1
    refine ⟨ad,n,c,rfl,h2,h3,?_⟩
    match f,h4,hc with
    | 0,h4,_=>exact h4
    | 1,h4,hc=>
      rcases h4 with ⟨h5,h6,h7⟩ | ⟨b,h5,_⟩
      · subst h6;exact ⟨by simp,.inl rfl⟩
      · subst h5;have:=hc b;simp [dw] at this
    | 2,h4,hc=>
      rcases h4 with ⟨h5,h6,h7⟩ | ⟨b,h5,_⟩
      · subst h6;exact ⟨by simp,.inl rfl⟩
      · subst h5;have:=hc b;simp [dw] at this
    | (k+3),h4,_=>exact h4.elim
  | _=>exact h
theorem aQ.view0 {ds:List D} {f:Nat→Value} (h:aQ w G pt ds f) (hc:∀ b,aK b ds f=0):aQ w G pt (ds.map bU) f:=by
  intro j hj
  simp only [List.getElem_map]
  have hj':j<ds.length:=by simpa using hj
  exact ⟨(h j hj').1.view0 fun b=>by have:=iE (b:=b) (ds:=ds) (f:=f) j hj';have:=hc b;omega,(h j hj').2⟩
theorem mQ {w':World} {G':Nat→Nat} (hE:Ext w G w' G') {t:Ty}:∀ (n:Nat) {ds:List D} {l:List t.den} {f:Nat→Value} {b o:Nat},sj t n ds=some l →
    aQ w G pt (ds.map bU) f→(∀ j,j<n*t.nc→w'.cell? ⟨b,o+j,none⟩=some (f j))→fB w' G' t l b o∧l.length=n
  | 0,ds,l,f,b,o,h,_,_=>by
    cases ds with
    | nil=>simp only [sj,Option.some.injEq] at h;subst h;exact ⟨fun i hi=>by simp at hi,rfl⟩
    | cons d ds=>simp [sj] at h
  | n+1,ds,l,f,b,o,h,hr,hc=>by
    simp only [sj] at h
    split at h
    · rename_i x r hd
      split at h
      · rename_i l' hl
        simp only [Option.some.injEq] at h
        subst h
        have hmul:(n+1)*t.nc=n*t.nc+t.nc:=by rw [Nat.add_mul];omega
        obtain ⟨h1,h2,h3⟩:=sD hE (b:=b) (o:=o) hd hr (fun j hj=>hc j (by omega))
        subst h2
        obtain ⟨h4,h5⟩:=mQ hE n (b:=b) (o:=o+t.nc) (f:=fun j=>f (t.nc+j)) hl
          (fun j hj=>by
            have hl2:t.nc+j<(ds.map bU).length:=by simp at hj ⊢;omega
            have:=hr (t.nc+j) hl2
            simpa using this)
          (fun j hj=>by
            have:=hc (t.nc+j) (by omega)
            rw [Nat.add_assoc];exact this)
        refine ⟨fun i hi=>?_,by simp [h5]⟩
        match i,hi with
        | 0,_=>simpa using h1
        | i+1,hi=>
          have:=h4 i (by simpa using hi)
          rw [show o+t.nc+i*t.nc=o+(i+1)*t.nc by rw [Nat.add_mul];omega] at this
          exact this
      · cases h
    · cases h
theorem eZ (ob:Obj) (hgz:∀ b,w.heap.size≤b→G b=0):Ext w G (w.alloc ob) G:=
  ⟨fun b o ho=>World.cell?_alloc_lt w ob ⟨b,o,none⟩ (by
    show b<w.heap.size
    rcases Nat.lt_or_ge b w.heap.size with h | h
    · exact h
    · rw [hgz b h] at ho;omega),fun _=>Nat.le_refl _⟩
theorem alloc_old (ob:Obj) {b:Nat} (h:b<w.heap.size):(w.alloc ob).heap[b]? = w.heap[b]?:=by
  simp only [World.alloc,Array.getElem?_push]
  rw [if_neg (by omega)]
theorem gY (ob:Obj):(w.alloc ob).heap[w.heap.size]? = some ob:=by
  show (w.heap.push ob)[w.heap.size]? = some ob
  simp
theorem Rel.fresh (R:Rel E C s a w G pt):TC E.n C.m s a w pt w.heap.size=0:=by
  rcases Nat.eq_zero_or_pos (TC E.n C.m s a w pt w.heap.size) with h | h
  · exact h
  · have:=(R.cb _ h).1;omega
theorem Rel.newRow (R:Rel E C s a w G pt) (o:Oper) (ho:∀ t,o.dst=some t→t<E.n) {t:Ty} {l:List t.den} {cells:Array Value} {e:TypeId} {fr:Nat×Nat} {c:Nat}
    (hl:fB (w.alloc (.cells cells e fr)) G t l w.heap.size 0) (hc:l.length≤c) (hcs:c*t.nc≤cells.size) (hfr:∀ o,o<cells.size→¬ (fr.1≤o∧o<fr.2)) (hb:l.length*t.mE≤big) (hnc:0<t.nc) :
    Rel E C (ak (bB o (.sl 2 t l)) s) (a.put o.dst (.slice (some ⟨w.heap.size,0,none⟩) l.length c)) (w.alloc (.cells cells e fr)) G pt:=by
  refine R.put o ho (fun _=>False) (eZ _ R.gz) (fun b _ hb=>⟨alloc_old _ hb,rfl⟩) (fun b h=>h.elim)
    ⟨_,_,_,rfl,rfl,hb,.inr ⟨_,rfl,R.gz _ (Nat.le_refl _),⟨cells,e,fr,gY _,hcs,hfr⟩,hc,hl,hnc⟩⟩ (fun b=>?_) (fun b hb=>R.gz b (by simp at hb;omega)) rfl rfl rfl (by simp)
  rw [show cO b (.sl 2 t l) (.slice (some ⟨w.heap.size,0,none⟩) l.length c)=dw b (.sl 2 t l) (.slice (some ⟨w.heap.size,0,none⟩) l.length c) from rfl]
  simp only [dw]
  by_cases h:w.heap.size=b
  · subst h
    exact ⟨by simp,fun _=>⟨R.fresh,by simp,.inl R.hs⟩⟩
  · simp [h]
theorem Rel.sK:∀ (parts:List (Nat×Operand)) {s1:St} {G:Nat→Nat},Rel E C s1 a w G pt →
    (∀ t,get s1 (2*t)=get s (2*t)∨get s1 (2*t)=share (get s (2*t)))→(∀ p∈parts,dK (aV s p.2)=false) →
    ∃ G',Ext w G w G'∧Rel E C (ak (dQ s share jg parts) s1) a w G' pt ∧
      (∀ p∈parts,aY w G' pt (view (aV s p.2)) (a.eval p.2)) ∧
      (∀ t,get (ak (dQ s share jg parts) s1) (2*t)=get s (2*t)∨get (ak (dQ s share jg parts) s1) (2*t)=share (get s (2*t)))
  | [],s1,G,R,hs,_=>⟨G,Ext.refl _ _,R,fun p hp=>by simp at hp,hs⟩
  | (j,x)::r,s1,G,R,hs,ht=>by
    have htx:dK (aV s x)=false:=ht (j,x) (by simp)
    have ss:∀ d:D,share (share d)=share d:=by
      intro d
      cases d with
      | agg cs=>
        simp only [share,List.map_map]
        congr 1
        apply List.map_congr_left
        intro d _
        cases d with
        | sl f t l=>
          show D.sl _ t l=D.sl _ t l
          by_cases h:f=2
          · subst h;rfl
          · rw [show Nat.beq f 2=false by rw [eX];simp [h]]
            simp only [cond_false]
            rw [show Nat.beq f 2=false by rw [eX];simp [h]]
            rfl
        | _=>rfl
      | sl f t l=>
        show D.sl _ t l=D.sl _ t l
        by_cases h:f=2
        · subst h;rfl
        · rw [show Nat.beq f 2=false by rw [eX];simp [h]]
          simp only [cond_false]
          rw [show Nat.beq f 2=false by rw [eX];simp [h]]
          rfl
      | _=>rfl
    -- the head
    have head:∃ G1,Ext w G w G1∧Rel E C (ak (bZ s x share jg) s1) a w G1 pt∧aY w G1 pt (view (aV s x)) (a.eval x) ∧
        (∀ t,get (ak (bZ s x share jg) s1) (2*t)=get s (2*t)∨get (ak (bZ s x share jg) s1) (2*t)=share (get s (2*t))):=by
      cases x with
      | tmp t=>
        have hnt:dK (get s1 (2*t))=false:=by
          have Wp:dK (get s (2*t))=false:=htx
          rcases hs t with h | h
          · rw [h];exact Wp
          · rw [h];cases hd:get s (2*t)<;>rw [hd] at Wp<;>first | rfl | exact Wp
        cases hU:jg (get s (2*t)) with
        | false=>
          have e1:bZ s (.tmp t) share jg=[]:=by simp [bZ,hU]
          rw [e1]
          have h1:get s1 (2*t)=get s (2*t):=by
            rcases hs t with h | h
            · exact h
            · rw [h,nJ hU]
          refine ⟨G,Ext.refl _ _,R,?_,hs⟩
          have:=R.tm t
          rw [h1,←nJ hU] at this
          exact this.view htx
        | true=>
          have e1:bZ s (.tmp t) share jg=[(2*t,share (get s (2*t)))]:=by simp [bZ,hU]
          rw [e1]
          have h1:share (get s1 (2*t))=share (get s (2*t)):=by
            rcases hs t with h | h
            · rw [h]
            · rw [h,ss]
          obtain ⟨G1,q1,q2,q3,_⟩:=R.xK t hnt
          rw [h1] at q2 q3
          refine ⟨G1,q1,q2,q3.view htx,fun t'=>?_⟩
          show get ((2*t,share (get s (2*t)))::s1) (2*t')=_∨_
          rw [show ak [(2*t,share (get s (2*t)))] s1=(2*t,share (get s (2*t)))::s1 from rfl,bV]
          by_cases h:t' = t
          · subst h;rw [if_pos rfl];exact .inr rfl
          · rw [if_neg h];exact hs t'
      | const v=>
        refine ⟨G,Ext.refl _ _,R,?_,hs⟩
        have hr:=aT R (.const v)
        have e:share (aV s1 (.const v))=aV s1 (.const v):=AV v
        rw [←e] at hr
        exact hr.view htx
      | global g=>exact ⟨G,Ext.refl _ _,R,aT R (.global g),hs⟩
      | func f=>exact ⟨G,Ext.refl _ _,R,aT R (.func f),hs⟩
    obtain ⟨G1,e1,R1,hv1,hs1⟩:=head
    obtain ⟨G2,e2,R2,hv2,hs2⟩:=Rel.sK r R1 hs1 (fun p hp=>ht p (by simp [hp]))
    refine ⟨G2,e1.trans e2,by simp only [dQ,aP];exact R2,fun p hp=>?_,by simp only [dQ,aP];exact hs2⟩
    rcases List.mem_cons.1 hp with rfl | hp
    · refine aY.mono (pt:=pt) e2 (fun _ _ _ h=>h) hv1 fun b hb=>?_
      rw [kR _ _ _ htx] at hb;omega
    · exact hv2 p hp
theorem Al (HP:nM P E) (R:Rel E C s a w G pt) (ho:∀ t,o.dst=some t→t<E.n) (T n:Nat) (parts:Array (Nat×Operand)) (hop:o.op = .buildSlice T n parts)
    (h:jk E o s T n parts.toList=some (true,u)):fC P E C o a w (ak u s):=by
  simp only [jk] at h
  split at h
  · rename_i i hi
    have hu:=(HP.ti _ _ hi).und
    split at h
    · rename_i e hd
      rw [hd] at hu
      split at h
      · rename_i ei uS
        obtain ⟨pi,z,p1,p2,p3,p4,p5,p6,p7,p8⟩:=(HP.ti _ _ uS).info
        split at h
        · rename_i cs hcs
          split at h
          · rename_i l hl
            cases hb:(Nat.ble (n*ei.size) 16777216&&Nat.beq ei.size ei.ty.nc&&Nat.blt 0 ei.size&&Nat.ble (n*ei.ty.mE) big) with
            | false=>simp only [hb,cond_false,reduceCtorEq] at h
            | true=>
              simp only [hb,cond_true,Option.some.injEq,Prod.mk.injEq,true_and] at h
              subst h
              simp only [Bool.and_eq_true] at hb
              obtain ⟨⟨⟨hb1,hb2⟩,hb3⟩,hb4⟩:=hb
              have hb1:=Nat.le_of_ble_eq_true hb1
              have hb2:=Nat.eq_of_beq_eq_true hb2
              have hb3:0<ei.size:=by simpa [Nat.blt_eq] using hb3
              have hb4:=Nat.le_of_ble_eq_true hb4
              -- no part is a tuple
              have hnt:∀ (l:List (Nat×Operand)) (cs cs':List D),dW (fun j=>some (j*ei.size,ei.size)) s view cs l=some cs'→∀ p∈l,dK (aV s p.2)=false:=by
                intro l
                induction l with
                | nil=>intro _ _ _ p hp;simp at hp
                | cons q l ih=>
                  intro cs cs' h p hp
                  obtain ⟨j,x⟩:=q
                  simp only [dW] at h
                  cases hbb:(fG (aV s x)&&Nat.beq (fit ((cs.drop (j*ei.size)).take ei.size) (leaves (view (aV s x)))).length ei.size&&Nat.ble (j*ei.size+ei.size) cs.length) with
                  | false=>simp only [hbb,cond_false,reduceCtorEq] at h
                  | true=>
                    simp only [hbb,cond_true] at h
                    simp only [Bool.and_eq_true] at hbb
                    rcases List.mem_cons.1 hp with rfl | hp
                    · have:=hbb.1.1
                      cases hd:aV s x<;>rw [hd] at this<;>first | rfl | (simp [fG] at this)
                    · exact ih _ _ h p hp
              have MH:=hnt _ _ _ hcs
              obtain ⟨G1,e1,R1,hv1,hs1⟩:=Rel.sK (s:=s) parts.toList R (fun t=>.inl rfl) MH
              have hzs:z.cells.size=ei.size:=p5
              obtain ⟨rc1,TR⟩:=xV z.cells n
              have hz:aQ w G1 pt (rep n ei.zero) (aO ((Array.range (n*z.cells.size)).map (z.cells[· % z.cells.size]!))):=by
                intro k hk
                obtain ⟨h',e⟩:=nN n ei.zero k hk
                rw [jc,p6] at hk
                rw [TR k (by rw [hzs];exact hk),e,hzs]
                simp only [p6] at h' ⊢
                exact ⟨(p8 (k%ei.size) (by omega)).1 w G1 pt,p7 _ h'⟩
              have hz0:∀ b,aK b (rep n ei.zero) (aO ((Array.range (n*z.cells.size)).map (z.cells[· % z.cells.size]!)))=0:=by
                intro b
                refine qP _ _ fun k hk=>?_
                obtain ⟨h',e⟩:=nN n ei.zero k hk
                rw [jc,p6] at hk
                rw [TR k (by rw [hzs];exact hk),e,hzs]
                simp only [p6] at h' ⊢
                exact (p8 (k%ei.size) (by omega)).2 b
              have Et:∀ d,fG d=true→fG (view d)=true:=by intro d hd;cases d<;>first | rfl | exact hd
              obtain ⟨cells,f1,f2,f3,f4,f5⟩:=sI (w:=w) (G:=G1) (pt:=pt) (a:=a) (s:=s) (fun j=>some (j*ei.size,ei.size)) view Et parts.toList (rep n ei.zero) _ hv1 hz
                (by rw [rc1,jc,p6,hzs]) hcs
              have hc0:∀ b,aK b cs (aO cells)=0:=by
                intro b
                have h1:=f5 b
                have h2:=hz0 b
                have h3:rC s a view b parts.toList=0:=by
                  have key:∀ l:List (Nat×Operand),(∀ p∈l,dK (aV s p.2)=false)→rC s a view b l=0:=by
                    intro l
                    induction l with
                    | nil=>intro _;rfl
                    | cons q l ih=>
                      intro hl
                      simp only [rC]
                      rw [ih fun p hp=>hl p (by simp [hp]),kR _ _ _ (hl q (by simp))]
                  exact key _ MH
                omega
              have hsz:cells.size=n*ei.size:=by rw [f2,f4,jc,p6]
              have hrun:(execOp a.eval o).run P w = .ok (.value (.slice (some ⟨w.heap.size,0,none⟩) n n)) (w.alloc (.cells cells e)):=by
                have e0:(parts.map fun (i,x)=>(i,a.eval x)).toList=parts.toList.map fun p=>(p.1,a.eval p.2):=by simp
                have hsz2:(sizeOf e).run P w = .ok ei.size w:=by simp [sizeOf,typeInfo,p1,p2]
                by_cases hn0:n*ei.size=0
                · have hf:Instr.fill (fun i=>some (i*ei.size,ei.size)) #[] (parts.toList.map fun p=>(p.1,a.eval p.2))=some cells:=by
                    rw [hzs,hn0] at f1
                    simpa [Array.range_zero'] using f1
                  simp [execOp,hop,Instr.buildSlice,run_underlying hu,hsz2,hn0,hf,newRow,Array.range_zero']
                · have hf:Instr.fill (fun i=>some (i*ei.size,ei.size)) ((Array.range (n*ei.size)).map (z.cells[· % ei.size]!)) (parts.toList.map fun p=>(p.1,a.eval p.2))=some cells:=by
                    simp only [hzs] at f1
                    exact f1
                  have hle:¬ (16777216<n*ei.size):=by omega
                  simp [execOp,hop,Instr.buildSlice,run_underlying hu,hsz2,hn0,hle,zeroValue,typeInfo,p1,p4,hzs,hf,newRow]
              have hdec:=mQ (w:=w) (G:=G1) (pt:=pt) (eZ (.cells cells e (0,0)) R1.gz) n (b:=w.heap.size) (o:=0) hl (f3.view0 hc0) (fun j hj=>by
                rw [World.cell?_alloc_new]
                have hj':0+j<cells.size:=by rw [hsz,hb2];omega
                rw [Array.getElem?_eq_getElem hj']
                simp [aO,Array.getD_eq_getD_getElem?,show j<cells.size by omega])
              obtain ⟨hdec,hlen⟩:=hdec
              rw [aP]
              refine ⟨_,_,G1,pt,.inl hrun,?_⟩
              have:=R1.newRow o ho (c:=n) (cells:=cells) (e:=e) (fr:=(0,0)) hdec (by omega) (by rw [hsz,hb2];exact Nat.le_refl _) (fun _ _=>by simp) (by rw [hlen];exact hb4) (by omega)
              rw [hlen] at this
              exact this
          · cases h
        · cases h
      · cases h
    · cases h
  · cases h
end
end Go.aW
namespace Go.aW
section
variable {P:Program} {E:Env} {C:Ctx} {s:St} {a:Act} {w:World} {G:Nat→Nat} {pt:Nat→Nat→Option Value} {o:Oper} {u:St}
theorem fJ (cs:Array Value) (e:TypeId) (fr:Nat×Nat) (j:Nat):(w.alloc (.cells cs e fr)).cell? ⟨w.heap.size,j,none⟩=cs[j]?:=by
  simp only [World.cell?,gY]
  simp
theorem qo (cs:Array Value) (e:TypeId) (fr:Nat×Nat) (j:Nat):aC (w.alloc (.cells cs e fr)) w.heap.size j=aO cs j:=by
  simp [aC,fJ,aO,Array.getD_eq_getD_getElem?]
theorem Rel.newVar (R:Rel E C s a w G pt) (hm:E.n≤C.m) (dst:Nat) (hd:dst<E.n) {ds:List D} {cells:Array Value} {e:TypeId}
    (hr:aQ (w.alloc (.cells cells e)) G pt ds (aO cells)) (hsz:ds.length≤cells.size)
    (hc:∀ b,aK b ds (aO cells)≤1∧(0<aK b ds (aO cells)→TC E.n C.m s a w pt b=0∧b<w.heap.size∧(C.w0.heap.size≤b∨C.X b))) :
    Rel E C ((2*dst,.ptr dst (aI (get s (2*dst+1))+1) 0)::(2*dst+1,.aH (aI (get s (2*dst+1))+1) true ds)::s) (a.put (some dst) (.pointer (some ⟨w.heap.size,0,none⟩)))
      (w.alloc (.cells cells e)) G (aS pt dst (aI (get s (2*dst+1))+1) (.pointer (some ⟨w.heap.size,0,none⟩))):=by
  have Rb:∀ i j v,pt i j=some v→aS pt dst (aI (get s (2*dst+1))+1) (.pointer (some ⟨w.heap.size,0,none⟩)) i j=some v:=by
    intro i j v hv
    unfold aS
    rw [if_neg]
    · exact hv
    · rintro ⟨rfl,rfl⟩
      rw [R.pf i _ (Nat.lt_succ_self _)] at hv;cases hv
  have MI:aS pt dst (aI (get s (2*dst+1))+1) (.pointer (some ⟨w.heap.size,0,none⟩)) dst (aI (get s (2*dst+1))+1)=some (.pointer (some ⟨w.heap.size,0,none⟩)):=by simp [aS]
  refine R.vg dst hd hm (eZ _ R.gz) (fun b hb=>⟨alloc_old _ hb,rfl⟩) ⟨w.heap.size,by rw [MI];rfl,rfl⟩ (fun _=>rfl)
    (fun _=>⟨w.heap.size,MI,⟨cells,e,(0,0),gY _,hsz,fun _ _=>by simp⟩,R.gz _ (Nat.le_refl _),?_⟩) rfl (fun b=>?_) (fun b hb=>R.gz b (by simp at hb;omega)) rfl rfl rfl (by simp)
  · refine (hr.congr fun j _=>(qo cells e (0,0) j).symm).mono (Ext.refl _ _) Rb (fun _ _=>rfl) fun _ _=>⟨rfl,rfl⟩
  · have e1:fI (w.alloc (.cells cells e)) (aS pt dst (aI (get s (2*dst+1))+1) (.pointer (some ⟨w.heap.size,0,none⟩))) b dst (.aH (aI (get s (2*dst+1))+1) true ds) =
        (if w.heap.size=b then 1 else 0)+aK b ds (aO cells):=by
      simp only [fI,MI]
      congr 1
      · simp [bR,bA]
      · refine fZ fun j _=>?_
        simp only [bA,Option.getD_some]
        exact qo cells e (0,0) j
    rw [e1]
    have h1:=hc b
    by_cases hb:w.heap.size=b
    · rw [if_pos hb]
      have:aK b ds (aO cells)=0:=by
        rcases Nat.eq_zero_or_pos (aK b ds (aO cells)) with h | h
        · exact h
        · have:=(h1.2 h).2.1;omega
      exact ⟨by omega,fun _=>⟨by rw [←hb];exact R.fresh,by rw [←hb];simp,.inl (by rw [←hb];exact R.hs)⟩⟩
    · rw [if_neg hb]
      exact ⟨by omega,fun h=>⟨(h1.2 (by omega)).1,by have:=(h1.2 (by omega)).2.1;simp;omega,(h1.2 (by omega)).2.2⟩⟩
theorem Rel.Wq (R:Rel E C s a w G pt) (hm:E.n≤C.m) (dst:Nat) (hd:dst<E.n) {ds:List D} {cells:Array Value} {e:TypeId}
    (hr:aQ (w.alloc (.cells cells e)) G pt ds (aO cells)) {n:Nat} (hsz:ds.length≤cells.size)
    (hc:∀ b,aK b ds (aO cells)≤1∧(0<aK b ds (aO cells)→TC E.n C.m s a w pt b=0∧b<w.heap.size∧(C.w0.heap.size≤b∨C.X b))) (hn:n≤iQ) :
    Rel E C ((2*dst,.AJ dst (aI (get s (2*dst+1))+1) n)::(2*dst+1,.aH (aI (get s (2*dst+1))+1) true ds)::s) (a.put (some dst) (.slice (some ⟨w.heap.size,0,none⟩) n n))
      (w.alloc (.cells cells e)) G (aS pt dst (aI (get s (2*dst+1))+1) (.pointer (some ⟨w.heap.size,0,none⟩))):=by
  have Rb:∀ i j v,pt i j=some v→aS pt dst (aI (get s (2*dst+1))+1) (.pointer (some ⟨w.heap.size,0,none⟩)) i j=some v:=by
    intro i j v hv
    unfold aS
    rw [if_neg]
    · exact hv
    · rintro ⟨rfl,rfl⟩
      rw [R.pf i _ (Nat.lt_succ_self _)] at hv;cases hv
  have MI:aS pt dst (aI (get s (2*dst+1))+1) (.pointer (some ⟨w.heap.size,0,none⟩)) dst (aI (get s (2*dst+1))+1)=some (.pointer (some ⟨w.heap.size,0,none⟩)):=by simp [aS]
  refine R.vg dst hd hm (eZ _ R.gz) (fun b hb=>⟨alloc_old _ hb,rfl⟩) ⟨.inl ⟨w.heap.size,n,by rw [MI];rfl,rfl⟩,hn⟩ (fun _=>rfl)
    (fun _=>⟨w.heap.size,MI,⟨cells,e,(0,0),gY _,hsz,fun _ _=>by simp⟩,R.gz _ (Nat.le_refl _),?_⟩) rfl (fun b=>?_) (fun b hb=>R.gz b (by simp at hb;omega)) rfl rfl rfl (by simp)
  · refine (hr.congr fun j _=>(qo cells e (0,0) j).symm).mono (Ext.refl _ _) Rb (fun _ _=>rfl) fun _ _=>⟨rfl,rfl⟩
  · have e1:fI (w.alloc (.cells cells e)) (aS pt dst (aI (get s (2*dst+1))+1) (.pointer (some ⟨w.heap.size,0,none⟩))) b dst (.aH (aI (get s (2*dst+1))+1) true ds) =
        (if w.heap.size=b then 1 else 0)+aK b ds (aO cells):=by
      simp only [fI,MI]
      congr 1
      · simp [bR,bA]
      · refine fZ fun j _=>?_
        simp only [bA,Option.getD_some]
        exact qo cells e (0,0) j
    rw [e1]
    have h1:=hc b
    by_cases hb:w.heap.size=b
    · rw [if_pos hb]
      have:aK b ds (aO cells)=0:=by
        rcases Nat.eq_zero_or_pos (aK b ds (aO cells)) with h | h
        · exact h
        · have:=(h1.2 h).2.1;omega
      exact ⟨by omega,fun _=>⟨by rw [←hb];exact R.fresh,by rw [←hb];simp,.inl (by rw [←hb];exact R.hs)⟩⟩
    · rw [if_neg hb]
      exact ⟨by omega,fun h=>⟨(h1.2 (by omega)).1,by have:=(h1.2 (by omega)).2.1;simp;omega,(h1.2 (by omega)).2.2⟩⟩
theorem Rel.A8 (R:Rel E C s a w G pt) (hm:E.n≤C.m) (dst:Nat) (hd:dst<E.n) {t:Ty} {l:List t.den} {cells:Array Value} {e:TypeId}
    (hr:fB (w.alloc (.cells cells e)) G t l w.heap.size 0) (hsz:l.length*t.nc≤cells.size) :
    Rel E C ((2*dst,.ptr dst (aI (get s (2*dst+1))+1) 0)::(2*dst+1,.aU (aI (get s (2*dst+1))+1) true true t l)::s) (a.put (some dst) (.pointer (some ⟨w.heap.size,0,none⟩)))
      (w.alloc (.cells cells e)) G (aS pt dst (aI (get s (2*dst+1))+1) (.pointer (some ⟨w.heap.size,0,none⟩))):=by
  have MI:aS pt dst (aI (get s (2*dst+1))+1) (.pointer (some ⟨w.heap.size,0,none⟩)) dst (aI (get s (2*dst+1))+1)=some (.pointer (some ⟨w.heap.size,0,none⟩)):=by simp [aS]
  refine R.vg dst hd hm (eZ _ R.gz) (fun b hb=>⟨alloc_old _ hb,rfl⟩) ⟨w.heap.size,by rw [MI];rfl,rfl⟩ (fun _=>rfl)
    (fun _=>?_) rfl (fun b=>?_) (fun b hb=>R.gz b (by simp at hb;omega)) rfl rfl rfl (by simp)
  · simp only [if_true]
    exact ⟨w.heap.size,MI,⟨cells,e,(0,0),gY _,hsz,fun _ _=>by simp⟩,R.gz _ (Nat.le_refl _),hr⟩
  · have e1:fI (w.alloc (.cells cells e)) (aS pt dst (aI (get s (2*dst+1))+1) (.pointer (some ⟨w.heap.size,0,none⟩))) b dst (.aU (aI (get s (2*dst+1))+1) true true t l) =
        (if w.heap.size=b then 1 else 0):=by
      simp only [fI,MI]
      simp [bR,bA]
    rw [e1]
    by_cases hb:w.heap.size=b
    · rw [if_pos hb]
      exact ⟨by omega,fun _=>⟨by rw [←hb];exact R.fresh,by rw [←hb];simp,.inl (by rw [←hb];exact R.hs)⟩⟩
    · rw [if_neg hb]
      exact ⟨by omega,fun h=>by omega⟩
theorem MJ (HP:nM P E) (R:Rel E C s a w G pt) (hm:E.n≤C.m) (ho:∀ t,o.dst=some t→t<E.n) (T:Nat) (hop:o.op = .alloc T)
    (h:ru E o s T=some (true,u)):fC P E C o a w (ak u s):=by
  simp only [ru] at h
  split at h
  · rename_i i dst hi hdst
    obtain ⟨pi,z,p1,p2,p3,p4,p5,p6,p7,p8⟩:=(HP.ti _ _ hi).info
    have hrun:(execOp a.eval o).run P w = .ok (.value (.pointer (some ⟨w.heap.size,0,none⟩))) (w.alloc (.cells z.cells T)):=by
      simp [execOp,hop,Instr.alloc,zeroValue,typeInfo,p1,p4,newVar,newRow]
    split at h
    · rename_i t harr
      split at h
      · rename_i l hl
        cases hb:Nat.beq (i.size / t.nc*t.nc) i.size with
        | false=>simp [hb] at h
        | true=>
          simp only [hb,cond_true,Gq,Option.some.injEq,Prod.mk.injEq,true_and] at h
          subst h
          have hnc:=Nat.eq_of_beq_eq_true hb
          have hz:aQ w G pt i.zero (aO z.cells):=fun j hj=>⟨(p8 j hj).1 w G pt,p7 j (by omega)⟩
          have hz0:∀ b,aK b i.zero (aO z.cells)=0:=fun b=>qP _ _ fun j hj=>(p8 j hj).2 b
          obtain ⟨q1,q2⟩:=mQ (w:=w) (G:=G) (pt:=pt) (eZ (.cells z.cells T) R.gz) (i.size / t.nc) (b:=w.heap.size) (o:=0) hl (hz.view0 hz0) (fun j hj=>by
            rw [fJ]
            have hj':0+j<z.cells.size:=by rw [p5];rw [hnc] at hj;omega
            rw [Array.getElem?_eq_getElem hj']
            simp [aO,Array.getD_eq_getD_getElem?,show j<z.cells.size by omega])
          have:=R.A8 hm dst (ho dst hdst) (cells:=z.cells) (e:=T) q1 (by rw [q2,hnc,p5];omega)
          exact ⟨_,_,G,_,.inl hrun,by rw [hdst];exact this⟩
      · cases h
    · simp only [Option.some.injEq,Prod.mk.injEq,true_and] at h
      subst h
      have:=R.newVar hm dst (ho dst hdst) (ds:=i.zero) (cells:=z.cells) (e:=T) (fun j hj=>⟨(p8 j hj).1 _ G pt,p7 j (by omega)⟩) (by omega)
        (fun b=>by
          have:aK b i.zero (aO z.cells)=0:=qP _ _ fun j hj=>(p8 j hj).2 b
          exact ⟨by omega,fun h=>by omega⟩)
      exact ⟨_,_,G,_,.inl hrun,by rw [hdst];exact this⟩
  · cases h
theorem jW (x:Operand) (f:D→D) (h:D→Bool) (i:Nat):get (ak (bZ s x f h) s) (2*i+1)=get s (2*i+1):=by
  cases x with
  | tmp t=>simp only [bZ];cases h (get s (2*t))<;>simp [ak]
  | _=>rfl
theorem Ws (HP:nM P E) (R:Rel E C s a w G pt) (hm:E.n≤C.m) (ho:∀ t,o.dst=some t→t<E.n) (T:Nat) (x:Operand) (hop:o.op = .box T x)
    (h:Gs E o s T x=some (true,u)):fC P E C o a w (ak u s):=by
  simp only [Gs] at h
  split at h
  · rename_i i dst hi hdst
    cases hD:fG (bS i.ty (aV s x)) with
    | false=>simp [hD] at h
    | true=>
      simp only [hD,cond_true] at h
      obtain ⟨q1,q2⟩:=rA (t:=i.ty) (aT R x)
      have hnt:dK (bS i.ty (aV s x))=false:=by cases hd:bS i.ty (aV s x)<;>rw [hd] at hD<;>first | rfl | (simp [fG] at hD)
      have hrun:(execOp a.eval o).run P w = .ok (.value (.pointer (some ⟨w.heap.size,0,none⟩))) (w.alloc (.cells (a.eval x).cells T)):=by
        simp [execOp,hop,Instr.box,newVar,newRow]
      split at h
      · rename_i t harr
        split at h
        · rename_i l hl
          cases hb:Nat.beq t.nc 1 with
          | false=>simp [hb] at h
          | true=>
            simp only [hb,cond_true,Option.some.injEq,Prod.mk.injEq,true_and] at h
            subst h
            have hnc:=Nat.eq_of_beq_eq_true hb
            obtain ⟨G',e',R1,hv1,hv2,_⟩:=R.xL x (xM hnt)
            have hvr:aY w G' pt (view (bS i.ty (aV s x))) (a.eval x):=by
              cases hd:aV s x with
              | jf=>
                rw [hd] at hv1
                have hv:a.eval x = .slice none 0 0:=hv1
                rw [hv]
                cases ht:i.ty<;>first | rfl | skip
                exact ⟨none,0,0,rfl,rfl,by simp,by simp,.inl rfl⟩
              | _=>rw [hd] at hv1;exact hv1
            have hdv:fG (view (bS i.ty (aV s x)))=true:=by cases hd:bS i.ty (aV s x)<;>rw [hd] at hD<;>first | rfl | exact hD
            obtain ⟨l1,l2,l3⟩:=kV hvr hdv
            have hln:(leaves (view (bS i.ty (aV s x)))).length=(leaves (bS i.ty (aV s x))).length:=by
              cases bS i.ty (aV s x)<;>simp [view,leaves,bU]
            have hl0:∀ b,aK b (leaves (view (bS i.ty (aV s x)))) (aO (a.eval x).cells)=0:=fun b=>by rw [l3];exact kR _ _ _ hnt
            obtain ⟨r1,r2⟩:=mQ (w:=w) (G:=G') (pt:=pt) (eZ (.cells (a.eval x).cells T) R1.gz) _ (b:=w.heap.size) (o:=0) hl (l1.view0 hl0) (fun j hj=>by
              rw [fJ]
              have hj':0+j<(a.eval x).cells.size:=by rw [l2,hln];rw [hnc] at hj;omega
              rw [Array.getElem?_eq_getElem hj']
              simp [aO,Array.getD_eq_getD_getElem?,show j<(a.eval x).cells.size by omega])
            rw [aP,←jW x share jg dst]
            have:=R1.A8 hm dst (ho dst hdst) (cells:=(a.eval x).cells) (e:=T) r1 (by rw [r2,hnc,l2,hln];omega)
            exact ⟨_,_,G',_,.inl hrun,by rw [hdst];exact this⟩
        · cases h
      · -- a variable: what is taken goes into it
        have keep:∀ (ds:List D) (G':Nat→Nat),Ext w G w G'→(∀ b,cO b (aV s x) (a.eval x)=0→G' b=G b)→aQ w G' pt ds (aO (a.eval x).cells)→ds.length=(a.eval x).cells.size →
            (∀ b,aK b ds (aO (a.eval x).cells)=cO b (aV s x) (a.eval x)) →
            fC P E C o a w (ak (bZ s x strip dJ++[(2*dst+1,.aH (aI (get s (2*dst+1))+1) true ds),(2*dst,.ptr dst (aI (get s (2*dst+1))+1) 0)]) s):=by
          intro ds G' e' hG' hds hdl hdc
          obtain ⟨R0,t0⟩:=R.kS x
          -- the bounds may be raised for blocks that nobody holds any more
          have R1:Rel E C (ak (bZ s x strip dJ) s) a w G' pt:=by
            refine R0.step (fun _=>False) (fun _=>False) (fun b=>0<cO b (aV s x) (a.eval x)) rfl R0.df (fun _ _=>⟨rfl,rfl⟩) (fun _ _=>⟨rfl,rfl⟩) e' (fun _ _ _ h=>h) (fun b hb _=>⟨rfl,hG' b (by omega)⟩)
              (fun b hb t _=>?_) (fun b hb id _=>?_) (fun b hb=>(R.held x hb).2) (fun t h=>h.elim) (fun id h=>h.elim) (fun _ _ b=>⟨R0.ct b,R0.cb b⟩) (fun b hb=>?_) rfl rfl rfl (Nat.le_refl _)
            · have:=R0.lN b t;have:=t0 b;have:=R.ct b;omega
            · have:=R0.gJ b id;have:=t0 b;have:=R.ct b;omega
            · rw [hG' b ?_];exact R.gz b hb
              rcases Nat.eq_zero_or_pos (cO b (aV s x) (a.eval x)) with h | h
              · exact h
              · have:=(R.held x h).1;omega
          rw [aP,←jW x strip dJ dst]
          have:=R1.newVar hm dst (ho dst hdst) (ds:=ds) (cells:=(a.eval x).cells) (e:=T) (hds.mono (eZ _ R1.gz) (fun _ _ _ h=>h) (fun _ _=>rfl) fun b hb=>⟨alloc_old _ (by
              rw [hdc] at hb;exact (R.held x hb).1),rfl⟩) (by omega)
            (fun b=>by
              rw [hdc]
              have h1:=t0 b;have h2:=R.ct b
              exact ⟨by omega,fun h=>⟨by omega,R.held x h⟩⟩)
          exact ⟨_,_,G',_,.inl hrun,by rw [hdst];exact this⟩
        obtain ⟨l1,l2,l3⟩:=kV q1 hD
        have hc1:∀ b,cO b (aV s x) (a.eval x)≤1:=fun b=>by have:=(R.kS x).2 b;have:=R.ct b;omega
        cases hb:Nat.beq (tag E o) 2 with
        | true=>
          simp only [hb,cond_true,Option.some.injEq,Prod.mk.injEq,true_and] at h
          subst h
          exact keep _ G (Ext.refl _ _) (fun _ _=>rfl) l1 l2.symm (fun b=>by rw [l3,q2])
        | false=>
          simp only [hb,cond_false,Option.some.injEq,Prod.mk.injEq,true_and] at h
          subst h
          obtain ⟨e',hsh⟩:=l1.share (fun b=>by rw [l3,q2];exact hc1 b)
          exact keep _ _ e' (fun b hb=>fP (by rw [l3,q2];exact hb)) hsh (by rw [List.length_map];exact l2.symm) (fun b=>by rw [kQ,l3,q2])
  · cases h
theorem Eu (HP:nM P E) (hm:E.n≤C.m) (R:Rel E C s a w G pt) (ho:∀ t,o.dst=some t→t<E.n) (T n:Nat) (parts:Array (Nat×Operand)) (hop:o.op = .buildSlice T n parts)
    (h:jG E o s T n parts.toList=some (true,u)):fC P E C o a w (ak u s):=by
  simp only [jG] at h
  split at h
  · rename_i i dst hi hdst
    have hu:=(HP.ti _ _ hi).und
    split at h
    · rename_i e hd
      rw [hd] at hu
      split at h
      · rename_i ei uS
        obtain ⟨pi,z,p1,p2,p3,p4,p5,p6,p7,p8⟩:=(HP.ti _ _ uS).info
        split at h
        · rename_i cs hcs
          cases hb:(Nat.ble (n*ei.size) 16777216&&Nat.blt 0 ei.size) with
          | false=>simp only [hb,cond_false,reduceCtorEq] at h
          | true=>
              simp only [hb,cond_true,Option.some.injEq,Prod.mk.injEq,true_and] at h
              subst h
              simp only [Bool.and_eq_true] at hb
              obtain ⟨hb1,hb3⟩:=hb
              have hb1:=Nat.le_of_ble_eq_true hb1
              have hb3:0<ei.size:=by simpa [Nat.blt_eq] using hb3
              -- no part is a tuple
              have hnt:∀ (l:List (Nat×Operand)) (cs cs':List D),dW (fun j=>some (j*ei.size,ei.size)) s view cs l=some cs'→∀ p∈l,dK (aV s p.2)=false:=by
                intro l
                induction l with
                | nil=>intro _ _ _ p hp;simp at hp
                | cons q l ih=>
                  intro cs cs' h p hp
                  obtain ⟨j,x⟩:=q
                  simp only [dW] at h
                  cases hbb:(fG (aV s x)&&Nat.beq (fit ((cs.drop (j*ei.size)).take ei.size) (leaves (view (aV s x)))).length ei.size&&Nat.ble (j*ei.size+ei.size) cs.length) with
                  | false=>simp only [hbb,cond_false,reduceCtorEq] at h
                  | true=>
                    simp only [hbb,cond_true] at h
                    simp only [Bool.and_eq_true] at hbb
                    rcases List.mem_cons.1 hp with rfl | hp
                    · have:=hbb.1.1
                      cases hd:aV s x<;>rw [hd] at this<;>first | rfl | (simp [fG] at this)
                    · exact ih _ _ h p hp
              have MH:=hnt _ _ _ hcs
              obtain ⟨G1,e1,R1,hv1,hs1⟩:=Rel.sK (s:=s) parts.toList R (fun t=>.inl rfl) MH
              have hzs:z.cells.size=ei.size:=p5
              obtain ⟨rc1,TR⟩:=xV z.cells n
              have hz:aQ w G1 pt (rep n ei.zero) (aO ((Array.range (n*z.cells.size)).map (z.cells[· % z.cells.size]!))):=by
                intro k hk
                obtain ⟨h',e⟩:=nN n ei.zero k hk
                rw [jc,p6] at hk
                rw [TR k (by rw [hzs];exact hk),e,hzs]
                simp only [p6] at h' ⊢
                exact ⟨(p8 (k%ei.size) (by omega)).1 w G1 pt,p7 _ h'⟩
              have hz0:∀ b,aK b (rep n ei.zero) (aO ((Array.range (n*z.cells.size)).map (z.cells[· % z.cells.size]!)))=0:=by
                intro b
                refine qP _ _ fun k hk=>?_
                obtain ⟨h',e⟩:=nN n ei.zero k hk
                rw [jc,p6] at hk
                rw [TR k (by rw [hzs];exact hk),e,hzs]
                simp only [p6] at h' ⊢
                exact (p8 (k%ei.size) (by omega)).2 b
              have Et:∀ d,fG d=true→fG (view d)=true:=by intro d hd;cases d<;>first | rfl | exact hd
              obtain ⟨cells,f1,f2,f3,f4,f5⟩:=sI (w:=w) (G:=G1) (pt:=pt) (a:=a) (s:=s) (fun j=>some (j*ei.size,ei.size)) view Et parts.toList (rep n ei.zero) _ hv1 hz
                (by rw [rc1,jc,p6,hzs]) hcs
              have hc0:∀ b,aK b cs (aO cells)=0:=by
                intro b
                have h1:=f5 b
                have h2:=hz0 b
                have h3:rC s a view b parts.toList=0:=by
                  have key:∀ l:List (Nat×Operand),(∀ p∈l,dK (aV s p.2)=false)→rC s a view b l=0:=by
                    intro l
                    induction l with
                    | nil=>intro _;rfl
                    | cons q l ih=>
                      intro hl
                      simp only [rC]
                      rw [ih fun p hp=>hl p (by simp [hp]),kR _ _ _ (hl q (by simp))]
                  exact key _ MH
                omega
              have hsz:cells.size=n*ei.size:=by rw [f2,f4,jc,p6]
              have hrun:(execOp a.eval o).run P w = .ok (.value (.slice (some ⟨w.heap.size,0,none⟩) n n)) (w.alloc (.cells cells e)):=by
                have e0:(parts.map fun (i,x)=>(i,a.eval x)).toList=parts.toList.map fun p=>(p.1,a.eval p.2):=by simp
                have hsz2:(sizeOf e).run P w = .ok ei.size w:=by simp [sizeOf,typeInfo,p1,p2]
                by_cases hn0:n*ei.size=0
                · have hf:Instr.fill (fun i=>some (i*ei.size,ei.size)) #[] (parts.toList.map fun p=>(p.1,a.eval p.2))=some cells:=by
                    rw [hzs,hn0] at f1
                    simpa [Array.range_zero'] using f1
                  simp [execOp,hop,Instr.buildSlice,run_underlying hu,hsz2,hn0,hf,newRow,Array.range_zero']
                · have hf:Instr.fill (fun i=>some (i*ei.size,ei.size)) ((Array.range (n*ei.size)).map (z.cells[· % ei.size]!)) (parts.toList.map fun p=>(p.1,a.eval p.2))=some cells:=by
                    simp only [hzs] at f1
                    exact f1
                  have hle:¬ (16777216<n*ei.size):=by omega
                  simp [execOp,hop,Instr.buildSlice,run_underlying hu,hsz2,hn0,hle,zeroValue,typeInfo,p1,p4,hzs,hf,newRow]
              rw [aP]
              have hk:∀ i,get (ak (dQ s share jg parts.toList) s) (2*i+1)=get s (2*i+1):=fun i=>by
                have key:∀ (l:List (Nat×Operand)) (s1:St),get (ak (dQ s share jg l) s1) (2*i+1)=get s1 (2*i+1):=by
                  intro l
                  induction l with
                  | nil=>intro s1;rfl
                  | cons q l ih=>
                    intro s1
                    obtain ⟨j,x⟩:=q
                    simp only [dQ,aP]
                    rw [ih]
                    cases x with
                    | tmp t=>simp only [bZ];cases jg (get s (2*t))<;>simp [ak]
                    | _=>rfl
                exact key _ _
              have:=R1.Wq hm dst (ho dst hdst) (ds:=cs) (cells:=cells) (e:=e) (n:=n) (f3.mono (eZ _ R1.gz) (fun _ _ _ h=>h) (fun _ _=>rfl) fun b hb=>⟨alloc_old _ (by
                  have h1:=hc0 b;omega),rfl⟩) (by omega) (fun b=>by rw [hc0 b];exact ⟨by omega,fun h=>by omega⟩) (by
                  have:n≤n*ei.size:=Nat.le_mul_of_pos_right _ hb3
                  unfold iQ;omega)
              rw [hk] at this
              exact ⟨_,_,G1,_,.inl hrun,by rw [hdst];exact this⟩
        · cases h
      · cases h
    · cases h
  · cases h
end
end Go.aW
namespace Go.aW
section
variable {P:Program} {E:Env} {C:Ctx} {s:St} {a:Act} {w:World} {G:Nat→Nat} {pt:Nat→Nat→Option Value} {o:Oper} {u:St}
theorem oV {t:Ty} {z:t.den} {zs:List D} (hz:dec t zs=some (z,[])) (hlz:zs.length=t.nc):∀ n,sj t n (rep n zs)=some (List.replicate n z)
  | 0=>rfl
  | n+1=>by
    have key:∀ (t:Ty) (ds r:List D) (x:t.den) ,dec t ds=some (x,[])→dec t (ds++r)=some (x,r):=by
      have gen:∀ (t:Ty) (ds r r':List D) (x:t.den),dec t ds=some (x,r')→dec t (ds++r)=some (x,r'++r):=by
        intro t
        induction t with
        | int k=>
          intro ds r r' x h
          cases ds with
          | nil=>simp [dec] at h
          | cons d ds=>
            cases d<;>simp only [dec] at h<;>try (cases h;done)
            rename_i k' n
            cases hk:iO k k' with
            | false=>simp [hk] at h
            | true=>
              simp only [hk,cond_true,Option.some.injEq,Prod.mk.injEq] at h
              obtain ⟨rfl,rfl⟩:=h
              simp [dec,hk]
        | bool=>
          intro ds r r' x h
          cases ds with
          | nil=>simp [dec] at h
          | cons d ds=>
            cases d<;>simp only [dec] at h<;>try (cases h;done)
            simp only [Option.some.injEq,Prod.mk.injEq] at h
            obtain ⟨rfl,rfl⟩:=h
            simp [dec]
        | str=>
          intro ds r r' x h
          cases ds with
          | nil=>simp [dec] at h
          | cons d ds=>
            cases d<;>simp only [dec] at h<;>try (cases h;done)
            simp only [Option.some.injEq,Prod.mk.injEq] at h
            obtain ⟨rfl,rfl⟩:=h
            simp [dec]
        | fO f0 t _=>
          intro ds r r' x h
          cases ds with
          | nil=>simp [dec] at h
          | cons d ds=>
            cases d<;>simp only [dec] at h<;>try (cases h;done)
            rename_i f' t' y
            by_cases hb:(Ty.fO f' t').beq (.fO f0 t)=true
            · simp only [hb,dite_true,Option.some.injEq,Prod.mk.injEq] at h
              obtain ⟨rfl,rfl⟩:=h
              simp [dec,hb]
            · simp [hb] at h
        | sl t _=>
          intro ds r r' x h
          cases ds with
          | nil=>simp [dec] at h
          | cons d ds=>
            cases d<;>simp only [dec] at h<;>try (cases h;done)
            · simp only [Option.some.injEq,Prod.mk.injEq] at h
              obtain ⟨rfl,rfl⟩:=h
              simp [dec]
            · rename_i fl t' l
              by_cases hb:t'.beq t=true
              · simp only [hb,dite_true,Option.some.injEq,Prod.mk.injEq] at h
                obtain ⟨rfl,rfl⟩:=h
                simp [dec,hb]
              · simp [hb] at h
        | unit=>
          intro ds r r' x h
          simp only [dec,Option.some.injEq,Prod.mk.injEq] at h
          simp [dec,h.2]
        | cons p q ihp ihq=>
          intro ds r r' x h
          simp only [dec] at h
          cases hp:dec p ds with
          | none=>simp [hp] at h
          | some y=>
            obtain ⟨y,ry⟩:=y
            simp only [hp] at h
            cases hq:dec q ry with
            | none=>simp [hq] at h
            | some y2=>
              obtain ⟨y2,ry2⟩:=y2
              simp only [hq,Option.some.injEq,Prod.mk.injEq] at h
              obtain ⟨rfl,rfl⟩:=h
              simp [dec,ihp ds r ry y hp,ihq ry r ry2 y2 hq]
        | st b c ih=>
          intro ds r r' x h
          exact ih ds r r' x h
      intro t ds r x h
      simpa using gen t ds r [] x h
    simp only [rep,sj,key t zs (rep n zs) z hz,oV hz hlz n,List.replicate_succ]
theorem Cn (HP:nM P E) (R:Rel E C s a w G pt) (ho:∀ t,o.dst=some t→t<E.n) (T:Nat) (x y:Operand) (hop:o.op = .makeSlice T x y)
    (h:jH E o s T x y=some (true,u)):fC P E C o a w (ak u s):=by
  simp only [jH] at h
  split at h
  · rename_i i hi
    have hu:=(HP.ti _ _ hi).und
    split at h
    · rename_i e hd
      rw [hd] at hu
      split at h
      · rename_i ei uS
        obtain ⟨pi,z,p1,p2,p3,p4,p5,p6,p7,p8⟩:=(HP.ti _ _ uS).info
        split at h
        · rename_i zz k n k' m hz hx hy
          cases hb:(Nat.beq ei.size ei.ty.nc&&Nat.beq ei.bytes ei.ty.mE&&Nat.blt 0 ei.size&&Nat.blt 0 ei.bytes) with
          | false=>simp only [hb,cond_false,reduceCtorEq] at h
          | true=>
            simp only [hb,cond_true,Option.some.injEq,Prod.mk.injEq,Bool.and_eq_true,decide_eq_true_eq] at h
            obtain ⟨⟨⟨h0,h1⟩,h2⟩,rfl⟩:=h
            simp only [Bool.and_eq_true] at hb
            obtain ⟨⟨⟨hb1,hb2⟩,hb3⟩,hb4⟩:=hb
            have hb1:=Nat.eq_of_beq_eq_true hb1
            have hb2:=Nat.eq_of_beq_eq_true hb2
            have hb3:0<ei.size:=by simpa [Nat.blt_eq] using hb3
            have hb4:0<ei.bytes:=by simpa [Nat.blt_eq] using hb4
            have hxv:=aT R x
            rw [hx] at hxv
            have hyv:=aT R y
            rw [hy] at hyv
            have hm0:0≤m:=by omega
            have hmb:m≤m*(ei.bytes:Int):=by
              have:m*1≤m*(ei.bytes:Int):=Int.mul_le_mul_of_nonneg_left (by omega) hm0
              omega
            have hm63:m≤9223372036854775807:=by unfold big at h2;omega
            have hby:((pi.bytes:Nat):Int)*m≤281474976710656:=by rw [p3,Int.mul_comm];unfold big at h2;omega
            have hrun:(execOp a.eval o).run P w = .ok (.value (.slice (some ⟨w.heap.size,0,none⟩) n.toNat m.toNat)) (w.alloc (.cells (madeCells z.cells (m.toNat*pi.size)) e)):=by
              have:=run_make (P:=P) w T e pi z hu p1 p4 k k' n m h0 h1 hby hm63
              simp [execOp,hop,hxv.1,hyv.1,this]
            have hzl:ei.zero.length=ei.ty.nc:=by rw [p6,hb1]
            have hzr:aQ w G pt (rep n.toNat ei.zero) (aO (madeCells z.cells (m.toNat*pi.size)))∧∀ b,aK b (rep n.toNat ei.zero) (aO (madeCells z.cells (m.toNat*pi.size)))=0:=by
              have hsz:z.cells.size=ei.size:=p5
              obtain ⟨rc1,TR⟩:=xV z.cells m.toNat
              have hmc:madeCells z.cells (m.toNat*pi.size)=(Array.range (m.toNat*z.cells.size)).map (z.cells[· % z.cells.size]!):=by rw [show m.toNat*pi.size=m.toNat*z.cells.size by rw [p2,hsz]];rfl
              rw [hmc]
              have hle:n.toNat*ei.size≤m.toNat*ei.size:=Nat.mul_le_mul_right _ (by omega)
              constructor
              · intro kk hk
                obtain ⟨h',e⟩:=nN n.toNat ei.zero kk hk
                rw [jc,p6] at hk
                rw [TR kk (by rw [hsz];omega),e,hsz]
                simp only [p6] at h' ⊢
                exact ⟨(p8 (kk%ei.size) (by omega)).1 w G pt,p7 _ h'⟩
              · intro b
                refine qP _ _ fun kk hk=>?_
                obtain ⟨h',e⟩:=nN n.toNat ei.zero kk hk
                rw [jc,p6] at hk
                rw [TR kk (by rw [hsz];omega),e,hsz]
                simp only [p6] at h' ⊢
                exact (p8 (kk%ei.size) (by omega)).2 b
            have abr:(madeCells z.cells (m.toNat*pi.size)).size=m.toNat*ei.size:=by rw [size_madeCells,p2]
            have hnm:n.toNat*ei.ty.nc≤m.toNat*ei.size:=by rw [hb1];exact Nat.mul_le_mul_right _ (by omega)
            obtain ⟨r1,r2⟩:=mQ (w:=w) (G:=G) (pt:=pt) (eZ (.cells (madeCells z.cells (m.toNat*pi.size)) e) R.gz) n.toNat (b:=w.heap.size) (o:=0) (oV hz hzl n.toNat) (hzr.1.view0 hzr.2) (fun j hj=>by
              rw [fJ]
              have hj':0+j<(madeCells z.cells (m.toNat*pi.size)).size:=by rw [abr];omega
              rw [Array.getElem?_eq_getElem hj']
              simp [aO,Array.getD_eq_getD_getElem?,show j<(madeCells z.cells (m.toNat*pi.size)).size by omega])
            have hbz:n.toNat*ei.ty.mE≤big:=by
              rw [←hb2]
              have h3:n.toNat*ei.bytes≤m.toNat*ei.bytes:=Nat.mul_le_mul_right _ (by omega)
              have h4:((m.toNat*ei.bytes:Nat):Int)≤(big:Int):=by
                rw [Int.natCast_mul,Int.toNat_of_nonneg hm0];exact h2
              omega
            have:=R.newRow o ho (c:=m.toNat) (cells:=madeCells z.cells (m.toNat*pi.size)) (e:=e) (fr:=(0,0)) r1 (by rw [r2];omega) (by rw [abr,hb1];exact Nat.le_refl _) (fun _ _=>by simp) (by rw [r2];exact hbz) (by omega)
            rw [r2] at this
            exact ⟨_,_,G,pt,.inl hrun,this⟩
        · cases h
      · cases h
    · cases h
  · cases h
theorem MK (HP:nM P E) {T:Nat} (h:lM E T=true):∃ e,P.underlying T=some (.slice e)∧P.underlying e=some (.int .u8):=by
  unfold lM at h
  split at h
  · rename_i i hi
    split at h
    · rename_i e hd
      split at h
      · rename_i ei uS
        split at h
        · rename_i hde
          exact ⟨e,by rw [(HP.ti _ _ hi).und,hd],by rw [(HP.ti _ _ uS).und,hde]⟩
        · cases h
      · cases h
    · cases h
  · cases h
theorem Am:∀ (l:List Int),(∀ x∈l,0≤x∧x≤255)→jq (strOfNums l)=l:=by
  intro l hl
  have e:jq (strOfNums l)=(l.map fun n=>((UInt8.ofNat n.toNat).toNat:Int)):=by
    simp [jq,strOfNums,Function.comp_def]
  rw [e]
  have:∀ x∈l,((UInt8.ofNat x.toNat).toNat:Int)=x:=fun x hx=>by
    have:=hl x hx
    rw [UInt8.toNat_ofNat']
    omega
  rw [List.map_congr_left this]
  simp
theorem Gy {c:(t:Ty)×List t.den} {lb:List Int} (h:Cg c=some lb):c=⟨.int .u8,lb⟩:=by
  unfold Cg at h
  split at h
  · simp only [Option.some.injEq] at h
    subst h;rfl
  · cases h
theorem Rh (HP:nM P E) (R:Rel E C s a w G pt) (ho:∀ t,o.dst=some t→t<E.n) (src dst:Nat) (x:Operand) (hop:o.op = .convert src dst x)
    (h:AO E o s src dst x=some (true,u)):fC P E C o a w (ak u s):=by
  have hx:=aT R x
  simp only [AO] at h
  split at h
  · rename_i ia ib ha hb
    have hua:=(HP.ti _ _ ha).und
    have hub:=(HP.ti _ _ hb).und
    split at h
    · rename_i k' k k'' n d1 d2 h1
      rw [h1] at hx
      rw [d1] at hua;rw [d2] at hub
      obtain ⟨hx,_⟩:=hx
      simp only [Option.some.injEq,Prod.mk.injEq,true_and] at h
      subst h
      exact pure_ok R ho (v:=.int k (k.wrap n)) (by simp [execOp,hop,convert,run_underlying hua,run_underlying hub,hx,Conv.intToInt]) ⟨rfl,gU _ _⟩ (fun _=>rfl)
    · rename_i l d1 d2 h1
      rw [h1] at hx
      rw [d1] at hua;rw [d2] at hub
      obtain ⟨b,hx,hl⟩:=hx
      simp only [Option.some.injEq,Prod.mk.injEq,true_and] at h
      subst h
      exact pure_ok R ho (v:=.string b) (by simp [execOp,hop,convert,run_underlying hua,run_underlying hub,hx]) ⟨b,rfl,hl⟩ (fun _=>rfl)
    · rename_i e l d1 d2 h1
      rw [h1] at hx
      rw [d1] at hua
      obtain ⟨b,hx,hl,hbd⟩:=hx
      cases hbt:lM E dst with
      | false=>simp [hbt] at h
      | true=>
        simp only [hbt,cond_true,Option.some.injEq,Prod.mk.injEq] at h
        obtain ⟨hle,rfl⟩:=h
        have hle:=Nat.le_of_ble_eq_true hle
        obtain ⟨e',g1,g2⟩:=MK HP hbt
        have hrun:(execOp a.eval o).run P w = .ok (.value (.slice (some ⟨w.heap.size,0,none⟩) b.size (grownCap w b.size 0 e')))
            (w.drew.alloc (.cells (bytesRow b (grownCap w b.size 0 e')) e' ((bytesRow b (grownCap w b.size 0 e')).size,(bytesRow b (grownCap w b.size 0 e')).size+1))):=by
          have:=run_bytes_of_string (P:=P) w src dst e' b hua g1 g2
          simp [execOp,hop,hx,this]
        have hcap:=grownCap_ge w b.size 0 e'
        generalize grownCap w b.size 0 e' = c at *
        have hbs:(bytesRow b c).size=c:=by simp [bytesRow];omega
        have hsz:l.length=b.size:=by rw [←hl];exact jr b
        have hre:fB (w.drew.alloc (.cells (bytesRow b c) e' ((bytesRow b c).size,(bytesRow b c).size+1))) G (.int .u8) l w.heap.size 0:=by
          intro i hi
          have hib:i<b.size:=by omega
          have hcell:(w.drew.alloc (.cells (bytesRow b c) e' ((bytesRow b c).size,(bytesRow b c).size+1))).cell? ⟨w.heap.size,0+i*(Ty.int .u8).nc,none⟩=(bytesRow b c)[i]?:=by
            have:=fJ (w:=w.drew) (bytesRow b c) e' ((bytesRow b c).size,(bytesRow b c).size+1) i
            rw [show 0+i*(Ty.int .u8).nc=i by simp [Ty.nc]]
            exact this
          simp only [bX]
          rw [hcell]
          have hli:l[i]=(b.data[i]'(by simpa using hib)).toNat:=by
            have:l[i]=(jq b)[i]'(by rw [hl];exact hi):=by simp [hl]
            rw [this]
            simp [jq]
          refine ⟨?_,?_⟩
          · rw [hli]
            simp only [bytesRow]
            rw [Array.getElem?_append_left (by simpa using hib)]
            have hd2:i<b.data.size:=by simpa using hib
            simp only [Array.getElem?_map,Array.getElem?_eq_getElem hd2,Option.map_some]
          · rw [hli]
            have:=(b.data[i]'(by simpa using hib)).toNat_lt
            unfold IntKind.has
            simp [IntKind.min,IntKind.max,IntKind.bits,IntKind.signed]
            omega
        have R':=R.drew (w':=w.drew) rfl rfl rfl rfl
        have:=R'.newRow o ho (c:=c) (cells:=bytesRow b c) (e:=e') (fr:=((bytesRow b c).size,(bytesRow b c).size+1)) hre (by omega) (by rw [hbs];simp [Ty.nc]) (fun o ho'=>by simp;omega) (by simp [Ty.mE,IntKind.bits];omega) (by simp [Ty.nc])
        rw [hsz] at this
        exact ⟨_,_,G,pt,.inl hrun,this⟩
    · rename_i e d1 d2 h1
      rw [h1] at hx
      have hv:a.eval x = .slice none 0 0:=hx
      rw [d2] at hub
      cases hbt:lM E src with
      | false=>simp [hbt] at h
      | true=>
        simp only [hbt,cond_true,Option.some.injEq,Prod.mk.injEq,true_and] at h
        subst h
        obtain ⟨e',g1,g2⟩:=MK HP hbt
        have:=run_convert_bytes_nil (P:=P) w src e' g1 g2 0 0 dst hub
        exact pure_ok R ho (v:=.string ByteArray.empty) (by simp [execOp,hop,hv,this]) ⟨_,rfl,rfl,by simp⟩ (fun _=>rfl)
    · rename_i e _ d1 d2 _
      rw [d2] at hub
      cases hbt:lM E src with
      | false=>simp [hbt] at h
      | true=>
        simp only [hbt,cond_true] at h
        obtain ⟨e',g1,g2⟩:=MK HP hbt
        split at h
        · rename_i c hc
          split at h
          · rename_i l hlb
            simp only [Option.some.injEq,Prod.mk.injEq,true_and] at h
            subst h
            rw [Gy hlb] at hc
            obtain ⟨ad,n,c,hv,hn,hbd,hnc,hel⟩:=oO R hx hc
            · skip
              have hlen:l.length≤iQ:=by
                have:n≤big:=by simpa [Ty.mE,IntKind.bits] using hbd
                unfold big at this;unfold iQ;omega
              rcases hel with hel | ⟨b,off,had,hE⟩
              · subst hel
                subst hn
                have hrun:(execOp a.eval o).run P w = .ok (.value (.string ByteArray.empty)) w:=by
                  cases ad with
                  | none=>
                    have:=run_convert_bytes_nil (P:=P) w src e' g1 g2 0 c dst hub
                    simp [execOp,hop,hv,this]
                  | some ad=>
                    have h1:=run_convert_bytes_string (P:=P) w src dst e' (some ad) 0 c g1 g2 hub
                    have h2:=run_bytesToString (P:=P) w ad 0 c [] (by simp [loadCells,loadCellsFrom])
                    simp only [List.length_nil] at hv
                    simp [execOp,hop,hv,h1,h2]
                exact pure_ok R ho hrun ⟨_,rfl,rfl,by simp⟩ (fun _=>rfl)
              · subst had
                have hcell:∀ i,i<n→w.cell? ⟨b,off+i,none⟩=some (.int .u8 (l.getD i 0)):=by
                  intro i hi
                  have hil:i<l.length:=by omega
                  have:=hE i hil
                  simp only [bX,Ty.nc,Nat.mul_one] at this
                  rw [this.1]
                  simp [hil]
                have hr:=run_convert_bytes_arg (P:=P) w src e' g1 g2 b off n c l hn.symm hcell dst hub
                have hrange:∀ y∈l,0≤y∧y≤255:=by
                  intro y hy
                  obtain ⟨i,hi,rfl⟩:=List.getElem_of_mem hy
                  have:=hE i hi
                  simp only [bX] at this
                  have h2:=this.2
                  unfold IntKind.has at h2
                  simpa [IntKind.min,IntKind.max,IntKind.bits,IntKind.signed] using h2
                exact pure_ok R ho (v:=.string (strOfNums l)) (by simp [execOp,hop,hv,hr]) ⟨_,rfl,Am l hrange,hlen⟩ (fun _=>rfl)
          · cases h
        · cases h
    · cases h
  · cases h
theorem ML (HP:nM P E) (R:Rel E C s a w G pt) (ho:∀ t,o.dst=some t→t<E.n) (T:Nat) (x:Operand) (f:Nat) (hop:o.op = .field T x f)
    (h:uZ E o s T x f=some (true,u)):fC P E C o a w (ak u s):=by
  simp only [uZ] at h
  split at h
  · rename_i i hi
    have hu:=(HP.ti _ _ hi).und
    split at h
    · rename_i fs hd
      rw [hd] at hu
      split at h
      · rename_i fd hfd
        split at h
        · rename_i fi cs hfi h1
          have hT:=HP.ti _ _ hfi
          obtain ⟨pi,z,p1,p2,_⟩:=hT.info
          cases hb:Nat.beq ((cs.drop fd.offset).take fi.size).length fi.size with
          | false=>simp only [hb,cond_false,reduceCtorEq] at h
          | true=>
            simp only [hb,cond_true] at h
            have hln:=Nat.eq_of_beq_eq_true hb
            split at h
            · rename_i d hmk
              simp only [Option.some.injEq,Prod.mk.injEq,true_and] at h
              subst h
              obtain ⟨G',e,R1,hv1,hv2,_⟩:=R.xL x (by rw [h1];rfl)
              rw [h1] at hv1
              obtain ⟨arr,hv,hsz,hr⟩:=hv1
              have hlm:(cs.map bU).length=cs.length:=List.length_map ..
              have hsub:aQ w G' pt (((cs.drop fd.offset).take fi.size).map bU) (fun j=>aO arr (fd.offset+j)):=by
                have:=(hr.drop fd.offset).take fi.size
                simpa [List.map_drop,List.map_take] using this
              obtain ⟨q1,q2⟩:=jv (n:=fi.size) hmk (by rw [List.length_map];exact hln) hsub
              have ae9:fs[f]? = some fd:=by simpa using hfd
              have hrun:(execOp a.eval o).run P w = .ok (.value (D6 fi.agg fi.size fun j=>aO arr (fd.offset+j))) w:=by
                have hpart:(part fd.type arr fd.offset).run P w = .ok (D6 fi.agg fi.size fun j=>aO arr (fd.offset+j)) w:=by
                  cases hag:fi.agg with
                  | true=>
                    have h2:iP fi.desc=true:=by rw [←hT.agg];exact hag
                    rw [oM hT.und h2 (by rw [p1];rfl)]
                    simp only [D6,cond_true]
                    congr 2
                    have hcs:P.cellsOf fd.type=fi.size:=by simp [Program.cellsOf,p1,p2]
                    rw [hcs]
                    apply Array.ext
                    · simp at hln ⊢;omega
                    · intro j hj1 hj2
                      have hj:fd.offset+j<arr.size:=by simp at hj1;omega
                      simp [aO,Array.getD_eq_getD_getElem?,hj]
                  | false=>
                    have h2:iP fi.desc=false:=by rw [←hT.agg];exact hag
                    have h3:=hT.one hag
                    have hlt:fd.offset<arr.size:=by simp at hln;omega
                    rw [mO hT.und h2 arr fd.offset hlt]
                    simp [D6]
                simp [execOp,hop,Instr.field,run_underlying hu,ae9,hv,asAgg,hpart]
              rw [aP]
              exact ⟨_,w,G',pt,.inl hrun,R1.wV o ho q1 (fun b=>by rw [q2];exact gV mM b _ _)⟩
            · cases h
        · cases h
      · cases h
    · cases h
  · cases h
end
end Go.aW
namespace Go.aW
section
variable {P:Program} {E:Env} {C:Ctx} {s:St} {a:Act} {w:World} {G:Nat→Nat} {pt:Nat→Nat→Option Value} {o:Oper} {u:St}
theorem gq:∀ (vs:List Value) (w:World) (b off:Nat),(∀ b',b'≠b→(w.setCells b off vs).heap[b']? = w.heap[b']?) ∧
    (∀ cur e fr,w.heap[b]? = some (.cells cur e fr)→∃ cur',(w.setCells b off vs).heap[b]? = some (.cells cur' e fr)∧cur'.size=cur.size) ∧
    (w.setCells b off vs).heap.size=w.heap.size∧(w.setCells b off vs).os=w.os∧(w.setCells b off vs).output=w.output∧(w.setCells b off vs).tape=w.tape
  | [],w,b,off=>⟨fun _ _=>rfl,fun cur e fr h=>⟨cur,h,rfl⟩,rfl,rfl,rfl,rfl⟩
  | v::r,w,b,off=>by
    obtain ⟨h1,h2,h3,h4,h5,h6⟩:=gq r (w.setCell ⟨b,off,none⟩ v) b (off+1)
    refine ⟨fun b' hb=>?_,fun cur e fr h=>?_,?_,h4,h5,h6⟩
    · rw [World.setCells,h1 b' hb]
      simp only [World.setCell,Array.getElem?_modify]
      rw [if_neg (Ne.symm hb)]
    · obtain ⟨cur',q1,q2⟩:=h2 (cur.setIfInBounds off v) e fr (by
        simp only [World.setCell,Array.getElem?_modify,if_true,h,Option.map_some]
        simp)
      exact ⟨cur',by rw [World.setCells];exact q1,by rw [q2];simp⟩
    · rw [World.setCells,h3];simp
theorem Room.set {b k:Nat} (h:Room w b k) (b' off:Nat) (vs:List Value):Room (w.setCells b' off vs) b k:=by
  obtain ⟨cur,e,fr,h1,h2,h3⟩:=h
  obtain ⟨q1,q2,_⟩:=gq vs w b' off
  by_cases hb:b=b'
  · subst hb
    obtain ⟨cur',r1,r2⟩:=q2 cur e fr h1
    exact ⟨cur',e,fr,r1,by omega,by rw [r2];exact h3⟩
  · exact ⟨cur,e,fr,by rw [q1 b hb];exact h1,h2,h3⟩
theorem Room.some {b k:Nat} (h:Room w b k) {j:Nat} (hj:j<k):(w.cell? ⟨b,j,none⟩).isSome=true∧w.frozen? ⟨b,j,none⟩=false:=by
  obtain ⟨cur,e,fr,h1,h2,h3⟩:=h
  have hlt:j<cur.size:=by omega
  refine ⟨by simp [World.cell?,h1,hlt],?_⟩
  have:=h3 j hlt
  simp only [World.frozen?,h1]
  obtain ⟨lo,hi⟩:=fr
  simp only at this ⊢
  rw [Bool.and_eq_false_iff,decide_eq_false_iff_not,decide_eq_false_iff_not]
  omega
theorem vv {b k off:Nat} (h:Room w b k) (vs:List Value) (hk:off+vs.length≤k) {j:Nat} (hj:j<vs.length):(w.setCells b off vs).cell? ⟨b,off+j,none⟩=some vs[j]:=
  World.cell?_setCells_in b vs off w (fun i hi=>(h.some (by omega)).1) j hj
theorem jw (b off:Nat) (vs:List Value) {b' j:Nat} (h:b' = b→j<off∨off+vs.length≤j):(w.setCells b off vs).cell? ⟨b',j,none⟩=w.cell? ⟨b',j,none⟩:=
  World.cell?_setCells_out b vs off w ⟨b',j,none⟩ (fun h1 _=>h h1)
theorem wF {T:TypeId} {i:TI} (hT:Mj P T i) {b off k:Nat} {v:Value} (hr:Room w b k) (hk:off+v.cells.size≤k) (hs:v.cells.size=i.size) (h1:∀ j,j<v.cells.size→(aO v.cells j).oneCell' = true) :
    (Instr.storeAt T (.pointer (some ⟨b,off,none⟩)) v).run P w = .ok () (w.setCells b off v.cells.toList):=by
  obtain ⟨pi,z,p1,p2,_⟩:=hT.info
  have hst:=run_storeCells_cells (P:=P) b off v.cells.toList 0 w (fun j hj=>by simpa using (hr.some (j:=off+j) (by simp at hj;omega)).1) (fun j hj=>by simpa using (hr.some (j:=off+j) (by simp at hj;omega)).2)
    (fun x hx=>by
      obtain ⟨j,hj,rfl⟩:=List.getElem_of_mem hx
      have hj':j<v.cells.size:=by simpa using hj
      have:=h1 j hj'
      simpa [aO,Array.getD_eq_getD_getElem?,hj'] using this)
  simp only [Nat.add_zero] at hst
  have hne:¬ (v.cells.size≠pi.size):=by omega
  simp [Instr.storeAt,Instr.sureAddr,storeVar,sizeOf,typeInfo,p1,hs,p2,hst]
theorem Rel.Ev (R:Rel E C s a w G pt) {id st blk off:Nat} {x:Operand} {dB QZ:D} {vs:List Value} {G':Nat→Nat}
    (hb:get s (2*id+1)=dB) (hid:id<C.m) (hblk:bA (pt id st)=some blk) (MN:0<cB s w pt blk id)
    (hE:Ext w G w G') (hG:∀ b,cO b (aV s x) (a.eval x)=0→G' b=G b) (hst:aI QZ=aI dB)
    (hB:oD (w.setCells blk off vs) G' pt id QZ)
    (hc:∀ b,fI (w.setCells blk off vs) pt b id QZ≤cB s w pt b id+cO b (aV s x) (a.eval x)) (hfree:∀ b,b=blk→cO b (aV s x) (a.eval x)=0) (hG0:G blk=0)  :
    Rel E C ((2*id+1,QZ)::ak (bZ s x strip dJ) s) a (w.setCells blk off vs) G' pt:=by
  obtain ⟨R0,t0⟩:=R.kS x
  have hgb:=jW (s:=s) x strip dJ
  obtain ⟨q1,q2,q3,q4,q5,q6⟩:=gq vs w blk off
  have hcB:∀ b i,cB (ak (bZ s x strip dJ) s) w pt b i=cB s w pt b i:=fun b i=>by simp only [cB,hgb]
  have hEw:Ext w G (w.setCells blk off vs) G':=⟨fun b j hj=>by
    refine jw blk off vs fun h=>?_
    subst h;omega,hE.le⟩
  refine R0.step (fun _=>False) (fun i=>i=id) (fun b=>b=blk∨0<cO b (aV s x) (a.eval x)) rfl R0.df (fun t _=>⟨by simp,rfl⟩) (fun i hi=>⟨by simp [hi],rfl⟩) hEw (fun _ _ _ h=>h)
    (fun b hb _=>⟨q1 b (fun h=>hb (.inl h)),hG b (by have:=fun h=>hb (.inr h);omega)⟩) (fun b hb t _=>?_) (fun b hb i hi=>?_) (fun b hb=>?_) (fun t h=>h.elim) (fun i hi=>?_) (fun c1 c2 b=>?_)
    (fun b hb=>?_) q4 q5 q6 (by rw [q3];exact Nat.le_refl _)
  · rcases hb with hb | hb
    · subst hb;exact R0.bt (by rw [hcB];exact MN) t
    · have:=R0.lN b t;have:=t0 b;have:=R.ct b;omega
  · rcases hb with hb | hb
    · subst hb;exact R0.bb (by rw [hcB];exact MN) hi
    · have:=R0.gJ b i;have:=t0 b;have:=R.ct b;omega
  · rcases hb with hb | hb
    · subst hb;exact (R.cb b (Nat.lt_of_lt_of_le MN (R.gJ b id))).2
    · exact (R.held x hb).2
  · subst hi
    refine ⟨hid,by simpa using hB,fun j hj=>?_⟩
    simp only [bG,if_true] at hj
    exact R.pf i j (by rw [hb];omega)
  · have e1:=aM (n:=E.n) (f:=cT (ak (bZ s x strip dJ) s) a b) (g:=cT ((2*id+1,QZ)::ak (bZ s x strip dJ) s) a b) (fun i _=>(c1 i (fun h=>h) b).symm)
    have e2:=bM (n:=C.m) (f:=cB (ak (bZ s x strip dJ) s) w pt b) (g:=cB ((2*id+1,QZ)::ak (bZ s x strip dJ) s) (w.setCells blk off vs) pt b) hid (fun i hi=>c2 i hi b)
    have e3:cB ((2*id+1,QZ)::ak (bZ s x strip dJ) s) (w.setCells blk off vs) pt b id=fI (w.setCells blk off vs) pt b id QZ:=by simp only [cB,bG,if_true]
    have e4:=hcB b id
    have h1:=t0 b
    have h2:=R.ct b
    have h3:=R.cb b
    have h4:=hc b
    rw [q3]
    unfold TC at *
    exact ⟨by omega,fun h=>h3 (by omega)⟩
  · rw [q3] at hb
    rw [hG b ?_];exact R.gz b hb
    rcases Nat.eq_zero_or_pos (cO b (aV s x) (a.eval x)) with h | h
    · exact h
    · have:=(R.held x h).1;omega
theorem Rel.sM (R:Rel E C s a w G pt) {id st blk off:Nat} {ar:Bool} {t:Ty} {l l':List t.den} {vs:List Value}
    (hb:get s (2*id+1) = .aU st true ar t l) (hblk:bA (pt id st)=some blk) (hl:l'.length=l.length) (hE:fB (w.setCells blk off vs) G t l' blk 0) :
    Rel E C ((2*id+1,.aU st true ar t l')::s) a (w.setCells blk off vs) G pt:=by
  obtain ⟨g1,g2,g3⟩:=jO R hb hblk
  have hB:=R.bx id
  rw [hb] at hB
  have hB:=hB rfl
  have:=R.Ev (x:=.func 0) (off:=off) (vs:=vs) (G':=G) (QZ:=.aU st true ar t l') hb (dY R (id:=id) (by rw [hb];simp)) hblk
    (by simp only [cB,hb,fI,bR,hblk,if_true];omega) (Ext.refl _ _) (fun _ _=>rfl) rfl
    (fun _=>by
      cases ar with
      | true=>
        simp only [if_true] at hB ⊢
        obtain ⟨b,h1,h2,h3,h4⟩:=hB
        have:b=blk:=by rw [h1] at hblk;simpa [bA] using hblk
        subst this
        exact ⟨b,h1,by rw [hl];exact h2.set _ _ _,h3,hE⟩
      | false=>
        simp only [Bool.false_eq_true,if_false] at hB ⊢
        obtain ⟨ad,n,c,h1,h2,h3,h4⟩:=hB
        refine ⟨ad,n,c,h1,by omega,h3,?_⟩
        rcases h4 with ⟨h5,_⟩ | ⟨b,h5,h6,h7,h8,h9,h10⟩
        · subst h5;rw [h1] at hblk;simp [bA] at hblk
        · subst h5
          have:b=blk:=by rw [h1] at hblk;simpa [bA] using hblk
          subst this
          exact .inr ⟨b,rfl,h6,h7.set _ _ _,by omega,hE,h10⟩)
    (fun b=>by simp only [cB,hb,fI];omega) (fun b _=>rfl) g3
  exact this
theorem wZ:∀ (t:Ty) {ds:List D} {x:t.den} {r:List D},dec t ds=some (x,r)→ds.length=t.nc+r.length
  | .int k,ds,x,r,h=>by
    cases ds with
    | nil=>simp [dec] at h
    | cons d ds=>
      cases d<;>simp only [dec] at h<;>try (cases h;done)
      rename_i k' n
      cases hk:iO k k' with
      | false=>simp [hk] at h
      | true=>simp [hk] at h;obtain ⟨rfl,rfl⟩:=h;simp [Ty.nc];omega
  | .bool,ds,x,r,h=>by
    cases ds with
    | nil=>simp [dec] at h
    | cons d ds=>cases d<;>simp [dec] at h;obtain ⟨rfl,rfl⟩:=h;simp [Ty.nc];omega
  | .str,ds,x,r,h=>by
    cases ds with
    | nil=>simp [dec] at h
    | cons d ds=>cases d<;>simp [dec] at h;obtain ⟨rfl,rfl⟩:=h;simp [Ty.nc];omega
  | .sl t,ds,x,r,h=>by
    cases ds with
    | nil=>simp [dec] at h
    | cons d ds=>
      cases d with
      | jf=>simp [dec] at h;obtain ⟨rfl,rfl⟩:=h;simp [Ty.nc];omega
      | sl f t' l=>
        simp only [dec] at h
        split at h
        · simp only [Option.some.injEq,Prod.mk.injEq] at h
          obtain ⟨_,rfl⟩:=h
          simp [Ty.nc];omega
        · cases h
      | _=>simp [dec] at h
  | .fO f0 t,ds,x,r,h=>by
    cases ds with
    | nil=>simp [dec] at h
    | cons d ds=>
      cases d with
      | fO f' t' y=>
        simp only [dec] at h
        split at h
        · simp only [Option.some.injEq,Prod.mk.injEq] at h
          obtain ⟨_,rfl⟩:=h
          simp [Ty.nc];omega
        · cases h
      | _=>simp [dec] at h
  | .unit,ds,x,r,h=>by simp [dec] at h;subst h;simp [Ty.nc]
  | .cons a b,ds,x,r,h=>by
    simp only [dec] at h
    split at h
    · rename_i y r' h1
      split at h
      · rename_i z r'' h2
        simp only [Option.some.injEq,Prod.mk.injEq] at h
        obtain ⟨_,rfl⟩:=h
        have:=wZ a h1
        have:=wZ b h2
        simp only [Ty.nc]
        omega
      · cases h
    · cases h
  | .st _ c,ds,x,r,h=>wZ c h
theorem Ko (d:D):(leaves (view d)).length=(leaves d).length:=by cases d<;>simp [view,leaves,bU]
theorem Gz (HP:nM P E) (R:Rel E C s a w G pt) (hdst:o.dst=none) (T:Nat) (x y:Operand) (hop:o.op = .store T x y) {k:IntKind} {l':List Int} (hy:aV s y = .av k l')
    (h:mF E s T x k l' = some (true,u)):fC P E C o a w (ak u s):=by
  have hrx:=aT R x
  have hry:=aT R y
  rw [hy] at hry
  obtain ⟨arr,hv2,hsz,hr⟩:=hry
  simp only [mF] at h
  split at h
  · rename_i i hi
    have hT:=HP.ti _ _ hi
    split at h
    · rename_i id st off hx
      rw [hx] at hrx
      obtain ⟨blk,hblk,hv⟩:=hrx
      split at h
      · rename_i st' k' l hbx
        cases hb:(Nat.beq st st' && Nat.beq off 0&&i.agg&&iO k k') with
        | false=>simp only [hb,cond_false,reduceCtorEq] at h
        | true=>
          simp only [hb,cond_true,Option.some.injEq,Prod.mk.injEq,Bool.and_eq_true] at h
          simp only [Bool.and_eq_true] at hb
          obtain ⟨⟨⟨hb1,hb2⟩,hb3⟩,hb4⟩:=hb
          have hst:=Nat.eq_of_beq_eq_true hb1
          have hoff:=Nat.eq_of_beq_eq_true hb2
          have hk:=dX hb4
          subst hst;subst hoff;subst hk
          obtain ⟨⟨hln,Wt⟩,rfl⟩:=h
          have hln:=Nat.eq_of_beq_eq_true hln
          have Wt:=Nat.eq_of_beq_eq_true Wt
          rw [IC Wt]
          obtain ⟨g1,g2,g3⟩:=jO R hbx hblk
          have hcs:(a.eval y).cells=arr:=by rw [hv2];rfl
          have hlen:arr.size=l.length:=by omega
          have hrun:(execOp a.eval o).run P w = .ok .skip (w.setCells blk 0 arr.toList):=by
            have:=wF (v:=a.eval y) hT g2 (off:=0) (by rw [hcs];simp only [Ty.nc];omega) (by rw [hcs];omega) (fun j hj=>by
              rw [hcs] at hj ⊢
              have:=(hr j (by omega)).1
              show (arr.getD j undef).oneCell' = true
              rw [this];rfl)
            simp [execOp,hop,hv,this,hcs]
          have hE:fB (w.setCells blk 0 arr.toList) G (.int k) l' blk 0:=by
            intro j hj
            have hj':j<arr.toList.length:=by simp;omega
            have h1:=vv (off:=0) g2 arr.toList (by simp [Ty.nc];omega) hj'
            obtain ⟨e1,e2⟩:=hr j hj
            have e3:arr.toList[j] = .int k l'[j]:=by
              rw [←e1];simp [show j<arr.size by omega]
            rw [e3] at h1
            refine ⟨?_,e2⟩
            rw [show 0+j*(Ty.int k).nc=0+j by simp [Ty.nc]]
            exact h1
          exact ⟨_,_,G,pt,.inr ⟨hrun,rfl⟩,by rw [hdst];exact R.sM hbx hblk (by omega) hE⟩
      · cases h
    · cases h
  · cases h
theorem Kq (HP:nM P E) (R:Rel E C s a w G pt) (hdst:o.dst=none) (T:Nat) (x y:Operand) (hop:o.op = .store T x y)
    (h:p9 E o s T x y=some (true,u)):fC P E C o a w (ak u s):=by
  have hrx:=aT R x
  simp only [p9] at h
  split at h
  · rename_i i hi
    have hT:=HP.ti _ _ hi
    cases hD:fG (bS i.ty (aV s y)) with
    | false=>simp [hD] at h
    | true=>
      simp only [hD,cond_true] at h
      obtain ⟨q1,q2⟩:=rA (t:=i.ty) (aT R y)
      have hnt:dK (bS i.ty (aV s y))=false:=by cases hd:bS i.ty (aV s y)<;>rw [hd] at hD<;>first | rfl | (simp [fG] at hD)
      obtain ⟨l1,l2,l3⟩:=kV q1 hD
      have hc1:∀ b,cO b (aV s y) (a.eval y)≤1:=fun b=>by have:=(R.kS y).2 b;have:=R.ct b;omega
      have hone:∀ j,j<(a.eval y).cells.size→(aO (a.eval y).cells j).oneCell' = true:=fun j hj=>(l1 j (by omega)).2
      have run:∀ (b off k:Nat),Room w b k→off+(a.eval y).cells.size≤k→(a.eval y).cells.size=i.size→a.eval x = .pointer (some ⟨b,off,none⟩) →
          (execOp a.eval o).run P w = .ok .skip (w.setCells b off (a.eval y).cells.toList):=by
        intro b off k h1 h2 h3 h4
        have:=wF hT h1 h2 h3 hone
        simp [execOp,hop,h4,this]
      -- the two ways to hand the leaves on
      have two:∀ keep:Bool,∃ G',Ext w G w G'∧(∀ b,cO b (aV s y) (a.eval y)=0→G' b=G b) ∧
          aQ w G' pt (bif keep then leaves (bS i.ty (aV s y)) else (leaves (bS i.ty (aV s y))).map bO) (aO (a.eval y).cells) ∧
          (bif keep then leaves (bS i.ty (aV s y)) else (leaves (bS i.ty (aV s y))).map bO).length=(a.eval y).cells.size ∧
          ∀ b,aK b (bif keep then leaves (bS i.ty (aV s y)) else (leaves (bS i.ty (aV s y))).map bO) (aO (a.eval y).cells)=cO b (aV s y) (a.eval y):=by
        intro keep
        cases keep with
        | true=>exact ⟨G,Ext.refl _ _,fun _ _=>rfl,l1,l2.symm,fun b=>by simp only [cond_true];rw [l3,q2]⟩
        | false=>
          obtain ⟨e',hsh⟩:=l1.share (fun b=>by rw [l3,q2];exact hc1 b)
          exact ⟨_,e',fun b hb=>fP (by rw [l3,q2];exact hb),hsh,by simp only [cond_false,List.length_map];exact l2.symm,fun b=>by simp only [cond_false];rw [kQ,l3,q2]⟩
      have TS:∃ G',Ext w G w G'∧Rel E C (ak (bZ s y share jg) s) a w G' pt∧aQ w G' pt ((leaves (view (bS i.ty (aV s y)))).map bU) (aO (a.eval y).cells) ∧
          (leaves (view (bS i.ty (aV s y)))).length=(a.eval y).cells.size:=by
        obtain ⟨G',e',R1,hv1,hv2,_⟩:=R.xL y (xM hnt)
        have hvr:aY w G' pt (view (bS i.ty (aV s y))) (a.eval y):=by
          cases hd:aV s y with
          | jf=>
            rw [hd] at hv1
            have hv:a.eval y = .slice none 0 0:=hv1
            rw [hv]
            cases ht:i.ty<;>first | rfl | skip
            exact ⟨none,0,0,rfl,rfl,by simp,by simp,.inl rfl⟩
          | _=>rw [hd] at hv1;exact hv1
        have hdv:fG (view (bS i.ty (aV s y)))=true:=by cases hd:bS i.ty (aV s y)<;>rw [hd] at hD<;>first | rfl | exact hD
        obtain ⟨k1,k2,k3⟩:=kV hvr hdv
        exact ⟨G',e',R1,k1.view0 (fun b=>by rw [k3];exact kR _ _ _ hnt),k2.symm⟩
      split at h
      · rename_i id st off hx
        rw [hx] at hrx
        obtain ⟨blk,hblk,hv⟩:=hrx
        split at h
        · rename_i st' cs hbx
          simp only [Mc] at h
          obtain ⟨G',e',hG',hr',hl',Kl⟩:=two (Ma E y)
          generalize (bif Ma E y then leaves (bS i.ty (aV s y)) else (leaves (bS i.ty (aV s y))).map bO)=ds at h hr' hl' Kl
          cases hb:(Nat.beq st st' && Nat.beq ds.length i.size&&Nat.ble (off+i.size) cs.length) with
          | false=>simp only [hb,cond_false,reduceCtorEq] at h
          | true=>
            simp only [hb,cond_true,Option.some.injEq,Prod.mk.injEq,true_and] at h
            subst h
            simp only [Bool.and_eq_true] at hb
            obtain ⟨⟨hb1,hb2⟩,hb3⟩:=hb
            have hst:=Nat.eq_of_beq_eq_true hb1
            subst hst
            have hb2:=Nat.eq_of_beq_eq_true hb2
            have hb3:=Nat.le_of_ble_eq_true hb3
            have hB:=R.bx id
            rw [hbx] at hB
            obtain ⟨bN,g1,g2,g3,g4⟩:=hB rfl
            have hbb:bN=blk:=by rw [g1] at hblk;simpa [bA] using hblk
            subst hbb
            have hrun:=run bN off cs.length g2 (by omega) (by omega) hv
            have hcb:∀ b,cB s w pt b id=bR b (pt id st)+aK b cs (aC w bN):=fun b=>by simp only [cB,hbx,fI,hblk,Option.getD_some]
            have hib:bR bN (pt id st)=1:=by simp [bR,hblk]
            have hvs:(a.eval y).cells.toList.length=ds.length:=by simp;omega
            have hin:∀ j,j<ds.length→aC (w.setCells bN off (a.eval y).cells.toList) bN (off+j)=aO (a.eval y).cells j:=by
              intro j hj
              have hj2:j<(a.eval y).cells.toList.length:=by omega
              simp only [aC]
              rw [vv g2 _ (by omega) hj2]
              have hj3:j<(a.eval y).cells.size:=by simpa using hj2
              simp [aO,Array.getD_eq_getD_getElem?,hj3]
            have hout:∀ j,(j<off∨off+ds.length≤j)→aC (w.setCells bN off (a.eval y).cells.toList) bN j=aC w bN j:=by
              intro j hj
              simp only [aC]
              rw [jw bN off _ (fun _=>by omega)]
            have hln:off+ds.length≤cs.length:=by omega
            have hfree:cO bN (aV s y) (a.eval y)=0:=by
              have h1:=(R.kS y).2 bN
              have h2:=R.ct bN
              have h3:=(R.kS y).1.gJ bN id
              have h4:cB (ak (bZ s y strip dJ) s) w pt bN id=cB s w pt bN id:=by simp only [cB,jW]
              have h5:=hcb bN
              omega
            have afa:∀ b,aK b (cZ cs off ds) (aC (w.setCells bN off (a.eval y).cells.toList) bN)≤aK b cs (aC w bN)+cO b (aV s y) (a.eval y):=by
              intro b
              have hlt:(cs.take off).length=off:=by simp;omega
              have h1:cs=cs.take off++((cs.drop off).take ds.length++cs.drop (off+ds.length)):=by
                rw [←List.drop_drop,List.take_append_drop,List.take_append_drop]
              have hlm:((cs.drop off).take ds.length).length=ds.length:=by simp;omega
              have a1:aK b cs (aC w bN)=aK b (cs.take off) (aC w bN)+(aK b ((cs.drop off).take ds.length) (fun j=>aC w bN (off+j))+aK b (cs.drop (off+ds.length)) (fun j=>aC w bN (off+(ds.length+j)))):=by
                conv=>lhs;rw [h1]
                rw [fH,fH,hlt,hlm]
              simp only [cZ,fH,hlt]
              have b1:aK b (cs.take off) (aC (w.setCells bN off (a.eval y).cells.toList) bN)=aK b (cs.take off) (aC w bN):=fZ fun k hk=>hout k (by omega)
              have b2:aK b ds (fun j=>aC (w.setCells bN off (a.eval y).cells.toList) bN (off+j))=cO b (aV s y) (a.eval y):=by
                rw [←Kl b];exact fZ fun k hk=>hin k hk
              have b3:aK b (cs.drop (off+ds.length)) (fun j=>aC (w.setCells bN off (a.eval y).cells.toList) bN (off+(ds.length+j)))=aK b (cs.drop (off+ds.length)) (fun j=>aC w bN (off+(ds.length+j))):=fZ fun k hk=>hout _ (by omega)
              omega
            have Q8:Ext w G (w.setCells bN off (a.eval y).cells.toList) G':=⟨fun b j hj=>jw bN off _ (fun h=>by subst h;omega),e'.le⟩
            obtain ⟨sh1,sh2,sh3,_⟩:=gq (a.eval y).cells.toList w bN off
            have afb:G' bN=0:=by rw [hG' bN hfree];exact g3
            have key:=R.Ev (x:=y) (off:=off) (vs:=(a.eval y).cells.toList) (G':=G') (QZ:=.aH st true (cZ cs off ds)) hbx (dY R (id:=id) (by rw [hbx];simp)) hblk (by rw [hcb,hib];omega) e' hG' rfl
              (fun _=>⟨bN,g1,by rw [fD hln];exact g2.set _ _ _,afb,fun j hj=>by
                obtain ⟨t1,t2⟩:=mP hln hj
                by_cases hi2:off≤j∧j<off+ds.length
                · have hin':=hin (j - off) (by omega)
                  rw [show off+(j - off)=j by omega] at hin'
                  rw [t1 hi2 (by omega),hin']
                  have:=hr' (j - off) (by omega)
                  refine ⟨this.1.mono ⟨fun b k hk=>jw bN off _ (fun h=>by subst h;omega),fun _=>Nat.le_refl _⟩ (fun _ _ _ h=>h) fun b hb=>⟨sh1 b (fun h=>?_),rfl⟩,this.2⟩
                  subst h
                  have h1:=iE (b:=b) (ds:=ds) (f:=aO (a.eval y).cells) (j - off) (by omega)
                  have h2:=Kl b
                  omega
                · have hjc:j<cs.length:=by rw [fD hln] at hj;exact hj
                  rw [t2 hi2 hjc,hout j (by omega)]
                  refine ⟨(g4 j hjc).1.mono Q8 (fun _ _ _ h=>h) fun b hb=>⟨sh1 b (fun h=>?_),hG' b ?_⟩,(g4 j hjc).2⟩
                  · subst h
                    have h1:=iE (b:=b) (ds:=cs) (f:=aC w b) j hjc
                    have h2:=hcb b;have h3:=R.gJ b id;have h4:=R.ct b
                    omega
                  · have h1:=iE (b:=b) (ds:=cs) (f:=aC w bN) j hjc
                    have h2:=hcb b
                    have h3:=(R.kS y).2 b
                    have h4:=(R.kS y).1.gJ b id
                    have h5:cB (ak (bZ s y strip dJ) s) w pt b id=cB s w pt b id:=by simp only [cB,jW]
                    have h6:=R.ct b
                    omega⟩)
              (fun b=>by
                simp only [fI,hblk,Option.getD_some]
                rw [hcb]
                have:=afa b
                omega)
              (fun b hb=>by subst hb;exact hfree) g3
            rw [aP]
            exact ⟨_,_,G',pt,.inr ⟨hrun,rfl⟩,by rw [hdst];exact key⟩
        · rename_i st' t l hbx
          split at h
          · rename_i l' hl'
            cases hb:(Nat.beq st st' && Nat.beq off 0&&i.agg&&Nat.beq t.nc 1) with
            | false=>simp only [hb,cond_false,reduceCtorEq] at h
            | true=>
              simp only [hb,cond_true,Option.some.injEq,Prod.mk.injEq] at h
              simp only [Bool.and_eq_true] at hb
              obtain ⟨⟨⟨hb1,hb2⟩,hb3⟩,hb4⟩:=hb
              have hnc:=Nat.eq_of_beq_eq_true hb4
              have hst:=Nat.eq_of_beq_eq_true hb1
              have hoff:=Nat.eq_of_beq_eq_true hb2
              subst hst;subst hoff
              obtain ⟨hln,rfl⟩:=h
              have hln:=Nat.eq_of_beq_eq_true hln
              obtain ⟨G',e',R1,v1,v2⟩:=TS
              have MO:get (ak (bZ s y share jg) s) (2*id+1) = .aU st true true t l:=by rw [jW];exact hbx
              obtain ⟨g1,g2,g3⟩:=jO R1 MO hblk
              have hdl:∀ (n:Nat) (ds:List D) (l:List t.den),sj t n ds=some l→ds.length=n:=by
                intro n
                induction n with
                | zero=>intro ds l h;cases ds with
                  | nil=>rfl
                  | cons d ds=>simp [sj] at h
                | succ n ih=>
                  intro ds l h
                  simp only [sj] at h
                  split at h
                  · rename_i x r hd
                    split at h
                    · rename_i l'' hl''
                      have h0:=ih _ _ hl''
                      have h1:=wZ t hd
                      omega
                    · cases h
                  · cases h
              have hsz:(a.eval y).cells.size=l.length:=by rw [←v2];exact hdl _ _ _ hl'
              have hrun:=run blk 0 (l.length*t.nc) g2 (by rw [hnc];omega) (by omega) hv
              have Q8:Ext w G' (w.setCells blk 0 (a.eval y).cells.toList) G':=⟨fun b j hj=>jw blk 0 _ (fun h=>by subst h;omega),fun _=>Nat.le_refl _⟩
              obtain ⟨r1,r2⟩:=mQ (pt:=pt) Q8 l.length (b:=blk) (o:=0) hl' v1 (fun j hj=>by
                have hj':j<(a.eval y).cells.toList.length:=by simp;rw [hnc] at hj;omega
                rw [vv g2 _ (by simp;rw [hnc];omega) hj']
                have hj3:j<(a.eval y).cells.size:=by simpa using hj'
                simp [aO,Array.getD_eq_getD_getElem?,hj3])
              rw [aP]
              exact ⟨_,_,G',pt,.inr ⟨hrun,rfl⟩,by rw [hdst];exact R1.sM MO hblk r2 r1⟩
          · cases h
        · cases h
      · rename_i id st i0 off es hx
        rw [hx] at hrx
        obtain ⟨blk,hblk,hv⟩:=hrx
        split at h
        · rename_i st' ar t l hbx
          split at h
          · rename_i v hd
            cases hb:(Nat.beq st st' && Nat.beq es t.nc&&Nat.beq (leaves (bS i.ty (aV s y))).length i.size&&Nat.ble (off+i.size) t.nc) with
            | false=>simp only [hb,cond_false,reduceCtorEq] at h
            | true=>
              simp only [hb,cond_true,Option.some.injEq,Prod.mk.injEq] at h
              simp only [Bool.and_eq_true] at hb
              obtain ⟨⟨⟨hb1,hb2⟩,hb3⟩,hb4⟩:=hb
              have hst:=Nat.eq_of_beq_eq_true hb1
              have hes:=Nat.eq_of_beq_eq_true hb2
              have hln:=Nat.eq_of_beq_eq_true hb3
              have hle:=Nat.le_of_ble_eq_true hb4
              subst hst;subst hes
              obtain ⟨hlt,rfl⟩:=h
              have hlt:i0<l.length:=by simpa [Nat.blt_eq] using hlt
              obtain ⟨G',e',R1,v1,v2⟩:=TS
              have MO:get (ak (bZ s y share jg) s) (2*id+1) = .aU st true ar t l:=by rw [jW];exact hbx
              obtain ⟨g1,g2,g3⟩:=jO R1 MO hblk
              have hvl:=Ko (bS i.ty (aV s y))
              have hsz:(a.eval y).cells.size=i.size:=by omega
              have hmul:(i0+1)*t.nc≤l.length*t.nc:=Nat.mul_le_mul_right _ hlt
              rw [Nat.add_mul] at hmul
              have hrun:=run blk (i0*t.nc+off) (l.length*t.nc) g2 (by omega) (by omega) hv
              have e:l.getD i0 t.dflt=l[i0]:=by simp [hlt]
              rw [e] at hd
              obtain ⟨q1,q2,q3,q4⟩:=xR (pt:=pt) (g1 i0 hlt) 0 t.nc (by omega)
              rw [show ((enc t l[i0]).drop 0).take t.nc=enc t l[i0] by rw [List.drop_zero,←iJ t l[i0],List.take_length]] at q1 q4
              have hel:=iJ t l[i0]
              have Q8:Ext w G' (w.setCells blk (i0*t.nc+off) (a.eval y).cells.toList) G':=⟨fun b j hj=>jw blk _ _ (fun h=>by subst h;omega),fun _=>Nat.le_refl _⟩
              have hls:(a.eval y).cells.toList.length=i.size:=by simp;omega
              have inn:∀ j,j<i.size→(w.setCells blk (i0*t.nc+off) (a.eval y).cells.toList).cell? ⟨blk,i0*t.nc+off+j,none⟩=some (aO (a.eval y).cells j):=by
                intro j hj
                rw [vv g2 _ (by omega) (by omega:j<(a.eval y).cells.toList.length)]
                have hj3:j<(a.eval y).cells.size:=by omega
                simp [aO,Array.getD_eq_getD_getElem?,hj3]
              have out:∀ j,(j<i0*t.nc+off∨i0*t.nc+off+i.size≤j)→(w.setCells blk (i0*t.nc+off) (a.eval y).cells.toList).cell? ⟨blk,j,none⟩=w.cell? ⟨blk,j,none⟩:=by
                intro j hj
                exact jw blk _ _ (fun _=>by omega)
              have hrl:=fD (cs:=enc t l[i0]) (ds:=leaves (view (bS i.ty (aV s y)))) (off:=off) (by omega)
              have hrep:aQ w G' pt ((cZ (enc t l[i0]) off (leaves (view (bS i.ty (aV s y))))).map bU) (fun j=>aC (w.setCells blk (i0*t.nc+off) (a.eval y).cells.toList) blk (i0*t.nc+j)):=by
                intro j hj
                rw [List.length_map] at hj
                rw [List.getElem_map]
                obtain ⟨t1,t2⟩:=mP (cs:=enc t l[i0]) (ds:=leaves (view (bS i.ty (aV s y)))) (off:=off) (by omega) hj
                by_cases hi2:off≤j∧j<off+(leaves (view (bS i.ty (aV s y)))).length
                · rw [t1 hi2 (by omega)]
                  have h1:=v1 (j - off) (by rw [List.length_map];omega)
                  rw [List.getElem_map] at h1
                  have h2:=inn (j - off) (by omega)
                  rw [show i0*t.nc+off+(j - off)=i0*t.nc+j by omega] at h2
                  simp only [aC,h2,Option.getD_some]
                  exact h1
                · have hjc:j<(enc t l[i0]).length:=by omega
                  rw [t2 hi2 hjc]
                  have h1:=q1 j hjc
                  have h2:=out (i0*t.nc+j) (by omega)
                  have h3:∀ b,dw b (enc t l[i0])[j] (aC w blk (0+i0*t.nc+0+j))=0:=fun b=>by
                    have:=iE (b:=b) (ds:=enc t l[i0]) (f:=fun j=>aC w blk (0+i0*t.nc+0+j)) j hjc
                    have:=q4 b
                    omega
                  simp only [aC,h2]
                  simp only [aC,Nat.zero_add,Nat.add_zero] at h1 h3
                  exact ⟨h1.1.view0 h3,h1.2⟩
              have hcell:∀ j,j<t.nc→(w.setCells blk (i0*t.nc+off) (a.eval y).cells.toList).cell? ⟨blk,i0*t.nc+j,none⟩=some (aC (w.setCells blk (i0*t.nc+off) (a.eval y).cells.toList) blk (i0*t.nc+j)):=by
                intro j hj
                exact kF (g2.set _ _ _) (by omega)
              obtain ⟨d1,_,_⟩:=sD Q8 (b:=blk) (o:=i0*t.nc) hd hrep hcell
              have hRE:fB (w.setCells blk (i0*t.nc+off) (a.eval y).cells.toList) G' t (l.set i0 v) blk 0:=by
                intro k hk
                have hk':k<l.length:=by simpa using hk
                by_cases hki:k=i0
                · subst hki
                  rw [List.getElem_set_self,Nat.zero_add]
                  exact d1
                · rw [List.getElem_set_ne (Ne.symm hki)]
                  refine (g1 k hk').mono Q8 fun j hj1 hj2=>out j ?_
                  rcases Nat.lt_or_ge k i0 with h | h
                  · have:(k+1)*t.nc≤i0*t.nc:=Nat.mul_le_mul_right _ h
                    rw [Nat.add_mul] at this
                    omega
                  · have:(i0+1)*t.nc≤k*t.nc:=Nat.mul_le_mul_right _ (by omega)
                    rw [Nat.add_mul] at this
                    omega
              rw [aP]
              exact ⟨_,_,G',pt,.inr ⟨hrun,rfl⟩,by rw [hdst];exact R1.sM MO hblk (by simp) hRE⟩
          · cases h
        · cases h
      · cases h
  · cases h
theorem MP (HP:nM P E) (R:Rel E C s a w G pt) (hdst:o.dst=none) (T:Nat) (x y:Operand) (hop:o.op = .store T x y)
    (h:uX E o s T x y=some (true,u)):fC P E C o a w (ak u s):=by
  unfold uX at h
  split at h
  · rename_i k l' hy
    exact Gz HP R hdst T x y hop hy h
  · exact Kq HP R hdst T x y hop h
end
end Go.aW
namespace Go.aW
section
variable {P:Program} {E:Env} {C:Ctx} {s:St} {a:Act} {w:World} {G:Nat→Nat} {pt:Nat→Nat→Option Value} {o:Oper} {u:St}
theorem fB.cells {t:Ty} {l:List t.den} {b off:Nat} (h:fB w G t l b off):∀ j,j<l.length*t.nc→∃ v,w.cell? ⟨b,off+j,none⟩=some v∧v.oneCell' = true:=by
  intro j hj
  have hnc:0<t.nc:=by
    rcases Nat.eq_zero_or_pos t.nc with h0 | h0
    · rw [h0] at hj;omega
    · exact h0
  have hi:j / t.nc<l.length:=by
    rw [Nat.div_lt_iff_lt_mul hnc];exact hj
  have hm:j%t.nc<(enc t l[j / t.nc]).length:=by rw [iJ];exact Nat.mod_lt _ hnc
  obtain ⟨v,h1,h2,h3⟩:=nI (fun _ _=>none) (h (j / t.nc) hi) (j%t.nc) hm
  have hlf:=kU t _ _ (List.getElem_mem hm)
  refine ⟨v,?_,h2.one hlf.1 hlf.2⟩
  rw [←h1]
  congr 2
  have:=Nat.div_add_mod j t.nc
  rw [Nat.mul_comm] at this
  omega
theorem sN (R:Rel E C s a w G pt) {t:Ty} (y:Operand) {l':List t.den} (h:tail s t (aV s y)=some l') :
    (∀ w1,(Builtin.lenOf (a.eval y)).run P w1 = .ok l'.length w1)∧(∀ k n,a.eval y≠.int k n)∧∀ k,k≤l'.length→∃ news:List Value,(∀ w1:World,w1.heap=w.heap→(Builtin.firstCells t.nc k (a.eval y)).run P w1 = .ok news.toArray w1) ∧
      news.length=k*t.nc∧(∀ v∈news,v.oneCell' = true) ∧
      ∀ w' G' b off,Ext w G w' G'→(∀ j (h:j<news.length),w'.cell? ⟨b,off+j,none⟩=some news[j])→fB w' G' t (l'.take k) b off:=by
  have hy:=aT R y
  have gen:∀ d,content s d=some ⟨t,l'⟩→aV s y=d→(∀ w1,(Builtin.lenOf (a.eval y)).run P w1 = .ok l'.length w1)∧(∀ k n,a.eval y≠.int k n)∧∀ k,k≤l'.length→∃ news:List Value,(∀ w1:World,w1.heap=w.heap→(Builtin.firstCells t.nc k (a.eval y)).run P w1 = .ok news.toArray w1) ∧
      news.length=k*t.nc∧(∀ v∈news,v.oneCell' = true) ∧
      ∀ w' G' b off,Ext w G w' G'→(∀ j (h:j<news.length),w'.cell? ⟨b,off+j,none⟩=some news[j])→fB w' G' t (l'.take k) b off:=by
    intro d hc hd
    rw [hd] at hy
    obtain ⟨ad,n,c,hv,hn,hbd,hnc,hel⟩:=oO R hy hc
    refine ⟨fun w1=>by rw [hv];simp [Builtin.lenOf,hn],fun k n=>by rw [hv];simp,fun k hk=>?_⟩
    rcases hel with hel | ⟨b,off,had,hE⟩
    · subst hel
      have hk0:k=0:=by simpa using hk
      subst hk0
      refine ⟨[],fun w1 _=>?_,by simp,by simp,fun _ _ _ _ _ _ i hi=>by simp at hi⟩
      rw [hv]
      cases ad with
      | none=>simp [Builtin.firstCells]
      | some ad=>exact run_firstCells_some w1 t.nc 0 ad n c [] (by simp) (by simp)
    · subst had
      have hks:k*t.nc≤l'.length*t.nc:=Nat.mul_le_mul_right _ hk
      have hcell:∀ j,j<k*t.nc→w.cell? ⟨b,off+j,none⟩=some (aC w b (off+j))∧(aC w b (off+j)).oneCell' = true:=by
        intro j hj
        obtain ⟨v,h1,h2⟩:=hE.cells j (by omega)
        have:aC w b (off+j)=v:=by simp [aC,h1]
        rw [this];exact ⟨h1,h2⟩
      refine ⟨(List.range (k*t.nc)).map (fun j=>aC w b (off+j)),fun w1 hw1=>?_,by simp,fun v hv=>?_,fun w' G' b' off' hE' hc'=>?_⟩
      · rw [hv]
        refine run_firstCells_some w1 t.nc k ⟨b,off,none⟩ n c _ (by simp) fun j v hj=>?_
        have hj':j<k*t.nc:=by
          rcases Nat.lt_or_ge j (k*t.nc) with h | h
          · exact h
          · rw [List.getElem?_eq_none (by simpa using h)] at hj;cases hj
        rw [Addr.add_lit]
        have h1:w1.cell? ⟨b,off+j,none⟩=w.cell? ⟨b,off+j,none⟩:=by simp [World.cell?,hw1]
        rw [h1,(hcell j hj').1]
        simpa [hj'] using hj
      · obtain ⟨j,hj,rfl⟩:=List.mem_map.1 hv
        exact (hcell j (by simpa using hj)).2
      · intro i hi
        have hi':i<k:=by simp at hi;omega
        have hil:i<l'.length:=by omega
        have e:(l'.take k)[i]=l'[i]:=by simp
        rw [e]
        refine (hE i hil).move hE' fun j hj=>?_
        have h2:(i+1)*t.nc≤k*t.nc:=Nat.mul_le_mul_right _ hi'
        rw [Nat.add_mul] at h2
        have h3:=hc' (i*t.nc+j) (by simp;omega)
        rw [←Nat.add_assoc] at h3
        rw [h3,List.getElem_map,List.getElem_range,←Nat.add_assoc]
        have h4:=(hcell (i*t.nc+j) (by omega)).1
        rw [←Nat.add_assoc] at h4
        exact h4.symm
  unfold tail at h
  split at h
  · rename_i hd
    simp only [Option.some.injEq] at h
    subst h
    rw [hd] at hy
    have hv:a.eval y = .slice none 0 0:=hy
    refine ⟨fun w1=>by rw [hv];simp [Builtin.lenOf],fun k n=>by rw [hv];simp,fun k hk=>⟨[],fun w1 _=>by rw [hv];simp [Builtin.firstCells],by simp at hk;simp [hk],by simp,fun _ _ _ _ _ _ i hi=>by simp at hi⟩⟩
  · rename_i l hd
    split at h
    · simp only [Option.some.injEq] at h
      subst h
      rw [hd] at hy
      obtain ⟨sv,hv,hl,hbd⟩:=hy
      have hsz:l.length=sv.size:=by rw [←hl];exact jr sv
      refine ⟨fun w1=>by rw [hv];simp [Builtin.lenOf,hsz],fun k n=>by rw [hv];simp,fun k hk=>⟨(l.take k).map fun x=>Value.int .u8 x,fun w1 _=>?_,by simp [Ty.nc];omega,fun v hv=>?_,fun w' G' b off hE' hc' i hi=>?_⟩⟩
      · rw [hv]
        simp only [Builtin.firstCells,Sem.run_pure]
        congr 1
        apply Array.ext'
        simp only [Array.toList_map,←hl,jq,List.map_take,List.map_map]
        have:(sv.extract 0 k).data.toList=sv.data.toList.take k:=by simp
        rw [this,List.map_take]
        rfl
      · obtain ⟨x,_,rfl⟩:=List.mem_map.1 hv;rfl
      · have hi':i<l.length:=by simp at hi;omega
        have hik:i<k:=by simp at hi;omega
        have h1:=hc' i (by simp;omega)
        simp only [Ty.nc,Nat.mul_one,bX]
        refine ⟨by rw [h1];simp,?_⟩
        have:(l.take k)[i]=l[i]:=by simp
        rw [this]
        have h2:l[i]=(sv.data[i]'(by simpa [hsz] using hi')).toNat:=by
          have:l[i]=(jq sv)[i]'(by rw [hl];exact hi'):=by simp [hl]
          rw [this];simp [jq]
        rw [h2]
        have:=(sv.data[i]'(by simpa [hsz] using hi')).toNat_lt
        unfold IntKind.has
        simp [IntKind.min,IntKind.max,IntKind.bits,IntKind.signed]
        omega
    · cases h
  · split at h
    · rename_i t' l hc
      split at h
      · rename_i hb
        have he:=Ty.eq_of_beq hb
        subst he
        simp only [Option.some.injEq] at h
        have:kM (Ty.eq_of_beq hb) l=l:=rfl
        rw [this] at h
        subst h
        exact gen _ hc rfl
      · cases h
    · cases h
theorem wG {T T' ty e:TypeId} {i:TypeInfo} {w9:TypeDesc} {b n c m:Nat} {vy:Value} {news:List Value} (hT:P.underlying T=some (.slice e)) (hT':P.underlying T' = some w9) (hd:(∃ e',w9 = .slice e')∨w9 = .string) (hi:P.info? e=some i)
    (hl:(Builtin.lenOf vy).run P w = .ok m w) (hf:(Builtin.firstCells i.size m vy).run P w = .ok news.toArray w) (hroom:n+m≤c)
    (hst:(storeCells ⟨b,n*i.size,none⟩ news).run P w = .ok () (w.setCells b (n*i.size) news)) :
    (Builtin.append_ #[T,T'] ty #[.slice (some ⟨b,0,none⟩) n c,vy]).run P w = .ok (.slice (some ⟨b,0,none⟩) (n+m) c) (w.setCells b (n*i.size) news):=by
  rcases hd with ⟨e',rfl⟩ | rfl<;>simp [Builtin.append_,run_underlying hT,run_underlying hT',sizeOf,typeInfo,hi,hl,hroom,hf,Addr.add_lit,hst]
theorem Ew {T T' ty e:TypeId} {i:TypeInfo} {w9:TypeDesc} {c:Nat} {vy:Value} {news:List Value} (hT:P.underlying T=some (.slice e)) (hT':P.underlying T' = some w9) (hd:(∃ e',w9 = .slice e')∨w9 = .string) (hi:P.info? e=some i)
    (hl:(Builtin.lenOf vy).run P w = .ok 0 w) (hf:(Builtin.firstCells i.size 0 vy).run P w = .ok news.toArray w) :
    (Builtin.append_ #[T,T'] ty #[.slice none 0 c,vy]).run P w = .ok (.slice none 0 c) w:=by
  rcases hd with ⟨e',rfl⟩ | rfl<;>simp [Builtin.append_,run_underlying hT,run_underlying hT',sizeOf,typeInfo,hi,hl,hf]
theorem oW {T T' ty e:TypeId} {i:TypeInfo} {z:Value} {w9:TypeDesc} {ad:Option Addr} {n c m:Nat} {vy:Value} {olds news:List Value} (hT:P.underlying T=some (.slice e)) (hT':P.underlying T' = some w9) (hd:(∃ e',w9 = .slice e')∨w9 = .string) (hi:P.info? e=some i)
    (hz:i.zero=some z) (hl:(Builtin.lenOf vy).run P w = .ok m w) (hf:(Builtin.firstCells i.size m vy).run P w.drew = .ok news.toArray w.drew)
    (ho:(Builtin.firstCells i.size n (.slice ad n c)).run P w.drew = .ok olds.toArray w.drew) (hroom:c<n+m) (hb0:0<i.bytes) (hfit:(n+m)*i.bytes≤big) :
    (Builtin.append_ #[T,T'] ty #[.slice ad n c,vy]).run P w = .ok (.slice (some ⟨w.heap.size,0,none⟩) (n+m) (grownCap w (n+m) c e))
      (w.drew.alloc (.cells (olds++news++(Builtin.zeroCells z.cells (grownCap w (n+m) c e - (n+m))).toList).toArray e)):=by
  have hn:¬ (n+m≤c):=by omega
  have hle:n+m≤(n+m)*i.bytes:=Nat.le_mul_of_pos_right _ hb0
  have h63':¬ (9223372036854775807<((n:Int)+(m:Int))):=by unfold big at hfit;omega
  have h48':¬ (281474976710656<Builtin.nextslicecap (n+m) c*i.bytes):=by
    have:=growslice_fits hroom (show (n+m)*i.bytes≤140737488355328 from hfit)
    omega
  have hfin:olds.toArray++news.toArray++Builtin.zeroCells z.cells (grownCap w (n+m) c e - (n+m))=(olds++news++(Builtin.zeroCells z.cells (grownCap w (n+m) c e - (n+m))).toList).toArray:=by
    apply Array.ext';simp
  rw [←hfin]
  rcases hd with ⟨e',rfl⟩ | rfl<;>simp [Builtin.append_,run_underlying hT,run_underlying hT',sizeOf,typeInfo,zeroValue,hi,hz,hl,hn,h63',h48',Question.forced,hf,ho,newRow,grownCap]<;>(congr 2;apply Array.ext';simp)
theorem Rel.GA (R:Rel E C s a w G pt) (o:Oper) (ho:∀ t,o.dst=some t→t<E.n) {w':World} {f:Nat} {t:Ty} {L:List t.den} {b c:Nat} (hf:f=1∨f=2)
    (hE:Ext w G w' (fun x=>if x=b then (if f=1 then L.length*t.nc else 0) else G x)) (hT:∀ x,x≠b→x<w.heap.size→w'.heap[x]? = w.heap[x]?)
    (h0:TC E.n C.m s a w pt b=0∧(C.w0.heap.size≤b∨C.X b)) (hbs:b<w'.heap.size) (hL:fB w' (fun x=>if x=b then (if f=1 then L.length*t.nc else 0) else G x) t L b 0)
    (room:Room w' b (c*t.nc)) (hc:L.length≤c) (hbz:L.length*t.mE≤big) (hnc:0<t.nc)
    (hos:w'.os=w.os) (hout:w'.output=w.output) (htp:w'.tape=w.tape) (Mh:w.heap.size≤w'.heap.size) :
    Rel E C (ak (bB o (.sl f t L)) s) (a.put o.dst (.slice (some ⟨b,0,none⟩) L.length c)) w' (fun x=>if x=b then (if f=1 then L.length*t.nc else 0) else G x) pt:=by
  refine R.put o ho (fun x=>x=b) hE (fun x hx hxs=>⟨hT x hx hxs,if_neg hx⟩) (fun x hx=>by subst hx;exact h0) ?_ (fun x=>?_) (fun x hx=>?_) hos hout htp Mh
  · refine ⟨_,_,_,rfl,rfl,hbz,?_⟩
    rcases hf with rfl | rfl
    · exact .inr ⟨b,rfl,by simp,room,hc,hL,hnc⟩
    · exact .inr ⟨b,rfl,by simp,room,hc,hL,hnc⟩
  · have e:cO x (.sl f t L) (.slice (some ⟨b,0,none⟩) L.length c)=if f≠0∧b=x then 1 else 0:=rfl
    rw [e]
    by_cases h:b=x
    · subst h
      refine ⟨by split<;>omega,fun _=>⟨h0.1,hbs,h0.2⟩⟩
    · simp [h]
  · rw [if_neg (by omega)]
    exact R.gz x (by omega)
theorem Rel.IZ (R:Rel E C s a w G pt) {id st:Nat} {t:Ty} {l:List t.den} {ar:Bool} (hb:get s (2*id+1) = .aU st true ar t l) :
    Rel E C ((2*id+1,.aU st false ar t [])::s) a w G pt ∧
      ∀ b,TC E.n C.m ((2*id+1,.aU st false ar t [])::s) a w pt b+bR b (pt id st)=TC E.n C.m s a w pt b:=by
  have hid:=dY R (id:=id) (by rw [hb];simp)
  have tc:∀ b,TC E.n C.m ((2*id+1,.aU st false ar t [])::s) a w pt b+bR b (pt id st)=TC E.n C.m s a w pt b:=by
    intro b
    have e1:=aM (n:=E.n) (f:=cT s a b) (g:=cT ((2*id+1,.aU st false ar t [])::s) a b) (fun i _=>by simp only [cT,get_bt])
    have e2:=bM (n:=C.m) (f:=cB s w pt b) (g:=cB ((2*id+1,.aU st false ar t [])::s) w pt b) hid (fun i hi=>by simp only [cB,bG,hi,if_false])
    have e3:cB ((2*id+1,.aU st false ar t [])::s) w pt b id=0:=by simp only [cB,bG,if_true,fI]
    have e4:cB s w pt b id=bR b (pt id st):=by simp only [cB,hb,fI]
    unfold TC
    omega
  refine ⟨R.step (fun _=>False) (fun i=>i=id) (fun _=>False) rfl R.df (fun t _=>⟨by simp,rfl⟩) (fun i hi=>⟨by simp [hi],rfl⟩) (Ext.refl _ _) (fun _ _ _ h=>h) (fun _ _ _=>⟨rfl,rfl⟩)
    (fun b h=>h.elim) (fun b h=>h.elim) (fun b h=>h.elim) (fun t h=>h.elim) (fun i hi=>?_) (fun _ _ b=>?_) R.gz rfl rfl rfl (Nat.le_refl _),tc⟩
  · subst hi
    refine ⟨hid,?_,fun j hj=>?_⟩
    · simp only [bG,if_true,oD];intro h;cases h
    · simp only [bG,if_true] at hj
      exact R.pf i j (by rw [hb];exact hj)
  · have h1:=tc b
    have h2:=R.ct b
    have h3:=R.cb b
    exact ⟨by omega,fun h=>h3 (by omega)⟩
theorem Kr {t:Ty} {l:List t.den} {ad:Option Addr} {c:Nat} (h:Gp w G 0 t l ad c) :
    ∃ olds:List Value,(∀ w1:World,w1.heap=w.heap→(Builtin.firstCells t.nc l.length (.slice ad l.length c)).run P w1 = .ok olds.toArray w1)∧olds.length=l.length*t.nc ∧
      ∀ w' G' b,Ext w G w' G'→(∀ j (h:j<olds.length),w'.cell? ⟨b,0+j,none⟩=some olds[j])→fB w' G' t l b 0:=by
  rcases h.2 with h1 | ⟨b,o,h1,hG,h5⟩
  · subst h1
    refine ⟨[],fun w1 _=>?_,by simp,fun _ _ _ _ _ i hi=>by simp at hi⟩
    cases ad with
    | none=>simp [Builtin.firstCells]
    | some q=>
      refine run_firstCells_some w1 t.nc 0 q 0 c _ (by simp) fun j v hj=>?_
      simp at hj
  · subst h1
    have hcell:∀ j,j<l.length*t.nc→w.cell? ⟨b,o+j,none⟩=some (aC w b (o+j)):=by
      intro j hj
      obtain ⟨v,h1,_⟩:=h5.cells j hj
      simp only [aC]
      rw [h1];rfl
    refine ⟨(List.range (l.length*t.nc)).map (fun j=>aC w b (o+j)),fun w1 hw1=>?_,by simp,fun w' G' b' hE' hc' i hi=>(h5 i hi).move hE' fun j hj=>?_⟩
    · refine run_firstCells_some w1 t.nc l.length ⟨b,o,none⟩ l.length c _ (by simp) fun j v hj=>?_
      have hj':j<l.length*t.nc:=by
        rcases Nat.lt_or_ge j (l.length*t.nc) with h | h
        · exact h
        · rw [List.getElem?_eq_none (by simpa using h)] at hj;cases hj
      rw [Addr.add_mid]
      have h1:w1.cell? ⟨b,o+j,none⟩=w.cell? ⟨b,o+j,none⟩:=by simp [World.cell?,hw1]
      rw [h1,hcell j hj']
      simpa [hj'] using hj
    · have h2:(i+1)*t.nc≤l.length*t.nc:=Nat.mul_le_mul_right _ hi
      rw [Nat.add_mul] at h2
      have h3:=hc' (i*t.nc+j) (by simp;omega)
      rw [←Nat.add_assoc] at h3
      rw [h3,List.getElem_map,List.getElem_range,Nat.add_assoc]
      exact (hcell (i*t.nc+j) (by omega)).symm
theorem GD {s0:St} (R0:Rel E C s0 a w G pt) (ho:∀ t,o.dst=some t→t<E.n) {T T':Nat} {x y:Operand} {e:TypeId} {pi:TypeInfo} {z:Value} {w9:TypeDesc}
    (hop:o.op = .call { callee:=.builtin .append,args:=#[x,y],argTypes:=#[T,T'] })
    (hT:P.underlying T=some (.slice e)) (hT':P.underlying T' = some w9) (hd:(∃ e',w9 = .slice e')∨w9 = .string) (hi:P.info? e=some pi) (hz:pi.zero=some z) (hzs:z.cells.size=pi.size)
    {t:Ty} (hsz:pi.size=t.nc) (hnc:0<t.nc) (hbs:pi.bytes=t.mE) (hb0:0<pi.bytes)
    {f:Nat} (hf:f=1∨f=2) {l l':List t.den} {ad:Option Addr} {c:Nat} (hx:a.eval x = .slice ad l.length c) (hroom:¬ l.length+l'.length≤c)
    {olds:List Value} (k1:∀ w1:World,w1.heap=w.heap→(Builtin.firstCells t.nc l.length (.slice ad l.length c)).run P w1 = .ok olds.toArray w1) (k2:olds.length=l.length*t.nc)
    (k3:∀ w' G' b,Ext w G w' G'→(∀ j (h:j<olds.length),w'.cell? ⟨b,0+j,none⟩=some olds[j])→fB w' G' t l b 0)
    (hlen:∀ w1,(Builtin.lenOf (a.eval y)).run P w1 = .ok l'.length w1)
    {news:List Value} (hfc:∀ w1:World,w1.heap=w.heap→(Builtin.firstCells t.nc l'.length (a.eval y)).run P w1 = .ok news.toArray w1) (hnl:news.length=l'.length*t.nc) (hone:∀ v∈news,v.oneCell' = true)
    (hre:∀ w' G' b off,Ext w G w' G'→(∀ j (h:j<news.length),w'.cell? ⟨b,off+j,none⟩=some news[j])→fB w' G' t l' b off)
    (hfit:(l.length+l'.length)*pi.bytes≤big) :
    fC P E C o a w (ak (bB o (.sl f t (l++l'))) s0):=by
  have run:∀ v w',(Builtin.append_ #[T,T'] o.type #[a.eval x,a.eval y]).run P w = .ok v w'→(execOp a.eval o).run P w = .ok (.value v) w':=by
    intro v w' h
    simp [execOp,hop,resolve,invoke,builtin,h]
  have hbz:(l++l').length*t.mE≤big:=by rw [List.length_append,←hbs];exact hfit
  have app:∀ w' G' b,fB w' G' t l b 0→fB w' G' t l' b (l.length*t.nc)→fB w' G' t (l++l') b 0:=by
    intro w' G' b h1 h2 i hi
    by_cases h:i<l.length
    · rw [List.getElem_append_left h];exact h1 i h
    · rw [List.getElem_append_right (by omega)]
      have:=h2 (i - l.length) (by simp at hi;omega)
      rw [show l.length*t.nc+(i - l.length)*t.nc=0+i*t.nc by rw [Nat.zero_add,←Nat.add_mul,Nat.add_sub_cancel' (by omega)]] at this
      exact this
  have hr:=run _ _ (by rw [hx];exact oW (ty:=o.type) (olds:=olds) hT hT' hd hi hz (hlen w) (by rw [hsz];exact hfc _ rfl) (by rw [hsz];exact k1 _ rfl) (by omega) hb0 hfit)
  have hcap:=grownCap_ge w (l.length+l'.length) c e
  generalize grownCap w (l.length+l'.length) c e=c' at hr hcap
  generalize hcs:olds++news++(Builtin.zeroCells z.cells (c' - (l.length+l'.length))).toList=cells at hr
  have hlen':l.length+l'.length=(l++l').length:=by simp
  have hcl:cells.length=c' * t.nc:=by
    rw [←hcs]
    simp only [List.length_append,k2,hnl,Array.length_toList,size_zeroCells,hzs,hsz,←Nat.add_mul]
    congr 1;omega
  have R1:=R0.drew (w':=w.drew) rfl rfl rfl rfl
  have hcell:∀ j (h:j<cells.length),(w.drew.alloc (.cells cells.toArray e)).cell? ⟨w.heap.size,j,none⟩=some cells[j]:=by
    intro j hj
    have:=fJ (w:=w.drew) cells.toArray e (0,0) j
    exact this.trans (by simp [hj])
  have hEG:∀ x,(if x=w.heap.size then (if f=1 then (l++l').length*t.nc else 0) else G x)=(if x=w.heap.size then (if f=1 then (l++l').length*t.nc else 0) else G x):=fun _=>rfl
  have MQ:Ext w.drew G (w.drew.alloc (.cells cells.toArray e)) (fun x=>if x=w.heap.size then (if f=1 then (l++l').length*t.nc else 0) else G x):=by
    have:=eZ (w:=w.drew) (.cells cells.toArray e) R1.gz
    refine ⟨this.cell,fun x=>?_⟩
    show G x≤if x=_ then _ else _
    by_cases h:x=w.heap.size
    · rw [h,R0.gz _ (Nat.le_refl _)];exact Nat.zero_le _
    · rw [if_neg h];exact Nat.le_refl _
  have MR:Ext w G (w.drew.alloc (.cells cells.toArray e)) (fun x=>if x=w.heap.size then (if f=1 then (l++l').length*t.nc else 0) else G x):=⟨MQ.cell,MQ.le⟩
  have Co:TC E.n C.m s0 a w.drew pt w.heap.size=0:=R1.fresh
  have:=R1.GA o ho (w':=w.drew.alloc (.cells cells.toArray e)) (L:=l++l') (b:=w.heap.size) (c:=c') hf MQ (fun x _ hxs=>alloc_old _ hxs) ⟨Co,.inl R0.hs⟩ (by simp)
    (app _ _ _ (k3 _ _ _ MR fun j hj=>by
        rw [hcell (0+j) (by rw [hcl];have:(l.length+l'.length)*t.nc≤c' * t.nc:=Nat.mul_le_mul_right _ hcap
                            rw [Nat.add_mul] at this;omega)]
        subst hcs
        simp [hj])
      (hre _ _ _ _ MR fun j hj=>by
        rw [hcell (l.length*t.nc+j) (by rw [hcl];have:(l.length+l'.length)*t.nc≤c' * t.nc:=Nat.mul_le_mul_right _ hcap
                                        rw [Nat.add_mul] at this;omega)]
        subst hcs
        congr 1
        rw [List.getElem_append_left (by simp;omega),List.getElem_append_right (by omega)]
        congr 1
        omega))
    ⟨cells.toArray,e,(0,0),gY _,by simp [hcl],fun _ _=>by simp⟩ (by omega) hbz hnc rfl rfl rfl (by simp)
  rw [←hlen'] at this
  exact ⟨_,_,_,pt,.inl hr,this⟩
theorem oZ {s0:St} (R0:Rel E C s0 a w G pt) (ho:∀ t,o.dst=some t→t<E.n) {T T':Nat} {x y:Operand} {e:TypeId} {pi:TypeInfo} {z:Value} {w9:TypeDesc}
    (hop:o.op = .call { callee:=.builtin .append,args:=#[x,y],argTypes:=#[T,T'] })
    (hT:P.underlying T=some (.slice e)) (hT':P.underlying T' = some w9) (hd:(∃ e',w9 = .slice e')∨w9 = .string) (hi:P.info? e=some pi) (hz:pi.zero=some z) (hzs:z.cells.size=pi.size)
    {t:Ty} (hsz:pi.size=t.nc) (hnc:0<t.nc) (hbs:pi.bytes=t.mE) (hb0:0<pi.bytes)
    {f:Nat} (hf:f=1∨f=2) {l l':List t.den} {ad:Option Addr} {n c:Nat} (hx:a.eval x = .slice ad n c) (hn:n=l.length) (hsl:Gp w G f t l ad c)
    (hfree:∀ b,ad=some ⟨b,0,none⟩→TC E.n C.m s0 a w pt b=0∧(C.w0.heap.size≤b∨C.X b)∧b<w.heap.size)
    (hlen:∀ w1,(Builtin.lenOf (a.eval y)).run P w1 = .ok l'.length w1)
    {news:List Value} (hfc:∀ w1:World,w1.heap=w.heap→(Builtin.firstCells t.nc l'.length (a.eval y)).run P w1 = .ok news.toArray w1) (hnl:news.length=l'.length*t.nc) (hone:∀ v∈news,v.oneCell' = true)
    (hre:∀ w' G' b off,Ext w G w' G'→(∀ j (h:j<news.length),w'.cell? ⟨b,off+j,none⟩=some news[j])→fB w' G' t l' b off)
    (hfit:(l.length+l'.length)*pi.bytes≤big) :
    fC P E C o a w (ak (bB o (.sl f t (l++l'))) s0):=by
  have run:∀ v w',(Builtin.append_ #[T,T'] o.type #[a.eval x,a.eval y]).run P w = .ok v w'→(execOp a.eval o).run P w = .ok (.value v) w':=by
    intro v w' h
    simp [execOp,hop,resolve,invoke,builtin,h]
  have hbz:(l++l').length*t.mE≤big:=by rw [List.length_append,←hbs];exact hfit
  have app:∀ w' G' b,fB w' G' t l b 0→fB w' G' t l' b (l.length*t.nc)→fB w' G' t (l++l') b 0:=by
    intro w' G' b h1 h2 i hi
    by_cases h:i<l.length
    · rw [List.getElem_append_left h];exact h1 i h
    · rw [List.getElem_append_right (by omega)]
      have:=h2 (i - l.length) (by simp at hi;omega)
      rw [show l.length*t.nc+(i - l.length)*t.nc=0+i*t.nc by rw [Nat.zero_add,←Nat.add_mul,Nat.add_sub_cancel' (by omega)]] at this
      exact this
  have split:(ad=none∧l=[]∧c=0)∨∃ b,ad=some ⟨b,0,none⟩∧(G b=if f=1 then l.length*t.nc else 0)∧Room w b (c*t.nc)∧l.length≤c∧fB w G t l b 0:=by
    rcases hf with rfl | rfl
    · rcases hsl with h | ⟨b,h1,h2,h3,h4,h5,_⟩
      · exact .inl h
      · exact .inr ⟨b,h1,by simpa using h2,h3,h4,h5⟩
    · rcases hsl with h | ⟨b,h1,h2,h3,h4,h5,_⟩
      · exact .inl h
      · exact .inr ⟨b,h1,by simpa using h2,h3,h4,h5⟩
  subst hn
  by_cases hroom:l.length+l'.length≤c
  · rcases split with ⟨h1,h2,h3⟩ | ⟨b,h1,hG,h3,h4,h5⟩
    · subst h1 h2 h3
      have hl0:l' = []:=by simp at hroom;exact hroom
      subst hl0
      have hr:=run _ _ (by rw [hx];exact Ew (c:=0) (ty:=o.type) hT hT' hd hi (hlen w) (by rw [hsz];exact hfc w rfl))
      refine ⟨_,w,G,pt,.inl hr,R0.put o ho (fun _=>False) (Ext.refl _ _) (fun _ _ _=>⟨rfl,rfl⟩) (fun _ h=>h.elim) ?_ (fun b=>?_) R0.gz rfl rfl rfl (Nat.le_refl _)⟩
      · refine ⟨none,0,0,rfl,rfl,by simp,?_⟩
        rcases hf with rfl | rfl
        · exact .inl ⟨rfl,rfl,rfl⟩
        · exact .inl ⟨rfl,rfl,rfl⟩
      · rw [show cO b (.sl f t ([]++[])) (.slice none 0 0)=0 from rfl];simp
    · subst h1
      obtain ⟨g1,g2,g3⟩:=hfree b rfl
      have hroom':(l.length+l'.length)*t.nc≤c*t.nc:=Nat.mul_le_mul_right _ hroom
      rw [Nat.add_mul] at hroom'
      have hst:=run_storeCells_cells (P:=P) b (l.length*t.nc) news 0 w (fun j hj=>by simpa using (h3.some (j:=l.length*t.nc+j) (by omega)).1) (fun j hj=>by simpa using (h3.some (j:=l.length*t.nc+j) (by omega)).2) hone
      simp only [Nat.add_zero] at hst
      have hr:=run _ _ (by rw [hx];exact wG (ty:=o.type) hT hT' hd hi (hlen w) (by rw [hsz];exact hfc w rfl) hroom (by rw [hsz];exact hst))
      rw [hsz] at hr
      obtain ⟨q1,q2,q3,q4,q5,q6⟩:=gq news w b (l.length*t.nc)
      have MQ:Ext w G (w.setCells b (l.length*t.nc) news) (fun x=>if x=b then (if f=1 then (l++l').length*t.nc else 0) else G x):=by
        refine ⟨fun x j hj=>jw b _ _ (fun h=>.inl ?_),fun x=>?_⟩
        · subst h
          rw [hG] at hj
          split at hj<;>omega
        · show G x≤if x=b then _ else _
          by_cases h:x=b
          · subst h
            rw [if_pos rfl,hG,List.length_append,Nat.add_mul]
            split<;>omega
          · rw [if_neg h];exact Nat.le_refl _
      have hlen':l.length+l'.length=(l++l').length:=by simp
      have:=R0.GA o ho (w':=w.setCells b (l.length*t.nc) news) (L:=l++l') (b:=b) (c:=c) hf MQ (fun x hx _=>q1 x hx) ⟨g1,g2⟩ (by rw [q3];exact g3)
        (app _ _ _ (h5.mono MQ fun j _ hj2=>jw b _ _ (fun _=>.inl (by omega))) (hre _ _ _ _ MQ fun j hj=>vv h3 news (by omega) hj))
        (h3.set _ _ _) (by rw [←hlen'];exact hroom) hbz hnc q4 q5 q6 (by rw [q3];exact Nat.le_refl _)
      rw [←hlen'] at this
      exact ⟨_,_,_,pt,.inl hr,this⟩
  · -- a new row
    obtain ⟨olds,k1,k2,k3⟩:∃ olds:List Value,(∀ w1:World,w1.heap=w.heap→(Builtin.firstCells t.nc l.length (.slice ad l.length c)).run P w1 = .ok olds.toArray w1)∧olds.length=l.length*t.nc ∧
        ∀ w' G' b,Ext w G w' G'→(∀ j (h:j<olds.length),w'.cell? ⟨b,0+j,none⟩=some olds[j])→fB w' G' t l b 0:=by
      rcases split with ⟨h1,h2,h3⟩ | ⟨b,h1,hG,h3,h4,h5⟩
      · subst h1 h2 h3
        exact ⟨[],fun w1 _=>by simp [Builtin.firstCells],by simp,fun _ _ _ _ _ i hi=>by simp at hi⟩
      · subst h1
        have hcell:∀ j,j<l.length*t.nc→w.cell? ⟨b,0+j,none⟩=some (aC w b (0+j)):=by
          intro j hj
          obtain ⟨v,h1,_⟩:=h5.cells j hj
          simp only [aC]
          rw [h1];rfl
        refine ⟨(List.range (l.length*t.nc)).map (fun j=>aC w b (0+j)),fun w1 hw1=>?_,by simp,fun w' G' b' hE' hc' i hi=>(h5 i hi).move hE' fun j hj=>?_⟩
        · refine run_firstCells_some w1 t.nc l.length ⟨b,0,none⟩ l.length c _ (by simp) fun j v hj=>?_
          have hj':j<l.length*t.nc:=by
            rcases Nat.lt_or_ge j (l.length*t.nc) with h | h
            · exact h
            · rw [List.getElem?_eq_none (by simpa using h)] at hj;cases hj
          rw [Addr.add_lit]
          have h1:w1.cell? ⟨b,0+j,none⟩=w.cell? ⟨b,0+j,none⟩:=by simp [World.cell?,hw1]
          rw [h1,hcell j hj']
          simpa [hj'] using hj
        · have h2:(i+1)*t.nc≤l.length*t.nc:=Nat.mul_le_mul_right _ hi
          rw [Nat.add_mul] at h2
          have h3:=hc' (i*t.nc+j) (by simp;omega)
          rw [←Nat.add_assoc] at h3
          rw [h3,List.getElem_map,List.getElem_range,←Nat.add_assoc]
          have h4:=hcell (i*t.nc+j) (by omega)
          rw [←Nat.add_assoc] at h4
          exact h4.symm
    have hr:=run _ _ (by rw [hx];exact oW (ty:=o.type) (olds:=olds) hT hT' hd hi hz (hlen w) (by rw [hsz];exact hfc _ rfl) (by rw [hsz];exact k1 _ rfl) (by omega) hb0 hfit)
    have hcap:=grownCap_ge w (l.length+l'.length) c e
    generalize grownCap w (l.length+l'.length) c e=c' at hr hcap
    generalize hcs:olds++news++(Builtin.zeroCells z.cells (c' - (l.length+l'.length))).toList=cells at hr
    have hlen':l.length+l'.length=(l++l').length:=by simp
    have hcl:cells.length=c' * t.nc:=by
      rw [←hcs]
      simp only [List.length_append,k2,hnl,Array.length_toList,size_zeroCells,hzs,hsz,←Nat.add_mul]
      congr 1;omega
    have R1:=R0.drew (w':=w.drew) rfl rfl rfl rfl
    have hcell:∀ j (h:j<cells.length),(w.drew.alloc (.cells cells.toArray e)).cell? ⟨w.heap.size,j,none⟩=some cells[j]:=by
      intro j hj
      have:=fJ (w:=w.drew) cells.toArray e (0,0) j
      exact this.trans (by simp [hj])
    have hEG:∀ x,(if x=w.heap.size then (if f=1 then (l++l').length*t.nc else 0) else G x)=(if x=w.heap.size then (if f=1 then (l++l').length*t.nc else 0) else G x):=fun _=>rfl
    have MQ:Ext w.drew G (w.drew.alloc (.cells cells.toArray e)) (fun x=>if x=w.heap.size then (if f=1 then (l++l').length*t.nc else 0) else G x):=by
      have:=eZ (w:=w.drew) (.cells cells.toArray e) R1.gz
      refine ⟨this.cell,fun x=>?_⟩
      show G x≤if x=_ then _ else _
      by_cases h:x=w.heap.size
      · rw [h,R0.gz _ (Nat.le_refl _)];exact Nat.zero_le _
      · rw [if_neg h];exact Nat.le_refl _
    have MR:Ext w G (w.drew.alloc (.cells cells.toArray e)) (fun x=>if x=w.heap.size then (if f=1 then (l++l').length*t.nc else 0) else G x):=⟨MQ.cell,MQ.le⟩
    have Co:TC E.n C.m s0 a w.drew pt w.heap.size=0:=R1.fresh
    have:=R1.GA o ho (w':=w.drew.alloc (.cells cells.toArray e)) (L:=l++l') (b:=w.heap.size) (c:=c') hf MQ (fun x _ hxs=>alloc_old _ hxs) ⟨Co,.inl R0.hs⟩ (by simp)
      (app _ _ _ (k3 _ _ _ MR fun j hj=>by
          rw [hcell (0+j) (by rw [hcl];have:(l.length+l'.length)*t.nc≤c' * t.nc:=Nat.mul_le_mul_right _ hcap
                              rw [Nat.add_mul] at this;omega)]
          subst hcs
          simp [hj])
        (hre _ _ _ _ MR fun j hj=>by
          rw [hcell (l.length*t.nc+j) (by rw [hcl];have:(l.length+l'.length)*t.nc≤c' * t.nc:=Nat.mul_le_mul_right _ hcap
                                          rw [Nat.add_mul] at this;omega)]
          subst hcs
          congr 1
          rw [List.getElem_append_left (by simp;omega),List.getElem_append_right (by omega)]
          congr 1
          omega))
      ⟨cells.toArray,e,(0,0),gY _,by simp [hcl],fun _ _=>by simp⟩ (by omega) hbz hnc rfl rfl rfl (by simp)
    rw [←hlen'] at this
    exact ⟨_,_,_,pt,.inl hr,this⟩
theorem Kt (HP:nM P E) (R:Rel E C s a w G pt) (ho:∀ t,o.dst=some t→t<E.n) (T T':Nat) (x y:Operand) (hN:IQ E T' = true)
    (hop:o.op = .call { callee:=.builtin .append,args:=#[x,y],argTypes:=#[T,T'] })
    (h:qd E o s T x y=some (true,u)):fC P E C o a w (ak u s):=by
  have hrx:=aT R x
  obtain ⟨w9,hT',hd⟩:∃ w9,P.underlying T' = some w9∧((∃ e',w9 = .slice e')∨w9 = .string):=by
    unfold IQ at hN
    split at hN
    · rename_i i hi
      refine ⟨_,(HP.ti _ _ hi).und,?_⟩
      split at hN
      · rename_i e' he;exact .inl ⟨e',he⟩
      · rename_i he;exact .inr he
      · cases hN
    · cases hN
  simp only [qd] at h
  split at h
  · rename_i i hi
    have hu:=(HP.ti _ _ hi).und
    split at h
    · rename_i e hde
      rw [hde] at hu
      split at h
      · rename_i ei uS
        obtain ⟨pi,z,p1,p2,p3,p4,p5,p6,p7,p8⟩:=(HP.ti _ _ uS).info
        cases hb:(Nat.beq ei.size ei.ty.nc&&Nat.beq ei.bytes ei.ty.mE&&Nat.blt 0 ei.size&&Nat.blt 0 ei.bytes) with
        | false=>simp only [hb,cond_false,reduceCtorEq] at h
        | true=>
          simp only [hb,cond_true] at h
          simp only [Bool.and_eq_true] at hb
          obtain ⟨⟨⟨hb1,hb2⟩,hb3⟩,hb4⟩:=hb
          have hb1:=Nat.eq_of_beq_eq_true hb1
          have hb2:=Nat.eq_of_beq_eq_true hb2
          have hb3:0<ei.size:=by simpa [Nat.blt_eq] using hb3
          have hb4:0<ei.bytes:=by simpa [Nat.blt_eq] using hb4
          split at h
          · rename_i hx
            rw [hx] at hrx
            have hv:a.eval x = .slice none 0 0:=hrx
            split at h
            · rename_i l' ht
              simp only [Option.some.injEq,Prod.mk.injEq] at h
              obtain ⟨hfit,rfl⟩:=h
              have hfit:=Nat.le_of_ble_eq_true hfit
              obtain ⟨k1,k2,k3⟩:=sN (P:=P) R y ht
              obtain ⟨news,n1,n2,n3,n4⟩:=k3 _ (Nat.le_refl _)
              rw [List.take_length] at n4
              have:=oZ (P:=P) R ho hop hu hT' hd p1 p4 (by omega) (t:=ei.ty) (by omega) (by omega) (by omega) (by omega) (f:=2) (.inr rfl) (l:=[]) (l':=l') hv rfl (.inl ⟨rfl,rfl,rfl⟩) (fun b h=>by cases h)
                k1 n1 n2 n3 n4 (by rw [p3];simpa using hfit)
              exact this
            · cases h
          · rename_i f t l hx
            cases hf0:Nat.beq f 0 with
            | true=>simp [hf0] at h
            | false=>
              simp only [hf0,cond_false] at h
              split at h
              · rename_i l' tx ht
                cases hbt:t.beq ei.ty with
                | false=>simp [hbt] at h
                | true=>
                  simp only [hbt,cond_true,Option.some.injEq,Prod.mk.injEq] at h
                  obtain ⟨hfit,rfl⟩:=h
                  have hfit:=Nat.le_of_ble_eq_true hfit
                  have hte:=Ty.eq_of_beq hbt
                  subst hte
                  obtain ⟨k1,k2,k3⟩:=sN (P:=P) R y ht
                  obtain ⟨news,n1,n2,n3,n4⟩:=k3 _ (Nat.le_refl _)
                  rw [List.take_length] at n4
                  have hx':get s (2*tx) = .sl f ei.ty l:=hx
                  rw [hx] at hrx
                  obtain ⟨ad,n,c,hv,hn,hbd,hsl⟩:=hrx
                  have hf:f=1∨f=2:=by
                    match f,hf0,hsl with
                    | 1,_,_=>exact .inl rfl
                    | 2,_,_=>exact .inr rfl
                    | (k+3),_,h=>exact h.elim
                  have hxn:tx<E.n:=nK R (t:=tx) (by rw [hx'];simp [dJ,wC,hf0])
                  obtain ⟨R0,t0⟩:=R.Gu tx hxn (d:=.undef) trivial (fun b=>dG b _)
                  have:=oZ (P:=P) R0 ho hop hu hT' hd p1 p4 (by omega) (t:=ei.ty) (by omega) (by omega) (by omega) (by omega) hf hv hn hsl (fun b hab=>by
                    have hc:cT s a b tx=1:=by
                      subst hab
                      have e:a.tmps.getD tx Go.undef = .slice (some ⟨b,0,none⟩) n c:=hv
                      simp only [cT,hx',e]
                      show (if f≠0∧b=b then 1 else 0)=1
                      rw [if_pos ⟨by omega,rfl⟩]
                    have h1:=t0 b
                    have h2:=R.ct b
                    have h3:=R.cb b (by omega)
                    exact ⟨by omega,h3.2,h3.1⟩) k1 n1 n2 n3 n4 (by rw [p3];exact hfit)
                  exact this
              · cases h
          · rename_i id st hx
            split at h
            · rename_i st' t l hbx
              split at h
              · rename_i l' ht
                cases hbt:(Nat.beq st st' && t.beq ei.ty) with
                | false=>simp [hbt] at h
                | true=>
                  simp only [hbt,cond_true,Option.some.injEq,Prod.mk.injEq] at h
                  obtain ⟨hfit,rfl⟩:=h
                  have hfit:=Nat.le_of_ble_eq_true hfit
                  simp only [Bool.and_eq_true] at hbt
                  have hst:=Nat.eq_of_beq_eq_true hbt.1
                  subst hst
                  have hte:=Ty.eq_of_beq hbt.2
                  subst hte
                  obtain ⟨k1,k2,k3⟩:=sN (P:=P) R y ht
                  obtain ⟨news,n1,n2,n3,n4⟩:=k3 _ (Nat.le_refl _)
                  rw [List.take_length] at n4
                  have hB:=R.bx id
                  rw [hbx] at hB
                  have hB:=hB rfl
                  simp only [Bool.false_eq_true,if_false] at hB
                  obtain ⟨ad,n,c,h1,hn,hbd,hsl⟩:=hB
                  rw [hx] at hrx
                  have hrx:pt id st=some (a.eval x):=hrx
                  have hv:a.eval x = .slice ad n c:=by rw [hrx] at h1;exact Option.some.inj h1
                  obtain ⟨R0,t0⟩:=R.IZ hbx
                  have:=oZ (P:=P) R0 ho hop hu hT' hd p1 p4 (by omega) (t:=ei.ty) (by omega) (by omega) (by omega) (by omega) (.inr rfl) hv hn hsl (fun b hab=>by
                    have hc:bR b (pt id st)=1:=by
                      subst hab
                      rw [h1];simp [bR,bA]
                    have h1:=t0 b
                    have h2:=R.ct b
                    have h3:=R.cb b (by omega)
                    exact ⟨by omega,h3.2,h3.1⟩) k1 n1 n2 n3 n4 (by rw [p3];exact hfit)
                  exact this
              · cases h
            · cases h
          · rename_i t l hx
            split at h
            · rename_i l' ht
              cases hbt:t.beq ei.ty with
              | false=>simp [hbt] at h
              | true=>
                simp only [hbt,cond_true,Option.some.injEq,Prod.mk.injEq,Bool.and_eq_true] at h
                obtain ⟨⟨hpos,hfit⟩,rfl⟩:=h
                have hpos:0<l'.length:=by simpa [Nat.blt_eq] using hpos
                have hfit:=Nat.le_of_ble_eq_true hfit
                have hte:=Ty.eq_of_beq hbt
                subst hte
                obtain ⟨k1,k2,k3⟩:=sN (P:=P) R y ht
                obtain ⟨news,n1,n2,n3,n4⟩:=k3 _ (Nat.le_refl _)
                rw [List.take_length] at n4
                rw [hx] at hrx
                obtain ⟨ad,n,hv,hn,hbd,hsl⟩:=hrx
                subst hn
                obtain ⟨olds,q1,q2,q3⟩:=Kr (P:=P) hsl
                exact GD (P:=P) R ho hop hu hT' hd p1 p4 (by omega) (t:=ei.ty) (by omega) (by omega) (by omega) (by omega) (.inr rfl) hv (by omega) q1 q2 q3 k1 n1 n2 n3 n4 (by rw [p3];exact hfit)
            · cases h
          · cases h
      · cases h
    · cases h
  · cases h
theorem Ey {T T' ty e:TypeId} {i:TypeInfo} {ad:Option Addr} {n c m:Nat} {vy:Value} {news:List Value} {w':World} (hT:P.underlying T=some (.slice e)) (hi:P.info? e=some i)
    (hl:(Builtin.lenOf vy).run P w = .ok m w) (hf:(Builtin.firstCells i.size (Nat.min m n) vy).run P w = .ok news.toArray w)
    (hst:∀ b,ad=some b→(storeCells b news).run P w = .ok () w') (hno:ad=none→w' = w) :
    (Builtin.copy_ #[T,T'] ty #[.slice ad n c,vy]).run P w = .ok (goInt (Nat.min m n)) w':=by
  cases ad with
  | none=>
    rw [hno rfl]
    simp [Builtin.copy_,run_underlying hT,sizeOf,typeInfo,hi,hl,hf]
  | some b=>
    simp [Builtin.copy_,run_underlying hT,sizeOf,typeInfo,hi,hl,hf,hst b rfl]
theorem Ri (HP:nM P E) (R:Rel E C s a w G pt) (ho:∀ t,o.dst=some t→t<E.n) (T T':Nat) (x y:Operand)
    (hop:o.op = .call { callee:=.builtin .copy,args:=#[x,y],argTypes:=#[T,T'] })
    (h:AP E o s T x y=some (true,u)):fC P E C o a w (ak u s):=by
  have hrx:=aT R x
  simp only [AP] at h
  split at h
  · rename_i i hi
    have hu:=(HP.ti _ _ hi).und
    split at h
    · rename_i e hde
      rw [hde] at hu
      split at h
      · rename_i ei uS
        obtain ⟨pi,z,p1,p2,p3,p4,p5,p6,p7,p8⟩:=(HP.ti _ _ uS).info
        split at h
        · rename_i id st hx
          split at h
          · rename_i st' t l hbx
            split at h
            · rename_i l' ht
              cases hb:(Nat.beq st st' && Nat.beq ei.size t.nc&&Nat.blt 0 t.mE) with
              | false=>simp only [hb,cond_false,reduceCtorEq] at h
              | true=>
                simp only [hb,cond_true,Option.some.injEq,Prod.mk.injEq,true_and] at h
                subst h
                simp only [Bool.and_eq_true] at hb
                obtain ⟨⟨hb1,hb2⟩,hb3⟩:=hb
                have hst:=Nat.eq_of_beq_eq_true hb1
                subst hst
                have hb2:=Nat.eq_of_beq_eq_true hb2
                have hb3:0<t.mE:=by simpa [Nat.blt_eq] using hb3
                obtain ⟨k1,k2,k3⟩:=sN (P:=P) R y ht
                obtain ⟨news,n1,n2,n3,n4⟩:=k3 (Nat.min l'.length l.length) (Nat.min_le_left _ _)
                have hB:=R.bx id
                rw [hbx] at hB
                have hB:=hB rfl
                simp only [Bool.false_eq_true,if_false] at hB
                obtain ⟨ad,n,c,h1,hn,hbd,hsl⟩:=hB
                rw [hx] at hrx
                have hrx:pt id st=some (a.eval x):=hrx
                have hv:a.eval x = .slice ad n c:=by rw [hrx] at h1;exact Option.some.inj h1
                have hmin:Nat.min l'.length l.length=min l'.length l.length:=rfl
                have hnb:n≤iQ:=by
                  have:n≤n*t.mE:=Nat.le_mul_of_pos_right _ hb3
                  unfold big at hbd;unfold iQ;omega
                have fin:∀ w',(Builtin.copy_ #[T,T'] o.type #[a.eval x,a.eval y]).run P w = .ok (goInt (Nat.min l'.length l.length)) w'→Rel E C ((2*id+1,.aU st true false t (l'.take l.length++l.drop l'.length))::s) a w' G pt →
                    fC P E C o a w (ak ((2*id+1,.aU st true false t (l'.take l.length++l.drop l'.length))::bB o (.int .i64 (min l'.length l.length:Nat))) s):=by
                  intro w' hr hR
                  have hr2:(execOp a.eval o).run P w = .ok (.value (goInt (Nat.min l'.length l.length))) w':=by
                    simp [execOp,hop,resolve,invoke,builtin,hr]
                  refine ⟨_,w',G,pt,.inl hr2,hR.wV o ho ⟨rfl,IW _ ?_⟩ (fun _=>rfl)⟩
                  have:=Nat.min_le_right l'.length l.length
                  omega
                have heq:(l'.take l.length++l.drop l'.length).length=l.length:=by simp;omega
                have htk:l'.take (Nat.min l'.length l.length)=l'.take l.length:=by
                  rw [hmin]
                  rcases Nat.le_total l'.length l.length with h | h
                  · rw [Nat.min_eq_left h,List.take_of_length_le h,List.take_length]
                  · rw [Nat.min_eq_right h]
                rw [htk] at n4
                subst hn
                rcases hsl with ⟨h5,h6,h7⟩ | ⟨b,h5,h6,h7,h8,h9,h10⟩
                · subst h5 h6
                  have hr:=Ey (P:=P) (T':=T') (ty:=o.type) (ad:=none) (c:=c) (vy:=a.eval y) (w':=w) hu p1 (k1 w) (by rw [p2,hb2];exact n1 w rfl) (fun b h=>by cases h) (fun _=>rfl)
                  refine fin w (by rw [hv];exact hr) ?_
                  have:Rel E C s a w G pt:=R
                  refine this.congr fun k=>?_
                  rw [aF]
                  split
                  · rename_i hk;rw [hk,hbx];simp
                  · rfl
                · subst h5
                  have hcc:l.length*t.nc≤c*t.nc:=Nat.mul_le_mul_right _ h8
                  have hkk:Nat.min l'.length l.length*t.nc≤l.length*t.nc:=Nat.mul_le_mul_right _ (Nat.min_le_right _ _)
                  have hst:=run_storeCells_cells (P:=P) b 0 news 0 w (fun j hj=>by simpa using (h7.some (j:=j) (by omega)).1) (fun j hj=>by simpa using (h7.some (j:=j) (by omega)).2) n3
                  simp only [Nat.add_zero] at hst
                  have hr:=Ey (P:=P) (T':=T') (ty:=o.type) (ad:=some ⟨b,0,none⟩) (c:=c) (vy:=a.eval y) (w':=w.setCells b 0 news) hu p1 (k1 w) (by rw [p2,hb2];exact n1 w rfl) (fun b' h=>by cases h;exact hst) (fun h=>by cases h)
                  have hblk:bA (pt id st)=some b:=by rw [h1];rfl
                  have hE:Ext w G (w.setCells b 0 news) G:=⟨fun b' j hj=>jw b _ _ (fun h=>by subst h;omega),fun _=>Nat.le_refl _⟩
                  refine fin _ (by rw [hv];exact hr) (R.sM hbx hblk heq ?_)
                  have hre:=n4 (w.setCells b 0 news) G b 0 hE (fun j hj=>vv h7 news (by omega) hj)
                  intro i hi
                  by_cases h:i<(l'.take l.length).length
                  · rw [List.getElem_append_left h];exact hre i h
                  · rw [List.getElem_append_right (by omega)]
                    have hil:i<l.length:=by rw [heq] at hi;exact hi
                    have h':l'.length≤i:=by simp at h;omega
                    have e:(l.drop l'.length)[i - (l'.take l.length).length]'(by simp;simp at h;omega)=l[i]:=by
                      simp only [List.getElem_drop]
                      congr 1
                      simp;omega
                    rw [e]
                    refine (h9 i hil).mono hE fun j hj1 hj2=>jw b _ _ (fun _=>.inr ?_)
                    rw [n2]
                    have:Nat.min l'.length l.length*t.nc≤i*t.nc:=Nat.mul_le_mul_right _ (Nat.le_trans (Nat.min_le_left _ _) h')
                    omega
            · cases h
          · cases h
        · cases h
      · cases h
    · cases h
  · cases h
theorem Ku (HP:nM P E) (R:Rel E C s a w G pt) (ho:∀ t,o.dst=some t→t<E.n) (T:Nat) (x:Operand) (lo hi:Option Operand) (hop:o.op = .slice T x lo hi none)
    (h:qc E o s T x lo hi=some (true,u)):fC P E C o a w (ak u s):=by
  have hx:=aT R x
  simp only [qc] at h
  split at h
  · rename_i ti id st hti h1
    have hu:=(HP.ti _ _ hti).und
    split at h
    · rename_i e st' t l hd hbx
      rw [hd] at hu
      split at h
      · rename_i ei q uS hh
        obtain ⟨pi,z,p1,p2,_⟩:=(HP.ti _ _ uS).info
        cases hbb:(Nat.beq st st' && Nat.beq ei.size t.nc) with
        | false=>simp [hbb] at h
        | true=>
          simp only [hbb,cond_true] at h
          cases hw7:Nat.beq (tag E o) 7 with
          | true=>
            simp only [hw7,cond_true] at h
            cases hbz:Nat.blt 0 t.mE with
            | false=>simp [hbz] at h
            | true=>
            simp only [hbz,cond_true,Option.some.injEq,Prod.mk.injEq,Bool.and_eq_true,decide_eq_true_eq] at h
            obtain ⟨⟨h0,h2⟩,rfl⟩:=h
            simp only [Bool.and_eq_true] at hbb
            have hst:=Nat.eq_of_beq_eq_true hbb.1
            subst hst
            rw [h1] at hx
            have hB:=R.bx id
            rw [hbx] at hB
            have hB:=hB rfl
            simp only [Bool.false_eq_true,if_false] at hB
            obtain ⟨ad,m,c,q1,q2,q3,q4⟩:=hB
            have hv:pt id st=some (a.eval x):=hx
            rw [hv] at q1
            injection q1 with q1
            have hsl:l.length≤c:=by
              rcases q4 with ⟨_,q5,_⟩ | ⟨b,_,_,_,q5,_⟩
              · subst q5;simp
              · exact q5
            have ead:(if c=(0:Int).toNat then ad else ad.map (·.add ((0:Int).toNat*pi.size)))=ad:=by
              rcases q4 with ⟨q5,_,_⟩ | ⟨b,q5,_⟩
              · subst q5;simp
              · subst q5
                simp [Addr.add_mid]
            have hsb:=iZ (P:=P) R true (lo:=none) (p:=0) rfl hh (Int.le_refl _) h0 h2 hsl
            have hrun:(execOp a.eval o).run P w = .ok (.value (.slice ad q.toNat c)) w:=by
              rw [q2] at q1
              have:=hsb
              simp only [Option.map_none] at this
              simp [execOp,hop,Instr.sliceAt,run_underlying hu,Instr.slice,q1,this,sizeOf,typeInfo,p1]
              simpa using ead
            have hbz:0<t.mE:=by simpa [Nat.blt_eq] using hbz
            have hm:m≤iQ:=by
              have:m≤m*t.mE:=Nat.le_mul_of_pos_right _ hbz
              unfold big at q3;unfold iQ;omega
            refine pure_ok R ho hrun ⟨?_,by omega⟩ (fun _=>rfl)
            rcases q4 with ⟨q5,q6,q7⟩ | ⟨b,q5,_⟩
            · refine .inr ⟨?_,?_⟩
              · subst q6;simp at h2;omega
              · subst q5;subst q7
                have:q.toNat=0:=by subst q6;simp at h2;omega
                rw [this]
            · refine .inl ⟨b,c,?_,?_⟩
              · rw [hv,q1];subst q5;rfl
              · subst q5;rfl
          | false=>
          simp only [hw7,cond_false,Option.some.injEq,Prod.mk.injEq,Bool.and_eq_true,decide_eq_true_eq] at h
          obtain ⟨⟨h0,h2⟩,rfl⟩:=h
          simp only [Bool.and_eq_true] at hbb
          have hst:=Nat.eq_of_beq_eq_true hbb.1
          subst hst
          rw [h1] at hx
          have hB:=R.bx id
          rw [hbx] at hB
          have hB:=hB rfl
          simp only [Bool.false_eq_true,if_false] at hB
          obtain ⟨ad,m,c,q1,q2,q3,q4⟩:=hB
          have hv:pt id st=some (a.eval x):=hx
          rw [hv] at q1
          injection q1 with q1
          have hsl:l.length≤c:=by
            rcases q4 with ⟨_,q5,_⟩ | ⟨b,_,_,_,q5,_⟩
            · subst q5;simp
            · exact q5
          have ead:(if c=(0:Int).toNat then ad else ad.map (·.add ((0:Int).toNat*pi.size)))=ad:=by
            rcases q4 with ⟨q5,_,_⟩ | ⟨b,q5,_⟩
            · subst q5;simp
            · subst q5
              simp [Addr.add_mid]
          have hsb:=iZ (P:=P) R true (lo:=none) (p:=0) rfl hh (Int.le_refl _) h0 h2 hsl
          have hrun:(execOp a.eval o).run P w = .ok (.value (.slice ad q.toNat c)) w:=by
            rw [q2] at q1
            have:=hsb
            simp only [Option.map_none] at this
            simp [execOp,hop,Instr.sliceAt,run_underlying hu,Instr.slice,q1,this,sizeOf,typeInfo,p1]
            simpa using ead
          obtain ⟨R1,tc⟩:=R.IZ hbx
          have hcnt:∀ b,cO b (.sl 2 t (l.take q.toNat)) (.slice ad q.toNat c)≤bR b (pt id st):=by
            intro b
            rw [hv,q1]
            rcases q4 with ⟨q5,_,_⟩ | ⟨b',q5,_⟩
            · subst q5
              show dw b (.sl 2 t (l.take q.toNat)) (.slice none q.toNat c)≤_
              simp [dw]
            · subst q5
              show dw b (.sl 2 t (l.take q.toNat)) (.slice (some ⟨b',0,none⟩) q.toNat c)≤_
              simp only [dw,bR,bA]
              by_cases hb':b' = b
              · subst hb';simp
              · simp [hb']
          refine ⟨_,w,G,pt,.inl hrun,?_⟩
          refine R1.put o ho (fun _=>False) (Ext.refl _ _) (fun _ _ _=>⟨rfl,rfl⟩) (fun b h=>h.elim) (d':=.sl 2 t (l.take q.toNat)) ⟨ad,q.toNat,c,rfl,by simp;omega,Nat.le_trans (Nat.mul_le_mul_right _ (by omega)) q3,?_⟩ (fun b=>?_) R1.gz rfl rfl rfl (Nat.le_refl _)
          · rcases q4 with ⟨g1,g2,g3⟩ | ⟨b,g0,g1,g2,g3,g4,g5⟩
            · exact .inl ⟨g1,by rw [g2];simp,g3⟩
            · refine .inr ⟨b,g0,g1,g2,by simp;omega,fun i hi=>?_,g5⟩
              have hi':i<l.length:=by simp at hi;omega
              have:=g4 i hi'
              simpa using this
          · have k1:=tc b
            have k2:=R.ct b
            have k3:=R.cb b
            have k4:=hcnt b
            exact ⟨by omega,fun hp=>⟨by omega,(k3 (by omega)).1,(k3 (by omega)).2⟩⟩
      · cases h
    · cases h
  · cases h
end
end Go.aW
namespace Go.aW
section
variable {P:Program} {E:Env} {C:Ctx} {s:St} {a:Act} {w:World} {G:Nat→Nat} {pt:Nat→Nat→Option Value} {o:Oper} {u:St}
theorem Wu {t:Ty} {l:List t.den} {v:Value} (h:bI w G pt (.sl 2 t l) v) (b:Nat):dw b (.sl 2 t l) v=bR b (some v):=by
  obtain ⟨ad,n,c,hv,_,_,hs⟩:=h
  subst hv
  rcases hs with ⟨h5,_⟩ | ⟨b',h5,_⟩<;>subst h5<;>simp [bR,bA,dw]
theorem lS (X st:Nat) (v:Value):aS pt X st v X st=some v:=by simp [aS]
theorem wH (R:Rel E C s a w G pt) (X:Nat) (v:Value):∀ i j u,pt i j=some u→aS pt X (aI (get s (2*X+1))+1) v i j=some u:=by
  intro i j u h
  unfold aS
  rw [if_neg]
  · exact h
  · rintro ⟨rfl,rfl⟩
    rw [R.pf i _ (Nat.lt_succ_self _)] at h;cases h
theorem A9 (R:Rel E C s a w G pt) (X:Nat) (v:Value) {st:Nat} (h:aI (get s (2*X+1))+1<st):aS pt X (aI (get s (2*X+1))+1) v X st=none:=by
  unfold aS
  rw [if_neg (by omega)]
  exact R.pf X st (by omega)
theorem Rel.abt (R:Rel E C s a w G pt) {u X:Nat} (hX:X<C.m) {t:Ty} {l:List t.den} {cs vs:List D} (hs:get s (2*u) = .gB (.agg (.sl 2 t l::cs)::vs)) :
    ∃ bJ,Rel E C ((2*u,.gB (.agg (.fM X (aI (get s (2*X+1))+1)::cs)::vs))::(2*X+1,.aU (aI (get s (2*X+1))+1) true false t l)::s) a w G bJ:=by
  have hu:u<E.n:=by
    rcases Nat.lt_or_ge u E.n with h | h
    · exact h
    · rw [R.ht u h] at hs;cases hs
  have hr:=R.tm u
  rw [hs] at hr
  obtain ⟨arr,hv,hsz,hel⟩:=hr
  have h0:=hel 0 (by simp)
  simp only [List.getElem_cons_zero] at h0
  obtain ⟨Ez,hv0,hsz0,abu⟩:=h0
  have hl0:=abu 0 (by simp)
  simp only [List.getElem_cons_zero] at hl0
  have hmono:=wH R X (aO Ez 0)
  refine ⟨aS pt X (aI (get s (2*X+1))+1) (aO Ez 0),?_⟩
  refine R.step (fun i=>i=u) (fun i=>i=X) (fun _=>False) rfl R.df (fun i hi=>?_) (fun id hid=>?_) (Ext.refl _ _) hmono (fun _ _ _=>⟨rfl,rfl⟩) (fun b h=>h.elim) (fun b h=>h.elim) (fun b h=>h.elim)
    (fun i hi=>?_) (fun id hid=>?_) (fun c1 c2 b=>?_) R.gz rfl rfl rfl (Nat.le_refl _)
  · simp only [bV,get_bt,hi,if_false];exact ⟨trivial,trivial⟩
  · simp only [gD,bG,hid,if_false];exact ⟨trivial,funext fun j=>by simp [aS,hid]⟩
  · subst hi
    refine ⟨hu,?_⟩
    simp only [bV,if_true]
    refine ⟨arr,hv,by simpa using hsz,fun j hj=>?_⟩
    cases j with
    | zero=>
      simp only [List.getElem_cons_zero]
      refine ⟨Ez,hv0,by simpa using hsz0,fun k hk=>?_⟩
      cases k with
      | zero=>
        simp only [List.getElem_cons_zero]
        exact ⟨lS _ _ _,hl0.2⟩
      | succ k=>
        simp only [List.getElem_cons_succ]
        have:=abu (k+1) (by simpa using hk)
        simp only [List.getElem_cons_succ] at this
        exact ⟨this.1.mono (Ext.refl _ _) hmono fun _ _=>⟨rfl,rfl⟩,this.2⟩
    | succ j=>
      simp only [List.getElem_cons_succ]
      have:=hel (j+1) (by simpa using hj)
      simp only [List.getElem_cons_succ] at this
      exact this.mono (Ext.refl _ _) hmono fun _ _=>⟨rfl,rfl⟩
  · subst hid
    simp only [gD,bG,if_true]
    refine ⟨hX,fun _=>?_,fun st hst=>A9 R id _ hst⟩
    simp only [Bool.false_eq_true,if_false]
    obtain ⟨ad,n,c,h1,h2⟩:=hl0.1
    exact ⟨ad,n,c,by simp [aS,h1],h2⟩
  · have e1:=bM (n:=E.n) hu (fun i hi=>c1 i hi b)
    have e2:=bM (n:=C.m) (x:=X) hX (fun i hi=>c2 i hi b)
    have e3:cT ((2*u,.gB (.agg (.fM X (aI (get s (2*X+1))+1)::cs)::vs))::(2*X+1,.aU (aI (get s (2*X+1))+1) true false t l)::s) a b u+dw b (.sl 2 t l) (aO Ez 0)=cT s a b u:=by
      simp only [cT,bV,if_true,hs,hv,cO,mg,hv0,D9,aK]
      have:dw b (.fM X (aI (get s (2*X+1))+1)) (aO Ez 0)=0:=by cases aO Ez 0<;>rfl
      omega
    have e4:cB ((2*u,.gB (.agg (.fM X (aI (get s (2*X+1))+1)::cs)::vs))::(2*X+1,.aU (aI (get s (2*X+1))+1) true false t l)::s) w (aS pt X (aI (get s (2*X+1))+1) (aO Ez 0)) b X=dw b (.sl 2 t l) (aO Ez 0):=by
      simp only [cB,gD,bG,if_true,fI]
      rw [Wu (pt:=pt) hl0.1,lS]
    have h1:=R.ct b
    have h2:=R.cb b
    unfold TC at *
    exact ⟨by omega,fun h=>h2 (by omega)⟩
theorem MS (hm:E.n≤C.m) (R:Rel E C s a w G pt) (ho:∀ t,o.dst=some t→t<E.n) (x:Operand) (hop:o.op = .move x)
    (h:uU E o s x=some (true,u)):fC P E C o a w (ak u s):=by
  unfold uU at h
  split at h
  · rename_i dst hdst
    split at h
    · rename_i f t l cs vs hx
      cases hc:(Nat.beq f 2&&Nat.blt 0 t.nc) with
      | false=>rw [hc] at h;cases h
      | true=>
        rw [hc] at h
        simp only [cond_true,Option.some.injEq,Prod.mk.injEq,true_and] at h
        subst h
        simp only [Bool.and_eq_true] at hc
        have hf:=Nat.eq_of_beq_eq_true hc.1
        subst hf
        have h0:uT E o s x=some (true,bZ s x strip dJ++bB o (aV s x)):=by
          unfold uT
          rw [hx]
          simp only [dK,Bool.or_true,cond_true]
        have key:=Ec (P:=P) R ho x hop h0
        obtain ⟨v,w',G',bJ,hr,R'⟩:=key
        have e1:get (ak (bZ s x strip dJ++bB o (aV s x)) s) (2*dst) = .gB (.agg (.sl 2 t l::cs)::vs):=by
          rw [aP]
          simp only [bB,hdst,ak,hx]
          rw [aF,if_pos rfl]
        have e2:get (ak (bZ s x strip dJ++bB o (aV s x)) s) (2*dst+1)=get s (2*dst+1):=by
          rw [aP]
          simp only [bB,hdst,ak]
          rw [aF,if_neg (by omega)]
          exact jW x strip dJ dst
        obtain ⟨jy,R2⟩:=R'.abt (u:=dst) (X:=dst) (Nat.lt_of_lt_of_le (ho dst hdst) hm) e1
        rw [e2] at R2
        refine ⟨v,w',G',jy,hr,?_⟩
        rw [aP]
        exact R2
    · cases h
  · cases h
end
end Go.aW
namespace Go.aW
section
variable {P:Program} {E:Env} {C:Ctx} {s:St} {a:Act} {w:World} {G:Nat→Nat} {pt:Nat→Nat→Option Value} {o:Oper} {u:St}
theorem Rel.flatten (R:Rel E C s a w G pt) {id st:Nat} {l:List (Int×(List Int×Unit))} (hb:get s (2*id+1) = .iC st l) :
    Rel E C ((2*id+1,.aU st true false mq l)::s) a w G pt ∧
    ∀ b,TC E.n C.m ((2*id+1,.aU st true false mq l)::s) a w pt b+aK b (inn l) (inf w pt id st)=TC E.n C.m s a w pt b:=by
  have hid:id<C.m:=by
    rcases Nat.lt_or_ge id C.m with h | h
    · exact h
    · rw [R.hb id h] at hb;cases hb
  have hB:=R.bx id
  rw [hb] at hB
  have tc:∀ b,TC E.n C.m ((2*id+1,.aU st true false mq l)::s) a w pt b+aK b (inn l) (inf w pt id st)=TC E.n C.m s a w pt b:=by
    intro b
    have e1:=aM (n:=E.n) (f:=cT s a b) (g:=cT ((2*id+1,.aU st true false mq l)::s) a b) (fun i _=>by simp only [cT,get_bt])
    have e2:=bM (n:=C.m) (f:=cB s w pt b) (g:=cB ((2*id+1,.aU st true false mq l)::s) w pt b) hid (fun i hi=>by simp only [cB,bG,hi,if_false])
    have e3:cB ((2*id+1,.aU st true false mq l)::s) w pt b id=bR b (pt id st):=by simp only [cB,bG,if_true,fI]
    have e4:cB s w pt b id=bR b (pt id st)+aK b (inn l) (inf w pt id st):=by simp only [cB,hb,fI]
    unfold TC
    omega
  refine ⟨?_,tc⟩
  refine R.step (fun _=>False) (fun i=>i=id) (fun _=>False) rfl R.df (fun i _=>?_) (fun i hi=>?_) (Ext.refl _ _) (fun _ _ _ h=>h) (fun _ _ _=>⟨rfl,rfl⟩) (fun b h=>h.elim) (fun b h=>h.elim) (fun b h=>h.elim)
    (fun i hi=>hi.elim) (fun i hi=>?_) (fun c1 c2 b=>?_) R.gz rfl rfl rfl (Nat.le_refl _)
  · simp only [get_bt];exact ⟨trivial,trivial⟩
  · simp only [bG,hi,if_false];exact ⟨trivial,trivial⟩
  · subst hi
    simp only [bG,if_true]
    refine ⟨hid,fun _=>?_,fun st' h=>?_⟩
    · simp only [Bool.false_eq_true,if_false]
      exact hB.1
    · refine R.pf i st' ?_
      rw [hb]
      exact h
  · have h1:=tc b
    have h2:=R.ct b
    have h3:=R.cb b
    exact ⟨by omega,fun h=>h3 (by omega)⟩
theorem Rj {b f:Nat} {t:Ty} {l:List t.den} (v:Value):cO b (.sl f t l) v=dw b (.sl f t l) v:=by cases v<;>rfl
theorem MU (HP:nM P E) (R:Rel E C s a w G pt) (ho:∀ t,o.dst=some t→t<E.n) (T:Nat) (x:Operand) (hop:o.op = .load T x)
    (h:uW E o s T x=some (true,u)):fC P E C o a w (ak u s):=by
  have hx:=aT R x
  unfold uW at h
  split at h
  · rename_i i dst hi hdst
    have hdt:dst<E.n:=ho dst hdst
    split at h
    · rename_i id st i0 off es h1
      split at h
      · rename_i st' l hbx
        cases hc:(Nat.beq st st' && Nat.beq off 1&&Nat.beq es 2&&Nat.beq i.size 1 && !i.agg) with
        | false=>rw [hc] at h;cases h
        | true=>
          rw [hc] at h
          simp only [cond_true,Option.some.injEq,Prod.mk.injEq,Nat.blt_eq] at h
          obtain ⟨hlt,rfl⟩:=h
          simp only [Bool.and_eq_true,Bool.not_eq_true'] at hc
          obtain ⟨⟨⟨⟨q1,q2⟩,q3⟩,q4⟩,q5⟩:=hc
          have q1:=Nat.eq_of_beq_eq_true q1
          have q2:=Nat.eq_of_beq_eq_true q2
          have q3:=Nat.eq_of_beq_eq_true q3
          have q4:=Nat.eq_of_beq_eq_true q4
          subst q1 q2 q3
          rw [h1] at hx
          obtain ⟨blk,hblk,hv⟩:=hx
          have hB:=R.bx id
          rw [hbx] at hB
          obtain ⟨⟨ad,n,c,g1,g2,g3,g4⟩,g5⟩:=hB
          have hroom:Room w blk (l.length*2):=by
            rcases g4 with ⟨k1,k2,k3⟩ | ⟨b,k1,k2,k3,k4,k5⟩
            · subst k2;simp at hlt
            · subst k1
              have:b=blk:=by rw [g1] at hblk;simpa [bA] using hblk
              subst this
              obtain ⟨cur,e,fr,m1,m2,m3⟩:=k3
              exact ⟨cur,e,fr,m1,Nat.le_trans (Nat.mul_le_mul_right _ k4) m2,m3⟩
          have hcell:w.cell? ⟨blk,i0*2+1,none⟩=some (aC w blk (i0*2+1)):=kF hroom (by omega)
          have hrun:=jV (P:=P) (HP.ti _ _ hi) (w:=w) (b:=blk) (off:=i0*2+1) (f:=fun _=>aC w blk (i0*2+1)) (fun j hj=>by
            have:j=0:=by omega
            subst this
            exact hcell) (x:=x) (o:=o) (a:=a) hop hv
          have hj:i0<(inn l).length:=by simpa [inn] using hlt
          have MV:(inn l)[i0] = .sl 1 (.int .i64) (l.getD i0 (0,([],()))).2.1:=by simp [inn,hlt]
          have EA:inf w pt id st i0=aC w blk (i0*2+1):=by simp only [inf,hblk,Option.getD_some]
          have hrep:bI w G pt (.sl 1 (.int .i64) (l.getD i0 (0,([],()))).2.1) (aC w blk (i0*2+1)):=by
            have:=(g5 i0 hj).1
            rw [MV,EA] at this
            exact this
          obtain ⟨R1,t1⟩:=R.flatten hbx
          have hct:∀ b,dw b (.sl 1 (.int .i64) (l.getD i0 (0,([],()))).2.1) (aC w blk (i0*2+1))≤aK b (inn l) (inf w pt id st):=by
            intro b
            have:=iE (b:=b) (f:=inf w pt id st) i0 hj
            rw [MV,EA] at this
            exact this
          have e:D6 i.agg i.size (fun _=>aC w blk (i0*2+1))=aC w blk (i0*2+1):=by rw [q5];rfl
          rw [e] at hrun
          refine ⟨_,w,G,pt,.inl hrun,?_⟩
          have key:=R1.put o ho (d':=.sl 1 (.int .i64) (l.getD i0 (0,([],()))).2.1) (v':=aC w blk (i0*2+1)) (fun _=>False) (Ext.refl _ _) (fun _ _ _=>⟨rfl,rfl⟩) (fun _ h=>h.elim) hrep (fun b=>?_) R1.gz rfl rfl rfl (Nat.le_refl _)
          · simp only [bB,hdst] at key
            rw [hdst]
            exact key
          · rw [Rj]
            have k1:=t1 b
            have k2:=R.ct b
            have k3:=R.cb b
            have k4:=hct b
            exact ⟨by omega,fun h=>⟨by omega,(k3 (by omega)).1,(k3 (by omega)).2⟩⟩
      · cases h
    · cases h
  · cases h
end
end Go.aW
namespace Go.aW
def dP (E:Env) (o:Oper):Bool:=
  match o.dst with
  | some t=>Nat.blt t E.n
  | none=>true
def Cq:Op→Bool
  | .store _ _ _=>true
  | _=>false
def GH (E:Env) (o:Oper) (s:St):Option (Bool×St):=
  bif dP E o&&(!Cq o.op || o.dst.isNone) then act E o s else none
section
variable {P:Program} {E:Env} {C:Ctx} {s:St} {a:Act} {w:World} {G:Nat→Nat} {pt:Nat→Nat→Option Value} {o:Oper} {u:St}
theorem abv {α:Type} {xs:Array α} {x:α} (h:xs.toList=[x]):xs = #[x]:=by apply Array.ext';simpa using h
theorem Rk {α:Type} {xs:Array α} {x y:α} (h:xs.toList=[x,y]):xs = #[x,y]:=by apply Array.ext';simpa using h
theorem GI (HP:nM P E) (R:Rel E C s a w G pt) (ho:∀ t,o.dst=some t→t<E.n) (b:Builtin) (args:Array Operand) (ts:Array TypeId)
    (hop:o.op = .call { callee:=.builtin b,args:=args,argTypes:=ts }) (h:mH E o s b args.toList ts.toList=some (true,u)):fC P E C o a w (ak u s):=by
  unfold mH at h
  split at h
  · rename_i x T hx hT
    split at h
    · rename_i n hn
      simp only [Option.some.injEq,Prod.mk.injEq,true_and] at h
      subst h
      have hx:=abv hx
      subst hx
      exact Wi HP R ho x T ts hT hop hn
    · cases h
  · rename_i x y T T' hx hT
    have hx:=Rk hx
    have hT:=Rk hT
    subst hx hT
    cases hn:IQ E T' with
    | false=>simp [hn] at h
    | true=>
      simp only [hn,cond_true] at h
      exact Kt HP R ho T T' x y hn hop h
  · rename_i x y T T' hx hT
    have hx:=Rk hx
    have hT:=Rk hT
    subst hx hT
    exact Ri HP R ho T T' x y hop h
  · exact AX R ho args ts false hop h
  · exact AX R ho args ts true hop h
  · cases h
theorem MW (R:Rel E C s a w G pt) (ho:∀ t,o.dst=some t→t<E.n) (x:Operand) (hop:o.op = .move x)
    (h:qZ o s x=some (true,u)):fC P E C o a w (ak u s):=by
  have hrun:(execOp a.eval o).run P w = .ok (.value (a.eval x)) w:=by simp [execOp,hop]
  have fall:some (true,bZ s x strip dJ++bB o (aV s x))=some (true,u)→fC P E C o a w (ak u s):=by
    intro h
    simp only [Option.some.injEq,Prod.mk.injEq,true_and] at h
    subst h
    exact ⟨_,w,G,pt,.inl hrun,R.take x o ho (Ext.refl _ _) (fun _ _=>rfl) (aT R x) (fun _=>Nat.le_refl _)⟩
  cases x with
  | const v=>exact fall h
  | global g=>exact fall h
  | func f=>exact fall h
  | tmp t=>
  simp only [qZ] at h
  split at h
  · rename_i ty l hx'
    simp only [Option.some.injEq,Prod.mk.injEq,true_and] at h
    subst h
    have hr:=R.tm t
    rw [hx'] at hr
    have hr0:=hr
    obtain ⟨ad,n,c,hv,hn,hbd,hsl⟩:=hr0
    have hnE:t<E.n:=nK R (t:=t) (by rw [hx'];rfl)
    have Et:aY w G pt (.sl 0 ty l) (a.tmps.getD t Go.undef):=by
      refine ⟨ad,n,c,hv,hn,hbd,?_⟩
      rcases hsl with ⟨h1,h2,h3⟩ | ⟨b,h1,hG,h3,h4,h5,_⟩
      · exact ⟨by subst h2;simp,.inl h2⟩
      · exact ⟨h4,.inr ⟨b,0,h1,by rw [hG];omega,h5⟩⟩
    obtain ⟨R1,t1⟩:=R.Gu t hnE (d:=.sl 0 ty l) Et (fun b=>by rw [hv];cases ad<;>rfl)
    refine ⟨_,w,G,pt,.inl hrun,?_⟩
    show Rel E C (ak (bB o (.sl 1 ty l)) ((2*t,.sl 0 ty l)::s)) (a.put o.dst (a.eval (.tmp t))) w G pt
    refine R1.put o ho (fun _=>False) (Ext.refl _ _) (fun _ _ _=>⟨rfl,rfl⟩) (fun _ h=>h.elim) hr (fun b=>?_) R1.gz rfl rfl rfl (Nat.le_refl _)
    have e:cO b (.sl 1 ty l) (a.eval (.tmp t))=cT s a b t:=by
      simp only [cT,hx']
      rfl
    have h1:=t1 b
    have h2:=R.ct b
    have h3:=R.cb b
    rw [e]
    exact ⟨by omega,fun h=>⟨by omega,(h3 (by omega)).1,(h3 (by omega)).2⟩⟩
  · exact fall h
theorem I4 (R:Rel E C s a w G pt) (ho:∀ t,o.dst=some t→t<E.n) (x:Operand) (hop:o.op = .move x)
    (h:kN E o s x=some (true,u)):fC P E C o a w (ak u s):=by
  unfold kN at h
  cases hc:Nat.beq (tag E o) 6 with
  | true=>rw [hc] at h;exact MW R ho x hop h
  | false=>rw [hc] at h;exact Ec R ho x hop h
theorem EB (R:Rel E C s a w G pt) (ho:∀ t,o.dst=some t→t<E.n) (fn:Fn) (first caps:Array Operand) (hop:o.op = .makeFunc fn first caps)
    (h:kE o s fn first.toList caps.toList=some (true,u)):fC P E C o a w (ak u s):=by
  unfold kE at h
  split at h
  · rename_i f x hf hc
    split at h
    · rename_i t v hx
      simp only [Option.some.injEq,Prod.mk.injEq,true_and] at h
      subst h
      have hr:=aT R x
      rw [hx] at hr
      obtain ⟨b,off,h1,h2,h3,h4⟩:=hr
      have hc:=abv hc
      have hf:first = #[]:=by apply Array.ext';simpa using hf
      subst hc hf
      refine pure_ok R ho (v:=.func (.func f) #[] #[a.eval x]) (by simp [execOp,hop];rfl) ⟨b,off,by rw [h1];simp,by simpa using h3,by simpa using h4 0 (by simp)⟩ (fun _=>rfl)
    · cases h
  · cases h
theorem MX (HP:nM P E) (hm:E.n≤C.m) (R:Rel E C s a w G pt) (h:GH E o s=some (true,u)):fC P E C o a w (ak u s):=by
  unfold GH at h
  cases hd:(dP E o&&(!Cq o.op || o.dst.isNone)) with
  | false=>simp [hd] at h
  | true=>
    simp only [hd,cond_true] at h
    simp only [Bool.and_eq_true] at hd
    obtain ⟨hd,hs⟩:=hd
    have ho:∀ t,o.dst=some t→t<E.n:=by
      intro t ht
      simpa [dP,ht,Nat.blt_eq] using hd
    unfold act at h
    split at h
    · rename_i x hop
      cases h9:Nat.beq (tag E o) 9 with
      | true=>rw [h9] at h;exact MS hm R ho x hop h
      | false=>rw [h9] at h;exact I4 R ho x hop h
    · rename_i x hop;exact Kh R hm ho x hop h
    · rename_i T hop;exact MJ HP R hm ho T hop h
    · rename_i T x hop;exact Ws HP R hm ho T x hop h
    · rename_i T ps hop;exact MG HP R ho T ps hop h
    · rename_i T n ps hop
      cases h8:Nat.beq (tag E o) 8 with
      | true=>rw [h8] at h;exact Eu HP hm R ho T n ps hop h
      | false=>rw [h8] at h;exact Al HP R ho T n ps hop h
    · rename_i T x hop
      cases h11:Nat.beq (tag E o) 11 with
      | true=>rw [h11] at h;exact MU HP R ho T x hop h
      | false=>rw [h11] at h;exact Rc HP R hm ho T x hop h
    · rename_i T x y hop
      have:o.dst=none:=by
        rw [hop] at hs
        simpa [Cq] using hs
      exact MP HP R this T x y hop h
    · rename_i x hop;exact Ef R ho x hop h
    · rename_i op xT x y yT hop;exact Wh HP R ho op xT x y yT hop h
    · rename_i op xT x hop;exact abk R ho op xT x hop h
    · rename_i sT dT x hop;exact Rh HP R ho sT dT x hop h
    · rename_i T l c hop;exact Cn HP R ho T l c hop h
    · rename_i T x lo hi hop
      split at h
      · exact Ku HP R ho T x lo hi hop h
      · exact Mw HP R ho T x lo hi hop h
    · rename_i T x lo hi mx hop;exact Km HP R ho T x lo hi mx hop h
    · rename_i T x f hop;exact Cj HP R ho T x f hop h
    · rename_i T x f hop;exact ML HP R ho T x f hop h
    · rename_i T x i hop;exact Cm HP R ho T x i hop h
    · rename_i T x i hop;exact Mv HP R ho T x i hop h
    · rename_i x i hop;exact Gw R ho x i hop h
    · rename_i fn first caps hop;exact EB R ho fn first caps hop h
    · rename_i c hop
      split at h
      · rename_i b hb
        obtain ⟨callee,args,argTypes⟩:=c
        simp only at hb h
        subst hb
        exact GI HP R ho b args argTypes hop h
      · cases h
    · cases h
theorem Rl (R:Rel E C s a w G pt) (hd:dP E o=true) (c x y:Operand) (b:Bool) (hop:o.op = .pick c x y) (hc:aV s c = .bool b)
    (h:kN E o s (bif b then x else y)=some (true,u)):fC P E C o a w (ak u s):=by
  have ho:∀ t,o.dst=some t→t<E.n:=by
    intro t ht
    simpa [dP,ht,Nat.blt_eq] using hd
  have hcv:=aT R c
  rw [hc] at hcv
  have hcv:a.eval c = .bool b:=hcv
  have hx:∀ o':Oper,o'.dst=o.dst→o'.op = .move (bif b then x else y)→kN E o' s (bif b then x else y)=some (true,u)→fC P E C o a w (ak u s):=by
    intro o' hd' hop' h'
    obtain ⟨v,w',G',bJ,hr,hR⟩:=I4 (P:=P) R (by rw [hd'];exact ho) (bif b then x else y) hop' h'
    have e:(execOp a.eval o).run P w=(execOp a.eval o').run P w:=by
      cases b<;>simp [execOp,hop,hop',hcv,asBool]
    rw [←e] at hr
    rw [hd'] at hR
    exact ⟨v,w',G',bJ,hr,hR⟩
  refine hx { o with op:=.move (bif b then x else y) } rfl rfl ?_
  exact h
end
end Go.aW