/- The abstract evaluator, part 4: proved is that calls and whole functions do what their contracts say, and how a law's contract gives the row's statement; no conditions but those that each theorem states. -/
import Derived.Test.YtlfiacncaggbcaaGreatAbsC
import Derived.ProofKit
import Derived.Below
import Derived.OpenShut
import Derived.Carry
import Derived.RowKit
import Derived.Handed
set_option linter.unusedVariables false
set_option linter.unusedSimpArgs false
namespace Go.dw
def uo (E:Env) (n:Nat) (hp:Bool):Env:={ T:=fun _=>none,md:=fun _=>0,glob:=E.glob,n:=n,hp:=hp }
def kC:Nat→List D→St
 | _,[]=>[]
 | i,d::r=>(2*i,d)::kC (i+1) r
def ah4:(rs:RS)→rs.ty.den→St
 | .none,_=>[]
 | .one p,x=>[(0,p.aZ x)]
 | .iJ l,x=>kC 0 (bY l x)
 | .Ac ls,x=>[(3,.aI 1 true (aO ls x)),(0,.ptr 1 1 0)]
 | .yu k v,x=>[(3,.bO 1 k v x),(0,.fU 1 1)]
def RS.num:RS→Nat
 | .none=>0
 | .one _=>1
 | .iJ l=>l.length
 | .Ac _=>1
 | .yu _ _=>1
def gH (c:cu) (y:(Ty.cons c.rs.ty (fJ c.post)).den):St:=
 (bif c.bM then [(1,.aI 1 true (aO c.post y.2))] else [])++ah4 c.rs y.1
def cu.num (c:cu):Nat:=(bif c.bM then 1 else 0)+c.ps.length
def lI (vs:Array Value):Value:=if h:vs.size=1 then vs[0] else .tuple vs
def eO (P:Program) (E:Env) (f:Nat) (c:cu):Prop:=
 ∀ x y,c.F x=some y→∀ (C:Ctx) (args:Array Value) (w:World) (G:Nat→Nat) (pt:Nat→Nat→Option Value),
  C.m=2→(C.pin=none∨c.bM=true)→args.size=c.num→Rel (uo E c.num c.bM) C (bI c x) { tmps:=args,defers:=[] } w G pt →
  ∀ (K:Ending→World→Prop),(∀ (vs:Array Value) w' G' bC,Rel (uo E c.rs.num c.bM) C (gH c y) { tmps:=vs,defers:=[] } w' G' bC→K (.returned (lI vs)) w') →
   Calls P f args w K
theorem lg {n:Nat} {f:Nat→Nat} (h:∀ i,i<n→f i=0):cO n f=0:=by
 induction n with
 | zero=>rfl
 | succ n ih=>simp only [cO];rw [ih fun i hi=>h i (by omega),h n (by omega)]
theorem wL {n m:Nat} {f:Nat→Nat} (h:n≤m) (hz:∀ i,n≤i→f i=0):cO m f=cO n f:=by
 induction m with
 | zero=>
  have:n=0:=by omega
  subst this;rfl
 | succ m ih=>
  by_cases hn:n=m+1
  ·subst hn;rfl
  ·simp only [cO]
   rw [ih (by omega),hz m (by omega)]
   rfl
theorem aeh {n:Nat} {f g:Nat→Nat} (h:∀ i,i<n→f i≤g i):cO n f≤cO n g:=by
 induction n with
 | zero=>exact bT _
 | succ n ih=>simp only [cO];exact Nat.add_le_add (ih fun i hi=>h i (by omega)) (h n (by omega))
theorem aah (n:Nat) (f:Nat→Nat):cO (2*n) f=cO n (fun i=>f (2*i))+cO n (fun i=>f (2*i+1)):=by
 induction n with
 | zero=>rfl
 | succ n ih=>
  rw [show 2*(n+1)=2*n+1+1 from by omega]
  simp only [cO];omega
theorem Ck {f:Nat→Nat}:∀ {n:Nat} {l:List Nat},l.Nodup→(∀ i∈l,i<n)→(l.map f).sum≤cO n f
 | 0,[],_,_=>bT _
 | 0,x::r,_,h=>by have:=h x (by simp);omega
 | n+1,l,hn,h=>by
  simp only [cO]
  by_cases hm:n∈l
  ·have hp:=List.perm_cons_erase hm
   have e:(l.map f).sum=f n+((l.erase n).map f).sum:=by
    rw [(hp.map f).sum_nat];simp
   have hn2:(l.erase n).Nodup:=hn.erase n
   have ih:=Ck (f:=f) (n:=n) hn2 (fun i hi=>by
    have h1:=h i (List.mem_of_mem_erase hi)
    have h2:i≠n:=fun he=>by
     subst he;exact (List.Nodup.not_mem_erase hn) hi
    omega)
   omega
  ·have ih:=Ck (f:=f) (n:=n) hn (fun i hi=>by
    have h1:=h i hi
    have h2:i≠n:=fun he=>hm (he▸hi)
    omega)
   omega
section
variable {P:Program} {E E':Env} {C C':Ctx} {s s':St} {a a':Act} {w:World} {G:Nat→Nat} {pt bC:Nat→Nat→Option Value}
theorem Rel.make (R:Rel E C s a w G pt) (hg:E'.glob=E.glob) (h1:C'.w0=C.w0) (h2:C'.G0=C.G0) (h3:C'.X=C.X) (sz:a'.tmps.size=E'.n) (df:a'.defers=[])
 (tm:∀ t,aU w G bC (get s' (2*t)) (a'.tmps.getD t undef)) (bx:∀ id,pK w G bC id (get s' (2*id+1)))
 (ht:∀ t,E'.n≤t→get s' (2*t) = .undef) (hb:∀ id,C'.m≤id→get s' (2*id+1) = .undef)
 (tc:∀ b,TC E'.n C'.m s' a' w bC b≤TC E.n C.m s a w pt b)
 (pf:∀ id st,aL (get s' (2*id+1))<st→bC id st=none) (pn:∀ v,C'.pin=some v→bC 0 1=some v):Rel E' C' s' a' w G bC:=by
 refine ⟨sz,df,tm,bx,ht,hb,fun b=>gX (tc b) (R.ct b),fun b hb=>?_,?_,?_,R.gz,by rw [h1];exact R.os,by rw [h1];exact R.out,by rw [h1];exact R.tape,by rw [h1];exact R.hs,pf,by rw [hg];exact R.gl,pn⟩
 ·rw [h1,h3];exact R.cb b (mK hb (tc b))
 ·rw [h1,h2,h3];exact R.fr
 ·rw [h1,h2];exact R.ex
def cK (s:St) (a:Act) (w:World) (pt:Nat→Nat→Option Value) (b k:Nat):Nat:=
 if k%2=1 then cB s w pt b (k / 2) else cT s a b (k / 2)
theorem Rel.UF (R:Rel E C s a w G pt) (b:Nat) {ks:List Nat} (hn:ks.Nodup):(ks.map (cK s a w pt b)).sum≤TC E.n C.m s a w pt b:=by
 obtain ⟨M,hM1,WT,hM3⟩:∃ M,E.n≤M∧C.m≤M∧∀ k∈ks,k<2*M:=by
  have:∃ M,∀ k∈ks,k<M:=by
   clear hn
   induction ks with
   | nil=>exact ⟨0,fun k hk=>by simp at hk⟩
   | cons x r ih=>
    obtain ⟨M,h⟩:=ih
    refine ⟨M+x+1,fun k hk=>?_⟩
    rcases lC hk with rfl | hk
    ·omega
    ·have:=h k hk;omega
  obtain ⟨M,h⟩:=this
  exact ⟨E.n+C.m+M,by omega,by omega,fun k hk=>by have:=h k hk;omega⟩
 refine gX (Ck hn hM3) ?_;rw [aah];unfold TC;refine Nat.add_le_add ?_ ?_
 ·rw [aG (g:=cT s a b) fun i _=>by simp [cK]]
  rw [wL hM1 fun i hi=>by rw [cT,R.ht i hi];exact dX b _]
  exact bT _
 ·rw [aG (g:=cB s w pt b) fun i _=>by
   have h1:(2*i+1)%2=1:=by omega
   have h2:(2*i+1) / 2=i:=by omega
   simp [cK,h1,h2]]
  rw [wL WT fun i hi=>by rw [cB,R.hb i hi];rfl]
  exact bT _
end
theorem gU {rest:St}:∀ {ds:List D} {i:Nat} (k:Nat),get (kC i ds++rest) k=if k%2=0∧i≤k / 2∧k / 2<i+ds.length then ds.getD (k / 2 - i) .undef else get rest k
 | [],i,k=>by
  rw [if_neg (by rintro ⟨_,h2,h3⟩;simp only [List.length_nil] at h3;omega)];rfl
 | d::r,i,k=>by
  simp only [kC,List.cons_append];rw [aD,gU (ds:=r) (i:=i+1) k]
  by_cases hk:k=2*i
  ·subst hk
   rw [if_pos rfl,if_pos (by simp)]
   have:2*i / 2 - i=0:=by omega
   rw [this];rfl
  ·rw [if_neg hk]
   simp only [lD]
   by_cases h:k%2=0∧i+1≤k / 2∧k / 2<i+1+r.length
   ·rw [if_pos h,if_pos (by omega)]
    have:k / 2 - i=(k / 2 - (i+1))+1:=by omega
    rw [this];rfl
   ·rw [if_neg h,if_neg (by omega)]
theorem iD:∀ (l:List Sh) (x:(kJ l).den),(bY l x).length=l.length
 | [],_=>rfl
 | p::r,x=>by simp [bY,iD r x.2]
theorem kP:∀ (l:List Sh) (x:(kJ l).den) (i:Nat),Aj i l x=kC i (bY l x)
 | [],_,_=>rfl
 | p::r,x,i=>by simp only [Aj,bY,kC,kP r x.2 (i+1)]
section
variable {P:Program} {E E':Env} {C C':Ctx} {s s':St} {a a':Act} {w:World} {G:Nat→Nat} {pt bC:Nat→Nat→Option Value}
theorem aai {b id bR:Nat} {st:Nat} {cs:List D} (hblk:bE (pt id st)=some bR):aM b cs (aB w bR)≤gY w pt b id (.aI st true cs):=by
 simp only [gY,hblk,sw];omega
def sW (a:Act):ResultVar→Sem Value
 | .tmp t=>pure (a.tmps.getD t undef)
 | .cell x t=>do loadVar t (←asAddr (a.tmps.getD x undef))
theorem WU (HP:nS P E) (R:Rel E C s a w G pt) {rv:ResultVar} {d:D} (h:ad7 E s rv=some d) :
 ∃ v,(sW a rv).run P w = .ok v w∧aU w G pt d v∧∀ b,dP b d v≤cK s a w pt b (Rm s rv):=by
 cases rv with
 | tmp t=>
  simp only [ad7,bn] at h;subst h
  refine ⟨_,rfl,R.tm t,fun b=>?_⟩
  have h1:2*t%2=0:=Nat.mul_mod_right 2 t
  have h2:2*t / 2=t:=Nat.mul_div_cancel_left t (by decide)
  simp [Rm,cK,h1,h2,cT]
 | cell t' T=>
  simp only [ad7] at h;split at h
  ·rename_i id st off i hp hT
   split at h
   ·rename_i st' cs hb
    cases hc:(Nat.beq st st' && Nat.beq off 0&&Nat.beq cs.length i.size) with
    | false=>rw [hc] at h;cases h
    | true=>
     rw [hc] at h;simp only [aQ] at h;simp only [dA] at hc;obtain ⟨⟨h1,h2⟩,h3⟩:=hc;have h1:=fD h1;have h2:=fD h2;have h3:=fD h3;subst h1;subst h2;have hv:=R.tm t';rw [hp] at hv;obtain ⟨bR,hblk,hv⟩:=hv;have hB:=R.bx id;rw [hb] at hB;obtain ⟨b',q1,q2,q3,q4⟩:=hB rfl
     have:b' = bR:=by
      rw [q1] at hblk
      simpa [bE] using hblk
     subst this;have JF:=HP.ti _ _ hT
     have bB:=uS (P:=P) (w:=w) JF (b:=b') (off:=0) (f:=aB w b') (fun j hj=>by rw [Nat.zero_add];exact rA q2 (by omega))
     obtain ⟨r1,r2⟩:=pY h h3 q4
     refine ⟨_,?_,r1,fun b=>?_⟩
     ·simp only [sW,hv,asAddr,pure_bind]
      exact bB
     ·rw [r2 b]
      have e1:(2*id+1)%2=1:=by omega
      have e2:(2*id+1) / 2=id:=by omega
      simp only [Rm,hp,cK,e1,e2,if_true,cB,hb];exact aai hblk
   ·rename_i st' t l hb
    cases hc:(Nat.beq st st' && Nat.beq off 0&&i.agg&&Nat.beq t.nc 1&&Nat.beq l.length i.size) with
    | false=>rw [hc] at h;cases h
    | true=>
     rw [hc] at h;simp only [aQ,bn] at h;simp only [dA] at hc;obtain ⟨⟨⟨⟨h1,h2⟩,h3⟩,h4⟩,h5⟩:=hc;have h1:=fD h1;have h2:=fD h2;have h4:=fD h4;have h5:=fD h5;subst h1;subst h2
     have hd:(∀ v,aU w G pt (.agg (l.flatMap (enc t))) v→aU w G pt d v)∧∀ b v,dP b (.agg (l.flatMap (enc t))) v=0→dP b d v=0:=by
      unfold agl at h
      cases YA:Nat.blt 64 i.size with
      | true=>
       rw [YA] at h;subst h
       exact ⟨fun v hv=>Zt hv,fun b v hv=>adU hv⟩
      | false=>
       rw [YA] at h;simp only [bJ] at h
       rw [TT _ _ (by omega),List.drop_zero,←h5,List.take_length] at h
       subst h
       exact ⟨fun v hv=>hv,fun b v hv=>hv⟩
     have hv:=R.tm t';rw [hp] at hv;obtain ⟨bR,hblk,hv⟩:=hv;obtain ⟨g1,g2,g3⟩:=wB R hb hblk;obtain ⟨f1,f2,f3⟩:=Zr (pt:=pt) h4 g1;have hfl:=rD t l h4;have JF:=HP.ti _ _ hT
     have bB:=uS (P:=P) (w:=w) JF (b:=bR) (off:=0) (f:=fun j=>aB w bR (0+j)) (fun j hj=>f3 j (by omega))
     obtain ⟨r1,r2⟩:=pY (w:=w) (G:=G) (pt:=pt) (agg:=true) (n:=i.size) (ds:=l.flatMap (enc t)) (d:=.agg (l.flatMap (enc t))) (f:=fun j=>aB w bR (0+j)) rfl (by omega) (fun j hj=>⟨(f1 j hj).1,(f1 j hj).2.1⟩)
     refine ⟨_,?_,hd.1 _ r1,fun b=>?_⟩
     ·simp only [sW,hv,asAddr,pure_bind]
      rw [h3] at bB;exact bB
     ·rw [hd.2 b _ (by rw [r2 b,f2 b])]
      exact mY _
   ·cases h
  ·cases h
theorem Aw (HP:nS P E) (R:Rel E C s a w G pt):∀ {l:List ResultVar} {ds:List D},Ca E s l=some ds →
 ∃ vs:List Value,vs.length=l.length∧ds.length=l.length∧(l.mapM (sW a)).run P w = .ok vs w ∧
  ∀ i (h:i<l.length),aU w G pt (ds.getD i .undef) (vs.getD i undef)∧∀ b,dP b (ds.getD i .undef) (vs.getD i undef)≤cK s a w pt b (Rm s l[i])
 | [],ds,h=>by
  simp only [Ca,bn] at h;subst h
  exact ⟨[],rfl,rfl,rfl,fun i h=>by simp at h⟩
 | rv::l,ds,h=>by
  simp only [Ca] at h;split at h
  ·rename_i d ds' h1 h2
   simp only [bn] at h;subst h;obtain ⟨v,q1,q2,q3⟩:=WU HP R h1;obtain ⟨vs,p1,p2,p3,p4⟩:=Aw HP R h2
   refine ⟨v::vs,by simp [p1],by simp [p2],?_,fun i hi=>?_⟩
   ·rw [List.mapM_cons]
    simp [Sem.run_bind,q1,p3]
   ·cases i with
    | zero=>exact ⟨q2,q3⟩
    | succ i=>exact p4 i (by simpa using hi)
  ·cases h
theorem OV (HP:nS P E) (R:Rel E C s a w G pt) {fn:Func} {ds:List D} (h:Ca E s fn.results.toList=some ds) :
 ∃ vs:List Value,vs.length=fn.results.size∧ds.length=fn.results.size∧(results fn a.tmps).run P w = .ok (lI vs.toArray) w ∧
  ∀ i (h:i<fn.results.toList.length),aU w G pt (ds.getD i .undef) (vs.getD i undef)∧∀ b,dP b (ds.getD i .undef) (vs.getD i undef)≤cK s a w pt b (Rm s fn.results.toList[i]):=by
 obtain ⟨vs,p1,p2,p3,p4⟩:=Aw HP R h
 refine ⟨vs,by simpa using p1,by simpa using p2,?_,p4⟩
 unfold results
 change (Array.mapM (sW a) fn.results >>= fun vs=>pure (if h:vs.size=1 then vs[0] else Value.tuple vs)).run P w=_
 have e2:Array.mapM (sW a) fn.results=List.toArray <$> fn.results.toList.mapM (sW a):=by
  conv=>lhs;rw [←Array.toArray_toList (xs:=fn.results)]
  rw [List.mapM_toArray]
 rw [e2];simp [Sem.run_bind,p3,lI]
end
theorem sZ (n:Nat) (f:Nat→Nat):cO (n+1) f=f 0+cO n (fun i=>f (i+1)):=by
 induction n with
 | zero=>simp [cO]
 | succ n ih=>
  rw [cO,ih];simp only [cO];omega
theorem JY {g:Nat→Nat}:∀ (l:List Nat) (f:Nat→Nat),(∀ i (h:i<l.length),f i≤g l[i])→cO l.length f≤(l.map g).sum
 | [],_,_=>bT _
 | x::r,f,h=>by
  rw [lD,sZ];simp only [jy,List.sum_cons]
  exact Nat.add_le_add (h 0 (by simp)) (JY r _ fun i hi=>h (i+1) (by simpa using hi))
theorem Gs:∀ {l:List Nat},nodupB l=true→l.Nodup
 | [],_=>List.nodup_nil
 | x::r,h=>by
  simp only [nodupB,dA,Bool.not_eq_true'] at h
  refine List.nodup_cons.2 ⟨fun hm=>?_,Gs h.2⟩
  have:=mem_iff.2 hm;rw [h.1] at this;cases this
theorem wM {l:Lf} (h:jG l=true) (x:l.ty.den):bW (l.aZ x)=[]:=by
 cases l with
 | cst d=>cases d<;>first | rfl | (simp [jG] at h)
 | _=>rfl
theorem pq:∀ {ls:List Lf},ls.all jG=true→∀ (x:(fJ ls).den),fq (aO ls x)=[]
 | [],_,_=>rfl
 | l::r,h,x=>by
  simp only [List.all_cons,dA] at h;simp only [aO,fq,wM h.1,pq h.2,List.append_nil]
section
variable {P:Program} {E E':Env} {C C':Ctx} {s s':St} {a a':Act} {w:World} {G:Nat→Nat} {pt bC:Nat→Nat→Option Value}
theorem wN {d:D} {v:Value} (h:aU w G pt d v):aU w G bC (clean d) v∧(∀ b,dP b (clean d) v≤dP b d v)∧fZ (clean d)=false:=by
 have Cm:aU w G bC .undef v∧(∀ b,dP b .undef v≤dP b d v)∧fZ .undef=false:=⟨trivial,fun b=>by rw [dX];exact mY _,rfl⟩
 have same:clean d=d→refs d=[]→fZ d=false→aU w G bC (clean d) v∧(∀ b,dP b (clean d) v≤dP b d v)∧fZ (clean d)=false:=by
  intro h1 h2 h3;rw [h1]
  exact ⟨h.ptr fun i hi=>by rw [h2] at hi;simp at hi,fun b=>bT _,h3⟩
 cases d with
 | agg cs=>
  cases hc:(fq cs).isEmpty with
  | true=>exact same (by simp [clean,hc]) (by simpa [refs] using hc) rfl
  | false=>
   have e:clean (.agg cs) = .undef:=by simp only [clean,hc,bJ]
   rw [e];exact Cm
 | iJ vs=>exact Cm
 | fn f cs=>exact Cm
 | aI st l cs=>exact Cm
 | aX st l ar t ls=>exact Cm
 | dI st t l h'=>exact Cm
 | bO st k v l=>exact Cm
 | ptr id st off=>exact Cm
 | uE id st i off es=>exact Cm
 | fU id st=>exact Cm
 | Jr id st n=>exact Cm
 | VO id st nc o n=>exact Cm
 | undef=>exact Cm
 | _=>exact same rfl rfl rfl
theorem Lf.UG {l:Lf} {d:D} {x:l.ty.den} {v:Value} (hx:l.res d=some x) (hw:Uw l=true→∃ d0,d=bP d0) (h:bF w G pt d v) :
 bF w G pt (l.aZ x) v∧∀ b,dS b (l.aZ x) v≤dS b d v:=by
 have plain:l.abs d=some x→bF w G pt (l.aZ x) v∧∀ b,dS b (l.aZ x) v≤dS b d v:=by
  intro hx;rw [Lf.qd hx]
  exact ⟨h,fun b=>bT _⟩
 cases l with
 | sl f t=>
  by_cases hn:d = .lS
  ·subst hn
   simp only [Lf.res] at hx
   cases hf:Nat.ble f 2 with
   | false=>rw [hf] at hx;cases hx
   | true=>
    rw [hf] at hx;simp only [aQ,bn] at hx;subst hx;have hv:v = .slice none 0 0:=h;subst hv
    refine ⟨⟨none,0,0,rfl,rfl,by simp,?_⟩,fun b=>bT _⟩
    have hf:=Ii hf
    match f,hf with
    | 0,_=>exact ⟨bT _,.inl rfl⟩
    | 1,_=>exact .inl ⟨rfl,rfl,rfl⟩
    | 2,_=>exact .inl ⟨rfl,rfl,rfl⟩
  ·match f,hx,plain,hw with
   | 0,hx,plain,hw=>
    have e:(Lf.sl 0 t).res d=(Lf.sl 0 t).abs (dD d):=by
     cases d<;>first | rfl | exact absurd rfl hn
    rw [e] at hx;rw [Lf.qd hx];obtain ⟨d0,rfl⟩:=hw rfl;have:=h.view
    have ev:dD (bP d0)=dD d0:=by cases d0<;>rfl
    rw [ev]
    exact ⟨this,fun b=>by rw [ru];exact mY _⟩
   | n+1,hx,plain,hw=>
    have e:(Lf.sl (n+1) t).res d=(Lf.sl (n+1) t).abs d:=by
     cases d<;>first | rfl | exact absurd rfl hn
    exact plain (e▸hx)
 | cst d'=>exact plain hx
 | int k=>exact plain hx
 | bool=>exact plain hx
 | str=>exact plain hx
 | iF f t=>exact plain hx
 | vp t=>exact plain hx
 | av k=>exact plain hx
 | va k=>exact plain hx
theorem JZ:∀ {ls:List Lf} {ds:List D} {x:(fJ ls).den} {f:Nat→Value},JK ls ds=some x→(ls.any Uw=true→∃ ds0:List D,ds=ds0.map bP)→aP w G pt ds f →
 aP w G pt (aO ls x) f∧(aO ls x).length=ds.length∧∀ b,aM b (aO ls x) f≤aM b ds f
 | [],[],_,_,_,_,h=>⟨h,rfl,fun _=>bT _⟩
 | [],_::_,_,_,h,_,_=>by simp [JK] at h
 | _::_,[],_,_,h,_,_=>by simp [JK] at h
 | l::r,d::ds,x,f,hx,hw,h=>by
  simp only [JK] at hx;split at hx
  ·rename_i y z h1 h2
   simp only [bn] at hx;subst hx
   have hd:=h 0 (by simp)
   obtain ⟨q1,q2⟩:=Lf.UG h1 (fun hl=>by
    obtain ⟨ds0,he⟩:=hw (by simp [hl])
    cases ds0 with
    | nil=>simp at he
    | cons d0 r0=>simp only [jy,List.cons.injEq] at he;exact ⟨d0,he.1⟩) hd.1
   obtain ⟨p1,p2,p3⟩:=JZ (f:=fun i=>f (i+1)) h2 (fun hl=>by
    obtain ⟨ds0,he⟩:=hw (by simp only [List.any_cons,hl,Bool.or_true])
    cases ds0 with
    | nil=>simp at he
    | cons d0 r0=>simp only [jy,List.cons.injEq] at he;exact ⟨r0,he.2⟩) (fun j hj=>h (j+1) (by simpa using hj))
   refine ⟨fun j hj=>?_,by simp [aO,p2],fun b=>Nat.add_le_add (q2 b) (p3 b)⟩
   cases j with
   | zero=>exact ⟨q1,hd.2⟩
   | succ j=>exact p1 j (by simpa [aO] using hj)
  ·cases hx
theorem LZ {d:D} (h:∃ d0,d=share d0):∀ {cs:List D},d = .agg cs→∃ cs0:List D,cs=cs0.map bP:=by
 obtain ⟨d0,rfl⟩:=h;intro cs he
 cases d0 with
 | agg cs0=>simp only [share,D.agg.injEq] at he;exact ⟨cs0,he.symm⟩
 | sl f t l=>simp [share,bP] at he
 | _=>simp [share,bP] at he
theorem aaj {p:Sh} {d:D} {x:p.ty.den} {v:Value} (hx:p.res1 d=some x) (bK:pR p=true) (hw:Ov p=true→∃ d0,d=share d0) (h:aU w G pt d v) (ht:fZ d=false) :
 aU w G pt (p.aZ x) v∧∀ b,dP b (p.aZ x) v≤dP b d v:=by
 cases p with
 | lf l=>
  simp only [Sh.res1] at hx;simp only [Sh.aZ]
  -- a leaf
  have isL:∀ d',bF w G pt d' v→(∀ b,dS b d' v≤dP b d v)→jG l=true→d' = l.aZ x→aU w G pt (l.aZ x) v∧∀ b,dP b (l.aZ x) v≤dP b d v:=by
   intro d' h1 h2 h3 h4;subst h4
   cases l with
   | cst d0=>cases d0<;>first | exact ⟨h1,h2⟩ | (simp [jG] at h3)
   | _=>exact ⟨h1,h2⟩
  cases d with
  | agg cs=>
   exfalso
   cases l with
   | cst d0=>
    simp only [pR] at bK
    cases d0<;>first | (simp [jG] at bK;done) | (simp [Lf.res,Lf.abs,keq] at hx)
   | sl f t=>
    cases f with
    | zero=>simp [Lf.res,Lf.abs,dD] at hx
    | succ n=>simp [Lf.res,Lf.abs] at hx
   | _=>simp [Lf.res,Lf.abs] at hx
  | iJ vs=>cases ht
  | fn f cs=>
   exfalso
   cases l with
   | cst d0=>
    simp only [pR] at bK
    cases d0<;>first | (simp [jG] at bK;done) | (simp [Lf.res,Lf.abs,keq] at hx)
   | sl f t=>
    cases f with
    | zero=>simp [Lf.res,Lf.abs,dD] at hx
    | succ n=>simp [Lf.res,Lf.abs] at hx
   | _=>simp [Lf.res,Lf.abs] at hx
  | aI st l cs=>simp only [aU,bF] at h
  | aX st l ar t ls=>simp only [aU,bF] at h
  | dI st t l h'=>simp only [aU,bF] at h
  | bO st k v l=>simp only [aU,bF] at h
  | _=>
   simp only [aU] at h
   obtain ⟨q1,q2⟩:=Lf.UG hx (fun hl=>by
    obtain ⟨d0,he⟩:=hw hl;refine ⟨d0,?_⟩;rw [he]
    cases d0<;>first | rfl | (simp [share] at he)) h
   exact isL _ q1 q2 bK rfl
 | agg ls=>
  cases d with
  | agg cs=>
   simp only [Sh.res1] at hx;obtain ⟨arr,rfl,h2,h3⟩:=h
   obtain ⟨p1,p2,p3⟩:=JZ hx (fun hl=>LZ (hw hl) rfl) h3
   exact ⟨⟨arr,rfl,by simp only [h2,p2],p1⟩,p3⟩
  | _=>simp [Sh.res1] at hx
 | aI st live ls=>cases bK
 | aX st live ar t=>cases bK
 | dI st t=>cases bK
 | bO st k v=>cases bK
theorem Rel.J2 (R:Rel E C s a w G pt) (W:Nat→Bool) (wo:∀ t,fZ (get s (2*t))=false):∀ (n:Nat),∃ s2 G',Rel E C s2 a w G' pt ∧
 (∀ t,t<n→get s2 (2*t)=bif W t then share (get s (2*t)) else get s (2*t))∧(∀ t,n≤t→get s2 (2*t)=get s (2*t))∧∀ id,get s2 (2*id+1)=get s (2*id+1)
 | 0=>⟨s,G,R,fun t h=>by omega,fun _ _=>rfl,fun _=>rfl⟩
 | n+1=>by
  obtain ⟨s2,G',R2,h1,h2,h3⟩:=R.J2 W wo n
  cases hW:W n with
  | false=>
   refine ⟨s2,G',R2,fun t ht=>?_,fun t ht=>h2 t (by omega),h3⟩
   by_cases h:t=n
   ·subst h;rw [h2 t (bT _),hW];rfl
   ·exact h1 t (by omega)
  | true=>
   obtain ⟨G2,_,R3,_,_⟩:=R2.Fu n (by rw [h2 n (bT _)];exact wo n)
   refine ⟨_,G2,R3,fun t ht=>?_,fun t ht=>?_,fun id=>?_⟩
   ·rw [aD]
    by_cases h:t=n
    ·subst h;rw [if_pos rfl,h2 t (bT _),hW];rfl
    ·rw [if_neg (by omega)];exact h1 t (by omega)
   ·rw [aD,if_neg (by omega)];exact h2 t (by omega)
   ·rw [aD,if_neg (by omega)];exact h3 id
def iX (hp:Bool) (cs:List D):St:=bif hp then [(1,.aI 1 true cs)] else []
theorem Cn (hp:Bool) (cs:List D) (k:Nat):get (iX hp cs) k=if hp=true∧k=1 then .aI 1 true cs else .undef:=by
 cases hp with
 | false=>simp [iX,get]
 | true=>simp only [iX,aQ,aD,get,true_and]
def kL (hp:Bool) (pt:Nat→Nat→Option Value) (new:Option (Nat×Nat)):Nat→Nat→Option Value:=
 fun i j=>if i=0 then (if hp=true then pt 0 j else none) else if i=1∧j=1 then (match new with
  | some (id,st)=>pt id st
  | none=>none) else none
theorem Gt {hp:Bool} {post:List Lf} {y:(fJ post).den} (h:F6 s hp post=some y):hp=true→get s 1 = .aI 1 true (aO post y):=by
 intro hh;subst hh;simp only [F6] at h;split at h
 ·rename_i st cs hb
  cases hs:Nat.beq st 1 with
  | false=>rw [hs] at h;cases h
  | true=>
   rw [hs] at h;simp only [aQ] at h;rw [hb,fD hs,ow h]
 ·cases h
theorem RJ (R:Rel E C s a w G pt) (hm:C'.m=2) (h1:C'.w0=C.w0) (h2:C'.G0=C.G0) (h3:C'.X=C.X) (gP:C'.pin=C.pin) {hp:Bool} (Ma:C.pin=none∨hp=true)
 {post:List Lf} (Dw:post.all jG=true) {y:(fJ post).den} (nk:F6 s hp post=some y)
 {ps:List Sh} (hps:ps.all pR=true) {ds cons:List D} {vs:List Value} {ks:List Nat} (J3:((bif hp then 1 else 2000001)::ks).Nodup) (l1:vs.length=ps.length) (l2:ds.length=ps.length) (l3:cons.length=ps.length) (l4:ks.length=ps.length)
 (hv:∀ i (h:i<ks.length),aU w G pt (ds.getD i .undef) (vs.getD i undef)∧∀ b,dP b (ds.getD i .undef) (vs.getD i undef)≤cK s a w pt b ks[i])
 (hc:∀ i (h:i<ps.length),∃ x:ps[i].ty.den,ps[i].res (ds.getD i .undef)=some x∧cons.getD i .undef=ps[i].aZ x) :
 ∃ G' bC,Rel (uo E ps.length hp) C' (iX hp (aO post y)++kC 0 cons) { tmps:=vs.toArray,defers:=[] } w G' bC:=by
 have WV:=Gt nk
 have IG:∀ (l:List D) t,l.length=ps.length→get (kC 0 l++iX hp (aO post y)) (2*t)=if t<ps.length then l.getD t .undef else .undef:=by
  intro l t hl;rw [gU,Cn]
  have e1:2*t%2=0:=by omega
  have e2:2*t / 2=t:=by omega
  have e3:¬ 2*t=1:=by omega
  simp only [e1,e2,e3,and_false,if_false,true_and,mY,Nat.zero_add,Nat.sub_zero,hl]
 have yE:∀ (l:List D) id,get (kC 0 l++iX hp (aO post y)) (2*id+1)=if hp=true∧id=0 then .aI 1 true (aO post y) else .undef:=by
  intro l id;rw [gU,Cn]
  have e1:¬ (2*id+1)%2=0:=by omega
  have e3:2*id+1=1↔id=0:=by omega
  simp only [e1,false_and,if_false,e3]
 have Y4:∀ t,(vs.toArray.getD t undef)=vs.getD t undef:=fun t=>by simp [List.getD]
 have qF:∀ t,get (kC 0 (ds.map clean)++iX hp (aO post y)) (2*t)=if t<ps.length then clean (ds.getD t .undef) else .undef:=by
  intro t
  rw [IG _ t (by simpa using l2)]
  by_cases h:t<ps.length
  ·rw [if_pos h,if_pos h]
   have h':t<ds.length:=by omega
   simp [List.getD,h']
  ·rw [if_neg h,if_neg h]
 have RL:∀ id,pK w G (kL hp pt none) id (if hp=true∧id=0 then .aI 1 true (aO post y) else .undef) ∧
  (∀ b,gY w (kL hp pt none) b id (if hp=true∧id=0 then .aI 1 true (aO post y) else .undef)≤if id=0 then (if hp=true then cK s a w pt b 1 else 0) else 0):=by
  intro id
  by_cases h:hp=true∧id=0
  ·obtain ⟨h,rfl⟩:=h
   have hb:=R.bx 0;have e1:get s (2*0+1) = .aI 1 true (aO post y):=WV h;rw [e1] at hb
   have hpp:∀ st,kL hp pt none 0 st=pt 0 st:=fun st=>by simp [kL,h]
   rw [if_pos ⟨h,rfl⟩]
   refine ⟨hb.ptr (fun _ st=>hpp st) (fun i hi=>?_),fun b=>?_⟩
   ·simp only [refs,pq Dw,List.not_mem_nil] at hi
   ·rw [if_pos rfl,if_pos h,Rp (pt:=pt) (fun _ st=>hpp st)]
    simp only [cK,cB,e1];exact bT _
  ·rw [if_neg h]
   refine ⟨trivial,fun b=>?_⟩
   show 0≤_;exact mY _
 -- the results as they are
 have R1:Rel (uo E ps.length hp) C' (kC 0 (ds.map clean)++iX hp (aO post y)) { tmps:=vs.toArray,defers:=[] } w G (kL hp pt none):=by
  refine R.make rfl h1 h2 h3 (by simpa [uo] using l1) rfl (fun t=>?_) (fun id=>?_) (fun t ht=>?_) (fun id hid=>?_) (fun b=>?_) (fun id st gG=>?_) (fun v hv=>?_)
  ·rw [qF t,Y4 t]
   by_cases h:t<ps.length
   ·rw [if_pos h]
    exact (wN (hv t (by omega)).1).1
   ·rw [if_neg h];trivial
  ·rw [yE];exact (RL id).1
  ·rw [qF t,if_neg (by simp only [uo] at ht;omega)]
  ·rw [yE,if_neg (by omega)]
  ·refine gX ?_ (R.UF b J3)
   simp only [jy,List.sum_cons]
   have e1:cO ps.length (cT (kC 0 (ds.map clean)++iX hp (aO post y)) { tmps:=vs.toArray,defers:=[] } b)≤(ks.map (cK s a w pt b)).sum:=by
    rw [←l4]
    refine JY ks _ fun i hi=>?_
    simp only [cT]
    rw [qF i,Y4 i,if_pos (by omega)]
    obtain ⟨q1,q2⟩:=hv i hi;exact gX ((wN (bC:=pt) q1).2.1 b) (q2 b)
   have e2:cO 2 (cB (kC 0 (ds.map clean)++iX hp (aO post y)) w (kL hp pt none) b)≤cK s a w pt b (bif hp then 1 else 2000001):=by
    simp only [cO,cB,yE];have q0:=(RL 0).2 b;have q1:=(RL 1).2 b;simp only [if_true,Nat.one_ne_zero,if_false] at q0 q1 ⊢
    have q2:(if hp=true then cK s a w pt b 1 else 0)≤cK s a w pt b (bif hp then 1 else 2000001):=by
     cases hp with
     | true=>exact bT _
     | false=>exact mY _
    omega
   show cO ps.length _+cO C'.m _≤_;rw [hm];omega
  ·rw [yE] at gG
   by_cases h:hp=true∧id=0
   ·obtain ⟨h,rfl⟩:=h
    rw [if_pos ⟨h,rfl⟩] at gG;simp only [kL,h,if_true]
    exact R.pf 0 st (by rw [show get s (2*0+1)=_ from WV h];exact gG)
   ·simp only [kL]
    by_cases h0:id=0
    ·rw [if_pos h0,if_neg (fun hh=>h ⟨hh,h0⟩)]
    ·rw [if_neg h0];split<;>rfl
  ·rw [gP] at hv
   rcases Ma with hn | hn
   ·rw [hn] at hv;cases hv
   ·simp only [kL,hn,if_true]
    exact R.pn v hv
 -- shared
 obtain ⟨s2,G',R2,q1,q2,q3⟩:=R1.J2 (fun i=>match ps[i]? with
  | some p=>Ov p
  | none=>false) (fun t=>by
   rw [qF t]
   by_cases h:t<ps.length
   ·rw [if_pos h]
    exact (wN (bC:=pt) (hv t (by omega)).1).2.2
   ·rw [if_neg h];rfl) ps.length
 have gs2:∀ t (h:t<ps.length),get s2 (2*t)=bif Ov ps[t] then share (clean (ds.getD t .undef)) else clean (ds.getD t .undef):=by
  intro t h;rw [q1 t h,qF t,if_pos h];simp [h]
 have aal:∀ t (h:t<ps.length),aU w G' (kL hp pt none) (cons.getD t .undef) (vs.getD t undef)∧∀ b,dP b (cons.getD t .undef) (vs.getD t undef)≤dP b (get s2 (2*t)) (vs.getD t undef):=by
  intro t h;obtain ⟨x,hx,hcx⟩:=hc t h;have ht2:=R2.tm t;rw [Y4 t] at ht2;rw [hcx]
  have zU:ps[t].res1 (get s2 (2*t))=some x:=by rw [gs2 t h];exact hx
  refine aaj zU (List.all_eq_true.1 hps _ (zG h)) (fun hw=>⟨clean (ds.getD t .undef),by rw [gs2 t h,hw];rfl⟩) ht2 ?_
  rw [gs2 t h]
  have wo:=(wN (bC:=pt) (hv t (by omega)).1).2.2
  cases Ov ps[t] with
  | false=>exact wo
  | true=>
   simp only [aQ];generalize clean (ds.getD t .undef)=d at wo
   cases d<;>first | rfl | exact wo
 refine ⟨G',kL hp pt none,?_⟩
 have aul:∀ k,get (iX hp (aO post y)++kC 0 cons) k=get (kC 0 cons++iX hp (aO post y)) k:=by
  intro k
  have e:get (iX hp (aO post y)++kC 0 cons) k=if hp=true∧k=1 then .aI 1 true (aO post y) else get (kC 0 cons++[]) k:=by
   cases hp with
   | false=>simp [iX]
   | true=>simp only [iX,aQ,List.cons_append,List.nil_append,aD,true_and,List.append_nil]
  rw [e,gU,gU,Cn]
  by_cases h:hp=true∧k=1
  ·rw [if_pos h,if_neg (by omega),if_pos h]
  ·rw [if_neg h,if_neg h];rfl
 refine Rel.congr ?_ aul
 refine R2.make rfl rfl rfl rfl (by simpa [uo] using l1) rfl (fun t=>?_) (fun id=>?_) (fun t ht=>?_) (fun id hid=>?_) (fun b=>?_) (fun id st gG=>?_) R2.pn
 ·rw [IG cons t l3,Y4 t]
  by_cases h:t<ps.length
  ·rw [if_pos h];exact (aal t h).1
  ·rw [if_neg h];trivial
 ·have:=R2.bx id
  rw [q3 id,yE] at this;rw [yE];exact this
 ·rw [IG cons t l3,if_neg (by simp only [uo] at ht;omega)]
 ·rw [yE,if_neg (by omega)]
 ·unfold TC
  refine Nat.add_le_add (aeh fun t ht=>?_) (Nat.le_of_eq (aG fun id _=>?_))
  ·simp only [cT]
   rw [IG cons t l3,Y4 t,if_pos (show t<ps.length from ht)]
   exact (aal t ht).2 b
  ·simp only [cB]
   rw [q3 id,yE,yE]
 ·refine R2.pf id st ?_
  rw [q3 id,yE];rw [yE] at gG;exact gG
theorem Gu (R:Rel E C s a w G pt) (hm:C'.m=2) (h1:C'.w0=C.w0) (h2:C'.G0=C.G0) (h3:C'.X=C.X) (gP:C'.pin=C.pin) {hp:Bool} (Ma:C.pin=none∨hp=true)
 {post:List Lf} (Dw:post.all jG=true) {y:(fJ post).den} (nk:F6 s hp post=some y)
 {v:Value} {id st:Nat} {db d1 dp:D} (hv:∀ bC:Nat→Nat→Option Value,bC 1 1=pt id st→aU w G bC dp v) (Uz:∀ b,dP b dp v=0) (hid:id≠0) (hb:get s (2*id+1)=db)
 (hB1:∀ bC:Nat→Nat→Option Value,bC 1 1=pt id st→pK w G pt id db→pK w G bC 1 d1) (Zn:∀ (bC:Nat→Nat→Option Value) b,bC 1 1=pt id st→gY w bC b 1 d1=gY w pt b id db) (gG:aL d1=1) :
 ∃ G' bC,Rel (uo E 1 hp) C' (iX hp (aO post y)++[(3,d1),(0,dp)]) { tmps:=#[v],defers:=[] } w G' bC:=by
 have WV:=Gt nk;refine ⟨G,kL hp pt (some (id,st)),?_⟩
 have gg:∀ k,get (iX hp (aO post y)++[(3,d1),(0,dp)]) k =
  if hp=true∧k=1 then .aI 1 true (aO post y) else if k=3 then d1 else if k=0 then dp else .undef:=by
  intro k
  cases hp with
  | false=>simp only [iX,bJ,List.nil_append,aD,xD,false_and,if_false];rfl
  | true=>simp only [iX,aQ,List.cons_append,List.nil_append,aD,true_and];rfl
 have IG:∀ t,get (iX hp (aO post y)++[(3,d1),(0,dp)]) (2*t)=if t=0 then dp else .undef:=by
  intro t
  rw [gg,if_neg (by omega),if_neg (by omega)]
  by_cases h:t=0
  ·rw [if_pos h,if_pos (by omega)]
  ·rw [if_neg h,if_neg (by omega)]
 have yE:∀ i,get (iX hp (aO post y)++[(3,d1),(0,dp)]) (2*i+1)=if hp=true∧i=0 then .aI 1 true (aO post y) else if i=1 then d1 else .undef:=by
  intro i;rw [gg]
  by_cases h:hp=true∧i=0
  ·rw [if_pos h,if_pos ⟨h.1,by omega⟩]
  ·rw [if_neg h,if_neg (fun hh=>h ⟨hh.1,by omega⟩)]
   by_cases h':i=1
   ·rw [if_pos h',if_pos (by omega)]
   ·rw [if_neg h',if_neg (by omega),if_neg (by omega)]
 have p0:hp=true→∀ j,kL hp pt (some (id,st)) 0 j=pt 0 j:=fun h j=>by simp [kL,h]
 have p1:kL hp pt (some (id,st)) 1 1=pt id st:=by simp [kL]
 have hB:=R.bx id;rw [hb] at hB;have Ui:=R.bx 0
 have c0:∀ b,gY w (kL hp pt (some (id,st))) b 0 (if hp=true∧0=0 then .aI 1 true (aO post y) else if 0=1 then d1 else .undef)≤cK s a w pt b 1:=by
  intro b
  by_cases h:hp=true
  ·rw [if_pos ⟨h,rfl⟩,Rp (pt:=pt) (fun _ j=>p0 h j)]
   have e:get s (2*0+1)=_:=WV h;simp only [cK,cB,e];exact bT _
  ·rw [if_neg (by simp [h]),if_neg (by omega)]
   exact mY _
 have c1:∀ b,gY w (kL hp pt (some (id,st))) b 1 (d1)≤cK s a w pt b (2*id+1):=by
  intro b
  have e1:(2*id+1)%2=1:=by omega
  have e2:(2*id+1) / 2=id:=by omega
  simp only [cK,e1,e2,if_true,cB,hb];rw [Zn _ b p1];exact bT _
 refine R.make rfl h1 h2 h3 (by simp [uo]) rfl (fun t=>?_) (fun i=>?_) (fun t ht=>?_) (fun i hi=>?_) (fun b=>?_) (fun i j hj=>?_) (fun v hv=>?_)
 ·rw [IG]
  by_cases h:t=0
  ·subst h
   rw [if_pos rfl];exact hv _ p1
  ·rw [if_neg h];trivial
 ·rw [yE]
  by_cases h:hp=true∧i=0
  ·rw [if_pos h]
   obtain ⟨h,rfl⟩:=h;have e:get s (2*0+1)=_:=WV h;rw [e] at Ui
   exact Ui.ptr (fun _ j=>p0 h j) (fun i hi=>by simp only [refs,pq Dw,List.not_mem_nil] at hi)
  ·rw [if_neg h]
   by_cases h':i=1
   ·subst h'
    rw [if_pos rfl];exact hB1 _ p1 hB
   ·rw [if_neg h'];trivial
 ·rw [IG,if_neg (by simp only [uo] at ht;omega)]
 ·rw [yE,if_neg (by omega),if_neg (by omega)]
 ·have hk:=R.UF b (ks:=[1,2*id+1]) (by simp;omega)
  simp only [jy,List.map_nil,List.sum_cons,List.sum_nil] at hk;refine gX ?_ hk;show cO 1 _+cO C'.m _≤_;rw [hm]
  have t0:cT (iX hp (aO post y)++[(3,d1),(0,dp)]) { tmps:=#[v],defers:=[] } b 0=0:=by
   simp only [cT,IG,if_true];exact Uz b
  have b0:cB (iX hp (aO post y)++[(3,d1),(0,dp)]) w (kL hp pt (some (id,st))) b 0≤cK s a w pt b 1:=by
   unfold cB;rw [yE];exact c0 b
  have b1:cB (iX hp (aO post y)++[(3,d1),(0,dp)]) w (kL hp pt (some (id,st))) b 1≤cK s a w pt b (2*id+1):=by
   unfold cB
   rw [yE,if_neg (by omega),if_pos rfl];exact c1 b
  show 0+_+(0+_+_)≤_;rw [t0];refine gX (Nat.add_le_add (bT _) (Nat.add_le_add (Nat.add_le_add (bT _) b0) b1)) ?_;omega
 ·rw [yE] at hj
  by_cases h:hp=true∧i=0
  ·rw [if_pos h] at hj
   obtain ⟨h,rfl⟩:=h;rw [p0 h]
   exact R.pf 0 j (by rw [show get s (2*0+1)=_ from WV h];exact hj)
  ·rw [if_neg h] at hj
   simp only [kL]
   by_cases h0:i=0
   ·rw [if_pos h0,if_neg (fun hh=>h ⟨hh,h0⟩)]
   ·rw [if_neg h0]
    by_cases h':i=1
    ·rw [if_pos h'] at hj
     have:¬ (i=1∧j=1):=by
      rw [gG] at hj;omega
     rw [if_neg this]
    ·rw [if_neg (by simp [h'])]
 ·rw [gP] at hv
  rcases Ma with hn | hn
  ·rw [hn] at hv;cases hv
  ·rw [p0 hn];exact R.pn v hv
theorem WW (R:Rel E C s a w G pt) (hm:C'.m=2) (h1:C'.w0=C.w0) (h2:C'.G0=C.G0) (h3:C'.X=C.X) (gP:C'.pin=C.pin) {hp:Bool} (Ma:C.pin=none∨hp=true)
 {post:List Lf} (Dw:post.all jG=true) {y:(fJ post).den} (nk:F6 s hp post=some y)
 {ls:List Lf} (hls:ls.all jG=true) {v:Value} {id st:Nat} (hv:aU w G pt (.ptr id st 0) v) (hid:id≠0) {x:(fJ ls).den} (hb:get s (2*id+1) = .aI st true (aO ls x)) :
 ∃ G' bC,Rel (uo E 1 hp) C' (iX hp (aO post y)++[(3,.aI 1 true (aO ls x)),(0,.ptr 1 1 0)]) { tmps:=#[v],defers:=[] } w G' bC:=by
 obtain ⟨bR,hblk,hvv⟩:=hv
 refine Gu R hm h1 h2 h3 gP Ma Dw nk (fun bC NZ=>⟨bR,by rw [NZ];exact hblk,hvv⟩) (fun _=>rfl) hid hb (fun bC NZ hB _=>?_) (fun bC b NZ=>by simp only [gY,NZ]) rfl
 obtain ⟨b1,r1,r2,r3,r4⟩:=hB rfl
 exact ⟨b1,by rw [NZ];exact r1,r2,r3,r4.ptr fun i hi=>by rw [pq hls] at hi;simp at hi⟩
theorem RN (R:Rel E C s a w G pt) (hm:C'.m=2) (h1:C'.w0=C.w0) (h2:C'.G0=C.G0) (h3:C'.X=C.X) (gP:C'.pin=C.pin) {hp:Bool} (Ma:C.pin=none∨hp=true)
 {post:List Lf} (Dw:post.all jG=true) {y:(fJ post).den} (nk:F6 s hp post=some y)
 {v:Value} {id st:Nat} (hv:aU w G pt (.fU id st) v) (hid:id≠0) {k e:Ty} {x:List (k.den×e.den)} (hb:get s (2*id+1) = .bO st k e x) :
 ∃ G' bC,Rel (uo E 1 hp) C' (iX hp (aO post y)++[(3,.bO 1 k e x),(0,.fU 1 1)]) { tmps:=#[v],defers:=[] } w G' bC:=by
 have hv:pt id st=some v:=hv
 refine Gu R hm h1 h2 h3 gP Ma Dw nk (fun bC NZ=>by show bC 1 1=some v;rw [NZ];exact hv) (fun _=>rfl) hid hb (fun bC NZ hB=>?_) (fun bC b NZ=>by simp only [gY,NZ]) rfl
 obtain ⟨b1,r1,r2⟩:=hB
 exact ⟨b1,by rw [NZ];exact r1,r2⟩
theorem J4:∀ {l:List Sh} {ds:List D} {x:(kJ l).den},Ak l ds=some x→ds.length=l.length
 | [],[],_,_=>rfl
 | [],_::_,_,h=>by simp [Ak] at h
 | _::_,[],_,h=>by simp [Ak] at h
 | p::r,d::ds,x,h=>by
  simp only [Ak] at h;split at h
  ·rename_i y z h1 h2
   simp [J4 h2]
  ·cases h
theorem J5:∀ {l:List Sh} {ds:List D} {x:(kJ l).den},Ak l ds=some x→∀ i (h:i<l.length),∃ y:l[i].ty.den,l[i].res (ds.getD i .undef)=some y∧(bY l x).getD i .undef=l[i].aZ y
 | [],_,_,_,i,hi=>by simp at hi
 | _::_,[],_,h,_,_=>by simp [Ak] at h
 | p::r,d::ds,x,h,i,hi=>by
  simp only [Ak] at h;split at h
  ·rename_i y z h1 h2
   simp only [bn] at h;subst h
   cases i with
   | zero=>exact ⟨y,h1,rfl⟩
   | succ i=>exact J5 h2 i (by simpa using hi)
  ·cases h
theorem aam (HP:nS P E) (R:Rel E C s a w G pt) (hm:C'.m=2) (h1:C'.w0=C.w0) (h2:C'.G0=C.G0) (h3:C'.X=C.X) (gP:C'.pin=C.pin) {c:cu} (Ma:C.pin=none∨c.bM=true)
 (bK:c.ok=true) {fn:Func} {e:Nat} {ch:List Nat} {y:(Ty.cons c.rs.ty (fJ c.post)).den} (h:Ro E fn c ⟨e,ch,s⟩=some y) :
 e<2∧∃ (vs:Array Value) (G':_) (bC:_),(results fn a.tmps).run P w = .ok (lI vs) w∧Rel (uo E c.rs.num c.bM) C' (gH c y) { tmps:=vs,defers:=[] } w G' bC:=by
 unfold Ro at h
 cases hc:(Nat.blt e 2&&nodupB ((bif c.bM then 1 else 2000001)::fn.results.toList.map (Rm s))) with
 | false=>simp only [hc,bJ,reduceCtorEq] at h
 | true=>
  simp only [hc,aQ] at h;simp only [dA,Nat.blt_eq] at hc;refine ⟨hc.1,?_⟩;split at h
  ·rename_i ds hds
   split at h
   ·rename_i x z hx hz
    simp only [bn] at h;subst h;obtain ⟨vs,l1,l2,bB,hv⟩:=OV HP R hds;have J3:=Gs hc.2;simp only [cu.ok,dA] at bK;obtain ⟨⟨⟨⟨o1,o2⟩,o3⟩,o4⟩,o5⟩:=bK
    have data:∀ (ps:List Sh) (cons:List D),ps.all pR=true→ds.length=ps.length→cons.length=ps.length →
     (∀ i (h:i<ps.length),∃ x:ps[i].ty.den,ps[i].res (ds.getD i .undef)=some x∧cons.getD i .undef=ps[i].aZ x) →
     ∃ G' bC,Rel (uo E ps.length c.bM) C' (iX c.bM (aO c.post z)++kC 0 cons) { tmps:=vs.toArray,defers:=[] } w G' bC:=by
     intro ps cons q1 q2 q3 q4
     refine RJ R hm h1 h2 h3 gP Ma o4 hz q1 J3 (by omega) q2 q3 (by simp;omega) (fun i hi=>?_) q4
     have:=hv i (by simpa using hi)
     simpa using this
    -- by the kind of result
    have fin:∀ (rs:RS) (x:rs.ty.den),rs.ok=true→yx s rs ds=some x →
     ∃ (vs:Array Value) (G':_) (bC:_),(results fn a.tmps).run P w = .ok (lI vs) w∧Rel (uo E rs.num c.bM) C' (iX c.bM (aO c.post z)++ah4 rs x) { tmps:=vs,defers:=[] } w G' bC:=by
     intro rs x hrs hq
     cases rs with
     | none=>
      cases ds with
      | nil=>
       obtain ⟨G',bC,R'⟩:=data [] [] rfl rfl rfl (fun i hi=>by simp at hi)
       exact ⟨_,G',bC,bB,R'⟩
      | cons d r=>simp [yx] at hq
     | one p=>
      obtain ⟨d,rfl⟩:∃ d,ds=[d]:=by
       match ds,hq with
       | [d],hq=>exact ⟨d,rfl⟩
       | [],hq=>simp [yx] at hq
       | _::_::_,hq=>simp [yx] at hq
      simp only [yx] at hq
      obtain ⟨G',bC,R'⟩:=data [p] [p.aZ x] (by simpa [RS.ok] using hrs) rfl rfl (fun i hi=>by
       have:i=0:=by simpa using hi
       subst this
       exact ⟨x,hq,rfl⟩)
      exact ⟨_,G',bC,bB,R'⟩
     | iJ l=>
      simp only [yx] at hq
      cases hl:Nat.beq ds.length 1 with
      | true=>rw [hl] at hq;cases hq
      | false=>
       rw [hl] at hq;simp only [bJ] at hq;simp only [RS.ok,dA] at hrs;obtain ⟨G',bC,R'⟩:=data l (bY l x) hrs.1 (J4 hq) (iD l x) (J5 hq);exact ⟨_,G',bC,bB,R'⟩
     | Ac ls=>
      obtain ⟨id,st,off,rfl⟩:∃ id st off,ds=[.ptr id st off]:=by
       match ds,hq with
       | [],hq=>simp [yx] at hq
       | _::_::_,hq=>simp [yx] at hq
       | [d],hq=>cases d<;>first | exact ⟨_,_,_,rfl⟩ | (simp [yx] at hq)
      simp only [yx] at hq;split at hq
      ·rename_i st' cs hb
       cases QG:(Nat.beq st st' && Nat.beq off 0 && !Nat.beq id 0) with
       | false=>rw [QG] at hq;cases hq
       | true=>
        rw [QG] at hq;simp only [aQ] at hq;simp only [dA,Bool.not_eq_true'] at QG;obtain ⟨⟨e1,e2⟩,e3⟩:=QG;have e1:=fD e1;have e2:=fD e2
        have e3:id≠0:=by
         rw [gF] at e3;exact of_decide_eq_false e3
        subst e1;subst e2;have hl:=ow hq;subst hl
        obtain ⟨v,rfl⟩:=List.length_eq_one_iff.1 (show vs.length=1 by simp at l2;omega)
        have Uz:=(hv 0 (by simp at l2 ⊢;omega)).1
        obtain ⟨G',bC,R'⟩:=WW R hm h1 h2 h3 gP Ma o4 hz hrs Uz e3 hb;exact ⟨_,G',bC,bB,R'⟩
      ·cases hq
     | yu k v=>
      obtain ⟨id,st,rfl⟩:∃ id st,ds=[.fU id st]:=by
       match ds,hq with
       | [],hq=>simp [yx] at hq
       | _::_::_,hq=>simp [yx] at hq
       | [d],hq=>cases d<;>first | exact ⟨_,_,rfl⟩ | (simp [yx] at hq)
      simp only [yx] at hq;split at hq
      ·rename_i st' k' v' l hb
       cases QG:(Nat.beq st st' && !Nat.beq id 0) with
       | false=>rw [QG] at hq;cases hq
       | true=>
        rw [QG] at hq;simp only [aQ] at hq;simp only [dA,Bool.not_eq_true'] at QG;obtain ⟨e1,e3⟩:=QG;have e1:=fD e1
        have e3:id≠0:=by
         rw [gF] at e3;exact of_decide_eq_false e3
        subst e1;split at hq
        ·rename_i ku
         have he:=Ty.eq_of_beq ku;cases he;simp only [bn] at hq;subst hq
         obtain ⟨v0,rfl⟩:=List.length_eq_one_iff.1 (show vs.length=1 by simp at l2;omega)
         have Uz:=(hv 0 (by simp at l2 ⊢;omega)).1
         obtain ⟨G',bC,R'⟩:=RN R hm h1 h2 h3 gP Ma o4 hz Uz e3 hb;exact ⟨_,G',bC,bB,R'⟩
        ·cases hq
      ·cases hq
    exact fin c.rs x o3 hx
   ·cases h
  ·cases h
theorem dK.okD:∀ {t:Ty} {x:t.den} {b o:Nat},dK w G t x b o→t.ok x
 | .int k,n,b,o,h=>h.2
 | .bool,_,_,_,_=>trivial
 | .str,l,b,o,h=>by
  obtain ⟨s,_,h2,h3⟩:=h;subst h2
  refine ⟨h3,fun c hc=>?_⟩
  simp only [lZ,List.mem_map] at hc;obtain ⟨u,_,rfl⟩:=hc;have:=u.toNat_lt;omega
 | .sl t,l,b,o,h=>by
  obtain ⟨a,n,c,_,h2,h3,_,h4⟩:=h;subst h2
  refine ⟨h3,fun x hx=>?_⟩
  rcases h4 with rfl | ⟨b',o',_,_,h5⟩
  ·simp at hx
  ·obtain ⟨i,hi,rfl⟩:=List.getElem_of_mem hx
   exact dK.okD (h5 i hi)
 | .unit,_,_,_,_=>trivial
 | .cons a c,x,b,o,h=>⟨dK.okD h.1,dK.okD h.2⟩
 | .st _ c,x,b,o,h=>dK.okD (t:=c) h
 | .iF _ t,x,b,o,h=>by
  obtain ⟨b',o',_,_,h3⟩:=h;exact dK.okD (t:=t) h3
theorem fA.okD {t:Ty} {l:List t.den} {b o:Nat} (h:fA w G t l b o):∀ x∈l,t.ok x:=by
 intro x hx;obtain ⟨i,hi,rfl⟩:=List.getElem_of_mem hx;exact dK.okD (h i hi)
def Lf.okV:(l:Lf)→l.ty.den→Prop
 | .av k,l=>∀ x∈l,k.has x
 | .va k,l=>∀ x∈l,k.has x
 | .cst d,x=>(Lf.cst d).ty.ok x
 | .int k,x=>(Lf.int k).ty.ok x
 | .bool,x=>Lf.bool.ty.ok x
 | .str,x=>Lf.str.ty.ok x
 | .sl f t,x=>(Lf.sl f t).ty.ok x
 | .iF f t,x=>(Lf.iF f t).ty.ok x
 | .vp t,x=>(Lf.vp t).ty.ok x
def OW:(ls:List Lf)→(fJ ls).den→Prop
 | [],_=>True
 | l::r,x=>l.okV x.1∧OW r x.2
def Sh.okV:(p:Sh)→p.ty.den→Prop
 | .lf l,x=>l.okV x
 | .agg ls,x=>OW ls x
 | .aI st live ls,x=>(Sh.aI st live ls).ty.ok x
 | .aX st live ar t,x=>(Sh.aX st live ar t).ty.ok x
 | .dI st t,x=>(Sh.dI st t).ty.ok x
 | .bO st k v,x=>(Sh.bO st k v).ty.ok x
def aan:(ps:List Sh)→(kJ ps).den→Prop
 | [],_=>True
 | p::r,x=>p.okV x.1∧aan r x.2
def cu.okV (c:cu) (x:(Ty.cons (fJ c.pre) (kJ c.ps)).den):Prop:=OW c.pre x.1∧aan c.ps x.2
theorem Lf.okD {l:Lf} {x:l.ty.den} {v:Value} (h:bF w G pt (l.aZ x) v):l.okV x:=by
 cases l with
 | cst d=>trivial
 | int k=>exact h.2
 | bool=>trivial
 | str=>
  obtain ⟨s,_,h2,h3⟩:=h;have h2:lZ s=x:=h2;subst h2
  refine ⟨h3,fun c hc=>?_⟩
  simp only [lZ,List.mem_map] at hc;obtain ⟨u,_,rfl⟩:=hc;have:=u.toNat_lt;omega
 | sl f t=>
  obtain ⟨a,n,c,_,h2,h3,h4⟩:=h;subst h2;refine ⟨h3,?_⟩
  match f,h4 with
  | 0,h4=>
   rcases h4.2 with h5 | ⟨b,o,_,_,h5⟩
   ·have h5:x=[]:=h5
    subst h5;intro y hy;simp at hy
   ·exact fA.okD h5
  | 1,h4=>
   rcases h4 with ⟨_,h5,_⟩ | ⟨b,_,_,_,_,h5,_⟩
   ·have h5:x=[]:=h5
    subst h5;intro y hy;simp at hy
   ·exact fA.okD h5
  | 2,h4=>
   rcases h4 with ⟨_,h5,_⟩ | ⟨b,_,_,_,_,h5,_⟩
   ·have h5:x=[]:=h5
    subst h5;intro y hy;simp at hy
   ·exact fA.okD h5
  | 3,h4=>
   rcases h4 with ⟨_,h5,_⟩ | ⟨b,_,_,_,_,_,_,_,h5,_⟩
   ·have h5:x=[]:=h5
    subst h5;intro y hy;simp at hy
   ·exact fA.okD h5
  | n+4,h4=>exact h4.elim
 | iF f t=>
  obtain ⟨b,o,_,_,h3⟩:=h;exact dK.okD (t:=t) h3
 | vp t=>
  obtain ⟨b,o,_,_,_,h3⟩:=h;exact fA.okD h3 x (List.mem_singleton.2 rfl)
 | av k=>
  obtain ⟨arr,_,_,h3⟩:=h;intro y hy;obtain ⟨i,hi,rfl⟩:=List.getElem_of_mem hy;exact (h3 i hi).2
 | va k=>
  obtain ⟨b,o,_,_,h3⟩:=h;exact fA.okD (t:=.int k) h3
theorem aao:∀ {ls:List Lf} {x:(fJ ls).den} {f:Nat→Value},aP w G pt (aO ls x) f→OW ls x
 | [],_,_,_=>trivial
 | l::r,x,f,h=>⟨Lf.okD (h 0 (by simp [aO])).1,aao (f:=fun i=>f (i+1)) fun j hj=>h (j+1) (by simpa [aO] using hj)⟩
theorem Sh.okD {p:Sh} {x:p.ty.den} {v:Value} (bK:pR p=true) (h:aU w G pt (p.aZ x) v):p.okV x:=by
 cases p with
 | lf l=>
  have h0:jG l=true:=bK
  cases l with
  | cst d=>trivial
  | int k=>exact Lf.okD (w:=w) (G:=G) (pt:=pt) (l:=.int k) h
  | bool=>trivial
  | str=>exact Lf.okD (w:=w) (G:=G) (pt:=pt) (l:=.str) h
  | sl f t=>exact Lf.okD (w:=w) (G:=G) (pt:=pt) (l:=.sl f t) h
  | iF f t=>exact Lf.okD (w:=w) (G:=G) (pt:=pt) (l:=.iF f t) h
  | vp t=>exact Lf.okD (w:=w) (G:=G) (pt:=pt) (l:=.vp t) h
  | av t=>exact Lf.okD (w:=w) (G:=G) (pt:=pt) (l:=.av t) h
  | va t=>exact Lf.okD (w:=w) (G:=G) (pt:=pt) (l:=.va t) h
 | agg ls=>
  obtain ⟨arr,rfl,h2,h3⟩:=h;exact aao h3
 | aI st live ls=>cases bK
 | aX st live ar t=>cases bK
 | dI st t=>cases bK
 | bO st k v=>cases bK
theorem agq:∀ {ps:List Sh} {x:(kJ ps).den},ps.all pR=true→(∀ i,i<ps.length→∃ v,aU w G pt ((bY ps x).getD i .undef) v)→aan ps x
 | [],_,_,_=>trivial
 | p::r,x,bK,h=>by
  simp only [List.all_cons,dA] at bK
  obtain ⟨v,hv⟩:=h 0 (by simp)
  exact ⟨Sh.okD bK.1 hv,agq bK.2 fun i hi=>h (i+1) (by simpa using hi)⟩
theorem WX {c:cu} {n:Nat} {hp:Bool} {x:(Ty.cons (fJ c.pre) (kJ c.ps)).den} (bK:c.ok=true) (R:Rel (uo E n hp) C (bI c x) a w G pt):c.okV x:=by
 simp only [cu.ok,dA,Bool.or_eq_true] at bK;obtain ⟨⟨⟨⟨o1,o2⟩,o3⟩,o4⟩,o5⟩:=bK;have o2':c.ps.all pR=true:=o2;refine ⟨?_,?_⟩
 ·cases hP:c.bM with
  | false=>
   rw [hP] at o5;simp only [xD,false_or] at o5;have:=o5.1;rw [List.isEmpty_iff] at this
   have key:∀ (ls:List Lf) (y:(fJ ls).den),ls=[]→OW ls y:=by
    intro ls y h;subst h;trivial
   exact key _ _ this
  | true=>
   have hB:=R.bx 0
   have e:get (bI c x) (2*0+1) = .aI 1 true (aO c.pre x.1):=by
    unfold bI;simp [hP,aD]
   rw [e] at hB;obtain ⟨b,_,_,_,h⟩:=hB rfl;exact aao h
 ·refine agq (w:=w) (G:=G) (pt:=pt) o2' fun i hi=>?_
  have hl:=iD c.ps x.2
  cases hP:c.bM with
  | true=>
   have ht:=R.tm (i+1)
   have e:get (bI c x) (2*(i+1))=(bY c.ps x.2).getD i .undef:=by
    unfold bI;simp only [hP,aQ,kP]
    rw [aD,if_neg (by omega),aD,if_neg (by omega)]
    have:=gU (rest:=[]) (ds:=bY c.ps x.2) (i:=1) (2*(i+1));rw [List.append_nil] at this
    rw [this,if_pos ⟨by omega,by omega,by omega⟩]
    congr 1
    omega
   rw [e] at ht;exact ⟨_,ht⟩
  | false=>
   have ht:=R.tm i
   have e:get (bI c x) (2*i)=(bY c.ps x.2).getD i .undef:=by
    unfold bI;simp only [hP,bJ,kP];have:=gU (rest:=[]) (ds:=bY c.ps x.2) (i:=0) (2*i);rw [List.append_nil] at this
    rw [this,if_pos ⟨by omega,by omega,by omega⟩]
    congr 1
    omega
   rw [e] at ht;exact ⟨_,ht⟩
theorem ah5 (HP:nS P E) (aae:P.follows .mixedOrders=true) {Γ:Af} {f:Nat} {fn:Func} {Co:Plan} {c:cu} (hf:P.funcs[f]? = some fn) (hn:E.n=fn.ntmps) (hhp:E.hp=c.bM)
 (bK:c.ok=true) (Mc:c.num≤E.n) (HC:∀ C:Ctx,E.n≤C.m→2≤C.m→LP P E Γ C)
 (hF:∀ x y,c.okV x→c.F x=some y→(evF (fun _ _=>Loop) E Γ fn Co c x).den=some y):eO P E f c:=by
 intro x y hy C args w G pt hm gP iM R K hK;have hy:=hF x y (WX bK R) hy;simp only [evF] at hy;split at hy
 ·rename_i code anQ
  obtain ⟨r,hr,hl⟩:=jw hy;refine calls_of_wp hf anQ ?_
  have Ma:C.pin=none∨E.hp=true:=by rw [hhp];exact gP
  -- the frame's start
  have R1:Rel E { C with m:=E.n+2 } (bI c x) { tmps:=args++Array.replicate (fn.ntmps - args.size) undef,defers:=[] } w G pt:=by
   have eU:(args++Array.replicate (fn.ntmps - args.size) undef).size=E.n:=by
    simp only [Array.size_append,Array.size_replicate];omega
   have aap:∀ t,t<c.num→(args++Array.replicate (fn.ntmps - args.size) undef).getD t undef=args.getD t undef:=by
    intro t ht
    have h1:t<args.size:=by omega
    rw [xE,xE,Array.getElem?_append_left h1]
   have hhi:∀ t,c.num≤t→get (bI c x) (2*t) = .undef:=fun t ht=>R.ht t ht
   refine R.make rfl rfl rfl rfl eU rfl (fun t=>?_) R.bx (fun t ht=>hhi t (by omega)) (fun id hid=>R.hb id (by simp only at hid;omega)) (fun b=>?_) R.pf R.pn
   ·by_cases ht:t<c.num
    ·rw [aap t ht];exact R.tm t
    ·rw [hhi t (by omega)];trivial
   ·unfold TC
    refine Nat.add_le_add ?_ ?_
    ·rw [wL (f:=cT (bI c x) _ b) (n:=c.num) (m:=E.n) Mc fun i hi=>by rw [cT,hhi i hi];exact dX b _]
     refine Nat.le_of_eq (aG fun t ht=>?_)
     simp only [cT];rw [aap t ht]
    ·rw [wL (f:=cB (bI c x) w pt b) (n:=C.m) (m:=E.n+2) (by omega) fun i hi=>by rw [cB,R.hb i hi];rfl]
     exact bT _
  have HO:=ahY (C:={ C with m:=E.n+2 }) HP (by simp) (HC _ (by simp) (by simp))
  have:=(kZ (C:={ C with m:=E.n+2 }) (by show E.n≤E.n+2;omega) Ma HO (aad aae HO) code Co [] (bI c x) r hr).2 _ w G pt R1
  refine wp_mono this fun e a' w' hp=>?_
  obtain ⟨rfl,G',bC,R'⟩:=hp;obtain ⟨re,D6,rs⟩:=r;obtain ⟨he,vs,G2,kY,bB,R2⟩:=aam HP R' (C':=C) hm rfl rfl rfl rfl gP bK hl
  have fin:a'.defers=[]∧∃ v,(results fn a'.tmps).run P w' = .ok v w'∧K (.returned v) w':=⟨R'.df,_,bB,hK vs w' G2 kY R2⟩
  match re,he with
  | 0,_=>exact fin
  | 1,_=>exact fin
 ·cases hy
end
section
variable {P:Program} {E E':Env} {C C':Ctx} {s s':St} {a a':Act} {w w':World} {G G':Nat→Nat} {pt bC:Nat→Nat→Option Value}
def OX (P:Program) (gl:Nat→Option (IntKind×List Int)) (f:Nat) (x:XF):Prop:=
 ∀ (E:Env) (C:Ctx) (o:Oper) (c:Call) (s:St) (a:Act) (w:World) (G:Nat→Nat) (pt:Nat→Nat→Option Value) (t:Nat) (u:St),E.glob=gl→E.n≤C.m→t<E.n→o.dst=some t→o.op = .call c→c.callee = .value (.func f) →
  Rel E C s a w G pt→x t (aL (get s (2*t+1))+1) (c.args.toList.map (ZK s))=some (true,u)→OA P E C o a w (au u s)
structure dM (P:Program) (E:Env) (f:Nat) (aZ:cu):Prop where
 ok:aZ.ok=true
 sem:aZ.xf=none→eO P E f aZ
 aei:∀ x,aZ.xf=some x→OX P E.glob f x
 fn:∃ fn,P.funcs[f]? = some fn∧(fn.name == "runtime.NumGoroutine")=false∧fn.body.isNone=false
theorem aaq {f:Nat} {aZ:cu} (H:dM P E f aZ) {o:Oper} {c:Call} (aY:o.op = .call c) (hc:c.callee = .value (.func f)) :
 (execOp a.eval o).run P w = .ok (.enter f (c.args.map a.eval)) w:=by
 obtain ⟨fn,h1,h2,h3⟩:=H.fn
 have e:execOp a.eval o=callFunc f (#[]++c.args.map a.eval++#[]):=by
  simp only [execOp,aY,resolve,hc];rfl
 rw [e];simp only [callFunc]
 have Iq:¬ fn.name = "runtime.NumGoroutine":=by simpa using h2
 have Ip:¬ fn.body=none:=fun h=>by rw [h] at h3;cases h3
 simp [go_sem,h1,Iq,Ip]
theorem WY {f:Nat} {aZ:cu} (H:dM P E f aZ) (R:Rel E C s a w G pt) {o:Oper} {c:Call} (aY:o.op = .call c) (hc:∃ x,c.callee = .value x∧aV s x = .BG f) :
 (execOp a.eval o).run P w = .ok (.enter f (c.args.map a.eval)) w:=by
 obtain ⟨fn,h1,h2,h3⟩:=H.fn;obtain ⟨x,hc,hx⟩:=hc
 have hv:a.eval x = .func (.func f) #[] #[]:=by
  have:=aJ R x;rw [hx] at this;exact this
 have e:execOp a.eval o=callFunc f (#[]++c.args.map a.eval++#[]):=by
  simp only [execOp,aY,resolve,hc,hv];rfl
 rw [e];simp only [callFunc]
 have Iq:¬ fn.name = "runtime.NumGoroutine":=by simpa using h2
 have Ip:¬ fn.body=none:=fun h=>by rw [h] at h3;cases h3
 simp [go_sem,h1,Iq,Ip]
theorem aar {l:Lf} (h:ni l=true):jG l=true:=by
 cases l with
 | sl f t=>rfl
 | _=>exact h
theorem OY {l:Lf} (h:ni l=true) (x:l.ty.den) (b:Nat) (v:Value):dS b (l.aZ x) v=0:=by
 cases l with
 | sl f t=>
  have:f=0:=fD h;subst this
  cases v with
  | slice a n c=>cases a<;>simp [Lf.aZ,dS]
  | _=>rfl
 | cst d=>cases d<;>first | (simp [ni,jG] at h;done) | (cases v<;>rfl)
 | _=>cases v<;>rfl
theorem J6:∀ {ls:List Lf},ls.all ni=true→∀ (x:(fJ ls).den) (b:Nat) (f:Nat→Value),aM b (aO ls x) f=0
 | [],_,_,_,_=>rfl
 | l::r,h,x,b,f=>by
  simp only [List.all_cons,dA] at h;simp only [aO,aM,OY h.1,J6 h.2]
theorem Gv {p:Sh} (h:xI p=true) (x:p.ty.den) (b:Nat) (v:Value):dP b (p.aZ x) v=0:=by
 cases p with
 | lf l=>
  have:=OY h x b v
  cases l with
  | cst d=>cases d<;>first | exact this | (simp [xI,ni,jG] at h;done)
  | _=>exact this
 | agg ls=>
  cases v with
  | agg arr=>exact J6 h x b _
  | _=>rfl
 | aI st live ls=>cases h
 | aX st live ar t=>cases h
 | dI st t=>cases h
 | bO st k v=>cases h
theorem Lf.Md {l:Lf} {d:D} {x:l.ty.den} {v:Value} (bK:ni l=true) (hx:l.arg d=some x) (h:bF w G pt (dD d) v):bF w G bC (l.aZ x) v:=by
 have plain:l.abs (dD d)=some x→bF w G bC (l.aZ x) v:=by
  intro hx
  refine bF.ptr (pt:=pt) (fun i hi=>?_) ?_
  ·rw [wM (aar bK)] at hi;simp at hi
  ·rw [Lf.qd hx];exact h
 cases l with
 | sl f t=>
  have hf:f=0:=fD bK;subst hf
  cases d with
  | lS=>
   simp only [Lf.arg,bn] at hx;subst hx;have hv:v = .slice none 0 0:=h;subst hv
   exact ⟨none,0,0,rfl,rfl,by simp,bT _,.inl rfl⟩
  | _=>exact plain hx
 | _=>exact plain hx
def Cq (s:St) (a:Act) (pt:Nat→Nat→Option Value) (b:Nat):Prop:=
 (∃ id st ar t l,get s (2*id+1) = .aX st true ar t l∧bE (pt id st)=some b)∨∃ t,0<cT s a b t
def gV (w:World) (b:Nat):Nat:=
 match w.heap[b]? with
 | some (.cells cur _ _)=>cur.size
 | _=>0
open Classical in
noncomputable def gB (len:Bool) (s:St) (a:Act) (pt:Nat→Nat→Option Value) (w:World) (G:Nat→Nat) (b:Nat):Nat:=
 if len=true∧Cq s a pt b then gV w b else G b
theorem aas {b f:Nat} {t:Ty} {l:List t.den} (v:Value):dP b (.sl f t l) v=dS b (.sl f t l) v:=by cases v<;>rfl
theorem ah7 {b f:Nat} {t:Ty} {l:List t.den} (v:Value):Fb b (.sl f t l) v=dS b (.sl f t l) v:=by cases v<;>rfl
theorem ah8 {d:D} {v:Value} {b:Nat} (h:bF w G pt d v) (hc:0<dS b d v):G b≤gV w b:=by
 cases d with
 | sl f t l=>
  obtain ⟨a',n,c,rfl,h2,h3,h4⟩:=h
  cases a' with
  | none=>simp [dS] at hc
  | some a'=>
   simp only [dS] at hc;split at hc
   ·rename_i hf
    have key:∀ b' o' d:Nat,(some a':Option Addr)=some ⟨b',o',none⟩→G b'≤o' + d+l.length*t.nc→Room w b' (o' + d+c*t.nc)→l.length≤c→G b≤gV w b:=by
     intro b' o' d nH g1 g2 g3
     have:a'.block=b':=by
      simp only [bn] at nH;rw [nH]
     rw [hf.2] at this;subst this;obtain ⟨cur,e,fr,q1,q2,_⟩:=g2;simp only [gV,q1];exact gX g1 (gX (Nat.add_le_add_left (zF _ g3) _) q2)
    match f,hf.1,h4 with
    | 1,_,h4=>
     rcases h4 with h4 | ⟨b',e,g1,g2,g3,_,_⟩
     ·cases h4.1
     ·exact key b' 0 0 e (by omega) (by simpa using g2) g3
    | 2,_,h4=>
     rcases h4 with h4 | ⟨b',e,g1,g2,g3,_,_⟩
     ·cases h4.1
     ·exact key b' 0 0 e (by omega) (by simpa using g2) g3
    | 3,_,h4=>
     rcases h4 with h4 | ⟨b',o',d,e,g0,g1,g2,g3,_,_⟩
     ·cases h4.1
     ·obtain rfl:a' = ⟨b',o',none⟩:=Option.some.inj e
      exact key b' o' d rfl (by omega) g2 g3
    | n+4,_,h4=>exact h4.elim
   ·omega
 | _=>cases v<;>simp [dS] at hc
theorem aat:∀ {ds:List D} {f:Nat→Value} {b:Nat},aP w G pt ds f→0<aM b ds f→G b≤gV w b
 | [],_,_,_,hc=>by simp [aM] at hc
 | d::r,f,b,h,hc=>by
  simp only [aM] at hc
  by_cases h0:0<dS b d (f 0)
  ·exact ah8 (h 0 (by simp)).1 h0
  ·exact aat (ds:=r) (f:=fun i=>f (i+1)) (fun j hj=>by
    have:=h (j+1) (by simpa using hj)
    simpa using this) (by omega)
theorem aum {d:D} {v:Value} {b:Nat} (h:BH w G pt d v) (hc:0<Fb b d v):G b≤gV w b:=by
 cases d with
 | agg cs=>
  obtain ⟨arr,rfl,h2,h3⟩:=h;exact aat h3 hc
 | sl f t l=>
  rw [ah7] at hc;exact ah8 (pt:=pt) (d:=.sl f t l) h hc
 | _=>cases v<;>simp [Fb,dS] at hc
theorem agr:∀ {ds:List D} {f:Nat→Value} {b:Nat},(∀ j (h:j<ds.length),BH w G pt ds[j] (f j))→0<qQ b ds f→G b≤gV w b
 | [],_,_,_,hc=>by simp [qQ] at hc
 | d::r,f,b,h,hc=>by
  simp only [qQ] at hc
  by_cases h0:0<Fb b d (f 0)
  ·exact aum (h 0 (by simp)) h0
  ·exact agr (ds:=r) (f:=fun i=>f (i+1)) (fun j hj=>by
    have:=h (j+1) (by simpa using hj)
    simpa using this) (by omega)
theorem aun {d:D} {v:Value} {b:Nat} (h:aU w G pt d v) (hc:0<dP b d v):G b≤gV w b:=by
 cases d with
 | agg cs=>
  obtain ⟨arr,rfl,h2,h3⟩:=h;exact aat h3 hc
 | iJ vs=>
  obtain ⟨arr,rfl,h2,h3⟩:=h;exact agr h3 hc
 | fn f qC=>
  obtain ⟨arr,rfl,h2,h3,h4⟩:=h;simp [dP,dS] at hc
 | sl f t l=>
  rw [aas] at hc;exact ah8 (pt:=pt) (d:=.sl f t l) h hc
 | _=>cases v<;>simp [dP,dS] at hc
theorem Rel.sN (R:Rel E C s a w G pt) {id st:Nat} {ar:Bool} {t:Ty} {l:List t.den} (h:get s (2*id+1) = .aX st true ar t l) {b:Nat} (hb:bE (pt id st)=some b) :
 b<w.heap.size∧G b=0∧l.length*t.nc≤gV w b∧0<cB s w pt b id:=by
 have aau:0<cB s w pt b id:=by
  simp only [cB,h,gY,dh,hb,if_true];exact Nat.one_pos
 have aT:=(R.cb b (mK aau (R.jq b id))).1;obtain ⟨g1,g2,g3⟩:=wB R h hb;refine ⟨aT,g3,?_,aau⟩;obtain ⟨cur,e,fr,q1,q2,_⟩:=g2;simp only [gV,q1];exact q2
theorem Rel.OZ (R:Rel E C s a w G pt) {b:Nat} (h:Cq s a pt b):b<w.heap.size∧G b≤gV w b∧0<TC E.n C.m s a w pt b:=by
 rcases h with ⟨id,st,ar,t,l,h1,h2⟩ | ⟨t,h⟩
 ·obtain ⟨q1,q2,q3,q4⟩:=R.sN h1 h2
  exact ⟨q1,by omega,mK q4 (R.jq b id)⟩
 ·have:=mK h (R.qZ b t)
  exact ⟨(R.cb b this).1,aun (R.tm t) h,this⟩
theorem Rel.wO (R:Rel E C s a w G pt) (len:Bool):Ext w G w (gB len s a pt w G):=by
 refine ⟨fun _ _ _=>rfl,fun b=>?_⟩
 unfold gB;split
 ·rename_i h
  exact (R.OZ h.2).2.1
 ·exact bT _
theorem Rel.anR (R:Rel E C s a w G pt) (len:Bool):∀ b,w.heap.size≤b→gB len s a pt w G b=0:=by
 intro b hb;unfold gB;split
 ·rename_i h
  have:=(R.OZ h.2).1;omega
 ·exact R.gz b hb
theorem aej {cs:List D} {v:Value} (h:aU w G pt (view (.agg cs)) v):∃ arr,v = .agg arr∧arr.size=cs.length∧aP w G pt (cs.map dD) (aS arr):=by
 obtain ⟨arr,h1,h2,h3⟩:=h
 exact ⟨arr,h1,by simpa using h2,h3⟩
def RO:D→Bool
 | .agg _ | .iJ _ | .fn _ _ | .aI _ _ _ | .aX _ _ _ _ _ | .dI _ _ _ _ | .bO _ _ _ _ | .fU _ _ | .Jr _ _ _ | .VO _ _ _ _ _=>true
 | _=>false
theorem Ay {l:Lf} {d:D} {x:l.ty.den} (hd:RO d=true) (bK:ni l=true) (h:l.arg d=some x):False:=by
 cases l with
 | cst d0=>
  cases d0<;>first | (cases bK;done) | (cases d<;>first | (cases hd;done) | (cases h;done))
 | _=>cases d<;>first | (cases hd;done) | (cases h;done) | (simp [Lf.arg,Lf.abs,dD] at h)
theorem u7 {l:Lf} {d:D} {x:l.ty.den} (hd:RO d=true) (hr:isR d=false) (bK:ni l=true) (h:l.Iw s d=some x):False:=by
 have h':l.arg d=some x:=by
  cases l with
  | sl f t=>cases d<;>first | exact h | (cases hr;done)
  | va k=>cases d<;>first | exact h | (cases hr;done)
  | _=>exact h
 exact Ay hd bK h'
theorem J7 (R:Rel E C s a w G pt) {l:Lf} {d:D} {x:l.ty.den} {v:Value} {len:Bool} (bK:ni l=true) (hx:l.Iw s d=some x) (hv:bF w (gB len s a pt w G) pt (dD d) v)
 (hlen:isR d=true→len=true):bF w (gB len s a pt w G) bC (l.aZ x) v:=by
 cases hd:isR d with
 | false=>
  have h':l.arg d=some x:=by
   cases l with
   | sl f t=>cases d<;>first | exact hx | (cases hd;done)
   | va k=>cases d<;>first | exact hx | (cases hd;done)
   | _=>exact hx
  exact Lf.Md bK h' hv
 | true=>
  cases d with
  | fU id st=>
   have hl:len=true:=hlen rfl
   cases l with
   | sl f t=>
    have hf:f=0:=fD bK;subst hf;simp only [Lf.Iw] at hx;split at hx
    ·rename_i st' t' l hb
     cases hc:Nat.beq st st' with
     | false=>rw [hc] at hx;cases hx
     | true=>
      rw [hc] at hx;simp only [aQ] at hx;have hc:=fD hc;subst hc;split at hx
      ·rename_i hty
       have hty:=Ty.eq_of_beq hty;subst hty;simp only [bn] at hx;have hx:l=x:=hx;subst hx;have hv:pt id st=some v:=hv;have hB:=R.bx id;rw [hb] at hB;obtain ⟨a',n,c,h1,h2,h3,h4⟩:=hB rfl;rw [hv] at h1;simp only [bn] at h1;refine ⟨a',n,c,h1,h2,h3,?_⟩
       rcases h4 with ⟨rfl,rfl,rfl⟩ | ⟨b,rfl,g1,g2,g3,g4,g5⟩
       ·exact ⟨bT _,.inl rfl⟩
       ·have hblk:bE (pt id st)=some b:=by rw [hv,h1];rfl
        refine ⟨g3,.inr ⟨b,0,rfl,?_,g4.mono (R.wO len) fun _ _ _=>rfl⟩⟩
        rw [Nat.zero_add];have hL:Cq s a pt b:=.inl ⟨id,st,_,t',l,hb,hblk⟩;unfold gB;rw [if_pos ⟨hl,hL⟩];exact (R.sN hb hblk).2.2.1
      ·cases hx
    ·cases hx
   | cst d0=>exact (Ay (l:=.cst d0) (d:=.fU id st) rfl bK hx).elim
   | int k=>exact (Ay (l:=.int k) (d:=.fU id st) rfl bK hx).elim
   | bool=>exact (Ay (l:=.bool) (d:=.fU id st) rfl bK hx).elim
   | str=>exact (Ay (l:=.str) (d:=.fU id st) rfl bK hx).elim
   | iF f t=>exact (Ay (l:=.iF f t) (d:=.fU id st) rfl bK hx).elim
   | vp t=>exact (Ay (l:=.vp t) (d:=.fU id st) rfl bK hx).elim
   | av k=>exact (Ay (l:=.av k) (d:=.fU id st) rfl bK hx).elim
   | va k=>exact (Ay (l:=.va k) (d:=.fU id st) rfl bK hx).elim
  | ptr id st off=>
   have hl:len=true:=hlen rfl
   have other:∀ {l:Lf} {x:l.ty.den},ni l=true→l.arg (.ptr id st off)=some x→False:=by
    intro l x bK hx
    cases l with
    | cst d0=>cases d0<;>first | (cases bK;done) | (cases hx;done)
    | _=>first | (cases hx;done) | (simp [Lf.arg,Lf.abs,dD] at hx)
   cases l with
   | va k=>
    cases off with
    | succ n=>exact (other bK hx).elim
    | zero=>
     simp only [Lf.Iw] at hx;split at hx
     ·rename_i st' k' l hb
      cases hc:(Nat.beq st st' && mZ k k') with
      | false=>rw [hc] at hx;cases hx
      | true=>
       rw [hc] at hx;simp only [aQ,bn] at hx;simp only [dA] at hc;have rz:=fD hc.1;have zI:=gW hc.2;subst rz;subst zI;have hx:l=x:=hx;subst hx;obtain ⟨b,hblk,hv⟩:=hv;obtain ⟨g1,g2,g3⟩:=wB R hb hblk
       refine ⟨b,0,hv,?_,g1.mono (R.wO len) fun _ _ _=>rfl⟩
       rw [Nat.zero_add];have hL:Cq s a pt b:=.inl ⟨id,st,_,_,l,hb,hblk⟩;unfold gB;rw [if_pos ⟨hl,hL⟩];have:=(R.sN hb hblk).2.2.1
       simpa [Ty.nc] using this
     ·cases hx
   | sl f t=>exact (other (l:=.sl f t) bK hx).elim
   | cst d0=>exact (other (l:=.cst d0) bK hx).elim
   | int k=>exact (other (l:=.int k) bK hx).elim
   | bool=>exact (other (l:=.bool) bK hx).elim
   | str=>exact (other (l:=.str) bK hx).elim
   | iF f t=>exact (other (l:=.iF f t) bK hx).elim
   | vp t=>exact (other (l:=.vp t) bK hx).elim
   | av k=>exact (other (l:=.av k) bK hx).elim
  | _=>cases hd
theorem Dx (R:Rel E C s a w G pt) {len:Bool}:∀ {ls:List Lf} {ds:List D} {x:(fJ ls).den} {f:Nat→Value},ls.all ni=true→sM s ls ds=some x →
 aP w (gB len s a pt w G) pt (ds.map dD) f→(∀ d∈ds,isR d=true→len=true)→aP w (gB len s a pt w G) bC (aO ls x) f∧(aO ls x).length=ds.length
 | [],[],_,_,_,_,h,_=>⟨fun j hj=>by simp [aO] at hj,rfl⟩
 | [],_::_,_,_,_,h,_,_=>by simp [sM] at h
 | _::_,[],_,_,_,h,_,_=>by simp [sM] at h
 | l::r,d::ds,x,f,bK,hx,h,hl=>by
  simp only [List.all_cons,dA] at bK;simp only [sM] at hx;split at hx
  ·rename_i y z h1 h2
   simp only [bn] at hx;subst hx
   have hd:=h 0 (by simp)
   have q1:=J7 (bC:=bC) R bK.1 h1 hd.1 (hl d (by simp))
   obtain ⟨p1,p2⟩:=Dx R (f:=fun i=>f (i+1)) bK.2 h2 (fun j hj=>by
    have:=h (j+1) (by simpa using hj)
    simpa using this) (fun d' hd'=>hl d' (kE _ hd'))
   refine ⟨fun j hj=>?_,by simp [aO,p2]⟩
   cases j with
   | zero=>exact ⟨q1,hd.2⟩
   | succ j=>exact p1 j (by simpa [aO] using hj)
  ·cases hx
theorem Md (R:Rel E C s a w G pt) {p:Sh} {d:D} {x:p.ty.den} {v:Value} {len:Bool} (bK:xI p=true) (hx:p.arg s d=some x) (hv:aU w (gB len s a pt w G) pt (view d) v)
 (hlen:jR d=true→len=true):aU w (gB len s a pt w G) bC (p.aZ x) v:=by
 cases p with
 | lf l=>
  have Me:ni l=true:=bK;have hx:l.Iw s d=some x:=hx
  -- a leaf
  have anS:bF w (gB len s a pt w G) bC (l.aZ x) v→aU w (gB len s a pt w G) bC (Sh.aZ (.lf l) x) v:=by
   intro h
   cases l with
   | cst d0=>cases d0<;>first | exact h | (simp [ni,jG] at Me)
   | _=>exact h
  have plain:bF w (gB len s a pt w G) pt (dD d) v→(isR d=true→len=true)→aU w (gB len s a pt w G) bC (Sh.aZ (.lf l) x) v:=
   fun h2 h3=>anS (J7 R Me hx h2 h3)
  cases d with
  | agg cs=>exact (u7 (d:=.agg cs) rfl rfl Me hx).elim
  | iJ cs=>exact (u7 (d:=.iJ cs) rfl rfl Me hx).elim
  | fn f cs=>exact (u7 (d:=.fn f cs) rfl rfl Me hx).elim
  | aI st l cs=>exact (u7 (d:=.aI st l cs) rfl rfl Me hx).elim
  | aX st l ar t ls=>exact (u7 (d:=.aX st l ar t ls) rfl rfl Me hx).elim
  | dI st t l h'=>exact (u7 (d:=.dI st t l h') rfl rfl Me hx).elim
  | bO st k v l=>exact (u7 (d:=.bO st k v l) rfl rfl Me hx).elim
  | _=>exact plain hv hlen
 | agg ls=>
  cases d with
  | agg cs=>
   simp only [Sh.arg] at hx;obtain ⟨arr,rfl,h2,h3⟩:=aej hv
   obtain ⟨q1,q2⟩:=Dx (bC:=bC) R bK hx h3 (fun d hd hr=>hlen (List.any_eq_true.2 ⟨d,hd,hr⟩))
   exact ⟨arr,rfl,by rw [h2];exact q2.symm,q1⟩
  | _=>simp [Sh.arg] at hx
 | aI st live ls=>cases bK
 | aX st live ar t=>cases bK
 | dI st t=>cases bK
 | bO st k v=>cases bK
theorem Lf.vg {l:Lf} {d:D} {x:l.ty.den} {v:Value} (bK:jG l=true) (hx:l.give d=some x) (h:bF w G pt d v):bF w G bC (l.aZ x) v∧∀ b,dS b (l.aZ x) v=dS b d v:=by
 have plain:l.abs d=some x→bF w G bC (l.aZ x) v∧∀ b,dS b (l.aZ x) v=dS b d v:=by
  intro hx;have e:=Lf.qd hx
  refine ⟨bF.ptr (pt:=pt) (fun i hi=>?_) (by rw [e];exact h),fun b=>by rw [e]⟩
  rw [wM bK] at hi;simp at hi
 cases l with
 | sl f t=>
  cases d with
  | lS=>
   simp only [Lf.give] at hx
   cases hf:Nat.blt f 3 with
   | false=>rw [hf] at hx;cases hx
   | true=>
    rw [hf] at hx;simp only [aQ,bn] at hx;subst hx;have hv:v = .slice none 0 0:=h;subst hv;have hf:=Ii hf
    refine ⟨⟨none,0,0,rfl,rfl,by simp,?_⟩,fun b=>rfl⟩
    match f,hf with
    | 0,_=>exact ⟨bT _,.inl rfl⟩
    | 1,_=>exact .inl ⟨rfl,rfl,rfl⟩
    | 2,_=>exact .inl ⟨rfl,rfl,rfl⟩
    | n+3,h=>omega
  | _=>exact plain hx
 | _=>exact plain hx
theorem Gw:∀ {ls:List Lf} {ds:List D} {x:(fJ ls).den} {f:Nat→Value},ls.all jG=true→BU ls ds=some x→aP w G pt ds f →
 aP w G bC (aO ls x) f∧(aO ls x).length=ds.length∧∀ b,aM b (aO ls x) f=aM b ds f
 | [],[],_,_,_,_,h=>⟨fun j hj=>by simp [aO] at hj,rfl,fun _=>rfl⟩
 | [],_::_,_,_,_,h,_=>by simp [BU] at h
 | _::_,[],_,_,_,h,_=>by simp [BU] at h
 | l::r,d::ds,x,f,bK,hx,h=>by
  simp only [List.all_cons,dA] at bK;simp only [BU] at hx;split at hx
  ·rename_i y z h1 h2
   simp only [bn] at hx;subst hx
   have hd:=h 0 (by simp)
   obtain ⟨q1,q2⟩:=Lf.vg (bC:=bC) bK.1 h1 hd.1
   obtain ⟨p1,p2,p3⟩:=Gw (f:=fun i=>f (i+1)) bK.2 h2 (fun j hj=>by
    have:=h (j+1) (by simpa using hj)
    simpa using this)
   refine ⟨fun j hj=>?_,by simp [aO,p2],fun b=>?_⟩
   ·cases j with
    | zero=>exact ⟨q1,hd.2⟩
    | succ j=>exact p1 j (by simpa [aO] using hj)
   ·simp only [aO,aM]
    rw [q2 b,p3 b]
  ·cases hx
theorem vg {p:Sh} {d:D} {x:p.ty.den} {v:Value} (bK:pR p=true) (hx:p.give d=some x) (h:aU w G pt d v):aU w G bC (p.aZ x) v∧∀ b,dP b (p.aZ x) v=dP b d v:=by
 have anT:∀ {l:Lf} {x:l.ty.den},jG l=true→bF w G bC (l.aZ x) v→aU w G bC (Sh.aZ (.lf l) x) v:=by
  intro l x bK h
  cases l with
  | cst d0=>cases d0<;>first | exact h | (simp [jG] at bK)
  | _=>exact h
 have anU:∀ {l:Lf} {x:l.ty.den} (b:Nat),jG l=true→dP b (Sh.aZ (.lf l) x) v=dS b (l.aZ x) v:=by
  intro l x b bK
  cases l with
  | cst d0=>cases d0<;>first | rfl | (simp [jG] at bK)
  | _=>rfl
 cases p with
 | lf l=>
  have aek:jG l=true:=bK
  have no:∀ {P:Prop},l.give d=some x→RO d=true→P:=by
   intro P h0 h1;exfalso
   cases l with
   | cst d0=>
    cases d0<;>first | (simp [jG] at aek;done) | (cases d<;>first | (cases h1;done) | (simp [Lf.give,Lf.abs,keq] at h0;done) | (cases h0;done))
   | _=>cases d<;>first | (cases h1;done) | (simp [Lf.give,Lf.abs] at h0;done) | (cases h0;done)
  cases d with
  | agg cs=>exact no hx rfl
  | iJ cs=>exact no hx rfl
  | fn f cs=>exact no hx rfl
  | aI st l cs=>exact no hx rfl
  | aX st l ar t ls=>exact no hx rfl
  | dI st t l h'=>exact no hx rfl
  | bO st k v l=>exact no hx rfl
  | _=>
   obtain ⟨h1,h2⟩:=Lf.vg (pt:=pt) (bC:=bC) aek hx h
   exact ⟨anT aek h1,fun b=>by rw [anU b aek,h2 b];rfl⟩
 | agg ls=>
  cases d with
  | agg cs=>
   simp only [Sh.give] at hx;obtain ⟨arr,rfl,h2,h3⟩:=h;obtain ⟨q1,q2,q3⟩:=Gw (pt:=pt) (bC:=bC) bK hx h3
   exact ⟨⟨arr,rfl,by rw [h2];exact q2.symm,q1⟩,fun b=>q3 b⟩
  | _=>simp [Sh.give] at hx
 | aI st live ls=>cases bK
 | aX st live ar t=>cases bK
 | dI st t=>cases bK
 | bO st k v=>cases bK
theorem fK {d:D} {v:Value} {Gl:Nat→Nat} (hE:Ext w G w Gl) (h:bF w G pt d v) (hc:∀ b,0<dS b d v→Gl b=gV w b):bF w Gl pt (dD d) v:=by
 have plain:(∀ b,dS b d v=0)→bF w Gl pt (dD d) v:=fun h0=>by
  refine bF.mono hE (fun _ _ _ h=>h) (h.view0 h0) fun b hb=>?_
  have h1:dS b (dD d) v=0:=by
   cases d with
   | sl f t l=>cases v with
    | slice a' n c=>cases a'<;>simp [dD,dS]
    | _=>rfl
   | _=>exact h0 b
  omega
 cases d with
 | sl f t l=>
  obtain ⟨a',n,c,rfl,h2,h3,h4⟩:=h
  by_cases h0:∀ b,dS b (.sl f t l) (.slice a' n c)=0
  ·exact plain h0
  ·obtain ⟨b,hb⟩:∃ b,dS b (.sl f t l) (.slice a' n c)≠0:=Classical.not_forall.1 h0
   have hb:0<dS b (.sl f t l) (.slice a' n c):=by omega
   have hg:=hc b hb
   cases a' with
   | none=>simp [dS] at hb
   | some a'=>
    simp only [dS] at hb;split at hb
    ·rename_i hf
     have key:∀ b' o':Nat,(some a':Option Addr)=some ⟨b',o',none⟩→Room w b' (o' + c*t.nc)→l.length≤c→fA w G t l b' o'→bF w Gl pt (.sl 0 t l) (.slice (some a') n c):=by
      intro b' o' nH g2 g3 g4;simp only [bn] at nH;subst nH;have e:b' = b:=hf.2;subst e
      refine ⟨_,n,c,rfl,h2,h3,g3,.inr ⟨b',o',rfl,?_,g4.mono hE fun _ _ _=>rfl⟩⟩
      rw [hg];obtain ⟨cur,e,fr,q1,q2,_⟩:=g2;simp only [gV,q1];exact gX (Nat.add_le_add_left (zF _ g3) _) q2
     match f,hf.1,h4 with
     | 1,_,h4=>
      rcases h4 with h4 | ⟨b',e,g1,g2,g3,g4,_⟩
      ·cases h4.1
      ·exact key b' 0 e (by simpa using g2) g3 g4
     | 2,_,h4=>
      rcases h4 with h4 | ⟨b',e,g1,g2,g3,g4,_⟩
      ·cases h4.1
      ·exact key b' 0 e (by simpa using g2) g3 g4
     | 3,_,h4=>
      rcases h4 with h4 | ⟨b',o',d,e,g0,g1,g2,g3,g4,_⟩
      ·cases h4.1
      ·exact key b' o' e (let ⟨cur,e,fr,k1,k2,k3⟩:=g2;⟨cur,e,fr,k1,by omega,k3⟩) g3 g4
     | n+4,_,h4=>exact h4.elim
    ·omega
 | _=>exact plain fun b=>by cases v<;>rfl
theorem WZ {ds:List D} {f:Nat→Value} {Gl:Nat→Nat} (hE:Ext w G w Gl) (h:aP w G pt ds f) (hc:∀ b,0<aM b ds f→Gl b=gV w b):aP w Gl pt (ds.map dD) f:=by
 intro j hj
 have nR:j<ds.length:=by simpa using hj
 rw [List.getElem_map]
 exact ⟨fK hE (h j nR).1 fun b hb=>hc b (mK hb (kI j nR)),(h j nR).2⟩
theorem ael {d:D} {v:Value} {Gl:Nat→Nat} (hE:Ext w G w Gl) (ht:fZ d=false) (h:aU w G pt d v) (hc:∀ b,0<dP b d v→Gl b=gV w b):aU w Gl pt (view d) v:=by
 cases d with
 | agg cs=>
  obtain ⟨arr,rfl,h2,h3⟩:=h
  exact ⟨arr,rfl,by simpa using h2,WZ hE h3 hc⟩
 | iJ vs=>cases ht
 | fn f qC=>
  refine aU.mono hE (fun _ _ _ h=>h) (d:=.fn f qC) h fun b hb=>?_
  obtain ⟨arr,rfl,_⟩:=h;simp [dP,dS] at hb
 | sl f t l=>exact fK (pt:=pt) (d:=.sl f t l) hE h fun b hb=>hc b (by rw [aas];exact hb)
 | aI st l cs=>exact h.elim
 | aX st l ar t ls=>exact h.elim
 | dI st t l h'=>exact h.elim
 | bO st k v l=>exact h.elim
 | DW st l=>exact h.elim
 | undef=>trivial
 | bool x=>exact fK (pt:=pt) (d:=.bool x) hE h fun b hb=>by cases v<;>simp [dS] at hb
 | int k n=>exact fK (pt:=pt) (d:=.int k n) hE h fun b hb=>by cases v<;>simp [dS] at hb
 | str x=>exact fK (pt:=pt) (d:=.str x) hE h fun b hb=>by cases v<;>simp [dS] at hb
 | lS=>exact fK (pt:=pt) (d:=.lS) hE h fun b hb=>by cases v<;>simp [dS] at hb
 | ptr i st off=>exact fK (pt:=pt) (d:=.ptr i st off) hE h fun b hb=>by cases v<;>simp [dS] at hb
 | uE i st j off es=>exact fK (pt:=pt) (d:=.uE i st j off es) hE h fun b hb=>by cases v<;>simp [dS] at hb
 | BF g off=>exact fK (pt:=pt) (d:=.BF g off) hE h fun b hb=>by cases v<;>simp [dS] at hb
 | jQ t l i off=>exact fK (pt:=pt) (d:=.jQ t l i off) hE h fun b hb=>by cases v<;>simp [dS] at hb
 | csl t l=>exact fK (pt:=pt) (d:=.csl t l) hE h fun b hb=>by cases v<;>simp [dS] at hb
 | fU i st=>exact fK (pt:=pt) (d:=.fU i st) hE h fun b hb=>by cases v<;>simp [dS] at hb
 | BG f=>exact fK (pt:=pt) (d:=.BG f) hE h fun b hb=>by cases v<;>simp [dS] at hb
 | iF f t x=>exact fK (pt:=pt) (d:=.iF f t x) hE h fun b hb=>by cases v<;>simp [dS] at hb
 | VO i st nc o n=>exact fK (pt:=pt) (d:=.VO i st nc o n) hE h fun b hb=>by cases v<;>simp [dS] at hb
 | Jr i st n=>exact fK (pt:=pt) (d:=.Jr i st n) hE h fun b hb=>by cases v<;>simp [dS] at hb
 | av k l=>exact fK (pt:=pt) (d:=.av k l) hE h fun b hb=>by cases v<;>simp [dS] at hb
 | vpa k l=>exact fK (pt:=pt) (d:=.vpa k l) hE h fun b hb=>by cases v<;>simp [dS] at hb
theorem Gx {p:Sh} (h:pR p=true) (ho:ownSh p=false):xI p=true:=by
 have leaf:∀ {l:Lf},jG l=true→Uo l=false→ni l=true:=by
  intro l h1 h2
  cases l with
  | sl f t=>
   simp only [Uo,Bool.not_eq_false'] at h2;exact h2
  | _=>exact h1
 cases p with
 | lf l=>exact leaf h ho
 | agg ls=>
  simp only [pR,xI,ownSh,List.all_eq_true,List.any_eq_false] at *;intro l hl
  exact leaf (h l hl) (by simpa using ho l hl)
 | aI st live ls=>cases h
 | aX st live ar t=>cases h
 | dI st t=>cases h
 | bO st k v=>cases h
end
theorem dK.flat {w:World} {G G':Nat→Nat}:∀ {t:Ty} {x:t.den} {b o:Nat},JH t=true→dK w G t x b o→dK w G' t x b o
 | .int k,n,b,o,_,h=>h
 | .bool,_,_,_,_,h=>h
 | .str,_,_,_,_,h=>h
 | .sl _,_,_,_,hf,_=>by cases hf
 | .unit,_,_,_,_,_=>trivial
 | .cons a c,x,b,o,hf,h=>by
  simp only [JH,dA] at hf;simp only [dK] at h ⊢;exact ⟨h.1.flat hf.1,h.2.flat hf.2⟩
 | .st _ c,x,b,o,hf,h=>by
  simp only [dK] at h ⊢;exact dK.flat (t:=c) hf h
section
variable {P:Program} {E E':Env} {C C':Ctx} {s s':St} {a a':Act} {w w':World} {G G':Nat→Nat} {pt bC:Nat→Nat→Option Value}
theorem Lf.Gy {l:Lf} {x:l.ty.den} {v:Value} (bK:jG l=true) (hG:(∀ b,G' b=G b)∨mQ l=true) (hc:∀ b,0<dS b (l.aZ x) v→G' b=G b) (h:bF w G pt (l.aZ x) v):bF w G' bC (l.aZ x) v:=by
 have h1:bF w G bC (l.aZ x) v:=h.ptr fun i hi=>by rw [wM bK] at hi;simp at hi
 rcases hG with hG | hG
 ·rw [show G' = G from funext hG];exact h1
 ·cases l with
  | sl f t=>
   obtain ⟨a',n,c,q1,q2,q3,q4⟩:=h1;subst q1;refine ⟨a',n,c,rfl,q2,q3,?_⟩;simp only [mQ,dA,Bool.not_eq_true'] at hG
   have hf:f≠0:=fun h0=>by subst h0;cases hG.1
   match f,hf,hc,q4 with
   | 1,_,hc,q4=>
    rcases q4 with q4 | ⟨b,rfl,g1,g2,g3,g4,g5⟩
    ·exact .inl q4
    ·have:G' b=G b:=hc b (by simp [Lf.aZ,dS])
     exact .inr ⟨b,rfl,by rw [this];exact g1,g2,g3,fun i hi=>(g4 i hi).flat hG.2,g5⟩
   | 2,_,hc,q4=>
    rcases q4 with q4 | ⟨b,rfl,g1,g2,g3,g4,g5⟩
    ·exact .inl q4
    ·have:G' b=G b:=hc b (by simp [Lf.aZ,dS])
     exact .inr ⟨b,rfl,by rw [this];exact g1,g2,g3,fun i hi=>(g4 i hi).flat hG.2,g5⟩
   | 3,_,hc,q4=>
    rcases q4 with q4 | ⟨b,o,d,rfl,g0,g1,g2,g3,g4,g5⟩
    ·exact .inl q4
    ·have:G' b=G b:=hc b (by simp [Lf.aZ,dS])
     exact .inr ⟨b,o,d,rfl,g0,by rw [this];exact g1,g2,g3,fun i hi=>(g4 i hi).flat hG.2,g5⟩
   | n+4,_,_,q4=>exact q4.elim
  | cst d=>cases d<;>first | exact h1 | (simp [mQ] at hG;done)
  | iF f t=>cases hG
  | vp t=>cases hG
  | va t=>cases hG
  | _=>exact h1
theorem Az:∀ {ls:List Lf} {x:(fJ ls).den} {f:Nat→Value},ls.all jG=true→((∀ b,G' b=G b)∨ls.all mQ=true)→(∀ b,0<aM b (aO ls x) f→G' b=G b) →
 aP w G pt (aO ls x) f→aP w G' bC (aO ls x) f
 | [],_,_,_,_,_,_=>fun j hj=>by simp [aO] at hj
 | l::r,x,f,bK,hG,hc,h=>by
  simp only [List.all_cons,dA] at bK
  have h0:=h 0 (by simp [aO])
  have hr:=Az (ls:=r) (x:=x.2) (f:=fun i=>f (i+1)) bK.2 (hG.imp id fun h=>by simp only [List.all_cons,dA] at h;exact h.2)
   (fun b hb=>hc b (by simp only [aO,aM];omega)) (fun j hj=>h (j+1) (by simpa [aO] using hj))
  intro j hj
  cases j with
  | zero=>exact ⟨Lf.Gy bK.1 (hG.imp id fun h=>by simp only [List.all_cons,dA] at h;exact h.1) (fun b hb=>hc b (by simp only [aO,aM];omega)) h0.1,h0.2⟩
  | succ j=>exact hr j (by simpa [aO] using hj)
theorem Sh.Gy {p:Sh} {x:p.ty.den} {v:Value} (bK:pR p=true) (hG:(∀ b,G' b=G b)∨noView p=true) (hc:∀ b,0<dP b (p.aZ x) v→G' b=G b) (h:aU w G pt (p.aZ x) v):aU w G' bC (p.aZ x) v:=by
 cases p with
 | lf l=>
  have h0:jG l=true:=bK;have key:=Lf.Gy (w:=w) (pt:=pt) (bC:=bC) (x:=x) (v:=v) h0 hG
  cases l with
  | cst d=>cases d<;>first | exact key hc h | (cases h0;done)
  | _=>exact key hc h
 | agg ls=>
  obtain ⟨arr,rfl,h2,h3⟩:=h;exact ⟨arr,rfl,h2,Az bK hG hc h3⟩
 | aI st live ls=>cases bK
 | aX st live ar t=>cases bK
 | dI st t=>cases bK
 | bO st k v=>cases bK
def Mf (hp:Bool) (pt:Nat→Nat→Option Value) (id st:Nat):Nat→Nat→Option Value:=
 fun i j=>if i=0∧j=1∧hp=true then pt id st else none
def inC (hp:Bool) (s:St) (w:World) (pt:Nat→Nat→Option Value) (G:Nat→Nat) (id st:Nat) (gv:Nat→Nat):Ctx:=
 { m:=2,w0:=w,G0:=G,X:=fun b=>(hp=true∧0<cB s w pt b id)∨0<gv b,pin:=if hp=true then pt id st else none }
def cu.k0 (c:cu):Nat:=bif c.bM then 1 else 0
theorem cu.Ct (c:cu):c.num=c.k0+c.ps.length:=rfl
theorem W9 (c:cu) (x:(Ty.cons (fJ c.pre) (kJ c.ps)).den) :
 (∀ i,get (bI c x) (2*i+1)=if c.bM=true∧i=0 then .aI 1 true (aO c.pre x.1) else .undef) ∧
 (∀ t,get (bI c x) (2*t)=if c.bM=true∧t=0 then .ptr 0 1 0 else if c.k0≤t∧t<c.num then (bY c.ps x.2).getD (t - c.k0) .undef else .undef):=by
 have e:∀ k,get (bI c x) k=if c.bM=true∧k=1 then .aI 1 true (aO c.pre x.1) else if c.bM=true∧k=0 then .ptr 0 1 0 else get (kC c.k0 (bY c.ps x.2)++[]) k:=by
  intro k;unfold bI cu.k0
  cases c.bM with
  | true=>
   simp only [aQ,aD,true_and,kP,List.append_nil]
  | false=>
   simp only [bJ,xD,false_and,if_false,kP,List.append_nil]
 have hl:=iD c.ps x.2;constructor
 ·intro i
  rw [e,gU]
  by_cases h:c.bM=true∧i=0
  ·rw [if_pos h,if_pos ⟨h.1,by omega⟩]
  ·rw [if_neg h,if_neg (fun hh=>h ⟨hh.1,by omega⟩),if_neg (fun hh=>by omega),if_neg (by omega)]
   rfl
 ·intro t
  rw [e,gU,if_neg (fun hh=>by omega)]
  by_cases h:c.bM=true∧t=0
  ·rw [if_pos h,if_pos ⟨h.1,by omega⟩]
  ·rw [if_neg h,if_neg (fun hh=>h ⟨hh.1,by omega⟩)]
   have e2:2*t / 2=t:=by omega
   have e1:2*t%2=0:=by omega
   rw [hl,e2,cu.Ct]
   by_cases h2:c.k0≤t∧t<c.k0+c.ps.length
   ·rw [if_pos h2,if_pos ⟨e1,h2⟩]
   ·rw [if_neg h2,if_neg (fun hh=>h2 hh.2)];rfl
theorem qo:∀ (l:List Sh) (x:(kJ l).den) (i:Nat),i<l.length→∃ (p:Sh) (y:p.ty.den),p∈l∧(bY l x).getD i .undef=p.aZ y
 | [],_,_,h=>by simp at h
 | p::r,x,0,_=>⟨p,x.1,by simp,rfl⟩
 | p::r,x,i+1,h=>by
  obtain ⟨q,y,h1,h2⟩:=qo r x.2 i (by simpa using h)
  exact ⟨q,y,kE _ h1,h2⟩
theorem aav (R:Rel E C s a w G pt) {c:cu} (bK:c.ok=true) {x:(Ty.cons (fJ c.pre) (kJ c.ps)).den} {id st:Nat}
 (hb:c.bM=true→get s (2*id+1) = .aI st true (aO c.pre x.1)) {vals:List Value} (hl:vals.length=c.num)
 (Uz:c.bM=true→∃ bR,bE (pt id st)=some bR∧vals.getD 0 undef = .pointer (some ⟨bR,0,none⟩))
 {Gi:Nat→Nat} (hE:Ext w G w Gi) (hx:∀ b,c.bM=true→0<cB s w pt b id→Gi b=G b) (hz:∀ b,w.heap.size≤b→Gi b=0)
 (hvd:∀ i,i<c.ps.length→aU w Gi (Mf c.bM pt id st) ((bY c.ps x.2).getD i .undef) (vals.getD (c.k0+i) undef))
 {gv:Nat→Nat} (hg0:∀ b,cO c.ps.length (fun i=>dP b ((bY c.ps x.2).getD i .undef) (vals.getD (c.k0+i) undef))=gv b)
 (Uf:∀ b,TC E.n C.m s a w pt b+gv b≤1) (Zq:∀ b,0<gv b→b<w.heap.size) :
 Rel (uo E c.num c.bM) (inC c.bM s w pt Gi id st gv) (bI c x) { tmps:=vals.toArray,defers:=[] } w Gi (Mf c.bM pt id st):=by
 obtain ⟨yE,IG⟩:=W9 c x;simp only [cu.ok,dA] at bK;obtain ⟨⟨⟨⟨o1,o2⟩,o3⟩,o4⟩,o5⟩:=bK
 have Y4:∀ t,(vals.toArray.getD t undef)=vals.getD t undef:=fun t=>by simp [List.getD]
 have hp1:c.bM=true→Mf c.bM pt id st 0 1=pt id st:=fun h=>by simp [Mf,h]
 have tz0:∀ b,c.bM=true→cT (bI c x) { tmps:=vals.toArray,defers:=[] } b 0=0:=by
  intro b h;simp only [cT];rw [IG,if_pos ⟨h,rfl⟩];generalize (vals.toArray.getD 0 undef)=v
  cases v<;>rfl
 have tzi:∀ i b,i<c.ps.length→cT (bI c x) { tmps:=vals.toArray,defers:=[] } b (c.k0+i)=dP b ((bY c.ps x.2).getD i .undef) (vals.getD (c.k0+i) undef):=by
  intro i b hi;simp only [cT]
  rw [IG,Y4,if_neg ?_,if_pos ⟨Nat.le_add_right _ _,by have:=c.Ct;omega⟩,show c.k0+i - c.k0=i by omega]
  rintro ⟨h,h'⟩
  have:c.k0=1:=by unfold cu.k0;rw [h];rfl
  omega
 have ts:∀ b,cO c.num (cT (bI c x) { tmps:=vals.toArray,defers:=[] } b)=gv b:=by
  intro b;rw [←hg0 b]
  cases hP:c.bM with
  | true=>
   have hk:c.k0=1:=by unfold cu.k0;rw [hP];rfl
   rw [show c.num=c.ps.length+1 by rw [c.Ct,hk];omega,sZ,tz0 b hP,Nat.zero_add]
   refine aG fun i hi=>?_
   have:=tzi i b hi;rw [hk] at this ⊢
   rw [show i+1=1+i by omega]
   exact this
  | false=>
   have hk:c.k0=0:=by unfold cu.k0;rw [hP];rfl
   rw [show c.num=c.ps.length by rw [c.Ct,hk];omega]
   refine aG fun i hi=>?_
   have:=tzi i b hi;rw [hk] at this ⊢
   rw [show 0+i=i by omega] at this ⊢
   exact this
 have bz:∀ b,TC (uo E c.num c.bM).n (inC c.bM s w pt Gi id st gv).m (bI c x) { tmps:=vals.toArray,defers:=[] } w (Mf c.bM pt id st) b=gv b+if c.bM=true then cB s w pt b id else 0:=by
  intro b;have e1:=ts b
  have e2:cB (bI c x) w (Mf c.bM pt id st) b 1=0:=by
   unfold cB
   rw [yE,if_neg (by omega)];rfl
  have e3:cB (bI c x) w (Mf c.bM pt id st) b 0=if c.bM=true then cB s w pt b id else 0:=by
   unfold cB;rw [yE]
   by_cases h:c.bM=true
   ·rw [if_pos ⟨h,rfl⟩,if_pos h,hb h]
    simp only [gY,hp1 h]
   ·rw [if_neg (fun hh=>h hh.1),if_neg h];rfl
  show cO c.num _+(0+_+_)=_;rw [e1,e2,e3];omega
 refine ⟨by simp [uo,hl],rfl,fun t=>?_,fun i=>?_,fun t ht=>?_,fun i hi=>?_,fun b=>?_,fun b nH=>?_,fun b _ _=>⟨rfl,rfl⟩,Ext.refl _ _,hz,rfl,rfl,rfl,bT _,fun i j hj=>?_,?_,fun v hv=>?_⟩
 ·rw [IG,Y4]
  by_cases h:c.bM=true∧t=0
  ·rw [if_pos h]
   obtain ⟨h,rfl⟩:=h;obtain ⟨bR,h1,h2⟩:=Uz h
   exact ⟨bR,by rw [hp1 h];exact h1,h2⟩
  ·rw [if_neg h]
   by_cases h2:c.k0≤t∧t<c.num
   ·rw [if_pos h2]
    have:=hvd (t - c.k0) (by have:=c.Ct;omega)
    rw [show c.k0+(t - c.k0)=t by omega] at this
    exact this
   ·rw [if_neg h2];trivial
 ·rw [yE]
  by_cases h:c.bM=true∧i=0
  ·rw [if_pos h]
   obtain ⟨h,rfl⟩:=h
   have hB:pK w Gi pt id (get s (2*id+1)):=(R.bx id).mono hE (fun _ _ _ h=>h) fun b nH=>⟨rfl,hx b h nH⟩
   rw [hb h] at hB;obtain ⟨b,q1,q2,q3,q4⟩:=hB rfl
   exact fun _=>⟨b,by rw [hp1 h];exact q1,q2,q3,q4.ptr fun i hi=>by rw [pq o1] at hi;simp at hi⟩
  ·rw [if_neg h];trivial
 ·have hk:c.k0=if c.bM=true then 1 else 0:=by unfold cu.k0;cases c.bM<;>rfl
  rw [IG,if_neg ?_,if_neg ?_]
  ·rintro ⟨_,h⟩
   have:c.num≤t:=ht;omega
  ·rintro ⟨h,rfl⟩
   rw [if_pos h] at hk;have:c.num≤0:=ht;have:=c.Ct;omega
 ·rw [yE,if_neg]
  rintro ⟨_,rfl⟩
  exact absurd hi (by simp [inC])
 ·rw [bz]
  have:=Uf b;have:=R.jq b id
  split<;>omega
 ·rw [bz] at nH
  by_cases hg:0<gv b
  ·exact ⟨Zq b hg,.inr (.inr hg)⟩
  ·have hg:gv b=0:=by omega
   rw [hg,Nat.zero_add] at nH
   by_cases h:c.bM=true
   ·rw [if_pos h] at nH
    exact ⟨(R.cb b (mK nH (R.jq b id))).1,.inr (.inl ⟨h,nH⟩)⟩
   ·rw [if_neg h] at nH;omega
 ·rw [yE] at hj
  unfold Mf
  by_cases h:c.bM=true∧i=0
  ·rw [if_pos h] at hj
   rw [if_neg];rintro ⟨_,rfl,_⟩;simp [aL] at hj
  ·rw [if_neg]
   rintro ⟨h1,_,h2⟩;exact h ⟨h2,h1⟩
 ·intro g k l h
  obtain ⟨h1,h2⟩:=R.gl g k l h;exact ⟨gX h1 (hE.le g),h2⟩
 ·simp only [inC] at hv
  by_cases h:c.bM=true
  ·rw [if_pos h] at hv
   rw [hp1 h];exact hv
  ·rw [if_neg h] at hv;cases hv
end
section
variable {P:Program} {E E':Env} {C C':Ctx} {s s':St} {a a':Act} {w w':World} {G G2:Nat→Nat} {pt kY:Nat→Nat→Option Value}
open Classical in
noncomputable def lY (len:Bool) (s:St) (a:Act) (pt:Nat→Nat→Option Value) (G G2:Nat→Nat) (b:Nat):Nat:=
 if len=true∧Cq s a pt b then G b else G2 b
theorem II (c:cu) (y:(Ty.cons c.rs.ty (fJ c.post)).den):c.bM=true→get (gH c y) 1 = .aI 1 true (aO c.post y.2):=by
 intro h;simp [gH,h,aD]
theorem aaw (R:Rel E C s a w G pt) {c:cu} (bK:c.ok=true) {len:Bool} {id st:Nat} {cs:List D} {y:(Ty.cons c.rs.ty (fJ c.post)).den} {vs:Array Value}
 (hb:c.bM=true→get s (2*id+1) = .aI st true cs)
 (hlen:len=true→c.rs.noView=true∧c.post.all mQ=true)
 {gv:Nat→Nat} (Uf:∀ b,TC E.n C.m s a w pt b+gv b≤1) (Zq:∀ b,0<gv b→b<w.heap.size∧(C.w0.heap.size≤b∨C.X b))
 (R2:Rel (uo E c.rs.num c.bM) (inC c.bM s w pt (gB len s a pt w G) id st gv) (gH c y) { tmps:=vs,defers:=[] } w' G2 kY) :
 Rel E C ((bif c.bM then [(2*id+1,.aI st true (aO c.post y.2))] else [])++s) a w' (lY len s a pt G G2) pt ∧
 (∀ b,TC E.n C.m ((bif c.bM then [(2*id+1,.aI st true (aO c.post y.2))] else [])++s) a w' pt b+TC c.rs.num 2 (gH c y) { tmps:=vs,defers:=[] } w' kY b≤1+cB (gH c y) w' kY b 0 ∧
  (0<TC c.rs.num 2 (gH c y) { tmps:=vs,defers:=[] } w' kY b→b<w'.heap.size∧(C.w0.heap.size≤b∨C.X b)∧lY len s a pt G G2 b=G2 b)):=by
 simp only [cu.ok,dA] at bK;obtain ⟨⟨⟨⟨o1,o2⟩,o3⟩,o4⟩,o5⟩:=bK
 let XX:Nat→Prop:=fun b=>(c.bM=true∧0<cB s w pt b id)∨0<gv b
 have hX:(inC c.bM s w pt (gB len s a pt w G) id st gv).X=XX:=rfl;have O5:(inC c.bM s w pt (gB len s a pt w G) id st gv).w0=w:=rfl;have hG0:(inC c.bM s w pt (gB len s a pt w G) id st gv).G0=gB len s a pt w G:=rfl
 have gvT:∀ b,0<gv b→TC E.n C.m s a w pt b=0:=fun b h=>by have:=Uf b;omega
 have gP:(inC c.bM s w pt (gB len s a pt w G) id st gv).pin=if c.bM=true then pt id st else none:=rfl
 -- what is sN is not given
 have ags:∀ b,Cq s a pt b→¬ XX b:=by
  rintro b hl (⟨h3,h4⟩ | h4)
  ·rcases hl with ⟨i,j,ar,t,l,h1,h2⟩ | ⟨t,ht⟩
   ·have:=(R.sN h1 h2).2.2.2
    have fC:i≠id:=by
     rintro rfl;rw [hb h3] at h1;cases h1
    have:=R.bb h4 fC;omega
   ·have:=R.bt h4 t
    omega
  ·have h5:=(R.OZ hl).2.2
   have h7:=gvT b h4;omega
 have agt:∀ b,Cq s a pt b→b<w.heap.size:=fun b h=>(R.OZ h).1
 have Xa:∀ b,¬ (len=true∧Cq s a pt b)→gB len s a pt w G b=G b∧lY len s a pt G G2 b=G2 b:=fun b h=>⟨by unfold gB;rw [if_neg h],by unfold lY;rw [if_neg h]⟩
 have isL:∀ b,len=true∧Cq s a pt b→lY len s a pt G G2 b=G b:=fun b h=>by unfold lY;rw [if_pos h]
 have hE0:=R.wO len
 have hex:Ext w (gB len s a pt w G) w' G2:=by have:=R2.ex;rwa [O5,hG0] at this
 have hfr:∀ b,b<w.heap.size→¬ XX b→w'.heap[b]? = w.heap[b]?∧G2 b=gB len s a pt w G b:=by
  intro b h1 h2
  have:=R2.fr b (by rw [O5];exact h1) (by rw [hX];exact h2)
  rwa [O5,hG0] at this
 have hE:Ext w G w' (lY len s a pt G G2):=by
  refine ⟨fun b o ho=>hex.cell b o (mK ho (hE0.le b)),fun b=>?_⟩
  by_cases h:len=true∧Cq s a pt b
  ·rw [isL b h];exact bT _
  ·rw [(Xa b h).2]
   exact gX (hE0.le b) (hex.le b)
 have hT:∀ b,¬ XX b→b<w.heap.size→w'.heap[b]? = w.heap[b]?∧lY len s a pt G G2 b=G b:=by
  intro b h1 h2;obtain ⟨q1,q2⟩:=hfr b h2 h1;refine ⟨q1,?_⟩
  by_cases h:len=true∧Cq s a pt b
  ·exact isL b h
  ·rw [(Xa b h).2,q2,(Xa b h).1]
 have cb2:∀ b,0<TC c.rs.num 2 (gH c y) { tmps:=vs,defers:=[] } w' kY b→b<w'.heap.size∧(w.heap.size≤b∨XX b):=by
  intro b h;have:=R2.cb b h
  rwa [O5,hX] at this
 have ct2:∀ b,TC c.rs.num 2 (gH c y) { tmps:=vs,defers:=[] } w' kY b≤1:=R2.ct
 have bk2:∀ b,0<TC c.rs.num 2 (gH c y) { tmps:=vs,defers:=[] } w' kY b→lY len s a pt G G2 b=G2 b:=by
  intro b h;refine (Xa b ?_).2;rintro ⟨h1,h2⟩
  rcases (cb2 b h).2 with h3 | h3
  ·have:=agt b h2;omega
  ·exact ags b h2 h3
 have agu:∀ b i,i<2→cB (gH c y) w' kY b i≤TC c.rs.num 2 (gH c y) { tmps:=vs,defers:=[] } w' kY b:=fun b i hi=>
  gX (qX (f:=cB (gH c y) w' kY b) hi) (Nat.le_add_left _ _)
 have hGv:(∀ b,lY len s a pt G G2 b=G2 b)∨c.post.all mQ=true:=by
  cases len with
  | true=>exact .inr (hlen rfl).2
  | false=>exact .inl fun b=>by unfold lY;rw [if_neg (by simp)]
 have gz:∀ b,w'.heap.size≤b→lY len s a pt G G2 b=0:=by
  intro b nH
  have h1:¬ (len=true∧Cq s a pt b):=fun h=>by
   have h2:=agt b h.2;have h3:=R2.hs;rw [O5] at h3;omega
  rw [(Xa b h1).2];exact R2.gz b nH
 have eU:w.heap.size≤w'.heap.size:=by have:=R2.hs;rwa [O5] at this
 have Y5:w'.os=w.os:=by have:=R2.os;rwa [O5] at this
 have sD:w'.output=w.output:=by have:=R2.out;rwa [O5] at this
 have Y6:w'.tape=w.tape:=by have:=R2.tape;rwa [O5] at this
 -- what holds nothing of what was given
 have xt:∀ b,XX b→∀ t,cT s a b t=0:=by
  rintro b (h | h) t
  ·exact R.bt h.2 t
  ·have h1:=R.qZ b t
   have h2:=gvT b h;omega
 have xb:∀ b,XX b→∀ i,(c.bM=true→i≠id)→cB s w pt b i=0:=by
  rintro b (h | h) i hi
  ·exact R.bb h.2 (hi h.1)
  ·have h1:=R.jq b i
   have h2:=gvT b h;omega
 have xf:∀ b,XX b→C.w0.heap.size≤b∨C.X b:=by
  rintro b (h | h)
  ·exact (R.cb b (mK h.2 (R.jq b id))).2
  ·exact (Zq b h).2
 cases hP:c.bM with
 | false=>
  simp only [bJ,List.nil_append]
  have xb':∀ b,XX b→∀ i,cB s w pt b i=0:=fun b h i=>xb b h i fun h=>by rw [hP] at h;cases h
  have R3:Rel E C s a w' (lY len s a pt G G2) pt:=by
   refine R.step (fun _=>False) (fun _=>False) XX rfl R.df (fun _ _=>⟨rfl,rfl⟩) (fun _ _=>⟨rfl,rfl⟩) hE (fun _ _ _ h=>h) (fun b h1 h=>hT b h1 h) (fun b h t _=>xt b h t) (fun b h i _=>xb' b h i) xf
    (fun t h=>h.elim) (fun i h=>h.elim) (fun c1 c2 b=>?_) gz Y5 sD Y6 eU
   have:TC E.n C.m s a w' pt b=TC E.n C.m s a w pt b:=by
    unfold TC
    rw [aG fun i _=>c1 i (fun h=>h) b,aG fun i _=>c2 i (fun h=>h) b]
   rw [this]
   exact ⟨R.ct b,fun h=>⟨mK (R.cb b h).1 eU,(R.cb b h).2⟩⟩
  have etc:∀ b,TC E.n C.m s a w' pt b=TC E.n C.m s a w pt b:=by
   intro b;unfold TC
   congr 1
   refine aG fun i _=>?_
   simp only [cB]
   refine Fe (G':=lY len s a pt G G2) (fun _ _ _ h=>h) (R.bx i) (fun b' nH=>?_) b
   have aT:=(R.cb b' (mK nH (R.jq b' i))).1
   refine hT b' (fun hx=>?_) aT
   have:=xb' b' hx i;simp only [cB] at this;omega
  refine ⟨R3,fun b=>⟨?_,fun h=>?_⟩⟩
  ·rcases Nat.eq_zero_or_pos (TC c.rs.num 2 (gH c y) { tmps:=vs,defers:=[] } w' kY b) with h | h
   ·have:=R3.ct b;omega
   ·have h2:TC E.n C.m s a w' pt b=0:=by
     rw [etc]
     rcases (cb2 b h).2 with h1 | h1
     ·rcases Nat.eq_zero_or_pos (TC E.n C.m s a w pt b) with h0 | h0
      ·exact h0
      ·have:=(R.cb b h0).1;omega
     ·rcases h1 with h1 | h1
      ·rw [hP] at h1;cases h1.1
      ·exact gvT b h1
    have:=ct2 b;omega
  ·refine ⟨(cb2 b h).1,?_,bk2 b h⟩
   rcases (cb2 b h).2 with h1 | h1
   ·exact .inl (gX R.hs h1)
   ·exact xf b h1
 | true=>
  simp only [aQ,List.singleton_append];have hb:=hb hP;have hob:get (gH c y) (2*0+1) = .aI 1 true (aO c.post y.2):=II c y hP
  have anV:id<C.m:=fT R (by rw [hb];simp)
  -- the block
  obtain ⟨bR,hblk,_,_,_⟩:∃ b,pt id st=some (.pointer (some ⟨b,0,none⟩))∧Room w b cs.length∧G b=0∧aP w G pt cs (aB w b):=by
   have:=R.bx id;rw [hb] at this;exact this rfl
  have Ma:kY 0 1=some (.pointer (some ⟨bR,0,none⟩)):=R2.pn _ (by rw [gP,if_pos hP];exact hblk)
  have yF:=R2.bx 0;rw [hob] at yF;obtain ⟨b2,q1,q2,q3,q4⟩:=yF rfl
  have:b2=bR:=by rw [Ma] at q1;simpa using q1.symm
  subst this
  have auq:∀ b,cB (gH c y) w' kY b 0=gY w' pt b id (.aI st true (aO c.post y.2)):=by
   intro b;unfold cB;rw [hob];simp only [gY,Ma,hblk]
  have anW:XX b2:=by
   refine .inl ⟨hP,?_⟩;simp only [cB,hb,gY,dh,hblk,bE,if_true];omega
  have anX:¬ (len=true∧Cq s a pt b2):=fun h=>ags b2 h.2 anW
  have ZR:pK w' (lY len s a pt G G2) pt id (.aI st true (aO c.post y.2)):=by
   intro _
   refine ⟨b2,hblk,q2,by rw [(Xa b2 anX).2];exact q3,Az o4 hGv (fun b nH=>bk2 b ?_) q4⟩
   refine mK ?_ (agu b 0 (by omega))
   unfold cB;rw [hob];simp only [gY,Ma,bE,sw];omega
  have tcs:∀ (s3:St) (c1:∀ t,∀ b,cT s3 a b t=cT s a b t) (c2:∀ i,i≠id→∀ b,cB s3 w' pt b i=cB s w pt b i) (c3:∀ b,cB s3 w' pt b id=cB (gH c y) w' kY b 0) (b:Nat),
   TC E.n C.m s3 a w' pt b+cB s w pt b id=TC E.n C.m s a w pt b+cB (gH c y) w' kY b 0:=by
   intro s3 c1 c2 c3 b
   have e1:cO E.n (cT s3 a b)=cO E.n (cT s a b):=aG fun t _=>c1 t b
   have e2:=dG (n:=C.m) (f:=cB s w pt b) (g:=cB s3 w' pt b) anV (fun i hi=>c2 i hi b)
   rw [c3 b] at e2;unfold TC;omega
  -- the bound
  have fin:∀ (b n:Nat),n+cB s w pt b id=TC E.n C.m s a w pt b+cB (gH c y) w' kY b 0 →
   (n≤1∧(0<n→b<w'.heap.size∧(C.w0.heap.size≤b∨C.X b))) ∧
   n+TC c.rs.num 2 (gH c y) { tmps:=vs,defers:=[] } w' kY b≤1+cB (gH c y) w' kY b 0:=by
   intro b n hn;have k1:=R.ct b;have k2:=R.cb b;have k3:=R.jq b id;have k4:=ct2 b;have k5:=cb2 b
   have k6:=agu b 0 (by omega)
   have k7:=R.hs;have k9:=Uf b;have k10:=Zq b
   by_cases hx:0<cB s w pt b id
   ·refine ⟨⟨by omega,fun h=>⟨(k5 (by omega)).1,(k2 (by omega)).2⟩⟩,by omega⟩
   ·by_cases hgx:0<gv b
    ·exact ⟨⟨by omega,fun h=>⟨(k5 (by omega)).1,(k10 hgx).2⟩⟩,by omega⟩
    by_cases aT:b<w.heap.size
    ·have k8:TC c.rs.num 2 (gH c y) { tmps:=vs,defers:=[] } w' kY b=0:=by
      rcases Nat.eq_zero_or_pos (TC c.rs.num 2 (gH c y) { tmps:=vs,defers:=[] } w' kY b) with h | h
      ·exact h
      ·rcases (k5 h).2 with h' | h'
       ·omega
       ·rcases h' with h' | h'
        ·exact absurd h'.2 hx
        ·exact absurd h' hgx
     exact ⟨⟨by omega,fun h=>⟨by have:=(k2 (by omega)).1;omega,(k2 (by omega)).2⟩⟩,by omega⟩
    ·have k8:TC E.n C.m s a w pt b=0:=by
      rcases Nat.eq_zero_or_pos (TC E.n C.m s a w pt b) with h | h
      ·exact h
      ·have:=(k2 h).1;omega
     exact ⟨⟨by omega,fun h=>⟨(k5 (by omega)).1,.inl (by omega)⟩⟩,by omega⟩
  have g2:∀ i,i≠id→get ((2*id+1,D.aI st true (aO c.post y.2))::s) (2*i+1)=get s (2*i+1):=fun i hi=>by rw [aW,if_neg hi]
  have c3:∀ b,cB ((2*id+1,D.aI st true (aO c.post y.2))::s) w' pt b id=cB (gH c y) w' kY b 0:=by
   intro b;rw [auq];simp only [cB,aW,if_true]
  have R3:Rel E C ((2*id+1,.aI st true (aO c.post y.2))::s) a w' (lY len s a pt G G2) pt:=by
   refine R.step (fun _=>False) (fun i=>i=id) XX rfl R.df (fun t _=>⟨get_bt _ _ _ _,rfl⟩) (fun i hi=>⟨g2 i hi,rfl⟩) hE (fun _ _ _ h=>h) (fun b h1 h2=>hT b h1 h2)
    (fun b h t _=>xt b h t) (fun b h i hi=>xb b h i fun _=>hi) xf (fun t h=>h.elim) (fun i hi=>?_) (fun c1 c2 b=>?_) gz Y5 sD Y6 eU
   ·subst hi
    refine ⟨anV,by simp only [aW,if_true];exact ZR,fun j hj=>?_⟩
    simp only [aW,if_true,aL] at hj
    exact R.pf i j (by rw [hb];exact hj)
   ·exact (fin b _ (tcs _ (fun t b=>c1 t (fun h=>h) b) (fun i hi b=>c2 i hi b) c3 b)).1
  refine ⟨R3,fun b=>⟨?_,fun h=>?_⟩⟩
  ·refine (fin b _ (tcs _ (fun t b=>by simp [cT]) (fun i hi b=>?_) c3 b)).2
   simp only [cB];rw [g2 i hi]
   refine Fe (G':=lY len s a pt G G2) (fun _ _ _ h=>h) (R.bx i) (fun b' nH=>?_) b
   have aT:=(R.cb b' (mK nH (R.jq b' i))).1
   refine hT b' (fun hx=>?_) aT
   have:=xb b' hx i fun _=>hi
   simp only [cB] at this;omega
  ·refine ⟨(cb2 b h).1,?_,bk2 b h⟩
   rcases (cb2 b h).2 with h' | h'
   ·exact .inl (gX R.hs h')
   ·exact xf b h'
end
section
variable {P:Program} {E E':Env} {C C' C2:Ctx} {s s' s3:St} {a a':Act} {w w':World} {G G2 G3:Nat→Nat} {pt kY:Nat→Nat→Option Value}
theorem aem {p:Sh} {x:p.ty.den} {v:Value} (bK:pR p=true) (h:aU w G pt (p.aZ x) v):BH w G pt (p.aZ x) v:=by
 cases p with
 | lf l=>
  have h0:jG l=true:=bK
  cases l with
  | cst d=>cases d<;>first | exact h | (cases h0;done)
  | _=>exact h
 | agg ls=>exact h
 | aI st live ls=>cases bK
 | aX st live ar t=>cases bK
 | dI st t=>cases bK
 | bO st k v=>cases bK
theorem aia {p:Sh} {x:p.ty.den} {v:Value} {b:Nat} (bK:pR p=true):Fb b (p.aZ x) v=dP b (p.aZ x) v:=by
 cases p with
 | lf l=>
  have h0:jG l=true:=bK
  cases l with
  | cst d=>cases d<;>first | (cases v<;>rfl) | (cases h0;done)
  | _=>cases v<;>rfl
 | agg ls=>cases v<;>rfl
 | aI st live ls=>cases bK
 | aX st live ar t=>cases bK
 | dI st t=>cases bK
 | bO st k v=>cases bK
theorem UH {b:Nat}:∀ {l:List Sh} {x:(kJ l).den} {f:Nat→Value},l.all pR=true→qQ b (bY l x) f=cO l.length (fun i=>dP b ((bY l x).getD i .undef) (f i))
 | [],_,_,_=>rfl
 | p::r,x,f,h=>by
  simp only [List.all_cons,dA] at h;rw [lD,sZ];simp only [bY,qQ];rw [aia h.1,UH h.2];rfl
theorem tu {vs:Array Value} (h:vs.size=1):lI vs=vs.getD 0 undef:=by
 simp [lI,h]
theorem RP {vs:Array Value} (h:vs.size≠1):lI vs = .tuple vs:=by
 simp [lI,h]
theorem Xb (R3:Rel E C s3 a w' G3 pt) (hm:E.n≤C.m) {o:Oper} (ho:∀ t,o.dst=some t→t<E.n) {rs:RS} {x:rs.ty.den} {u:St} (bK:rs.ok=true) (hr:BX o s rs x=some u)
 (iN:∀ t,o.dst=some t→(∃ ls,rs = .Ac ls)∨(∃ k v,rs = .yu k v)→get s3 (2*t+1)=get s (2*t+1)) {so:St} {vs:Array Value} {hp:Bool}
 (hso:∀ k,k≠1→get so k=get (ah4 rs x) k) (R2:Rel (uo E rs.num hp) C2 so { tmps:=vs,defers:=[] } w' G2 kY) (Xc:C2.m=2)
 (oN:∀ b,TC E.n C.m s3 a w' pt b+TC rs.num 2 so { tmps:=vs,defers:=[] } w' kY b≤1+cB so w' kY b 0 ∧
  (0<TC rs.num 2 so { tmps:=vs,defers:=[] } w' kY b→b<w'.heap.size∧(C.w0.heap.size≤b∨C.X b)∧G3 b=G2 b))
 (hG:(∀ b,G3 b=G2 b)∨rs.noView=true):∃ G' bC,Rel E C (au u s3) (a.put o.dst (lI vs)) w' G' bC:=by
 have eU:vs.size=rs.num:=R2.sz
 have tcd:∀ b,TC rs.num 2 so { tmps:=vs,defers:=[] } w' kY b=cO rs.num (cT so { tmps:=vs,defers:=[] } b)+(0+cB so w' kY b 0+cB so w' kY b 1):=fun b=>rfl
 -- data at the destination
 have data:∀ (d:D),u=dN o d→aU w' G3 pt d (lI vs)→(∀ b,dP b d (lI vs)≤cO rs.num (cT so { tmps:=vs,defers:=[] } b))→∃ G' bC,Rel E C (au u s3) (a.put o.dst (lI vs)) w' G' bC:=by
  intro d hu hd hc;subst hu
  refine ⟨G3,pt,R3.put o ho (fun _=>False) (Ext.refl _ _) (fun _ _ _=>⟨rfl,rfl⟩) (fun b h=>h.elim) hd (fun b=>?_) R3.gz rfl rfl rfl (bT _)⟩
  have h1:=hc b;have h2:=(oN b).1;have h3:=(oN b).2;have h4:=R2.ct b;rw [Xc] at h4
  change TC rs.num 2 so { tmps:=vs,defers:=[] } w' kY b≤1 at h4
  have h5:=tcd b
  refine ⟨by omega,fun h=>?_⟩
  have h6:=h3 (by omega)
  exact ⟨by omega,h6.1,h6.2.1⟩
 cases rs with
 | none=>
  have hu:u=dN o .undef:=by
   simp only [BX] at hr
   cases hd:o.dst with
   | none=>rw [hd] at hr;simp only [bn] at hr;rw [←hr,wm hd]
   | some t=>rw [hd] at hr;simp only [bn] at hr;rw [←hr,kV hd]
  exact data .undef hu trivial fun b=>by rw [dX];exact mY _
 | one p=>
  simp only [BX,bn] at hr
  have hg:get so (2*0)=p.aZ x:=by
   rw [hso _ (by omega)]
   rfl
  have ht:=R2.tm 0;rw [hg] at ht;have hv:=tu eU
  refine data (p.aZ x) hr.symm ?_ (fun b=>?_)
  ·rw [hv]
   refine Sh.Gy (show pR p=true from bK) hG (fun b hb=>((oN b).2 ?_).2.2) ht
   rw [tcd];have:cO (RS.one p).num (cT so { tmps:=vs,defers:=[] } b)=0+dP b (get so (2*0)) (vs.getD 0 undef):=rfl;rw [hg] at this;omega
  ·rw [hv]
   have:cO (RS.one p).num (cT so { tmps:=vs,defers:=[] } b)=0+dP b (get so (2*0)) (vs.getD 0 undef):=rfl;rw [hg] at this;omega
 | iJ l=>
  simp only [BX,bn] at hr;simp only [RS.ok,dA,Bool.not_eq_true'] at bK
  have qN:l.length≠1:=by
   have:=bK.2;rw [gF] at this;exact of_decide_eq_false this
  have eU:vs.size=l.length:=eU
  have hv:=RP (vs:=vs) (by rw [eU];exact qN)
  have hg:∀ t,t<l.length→get so (2*t)=(bY l x).getD t .undef:=by
   intro t ht
   rw [hso _ (by omega)]
   show get (kC 0 (bY l x)) (2*t)=_;have:=gU (rest:=[]) (ds:=bY l x) (i:=0) (2*t);rw [List.append_nil] at this
   rw [this,if_pos ⟨by omega,by omega,by rw [iD];omega⟩]
   congr 1
   omega
  have Xd:∀ b,dP b (.iJ (bY l x)) (.tuple vs)=cO l.length (cT so { tmps:=vs,defers:=[] } b):=by
   intro b;show qQ b (bY l x) (aS vs)=_;rw [UH bK.1]
   refine aG fun i hi=>?_
   simp only [cT];rw [hg i hi];rfl
  refine data (.iJ (bY l x)) hr.symm ?_ (fun b=>?_)
  ·rw [hv]
   refine ⟨vs,rfl,by rw [iD];exact eU,fun j hj=>?_⟩
   rw [iD] at hj;obtain ⟨p,y,h1,h2⟩:=qo l x j hj
   have e:(bY l x)[j]'(by rw [iD];exact hj)=p.aZ y:=by
    rw [←h2];simp [List.getD,iD,hj]
   rw [e];have anZ:=List.all_eq_true.1 bK.1 p h1;have ht:=R2.tm j;rw [hg j hj,h2] at ht
   refine aem anZ (Sh.Gy anZ (hG.imp id fun h=>List.all_eq_true.1 h p h1) (fun b hb=>((oN b).2 ?_).2.2) ht)
   have h3:cT so { tmps:=vs,defers:=[] } b j≤cO l.length (cT so { tmps:=vs,defers:=[] } b):=qX hj
   have h4:cT so { tmps:=vs,defers:=[] } b j=dP b (p.aZ y) (vs.getD j undef):=by
    simp only [cT];rw [hg j hj,h2]
   have h5:=tcd b;have h6:cO (RS.iJ l).num (cT so { tmps:=vs,defers:=[] } b)=cO l.length (cT so { tmps:=vs,defers:=[] } b):=rfl;have nH:0<dP b (p.aZ y) (vs.getD j undef):=hb;omega
  ·rw [hv,Xd]
   exact bT _
 | Ac ls=>
  simp only [BX] at hr
  cases hd:o.dst with
  | none=>rw [hd] at hr;cases hr
  | some t=>
   rw [hd] at hr;simp only [bn] at hr;have Dg:=ho t hd;have hv:=tu eU
   have hg0:get so (2*0) = .ptr 1 1 0:=by
    rw [hso _ (by omega)];rfl
   have V6:get so (2*1+1) = .aI 1 true (aO ls x):=by
    rw [hso _ (by omega)];rfl
   have QI:=R2.tm 0;rw [hg0] at QI;obtain ⟨bR,hblk,YB⟩:=QI;have nI:=R2.bx 1;rw [V6] at nI;obtain ⟨b1,q1,q2,q3,q4⟩:=nI rfl
   have:b1=bR:=by rw [q1] at hblk;simpa [bE] using hblk
   subst this;have ht1:=iN t hd (.inl ⟨ls,rfl⟩)
   have aib:∀ (bC:Nat→Nat→Option Value) (k:Nat) (b:Nat),bC t k=some (.pointer (some ⟨b1,0,none⟩))→gY w' bC b t (.aI k true (aO ls x))=cB so w' kY b 1:=by
    intro bC k b NZ;unfold cB;rw [V6];simp only [gY,q1,NZ]
   generalize gG:aL (get s3 (2*t+1))+1=k
   have nQ:bG pt t k (.pointer (some ⟨b1,0,none⟩)) t k=some (.pointer (some ⟨b1,0,none⟩)):=by simp [bG]
   have RQ:∀ b,cB so w' kY b 1≤1∧(0<cB so w' kY b 1→TC E.n C.m s3 a w' pt b=0∧b<w'.heap.size∧(C.w0.heap.size≤b∨C.X b)∧G3 b=G2 b):=by
    intro b;have h2:=(oN b).1;have h3:=(oN b).2;have h4:=R2.ct b;rw [Xc] at h4
    change TC (RS.Ac ls).num 2 so { tmps:=vs,defers:=[] } w' kY b≤1 at h4
    have h5:=tcd b
    refine ⟨by omega,fun h=>?_⟩
    have h6:=h3 (by omega)
    exact ⟨by omega,h6⟩
   have aax:0<cB so w' kY b1 1:=by
    unfold cB;rw [V6];simp only [gY,q1,dh,bE,if_true];omega
   have key:=R3.xY t Dg hm (w':=w') (G':=G3) (dB:=.aI k true (aO ls x)) (d':=.ptr t k 0) (pv:=.pointer (some ⟨b1,0,none⟩)) (v':=vs.getD 0 undef) (Ext.refl w' G3) (fun _ _=>⟨rfl,rfl⟩)
    (by rw [gG];exact ⟨b1,by rw [nQ];rfl,YB⟩) (fun b=>by generalize vs.getD 0 undef=v;cases v<;>rfl)
    (by
     rw [gG];intro _
     exact ⟨b1,nQ,q2,by rw [((RQ b1).2 aax).2.2.2];exact q3,Az (w:=w') (G:=G2) (pt:=kY) (show ls.all jG=true from bK) hG (fun b hb=>((RQ b).2 (by
      refine mK hb ?_;unfold cB;rw [V6];simp only [gY,q1,bE,sw]
      omega)).2.2.2) q4⟩)
    (by rw [gG];rfl)
    (fun b=>by
     rw [gG,aib _ k b nQ]
     exact ⟨(RQ b).1,fun h=>⟨((RQ b).2 h).1,((RQ b).2 h).2.1,((RQ b).2 h).2.2.1⟩⟩)
    R3.gz rfl rfl rfl (bT _)
   refine ⟨G3,bG pt t k (.pointer (some ⟨b1,0,none⟩)),?_⟩;rw [hv];rw [←ht1,gG] at hr;subst hr;rw [gG] at key;exact key
 | yu k0 e0=>
  simp only [BX] at hr
  cases hd:o.dst with
  | none=>rw [hd] at hr;cases hr
  | some t=>
   rw [hd] at hr;simp only [bn] at hr;have Dg:=ho t hd;have hv:=tu eU
   have hg0:get so (2*0) = .fU 1 1:=by
    rw [hso _ (by omega)];rfl
   have V6:get so (2*1+1) = .bO 1 k0 e0 x:=by
    rw [hso _ (by omega)];rfl
   have QI:=R2.tm 0;rw [hg0] at QI;have YB:kY 1 1=some (vs.getD 0 undef):=QI;have nI:=R2.bx 1;rw [V6] at nI;obtain ⟨b1,q1,q3,q4⟩:=nI
   have YB:vs.getD 0 undef = .map (some b1):=by rw [q1] at YB;exact (Option.some.inj YB).symm
   have ht1:=iN t hd (.inr ⟨k0,e0,rfl⟩)
   have aib:∀ (bC:Nat→Nat→Option Value) (k:Nat) (b:Nat),bC t k=some (.map (some b1))→gY w' bC b t (.bO k k0 e0 x)=cB so w' kY b 1:=by
    intro bC k b NZ;unfold cB;rw [V6];simp only [gY,q1,NZ]
   generalize gG:aL (get s3 (2*t+1))+1=k
   have nQ:bG pt t k (.map (some b1)) t k=some (.map (some b1)):=by simp [bG]
   have RQ:∀ b,cB so w' kY b 1≤1∧(0<cB so w' kY b 1→TC E.n C.m s3 a w' pt b=0∧b<w'.heap.size∧(C.w0.heap.size≤b∨C.X b)∧G3 b=G2 b):=by
    intro b;have h2:=(oN b).1;have h3:=(oN b).2;have h4:=R2.ct b;rw [Xc] at h4
    change TC (RS.yu k0 e0).num 2 so { tmps:=vs,defers:=[] } w' kY b≤1 at h4
    have h5:=tcd b
    refine ⟨by omega,fun h=>?_⟩
    have h6:=h3 (by omega)
    exact ⟨by omega,h6⟩
   have aax:0<cB so w' kY b1 1:=by
    unfold cB;rw [V6];simp only [gY,q1,dh,bE,if_true];omega
   have key:=R3.xY t Dg hm (w':=w') (G':=G3) (dB:=.bO k k0 e0 x) (d':=.fU t k) (pv:=.map (some b1)) (v':=vs.getD 0 undef) (Ext.refl w' G3) (fun _ _=>⟨rfl,rfl⟩)
    (by rw [gG,YB];exact nQ) (fun b=>by generalize vs.getD 0 undef=v;cases v<;>rfl)
    (by
     rw [gG]
     exact ⟨b1,nQ,by rw [((RQ b1).2 aax).2.2.2];exact q3,q4⟩)
    (by rw [gG];rfl)
    (fun b=>by
     rw [gG,aib _ k b nQ]
     exact ⟨(RQ b).1,fun h=>⟨((RQ b).2 h).1,((RQ b).2 h).2.1,((RQ b).2 h).2.2.1⟩⟩)
    R3.gz rfl rfl rfl (bT _)
   refine ⟨G3,bG pt t k (.map (some b1)),?_⟩;rw [hv];rw [←ht1,gG] at hr;subst hr;rw [gG] at key;exact key
theorem Dy {f:D→D} {g:D→Bool}:∀ (ps:List (Nat×Operand)) (i:Nat),2*i+1 ∉ aH (iy s f g ps)
 | [],_,h=>by simp [iy,aH] at h
 | (j,x)::r,i,h=>by
  simp only [iy] at h
  have app:∀ (u v:St),aH (u++v)=aH u++aH v:=by
   intro u v
   induction u with
   | nil=>rfl
   | cons p r ih=>simp [aH,ih]
  rw [app,pV] at h
  rcases h with h | h
  ·cases x with
   | tmp t=>
    simp only [dU] at h
    cases hg:g (get s (2*t)) with
    | true=>
     simp only [hg,aQ,aH,List.mem_cons,List.not_mem_nil,or_false] at h;have h':2*i+1=2*(t:Nat):=h
     exact absurd h' (by omega)
    | false=>simp [hg,aH] at h
   | _=>simp [dU,aH] at h
  ·exact Dy r i h
theorem aen {p:Sh} {d:D} {x:p.ty.den} (bK:xI p=true) (h:p.arg s d=some x):fZ d=false:=by
 cases d with
 | iJ vs=>
  exfalso
  cases p with
  | lf l=>exact u7 (l:=l) (d:=.iJ vs) rfl rfl bK h
  | agg ls=>simp [Sh.arg] at h
  | aI st live ls=>cases bK
  | aX st live ar t=>cases bK
  | dI st t=>cases bK
  | bO st k v=>cases bK
 | _=>rfl
theorem Gz:∀ {ps:List Sh} {xs:List Operand} {z:(kJ ps).den},ps.all pR=true→jW s ps xs=some z→xs.length=ps.length∧∀ x∈fH ps xs,fZ (aV s x)=false
 | [],[],_,_,_=>⟨rfl,fun x hx=>by simp [fH] at hx⟩
 | [],_::_,_,_,h=>by simp [jW] at h
 | _::_,[],_,_,h=>by simp [jW] at h
 | p::r,x::xs,z,bK,h=>by
  simp only [List.all_cons,dA] at bK;simp only [jW] at h;split at h
  ·rename_i y z' h1 h2
   obtain ⟨q1,q2⟩:=Gz bK.2 h2
   refine ⟨by simp [q1],fun x' hx=>?_⟩
   simp only [fH] at hx
   cases ho:ownSh p with
   | true=>
    rw [ho] at hx;exact q2 x' hx
   | false=>
    rw [ho] at hx;simp only [bJ] at hx
    rcases lC hx with rfl | hx
    ·simp only [Sh.Ot,ho,bJ] at h1
     exact aen (Gx bK.1 ho) h1
    ·exact q2 x' hx
  ·cases h
theorem O6 {x:Nat}:∀ {l:List Nat},ZL x l=true↔x∈l
 | []=>by simp [ZL]
 | y::r=>by
  simp only [ZL,Bool.or_eq_true,List.mem_cons,O6 (l:=r)];rw [gF];simp
theorem J8 {t:Nat}:∀ {xs:List Operand},Operand.tmp t∈xs→2*t∈ug xs
 | [],h=>by simp at h
 | x::r,h=>by
  rcases lC h with h | h
  ·subst h
   simp [ug]
  ·have:=J8 h
   cases x with
   | tmp u=>exact kE _ this
   | _=>exact this
theorem qp:∀ {ps:List Sh} {xs:List Operand} {x:Operand},x∈bQ ps xs→x∈xs
 | [],_,_,h=>by simp [bQ] at h
 | _::_,[],_,h=>by simp [bQ] at h
 | p::ps,x::xs,y,h=>by
  simp only [bQ] at h
  cases hp:ownSh p with
  | false=>
   rw [hp] at h;exact kE _ (qp h)
  | true=>
   rw [hp] at h;simp only [aQ,List.mem_cons] at h
   rcases h with h | h
   ·exact List.mem_cons.2 (.inl h)
   ·exact kE _ (qp h)
theorem yG {x:Operand} {xs:List Operand} (h:Ae (ug (x::xs))=true):Ae (ug xs)=true∧∀ t,x = .tmp t→Operand.tmp t ∉ xs:=by
 cases x with
 | tmp u=>
  simp only [ug,Ae,dA,Bool.not_eq_true'] at h
  refine ⟨h.2,fun t ht hm=>?_⟩
  cases ht;have:=O6.2 (J8 hm);rw [this] at h;cases h.1
 | _=>exact ⟨h,fun t ht=>by cases ht⟩
theorem tC:∀ {ps:List Sh} {xs:List Operand} {t:Nat},Ae (ug xs)=true→Operand.tmp t∈bQ ps xs→Operand.tmp t ∉ fH ps xs
 | [],_,_,_,h=>by simp [bQ] at h
 | _::_,[],_,_,h=>by simp [bQ] at h
 | p::ps,x::xs,t,hd,h=>by
  obtain ⟨h1,h2⟩:=yG hd;simp only [bQ] at h;simp only [fH]
  cases hp:ownSh p with
  | true=>
   rw [hp] at h;simp only [aQ,List.mem_cons] at h ⊢
   rcases h with h | h
   ·intro hm
    exact h2 t h.symm (ql hm)
   ·exact tC h1 h
  | false=>
   rw [hp] at h;simp only [bJ,List.mem_cons,not_or] at h ⊢
   exact ⟨fun hx=>h2 t hx.symm (qp h),tC h1 h⟩
theorem Dz {f:D→D} {g:D→Bool}:∀ (xs:List Operand) (t:Nat),2*t∈aH (iy s f g (xs.map fun x=>(0,x)))→Operand.tmp t∈xs
 | [],_,h=>by simp [iy,aH] at h
 | x::r,t,h=>by
  simp only [jy,iy] at h
  have app:∀ (u v:St),aH (u++v)=aH u++aH v:=by
   intro u v
   induction u with
   | nil=>rfl
   | cons p r ih=>simp [aH,ih]
  rw [app,pV] at h
  rcases h with h | h
  ·cases x with
   | tmp u=>
    simp only [dU] at h
    cases hg:g (get s (2*u)) with
    | true=>
     simp only [hg,aQ,aH,List.mem_cons,List.not_mem_nil,or_false] at h;have h':2*t=2*u:=h
     have e:t=u:=Nat.eq_of_mul_eq_mul_left (by decide) h'
     rw [e];exact uD
    | false=>simp [hg,aH] at h
   | _=>simp [dU,aH] at h
  ·exact kE _ (Dz r t h)
theorem yH:∀ {l:List Operand} {t:Nat},2*t∈aH (nO l)→Operand.tmp t∈l
 | [],_,h=>by simp [nO,aH] at h
 | x::r,t,h=>by
  cases x with
  | tmp u=>
   simp only [nO,aH,List.mem_cons] at h
   rcases h with h | h
   ·have e:t=u:=Nat.eq_of_mul_eq_mul_left (by decide) h
    rw [e];exact uD
   ·exact kE _ (yH h)
  | _=>
   simp only [nO] at h;exact kE _ (yH h)
theorem RU {p:Sh} (ho:ownSh p=true):p.give .undef=none:=by
 cases p with
 | lf l=>cases l<;>first | rfl | (cases ho;done)
 | _=>rfl
theorem Rel.drop1 (R:Rel E C s a w G pt) {t:Nat} (ht:t<E.n):Rel E C ((2*t,.undef)::s) a w G pt ∧
 ∀ b,TC E.n C.m ((2*t,.undef)::s) a w pt b+cT s a b t=TC E.n C.m s a w pt b:=by
 have RQ:∀ b,TC E.n C.m ((2*t,.undef)::s) a w pt b+cT s a b t=TC E.n C.m s a w pt b:=by
  intro b
  have h1:=dG (n:=E.n) (f:=cT s a b) (g:=cT ((2*t,.undef)::s) a b) ht (fun i hi=>by simp only [cT,dQ,hi,if_false])
  have h2:cT ((2*t,.undef)::s) a b t=0:=by simp only [cT,dQ,if_true];exact dX b _
  have h3:cO C.m (cB ((2*t,.undef)::s) w pt b)=cO C.m (cB s w pt b):=aG fun i _=>by simp only [cB,kF]
  unfold TC;omega
 refine ⟨?_,RQ⟩
 refine R.step (fun u=>u=t) (fun _=>False) (fun _=>False) rfl R.df (fun u hu=>⟨by rw [dQ,if_neg hu],rfl⟩) (fun i _=>⟨kF _ _ _ _,rfl⟩) (Ext.refl _ _) (fun _ _ _ h=>h) (fun _ _ _=>⟨rfl,rfl⟩)
  (fun b h=>h.elim) (fun b h=>h.elim) (fun b h=>h.elim) (fun u hu=>by subst hu;exact ⟨ht,by rw [dQ,if_pos rfl];trivial⟩) (fun i h=>h.elim) (fun c1 c2 b=>?_) R.gz rfl rfl rfl (bT _)
 have h1:=RQ b;have h2:=R.ct b;have h3:=R.cb b
 exact ⟨by omega,fun h=>h3 (by omega)⟩
theorem UJ (s:St) (a:Act) (b:Nat) {x:Operand} (hx:∀ t,x≠.tmp t):dP b (aV s x) (a.eval x)=0:=by
 cases x with
 | tmp t=>exact absurd rfl (hx t)
 | global g=>rfl
 | func f=>rfl
 | const v=>
  show dP b (VP v) v=0;unfold VP;split
  ·rfl
  ·rename_i k n
   cases Yn k n<;>rfl
  ·rename_i s
   cases (lZ s).length.ble nG<;>rfl
  all_goals (first | rfl | exact dX b _)
theorem aay {ps:List Sh} {xs:List Operand} {z:(kJ ps).den}:ps.all pR=true→jW s ps xs=some z→(bQ ps xs=[]∨Ae (ug xs)=true) →
 ∀ {s':St},Rel E C s' a w G pt→(∀ x∈bQ ps xs,aV s' x=aV s x) →
 Rel E C (au (nO (bQ ps xs)) s') a w G pt∧(∀ i,get (au (nO (bQ ps xs)) s') (2*i+1)=get s' (2*i+1)) ∧
 (∀ b,TC E.n C.m (au (nO (bQ ps xs)) s') a w pt b+cO ps.length (fun i=>dP b ((bY ps z).getD i .undef) ((xs.map a.eval).getD i undef))=TC E.n C.m s' a w pt b) ∧
 ∀ x∈bQ ps xs,∀ b,dP b (aV s x) (a.eval x)≤cO ps.length (fun i=>dP b ((bY ps z).getD i .undef) ((xs.map a.eval).getD i undef)):=by
 induction ps generalizing xs with
 | nil=>
  intro _ hz _ s' R _
  have:bQ [] xs=[]:=by simp [bQ]
  rw [this]
  exact ⟨R,fun i=>rfl,fun b=>rfl,fun x hx=>by simp at hx⟩
 | cons p r ih=>
  intro bK hz hd s' R he
  cases xs with
  | nil=>simp [jW] at hz
  | cons x xs=>
   simp only [List.all_cons,dA] at bK;simp only [jW] at hz;split at hz
   ·rename_i y z' h1 h2
    simp only [bn] at hz;subst hz
    have Xe:∀ b,cO (r.length+1) (fun i=>dP b ((bY (p::r) (y,z')).getD i .undef) (((x::xs).map a.eval).getD i undef)) =
     dP b (p.aZ y) (a.eval x)+cO r.length (fun i=>dP b ((bY r z').getD i .undef) ((xs.map a.eval).getD i undef)):=fun b=>by rw [sZ];rfl
    cases ho:ownSh p with
    | false=>
     have hg:bQ (p::r) (x::xs)=bQ r xs:=by simp only [bQ,ho,bJ]
     rw [hg] at hd he ⊢
     obtain ⟨R2,q1,q2,q3⟩:=ih bK.2 h2 (hd.imp id fun h=>(yG h).1) R he
     refine ⟨R2,q1,fun b=>?_,fun x' zU b=>?_⟩
     ·have:=q2 b
      show _+cO (r.length+1) _=_;rw [Xe,Gv (Gx bK.1 ho)];omega
     ·have:=q3 x' zU b
      show _≤cO (r.length+1) _;rw [Xe];omega
    | true=>
     have hg:bQ (p::r) (x::xs)=x::bQ r xs:=by simp only [bQ,ho,aQ]
     rw [hg] at hd he ⊢
     have hd:Ae (ug (x::xs))=true:=by
      rcases hd with h | h
      ·cases h
      ·exact h
     obtain ⟨d1,d2⟩:=yG hd;simp only [Sh.Ot,ho,aQ] at h1;have hx:=he x uD
     have zS:=vg (bC:=pt) bK.1 h1 (by rw [←hx];exact aJ R x)
     cases x with
     | tmp t=>
      have ht:t<E.n:=by
       rcases Nat.lt_or_ge t E.n with h | h
       ·exact h
       ·have h3:=R.ht t h
        have h4:aV s (.tmp t) = .undef:=by rw [←hx];exact h3
        rw [h4,RU ho] at h1;cases h1
      obtain ⟨R1,c1⟩:=R.drop1 ht
      obtain ⟨R2,q1,q2,q3⟩:=ih bK.2 h2 (.inr d1) R1 (fun x' zU=>by
       rw [←he x' (kE _ zU)]
       cases x' with
       | tmp u=>
        have:u≠t:=by
         rintro rfl;exact d2 u rfl (qp zU)
        simp only [aV,dQ,this,if_false]
       | _=>rfl)
      refine ⟨R2,fun i=>by have:=q1 i;rw [kF] at this;exact this,fun b=>?_,fun x' zU b=>?_⟩
      ·have k1:=q2 b
       have k2:=c1 b
       have k3:cT s' a b t=dP b (p.aZ y) (a.eval (.tmp t)):=by
        rw [zS.2 b,←hx];rfl
       show TC E.n C.m (au (nO (bQ r xs)) ((2*t,.undef)::s')) a w pt b+cO (r.length+1) _=_;rw [Xe];omega
      ·show _≤cO (r.length+1) _
       rw [Xe]
       rcases lC zU with rfl | zU
       ·rw [←zS.2 b];omega
       ·have:=q3 x' zU b;omega
     | _=>
      have Lr:∀ b,dP b (p.aZ y) (a.eval _)=0:=fun b=>(zS.2 b).trans (UJ s a b (by intro t h;cases h))
      obtain ⟨R2,q1,q2,q3⟩:=ih bK.2 h2 (.inr d1) R (fun x' zU=>he x' (kE _ zU))
      refine ⟨R2,q1,fun b=>?_,fun x' zU b=>?_⟩
      ·have:=q2 b
       show _+cO (r.length+1) _=_;rw [Xe,Lr];simp only [nO];omega
      ·show _≤cO (r.length+1) _
       rw [Xe]
       rcases lC zU with rfl | zU
       ·rw [←zS.2 b];omega
       ·have:=q3 x' zU b;omega
   ·cases hz
theorem UK {x:Operand}:∀ {xs:List Operand},x∈xs→jR (aV s x)=true→sN s xs=true
 | y::r,hx,h=>by
  simp only [sN,Bool.or_eq_true]
  rcases lC hx with rfl | hx
  ·exact .inl h
  ·exact .inr (UK hx h)
theorem yI {s1:St} (R:Rel E C s1 a w G pt) (hs:∀ i,get s1 (2*i+1)=get s (2*i+1)) {len:Bool}:∀ {ps:List Sh} {xs:List Operand} {z:(kJ ps).den},ps.all pR=true→jW s ps xs=some z →
 (∀ x∈fH ps xs,aU w (gB len s1 a pt w G) pt (view (aV s x)) (a.eval x))→(∀ x∈bQ ps xs,aU w G pt (aV s x) (a.eval x)∧∀ b,0<dP b (aV s x) (a.eval x)→gB len s1 a pt w G b=G b) →
 (∀ x∈xs,jR (aV s x)=true→len=true) →
 ∀ i,i<ps.length→aU w (gB len s1 a pt w G) kY ((bY ps z).getD i .undef) ((xs.map a.eval).getD i undef)
 | [],_,_,_,_,_,_,_,i,hi=>by simp at hi
 | _::_,[],_,_,h,_,_,_,_,_=>by simp [jW] at h
 | p::r,x::xs,z,bK,h,hv,hg,hl,i,hi=>by
  simp only [List.all_cons,dA] at bK;simp only [jW] at h;split at h
  ·rename_i y z' h1 h2
   simp only [bn] at h;subst h
   cases ho:ownSh p with
   | false=>
    simp only [fH,bQ,ho,bJ] at hv hg;simp only [Sh.Ot,ho,bJ] at h1
    have BA:p.arg s1 (aV s x)=some y:=by
     rw [arg_eq fun id _=>hs id];exact h1
    cases i with
    | zero=>exact Md R (Gx bK.1 ho) BA (hv x (by simp)) (hl x (by simp))
    | succ i=>exact yI R hs bK.2 h2 (fun x hx=>hv x (kE _ hx)) hg (fun x hx=>hl x (kE _ hx)) i (by simpa using hi)
   | true=>
    simp only [fH,bQ,ho,aQ] at hv hg;simp only [Sh.Ot,ho,aQ] at h1
    cases i with
    | zero=>
     obtain ⟨g1,g2⟩:=hg x (by simp)
     obtain ⟨q1,q2⟩:=vg (bC:=kY) bK.1 h1 g1
     refine aU.mono (pt:=kY) (R.wO len) (fun _ _ _ h=>h) q1 fun b hb=>⟨rfl,g2 b ?_⟩
     rw [←q2 b];exact hb
    | succ i=>exact yI R hs bK.2 h2 hv (fun x hx=>hg x (kE _ hx)) (fun x hx=>hl x (kE _ hx)) i (by simpa using hi)
  ·cases h
theorem J9 {f:Nat} {aZ:cu} (H:dM P E f aZ) (WB:aZ.xf=none) (hm:E.n≤C.m) (R:Rel E C s a w G pt) {o:Oper} {c:Call} (aY:o.op = .call c) (hc:∃ x,c.callee = .value x∧aV s x = .BG f) (hd:fE E o=true)
 {xs pre:List Operand} (QH:c.args.toList=pre++xs) (aic:pre.length=aZ.k0) {id st:Nat} {cs:List D} (hb:aZ.bM=true→get s (2*id+1) = .aI st true cs)
 (hp0:aZ.bM=true→∃ x,pre=[x]∧aV s x = .ptr id st 0) {y:(fJ aZ.pre).den} {z:(kJ aZ.ps).den} (hy:aZ.bM=true→aO aZ.pre y=cs) (hz:jW s aZ.ps xs=some z)
 (an1:sN s xs=true→aZ.nv=true) (O7:aZ.bM=true→EH o id aZ.rs=true) (hgo:BZ aZ.ps xs=true)
 {r:(Ty.cons aZ.rs.ty (fJ aZ.post)).den} (hF:aZ.F (y,z)=some r) {u:St} (hr:BX o s aZ.rs r.1=some u) :
 OA P E C o a w (au u ((bif aZ.bM then [(2*id+1,.aI st true (aO aZ.post r.2))] else [])++au (Dp aZ.nv s aZ.ps xs) s)):=by
 have bK:=H.ok;have an2:=bK;simp only [cu.ok,dA] at an2;obtain ⟨⟨⟨⟨o1,o2⟩,o3⟩,o4⟩,o5⟩:=an2
 have ho:∀ t,o.dst=some t→t<E.n:=by
  intro t ht
  simpa [fE,ht,Nat.blt_eq] using hd
 obtain ⟨hlen,an3⟩:=Gz o2 hz
 have Lg:bQ aZ.ps xs=[]∨Ae (ug xs)=true:=by
  unfold BZ at hgo;split at hgo
  ·rename_i h;exact .inl h
  ·exact .inr hgo
 -- shared,or sN
 obtain ⟨G1,s0,aus,R0,aut,hgs,hvF,hvT⟩:∃ (G1:Nat→Nat) (s0:St),au (bif aZ.nv then [] else oW s (fH aZ.ps xs)) s=s0∧Rel E C s0 a w G1 pt∧(∀ i,get s0 (2*i+1)=get s (2*i+1)) ∧
  (∀ x∈bQ aZ.ps xs,aV s0 x=aV s x)∧(aZ.nv=false→∀ x∈fH aZ.ps xs,aU w G1 pt (view (aV s x)) (a.eval x))∧(aZ.nv=true→s0=s):=by
  cases hn:aZ.nv with
  | true=>exact ⟨G,s,rfl,R,fun _=>rfl,fun _ _=>rfl,fun h=>(by cases h),fun _=>rfl⟩
  | false=>
   obtain ⟨G1,e1,R0,uQ,Yt⟩:=Rel.FK (s:=s) ((fH aZ.ps xs).map fun x=>(0,x)) R (fun t=>.inl rfl) (fun p hp=>by
    obtain ⟨x,hx,rfl⟩:=List.mem_map.1 hp
    exact an3 x hx)
   change Rel E C (au (oW s (fH aZ.ps xs)) s) a w G1 pt at R0
   refine ⟨G1,au (oW s (fH aZ.ps xs)) s,rfl,R0,fun i=>bq _ _ _ (Dy _ i),?_,fun _ x hx=>uQ (0,x) (List.mem_map.2 ⟨x,hx,rfl⟩),fun h=>(by cases h)⟩
   intro x hx
   cases x with
   | tmp t=>
    rcases Lg with h | h
    ·rw [h] at hx;simp at hx
    ·exact bq _ _ _ fun hm=>tC h hx (Dz _ t hm)
   | _=>rfl
 -- given away
 obtain ⟨R1,an4,Xd,QV⟩:=aay o2 hz Lg R0 hgs
 have yj:∀ i,get (au (nO (bQ aZ.ps xs)) s0) (2*i+1)=get s (2*i+1):=fun i=>(an4 i).trans (aut i)
 have an5:au (Dp aZ.nv s aZ.ps xs) s=au (nO (bQ aZ.ps xs)) s0:=by
  unfold Dp;rw [bg,aus]
 rw [an5]
 have agv:∀ t,Operand.tmp t∈fH aZ.ps xs→get (au (nO (bQ aZ.ps xs)) s0) (2*t)=get s0 (2*t):=by
  intro t ht
  rcases Lg with h | h
  ·rw [h];rfl
  ·exact bq _ _ _ fun hm=>tC h (yH hm) ht
 generalize aCM:au (nO (bQ aZ.ps xs)) s0=s1 at R1 an4 Xd yj agv
 have nI:aZ.bM=true→get s1 (2*id+1) = .aI st true (aO aZ.pre y):=fun h=>by rw [yj,hb h,hy h]
 have hvx:∀ x∈fH aZ.ps xs,aU w (gB aZ.nv s1 a pt w G1) pt (view (aV s x)) (a.eval x):=by
  intro x hx
  cases hn:aZ.nv with
  | false=>
   have e:gB false s1 a pt w G1=G1:=by
    funext b
    unfold gB
    rw [if_neg (by simp)]
   rw [e];exact hvF hn x hx
  | true=>
   have hs:=hvT hn;subst hs
   refine ael (by have:=R1.wO aZ.nv;rw [hn] at this;exact this) (an3 x hx) (aJ R0 x) fun b hb=>?_
   cases x with
   | tmp t=>
    have h1:0<cT s1 a b t:=by
     simp only [cT];rw [agv t hx];exact hb
    unfold gB;rw [if_pos ⟨rfl,.inr ⟨t,h1⟩⟩]
   | _=>
    rw [UJ s0 a b (by intro t h;cases h)] at hb
    omega
 have hgx:∀ x∈bQ aZ.ps xs,aU w G1 pt (aV s x) (a.eval x)∧∀ b,0<dP b (aV s x) (a.eval x)→gB aZ.nv s1 a pt w G1 b=G1 b:=by
  intro x hx
  refine ⟨by rw [←hgs x hx];exact aJ R0 x,fun b hb=>?_⟩
  unfold gB;rw [if_neg];rintro ⟨_,hl⟩;have h3:=(R1.OZ hl).2.2;have h4:=Xd b;have h5:=QV x hx b;have h6:=R0.ct b;omega
 -- the callee's start
 have agw:(c.args.toList.map a.eval).length=aZ.num:=by rw [QH,pJ,nP,aic,hlen];rfl
 have agx:∀ i,(c.args.toList.map a.eval).getD (aZ.k0+i) undef=(xs.map a.eval).getD i undef:=by
  intro i;rw [QH,vO];simp only [List.getD]
  rw [List.getElem?_append_right (by rw [pJ,aic];omega),pJ,aic]
  congr 2
  omega
 have an6:∀ b,TC E.n C.m s1 a w pt b+cO aZ.ps.length (fun i=>dP b ((bY aZ.ps z).getD i .undef) ((xs.map a.eval).getD i undef))≤1:=fun b=>by
  have h1:=Xd b;have h2:=R0.ct b;omega
 have an7:∀ b,0<cO aZ.ps.length (fun i=>dP b ((bY aZ.ps z).getD i .undef) ((xs.map a.eval).getD i undef))→b<w.heap.size∧(C.w0.heap.size≤b∨C.X b):=fun b h=>by
  have h1:=Xd b
  exact R0.cb b (by omega)
 have Rin:=aav R1 bK (x:=(y,z)) nI (vals:=c.args.toList.map a.eval) agw (fun h=>by
  obtain ⟨x,rfl,hx⟩:=hp0 h;have:=aJ R x;rw [hx] at this;obtain ⟨bR,q1,q2⟩:=this
  exact ⟨bR,q1,by rw [QH];simpa using q2⟩) (R1.wO aZ.nv) (fun b h1 h2=>by
  unfold gB;rw [if_neg];rintro ⟨_,⟨i,j,ar,t,l,g1,g2⟩ | ⟨t,g1⟩⟩
  ·have h3:=(R1.sN g1 g2).2.2.2
   have fC:i≠id:=by
    rintro rfl;rw [nI h1] at g1;cases g1
   have:=R1.bb h2 fC;omega
  ·have:=R1.bt h2 t
   omega) (R1.anR _) (fun i hi=>by
  have h1:=yI (kY:=Mf aZ.bM pt id st) (len:=aZ.nv) R1 yj o2 hz hvx hgx (fun x hx h=>an1 (UK hx h)) i hi
  rw [agx];exact h1)
  (gv:=fun b=>cO aZ.ps.length (fun i=>dP b ((bY aZ.ps z).getD i .undef) ((xs.map a.eval).getD i undef))) (fun b=>by simp only [agx]) an6 (fun b h=>(an7 b h).1)
 intro K Q hK;unfold Oper.wp;rw [WY H R aY hc,Oper.upon_enter]
 have iM:c.args.map a.eval=(c.args.toList.map a.eval).toArray:=by
  apply Array.ext';simp
 rw [iM]
 refine H.sem WB (y,z) r hF _ _ w _ _ rfl ?_ (by simpa using agw) Rin _ (fun vs w' G2 kY R2=>?_)
 ·cases h:aZ.bM with
  | true=>exact .inr rfl
  | false=>exact .inl (by simp [inC])
 ·obtain ⟨R3,oN⟩:=aaw R1 bK nI (fun h=>by simpa only [cu.nv,dA] using h) an6 an7 R2
  obtain ⟨G',bC,RF⟩:=Xb (s:=s) R3 hm ho o3 hr (fun t ht hn=>by
   cases hP:aZ.bM with
   | false=>simp only [bJ,List.nil_append];exact yj t
   | true=>
    have h1:=O7 hP
    have h1:Nat.beq t id=false:=by
     rcases hn with ⟨ls,hn⟩ | ⟨k0,e0,hn⟩<;>rw [hn] at h1<;>simpa only [EH,ht,Bool.not_eq_true'] using h1
    rw [gF] at h1;have h2:t≠id:=of_decide_eq_false h1;simp only [aQ,List.singleton_append,aW,h2,if_false]
    exact yj t) (fun k hk=>by
   unfold gH
   cases aZ.bM with
   | false=>rfl
   | true=>simp only [aQ,List.singleton_append,aD,hk,if_false]) R2 rfl oN (by
   cases hl:aZ.nv with
   | true=>
    simp only [cu.nv,dA] at hl;exact .inr hl.1
   | false=>exact .inl fun b=>by unfold lY;rw [if_neg (by simp)])
  exact hK _ _ _ _ RF
theorem Ka {Γ:Af} (hm:E.n≤C.m) (HΓ:∀ f aZ,Γ f=some aZ→dM P E (f%1000000) aZ) :
 ∀ f aZ o c s a w G pt u,f<1000000→Γ (ckey E o f)=some aZ→o.op = .call c→anN s aZ c f→Rel E C s a w G pt→(uj E aZ o s c.args.toList).den=some u→OA P E C o a w (au u s):=by
 intro f aZ o c s a w G pt u aT hΓ aY QG R h
 have zI:∃ x,c.callee = .value x∧aV s x = .BG f:=by
  rcases QG with h | h
  ·exact ⟨_,h,rfl⟩
  ·exact h.1
 have H:dM P E f aZ:=by
  have H:=HΓ _ aZ hΓ
  have e:ckey E o f%1000000=f:=by
   unfold ckey
   cases Nat.ble 101 (tag E o) with
   | true=>simp only [aQ];omega
   | false=>simp only [bJ];omega
  rw [e] at H;exact H
 unfold uj at h;split at h
 ·rename_i x hx
  unfold ZM at h
  cases hd:fE E o with
  | false=>rw [hd] at h;cases h
  | true=>
   rw [hd] at h;simp only [aQ] at h;split at h
   ·rename_i t ht
    split at h
    ·rename_i gg u' hu
     cases gg with
     | false=>simp [Out.den] at h
     | true=>
     simp only [Out.den,aQ,bn] at h;subst h
     have hc:c.callee = .value (.func f):=by
      rcases QG with h | h
      ·exact h
      ·rw [h.2] at hx;cases hx
     exact H.aei x hx E C o c s a w G pt t _ rfl hm (by simpa [fE,ht,Nat.blt_eq] using hd) ht aY hc R hu
    ·cases h
   ·cases h
 rename_i WB;unfold sO at h
 cases hd:fE E o with
 | false=>rw [hd] at h;cases h
 | true=>
  rw [hd] at h;simp only [aQ] at h;split at h
  ·rename_i x xs hP QH
   split at h
   ·rename_i id st off hx
    split at h
    ·rename_i st' cs hb
     cases hg:(Nat.beq st st' && Nat.beq off 0&&(!sN s xs || aZ.nv)&&EH o id aZ.rs&&BZ aZ.ps xs) with
     | false=>rw [hg] at h;cases h
     | true=>
      rw [hg] at h;simp only [aQ] at h;simp only [dA,Bool.or_eq_true,Bool.not_eq_true'] at hg;obtain ⟨⟨⟨⟨g1,g2⟩,g3⟩,g4⟩,g5⟩:=hg;have g1:=fD g1;have g2:=fD g2;subst g1;subst g2;split at h
      ·rename_i y z hy hz
       obtain ⟨r,hF,h⟩:=rG h;split at h
       ·rename_i u' hu'
        simp only [Out.den,bn] at h;subst h
        have:=J9 (xs:=xs) (pre:=[x]) H WB hm R aY zI hd (by simpa using QH) (by simp [cu.k0,hP]) (id:=id) (st:=st) (cs:=cs) (fun _=>hb) (fun _=>⟨x,rfl,hx⟩) (fun _=>ow hy) hz
         (fun hl=>by rcases g3 with g3 | g3;(rw [hl] at g3;cases g3);exact g3) (fun _=>g4) g5 hF hu'
        rw [hP] at this;rw [bg];exact this
       ·cases h
      ·cases h
    ·cases h
   ·cases h
  ·rename_i hP
   cases hg:((!sN s c.args.toList || aZ.nv)&&BZ aZ.ps c.args.toList) with
   | false=>rw [hg] at h;cases h
   | true=>
    rw [hg] at h;simp only [aQ] at h;split at h
    ·rename_i y z hy hz
     obtain ⟨r,hF,h⟩:=rG h;split at h
     ·rename_i u' hu'
      simp only [Out.den,bn] at h;subst h;have bK:=H.ok;simp only [cu.ok,dA,Bool.or_eq_true,hP,xD,false_or] at bK
      have:=J9 (xs:=c.args.toList) (pre:=[]) H WB hm R aY zI hd (by simp) (by simp [cu.k0,hP]) (id:=0) (st:=0) (cs:=[]) (fun h=>by rw [hP] at h;cases h) (fun h=>by rw [hP] at h;cases h)
       (fun h=>by rw [hP] at h;cases h) hz (fun hl=>by
        simp only [dA,Bool.or_eq_true,Bool.not_eq_true'] at hg
        rcases hg.1 with hg | hg
        ·rw [hl] at hg;cases hg
        ·exact hg) (fun h=>by rw [hP] at h;cases h) (by simp only [dA] at hg;exact hg.2) hF hu'
      rw [hP] at this;rw [bg];exact this
     ·cases h
    ·cases h
  ·cases h
end
section
variable {P:Program} {E E':Env} {C C':Ctx} {s s':St} {a a':Act} {w w':World} {G G':Nat→Nat} {pt bC:Nat→Nat→Option Value}
def Cu (a:Act):Act:={ a with tmps:=a.tmps.pop }
theorem O8 {o:Oper} {f:Nat} (aT:f<1000000):ckey E o f%1000000=f:=by
 unfold ckey
 cases Nat.ble 101 (tag E o) with
 | true=>simp only [aQ];omega
 | false=>simp only [bJ];omega
theorem Cv {xs:Array Value} {v:Value} (t:Nat) (h:t≠xs.size):(xs.push v).getD t undef=xs.getD t undef:=by
 simp only [xE,Array.getElem?_push,h,if_false]
theorem vk {xs:Array Value} {v:Value}:(xs.push v).getD xs.size undef=v:=by
 simp [xE]
theorem aaA {xs:Array Value} (t:Nat) (h:t+1<xs.size∨xs.size≤t):xs.pop.getD t undef=xs.getD t undef:=by
 simp only [xE,Array.getElem?_pop]
 rcases h with h | h
 ·rw [if_pos (by omega)]
 ·rw [if_neg (by omega),Array.getElem?_eq_none h]
theorem Rel.an8 (R:Rel E C s a w G pt) {d:D} {v:Value} (hd:aU w G pt d v) (hc:∀ b,dP b d v=0) :
 Rel { E with n:=E.n+1 } { C with m:=C.m+1 } ((2*E.n,d)::s) { a with tmps:=a.tmps.push v } w G pt:=by
 have g2:∀ id,get ((2*E.n,d)::s) (2*id+1)=get s (2*id+1):=fun id=>by rw [aD,if_neg (by omega)]
 have g1:∀ t,t≠E.n→get ((2*E.n,d)::s) (2*t)=get s (2*t):=fun t h=>by rw [aD,if_neg (by omega)]
 have g0:get ((2*E.n,d)::s) (2*E.n)=d:=by rw [aD,if_pos rfl]
 have Uz:(a.tmps.push v).getD E.n undef=v:=by
  have:=vk (xs:=a.tmps) (v:=v);rw [R.sz] at this;exact this
 have hTC:∀ b,TC (E.n+1) (C.m+1) ((2*E.n,d)::s) { a with tmps:=a.tmps.push v } w pt b=TC E.n C.m s a w pt b:=by
  intro b;unfold TC;simp only [cO]
  have e1:cO E.n (cT ((2*E.n,d)::s) { a with tmps:=a.tmps.push v } b)=cO E.n (cT s a b):=aG fun i hi=>by
   simp only [cT]
   rw [g1 i (by omega),Cv i (by rw [R.sz];omega)]
  have e2:cO C.m (cB ((2*E.n,d)::s) w pt b)=cO C.m (cB s w pt b):=aG fun i _=>by simp only [cB,g2]
  have e3:cT ((2*E.n,d)::s) { a with tmps:=a.tmps.push v } b E.n=0:=by
   simp only [cT];rw [g0,Uz];exact hc b
  have e4:cB ((2*E.n,d)::s) w pt b C.m=0:=by
   simp only [cB];rw [g2,R.hb C.m (bT _)];rfl
  omega
 refine ⟨by simp [R.sz],R.df,fun t=>?_,fun id=>?_,fun t ht=>?_,fun id hid=>?_,fun b=>?_,fun b hb=>?_,R.fr,R.ex,R.gz,R.os,R.out,R.tape,R.hs,fun id st h=>?_,R.gl,R.pn⟩
 ·by_cases h:t=E.n
  ·subst h
   rw [g0];show aU w G pt d ((a.tmps.push v).getD E.n undef);rw [Uz];exact hd
  ·rw [g1 t h]
   show aU w G pt (get s (2*t)) ((a.tmps.push v).getD t undef)
   rw [Cv t (by rw [R.sz];exact h)]
   exact R.tm t
 ·rw [g2];exact R.bx id
 ·have ht:E.n+1≤t:=ht
  rw [g1 t (by omega)];exact R.ht t (by omega)
 ·have hid:C.m+1≤id:=hid
  rw [g2];exact R.hb id (by omega)
 ·exact gX (Nat.le_of_eq (hTC b)) (R.ct b)
 ·exact R.cb b (by have:=hTC b;exact this▸hb)
 ·rw [g2] at h;exact R.pf id st h
theorem Rel.auw {s1 s2:St} {a1:Act} (R:Rel { E with n:=E.n+1 } { C with m:=C.m+1 } s1 a1 w G pt) (h1:∀ k,k≠2*E.n→get s2 k=get s1 k) (h2:get s2 (2*E.n) = .undef) (h3:get s1 (2*C.m+1) = .undef) :
 Rel E C s2 (Cu a1) w G pt:=by
 have eU:a1.tmps.size=E.n+1:=R.sz
 have g2:∀ id,get s2 (2*id+1)=get s1 (2*id+1):=fun id=>h1 _ (by omega)
 have hg:∀ t,t≠E.n→(Cu a1).tmps.getD t undef=a1.tmps.getD t undef:=fun t h=>aaA t (by omega)
 have hTC:∀ b,TC E.n C.m s2 (Cu a1) w pt b≤TC (E.n+1) (C.m+1) s1 a1 w pt b:=by
  intro b;unfold TC;simp only [cO]
  have e1:cO E.n (cT s2 (Cu a1) b)=cO E.n (cT s1 a1 b):=aG fun i hi=>by
   simp only [cT]
   rw [h1 _ (by omega),hg i (by omega)]
  have e2:cO C.m (cB s2 w pt b)=cO C.m (cB s1 w pt b):=aG fun i _=>by simp only [cB,g2]
  omega
 refine ⟨by simp [Cu,eU],R.df,fun t=>?_,fun id=>?_,fun t ht=>?_,fun id hid=>?_,fun b=>?_,fun b hb=>?_,R.fr,R.ex,R.gz,R.os,R.out,R.tape,R.hs,fun id st h=>?_,R.gl,R.pn⟩
 ·by_cases h:t=E.n
  ·subst h
   rw [h2];trivial
  ·rw [h1 _ (by omega),hg t h]
   exact R.tm t
 ·rw [g2];exact R.bx id
 ·by_cases h:t=E.n
  ·subst h;exact h2
  ·rw [h1 _ (by omega)]
   exact R.ht t (show E.n+1≤t by omega)
 ·by_cases h:id=C.m
  ·subst h;rw [g2];exact h3
  ·rw [g2];exact R.hb id (show C.m+1≤id by omega)
 ·exact gX (hTC b) (R.ct b)
 ·exact R.cb b (mK hb (hTC b))
 ·rw [g2] at h;exact R.pf id st h
theorem Kc:∀ {n:Nat} {u:St},FX n u=true→∀ k∈aH u,k<n
 | _,[],_,k,hk=>by simp [aH] at hk
 | n,(k0,d)::r,h,k,hk=>by
  simp only [FX,dA,Nat.blt_eq] at h;simp only [aH,List.mem_cons] at hk
  rcases hk with rfl | hk
  ·exact h.1
  ·exact Kc h.2 k hk
theorem O9 {n:Nat}:∀ {l:List Operand},FW n l=true→∀ t,Operand.tmp t∈l→t<n
 | [],_,t,ht=>by simp at ht
 | x::r,h,t,ht=>by
  rcases lC ht with rfl | ht
  ·simp only [FW,dA,Nat.blt_eq] at h
   exact h.1
  ·refine O9 (l:=r) ?_ t ht
   cases x<;>simp only [FW,dA] at h<;>first | exact h | exact h.2
theorem Ke {a:Act} {v:Value}:Cu { a with tmps:=a.tmps.push v }=a:=by
 cases a;simp [Cu]
theorem aaB {a:Act} {v r:Value} (o:Oper) (h:∀ t,o.dst=some t→t<a.tmps.size):Cu (({ a with tmps:=a.tmps.push v }:Act).put o.dst r)=a.put o.dst r:=by
 cases hd:o.dst with
 | none=>exact Ke
 | some t=>
  have:=h t hd;simp only [Cu,Act.put]
  congr 1
  apply Array.ext_getElem?;intro i;simp only [Array.getElem?_pop,Array.size_setIfInBounds,Array.size_push,Array.getElem?_setIfInBounds,Array.getElem?_push]
  by_cases hi:i<a.tmps.size
  ·rw [if_pos (by omega)]
   by_cases ht:t=i
   ·subst ht
    simp [hi]
    first | exact this | exact Nat.lt_succ_of_lt this | omega
   ·simp [ht,show i≠a.tmps.size by omega]
  ·rw [if_neg (by omega)]
   rw [if_neg (fun e:t=i=>hi (e▸this)),Array.getElem?_eq_none (Nat.le_of_not_lt hi)]
theorem dM.auy {P:Program} {E E':Env} {f:Nat} {c:cu} (h:E'.glob=E.glob) (H:dM P E f c):dM P E' f c:=by
 refine ⟨H.ok,fun hx=>?_,by rw [h];exact H.aei,H.fn⟩
 have:=H.sem hx;unfold eO uo at this ⊢;rw [h];exact this
theorem aeo {Γ:Af} (hm:E.n≤C.m) (HΓ:∀ f aZ,Γ f=some aZ→dM P E (f%1000000) aZ):ZY P E Γ C:=by
 intro f t v aZ o c s a w G pt u x aT hΓ WB aY auz hx R h
 have H:dM P E f aZ:=by
  have H:=HΓ _ aZ hΓ;rw [O8 aT] at H;exact H
 unfold JI at h
 cases hd:(fE E o && !aZ.bM&&FW E.n c.args.toList) with
 | false=>rw [hd] at h;cases h
 | true=>
  rw [hd] at h;simp only [aQ] at h;simp only [dA] at hd;obtain ⟨⟨hd1,-⟩,hd3⟩:=hd
  have iN:∀ t,o.dst=some t→t<E.n:=by
   intro t ht
   simpa [fE,ht,Nat.blt_eq] using hd1
  rw [rF] at h;split at h
  ·rename_i u' h1
   cases hk:FX (2*E.n) u' with
   | false=>rw [hk] at h;cases h
   | true=>
    rw [hk] at h;simp only [aQ,Out.den,bn] at h;subst h;have hr:=aJ R x;rw [hx] at hr;obtain ⟨b,off,hv,hle,hc⟩:=hr
    have hd':aU w G pt (.jQ t [v] 0 0) (.pointer (some ⟨b,off,none⟩)):=
     ⟨b,off,by simp,by simp,by simpa using hle,fun i hi=>by
      have:i=0:=by simpa using hi
      subst this
      simpa using hc⟩
    have R1:=R.an8 hd' (fun _=>rfl)
    have key:=Ka (P:=P) (E:={ E with n:=E.n+1 }) (C:={ C with m:=C.m+1 }) (Γ:=fun k=>if k%1000000=f then some aZ else none) (show E.n+1≤C.m+1 by omega) (fun k aCQ hk=>by
     split at hk
     ·rename_i hkf
      simp only [bn] at hk;subst hk;rw [hkf];exact dM.auy (E:=E) rfl H
     ·cases hk) f aZ { o with op:=.call { callee:=.value (.func f),args:=c.args.push (.tmp E.n),argTypes:=c.argTypes } } { callee:=.value (.func f),args:=c.args.push (.tmp E.n),argTypes:=c.argTypes }
     ((2*E.n,.jQ t [v] 0 0)::s) { a with tmps:=a.tmps.push (.pointer (some ⟨b,off,none⟩)) } w G pt u' aT (if_pos (O8 aT)) rfl (.inl rfl) R1 (by
       unfold uj;rw [WB];simp only [Array.toList_push]
       exact h1)
    have gI:=Kc hk
    have gk:∀ k,k≠2*E.n→get (au u' s) k=get (au u' ((2*E.n,.jQ t [v] 0 0)::s)) k:=by
     intro k hk
     by_cases hm:k∈aH u'
     ·exact kK _ _ _ _ hm
     ·rw [bq _ _ _ hm,bq _ _ _ hm,aD,if_neg hk]
    have g2:get (au u' s) (2*E.n) = .undef:=by
     rw [bq _ _ _ (fun hm=>by have:=gI _ hm;omega)]
     exact R.ht _ (bT _)
    have g3:get (au u' ((2*E.n,.jQ t [v] 0 0)::s)) (2*C.m+1) = .undef:=by
     rw [bq _ _ _ (fun hm=>by have:=gI _ hm;omega),aD,if_neg (by omega)]
     exact R.hb _ (bT _)
    intro K Q hK
    have key:=key (fun a' w'=>K (Cu a') w') (fun e a' w'=>Q e (Cu a') w') (fun a' w' G' bC R'=>hK _ _ _ _ (R'.auw gk g2 g3))
    unfold Oper.wp at key ⊢;rw [aaq H rfl rfl,Oper.upon_enter] at key
    have bB:(execOp a.eval o).run P w = .ok (.enter f ((c.args.map a.eval).push (.pointer (some ⟨b,off,none⟩)))) w:=by
     obtain ⟨fn,h1,h2,h3⟩:=H.fn
     have e:execOp a.eval o=callFunc f (#[]++c.args.map a.eval++#[.pointer (some ⟨b,off,none⟩)]):=by
      simp only [execOp,aY,resolve,auz,hv];rfl
     rw [e];simp only [callFunc]
     have Iq:¬ fn.name = "runtime.NumGoroutine":=by simpa using h2
     have Ip:¬ fn.body=none:=fun h=>by rw [h] at h3;cases h3
     simp [go_sem,h1,Iq,Ip]
    have iM:(c.args.push (.tmp E.n)).map ({ a with tmps:=a.tmps.push (.pointer (some ⟨b,off,none⟩)) }:Act).eval=(c.args.map a.eval).push (.pointer (some ⟨b,off,none⟩)):=by
     rw [Array.map_push]
     have e1:({ a with tmps:=a.tmps.push (.pointer (some ⟨b,off,none⟩)) }:Act).eval (.tmp E.n) = .pointer (some ⟨b,off,none⟩):=by
      have:=vk (xs:=a.tmps) (v:=.pointer (some ⟨b,off,none⟩));rw [R.sz] at this;exact this
     rw [e1]
     congr 1
     apply Array.map_congr_left;intro y hy
     cases y with
     | tmp u=>
      have:=O9 hd3 u (by simpa using hy)
      exact Cv u (by rw [R.sz];exact Nat.ne_of_lt this)
     | _=>rfl
    rw [bB,Oper.upon_enter];simp only [iM] at key
    refine key.mono fun e w' he=>?_
    cases e with
    | returned r=>
     have he:K (Cu (({ a with tmps:=a.tmps.push (.pointer (some ⟨b,off,none⟩)) }:Act).put o.dst r)) w':=he
     rw [aaB o (fun t ht=>by rw [R.sz];exact iN t ht)] at he
     exact he
    | panicked ch=>
     have he:Q (.panic ch) (Cu { a with tmps:=a.tmps.push (.pointer (some ⟨b,off,none⟩)) }) w':=he
     rw [Ke] at he;exact he
    | outgrown=>
     obtain ⟨a2,w2,he⟩:=he;exact ⟨_,_,he⟩
  ·cases h
theorem aaC {Γ:Af} (hm:E.n≤C.m) (HΓ:∀ f aZ,Γ f=some aZ→dM P E (f%1000000) aZ):LP P E Γ C:=⟨aeo hm HΓ,Ka hm HΓ⟩
end
theorem dM.env {P:Program} {E E':Env} {f:Nat} {c:cu} (h:E'.glob=E.glob) (H:dM P E f c):dM P E' f c:=by
 refine ⟨H.ok,fun hx=>?_,by rw [h];exact H.aei,H.fn⟩
 have:=H.sem hx;unfold eO uo at this ⊢;rw [h];exact this
def AB (E:Env) (fn:Func) (c:cu):Bool:=
 Nat.beq E.n fn.ntmps&&j5 E.hp c.bM&&c.ok&&Nat.ble c.num E.n && !(fn.name == "runtime.NumGoroutine") && !fn.body.isNone&&c.xf.isNone
theorem aie {P:Program} {E:Env} (HP:nS P E) (aae:P.follows .mixedOrders=true) {Γ:Af} (HΓ:∀ g aZ,Γ g=some aZ→dM P E (g%1000000) aZ)
 {f:Nat} {fn:Func} (Co:Plan) {c:cu} (hf:P.funcs[f]? = some fn) (hck:AB E fn c=true)
 (hF:∀ x y,c.okV x→c.F x=some y→(evF (fun _ _=>Loop) E Γ fn Co c x).den=some y):dM P E f c:=by
 simp only [AB,dA,Bool.not_eq_true'] at hck;obtain ⟨⟨⟨⟨⟨⟨h1,h2⟩,h3⟩,h4⟩,h5⟩,h6⟩,h7⟩:=hck
 have h7:c.xf=none:=by simpa using h7
 refine ⟨h3,fun _=>?_,fun x hx=>(by rw [h7] at hx;cases hx),fn,hf,h5,h6⟩
 exact ah5 HP aae hf (fD h1) (mU h2) h3 (Ii h4) (fun C hC _=>aaC hC HΓ) hF
def Pb:List (Nat×TI)→Nat→Option TI
 | [],_=>none
 | (t,i)::r,u=>bif Nat.beq u t then some i else Pb r u
def agy:List (Nat×Nat)→Nat→Nat
 | [],_=>0
 | (a,b)::r,t=>bif Nat.beq t a then b else agy r t
def UL:List (Nat×(IntKind×List Int))→Nat→Option (IntKind×List Int)
 | [],_=>none
 | (a,b)::r,t=>bif Nat.beq t a then some b else UL r t
def xK:List (Nat×cu)→Nat→Option cu
 | [],_=>none
 | (a,b)::r,t=>bif Nat.beq t a then some b else xK r t
def mkE (Cw:List (Nat×TI)) (gl:List (Nat×(IntKind×List Int))) (n:Nat) (hp:Bool) (md:List (Nat×Nat)):Env:=
 { T:=Pb Cw,md:=agy md,glob:=UL gl,n,hp }
theorem wP {t:Nat} {i:TI}:∀ {Cw:List (Nat×TI)},Pb Cw t=some i→(t,i)∈Cw
 | (u,j)::r,h=>by
  simp only [Pb] at h
  cases hb:Nat.beq t u with
  | true=>
   rw [hb] at h;simp only [aQ,bn] at h;have:=fD hb;subst this;subst h;simp
  | false=>
   rw [hb] at h;exact kE _ (wP h)
theorem tF {α β:Type} {f g:α→β}:∀ {l:List α},l.map f=l.map g→∀ x∈l,f x=g x
 | [],_,x,h=>by simp at h
 | y::r,h,x,hx=>by
  simp only [jy,List.cons.injEq] at h
  rcases lC hx with rfl | hx
  ·exact h.1
  ·exact tF h.2 x hx
theorem Pf {t:Nat} {ks:List Nat}:∀ {cl:List (Nat×List Nat)},look cl t=some ks→(t,ks)∈cl
 | (u,j)::r,h=>by
  simp only [look] at h
  cases hb:Nat.beq t u with
  | true=>
   rw [hb] at h;simp only [aQ,bn] at h;have:=fD hb;subst this;subst h;simp
  | false=>
   rw [hb] at h;exact kE _ (Pf h)
theorem aaD {P:Program} {cl:List (Nat×List Nat)} {T:TypeId} {i:TI} (h:VW P cl T=some i):i.cmp=look cl T:=by
 unfold VW at h;split at h
 ·rename_i pi d hi hu
  split at h
  ·rename_i z hz
   cases hb:(Nat.beq z.cells.size pi.size&&(kG d || Nat.beq pi.size 1)&&z.cells.all (·.oneCell')) with
   | false=>simp [hb] at h
   | true=>
    simp only [hb,aQ,bn] at h;subst h;rfl
  ·cases h
 ·cases h
def vo:List (Nat×TI)→List (Nat×Nat)
 | []=>[]
 | p::r=>match p.2.desc with
  | .map k e=>(k,e)::vo r
  | _=>vo r
def tyL (Cw:List (Nat×TI)) (T:Nat):Ty:=
 match Pb Cw T with
 | some i=>i.ty
 | none=>.unit
theorem GA {T k e:Nat} {i:TI} (hd:i.desc = .map k e):∀ {Cw:List (Nat×TI)},(T,i)∈Cw→(k,e)∈vo Cw
 | [],h=>by simp at h
 | p::r,h=>by
  rcases lC h with rfl | h
  ·simp only [vo,hd,List.mem_cons,true_or]
  ·have:=GA hd h
   simp only [vo];split
   ·exact kE _ this
   ·exact this
theorem aif {P:Program} {Cw:List (Nat×TI)} {gl:List (Nat×(IntKind×List Int))} (cl:List (Nat×List Nat)) (h1:Cw.map (fun p=>VW P cl p.1)=Cw.map (fun p=>some p.2))
 (h2:cl.map (fun p=>(jV P 8 p.1,P.eqGuardType P.depth p.1))=cl.map (fun p=>(some p.2,false))) (h5:∀ q∈vo Cw,tX P q.1 q.2 (tyL Cw q.1) (tyL Cw q.2)) (n:Nat) (hp:Bool) (md:List (Nat×Nat)):nS P (mkE Cw gl n hp md):=by
 refine ⟨fun T i h=>adK (tF h1 (T,i) (wP h)),fun T i k e h hd=>h5 (k,e) (GA hd (wP h)),fun T i ks h hk=>?_⟩
 have h3:=aaD (tF h1 (T,i) (wP h));rw [hk] at h3;have h4:=tF h2 (T,ks) (Pf h3.symm);simp only [gD] at h4;exact h4
theorem Pg {τ ε:Type} {step:τ→Option (Sum τ ε)} (I:τ→Prop) (m:τ→Nat) (f:τ→ε)
 (h:∀ v,I v→step v=some (.inr (f v))∨∃ v',step v=some (.inl v')∧I v'∧m v' < m v∧f v' = f v) {v:τ} (hv:I v):Loop step v=some (f v):=by
 have key:∀ n v,I v→m v≤n→∃ k,wF step k v=some (f v):=by
  intro n
  induction n with
  | zero=>
   intro v hv hm
   rcases h v hv with h1 | ⟨v',h1,_,h3,_⟩
   ·exact ⟨1,by simp [wF,h1]⟩
   ·omega
  | succ n ih=>
   intro v hv hm
   rcases h v hv with h1 | ⟨v',h1,h2,h3,h4⟩
   ·exact ⟨1,by simp [wF,h1]⟩
   ·obtain ⟨k,hk⟩:=ih v' h2 (by omega)
    exact ⟨k+1,by simp [wF,h1,hk,h4]⟩
 obtain ⟨k,hk⟩:=key (m v) v hv (bT _);exact Am hk
theorem aep {P:Program} {E:Env}:∀ g aZ,xK [] g=some aZ→dM P E (g%1000000) aZ:=fun _ _ h=>by cases h
theorem gJ {P:Program} {E E':Env} {f:Nat} {c:cu} {l:List (Nat×cu)} (hg:E.glob=E'.glob) (h:dM P E' (f%1000000) c) (hl:∀ g aZ,xK l g=some aZ→dM P E (g%1000000) aZ) :
 ∀ g aZ,xK ((f,c)::l) g=some aZ→dM P E (g%1000000) aZ:=by
 intro g aZ h';simp only [xK] at h'
 cases hb:Nat.beq g f with
 | true=>
  rw [hb] at h';simp only [aQ,bn] at h';have:=fD hb;subst this;subst h';exact h.env hg
 | false=>
  rw [hb] at h';exact hl g aZ h'
open Go
theorem jm {n:Int} (h1:-9223372036854775808≤n) (h2:n≤9223372036854775807):aR n=n:=by
 have e1:(2:Int) ^ IntKind.i64.bits=18446744073709551616:=by decide
 have e2:(2:Int) ^ (IntKind.i64.bits - 1)=9223372036854775808:=by decide
 have e3:IntKind.i64.signed=true:=rfl;simp only [IntKind.wrap,e1,e2,e3,Bool.true_and,mX]
 split<;>omega
theorem wu64 {n:Int} (h1:0≤n) (h2:n<18446744073709551616):IntKind.wrap .u64 n=n:=by
 have e1:(2:Int) ^ IntKind.u64.bits=18446744073709551616:=by decide
 have e3:IntKind.u64.signed=false:=rfl;simp only [IntKind.wrap,e1,e3,Bool.false_and,xD,if_false];omega
theorem aer {n:Int} (h:IntKind.u64.has n):0≤n∧n<18446744073709551616:=by
 have h1:0≤n:=h.1;have h2:n≤18446744073709551615:=h.2;omega
theorem UM {n:Int} (h:IntKind.i64.has n):-9223372036854775808≤n∧n≤9223372036854775807:=h
theorem pow2 (n:Nat):Int.pow (2:Int) n=2 ^ n:=rfl
theorem toNat_ofInt {w:Nat} {x:Int} (h1:0≤x) (h2:x<2 ^ w):(BitVec.ofInt w x).toNat=x.toNat:=by
 rw [BitVec.toNat_ofInt]
 have:x%((2 ^ w:Nat):Int)=x:=Int.emod_eq_of_lt h1 (by simpa using h2)
 rw [this]
theorem bvand {w:Nat} {x y:Int} (h1:0≤x) (h2:x<2 ^ w) (h3:0≤y) (h4:y<2 ^ w):(BitVec.and (BitVec.ofInt w x) (BitVec.ofInt w y)).toNat=x.toNat &&& y.toNat:=by
 show (BitVec.ofInt w x &&& BitVec.ofInt w y).toNat=_;rw [BitVec.toNat_and,toNat_ofInt h1 h2,toNat_ofInt h3 h4]
theorem bvor {w:Nat} {x y:Int} (h1:0≤x) (h2:x<2 ^ w) (h3:0≤y) (h4:y<2 ^ w):(BitVec.or (BitVec.ofInt w x) (BitVec.ofInt w y)).toNat=x.toNat ||| y.toNat:=by
 show (BitVec.ofInt w x ||| BitVec.ofInt w y).toNat=_;rw [BitVec.toNat_or,toNat_ofInt h1 h2,toNat_ofInt h3 h4]
theorem AJ (n:Nat):(2:Int) ^ n=((2 ^ n:Nat):Int):=by simp
theorem Ph {a b:Nat} (h:a≤b):Nat.ble a b=true:=by rw [Nat.ble_eq];exact h
theorem aob {a b:Nat} (h:a<b):Nat.blt a b=true:=by rw [Nat.blt_eq];exact h
theorem gK {α:Type} {l:List α} {i:Nat} {d:α} (h:i<l.length):l.getD i d∈l:=by
 rw [iW,iw h];exact zG h
theorem ny {α:Type} {l:List α} {i j:Nat} {d x:α} (h:i<l.length):(l.set i x).getD j d=if i=j then x else l.getD j d:=by
 simp only [iW,List.getElem?_set]
 by_cases hj:i=j
 ·subst hj;simp [h]
 ·simp [hj]
theorem UN {α:Type} {l:List α} {i:Nat} {d:α} (h:l.length≤i):l.getD i d=d:=by
 rw [iW,List.getElem?_eq_none h];rfl
theorem Xf {τ ε:Type} {step:τ→Option (Sum τ ε)} (I:τ→Prop) (m:τ→Nat) (Q:ε→Prop)
 (h:∀ v,I v→(∃ e,step v=some (.inr e)∧Q e)∨∃ v',step v=some (.inl v')∧I v'∧m v' < m v) {v:τ} (hv:I v):∃ e,Loop step v=some e∧Q e:=by
 have key:∀ n v,I v→m v≤n→∃ k e,wF step k v=some e∧Q e:=by
  intro n
  induction n with
  | zero=>
   intro v hv hm
   rcases h v hv with ⟨e,h1,h2⟩ | ⟨v',h1,_,h3⟩
   ·exact ⟨1,e,by simp [wF,h1],h2⟩
   ·omega
  | succ n ih=>
   intro v hv hm
   rcases h v hv with ⟨e,h1,h2⟩ | ⟨v',h1,h2,h3⟩
   ·exact ⟨1,e,by simp [wF,h1],h2⟩
   ·obtain ⟨k,e,h4,h5⟩:=ih v' h2 (by omega)
    exact ⟨k+1,e,by simp [wF,h1,h4],h5⟩
 obtain ⟨k,e,h1,h2⟩:=key _ v hv (bT _);exact ⟨e,Am h1,h2⟩
theorem Cx {α ε:Type} {step:Int×Unit→Option (Sum (Int×Unit) ε)} (l:List α) (d:α) (bad:α→Bool) (R1 R0:ε)
 (h1:∀ i:Int,0≤i→i<(l.length:Int)→step (i,())=some (bif bad (l.getD i.toNat d) then .inr R1 else .inl (i+1,())))
 (h0:step ((l.length:Int),())=some (.inr R0)):Loop step ((0:Int),())=some (bif l.any bad then R1 else R0):=by
 have key:Loop step ((0:Int),())=some (bif (l.drop (0:Int).toNat).any bad then R1 else R0):=by
  refine Pg (fun v:Int×Unit=>0≤v.1∧v.1≤(l.length:Int)) (fun v:Int×Unit=>((l.length:Int) - v.1).toNat) (fun v:Int×Unit=>bif (l.drop v.1.toNat).any bad then R1 else R0) ?_ (v:=(0,())) ⟨by simp,by simp⟩
  rintro ⟨i,⟨⟩⟩ ⟨k1,k2⟩;simp only at k1 k2
  by_cases h:i<(l.length:Int)
  ·have hi:i.toNat<l.length:=by omega
   have hd:l.drop i.toNat=l.getD i.toNat d::l.drop (i+1).toNat:=by
    rw [show (i+1).toNat=i.toNat+1 by omega,List.drop_eq_getElem_cons hi,iW,iw hi];rfl
   rw [h1 i k1 h,hd,List.any_cons]
   cases hb:bad (l.getD i.toNat d) with
   | true=>left;rfl
   | false=>right;exact ⟨(i+1,()),rfl,⟨by simp only;omega,by simp only;omega⟩,by simp only;omega,by simp only [Bool.false_or]⟩
  ·have:i=(l.length:Int):=by omega
   subst this
   left
   rw [h0,jd,List.drop_length];rfl
 simpa using key
theorem AO {α:Type} (a b:List α) (i:Nat) (d:α):(a++b).getD i d=if i<a.length then a.getD i d else b.getD (i - a.length) d:=by
 simp only [iW];split
 ·rw [List.getElem?_append_left (by assumption)]
 ·rw [List.getElem?_append_right (by omega)]
theorem Xg {α:Type} (l:List α) (i:Nat) (d:α) (h:i<l.length):l.drop i=l.getD i d::l.drop (i+1):=by
 rw [List.drop_eq_getElem_cons h,iW,iw h];rfl
theorem aaE {α β:Type} (a:List α) (b:List β) (i:Nat) (x:α) (y:β) (h1:i<a.length) (h2:i<b.length):(a.zip b).getD i (x,y)=(a.getD i x,b.getD i y):=by
 have hz:i<(a.zip b).length:=by simp;omega
 rw [iW,iw hz,List.getElem_zip];simp [iW,h1,h2]
theorem GD {ε:Type} {step:Int×Unit→Option (Sum (Int×Unit) ε)} (n:Nat) (bad:Nat→Bool) (R1 R0:ε)
 (h1:∀ i:Int,0≤i→i<(n:Int)→step (i,())=some (bif bad i.toNat then .inr R1 else .inl (i+1,())))
 (h0:step ((n:Int),())=some (.inr R0)):Loop step ((0:Int),())=some (bif (List.range n).any bad then R1 else R0):=by
 refine Cx (List.range n) 0 bad R1 R0 (fun i k1 k2=>?_) (by simpa using h0)
 have k2:i<(n:Int):=by simpa using k2
 have e:(List.range n).getD i.toNat 0=i.toNat:=by
  have h:i.toNat<n:=by omega
  simp [iW,h]
 rw [h1 i k1 k2,e]
theorem qw {α:Type} {l:List α} {d:α} {i:Nat} (h:i<l.length):l.getD i d=l[i]:=by
 rw [iW,iw h];rfl
theorem dn {k:Nat} (h:k≤9223372036854775806):aR ((k:Int)+1)=((k+1:Nat):Int):=by rw [jm (by omega) (by omega)];omega
theorem dT {p:Prop} {i:Decidable p} (h:p):@decide p i=true:=bL h
theorem dF {p:Prop} {i:Decidable p} (h:¬ p):@decide p i=false:=d9 h
def kg (w:World) (G:Nat→Nat):(t:Ty)→t.den→(Nat→Value)→Nat→Prop
 | .int k,n,f,o=>f o = .int k n∧k.has n
 | .bool,x,f,o=>f o = .bool x
 | .str,l,f,o=>∃ s,f o = .string s∧lZ s=l∧l.length≤nG
 | .sl t,l,f,o=>∃ a n c,f o = .slice a n c∧n=l.length∧n*t.xk≤lW∧n≤c ∧
  (l=[]∨∃ b' o',a=some ⟨b',o',none⟩∧o' + n*t.nc≤G b'∧∀ i (h:i<l.length),dK w G t l[i] b' (o' + i*t.nc))
 | .unit,_,_,_=>True
 | .cons a b,x,f,o=>kg w G a x.1 f o∧kg w G b x.2 f (o+a.nc)
 | .st _ c,x,f,o=>kg w G c x f o
 | .iF _ _,_,_,_=>False
section
variable {w:World} {G:Nat→Nat} {pt:Nat→Nat→Option Value}
theorem kg.shift:∀ {t:Ty} {x:t.den} {f g:Nat→Value} {o o':Nat},kg w G t x f o→(∀ j,j<t.nc→g (o' + j)=f (o+j))→kg w G t x g o'
 | .int k,n,f,g,o,o',h,hc=>by
  have:=hc 0 (by simp [Ty.nc])
  simp only [Nat.add_zero] at this;simp only [kg] at h ⊢;rw [this];exact h
 | .bool,n,f,g,o,o',h,hc=>by
  have:=hc 0 (by simp [Ty.nc])
  simp only [Nat.add_zero] at this;simp only [kg] at h ⊢;rw [this];exact h
 | .str,n,f,g,o,o',h,hc=>by
  have:=hc 0 (by simp [Ty.nc])
  simp only [Nat.add_zero] at this;simp only [kg] at h ⊢;rw [this];exact h
 | .sl t,l,f,g,o,o',h,hc=>by
  have:=hc 0 (by simp [Ty.nc])
  simp only [Nat.add_zero] at this;simp only [kg] at h ⊢;rw [this];exact h
 | .unit,_,_,_,_,_,_,_=>trivial
 | .cons a c,x,f,g,o,o',h,hc=>by
  simp only [kg] at h ⊢;simp only [Ty.nc] at hc
  refine ⟨h.1.shift fun j hj=>hc j (by omega),h.2.shift fun j hj=>?_⟩
  have:=hc (a.nc+j) (by omega)
  rw [Nat.add_assoc,Nat.add_assoc];exact this
 | .st _ c,x,f,g,o,o',h,hc=>by
  simp only [kg] at h ⊢;exact kg.shift (t:=c) h hc
 | .iF _ _,x,f,g,o,o',h,hc=>h.elim
theorem kg.mem:∀ {t:Ty} {x:t.den} {f:Nat→Value} {o b o':Nat},kg w G t x f o→(∀ j,j<t.nc→w.cell? ⟨b,o' + j,none⟩=some (f (o+j)))→dK w G t x b o'
 | .int k,n,f,o,b,o',h,hc=>by
  have:=hc 0 (by simp [Ty.nc])
  simp only [Nat.add_zero] at this;simp only [kg] at h;simp only [dK];rw [this,h.1];exact ⟨rfl,h.2⟩
 | .bool,n,f,o,b,o',h,hc=>by
  have:=hc 0 (by simp [Ty.nc])
  simp only [Nat.add_zero] at this;simp only [kg] at h;simp only [dK];rw [this,h]
 | .str,n,f,o,b,o',h,hc=>by
  have:=hc 0 (by simp [Ty.nc])
  simp only [Nat.add_zero] at this;simp only [kg] at h;obtain ⟨s,h1,h2⟩:=h;simp only [dK]
  exact ⟨s,by rw [this,h1],h2⟩
 | .sl t,l,f,o,b,o',h,hc=>by
  have:=hc 0 (by simp [Ty.nc])
  simp only [Nat.add_zero] at this;simp only [kg] at h;obtain ⟨a,n,c,h1,h2⟩:=h;simp only [dK]
  exact ⟨a,n,c,by rw [this,h1],h2⟩
 | .unit,_,_,_,_,_,_,_=>by simp only [dK]
 | .cons a c,x,f,o,b,o',h,hc=>by
  simp only [kg] at h;simp only [dK];simp only [Ty.nc] at hc
  refine ⟨h.1.mem fun j hj=>hc j (by omega),h.2.mem fun j hj=>?_⟩
  have:=hc (a.nc+j) (by omega)
  rw [Nat.add_assoc,Nat.add_assoc];exact this
 | .st _ c,x,f,o,b,o',h,hc=>by
  simp only [kg] at h;simp only [dK];exact kg.mem (t:=c) h hc
 | .iF _ _,x,f,o,b,o',h,hc=>h.elim
theorem kg.leaf:∀ {t:Ty} {x:t.den} {f:Nat→Value} {o:Nat},kg w G t x f o→∀ j (h:j<(enc t x).length),bF w G pt (enc t x)[j] (f (o+j))∧(f (o+j)).oneCell' = true
 | .int k,n,f,o,h,j,hj=>by
  have:j=0:=by simp [enc] at hj;exact hj
  subst this;simp only [kg] at h;rw [Nat.add_zero,h.1];exact ⟨⟨rfl,h.2⟩,rfl⟩
 | .bool,n,f,o,h,j,hj=>by
  have:j=0:=by simp [enc] at hj;exact hj
  subst this;simp only [kg] at h;rw [Nat.add_zero,h];exact ⟨rfl,rfl⟩
 | .str,n,f,o,h,j,hj=>by
  have:j=0:=by simp [enc] at hj;exact hj
  subst this;simp only [kg] at h;obtain ⟨s,h1,h2⟩:=h;rw [Nat.add_zero,h1];exact ⟨⟨s,rfl,h2⟩,rfl⟩
 | .sl t,l,f,o,h,j,hj=>by
  have:j=0:=by simp [enc] at hj;exact hj
  subst this;simp only [kg] at h;obtain ⟨a,n,c,h1,h2,h3,h4,h5⟩:=h;rw [Nat.add_zero,h1]
  refine ⟨⟨a,n,c,rfl,h2,h3,by rw [←h2];exact h4,?_⟩,rfl⟩
  rcases h5 with h5 | ⟨b',o',h6,h7,h8⟩
  ·exact .inl h5
  ·subst h2
   exact .inr ⟨b',o',h6,h7,h8⟩
 | .iF _ _,x,f,o,h,j,hj=>h.elim
 | .unit,_,_,_,_,j,hj=>by simp [enc] at hj
 | .cons a c,x,f,o,h,j,hj=>by
  simp only [kg] at h;have hl:=jZ a x.1;have e:enc (.cons a c) x=enc a x.1++enc c x.2:=rfl
  by_cases h1:j<(enc a x.1).length
  ·have:=h.1.leaf j h1
   simp only [e,List.getElem_append_left h1];exact this
  ·have vQ:j - (enc a x.1).length<(enc c x.2).length:=by
    rw [e,nP] at hj;omega
   have:=h.2.leaf (j - (enc a x.1).length) vQ
   simp only [e,List.getElem_append_right (by omega:(enc a x.1).length≤j)]
   rw [show o+a.nc+(j - (enc a x.1).length)=o+j by omega] at this
   exact this
 | .st _ c,x,f,o,h,j,hj=>by
  simp only [kg] at h;exact kg.leaf (t:=c) h j hj
end
def aes (chk:TypeId→Ty→Bool) (P:Program):List Field→Nat→Ty→Bool
 | [],_,.unit=>true
 | f::r,off,.cons a b=>chk f.type a&&Nat.beq f.offset off&&Nat.beq (P.cellsOf f.type) a.nc&&aes chk P r (off+a.nc) b
 | _,_,_=>false
def DC (P:Program):Nat→TypeId→Ty→Bool
 | 0,_,_=>false
 | n+1,t,ty=>match P.underlying t,ty with
  | some (.int k),.int k'=>mZ k k'
  | some .bool,.bool=>true
  | some .string,.str=>true
  | some (.slice e),.sl a=>DC P n e a&&Nat.beq (P.cellsOf e) a.nc&&Nat.beq (P.bytesOf e) a.xk&&Nat.blt 0 a.nc
  | some (.struct fs),.st _ c=>aes (DC P n) P fs.toList 0 c&&Nat.beq (P.cellsOf t) c.nc
  | _,_=>false
section
variable {H:Type} {en:TypeId×Value→H} {P:Program} {w:World} {spare:Nat→Bool} {held:Bool}
theorem EJ {p:Nat→Bool} {a b:List Nat} (h:(a++b).all p=true):a.all p=true∧b.all p=true:=by
 rw [List.all_append,dA] at h;exact h
theorem vv {e:TypeId} {p:Nat→Bool}:∀ {l:List (DataW H)},(DataW.weightsAll P e l).all p=true→∀ d∈l,(d.weights P e).all p=true
 | [],_,d,h=>by simp at h
 | x::r,hw,d,h=>by
  simp only [DataW.weightsAll] at hw;obtain ⟨h1,h2⟩:=EJ hw
  rcases lC h with rfl | h
  ·exact h1
  ·exact vv h2 d h
theorem aeu {b o:Nat} {v:Value} (h:w.cell? ⟨b,o,none⟩=some v):o<gV w b:=by
 unfold World.cell? at h;unfold gV;simp only at h;split at h
 ·rename_i c _ _ hc
  rw [hc];simp only [Option.isSome_none,xD,if_false] at h;exact (E5 h).1
 ·cases h
theorem Pj {α:Type} {n:Nat} {p:Nat→α→Prop} (h:∀ i,i<n→∃ y,p i y):∃ l:List α,l.length=n∧∀ i (hi:i<l.length),p i l[i]:=by
 induction n with
 | zero=>exact ⟨[],rfl,fun i hi=>by simp at hi⟩
 | succ n ih=>
  obtain ⟨l,h1,h2⟩:=ih fun i hi=>h i (by omega)
  obtain ⟨y,hy⟩:=h n (by omega)
  refine ⟨l++[y],by simp [h1],fun i hi=>?_⟩
  by_cases hl:i<l.length
  ·rw [List.getElem_append_left hl];exact h2 i hl
  ·have:i=n:=by simp at hi;omega
   subst this
   rw [List.getElem_append_right (by omega)]
   simpa using hy
theorem GH:∀ (n:Nat) (t:TypeId) (ty:Ty) (fuel:Nat) (cs:List Value) (x:DataW H×List MemPlace),DC P n t ty=true→DataW.trod en P w 0 spare held fuel t cs=some x →
 (x.1.weights P t).all (·≤reachBytes)=true→cs.length=ty.nc∧∃ y:ty.den,kg w (gV w) ty y (fun j=>cs.getD j undef) 0
 | 0,_,_,_,_,_,h,_,_=>by cases h
 | n+1,t,ty,fuel,cs,x,hc,ht,hw=>by
  unfold DC at hc;split at hc
  ·rename_i k k' hu
   obtain rfl:=gW hc;obtain ⟨m,rfl,rfl,hwf⟩:=DataW.trod_int hu ht;refine ⟨rfl,m,rfl,?_⟩;simp only [Lit.wf,dA,mX] at hwf;exact hwf
  ·rename_i hu
   obtain ⟨b,rfl,rfl⟩:=DataW.trod_bool hu ht;exact ⟨rfl,b,rfl⟩
  ·rename_i hu
   obtain ⟨s,rfl,rfl,hs⟩:=DataW.trod_string hu ht;refine ⟨rfl,lZ s,s,rfl,rfl,?_⟩
   have:(lZ s).length=s.size:=by simp only [lZ,pJ,Array.length_toList];rfl
   rw [this];exact hs
  ·rename_i e a hu
   simp only [dA] at hc;obtain ⟨⟨⟨c1,c2⟩,c3⟩,c4⟩:=hc;have c2:=fD c2;have c3:=fD c3
   have c4:0<a.nc:=by rwa [Nat.blt_eq] at c4
   rcases DataW.trod_slice hu ht with ⟨rfl,rfl⟩ | ⟨ad,len,cap,elems,rest,m,rfl,rfl,rfl,_,hlc,_,Nh,UO,_,_⟩
   ·refine ⟨rfl,([]:List a.den),none,0,0,rfl,rfl,by rw [Nat.zero_mul];exact mY _,bT _,.inl rfl⟩
   ·simp only [DataW.weights,hu] at hw
    rw [List.all_cons,dA] at hw
    have ahP:len*a.xk≤lW:=by
     have h1:=vP hw.1;rw [c3] at h1;simp only [pJ] at h1
     have:len*a.xk≤(elems.length+rest.length)*a.xk:=zF _ (by omega)
     have:reachBytes≤lW:=by decide
     omega
    have hwe:=(EJ hw.2).1
    -- each element
    have each:∀ i,i<len→∃ y:a.den,ad.spot=none∧dK w (gV w) a y ad.block (ad.off+i*a.nc)∧ad.off+(i+1)*a.nc≤gV w ad.block:=by
     intro i hi;have hr:=UO i hi
     rw [iw (by omega),Option.bind_eq_some_iff] at hr
     obtain ⟨cs',h1,h2⟩:=hr
     have hwi:((elems[i]'(by omega)).1.weights P e).all (·≤reachBytes)=true:=vv hwe _ (List.mem_map.2 ⟨_,zG _,rfl⟩)
     obtain ⟨l1,y,hy⟩:=GH n e a m cs' _ c1 h2 hwi
     have gy:∀ j,j<a.nc→w.cell? ((ad.add (i*P.cellsOf e)).add j)=some (cs'.getD j undef):=by
      intro j hj;obtain ⟨_,_,h3⟩:=World.cells?_some h1
      have:=h3 j (by omega)
      rw [this]
      simp [List.getD,show j<cs'.length by omega]
     have agz:ad.spot=none:=by
      have hr0:=UO 0 (by omega)
      rw [iw (by omega),Option.bind_eq_some_iff] at hr0
      obtain ⟨cs0,k1,_⟩:=hr0;obtain ⟨_,k2,k3⟩:=World.cells?_some k1
      have k4:=k3 0 (by omega)
      rw [Nat.zero_mul] at k4;have k5:Addr.add (Addr.add ad 0) 0=ad:=rfl
      rw [k5,iw (by omega)] at k4
      unfold World.cell? at k4;split at k4
      ·cases hs:ad.spot with
       | none=>rfl
       | some z=>rw [hs] at k4;simp at k4
      ·cases k4
     obtain ⟨ab,ao,asp⟩:=ad;simp only at agz;subst agz
     have aoc:∀ j,(Addr.add (Addr.add ⟨ab,ao,none⟩ (i*P.cellsOf e)) j)=⟨ab,ao+i*a.nc+j,none⟩:=by
      intro j;rw [c2];unfold Addr.add
      split<;>split<;>simp_all<;>omega
     refine ⟨y,rfl,?_,?_⟩
     ·refine hy.mem fun j hj=>?_
      have:=gy j hj;rw [aoc] at this;rw [this,Nat.zero_add]
     ·have:=gy (a.nc - 1) (by omega)
      rw [aoc] at this;have:=aeu this;have e:(i+1)*a.nc=i*a.nc+a.nc:=Nat.succ_mul i a.nc;simp only;omega
    obtain ⟨l,hl,oO⟩:=Pj each;refine ⟨rfl,l,some ad,len,cap,rfl,hl.symm,ahP,hlc,?_⟩
    by_cases h0:len=0
    ·left
     exact List.length_eq_zero_iff.1 (by omega)
    ·right
     have hsp:=(oO 0 (by omega)).1
     obtain ⟨ab,ao,asp⟩:=ad;simp only at hsp;subst hsp
     refine ⟨ab,ao,rfl,?_,fun i hi=>(oO i hi).2.1⟩
     have:=(oO (len - 1) (by omega)).2.2
     rw [show len - 1+1=len by omega] at this
     exact this
  ·rename_i fs b c hu
   simp only [dA] at hc;obtain ⟨c1,c2⟩:=hc;have c2:=fD c2;obtain ⟨xs,m,rfl,rfl,hlen,hxl,UO⟩:=DataW.trod_struct hu ht;simp only [DataW.weights,hu] at hw
   refine ⟨by rw [hlen,c2];rfl,?_⟩
   -- the fields
   have fields:∀ (fl:List Field) (off:Nat) (c:Ty) (ys:List (DataW H×List MemPlace)),aes (DC P n) P fl off c=true→fl.length=ys.length →
    (∀ (i:Nat) (f:Field),fl[i]? = some f→DataW.trod en P w 0 spare held m f.type ((cs.drop f.offset).take (P.cellsOf f.type))=ys[i]?) →
    (DataW.weightsEach P (fl.map (·.type)) (ys.map (·.1))).all (·≤reachBytes)=true→∃ y:c.den,kg w (gV w) c y (fun j=>cs.getD j undef) off:=by
    intro fl
    induction fl with
    | nil=>
     intro off c ys h1 _ _ _
     cases c with
     | unit=>exact ⟨(),trivial⟩
     | _=>cases h1
    | cons f r ih=>
     intro off c ys h1 h2 h3 h4
     cases c with
     | cons a b=>
      simp only [aes,dA] at h1;obtain ⟨⟨⟨g1,g2⟩,g3⟩,g4⟩:=h1;have g2:=fD g2;have g3:=fD g3
      cases ys with
      | nil=>simp at h2
      | cons y0 yr=>
       simp only [jy,DataW.weightsEach] at h4;obtain ⟨h4a,h4b⟩:=EJ h4;have k0:=h3 0 f rfl;obtain ⟨l1,y,hy⟩:=GH n f.type a m _ y0 g1 k0 h4a
       obtain ⟨z,hz⟩:=ih (off+a.nc) b yr g4 (by simpa using h2) (fun i f' hf'=>by simpa using h3 (i+1) f' (by simpa using hf')) h4b
       refine ⟨(y,z),hy.shift fun j hj=>?_,hz⟩
       rw [←g2,Nat.zero_add,g3];simp only [List.getD];rw [List.getElem?_take_of_lt hj,List.getElem?_drop]
     | _=>cases h1
   have:=fields fs.toList 0 c xs c1 (by simpa using hxl.symm) (fun i f hf=>UO i f (by simpa using hf)) hw
   exact this
  ·cases hc
end
def RV:Ty→List Lf
 | .int k=>[.int k]
 | .bool=>[.bool]
 | .str=>[.str]
 | .sl t=>[.sl 0 t]
 | .unit=>[]
 | .cons a b=>RV a++RV b
 | .st _ c=>RV c
 | .iF f t=>[.iF f t]
def yJ:Ty→Sh
 | .int k=>.lf (.int k)
 | .bool=>.lf .bool
 | .str=>.lf .str
 | .sl t=>.lf (.sl 0 t)
 | .st _ c=>.agg (RV c)
 | _=>.agg []
theorem Kg:∀ (a b:List Lf) (x:(fJ a).den) (y:(fJ b).den),∃ z:(fJ (a++b)).den,aO (a++b) z=aO a x++aO b y
 | [],_,_,y=>⟨y,rfl⟩
 | l::r,b,x,y=>by
  obtain ⟨z,hz⟩:=Kg r b x.2 y
  exact ⟨(x.1,z),by simp only [List.cons_append,aO,hz]⟩
theorem EK:∀ (c:Ty) (y:c.den),∃ z:(fJ (RV c)).den,aO (RV c) z=enc c y
 | .int k,y=>⟨(y,()),rfl⟩
 | .bool,y=>⟨(y,()),rfl⟩
 | .str,y=>⟨(y,()),rfl⟩
 | .sl t,y=>⟨(y,()),rfl⟩
 | .unit,_=>⟨(),rfl⟩
 | .cons a b,y=>by
  obtain ⟨z1,h1⟩:=EK a y.1;obtain ⟨z2,h2⟩:=EK b y.2;obtain ⟨z,h⟩:=Kg (RV a) (RV b) z1 z2
  exact ⟨z,by show aO (RV a++RV b) z=enc a y.1++enc b y.2;rw [h,h1,h2]⟩
 | .st _ c,y=>EK c y
 | .iF f t,y=>⟨(y,()),rfl⟩
section
variable {H:Type} {en:TypeId×Value→H} {P:Program} {w:World} {spare:Nat→Bool} {held:Bool} {pt:Nat→Nat→Option Value}
theorem EL {ty:Ty} {y:ty.den} {v:Value} {d:D} (h:kg w (gV w) ty y (fun j=>#[v].toList.getD j undef) 0) (he:enc ty y=[d]):bF w (gV w) pt d v:=by
 have:=(h.leaf (pt:=pt) 0 (by rw [he];simp)).1
 simp only [he] at this;exact this
theorem Xh {n:Nat} {t:TypeId} {ty:Ty} {v:Value} {d:DataW H} {p:List MemPlace} {base:Nat} (hc:DC P n t ty=true) (bK:Value.okWide P w .any base t v)
 (ht:DataW.Trod en P w 0 spare held t v d p) (hw:(d.weights P t).all (·≤reachBytes)=true):∃ x:(yJ ty).ty.den,aU w (gV w) pt ((yJ ty).aZ x) v:=by
 obtain ⟨fuel,ht⟩:=ht;obtain ⟨hl,y,hy⟩:=GH n t ty fuel _ _ hc ht hw
 cases n with
 | zero=>cases hc
 | succ n=>
  unfold DC at hc;split at hc
  ·rename_i k k' hu
   obtain ⟨m,rfl⟩:=WideShapes.okWide_int hu bK;exact ⟨y,EL (pt:=pt) hy rfl⟩
  ·rename_i hu
   obtain ⟨m,rfl⟩:=WideShapes.okWide_bool hu bK;exact ⟨y,EL (pt:=pt) hy rfl⟩
  ·rename_i hu
   obtain ⟨m,rfl⟩:=WideShapes.okWide_string hu bK;exact ⟨y,EL (pt:=pt) hy rfl⟩
  ·rename_i e a hu
   obtain ⟨ad,len,cap,rfl⟩:=WideShapes.okWide_slice hu bK;exact ⟨y,EL (pt:=pt) hy rfl⟩
  ·rename_i fs b c hu
   obtain ⟨arr,rfl,eU⟩:=WideShapes.okWide_struct hu bK;obtain ⟨z,hz⟩:=EK c y;refine ⟨z,?_⟩;refine ⟨arr,rfl,?_,?_⟩
   ·show arr.size=(aO (RV c) z).length
    rw [hz,jZ]
    simpa [Value.cells,Ty.nc] using hl
   ·show aP w (gV w) pt (aO (RV c) z) (aS arr)
    rw [hz];intro j hj;have:=hy.leaf (pt:=pt) j hj
    have e:(Value.agg arr).cells.toList.getD (0+j) undef=aS arr j:=by
     rw [Nat.zero_add];simp [Value.cells,aS,List.getD,xE]
    simp only [e] at this;exact this
  ·cases hc
def UQ (P:Program) (n:Nat):List TypeId→List Ty→Bool
 | [],[]=>true
 | t::ts,y::ys=>DC P n t y&&UQ P n ts ys
 | _,_=>false
theorem Pm:∀ {ts:List TypeId} {tys:List Ty} {vs:List Value} {ds:List (DataW H)} {p:List MemPlace} {base:Nat} {n:Nat},UQ P n ts tys=true →
 DataW.TrodAll en P w 0 spare held ts vs ds p→(∀ (j:Nat) (t:TypeId) (v:Value),ts[j]? = some t→vs[j]? = some v→Value.okWide P w .any base t v)→(DataW.weightsEach P ts ds).all (·≤reachBytes)=true →
 vs.length=tys.length∧ds.length=tys.length∧∃ x:(kJ (tys.map yJ)).den,∀ i,i<tys.length→aU w (gV w) pt ((bY (tys.map yJ) x).getD i .undef) (vs.getD i undef)
 | [],[],vs,ds,p,base,n,_,h,_,_=>by
  cases vs with
  | nil=>
   cases ds with
   | nil=>exact ⟨rfl,rfl,(),fun i hi=>by simp at hi⟩
   | cons d r=>simp [DataW.TrodAll] at h
  | cons v r=>simp [DataW.TrodAll] at h
 | [],_::_,_,_,_,_,_,h,_,_,_=>by cases h
 | _::_,[],_,_,_,_,_,h,_,_,_=>by cases h
 | t::ts,ty::tys,vs,ds,p,base,n,hc,h,bK,hw=>by
  simp only [UQ,dA] at hc
  cases vs with
  | nil=>simp [DataW.TrodAll] at h
  | cons v vs=>
   cases ds with
   | nil=>simp [DataW.TrodAll] at h
   | cons d ds=>
    simp only [DataW.TrodAll] at h;obtain ⟨p1,q1,h1,h2,_⟩:=h;simp only [DataW.weightsEach] at hw;obtain ⟨w1,w2⟩:=EJ hw;obtain ⟨x,hx⟩:=Xh (pt:=pt) hc.1 (bK 0 t v rfl rfl) h1 w1
    obtain ⟨hlen,tY,z,hz⟩:=Pm hc.2 h2 (fun j t' v' hj hv=>bK (j+1) t' v' (by simpa using hj) (by simpa using hv)) w2
    refine ⟨by simp [hlen],by simp [tY],(x,z),fun i hi=>?_⟩
    cases i with
    | zero=>exact hx
    | succ i=>exact hz i (by simpa using hi)
end
mutual
def flat {H:Type}:DataW H→List Int
 | .lit (.int _ n)=>[n]
 | .agg parts=>agA parts
 | _=>[]
def agA {H:Type}:List (DataW H)→List Int
 | []=>[]
 | d::r=>flat d++agA r
end
section
variable {H:Type} {en:TypeId×Value→H} {P:Program} {w:World} {spare:Nat→Bool} {held:Bool} {base:Nat}
end
theorem EM:∀ c:Ty,(RV c).all ni=true
 | .int _=>rfl
 | .bool=>rfl
 | .str=>rfl
 | .sl _=>rfl
 | .unit=>rfl
 | .cons a b=>by
  simp only [RV,List.all_append,EM a,EM b,Bool.and_self]
 | .st _ c=>by
  simp only [RV];exact EM c
 | .iF _ _=>rfl
theorem RX (t:Ty):xI (yJ t)=true:=by
 cases t<;>first | rfl | exact EM _
theorem Pn (l:List Ty):(l.map yJ).all xI=true:=by
 simp only [List.all_eq_true,List.mem_map];rintro _ ⟨t,_,rfl⟩;exact RX t
def jX (ps:List Sh):cu:={ bM:=false,pre:=[],ps:=ps,rs:=.one (.lf .bool),post:=[],F:=fun _=>some (true,()) }
theorem Xi {P:Program} {E:Env} {f:Nat} {ps:List Sh} (H:dM P E f (jX ps)) (o2:ps.all xI=true) {W:World} {args:Array Value} (eU:args.size=ps.length) {x:(kJ ps).den}
 (iM:∀ i,i<ps.length→aU W (gV W) (fun _ _=>none) ((bY ps x).getD i .undef) (args.toList.getD i undef))
 (Nk:∀ g k l,E.glob g=some (k,l)→l.length≤gV W g∧∀ j (h:j<l.length),W.cell? ⟨g,j,none⟩=some (.int k l[j])∧k.has l[j]) :
 Calls P f args W fun e W'=>e = .returned (.bool true)∧RowKit.Below W.heap.size W W':=by
 have bK:=H.ok;simp only [cu.ok,dA,jX] at bK
 have Mc:(jX ps).num=ps.length:=by simp [cu.num,jX]
 have gE:∀ k,get (bI (jX ps) ((),x)) k=get (kC 0 (bY ps x)++[]) k:=by
  intro k;unfold bI;simp only [jX,bJ,kP,List.append_nil]
 have hl:=iD ps x
 have IG:∀ t,get (bI (jX ps) ((),x)) (2*t)=if t<ps.length then (bY ps x).getD t .undef else .undef:=by
  intro t;rw [gE,gU]
  have e1:2*t%2=0:=by omega
  have e2:2*t / 2=t:=by omega
  simp only [e1,e2,hl,mY,Nat.zero_add,true_and,Nat.sub_zero]
  by_cases h:t<ps.length
  ·rw [if_pos h,if_pos h]
  ·rw [if_neg h,if_neg h];rfl
 have yE:∀ i,get (bI (jX ps) ((),x)) (2*i+1) = .undef:=by
  intro i
  rw [gE,gU,if_neg (by omega)]
  rfl
 let C:Ctx:={ m:=2,w0:=W,G0:=gV W,X:=fun _=>False,pin:=none }
 have tz:∀ b,TC (uo E (jX ps).num false).n C.m (bI (jX ps) ((),x)) { tmps:=args,defers:=[] } W (fun _ _=>none) b=0:=by
  intro b;unfold TC
  have e1:cO (uo E (jX ps).num false).n (cT (bI (jX ps) ((),x)) { tmps:=args,defers:=[] } b)=0:=by
   refine lg fun t _=>?_
   simp only [cT];rw [IG]
   by_cases h:t<ps.length
   ·rw [if_pos h]
    obtain ⟨p,y,h1,h2⟩:=qo ps x t h;rw [h2];exact Gv (List.all_eq_true.1 o2 p h1) y b _
   ·rw [if_neg h];exact dX b _
  have e2:cO C.m (cB (bI (jX ps) ((),x)) W (fun _ _=>none) b)=0:=by
   refine lg fun i _=>?_
   simp only [cB];rw [yE];rfl
  rw [e1,e2]
 have R:Rel (uo E (jX ps).num false) C (bI (jX ps) ((),x)) { tmps:=args,defers:=[] } W (gV W) (fun _ _=>none):=by
  refine ⟨by simp [uo,Mc,eU],rfl,fun t=>?_,fun i=>?_,fun t ht=>?_,fun i _=>yE i,fun b=>by rw [tz];exact mY _,fun b hb=>by rw [tz] at hb;omega,fun b _ _=>⟨rfl,rfl⟩,Ext.refl _ _,fun b hb=>?_,
   rfl,rfl,rfl,bT _,fun _ _ _=>rfl,Nk,fun v hv=>by cases hv⟩
  ·rw [IG]
   by_cases h:t<ps.length
   ·rw [if_pos h]
    have:=iM t h
    have e:args.toList.getD t undef=args.getD t undef:=by simp [List.getD,xE]
    rw [e] at this;exact this
   ·rw [if_neg h];trivial
  ·rw [yE];trivial
  ·have:ps.length≤t:=by simpa [uo,Mc] using ht
   rw [IG,if_neg (by omega)]
  ·unfold gV
   rw [Array.getElem?_eq_none hb]
 refine H.sem rfl ((),x) (true,()) rfl C args W (gV W) (fun _ _=>none) rfl (.inl rfl) (by rw [Mc];exact eU) R _ (fun vs w' G' bC R2=>?_)
 have Q5:vs.size=1:=R2.sz;have hv:=R2.tm 0;have hg:get (gH (jX ps) (true,())) (2*0) = .bool true:=rfl;rw [hg] at hv;have hv:vs.getD 0 undef = .bool true:=hv
 refine ⟨by rw [tu Q5,hv],⟨R2.os,R2.tape,R2.out,R2.hs,fun k hk=>(R2.fr k hk (fun h=>h)).1⟩⟩
open Go.RowKit Go.ChangeShapes Go.WideShapes
theorem xL {H:Type} {enc:TypeId×Value→H} {P:Program} {W W':World} (hl:laidOutB P=true) (hb:Below W.heap.size W W'):∀ {ts:List TypeId} {vs:List Value} {ds:List (DataW H)} {p:List MemPlace},
 (∀ t∈ts,P.readableRec t=true∧t<P.types.size)→DataW.TrodAll enc P W 0 (fun _=>true) true ts vs ds p→(∀ x∈p,x.block<W.heap.size) →
 DataW.TrodAll enc P W' 0 (fun b=>decide (b<W.heap.size)) true ts vs ds p
 | [],[],[],p,_,h,_=>h
 | [],[],_::_,_,_,h,_=>by simp [DataW.TrodAll] at h
 | [],_::_,_,_,_,h,_=>by simp [DataW.TrodAll] at h
 | _::_,[],_,_,_,h,_=>by simp [DataW.TrodAll] at h
 | _::_,_::_,[],_,_,h,_=>by simp [DataW.TrodAll] at h
 | t::ts,v::vs,d::ds,p,hr,h,aT=>by
  simp only [DataW.TrodAll] at h ⊢;obtain ⟨p1,q1,h1,h2,rfl⟩:=h
  exact ⟨p1,q1,Below.trod hl (hr t (by simp)).1 (hr t (by simp)).2 h1 hb (fun x hx=>aT x (List.mem_append.2 (.inl hx))),
   xL hl hb (fun t' ht=>hr t' (kE _ ht)) h2 (fun x hx=>aT x (List.mem_append.2 (.inr hx))),rfl⟩
theorem aaG {H:Type} {enc:TypeId×Value→H} {P:Program} {f:Func} {s:ChangeSpec} {apart fresh handsOn:Bool} {W W':World} {args:Array Value} {ds gs:List (DataW H)} {before:List MemPlace} {tb:TypeId}
 (hl:laidOutB P=true) (hr:(f.params.toList.all fun t=>P.readableRec t&&Nat.blt t P.types.size)=true) (hs:s.vars=[]) (hW:DataW.Whole enc P f.params.toList s.vars apart W args.toList ds gs before) (aaH:f.resultTypes = #[tb]) (Xj:P.underlying tb=some .bool)
 (hfn:s.fn H ds={ results:=[.lit (.bool true)],args:=ds }) (hb:Below W.heap.size W W'):s.post enc P f apart fresh handsOn false W args (.bool true) W':=by
 have aT:=hW.lt;have hW':=hW;obtain ⟨p,q,hA,hV,rfl,hfz,J3⟩:=hW;rw [hs] at hV;obtain ⟨rfl,rfl⟩:=trodVars_none hV
 refine ⟨ds,[],_,[],p,[],hW',?_,?_,?_,hb.frame _,fun h=>by cases h⟩
 ·rw [List.append_nil,hfn,aaH]
  exact trodAll_mk1 (shut_bool Xj true)
 ·rw [List.append_nil,hfn]
  exact xL hl hb (fun t ht=>by
   have:=List.all_eq_true.1 hr t ht;rw [dA,Nat.blt_eq] at this
   exact this) hA fun x hx=>aT x (by simpa using hx)
 ·rw [List.append_nil,hfn,hs]
  rfl
theorem aev {H:Type} {enc:TypeId×Value→H} {P:Program} {E:Env} {fid:Nat} {f:Func} {s:ChangeSpec} {apart fresh handsOn:Bool} {W:World} {base:Nat} {args:Array Value} {ds gs:List (DataW H)} {before:List MemPlace} {tb:TypeId} {ps:List Sh} (n:Nat) (tys:List Ty)
 (Hf:dM P E fid (jX ps)) (hps:ps=tys.map yJ) (hl:laidOutB P=true) (hr:(f.params.toList.all fun t=>P.readableRec t&&Nat.blt t P.types.size)=true) (hty:UQ P n f.params.toList tys=true)
 (hs:s.vars=[]) (aaH:f.resultTypes = #[tb]) (Xj:P.underlying tb=some .bool) (hfn:∀ ds:List (DataW H),ds.length=tys.length→s.fn H ds={ results:=[.lit (.bool true)],args:=ds })
 (Nk:∀ g k l,E.glob g=some (k,l)→l.length≤gV W g∧∀ j (h:j<l.length),W.cell? ⟨g,j,none⟩=some (.int k l[j])∧k.has l[j])
 (ZH:∀ (j:Nat) (t:TypeId) (v:Value),f.params[j]? = some t→args[j]? = some v→Value.okWide P W .any base t v) (hW:DataW.Whole enc P f.params.toList s.vars apart W args.toList ds gs before)
 (hwt:(DataW.weightsEach P (f.params.toList++s.plain.varTypes P) (ds++gs)).all (·≤reachBytes)=true):Calls P fid args W fun e W'=>∃ v,e = .returned v∧s.post enc P f apart fresh handsOn false W args v W':=by
 have hW':=hW;obtain ⟨p,q,hA,hV,hbf,hfz,J3⟩:=hW;have hV':=hV;rw [hs] at hV';obtain ⟨rfl,rfl⟩:=trodVars_none hV'
 have hvt:s.plain.varTypes P=[]:=by simp [ChangeSpec.plain,DataSpec.varTypes,hs]
 rw [hvt,List.append_nil,List.append_nil] at hwt
 obtain ⟨hlen,tY,x,hx⟩:=Pm (pt:=fun _ _=>none) hty hA (fun j t v h1 h2=>ZH j t v (by simpa using h1) (by simpa using h2)) hwt
 subst hps
 refine (Xi Hf (Pn _) (by rw [pJ,←hlen];simp) (x:=x) (fun i hi=>hx i (by simpa using hi)) Nk).mono fun e W' he=>?_
 obtain ⟨he,hb⟩:=he;exact ⟨_,he,aaG hl hr hs hW' aaH Xj (hfn ds tY) hb⟩
section
variable {P:Program} {E E':Env} {C:Ctx} {s s':St} {a:Act} {w w':World} {G:Nat→Nat} {pt:Nat→Nat→Option Value}
theorem qI {a b:Nat} (h:a≠b):Nat.beq a b=false:=by
 cases hb:Nat.beq a b with
 | false=>rfl
 | true=>exact absurd (fD hb) h
theorem Rel.below {E1:Env} {w0:World} {G0:Nat→Nat} (R:Rel E1 { m:=2,w0:=w0,G0:=G0,X:=fun _=>False,pin:=none } s a w G pt):Below w0.heap.size w0 w:=
 ⟨R.os,R.tape,R.out,R.hs,fun k hk=>(R.fr k hk (fun h=>h)).1⟩
theorem Rel.done (R:Rel E C s a w G pt) (hb:Below w.heap.size w w') (hs:∀ id,get s (2*id+1) = .undef) {n:Nat} {vs:Array Value} (eU:vs.size=n)
 (zS:∀ t,aU w' G pt (get s' (2*t)) (vs.getD t undef)) (hz:∀ t b,dP b (get s' (2*t)) (vs.getD t undef)=0)
 (tV:∀ id,get s' (2*id+1) = .undef) (hhi:∀ t,n≤t→get s' (2*t) = .undef) (hg:E'.glob=E.glob) (hn:E'.n=n) :
 Rel E' C s' { tmps:=vs,defers:=[] } w' G pt:=by
 have htc:∀ b,TC E'.n C.m s' { tmps:=vs,defers:=[] } w' pt b=0:=fun b=>by
  unfold TC
  rw [lg fun i _=>by rw [cT];exact hz i b,lg fun i _=>by rw [cB,tV];rfl]
 have hc:∀ b o,o<G b→w'.cell? ⟨b,o,none⟩=w.cell? ⟨b,o,none⟩:=fun b o h=>by
  have aT:b<w.heap.size:=by
   rcases Nat.lt_or_ge b w.heap.size with h1 | h1
   ·exact h1
   ·have:=R.gz b h1;omega
  exact cell_of_heap (hb.block b aT) o
 refine ⟨by rw [hn];exact eU,rfl,zS,fun id=>by rw [tV];trivial,fun t ht=>hhi t (by omega),fun id _=>tV id,fun b=>by rw [htc b];omega,fun b h=>?_,fun b h1 h2=>?_,
  R.ex.trans ⟨hc,fun _=>bT _⟩,fun b h=>R.gz b (by have:=hb.size;omega),hb.os.trans R.os,hb.output.trans R.out,hb.tape.trans R.tape,gX R.hs hb.size,fun id st h=>?_,fun g k l h=>?_,R.pn⟩
 ·rw [htc b] at h;omega
 ·obtain ⟨h3,h4⟩:=R.fr b h1 h2
  exact ⟨(hb.block b (mK h1 R.hs)).trans h3,h4⟩
 ·refine R.pf id st ?_
  rw [hs];rw [tV] at h;exact h
 ·rw [hg] at h
  obtain ⟨h1,h2⟩:=R.gl g k l h
  refine ⟨h1,fun j hj=>?_⟩
  rw [hc g j (by omega)]
  exact h2 j hj
end
def xu (ps:List Sh) (rs:RS) (F:(Ty.cons (fJ []) (kJ ps)).den→Option (Ty.cons rs.ty (fJ [])).den):cu:={ bM:=false,pre:=[],ps:=ps,rs:=rs,post:=[],F:=F }
abbrev aii (W:World) (G:Nat→Nat):Ctx:={ m:=2,w0:=W,G0:=G,X:=fun _=>False,pin:=none }
theorem mo {P:Program} {E:Env} {f:Nat} {ps:List Sh} {rs:RS} {F:(Ty.cons (fJ []) (kJ ps)).den→Option (Ty.cons rs.ty (fJ [])).den} (H:eO P E f (xu ps rs F)) (o2:ps.all xI=true) {W:World} {G:Nat→Nat}
 {args:Array Value} (eU:args.size=ps.length) {x:(kJ ps).den} {y:rs.ty.den} (hF:F ((),x)=some (y,()))
 (iM:∀ i,i<ps.length→aU W G (fun _ _=>none) ((bY ps x).getD i .undef) (args.toList.getD i undef))
 (Ik:∀ b,W.heap.size≤b→G b=0)
 (Nk:∀ g k l,E.glob g=some (k,l)→l.length≤G g∧∀ j (h:j<l.length),W.cell? ⟨g,j,none⟩=some (.int k l[j])∧k.has l[j]) :
 Calls P f args W fun e W'=>∃ vs G' bC,e = .returned (lI vs)∧Rel (uo E rs.num false) (aii W G) (gH (xu ps rs F) (y,())) { tmps:=vs,defers:=[] } W' G' bC:=by
 have Mc:(xu ps rs F).num=ps.length:=by simp [cu.num,xu]
 have gE:∀ k,get (bI (xu ps rs F) ((),x)) k=get (kC 0 (bY ps x)++[]) k:=by
  intro k;unfold bI;simp only [xu,bJ,kP,List.append_nil]
 have hl:=iD ps x
 have IG:∀ t,get (bI (xu ps rs F) ((),x)) (2*t)=if t<ps.length then (bY ps x).getD t .undef else .undef:=by
  intro t;rw [gE,gU]
  have e1:2*t%2=0:=by omega
  have e2:2*t / 2=t:=by omega
  simp only [e1,e2,hl,mY,Nat.zero_add,true_and,Nat.sub_zero]
  by_cases h:t<ps.length
  ·rw [if_pos h,if_pos h]
  ·rw [if_neg h,if_neg h];rfl
 have yE:∀ i,get (bI (xu ps rs F) ((),x)) (2*i+1) = .undef:=by
  intro i
  rw [gE,gU,if_neg (by omega)]
  rfl
 let C:Ctx:=aii W G
 have tz:∀ b,TC (uo E (xu ps rs F).num false).n C.m (bI (xu ps rs F) ((),x)) { tmps:=args,defers:=[] } W (fun _ _=>none) b=0:=by
  intro b;unfold TC
  have e1:cO (uo E (xu ps rs F).num false).n (cT (bI (xu ps rs F) ((),x)) { tmps:=args,defers:=[] } b)=0:=by
   refine lg fun t _=>?_
   simp only [cT];rw [IG]
   by_cases h:t<ps.length
   ·rw [if_pos h]
    obtain ⟨p,y,h1,h2⟩:=qo ps x t h;rw [h2];exact Gv (List.all_eq_true.1 o2 p h1) y b _
   ·rw [if_neg h];exact dX b _
  have e2:cO C.m (cB (bI (xu ps rs F) ((),x)) W (fun _ _=>none) b)=0:=by
   refine lg fun i _=>?_
   simp only [cB];rw [yE];rfl
  rw [e1,e2]
 have R:Rel (uo E (xu ps rs F).num false) C (bI (xu ps rs F) ((),x)) { tmps:=args,defers:=[] } W G (fun _ _=>none):=by
  refine ⟨by simp [uo,Mc,eU],rfl,fun t=>?_,fun i=>?_,fun t ht=>?_,fun i _=>yE i,fun b=>by rw [tz];exact mY _,fun b hb=>by rw [tz] at hb;omega,fun b _ _=>⟨rfl,rfl⟩,Ext.refl _ _,Ik,
   rfl,rfl,rfl,bT _,fun _ _ _=>rfl,Nk,fun v hv=>by cases hv⟩
  ·rw [IG]
   by_cases h:t<ps.length
   ·rw [if_pos h]
    have:=iM t h
    have e:args.toList.getD t undef=args.getD t undef:=by simp [List.getD,xE]
    rw [e] at this;exact this
   ·rw [if_neg h];trivial
  ·rw [yE];trivial
  ·have:ps.length≤t:=by simpa [uo,Mc] using ht
   rw [IG,if_neg (by omega)]
 exact H ((),x) (y,()) hF C args W G (fun _ _=>none) rfl (.inl rfl) (by rw [Mc];exact eU) R _ (fun vs w' G' bC R2=>⟨vs,G',bC,rfl,R2⟩)
theorem Rel.yK {E:Env} {W:World} {G:Nat→Nat} {s:St} {a:Act} {w:World} {G':Nat→Nat} {pt:Nat→Nat→Option Value} (R:Rel E (aii W G) s a w G' pt):RowKit.Below W.heap.size W w:=
 ⟨R.os,R.tape,R.out,R.hs,fun k hk=>(R.fr k hk (fun h=>h)).1⟩
theorem oD {w w':World} {G:Nat→Nat} (h:RowKit.Below w.heap.size w w') (Ik:∀ b,w.heap.size≤b→G b=0):Ext w G w' G:=by
 refine ⟨fun b o ho=>?_,fun b=>bT _⟩
 by_cases hb:b<w.heap.size
 ·exact h.cell hb
 ·rw [Ik b (by omega)] at ho;omega
section
variable {P:Program} {E:Env}
end
end Go.dw