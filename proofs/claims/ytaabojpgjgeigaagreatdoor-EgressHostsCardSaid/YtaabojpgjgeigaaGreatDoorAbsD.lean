/- The abstract evaluator, part 4: proved is that calls and whole functions do what their contracts say, and how a law's contract gives the row's statement; no conditions but those that each theorem states. -/
import Derived.Test.YtaabojpgjgeigaaGreatDoorAbsC
import Derived.ProofKit
import Derived.Below
import Derived.OpenShut
import Derived.Carry
import Derived.RowKit
import Derived.Handed
set_option linter.unusedVariables false
set_option linter.unusedSimpArgs false
namespace Go.gI
def uG (E:Env) (n:Nat) (hp:Bool):Env:={ T:=fun _=>none,md:=fun _=>0,glob:=E.glob,n:=n,hp:=hp }
def jE:Nat→List D→St
 | _,[]=>[]
 | i,d::r=>(2*i,d)::jE (i+1) r
def aaH:(rs:RS)→rs.ty.den→St
 | .none,_=>[]
 | .one p,x=>[(0,p.con x)]
 | .fO l,x=>jE 0 (dn l x)
 | .uV ls,x=>[(3,.aI 1 true (aN ls x)),(0,.ptr 1 1 0)]
def RS.num:RS→Nat
 | .none=>0
 | .one _=>1
 | .fO l=>l.length
 | .uV _=>1
def gK (c:aY) (y:(Ty.cons c.rs.ty (fQ c.post)).den):St:=
 (bif c.bZ then [(1,.aI 1 true (aN c.post y.2))] else [])++aaH c.rs y.1
def aY.num (c:aY):Nat:=(bif c.bZ then 1 else 0)+c.ps.length
def kH (vs:Array Value):Value:=if h:vs.size=1 then vs[0] else .tuple vs
def rO (P:Program) (E:Env) (f:Nat) (c:aY):Prop:=
 ∀ x y,c.F x=some y→∀ (C:Ctx) (args:Array Value) (w:World) (G:Nat→Nat) (pt:Nat→Nat→Option Value),
  C.m=2→(C.pin=none∨c.bZ=true)→args.size=c.num→Rel (uG E c.num c.bZ) C (bY c x) { tmps:=args,defers:=[] } w G pt →
  ∀ (K:Ending→World→Prop),(∀ (vs:Array Value) w' G' bX,Rel (uG E c.rs.num c.bZ) C (gK c y) { tmps:=vs,defers:=[] } w' G' bX→K (.returned (kH vs)) w') →
   Calls P f args w K
theorem oq {n:Nat} {f:Nat→Nat} (h:∀ i,i<n→f i=0):dh n f=0:=by
 induction n with
 | zero=>rfl
 | succ n ih=>simp only [dh];rw [ih fun i hi=>h i (by omega),h n (by omega)]
theorem rP {n m:Nat} {f:Nat→Nat} (h:n≤m) (hz:∀ i,n≤i→f i=0):dh m f=dh n f:=by
 induction m with
 | zero=>
  have:n=0:=by omega
  subst this;rfl
 | succ m ih=>
  by_cases hn:n=m+1
  ·subst hn;rfl
  ·simp only [dh]
   rw [ih (by omega),hz m (by omega)]
   rfl
theorem UW {n:Nat} {f g:Nat→Nat} (h:∀ i,i<n→f i≤g i):dh n f≤dh n g:=by
 induction n with
 | zero=>exact dQ _
 | succ n ih=>simp only [dh];exact Nat.add_le_add (ih fun i hi=>h i (by omega)) (h n (by omega))
theorem Qx (n:Nat) (f:Nat→Nat):dh (2*n) f=dh n (fun i=>f (2*i))+dh n (fun i=>f (2*i+1)):=by
 induction n with
 | zero=>rfl
 | succ n ih=>
  rw [show 2*(n+1)=2*n+1+1 from by omega]
  simp only [dh];omega
theorem wY {f:Nat→Nat}:∀ {n:Nat} {l:List Nat},l.Nodup→(∀ i∈l,i<n)→(l.map f).sum≤dh n f
 | 0,[],_,_=>dQ _
 | 0,x::r,_,h=>by have:=h x (by simp);omega
 | n+1,l,hn,h=>by
  simp only [dh]
  by_cases hm:n∈l
  ·have hp:=List.perm_cons_erase hm
   have e:(l.map f).sum=f n+((l.erase n).map f).sum:=by
    rw [(hp.map f).sum_nat];simp
   have hn2:(l.erase n).Nodup:=hn.erase n
   have ih:=wY (f:=f) (n:=n) hn2 (fun i hi=>by
    have h1:=h i (List.mem_of_mem_erase hi)
    have h2:i≠n:=fun he=>by
     subst he;exact (List.Nodup.not_mem_erase hn) hi
    omega)
   omega
  ·have ih:=wY (f:=f) (n:=n) hn (fun i hi=>by
    have h1:=h i hi
    have h2:i≠n:=fun he=>hm (he▸hi)
    omega)
   omega
section
variable {P:Program} {E E':Env} {C C':Ctx} {s s':St} {a a':Act} {w:World} {G:Nat→Nat} {pt bX:Nat→Nat→Option Value}
theorem Rel.make (R:Rel E C s a w G pt) (hg:E'.glob=E.glob) (h1:C'.w0=C.w0) (h2:C'.G0=C.G0) (h3:C'.X=C.X) (sz:a'.tmps.size=E'.n) (df:a'.defers=[])
 (tm:∀ t,bg w G bX (get s' (2*t)) (a'.tmps.getD t undef)) (bx:∀ id,nI w G bX id (get s' (2*id+1)))
 (ht:∀ t,E'.n≤t→get s' (2*t) = .undef) (hb:∀ id,C'.m≤id→get s' (2*id+1) = .undef)
 (tc:∀ b,TC E'.n C'.m s' a' w bX b≤TC E.n C.m s a w pt b)
 (pf:∀ id st,aO (get s' (2*id+1))<st→bX id st=none) (pn:∀ v,C'.pin=some v→bX 0 1=some v):Rel E' C' s' a' w G bX:=by
 refine ⟨sz,df,tm,bx,ht,hb,fun b=>jQ (tc b) (R.ct b),fun b hb=>?_,?_,?_,R.gz,by rw [h1];exact R.os,by rw [h1];exact R.out,by rw [h1];exact R.tape,by rw [h1];exact R.hs,pf,by rw [hg];exact R.gl,pn⟩
 ·rw [h1,h3];exact R.cb b (nG hb (tc b))
 ·rw [h1,h2,h3];exact R.fr
 ·rw [h1,h2];exact R.ex
def cK (s:St) (a:Act) (w:World) (pt:Nat→Nat→Option Value) (b k:Nat):Nat:=
 if k%2=1 then cB s w pt b (k / 2) else cT s a b (k / 2)
theorem Rel.K8 (R:Rel E C s a w G pt) (b:Nat) {ks:List Nat} (hn:ks.Nodup):(ks.map (cK s a w pt b)).sum≤TC E.n C.m s a w pt b:=by
 obtain ⟨M,hM1,hM2,hM3⟩:∃ M,E.n≤M∧C.m≤M∧∀ k∈ks,k<2*M:=by
  have:∃ M,∀ k∈ks,k<M:=by
   clear hn
   induction ks with
   | nil=>exact ⟨0,fun k hk=>by simp at hk⟩
   | cons x r ih=>
    obtain ⟨M,h⟩:=ih
    refine ⟨M+x+1,fun k hk=>?_⟩
    rcases List.mem_cons.1 hk with rfl | hk
    ·omega
    ·have:=h k hk;omega
  obtain ⟨M,h⟩:=this
  exact ⟨E.n+C.m+M,by omega,by omega,fun k hk=>by have:=h k hk;omega⟩
 refine jQ (wY hn hM3) ?_;rw [Qx];unfold TC;refine Nat.add_le_add ?_ ?_
 ·rw [aM (g:=cT s a b) fun i _=>by simp [cK]]
  rw [rP hM1 fun i hi=>by rw [cT,R.ht i hi];exact dX b _]
  exact dQ _
 ·rw [aM (g:=cB s w pt b) fun i _=>by
   have h1:(2*i+1)%2=1:=by omega
   have h2:(2*i+1) / 2=i:=by omega
   simp [cK,h1,h2]]
  rw [rP hM2 fun i hi=>by rw [cB,R.hb i hi];rfl]
  exact dQ _
end
theorem gP {rest:St}:∀ {ds:List D} {i:Nat} (k:Nat),get (jE i ds++rest) k=if k%2=0∧i≤k / 2∧k / 2<i+ds.length then ds.getD (k / 2 - i) .undef else get rest k
 | [],i,k=>by
  rw [if_neg (by rintro ⟨_,h2,h3⟩;simp only [List.length_nil] at h3;omega)];rfl
 | d::r,i,k=>by
  simp only [jE,List.cons_append];rw [aH,gP (ds:=r) (i:=i+1) k]
  by_cases hk:k=2*i
  ·subst hk
   rw [if_pos rfl,if_pos (by simp)]
   have:2*i / 2 - i=0:=by omega
   rw [this];rfl
  ·rw [if_neg hk]
   simp only [List.length_cons]
   by_cases h:k%2=0∧i+1≤k / 2∧k / 2<i+1+r.length
   ·rw [if_pos h,if_pos (by omega)]
    have:k / 2 - i=(k / 2 - (i+1))+1:=by omega
    rw [this];rfl
   ·rw [if_neg h,if_neg (by omega)]
theorem gY:∀ (l:List Sh) (x:(jT l).den),(dn l x).length=l.length
 | [],_=>rfl
 | p::r,x=>by simp [dn,gY r x.2]
theorem kI:∀ (l:List Sh) (x:(jT l).den) (i:Nat),u7 i l x=jE i (dn l x)
 | [],_,_=>rfl
 | p::r,x,i=>by simp only [u7,dn,jE,kI r x.2 (i+1)]
section
variable {P:Program} {E E':Env} {C C':Ctx} {s s':St} {a a':Act} {w:World} {G:Nat→Nat} {pt bX:Nat→Nat→Option Value}
theorem Qy {b id blk:Nat} {st:Nat} {cs:List D} (hblk:bH (pt id st)=some blk):aP b cs (aD w blk)≤gQ w pt b id (.aI st true cs):=by
 simp only [gQ,hblk,Option.getD_some];omega
def o8 (a:Act):ResultVar→Sem Value
 | .tmp t=>pure (a.tmps.getD t undef)
 | .cell x t=>do loadVar t (←asAddr (a.tmps.getD x undef))
theorem NA (HP:mG P E) (R:Rel E C s a w G pt) {rv:ResultVar} {d:D} (h:UJ E s rv=some d) :
 ∃ v,(o8 a rv).run P w = .ok v w∧bg w G pt d v∧∀ b,dN b d v≤cK s a w pt b (Jh s rv):=by
 cases rv with
 | tmp t=>
  simp only [UJ,bq] at h;subst h
  refine ⟨_,rfl,R.tm t,fun b=>?_⟩
  have h1:2*t%2=0:=Nat.mul_mod_right 2 t
  have h2:2*t / 2=t:=Nat.mul_div_cancel_left t (by decide)
  simp [Jh,cK,h1,h2,cT]
 | cell t' T=>
  simp only [UJ] at h;split at h
  ·rename_i id st off i hp hT
   split at h
   ·rename_i st' cs hb
    cases hc:(Nat.beq st st' && Nat.beq off 0&&Nat.beq cs.length i.size) with
    | false=>rw [hc] at h;cases h
    | true=>
     rw [hc] at h;simp only [aQ] at h;simp only [bP] at hc;obtain ⟨⟨h1,h2⟩,h3⟩:=hc;have h1:=dM h1;have h2:=dM h2;have h3:=dM h3;subst h1;subst h2;have hv:=R.tm t';rw [hp] at hv;obtain ⟨blk,hblk,hv⟩:=hv;have hB:=R.bx id;rw [hb] at hB;obtain ⟨b',q1,q2,q3,q4⟩:=hB rfl
     have:b' = blk:=by
      rw [q1] at hblk
      simpa [bH] using hblk
     subst this;have hT':=HP.ti _ _ hT
     have hrun:=qw (P:=P) (w:=w) hT' (b:=b') (off:=0) (f:=aD w b') (fun j hj=>by rw [Nat.zero_add];exact nX q2 (by omega))
     obtain ⟨r1,r2⟩:=jS h h3 q4
     refine ⟨_,?_,r1,fun b=>?_⟩
     ·simp only [o8,hv,asAddr,pure_bind]
      exact hrun
     ·rw [r2 b]
      have e1:(2*id+1)%2=1:=by omega
      have e2:(2*id+1) / 2=id:=by omega
      simp only [Jh,hp,cK,e1,e2,if_true,cB,hb];exact Qy hblk
   ·rename_i st' t l hb
    cases hc:(Nat.beq st st' && Nat.beq off 0&&i.agg&&Nat.beq t.nc 1&&Nat.beq l.length i.size) with
    | false=>rw [hc] at h;cases h
    | true=>
     rw [hc] at h;simp only [aQ,bq] at h;simp only [bP] at hc;obtain ⟨⟨⟨⟨h1,h2⟩,h3⟩,h4⟩,h5⟩:=hc;have h1:=dM h1;have h2:=dM h2;have h4:=dM h4;have h5:=dM h5;subst h1;subst h2
     have hd:(∀ v,bg w G pt (.agg (l.flatMap (enc t))) v→bg w G pt d v)∧∀ b v,dN b (.agg (l.flatMap (enc t))) v=0→dN b d v=0:=by
      unfold Zw at h
      cases hbl:Nat.blt 64 i.size with
      | true=>
       rw [hbl] at h;subst h
       exact ⟨fun v hv=>F7 hv,fun b v hv=>KN hv⟩
      | false=>
       rw [hbl] at h;simp only [bU] at h
       rw [yQ _ _ (by omega),List.drop_zero,←h5,List.take_length] at h
       subst h
       exact ⟨fun v hv=>hv,fun b v hv=>hv⟩
     have hv:=R.tm t';rw [hp] at hv;obtain ⟨blk,hblk,hv⟩:=hv;obtain ⟨g1,g2,g3⟩:=kQ R hb hblk;obtain ⟨f1,f2,f3⟩:=F5 (pt:=pt) h4 g1;have hfl:=uQ t l h4;have hT':=HP.ti _ _ hT
     have hrun:=qw (P:=P) (w:=w) hT' (b:=blk) (off:=0) (f:=fun j=>aD w blk (0+j)) (fun j hj=>f3 j (by omega))
     obtain ⟨r1,r2⟩:=jS (w:=w) (G:=G) (pt:=pt) (agg:=true) (n:=i.size) (ds:=l.flatMap (enc t)) (d:=.agg (l.flatMap (enc t))) (f:=fun j=>aD w blk (0+j)) rfl (by omega) (fun j hj=>⟨(f1 j hj).1,(f1 j hj).2.1⟩)
     refine ⟨_,?_,hd.1 _ r1,fun b=>?_⟩
     ·simp only [o8,hv,asAddr,pure_bind]
      rw [h3] at hrun;exact hrun
     ·rw [hd.2 b _ (by rw [r2 b,f2 b])]
      exact fG _
   ·cases h
  ·cases h
theorem vF (HP:mG P E) (R:Rel E C s a w G pt):∀ {l:List ResultVar} {ds:List D},wR E s l=some ds →
 ∃ vs:List Value,vs.length=l.length∧ds.length=l.length∧(l.mapM (o8 a)).run P w = .ok vs w ∧
  ∀ i (h:i<l.length),bg w G pt (ds.getD i .undef) (vs.getD i undef)∧∀ b,dN b (ds.getD i .undef) (vs.getD i undef)≤cK s a w pt b (Jh s l[i])
 | [],ds,h=>by
  simp only [wR,bq] at h;subst h
  exact ⟨[],rfl,rfl,rfl,fun i h=>by simp at h⟩
 | rv::l,ds,h=>by
  simp only [wR] at h;split at h
  ·rename_i d ds' h1 h2
   simp only [bq] at h;subst h;obtain ⟨v,q1,q2,q3⟩:=NA HP R h1;obtain ⟨vs,p1,p2,p3,p4⟩:=vF HP R h2
   refine ⟨v::vs,by simp [p1],by simp [p2],?_,fun i hi=>?_⟩
   ·rw [List.mapM_cons]
    simp [Sem.run_bind,q1,p3]
   ·cases i with
    | zero=>exact ⟨q2,q3⟩
    | succ i=>exact p4 i (by simpa using hi)
  ·cases h
theorem GR (HP:mG P E) (R:Rel E C s a w G pt) {fn:Func} {ds:List D} (h:wR E s fn.results.toList=some ds) :
 ∃ vs:List Value,vs.length=fn.results.size∧ds.length=fn.results.size∧(results fn a.tmps).run P w = .ok (kH vs.toArray) w ∧
  ∀ i (h:i<fn.results.toList.length),bg w G pt (ds.getD i .undef) (vs.getD i undef)∧∀ b,dN b (ds.getD i .undef) (vs.getD i undef)≤cK s a w pt b (Jh s fn.results.toList[i]):=by
 obtain ⟨vs,p1,p2,p3,p4⟩:=vF HP R h
 refine ⟨vs,by simpa using p1,by simpa using p2,?_,p4⟩
 unfold results
 change (Array.mapM (o8 a) fn.results >>= fun vs=>pure (if h:vs.size=1 then vs[0] else Value.tuple vs)).run P w=_
 have e2:Array.mapM (o8 a) fn.results=List.toArray <$> fn.results.toList.mapM (o8 a):=by
  conv=>lhs;rw [←Array.toArray_toList (xs:=fn.results)]
  rw [List.mapM_toArray]
 rw [e2];simp [Sem.run_bind,p3,kH]
end
theorem o9 (n:Nat) (f:Nat→Nat):dh (n+1) f=f 0+dh n (fun i=>f (i+1)):=by
 induction n with
 | zero=>simp [dh]
 | succ n ih=>
  rw [dh,ih];simp only [dh];omega
theorem CZ {g:Nat→Nat}:∀ (l:List Nat) (f:Nat→Nat),(∀ i (h:i<l.length),f i≤g l[i])→dh l.length f≤(l.map g).sum
 | [],_,_=>dQ _
 | x::r,f,h=>by
  rw [List.length_cons,o9];simp only [List.map_cons,List.sum_cons]
  exact Nat.add_le_add (h 0 (by simp)) (CZ r _ fun i hi=>h (i+1) (by simpa using hi))
theorem AZ:∀ {l:List Nat},nodupB l=true→l.Nodup
 | [],_=>List.nodup_nil
 | x::r,h=>by
  simp only [nodupB,bP,Bool.not_eq_true'] at h
  refine List.nodup_cons.2 ⟨fun hm=>?_,AZ h.2⟩
  have:=mem_iff.2 hm;rw [h.1] at this;cases this
theorem rQ {l:Lf} (h:iW l=true) (x:l.ty.den):bR (l.con x)=[]:=by
 cases l with
 | cst d=>cases d<;>first | rfl | (simp [iW] at h)
 | _=>rfl
theorem mo:∀ {ls:List Lf},ls.all iW=true→∀ (x:(fQ ls).den),eB (aN ls x)=[]
 | [],_,_=>rfl
 | l::r,h,x=>by
  simp only [List.all_cons,bP] at h;simp only [aN,eB,rQ h.1,mo h.2,List.append_nil]
section
variable {P:Program} {E E':Env} {C C':Ctx} {s s':St} {a a':Act} {w:World} {G:Nat→Nat} {pt bX:Nat→Nat→Option Value}
theorem rR {d:D} {v:Value} (h:bg w G pt d v):bg w G bX (clean d) v∧(∀ b,dN b (clean d) v≤dN b d v)∧fu (clean d)=false:=by
 have triv:bg w G bX .undef v∧(∀ b,dN b .undef v≤dN b d v)∧fu .undef=false:=⟨trivial,fun b=>by rw [dX];exact fG _,rfl⟩
 have same:clean d=d→refs d=[]→fu d=false→bg w G bX (clean d) v∧(∀ b,dN b (clean d) v≤dN b d v)∧fu (clean d)=false:=by
  intro h1 h2 h3;rw [h1]
  exact ⟨h.ptr fun i hi=>by rw [h2] at hi;simp at hi,fun b=>dQ _,h3⟩
 cases d with
 | agg cs=>
  cases hc:(eB cs).isEmpty with
  | true=>exact same (by simp [clean,hc]) (by simpa [refs] using hc) rfl
  | false=>
   have e:clean (.agg cs) = .undef:=by simp only [clean,hc,bU]
   rw [e];exact triv
 | fO vs=>exact triv
 | fn f cs=>exact triv
 | aI st l cs=>exact triv
 | aW st l ar t ls=>exact triv
 | dP st t l h'=>exact triv
 | ptr id st off=>exact triv
 | mH id st i off es=>exact triv
 | gZ id st=>exact triv
 | BZ id st n=>exact triv
 | IQ id st nc o n=>exact triv
 | undef=>exact triv
 | _=>exact same rfl rfl rfl
theorem Lf.K9 {l:Lf} {d:D} {x:l.ty.den} {v:Value} (hx:l.res d=some x) (hw:KY l=true→∃ d0,d=bV d0) (h:bO w G pt d v) :
 bO w G pt (l.con x) v∧∀ b,eu b (l.con x) v≤eu b d v:=by
 have plain:l.abs d=some x→bO w G pt (l.con x) v∧∀ b,eu b (l.con x) v≤eu b d v:=by
  intro hx;rw [Lf.mQ hx]
  exact ⟨h,fun b=>dQ _⟩
 cases l with
 | sl f t=>
  by_cases hn:d = .jK
  ·subst hn
   simp only [Lf.res] at hx
   cases hf:Nat.ble f 2 with
   | false=>rw [hf] at hx;cases hx
   | true=>
    rw [hf] at hx;simp only [aQ,bq] at hx;subst hx;have hv:v = .slice none 0 0:=h;subst hv
    refine ⟨⟨none,0,0,rfl,rfl,by simp,?_⟩,fun b=>dQ _⟩
    have hf:=Nat.le_of_ble_eq_true hf
    match f,hf with
    | 0,_=>exact ⟨dQ _,.inl rfl⟩
    | 1,_=>exact .inl ⟨rfl,rfl,rfl⟩
    | 2,_=>exact .inl ⟨rfl,rfl,rfl⟩
  ·match f,hx,plain,hw with
   | 0,hx,plain,hw=>
    have e:(Lf.sl 0 t).res d=(Lf.sl 0 t).abs (dw d):=by
     cases d<;>first | rfl | exact absurd rfl hn
    rw [e] at hx;rw [Lf.mQ hx];obtain ⟨d0,rfl⟩:=hw rfl;have:=h.view
    have ev:dw (bV d0)=dw d0:=by cases d0<;>rfl
    rw [ev]
    exact ⟨this,fun b=>by rw [nS];exact fG _⟩
   | n+1,hx,plain,hw=>
    have e:(Lf.sl (n+1) t).res d=(Lf.sl (n+1) t).abs d:=by
     cases d<;>first | rfl | exact absurd rfl hn
    exact plain (e▸hx)
 | cst d'=>exact plain hx
 | int k=>exact plain hx
 | bool=>exact plain hx
 | str=>exact plain hx
 | gM f t=>exact plain hx
 | vp t=>exact plain hx
 | av k=>exact plain hx
 | va k=>exact plain hx
theorem C8:∀ {ls:List Lf} {ds:List D} {x:(fQ ls).den} {f:Nat→Value},CK ls ds=some x→(ls.any KY=true→∃ ds0:List D,ds=ds0.map bV)→aR w G pt ds f →
 aR w G pt (aN ls x) f∧(aN ls x).length=ds.length∧∀ b,aP b (aN ls x) f≤aP b ds f
 | [],[],_,_,_,_,h=>⟨h,rfl,fun _=>dQ _⟩
 | [],_::_,_,_,h,_,_=>by simp [CK] at h
 | _::_,[],_,_,h,_,_=>by simp [CK] at h
 | l::r,d::ds,x,f,hx,hw,h=>by
  simp only [CK] at hx;split at hx
  ·rename_i y z h1 h2
   simp only [bq] at hx;subst hx
   have hd:=h 0 (by simp)
   obtain ⟨q1,q2⟩:=Lf.K9 h1 (fun hl=>by
    obtain ⟨ds0,he⟩:=hw (by simp [hl])
    cases ds0 with
    | nil=>simp at he
    | cons d0 r0=>simp only [List.map_cons,List.cons.injEq] at he;exact ⟨d0,he.1⟩) hd.1
   obtain ⟨p1,p2,p3⟩:=C8 (f:=fun i=>f (i+1)) h2 (fun hl=>by
    obtain ⟨ds0,he⟩:=hw (by simp only [List.any_cons,hl,Bool.or_true])
    cases ds0 with
    | nil=>simp at he
    | cons d0 r0=>simp only [List.map_cons,List.cons.injEq] at he;exact ⟨r0,he.2⟩) (fun j hj=>h (j+1) (by simpa using hj))
   refine ⟨fun j hj=>?_,by simp [aN,p2],fun b=>Nat.add_le_add (q2 b) (p3 b)⟩
   cases j with
   | zero=>exact ⟨q1,hd.2⟩
   | succ j=>exact p1 j (by simpa [aN] using hj)
  ·cases hx
theorem Eo {d:D} (h:∃ d0,d=share d0):∀ {cs:List D},d = .agg cs→∃ cs0:List D,cs=cs0.map bV:=by
 obtain ⟨d0,rfl⟩:=h;intro cs he
 cases d0 with
 | agg cs0=>simp only [share,D.agg.injEq] at he;exact ⟨cs0,he.symm⟩
 | sl f t l=>simp [share,bV] at he
 | _=>simp [share,bV] at he
theorem Qz {p:Sh} {d:D} {x:p.ty.den} {v:Value} (hx:p.res1 d=some x) (hok:mI p=true) (hw:Gn p=true→∃ d0,d=share d0) (h:bg w G pt d v) (ht:fu d=false) :
 bg w G pt (p.con x) v∧∀ b,dN b (p.con x) v≤dN b d v:=by
 cases p with
 | lf l=>
  simp only [Sh.res1] at hx;simp only [Sh.con]
  -- a leaf
  have isL:∀ d',bO w G pt d' v→(∀ b,eu b d' v≤dN b d v)→iW l=true→d' = l.con x→bg w G pt (l.con x) v∧∀ b,dN b (l.con x) v≤dN b d v:=by
   intro d' h1 h2 h3 h4;subst h4
   cases l with
   | cst d0=>cases d0<;>first | exact ⟨h1,h2⟩ | (simp [iW] at h3)
   | _=>exact ⟨h1,h2⟩
  cases d with
  | agg cs=>
   exfalso
   cases l with
   | cst d0=>
    simp only [mI] at hok
    cases d0<;>first | (simp [iW] at hok;done) | (simp [Lf.res,Lf.abs,keq] at hx)
   | sl f t=>
    cases f with
    | zero=>simp [Lf.res,Lf.abs,dw] at hx
    | succ n=>simp [Lf.res,Lf.abs] at hx
   | _=>simp [Lf.res,Lf.abs] at hx
  | fO vs=>cases ht
  | fn f cs=>
   exfalso
   cases l with
   | cst d0=>
    simp only [mI] at hok
    cases d0<;>first | (simp [iW] at hok;done) | (simp [Lf.res,Lf.abs,keq] at hx)
   | sl f t=>
    cases f with
    | zero=>simp [Lf.res,Lf.abs,dw] at hx
    | succ n=>simp [Lf.res,Lf.abs] at hx
   | _=>simp [Lf.res,Lf.abs] at hx
  | aI st l cs=>simp only [bg,bO] at h
  | aW st l ar t ls=>simp only [bg,bO] at h
  | dP st t l h'=>simp only [bg,bO] at h
  | _=>
   simp only [bg] at h
   obtain ⟨q1,q2⟩:=Lf.K9 hx (fun hl=>by
    obtain ⟨d0,he⟩:=hw hl;refine ⟨d0,?_⟩;rw [he]
    cases d0<;>first | rfl | (simp [share] at he)) h
   exact isL _ q1 q2 hok rfl
 | agg ls=>
  cases d with
  | agg cs=>
   simp only [Sh.res1] at hx;obtain ⟨arr,rfl,h2,h3⟩:=h
   obtain ⟨p1,p2,p3⟩:=C8 hx (fun hl=>Eo (hw hl) rfl) h3
   exact ⟨⟨arr,rfl,by simp only [h2,p2],p1⟩,p3⟩
  | _=>simp [Sh.res1] at hx
 | aI st live ls=>cases hok
 | aW st live ar t=>cases hok
 | dP st t=>cases hok
theorem Rel.C9 (R:Rel E C s a w G pt) (W:Nat→Bool) (hnt:∀ t,fu (get s (2*t))=false):∀ (n:Nat),∃ s2 G',Rel E C s2 a w G' pt ∧
 (∀ t,t<n→get s2 (2*t)=bif W t then share (get s (2*t)) else get s (2*t))∧(∀ t,n≤t→get s2 (2*t)=get s (2*t))∧∀ id,get s2 (2*id+1)=get s (2*id+1)
 | 0=>⟨s,G,R,fun t h=>by omega,fun _ _=>rfl,fun _=>rfl⟩
 | n+1=>by
  obtain ⟨s2,G',R2,h1,h2,h3⟩:=R.C9 W hnt n
  cases hW:W n with
  | false=>
   refine ⟨s2,G',R2,fun t ht=>?_,fun t ht=>h2 t (by omega),h3⟩
   by_cases h:t=n
   ·subst h;rw [h2 t (dQ _),hW];rfl
   ·exact h1 t (by omega)
  | true=>
   obtain ⟨G2,_,R3,_,_⟩:=R2.zV n (by rw [h2 n (dQ _)];exact hnt n)
   refine ⟨_,G2,R3,fun t ht=>?_,fun t ht=>?_,fun id=>?_⟩
   ·rw [aH]
    by_cases h:t=n
    ·subst h;rw [if_pos rfl,h2 t (dQ _),hW];rfl
    ·rw [if_neg (by omega)];exact h1 t (by omega)
   ·rw [aH,if_neg (by omega)];exact h2 t (by omega)
   ·rw [aH,if_neg (by omega)];exact h3 id
def iE (hp:Bool) (cs:List D):St:=bif hp then [(1,.aI 1 true cs)] else []
theorem wZ (hp:Bool) (cs:List D) (k:Nat):get (iE hp cs) k=if hp=true∧k=1 then .aI 1 true cs else .undef:=by
 cases hp with
 | false=>simp [iE,get]
 | true=>simp only [iE,aQ,aH,get,true_and]
def jF (hp:Bool) (pt:Nat→Nat→Option Value) (new:Option (Nat×Nat)):Nat→Nat→Option Value:=
 fun i j=>if i=0 then (if hp=true then pt 0 j else none) else if i=1∧j=1 then (match new with
  | some (id,st)=>pt id st
  | none=>none) else none
theorem A8 {hp:Bool} {post:List Lf} {y:(fQ post).den} (h:Gp s hp post=some y):hp=true→get s 1 = .aI 1 true (aN post y):=by
 intro hh;subst hh;simp only [Gp] at h;split at h
 ·rename_i st cs hb
  cases hs:Nat.beq st 1 with
  | false=>rw [hs] at h;cases h
  | true=>
   rw [hs] at h;simp only [aQ] at h;rw [hb,dM hs,lJ h]
 ·cases h
theorem Jw (R:Rel E C s a w G pt) (hm:C'.m=2) (h1:C'.w0=C.w0) (h2:C'.G0=C.G0) (h3:C'.X=C.X) (gF:C'.pin=C.pin) {hp:Bool} (hpn:C.pin=none∨hp=true)
 {post:List Lf} (hpo:post.all iW=true) {y:(fQ post).den} (hpost:Gp s hp post=some y)
 {ps:List Sh} (hps:ps.all mI=true) {ds cons:List D} {vs:List Value} {ks:List Nat} (hnd:((bif hp then 1 else 2000001)::ks).Nodup) (l1:vs.length=ps.length) (l2:ds.length=ps.length) (l3:cons.length=ps.length) (l4:ks.length=ps.length)
 (hv:∀ i (h:i<ks.length),bg w G pt (ds.getD i .undef) (vs.getD i undef)∧∀ b,dN b (ds.getD i .undef) (vs.getD i undef)≤cK s a w pt b ks[i])
 (hc:∀ i (h:i<ps.length),∃ x:ps[i].ty.den,ps[i].res (ds.getD i .undef)=some x∧cons.getD i .undef=ps[i].con x) :
 ∃ G' bX,Rel (uG E ps.length hp) C' (iE hp (aN post y)++jE 0 cons) { tmps:=vs.toArray,defers:=[] } w G' bX:=by
 have NC:=A8 hpost
 have GU:∀ (l:List D) t,l.length=ps.length→get (jE 0 l++iE hp (aN post y)) (2*t)=if t<ps.length then l.getD t .undef else .undef:=by
  intro l t hl;rw [gP,wZ]
  have e1:2*t%2=0:=by omega
  have e2:2*t / 2=t:=by omega
  have e3:¬ 2*t=1:=by omega
  simp only [e1,e2,e3,and_false,if_false,true_and,fG,Nat.zero_add,Nat.sub_zero,hl]
 have w9:∀ (l:List D) id,get (jE 0 l++iE hp (aN post y)) (2*id+1)=if hp=true∧id=0 then .aI 1 true (aN post y) else .undef:=by
  intro l id;rw [gP,wZ]
  have e1:¬ (2*id+1)%2=0:=by omega
  have e3:2*id+1=1↔id=0:=by omega
  simp only [e1,false_and,if_false,e3]
 have Pg:∀ t,(vs.toArray.getD t undef)=vs.getD t undef:=fun t=>by simp [List.getD]
 have hcl:∀ t,get (jE 0 (ds.map clean)++iE hp (aN post y)) (2*t)=if t<ps.length then clean (ds.getD t .undef) else .undef:=by
  intro t
  rw [GU _ t (by simpa using l2)]
  by_cases h:t<ps.length
  ·rw [if_pos h,if_pos h]
   have h':t<ds.length:=by omega
   simp [List.getD,h']
  ·rw [if_neg h,if_neg h]
 have Jy:∀ id,nI w G (jF hp pt none) id (if hp=true∧id=0 then .aI 1 true (aN post y) else .undef) ∧
  (∀ b,gQ w (jF hp pt none) b id (if hp=true∧id=0 then .aI 1 true (aN post y) else .undef)≤if id=0 then (if hp=true then cK s a w pt b 1 else 0) else 0):=by
  intro id
  by_cases h:hp=true∧id=0
  ·obtain ⟨h,rfl⟩:=h
   have hb:=R.bx 0;have e1:get s (2*0+1) = .aI 1 true (aN post y):=NC h;rw [e1] at hb
   have hpp:∀ st,jF hp pt none 0 st=pt 0 st:=fun st=>by simp [jF,h]
   rw [if_pos ⟨h,rfl⟩]
   refine ⟨hb.ptr (fun _ st=>hpp st) (fun i hi=>?_),fun b=>?_⟩
   ·simp only [refs,mo hpo,List.not_mem_nil] at hi
   ·rw [if_pos rfl,if_pos h,Jj (pt:=pt) (fun _ st=>hpp st)]
    simp only [cK,cB,e1];exact dQ _
  ·rw [if_neg h]
   refine ⟨trivial,fun b=>?_⟩
   show 0≤_;exact fG _
 -- the results as they are
 have R1:Rel (uG E ps.length hp) C' (jE 0 (ds.map clean)++iE hp (aN post y)) { tmps:=vs.toArray,defers:=[] } w G (jF hp pt none):=by
  refine R.make rfl h1 h2 h3 (by simpa [uG] using l1) rfl (fun t=>?_) (fun id=>?_) (fun t ht=>?_) (fun id hid=>?_) (fun b=>?_) (fun id st hst=>?_) (fun v hv=>?_)
  ·rw [hcl t,Pg t]
   by_cases h:t<ps.length
   ·rw [if_pos h]
    exact (rR (hv t (by omega)).1).1
   ·rw [if_neg h];trivial
  ·rw [w9];exact (Jy id).1
  ·rw [hcl t,if_neg (by simp only [uG] at ht;omega)]
  ·rw [w9,if_neg (by omega)]
  ·refine jQ ?_ (R.K8 b hnd)
   simp only [List.map_cons,List.sum_cons]
   have e1:dh ps.length (cT (jE 0 (ds.map clean)++iE hp (aN post y)) { tmps:=vs.toArray,defers:=[] } b)≤(ks.map (cK s a w pt b)).sum:=by
    rw [←l4]
    refine CZ ks _ fun i hi=>?_
    simp only [cT]
    rw [hcl i,Pg i,if_pos (by omega)]
    obtain ⟨q1,q2⟩:=hv i hi;exact jQ ((rR (bX:=pt) q1).2.1 b) (q2 b)
   have e2:dh 2 (cB (jE 0 (ds.map clean)++iE hp (aN post y)) w (jF hp pt none) b)≤cK s a w pt b (bif hp then 1 else 2000001):=by
    simp only [dh,cB,w9];have q0:=(Jy 0).2 b;have q1:=(Jy 1).2 b;simp only [if_true,Nat.one_ne_zero,if_false] at q0 q1 ⊢
    have q2:(if hp=true then cK s a w pt b 1 else 0)≤cK s a w pt b (bif hp then 1 else 2000001):=by
     cases hp with
     | true=>exact dQ _
     | false=>exact fG _
    omega
   show dh ps.length _+dh C'.m _≤_;rw [hm];omega
  ·rw [w9] at hst
   by_cases h:hp=true∧id=0
   ·obtain ⟨h,rfl⟩:=h
    rw [if_pos ⟨h,rfl⟩] at hst;simp only [jF,h,if_true]
    exact R.pf 0 st (by rw [show get s (2*0+1)=_ from NC h];exact hst)
   ·simp only [jF]
    by_cases h0:id=0
    ·rw [if_pos h0,if_neg (fun hh=>h ⟨hh,h0⟩)]
    ·rw [if_neg h0];split<;>rfl
  ·rw [gF] at hv
   rcases hpn with hn | hn
   ·rw [hn] at hv;cases hv
   ·simp only [jF,hn,if_true]
    exact R.pn v hv
 -- shared
 obtain ⟨s2,G',R2,q1,q2,q3⟩:=R1.C9 (fun i=>match ps[i]? with
  | some p=>Gn p
  | none=>false) (fun t=>by
   rw [hcl t]
   by_cases h:t<ps.length
   ·rw [if_pos h]
    exact (rR (bX:=pt) (hv t (by omega)).1).2.2
   ·rw [if_neg h];rfl) ps.length
 have gs2:∀ t (h:t<ps.length),get s2 (2*t)=bif Gn ps[t] then share (clean (ds.getD t .undef)) else clean (ds.getD t .undef):=by
  intro t h;rw [q1 t h,hcl t,if_pos h];simp [h]
 have QA:∀ t (h:t<ps.length),bg w G' (jF hp pt none) (cons.getD t .undef) (vs.getD t undef)∧∀ b,dN b (cons.getD t .undef) (vs.getD t undef)≤dN b (get s2 (2*t)) (vs.getD t undef):=by
  intro t h;obtain ⟨x,hx,hcx⟩:=hc t h;have ht2:=R2.tm t;rw [Pg t] at ht2;rw [hcx]
  have hx':ps[t].res1 (get s2 (2*t))=some x:=by rw [gs2 t h];exact hx
  refine Qz hx' (List.all_eq_true.1 hps _ (List.getElem_mem h)) (fun hw=>⟨clean (ds.getD t .undef),by rw [gs2 t h,hw];rfl⟩) ht2 ?_
  rw [gs2 t h]
  have hnt:=(rR (bX:=pt) (hv t (by omega)).1).2.2
  cases Gn ps[t] with
  | false=>exact hnt
  | true=>
   simp only [aQ];generalize clean (ds.getD t .undef)=d at hnt
   cases d<;>first | rfl | exact hnt
 refine ⟨G',jF hp pt none,?_⟩
 have anr:∀ k,get (iE hp (aN post y)++jE 0 cons) k=get (jE 0 cons++iE hp (aN post y)) k:=by
  intro k
  have e:get (iE hp (aN post y)++jE 0 cons) k=if hp=true∧k=1 then .aI 1 true (aN post y) else get (jE 0 cons++[]) k:=by
   cases hp with
   | false=>simp [iE]
   | true=>simp only [iE,aQ,List.cons_append,List.nil_append,aH,true_and,List.append_nil]
  rw [e,gP,gP,wZ]
  by_cases h:hp=true∧k=1
  ·rw [if_pos h,if_neg (by omega),if_pos h]
  ·rw [if_neg h,if_neg h];rfl
 refine Rel.congr ?_ anr
 refine R2.make rfl rfl rfl rfl (by simpa [uG] using l1) rfl (fun t=>?_) (fun id=>?_) (fun t ht=>?_) (fun id hid=>?_) (fun b=>?_) (fun id st hst=>?_) R2.pn
 ·rw [GU cons t l3,Pg t]
  by_cases h:t<ps.length
  ·rw [if_pos h];exact (QA t h).1
  ·rw [if_neg h];trivial
 ·have:=R2.bx id
  rw [q3 id,w9] at this;rw [w9];exact this
 ·rw [GU cons t l3,if_neg (by simp only [uG] at ht;omega)]
 ·rw [w9,if_neg (by omega)]
 ·unfold TC
  refine Nat.add_le_add (UW fun t ht=>?_) (Nat.le_of_eq (aM fun id _=>?_))
  ·simp only [cT]
   rw [GU cons t l3,Pg t,if_pos (show t<ps.length from ht)]
   exact (QA t ht).2 b
  ·simp only [cB]
   rw [q3 id,w9,w9]
 ·refine R2.pf id st ?_
  rw [q3 id,w9];rw [w9] at hst;exact hst
theorem ND (R:Rel E C s a w G pt) (hm:C'.m=2) (h1:C'.w0=C.w0) (h2:C'.G0=C.G0) (h3:C'.X=C.X) (gF:C'.pin=C.pin) {hp:Bool} (hpn:C.pin=none∨hp=true)
 {post:List Lf} (hpo:post.all iW=true) {y:(fQ post).den} (hpost:Gp s hp post=some y)
 {ls:List Lf} (hls:ls.all iW=true) {v:Value} {id st:Nat} (hv:bg w G pt (.ptr id st 0) v) (hid:id≠0) {x:(fQ ls).den} (hb:get s (2*id+1) = .aI st true (aN ls x)) :
 ∃ G' bX,Rel (uG E 1 hp) C' (iE hp (aN post y)++[(3,.aI 1 true (aN ls x)),(0,.ptr 1 1 0)]) { tmps:=#[v],defers:=[] } w G' bX:=by
 have NC:=A8 hpost;refine ⟨G,jF hp pt (some (id,st)),?_⟩
 have gg:∀ k,get (iE hp (aN post y)++[(3,.aI 1 true (aN ls x)),(0,.ptr 1 1 0)]) k =
  if hp=true∧k=1 then .aI 1 true (aN post y) else if k=3 then .aI 1 true (aN ls x) else if k=0 then .ptr 1 1 0 else .undef:=by
  intro k
  cases hp with
  | false=>simp only [iE,bU,List.nil_append,aH,sI,false_and,if_false];rfl
  | true=>simp only [iE,aQ,List.cons_append,List.nil_append,aH,true_and];rfl
 have GU:∀ t,get (iE hp (aN post y)++[(3,.aI 1 true (aN ls x)),(0,.ptr 1 1 0)]) (2*t)=if t=0 then .ptr 1 1 0 else .undef:=by
  intro t
  rw [gg,if_neg (by omega),if_neg (by omega)]
  by_cases h:t=0
  ·rw [if_pos h,if_pos (by omega)]
  ·rw [if_neg h,if_neg (by omega)]
 have w9:∀ i,get (iE hp (aN post y)++[(3,.aI 1 true (aN ls x)),(0,.ptr 1 1 0)]) (2*i+1)=if hp=true∧i=0 then .aI 1 true (aN post y) else if i=1 then .aI 1 true (aN ls x) else .undef:=by
  intro i;rw [gg]
  by_cases h:hp=true∧i=0
  ·rw [if_pos h,if_pos ⟨h.1,by omega⟩]
  ·rw [if_neg h,if_neg (fun hh=>h ⟨hh.1,by omega⟩)]
   by_cases h':i=1
   ·rw [if_pos h',if_pos (by omega)]
   ·rw [if_neg h',if_neg (by omega),if_neg (by omega)]
 obtain ⟨blk,hblk,hvv⟩:=hv
 have p0:hp=true→∀ j,jF hp pt (some (id,st)) 0 j=pt 0 j:=fun h j=>by simp [jF,h]
 have p1:jF hp pt (some (id,st)) 1 1=pt id st:=by simp [jF]
 have hB:=R.bx id;rw [hb] at hB;obtain ⟨b1,r1,r2,r3,r4⟩:=hB rfl;have hb0:=R.bx 0
 have c0:∀ b,gQ w (jF hp pt (some (id,st))) b 0 (if hp=true∧0=0 then .aI 1 true (aN post y) else if 0=1 then .aI 1 true (aN ls x) else .undef)≤cK s a w pt b 1:=by
  intro b
  by_cases h:hp=true
  ·rw [if_pos ⟨h,rfl⟩,Jj (pt:=pt) (fun _ j=>p0 h j)]
   have e:get s (2*0+1)=_:=NC h;simp only [cK,cB,e];exact dQ _
  ·rw [if_neg (by simp [h]),if_neg (by omega)]
   exact fG _
 have c1:∀ b,gQ w (jF hp pt (some (id,st))) b 1 (.aI 1 true (aN ls x))≤cK s a w pt b (2*id+1):=by
  intro b
  have e1:(2*id+1)%2=1:=by omega
  have e2:(2*id+1) / 2=id:=by omega
  simp only [cK,e1,e2,if_true,cB,hb,gQ,p1];exact dQ _
 refine R.make rfl h1 h2 h3 (by simp [uG]) rfl (fun t=>?_) (fun i=>?_) (fun t ht=>?_) (fun i hi=>?_) (fun b=>?_) (fun i j hj=>?_) (fun v hv=>?_)
 ·rw [GU]
  by_cases h:t=0
  ·subst h
   rw [if_pos rfl]
   exact ⟨blk,by rw [p1];exact hblk,by simpa using hvv⟩
  ·rw [if_neg h];trivial
 ·rw [w9]
  by_cases h:hp=true∧i=0
  ·rw [if_pos h]
   obtain ⟨h,rfl⟩:=h;have e:get s (2*0+1)=_:=NC h;rw [e] at hb0
   exact hb0.ptr (fun _ j=>p0 h j) (fun i hi=>by simp only [refs,mo hpo,List.not_mem_nil] at hi)
  ·rw [if_neg h]
   by_cases h':i=1
   ·subst h'
    rw [if_pos rfl];intro _
    exact ⟨b1,by rw [p1];exact r1,r2,r3,r4.ptr fun i hi=>by rw [mo hls] at hi;simp at hi⟩
   ·rw [if_neg h'];trivial
 ·rw [GU,if_neg (by simp only [uG] at ht;omega)]
 ·rw [w9,if_neg (by omega),if_neg (by omega)]
 ·have hk:=R.K8 b (ks:=[1,2*id+1]) (by simp;omega)
  simp only [List.map_cons,List.map_nil,List.sum_cons,List.sum_nil] at hk;refine jQ ?_ hk;show dh 1 _+dh C'.m _≤_;rw [hm]
  have t0:cT (iE hp (aN post y)++[(3,.aI 1 true (aN ls x)),(0,.ptr 1 1 0)]) { tmps:=#[v],defers:=[] } b 0=0:=by
   simp only [cT,GU,if_true];rfl
  have b0:cB (iE hp (aN post y)++[(3,.aI 1 true (aN ls x)),(0,.ptr 1 1 0)]) w (jF hp pt (some (id,st))) b 0≤cK s a w pt b 1:=by
   unfold cB;rw [w9];exact c0 b
  have b1:cB (iE hp (aN post y)++[(3,.aI 1 true (aN ls x)),(0,.ptr 1 1 0)]) w (jF hp pt (some (id,st))) b 1≤cK s a w pt b (2*id+1):=by
   unfold cB
   rw [w9,if_neg (by omega),if_pos rfl];exact c1 b
  show 0+_+(0+_+_)≤_;rw [t0];refine jQ (Nat.add_le_add (dQ _) (Nat.add_le_add (Nat.add_le_add (dQ _) b0) b1)) ?_;omega
 ·rw [w9] at hj
  by_cases h:hp=true∧i=0
  ·rw [if_pos h] at hj
   obtain ⟨h,rfl⟩:=h;rw [p0 h]
   exact R.pf 0 j (by rw [show get s (2*0+1)=_ from NC h];exact hj)
  ·rw [if_neg h] at hj
   simp only [jF]
   by_cases h0:i=0
   ·rw [if_pos h0,if_neg (fun hh=>h ⟨hh,h0⟩)]
   ·rw [if_neg h0]
    by_cases h':i=1
    ·rw [if_pos h'] at hj
     have:¬ (i=1∧j=1):=by
      simp only [aO] at hj;omega
     rw [if_neg this]
    ·rw [if_neg (by simp [h'])]
 ·rw [gF] at hv
  rcases hpn with hn | hn
  ·rw [hn] at hv;cases hv
  ·rw [p0 hn];exact R.pn v hv
theorem Da:∀ {l:List Sh} {ds:List D} {x:(jT l).den},vg l ds=some x→ds.length=l.length
 | [],[],_,_=>rfl
 | [],_::_,_,h=>by simp [vg] at h
 | _::_,[],_,h=>by simp [vg] at h
 | p::r,d::ds,x,h=>by
  simp only [vg] at h;split at h
  ·rename_i y z h1 h2
   simp [Da h2]
  ·cases h
theorem Db:∀ {l:List Sh} {ds:List D} {x:(jT l).den},vg l ds=some x→∀ i (h:i<l.length),∃ y:l[i].ty.den,l[i].res (ds.getD i .undef)=some y∧(dn l x).getD i .undef=l[i].con y
 | [],_,_,_,i,hi=>by simp at hi
 | _::_,[],_,h,_,_=>by simp [vg] at h
 | p::r,d::ds,x,h,i,hi=>by
  simp only [vg] at h;split at h
  ·rename_i y z h1 h2
   simp only [bq] at h;subst h
   cases i with
   | zero=>exact ⟨y,h1,rfl⟩
   | succ i=>exact Db h2 i (by simpa using hi)
  ·cases h
theorem QB (HP:mG P E) (R:Rel E C s a w G pt) (hm:C'.m=2) (h1:C'.w0=C.w0) (h2:C'.G0=C.G0) (h3:C'.X=C.X) (gF:C'.pin=C.pin) {c:aY} (hpn:C.pin=none∨c.bZ=true)
 (hok:c.ok=true) {fn:Func} {e:Nat} {ch:List Nat} {y:(Ty.cons c.rs.ty (fQ c.post)).den} (h:Ji E fn c ⟨e,ch,s⟩=some y) :
 e<2∧∃ (vs:Array Value) (G':_) (bX:_),(results fn a.tmps).run P w = .ok (kH vs) w∧Rel (uG E c.rs.num c.bZ) C' (gK c y) { tmps:=vs,defers:=[] } w G' bX:=by
 unfold Ji at h
 cases hc:(Nat.blt e 2&&nodupB ((bif c.bZ then 1 else 2000001)::fn.results.toList.map (Jh s))) with
 | false=>simp only [hc,bU,reduceCtorEq] at h
 | true=>
  simp only [hc,aQ] at h;simp only [bP,Nat.blt_eq] at hc;refine ⟨hc.1,?_⟩;split at h
  ·rename_i ds hds
   split at h
   ·rename_i x z hx hz
    simp only [bq] at h;subst h;obtain ⟨vs,l1,l2,hrun,hv⟩:=GR HP R hds;have hnd:=AZ hc.2;simp only [aY.ok,bP] at hok;obtain ⟨⟨⟨⟨o1,o2⟩,o3⟩,o4⟩,o5⟩:=hok
    have data:∀ (ps:List Sh) (cons:List D),ps.all mI=true→ds.length=ps.length→cons.length=ps.length →
     (∀ i (h:i<ps.length),∃ x:ps[i].ty.den,ps[i].res (ds.getD i .undef)=some x∧cons.getD i .undef=ps[i].con x) →
     ∃ G' bX,Rel (uG E ps.length c.bZ) C' (iE c.bZ (aN c.post z)++jE 0 cons) { tmps:=vs.toArray,defers:=[] } w G' bX:=by
     intro ps cons q1 q2 q3 q4
     refine Jw R hm h1 h2 h3 gF hpn o4 hz q1 hnd (by omega) q2 q3 (by simp;omega) (fun i hi=>?_) q4
     have:=hv i (by simpa using hi)
     simpa using this
    -- by the kind of result
    have fin:∀ (rs:RS) (x:rs.ty.den),rs.ok=true→Au s rs ds=some x →
     ∃ (vs:Array Value) (G':_) (bX:_),(results fn a.tmps).run P w = .ok (kH vs) w∧Rel (uG E rs.num c.bZ) C' (iE c.bZ (aN c.post z)++aaH rs x) { tmps:=vs,defers:=[] } w G' bX:=by
     intro rs x hrs hq
     cases rs with
     | none=>
      cases ds with
      | nil=>
       obtain ⟨G',bX,R'⟩:=data [] [] rfl rfl rfl (fun i hi=>by simp at hi)
       exact ⟨_,G',bX,hrun,R'⟩
      | cons d r=>simp [Au] at hq
     | one p=>
      obtain ⟨d,rfl⟩:∃ d,ds=[d]:=by
       match ds,hq with
       | [d],hq=>exact ⟨d,rfl⟩
       | [],hq=>simp [Au] at hq
       | _::_::_,hq=>simp [Au] at hq
      simp only [Au] at hq
      obtain ⟨G',bX,R'⟩:=data [p] [p.con x] (by simpa [RS.ok] using hrs) rfl rfl (fun i hi=>by
       have:i=0:=by simpa using hi
       subst this
       exact ⟨x,hq,rfl⟩)
      exact ⟨_,G',bX,hrun,R'⟩
     | fO l=>
      simp only [Au] at hq
      cases hl:Nat.beq ds.length 1 with
      | true=>rw [hl] at hq;cases hq
      | false=>
       rw [hl] at hq;simp only [bU] at hq;simp only [RS.ok,bP] at hrs;obtain ⟨G',bX,R'⟩:=data l (dn l x) hrs.1 (Da hq) (gY l x) (Db hq);exact ⟨_,G',bX,hrun,R'⟩
     | uV ls=>
      obtain ⟨id,st,off,rfl⟩:∃ id st off,ds=[.ptr id st off]:=by
       match ds,hq with
       | [],hq=>simp [Au] at hq
       | _::_::_,hq=>simp [Au] at hq
       | [d],hq=>cases d<;>first | exact ⟨_,_,_,rfl⟩ | (simp [Au] at hq)
      simp only [Au] at hq;split at hq
      ·rename_i st' cs hb
       cases hcc:(Nat.beq st st' && Nat.beq off 0 && !Nat.beq id 0) with
       | false=>rw [hcc] at hq;cases hq
       | true=>
        rw [hcc] at hq;simp only [aQ] at hq;simp only [bP,Bool.not_eq_true'] at hcc;obtain ⟨⟨e1,e2⟩,e3⟩:=hcc;have e1:=dM e1;have e2:=dM e2
        have e3:id≠0:=by
         rw [fH] at e3;exact of_decide_eq_false e3
        subst e1;subst e2;have hl:=lJ hq;subst hl
        obtain ⟨v,rfl⟩:=List.length_eq_one_iff.1 (show vs.length=1 by simp at l2;omega)
        have hv0:=(hv 0 (by simp at l2 ⊢;omega)).1
        obtain ⟨G',bX,R'⟩:=ND R hm h1 h2 h3 gF hpn o4 hz hrs hv0 e3 hb;exact ⟨_,G',bX,hrun,R'⟩
      ·cases hq
    exact fin c.rs x o3 hx
   ·cases h
  ·cases h
theorem dK.okD:∀ {t:Ty} {x:t.den} {b o:Nat},dK w G t x b o→t.ok x
 | .int k,n,b,o,h=>h.2
 | .bool,_,_,_,_=>trivial
 | .str,l,b,o,h=>by
  obtain ⟨s,_,h2,h3⟩:=h;subst h2
  refine ⟨h3,fun c hc=>?_⟩
  simp only [d9,List.mem_map] at hc;obtain ⟨u,_,rfl⟩:=hc;have:=u.toNat_lt;omega
 | .sl t,l,b,o,h=>by
  obtain ⟨a,n,c,_,h2,h3,_,h4⟩:=h;subst h2
  refine ⟨h3,fun x hx=>?_⟩
  rcases h4 with rfl | ⟨b',o',_,_,h5⟩
  ·simp at hx
  ·obtain ⟨i,hi,rfl⟩:=List.getElem_of_mem hx
   exact dK.okD (h5 i hi)
 | .unit,_,_,_,_=>trivial
 | .cons a c,x,b,o,h=>⟨dK.okD h.1,dK.okD h.2⟩
 | .st _ c,x,b,o,h=>dK.okD (t:=c) h
 | .gM _ t,x,b,o,h=>by
  obtain ⟨b',o',_,_,h3⟩:=h;exact dK.okD (t:=t) h3
theorem fJ.okD {t:Ty} {l:List t.den} {b o:Nat} (h:fJ w G t l b o):∀ x∈l,t.ok x:=by
 intro x hx;obtain ⟨i,hi,rfl⟩:=List.getElem_of_mem hx;exact dK.okD (h i hi)
def Lf.okV:(l:Lf)→l.ty.den→Prop
 | .av k,l=>∀ x∈l,k.has x
 | .va k,l=>∀ x∈l,k.has x
 | .cst d,x=>(Lf.cst d).ty.ok x
 | .int k,x=>(Lf.int k).ty.ok x
 | .bool,x=>Lf.bool.ty.ok x
 | .str,x=>Lf.str.ty.ok x
 | .sl f t,x=>(Lf.sl f t).ty.ok x
 | .gM f t,x=>(Lf.gM f t).ty.ok x
 | .vp t,x=>(Lf.vp t).ty.ok x
def GV:(ls:List Lf)→(fQ ls).den→Prop
 | [],_=>True
 | l::r,x=>l.okV x.1∧GV r x.2
def Sh.okV:(p:Sh)→p.ty.den→Prop
 | .lf l,x=>l.okV x
 | .agg ls,x=>GV ls x
 | .aI st live ls,x=>(Sh.aI st live ls).ty.ok x
 | .aW st live ar t,x=>(Sh.aW st live ar t).ty.ok x
 | .dP st t,x=>(Sh.dP st t).ty.ok x
def QC:(ps:List Sh)→(jT ps).den→Prop
 | [],_=>True
 | p::r,x=>p.okV x.1∧QC r x.2
def aY.okV (c:aY) (x:(Ty.cons (fQ c.pre) (jT c.ps)).den):Prop:=GV c.pre x.1∧QC c.ps x.2
theorem Lf.okD {l:Lf} {x:l.ty.den} {v:Value} (h:bO w G pt (l.con x) v):l.okV x:=by
 cases l with
 | cst d=>trivial
 | int k=>exact h.2
 | bool=>trivial
 | str=>
  obtain ⟨s,_,h2,h3⟩:=h;have h2:d9 s=x:=h2;subst h2
  refine ⟨h3,fun c hc=>?_⟩
  simp only [d9,List.mem_map] at hc;obtain ⟨u,_,rfl⟩:=hc;have:=u.toNat_lt;omega
 | sl f t=>
  obtain ⟨a,n,c,_,h2,h3,h4⟩:=h;subst h2;refine ⟨h3,?_⟩
  match f,h4 with
  | 0,h4=>
   rcases h4.2 with h5 | ⟨b,o,_,_,h5⟩
   ·have h5:x=[]:=h5
    subst h5;intro y hy;simp at hy
   ·exact fJ.okD h5
  | 1,h4=>
   rcases h4 with ⟨_,h5,_⟩ | ⟨b,_,_,_,_,h5,_⟩
   ·have h5:x=[]:=h5
    subst h5;intro y hy;simp at hy
   ·exact fJ.okD h5
  | 2,h4=>
   rcases h4 with ⟨_,h5,_⟩ | ⟨b,_,_,_,_,h5,_⟩
   ·have h5:x=[]:=h5
    subst h5;intro y hy;simp at hy
   ·exact fJ.okD h5
  | n+3,h4=>exact h4.elim
 | gM f t=>
  obtain ⟨b,o,_,_,h3⟩:=h;exact dK.okD (t:=t) h3
 | vp t=>
  obtain ⟨b,o,_,_,_,h3⟩:=h;exact fJ.okD h3 x (List.mem_singleton.2 rfl)
 | av k=>
  obtain ⟨arr,_,_,h3⟩:=h;intro y hy;obtain ⟨i,hi,rfl⟩:=List.getElem_of_mem hy;exact (h3 i hi).2
 | va k=>
  obtain ⟨b,o,_,_,h3⟩:=h;exact fJ.okD (t:=.int k) h3
theorem QD:∀ {ls:List Lf} {x:(fQ ls).den} {f:Nat→Value},aR w G pt (aN ls x) f→GV ls x
 | [],_,_,_=>trivial
 | l::r,x,f,h=>⟨Lf.okD (h 0 (by simp [aN])).1,QD (f:=fun i=>f (i+1)) fun j hj=>h (j+1) (by simpa [aN] using hj)⟩
theorem Sh.okD {p:Sh} {x:p.ty.den} {v:Value} (hok:mI p=true) (h:bg w G pt (p.con x) v):p.okV x:=by
 cases p with
 | lf l=>
  have h0:iW l=true:=hok
  cases l with
  | cst d=>trivial
  | int k=>exact Lf.okD (w:=w) (G:=G) (pt:=pt) (l:=.int k) h
  | bool=>trivial
  | str=>exact Lf.okD (w:=w) (G:=G) (pt:=pt) (l:=.str) h
  | sl f t=>exact Lf.okD (w:=w) (G:=G) (pt:=pt) (l:=.sl f t) h
  | gM f t=>exact Lf.okD (w:=w) (G:=G) (pt:=pt) (l:=.gM f t) h
  | vp t=>exact Lf.okD (w:=w) (G:=G) (pt:=pt) (l:=.vp t) h
  | av t=>exact Lf.okD (w:=w) (G:=G) (pt:=pt) (l:=.av t) h
  | va t=>exact Lf.okD (w:=w) (G:=G) (pt:=pt) (l:=.va t) h
 | agg ls=>
  obtain ⟨arr,rfl,h2,h3⟩:=h;exact QD h3
 | aI st live ls=>cases hok
 | aW st live ar t=>cases hok
 | dP st t=>cases hok
theorem Zy:∀ {ps:List Sh} {x:(jT ps).den},ps.all mI=true→(∀ i,i<ps.length→∃ v,bg w G pt ((dn ps x).getD i .undef) v)→QC ps x
 | [],_,_,_=>trivial
 | p::r,x,hok,h=>by
  simp only [List.all_cons,bP] at hok
  obtain ⟨v,hv⟩:=h 0 (by simp)
  exact ⟨Sh.okD hok.1 hv,Zy hok.2 fun i hi=>h (i+1) (by simpa using hi)⟩
theorem NG {c:aY} {n:Nat} {hp:Bool} {x:(Ty.cons (fQ c.pre) (jT c.ps)).den} (hok:c.ok=true) (R:Rel (uG E n hp) C (bY c x) a w G pt):c.okV x:=by
 simp only [aY.ok,bP,Bool.or_eq_true] at hok;obtain ⟨⟨⟨⟨o1,o2⟩,o3⟩,o4⟩,o5⟩:=hok;have o2':c.ps.all mI=true:=o2;refine ⟨?_,?_⟩
 ·cases hP:c.bZ with
  | false=>
   rw [hP] at o5;simp only [sI,false_or] at o5;have:=o5.1;rw [List.isEmpty_iff] at this
   have key:∀ (ls:List Lf) (y:(fQ ls).den),ls=[]→GV ls y:=by
    intro ls y h;subst h;trivial
   exact key _ _ this
  | true=>
   have hB:=R.bx 0
   have e:get (bY c x) (2*0+1) = .aI 1 true (aN c.pre x.1):=by
    unfold bY;simp [hP,aH]
   rw [e] at hB;obtain ⟨b,_,_,_,h⟩:=hB rfl;exact QD h
 ·refine Zy (w:=w) (G:=G) (pt:=pt) o2' fun i hi=>?_
  have hl:=gY c.ps x.2
  cases hP:c.bZ with
  | true=>
   have ht:=R.tm (i+1)
   have e:get (bY c x) (2*(i+1))=(dn c.ps x.2).getD i .undef:=by
    unfold bY;simp only [hP,aQ,kI]
    rw [aH,if_neg (by omega),aH,if_neg (by omega)]
    have:=gP (rest:=[]) (ds:=dn c.ps x.2) (i:=1) (2*(i+1));rw [List.append_nil] at this
    rw [this,if_pos ⟨by omega,by omega,by omega⟩]
    congr 1
    omega
   rw [e] at ht;exact ⟨_,ht⟩
  | false=>
   have ht:=R.tm i
   have e:get (bY c x) (2*i)=(dn c.ps x.2).getD i .undef:=by
    unfold bY;simp only [hP,bU,kI];have:=gP (rest:=[]) (ds:=dn c.ps x.2) (i:=0) (2*i);rw [List.append_nil] at this
    rw [this,if_pos ⟨by omega,by omega,by omega⟩]
    congr 1
    omega
   rw [e] at ht;exact ⟨_,ht⟩
theorem aaI (HP:mG P E) (Qw:P.follows .mixedOrders=true) {Γ:uX} {f:Nat} {fn:Func} {plan:Plan} {c:aY} (hf:P.funcs[f]? = some fn) (hn:E.n=fn.ntmps) (hhp:E.hp=c.bZ)
 (hok:c.ok=true) (QE:c.num≤E.n) (HC:∀ C:Ctx,E.n≤C.m→2≤C.m→Eh P E Γ C)
 (hF:∀ x y,c.okV x→c.F x=some y→(evF (fun _ _=>Loop) E Γ fn plan c x).den=some y):rO P E f c:=by
 intro x y hy C args w G pt hm gF hargs R K hK;have hy:=hF x y (NG hok R) hy;simp only [evF] at hy;split at hy
 ·rename_i code hcode
  obtain ⟨r,hr,hl⟩:=iD hy;refine calls_of_wp hf hcode ?_
  have hpn:C.pin=none∨E.hp=true:=by rw [hhp];exact gF
  -- the frame's start
  have R1:Rel E { C with m:=E.n+2 } (bY c x) { tmps:=args++Array.replicate (fn.ntmps - args.size) undef,defers:=[] } w G pt:=by
   have hsz:(args++Array.replicate (fn.ntmps - args.size) undef).size=E.n:=by
    simp only [Array.size_append,Array.size_replicate];omega
   have hget:∀ t,t<c.num→(args++Array.replicate (fn.ntmps - args.size) undef).getD t undef=args.getD t undef:=by
    intro t ht
    have h1:t<args.size:=by omega
    rw [sJ,sJ,Array.getElem?_append_left h1]
   have hhi:∀ t,c.num≤t→get (bY c x) (2*t) = .undef:=fun t ht=>R.ht t ht
   refine R.make rfl rfl rfl rfl hsz rfl (fun t=>?_) R.bx (fun t ht=>hhi t (by omega)) (fun id hid=>R.hb id (by simp only at hid;omega)) (fun b=>?_) R.pf R.pn
   ·by_cases ht:t<c.num
    ·rw [hget t ht];exact R.tm t
    ·rw [hhi t (by omega)];trivial
   ·unfold TC
    refine Nat.add_le_add ?_ ?_
    ·rw [rP (f:=cT (bY c x) _ b) (n:=c.num) (m:=E.n) QE fun i hi=>by rw [cT,hhi i hi];exact dX b _]
     refine Nat.le_of_eq (aM fun t ht=>?_)
     simp only [cT];rw [hget t ht]
    ·rw [rP (f:=cB (bY c x) w pt b) (n:=C.m) (m:=E.n+2) (by omega) fun i hi=>by rw [cB,R.hb i hi];rfl]
     exact dQ _
  have HO:=aaC (C:={ C with m:=E.n+2 }) HP (by simp) (HC _ (by simp) (by simp))
  have:=(jO (C:={ C with m:=E.n+2 }) (by show E.n≤E.n+2;omega) hpn HO (Qv Qw HO) code plan [] (bY c x) r hr).2 _ w G pt R1
  refine wp_mono this fun e a' w' hp=>?_
  obtain ⟨rfl,G',bX,R'⟩:=hp;obtain ⟨re,rch,rs⟩:=r;obtain ⟨he,vs,G2,kG,hrun,R2⟩:=QB HP R' (C':=C) hm rfl rfl rfl rfl gF hok hl
  have fin:a'.defers=[]∧∃ v,(results fn a'.tmps).run P w' = .ok v w'∧K (.returned v) w':=⟨R'.df,_,hrun,hK vs w' G2 kG R2⟩
  match re,he with
  | 0,_=>exact fin
  | 1,_=>exact fin
 ·cases hy
end
section
variable {P:Program} {E E':Env} {C C':Ctx} {s s':St} {a a':Act} {w w':World} {G G':Nat→Nat} {pt bX:Nat→Nat→Option Value}
def agj (P:Program) (gl:Nat→Option (IntKind×List Int)) (f:Nat) (x:XF):Prop:=
 ∀ (E:Env) (C:Ctx) (o:Oper) (c:Call) (s:St) (a:Act) (w:World) (G:Nat→Nat) (pt:Nat→Nat→Option Value) (t:Nat) (u:St),E.glob=gl→E.n≤C.m→t<E.n→o.dst=some t→o.op = .call c→c.callee = .value (.func f) →
  Rel E C s a w G pt→x t (aO (get s (2*t+1))+1) (c.args.toList.map (Qd s))=some (true,u)→Gv P E C o a w (aA u s)
structure gy (P:Program) (E:Env) (f:Nat) (con:aY):Prop where
 ok:con.ok=true
 sem:con.xf=none→rO P E f con
 aaJ:∀ x,con.xf=some x→agj P E.glob f x
 fn:∃ fn,P.funcs[f]? = some fn∧(fn.name == "runtime.NumGoroutine")=false∧fn.body.isNone=false
theorem QF {f:Nat} {con:aY} (H:gy P E f con) {o:Oper} {c:Call} (hop:o.op = .call c) (hc:c.callee = .value (.func f)) :
 (execOp a.eval o).run P w = .ok (.enter f (c.args.map a.eval)) w:=by
 obtain ⟨fn,h1,h2,h3⟩:=H.fn
 have e:execOp a.eval o=callFunc f (#[]++c.args.map a.eval++#[]):=by
  simp only [execOp,hop,resolve,hc];rfl
 rw [e];simp only [callFunc]
 have h2':¬ fn.name = "runtime.NumGoroutine":=by simpa using h2
 have h3':¬ fn.body=none:=fun h=>by rw [h] at h3;cases h3
 simp [go_sem,h1,h2',h3']
theorem NH {f:Nat} {con:aY} (H:gy P E f con) (R:Rel E C s a w G pt) {o:Oper} {c:Call} (hop:o.op = .call c) (hc:∃ x,c.callee = .value x∧aX s x = .BS f) :
 (execOp a.eval o).run P w = .ok (.enter f (c.args.map a.eval)) w:=by
 obtain ⟨fn,h1,h2,h3⟩:=H.fn;obtain ⟨x,hc,hx⟩:=hc
 have hv:a.eval x = .func (.func f) #[] #[]:=by
  have:=aV R x;rw [hx] at this;exact this
 have e:execOp a.eval o=callFunc f (#[]++c.args.map a.eval++#[]):=by
  simp only [execOp,hop,resolve,hc,hv];rfl
 rw [e];simp only [callFunc]
 have h2':¬ fn.name = "runtime.NumGoroutine":=by simpa using h2
 have h3':¬ fn.body=none:=fun h=>by rw [h] at h3;cases h3
 simp [go_sem,h1,h2',h3']
theorem QG {l:Lf} (h:kV l=true):iW l=true:=by
 cases l with
 | sl f t=>rfl
 | _=>exact h
theorem GX {l:Lf} (h:kV l=true) (x:l.ty.den) (b:Nat) (v:Value):eu b (l.con x) v=0:=by
 cases l with
 | sl f t=>
  have:f=0:=dM h;subst this
  cases v with
  | slice a n c=>cases a<;>simp [Lf.con,eu]
  | _=>rfl
 | cst d=>cases d<;>first | (simp [kV,iW] at h;done) | (cases v<;>rfl)
 | _=>cases v<;>rfl
theorem Dc:∀ {ls:List Lf},ls.all kV=true→∀ (x:(fQ ls).den) (b:Nat) (f:Nat→Value),aP b (aN ls x) f=0
 | [],_,_,_,_=>rfl
 | l::r,h,x,b,f=>by
  simp only [List.all_cons,bP] at h;simp only [aN,aP,GX h.1,Dc h.2]
theorem GY {p:Sh} (h:vk p=true) (x:p.ty.den) (b:Nat) (v:Value):dN b (p.con x) v=0:=by
 cases p with
 | lf l=>
  have:=GX h x b v
  cases l with
  | cst d=>cases d<;>first | exact this | (simp [vk,kV,iW] at h;done)
  | _=>exact this
 | agg ls=>
  cases v with
  | agg arr=>exact Dc h x b _
  | _=>rfl
 | aI st live ls=>cases h
 | aW st live ar t=>cases h
 | dP st t=>cases h
theorem Lf.Ep {l:Lf} {d:D} {x:l.ty.den} {v:Value} (hok:kV l=true) (hx:l.arg d=some x) (h:bO w G pt (dw d) v):bO w G bX (l.con x) v:=by
 have plain:l.abs (dw d)=some x→bO w G bX (l.con x) v:=by
  intro hx
  refine bO.ptr (pt:=pt) (fun i hi=>?_) ?_
  ·rw [rQ (QG hok)] at hi;simp at hi
  ·rw [Lf.mQ hx];exact h
 cases l with
 | sl f t=>
  have hf:f=0:=dM hok;subst hf
  cases d with
  | jK=>
   simp only [Lf.arg,bq] at hx;subst hx;have hv:v = .slice none 0 0:=h;subst hv
   exact ⟨none,0,0,rfl,rfl,by simp,dQ _,.inl rfl⟩
  | _=>exact plain hx
 | _=>exact plain hx
def xg (s:St) (a:Act) (pt:Nat→Nat→Option Value) (b:Nat):Prop:=
 (∃ id st ar t l,get s (2*id+1) = .aW st true ar t l∧bH (pt id st)=some b)∨∃ t,0<cT s a b t
def fE (w:World) (b:Nat):Nat:=
 match w.heap[b]? with
 | some (.cells cur _ _)=>cur.size
 | _=>0
open Classical in
noncomputable def fA (len:Bool) (s:St) (a:Act) (pt:Nat→Nat→Option Value) (w:World) (G:Nat→Nat) (b:Nat):Nat:=
 if len=true∧xg s a pt b then fE w b else G b
theorem QH {b f:Nat} {t:Ty} {l:List t.den} (v:Value):dN b (.sl f t l) v=eu b (.sl f t l) v:=by cases v<;>rfl
theorem aaK {b f:Nat} {t:Ty} {l:List t.den} (v:Value):IK b (.sl f t l) v=eu b (.sl f t l) v:=by cases v<;>rfl
theorem aaL {d:D} {v:Value} {b:Nat} (h:bO w G pt d v) (hc:0<eu b d v):G b≤fE w b:=by
 cases d with
 | sl f t l=>
  obtain ⟨a',n,c,rfl,h2,h3,h4⟩:=h
  cases a' with
  | none=>simp [eu] at hc
  | some a'=>
   simp only [eu] at hc;split at hc
   ·rename_i hf
    have key:∀ b':Nat,(some a':Option Addr)=some ⟨b',0,none⟩→G b'≤l.length*t.nc→Room w b' (c*t.nc)→l.length≤c→G b≤fE w b:=by
     intro b' hb' g1 g2 g3
     have:a'.block=b':=by
      simp only [bq] at hb';rw [hb']
     rw [hf.2] at this;subst this;obtain ⟨cur,e,fr,q1,q2,_⟩:=g2;simp only [fE,q1];exact jQ g1 (jQ (sW _ g3) q2)
    match f,hf.1,h4 with
    | 1,_,h4=>
     rcases h4 with h4 | ⟨b',e,g1,g2,g3,_,_⟩
     ·cases h4.1
     ·exact key b' e (Nat.le_of_eq g1) g2 g3
    | 2,_,h4=>
     rcases h4 with h4 | ⟨b',e,g1,g2,g3,_,_⟩
     ·cases h4.1
     ·exact key b' e (by omega) g2 g3
    | n+3,_,h4=>exact h4.elim
   ·omega
 | _=>cases v<;>simp [eu] at hc
theorem QI:∀ {ds:List D} {f:Nat→Value} {b:Nat},aR w G pt ds f→0<aP b ds f→G b≤fE w b
 | [],_,_,_,hc=>by simp [aP] at hc
 | d::r,f,b,h,hc=>by
  simp only [aP] at hc
  by_cases h0:0<eu b d (f 0)
  ·exact aaL (h 0 (by simp)).1 h0
  ·exact QI (ds:=r) (f:=fun i=>f (i+1)) (fun j hj=>by
    have:=h (j+1) (by simpa using hj)
    simpa using this) (by omega)
theorem ant {d:D} {v:Value} {b:Nat} (h:yH w G pt d v) (hc:0<IK b d v):G b≤fE w b:=by
 cases d with
 | agg cs=>
  obtain ⟨arr,rfl,h2,h3⟩:=h;exact QI h3 hc
 | sl f t l=>
  rw [aaK] at hc;exact aaL (pt:=pt) (d:=.sl f t l) h hc
 | _=>cases v<;>simp [IK,eu] at hc
theorem Zz:∀ {ds:List D} {f:Nat→Value} {b:Nat},(∀ j (h:j<ds.length),yH w G pt ds[j] (f j))→0<nJ b ds f→G b≤fE w b
 | [],_,_,_,hc=>by simp [nJ] at hc
 | d::r,f,b,h,hc=>by
  simp only [nJ] at hc
  by_cases h0:0<IK b d (f 0)
  ·exact ant (h 0 (by simp)) h0
  ·exact Zz (ds:=r) (f:=fun i=>f (i+1)) (fun j hj=>by
    have:=h (j+1) (by simpa using hj)
    simpa using this) (by omega)
theorem anu {d:D} {v:Value} {b:Nat} (h:bg w G pt d v) (hc:0<dN b d v):G b≤fE w b:=by
 cases d with
 | agg cs=>
  obtain ⟨arr,rfl,h2,h3⟩:=h;exact QI h3 hc
 | fO vs=>
  obtain ⟨arr,rfl,h2,h3⟩:=h;exact Zz h3 hc
 | fn f caps=>
  obtain ⟨arr,rfl,h2,h3,h4⟩:=h;simp [dN,eu] at hc
 | sl f t l=>
  rw [QH] at hc;exact aaL (pt:=pt) (d:=.sl f t l) h hc
 | _=>cases v<;>simp [dN,eu] at hc
theorem Rel.oP (R:Rel E C s a w G pt) {id st:Nat} {ar:Bool} {t:Ty} {l:List t.den} (h:get s (2*id+1) = .aW st true ar t l) {b:Nat} (hb:bH (pt id st)=some b) :
 b<w.heap.size∧G b=0∧l.length*t.nc≤fE w b∧0<cB s w pt b id:=by
 have hcount:0<cB s w pt b id:=by
  simp only [cB,h,gQ,dx,hb,if_true];exact Nat.one_pos
 have hlt:=(R.cb b (nG hcount (R.iT b id))).1;obtain ⟨g1,g2,g3⟩:=kQ R h hb;refine ⟨hlt,g3,?_,hcount⟩;obtain ⟨cur,e,fr,q1,q2,_⟩:=g2;simp only [fE,q1];exact q2
theorem Rel.GZ (R:Rel E C s a w G pt) {b:Nat} (h:xg s a pt b):b<w.heap.size∧G b≤fE w b∧0<TC E.n C.m s a w pt b:=by
 rcases h with ⟨id,st,ar,t,l,h1,h2⟩ | ⟨t,h⟩
 ·obtain ⟨q1,q2,q3,q4⟩:=R.oP h1 h2
  exact ⟨q1,by omega,nG q4 (R.iT b id)⟩
 ·have:=nG h (R.mM b t)
  exact ⟨(R.cb b this).1,anu (R.tm t) h,this⟩
theorem Rel.rT (R:Rel E C s a w G pt) (len:Bool):Ext w G w (fA len s a pt w G):=by
 refine ⟨fun _ _ _=>rfl,fun b=>?_⟩
 unfold fA;split
 ·rename_i h
  exact (R.GZ h.2).2.1
 ·exact dQ _
theorem Rel.agk (R:Rel E C s a w G pt) (len:Bool):∀ b,w.heap.size≤b→fA len s a pt w G b=0:=by
 intro b hb;unfold fA;split
 ·rename_i h
  have:=(R.GZ h.2).1;omega
 ·exact R.gz b hb
theorem UY {cs:List D} {v:Value} (h:bg w G pt (view (.agg cs)) v):∃ arr,v = .agg arr∧arr.size=cs.length∧aR w G pt (cs.map dw) (aS arr):=by
 obtain ⟨arr,h1,h2,h3⟩:=h
 exact ⟨arr,h1,by simpa using h2,h3⟩
def Jz:D→Bool
 | .agg _ | .fO _ | .fn _ _ | .aI _ _ _ | .aW _ _ _ _ _ | .dP _ _ _ _ | .gZ _ _ | .BZ _ _ _ | .IQ _ _ _ _ _=>true
 | _=>false
theorem vG {l:Lf} {d:D} {x:l.ty.den} (hd:Jz d=true) (hok:kV l=true) (h:l.arg d=some x):False:=by
 cases l with
 | cst d0=>
  cases d0<;>first | (cases hok;done) | (cases d<;>first | (cases hd;done) | (cases h;done))
 | _=>cases d<;>first | (cases hd;done) | (cases h;done) | (simp [Lf.arg,Lf.abs,dw] at h)
theorem tQ {l:Lf} {d:D} {x:l.ty.den} (hd:Jz d=true) (hr:isR d=false) (hok:kV l=true) (h:l.Cb s d=some x):False:=by
 have h':l.arg d=some x:=by
  cases l with
  | sl f t=>cases d<;>first | exact h | (cases hr;done)
  | va k=>cases d<;>first | exact h | (cases hr;done)
  | _=>exact h
 exact vG hd hok h'
theorem Df (R:Rel E C s a w G pt) {l:Lf} {d:D} {x:l.ty.den} {v:Value} {len:Bool} (hok:kV l=true) (hx:l.Cb s d=some x) (hv:bO w (fA len s a pt w G) pt (dw d) v)
 (hlen:isR d=true→len=true):bO w (fA len s a pt w G) bX (l.con x) v:=by
 cases hd:isR d with
 | false=>
  have h':l.arg d=some x:=by
   cases l with
   | sl f t=>cases d<;>first | exact hx | (cases hd;done)
   | va k=>cases d<;>first | exact hx | (cases hd;done)
   | _=>exact hx
  exact Lf.Ep hok h' hv
 | true=>
  cases d with
  | gZ id st=>
   have hl:len=true:=hlen rfl
   cases l with
   | sl f t=>
    have hf:f=0:=dM hok;subst hf;simp only [Lf.Cb] at hx;split at hx
    ·rename_i st' t' l hb
     cases hc:Nat.beq st st' with
     | false=>rw [hc] at hx;cases hx
     | true=>
      rw [hc] at hx;simp only [aQ] at hx;have hc:=dM hc;subst hc;split at hx
      ·rename_i hty
       have hty:=Ty.eq_of_beq hty;subst hty;simp only [bq] at hx;have hx:l=x:=hx;subst hx;have hv:pt id st=some v:=hv;have hB:=R.bx id;rw [hb] at hB;obtain ⟨a',n,c,h1,h2,h3,h4⟩:=hB rfl;rw [hv] at h1;simp only [bq] at h1;refine ⟨a',n,c,h1,h2,h3,?_⟩
       rcases h4 with ⟨rfl,rfl,rfl⟩ | ⟨b,rfl,g1,g2,g3,g4,g5⟩
       ·exact ⟨dQ _,.inl rfl⟩
       ·have hblk:bH (pt id st)=some b:=by rw [hv,h1];rfl
        refine ⟨g3,.inr ⟨b,0,rfl,?_,g4.mono (R.rT len) fun _ _ _=>rfl⟩⟩
        rw [Nat.zero_add];have hL:xg s a pt b:=.inl ⟨id,st,_,t',l,hb,hblk⟩;unfold fA;rw [if_pos ⟨hl,hL⟩];exact (R.oP hb hblk).2.2.1
      ·cases hx
    ·cases hx
   | cst d0=>exact (vG (l:=.cst d0) (d:=.gZ id st) rfl hok hx).elim
   | int k=>exact (vG (l:=.int k) (d:=.gZ id st) rfl hok hx).elim
   | bool=>exact (vG (l:=.bool) (d:=.gZ id st) rfl hok hx).elim
   | str=>exact (vG (l:=.str) (d:=.gZ id st) rfl hok hx).elim
   | gM f t=>exact (vG (l:=.gM f t) (d:=.gZ id st) rfl hok hx).elim
   | vp t=>exact (vG (l:=.vp t) (d:=.gZ id st) rfl hok hx).elim
   | av k=>exact (vG (l:=.av k) (d:=.gZ id st) rfl hok hx).elim
   | va k=>exact (vG (l:=.va k) (d:=.gZ id st) rfl hok hx).elim
  | ptr id st off=>
   have hl:len=true:=hlen rfl
   have other:∀ {l:Lf} {x:l.ty.den},kV l=true→l.arg (.ptr id st off)=some x→False:=by
    intro l x hok hx
    cases l with
    | cst d0=>cases d0<;>first | (cases hok;done) | (cases hx;done)
    | _=>first | (cases hx;done) | (simp [Lf.arg,Lf.abs,dw] at hx)
   cases l with
   | va k=>
    cases off with
    | succ n=>exact (other hok hx).elim
    | zero=>
     simp only [Lf.Cb] at hx;split at hx
     ·rename_i st' k' l hb
      cases hc:(Nat.beq st st' && jm k k') with
      | false=>rw [hc] at hx;cases hx
      | true=>
       rw [hc] at hx;simp only [aQ,bq] at hx;simp only [bP] at hc;have hc1:=dM hc.1;have hc2:=fq hc.2;subst hc1;subst hc2;have hx:l=x:=hx;subst hx;obtain ⟨b,hblk,hv⟩:=hv;obtain ⟨g1,g2,g3⟩:=kQ R hb hblk
       refine ⟨b,0,hv,?_,g1.mono (R.rT len) fun _ _ _=>rfl⟩
       rw [Nat.zero_add];have hL:xg s a pt b:=.inl ⟨id,st,_,_,l,hb,hblk⟩;unfold fA;rw [if_pos ⟨hl,hL⟩];have:=(R.oP hb hblk).2.2.1
       simpa [Ty.nc] using this
     ·cases hx
   | sl f t=>exact (other (l:=.sl f t) hok hx).elim
   | cst d0=>exact (other (l:=.cst d0) hok hx).elim
   | int k=>exact (other (l:=.int k) hok hx).elim
   | bool=>exact (other (l:=.bool) hok hx).elim
   | str=>exact (other (l:=.str) hok hx).elim
   | gM f t=>exact (other (l:=.gM f t) hok hx).elim
   | vp t=>exact (other (l:=.vp t) hok hx).elim
   | av k=>exact (other (l:=.av k) hok hx).elim
  | _=>cases hd
theorem yx (R:Rel E C s a w G pt) {len:Bool}:∀ {ls:List Lf} {ds:List D} {x:(fQ ls).den} {f:Nat→Value},ls.all kV=true→oO s ls ds=some x →
 aR w (fA len s a pt w G) pt (ds.map dw) f→(∀ d∈ds,isR d=true→len=true)→aR w (fA len s a pt w G) bX (aN ls x) f∧(aN ls x).length=ds.length
 | [],[],_,_,_,_,h,_=>⟨fun j hj=>by simp [aN] at hj,rfl⟩
 | [],_::_,_,_,_,h,_,_=>by simp [oO] at h
 | _::_,[],_,_,_,h,_,_=>by simp [oO] at h
 | l::r,d::ds,x,f,hok,hx,h,hl=>by
  simp only [List.all_cons,bP] at hok;simp only [oO] at hx;split at hx
  ·rename_i y z h1 h2
   simp only [bq] at hx;subst hx
   have hd:=h 0 (by simp)
   have q1:=Df (bX:=bX) R hok.1 h1 hd.1 (hl d (by simp))
   obtain ⟨p1,p2⟩:=yx R (f:=fun i=>f (i+1)) hok.2 h2 (fun j hj=>by
    have:=h (j+1) (by simpa using hj)
    simpa using this) (fun d' hd'=>hl d' (oH _ hd'))
   refine ⟨fun j hj=>?_,by simp [aN,p2]⟩
   cases j with
   | zero=>exact ⟨q1,hd.2⟩
   | succ j=>exact p1 j (by simpa [aN] using hj)
  ·cases hx
theorem Ep (R:Rel E C s a w G pt) {p:Sh} {d:D} {x:p.ty.den} {v:Value} {len:Bool} (hok:vk p=true) (hx:p.arg s d=some x) (hv:bg w (fA len s a pt w G) pt (view d) v)
 (hlen:ni d=true→len=true):bg w (fA len s a pt w G) bX (p.con x) v:=by
 cases p with
 | lf l=>
  have G5:kV l=true:=hok;have hx:l.Cb s d=some x:=hx
  -- a leaf
  have agl:bO w (fA len s a pt w G) bX (l.con x) v→bg w (fA len s a pt w G) bX (Sh.con (.lf l) x) v:=by
   intro h
   cases l with
   | cst d0=>cases d0<;>first | exact h | (simp [kV,iW] at G5)
   | _=>exact h
  have plain:bO w (fA len s a pt w G) pt (dw d) v→(isR d=true→len=true)→bg w (fA len s a pt w G) bX (Sh.con (.lf l) x) v:=
   fun h2 h3=>agl (Df R G5 hx h2 h3)
  cases d with
  | agg cs=>exact (tQ (d:=.agg cs) rfl rfl G5 hx).elim
  | fO cs=>exact (tQ (d:=.fO cs) rfl rfl G5 hx).elim
  | fn f cs=>exact (tQ (d:=.fn f cs) rfl rfl G5 hx).elim
  | aI st l cs=>exact (tQ (d:=.aI st l cs) rfl rfl G5 hx).elim
  | aW st l ar t ls=>exact (tQ (d:=.aW st l ar t ls) rfl rfl G5 hx).elim
  | dP st t l h'=>exact (tQ (d:=.dP st t l h') rfl rfl G5 hx).elim
  | _=>exact plain hv hlen
 | agg ls=>
  cases d with
  | agg cs=>
   simp only [Sh.arg] at hx;obtain ⟨arr,rfl,h2,h3⟩:=UY hv
   obtain ⟨q1,q2⟩:=yx (bX:=bX) R hok hx h3 (fun d hd hr=>hlen (List.any_eq_true.2 ⟨d,hd,hr⟩))
   exact ⟨arr,rfl,by rw [h2];exact q2.symm,q1⟩
  | _=>simp [Sh.arg] at hx
 | aI st live ls=>cases hok
 | aW st live ar t=>cases hok
 | dP st t=>cases hok
theorem Lf.qE {l:Lf} {d:D} {x:l.ty.den} {v:Value} (hok:iW l=true) (hx:l.give d=some x) (h:bO w G pt d v):bO w G bX (l.con x) v∧∀ b,eu b (l.con x) v=eu b d v:=by
 have plain:l.abs d=some x→bO w G bX (l.con x) v∧∀ b,eu b (l.con x) v=eu b d v:=by
  intro hx;have e:=Lf.mQ hx
  refine ⟨bO.ptr (pt:=pt) (fun i hi=>?_) (by rw [e];exact h),fun b=>by rw [e]⟩
  rw [rQ hok] at hi;simp at hi
 cases l with
 | sl f t=>
  cases d with
  | jK=>
   simp only [Lf.give] at hx
   cases hf:Nat.blt f 3 with
   | false=>rw [hf] at hx;cases hx
   | true=>
    rw [hf] at hx;simp only [aQ,bq] at hx;subst hx;have hv:v = .slice none 0 0:=h;subst hv;have hf:=Nat.le_of_ble_eq_true hf
    refine ⟨⟨none,0,0,rfl,rfl,by simp,?_⟩,fun b=>rfl⟩
    match f,hf with
    | 0,_=>exact ⟨dQ _,.inl rfl⟩
    | 1,_=>exact .inl ⟨rfl,rfl,rfl⟩
    | 2,_=>exact .inl ⟨rfl,rfl,rfl⟩
    | n+3,h=>omega
  | _=>exact plain hx
 | _=>exact plain hx
theorem A9:∀ {ls:List Lf} {ds:List D} {x:(fQ ls).den} {f:Nat→Value},ls.all iW=true→wP ls ds=some x→aR w G pt ds f →
 aR w G bX (aN ls x) f∧(aN ls x).length=ds.length∧∀ b,aP b (aN ls x) f=aP b ds f
 | [],[],_,_,_,_,h=>⟨fun j hj=>by simp [aN] at hj,rfl,fun _=>rfl⟩
 | [],_::_,_,_,_,h,_=>by simp [wP] at h
 | _::_,[],_,_,_,h,_=>by simp [wP] at h
 | l::r,d::ds,x,f,hok,hx,h=>by
  simp only [List.all_cons,bP] at hok;simp only [wP] at hx;split at hx
  ·rename_i y z h1 h2
   simp only [bq] at hx;subst hx
   have hd:=h 0 (by simp)
   obtain ⟨q1,q2⟩:=Lf.qE (bX:=bX) hok.1 h1 hd.1
   obtain ⟨p1,p2,p3⟩:=A9 (f:=fun i=>f (i+1)) hok.2 h2 (fun j hj=>by
    have:=h (j+1) (by simpa using hj)
    simpa using this)
   refine ⟨fun j hj=>?_,by simp [aN,p2],fun b=>?_⟩
   ·cases j with
    | zero=>exact ⟨q1,hd.2⟩
    | succ j=>exact p1 j (by simpa [aN] using hj)
   ·simp only [aN,aP]
    rw [q2 b,p3 b]
  ·cases hx
theorem qE {p:Sh} {d:D} {x:p.ty.den} {v:Value} (hok:mI p=true) (hx:p.give d=some x) (h:bg w G pt d v):bg w G bX (p.con x) v∧∀ b,dN b (p.con x) v=dN b d v:=by
 have agm:∀ {l:Lf} {x:l.ty.den},iW l=true→bO w G bX (l.con x) v→bg w G bX (Sh.con (.lf l) x) v:=by
  intro l x hok h
  cases l with
  | cst d0=>cases d0<;>first | exact h | (simp [iW] at hok)
  | _=>exact h
 have agn:∀ {l:Lf} {x:l.ty.den} (b:Nat),iW l=true→dN b (Sh.con (.lf l) x) v=eu b (l.con x) v:=by
  intro l x b hok
  cases l with
  | cst d0=>cases d0<;>first | rfl | (simp [iW] at hok)
  | _=>rfl
 cases p with
 | lf l=>
  have hok':iW l=true:=hok
  have no:∀ {P:Prop},l.give d=some x→Jz d=true→P:=by
   intro P h0 h1;exfalso
   cases l with
   | cst d0=>
    cases d0<;>first | (simp [iW] at hok';done) | (cases d<;>first | (cases h1;done) | (simp [Lf.give,Lf.abs,keq] at h0;done) | (cases h0;done))
   | _=>cases d<;>first | (cases h1;done) | (simp [Lf.give,Lf.abs] at h0;done) | (cases h0;done)
  cases d with
  | agg cs=>exact no hx rfl
  | fO cs=>exact no hx rfl
  | fn f cs=>exact no hx rfl
  | aI st l cs=>exact no hx rfl
  | aW st l ar t ls=>exact no hx rfl
  | dP st t l h'=>exact no hx rfl
  | _=>
   obtain ⟨h1,h2⟩:=Lf.qE (pt:=pt) (bX:=bX) hok' hx h
   exact ⟨agm hok' h1,fun b=>by rw [agn b hok',h2 b];rfl⟩
 | agg ls=>
  cases d with
  | agg cs=>
   simp only [Sh.give] at hx;obtain ⟨arr,rfl,h2,h3⟩:=h;obtain ⟨q1,q2,q3⟩:=A9 (pt:=pt) (bX:=bX) hok hx h3
   exact ⟨⟨arr,rfl,by rw [h2];exact q2.symm,q1⟩,fun b=>q3 b⟩
  | _=>simp [Sh.give] at hx
 | aI st live ls=>cases hok
 | aW st live ar t=>cases hok
 | dP st t=>cases hok
theorem eY {d:D} {v:Value} {Gl:Nat→Nat} (hE:Ext w G w Gl) (h:bO w G pt d v) (hc:∀ b,0<eu b d v→Gl b=fE w b):bO w Gl pt (dw d) v:=by
 have plain:(∀ b,eu b d v=0)→bO w Gl pt (dw d) v:=fun h0=>by
  refine bO.mono hE (fun _ _ _ h=>h) (h.view0 h0) fun b hb=>?_
  have h1:eu b (dw d) v=0:=by
   cases d with
   | sl f t l=>cases v with
    | slice a' n c=>cases a'<;>simp [dw,eu]
    | _=>rfl
   | _=>exact h0 b
  omega
 cases d with
 | sl f t l=>
  obtain ⟨a',n,c,rfl,h2,h3,h4⟩:=h
  by_cases h0:∀ b,eu b (.sl f t l) (.slice a' n c)=0
  ·exact plain h0
  ·obtain ⟨b,hb⟩:∃ b,eu b (.sl f t l) (.slice a' n c)≠0:=Classical.not_forall.1 h0
   have hb:0<eu b (.sl f t l) (.slice a' n c):=by omega
   have hg:=hc b hb
   cases a' with
   | none=>simp [eu] at hb
   | some a'=>
    simp only [eu] at hb;split at hb
    ·rename_i hf
     have key:∀ b':Nat,(some a':Option Addr)=some ⟨b',0,none⟩→Room w b' (c*t.nc)→l.length≤c→fJ w G t l b' 0→bO w Gl pt (.sl 0 t l) (.slice (some a') n c):=by
      intro b' hb' g2 g3 g4;simp only [bq] at hb';subst hb';have e:b' = b:=hf.2;subst e
      refine ⟨_,n,c,rfl,h2,h3,g3,.inr ⟨b',0,rfl,?_,g4.mono hE fun _ _ _=>rfl⟩⟩
      rw [hg,Nat.zero_add];obtain ⟨cur,e,fr,q1,q2,_⟩:=g2;simp only [fE,q1];exact jQ (sW _ g3) q2
     match f,hf.1,h4 with
     | 1,_,h4=>
      rcases h4 with h4 | ⟨b',e,g1,g2,g3,g4,_⟩
      ·cases h4.1
      ·exact key b' e g2 g3 g4
     | 2,_,h4=>
      rcases h4 with h4 | ⟨b',e,g1,g2,g3,g4,_⟩
      ·cases h4.1
      ·exact key b' e g2 g3 g4
     | n+3,_,h4=>exact h4.elim
    ·omega
 | _=>exact plain fun b=>by cases v<;>rfl
theorem NI {ds:List D} {f:Nat→Value} {Gl:Nat→Nat} (hE:Ext w G w Gl) (h:aR w G pt ds f) (hc:∀ b,0<aP b ds f→Gl b=fE w b):aR w Gl pt (ds.map dw) f:=by
 intro j hj
 have hj':j<ds.length:=by simpa using hj
 rw [List.getElem_map]
 exact ⟨eY hE (h j hj').1 fun b hb=>hc b (nG hb (jy j hj')),(h j hj').2⟩
theorem UZ {d:D} {v:Value} {Gl:Nat→Nat} (hE:Ext w G w Gl) (ht:fu d=false) (h:bg w G pt d v) (hc:∀ b,0<dN b d v→Gl b=fE w b):bg w Gl pt (view d) v:=by
 cases d with
 | agg cs=>
  obtain ⟨arr,rfl,h2,h3⟩:=h
  exact ⟨arr,rfl,by simpa using h2,NI hE h3 hc⟩
 | fO vs=>cases ht
 | fn f caps=>
  refine bg.mono hE (fun _ _ _ h=>h) (d:=.fn f caps) h fun b hb=>?_
  obtain ⟨arr,rfl,_⟩:=h;simp [dN,eu] at hb
 | sl f t l=>exact eY (pt:=pt) (d:=.sl f t l) hE h fun b hb=>hc b (by rw [QH];exact hb)
 | aI st l cs=>exact h.elim
 | aW st l ar t ls=>exact h.elim
 | dP st t l h'=>exact h.elim
 | uI st l=>exact h.elim
 | undef=>trivial
 | bool x=>exact eY (pt:=pt) (d:=.bool x) hE h fun b hb=>by cases v<;>simp [eu] at hb
 | int k n=>exact eY (pt:=pt) (d:=.int k n) hE h fun b hb=>by cases v<;>simp [eu] at hb
 | str x=>exact eY (pt:=pt) (d:=.str x) hE h fun b hb=>by cases v<;>simp [eu] at hb
 | jK=>exact eY (pt:=pt) (d:=.jK) hE h fun b hb=>by cases v<;>simp [eu] at hb
 | ptr i st off=>exact eY (pt:=pt) (d:=.ptr i st off) hE h fun b hb=>by cases v<;>simp [eu] at hb
 | mH i st j off es=>exact eY (pt:=pt) (d:=.mH i st j off es) hE h fun b hb=>by cases v<;>simp [eu] at hb
 | sj g off=>exact eY (pt:=pt) (d:=.sj g off) hE h fun b hb=>by cases v<;>simp [eu] at hb
 | iF t l i off=>exact eY (pt:=pt) (d:=.iF t l i off) hE h fun b hb=>by cases v<;>simp [eu] at hb
 | csl t l=>exact eY (pt:=pt) (d:=.csl t l) hE h fun b hb=>by cases v<;>simp [eu] at hb
 | gZ i st=>exact eY (pt:=pt) (d:=.gZ i st) hE h fun b hb=>by cases v<;>simp [eu] at hb
 | BS f=>exact eY (pt:=pt) (d:=.BS f) hE h fun b hb=>by cases v<;>simp [eu] at hb
 | gM f t x=>exact eY (pt:=pt) (d:=.gM f t x) hE h fun b hb=>by cases v<;>simp [eu] at hb
 | IQ i st nc o n=>exact eY (pt:=pt) (d:=.IQ i st nc o n) hE h fun b hb=>by cases v<;>simp [eu] at hb
 | BZ i st n=>exact eY (pt:=pt) (d:=.BZ i st n) hE h fun b hb=>by cases v<;>simp [eu] at hb
 | av k l=>exact eY (pt:=pt) (d:=.av k l) hE h fun b hb=>by cases v<;>simp [eu] at hb
 | O6 k l=>exact eY (pt:=pt) (d:=.O6 k l) hE h fun b hb=>by cases v<;>simp [eu] at hb
theorem Ba {p:Sh} (h:mI p=true) (ho:ownSh p=false):vk p=true:=by
 have leaf:∀ {l:Lf},iW l=true→KR l=false→kV l=true:=by
  intro l h1 h2
  cases l with
  | sl f t=>
   simp only [KR,Bool.not_eq_false'] at h2;exact h2
  | _=>exact h1
 cases p with
 | lf l=>exact leaf h ho
 | agg ls=>
  simp only [mI,vk,ownSh,List.all_eq_true,List.any_eq_false] at *;intro l hl
  exact leaf (h l hl) (by simpa using ho l hl)
 | aI st live ls=>cases h
 | aW st live ar t=>cases h
 | dP st t=>cases h
end
theorem dK.flat {w:World} {G G':Nat→Nat}:∀ {t:Ty} {x:t.den} {b o:Nat},CF t=true→dK w G t x b o→dK w G' t x b o
 | .int k,n,b,o,_,h=>h
 | .bool,_,_,_,_,h=>h
 | .str,_,_,_,_,h=>h
 | .sl _,_,_,_,hf,_=>by cases hf
 | .unit,_,_,_,_,_=>trivial
 | .cons a c,x,b,o,hf,h=>by
  simp only [CF,bP] at hf;simp only [dK] at h ⊢;exact ⟨h.1.flat hf.1,h.2.flat hf.2⟩
 | .st _ c,x,b,o,hf,h=>by
  simp only [dK] at h ⊢;exact dK.flat (t:=c) hf h
section
variable {P:Program} {E E':Env} {C C':Ctx} {s s':St} {a a':Act} {w w':World} {G G':Nat→Nat} {pt bX:Nat→Nat→Option Value}
theorem Lf.Bb {l:Lf} {x:l.ty.den} {v:Value} (hok:iW l=true) (hG:(∀ b,G' b=G b)∨kR l=true) (hc:∀ b,0<eu b (l.con x) v→G' b=G b) (h:bO w G pt (l.con x) v):bO w G' bX (l.con x) v:=by
 have h1:bO w G bX (l.con x) v:=h.ptr fun i hi=>by rw [rQ hok] at hi;simp at hi
 rcases hG with hG | hG
 ·rw [show G' = G from funext hG];exact h1
 ·cases l with
  | sl f t=>
   obtain ⟨a',n,c,q1,q2,q3,q4⟩:=h1;subst q1;refine ⟨a',n,c,rfl,q2,q3,?_⟩;simp only [kR,bP,Bool.not_eq_true'] at hG
   have hf:f≠0:=fun h0=>by subst h0;cases hG.1
   match f,hf,hc,q4 with
   | 1,_,hc,q4=>
    rcases q4 with q4 | ⟨b,rfl,g1,g2,g3,g4,g5⟩
    ·exact .inl q4
    ·have:G' b=G b:=hc b (by simp [Lf.con,eu])
     exact .inr ⟨b,rfl,by rw [this];exact g1,g2,g3,fun i hi=>(g4 i hi).flat hG.2,g5⟩
   | 2,_,hc,q4=>
    rcases q4 with q4 | ⟨b,rfl,g1,g2,g3,g4,g5⟩
    ·exact .inl q4
    ·have:G' b=G b:=hc b (by simp [Lf.con,eu])
     exact .inr ⟨b,rfl,by rw [this];exact g1,g2,g3,fun i hi=>(g4 i hi).flat hG.2,g5⟩
   | n+3,_,_,q4=>exact q4.elim
  | cst d=>cases d<;>first | exact h1 | (simp [kR] at hG;done)
  | gM f t=>cases hG
  | vp t=>cases hG
  | va t=>cases hG
  | _=>exact h1
theorem vH:∀ {ls:List Lf} {x:(fQ ls).den} {f:Nat→Value},ls.all iW=true→((∀ b,G' b=G b)∨ls.all kR=true)→(∀ b,0<aP b (aN ls x) f→G' b=G b) →
 aR w G pt (aN ls x) f→aR w G' bX (aN ls x) f
 | [],_,_,_,_,_,_=>fun j hj=>by simp [aN] at hj
 | l::r,x,f,hok,hG,hc,h=>by
  simp only [List.all_cons,bP] at hok
  have h0:=h 0 (by simp [aN])
  have hr:=vH (ls:=r) (x:=x.2) (f:=fun i=>f (i+1)) hok.2 (hG.imp id fun h=>by simp only [List.all_cons,bP] at h;exact h.2)
   (fun b hb=>hc b (by simp only [aN,aP];omega)) (fun j hj=>h (j+1) (by simpa [aN] using hj))
  intro j hj
  cases j with
  | zero=>exact ⟨Lf.Bb hok.1 (hG.imp id fun h=>by simp only [List.all_cons,bP] at h;exact h.1) (fun b hb=>hc b (by simp only [aN,aP];omega)) h0.1,h0.2⟩
  | succ j=>exact hr j (by simpa [aN] using hj)
theorem Sh.Bb {p:Sh} {x:p.ty.den} {v:Value} (hok:mI p=true) (hG:(∀ b,G' b=G b)∨noView p=true) (hc:∀ b,0<dN b (p.con x) v→G' b=G b) (h:bg w G pt (p.con x) v):bg w G' bX (p.con x) v:=by
 cases p with
 | lf l=>
  have h0:iW l=true:=hok;have key:=Lf.Bb (w:=w) (pt:=pt) (bX:=bX) (x:=x) (v:=v) h0 hG
  cases l with
  | cst d=>cases d<;>first | exact key hc h | (cases h0;done)
  | _=>exact key hc h
 | agg ls=>
  obtain ⟨arr,rfl,h2,h3⟩:=h;exact ⟨arr,rfl,h2,vH hok hG hc h3⟩
 | aI st live ls=>cases hok
 | aW st live ar t=>cases hok
 | dP st t=>cases hok
def Er (hp:Bool) (pt:Nat→Nat→Option Value) (id st:Nat):Nat→Nat→Option Value:=
 fun i j=>if i=0∧j=1∧hp=true then pt id st else none
def Uq (hp:Bool) (s:St) (w:World) (pt:Nat→Nat→Option Value) (G:Nat→Nat) (id st:Nat) (gv:Nat→Nat):Ctx:=
 { m:=2,w0:=w,G0:=G,X:=fun b=>(hp=true∧0<cB s w pt b id)∨0<gv b,pin:=if hp=true then pt id st else none }
def aY.k0 (c:aY):Nat:=bif c.bZ then 1 else 0
theorem aY.xk (c:aY):c.num=c.k0+c.ps.length:=rfl
theorem NJ (c:aY) (x:(Ty.cons (fQ c.pre) (jT c.ps)).den) :
 (∀ i,get (bY c x) (2*i+1)=if c.bZ=true∧i=0 then .aI 1 true (aN c.pre x.1) else .undef) ∧
 (∀ t,get (bY c x) (2*t)=if c.bZ=true∧t=0 then .ptr 0 1 0 else if c.k0≤t∧t<c.num then (dn c.ps x.2).getD (t - c.k0) .undef else .undef):=by
 have e:∀ k,get (bY c x) k=if c.bZ=true∧k=1 then .aI 1 true (aN c.pre x.1) else if c.bZ=true∧k=0 then .ptr 0 1 0 else get (jE c.k0 (dn c.ps x.2)++[]) k:=by
  intro k;unfold bY aY.k0
  cases c.bZ with
  | true=>
   simp only [aQ,aH,true_and,kI,List.append_nil]
  | false=>
   simp only [bU,sI,false_and,if_false,kI,List.append_nil]
 have hl:=gY c.ps x.2;constructor
 ·intro i
  rw [e,gP]
  by_cases h:c.bZ=true∧i=0
  ·rw [if_pos h,if_pos ⟨h.1,by omega⟩]
  ·rw [if_neg h,if_neg (fun hh=>h ⟨hh.1,by omega⟩),if_neg (fun hh=>by omega),if_neg (by omega)]
   rfl
 ·intro t
  rw [e,gP,if_neg (fun hh=>by omega)]
  by_cases h:c.bZ=true∧t=0
  ·rw [if_pos h,if_pos ⟨h.1,by omega⟩]
  ·rw [if_neg h,if_neg (fun hh=>h ⟨hh.1,by omega⟩)]
   have e2:2*t / 2=t:=by omega
   have e1:2*t%2=0:=by omega
   rw [hl,e2,aY.xk]
   by_cases h2:c.k0≤t∧t<c.k0+c.ps.length
   ·rw [if_pos h2,if_pos ⟨e1,h2⟩]
   ·rw [if_neg h2,if_neg (fun hh=>h2 hh.2)];rfl
theorem qF:∀ (l:List Sh) (x:(jT l).den) (i:Nat),i<l.length→∃ (p:Sh) (y:p.ty.den),p∈l∧(dn l x).getD i .undef=p.con y
 | [],_,_,h=>by simp at h
 | p::r,x,0,_=>⟨p,x.1,by simp,rfl⟩
 | p::r,x,i+1,h=>by
  obtain ⟨q,y,h1,h2⟩:=qF r x.2 i (by simpa using h)
  exact ⟨q,y,oH _ h1,h2⟩
theorem QJ (R:Rel E C s a w G pt) {c:aY} (hok:c.ok=true) {x:(Ty.cons (fQ c.pre) (jT c.ps)).den} {id st:Nat}
 (hb:c.bZ=true→get s (2*id+1) = .aI st true (aN c.pre x.1)) {vals:List Value} (hl:vals.length=c.num)
 (hv0:c.bZ=true→∃ blk,bH (pt id st)=some blk∧vals.getD 0 undef = .pointer (some ⟨blk,0,none⟩))
 {Gi:Nat→Nat} (hE:Ext w G w Gi) (hx:∀ b,c.bZ=true→0<cB s w pt b id→Gi b=G b) (hz:∀ b,w.heap.size≤b→Gi b=0)
 (hvd:∀ i,i<c.ps.length→bg w Gi (Er c.bZ pt id st) ((dn c.ps x.2).getD i .undef) (vals.getD (c.k0+i) undef))
 {gv:Nat→Nat} (hg0:∀ b,dh c.ps.length (fun i=>dN b ((dn c.ps x.2).getD i .undef) (vals.getD (c.k0+i) undef))=gv b)
 (hg1:∀ b,TC E.n C.m s a w pt b+gv b≤1) (hg2:∀ b,0<gv b→b<w.heap.size) :
 Rel (uG E c.num c.bZ) (Uq c.bZ s w pt Gi id st gv) (bY c x) { tmps:=vals.toArray,defers:=[] } w Gi (Er c.bZ pt id st):=by
 obtain ⟨w9,GU⟩:=NJ c x;simp only [aY.ok,bP] at hok;obtain ⟨⟨⟨⟨o1,o2⟩,o3⟩,o4⟩,o5⟩:=hok
 have Pg:∀ t,(vals.toArray.getD t undef)=vals.getD t undef:=fun t=>by simp [List.getD]
 have hp1:c.bZ=true→Er c.bZ pt id st 0 1=pt id st:=fun h=>by simp [Er,h]
 have tz0:∀ b,c.bZ=true→cT (bY c x) { tmps:=vals.toArray,defers:=[] } b 0=0:=by
  intro b h;simp only [cT];rw [GU,if_pos ⟨h,rfl⟩];generalize (vals.toArray.getD 0 undef)=v
  cases v<;>rfl
 have tzi:∀ i b,i<c.ps.length→cT (bY c x) { tmps:=vals.toArray,defers:=[] } b (c.k0+i)=dN b ((dn c.ps x.2).getD i .undef) (vals.getD (c.k0+i) undef):=by
  intro i b hi;simp only [cT]
  rw [GU,Pg,if_neg ?_,if_pos ⟨Nat.le_add_right _ _,by have:=c.xk;omega⟩,show c.k0+i - c.k0=i by omega]
  rintro ⟨h,h'⟩
  have:c.k0=1:=by unfold aY.k0;rw [h];rfl
  omega
 have ts:∀ b,dh c.num (cT (bY c x) { tmps:=vals.toArray,defers:=[] } b)=gv b:=by
  intro b;rw [←hg0 b]
  cases hP:c.bZ with
  | true=>
   have hk:c.k0=1:=by unfold aY.k0;rw [hP];rfl
   rw [show c.num=c.ps.length+1 by rw [c.xk,hk];omega,o9,tz0 b hP,Nat.zero_add]
   refine aM fun i hi=>?_
   have:=tzi i b hi;rw [hk] at this ⊢
   rw [show i+1=1+i by omega]
   exact this
  | false=>
   have hk:c.k0=0:=by unfold aY.k0;rw [hP];rfl
   rw [show c.num=c.ps.length by rw [c.xk,hk];omega]
   refine aM fun i hi=>?_
   have:=tzi i b hi;rw [hk] at this ⊢
   rw [show 0+i=i by omega] at this ⊢
   exact this
 have bz:∀ b,TC (uG E c.num c.bZ).n (Uq c.bZ s w pt Gi id st gv).m (bY c x) { tmps:=vals.toArray,defers:=[] } w (Er c.bZ pt id st) b=gv b+if c.bZ=true then cB s w pt b id else 0:=by
  intro b;have e1:=ts b
  have e2:cB (bY c x) w (Er c.bZ pt id st) b 1=0:=by
   unfold cB
   rw [w9,if_neg (by omega)];rfl
  have e3:cB (bY c x) w (Er c.bZ pt id st) b 0=if c.bZ=true then cB s w pt b id else 0:=by
   unfold cB;rw [w9]
   by_cases h:c.bZ=true
   ·rw [if_pos ⟨h,rfl⟩,if_pos h,hb h]
    simp only [gQ,hp1 h]
   ·rw [if_neg (fun hh=>h hh.1),if_neg h];rfl
  show dh c.num _+(0+_+_)=_;rw [e1,e2,e3];omega
 refine ⟨by simp [uG,hl],rfl,fun t=>?_,fun i=>?_,fun t ht=>?_,fun i hi=>?_,fun b=>?_,fun b hb'=>?_,fun b _ _=>⟨rfl,rfl⟩,Ext.refl _ _,hz,rfl,rfl,rfl,dQ _,fun i j hj=>?_,?_,fun v hv=>?_⟩
 ·rw [GU,Pg]
  by_cases h:c.bZ=true∧t=0
  ·rw [if_pos h]
   obtain ⟨h,rfl⟩:=h;obtain ⟨blk,h1,h2⟩:=hv0 h
   exact ⟨blk,by rw [hp1 h];exact h1,h2⟩
  ·rw [if_neg h]
   by_cases h2:c.k0≤t∧t<c.num
   ·rw [if_pos h2]
    have:=hvd (t - c.k0) (by have:=c.xk;omega)
    rw [show c.k0+(t - c.k0)=t by omega] at this
    exact this
   ·rw [if_neg h2];trivial
 ·rw [w9]
  by_cases h:c.bZ=true∧i=0
  ·rw [if_pos h]
   obtain ⟨h,rfl⟩:=h
   have hB:nI w Gi pt id (get s (2*id+1)):=(R.bx id).mono hE (fun _ _ _ h=>h) fun b hb'=>⟨rfl,hx b h hb'⟩
   rw [hb h] at hB;obtain ⟨b,q1,q2,q3,q4⟩:=hB rfl
   exact fun _=>⟨b,by rw [hp1 h];exact q1,q2,q3,q4.ptr fun i hi=>by rw [mo o1] at hi;simp at hi⟩
  ·rw [if_neg h];trivial
 ·have hk:c.k0=if c.bZ=true then 1 else 0:=by unfold aY.k0;cases c.bZ<;>rfl
  rw [GU,if_neg ?_,if_neg ?_]
  ·rintro ⟨_,h⟩
   have:c.num≤t:=ht;omega
  ·rintro ⟨h,rfl⟩
   rw [if_pos h] at hk;have:c.num≤0:=ht;have:=c.xk;omega
 ·rw [w9,if_neg]
  rintro ⟨_,rfl⟩
  exact absurd hi (by simp [Uq])
 ·rw [bz]
  have:=hg1 b;have:=R.iT b id
  split<;>omega
 ·rw [bz] at hb'
  by_cases hg:0<gv b
  ·exact ⟨hg2 b hg,.inr (.inr hg)⟩
  ·have hg:gv b=0:=by omega
   rw [hg,Nat.zero_add] at hb'
   by_cases h:c.bZ=true
   ·rw [if_pos h] at hb'
    exact ⟨(R.cb b (nG hb' (R.iT b id))).1,.inr (.inl ⟨h,hb'⟩)⟩
   ·rw [if_neg h] at hb';omega
 ·rw [w9] at hj
  unfold Er
  by_cases h:c.bZ=true∧i=0
  ·rw [if_pos h] at hj
   rw [if_neg];rintro ⟨_,rfl,_⟩;simp [aO] at hj
  ·rw [if_neg]
   rintro ⟨h1,_,h2⟩;exact h ⟨h2,h1⟩
 ·intro g k l h
  obtain ⟨h1,h2⟩:=R.gl g k l h;exact ⟨jQ h1 (hE.le g),h2⟩
 ·simp only [Uq] at hv
  by_cases h:c.bZ=true
  ·rw [if_pos h] at hv
   rw [hp1 h];exact hv
  ·rw [if_neg h] at hv;cases hv
end
section
variable {P:Program} {E E':Env} {C C':Ctx} {s s':St} {a a':Act} {w w':World} {G G2:Nat→Nat} {pt kG:Nat→Nat→Option Value}
open Classical in
noncomputable def j6 (len:Bool) (s:St) (a:Act) (pt:Nat→Nat→Option Value) (G G2:Nat→Nat) (b:Nat):Nat:=
 if len=true∧xg s a pt b then G b else G2 b
theorem Ci (c:aY) (y:(Ty.cons c.rs.ty (fQ c.post)).den):c.bZ=true→get (gK c y) 1 = .aI 1 true (aN c.post y.2):=by
 intro h;simp [gK,h,aH]
theorem QK (R:Rel E C s a w G pt) {c:aY} (hok:c.ok=true) {len:Bool} {id st:Nat} {cs:List D} {y:(Ty.cons c.rs.ty (fQ c.post)).den} {vs:Array Value}
 (hb:c.bZ=true→get s (2*id+1) = .aI st true cs)
 (hlen:len=true→c.rs.noView=true∧c.post.all kR=true)
 {gv:Nat→Nat} (hg1:∀ b,TC E.n C.m s a w pt b+gv b≤1) (hg2:∀ b,0<gv b→b<w.heap.size∧(C.w0.heap.size≤b∨C.X b))
 (R2:Rel (uG E c.rs.num c.bZ) (Uq c.bZ s w pt (fA len s a pt w G) id st gv) (gK c y) { tmps:=vs,defers:=[] } w' G2 kG) :
 Rel E C ((bif c.bZ then [(2*id+1,.aI st true (aN c.post y.2))] else [])++s) a w' (j6 len s a pt G G2) pt ∧
 (∀ b,TC E.n C.m ((bif c.bZ then [(2*id+1,.aI st true (aN c.post y.2))] else [])++s) a w' pt b+TC c.rs.num 2 (gK c y) { tmps:=vs,defers:=[] } w' kG b≤1+cB (gK c y) w' kG b 0 ∧
  (0<TC c.rs.num 2 (gK c y) { tmps:=vs,defers:=[] } w' kG b→b<w'.heap.size∧(C.w0.heap.size≤b∨C.X b)∧j6 len s a pt G G2 b=G2 b)):=by
 simp only [aY.ok,bP] at hok;obtain ⟨⟨⟨⟨o1,o2⟩,o3⟩,o4⟩,o5⟩:=hok
 let XX:Nat→Prop:=fun b=>(c.bZ=true∧0<cB s w pt b id)∨0<gv b
 have hX:(Uq c.bZ s w pt (fA len s a pt w G) id st gv).X=XX:=rfl;have hw0:(Uq c.bZ s w pt (fA len s a pt w G) id st gv).w0=w:=rfl;have hG0:(Uq c.bZ s w pt (fA len s a pt w G) id st gv).G0=fA len s a pt w G:=rfl
 have gvT:∀ b,0<gv b→TC E.n C.m s a w pt b=0:=fun b h=>by have:=hg1 b;omega
 have gF:(Uq c.bZ s w pt (fA len s a pt w G) id st gv).pin=if c.bZ=true then pt id st else none:=rfl
 -- what is oP is not given
 have ZA:∀ b,xg s a pt b→¬ XX b:=by
  rintro b hl (⟨h3,h4⟩ | h4)
  ·rcases hl with ⟨i,j,ar,t,l,h1,h2⟩ | ⟨t,ht⟩
   ·have:=(R.oP h1 h2).2.2.2
    have hne:i≠id:=by
     rintro rfl;rw [hb h3] at h1;cases h1
    have:=R.bb h4 hne;omega
   ·have:=R.bt h4 t
    omega
  ·have h5:=(R.GZ hl).2.2
   have h7:=gvT b h4;omega
 have ZB:∀ b,xg s a pt b→b<w.heap.size:=fun b h=>(R.GZ h).1
 have NK:∀ b,¬ (len=true∧xg s a pt b)→fA len s a pt w G b=G b∧j6 len s a pt G G2 b=G2 b:=fun b h=>⟨by unfold fA;rw [if_neg h],by unfold j6;rw [if_neg h]⟩
 have isL:∀ b,len=true∧xg s a pt b→j6 len s a pt G G2 b=G b:=fun b h=>by unfold j6;rw [if_pos h]
 have hE0:=R.rT len
 have hex:Ext w (fA len s a pt w G) w' G2:=by have:=R2.ex;rwa [hw0,hG0] at this
 have hfr:∀ b,b<w.heap.size→¬ XX b→w'.heap[b]? = w.heap[b]?∧G2 b=fA len s a pt w G b:=by
  intro b h1 h2
  have:=R2.fr b (by rw [hw0];exact h1) (by rw [hX];exact h2)
  rwa [hw0,hG0] at this
 have hE:Ext w G w' (j6 len s a pt G G2):=by
  refine ⟨fun b o ho=>hex.cell b o (nG ho (hE0.le b)),fun b=>?_⟩
  by_cases h:len=true∧xg s a pt b
  ·rw [isL b h];exact dQ _
  ·rw [(NK b h).2]
   exact jQ (hE0.le b) (hex.le b)
 have hT:∀ b,¬ XX b→b<w.heap.size→w'.heap[b]? = w.heap[b]?∧j6 len s a pt G G2 b=G b:=by
  intro b h1 h2;obtain ⟨q1,q2⟩:=hfr b h2 h1;refine ⟨q1,?_⟩
  by_cases h:len=true∧xg s a pt b
  ·exact isL b h
  ·rw [(NK b h).2,q2,(NK b h).1]
 have cb2:∀ b,0<TC c.rs.num 2 (gK c y) { tmps:=vs,defers:=[] } w' kG b→b<w'.heap.size∧(w.heap.size≤b∨XX b):=by
  intro b h;have:=R2.cb b h
  rwa [hw0,hX] at this
 have ct2:∀ b,TC c.rs.num 2 (gK c y) { tmps:=vs,defers:=[] } w' kG b≤1:=R2.ct
 have bk2:∀ b,0<TC c.rs.num 2 (gK c y) { tmps:=vs,defers:=[] } w' kG b→j6 len s a pt G G2 b=G2 b:=by
  intro b h;refine (NK b ?_).2;rintro ⟨h1,h2⟩
  rcases (cb2 b h).2 with h3 | h3
  ·have:=ZB b h2;omega
  ·exact ZA b h2 h3
 have ZC:∀ b i,i<2→cB (gK c y) w' kG b i≤TC c.rs.num 2 (gK c y) { tmps:=vs,defers:=[] } w' kG b:=fun b i hi=>
  jQ (nP (f:=cB (gK c y) w' kG b) hi) (Nat.le_add_left _ _)
 have hGv:(∀ b,j6 len s a pt G G2 b=G2 b)∨c.post.all kR=true:=by
  cases len with
  | true=>exact .inr (hlen rfl).2
  | false=>exact .inl fun b=>by unfold j6;rw [if_neg (by simp)]
 have gz:∀ b,w'.heap.size≤b→j6 len s a pt G G2 b=0:=by
  intro b hb'
  have h1:¬ (len=true∧xg s a pt b):=fun h=>by
   have h2:=ZB b h.2;have h3:=R2.hs;rw [hw0] at h3;omega
  rw [(NK b h1).2];exact R2.gz b hb'
 have hsz:w.heap.size≤w'.heap.size:=by have:=R2.hs;rwa [hw0] at this
 have hos:w'.os=w.os:=by have:=R2.os;rwa [hw0] at this
 have hout:w'.output=w.output:=by have:=R2.out;rwa [hw0] at this
 have htp:w'.tape=w.tape:=by have:=R2.tape;rwa [hw0] at this
 -- what holds nothing of what was given
 have xt:∀ b,XX b→∀ t,cT s a b t=0:=by
  rintro b (h | h) t
  ·exact R.bt h.2 t
  ·have h1:=R.mM b t
   have h2:=gvT b h;omega
 have xb:∀ b,XX b→∀ i,(c.bZ=true→i≠id)→cB s w pt b i=0:=by
  rintro b (h | h) i hi
  ·exact R.bb h.2 (hi h.1)
  ·have h1:=R.iT b i
   have h2:=gvT b h;omega
 have xf:∀ b,XX b→C.w0.heap.size≤b∨C.X b:=by
  rintro b (h | h)
  ·exact (R.cb b (nG h.2 (R.iT b id))).2
  ·exact (hg2 b h).2
 cases hP:c.bZ with
 | false=>
  simp only [bU,List.nil_append]
  have xb':∀ b,XX b→∀ i,cB s w pt b i=0:=fun b h i=>xb b h i fun h=>by rw [hP] at h;cases h
  have R3:Rel E C s a w' (j6 len s a pt G G2) pt:=by
   refine R.step (fun _=>False) (fun _=>False) XX rfl R.df (fun _ _=>⟨rfl,rfl⟩) (fun _ _=>⟨rfl,rfl⟩) hE (fun _ _ _ h=>h) (fun b h1 h=>hT b h1 h) (fun b h t _=>xt b h t) (fun b h i _=>xb' b h i) xf
    (fun t h=>h.elim) (fun i h=>h.elim) (fun c1 c2 b=>?_) gz hos hout htp hsz
   have:TC E.n C.m s a w' pt b=TC E.n C.m s a w pt b:=by
    unfold TC
    rw [aM fun i _=>c1 i (fun h=>h) b,aM fun i _=>c2 i (fun h=>h) b]
   rw [this]
   exact ⟨R.ct b,fun h=>⟨nG (R.cb b h).1 hsz,(R.cb b h).2⟩⟩
  have etc:∀ b,TC E.n C.m s a w' pt b=TC E.n C.m s a w pt b:=by
   intro b;unfold TC
   congr 1
   refine aM fun i _=>?_
   simp only [cB]
   refine zJ (G':=j6 len s a pt G G2) (fun _ _ _ h=>h) (R.bx i) (fun b' hb'=>?_) b
   have hlt:=(R.cb b' (nG hb' (R.iT b' i))).1
   refine hT b' (fun hx=>?_) hlt
   have:=xb' b' hx i;simp only [cB] at this;omega
  refine ⟨R3,fun b=>⟨?_,fun h=>?_⟩⟩
  ·rcases Nat.eq_zero_or_pos (TC c.rs.num 2 (gK c y) { tmps:=vs,defers:=[] } w' kG b) with h | h
   ·have:=R3.ct b;omega
   ·have h2:TC E.n C.m s a w' pt b=0:=by
     rw [etc]
     rcases (cb2 b h).2 with h1 | h1
     ·rcases Nat.eq_zero_or_pos (TC E.n C.m s a w pt b) with h0 | h0
      ·exact h0
      ·have:=(R.cb b h0).1;omega
     ·rcases h1 with h1 | h1
      ·rw [hP] at h1;cases h1.1
      ·exact gvT b h1
    have:=ct2 b;omega
  ·refine ⟨(cb2 b h).1,?_,bk2 b h⟩
   rcases (cb2 b h).2 with h1 | h1
   ·exact .inl (jQ R.hs h1)
   ·exact xf b h1
 | true=>
  simp only [aQ,List.singleton_append];have hb:=hb hP;have hob:get (gK c y) (2*0+1) = .aI 1 true (aN c.post y.2):=Ci c y hP
  have agp:id<C.m:=gB R (by rw [hb];simp)
  -- the block
  obtain ⟨blk,hblk,_,_,_⟩:∃ b,pt id st=some (.pointer (some ⟨b,0,none⟩))∧Room w b cs.length∧G b=0∧aR w G pt cs (aD w b):=by
   have:=R.bx id;rw [hb] at this;exact this rfl
  have hpn:kG 0 1=some (.pointer (some ⟨blk,0,none⟩)):=R2.pn _ (by rw [gF,if_pos hP];exact hblk)
  have hB2:=R2.bx 0;rw [hob] at hB2;obtain ⟨b2,q1,q2,q3,q4⟩:=hB2 rfl
  have:b2=blk:=by rw [hpn] at q1;simpa using q1.symm
  subst this
  have anw:∀ b,cB (gK c y) w' kG b 0=gQ w' pt b id (.aI st true (aN c.post y.2)):=by
   intro b;unfold cB;rw [hob];simp only [gQ,hpn,hblk]
  have agq:XX b2:=by
   refine .inl ⟨hP,?_⟩;simp only [cB,hb,gQ,dx,hblk,bH,if_true];omega
  have agr:¬ (len=true∧xg s a pt b2):=fun h=>ZA b2 h.2 agq
  have hnew:nI w' (j6 len s a pt G G2) pt id (.aI st true (aN c.post y.2)):=by
   intro _
   refine ⟨b2,hblk,q2,by rw [(NK b2 agr).2];exact q3,vH o4 hGv (fun b hb'=>bk2 b ?_) q4⟩
   refine nG ?_ (ZC b 0 (by omega))
   unfold cB;rw [hob];simp only [gQ,hpn,bH,Option.getD_some];omega
  have tcs:∀ (s3:St) (c1:∀ t,∀ b,cT s3 a b t=cT s a b t) (c2:∀ i,i≠id→∀ b,cB s3 w' pt b i=cB s w pt b i) (c3:∀ b,cB s3 w' pt b id=cB (gK c y) w' kG b 0) (b:Nat),
   TC E.n C.m s3 a w' pt b+cB s w pt b id=TC E.n C.m s a w pt b+cB (gK c y) w' kG b 0:=by
   intro s3 c1 c2 c3 b
   have e1:dh E.n (cT s3 a b)=dh E.n (cT s a b):=aM fun t _=>c1 t b
   have e2:=dH (n:=C.m) (f:=cB s w pt b) (g:=cB s3 w' pt b) agp (fun i hi=>c2 i hi b)
   rw [c3 b] at e2;unfold TC;omega
  -- the bound
  have fin:∀ (b n:Nat),n+cB s w pt b id=TC E.n C.m s a w pt b+cB (gK c y) w' kG b 0 →
   (n≤1∧(0<n→b<w'.heap.size∧(C.w0.heap.size≤b∨C.X b))) ∧
   n+TC c.rs.num 2 (gK c y) { tmps:=vs,defers:=[] } w' kG b≤1+cB (gK c y) w' kG b 0:=by
   intro b n hn;have k1:=R.ct b;have k2:=R.cb b;have k3:=R.iT b id;have k4:=ct2 b;have k5:=cb2 b
   have k6:=ZC b 0 (by omega)
   have k7:=R.hs;have k9:=hg1 b;have k10:=hg2 b
   by_cases hx:0<cB s w pt b id
   ·refine ⟨⟨by omega,fun h=>⟨(k5 (by omega)).1,(k2 (by omega)).2⟩⟩,by omega⟩
   ·by_cases hgx:0<gv b
    ·exact ⟨⟨by omega,fun h=>⟨(k5 (by omega)).1,(k10 hgx).2⟩⟩,by omega⟩
    by_cases hlt:b<w.heap.size
    ·have k8:TC c.rs.num 2 (gK c y) { tmps:=vs,defers:=[] } w' kG b=0:=by
      rcases Nat.eq_zero_or_pos (TC c.rs.num 2 (gK c y) { tmps:=vs,defers:=[] } w' kG b) with h | h
      ·exact h
      ·rcases (k5 h).2 with h' | h'
       ·omega
       ·rcases h' with h' | h'
        ·exact absurd h'.2 hx
        ·exact absurd h' hgx
     exact ⟨⟨by omega,fun h=>⟨by have:=(k2 (by omega)).1;omega,(k2 (by omega)).2⟩⟩,by omega⟩
    ·have k8:TC E.n C.m s a w pt b=0:=by
      rcases Nat.eq_zero_or_pos (TC E.n C.m s a w pt b) with h | h
      ·exact h
      ·have:=(k2 h).1;omega
     exact ⟨⟨by omega,fun h=>⟨(k5 (by omega)).1,.inl (by omega)⟩⟩,by omega⟩
  have g2:∀ i,i≠id→get ((2*id+1,D.aI st true (aN c.post y.2))::s) (2*i+1)=get s (2*i+1):=fun i hi=>by rw [bA,if_neg hi]
  have c3:∀ b,cB ((2*id+1,D.aI st true (aN c.post y.2))::s) w' pt b id=cB (gK c y) w' kG b 0:=by
   intro b;rw [anw];simp only [cB,bA,if_true]
  have R3:Rel E C ((2*id+1,.aI st true (aN c.post y.2))::s) a w' (j6 len s a pt G G2) pt:=by
   refine R.step (fun _=>False) (fun i=>i=id) XX rfl R.df (fun t _=>⟨get_bt _ _ _ _,rfl⟩) (fun i hi=>⟨g2 i hi,rfl⟩) hE (fun _ _ _ h=>h) (fun b h1 h2=>hT b h1 h2)
    (fun b h t _=>xt b h t) (fun b h i hi=>xb b h i fun _=>hi) xf (fun t h=>h.elim) (fun i hi=>?_) (fun c1 c2 b=>?_) gz hos hout htp hsz
   ·subst hi
    refine ⟨agp,by simp only [bA,if_true];exact hnew,fun j hj=>?_⟩
    simp only [bA,if_true,aO] at hj
    exact R.pf i j (by rw [hb];exact hj)
   ·exact (fin b _ (tcs _ (fun t b=>c1 t (fun h=>h) b) (fun i hi b=>c2 i hi b) c3 b)).1
  refine ⟨R3,fun b=>⟨?_,fun h=>?_⟩⟩
  ·refine (fin b _ (tcs _ (fun t b=>by simp [cT]) (fun i hi b=>?_) c3 b)).2
   simp only [cB];rw [g2 i hi]
   refine zJ (G':=j6 len s a pt G G2) (fun _ _ _ h=>h) (R.bx i) (fun b' hb'=>?_) b
   have hlt:=(R.cb b' (nG hb' (R.iT b' i))).1
   refine hT b' (fun hx=>?_) hlt
   have:=xb b' hx i fun _=>hi
   simp only [cB] at this;omega
  ·refine ⟨(cb2 b h).1,?_,bk2 b h⟩
   rcases (cb2 b h).2 with h' | h'
   ·exact .inl (jQ R.hs h')
   ·exact xf b h'
end
section
variable {P:Program} {E E':Env} {C C' C2:Ctx} {s s' s3:St} {a a':Act} {w w':World} {G G2 G3:Nat→Nat} {pt kG:Nat→Nat→Option Value}
theorem U1 {p:Sh} {x:p.ty.den} {v:Value} (hok:mI p=true) (h:bg w G pt (p.con x) v):yH w G pt (p.con x) v:=by
 cases p with
 | lf l=>
  have h0:iW l=true:=hok
  cases l with
  | cst d=>cases d<;>first | exact h | (cases h0;done)
  | _=>exact h
 | agg ls=>exact h
 | aI st live ls=>cases hok
 | aW st live ar t=>cases hok
 | dP st t=>cases hok
theorem aaN {p:Sh} {x:p.ty.den} {v:Value} {b:Nat} (hok:mI p=true):IK b (p.con x) v=dN b (p.con x) v:=by
 cases p with
 | lf l=>
  have h0:iW l=true:=hok
  cases l with
  | cst d=>cases d<;>first | (cases v<;>rfl) | (cases h0;done)
  | _=>cases v<;>rfl
 | agg ls=>cases v<;>rfl
 | aI st live ls=>cases hok
 | aW st live ar t=>cases hok
 | dP st t=>cases hok
theorem La {b:Nat}:∀ {l:List Sh} {x:(jT l).den} {f:Nat→Value},l.all mI=true→nJ b (dn l x) f=dh l.length (fun i=>dN b ((dn l x).getD i .undef) (f i))
 | [],_,_,_=>rfl
 | p::r,x,f,h=>by
  simp only [List.all_cons,bP] at h;rw [List.length_cons,o9];simp only [dn,nJ];rw [aaN h.1,La h.2];rfl
theorem tT {vs:Array Value} (h:vs.size=1):kH vs=vs.getD 0 undef:=by
 simp [kH,h]
theorem JA {vs:Array Value} (h:vs.size≠1):kH vs = .tuple vs:=by
 simp [kH,h]
theorem NM (R3:Rel E C s3 a w' G3 pt) (hm:E.n≤C.m) {o:Oper} (ho:∀ t,o.dst=some t→t<E.n) {rs:RS} {x:rs.ty.den} {u:St} (hok:rs.ok=true) (hr:Ah o s rs x=some u)
 (hdst:∀ t,o.dst=some t→(∃ ls,rs = .uV ls)→get s3 (2*t+1)=get s (2*t+1)) {so:St} {vs:Array Value} {hp:Bool}
 (hso:∀ k,k≠1→get so k=get (aaH rs x) k) (R2:Rel (uG E rs.num hp) C2 so { tmps:=vs,defers:=[] } w' G2 kG) (hm2:C2.m=2)
 (hbd:∀ b,TC E.n C.m s3 a w' pt b+TC rs.num 2 so { tmps:=vs,defers:=[] } w' kG b≤1+cB so w' kG b 0 ∧
  (0<TC rs.num 2 so { tmps:=vs,defers:=[] } w' kG b→b<w'.heap.size∧(C.w0.heap.size≤b∨C.X b)∧G3 b=G2 b))
 (hG:(∀ b,G3 b=G2 b)∨rs.noView=true):∃ G' bX,Rel E C (aA u s3) (a.put o.dst (kH vs)) w' G' bX:=by
 have hsz:vs.size=rs.num:=R2.sz
 have tcd:∀ b,TC rs.num 2 so { tmps:=vs,defers:=[] } w' kG b=dh rs.num (cT so { tmps:=vs,defers:=[] } b)+(0+cB so w' kG b 0+cB so w' kG b 1):=fun b=>rfl
 -- data at the destination
 have data:∀ (d:D),u=bN o d→bg w' G3 pt d (kH vs)→(∀ b,dN b d (kH vs)≤dh rs.num (cT so { tmps:=vs,defers:=[] } b))→∃ G' bX,Rel E C (aA u s3) (a.put o.dst (kH vs)) w' G' bX:=by
  intro d hu hd hc;subst hu
  refine ⟨G3,pt,R3.put o ho (fun _=>False) (Ext.refl _ _) (fun _ _ _=>⟨rfl,rfl⟩) (fun b h=>h.elim) hd (fun b=>?_) R3.gz rfl rfl rfl (dQ _)⟩
  have h1:=hc b;have h2:=(hbd b).1;have h3:=(hbd b).2;have h4:=R2.ct b;rw [hm2] at h4
  change TC rs.num 2 so { tmps:=vs,defers:=[] } w' kG b≤1 at h4
  have h5:=tcd b
  refine ⟨by omega,fun h=>?_⟩
  have h6:=h3 (by omega)
  exact ⟨by omega,h6.1,h6.2.1⟩
 cases rs with
 | none=>
  have hu:u=bN o .undef:=by
   simp only [Ah] at hr
   cases hd:o.dst with
   | none=>rw [hd] at hr;simp only [bq] at hr;rw [←hr,ru hd]
   | some t=>rw [hd] at hr;simp only [bq] at hr;rw [←hr,nU hd]
  exact data .undef hu trivial fun b=>by rw [dX];exact fG _
 | one p=>
  simp only [Ah,bq] at hr
  have hg:get so (2*0)=p.con x:=by
   rw [hso _ (by omega)]
   rfl
  have ht:=R2.tm 0;rw [hg] at ht;have hv:=tT hsz
  refine data (p.con x) hr.symm ?_ (fun b=>?_)
  ·rw [hv]
   refine Sh.Bb (show mI p=true from hok) hG (fun b hb=>((hbd b).2 ?_).2.2) ht
   rw [tcd];have:dh (RS.one p).num (cT so { tmps:=vs,defers:=[] } b)=0+dN b (get so (2*0)) (vs.getD 0 undef):=rfl;rw [hg] at this;omega
  ·rw [hv]
   have:dh (RS.one p).num (cT so { tmps:=vs,defers:=[] } b)=0+dN b (get so (2*0)) (vs.getD 0 undef):=rfl;rw [hg] at this;omega
 | fO l=>
  simp only [Ah,bq] at hr;simp only [RS.ok,bP,Bool.not_eq_true'] at hok
  have hl1:l.length≠1:=by
   have:=hok.2;rw [fH] at this;exact of_decide_eq_false this
  have hsz:vs.size=l.length:=hsz
  have hv:=JA (vs:=vs) (by rw [hsz];exact hl1)
  have hg:∀ t,t<l.length→get so (2*t)=(dn l x).getD t .undef:=by
   intro t ht
   rw [hso _ (by omega)]
   show get (jE 0 (dn l x)) (2*t)=_;have:=gP (rest:=[]) (ds:=dn l x) (i:=0) (2*t);rw [List.append_nil] at this
   rw [this,if_pos ⟨by omega,by omega,by rw [gY];omega⟩]
   congr 1
   omega
  have hcnt:∀ b,dN b (.fO (dn l x)) (.tuple vs)=dh l.length (cT so { tmps:=vs,defers:=[] } b):=by
   intro b;show nJ b (dn l x) (aS vs)=_;rw [La hok.1]
   refine aM fun i hi=>?_
   simp only [cT];rw [hg i hi];rfl
  refine data (.fO (dn l x)) hr.symm ?_ (fun b=>?_)
  ·rw [hv]
   refine ⟨vs,rfl,by rw [gY];exact hsz,fun j hj=>?_⟩
   rw [gY] at hj;obtain ⟨p,y,h1,h2⟩:=qF l x j hj
   have e:(dn l x)[j]'(by rw [gY];exact hj)=p.con y:=by
    rw [←h2];simp [List.getD,gY,hj]
   rw [e];have ags:=List.all_eq_true.1 hok.1 p h1;have ht:=R2.tm j;rw [hg j hj,h2] at ht
   refine U1 ags (Sh.Bb ags (hG.imp id fun h=>List.all_eq_true.1 h p h1) (fun b hb=>((hbd b).2 ?_).2.2) ht)
   have h3:cT so { tmps:=vs,defers:=[] } b j≤dh l.length (cT so { tmps:=vs,defers:=[] } b):=nP hj
   have h4:cT so { tmps:=vs,defers:=[] } b j=dN b (p.con y) (vs.getD j undef):=by
    simp only [cT];rw [hg j hj,h2]
   have h5:=tcd b;have h6:dh (RS.fO l).num (cT so { tmps:=vs,defers:=[] } b)=dh l.length (cT so { tmps:=vs,defers:=[] } b):=rfl;have hb':0<dN b (p.con y) (vs.getD j undef):=hb;omega
  ·rw [hv,hcnt]
   exact dQ _
 | uV ls=>
  simp only [Ah] at hr
  cases hd:o.dst with
  | none=>rw [hd] at hr;cases hr
  | some t=>
   rw [hd] at hr;simp only [bq] at hr;have htn:=ho t hd;have hv:=tT hsz
   have hg0:get so (2*0) = .ptr 1 1 0:=by
    rw [hso _ (by omega)];rfl
   have hg3:get so (2*1+1) = .aI 1 true (aN ls x):=by
    rw [hso _ (by omega)];rfl
   have ht0:=R2.tm 0;rw [hg0] at ht0;obtain ⟨blk,hblk,hpv⟩:=ht0;have hb1:=R2.bx 1;rw [hg3] at hb1;obtain ⟨b1,q1,q2,q3,q4⟩:=hb1 rfl
   have:b1=blk:=by rw [q1] at hblk;simpa [bH] using hblk
   subst this;have ht1:=hdst t hd ⟨ls,rfl⟩
   have anx:∀ (bX:Nat→Nat→Option Value) (k:Nat) (b:Nat),bX t k=some (.pointer (some ⟨b1,0,none⟩))→gQ w' bX b t (.aI k true (aN ls x))=cB so w' kG b 1:=by
    intro bX k b hp';unfold cB;rw [hg3];simp only [gQ,q1,hp']
   generalize hst:aO (get s3 (2*t+1))+1=k
   have hpt:bB pt t k (.pointer (some ⟨b1,0,none⟩)) t k=some (.pointer (some ⟨b1,0,none⟩)):=by simp [bB]
   have cnt:∀ b,cB so w' kG b 1≤1∧(0<cB so w' kG b 1→TC E.n C.m s3 a w' pt b=0∧b<w'.heap.size∧(C.w0.heap.size≤b∨C.X b)∧G3 b=G2 b):=by
    intro b;have h2:=(hbd b).1;have h3:=(hbd b).2;have h4:=R2.ct b;rw [hm2] at h4
    change TC (RS.uV ls).num 2 so { tmps:=vs,defers:=[] } w' kG b≤1 at h4
    have h5:=tcd b
    refine ⟨by omega,fun h=>?_⟩
    have h6:=h3 (by omega)
    exact ⟨by omega,h6⟩
   have hblk1:0<cB so w' kG b1 1:=by
    unfold cB;rw [hg3];simp only [gQ,q1,dx,bH,if_true];omega
   have key:=R3.wM t htn hm (w':=w') (G':=G3) (dB:=.aI k true (aN ls x)) (d':=.ptr t k 0) (pv:=.pointer (some ⟨b1,0,none⟩)) (v':=vs.getD 0 undef) (Ext.refl w' G3) (fun _ _=>⟨rfl,rfl⟩)
    (by rw [hst];exact ⟨b1,by rw [hpt];rfl,hpv⟩) (fun b=>by generalize vs.getD 0 undef=v;cases v<;>rfl)
    (by
     rw [hst];intro _
     exact ⟨b1,hpt,q2,by rw [((cnt b1).2 hblk1).2.2.2];exact q3,vH (w:=w') (G:=G2) (pt:=kG) (show ls.all iW=true from hok) hG (fun b hb=>((cnt b).2 (by
      refine nG hb ?_;unfold cB;rw [hg3];simp only [gQ,q1,bH,Option.getD_some]
      omega)).2.2.2) q4⟩)
    (by rw [hst];rfl)
    (fun b=>by
     rw [hst,anx _ k b hpt]
     exact ⟨(cnt b).1,fun h=>⟨((cnt b).2 h).1,((cnt b).2 h).2.1,((cnt b).2 h).2.2.1⟩⟩)
    R3.gz rfl rfl rfl (dQ _)
   refine ⟨G3,bB pt t k (.pointer (some ⟨b1,0,none⟩)),?_⟩;rw [hv];rw [←ht1,hst] at hr;subst hr;rw [hst] at key;exact key
theorem yA {f:D→D} {g:D→Bool}:∀ (ps:List (Nat×Operand)) (i:Nat),2*i+1 ∉ aL (fT s f g ps)
 | [],_,h=>by simp [fT,aL] at h
 | (j,x)::r,i,h=>by
  simp only [fT] at h
  have app:∀ (u v:St),aL (u++v)=aL u++aL v:=by
   intro u v
   induction u with
   | nil=>rfl
   | cons p r ih=>simp [aL,ih]
  rw [app,qb] at h
  rcases h with h | h
  ·cases x with
   | tmp t=>
    simp only [dA] at h
    cases hg:g (get s (2*t)) with
    | true=>
     simp only [hg,aQ,aL,List.mem_cons,List.not_mem_nil,or_false] at h;have h':2*i+1=2*(t:Nat):=h
     exact absurd h' (by omega)
    | false=>simp [hg,aL] at h
   | _=>simp [dA,aL] at h
  ·exact yA r i h
theorem U2 {p:Sh} {d:D} {x:p.ty.den} (hok:vk p=true) (h:p.arg s d=some x):fu d=false:=by
 cases d with
 | fO vs=>
  exfalso
  cases p with
  | lf l=>exact tQ (l:=l) (d:=.fO vs) rfl rfl hok h
  | agg ls=>simp [Sh.arg] at h
  | aI st live ls=>cases hok
  | aW st live ar t=>cases hok
  | dP st t=>cases hok
 | _=>rfl
theorem Bc:∀ {ps:List Sh} {xs:List Operand} {z:(jT ps).den},ps.all mI=true→jc s ps xs=some z→xs.length=ps.length∧∀ x∈eP ps xs,fu (aX s x)=false
 | [],[],_,_,_=>⟨rfl,fun x hx=>by simp [eP] at hx⟩
 | [],_::_,_,_,h=>by simp [jc] at h
 | _::_,[],_,_,h=>by simp [jc] at h
 | p::r,x::xs,z,hok,h=>by
  simp only [List.all_cons,bP] at hok;simp only [jc] at h;split at h
  ·rename_i y z' h1 h2
   obtain ⟨q1,q2⟩:=Bc hok.2 h2
   refine ⟨by simp [q1],fun x' hx=>?_⟩
   simp only [eP] at hx
   cases ho:ownSh p with
   | true=>
    rw [ho] at hx;exact q2 x' hx
   | false=>
    rw [ho] at hx;simp only [bU] at hx
    rcases List.mem_cons.1 hx with rfl | hx
    ·simp only [Sh.Gj,ho,bU] at h1
     exact U2 (Ba hok.1 ho) h1
    ·exact q2 x' hx
  ·cases h
theorem G6 {x:Nat}:∀ {l:List Nat},Qe x l=true↔x∈l
 | []=>by simp [Qe]
 | y::r=>by
  simp only [Qe,Bool.or_eq_true,List.mem_cons,G6 (l:=r)];rw [fH];simp
theorem Dg {t:Nat}:∀ {xs:List Operand},Operand.tmp t∈xs→2*t∈pK xs
 | [],h=>by simp at h
 | x::r,h=>by
  rcases List.mem_cons.1 h with h | h
  ·subst h
   simp [pK]
  ·have:=Dg h
   cases x with
   | tmp u=>exact oH _ this
   | _=>exact this
theorem mY:∀ {ps:List Sh} {xs:List Operand} {x:Operand},x∈bQ ps xs→x∈xs
 | [],_,_,h=>by simp [bQ] at h
 | _::_,[],_,h=>by simp [bQ] at h
 | p::ps,x::xs,y,h=>by
  simp only [bQ] at h
  cases hp:ownSh p with
  | false=>
   rw [hp] at h;exact oH _ (mY h)
  | true=>
   rw [hp] at h;simp only [aQ,List.mem_cons] at h
   rcases h with h | h
   ·exact List.mem_cons.2 (.inl h)
   ·exact oH _ (mY h)
theorem tV {x:Operand} {xs:List Operand} (h:uW (pK (x::xs))=true):uW (pK xs)=true∧∀ t,x = .tmp t→Operand.tmp t ∉ xs:=by
 cases x with
 | tmp u=>
  simp only [pK,uW,bP,Bool.not_eq_true'] at h
  refine ⟨h.2,fun t ht hm=>?_⟩
  cases ht;have:=G6.2 (Dg hm);rw [this] at h;cases h.1
 | _=>exact ⟨h,fun t ht=>by cases ht⟩
theorem pq:∀ {ps:List Sh} {xs:List Operand} {t:Nat},uW (pK xs)=true→Operand.tmp t∈bQ ps xs→Operand.tmp t ∉ eP ps xs
 | [],_,_,_,h=>by simp [bQ] at h
 | _::_,[],_,_,h=>by simp [bQ] at h
 | p::ps,x::xs,t,hd,h=>by
  obtain ⟨h1,h2⟩:=tV hd;simp only [bQ] at h;simp only [eP]
  cases hp:ownSh p with
  | true=>
   rw [hp] at h;simp only [aQ,List.mem_cons] at h ⊢
   rcases h with h | h
   ·intro hm
    exact h2 t h.symm (mW hm)
   ·exact pq h1 h
  | false=>
   rw [hp] at h;simp only [bU,List.mem_cons,not_or] at h ⊢
   exact ⟨fun hx=>h2 t hx.symm (mY h),pq h1 h⟩
theorem yB {f:D→D} {g:D→Bool}:∀ (xs:List Operand) (t:Nat),2*t∈aL (fT s f g (xs.map fun x=>(0,x)))→Operand.tmp t∈xs
 | [],_,h=>by simp [fT,aL] at h
 | x::r,t,h=>by
  simp only [List.map_cons,fT] at h
  have app:∀ (u v:St),aL (u++v)=aL u++aL v:=by
   intro u v
   induction u with
   | nil=>rfl
   | cons p r ih=>simp [aL,ih]
  rw [app,qb] at h
  rcases h with h | h
  ·cases x with
   | tmp u=>
    simp only [dA] at h
    cases hg:g (get s (2*u)) with
    | true=>
     simp only [hg,aQ,aL,List.mem_cons,List.not_mem_nil,or_false] at h;have h':2*t=2*u:=h
     have e:t=u:=Nat.eq_of_mul_eq_mul_left (by decide) h'
     rw [e];exact List.mem_cons_self
    | false=>simp [hg,aL] at h
   | _=>simp [dA,aL] at h
  ·exact oH _ (yB r t h)
theorem tX:∀ {l:List Operand} {t:Nat},2*t∈aL (lu l)→Operand.tmp t∈l
 | [],_,h=>by simp [lu,aL] at h
 | x::r,t,h=>by
  cases x with
  | tmp u=>
   simp only [lu,aL,List.mem_cons] at h
   rcases h with h | h
   ·have e:t=u:=Nat.eq_of_mul_eq_mul_left (by decide) h
    rw [e];exact List.mem_cons_self
   ·exact oH _ (tX h)
  | _=>
   simp only [lu] at h;exact oH _ (tX h)
theorem JB {p:Sh} (ho:ownSh p=true):p.give .undef=none:=by
 cases p with
 | lf l=>cases l<;>first | rfl | (cases ho;done)
 | _=>rfl
theorem Rel.drop1 (R:Rel E C s a w G pt) {t:Nat} (ht:t<E.n):Rel E C ((2*t,.undef)::s) a w G pt ∧
 ∀ b,TC E.n C.m ((2*t,.undef)::s) a w pt b+cT s a b t=TC E.n C.m s a w pt b:=by
 have cnt:∀ b,TC E.n C.m ((2*t,.undef)::s) a w pt b+cT s a b t=TC E.n C.m s a w pt b:=by
  intro b
  have h1:=dH (n:=E.n) (f:=cT s a b) (g:=cT ((2*t,.undef)::s) a b) ht (fun i hi=>by simp only [cT,dO,hi,if_false])
  have h2:cT ((2*t,.undef)::s) a b t=0:=by simp only [cT,dO,if_true];exact dX b _
  have h3:dh C.m (cB ((2*t,.undef)::s) w pt b)=dh C.m (cB s w pt b):=aM fun i _=>by simp only [cB,jq]
  unfold TC;omega
 refine ⟨?_,cnt⟩
 refine R.step (fun u=>u=t) (fun _=>False) (fun _=>False) rfl R.df (fun u hu=>⟨by rw [dO,if_neg hu],rfl⟩) (fun i _=>⟨jq _ _ _ _,rfl⟩) (Ext.refl _ _) (fun _ _ _ h=>h) (fun _ _ _=>⟨rfl,rfl⟩)
  (fun b h=>h.elim) (fun b h=>h.elim) (fun b h=>h.elim) (fun u hu=>by subst hu;exact ⟨ht,by rw [dO,if_pos rfl];trivial⟩) (fun i h=>h.elim) (fun c1 c2 b=>?_) R.gz rfl rfl rfl (dQ _)
 have h1:=cnt b;have h2:=R.ct b;have h3:=R.cb b
 exact ⟨by omega,fun h=>h3 (by omega)⟩
theorem Lb (s:St) (a:Act) (b:Nat) {x:Operand} (hx:∀ t,x≠.tmp t):dN b (aX s x) (a.eval x)=0:=by
 cases x with
 | tmp t=>exact absurd rfl (hx t)
 | global g=>rfl
 | func f=>rfl
 | const v=>
  show dN b (MN v) v=0;unfold MN;split
  ·rfl
  ·rename_i k n
   cases OY k n<;>rfl
  ·rename_i s
   cases (d9 s).length.ble jo<;>rfl
  all_goals (first | rfl | exact dX b _)
theorem QL {ps:List Sh} {xs:List Operand} {z:(jT ps).den}:ps.all mI=true→jc s ps xs=some z→(bQ ps xs=[]∨uW (pK xs)=true) →
 ∀ {s':St},Rel E C s' a w G pt→(∀ x∈bQ ps xs,aX s' x=aX s x) →
 Rel E C (aA (lu (bQ ps xs)) s') a w G pt∧(∀ i,get (aA (lu (bQ ps xs)) s') (2*i+1)=get s' (2*i+1)) ∧
 (∀ b,TC E.n C.m (aA (lu (bQ ps xs)) s') a w pt b+dh ps.length (fun i=>dN b ((dn ps z).getD i .undef) ((xs.map a.eval).getD i undef))=TC E.n C.m s' a w pt b) ∧
 ∀ x∈bQ ps xs,∀ b,dN b (aX s x) (a.eval x)≤dh ps.length (fun i=>dN b ((dn ps z).getD i .undef) ((xs.map a.eval).getD i undef)):=by
 induction ps generalizing xs with
 | nil=>
  intro _ hz _ s' R _
  have:bQ [] xs=[]:=by simp [bQ]
  rw [this]
  exact ⟨R,fun i=>rfl,fun b=>rfl,fun x hx=>by simp at hx⟩
 | cons p r ih=>
  intro hok hz hd s' R he
  cases xs with
  | nil=>simp [jc] at hz
  | cons x xs=>
   simp only [List.all_cons,bP] at hok;simp only [jc] at hz;split at hz
   ·rename_i y z' h1 h2
    simp only [bq] at hz;subst hz
    have sums:∀ b,dh (r.length+1) (fun i=>dN b ((dn (p::r) (y,z')).getD i .undef) (((x::xs).map a.eval).getD i undef)) =
     dN b (p.con y) (a.eval x)+dh r.length (fun i=>dN b ((dn r z').getD i .undef) ((xs.map a.eval).getD i undef)):=fun b=>by rw [o9];rfl
    cases ho:ownSh p with
    | false=>
     have hg:bQ (p::r) (x::xs)=bQ r xs:=by simp only [bQ,ho,bU]
     rw [hg] at hd he ⊢
     obtain ⟨R2,q1,q2,q3⟩:=ih hok.2 h2 (hd.imp id fun h=>(tV h).1) R he
     refine ⟨R2,q1,fun b=>?_,fun x' hx' b=>?_⟩
     ·have:=q2 b
      show _+dh (r.length+1) _=_;rw [sums,GY (Ba hok.1 ho)];omega
     ·have:=q3 x' hx' b
      show _≤dh (r.length+1) _;rw [sums];omega
    | true=>
     have hg:bQ (p::r) (x::xs)=x::bQ r xs:=by simp only [bQ,ho,aQ]
     rw [hg] at hd he ⊢
     have hd:uW (pK (x::xs))=true:=by
      rcases hd with h | h
      ·cases h
      ·exact h
     obtain ⟨d1,d2⟩:=tV hd;simp only [Sh.Gj,ho,aQ] at h1;have hx:=he x List.mem_cons_self
     have hrep:=qE (bX:=pt) hok.1 h1 (by rw [←hx];exact aV R x)
     cases x with
     | tmp t=>
      have ht:t<E.n:=by
       rcases Nat.lt_or_ge t E.n with h | h
       ·exact h
       ·have h3:=R.ht t h
        have h4:aX s (.tmp t) = .undef:=by rw [←hx];exact h3
        rw [h4,JB ho] at h1;cases h1
      obtain ⟨R1,c1⟩:=R.drop1 ht
      obtain ⟨R2,q1,q2,q3⟩:=ih hok.2 h2 (.inr d1) R1 (fun x' hx'=>by
       rw [←he x' (oH _ hx')]
       cases x' with
       | tmp u=>
        have:u≠t:=by
         rintro rfl;exact d2 u rfl (mY hx')
        simp only [aX,dO,this,if_false]
       | _=>rfl)
      refine ⟨R2,fun i=>by have:=q1 i;rw [jq] at this;exact this,fun b=>?_,fun x' hx' b=>?_⟩
      ·have k1:=q2 b
       have k2:=c1 b
       have k3:cT s' a b t=dN b (p.con y) (a.eval (.tmp t)):=by
        rw [hrep.2 b,←hx];rfl
       show TC E.n C.m (aA (lu (bQ r xs)) ((2*t,.undef)::s')) a w pt b+dh (r.length+1) _=_;rw [sums];omega
      ·show _≤dh (r.length+1) _
       rw [sums]
       rcases List.mem_cons.1 hx' with rfl | hx'
       ·rw [←hrep.2 b];omega
       ·have:=q3 x' hx' b;omega
     | _=>
      have hz0:∀ b,dN b (p.con y) (a.eval _)=0:=fun b=>(hrep.2 b).trans (Lb s a b (by intro t h;cases h))
      obtain ⟨R2,q1,q2,q3⟩:=ih hok.2 h2 (.inr d1) R (fun x' hx'=>he x' (oH _ hx'))
      refine ⟨R2,q1,fun b=>?_,fun x' hx' b=>?_⟩
      ·have:=q2 b
       show _+dh (r.length+1) _=_;rw [sums,hz0];simp only [lu];omega
      ·show _≤dh (r.length+1) _
       rw [sums]
       rcases List.mem_cons.1 hx' with rfl | hx'
       ·rw [←hrep.2 b];omega
       ·have:=q3 x' hx' b;omega
   ·cases hz
theorem Lc {x:Operand}:∀ {xs:List Operand},x∈xs→ni (aX s x)=true→oP s xs=true
 | y::r,hx,h=>by
  simp only [oP,Bool.or_eq_true]
  rcases List.mem_cons.1 hx with rfl | hx
  ·exact .inl h
  ·exact .inr (Lc hx h)
theorem tY {s1:St} (R:Rel E C s1 a w G pt) (hs:∀ i,get s1 (2*i+1)=get s (2*i+1)) {len:Bool}:∀ {ps:List Sh} {xs:List Operand} {z:(jT ps).den},ps.all mI=true→jc s ps xs=some z →
 (∀ x∈eP ps xs,bg w (fA len s1 a pt w G) pt (view (aX s x)) (a.eval x))→(∀ x∈bQ ps xs,bg w G pt (aX s x) (a.eval x)∧∀ b,0<dN b (aX s x) (a.eval x)→fA len s1 a pt w G b=G b) →
 (∀ x∈xs,ni (aX s x)=true→len=true) →
 ∀ i,i<ps.length→bg w (fA len s1 a pt w G) kG ((dn ps z).getD i .undef) ((xs.map a.eval).getD i undef)
 | [],_,_,_,_,_,_,_,i,hi=>by simp at hi
 | _::_,[],_,_,h,_,_,_,_,_=>by simp [jc] at h
 | p::r,x::xs,z,hok,h,hv,hg,hl,i,hi=>by
  simp only [List.all_cons,bP] at hok;simp only [jc] at h;split at h
  ·rename_i y z' h1 h2
   simp only [bq] at h;subst h
   cases ho:ownSh p with
   | false=>
    simp only [eP,bQ,ho,bU] at hv hg;simp only [Sh.Gj,ho,bU] at h1
    have h1':p.arg s1 (aX s x)=some y:=by
     rw [arg_eq fun id _=>hs id];exact h1
    cases i with
    | zero=>exact Ep R (Ba hok.1 ho) h1' (hv x (by simp)) (hl x (by simp))
    | succ i=>exact tY R hs hok.2 h2 (fun x hx=>hv x (oH _ hx)) hg (fun x hx=>hl x (oH _ hx)) i (by simpa using hi)
   | true=>
    simp only [eP,bQ,ho,aQ] at hv hg;simp only [Sh.Gj,ho,aQ] at h1
    cases i with
    | zero=>
     obtain ⟨g1,g2⟩:=hg x (by simp)
     obtain ⟨q1,q2⟩:=qE (bX:=kG) hok.1 h1 g1
     refine bg.mono (pt:=kG) (R.rT len) (fun _ _ _ h=>h) q1 fun b hb=>⟨rfl,g2 b ?_⟩
     rw [←q2 b];exact hb
    | succ i=>exact tY R hs hok.2 h2 hv (fun x hx=>hg x (oH _ hx)) (fun x hx=>hl x (oH _ hx)) i (by simpa using hi)
  ·cases h
theorem Dh {f:Nat} {con:aY} (H:gy P E f con) (Nk:con.xf=none) (hm:E.n≤C.m) (R:Rel E C s a w G pt) {o:Oper} {c:Call} (hop:o.op = .call c) (hc:∃ x,c.callee = .value x∧aX s x = .BS f) (hd:eO E o=true)
 {xs pre:List Operand} (hxs:c.args.toList=pre++xs) (hpre:pre.length=con.k0) {id st:Nat} {cs:List D} (hb:con.bZ=true→get s (2*id+1) = .aI st true cs)
 (hp0:con.bZ=true→∃ x,pre=[x]∧aX s x = .ptr id st 0) {y:(fQ con.pre).den} {z:(jT con.ps).den} (hy:con.bZ=true→aN con.pre y=cs) (hz:jc s con.ps xs=some z)
 (agt:oP s xs=true→con.nv=true) (hself:con.bZ=true→notSelf o id con.rs=true) (hgo:wQ con.ps xs=true)
 {r:(Ty.cons con.rs.ty (fQ con.post)).den} (hF:con.F (y,z)=some r) {u:St} (hr:Ah o s con.rs r.1=some u) :
 Gv P E C o a w (aA u ((bif con.bZ then [(2*id+1,.aI st true (aN con.post r.2))] else [])++aA (yg con.nv s con.ps xs) s)):=by
 have hok:=H.ok;have hok2:=hok;simp only [aY.ok,bP] at hok2;obtain ⟨⟨⟨⟨o1,o2⟩,o3⟩,o4⟩,o5⟩:=hok2
 have ho:∀ t,o.dst=some t→t<E.n:=by
  intro t ht
  simpa [eO,ht,Nat.blt_eq] using hd
 obtain ⟨hlen,agu⟩:=Bc o2 hz
 have hgd:bQ con.ps xs=[]∨uW (pK xs)=true:=by
  unfold wQ at hgo;split at hgo
  ·rename_i h;exact .inl h
  ·exact .inr hgo
 -- shared,or oP
 obtain ⟨G1,s0,anz,R0,anA,hgs,hvF,hvT⟩:∃ (G1:Nat→Nat) (s0:St),aA (bif con.nv then [] else l7 s (eP con.ps xs)) s=s0∧Rel E C s0 a w G1 pt∧(∀ i,get s0 (2*i+1)=get s (2*i+1)) ∧
  (∀ x∈bQ con.ps xs,aX s0 x=aX s x)∧(con.nv=false→∀ x∈eP con.ps xs,bg w G1 pt (view (aX s x)) (a.eval x))∧(con.nv=true→s0=s):=by
  cases hn:con.nv with
  | true=>exact ⟨G,s,rfl,R,fun _=>rfl,fun _ _=>rfl,fun h=>(by cases h),fun _=>rfl⟩
  | false=>
   obtain ⟨G1,e1,R0,hv1,hs1⟩:=Rel.Ae (s:=s) ((eP con.ps xs).map fun x=>(0,x)) R (fun t=>.inl rfl) (fun p hp=>by
    obtain ⟨x,hx,rfl⟩:=List.mem_map.1 hp
    exact agu x hx)
   change Rel E C (aA (l7 s (eP con.ps xs)) s) a w G1 pt at R0
   refine ⟨G1,aA (l7 s (eP con.ps xs)) s,rfl,R0,fun i=>bn _ _ _ (yA _ i),?_,fun _ x hx=>hv1 (0,x) (List.mem_map.2 ⟨x,hx,rfl⟩),fun h=>(by cases h)⟩
   intro x hx
   cases x with
   | tmp t=>
    rcases hgd with h | h
    ·rw [h] at hx;simp at hx
    ·exact bn _ _ _ fun hm=>pq h hx (yB _ t hm)
   | _=>rfl
 -- given away
 obtain ⟨R1,agv,hcnt,hsum⟩:=QL o2 hz hgd R0 hgs
 have hbs:∀ i,get (aA (lu (bQ con.ps xs)) s0) (2*i+1)=get s (2*i+1):=fun i=>(agv i).trans (anA i)
 have agw:aA (yg con.nv s con.ps xs) s=aA (lu (bQ con.ps xs)) s0:=by
  unfold yg;rw [aU,anz]
 rw [agw]
 have hkept:∀ t,Operand.tmp t∈eP con.ps xs→get (aA (lu (bQ con.ps xs)) s0) (2*t)=get s0 (2*t):=by
  intro t ht
  rcases hgd with h | h
  ·rw [h];rfl
  ·exact bn _ _ _ fun hm=>pq h (tX hm) ht
 generalize avr:aA (lu (bQ con.ps xs)) s0=s1 at R1 agv hcnt hbs hkept
 have hb1:con.bZ=true→get s1 (2*id+1) = .aI st true (aN con.pre y):=fun h=>by rw [hbs,hb h,hy h]
 have hvx:∀ x∈eP con.ps xs,bg w (fA con.nv s1 a pt w G1) pt (view (aX s x)) (a.eval x):=by
  intro x hx
  cases hn:con.nv with
  | false=>
   have e:fA false s1 a pt w G1=G1:=by
    funext b
    unfold fA
    rw [if_neg (by simp)]
   rw [e];exact hvF hn x hx
  | true=>
   have hs:=hvT hn;subst hs
   refine UZ (by have:=R1.rT con.nv;rw [hn] at this;exact this) (agu x hx) (aV R0 x) fun b hb=>?_
   cases x with
   | tmp t=>
    have h1:0<cT s1 a b t:=by
     simp only [cT];rw [hkept t hx];exact hb
    unfold fA;rw [if_pos ⟨rfl,.inr ⟨t,h1⟩⟩]
   | _=>
    rw [Lb s0 a b (by intro t h;cases h)] at hb
    omega
 have hgx:∀ x∈bQ con.ps xs,bg w G1 pt (aX s x) (a.eval x)∧∀ b,0<dN b (aX s x) (a.eval x)→fA con.nv s1 a pt w G1 b=G1 b:=by
  intro x hx
  refine ⟨by rw [←hgs x hx];exact aV R0 x,fun b hb=>?_⟩
  unfold fA;rw [if_neg];rintro ⟨_,hl⟩;have h3:=(R1.GZ hl).2.2;have h4:=hcnt b;have h5:=hsum x hx b;have h6:=R0.ct b;omega
 -- the callee's start
 have ZE:(c.args.toList.map a.eval).length=con.num:=by rw [hxs,List.length_map,kZ,hpre,hlen];rfl
 have ZF:∀ i,(c.args.toList.map a.eval).getD (con.k0+i) undef=(xs.map a.eval).getD i undef:=by
  intro i;rw [hxs,List.map_append];simp only [List.getD]
  rw [List.getElem?_append_right (by rw [List.length_map,hpre];omega),List.length_map,hpre]
  congr 2
  omega
 have agx:∀ b,TC E.n C.m s1 a w pt b+dh con.ps.length (fun i=>dN b ((dn con.ps z).getD i .undef) ((xs.map a.eval).getD i undef))≤1:=fun b=>by
  have h1:=hcnt b;have h2:=R0.ct b;omega
 have agy:∀ b,0<dh con.ps.length (fun i=>dN b ((dn con.ps z).getD i .undef) ((xs.map a.eval).getD i undef))→b<w.heap.size∧(C.w0.heap.size≤b∨C.X b):=fun b h=>by
  have h1:=hcnt b
  exact R0.cb b (by omega)
 have Rin:=QJ R1 hok (x:=(y,z)) hb1 (vals:=c.args.toList.map a.eval) ZE (fun h=>by
  obtain ⟨x,rfl,hx⟩:=hp0 h;have:=aV R x;rw [hx] at this;obtain ⟨blk,q1,q2⟩:=this
  exact ⟨blk,q1,by rw [hxs];simpa using q2⟩) (R1.rT con.nv) (fun b h1 h2=>by
  unfold fA;rw [if_neg];rintro ⟨_,⟨i,j,ar,t,l,g1,g2⟩ | ⟨t,g1⟩⟩
  ·have h3:=(R1.oP g1 g2).2.2.2
   have hne:i≠id:=by
    rintro rfl;rw [hb1 h1] at g1;cases g1
   have:=R1.bb h2 hne;omega
  ·have:=R1.bt h2 t
   omega) (R1.agk _) (fun i hi=>by
  have h1:=tY (kG:=Er con.bZ pt id st) (len:=con.nv) R1 hbs o2 hz hvx hgx (fun x hx h=>agt (Lc hx h)) i hi
  rw [ZF];exact h1)
  (gv:=fun b=>dh con.ps.length (fun i=>dN b ((dn con.ps z).getD i .undef) ((xs.map a.eval).getD i undef))) (fun b=>by simp only [ZF]) agx (fun b h=>(agy b h).1)
 intro K Q hK;unfold Oper.wp;rw [NH H R hop hc,Oper.upon_enter]
 have hargs:c.args.map a.eval=(c.args.toList.map a.eval).toArray:=by
  apply Array.ext';simp
 rw [hargs]
 refine H.sem Nk (y,z) r hF _ _ w _ _ rfl ?_ (by simpa using ZE) Rin _ (fun vs w' G2 kG R2=>?_)
 ·cases h:con.bZ with
  | true=>exact .inr rfl
  | false=>exact .inl (by simp [Uq])
 ·obtain ⟨R3,hbd⟩:=QK R1 hok hb1 (fun h=>by simpa only [aY.nv,bP] using h) agx agy R2
  obtain ⟨G',bX,RF⟩:=NM (s:=s) R3 hm ho o3 hr (fun t ht hn=>by
   obtain ⟨ls,hn⟩:=hn
   cases hP:con.bZ with
   | false=>simp only [bU,List.nil_append];exact hbs t
   | true=>
    have h1:=hself hP;rw [hn] at h1;simp only [notSelf,ht,Bool.not_eq_true'] at h1;rw [fH] at h1;have h2:t≠id:=of_decide_eq_false h1;simp only [aQ,List.singleton_append,bA,h2,if_false]
    exact hbs t) (fun k hk=>by
   unfold gK
   cases con.bZ with
   | false=>rfl
   | true=>simp only [aQ,List.singleton_append,aH,hk,if_false]) R2 rfl hbd (by
   cases hl:con.nv with
   | true=>
    simp only [aY.nv,bP] at hl;exact .inr hl.1
   | false=>exact .inl fun b=>by unfold j6;rw [if_neg (by simp)])
  exact hK _ _ _ _ RF
theorem Di {Γ:uX} (hm:E.n≤C.m) (HΓ:∀ f con,Γ f=some con→gy P E (f%1000000) con) :
 ∀ f con o c s a w G pt u,f<1000000→Γ (ckey E o f)=some con→o.op = .call c→agi s con c f→Rel E C s a w G pt→(pO E con o s c.args.toList).den=some u→Gv P E C o a w (aA u s):=by
 intro f con o c s a w G pt u hlt hΓ hop hcc R h
 have hc2:∃ x,c.callee = .value x∧aX s x = .BS f:=by
  rcases hcc with h | h
  ·exact ⟨_,h,rfl⟩
  ·exact h.1
 have H:gy P E f con:=by
  have H:=HΓ _ con hΓ
  have e:ckey E o f%1000000=f:=by
   unfold ckey
   cases Nat.ble 101 (tag E o) with
   | true=>simp only [aQ];omega
   | false=>simp only [bU];omega
  rw [e] at H;exact H
 unfold pO at h;split at h
 ·rename_i x hx
  unfold Qf at h
  cases hd:eO E o with
  | false=>rw [hd] at h;cases h
  | true=>
   rw [hd] at h;simp only [aQ] at h;split at h
   ·rename_i t ht
    split at h
    ·rename_i gg u' hu
     cases gg with
     | false=>simp [Out.den] at h
     | true=>
     simp only [Out.den,aQ,bq] at h;subst h
     have hc:c.callee = .value (.func f):=by
      rcases hcc with h | h
      ·exact h
      ·rw [h.2] at hx;cases hx
     exact H.aaJ x hx E C o c s a w G pt t _ rfl hm (by simpa [eO,ht,Nat.blt_eq] using hd) ht hop hc R hu
    ·cases h
   ·cases h
 rename_i Nk;unfold oQ at h
 cases hd:eO E o with
 | false=>rw [hd] at h;cases h
 | true=>
  rw [hd] at h;simp only [aQ] at h;split at h
  ·rename_i x xs hP hxs
   split at h
   ·rename_i id st off hx
    split at h
    ·rename_i st' cs hb
     cases hg:(Nat.beq st st' && Nat.beq off 0&&(!oP s xs || con.nv)&&notSelf o id con.rs&&wQ con.ps xs) with
     | false=>rw [hg] at h;cases h
     | true=>
      rw [hg] at h;simp only [aQ] at h;simp only [bP,Bool.or_eq_true,Bool.not_eq_true'] at hg;obtain ⟨⟨⟨⟨g1,g2⟩,g3⟩,g4⟩,g5⟩:=hg;have g1:=dM g1;have g2:=dM g2;subst g1;subst g2;split at h
      ·rename_i y z hy hz
       obtain ⟨r,hF,h⟩:=oh h;split at h
       ·rename_i u' hu'
        simp only [Out.den,bq] at h;subst h
        have:=Dh (xs:=xs) (pre:=[x]) H Nk hm R hop hc2 hd (by simpa using hxs) (by simp [aY.k0,hP]) (id:=id) (st:=st) (cs:=cs) (fun _=>hb) (fun _=>⟨x,rfl,hx⟩) (fun _=>lJ hy) hz
         (fun hl=>by rcases g3 with g3 | g3;(rw [hl] at g3;cases g3);exact g3) (fun _=>g4) g5 hF hu'
        rw [hP] at this;rw [aU];exact this
       ·cases h
      ·cases h
    ·cases h
   ·cases h
  ·rename_i hP
   cases hg:((!oP s c.args.toList || con.nv)&&wQ con.ps c.args.toList) with
   | false=>rw [hg] at h;cases h
   | true=>
    rw [hg] at h;simp only [aQ] at h;split at h
    ·rename_i y z hy hz
     obtain ⟨r,hF,h⟩:=oh h;split at h
     ·rename_i u' hu'
      simp only [Out.den,bq] at h;subst h;have hok:=H.ok;simp only [aY.ok,bP,Bool.or_eq_true,hP,sI,false_or] at hok
      have:=Dh (xs:=c.args.toList) (pre:=[]) H Nk hm R hop hc2 hd (by simp) (by simp [aY.k0,hP]) (id:=0) (st:=0) (cs:=[]) (fun h=>by rw [hP] at h;cases h) (fun h=>by rw [hP] at h;cases h)
       (fun h=>by rw [hP] at h;cases h) hz (fun hl=>by
        simp only [bP,Bool.or_eq_true,Bool.not_eq_true'] at hg
        rcases hg.1 with hg | hg
        ·rw [hl] at hg;cases hg
        ·exact hg) (fun h=>by rw [hP] at h;cases h) (by simp only [bP] at hg;exact hg.2) hF hu'
      rw [hP] at this;rw [aU];exact this
     ·cases h
    ·cases h
  ·cases h
end
section
variable {P:Program} {E E':Env} {C C':Ctx} {s s':St} {a a':Act} {w w':World} {G G':Nat→Nat} {pt bX:Nat→Nat→Option Value}
def xq (a:Act):Act:={ a with tmps:=a.tmps.pop }
theorem G7 {o:Oper} {f:Nat} (hlt:f<1000000):ckey E o f%1000000=f:=by
 unfold ckey
 cases Nat.ble 101 (tag E o) with
 | true=>simp only [aQ];omega
 | false=>simp only [bU];omega
theorem xu {xs:Array Value} {v:Value} (t:Nat) (h:t≠xs.size):(xs.push v).getD t undef=xs.getD t undef:=by
 simp only [sJ,Array.getElem?_push,h,if_false]
theorem qG {xs:Array Value} {v:Value}:(xs.push v).getD xs.size undef=v:=by
 simp [sJ]
theorem QM {xs:Array Value} (t:Nat) (h:t+1<xs.size∨xs.size≤t):xs.pop.getD t undef=xs.getD t undef:=by
 simp only [sJ,Array.getElem?_pop]
 rcases h with h | h
 ·rw [if_pos (by omega)]
 ·rw [if_neg (by omega),Array.getElem?_eq_none h]
theorem Rel.agz (R:Rel E C s a w G pt) {d:D} {v:Value} (hd:bg w G pt d v) (hc:∀ b,dN b d v=0) :
 Rel { E with n:=E.n+1 } { C with m:=C.m+1 } ((2*E.n,d)::s) { a with tmps:=a.tmps.push v } w G pt:=by
 have g2:∀ id,get ((2*E.n,d)::s) (2*id+1)=get s (2*id+1):=fun id=>by rw [aH,if_neg (by omega)]
 have g1:∀ t,t≠E.n→get ((2*E.n,d)::s) (2*t)=get s (2*t):=fun t h=>by rw [aH,if_neg (by omega)]
 have g0:get ((2*E.n,d)::s) (2*E.n)=d:=by rw [aH,if_pos rfl]
 have hv0:(a.tmps.push v).getD E.n undef=v:=by
  have:=qG (xs:=a.tmps) (v:=v);rw [R.sz] at this;exact this
 have ZG:∀ b,TC (E.n+1) (C.m+1) ((2*E.n,d)::s) { a with tmps:=a.tmps.push v } w pt b=TC E.n C.m s a w pt b:=by
  intro b;unfold TC;simp only [dh]
  have e1:dh E.n (cT ((2*E.n,d)::s) { a with tmps:=a.tmps.push v } b)=dh E.n (cT s a b):=aM fun i hi=>by
   simp only [cT]
   rw [g1 i (by omega),xu i (by rw [R.sz];omega)]
  have e2:dh C.m (cB ((2*E.n,d)::s) w pt b)=dh C.m (cB s w pt b):=aM fun i _=>by simp only [cB,g2]
  have e3:cT ((2*E.n,d)::s) { a with tmps:=a.tmps.push v } b E.n=0:=by
   simp only [cT];rw [g0,hv0];exact hc b
  have e4:cB ((2*E.n,d)::s) w pt b C.m=0:=by
   simp only [cB];rw [g2,R.hb C.m (dQ _)];rfl
  omega
 refine ⟨by simp [R.sz],R.df,fun t=>?_,fun id=>?_,fun t ht=>?_,fun id hid=>?_,fun b=>?_,fun b hb=>?_,R.fr,R.ex,R.gz,R.os,R.out,R.tape,R.hs,fun id st h=>?_,R.gl,R.pn⟩
 ·by_cases h:t=E.n
  ·subst h
   rw [g0];show bg w G pt d ((a.tmps.push v).getD E.n undef);rw [hv0];exact hd
  ·rw [g1 t h]
   show bg w G pt (get s (2*t)) ((a.tmps.push v).getD t undef)
   rw [xu t (by rw [R.sz];exact h)]
   exact R.tm t
 ·rw [g2];exact R.bx id
 ·have ht:E.n+1≤t:=ht
  rw [g1 t (by omega)];exact R.ht t (by omega)
 ·have hid:C.m+1≤id:=hid
  rw [g2];exact R.hb id (by omega)
 ·exact jQ (Nat.le_of_eq (ZG b)) (R.ct b)
 ·exact R.cb b (by have:=ZG b;exact this▸hb)
 ·rw [g2] at h;exact R.pf id st h
theorem Rel.anB {s1 s2:St} {a1:Act} (R:Rel { E with n:=E.n+1 } { C with m:=C.m+1 } s1 a1 w G pt) (h1:∀ k,k≠2*E.n→get s2 k=get s1 k) (h2:get s2 (2*E.n) = .undef) (h3:get s1 (2*C.m+1) = .undef) :
 Rel E C s2 (xq a1) w G pt:=by
 have hsz:a1.tmps.size=E.n+1:=R.sz
 have g2:∀ id,get s2 (2*id+1)=get s1 (2*id+1):=fun id=>h1 _ (by omega)
 have hg:∀ t,t≠E.n→(xq a1).tmps.getD t undef=a1.tmps.getD t undef:=fun t h=>QM t (by omega)
 have ZG:∀ b,TC E.n C.m s2 (xq a1) w pt b≤TC (E.n+1) (C.m+1) s1 a1 w pt b:=by
  intro b;unfold TC;simp only [dh]
  have e1:dh E.n (cT s2 (xq a1) b)=dh E.n (cT s1 a1 b):=aM fun i hi=>by
   simp only [cT]
   rw [h1 _ (by omega),hg i (by omega)]
  have e2:dh C.m (cB s2 w pt b)=dh C.m (cB s1 w pt b):=aM fun i _=>by simp only [cB,g2]
  omega
 refine ⟨by simp [xq,hsz],R.df,fun t=>?_,fun id=>?_,fun t ht=>?_,fun id hid=>?_,fun b=>?_,fun b hb=>?_,R.fr,R.ex,R.gz,R.os,R.out,R.tape,R.hs,fun id st h=>?_,R.gl,R.pn⟩
 ·by_cases h:t=E.n
  ·subst h
   rw [h2];trivial
  ·rw [h1 _ (by omega),hg t h]
   exact R.tm t
 ·rw [g2];exact R.bx id
 ·by_cases h:t=E.n
  ·subst h;exact h2
  ·rw [h1 _ (by omega)]
   exact R.ht t (show E.n+1≤t by omega)
 ·by_cases h:id=C.m
  ·subst h;rw [g2];exact h3
  ·rw [g2];exact R.hb id (show C.m+1≤id by omega)
 ·exact jQ (ZG b) (R.ct b)
 ·exact R.cb b (nG hb (ZG b))
 ·rw [g2] at h;exact R.pf id st h
theorem Dj:∀ {n:Nat} {u:St},Ak n u=true→∀ k∈aL u,k<n
 | _,[],_,k,hk=>by simp [aL] at hk
 | n,(k0,d)::r,h,k,hk=>by
  simp only [Ak,bP,Nat.blt_eq] at h;simp only [aL,List.mem_cons] at hk
  rcases hk with rfl | hk
  ·exact h.1
  ·exact Dj h.2 k hk
theorem G8 {n:Nat}:∀ {l:List Operand},Aj n l=true→∀ t,Operand.tmp t∈l→t<n
 | [],_,t,ht=>by simp at ht
 | x::r,h,t,ht=>by
  rcases List.mem_cons.1 ht with rfl | ht
  ·simp only [Aj,bP,Nat.blt_eq] at h
   exact h.1
  ·refine G8 (l:=r) ?_ t ht
   cases x<;>simp only [Aj,bP] at h<;>first | exact h | exact h.2
theorem Dk {a:Act} {v:Value}:xq { a with tmps:=a.tmps.push v }=a:=by
 cases a;simp [xq]
theorem QN {a:Act} {v r:Value} (o:Oper) (h:∀ t,o.dst=some t→t<a.tmps.size):xq (({ a with tmps:=a.tmps.push v }:Act).put o.dst r)=a.put o.dst r:=by
 cases hd:o.dst with
 | none=>exact Dk
 | some t=>
  have:=h t hd;simp only [xq,Act.put]
  congr 1
  apply Array.ext_getElem?;intro i;simp only [Array.getElem?_pop,Array.size_setIfInBounds,Array.size_push,Array.getElem?_setIfInBounds,Array.getElem?_push]
  by_cases hi:i<a.tmps.size
  ·rw [if_pos (by omega)]
   by_cases ht:t=i
   ·subst ht
    simp [hi]
    first | exact this | exact Nat.lt_succ_of_lt this | omega
   ·simp [ht,show i≠a.tmps.size by omega]
  ·rw [if_neg (by omega)]
   rw [if_neg (fun e:t=i=>hi (e▸this)),Array.getElem?_eq_none (Nat.le_of_not_lt hi)]
theorem gy.anC {P:Program} {E E':Env} {f:Nat} {c:aY} (h:E'.glob=E.glob) (H:gy P E f c):gy P E' f c:=by
 refine ⟨H.ok,fun hx=>?_,by rw [h];exact H.aaJ,H.fn⟩
 have:=H.sem hx;unfold rO uG at this ⊢;rw [h];exact this
theorem U3 {Γ:uX} (hm:E.n≤C.m) (HΓ:∀ f con,Γ f=some con→gy P E (f%1000000) con):Qo P E Γ C:=by
 intro f t v con o c s a w G pt u x hlt hΓ Nk hop anD hx R h
 have H:gy P E f con:=by
  have H:=HΓ _ con hΓ;rw [G7 hlt] at H;exact H
 unfold CG at h
 cases hd:(eO E o && !con.bZ&&Aj E.n c.args.toList) with
 | false=>rw [hd] at h;cases h
 | true=>
  rw [hd] at h;simp only [aQ] at h;simp only [bP] at hd;obtain ⟨⟨hd1,-⟩,hd3⟩:=hd
  have hdst:∀ t,o.dst=some t→t<E.n:=by
   intro t ht
   simpa [eO,ht,Nat.blt_eq] using hd1
  rw [og] at h;split at h
  ·rename_i u' h1
   cases hk:Ak (2*E.n) u' with
   | false=>rw [hk] at h;cases h
   | true=>
    rw [hk] at h;simp only [aQ,Out.den,bq] at h;subst h;have hr:=aV R x;rw [hx] at hr;obtain ⟨b,off,hv,hle,hc⟩:=hr
    have hd':bg w G pt (.iF t [v] 0 0) (.pointer (some ⟨b,off,none⟩)):=
     ⟨b,off,by simp,by simp,by simpa using hle,fun i hi=>by
      have:i=0:=by simpa using hi
      subst this
      simpa using hc⟩
    have R1:=R.agz hd' (fun _=>rfl)
    have key:=Di (P:=P) (E:={ E with n:=E.n+1 }) (C:={ C with m:=C.m+1 }) (Γ:=fun k=>if k%1000000=f then some con else none) (show E.n+1≤C.m+1 by omega) (fun k avu hk=>by
     split at hk
     ·rename_i hkf
      simp only [bq] at hk;subst hk;rw [hkf];exact gy.anC (E:=E) rfl H
     ·cases hk) f con { o with op:=.call { callee:=.value (.func f),args:=c.args.push (.tmp E.n),argTypes:=c.argTypes } } { callee:=.value (.func f),args:=c.args.push (.tmp E.n),argTypes:=c.argTypes }
     ((2*E.n,.iF t [v] 0 0)::s) { a with tmps:=a.tmps.push (.pointer (some ⟨b,off,none⟩)) } w G pt u' hlt (if_pos (G7 hlt)) rfl (.inl rfl) R1 (by
       unfold pO;rw [Nk];simp only [Array.toList_push]
       exact h1)
    have hkl:=Dj hk
    have gk:∀ k,k≠2*E.n→get (aA u' s) k=get (aA u' ((2*E.n,.iF t [v] 0 0)::s)) k:=by
     intro k hk
     by_cases hm:k∈aL u'
     ·exact jD _ _ _ _ hm
     ·rw [bn _ _ _ hm,bn _ _ _ hm,aH,if_neg hk]
    have g2:get (aA u' s) (2*E.n) = .undef:=by
     rw [bn _ _ _ (fun hm=>by have:=hkl _ hm;omega)]
     exact R.ht _ (dQ _)
    have g3:get (aA u' ((2*E.n,.iF t [v] 0 0)::s)) (2*C.m+1) = .undef:=by
     rw [bn _ _ _ (fun hm=>by have:=hkl _ hm;omega),aH,if_neg (by omega)]
     exact R.hb _ (dQ _)
    intro K Q hK
    have key:=key (fun a' w'=>K (xq a') w') (fun e a' w'=>Q e (xq a') w') (fun a' w' G' bX R'=>hK _ _ _ _ (R'.anB gk g2 g3))
    unfold Oper.wp at key ⊢;rw [QF H rfl rfl,Oper.upon_enter] at key
    have hrun:(execOp a.eval o).run P w = .ok (.enter f ((c.args.map a.eval).push (.pointer (some ⟨b,off,none⟩)))) w:=by
     obtain ⟨fn,h1,h2,h3⟩:=H.fn
     have e:execOp a.eval o=callFunc f (#[]++c.args.map a.eval++#[.pointer (some ⟨b,off,none⟩)]):=by
      simp only [execOp,hop,resolve,anD,hv];rfl
     rw [e];simp only [callFunc]
     have h2':¬ fn.name = "runtime.NumGoroutine":=by simpa using h2
     have h3':¬ fn.body=none:=fun h=>by rw [h] at h3;cases h3
     simp [go_sem,h1,h2',h3']
    have hargs:(c.args.push (.tmp E.n)).map ({ a with tmps:=a.tmps.push (.pointer (some ⟨b,off,none⟩)) }:Act).eval=(c.args.map a.eval).push (.pointer (some ⟨b,off,none⟩)):=by
     rw [Array.map_push]
     have e1:({ a with tmps:=a.tmps.push (.pointer (some ⟨b,off,none⟩)) }:Act).eval (.tmp E.n) = .pointer (some ⟨b,off,none⟩):=by
      have:=qG (xs:=a.tmps) (v:=.pointer (some ⟨b,off,none⟩));rw [R.sz] at this;exact this
     rw [e1]
     congr 1
     apply Array.map_congr_left;intro y hy
     cases y with
     | tmp u=>
      have:=G8 hd3 u (by simpa using hy)
      exact xu u (by rw [R.sz];exact Nat.ne_of_lt this)
     | _=>rfl
    rw [hrun,Oper.upon_enter];simp only [hargs] at key
    refine key.mono fun e w' he=>?_
    cases e with
    | returned r=>
     have he:K (xq (({ a with tmps:=a.tmps.push (.pointer (some ⟨b,off,none⟩)) }:Act).put o.dst r)) w':=he
     rw [QN o (fun t ht=>by rw [R.sz];exact hdst t ht)] at he
     exact he
    | panicked ch=>
     have he:Q (.panic ch) (xq { a with tmps:=a.tmps.push (.pointer (some ⟨b,off,none⟩)) }) w':=he
     rw [Dk] at he;exact he
    | outgrown=>
     obtain ⟨a2,w2,he⟩:=he;exact ⟨_,_,he⟩
  ·cases h
theorem QO {Γ:uX} (hm:E.n≤C.m) (HΓ:∀ f con,Γ f=some con→gy P E (f%1000000) con):Eh P E Γ C:=⟨U3 hm HΓ,Di hm HΓ⟩
end
theorem gy.env {P:Program} {E E':Env} {f:Nat} {c:aY} (h:E'.glob=E.glob) (H:gy P E f c):gy P E' f c:=by
 refine ⟨H.ok,fun hx=>?_,by rw [h];exact H.aaJ,H.fn⟩
 have:=H.sem hx;unfold rO uG at this ⊢;rw [h];exact this
def vI (E:Env) (fn:Func) (c:aY):Bool:=
 Nat.beq E.n fn.ntmps&&ji E.hp c.bZ&&c.ok&&Nat.ble c.num E.n && !(fn.name == "runtime.NumGoroutine") && !fn.body.isNone&&c.xf.isNone
theorem aaO {P:Program} {E:Env} (HP:mG P E) (Qw:P.follows .mixedOrders=true) {Γ:uX} (HΓ:∀ g con,Γ g=some con→gy P E (g%1000000) con)
 {f:Nat} {fn:Func} (plan:Plan) {c:aY} (hf:P.funcs[f]? = some fn) (hck:vI E fn c=true)
 (hF:∀ x y,c.okV x→c.F x=some y→(evF (fun _ _=>Loop) E Γ fn plan c x).den=some y):gy P E f c:=by
 simp only [vI,bP,Bool.not_eq_true'] at hck;obtain ⟨⟨⟨⟨⟨⟨h1,h2⟩,h3⟩,h4⟩,h5⟩,h6⟩,h7⟩:=hck
 have h7:c.xf=none:=by simpa using h7
 refine ⟨h3,fun _=>?_,fun x hx=>(by rw [h7] at hx;cases hx),fn,hf,h5,h6⟩
 exact aaI HP Qw hf (dM h1) (kT h2) h3 (Nat.le_of_ble_eq_true h4) (fun C hC _=>QO hC HΓ) hF
def Ld:List (Nat×TI)→Nat→Option TI
 | [],_=>none
 | (t,i)::r,u=>bif Nat.beq u t then some i else Ld r u
def ZH:List (Nat×Nat)→Nat→Nat
 | [],_=>0
 | (a,b)::r,t=>bif Nat.beq t a then b else ZH r t
def Le:List (Nat×(IntKind×List Int))→Nat→Option (IntKind×List Int)
 | [],_=>none
 | (a,b)::r,t=>bif Nat.beq t a then some b else Le r t
def sN:List (Nat×aY)→Nat→Option aY
 | [],_=>none
 | (a,b)::r,t=>bif Nat.beq t a then some b else sN r t
def mkE (tab:List (Nat×TI)) (gl:List (Nat×(IntKind×List Int))) (n:Nat) (hp:Bool) (md:List (Nat×Nat)):Env:=
 { T:=Ld tab,md:=ZH md,glob:=Le gl,n,hp }
theorem xw {t:Nat} {i:TI}:∀ {tab:List (Nat×TI)},Ld tab t=some i→(t,i)∈tab
 | (u,j)::r,h=>by
  simp only [Ld] at h
  cases hb:Nat.beq t u with
  | true=>
   rw [hb] at h;simp only [aQ,bq] at h;have:=dM hb;subst this;subst h;simp
  | false=>
   rw [hb] at h;exact oH _ (xw h)
theorem pz {α β:Type} {f g:α→β}:∀ {l:List α},l.map f=l.map g→∀ x∈l,f x=g x
 | [],_,x,h=>by simp at h
 | y::r,h,x,hx=>by
  simp only [List.map_cons,List.cons.injEq] at h
  rcases List.mem_cons.1 hx with rfl | hx
  ·exact h.1
  ·exact pz h.2 x hx
theorem G9 {t:Nat} {ks:List Nat}:∀ {cl:List (Nat×List Nat)},look cl t=some ks→(t,ks)∈cl
 | (u,j)::r,h=>by
  simp only [look] at h
  cases hb:Nat.beq t u with
  | true=>
   rw [hb] at h;simp only [aQ,bq] at h;have:=dM hb;subst this;subst h;simp
  | false=>
   rw [hb] at h;exact oH _ (G9 h)
theorem QS {P:Program} {cl:List (Nat×List Nat)} {T:TypeId} {i:TI} (h:MS P cl T=some i):i.cmp=look cl T:=by
 unfold MS at h;split at h
 ·rename_i pi d hi hu
  split at h
  ·rename_i z hz
   cases hb:(Nat.beq z.cells.size pi.size&&(jr d || Nat.beq pi.size 1)&&z.cells.all (·.oneCell')) with
   | false=>simp [hb] at h
   | true=>
    simp only [hb,aQ,bq] at h;subst h;rfl
  ·cases h
 ·cases h
theorem aaP {P:Program} {tab:List (Nat×TI)} {gl:List (Nat×(IntKind×List Int))} (cl:List (Nat×List Nat)) (h1:tab.map (fun p=>MS P cl p.1)=tab.map (fun p=>some p.2))
 (h2:cl.map (fun p=>(iZ P 8 p.1,P.eqGuardType P.depth p.1))=cl.map (fun p=>(some p.2,false))) (n:Nat) (hp:Bool) (md:List (Nat×Nat)):mG P (mkE tab gl n hp md):=by
 refine ⟨fun T i h=>Uy (pz h1 (T,i) (xw h)),fun T i ks h hk=>?_⟩
 have h3:=QS (pz h1 (T,i) (xw h));rw [hk] at h3;have h4:=pz h2 (T,ks) (G9 h3.symm);simp only [eX] at h4;exact h4
theorem vJ {τ ε:Type} {step:τ→Option (Sum τ ε)} (I:τ→Prop) (m:τ→Nat) (f:τ→ε)
 (h:∀ v,I v→step v=some (.inr (f v))∨∃ v',step v=some (.inl v')∧I v'∧m v' < m v∧f v' = f v) {v:τ} (hv:I v):Loop step v=some (f v):=by
 have key:∀ n v,I v→m v≤n→∃ k,Ar step k v=some (f v):=by
  intro n
  induction n with
  | zero=>
   intro v hv hm
   rcases h v hv with h1 | ⟨v',h1,_,h3,_⟩
   ·exact ⟨1,by simp [Ar,h1]⟩
   ·omega
  | succ n ih=>
   intro v hv hm
   rcases h v hv with h1 | ⟨v',h1,h2,h3,h4⟩
   ·exact ⟨1,by simp [Ar,h1]⟩
   ·obtain ⟨k,hk⟩:=ih v' h2 (by omega)
    exact ⟨k+1,by simp [Ar,h1,hk,h4]⟩
 obtain ⟨k,hk⟩:=key (m v) v hv (dQ _);exact vv hk
theorem U4 {P:Program} {E:Env}:∀ g con,sN [] g=some con→gy P E (g%1000000) con:=fun _ _ h=>by cases h
theorem vK {P:Program} {E E':Env} {f:Nat} {c:aY} {l:List (Nat×aY)} (hg:E.glob=E'.glob) (h:gy P E' (f%1000000) c) (hl:∀ g con,sN l g=some con→gy P E (g%1000000) con) :
 ∀ g con,sN ((f,c)::l) g=some con→gy P E (g%1000000) con:=by
 intro g con h';simp only [sN] at h'
 cases hb:Nat.beq g f with
 | true=>
  rw [hb] at h';simp only [aQ,bq] at h';have:=dM hb;subst this;subst h';exact h.env hg
 | false=>
  rw [hb] at h';exact hl g con h'
end Go.gI
namespace Go.gI
open Go
theorem fU {n:Int} (h1:-9223372036854775808≤n) (h2:n≤9223372036854775807):IntKind.wrap .i64 n=n:=by
 have e1:(2:Int) ^ IntKind.i64.bits=18446744073709551616:=by decide
 have e2:(2:Int) ^ (IntKind.i64.bits - 1)=9223372036854775808:=by decide
 have e3:IntKind.i64.signed=true:=rfl;simp only [IntKind.wrap,e1,e2,e3,Bool.true_and,jH]
 split<;>omega
theorem wu64 {n:Int} (h1:0≤n) (h2:n<18446744073709551616):IntKind.wrap .u64 n=n:=by
 have e1:(2:Int) ^ IntKind.u64.bits=18446744073709551616:=by decide
 have e3:IntKind.u64.signed=false:=rfl;simp only [IntKind.wrap,e1,e3,Bool.false_and,sI,if_false];omega
theorem ZI (n:Int):IntKind.wrap .u64 n=n%18446744073709551616:=by
 have e1:(2:Int) ^ IntKind.u64.bits=18446744073709551616:=by decide
 have e3:IntKind.u64.signed=false:=rfl;simp only [IntKind.wrap,e1,e3,Bool.false_and,sI,if_false]
theorem U5 {n:Int} (h:IntKind.u64.has n):0≤n∧n<18446744073709551616:=by
 have h1:0≤n:=h.1;have h2:n≤18446744073709551615:=h.2;omega
theorem Es {n:Int} (h:IntKind.i64.has n):-9223372036854775808≤n∧n≤9223372036854775807:=h
theorem U6 {a b:Int} (h:0≤a):Int.tdiv a b=a / b:=Int.tdiv_eq_ediv_of_nonneg h
theorem Lg {a b:Int} (h:0≤a):Int.tmod a b=a%b:=Int.tmod_eq_emod_of_nonneg h
theorem pow2 (n:Nat):Int.pow (2:Int) n=2 ^ n:=rfl
theorem toNat_ofInt {w:Nat} {x:Int} (h1:0≤x) (h2:x<2 ^ w):(BitVec.ofInt w x).toNat=x.toNat:=by
 rw [BitVec.toNat_ofInt]
 have:x%((2 ^ w:Nat):Int)=x:=Int.emod_eq_of_lt h1 (by simpa using h2)
 rw [this]
theorem bvand {w:Nat} {x y:Int} (h1:0≤x) (h2:x<2 ^ w) (h3:0≤y) (h4:y<2 ^ w):(BitVec.and (BitVec.ofInt w x) (BitVec.ofInt w y)).toNat=x.toNat &&& y.toNat:=by
 show (BitVec.ofInt w x &&& BitVec.ofInt w y).toNat=_;rw [BitVec.toNat_and,toNat_ofInt h1 h2,toNat_ofInt h3 h4]
theorem bvor {w:Nat} {x y:Int} (h1:0≤x) (h2:x<2 ^ w) (h3:0≤y) (h4:y<2 ^ w):(BitVec.or (BitVec.ofInt w x) (BitVec.ofInt w y)).toNat=x.toNat ||| y.toNat:=by
 show (BitVec.ofInt w x ||| BitVec.ofInt w y).toNat=_;rw [BitVec.toNat_or,toNat_ofInt h1 h2,toNat_ofInt h3 h4]
theorem jV (n:Nat):(2:Int) ^ n=((2 ^ n:Nat):Int):=by simp
theorem iy {a b:Nat} (h:a≤b):Nat.ble a b=true:=by rw [Nat.ble_eq];exact h
theorem kg {a b:Nat} (h:a<b):Nat.blt a b=true:=by rw [Nat.blt_eq];exact h
theorem kX {α:Type} {l:List α} {i:Nat} {d:α} (h:i<l.length):l.getD i d∈l:=by
 rw [yP,List.getElem?_eq_getElem h];exact List.getElem_mem h
theorem NP {τ ε:Type} {step:τ→Option (Sum τ ε)} (I:τ→Prop) (m:τ→Nat) (Q:ε→Prop)
 (h:∀ v,I v→(∃ e,step v=some (.inr e)∧Q e)∨∃ v',step v=some (.inl v')∧I v'∧m v' < m v) {v:τ} (hv:I v):∃ e,Loop step v=some e∧Q e:=by
 have key:∀ n v,I v→m v≤n→∃ k e,Ar step k v=some e∧Q e:=by
  intro n
  induction n with
  | zero=>
   intro v hv hm
   rcases h v hv with ⟨e,h1,h2⟩ | ⟨v',h1,_,h3⟩
   ·exact ⟨1,e,by simp [Ar,h1],h2⟩
   ·omega
  | succ n ih=>
   intro v hv hm
   rcases h v hv with ⟨e,h1,h2⟩ | ⟨v',h1,h2,h3⟩
   ·exact ⟨1,e,by simp [Ar,h1],h2⟩
   ·obtain ⟨k,e,h4,h5⟩:=ih v' h2 (by omega)
    exact ⟨k+1,e,by simp [Ar,h1,h4],h5⟩
 obtain ⟨k,e,h1,h2⟩:=key _ v hv (dQ _);exact ⟨e,vv h1,h2⟩
theorem ou {α ε:Type} {step:Int×Unit→Option (Sum (Int×Unit) ε)} (l:List α) (d:α) (bad:α→Bool) (R1 R0:ε)
 (h1:∀ i:Int,0≤i→i<(l.length:Int)→step (i,())=some (bif bad (l.getD i.toNat d) then .inr R1 else .inl (i+1,())))
 (h0:step ((l.length:Int),())=some (.inr R0)):Loop step ((0:Int),())=some (bif l.any bad then R1 else R0):=by
 have key:Loop step ((0:Int),())=some (bif (l.drop (0:Int).toNat).any bad then R1 else R0):=by
  refine vJ (fun v:Int×Unit=>0≤v.1∧v.1≤(l.length:Int)) (fun v:Int×Unit=>((l.length:Int) - v.1).toNat) (fun v:Int×Unit=>bif (l.drop v.1.toNat).any bad then R1 else R0) ?_ (v:=(0,())) ⟨by simp,by simp⟩
  rintro ⟨i,⟨⟩⟩ ⟨k1,k2⟩;simp only at k1 k2
  by_cases h:i<(l.length:Int)
  ·have hi:i.toNat<l.length:=by omega
   have hd:l.drop i.toNat=l.getD i.toNat d::l.drop (i+1).toNat:=by
    rw [show (i+1).toNat=i.toNat+1 by omega,List.drop_eq_getElem_cons hi,yP,List.getElem?_eq_getElem hi];rfl
   rw [h1 i k1 h,hd,List.any_cons]
   cases hb:bad (l.getD i.toNat d) with
   | true=>left;rfl
   | false=>right;exact ⟨(i+1,()),rfl,⟨by simp only;omega,by simp only;omega⟩,by simp only;omega,by simp only [Bool.false_or]⟩
  ·have:i=(l.length:Int):=by omega
   subst this
   left
   rw [h0,dG,List.drop_length];rfl
 simpa using key
theorem qH {α:Type} (l:List α) (i:Nat) (d:α) (h:i<l.length):l.take (i+1)=l.take i++[l.getD i d]:=by
 rw [List.take_add_one,yP,List.getElem?_eq_getElem h];rfl
theorem xA {α:Type} (l:List α) (i:Nat) (d:α) (h:i<l.length):l.drop i=l.getD i d::l.drop (i+1):=by
 rw [List.drop_eq_getElem_cons h,yP,List.getElem?_eq_getElem h];rfl
theorem QT {α β:Type} (a:List α) (b:List β) (i:Nat) (x:α) (y:β) (h1:i<a.length) (h2:i<b.length):(a.zip b).getD i (x,y)=(a.getD i x,b.getD i y):=by
 have hz:i<(a.zip b).length:=by simp;omega
 rw [yP,List.getElem?_eq_getElem hz,List.getElem_zip];simp [yP,h1,h2]
theorem JC {ε:Type} {step:Int×Unit→Option (Sum (Int×Unit) ε)} (n:Nat) (bad:Nat→Bool) (R1 R0:ε)
 (h1:∀ i:Int,0≤i→i<(n:Int)→step (i,())=some (bif bad i.toNat then .inr R1 else .inl (i+1,())))
 (h0:step ((n:Int),())=some (.inr R0)):Loop step ((0:Int),())=some (bif (List.range n).any bad then R1 else R0):=by
 refine ou (List.range n) 0 bad R1 R0 (fun i k1 k2=>?_) (by simpa using h0)
 have k2:i<(n:Int):=by simpa using k2
 have e:(List.range n).getD i.toNat 0=i.toNat:=by
  have h:i.toNat<n:=by omega
  simp [yP,h]
 rw [h1 i k1 k2,e]
end Go.gI
namespace Go.gI
theorem dV {α:Type} {l:List α} {d:α} {i:Nat} (h:i<l.length):l.getD i d=l[i]:=by
 rw [yP,List.getElem?_eq_getElem h];rfl
theorem jW {τ ε:Type} {step:τ→Option (Sum τ ε)} (enc:Nat→τ) (n:Nat) (e:ε) (hs:∀ k,k<n→step (enc k)=some (.inl (enc (k+1)))) (he:step (enc n)=some (.inr e)) (k:Nat) (hk:k≤n):Loop step (enc k)=some e:=by
 have key:∀ j k,k+j=n→Loop step (enc k)=some e:=by
  intro j
  induction j with
  | zero=>intro k hk;have:k=n:=by omega
          subst this;rw [aT,he]
  | succ j ih=>intro k hk;rw [aT,hs k (by omega)];exact ih (k+1) (by omega)
 exact key (n - k) k (by omega)
theorem xB {τ ε:Type} {step:τ→Option (Sum τ ε)} (enc:Nat→τ) (n:Nat) (e:ε) (out:Nat→Option ε)
 (hs:∀ k,k<n→step (enc k)=match out k with | some x=>some (.inr x) | none=>some (.inl (enc (k+1)))) (he:step (enc n)=some (.inr e)) :
 Loop step (enc 0)=some (((List.range n).findSome? out).getD e):=by
 have key:∀ j k,k+j=n→(∀ i,i<k→out i=none)→Loop step (enc k)=some (((List.range n).findSome? out).getD e):=by
  intro j
  induction j with
  | zero=>
   intro k hk hn
   have:k=n:=by omega
   subst this
   have:(List.range k).findSome? out=none:=by
    rw [List.findSome?_eq_none_iff];intro x hx;exact hn x (List.mem_range.1 hx)
   rw [aT,he,this];rfl
  | succ j ih=>
   intro k hk hn
   rw [aT,hs k (by omega)]
   cases ho:out k with
   | none=>
    exact ih (k+1) (by omega) fun i hi=>by
     by_cases h:i=k
     ·rw [h];exact ho
     ·exact hn i (by omega)
   | some x=>
    have hr:List.range n=List.range k++k::(List.range (n - k - 1)).map (k+1 + ·):=by
     rw [show n=k+(1+(n - k - 1)) by omega,List.range_add,List.range_add]
     simp [List.map_append];intro a ha;omega
    have:(List.range n).findSome? out=some x:=by
     rw [hr,List.findSome?_append]
     have:(List.range k).findSome? out=none:=by
      rw [List.findSome?_eq_none_iff];intro x hx;exact hn x (List.mem_range.1 hx)
     rw [this,List.findSome?_cons,ho];rfl
    rw [this];rfl
 exact key n 0 (by omega) (fun i hi=>absurd hi (by omega))
theorem Et {α β:Type} (l:List α) (p:α→Bool) (x:β):l.findSome? (fun i=>bif p i then some x else none)=bif l.any p then some x else none:=by
 induction l with
 | nil=>rfl
 | cons a r ih=>rw [List.findSome?_cons,List.any_cons];cases p a<;>simp [ih]
theorem sO {α β:Type} (l:List α) (p:α→Bool) (f:α→β):l.findSome? (fun i=>bif p i then some (f i) else none)=(l.find? p).map f:=by
 induction l with
 | nil=>rfl
 | cons a r ih=>rw [List.findSome?_cons,List.find?_cons];cases p a<;>simp [ih]
theorem NQ {τ ε:Type} {step:τ→Option (Sum τ ε)} (enc:Nat→τ) (n:Nat) (e:ε) (bad:Nat→Bool) (R:ε)
 (hs:∀ k,k<n→step (enc k)=some (bif bad k then .inr R else .inl (enc (k+1)))) (he:step (enc n)=some (.inr e)) :
 Loop step (enc 0)=some (bif (List.range n).any bad then R else e):=by
 rw [xB enc n e (fun i=>bif bad i then some R else none) (fun k hk=>by rw [hs k hk];cases bad k<;>rfl) he,Et]
 cases (List.range n).any bad<;>rfl
theorem agB {α ρ:Type} (f:(Int×Unit)→Option (Sum (Int×Unit) ρ)) (l:List α) (d:α) (bad:α→Bool) (R1 R0:ρ)
 (h1:∀ i:Nat,i<l.length→f ((i:Int),())=some (bif bad (l.getD i d) then .inr R1 else .inl (((i+1:Nat):Int),())))
 (h0:f ((l.length:Int),())=some (.inr R0)):Loop f ((0:Int),())=some (bif l.any bad then R1 else R0):=
 ou l d bad R1 R0 (fun i hi hlt=>by
  obtain ⟨k,rfl⟩:∃ n:Nat,i=n:=⟨i.toNat,by omega⟩
  rw [h1 k (by omega),dG]
  rfl) h0
theorem Eu {n k:Nat} {p:Nat→Bool} (hk:k<n) (h:p k=true):(List.range n).any p=true:=List.any_eq_true.2 ⟨k,List.mem_range.2 hk,h⟩
theorem QU {ρ:Type} (f:(Int×Unit)→Option (Sum (Int×Unit) ρ)) (n:Nat) (bad:Nat→Bool) (R1 R0:ρ)
 (h1:∀ i:Nat,1≤i→i<n→f ((i:Int),())=some (bif bad i then .inr R1 else .inl (((i+1:Nat):Int),())))
 (h0:∀ i:Nat,n≤i→i≤n+1→f ((i:Int),())=some (.inr R0)):Loop f ((1:Int),())=some (bif (List.range (n - 1)).any (fun i=>bad (i+1)) then R1 else R0):=by
 have key:∀ j k,k+j=n - 1→(∀ i,i<k→bad (i+1)=false)→Loop f (((k+1:Nat):Int),())=some (bif (List.range (n - 1)).any (fun i=>bad (i+1)) then R1 else R0):=by
  intro j
  induction j with
  | zero=>
   intro k hk hn
   rw [aT,h0 (k+1) (by omega) (by omega)]
   have:(List.range (n - 1)).any (fun i=>bad (i+1))=false:=by
    rw [Bool.eq_false_iff];intro h;obtain ⟨x,hx,hp⟩:=List.any_eq_true.1 h
    rw [hn x (by have:=List.mem_range.1 hx;omega)] at hp
    cases hp
   rw [this];rfl
  | succ j ih=>
   intro k hk hn
   rw [aT,h1 (k+1) (by omega) (by omega)]
   cases hb:bad (k+1) with
   | true=>
    rw [Eu (p:=fun i=>bad (i+1)) (show k<n - 1 by omega) hb]
    rfl
   | false=>
    exact ih (k+1) (by omega) fun i hi=>by
     by_cases h:i=k
     ·rw [h];exact hb
     ·exact hn i (by omega)
 exact key (n - 1) 0 (by omega) (fun i hi=>absurd hi (by omega))
theorem sP {ρ:Type} (f:(Int×Unit)→Option (Sum (Int×Unit) ρ)) (n:Nat) (bad:Nat→Bool) (R1 R0:ρ)
 (h1:∀ i:Nat,i<n→f ((i:Int),())=some (bif bad i then .inr R1 else .inl (((i+1:Nat):Int),())))
 (h0:f ((n:Int),())=some (.inr R0)):Loop f ((0:Int),())=some (bif (List.range n).any bad then R1 else R0):=
 JC n bad R1 R0 (fun i hi hlt=>by
  obtain ⟨k,rfl⟩:∃ n:Nat,i=n:=⟨i.toNat,by omega⟩
  rw [h1 k (by omega),dG]
  rfl) h0
theorem aG {k:Nat} (h:k≤9223372036854775806):IntKind.wrap .i64 ((k:Int)+1)=((k+1:Nat):Int):=by rw [fU (by omega) (by omega)];omega
theorem sQ {k:Nat} (h0:0<k) (h:k≤9223372036854775806):IntKind.wrap .i64 ((k:Int) - 1)=((k - 1:Nat):Int):=by rw [fU (by omega) (by omega)];omega
theorem dT {p:Prop} {i:Decidable p} (h:p):@decide p i=true:=fB h
theorem dF {p:Prop} {i:Decidable p} (h:¬ p):@decide p i=false:=jM h
def jl (w:World) (G:Nat→Nat):(t:Ty)→t.den→(Nat→Value)→Nat→Prop
 | .int k,n,f,o=>f o = .int k n∧k.has n
 | .bool,x,f,o=>f o = .bool x
 | .str,l,f,o=>∃ s,f o = .string s∧d9 s=l∧l.length≤jo
 | .sl t,l,f,o=>∃ a n c,f o = .slice a n c∧n=l.length∧n*t.pV≤big∧n≤c ∧
  (l=[]∨∃ b' o',a=some ⟨b',o',none⟩∧o' + n*t.nc≤G b'∧∀ i (h:i<l.length),dK w G t l[i] b' (o' + i*t.nc))
 | .unit,_,_,_=>True
 | .cons a b,x,f,o=>jl w G a x.1 f o∧jl w G b x.2 f (o+a.nc)
 | .st _ c,x,f,o=>jl w G c x f o
 | .gM _ _,_,_,_=>False
section
variable {w:World} {G:Nat→Nat} {pt:Nat→Nat→Option Value}
theorem jl.shift:∀ {t:Ty} {x:t.den} {f g:Nat→Value} {o o':Nat},jl w G t x f o→(∀ j,j<t.nc→g (o' + j)=f (o+j))→jl w G t x g o'
 | .int k,n,f,g,o,o',h,hc=>by
  have:=hc 0 (by simp [Ty.nc])
  simp only [Nat.add_zero] at this;simp only [jl] at h ⊢;rw [this];exact h
 | .bool,n,f,g,o,o',h,hc=>by
  have:=hc 0 (by simp [Ty.nc])
  simp only [Nat.add_zero] at this;simp only [jl] at h ⊢;rw [this];exact h
 | .str,n,f,g,o,o',h,hc=>by
  have:=hc 0 (by simp [Ty.nc])
  simp only [Nat.add_zero] at this;simp only [jl] at h ⊢;rw [this];exact h
 | .sl t,l,f,g,o,o',h,hc=>by
  have:=hc 0 (by simp [Ty.nc])
  simp only [Nat.add_zero] at this;simp only [jl] at h ⊢;rw [this];exact h
 | .unit,_,_,_,_,_,_,_=>trivial
 | .cons a c,x,f,g,o,o',h,hc=>by
  simp only [jl] at h ⊢;simp only [Ty.nc] at hc
  refine ⟨h.1.shift fun j hj=>hc j (by omega),h.2.shift fun j hj=>?_⟩
  have:=hc (a.nc+j) (by omega)
  rw [Nat.add_assoc,Nat.add_assoc];exact this
 | .st _ c,x,f,g,o,o',h,hc=>by
  simp only [jl] at h ⊢;exact jl.shift (t:=c) h hc
 | .gM _ _,x,f,g,o,o',h,hc=>h.elim
theorem jl.mem:∀ {t:Ty} {x:t.den} {f:Nat→Value} {o b o':Nat},jl w G t x f o→(∀ j,j<t.nc→w.cell? ⟨b,o' + j,none⟩=some (f (o+j)))→dK w G t x b o'
 | .int k,n,f,o,b,o',h,hc=>by
  have:=hc 0 (by simp [Ty.nc])
  simp only [Nat.add_zero] at this;simp only [jl] at h;simp only [dK];rw [this,h.1];exact ⟨rfl,h.2⟩
 | .bool,n,f,o,b,o',h,hc=>by
  have:=hc 0 (by simp [Ty.nc])
  simp only [Nat.add_zero] at this;simp only [jl] at h;simp only [dK];rw [this,h]
 | .str,n,f,o,b,o',h,hc=>by
  have:=hc 0 (by simp [Ty.nc])
  simp only [Nat.add_zero] at this;simp only [jl] at h;obtain ⟨s,h1,h2⟩:=h;simp only [dK]
  exact ⟨s,by rw [this,h1],h2⟩
 | .sl t,l,f,o,b,o',h,hc=>by
  have:=hc 0 (by simp [Ty.nc])
  simp only [Nat.add_zero] at this;simp only [jl] at h;obtain ⟨a,n,c,h1,h2⟩:=h;simp only [dK]
  exact ⟨a,n,c,by rw [this,h1],h2⟩
 | .unit,_,_,_,_,_,_,_=>by simp only [dK]
 | .cons a c,x,f,o,b,o',h,hc=>by
  simp only [jl] at h;simp only [dK];simp only [Ty.nc] at hc
  refine ⟨h.1.mem fun j hj=>hc j (by omega),h.2.mem fun j hj=>?_⟩
  have:=hc (a.nc+j) (by omega)
  rw [Nat.add_assoc,Nat.add_assoc];exact this
 | .st _ c,x,f,o,b,o',h,hc=>by
  simp only [jl] at h;simp only [dK];exact jl.mem (t:=c) h hc
 | .gM _ _,x,f,o,b,o',h,hc=>h.elim
theorem jl.leaf:∀ {t:Ty} {x:t.den} {f:Nat→Value} {o:Nat},jl w G t x f o→∀ j (h:j<(enc t x).length),bO w G pt (enc t x)[j] (f (o+j))∧(f (o+j)).oneCell' = true
 | .int k,n,f,o,h,j,hj=>by
  have:j=0:=by simp [enc] at hj;exact hj
  subst this;simp only [jl] at h;rw [Nat.add_zero,h.1];exact ⟨⟨rfl,h.2⟩,rfl⟩
 | .bool,n,f,o,h,j,hj=>by
  have:j=0:=by simp [enc] at hj;exact hj
  subst this;simp only [jl] at h;rw [Nat.add_zero,h];exact ⟨rfl,rfl⟩
 | .str,n,f,o,h,j,hj=>by
  have:j=0:=by simp [enc] at hj;exact hj
  subst this;simp only [jl] at h;obtain ⟨s,h1,h2⟩:=h;rw [Nat.add_zero,h1];exact ⟨⟨s,rfl,h2⟩,rfl⟩
 | .sl t,l,f,o,h,j,hj=>by
  have:j=0:=by simp [enc] at hj;exact hj
  subst this;simp only [jl] at h;obtain ⟨a,n,c,h1,h2,h3,h4,h5⟩:=h;rw [Nat.add_zero,h1]
  refine ⟨⟨a,n,c,rfl,h2,h3,by rw [←h2];exact h4,?_⟩,rfl⟩
  rcases h5 with h5 | ⟨b',o',h6,h7,h8⟩
  ·exact .inl h5
  ·subst h2
   exact .inr ⟨b',o',h6,h7,h8⟩
 | .gM _ _,x,f,o,h,j,hj=>h.elim
 | .unit,_,_,_,_,j,hj=>by simp [enc] at hj
 | .cons a c,x,f,o,h,j,hj=>by
  simp only [jl] at h;have hl:=jh a x.1;have e:enc (.cons a c) x=enc a x.1++enc c x.2:=rfl
  by_cases h1:j<(enc a x.1).length
  ·have:=h.1.leaf j h1
   simp only [e,List.getElem_append_left h1];exact this
  ·have hj2:j - (enc a x.1).length<(enc c x.2).length:=by
    rw [e,kZ] at hj;omega
   have:=h.2.leaf (j - (enc a x.1).length) hj2
   simp only [e,List.getElem_append_right (by omega:(enc a x.1).length≤j)]
   rw [show o+a.nc+(j - (enc a x.1).length)=o+j by omega] at this
   exact this
 | .st _ c,x,f,o,h,j,hj=>by
  simp only [jl] at h;exact jl.leaf (t:=c) h j hj
end
def U7 (U8:TypeId→Ty→Bool) (P:Program):List Field→Nat→Ty→Bool
 | [],_,.unit=>true
 | f::r,off,.cons a b=>U8 f.type a&&Nat.beq f.offset off&&Nat.beq (P.cellsOf f.type) a.nc&&U7 U8 P r (off+a.nc) b
 | _,_,_=>false
def yC (P:Program):Nat→TypeId→Ty→Bool
 | 0,_,_=>false
 | n+1,t,ty=>match P.underlying t,ty with
  | some (.int k),.int k'=>jm k k'
  | some .bool,.bool=>true
  | some .string,.str=>true
  | some (.slice e),.sl a=>yC P n e a&&Nat.beq (P.cellsOf e) a.nc&&Nat.beq (P.bytesOf e) a.pV&&Nat.blt 0 a.nc
  | some (.struct fs),.st _ c=>U7 (yC P n) P fs.toList 0 c&&Nat.beq (P.cellsOf t) c.nc
  | _,_=>false
section
variable {H:Type} {en:TypeId×Value→H} {P:Program} {w:World} {spare:Nat→Bool} {held:Bool}
theorem yX {p:Nat→Bool} {a b:List Nat} (h:(a++b).all p=true):a.all p=true∧b.all p=true:=by
 rw [List.all_append,bP] at h;exact h
theorem qI {e:TypeId} {p:Nat→Bool}:∀ {l:List (DataW H)},(DataW.weightsAll P e l).all p=true→∀ d∈l,(d.weights P e).all p=true
 | [],_,d,h=>by simp at h
 | x::r,hw,d,h=>by
  simp only [DataW.weightsAll] at hw;obtain ⟨h1,h2⟩:=yX hw
  rcases List.mem_cons.1 h with rfl | h
  ·exact h1
  ·exact qI h2 d h
theorem Lh {b o:Nat} {v:Value} (h:w.cell? ⟨b,o,none⟩=some v):o<fE w b:=by
 unfold World.cell? at h;unfold fE;simp only at h;split at h
 ·rename_i c _ _ hc
  rw [hc];simp only [Option.isSome_none,sI,if_false] at h;exact (Array.getElem?_eq_some_iff.1 h).1
 ·cases h
theorem Hg {α:Type} {n:Nat} {p:Nat→α→Prop} (h:∀ i,i<n→∃ y,p i y):∃ l:List α,l.length=n∧∀ i (hi:i<l.length),p i l[i]:=by
 induction n with
 | zero=>exact ⟨[],rfl,fun i hi=>by simp at hi⟩
 | succ n ih=>
  obtain ⟨l,h1,h2⟩:=ih fun i hi=>h i (by omega)
  obtain ⟨y,hy⟩:=h n (by omega)
  refine ⟨l++[y],by simp [h1],fun i hi=>?_⟩
  by_cases hl:i<l.length
  ·rw [List.getElem_append_left hl];exact h2 i hl
  ·have:i=n:=by simp at hi;omega
   subst this
   rw [List.getElem_append_right (by omega)]
   simpa using hy
theorem Bd:∀ (n:Nat) (t:TypeId) (ty:Ty) (fuel:Nat) (cs:List Value) (x:DataW H×List MemPlace),yC P n t ty=true→DataW.trod en P w 0 spare held fuel t cs=some x →
 (x.1.weights P t).all (·≤reachBytes)=true→cs.length=ty.nc∧∃ y:ty.den,jl w (fE w) ty y (fun j=>cs.getD j undef) 0
 | 0,_,_,_,_,_,h,_,_=>by cases h
 | n+1,t,ty,fuel,cs,x,hc,ht,hw=>by
  unfold yC at hc;split at hc
  ·rename_i k k' hu
   obtain rfl:=fq hc;obtain ⟨m,rfl,rfl,hwf⟩:=DataW.trod_int hu ht;refine ⟨rfl,m,rfl,?_⟩;simp only [Lit.wf,bP,jH] at hwf;exact hwf
  ·rename_i hu
   obtain ⟨b,rfl,rfl⟩:=DataW.trod_bool hu ht;exact ⟨rfl,b,rfl⟩
  ·rename_i hu
   obtain ⟨s,rfl,rfl,hs⟩:=DataW.trod_string hu ht;refine ⟨rfl,d9 s,s,rfl,rfl,?_⟩
   have:(d9 s).length=s.size:=by simp only [d9,List.length_map,Array.length_toList];rfl
   rw [this];exact hs
  ·rename_i e a hu
   simp only [bP] at hc;obtain ⟨⟨⟨c1,c2⟩,c3⟩,c4⟩:=hc;have c2:=dM c2;have c3:=dM c3
   have c4:0<a.nc:=by rwa [Nat.blt_eq] at c4
   rcases DataW.trod_slice hu ht with ⟨rfl,rfl⟩ | ⟨ad,len,cap,elems,rest,m,rfl,rfl,rfl,_,hlc,_,hel,hread,_,_⟩
   ·refine ⟨rfl,([]:List a.den),none,0,0,rfl,rfl,by rw [Nat.zero_mul];exact fG _,dQ _,.inl rfl⟩
   ·simp only [DataW.weights,hu] at hw
    rw [List.all_cons,bP] at hw
    have hbig:len*a.pV≤big:=by
     have h1:=of_decide_eq_true hw.1;rw [c3] at h1;simp only [List.length_map] at h1
     have:len*a.pV≤(elems.length+rest.length)*a.pV:=sW _ (by omega)
     have:reachBytes≤big:=by decide
     omega
    have hwe:=(yX hw.2).1
    -- each element
    have each:∀ i,i<len→∃ y:a.den,ad.spot=none∧dK w (fE w) a y ad.block (ad.off+i*a.nc)∧ad.off+(i+1)*a.nc≤fE w ad.block:=by
     intro i hi;have hr:=hread i hi
     rw [List.getElem?_eq_getElem (by omega),Option.bind_eq_some_iff] at hr
     obtain ⟨cs',h1,h2⟩:=hr
     have hwi:((elems[i]'(by omega)).1.weights P e).all (·≤reachBytes)=true:=qI hwe _ (List.mem_map.2 ⟨_,List.getElem_mem _,rfl⟩)
     obtain ⟨l1,y,hy⟩:=Bd n e a m cs' _ c1 h2 hwi
     have hcell:∀ j,j<a.nc→w.cell? ((ad.add (i*P.cellsOf e)).add j)=some (cs'.getD j undef):=by
      intro j hj;obtain ⟨_,_,h3⟩:=World.cells?_some h1
      have:=h3 j (by omega)
      rw [this]
      simp [List.getD,show j<cs'.length by omega]
     have hspot:ad.spot=none:=by
      have hr0:=hread 0 (by omega)
      rw [List.getElem?_eq_getElem (by omega),Option.bind_eq_some_iff] at hr0
      obtain ⟨cs0,k1,_⟩:=hr0;obtain ⟨_,k2,k3⟩:=World.cells?_some k1
      have k4:=k3 0 (by omega)
      rw [Nat.zero_mul] at k4;have k5:Addr.add (Addr.add ad 0) 0=ad:=rfl
      rw [k5,List.getElem?_eq_getElem (by omega)] at k4
      unfold World.cell? at k4;split at k4
      ·cases hs:ad.spot with
       | none=>rfl
       | some z=>rw [hs] at k4;simp at k4
      ·cases k4
     obtain ⟨ab,ao,asp⟩:=ad;simp only at hspot;subst hspot
     have hadd:∀ j,(Addr.add (Addr.add ⟨ab,ao,none⟩ (i*P.cellsOf e)) j)=⟨ab,ao+i*a.nc+j,none⟩:=by
      intro j;rw [c2];unfold Addr.add
      split<;>split<;>simp_all<;>omega
     refine ⟨y,rfl,?_,?_⟩
     ·refine hy.mem fun j hj=>?_
      have:=hcell j hj;rw [hadd] at this;rw [this,Nat.zero_add]
     ·have:=hcell (a.nc - 1) (by omega)
      rw [hadd] at this;have:=Lh this;have e:(i+1)*a.nc=i*a.nc+a.nc:=Nat.succ_mul i a.nc;simp only;omega
    obtain ⟨l,hl,hall⟩:=Hg each;refine ⟨rfl,l,some ad,len,cap,rfl,hl.symm,hbig,hlc,?_⟩
    by_cases h0:len=0
    ·left
     exact List.length_eq_zero_iff.1 (by omega)
    ·right
     have hsp:=(hall 0 (by omega)).1
     obtain ⟨ab,ao,asp⟩:=ad;simp only at hsp;subst hsp
     refine ⟨ab,ao,rfl,?_,fun i hi=>(hall i hi).2.1⟩
     have:=(hall (len - 1) (by omega)).2.2
     rw [show len - 1+1=len by omega] at this
     exact this
  ·rename_i fs b c hu
   simp only [bP] at hc;obtain ⟨c1,c2⟩:=hc;have c2:=dM c2;obtain ⟨xs,m,rfl,rfl,hlen,hxl,hread⟩:=DataW.trod_struct hu ht;simp only [DataW.weights,hu] at hw
   refine ⟨by rw [hlen,c2];rfl,?_⟩
   -- the fields
   have fields:∀ (fl:List Field) (off:Nat) (c:Ty) (ys:List (DataW H×List MemPlace)),U7 (yC P n) P fl off c=true→fl.length=ys.length →
    (∀ (i:Nat) (f:Field),fl[i]? = some f→DataW.trod en P w 0 spare held m f.type ((cs.drop f.offset).take (P.cellsOf f.type))=ys[i]?) →
    (DataW.weightsEach P (fl.map (·.type)) (ys.map (·.1))).all (·≤reachBytes)=true→∃ y:c.den,jl w (fE w) c y (fun j=>cs.getD j undef) off:=by
    intro fl
    induction fl with
    | nil=>
     intro off c ys h1 _ _ _
     cases c with
     | unit=>exact ⟨(),trivial⟩
     | _=>cases h1
    | cons f r ih=>
     intro off c ys h1 h2 h3 h4
     cases c with
     | cons a b=>
      simp only [U7,bP] at h1;obtain ⟨⟨⟨g1,g2⟩,g3⟩,g4⟩:=h1;have g2:=dM g2;have g3:=dM g3
      cases ys with
      | nil=>simp at h2
      | cons y0 yr=>
       simp only [List.map_cons,DataW.weightsEach] at h4;obtain ⟨h4a,h4b⟩:=yX h4;have k0:=h3 0 f rfl;obtain ⟨l1,y,hy⟩:=Bd n f.type a m _ y0 g1 k0 h4a
       obtain ⟨z,hz⟩:=ih (off+a.nc) b yr g4 (by simpa using h2) (fun i f' hf'=>by simpa using h3 (i+1) f' (by simpa using hf')) h4b
       refine ⟨(y,z),hy.shift fun j hj=>?_,hz⟩
       rw [←g2,Nat.zero_add,g3];simp only [List.getD];rw [List.getElem?_take_of_lt hj,List.getElem?_drop]
     | _=>cases h1
   have:=fields fs.toList 0 c xs c1 (by simpa using hxl.symm) (fun i f hf=>hread i f (by simpa using hf)) hw
   exact this
  ·cases hc
end
def JD:Ty→List Lf
 | .int k=>[.int k]
 | .bool=>[.bool]
 | .str=>[.str]
 | .sl t=>[.sl 0 t]
 | .unit=>[]
 | .cons a b=>JD a++JD b
 | .st _ c=>JD c
 | .gM f t=>[.gM f t]
def tZ:Ty→Sh
 | .int k=>.lf (.int k)
 | .bool=>.lf .bool
 | .str=>.lf .str
 | .sl t=>.lf (.sl 0 t)
 | .st _ c=>.agg (JD c)
 | _=>.agg []
theorem Dm:∀ (a b:List Lf) (x:(fQ a).den) (y:(fQ b).den),∃ z:(fQ (a++b)).den,aN (a++b) z=aN a x++aN b y
 | [],_,_,y=>⟨y,rfl⟩
 | l::r,b,x,y=>by
  obtain ⟨z,hz⟩:=Dm r b x.2 y
  exact ⟨(x.1,z),by simp only [List.cons_append,aN,hz]⟩
theorem yY:∀ (c:Ty) (y:c.den),∃ z:(fQ (JD c)).den,aN (JD c) z=enc c y
 | .int k,y=>⟨(y,()),rfl⟩
 | .bool,y=>⟨(y,()),rfl⟩
 | .str,y=>⟨(y,()),rfl⟩
 | .sl t,y=>⟨(y,()),rfl⟩
 | .unit,_=>⟨(),rfl⟩
 | .cons a b,y=>by
  obtain ⟨z1,h1⟩:=yY a y.1;obtain ⟨z2,h2⟩:=yY b y.2;obtain ⟨z,h⟩:=Dm (JD a) (JD b) z1 z2
  exact ⟨z,by show aN (JD a++JD b) z=enc a y.1++enc b y.2;rw [h,h1,h2]⟩
 | .st _ c,y=>yY c y
 | .gM f t,y=>⟨(y,()),rfl⟩
section
variable {H:Type} {en:TypeId×Value→H} {P:Program} {w:World} {spare:Nat→Bool} {held:Bool} {pt:Nat→Nat→Option Value}
theorem yZ {ty:Ty} {y:ty.den} {v:Value} {d:D} (h:jl w (fE w) ty y (fun j=>#[v].toList.getD j undef) 0) (he:enc ty y=[d]):bO w (fE w) pt d v:=by
 have:=(h.leaf (pt:=pt) 0 (by rw [he];simp)).1
 simp only [he] at this;exact this
theorem NR {n:Nat} {t:TypeId} {ty:Ty} {v:Value} {d:DataW H} {p:List MemPlace} {base:Nat} (hc:yC P n t ty=true) (hok:Value.okWide P w .any base t v)
 (ht:DataW.Trod en P w 0 spare held t v d p) (hw:(d.weights P t).all (·≤reachBytes)=true):∃ x:(tZ ty).ty.den,bg w (fE w) pt ((tZ ty).con x) v:=by
 obtain ⟨fuel,ht⟩:=ht;obtain ⟨hl,y,hy⟩:=Bd n t ty fuel _ _ hc ht hw
 cases n with
 | zero=>cases hc
 | succ n=>
  unfold yC at hc;split at hc
  ·rename_i k k' hu
   obtain ⟨m,rfl⟩:=WideShapes.okWide_int hu hok;exact ⟨y,yZ (pt:=pt) hy rfl⟩
  ·rename_i hu
   obtain ⟨m,rfl⟩:=WideShapes.okWide_bool hu hok;exact ⟨y,yZ (pt:=pt) hy rfl⟩
  ·rename_i hu
   obtain ⟨m,rfl⟩:=WideShapes.okWide_string hu hok;exact ⟨y,yZ (pt:=pt) hy rfl⟩
  ·rename_i e a hu
   obtain ⟨ad,len,cap,rfl⟩:=WideShapes.okWide_slice hu hok;exact ⟨y,yZ (pt:=pt) hy rfl⟩
  ·rename_i fs b c hu
   obtain ⟨arr,rfl,hsz⟩:=WideShapes.okWide_struct hu hok;obtain ⟨z,hz⟩:=yY c y;refine ⟨z,?_⟩;refine ⟨arr,rfl,?_,?_⟩
   ·show arr.size=(aN (JD c) z).length
    rw [hz,jh]
    simpa [Value.cells,Ty.nc] using hl
   ·show aR w (fE w) pt (aN (JD c) z) (aS arr)
    rw [hz];intro j hj;have:=hy.leaf (pt:=pt) j hj
    have e:(Value.agg arr).cells.toList.getD (0+j) undef=aS arr j:=by
     rw [Nat.zero_add];simp [Value.cells,aS,List.getD,sJ]
    simp only [e] at this;exact this
  ·cases hc
def Lj (P:Program) (n:Nat):List TypeId→List Ty→Bool
 | [],[]=>true
 | t::ts,y::ys=>yC P n t y&&Lj P n ts ys
 | _,_=>false
theorem Hl:∀ {ts:List TypeId} {tys:List Ty} {vs:List Value} {ds:List (DataW H)} {p:List MemPlace} {base:Nat} {n:Nat},Lj P n ts tys=true →
 DataW.TrodAll en P w 0 spare held ts vs ds p→(∀ (j:Nat) (t:TypeId) (v:Value),ts[j]? = some t→vs[j]? = some v→Value.okWide P w .any base t v)→(DataW.weightsEach P ts ds).all (·≤reachBytes)=true →
 vs.length=tys.length∧ds.length=tys.length∧∃ x:(jT (tys.map tZ)).den,∀ i,i<tys.length→bg w (fE w) pt ((dn (tys.map tZ) x).getD i .undef) (vs.getD i undef)
 | [],[],vs,ds,p,base,n,_,h,_,_=>by
  cases vs with
  | nil=>
   cases ds with
   | nil=>exact ⟨rfl,rfl,(),fun i hi=>by simp at hi⟩
   | cons d r=>simp [DataW.TrodAll] at h
  | cons v r=>simp [DataW.TrodAll] at h
 | [],_::_,_,_,_,_,_,h,_,_,_=>by cases h
 | _::_,[],_,_,_,_,_,h,_,_,_=>by cases h
 | t::ts,ty::tys,vs,ds,p,base,n,hc,h,hok,hw=>by
  simp only [Lj,bP] at hc
  cases vs with
  | nil=>simp [DataW.TrodAll] at h
  | cons v vs=>
   cases ds with
   | nil=>simp [DataW.TrodAll] at h
   | cons d ds=>
    simp only [DataW.TrodAll] at h;obtain ⟨p1,q1,h1,h2,_⟩:=h;simp only [DataW.weightsEach] at hw;obtain ⟨w1,w2⟩:=yX hw;obtain ⟨x,hx⟩:=NR (pt:=pt) hc.1 (hok 0 t v rfl rfl) h1 w1
    obtain ⟨hlen,KM,z,hz⟩:=Hl hc.2 h2 (fun j t' v' hj hv=>hok (j+1) t' v' (by simpa using hj) (by simpa using hv)) w2
    refine ⟨by simp [hlen],by simp [KM],(x,z),fun i hi=>?_⟩
    cases i with
    | zero=>exact hx
    | succ i=>exact hz i (by simpa using hi)
end
mutual
def flat {H:Type}:DataW H→List Int
 | .lit (.int _ n)=>[n]
 | .agg parts=>Ll parts
 | _=>[]
def Ll {H:Type}:List (DataW H)→List Int
 | []=>[]
 | d::r=>flat d++Ll r
end
theorem Bf {H:Type}:∀ (l:List (DataW H)),Ll l=l.flatMap flat
 | []=>rfl
 | d::r=>by simp only [Ll,List.flatMap_cons,Bf r]
def Ho (P:Program) (k:IntKind):Nat→TypeId→Bool
 | 0,_=>false
 | n+1,t=>match P.underlying t with
  | some (.int k')=>jm k' k
  | some (.array len e)=>Ho P k n e&&Nat.beq (P.cellsOf t) (len*P.cellsOf e)
  | some (.struct fs)=>Nat.beq (P.cellsOf t) fs.size&&(List.range fs.size).all fun i=>match fs[i]? with
   | some f=>Ho P k n f.type&&Nat.beq f.offset i&&Nat.beq (P.cellsOf f.type) 1
   | none=>false
  | _=>false
theorem chunks {α β:Type} {g:β→List α} {c:Nat}:∀ {n:Nat} {cs:List α} {xs:List β},cs.length=n*c→xs.length=n→(∀ i (h:i<xs.length),(cs.drop (i*c)).take c=g xs[i])→cs=xs.flatMap g
 | 0,cs,xs,h1,h2,_=>by
  rw [Nat.zero_mul] at h1;rw [List.length_eq_zero_iff.1 h1,List.length_eq_zero_iff.1 h2];rfl
 | n+1,cs,xs,h1,h2,h3=>by
  cases xs with
  | nil=>simp at h2
  | cons x xr=>
   have h0:=h3 0 (by simp)
   rw [Nat.zero_mul,List.drop_zero] at h0
   have hr:cs.drop c=xr.flatMap g:=by
    refine chunks (n:=n) (c:=c) (by rw [List.length_drop,h1,Nat.succ_mul];omega) (by simpa using h2) fun i hi=>?_
    have:=h3 (i+1) (by simpa using hi)
    rw [List.drop_drop,show c+i*c=(i+1)*c by rw [Nat.succ_mul];omega]
    simpa using this
   have h0':g x=cs.take c:=h0.symm;rw [List.flatMap_cons,←hr,h0'];exact (List.take_append_drop c cs).symm
section
variable {H:Type} {en:TypeId×Value→H} {P:Program} {w:World} {spare:Nat→Bool} {held:Bool} {base:Nat}
theorem xC {k:IntKind}:∀ (n:Nat) (t:TypeId) (fuel:Nat) (cs:List Value) (x:DataW H×List MemPlace),Ho P k n t=true→DataW.trod en P w base spare held fuel t cs=some x →
 cs=(flat x.1).map (Value.int k)∧∀ m∈flat x.1,k.has m
 | 0,_,_,_,_,h,_=>by cases h
 | n+1,t,fuel,cs,x,hc,ht=>by
  unfold Ho at hc;split at hc
  ·rename_i k' hu
   obtain rfl:=fq hc;obtain ⟨m,rfl,rfl,hwf⟩:=DataW.trod_int hu ht
   refine ⟨rfl,fun i hi=>?_⟩
   simp only [flat,List.mem_cons,List.not_mem_nil,or_false] at hi;subst hi;simp only [Lit.wf,bP,jH] at hwf;exact hwf
  ·rename_i len e hu
   simp only [bP] at hc;obtain ⟨c1,c2⟩:=hc;have c2:=dM c2;obtain ⟨xs,m,rfl,rfl,hl,hxl,hread⟩:=DataW.trod_array hu ht
   have each:∀ i (h:i<xs.length),(cs.drop (i*P.cellsOf e)).take (P.cellsOf e)=(flat xs[i].1).map (Value.int k)∧∀ m∈flat xs[i].1,k.has m:=by
    intro i hi
    have:=hread i (by omega)
    rw [List.getElem?_eq_getElem hi] at this;exact xC n e m _ _ c1 this
   simp only [flat,Bf];constructor
   ·have:=chunks (g:=fun (x:DataW H×List MemPlace)=>(flat x.1).map (Value.int k)) (c:=P.cellsOf e) (n:=len) (cs:=cs) (xs:=xs) (by rw [hl,c2]) hxl (fun i hi=>(each i hi).1)
    rw [this,List.flatMap_map,List.map_flatMap]
   ·intro m hm
    rw [List.flatMap_map,List.mem_flatMap] at hm;obtain ⟨y,hy,hm⟩:=hm;obtain ⟨i,hi,rfl⟩:=List.getElem_of_mem hy;exact (each i hi).2 m hm
  ·rename_i fs hu
   simp only [bP] at hc;obtain ⟨c1,c2⟩:=hc;have c1:=dM c1;obtain ⟨xs,m,rfl,rfl,hl,hxl,hread⟩:=DataW.trod_struct hu ht
   have each:∀ i (h:i<xs.length),(cs.drop (i*1)).take 1=(flat xs[i].1).map (Value.int k)∧∀ m∈flat xs[i].1,k.has m:=by
    intro i hi
    have hif:i<fs.size:=by omega
    have hci:=List.all_eq_true.1 c2 i (List.mem_range.2 hif);rw [Array.getElem?_eq_getElem hif] at hci;simp only [bP] at hci;have o1:=dM hci.1.2;have o2:=dM hci.2;have:=hread i fs[i] (Array.getElem?_eq_getElem hif);rw [List.getElem?_eq_getElem hi,o1,o2] at this;rw [Nat.mul_one];exact xC n _ m _ _ hci.1.1 this
   simp only [flat,Bf];constructor
   ·have:=chunks (g:=fun (x:DataW H×List MemPlace)=>(flat x.1).map (Value.int k)) (c:=1) (n:=fs.size) (cs:=cs) (xs:=xs) (by rw [hl,c1,Nat.mul_one]) hxl (fun i hi=>(each i hi).1)
    rw [this,List.flatMap_map,List.map_flatMap]
   ·intro m hm
    rw [List.flatMap_map,List.mem_flatMap] at hm;obtain ⟨y,hy,hm⟩:=hm;obtain ⟨i,hi,rfl⟩:=List.getElem_of_mem hy;exact (each i hi).2 m hm
  ·cases hc
end
theorem NS {P:Program} {W:World} {name:String} {d:DataW Unit} {rest:List (String×DataW Unit)} {ps:List MemPlace} {k:IntKind} {n:Nat} {g:Nat} {t:TypeId} (h:DataW.LaidVars P W ((name,d)::rest) ps)
 (hg:P.globalNamed name=some g) (ht:(P.globals[g]?).map (·.type)=some t) (hc:Ho P k n t=true) :
 (flat d).length≤fE W g∧∀ j (hj:j<(flat d).length),W.cell? ⟨g,j,none⟩=some (.int k (flat d)[j])∧k.has (flat d)[j]:=by
 obtain ⟨g',t',cs,fuel,p,q,hg',ht',hvar,hd,_,_⟩:=h;obtain rfl:=Option.some.inj (hg.symm.trans hg');obtain rfl:=Option.some.inj (ht.symm.trans ht');obtain ⟨h1,h2⟩:=xC n t fuel _ _ hc hd
 have hcell:∀ j (hj:j<(flat d).length),W.cell? ⟨g,j,none⟩=some (.int k (flat d)[j]):=by
  intro j hj;rw [World.var?_cell hg hvar j,←Array.getElem?_toList,h1];simp [hj]
 refine ⟨?_,fun j hj=>⟨hcell j hj,h2 _ (List.getElem_mem hj)⟩⟩
 by_cases h0:(flat d).length=0
 ·omega
 ·have:=Lh (hcell ((flat d).length - 1) (by omega))
  omega
theorem za:∀ c:Ty,(JD c).all kV=true
 | .int _=>rfl
 | .bool=>rfl
 | .str=>rfl
 | .sl _=>rfl
 | .unit=>rfl
 | .cons a b=>by
  simp only [JD,List.all_append,za a,za b,Bool.and_self]
 | .st _ c=>by
  simp only [JD];exact za c
 | .gM _ _=>rfl
theorem JE (t:Ty):vk (tZ t)=true:=by
 cases t<;>first | rfl | exact za _
theorem Hq (l:List Ty):(l.map tZ).all vk=true:=by
 simp only [List.all_eq_true,List.mem_map];rintro _ ⟨t,_,rfl⟩;exact JE t
def jd (ps:List Sh):aY:={ bZ:=false,pre:=[],ps:=ps,rs:=.one (.lf .bool),post:=[],F:=fun _=>some (true,()) }
theorem NT {P:Program} {E:Env} {f:Nat} {ps:List Sh} (H:gy P E f (jd ps)) (o2:ps.all vk=true) {W:World} {args:Array Value} (hsz:args.size=ps.length) {x:(jT ps).den}
 (hargs:∀ i,i<ps.length→bg W (fE W) (fun _ _=>none) ((dn ps x).getD i .undef) (args.toList.getD i undef))
 (hgl:∀ g k l,E.glob g=some (k,l)→l.length≤fE W g∧∀ j (h:j<l.length),W.cell? ⟨g,j,none⟩=some (.int k l[j])∧k.has l[j]) :
 Calls P f args W fun e W'=>e = .returned (.bool true)∧RowKit.Below W.heap.size W W':=by
 have hok:=H.ok;simp only [aY.ok,bP,jd] at hok
 have QE:(jd ps).num=ps.length:=by simp [aY.num,jd]
 have gE:∀ k,get (bY (jd ps) ((),x)) k=get (jE 0 (dn ps x)++[]) k:=by
  intro k;unfold bY;simp only [jd,bU,kI,List.append_nil]
 have hl:=gY ps x
 have GU:∀ t,get (bY (jd ps) ((),x)) (2*t)=if t<ps.length then (dn ps x).getD t .undef else .undef:=by
  intro t;rw [gE,gP]
  have e1:2*t%2=0:=by omega
  have e2:2*t / 2=t:=by omega
  simp only [e1,e2,hl,fG,Nat.zero_add,true_and,Nat.sub_zero]
  by_cases h:t<ps.length
  ·rw [if_pos h,if_pos h]
  ·rw [if_neg h,if_neg h];rfl
 have w9:∀ i,get (bY (jd ps) ((),x)) (2*i+1) = .undef:=by
  intro i
  rw [gE,gP,if_neg (by omega)]
  rfl
 let C:Ctx:={ m:=2,w0:=W,G0:=fE W,X:=fun _=>False,pin:=none }
 have tz:∀ b,TC (uG E (jd ps).num false).n C.m (bY (jd ps) ((),x)) { tmps:=args,defers:=[] } W (fun _ _=>none) b=0:=by
  intro b;unfold TC
  have e1:dh (uG E (jd ps).num false).n (cT (bY (jd ps) ((),x)) { tmps:=args,defers:=[] } b)=0:=by
   refine oq fun t _=>?_
   simp only [cT];rw [GU]
   by_cases h:t<ps.length
   ·rw [if_pos h]
    obtain ⟨p,y,h1,h2⟩:=qF ps x t h;rw [h2];exact GY (List.all_eq_true.1 o2 p h1) y b _
   ·rw [if_neg h];exact dX b _
  have e2:dh C.m (cB (bY (jd ps) ((),x)) W (fun _ _=>none) b)=0:=by
   refine oq fun i _=>?_
   simp only [cB];rw [w9];rfl
  rw [e1,e2]
 have R:Rel (uG E (jd ps).num false) C (bY (jd ps) ((),x)) { tmps:=args,defers:=[] } W (fE W) (fun _ _=>none):=by
  refine ⟨by simp [uG,QE,hsz],rfl,fun t=>?_,fun i=>?_,fun t ht=>?_,fun i _=>w9 i,fun b=>by rw [tz];exact fG _,fun b hb=>by rw [tz] at hb;omega,fun b _ _=>⟨rfl,rfl⟩,Ext.refl _ _,fun b hb=>?_,
   rfl,rfl,rfl,dQ _,fun _ _ _=>rfl,hgl,fun v hv=>by cases hv⟩
  ·rw [GU]
   by_cases h:t<ps.length
   ·rw [if_pos h]
    have:=hargs t h
    have e:args.toList.getD t undef=args.getD t undef:=by simp [List.getD,sJ]
    rw [e] at this;exact this
   ·rw [if_neg h];trivial
  ·rw [w9];trivial
  ·have:ps.length≤t:=by simpa [uG,QE] using ht
   rw [GU,if_neg (by omega)]
  ·unfold fE
   rw [Array.getElem?_eq_none hb]
 refine H.sem rfl ((),x) (true,()) rfl C args W (fE W) (fun _ _=>none) rfl (.inl rfl) (by rw [QE];exact hsz) R _ (fun vs w' G' bX R2=>?_)
 have hvs:vs.size=1:=R2.sz;have hv:=R2.tm 0;have hg:get (gK (jd ps) (true,())) (2*0) = .bool true:=rfl;rw [hg] at hv;have hv:vs.getD 0 undef = .bool true:=hv
 refine ⟨by rw [tT hvs,hv],⟨R2.os,R2.tape,R2.out,R2.hs,fun k hk=>(R2.fr k hk (fun h=>h)).1⟩⟩
end Go.gI
namespace Go.gI
open Go.RowKit Go.ChangeShapes Go.WideShapes
theorem sS {H:Type} {enc:TypeId×Value→H} {P:Program} {W W':World} (hl:laidOutB P=true) (hb:Below W.heap.size W W'):∀ {ts:List TypeId} {vs:List Value} {ds:List (DataW H)} {p:List MemPlace},
 (∀ t∈ts,P.readableRec t=true∧t<P.types.size)→DataW.TrodAll enc P W 0 (fun _=>true) true ts vs ds p→(∀ x∈p,x.block<W.heap.size) →
 DataW.TrodAll enc P W' 0 (fun b=>decide (b<W.heap.size)) true ts vs ds p
 | [],[],[],p,_,h,_=>h
 | [],[],_::_,_,_,h,_=>by simp [DataW.TrodAll] at h
 | [],_::_,_,_,_,h,_=>by simp [DataW.TrodAll] at h
 | _::_,[],_,_,_,h,_=>by simp [DataW.TrodAll] at h
 | _::_,_::_,[],_,_,h,_=>by simp [DataW.TrodAll] at h
 | t::ts,v::vs,d::ds,p,hr,h,hlt=>by
  simp only [DataW.TrodAll] at h ⊢;obtain ⟨p1,q1,h1,h2,rfl⟩:=h
  exact ⟨p1,q1,Below.trod hl (hr t (by simp)).1 (hr t (by simp)).2 h1 hb (fun x hx=>hlt x (List.mem_append.2 (.inl hx))),
   sS hl hb (fun t' ht=>hr t' (oH _ ht)) h2 (fun x hx=>hlt x (List.mem_append.2 (.inr hx))),rfl⟩
theorem QV {H:Type} {enc:TypeId×Value→H} {P:Program} {f:Func} {s:ChangeSpec} {apart fresh handsOn:Bool} {W W':World} {args:Array Value} {ds gs:List (DataW H)} {before:List MemPlace} {tb:TypeId}
 (hl:laidOutB P=true) (hr:(f.params.toList.all fun t=>P.readableRec t&&Nat.blt t P.types.size)=true) (hs:s.vars=[]) (hW:DataW.Whole enc P f.params.toList s.vars apart W args.toList ds gs before) (hres:f.resultTypes = #[tb]) (htb:P.underlying tb=some .bool)
 (hfn:s.fn H ds={ results:=[.lit (.bool true)],args:=ds }) (hb:Below W.heap.size W W'):s.post enc P f apart fresh handsOn false W args (.bool true) W':=by
 have hlt:=hW.lt;have hW':=hW;obtain ⟨p,q,hA,hV,rfl,hfz,hnd⟩:=hW;rw [hs] at hV;obtain ⟨rfl,rfl⟩:=trodVars_none hV
 refine ⟨ds,[],_,[],p,[],hW',?_,?_,?_,hb.frame _,fun h=>by cases h⟩
 ·rw [List.append_nil,hfn,hres]
  exact trodAll_mk1 (shut_bool htb true)
 ·rw [List.append_nil,hfn]
  exact sS hl hb (fun t ht=>by
   have:=List.all_eq_true.1 hr t ht;rw [bP,Nat.blt_eq] at this
   exact this) hA fun x hx=>hlt x (by simpa using hx)
 ·rw [List.append_nil,hfn,hs]
  rfl
theorem U9 {H:Type} {enc:TypeId×Value→H} {P:Program} {E:Env} {fid:Nat} {f:Func} {s:ChangeSpec} {apart fresh handsOn:Bool} {W:World} {base:Nat} {args:Array Value} {ds gs:List (DataW H)} {before:List MemPlace} {tb:TypeId} {ps:List Sh} (n:Nat) (tys:List Ty)
 (Hf:gy P E fid (jd ps)) (hps:ps=tys.map tZ) (hl:laidOutB P=true) (hr:(f.params.toList.all fun t=>P.readableRec t&&Nat.blt t P.types.size)=true) (hty:Lj P n f.params.toList tys=true)
 (hs:s.vars=[]) (hres:f.resultTypes = #[tb]) (htb:P.underlying tb=some .bool) (hfn:∀ ds:List (DataW H),ds.length=tys.length→s.fn H ds={ results:=[.lit (.bool true)],args:=ds })
 (hgl:∀ g k l,E.glob g=some (k,l)→l.length≤fE W g∧∀ j (h:j<l.length),W.cell? ⟨g,j,none⟩=some (.int k l[j])∧k.has l[j])
 (hval:∀ (j:Nat) (t:TypeId) (v:Value),f.params[j]? = some t→args[j]? = some v→Value.okWide P W .any base t v) (hW:DataW.Whole enc P f.params.toList s.vars apart W args.toList ds gs before)
 (hwt:(DataW.weightsEach P (f.params.toList++s.plain.varTypes P) (ds++gs)).all (·≤reachBytes)=true):Calls P fid args W fun e W'=>∃ v,e = .returned v∧s.post enc P f apart fresh handsOn false W args v W':=by
 have hW':=hW;obtain ⟨p,q,hA,hV,hbf,hfz,hnd⟩:=hW;have hV':=hV;rw [hs] at hV';obtain ⟨rfl,rfl⟩:=trodVars_none hV'
 have hvt:s.plain.varTypes P=[]:=by simp [ChangeSpec.plain,DataSpec.varTypes,hs]
 rw [hvt,List.append_nil,List.append_nil] at hwt
 obtain ⟨hlen,KM,x,hx⟩:=Hl (pt:=fun _ _=>none) hty hA (fun j t v h1 h2=>hval j t v (by simpa using h1) (by simpa using h2)) hwt
 subst hps
 refine (NT Hf (Hq _) (by rw [List.length_map,←hlen];simp) (x:=x) (fun i hi=>hx i (by simpa using hi)) hgl).mono fun e W' he=>?_
 obtain ⟨he,hb⟩:=he;exact ⟨_,he,QV hl hr hs hW' hres htb (hfn ds KM) hb⟩
end Go.gI
namespace Go.gI
open Go.RowKit
section
variable {P:Program} {E E':Env} {C:Ctx} {s s':St} {a:Act} {w w':World} {G:Nat→Nat} {pt:Nat→Nat→Option Value}
theorem Rel.below {E1:Env} {w0:World} {G0:Nat→Nat} (R:Rel E1 { m:=2,w0:=w0,G0:=G0,X:=fun _=>False,pin:=none } s a w G pt):Below w0.heap.size w0 w:=
 ⟨R.os,R.tape,R.out,R.hs,fun k hk=>(R.fr k hk (fun h=>h)).1⟩
theorem Rel.done (R:Rel E C s a w G pt) (hb:Below w.heap.size w w') (hs:∀ id,get s (2*id+1) = .undef) {n:Nat} {vs:Array Value} (hsz:vs.size=n)
 (hrep:∀ t,bg w' G pt (get s' (2*t)) (vs.getD t undef)) (hz:∀ t b,dN b (get s' (2*t)) (vs.getD t undef)=0)
 (hbx:∀ id,get s' (2*id+1) = .undef) (hhi:∀ t,n≤t→get s' (2*t) = .undef) (hg:E'.glob=E.glob) (hn:E'.n=n) :
 Rel E' C s' { tmps:=vs,defers:=[] } w' G pt:=by
 have htc:∀ b,TC E'.n C.m s' { tmps:=vs,defers:=[] } w' pt b=0:=fun b=>by
  unfold TC
  rw [oq fun i _=>by rw [cT];exact hz i b,oq fun i _=>by rw [cB,hbx];rfl]
 have hc:∀ b o,o<G b→w'.cell? ⟨b,o,none⟩=w.cell? ⟨b,o,none⟩:=fun b o h=>by
  have hlt:b<w.heap.size:=by
   rcases Nat.lt_or_ge b w.heap.size with h1 | h1
   ·exact h1
   ·have:=R.gz b h1;omega
  exact cell_of_heap (hb.block b hlt) o
 refine ⟨by rw [hn];exact hsz,rfl,hrep,fun id=>by rw [hbx];trivial,fun t ht=>hhi t (by omega),fun id _=>hbx id,fun b=>by rw [htc b];omega,fun b h=>?_,fun b h1 h2=>?_,
  R.ex.trans ⟨hc,fun _=>dQ _⟩,fun b h=>R.gz b (by have:=hb.size;omega),hb.os.trans R.os,hb.output.trans R.out,hb.tape.trans R.tape,jQ R.hs hb.size,fun id st h=>?_,fun g k l h=>?_,R.pn⟩
 ·rw [htc b] at h;omega
 ·obtain ⟨h3,h4⟩:=R.fr b h1 h2
  exact ⟨(hb.block b (nG h1 R.hs)).trans h3,h4⟩
 ·refine R.pf id st ?_
  rw [hs];rw [hbx] at h;exact h
 ·rw [hg] at h
  obtain ⟨h1,h2⟩:=R.gl g k l h
  refine ⟨h1,fun j hj=>?_⟩
  rw [hc g j (by omega)]
  exact h2 j hj
end
end Go.gI
namespace Go.gI
open Go
end Go.gI
namespace Go.gI
section
variable {P:Program} {E:Env}
end
end Go.gI