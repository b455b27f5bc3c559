/- The abstract evaluator, part 4: proved is that calls and whole functions do what their contracts say, and how a law's contract gives the row's statement; no conditions but those that each theorem states. -/
import Derived.Test.YtmpfafdaadhabaaGreatDoorAbsC
import Derived.ProofKit
import Derived.Below
import Derived.OpenShut
import Derived.Carry
import Derived.RowKit
import Derived.Handed
set_option linter.unusedVariables false
set_option linter.unusedSimpArgs false
namespace Go.aW
def mZ (E:Env) (n:Nat) (hp:Bool):Env:={ T:=fun _=>none,md:=fun _=>0,glob:=E.glob,n:=n,hp:=hp }
def iN:Nat→List D→St
  | _,[]=>[]
  | i,d::r=>(2*i,d)::iN (i+1) r
def WI:(rs:RS)→rs.ty.den→St
  | .none,_=>[]
  | .one p,x=>[(0,p.con x)]
  | .gB l,x=>iN 0 (bP l x)
  | .sQ ls,x=>[(3,.aH 1 true (aL ls x)),(0,.ptr 1 1 0)]
def RS.num:RS→Nat
  | .none=>0
  | .one _=>1
  | .gB l=>l.length
  | .sQ _=>1
def fU (c:aR) (y:(Ty.cons c.rs.ty (eD c.post)).den):St:=
  (bif c.aG then [(1,.aH 1 true (aL c.post y.2))] else [])++WI c.rs y.1
def aR.num (c:aR):Nat:=(bif c.aG then 1 else 0)+c.ps.length
def gG (vs:Array Value):Value:=if h:vs.size=1 then vs[0] else .tuple vs
def iL (P:Program) (E:Env) (f:Nat) (c:aR):Prop:=
  ∀ x y,c.F x=some y→∀ (C:Ctx) (args:Array Value) (w:World) (G:Nat→Nat) (pt:Nat→Nat→Option Value),
    C.m=2→(C.pin=none∨c.aG=true)→args.size=c.num→Rel (mZ E c.num c.aG) C (bg c x) { tmps:=args,defers:=[] } w G pt →
    ∀ (K:Ending→World→Prop),(∀ (vs:Array Value) w' G' bJ,Rel (mZ E c.rs.num c.aG) C (fU c y) { tmps:=vs,defers:=[] } w' G' bJ→K (.returned (gG vs)) w') →
      Calls P f args w K
theorem jl {n:Nat} {f:Nat→Nat} (h:∀ i,i<n→f i=0):bK n f=0:=by
  induction n with
  | zero=>rfl
  | succ n ih=>simp only [bK];rw [ih fun i hi=>h i (by omega),h n (by omega)]
theorem kJ {n m:Nat} {f:Nat→Nat} (h:n≤m) (hz:∀ i,n≤i→f i=0):bK m f=bK n f:=by
  induction m with
  | zero=>
    have:n=0:=by omega
    subst this;rfl
  | succ m ih=>
    by_cases hn:n=m+1
    · subst hn;rfl
    · simp only [bK]
      rw [ih (by omega),hz m (by omega)]
      rfl
theorem Rv {n:Nat} {f g:Nat→Nat} (h:∀ i,i<n→f i≤g i):bK n f≤bK n g:=by
  induction n with
  | zero=>exact Nat.le_refl _
  | succ n ih=>simp only [bK];exact Nat.add_le_add (ih fun i hi=>h i (by omega)) (h n (by omega))
theorem Nq (n:Nat) (f:Nat→Nat):bK (2*n) f=bK n (fun i=>f (2*i))+bK n (fun i=>f (2*i+1)):=by
  induction n with
  | zero=>rfl
  | succ n ih=>
    rw [show 2*(n+1)=2*n+1+1 from by omega]
    simp only [bK]
    omega
theorem vI {f:Nat→Nat}:∀ {n:Nat} {l:List Nat},l.Nodup→(∀ i∈l,i<n)→(l.map f).sum≤bK n f
  | 0,[],_,_=>Nat.le_refl _
  | 0,x::r,_,h=>by have:=h x (by simp);omega
  | n+1,l,hn,h=>by
    simp only [bK]
    by_cases hm:n∈l
    · have hp:=List.perm_cons_erase hm
      have e:(l.map f).sum=f n+((l.erase n).map f).sum:=by
        rw [(hp.map f).sum_nat];simp
      have hn2:(l.erase n).Nodup:=hn.erase n
      have ih:=vI (f:=f) (n:=n) hn2 (fun i hi=>by
        have h1:=h i (List.mem_of_mem_erase hi)
        have h2:i≠n:=fun he=>by
          subst he
          exact (List.Nodup.not_mem_erase hn) hi
        omega)
      omega
    · have ih:=vI (f:=f) (n:=n) hn (fun i hi=>by
        have h1:=h i hi
        have h2:i≠n:=fun he=>hm (he▸hi)
        omega)
      omega
section
variable {P:Program} {E E':Env} {C C':Ctx} {s s':St} {a a':Act} {w:World} {G:Nat→Nat} {pt bJ:Nat→Nat→Option Value}
theorem Rel.make (R:Rel E C s a w G pt) (hg:E'.glob=E.glob) (h1:C'.w0=C.w0) (h2:C'.G0=C.G0) (h3:C'.X=C.X) (sz:a'.tmps.size=E'.n) (df:a'.defers=[])
    (tm:∀ t,aY w G bJ (get s' (2*t)) (a'.tmps.getD t undef)) (bx:∀ id,oD w G bJ id (get s' (2*id+1)))
    (ht:∀ t,E'.n≤t→get s' (2*t) = .undef) (hb:∀ id,C'.m≤id→get s' (2*id+1) = .undef)
    (tc:∀ b,TC E'.n C'.m s' a' w bJ b≤TC E.n C.m s a w pt b)
    (pf:∀ id st,aI (get s' (2*id+1))<st→bJ id st=none) (pn:∀ v,C'.pin=some v→bJ 0 1=some v):Rel E' C' s' a' w G bJ:=by
  refine ⟨sz,df,tm,bx,ht,hb,fun b=>Nat.le_trans (tc b) (R.ct b),fun b hb=>?_,?_,?_,R.gz,by rw [h1];exact R.os,by rw [h1];exact R.out,by rw [h1];exact R.tape,by rw [h1];exact R.hs,pf,by rw [hg];exact R.gl,pn⟩
  · rw [h1,h3];exact R.cb b (Nat.lt_of_lt_of_le hb (tc b))
  · rw [h1,h2,h3];exact R.fr
  · rw [h1,h2];exact R.ex
def cK (s:St) (a:Act) (w:World) (pt:Nat→Nat→Option Value) (b k:Nat):Nat:=
  if k%2=1 then cB s w pt b (k / 2) else cT s a b (k / 2)
theorem Rel.Jl (R:Rel E C s a w G pt) (b:Nat) {ks:List Nat} (hn:ks.Nodup):(ks.map (cK s a w pt b)).sum≤TC E.n C.m s a w pt b:=by
  obtain ⟨M,hM1,hM2,hM3⟩:∃ M,E.n≤M∧C.m≤M∧∀ k∈ks,k<2*M:=by
    have:∃ M,∀ k∈ks,k<M:=by
      clear hn
      induction ks with
      | nil=>exact ⟨0,fun k hk=>by simp at hk⟩
      | cons x r ih=>
        obtain ⟨M,h⟩:=ih
        refine ⟨M+x+1,fun k hk=>?_⟩
        rcases List.mem_cons.1 hk with rfl | hk
        · omega
        · have:=h k hk;omega
    obtain ⟨M,h⟩:=this
    exact ⟨E.n+C.m+M,by omega,by omega,fun k hk=>by have:=h k hk;omega⟩
  refine Nat.le_trans (vI hn hM3) ?_
  rw [Nq]
  unfold TC
  refine Nat.add_le_add ?_ ?_
  · rw [aM (g:=cT s a b) fun i _=>by simp [cK]]
    rw [kJ hM1 fun i hi=>by rw [cT,R.ht i hi];exact dG b _]
    exact Nat.le_refl _
  · rw [aM (g:=cB s w pt b) fun i _=>by
      have h1:(2*i+1)%2=1:=by omega
      have h2:(2*i+1) / 2=i:=by omega
      simp [cK,h1,h2]]
    rw [kJ hM2 fun i hi=>by rw [cB,R.hb i hi];rfl]
    exact Nat.le_refl _
end
theorem fq {rest:St}:∀ {ds:List D} {i:Nat} (k:Nat),get (iN i ds++rest) k=if k%2=0∧i≤k / 2∧k / 2<i+ds.length then ds.getD (k / 2 - i) .undef else get rest k
  | [],i,k=>by
    rw [if_neg (by rintro ⟨_,h2,h3⟩;simp only [List.length_nil] at h3;omega)];rfl
  | d::r,i,k=>by
    simp only [iN,List.cons_append]
    rw [aF,fq (ds:=r) (i:=i+1) k]
    by_cases hk:k=2*i
    · subst hk
      rw [if_pos rfl,if_pos (by simp)]
      have:2*i / 2 - i=0:=by omega
      rw [this];rfl
    · rw [if_neg hk]
      simp only [List.length_cons]
      by_cases h:k%2=0∧i+1≤k / 2∧k / 2<i+1+r.length
      · rw [if_pos h,if_pos (by omega)]
        have:k / 2 - i=(k / 2 - (i+1))+1:=by omega
        rw [this];rfl
      · rw [if_neg h,if_neg (by omega)]
theorem fK:∀ (l:List Sh) (x:(iT l).den),(bP l x).length=l.length
  | [],_=>rfl
  | p::r,x=>by simp [bP,fK r x.2]
theorem jh:∀ (l:List Sh) (x:(iT l).den) (i:Nat),sZ i l x=iN i (bP l x)
  | [],_,_=>rfl
  | p::r,x,i=>by simp only [sZ,bP,iN,jh r x.2 (i+1)]
end Go.aW
namespace Go.aW
section
variable {P:Program} {E E':Env} {C C':Ctx} {s s':St} {a a':Act} {w:World} {G:Nat→Nat} {pt bJ:Nat→Nat→Option Value}
theorem Nr {b id blk:Nat} {st:Nat} {cs:List D} (hblk:bA (pt id st)=some blk):aK b cs (aC w blk)≤fI w pt b id (.aH st true cs):=by
  simp only [fI,hblk,Option.getD_some]
  omega
def nW (a:Act):ResultVar→Sem Value
  | .tmp t=>pure (a.tmps.getD t undef)
  | .cell x t=>do loadVar t (←asAddr (a.tmps.getD x undef))
theorem KS (HP:nM P E) (R:Rel E C s a w G pt) {rv:ResultVar} {d:D} (h:Rm E s rv=some d) :
    ∃ v,(nW a rv).run P w = .ok v w∧aY w G pt d v∧∀ b,cO b d v≤cK s a w pt b (GL s rv):=by
  cases rv with
  | tmp t=>
    simp only [Rm,Option.some.injEq] at h
    subst h
    refine ⟨_,rfl,R.tm t,fun b=>?_⟩
    have h1:2*t%2=0:=Nat.mul_mod_right 2 t
    have h2:2*t / 2=t:=Nat.mul_div_cancel_left t (by decide)
    simp [GL,cK,h1,h2,cT]
  | cell t' T=>
    simp only [Rm] at h
    split at h
    · rename_i id st off i hp hT
      split at h
      · rename_i st' cs hb
        cases hc:(Nat.beq st st' && Nat.beq off 0&&Nat.beq cs.length i.size) with
        | false=>rw [hc] at h;cases h
        | true=>
          rw [hc] at h
          simp only [cond_true] at h
          simp only [Bool.and_eq_true] at hc
          obtain ⟨⟨h1,h2⟩,h3⟩:=hc
          have h1:=Nat.eq_of_beq_eq_true h1
          have h2:=Nat.eq_of_beq_eq_true h2
          have h3:=Nat.eq_of_beq_eq_true h3
          subst h1;subst h2
          have hv:=R.tm t'
          rw [hp] at hv
          obtain ⟨blk,hblk,hv⟩:=hv
          have hB:=R.bx id
          rw [hb] at hB
          obtain ⟨b',q1,q2,q3,q4⟩:=hB rfl
          have:b' = blk:=by
            rw [q1] at hblk
            simpa [bA] using hblk
          subst this
          have hT':=HP.ti _ _ hT
          have hrun:=oQ (P:=P) (w:=w) hT' (b:=b') (off:=0) (f:=aC w b') (fun j hj=>by rw [Nat.zero_add];exact kF q2 (by omega))
          obtain ⟨r1,r2⟩:=jv h h3 q4
          refine ⟨_,?_,r1,fun b=>?_⟩
          · simp only [nW,hv,asAddr,pure_bind]
            exact hrun
          · rw [r2 b]
            have e1:(2*id+1)%2=1:=by omega
            have e2:(2*id+1) / 2=id:=by omega
            simp only [GL,hp,cK,e1,e2,if_true,cB,hb]
            exact Nr hblk
      · rename_i st' t l hb
        cases hc:(Nat.beq st st' && Nat.beq off 0&&i.agg&&Nat.beq t.nc 1&&Nat.beq l.length i.size) with
        | false=>rw [hc] at h;cases h
        | true=>
          rw [hc] at h
          simp only [cond_true,Option.some.injEq] at h
          simp only [Bool.and_eq_true] at hc
          obtain ⟨⟨⟨⟨h1,h2⟩,h3⟩,h4⟩,h5⟩:=hc
          have h1:=Nat.eq_of_beq_eq_true h1
          have h2:=Nat.eq_of_beq_eq_true h2
          have h4:=Nat.eq_of_beq_eq_true h4
          have h5:=Nat.eq_of_beq_eq_true h5
          subst h1;subst h2
          have hd:(∀ v,aY w G pt (.agg (l.flatMap (enc t))) v→aY w G pt d v)∧∀ b v,cO b (.agg (l.flatMap (enc t))) v=0→cO b d v=0:=by
            unfold TU at h
            cases hbl:Nat.blt 64 i.size with
            | true=>
              rw [hbl] at h
              subst h
              exact ⟨fun v hv=>Er hv,fun b v hv=>IY hv⟩
            | false=>
              rw [hbl] at h
              simp only [cond_false] at h
              rw [Ce _ _ (by omega),List.drop_zero,←h5,List.take_length] at h
              subst h
              exact ⟨fun v hv=>hv,fun b v hv=>hv⟩
          have hv:=R.tm t'
          rw [hp] at hv
          obtain ⟨blk,hblk,hv⟩:=hv
          obtain ⟨g1,g2,g3⟩:=jO R hb hblk
          obtain ⟨f1,f2,f3⟩:=Eo (pt:=pt) h4 g1
          have hfl:=sH t l h4
          have hT':=HP.ti _ _ hT
          have hrun:=oQ (P:=P) (w:=w) hT' (b:=blk) (off:=0) (f:=fun j=>aC w blk (0+j)) (fun j hj=>f3 j (by omega))
          obtain ⟨r1,r2⟩:=jv (w:=w) (G:=G) (pt:=pt) (agg:=true) (n:=i.size) (ds:=l.flatMap (enc t)) (d:=.agg (l.flatMap (enc t))) (f:=fun j=>aC w blk (0+j)) rfl (by omega) (fun j hj=>⟨(f1 j hj).1,(f1 j hj).2.1⟩)
          refine ⟨_,?_,hd.1 _ r1,fun b=>?_⟩
          · simp only [nW,hv,asAddr,pure_bind]
            rw [h3] at hrun
            exact hrun
          · rw [hd.2 b _ (by rw [r2 b,f2 b])]
            exact Nat.zero_le _
      · cases h
    · cases h
theorem tL (HP:nM P E) (R:Rel E C s a w G pt):∀ {l:List ResultVar} {ds:List D},vC E s l=some ds →
    ∃ vs:List Value,vs.length=l.length∧ds.length=l.length∧(l.mapM (nW a)).run P w = .ok vs w ∧
      ∀ i (h:i<l.length),aY w G pt (ds.getD i .undef) (vs.getD i undef)∧∀ b,cO b (ds.getD i .undef) (vs.getD i undef)≤cK s a w pt b (GL s l[i])
  | [],ds,h=>by
    simp only [vC,Option.some.injEq] at h
    subst h
    exact ⟨[],rfl,rfl,rfl,fun i h=>by simp at h⟩
  | rv::l,ds,h=>by
    simp only [vC] at h
    split at h
    · rename_i d ds' h1 h2
      simp only [Option.some.injEq] at h
      subst h
      obtain ⟨v,q1,q2,q3⟩:=KS HP R h1
      obtain ⟨vs,p1,p2,p3,p4⟩:=tL HP R h2
      refine ⟨v::vs,by simp [p1],by simp [p2],?_,fun i hi=>?_⟩
      · rw [List.mapM_cons]
        simp [Sem.run_bind,q1,p3]
      · cases i with
        | zero=>exact ⟨q2,q3⟩
        | succ i=>exact p4 i (by simpa using hi)
    · cases h
theorem EZ (HP:nM P E) (R:Rel E C s a w G pt) {fn:Func} {ds:List D} (h:vC E s fn.results.toList=some ds) :
    ∃ vs:List Value,vs.length=fn.results.size∧ds.length=fn.results.size∧(results fn a.tmps).run P w = .ok (gG vs.toArray) w ∧
      ∀ i (h:i<fn.results.toList.length),aY w G pt (ds.getD i .undef) (vs.getD i undef)∧∀ b,cO b (ds.getD i .undef) (vs.getD i undef)≤cK s a w pt b (GL s fn.results.toList[i]):=by
  obtain ⟨vs,p1,p2,p3,p4⟩:=tL HP R h
  refine ⟨vs,by simpa using p1,by simpa using p2,?_,p4⟩
  unfold results
  change (Array.mapM (nW a) fn.results >>= fun vs=>pure (if h:vs.size=1 then vs[0] else Value.tuple vs)).run P w=_
  have e2:Array.mapM (nW a) fn.results=List.toArray <$> fn.results.toList.mapM (nW a):=by
    conv=>lhs;rw [←Array.toArray_toList (xs:=fn.results)]
    rw [List.mapM_toArray]
  rw [e2]
  simp [Sem.run_bind,p3,gG]
end
end Go.aW
namespace Go.aW
theorem nX (n:Nat) (f:Nat→Nat):bK (n+1) f=f 0+bK n (fun i=>f (i+1)):=by
  induction n with
  | zero=>simp [bK]
  | succ n ih=>
    rw [bK,ih]
    simp only [bK]
    omega
theorem Bu {g:Nat→Nat}:∀ (l:List Nat) (f:Nat→Nat),(∀ i (h:i<l.length),f i≤g l[i])→bK l.length f≤(l.map g).sum
  | [],_,_=>Nat.le_refl _
  | x::r,f,h=>by
    rw [List.length_cons,nX]
    simp only [List.map_cons,List.sum_cons]
    exact Nat.add_le_add (h 0 (by simp)) (Bu r _ fun i hi=>h (i+1) (by simpa using hi))
theorem yN:∀ {l:List Nat},nodupB l=true→l.Nodup
  | [],_=>List.nodup_nil
  | x::r,h=>by
    simp only [nodupB,Bool.and_eq_true,Bool.not_eq_true'] at h
    refine List.nodup_cons.2 ⟨fun hm=>?_,yN h.2⟩
    have:=mem_iff.2 hm
    rw [h.1] at this;cases this
theorem qD {l:Lf} (h:iD l=true) (x:l.ty.den):bQ (l.con x)=[]:=by
  cases l with
  | cst d=>cases d<;>first | rfl | (simp [iD] at h)
  | _=>rfl
theorem lq:∀ {ls:List Lf},ls.all iD=true→∀ (x:(eD ls).den),dZ (aL ls x)=[]
  | [],_,_=>rfl
  | l::r,h,x=>by
    simp only [List.all_cons,Bool.and_eq_true] at h
    simp only [aL,dZ,qD h.1,lq h.2,List.append_nil]
section
variable {P:Program} {E E':Env} {C C':Ctx} {s s':St} {a a':Act} {w:World} {G:Nat→Nat} {pt bJ:Nat→Nat→Option Value}
theorem qE {d:D} {v:Value} (h:aY w G pt d v):aY w G bJ (clean d) v∧(∀ b,cO b (clean d) v≤cO b d v)∧dK (clean d)=false:=by
  have triv:aY w G bJ .undef v∧(∀ b,cO b .undef v≤cO b d v)∧dK .undef=false:=⟨trivial,fun b=>by rw [dG];exact Nat.zero_le _,rfl⟩
  have same:clean d=d→refs d=[]→dK d=false→aY w G bJ (clean d) v∧(∀ b,cO b (clean d) v≤cO b d v)∧dK (clean d)=false:=by
    intro h1 h2 h3
    rw [h1]
    exact ⟨h.ptr fun i hi=>by rw [h2] at hi;simp at hi,fun b=>Nat.le_refl _,h3⟩
  cases d with
  | agg cs=>
    cases hc:(dZ cs).isEmpty with
    | true=>exact same (by simp [clean,hc]) (by simpa [refs] using hc) rfl
    | false=>
      have e:clean (.agg cs) = .undef:=by simp only [clean,hc,cond_false]
      rw [e];exact triv
  | gB vs=>exact triv
  | fn f cs=>exact triv
  | aH st l cs=>exact triv
  | aU st l ar t ls=>exact triv
  | ptr id st off=>exact triv
  | kL id st i off es=>exact triv
  | fM id st=>exact triv
  | AJ id st n=>exact triv
  | undef=>exact triv
  | _=>exact same rfl rfl rfl
theorem Lf.Jm {l:Lf} {d:D} {x:l.ty.den} {v:Value} (hx:l.res d=some x) (hw:Je l=true→∃ d0,d=bO d0) (h:bI w G pt d v) :
    bI w G pt (l.con x) v∧∀ b,dw b (l.con x) v≤dw b d v:=by
  have plain:l.abs d=some x→bI w G pt (l.con x) v∧∀ b,dw b (l.con x) v≤dw b d v:=by
    intro hx
    rw [Lf.lT hx]
    exact ⟨h,fun b=>Nat.le_refl _⟩
  cases l with
  | sl f t=>
    by_cases hn:d = .jf
    · subst hn
      simp only [Lf.res] at hx
      cases hf:Nat.ble f 2 with
      | false=>rw [hf] at hx;cases hx
      | true=>
        rw [hf] at hx
        simp only [cond_true,Option.some.injEq] at hx
        subst hx
        have hv:v = .slice none 0 0:=h
        subst hv
        refine ⟨⟨none,0,0,rfl,rfl,by simp,?_⟩,fun b=>Nat.le_refl _⟩
        have hf:=Nat.le_of_ble_eq_true hf
        match f,hf with
        | 0,_=>exact ⟨Nat.le_refl _,.inl rfl⟩
        | 1,_=>exact .inl ⟨rfl,rfl,rfl⟩
        | 2,_=>exact .inl ⟨rfl,rfl,rfl⟩
    · match f,hx,plain,hw with
      | 0,hx,plain,hw=>
        have e:(Lf.sl 0 t).res d=(Lf.sl 0 t).abs (bU d):=by
          cases d<;>first | rfl | exact absurd rfl hn
        rw [e] at hx
        rw [Lf.lT hx]
        obtain ⟨d0,rfl⟩:=hw rfl
        have:=h.view
        have ev:bU (bO d0)=bU d0:=by cases d0<;>rfl
        rw [ev]
        exact ⟨this,fun b=>by rw [mM];exact Nat.zero_le _⟩
      | n+1,hx,plain,hw=>
        have e:(Lf.sl (n+1) t).res d=(Lf.sl (n+1) t).abs d:=by
          cases d<;>first | rfl | exact absurd rfl hn
        exact plain (e▸hx)
  | cst d'=>exact plain hx
  | int k=>exact plain hx
  | bool=>exact plain hx
  | str=>exact plain hx
  | fO f t=>exact plain hx
  | vp t=>exact plain hx
  | av k=>exact plain hx
  | va k=>exact plain hx
theorem Bv:∀ {ls:List Lf} {ds:List D} {x:(eD ls).den} {f:Nat→Value},Bf ls ds=some x→(ls.any Je=true→∃ ds0:List D,ds=ds0.map bO)→aQ w G pt ds f →
    aQ w G pt (aL ls x) f∧(aL ls x).length=ds.length∧∀ b,aK b (aL ls x) f≤aK b ds f
  | [],[],_,_,_,_,h=>⟨h,rfl,fun _=>Nat.le_refl _⟩
  | [],_::_,_,_,h,_,_=>by simp [Bf] at h
  | _::_,[],_,_,h,_,_=>by simp [Bf] at h
  | l::r,d::ds,x,f,hx,hw,h=>by
    simp only [Bf] at hx
    split at hx
    · rename_i y z h1 h2
      simp only [Option.some.injEq] at hx
      subst hx
      have hd:=h 0 (by simp)
      obtain ⟨q1,q2⟩:=Lf.Jm h1 (fun hl=>by
        obtain ⟨ds0,he⟩:=hw (by simp [hl])
        cases ds0 with
        | nil=>simp at he
        | cons d0 r0=>simp only [List.map_cons,List.cons.injEq] at he;exact ⟨d0,he.1⟩) hd.1
      obtain ⟨p1,p2,p3⟩:=Bv (f:=fun i=>f (i+1)) h2 (fun hl=>by
        obtain ⟨ds0,he⟩:=hw (by simp only [List.any_cons,hl,Bool.or_true])
        cases ds0 with
        | nil=>simp at he
        | cons d0 r0=>simp only [List.map_cons,List.cons.injEq] at he;exact ⟨r0,he.2⟩) (fun j hj=>h (j+1) (by simpa using hj))
      refine ⟨fun j hj=>?_,by simp [aL,p2],fun b=>Nat.add_le_add (q2 b) (p3 b)⟩
      cases j with
      | zero=>exact ⟨q1,hd.2⟩
      | succ j=>exact p1 j (by simpa [aL] using hj)
    · cases hx
theorem CP {d:D} (h:∃ d0,d=share d0):∀ {cs:List D},d = .agg cs→∃ cs0:List D,cs=cs0.map bO:=by
  obtain ⟨d0,rfl⟩:=h
  intro cs he
  cases d0 with
  | agg cs0=>simp only [share,D.agg.injEq] at he;exact ⟨cs0,he.symm⟩
  | sl f t l=>simp [share,bO] at he
  | _=>simp [share,bO] at he
theorem Ns {p:Sh} {d:D} {x:p.ty.den} {v:Value} (hx:p.res1 d=some x) (hok:lK p=true) (hw:EF p=true→∃ d0,d=share d0) (h:aY w G pt d v) (ht:dK d=false) :
    aY w G pt (p.con x) v∧∀ b,cO b (p.con x) v≤cO b d v:=by
  cases p with
  | lf l=>
    simp only [Sh.res1] at hx
    simp only [Sh.con]
    -- a leaf
    have isL:∀ d',bI w G pt d' v→(∀ b,dw b d' v≤cO b d v)→iD l=true→d' = l.con x→aY w G pt (l.con x) v∧∀ b,cO b (l.con x) v≤cO b d v:=by
      intro d' h1 h2 h3 h4
      subst h4
      cases l with
      | cst d0=>cases d0<;>first | exact ⟨h1,h2⟩ | (simp [iD] at h3)
      | _=>exact ⟨h1,h2⟩
    cases d with
    | agg cs=>
      exfalso
      cases l with
      | cst d0=>
        simp only [lK] at hok
        cases d0<;>first | (simp [iD] at hok;done) | (simp [Lf.res,Lf.abs,keq] at hx)
      | sl f t=>
        cases f with
        | zero=>simp [Lf.res,Lf.abs,bU] at hx
        | succ n=>simp [Lf.res,Lf.abs] at hx
      | _=>simp [Lf.res,Lf.abs] at hx
    | gB vs=>cases ht
    | fn f cs=>
      exfalso
      cases l with
      | cst d0=>
        simp only [lK] at hok
        cases d0<;>first | (simp [iD] at hok;done) | (simp [Lf.res,Lf.abs,keq] at hx)
      | sl f t=>
        cases f with
        | zero=>simp [Lf.res,Lf.abs,bU] at hx
        | succ n=>simp [Lf.res,Lf.abs] at hx
      | _=>simp [Lf.res,Lf.abs] at hx
    | aH st l cs=>simp only [aY,bI] at h
    | aU st l ar t ls=>simp only [aY,bI] at h
    | _=>
      simp only [aY] at h
      obtain ⟨q1,q2⟩:=Lf.Jm hx (fun hl=>by
        obtain ⟨d0,he⟩:=hw hl
        refine ⟨d0,?_⟩
        rw [he]
        cases d0<;>first | rfl | (simp [share] at he)) h
      exact isL _ q1 q2 hok rfl
  | agg ls=>
    cases d with
    | agg cs=>
      simp only [Sh.res1] at hx
      obtain ⟨arr,rfl,h2,h3⟩:=h
      obtain ⟨p1,p2,p3⟩:=Bv hx (fun hl=>CP (hw hl) rfl) h3
      exact ⟨⟨arr,rfl,by simp only [h2,p2],p1⟩,p3⟩
    | _=>simp [Sh.res1] at hx
  | aH st live ls=>cases hok
  | aU st live ar t=>cases hok
end
end Go.aW
namespace Go.aW
section
variable {P:Program} {E E':Env} {C C':Ctx} {s s':St} {a a':Act} {w:World} {G:Nat→Nat} {pt bJ:Nat→Nat→Option Value}
theorem Rel.Bw (R:Rel E C s a w G pt) (W:Nat→Bool) (hnt:∀ t,dK (get s (2*t))=false):∀ (n:Nat),∃ s2 G',Rel E C s2 a w G' pt ∧
    (∀ t,t<n→get s2 (2*t)=bif W t then share (get s (2*t)) else get s (2*t))∧(∀ t,n≤t→get s2 (2*t)=get s (2*t))∧∀ id,get s2 (2*id+1)=get s (2*id+1)
  | 0=>⟨s,G,R,fun t h=>by omega,fun _ _=>rfl,fun _=>rfl⟩
  | n+1=>by
    obtain ⟨s2,G',R2,h1,h2,h3⟩:=R.Bw W hnt n
    cases hW:W n with
    | false=>
      refine ⟨s2,G',R2,fun t ht=>?_,fun t ht=>h2 t (by omega),h3⟩
      by_cases h:t=n
      · subst h;rw [h2 t (Nat.le_refl _),hW];rfl
      · exact h1 t (by omega)
    | true=>
      obtain ⟨G2,_,R3,_,_⟩:=R2.xK n (by rw [h2 n (Nat.le_refl _)];exact hnt n)
      refine ⟨_,G2,R3,fun t ht=>?_,fun t ht=>?_,fun id=>?_⟩
      · rw [aF]
        by_cases h:t=n
        · subst h;rw [if_pos rfl,h2 t (Nat.le_refl _),hW];rfl
        · rw [if_neg (by omega)];exact h1 t (by omega)
      · rw [aF,if_neg (by omega)];exact h2 t (by omega)
      · rw [aF,if_neg (by omega)];exact h3 id
def gM (hp:Bool) (cs:List D):St:=bif hp then [(1,.aH 1 true cs)] else []
theorem vJ (hp:Bool) (cs:List D) (k:Nat):get (gM hp cs) k=if hp=true∧k=1 then .aH 1 true cs else .undef:=by
  cases hp with
  | false=>simp [gM,get]
  | true=>simp only [gM,cond_true,aF,get,true_and]
def iV (hp:Bool) (pt:Nat→Nat→Option Value) (new:Option (Nat×Nat)):Nat→Nat→Option Value:=
  fun i j=>if i=0 then (if hp=true then pt 0 j else none) else if i=1∧j=1 then (match new with
    | some (id,st)=>pt id st
    | none=>none) else none
theorem yO {hp:Bool} {post:List Lf} {y:(eD post).den} (h:EG s hp post=some y):hp=true→get s 1 = .aH 1 true (aL post y):=by
  intro hh
  subst hh
  simp only [EG] at h
  split at h
  · rename_i st cs hb
    cases hs:Nat.beq st 1 with
    | false=>rw [hs] at h;cases h
    | true=>
      rw [hs] at h
      simp only [cond_true] at h
      rw [hb,Nat.eq_of_beq_eq_true hs,kG h]
  · cases h
theorem Hl (R:Rel E C s a w G pt) (hm:C'.m=2) (h1:C'.w0=C.w0) (h2:C'.G0=C.G0) (h3:C'.X=C.X) (eU:C'.pin=C.pin) {hp:Bool} (hpn:C.pin=none∨hp=true)
    {post:List Lf} (hpo:post.all iD=true) {y:(eD post).den} (hpost:EG s hp post=some y)
    {ps:List Sh} (hps:ps.all lK=true) {ds cons:List D} {vs:List Value} {ks:List Nat} (hnd:((bif hp then 1 else 2000001)::ks).Nodup) (l1:vs.length=ps.length) (l2:ds.length=ps.length) (l3:cons.length=ps.length) (l4:ks.length=ps.length)
    (hv:∀ i (h:i<ks.length),aY w G pt (ds.getD i .undef) (vs.getD i undef)∧∀ b,cO b (ds.getD i .undef) (vs.getD i undef)≤cK s a w pt b ks[i])
    (hc:∀ i (h:i<ps.length),∃ x:ps[i].ty.den,ps[i].res (ds.getD i .undef)=some x∧cons.getD i .undef=ps[i].con x) :
    ∃ G' bJ,Rel (mZ E ps.length hp) C' (gM hp (aL post y)++iN 0 cons) { tmps:=vs.toArray,defers:=[] } w G' bJ:=by
  have Fa:=yO hpost
  have Av:∀ (l:List D) t,l.length=ps.length→get (iN 0 l++gM hp (aL post y)) (2*t)=if t<ps.length then l.getD t .undef else .undef:=by
    intro l t hl
    rw [fq,vJ]
    have e1:2*t%2=0:=by omega
    have e2:2*t / 2=t:=by omega
    have e3:¬ 2*t=1:=by omega
    simp only [e1,e2,e3,and_false,if_false,true_and,Nat.zero_le,Nat.zero_add,Nat.sub_zero,hl]
  have rJ:∀ (l:List D) id,get (iN 0 l++gM hp (aL post y)) (2*id+1)=if hp=true∧id=0 then .aH 1 true (aL post y) else .undef:=by
    intro l id
    rw [fq,vJ]
    have e1:¬ (2*id+1)%2=0:=by omega
    have e3:2*id+1=1↔id=0:=by omega
    simp only [e1,false_and,if_false,e3]
  have Mg:∀ t,(vs.toArray.getD t undef)=vs.getD t undef:=fun t=>by simp [List.getD]
  have hcl:∀ t,get (iN 0 (ds.map clean)++gM hp (aL post y)) (2*t)=if t<ps.length then clean (ds.getD t .undef) else .undef:=by
    intro t
    rw [Av _ t (by simpa using l2)]
    by_cases h:t<ps.length
    · rw [if_pos h,if_pos h]
      have h':t<ds.length:=by omega
      simp [List.getD,h']
    · rw [if_neg h,if_neg h]
  have Ho:∀ id,oD w G (iV hp pt none) id (if hp=true∧id=0 then .aH 1 true (aL post y) else .undef) ∧
      (∀ b,fI w (iV hp pt none) b id (if hp=true∧id=0 then .aH 1 true (aL post y) else .undef)≤if id=0 then (if hp=true then cK s a w pt b 1 else 0) else 0):=by
    intro id
    by_cases h:hp=true∧id=0
    · obtain ⟨h,rfl⟩:=h
      have hb:=R.bx 0
      have e1:get s (2*0+1) = .aH 1 true (aL post y):=Fa h
      rw [e1] at hb
      have hpp:∀ st,iV hp pt none 0 st=pt 0 st:=fun st=>by simp [iV,h]
      rw [if_pos ⟨h,rfl⟩]
      refine ⟨hb.ptr (fun _ st=>hpp st) (fun i hi=>?_),fun b=>?_⟩
      · simp only [refs,lq hpo,List.not_mem_nil] at hi
      · rw [if_pos rfl,if_pos h,GN (pt:=pt) (fun _ st=>hpp st)]
        simp only [cK,cB,e1]
        exact Nat.le_refl _
    · rw [if_neg h]
      refine ⟨trivial,fun b=>?_⟩
      show 0≤_
      exact Nat.zero_le _
  -- the results as they are
  have R1:Rel (mZ E ps.length hp) C' (iN 0 (ds.map clean)++gM hp (aL post y)) { tmps:=vs.toArray,defers:=[] } w G (iV hp pt none):=by
    refine R.make rfl h1 h2 h3 (by simpa [mZ] using l1) rfl (fun t=>?_) (fun id=>?_) (fun t ht=>?_) (fun id hid=>?_) (fun b=>?_) (fun id st hst=>?_) (fun v hv=>?_)
    · rw [hcl t,Mg t]
      by_cases h:t<ps.length
      · rw [if_pos h]
        exact (qE (hv t (by omega)).1).1
      · rw [if_neg h];trivial
    · rw [rJ];exact (Ho id).1
    · rw [hcl t,if_neg (by simp only [mZ] at ht;omega)]
    · rw [rJ,if_neg (by omega)]
    · refine Nat.le_trans ?_ (R.Jl b hnd)
      simp only [List.map_cons,List.sum_cons]
      have e1:bK ps.length (cT (iN 0 (ds.map clean)++gM hp (aL post y)) { tmps:=vs.toArray,defers:=[] } b)≤(ks.map (cK s a w pt b)).sum:=by
        rw [←l4]
        refine Bu ks _ fun i hi=>?_
        simp only [cT]
        rw [hcl i,Mg i,if_pos (by omega)]
        obtain ⟨q1,q2⟩:=hv i hi
        exact Nat.le_trans ((qE (bJ:=pt) q1).2.1 b) (q2 b)
      have e2:bK 2 (cB (iN 0 (ds.map clean)++gM hp (aL post y)) w (iV hp pt none) b)≤cK s a w pt b (bif hp then 1 else 2000001):=by
        simp only [bK,cB,rJ]
        have q0:=(Ho 0).2 b
        have q1:=(Ho 1).2 b
        simp only [if_true,Nat.one_ne_zero,if_false] at q0 q1 ⊢
        have q2:(if hp=true then cK s a w pt b 1 else 0)≤cK s a w pt b (bif hp then 1 else 2000001):=by
          cases hp with
          | true=>exact Nat.le_refl _
          | false=>exact Nat.zero_le _
        omega
      show bK ps.length _+bK C'.m _≤_
      rw [hm]
      omega
    · rw [rJ] at hst
      by_cases h:hp=true∧id=0
      · obtain ⟨h,rfl⟩:=h
        rw [if_pos ⟨h,rfl⟩] at hst
        simp only [iV,h,if_true]
        exact R.pf 0 st (by rw [show get s (2*0+1)=_ from Fa h];exact hst)
      · simp only [iV]
        by_cases h0:id=0
        · rw [if_pos h0,if_neg (fun hh=>h ⟨hh,h0⟩)]
        · rw [if_neg h0];split<;>rfl
    · rw [eU] at hv
      rcases hpn with hn | hn
      · rw [hn] at hv;cases hv
      · simp only [iV,hn,if_true]
        exact R.pn v hv
  -- shared
  obtain ⟨s2,G',R2,q1,q2,q3⟩:=R1.Bw (fun i=>match ps[i]? with
    | some p=>EF p
    | none=>false) (fun t=>by
      rw [hcl t]
      by_cases h:t<ps.length
      · rw [if_pos h]
        exact (qE (bJ:=pt) (hv t (by omega)).1).2.2
      · rw [if_neg h];rfl) ps.length
  have gs2:∀ t (h:t<ps.length),get s2 (2*t)=bif EF ps[t] then share (clean (ds.getD t .undef)) else clean (ds.getD t .undef):=by
    intro t h
    rw [q1 t h,hcl t,if_pos h]
    simp [h]
  have Nt:∀ t (h:t<ps.length),aY w G' (iV hp pt none) (cons.getD t .undef) (vs.getD t undef)∧∀ b,cO b (cons.getD t .undef) (vs.getD t undef)≤cO b (get s2 (2*t)) (vs.getD t undef):=by
    intro t h
    obtain ⟨x,hx,hcx⟩:=hc t h
    have ht2:=R2.tm t
    rw [Mg t] at ht2
    rw [hcx]
    have hx':ps[t].res1 (get s2 (2*t))=some x:=by rw [gs2 t h];exact hx
    refine Ns hx' (List.all_eq_true.1 hps _ (List.getElem_mem h)) (fun hw=>⟨clean (ds.getD t .undef),by rw [gs2 t h,hw];rfl⟩) ht2 ?_
    rw [gs2 t h]
    have hnt:=(qE (bJ:=pt) (hv t (by omega)).1).2.2
    cases EF ps[t] with
    | false=>exact hnt
    | true=>
      simp only [cond_true]
      generalize clean (ds.getD t .undef)=d at hnt
      cases d<;>first | rfl | exact hnt
  refine ⟨G',iV hp pt none,?_⟩
  have afj:∀ k,get (gM hp (aL post y)++iN 0 cons) k=get (iN 0 cons++gM hp (aL post y)) k:=by
    intro k
    have e:get (gM hp (aL post y)++iN 0 cons) k=if hp=true∧k=1 then .aH 1 true (aL post y) else get (iN 0 cons++[]) k:=by
      cases hp with
      | false=>simp [gM]
      | true=>simp only [gM,cond_true,List.cons_append,List.nil_append,aF,true_and,List.append_nil]
    rw [e,fq,fq,vJ]
    by_cases h:hp=true∧k=1
    · rw [if_pos h,if_neg (by omega),if_pos h]
    · rw [if_neg h,if_neg h];rfl
  refine Rel.congr ?_ afj
  refine R2.make rfl rfl rfl rfl (by simpa [mZ] using l1) rfl (fun t=>?_) (fun id=>?_) (fun t ht=>?_) (fun id hid=>?_) (fun b=>?_) (fun id st hst=>?_) R2.pn
  · rw [Av cons t l3,Mg t]
    by_cases h:t<ps.length
    · rw [if_pos h];exact (Nt t h).1
    · rw [if_neg h];trivial
  · have:=R2.bx id
    rw [q3 id,rJ] at this
    rw [rJ];exact this
  · rw [Av cons t l3,if_neg (by simp only [mZ] at ht;omega)]
  · rw [rJ,if_neg (by omega)]
  · unfold TC
    refine Nat.add_le_add (Rv fun t ht=>?_) (Nat.le_of_eq (aM fun id _=>?_))
    · simp only [cT]
      rw [Av cons t l3,Mg t,if_pos (show t<ps.length from ht)]
      exact (Nt t ht).2 b
    · simp only [cB]
      rw [q3 id,rJ,rJ]
  · refine R2.pf id st ?_
    rw [q3 id,rJ]
    rw [rJ] at hst
    exact hst
theorem KT (R:Rel E C s a w G pt) (hm:C'.m=2) (h1:C'.w0=C.w0) (h2:C'.G0=C.G0) (h3:C'.X=C.X) (eU:C'.pin=C.pin) {hp:Bool} (hpn:C.pin=none∨hp=true)
    {post:List Lf} (hpo:post.all iD=true) {y:(eD post).den} (hpost:EG s hp post=some y)
    {ls:List Lf} (hls:ls.all iD=true) {v:Value} {id st:Nat} (hv:aY w G pt (.ptr id st 0) v) (hid:id≠0) {x:(eD ls).den} (hb:get s (2*id+1) = .aH st true (aL ls x)) :
    ∃ G' bJ,Rel (mZ E 1 hp) C' (gM hp (aL post y)++[(3,.aH 1 true (aL ls x)),(0,.ptr 1 1 0)]) { tmps:=#[v],defers:=[] } w G' bJ:=by
  have Fa:=yO hpost
  refine ⟨G,iV hp pt (some (id,st)),?_⟩
  have gg:∀ k,get (gM hp (aL post y)++[(3,.aH 1 true (aL ls x)),(0,.ptr 1 1 0)]) k =
      if hp=true∧k=1 then .aH 1 true (aL post y) else if k=3 then .aH 1 true (aL ls x) else if k=0 then .ptr 1 1 0 else .undef:=by
    intro k
    cases hp with
    | false=>simp only [gM,cond_false,List.nil_append,aF,Bool.false_eq_true,false_and,if_false];rfl
    | true=>simp only [gM,cond_true,List.cons_append,List.nil_append,aF,true_and];rfl
  have Av:∀ t,get (gM hp (aL post y)++[(3,.aH 1 true (aL ls x)),(0,.ptr 1 1 0)]) (2*t)=if t=0 then .ptr 1 1 0 else .undef:=by
    intro t
    rw [gg,if_neg (by omega),if_neg (by omega)]
    by_cases h:t=0
    · rw [if_pos h,if_pos (by omega)]
    · rw [if_neg h,if_neg (by omega)]
  have rJ:∀ i,get (gM hp (aL post y)++[(3,.aH 1 true (aL ls x)),(0,.ptr 1 1 0)]) (2*i+1)=if hp=true∧i=0 then .aH 1 true (aL post y) else if i=1 then .aH 1 true (aL ls x) else .undef:=by
    intro i
    rw [gg]
    by_cases h:hp=true∧i=0
    · rw [if_pos h,if_pos ⟨h.1,by omega⟩]
    · rw [if_neg h,if_neg (fun hh=>h ⟨hh.1,by omega⟩)]
      by_cases h':i=1
      · rw [if_pos h',if_pos (by omega)]
      · rw [if_neg h',if_neg (by omega),if_neg (by omega)]
  obtain ⟨blk,hblk,hvv⟩:=hv
  have p0:hp=true→∀ j,iV hp pt (some (id,st)) 0 j=pt 0 j:=fun h j=>by simp [iV,h]
  have p1:iV hp pt (some (id,st)) 1 1=pt id st:=by simp [iV]
  have hB:=R.bx id
  rw [hb] at hB
  obtain ⟨b1,r1,r2,r3,r4⟩:=hB rfl
  have hb0:=R.bx 0
  have c0:∀ b,fI w (iV hp pt (some (id,st))) b 0 (if hp=true∧0=0 then .aH 1 true (aL post y) else if 0=1 then .aH 1 true (aL ls x) else .undef)≤cK s a w pt b 1:=by
    intro b
    by_cases h:hp=true
    · rw [if_pos ⟨h,rfl⟩,GN (pt:=pt) (fun _ j=>p0 h j)]
      have e:get s (2*0+1)=_:=Fa h
      simp only [cK,cB,e]
      exact Nat.le_refl _
    · rw [if_neg (by simp [h]),if_neg (by omega)]
      exact Nat.zero_le _
  have c1:∀ b,fI w (iV hp pt (some (id,st))) b 1 (.aH 1 true (aL ls x))≤cK s a w pt b (2*id+1):=by
    intro b
    have e1:(2*id+1)%2=1:=by omega
    have e2:(2*id+1) / 2=id:=by omega
    simp only [cK,e1,e2,if_true,cB,hb,fI,p1]
    exact Nat.le_refl _
  refine R.make rfl h1 h2 h3 (by simp [mZ]) rfl (fun t=>?_) (fun i=>?_) (fun t ht=>?_) (fun i hi=>?_) (fun b=>?_) (fun i j hj=>?_) (fun v hv=>?_)
  · rw [Av]
    by_cases h:t=0
    · subst h
      rw [if_pos rfl]
      exact ⟨blk,by rw [p1];exact hblk,by simpa using hvv⟩
    · rw [if_neg h];trivial
  · rw [rJ]
    by_cases h:hp=true∧i=0
    · rw [if_pos h]
      obtain ⟨h,rfl⟩:=h
      have e:get s (2*0+1)=_:=Fa h
      rw [e] at hb0
      exact hb0.ptr (fun _ j=>p0 h j) (fun i hi=>by simp only [refs,lq hpo,List.not_mem_nil] at hi)
    · rw [if_neg h]
      by_cases h':i=1
      · subst h'
        rw [if_pos rfl]
        intro _
        exact ⟨b1,by rw [p1];exact r1,r2,r3,r4.ptr fun i hi=>by rw [lq hls] at hi;simp at hi⟩
      · rw [if_neg h'];trivial
  · rw [Av,if_neg (by simp only [mZ] at ht;omega)]
  · rw [rJ,if_neg (by omega),if_neg (by omega)]
  · have hk:=R.Jl b (ks:=[1,2*id+1]) (by simp;omega)
    simp only [List.map_cons,List.map_nil,List.sum_cons,List.sum_nil] at hk
    refine Nat.le_trans ?_ hk
    show bK 1 _+bK C'.m _≤_
    rw [hm]
    have t0:cT (gM hp (aL post y)++[(3,.aH 1 true (aL ls x)),(0,.ptr 1 1 0)]) { tmps:=#[v],defers:=[] } b 0=0:=by
      simp only [cT,Av,if_true]
      rfl
    have b0:cB (gM hp (aL post y)++[(3,.aH 1 true (aL ls x)),(0,.ptr 1 1 0)]) w (iV hp pt (some (id,st))) b 0≤cK s a w pt b 1:=by
      unfold cB
      rw [rJ];exact c0 b
    have b1:cB (gM hp (aL post y)++[(3,.aH 1 true (aL ls x)),(0,.ptr 1 1 0)]) w (iV hp pt (some (id,st))) b 1≤cK s a w pt b (2*id+1):=by
      unfold cB
      rw [rJ,if_neg (by omega),if_pos rfl];exact c1 b
    show 0+_+(0+_+_)≤_
    rw [t0]
    refine Nat.le_trans (Nat.add_le_add (Nat.le_refl _) (Nat.add_le_add (Nat.add_le_add (Nat.le_refl _) b0) b1)) ?_
    omega
  · rw [rJ] at hj
    by_cases h:hp=true∧i=0
    · rw [if_pos h] at hj
      obtain ⟨h,rfl⟩:=h
      rw [p0 h]
      exact R.pf 0 j (by rw [show get s (2*0+1)=_ from Fa h];exact hj)
    · rw [if_neg h] at hj
      simp only [iV]
      by_cases h0:i=0
      · rw [if_pos h0,if_neg (fun hh=>h ⟨hh,h0⟩)]
      · rw [if_neg h0]
        by_cases h':i=1
        · rw [if_pos h'] at hj
          have:¬ (i=1∧j=1):=by
            simp only [aI] at hj
            omega
          rw [if_neg this]
        · rw [if_neg (by simp [h'])]
  · rw [eU] at hv
    rcases hpn with hn | hn
    · rw [hn] at hv;cases hv
    · rw [p0 hn];exact R.pn v hv
end
end Go.aW
namespace Go.aW
section
variable {P:Program} {E E':Env} {C C':Ctx} {s s':St} {a a':Act} {w:World} {G:Nat→Nat} {pt bJ:Nat→Nat→Option Value}
theorem Bz:∀ {l:List Sh} {ds:List D} {x:(iT l).den},tq l ds=some x→ds.length=l.length
  | [],[],_,_=>rfl
  | [],_::_,_,h=>by simp [tq] at h
  | _::_,[],_,h=>by simp [tq] at h
  | p::r,d::ds,x,h=>by
    simp only [tq] at h
    split at h
    · rename_i y z h1 h2
      simp [Bz h2]
    · cases h
theorem BA:∀ {l:List Sh} {ds:List D} {x:(iT l).den},tq l ds=some x→∀ i (h:i<l.length),∃ y:l[i].ty.den,l[i].res (ds.getD i .undef)=some y∧(bP l x).getD i .undef=l[i].con y
  | [],_,_,_,i,hi=>by simp at hi
  | _::_,[],_,h,_,_=>by simp [tq] at h
  | p::r,d::ds,x,h,i,hi=>by
    simp only [tq] at h
    split at h
    · rename_i y z h1 h2
      simp only [Option.some.injEq] at h
      subst h
      cases i with
      | zero=>exact ⟨y,h1,rfl⟩
      | succ i=>exact BA h2 i (by simpa using hi)
    · cases h
theorem Fb (HP:nM P E) (R:Rel E C s a w G pt) (hm:C'.m=2) (h1:C'.w0=C.w0) (h2:C'.G0=C.G0) (h3:C'.X=C.X) (eU:C'.pin=C.pin) {c:aR} (hpn:C.pin=none∨c.aG=true)
    (hok:c.ok=true) {fn:Func} {e:Nat} {ch:List Nat} {y:(Ty.cons c.rs.ty (eD c.post)).den} (h:yx E fn c ⟨e,ch,s⟩=some y) :
    e<2∧∃ (vs:Array Value) (G':_) (bJ:_),(results fn a.tmps).run P w = .ok (gG vs) w∧Rel (mZ E c.rs.num c.aG) C' (fU c y) { tmps:=vs,defers:=[] } w G' bJ:=by
  unfold yx at h
  cases hc:(Nat.blt e 2&&nodupB ((bif c.aG then 1 else 2000001)::fn.results.toList.map (GL s))) with
  | false=>simp only [hc,cond_false,reduceCtorEq] at h
  | true=>
    simp only [hc,cond_true] at h
    simp only [Bool.and_eq_true,Nat.blt_eq] at hc
    refine ⟨hc.1,?_⟩
    split at h
    · rename_i ds hds
      split at h
      · rename_i x z hx hz
        simp only [Option.some.injEq] at h
        subst h
        obtain ⟨vs,l1,l2,hrun,hv⟩:=EZ HP R hds
        have hnd:=yN hc.2
        simp only [aR.ok,Bool.and_eq_true] at hok
        obtain ⟨⟨⟨⟨o1,o2⟩,o3⟩,o4⟩,o5⟩:=hok
        have data:∀ (ps:List Sh) (cons:List D),ps.all lK=true→ds.length=ps.length→cons.length=ps.length →
            (∀ i (h:i<ps.length),∃ x:ps[i].ty.den,ps[i].res (ds.getD i .undef)=some x∧cons.getD i .undef=ps[i].con x) →
            ∃ G' bJ,Rel (mZ E ps.length c.aG) C' (gM c.aG (aL c.post z)++iN 0 cons) { tmps:=vs.toArray,defers:=[] } w G' bJ:=by
          intro ps cons q1 q2 q3 q4
          refine Hl R hm h1 h2 h3 eU hpn o4 hz q1 hnd (by omega) q2 q3 (by simp;omega) (fun i hi=>?_) q4
          have:=hv i (by simpa using hi)
          simpa using this
        -- by the kind of result
        have fin:∀ (rs:RS) (x:rs.ty.den),rs.ok=true→yw s rs ds=some x →
            ∃ (vs:Array Value) (G':_) (bJ:_),(results fn a.tmps).run P w = .ok (gG vs) w∧Rel (mZ E rs.num c.aG) C' (gM c.aG (aL c.post z)++WI rs x) { tmps:=vs,defers:=[] } w G' bJ:=by
          intro rs x hrs hq
          cases rs with
          | none=>
            cases ds with
            | nil=>
              obtain ⟨G',bJ,R'⟩:=data [] [] rfl rfl rfl (fun i hi=>by simp at hi)
              exact ⟨_,G',bJ,hrun,R'⟩
            | cons d r=>simp [yw] at hq
          | one p=>
            obtain ⟨d,rfl⟩:∃ d,ds=[d]:=by
              match ds,hq with
              | [d],hq=>exact ⟨d,rfl⟩
              | [],hq=>simp [yw] at hq
              | _::_::_,hq=>simp [yw] at hq
            simp only [yw] at hq
            obtain ⟨G',bJ,R'⟩:=data [p] [p.con x] (by simpa [RS.ok] using hrs) rfl rfl (fun i hi=>by
              have:i=0:=by simpa using hi
              subst this
              exact ⟨x,hq,rfl⟩)
            exact ⟨_,G',bJ,hrun,R'⟩
          | gB l=>
            simp only [yw] at hq
            cases hl:Nat.beq ds.length 1 with
            | true=>rw [hl] at hq;cases hq
            | false=>
              rw [hl] at hq
              simp only [cond_false] at hq
              simp only [RS.ok,Bool.and_eq_true] at hrs
              obtain ⟨G',bJ,R'⟩:=data l (bP l x) hrs.1 (Bz hq) (fK l x) (BA hq)
              exact ⟨_,G',bJ,hrun,R'⟩
          | sQ ls=>
            obtain ⟨id,st,off,rfl⟩:∃ id st off,ds=[.ptr id st off]:=by
              match ds,hq with
              | [],hq=>simp [yw] at hq
              | _::_::_,hq=>simp [yw] at hq
              | [d],hq=>cases d<;>first | exact ⟨_,_,_,rfl⟩ | (simp [yw] at hq)
            simp only [yw] at hq
            split at hq
            · rename_i st' cs hb
              cases hcc:(Nat.beq st st' && Nat.beq off 0 && !Nat.beq id 0) with
              | false=>rw [hcc] at hq;cases hq
              | true=>
                rw [hcc] at hq
                simp only [cond_true] at hq
                simp only [Bool.and_eq_true,Bool.not_eq_true'] at hcc
                obtain ⟨⟨e1,e2⟩,e3⟩:=hcc
                have e1:=Nat.eq_of_beq_eq_true e1
                have e2:=Nat.eq_of_beq_eq_true e2
                have e3:id≠0:=by
                  rw [eX] at e3
                  exact of_decide_eq_false e3
                subst e1;subst e2
                have hl:=kG hq
                subst hl
                obtain ⟨v,rfl⟩:=List.length_eq_one_iff.1 (show vs.length=1 by simp at l2;omega)
                have hv0:=(hv 0 (by simp at l2 ⊢;omega)).1
                obtain ⟨G',bJ,R'⟩:=KT R hm h1 h2 h3 eU hpn o4 hz hrs hv0 e3 hb
                exact ⟨_,G',bJ,hrun,R'⟩
            · cases hq
        exact fin c.rs x o3 hx
      · cases h
    · cases h
theorem bX.okD:∀ {t:Ty} {x:t.den} {b o:Nat},bX w G t x b o→t.ok x
  | .int k,n,b,o,h=>h.2
  | .bool,_,_,_,_=>trivial
  | .str,l,b,o,h=>by
    obtain ⟨s,_,h2,h3⟩:=h
    subst h2
    refine ⟨h3,fun c hc=>?_⟩
    simp only [jq,List.mem_map] at hc
    obtain ⟨u,_,rfl⟩:=hc
    have:=u.toNat_lt
    omega
  | .sl t,l,b,o,h=>by
    obtain ⟨a,n,c,_,h2,h3,_,h4⟩:=h
    subst h2
    refine ⟨h3,fun x hx=>?_⟩
    rcases h4 with rfl | ⟨b',o',_,_,h5⟩
    · simp at hx
    · obtain ⟨i,hi,rfl⟩:=List.getElem_of_mem hx
      exact bX.okD (h5 i hi)
  | .unit,_,_,_,_=>trivial
  | .cons a c,x,b,o,h=>⟨bX.okD h.1,bX.okD h.2⟩
  | .st _ c,x,b,o,h=>bX.okD (t:=c) h
  | .fO _ t,x,b,o,h=>by
    obtain ⟨b',o',_,_,h3⟩:=h
    exact bX.okD (t:=t) h3
theorem fB.okD {t:Ty} {l:List t.den} {b o:Nat} (h:fB w G t l b o):∀ x∈l,t.ok x:=by
  intro x hx
  obtain ⟨i,hi,rfl⟩:=List.getElem_of_mem hx
  exact bX.okD (h i hi)
def Lf.okV:(l:Lf)→l.ty.den→Prop
  | .av k,l=>∀ x∈l,k.has x
  | .va k,l=>∀ x∈l,k.has x
  | .cst d,x=>(Lf.cst d).ty.ok x
  | .int k,x=>(Lf.int k).ty.ok x
  | .bool,x=>Lf.bool.ty.ok x
  | .str,x=>Lf.str.ty.ok x
  | .sl f t,x=>(Lf.sl f t).ty.ok x
  | .fO f t,x=>(Lf.fO f t).ty.ok x
  | .vp t,x=>(Lf.vp t).ty.ok x
def Fe:(ls:List Lf)→(eD ls).den→Prop
  | [],_=>True
  | l::r,x=>l.okV x.1∧Fe r x.2
def Sh.okV:(p:Sh)→p.ty.den→Prop
  | .lf l,x=>l.okV x
  | .agg ls,x=>Fe ls x
  | .aH st live ls,x=>(Sh.aH st live ls).ty.ok x
  | .aU st live ar t,x=>(Sh.aU st live ar t).ty.ok x
def Nu:(ps:List Sh)→(iT ps).den→Prop
  | [],_=>True
  | p::r,x=>p.okV x.1∧Nu r x.2
def aR.okV (c:aR) (x:(Ty.cons (eD c.pre) (iT c.ps)).den):Prop:=Fe c.pre x.1∧Nu c.ps x.2
theorem Lf.okD {l:Lf} {x:l.ty.den} {v:Value} (h:bI w G pt (l.con x) v):l.okV x:=by
  cases l with
  | cst d=>trivial
  | int k=>exact h.2
  | bool=>trivial
  | str=>
    obtain ⟨s,_,h2,h3⟩:=h
    have h2:jq s=x:=h2
    subst h2
    refine ⟨h3,fun c hc=>?_⟩
    simp only [jq,List.mem_map] at hc
    obtain ⟨u,_,rfl⟩:=hc
    have:=u.toNat_lt
    omega
  | sl f t=>
    obtain ⟨a,n,c,_,h2,h3,h4⟩:=h
    subst h2
    refine ⟨h3,?_⟩
    match f,h4 with
    | 0,h4=>
      rcases h4.2 with h5 | ⟨b,o,_,_,h5⟩
      · have h5:x=[]:=h5
        subst h5
        intro y hy;simp at hy
      · exact fB.okD h5
    | 1,h4=>
      rcases h4 with ⟨_,h5,_⟩ | ⟨b,_,_,_,_,h5,_⟩
      · have h5:x=[]:=h5
        subst h5
        intro y hy;simp at hy
      · exact fB.okD h5
    | 2,h4=>
      rcases h4 with ⟨_,h5,_⟩ | ⟨b,_,_,_,_,h5,_⟩
      · have h5:x=[]:=h5
        subst h5
        intro y hy;simp at hy
      · exact fB.okD h5
    | n+3,h4=>exact h4.elim
  | fO f t=>
    obtain ⟨b,o,_,_,h3⟩:=h
    exact bX.okD (t:=t) h3
  | vp t=>
    obtain ⟨b,o,_,_,_,h3⟩:=h
    exact fB.okD h3 x (List.mem_singleton.2 rfl)
  | av k=>
    obtain ⟨arr,_,_,h3⟩:=h
    intro y hy
    obtain ⟨i,hi,rfl⟩:=List.getElem_of_mem hy
    exact (h3 i hi).2
  | va k=>
    obtain ⟨b,o,_,_,h3⟩:=h
    exact fB.okD (t:=.int k) h3
theorem Nv:∀ {ls:List Lf} {x:(eD ls).den} {f:Nat→Value},aQ w G pt (aL ls x) f→Fe ls x
  | [],_,_,_=>trivial
  | l::r,x,f,h=>⟨Lf.okD (h 0 (by simp [aL])).1,Nv (f:=fun i=>f (i+1)) fun j hj=>h (j+1) (by simpa [aL] using hj)⟩
theorem Sh.okD {p:Sh} {x:p.ty.den} {v:Value} (hok:lK p=true) (h:aY w G pt (p.con x) v):p.okV x:=by
  cases p with
  | lf l=>
    have h0:iD l=true:=hok
    cases l with
    | cst d=>trivial
    | int k=>exact Lf.okD (w:=w) (G:=G) (pt:=pt) (l:=.int k) h
    | bool=>trivial
    | str=>exact Lf.okD (w:=w) (G:=G) (pt:=pt) (l:=.str) h
    | sl f t=>exact Lf.okD (w:=w) (G:=G) (pt:=pt) (l:=.sl f t) h
    | fO f t=>exact Lf.okD (w:=w) (G:=G) (pt:=pt) (l:=.fO f t) h
    | vp t=>exact Lf.okD (w:=w) (G:=G) (pt:=pt) (l:=.vp t) h
    | av t=>exact Lf.okD (w:=w) (G:=G) (pt:=pt) (l:=.av t) h
    | va t=>exact Lf.okD (w:=w) (G:=G) (pt:=pt) (l:=.va t) h
  | agg ls=>
    obtain ⟨arr,rfl,h2,h3⟩:=h
    exact Nv h3
  | aH st live ls=>cases hok
  | aU st live ar t=>cases hok
theorem TV:∀ {ps:List Sh} {x:(iT ps).den},ps.all lK=true→(∀ i,i<ps.length→∃ v,aY w G pt ((bP ps x).getD i .undef) v)→Nu ps x
  | [],_,_,_=>trivial
  | p::r,x,hok,h=>by
    simp only [List.all_cons,Bool.and_eq_true] at hok
    obtain ⟨v,hv⟩:=h 0 (by simp)
    exact ⟨Sh.okD hok.1 hv,TV hok.2 fun i hi=>h (i+1) (by simpa using hi)⟩
theorem KU {c:aR} {n:Nat} {hp:Bool} {x:(Ty.cons (eD c.pre) (iT c.ps)).den} (hok:c.ok=true) (R:Rel (mZ E n hp) C (bg c x) a w G pt):c.okV x:=by
  simp only [aR.ok,Bool.and_eq_true,Bool.or_eq_true] at hok
  obtain ⟨⟨⟨⟨o1,o2⟩,o3⟩,o4⟩,o5⟩:=hok
  have o2':c.ps.all lK=true:=o2
  refine ⟨?_,?_⟩
  · cases hP:c.aG with
    | false=>
      rw [hP] at o5
      simp only [Bool.false_eq_true,false_or] at o5
      have:=o5.1
      rw [List.isEmpty_iff] at this
      have key:∀ (ls:List Lf) (y:(eD ls).den),ls=[]→Fe ls y:=by
        intro ls y h
        subst h
        trivial
      exact key _ _ this
    | true=>
      have hB:=R.bx 0
      have e:get (bg c x) (2*0+1) = .aH 1 true (aL c.pre x.1):=by
        unfold bg
        simp [hP,aF]
      rw [e] at hB
      obtain ⟨b,_,_,_,h⟩:=hB rfl
      exact Nv h
  · refine TV (w:=w) (G:=G) (pt:=pt) o2' fun i hi=>?_
    have hl:=fK c.ps x.2
    cases hP:c.aG with
    | true=>
      have ht:=R.tm (i+1)
      have e:get (bg c x) (2*(i+1))=(bP c.ps x.2).getD i .undef:=by
        unfold bg
        simp only [hP,cond_true,jh]
        rw [aF,if_neg (by omega),aF,if_neg (by omega)]
        have:=fq (rest:=[]) (ds:=bP c.ps x.2) (i:=1) (2*(i+1))
        rw [List.append_nil] at this
        rw [this,if_pos ⟨by omega,by omega,by omega⟩]
        congr 1
        omega
      rw [e] at ht
      exact ⟨_,ht⟩
    | false=>
      have ht:=R.tm i
      have e:get (bg c x) (2*i)=(bP c.ps x.2).getD i .undef:=by
        unfold bg
        simp only [hP,cond_false,jh]
        have:=fq (rest:=[]) (ds:=bP c.ps x.2) (i:=0) (2*i)
        rw [List.append_nil] at this
        rw [this,if_pos ⟨by omega,by omega,by omega⟩]
        congr 1
        omega
      rw [e] at ht
      exact ⟨_,ht⟩
theorem WJ (HP:nM P E) (Hg:P.follows .mixedOrders=true) {Γ:dD} {f:Nat} {fn:Func} {plan:Plan} {c:aR} (hf:P.funcs[f]? = some fn) (hn:E.n=fn.ntmps) (hhp:E.hp=c.aG)
    (hok:c.ok=true) (yP:c.num≤E.n) (HC:∀ C:Ctx,E.n≤C.m→2≤C.m→CB P E Γ C)
    (hF:∀ x y,c.okV x→c.F x=some y→(eF (fun _ _=>Loop) E Γ fn plan c x).den=some y):iL P E f c:=by
  intro x y hy C args w G pt hm eU hargs R K hK
  have hy:=hF x y (KU hok R) hy
  simp only [eF] at hy
  split at hy
  · rename_i code hcode
    obtain ⟨r,hr,hl⟩:=fT hy
    refine calls_of_wp hf hcode ?_
    have hpn:C.pin=none∨E.hp=true:=by rw [hhp];exact eU
    -- the frame's start
    have R1:Rel E { C with m:=E.n+2 } (bg c x) { tmps:=args++Array.replicate (fn.ntmps - args.size) undef,defers:=[] } w G pt:=by
      have hsz:(args++Array.replicate (fn.ntmps - args.size) undef).size=E.n:=by
        simp only [Array.size_append,Array.size_replicate]
        omega
      have hget:∀ t,t<c.num→(args++Array.replicate (fn.ntmps - args.size) undef).getD t undef=args.getD t undef:=by
        intro t ht
        have h1:t<args.size:=by omega
        rw [Array.getD_eq_getD_getElem?,Array.getD_eq_getD_getElem?,Array.getElem?_append_left h1]
      have hhi:∀ t,c.num≤t→get (bg c x) (2*t) = .undef:=fun t ht=>R.ht t ht
      refine R.make rfl rfl rfl rfl hsz rfl (fun t=>?_) R.bx (fun t ht=>hhi t (by omega)) (fun id hid=>R.hb id (by simp only at hid;omega)) (fun b=>?_) R.pf R.pn
      · by_cases ht:t<c.num
        · rw [hget t ht];exact R.tm t
        · rw [hhi t (by omega)];trivial
      · unfold TC
        refine Nat.add_le_add ?_ ?_
        · rw [kJ (f:=cT (bg c x) _ b) (n:=c.num) (m:=E.n) yP fun i hi=>by rw [cT,hhi i hi];exact dG b _]
          refine Nat.le_of_eq (aM fun t ht=>?_)
          simp only [cT]
          rw [hget t ht]
        · rw [kJ (f:=cB (bg c x) w pt b) (n:=C.m) (m:=E.n+2) (by omega) fun i hi=>by rw [cB,R.hb i hi];rfl]
          exact Nat.le_refl _
    have HO:=Ng (C:={ C with m:=E.n+2 }) HP (by simp) (HC _ (by simp) (by simp))
    have:=(iU (C:={ C with m:=E.n+2 }) (by show E.n≤E.n+2;omega) hpn HO (EY Hg HO) code plan [] (bg c x) r hr).2 _ w G pt R1
    refine wp_mono this fun e a' w' hp=>?_
    obtain ⟨rfl,G',bJ,R'⟩:=hp
    obtain ⟨re,rch,rs⟩:=r
    obtain ⟨he,vs,G2,jy,hrun,R2⟩:=Fb HP R' (C':=C) hm rfl rfl rfl rfl eU hok hl
    have fin:a'.defers=[]∧∃ v,(results fn a'.tmps).run P w' = .ok v w'∧K (.returned v) w':=⟨R'.df,_,hrun,hK vs w' G2 jy R2⟩
    match re,he with
    | 0,_=>exact fin
    | 1,_=>exact fin
  · cases hy
end
end Go.aW
namespace Go.aW
section
variable {P:Program} {E E':Env} {C C':Ctx} {s s':St} {a a':Act} {w w':World} {G G':Nat→Nat} {pt bJ:Nat→Nat→Option Value}
def WK (P:Program) (gl:Nat→Option (IntKind×List Int)) (f:Nat) (x:XF):Prop:=
  ∀ (E:Env) (C:Ctx) (o:Oper) (c:Call) (s:St) (a:Act) (w:World) (G:Nat→Nat) (pt:Nat→Nat→Option Value) (t:Nat) (u:St),E.glob=gl→E.n≤C.m→t<E.n→o.dst=some t→o.op = .call c→c.callee = .value (.func f) →
    Rel E C s a w G pt→x t (aI (get s (2*t+1))+1) (c.args.toList.map (MZ s))=some (true,u)→EJ P E C o a w (ak u s)
structure aj (P:Program) (E:Env) (f:Nat) (con:aR):Prop where
  ok:con.ok=true
  sem:con.xf=none→iL P E f con
  WL:∀ x,con.xf=some x→WK P E.glob f x
  fn:∃ fn,P.funcs[f]? = some fn∧(fn.name == "runtime.NumGoroutine")=false∧fn.body.isNone=false
theorem Nw {f:Nat} {con:aR} (H:aj P E f con) {o:Oper} {c:Call} (hop:o.op = .call c) (hc:c.callee = .value (.func f)) :
    (execOp a.eval o).run P w = .ok (.enter f (c.args.map a.eval)) w:=by
  obtain ⟨fn,h1,h2,h3⟩:=H.fn
  have e:execOp a.eval o=callFunc f (#[]++c.args.map a.eval++#[]):=by
    simp only [execOp,hop,resolve,hc]
    rfl
  rw [e]
  simp only [callFunc]
  have h2':¬ fn.name = "runtime.NumGoroutine":=by simpa using h2
  have h3':¬ fn.body=none:=fun h=>by rw [h] at h3;cases h3
  simp [go_sem,h1,h2',h3']
theorem KV {f:Nat} {con:aR} (H:aj P E f con) (R:Rel E C s a w G pt) {o:Oper} {c:Call} (hop:o.op = .call c) (hc:∃ x,c.callee = .value x∧aV s x = .Ai f) :
    (execOp a.eval o).run P w = .ok (.enter f (c.args.map a.eval)) w:=by
  obtain ⟨fn,h1,h2,h3⟩:=H.fn
  obtain ⟨x,hc,hx⟩:=hc
  have hv:a.eval x = .func (.func f) #[] #[]:=by
    have:=aT R x
    rw [hx] at this
    exact this
  have e:execOp a.eval o=callFunc f (#[]++c.args.map a.eval++#[]):=by
    simp only [execOp,hop,resolve,hc,hv]
    rfl
  rw [e]
  simp only [callFunc]
  have h2':¬ fn.name = "runtime.NumGoroutine":=by simpa using h2
  have h3':¬ fn.body=none:=fun h=>by rw [h] at h3;cases h3
  simp [go_sem,h1,h2',h3']
theorem Ny {l:Lf} (h:jX l=true):iD l=true:=by
  cases l with
  | sl f t=>rfl
  | _=>exact h
theorem Fg {l:Lf} (h:jX l=true) (x:l.ty.den) (b:Nat) (v:Value):dw b (l.con x) v=0:=by
  cases l with
  | sl f t=>
    have:f=0:=Nat.eq_of_beq_eq_true h
    subst this
    cases v with
    | slice a n c=>cases a<;>simp [Lf.con,dw]
    | _=>rfl
  | cst d=>cases d<;>first | (simp [jX,iD] at h;done) | (cases v<;>rfl)
  | _=>cases v<;>rfl
theorem BD:∀ {ls:List Lf},ls.all jX=true→∀ (x:(eD ls).den) (b:Nat) (f:Nat→Value),aK b (aL ls x) f=0
  | [],_,_,_,_=>rfl
  | l::r,h,x,b,f=>by
    simp only [List.all_cons,Bool.and_eq_true] at h
    simp only [aL,aK,Fg h.1,BD h.2]
theorem yQ {p:Sh} (h:qR p=true) (x:p.ty.den) (b:Nat) (v:Value):cO b (p.con x) v=0:=by
  cases p with
  | lf l=>
    have:=Fg h x b v
    cases l with
    | cst d=>cases d<;>first | exact this | (simp [qR,jX,iD] at h;done)
    | _=>exact this
  | agg ls=>
    cases v with
    | agg arr=>exact BD h x b _
    | _=>rfl
  | aH st live ls=>cases h
  | aU st live ar t=>cases h
theorem Lf.CQ {l:Lf} {d:D} {x:l.ty.den} {v:Value} (hok:jX l=true) (hx:l.arg d=some x) (h:bI w G pt (bU d) v):bI w G bJ (l.con x) v:=by
  have plain:l.abs (bU d)=some x→bI w G bJ (l.con x) v:=by
    intro hx
    refine bI.ptr (pt:=pt) (fun i hi=>?_) ?_
    · rw [qD (Ny hok)] at hi;simp at hi
    · rw [Lf.lT hx];exact h
  cases l with
  | sl f t=>
    have hf:f=0:=Nat.eq_of_beq_eq_true hok
    subst hf
    cases d with
    | jf=>
      simp only [Lf.arg,Option.some.injEq] at hx
      subst hx
      have hv:v = .slice none 0 0:=h
      subst hv
      exact ⟨none,0,0,rfl,rfl,by simp,Nat.le_refl _,.inl rfl⟩
    | _=>exact plain hx
  | _=>exact plain hx
def vK (s:St) (a:Act) (pt:Nat→Nat→Option Value) (b:Nat):Prop:=
  (∃ id st ar t l,get s (2*id+1) = .aU st true ar t l∧bA (pt id st)=some b)∨∃ t,0<cT s a b t
def eH (w:World) (b:Nat):Nat:=
  match w.heap[b]? with
  | some (.cells cur _ _)=>cur.size
  | _=>0
open Classical in
noncomputable def eu (len:Bool) (s:St) (a:Act) (pt:Nat→Nat→Option Value) (w:World) (G:Nat→Nat) (b:Nat):Nat:=
  if len=true∧vK s a pt b then eH w b else G b
theorem Nz {b f:Nat} {t:Ty} {l:List t.den} (v:Value):cO b (.sl f t l) v=dw b (.sl f t l) v:=by cases v<;>rfl
theorem WM {b f:Nat} {t:Ty} {l:List t.den} (v:Value):D9 b (.sl f t l) v=dw b (.sl f t l) v:=by cases v<;>rfl
theorem WO {d:D} {v:Value} {b:Nat} (h:bI w G pt d v) (hc:0<dw b d v):G b≤eH w b:=by
  cases d with
  | sl f t l=>
    obtain ⟨a',n,c,rfl,h2,h3,h4⟩:=h
    cases a' with
    | none=>simp [dw] at hc
    | some a'=>
      simp only [dw] at hc
      split at hc
      · rename_i hf
        have key:∀ b':Nat,(some a':Option Addr)=some ⟨b',0,none⟩→G b'≤l.length*t.nc→Room w b' (c*t.nc)→l.length≤c→G b≤eH w b:=by
          intro b' hb' g1 g2 g3
          have:a'.block=b':=by
            simp only [Option.some.injEq] at hb'
            rw [hb']
          rw [hf.2] at this
          subst this
          obtain ⟨cur,e,fr,q1,q2,_⟩:=g2
          simp only [eH,q1]
          exact Nat.le_trans g1 (Nat.le_trans (Nat.mul_le_mul_right _ g3) q2)
        match f,hf.1,h4 with
        | 1,_,h4=>
          rcases h4 with h4 | ⟨b',e,g1,g2,g3,_,_⟩
          · cases h4.1
          · exact key b' e (Nat.le_of_eq g1) g2 g3
        | 2,_,h4=>
          rcases h4 with h4 | ⟨b',e,g1,g2,g3,_,_⟩
          · cases h4.1
          · exact key b' e (by omega) g2 g3
        | n+3,_,h4=>exact h4.elim
      · omega
  | _=>cases v<;>simp [dw] at hc
theorem NA:∀ {ds:List D} {f:Nat→Value} {b:Nat},aQ w G pt ds f→0<aK b ds f→G b≤eH w b
  | [],_,_,_,hc=>by simp [aK] at hc
  | d::r,f,b,h,hc=>by
    simp only [aK] at hc
    by_cases h0:0<dw b d (f 0)
    · exact WO (h 0 (by simp)).1 h0
    · exact NA (ds:=r) (f:=fun i=>f (i+1)) (fun j hj=>by
        have:=h (j+1) (by simpa using hj)
        simpa using this) (by omega)
theorem afl {d:D} {v:Value} {b:Nat} (h:wU w G pt d v) (hc:0<D9 b d v):G b≤eH w b:=by
  cases d with
  | agg cs=>
    obtain ⟨arr,rfl,h2,h3⟩:=h
    exact NA h3 hc
  | sl f t l=>
    rw [WM] at hc
    exact WO (pt:=pt) (d:=.sl f t l) h hc
  | _=>cases v<;>simp [D9,dw] at hc
theorem TW:∀ {ds:List D} {f:Nat→Value} {b:Nat},(∀ j (h:j<ds.length),wU w G pt ds[j] (f j))→0<mg b ds f→G b≤eH w b
  | [],_,_,_,hc=>by simp [mg] at hc
  | d::r,f,b,h,hc=>by
    simp only [mg] at hc
    by_cases h0:0<D9 b d (f 0)
    · exact afl (h 0 (by simp)) h0
    · exact TW (ds:=r) (f:=fun i=>f (i+1)) (fun j hj=>by
        have:=h (j+1) (by simpa using hj)
        simpa using this) (by omega)
theorem afm {d:D} {v:Value} {b:Nat} (h:aY w G pt d v) (hc:0<cO b d v):G b≤eH w b:=by
  cases d with
  | agg cs=>
    obtain ⟨arr,rfl,h2,h3⟩:=h
    exact NA h3 hc
  | gB vs=>
    obtain ⟨arr,rfl,h2,h3⟩:=h
    exact TW h3 hc
  | fn f caps=>
    obtain ⟨arr,rfl,h2,h3,h4⟩:=h
    simp [cO,dw] at hc
  | sl f t l=>
    rw [Nz] at hc
    exact WO (pt:=pt) (d:=.sl f t l) h hc
  | _=>cases v<;>simp [cO,dw] at hc
theorem Rel.nQ (R:Rel E C s a w G pt) {id st:Nat} {ar:Bool} {t:Ty} {l:List t.den} (h:get s (2*id+1) = .aU st true ar t l) {b:Nat} (hb:bA (pt id st)=some b) :
    b<w.heap.size∧G b=0∧l.length*t.nc≤eH w b∧0<cB s w pt b id:=by
  have hcount:0<cB s w pt b id:=by
    simp only [cB,h,fI,bR,hb,if_true]
    exact Nat.one_pos
  have hlt:=(R.cb b (Nat.lt_of_lt_of_le hcount (R.gJ b id))).1
  obtain ⟨g1,g2,g3⟩:=jO R h hb
  refine ⟨hlt,g3,?_,hcount⟩
  obtain ⟨cur,e,fr,q1,q2,_⟩:=g2
  simp only [eH,q1]
  exact q2
theorem Rel.Fh (R:Rel E C s a w G pt) {b:Nat} (h:vK s a pt b):b<w.heap.size∧G b≤eH w b∧0<TC E.n C.m s a w pt b:=by
  rcases h with ⟨id,st,ar,t,l,h1,h2⟩ | ⟨t,h⟩
  · obtain ⟨q1,q2,q3,q4⟩:=R.nQ h1 h2
    exact ⟨q1,by omega,Nat.lt_of_lt_of_le q4 (R.gJ b id)⟩
  · have:=Nat.lt_of_lt_of_le h (R.lN b t)
    exact ⟨(R.cb b this).1,afm (R.tm t) h,this⟩
theorem Rel.qF (R:Rel E C s a w G pt) (len:Bool):Ext w G w (eu len s a pt w G):=by
  refine ⟨fun _ _ _=>rfl,fun b=>?_⟩
  unfold eu
  split
  · rename_i h
    exact (R.Fh h.2).2.1
  · exact Nat.le_refl _
theorem Rel.abL (R:Rel E C s a w G pt) (len:Bool):∀ b,w.heap.size≤b→eu len s a pt w G b=0:=by
  intro b hb
  unfold eu
  split
  · rename_i h
    have:=(R.Fh h.2).1
    omega
  · exact R.gz b hb
theorem Rx {cs:List D} {v:Value} (h:aY w G pt (view (.agg cs)) v):∃ arr,v = .agg arr∧arr.size=cs.length∧aQ w G pt (cs.map bU) (aO arr):=by
  obtain ⟨arr,h1,h2,h3⟩:=h
  exact ⟨arr,h1,by simpa using h2,h3⟩
def Hq:D→Bool
  | .agg _ | .gB _ | .fn _ _ | .aH _ _ _ | .aU _ _ _ _ _ | .fM _ _ | .AJ _ _ _=>true
  | _=>false
theorem tN {l:Lf} {d:D} {x:l.ty.den} (hd:Hq d=true) (hok:jX l=true) (h:l.arg d=some x):False:=by
  cases l with
  | cst d0=>
    cases d0<;>first | (cases hok;done) | (cases d<;>first | (cases hd;done) | (cases h;done))
  | _=>cases d<;>first | (cases hd;done) | (cases h;done) | (simp [Lf.arg,Lf.abs,bU] at h)
theorem vL {l:Lf} {d:D} {x:l.ty.den} (hd:Hq d=true) (hr:Ww d=false) (hok:jX l=true) (h:l.Ao s d=some x):False:=by
  have h':l.arg d=some x:=by
    cases l with
    | sl f t=>cases d<;>first | exact h | (cases hr;done)
    | va k=>cases d<;>first | exact h | (cases hr;done)
    | _=>exact h
  exact tN hd hok h'
theorem BF (R:Rel E C s a w G pt) {l:Lf} {d:D} {x:l.ty.den} {v:Value} {len:Bool} (hok:jX l=true) (hx:l.Ao s d=some x) (hv:bI w (eu len s a pt w G) pt (bU d) v)
    (hlen:Ww d=true→len=true):bI w (eu len s a pt w G) bJ (l.con x) v:=by
  cases hd:Ww d with
  | false=>
    have h':l.arg d=some x:=by
      cases l with
      | sl f t=>cases d<;>first | exact hx | (cases hd;done)
      | va k=>cases d<;>first | exact hx | (cases hd;done)
      | _=>exact hx
    exact Lf.CQ hok h' hv
  | true=>
    cases d with
    | fM id st=>
      have hl:len=true:=hlen rfl
      cases l with
      | sl f t=>
        have hf:f=0:=Nat.eq_of_beq_eq_true hok
        subst hf
        simp only [Lf.Ao] at hx
        split at hx
        · rename_i st' t' l hb
          cases hc:Nat.beq st st' with
          | false=>rw [hc] at hx;cases hx
          | true=>
            rw [hc] at hx
            simp only [cond_true] at hx
            have hc:=Nat.eq_of_beq_eq_true hc
            subst hc
            split at hx
            · rename_i hty
              have hty:=Ty.eq_of_beq hty
              subst hty
              simp only [Option.some.injEq] at hx
              have hx:l=x:=hx
              subst hx
              have hv:pt id st=some v:=hv
              have hB:=R.bx id
              rw [hb] at hB
              obtain ⟨a',n,c,h1,h2,h3,h4⟩:=hB rfl
              rw [hv] at h1
              simp only [Option.some.injEq] at h1
              refine ⟨a',n,c,h1,h2,h3,?_⟩
              rcases h4 with ⟨rfl,rfl,rfl⟩ | ⟨b,rfl,g1,g2,g3,g4,g5⟩
              · exact ⟨Nat.le_refl _,.inl rfl⟩
              · have hblk:bA (pt id st)=some b:=by rw [hv,h1];rfl
                refine ⟨g3,.inr ⟨b,0,rfl,?_,g4.mono (R.qF len) fun _ _ _=>rfl⟩⟩
                rw [Nat.zero_add]
                have hL:vK s a pt b:=.inl ⟨id,st,_,t',l,hb,hblk⟩
                unfold eu
                rw [if_pos ⟨hl,hL⟩]
                exact (R.nQ hb hblk).2.2.1
            · cases hx
        · cases hx
      | cst d0=>exact (tN (l:=.cst d0) (d:=.fM id st) rfl hok hx).elim
      | int k=>exact (tN (l:=.int k) (d:=.fM id st) rfl hok hx).elim
      | bool=>exact (tN (l:=.bool) (d:=.fM id st) rfl hok hx).elim
      | str=>exact (tN (l:=.str) (d:=.fM id st) rfl hok hx).elim
      | fO f t=>exact (tN (l:=.fO f t) (d:=.fM id st) rfl hok hx).elim
      | vp t=>exact (tN (l:=.vp t) (d:=.fM id st) rfl hok hx).elim
      | av k=>exact (tN (l:=.av k) (d:=.fM id st) rfl hok hx).elim
      | va k=>exact (tN (l:=.va k) (d:=.fM id st) rfl hok hx).elim
    | ptr id st off=>
      have hl:len=true:=hlen rfl
      have other:∀ {l:Lf} {x:l.ty.den},jX l=true→l.arg (.ptr id st off)=some x→False:=by
        intro l x hok hx
        cases l with
        | cst d0=>cases d0<;>first | (cases hok;done) | (cases hx;done)
        | _=>first | (cases hx;done) | (simp [Lf.arg,Lf.abs,bU] at hx)
      cases l with
      | va k=>
        cases off with
        | succ n=>exact (other hok hx).elim
        | zero=>
          simp only [Lf.Ao] at hx
          split at hx
          · rename_i st' k' l hb
            cases hc:(Nat.beq st st' && iO k k') with
            | false=>rw [hc] at hx;cases hx
            | true=>
              rw [hc] at hx
              simp only [cond_true,Option.some.injEq] at hx
              simp only [Bool.and_eq_true] at hc
              have hc1:=Nat.eq_of_beq_eq_true hc.1
              have hc2:=dX hc.2
              subst hc1;subst hc2
              have hx:l=x:=hx
              subst hx
              obtain ⟨b,hblk,hv⟩:=hv
              obtain ⟨g1,g2,g3⟩:=jO R hb hblk
              refine ⟨b,0,hv,?_,g1.mono (R.qF len) fun _ _ _=>rfl⟩
              rw [Nat.zero_add]
              have hL:vK s a pt b:=.inl ⟨id,st,_,_,l,hb,hblk⟩
              unfold eu
              rw [if_pos ⟨hl,hL⟩]
              have:=(R.nQ hb hblk).2.2.1
              simpa [Ty.nc] using this
          · cases hx
      | sl f t=>exact (other (l:=.sl f t) hok hx).elim
      | cst d0=>exact (other (l:=.cst d0) hok hx).elim
      | int k=>exact (other (l:=.int k) hok hx).elim
      | bool=>exact (other (l:=.bool) hok hx).elim
      | str=>exact (other (l:=.str) hok hx).elim
      | fO f t=>exact (other (l:=.fO f t) hok hx).elim
      | vp t=>exact (other (l:=.vp t) hok hx).elim
      | av k=>exact (other (l:=.av k) hok hx).elim
    | _=>cases hd
theorem wO (R:Rel E C s a w G pt) {len:Bool}:∀ {ls:List Lf} {ds:List D} {x:(eD ls).den} {f:Nat→Value},ls.all jX=true→nP s ls ds=some x →
    aQ w (eu len s a pt w G) pt (ds.map bU) f→(∀ d∈ds,Ww d=true→len=true)→aQ w (eu len s a pt w G) bJ (aL ls x) f∧(aL ls x).length=ds.length
  | [],[],_,_,_,_,h,_=>⟨fun j hj=>by simp [aL] at hj,rfl⟩
  | [],_::_,_,_,_,h,_,_=>by simp [nP] at h
  | _::_,[],_,_,_,h,_,_=>by simp [nP] at h
  | l::r,d::ds,x,f,hok,hx,h,hl=>by
    simp only [List.all_cons,Bool.and_eq_true] at hok
    simp only [nP] at hx
    split at hx
    · rename_i y z h1 h2
      simp only [Option.some.injEq] at hx
      subst hx
      have hd:=h 0 (by simp)
      have q1:=BF (bJ:=bJ) R hok.1 h1 hd.1 (hl d (by simp))
      obtain ⟨p1,p2⟩:=wO R (f:=fun i=>f (i+1)) hok.2 h2 (fun j hj=>by
        have:=h (j+1) (by simpa using hj)
        simpa using this) (fun d' hd'=>hl d' (List.mem_cons_of_mem _ hd'))
      refine ⟨fun j hj=>?_,by simp [aL,p2]⟩
      cases j with
      | zero=>exact ⟨q1,hd.2⟩
      | succ j=>exact p1 j (by simpa [aL] using hj)
    · cases hx
theorem CQ (R:Rel E C s a w G pt) {p:Sh} {d:D} {x:p.ty.den} {v:Value} {len:Bool} (hok:qR p=true) (hx:p.arg s d=some x) (hv:aY w (eu len s a pt w G) pt (view d) v)
    (hlen:gQ d=true→len=true):aY w (eu len s a pt w G) bJ (p.con x) v:=by
  cases p with
  | lf l=>
    have Hr:jX l=true:=hok
    have hx:l.Ao s d=some x:=hx
    -- a leaf
    have abM:bI w (eu len s a pt w G) bJ (l.con x) v→aY w (eu len s a pt w G) bJ (Sh.con (.lf l) x) v:=by
      intro h
      cases l with
      | cst d0=>cases d0<;>first | exact h | (simp [jX,iD] at Hr)
      | _=>exact h
    have plain:bI w (eu len s a pt w G) pt (bU d) v→(Ww d=true→len=true)→aY w (eu len s a pt w G) bJ (Sh.con (.lf l) x) v:=
      fun h2 h3=>abM (BF R Hr hx h2 h3)
    cases d with
    | agg cs=>exact (vL (d:=.agg cs) rfl rfl Hr hx).elim
    | gB cs=>exact (vL (d:=.gB cs) rfl rfl Hr hx).elim
    | fn f cs=>exact (vL (d:=.fn f cs) rfl rfl Hr hx).elim
    | aH st l cs=>exact (vL (d:=.aH st l cs) rfl rfl Hr hx).elim
    | aU st l ar t ls=>exact (vL (d:=.aU st l ar t ls) rfl rfl Hr hx).elim
    | _=>exact plain hv hlen
  | agg ls=>
    cases d with
    | agg cs=>
      simp only [Sh.arg] at hx
      obtain ⟨arr,rfl,h2,h3⟩:=Rx hv
      obtain ⟨q1,q2⟩:=wO (bJ:=bJ) R hok hx h3 (fun d hd hr=>hlen (List.any_eq_true.2 ⟨d,hd,hr⟩))
      exact ⟨arr,rfl,by rw [h2];exact q2.symm,q1⟩
    | _=>simp [Sh.arg] at hx
  | aH st live ls=>cases hok
  | aU st live ar t=>cases hok
theorem Lf.pq {l:Lf} {d:D} {x:l.ty.den} {v:Value} (hok:iD l=true) (hx:l.give d=some x) (h:bI w G pt d v):bI w G bJ (l.con x) v∧∀ b,dw b (l.con x) v=dw b d v:=by
  have plain:l.abs d=some x→bI w G bJ (l.con x) v∧∀ b,dw b (l.con x) v=dw b d v:=by
    intro hx
    have e:=Lf.lT hx
    refine ⟨bI.ptr (pt:=pt) (fun i hi=>?_) (by rw [e];exact h),fun b=>by rw [e]⟩
    rw [qD hok] at hi;simp at hi
  cases l with
  | sl f t=>
    cases d with
    | jf=>
      simp only [Lf.give] at hx
      cases hf:Nat.blt f 3 with
      | false=>rw [hf] at hx;cases hx
      | true=>
        rw [hf] at hx
        simp only [cond_true,Option.some.injEq] at hx
        subst hx
        have hv:v = .slice none 0 0:=h
        subst hv
        have hf:=Nat.le_of_ble_eq_true hf
        refine ⟨⟨none,0,0,rfl,rfl,by simp,?_⟩,fun b=>rfl⟩
        match f,hf with
        | 0,_=>exact ⟨Nat.le_refl _,.inl rfl⟩
        | 1,_=>exact .inl ⟨rfl,rfl,rfl⟩
        | 2,_=>exact .inl ⟨rfl,rfl,rfl⟩
        | n+3,h=>omega
    | _=>exact plain hx
  | _=>exact plain hx
theorem yR:∀ {ls:List Lf} {ds:List D} {x:(eD ls).den} {f:Nat→Value},ls.all iD=true→vw ls ds=some x→aQ w G pt ds f →
    aQ w G bJ (aL ls x) f∧(aL ls x).length=ds.length∧∀ b,aK b (aL ls x) f=aK b ds f
  | [],[],_,_,_,_,h=>⟨fun j hj=>by simp [aL] at hj,rfl,fun _=>rfl⟩
  | [],_::_,_,_,_,h,_=>by simp [vw] at h
  | _::_,[],_,_,_,h,_=>by simp [vw] at h
  | l::r,d::ds,x,f,hok,hx,h=>by
    simp only [List.all_cons,Bool.and_eq_true] at hok
    simp only [vw] at hx
    split at hx
    · rename_i y z h1 h2
      simp only [Option.some.injEq] at hx
      subst hx
      have hd:=h 0 (by simp)
      obtain ⟨q1,q2⟩:=Lf.pq (bJ:=bJ) hok.1 h1 hd.1
      obtain ⟨p1,p2,p3⟩:=yR (f:=fun i=>f (i+1)) hok.2 h2 (fun j hj=>by
        have:=h (j+1) (by simpa using hj)
        simpa using this)
      refine ⟨fun j hj=>?_,by simp [aL,p2],fun b=>?_⟩
      · cases j with
        | zero=>exact ⟨q1,hd.2⟩
        | succ j=>exact p1 j (by simpa [aL] using hj)
      · simp only [aL,aK]
        rw [q2 b,p3 b]
    · cases hx
theorem pq {p:Sh} {d:D} {x:p.ty.den} {v:Value} (hok:lK p=true) (hx:p.give d=some x) (h:aY w G pt d v):aY w G bJ (p.con x) v∧∀ b,cO b (p.con x) v=cO b d v:=by
  have abN:∀ {l:Lf} {x:l.ty.den},iD l=true→bI w G bJ (l.con x) v→aY w G bJ (Sh.con (.lf l) x) v:=by
    intro l x hok h
    cases l with
    | cst d0=>cases d0<;>first | exact h | (simp [iD] at hok)
    | _=>exact h
  have abO:∀ {l:Lf} {x:l.ty.den} (b:Nat),iD l=true→cO b (Sh.con (.lf l) x) v=dw b (l.con x) v:=by
    intro l x b hok
    cases l with
    | cst d0=>cases d0<;>first | rfl | (simp [iD] at hok)
    | _=>rfl
  cases p with
  | lf l=>
    have hok':iD l=true:=hok
    have no:∀ {P:Prop},l.give d=some x→Hq d=true→P:=by
      intro P h0 h1
      exfalso
      cases l with
      | cst d0=>
        cases d0<;>first | (simp [iD] at hok';done) | (cases d<;>first | (cases h1;done) | (simp [Lf.give,Lf.abs,keq] at h0;done) | (cases h0;done))
      | _=>cases d<;>first | (cases h1;done) | (simp [Lf.give,Lf.abs] at h0;done) | (cases h0;done)
    cases d with
    | agg cs=>exact no hx rfl
    | gB cs=>exact no hx rfl
    | fn f cs=>exact no hx rfl
    | aH st l cs=>exact no hx rfl
    | aU st l ar t ls=>exact no hx rfl
    | _=>
      obtain ⟨h1,h2⟩:=Lf.pq (pt:=pt) (bJ:=bJ) hok' hx h
      exact ⟨abN hok' h1,fun b=>by rw [abO b hok',h2 b];rfl⟩
  | agg ls=>
    cases d with
    | agg cs=>
      simp only [Sh.give] at hx
      obtain ⟨arr,rfl,h2,h3⟩:=h
      obtain ⟨q1,q2,q3⟩:=yR (pt:=pt) (bJ:=bJ) hok hx h3
      exact ⟨⟨arr,rfl,by rw [h2];exact q2.symm,q1⟩,fun b=>q3 b⟩
    | _=>simp [Sh.give] at hx
  | aH st live ls=>cases hok
  | aU st live ar t=>cases hok
theorem eO {d:D} {v:Value} {Gl:Nat→Nat} (hE:Ext w G w Gl) (h:bI w G pt d v) (hc:∀ b,0<dw b d v→Gl b=eH w b):bI w Gl pt (bU d) v:=by
  have plain:(∀ b,dw b d v=0)→bI w Gl pt (bU d) v:=fun h0=>by
    refine bI.mono hE (fun _ _ _ h=>h) (h.view0 h0) fun b hb=>?_
    have h1:dw b (bU d) v=0:=by
      cases d with
      | sl f t l=>cases v with
        | slice a' n c=>cases a'<;>simp [bU,dw]
        | _=>rfl
      | _=>exact h0 b
    omega
  cases d with
  | sl f t l=>
    obtain ⟨a',n,c,rfl,h2,h3,h4⟩:=h
    by_cases h0:∀ b,dw b (.sl f t l) (.slice a' n c)=0
    · exact plain h0
    · obtain ⟨b,hb⟩:∃ b,dw b (.sl f t l) (.slice a' n c)≠0:=Classical.not_forall.1 h0
      have hb:0<dw b (.sl f t l) (.slice a' n c):=by omega
      have hg:=hc b hb
      cases a' with
      | none=>simp [dw] at hb
      | some a'=>
        simp only [dw] at hb
        split at hb
        · rename_i hf
          have key:∀ b':Nat,(some a':Option Addr)=some ⟨b',0,none⟩→Room w b' (c*t.nc)→l.length≤c→fB w G t l b' 0→bI w Gl pt (.sl 0 t l) (.slice (some a') n c):=by
            intro b' hb' g2 g3 g4
            simp only [Option.some.injEq] at hb'
            subst hb'
            have e:b' = b:=hf.2
            subst e
            refine ⟨_,n,c,rfl,h2,h3,g3,.inr ⟨b',0,rfl,?_,g4.mono hE fun _ _ _=>rfl⟩⟩
            rw [hg,Nat.zero_add]
            obtain ⟨cur,e,fr,q1,q2,_⟩:=g2
            simp only [eH,q1]
            exact Nat.le_trans (Nat.mul_le_mul_right _ g3) q2
          match f,hf.1,h4 with
          | 1,_,h4=>
            rcases h4 with h4 | ⟨b',e,g1,g2,g3,g4,_⟩
            · cases h4.1
            · exact key b' e g2 g3 g4
          | 2,_,h4=>
            rcases h4 with h4 | ⟨b',e,g1,g2,g3,g4,_⟩
            · cases h4.1
            · exact key b' e g2 g3 g4
          | n+3,_,h4=>exact h4.elim
        · omega
  | _=>exact plain fun b=>by cases v<;>rfl
theorem KW {ds:List D} {f:Nat→Value} {Gl:Nat→Nat} (hE:Ext w G w Gl) (h:aQ w G pt ds f) (hc:∀ b,0<aK b ds f→Gl b=eH w b):aQ w Gl pt (ds.map bU) f:=by
  intro j hj
  have hj':j<ds.length:=by simpa using hj
  rw [List.getElem_map]
  exact ⟨eO hE (h j hj').1 fun b hb=>hc b (Nat.lt_of_lt_of_le hb (iE j hj')),(h j hj').2⟩
theorem Ry {d:D} {v:Value} {Gl:Nat→Nat} (hE:Ext w G w Gl) (ht:dK d=false) (h:aY w G pt d v) (hc:∀ b,0<cO b d v→Gl b=eH w b):aY w Gl pt (view d) v:=by
  cases d with
  | agg cs=>
    obtain ⟨arr,rfl,h2,h3⟩:=h
    exact ⟨arr,rfl,by simpa using h2,KW hE h3 hc⟩
  | gB vs=>cases ht
  | fn f caps=>
    refine aY.mono hE (fun _ _ _ h=>h) (d:=.fn f caps) h fun b hb=>?_
    obtain ⟨arr,rfl,_⟩:=h
    simp [cO,dw] at hb
  | sl f t l=>exact eO (pt:=pt) (d:=.sl f t l) hE h fun b hb=>hc b (by rw [Nz];exact hb)
  | aH st l cs=>exact h.elim
  | aU st l ar t ls=>exact h.elim
  | iC st l=>exact h.elim
  | undef=>trivial
  | bool x=>exact eO (pt:=pt) (d:=.bool x) hE h fun b hb=>by cases v<;>simp [dw] at hb
  | int k n=>exact eO (pt:=pt) (d:=.int k n) hE h fun b hb=>by cases v<;>simp [dw] at hb
  | str x=>exact eO (pt:=pt) (d:=.str x) hE h fun b hb=>by cases v<;>simp [dw] at hb
  | jf=>exact eO (pt:=pt) (d:=.jf) hE h fun b hb=>by cases v<;>simp [dw] at hb
  | ptr i st off=>exact eO (pt:=pt) (d:=.ptr i st off) hE h fun b hb=>by cases v<;>simp [dw] at hb
  | kL i st j off es=>exact eO (pt:=pt) (d:=.kL i st j off es) hE h fun b hb=>by cases v<;>simp [dw] at hb
  | qO g off=>exact eO (pt:=pt) (d:=.qO g off) hE h fun b hb=>by cases v<;>simp [dw] at hb
  | gN t l i off=>exact eO (pt:=pt) (d:=.gN t l i off) hE h fun b hb=>by cases v<;>simp [dw] at hb
  | V9 t l=>exact eO (pt:=pt) (d:=.V9 t l) hE h fun b hb=>by cases v<;>simp [dw] at hb
  | fM i st=>exact eO (pt:=pt) (d:=.fM i st) hE h fun b hb=>by cases v<;>simp [dw] at hb
  | Ai f=>exact eO (pt:=pt) (d:=.Ai f) hE h fun b hb=>by cases v<;>simp [dw] at hb
  | fO f t x=>exact eO (pt:=pt) (d:=.fO f t x) hE h fun b hb=>by cases v<;>simp [dw] at hb
  | AJ i st n=>exact eO (pt:=pt) (d:=.AJ i st n) hE h fun b hb=>by cases v<;>simp [dw] at hb
  | av k l=>exact eO (pt:=pt) (d:=.av k l) hE h fun b hb=>by cases v<;>simp [dw] at hb
  | LY k l=>exact eO (pt:=pt) (d:=.LY k l) hE h fun b hb=>by cases v<;>simp [dw] at hb
theorem yS {p:Sh} (h:lK p=true) (ho:ownSh p=false):qR p=true:=by
  have leaf:∀ {l:Lf},iD l=true→I5 l=false→jX l=true:=by
    intro l h1 h2
    cases l with
    | sl f t=>
      simp only [I5,Bool.not_eq_false'] at h2
      exact h2
    | _=>exact h1
  cases p with
  | lf l=>exact leaf h ho
  | agg ls=>
    simp only [lK,qR,ownSh,List.all_eq_true,List.any_eq_false] at *
    intro l hl
    exact leaf (h l hl) (by simpa using ho l hl)
  | aH st live ls=>cases h
  | aU st live ar t=>cases h
end
end Go.aW
namespace Go.aW
theorem bX.flat {w:World} {G G':Nat→Nat}:∀ {t:Ty} {x:t.den} {b o:Nat},Bb t=true→bX w G t x b o→bX w G' t x b o
  | .int k,n,b,o,_,h=>h
  | .bool,_,_,_,_,h=>h
  | .str,_,_,_,_,h=>h
  | .sl _,_,_,_,hf,_=>by cases hf
  | .unit,_,_,_,_,_=>trivial
  | .cons a c,x,b,o,hf,h=>by
    simp only [Bb,Bool.and_eq_true] at hf
    simp only [bX] at h ⊢
    exact ⟨h.1.flat hf.1,h.2.flat hf.2⟩
  | .st _ c,x,b,o,hf,h=>by
    simp only [bX] at h ⊢
    exact bX.flat (t:=c) hf h
section
variable {P:Program} {E E':Env} {C C':Ctx} {s s':St} {a a':Act} {w w':World} {G G':Nat→Nat} {pt bJ:Nat→Nat→Option Value}
theorem Lf.yU {l:Lf} {x:l.ty.den} {v:Value} (hok:iD l=true) (hG:(∀ b,G' b=G b)∨jP l=true) (hc:∀ b,0<dw b (l.con x) v→G' b=G b) (h:bI w G pt (l.con x) v):bI w G' bJ (l.con x) v:=by
  have h1:bI w G bJ (l.con x) v:=h.ptr fun i hi=>by rw [qD hok] at hi;simp at hi
  rcases hG with hG | hG
  · rw [show G' = G from funext hG];exact h1
  · cases l with
    | sl f t=>
      obtain ⟨a',n,c,q1,q2,q3,q4⟩:=h1
      subst q1
      refine ⟨a',n,c,rfl,q2,q3,?_⟩
      simp only [jP,Bool.and_eq_true,Bool.not_eq_true'] at hG
      have hf:f≠0:=fun h0=>by subst h0;cases hG.1
      match f,hf,hc,q4 with
      | 1,_,hc,q4=>
        rcases q4 with q4 | ⟨b,rfl,g1,g2,g3,g4,g5⟩
        · exact .inl q4
        · have:G' b=G b:=hc b (by simp [Lf.con,dw])
          exact .inr ⟨b,rfl,by rw [this];exact g1,g2,g3,fun i hi=>(g4 i hi).flat hG.2,g5⟩
      | 2,_,hc,q4=>
        rcases q4 with q4 | ⟨b,rfl,g1,g2,g3,g4,g5⟩
        · exact .inl q4
        · have:G' b=G b:=hc b (by simp [Lf.con,dw])
          exact .inr ⟨b,rfl,by rw [this];exact g1,g2,g3,fun i hi=>(g4 i hi).flat hG.2,g5⟩
      | n+3,_,_,q4=>exact q4.elim
    | cst d=>cases d<;>first | exact h1 | (simp [jP] at hG;done)
    | fO f t=>cases hG
    | vp t=>cases hG
    | va t=>cases hG
    | _=>exact h1
theorem tO:∀ {ls:List Lf} {x:(eD ls).den} {f:Nat→Value},ls.all iD=true→((∀ b,G' b=G b)∨ls.all jP=true)→(∀ b,0<aK b (aL ls x) f→G' b=G b) →
    aQ w G pt (aL ls x) f→aQ w G' bJ (aL ls x) f
  | [],_,_,_,_,_,_=>fun j hj=>by simp [aL] at hj
  | l::r,x,f,hok,hG,hc,h=>by
    simp only [List.all_cons,Bool.and_eq_true] at hok
    have h0:=h 0 (by simp [aL])
    have hr:=tO (ls:=r) (x:=x.2) (f:=fun i=>f (i+1)) hok.2 (hG.imp id fun h=>by simp only [List.all_cons,Bool.and_eq_true] at h;exact h.2)
      (fun b hb=>hc b (by simp only [aL,aK];omega)) (fun j hj=>h (j+1) (by simpa [aL] using hj))
    intro j hj
    cases j with
    | zero=>exact ⟨Lf.yU hok.1 (hG.imp id fun h=>by simp only [List.all_cons,Bool.and_eq_true] at h;exact h.1) (fun b hb=>hc b (by simp only [aL,aK];omega)) h0.1,h0.2⟩
    | succ j=>exact hr j (by simpa [aL] using hj)
theorem Sh.yU {p:Sh} {x:p.ty.den} {v:Value} (hok:lK p=true) (hG:(∀ b,G' b=G b)∨noView p=true) (hc:∀ b,0<cO b (p.con x) v→G' b=G b) (h:aY w G pt (p.con x) v):aY w G' bJ (p.con x) v:=by
  cases p with
  | lf l=>
    have h0:iD l=true:=hok
    have key:=Lf.yU (w:=w) (pt:=pt) (bJ:=bJ) (x:=x) (v:=v) h0 hG
    cases l with
    | cst d=>cases d<;>first | exact key hc h | (cases h0;done)
    | _=>exact key hc h
  | agg ls=>
    obtain ⟨arr,rfl,h2,h3⟩:=h
    exact ⟨arr,rfl,h2,tO hok hG hc h3⟩
  | aH st live ls=>cases hok
  | aU st live ar t=>cases hok
def CS (hp:Bool) (pt:Nat→Nat→Option Value) (id st:Nat):Nat→Nat→Option Value:=
  fun i j=>if i=0∧j=1∧hp=true then pt id st else none
def Q0 (hp:Bool) (s:St) (w:World) (pt:Nat→Nat→Option Value) (G:Nat→Nat) (id st:Nat) (gv:Nat→Nat):Ctx:=
  { m:=2,w0:=w,G0:=G,X:=fun b=>(hp=true∧0<cB s w pt b id)∨0<gv b,pin:=if hp=true then pt id st else none }
def aR.k0 (c:aR):Nat:=bif c.aG then 1 else 0
theorem aR.vM (c:aR):c.num=c.k0+c.ps.length:=rfl
theorem KX (c:aR) (x:(Ty.cons (eD c.pre) (iT c.ps)).den) :
    (∀ i,get (bg c x) (2*i+1)=if c.aG=true∧i=0 then .aH 1 true (aL c.pre x.1) else .undef) ∧
    (∀ t,get (bg c x) (2*t)=if c.aG=true∧t=0 then .ptr 0 1 0 else if c.k0≤t∧t<c.num then (bP c.ps x.2).getD (t - c.k0) .undef else .undef):=by
  have e:∀ k,get (bg c x) k=if c.aG=true∧k=1 then .aH 1 true (aL c.pre x.1) else if c.aG=true∧k=0 then .ptr 0 1 0 else get (iN c.k0 (bP c.ps x.2)++[]) k:=by
    intro k
    unfold bg aR.k0
    cases c.aG with
    | true=>
      simp only [cond_true,aF,true_and,jh,List.append_nil]
    | false=>
      simp only [cond_false,Bool.false_eq_true,false_and,if_false,jh,List.append_nil]
  have hl:=fK c.ps x.2
  constructor
  · intro i
    rw [e,fq]
    by_cases h:c.aG=true∧i=0
    · rw [if_pos h,if_pos ⟨h.1,by omega⟩]
    · rw [if_neg h,if_neg (fun hh=>h ⟨hh.1,by omega⟩),if_neg (fun hh=>by omega),if_neg (by omega)]
      rfl
  · intro t
    rw [e,fq,if_neg (fun hh=>by omega)]
    by_cases h:c.aG=true∧t=0
    · rw [if_pos h,if_pos ⟨h.1,by omega⟩]
    · rw [if_neg h,if_neg (fun hh=>h ⟨hh.1,by omega⟩)]
      have e2:2*t / 2=t:=by omega
      have e1:2*t%2=0:=by omega
      rw [hl,e2,aR.vM]
      by_cases h2:c.k0≤t∧t<c.k0+c.ps.length
      · rw [if_pos h2,if_pos ⟨e1,h2⟩]
      · rw [if_neg h2,if_neg (fun hh=>h2 hh.2)];rfl
theorem lZ:∀ (l:List Sh) (x:(iT l).den) (i:Nat),i<l.length→∃ (p:Sh) (y:p.ty.den),p∈l∧(bP l x).getD i .undef=p.con y
  | [],_,_,h=>by simp at h
  | p::r,x,0,_=>⟨p,x.1,by simp,rfl⟩
  | p::r,x,i+1,h=>by
    obtain ⟨q,y,h1,h2⟩:=lZ r x.2 i (by simpa using h)
    exact ⟨q,y,List.mem_cons_of_mem _ h1,h2⟩
theorem NC (R:Rel E C s a w G pt) {c:aR} (hok:c.ok=true) {x:(Ty.cons (eD c.pre) (iT c.ps)).den} {id st:Nat}
    (hb:c.aG=true→get s (2*id+1) = .aH st true (aL c.pre x.1)) {vals:List Value} (hl:vals.length=c.num)
    (hv0:c.aG=true→∃ blk,bA (pt id st)=some blk∧vals.getD 0 undef = .pointer (some ⟨blk,0,none⟩))
    {Gi:Nat→Nat} (hE:Ext w G w Gi) (hx:∀ b,c.aG=true→0<cB s w pt b id→Gi b=G b) (hz:∀ b,w.heap.size≤b→Gi b=0)
    (hvd:∀ i,i<c.ps.length→aY w Gi (CS c.aG pt id st) ((bP c.ps x.2).getD i .undef) (vals.getD (c.k0+i) undef))
    {gv:Nat→Nat} (hg0:∀ b,bK c.ps.length (fun i=>cO b ((bP c.ps x.2).getD i .undef) (vals.getD (c.k0+i) undef))=gv b)
    (hg1:∀ b,TC E.n C.m s a w pt b+gv b≤1) (hg2:∀ b,0<gv b→b<w.heap.size) :
    Rel (mZ E c.num c.aG) (Q0 c.aG s w pt Gi id st gv) (bg c x) { tmps:=vals.toArray,defers:=[] } w Gi (CS c.aG pt id st):=by
  obtain ⟨rJ,Av⟩:=KX c x
  simp only [aR.ok,Bool.and_eq_true] at hok
  obtain ⟨⟨⟨⟨o1,o2⟩,o3⟩,o4⟩,o5⟩:=hok
  have Mg:∀ t,(vals.toArray.getD t undef)=vals.getD t undef:=fun t=>by simp [List.getD]
  have hp1:c.aG=true→CS c.aG pt id st 0 1=pt id st:=fun h=>by simp [CS,h]
  have tz0:∀ b,c.aG=true→cT (bg c x) { tmps:=vals.toArray,defers:=[] } b 0=0:=by
    intro b h
    simp only [cT]
    rw [Av,if_pos ⟨h,rfl⟩]
    generalize (vals.toArray.getD 0 undef)=v
    cases v<;>rfl
  have tzi:∀ i b,i<c.ps.length→cT (bg c x) { tmps:=vals.toArray,defers:=[] } b (c.k0+i)=cO b ((bP c.ps x.2).getD i .undef) (vals.getD (c.k0+i) undef):=by
    intro i b hi
    simp only [cT]
    rw [Av,Mg,if_neg ?_,if_pos ⟨Nat.le_add_right _ _,by have:=c.vM;omega⟩,show c.k0+i - c.k0=i by omega]
    rintro ⟨h,h'⟩
    have:c.k0=1:=by unfold aR.k0;rw [h];rfl
    omega
  have ts:∀ b,bK c.num (cT (bg c x) { tmps:=vals.toArray,defers:=[] } b)=gv b:=by
    intro b
    rw [←hg0 b]
    cases hP:c.aG with
    | true=>
      have hk:c.k0=1:=by unfold aR.k0;rw [hP];rfl
      rw [show c.num=c.ps.length+1 by rw [c.vM,hk];omega,nX,tz0 b hP,Nat.zero_add]
      refine aM fun i hi=>?_
      have:=tzi i b hi
      rw [hk] at this ⊢
      rw [show i+1=1+i by omega]
      exact this
    | false=>
      have hk:c.k0=0:=by unfold aR.k0;rw [hP];rfl
      rw [show c.num=c.ps.length by rw [c.vM,hk];omega]
      refine aM fun i hi=>?_
      have:=tzi i b hi
      rw [hk] at this ⊢
      rw [show 0+i=i by omega] at this ⊢
      exact this
  have bz:∀ b,TC (mZ E c.num c.aG).n (Q0 c.aG s w pt Gi id st gv).m (bg c x) { tmps:=vals.toArray,defers:=[] } w (CS c.aG pt id st) b=gv b+if c.aG=true then cB s w pt b id else 0:=by
    intro b
    have e1:=ts b
    have e2:cB (bg c x) w (CS c.aG pt id st) b 1=0:=by
      unfold cB
      rw [rJ,if_neg (by omega)];rfl
    have e3:cB (bg c x) w (CS c.aG pt id st) b 0=if c.aG=true then cB s w pt b id else 0:=by
      unfold cB
      rw [rJ]
      by_cases h:c.aG=true
      · rw [if_pos ⟨h,rfl⟩,if_pos h,hb h]
        simp only [fI,hp1 h]
      · rw [if_neg (fun hh=>h hh.1),if_neg h];rfl
    show bK c.num _+(0+_+_)=_
    rw [e1,e2,e3]
    omega
  refine ⟨by simp [mZ,hl],rfl,fun t=>?_,fun i=>?_,fun t ht=>?_,fun i hi=>?_,fun b=>?_,fun b hb'=>?_,fun b _ _=>⟨rfl,rfl⟩,Ext.refl _ _,hz,rfl,rfl,rfl,Nat.le_refl _,fun i j hj=>?_,?_,fun v hv=>?_⟩
  · rw [Av,Mg]
    by_cases h:c.aG=true∧t=0
    · rw [if_pos h]
      obtain ⟨h,rfl⟩:=h
      obtain ⟨blk,h1,h2⟩:=hv0 h
      exact ⟨blk,by rw [hp1 h];exact h1,h2⟩
    · rw [if_neg h]
      by_cases h2:c.k0≤t∧t<c.num
      · rw [if_pos h2]
        have:=hvd (t - c.k0) (by have:=c.vM;omega)
        rw [show c.k0+(t - c.k0)=t by omega] at this
        exact this
      · rw [if_neg h2];trivial
  · rw [rJ]
    by_cases h:c.aG=true∧i=0
    · rw [if_pos h]
      obtain ⟨h,rfl⟩:=h
      have hB:oD w Gi pt id (get s (2*id+1)):=(R.bx id).mono hE (fun _ _ _ h=>h) fun b hb'=>⟨rfl,hx b h hb'⟩
      rw [hb h] at hB
      obtain ⟨b,q1,q2,q3,q4⟩:=hB rfl
      exact fun _=>⟨b,by rw [hp1 h];exact q1,q2,q3,q4.ptr fun i hi=>by rw [lq o1] at hi;simp at hi⟩
    · rw [if_neg h];trivial
  · have hk:c.k0=if c.aG=true then 1 else 0:=by unfold aR.k0;cases c.aG<;>rfl
    rw [Av,if_neg ?_,if_neg ?_]
    · rintro ⟨_,h⟩
      have:c.num≤t:=ht
      omega
    · rintro ⟨h,rfl⟩
      rw [if_pos h] at hk
      have:c.num≤0:=ht
      have:=c.vM
      omega
  · rw [rJ,if_neg]
    rintro ⟨_,rfl⟩
    exact absurd hi (by simp [Q0])
  · rw [bz]
    have:=hg1 b
    have:=R.gJ b id
    split<;>omega
  · rw [bz] at hb'
    by_cases hg:0<gv b
    · exact ⟨hg2 b hg,.inr (.inr hg)⟩
    · have hg:gv b=0:=by omega
      rw [hg,Nat.zero_add] at hb'
      by_cases h:c.aG=true
      · rw [if_pos h] at hb'
        exact ⟨(R.cb b (Nat.lt_of_lt_of_le hb' (R.gJ b id))).1,.inr (.inl ⟨h,hb'⟩)⟩
      · rw [if_neg h] at hb';omega
  · rw [rJ] at hj
    unfold CS
    by_cases h:c.aG=true∧i=0
    · rw [if_pos h] at hj
      rw [if_neg]
      rintro ⟨_,rfl,_⟩
      simp [aI] at hj
    · rw [if_neg]
      rintro ⟨h1,_,h2⟩
      exact h ⟨h2,h1⟩
  · intro g k l h
    obtain ⟨h1,h2⟩:=R.gl g k l h
    exact ⟨Nat.le_trans h1 (hE.le g),h2⟩
  · simp only [Q0] at hv
    by_cases h:c.aG=true
    · rw [if_pos h] at hv
      rw [hp1 h];exact hv
    · rw [if_neg h] at hv;cases hv
end
end Go.aW
namespace Go.aW
section
variable {P:Program} {E E':Env} {C C':Ctx} {s s':St} {a a':Act} {w w':World} {G G2:Nat→Nat} {pt jy:Nat→Nat→Option Value}
open Classical in
noncomputable def jF (len:Bool) (s:St) (a:Act) (pt:Nat→Nat→Option Value) (G G2:Nat→Nat) (b:Nat):Nat:=
  if len=true∧vK s a pt b then G b else G2 b
theorem Aw (c:aR) (y:(Ty.cons c.rs.ty (eD c.post)).den):c.aG=true→get (fU c y) 1 = .aH 1 true (aL c.post y.2):=by
  intro h
  simp [fU,h,aF]
theorem ND (R:Rel E C s a w G pt) {c:aR} (hok:c.ok=true) {len:Bool} {id st:Nat} {cs:List D} {y:(Ty.cons c.rs.ty (eD c.post)).den} {vs:Array Value}
    (hb:c.aG=true→get s (2*id+1) = .aH st true cs)
    (hlen:len=true→c.rs.noView=true∧c.post.all jP=true)
    {gv:Nat→Nat} (hg1:∀ b,TC E.n C.m s a w pt b+gv b≤1) (hg2:∀ b,0<gv b→b<w.heap.size∧(C.w0.heap.size≤b∨C.X b))
    (R2:Rel (mZ E c.rs.num c.aG) (Q0 c.aG s w pt (eu len s a pt w G) id st gv) (fU c y) { tmps:=vs,defers:=[] } w' G2 jy) :
    Rel E C ((bif c.aG then [(2*id+1,.aH st true (aL c.post y.2))] else [])++s) a w' (jF len s a pt G G2) pt ∧
    (∀ b,TC E.n C.m ((bif c.aG then [(2*id+1,.aH st true (aL c.post y.2))] else [])++s) a w' pt b+TC c.rs.num 2 (fU c y) { tmps:=vs,defers:=[] } w' jy b≤1+cB (fU c y) w' jy b 0 ∧
      (0<TC c.rs.num 2 (fU c y) { tmps:=vs,defers:=[] } w' jy b→b<w'.heap.size∧(C.w0.heap.size≤b∨C.X b)∧jF len s a pt G G2 b=G2 b)):=by
  simp only [aR.ok,Bool.and_eq_true] at hok
  obtain ⟨⟨⟨⟨o1,o2⟩,o3⟩,o4⟩,o5⟩:=hok
  let XX:Nat→Prop:=fun b=>(c.aG=true∧0<cB s w pt b id)∨0<gv b
  have hX:(Q0 c.aG s w pt (eu len s a pt w G) id st gv).X=XX:=rfl
  have hw0:(Q0 c.aG s w pt (eu len s a pt w G) id st gv).w0=w:=rfl
  have hG0:(Q0 c.aG s w pt (eu len s a pt w G) id st gv).G0=eu len s a pt w G:=rfl
  have gvT:∀ b,0<gv b→TC E.n C.m s a w pt b=0:=fun b h=>by have:=hg1 b;omega
  have eU:(Q0 c.aG s w pt (eu len s a pt w G) id st gv).pin=if c.aG=true then pt id st else none:=rfl
  -- what is nQ is not given
  have TY:∀ b,vK s a pt b→¬ XX b:=by
    rintro b hl (⟨h3,h4⟩ | h4)
    · rcases hl with ⟨i,j,ar,t,l,h1,h2⟩ | ⟨t,ht⟩
      · have:=(R.nQ h1 h2).2.2.2
        have hne:i≠id:=by
          rintro rfl
          rw [hb h3] at h1;cases h1
        have:=R.bb h4 hne
        omega
      · have:=R.bt h4 t
        omega
    · have h5:=(R.Fh hl).2.2
      have h7:=gvT b h4
      omega
  have T9:∀ b,vK s a pt b→b<w.heap.size:=fun b h=>(R.Fh h).1
  have KY:∀ b,¬ (len=true∧vK s a pt b)→eu len s a pt w G b=G b∧jF len s a pt G G2 b=G2 b:=fun b h=>⟨by unfold eu;rw [if_neg h],by unfold jF;rw [if_neg h]⟩
  have isL:∀ b,len=true∧vK s a pt b→jF len s a pt G G2 b=G b:=fun b h=>by unfold jF;rw [if_pos h]
  have hE0:=R.qF len
  have hex:Ext w (eu len s a pt w G) w' G2:=by have:=R2.ex;rwa [hw0,hG0] at this
  have hfr:∀ b,b<w.heap.size→¬ XX b→w'.heap[b]? = w.heap[b]?∧G2 b=eu len s a pt w G b:=by
    intro b h1 h2
    have:=R2.fr b (by rw [hw0];exact h1) (by rw [hX];exact h2)
    rwa [hw0,hG0] at this
  have hE:Ext w G w' (jF len s a pt G G2):=by
    refine ⟨fun b o ho=>hex.cell b o (Nat.lt_of_lt_of_le ho (hE0.le b)),fun b=>?_⟩
    by_cases h:len=true∧vK s a pt b
    · rw [isL b h];exact Nat.le_refl _
    · rw [(KY b h).2]
      exact Nat.le_trans (hE0.le b) (hex.le b)
  have hT:∀ b,¬ XX b→b<w.heap.size→w'.heap[b]? = w.heap[b]?∧jF len s a pt G G2 b=G b:=by
    intro b h1 h2
    obtain ⟨q1,q2⟩:=hfr b h2 h1
    refine ⟨q1,?_⟩
    by_cases h:len=true∧vK s a pt b
    · exact isL b h
    · rw [(KY b h).2,q2,(KY b h).1]
  have WQ:∀ b,0<TC c.rs.num 2 (fU c y) { tmps:=vs,defers:=[] } w' jy b→b<w'.heap.size∧(w.heap.size≤b∨XX b):=by
    intro b h
    have:=R2.cb b h
    rwa [hw0,hX] at this
  have ct2:∀ b,TC c.rs.num 2 (fU c y) { tmps:=vs,defers:=[] } w' jy b≤1:=R2.ct
  have bk2:∀ b,0<TC c.rs.num 2 (fU c y) { tmps:=vs,defers:=[] } w' jy b→jF len s a pt G G2 b=G2 b:=by
    intro b h
    refine (KY b ?_).2
    rintro ⟨h1,h2⟩
    rcases (WQ b h).2 with h3 | h3
    · have:=T9 b h2;omega
    · exact TY b h2 h3
  have Ua:∀ b i,i<2→cB (fU c y) w' jy b i≤TC c.rs.num 2 (fU c y) { tmps:=vs,defers:=[] } w' jy b:=fun b i hi=>
    Nat.le_trans (mI (f:=cB (fU c y) w' jy b) hi) (Nat.le_add_left _ _)
  have hGv:(∀ b,jF len s a pt G G2 b=G2 b)∨c.post.all jP=true:=by
    cases len with
    | true=>exact .inr (hlen rfl).2
    | false=>exact .inl fun b=>by unfold jF;rw [if_neg (by simp)]
  have gz:∀ b,w'.heap.size≤b→jF len s a pt G G2 b=0:=by
    intro b hb'
    have h1:¬ (len=true∧vK s a pt b):=fun h=>by
      have h2:=T9 b h.2
      have h3:=R2.hs
      rw [hw0] at h3
      omega
    rw [(KY b h1).2];exact R2.gz b hb'
  have hsz:w.heap.size≤w'.heap.size:=by have:=R2.hs;rwa [hw0] at this
  have hos:w'.os=w.os:=by have:=R2.os;rwa [hw0] at this
  have hout:w'.output=w.output:=by have:=R2.out;rwa [hw0] at this
  have htp:w'.tape=w.tape:=by have:=R2.tape;rwa [hw0] at this
  -- what holds nothing of what was given
  have xt:∀ b,XX b→∀ t,cT s a b t=0:=by
    rintro b (h | h) t
    · exact R.bt h.2 t
    · have h1:=R.lN b t
      have h2:=gvT b h
      omega
  have xb:∀ b,XX b→∀ i,(c.aG=true→i≠id)→cB s w pt b i=0:=by
    rintro b (h | h) i hi
    · exact R.bb h.2 (hi h.1)
    · have h1:=R.gJ b i
      have h2:=gvT b h
      omega
  have xf:∀ b,XX b→C.w0.heap.size≤b∨C.X b:=by
    rintro b (h | h)
    · exact (R.cb b (Nat.lt_of_lt_of_le h.2 (R.gJ b id))).2
    · exact (hg2 b h).2
  cases hP:c.aG with
  | false=>
    simp only [cond_false,List.nil_append]
    have xb':∀ b,XX b→∀ i,cB s w pt b i=0:=fun b h i=>xb b h i fun h=>by rw [hP] at h;cases h
    have R3:Rel E C s a w' (jF len s a pt G G2) pt:=by
      refine R.step (fun _=>False) (fun _=>False) XX rfl R.df (fun _ _=>⟨rfl,rfl⟩) (fun _ _=>⟨rfl,rfl⟩) hE (fun _ _ _ h=>h) (fun b h1 h=>hT b h1 h) (fun b h t _=>xt b h t) (fun b h i _=>xb' b h i) xf
        (fun t h=>h.elim) (fun i h=>h.elim) (fun c1 c2 b=>?_) gz hos hout htp hsz
      have:TC E.n C.m s a w' pt b=TC E.n C.m s a w pt b:=by
        unfold TC
        rw [aM fun i _=>c1 i (fun h=>h) b,aM fun i _=>c2 i (fun h=>h) b]
      rw [this]
      exact ⟨R.ct b,fun h=>⟨Nat.lt_of_lt_of_le (R.cb b h).1 hsz,(R.cb b h).2⟩⟩
    have etc:∀ b,TC E.n C.m s a w' pt b=TC E.n C.m s a w pt b:=by
      intro b
      unfold TC
      congr 1
      refine aM fun i _=>?_
      simp only [cB]
      refine xI (G':=jF len s a pt G G2) (fun _ _ _ h=>h) (R.bx i) (fun b' hb'=>?_) b
      have hlt:=(R.cb b' (Nat.lt_of_lt_of_le hb' (R.gJ b' i))).1
      refine hT b' (fun hx=>?_) hlt
      have:=xb' b' hx i
      simp only [cB] at this
      omega
    refine ⟨R3,fun b=>⟨?_,fun h=>?_⟩⟩
    · rcases Nat.eq_zero_or_pos (TC c.rs.num 2 (fU c y) { tmps:=vs,defers:=[] } w' jy b) with h | h
      · have:=R3.ct b;omega
      · have h2:TC E.n C.m s a w' pt b=0:=by
          rw [etc]
          rcases (WQ b h).2 with h1 | h1
          · rcases Nat.eq_zero_or_pos (TC E.n C.m s a w pt b) with h0 | h0
            · exact h0
            · have:=(R.cb b h0).1;omega
          · rcases h1 with h1 | h1
            · rw [hP] at h1;cases h1.1
            · exact gvT b h1
        have:=ct2 b
        omega
    · refine ⟨(WQ b h).1,?_,bk2 b h⟩
      rcases (WQ b h).2 with h1 | h1
      · exact .inl (Nat.le_trans R.hs h1)
      · exact xf b h1
  | true=>
    simp only [cond_true,List.singleton_append]
    have hb:=hb hP
    have hob:get (fU c y) (2*0+1) = .aH 1 true (aL c.post y.2):=Aw c y hP
    have Rz:id<C.m:=dY R (by rw [hb];simp)
    -- the block
    obtain ⟨blk,hblk,_,_,_⟩:∃ b,pt id st=some (.pointer (some ⟨b,0,none⟩))∧Room w b cs.length∧G b=0∧aQ w G pt cs (aC w b):=by
      have:=R.bx id
      rw [hb] at this
      exact this rfl
    have hpn:jy 0 1=some (.pointer (some ⟨blk,0,none⟩)):=R2.pn _ (by rw [eU,if_pos hP];exact hblk)
    have hB2:=R2.bx 0
    rw [hob] at hB2
    obtain ⟨b2,q1,q2,q3,q4⟩:=hB2 rfl
    have:b2=blk:=by rw [hpn] at q1;simpa using q1.symm
    subst this
    have afo:∀ b,cB (fU c y) w' jy b 0=fI w' pt b id (.aH st true (aL c.post y.2)):=by
      intro b
      unfold cB
      rw [hob]
      simp only [fI,hpn,hblk]
    have abP:XX b2:=by
      refine .inl ⟨hP,?_⟩
      simp only [cB,hb,fI,bR,hblk,bA,if_true]
      omega
    have abQ:¬ (len=true∧vK s a pt b2):=fun h=>TY b2 h.2 abP
    have hnew:oD w' (jF len s a pt G G2) pt id (.aH st true (aL c.post y.2)):=by
      intro _
      refine ⟨b2,hblk,q2,by rw [(KY b2 abQ).2];exact q3,tO o4 hGv (fun b hb'=>bk2 b ?_) q4⟩
      refine Nat.lt_of_lt_of_le ?_ (Ua b 0 (by omega))
      unfold cB
      rw [hob]
      simp only [fI,hpn,bA,Option.getD_some]
      omega
    have tcs:∀ (s3:St) (c1:∀ t,∀ b,cT s3 a b t=cT s a b t) (c2:∀ i,i≠id→∀ b,cB s3 w' pt b i=cB s w pt b i) (c3:∀ b,cB s3 w' pt b id=cB (fU c y) w' jy b 0) (b:Nat),
        TC E.n C.m s3 a w' pt b+cB s w pt b id=TC E.n C.m s a w pt b+cB (fU c y) w' jy b 0:=by
      intro s3 c1 c2 c3 b
      have e1:bK E.n (cT s3 a b)=bK E.n (cT s a b):=aM fun t _=>c1 t b
      have e2:=bM (n:=C.m) (f:=cB s w pt b) (g:=cB s3 w' pt b) Rz (fun i hi=>c2 i hi b)
      rw [c3 b] at e2
      unfold TC
      omega
    -- the bound
    have fin:∀ (b n:Nat),n+cB s w pt b id=TC E.n C.m s a w pt b+cB (fU c y) w' jy b 0 →
        (n≤1∧(0<n→b<w'.heap.size∧(C.w0.heap.size≤b∨C.X b))) ∧
        n+TC c.rs.num 2 (fU c y) { tmps:=vs,defers:=[] } w' jy b≤1+cB (fU c y) w' jy b 0:=by
      intro b n hn
      have k1:=R.ct b
      have k2:=R.cb b
      have k3:=R.gJ b id
      have k4:=ct2 b
      have k5:=WQ b
      have k6:=Ua b 0 (by omega)
      have k7:=R.hs
      have k9:=hg1 b
      have k10:=hg2 b
      by_cases hx:0<cB s w pt b id
      · refine ⟨⟨by omega,fun h=>⟨(k5 (by omega)).1,(k2 (by omega)).2⟩⟩,by omega⟩
      · by_cases hgx:0<gv b
        · exact ⟨⟨by omega,fun h=>⟨(k5 (by omega)).1,(k10 hgx).2⟩⟩,by omega⟩
        by_cases hlt:b<w.heap.size
        · have k8:TC c.rs.num 2 (fU c y) { tmps:=vs,defers:=[] } w' jy b=0:=by
            rcases Nat.eq_zero_or_pos (TC c.rs.num 2 (fU c y) { tmps:=vs,defers:=[] } w' jy b) with h | h
            · exact h
            · rcases (k5 h).2 with h' | h'
              · omega
              · rcases h' with h' | h'
                · exact absurd h'.2 hx
                · exact absurd h' hgx
          exact ⟨⟨by omega,fun h=>⟨by have:=(k2 (by omega)).1;omega,(k2 (by omega)).2⟩⟩,by omega⟩
        · have k8:TC E.n C.m s a w pt b=0:=by
            rcases Nat.eq_zero_or_pos (TC E.n C.m s a w pt b) with h | h
            · exact h
            · have:=(k2 h).1;omega
          exact ⟨⟨by omega,fun h=>⟨(k5 (by omega)).1,.inl (by omega)⟩⟩,by omega⟩
    have g2:∀ i,i≠id→get ((2*id+1,D.aH st true (aL c.post y.2))::s) (2*i+1)=get s (2*i+1):=fun i hi=>by rw [bG,if_neg hi]
    have c3:∀ b,cB ((2*id+1,D.aH st true (aL c.post y.2))::s) w' pt b id=cB (fU c y) w' jy b 0:=by
      intro b
      rw [afo]
      simp only [cB,bG,if_true]
    have R3:Rel E C ((2*id+1,.aH st true (aL c.post y.2))::s) a w' (jF len s a pt G G2) pt:=by
      refine R.step (fun _=>False) (fun i=>i=id) XX rfl R.df (fun t _=>⟨get_bt _ _ _ _,rfl⟩) (fun i hi=>⟨g2 i hi,rfl⟩) hE (fun _ _ _ h=>h) (fun b h1 h2=>hT b h1 h2)
        (fun b h t _=>xt b h t) (fun b h i hi=>xb b h i fun _=>hi) xf (fun t h=>h.elim) (fun i hi=>?_) (fun c1 c2 b=>?_) gz hos hout htp hsz
      · subst hi
        refine ⟨Rz,by simp only [bG,if_true];exact hnew,fun j hj=>?_⟩
        simp only [bG,if_true,aI] at hj
        exact R.pf i j (by rw [hb];exact hj)
      · exact (fin b _ (tcs _ (fun t b=>c1 t (fun h=>h) b) (fun i hi b=>c2 i hi b) c3 b)).1
    refine ⟨R3,fun b=>⟨?_,fun h=>?_⟩⟩
    · refine (fin b _ (tcs _ (fun t b=>by simp [cT]) (fun i hi b=>?_) c3 b)).2
      simp only [cB]
      rw [g2 i hi]
      refine xI (G':=jF len s a pt G G2) (fun _ _ _ h=>h) (R.bx i) (fun b' hb'=>?_) b
      have hlt:=(R.cb b' (Nat.lt_of_lt_of_le hb' (R.gJ b' i))).1
      refine hT b' (fun hx=>?_) hlt
      have:=xb b' hx i fun _=>hi
      simp only [cB] at this
      omega
    · refine ⟨(WQ b h).1,?_,bk2 b h⟩
      rcases (WQ b h).2 with h' | h'
      · exact .inl (Nat.le_trans R.hs h')
      · exact xf b h'
end
end Go.aW
namespace Go.aW
section
variable {P:Program} {E E':Env} {C C' C2:Ctx} {s s' s3:St} {a a':Act} {w w':World} {G G2 G3:Nat→Nat} {pt jy:Nat→Nat→Option Value}
theorem RA {p:Sh} {x:p.ty.den} {v:Value} (hok:lK p=true) (h:aY w G pt (p.con x) v):wU w G pt (p.con x) v:=by
  cases p with
  | lf l=>
    have h0:iD l=true:=hok
    cases l with
    | cst d=>cases d<;>first | exact h | (cases h0;done)
    | _=>exact h
  | agg ls=>exact h
  | aH st live ls=>cases hok
  | aU st live ar t=>cases hok
theorem WR {p:Sh} {x:p.ty.den} {v:Value} {b:Nat} (hok:lK p=true):D9 b (p.con x) v=cO b (p.con x) v:=by
  cases p with
  | lf l=>
    have h0:iD l=true:=hok
    cases l with
    | cst d=>cases d<;>first | (cases v<;>rfl) | (cases h0;done)
    | _=>cases v<;>rfl
  | agg ls=>cases v<;>rfl
  | aH st live ls=>cases hok
  | aU st live ar t=>cases hok
theorem Jo {b:Nat}:∀ {l:List Sh} {x:(iT l).den} {f:Nat→Value},l.all lK=true→mg b (bP l x) f=bK l.length (fun i=>cO b ((bP l x).getD i .undef) (f i))
  | [],_,_,_=>rfl
  | p::r,x,f,h=>by
    simp only [List.all_cons,Bool.and_eq_true] at h
    rw [List.length_cons,nX]
    simp only [bP,mg]
    rw [WR h.1,Jo h.2]
    rfl
theorem nY {vs:Array Value} (h:vs.size=1):gG vs=vs.getD 0 undef:=by
  simp [gG,h]
theorem Ht {vs:Array Value} (h:vs.size≠1):gG vs = .tuple vs:=by
  simp [gG,h]
theorem KZ (R3:Rel E C s3 a w' G3 pt) (hm:E.n≤C.m) {o:Oper} (ho:∀ t,o.dst=some t→t<E.n) {rs:RS} {x:rs.ty.den} {u:St} (hok:rs.ok=true) (hr:xX o s rs x=some u)
    (hdst:∀ t,o.dst=some t→(∃ ls,rs = .sQ ls)→get s3 (2*t+1)=get s (2*t+1)) {so:St} {vs:Array Value} {hp:Bool}
    (hso:∀ k,k≠1→get so k=get (WI rs x) k) (R2:Rel (mZ E rs.num hp) C2 so { tmps:=vs,defers:=[] } w' G2 jy) (hm2:C2.m=2)
    (hbd:∀ b,TC E.n C.m s3 a w' pt b+TC rs.num 2 so { tmps:=vs,defers:=[] } w' jy b≤1+cB so w' jy b 0 ∧
      (0<TC rs.num 2 so { tmps:=vs,defers:=[] } w' jy b→b<w'.heap.size∧(C.w0.heap.size≤b∨C.X b)∧G3 b=G2 b))
    (hG:(∀ b,G3 b=G2 b)∨rs.noView=true):∃ G' bJ,Rel E C (ak u s3) (a.put o.dst (gG vs)) w' G' bJ:=by
  have hsz:vs.size=rs.num:=R2.sz
  have tcd:∀ b,TC rs.num 2 so { tmps:=vs,defers:=[] } w' jy b=bK rs.num (cT so { tmps:=vs,defers:=[] } b)+(0+cB so w' jy b 0+cB so w' jy b 1):=fun b=>rfl
  -- data at the destination
  have data:∀ (d:D),u=bB o d→aY w' G3 pt d (gG vs)→(∀ b,cO b d (gG vs)≤bK rs.num (cT so { tmps:=vs,defers:=[] } b))→∃ G' bJ,Rel E C (ak u s3) (a.put o.dst (gG vs)) w' G' bJ:=by
    intro d hu hd hc
    subst hu
    refine ⟨G3,pt,R3.put o ho (fun _=>False) (Ext.refl _ _) (fun _ _ _=>⟨rfl,rfl⟩) (fun b h=>h.elim) hd (fun b=>?_) R3.gz rfl rfl rfl (Nat.le_refl _)⟩
    have h1:=hc b
    have h2:=(hbd b).1
    have h3:=(hbd b).2
    have h4:=R2.ct b
    rw [hm2] at h4
    change TC rs.num 2 so { tmps:=vs,defers:=[] } w' jy b≤1 at h4
    have h5:=tcd b
    refine ⟨by omega,fun h=>?_⟩
    have h6:=h3 (by omega)
    exact ⟨by omega,h6.1,h6.2.1⟩
  cases rs with
  | none=>
    have hu:u=bB o .undef:=by
      simp only [xX] at hr
      cases hd:o.dst with
      | none=>rw [hd] at hr;simp only [Option.some.injEq] at hr;rw [←hr,qj hd]
      | some t=>rw [hd] at hr;simp only [Option.some.injEq] at hr;rw [←hr,qh hd]
    exact data .undef hu trivial fun b=>by rw [dG];exact Nat.zero_le _
  | one p=>
    simp only [xX,Option.some.injEq] at hr
    have hg:get so (2*0)=p.con x:=by
      rw [hso _ (by omega)]
      rfl
    have ht:=R2.tm 0
    rw [hg] at ht
    have hv:=nY hsz
    refine data (p.con x) hr.symm ?_ (fun b=>?_)
    · rw [hv]
      refine Sh.yU (show lK p=true from hok) hG (fun b hb=>((hbd b).2 ?_).2.2) ht
      rw [tcd]
      have:bK (RS.one p).num (cT so { tmps:=vs,defers:=[] } b)=0+cO b (get so (2*0)) (vs.getD 0 undef):=rfl
      rw [hg] at this
      omega
    · rw [hv]
      have:bK (RS.one p).num (cT so { tmps:=vs,defers:=[] } b)=0+cO b (get so (2*0)) (vs.getD 0 undef):=rfl
      rw [hg] at this
      omega
  | gB l=>
    simp only [xX,Option.some.injEq] at hr
    simp only [RS.ok,Bool.and_eq_true,Bool.not_eq_true'] at hok
    have hl1:l.length≠1:=by
      have:=hok.2
      rw [eX] at this
      exact of_decide_eq_false this
    have hsz:vs.size=l.length:=hsz
    have hv:=Ht (vs:=vs) (by rw [hsz];exact hl1)
    have hg:∀ t,t<l.length→get so (2*t)=(bP l x).getD t .undef:=by
      intro t ht
      rw [hso _ (by omega)]
      show get (iN 0 (bP l x)) (2*t)=_
      have:=fq (rest:=[]) (ds:=bP l x) (i:=0) (2*t)
      rw [List.append_nil] at this
      rw [this,if_pos ⟨by omega,by omega,by rw [fK];omega⟩]
      congr 1
      omega
    have hcnt:∀ b,cO b (.gB (bP l x)) (.tuple vs)=bK l.length (cT so { tmps:=vs,defers:=[] } b):=by
      intro b
      show mg b (bP l x) (aO vs)=_
      rw [Jo hok.1]
      refine aM fun i hi=>?_
      simp only [cT]
      rw [hg i hi]
      rfl
    refine data (.gB (bP l x)) hr.symm ?_ (fun b=>?_)
    · rw [hv]
      refine ⟨vs,rfl,by rw [fK];exact hsz,fun j hj=>?_⟩
      rw [fK] at hj
      obtain ⟨p,y,h1,h2⟩:=lZ l x j hj
      have e:(bP l x)[j]'(by rw [fK];exact hj)=p.con y:=by
        rw [←h2]
        simp [List.getD,fK,hj]
      rw [e]
      have abR:=List.all_eq_true.1 hok.1 p h1
      have ht:=R2.tm j
      rw [hg j hj,h2] at ht
      refine RA abR (Sh.yU abR (hG.imp id fun h=>List.all_eq_true.1 h p h1) (fun b hb=>((hbd b).2 ?_).2.2) ht)
      have h3:cT so { tmps:=vs,defers:=[] } b j≤bK l.length (cT so { tmps:=vs,defers:=[] } b):=mI hj
      have h4:cT so { tmps:=vs,defers:=[] } b j=cO b (p.con y) (vs.getD j undef):=by
        simp only [cT];rw [hg j hj,h2]
      have h5:=tcd b
      have h6:bK (RS.gB l).num (cT so { tmps:=vs,defers:=[] } b)=bK l.length (cT so { tmps:=vs,defers:=[] } b):=rfl
      have hb':0<cO b (p.con y) (vs.getD j undef):=hb
      omega
    · rw [hv,hcnt]
      exact Nat.le_refl _
  | sQ ls=>
    simp only [xX] at hr
    cases hd:o.dst with
    | none=>rw [hd] at hr;cases hr
    | some t=>
      rw [hd] at hr
      simp only [Option.some.injEq] at hr
      have htn:=ho t hd
      have hv:=nY hsz
      have hg0:get so (2*0) = .ptr 1 1 0:=by
        rw [hso _ (by omega)];rfl
      have hg3:get so (2*1+1) = .aH 1 true (aL ls x):=by
        rw [hso _ (by omega)];rfl
      have ht0:=R2.tm 0
      rw [hg0] at ht0
      obtain ⟨blk,hblk,hpv⟩:=ht0
      have hb1:=R2.bx 1
      rw [hg3] at hb1
      obtain ⟨b1,q1,q2,q3,q4⟩:=hb1 rfl
      have:b1=blk:=by rw [q1] at hblk;simpa [bA] using hblk
      subst this
      have ht1:=hdst t hd ⟨ls,rfl⟩
      have afp:∀ (bJ:Nat→Nat→Option Value) (k:Nat) (b:Nat),bJ t k=some (.pointer (some ⟨b1,0,none⟩))→fI w' bJ b t (.aH k true (aL ls x))=cB so w' jy b 1:=by
        intro bJ k b hp'
        unfold cB
        rw [hg3]
        simp only [fI,q1,hp']
      generalize hst:aI (get s3 (2*t+1))+1=k
      have hpt:aS pt t k (.pointer (some ⟨b1,0,none⟩)) t k=some (.pointer (some ⟨b1,0,none⟩)):=by simp [aS]
      have cnt:∀ b,cB so w' jy b 1≤1∧(0<cB so w' jy b 1→TC E.n C.m s3 a w' pt b=0∧b<w'.heap.size∧(C.w0.heap.size≤b∨C.X b)∧G3 b=G2 b):=by
        intro b
        have h2:=(hbd b).1
        have h3:=(hbd b).2
        have h4:=R2.ct b
        rw [hm2] at h4
        change TC (RS.sQ ls).num 2 so { tmps:=vs,defers:=[] } w' jy b≤1 at h4
        have h5:=tcd b
        refine ⟨by omega,fun h=>?_⟩
        have h6:=h3 (by omega)
        exact ⟨by omega,h6⟩
      have hblk1:0<cB so w' jy b1 1:=by
        unfold cB
        rw [hg3]
        simp only [fI,q1,bR,bA,if_true]
        omega
      have key:=R3.vg t htn hm (w':=w') (G':=G3) (dB:=.aH k true (aL ls x)) (d':=.ptr t k 0) (pv:=.pointer (some ⟨b1,0,none⟩)) (v':=vs.getD 0 undef) (Ext.refl w' G3) (fun _ _=>⟨rfl,rfl⟩)
        (by rw [hst];exact ⟨b1,by rw [hpt];rfl,hpv⟩) (fun b=>by generalize vs.getD 0 undef=v;cases v<;>rfl)
        (by
          rw [hst]
          intro _
          exact ⟨b1,hpt,q2,by rw [((cnt b1).2 hblk1).2.2.2];exact q3,tO (w:=w') (G:=G2) (pt:=jy) (show ls.all iD=true from hok) hG (fun b hb=>((cnt b).2 (by
            refine Nat.lt_of_lt_of_le hb ?_
            unfold cB
            rw [hg3]
            simp only [fI,q1,bA,Option.getD_some]
            omega)).2.2.2) q4⟩)
        (by rw [hst];rfl)
        (fun b=>by
          rw [hst,afp _ k b hpt]
          exact ⟨(cnt b).1,fun h=>⟨((cnt b).2 h).1,((cnt b).2 h).2.1,((cnt b).2 h).2.2.1⟩⟩)
        R3.gz rfl rfl rfl (Nat.le_refl _)
      refine ⟨G3,aS pt t k (.pointer (some ⟨b1,0,none⟩)),?_⟩
      rw [hv]
      rw [←ht1,hst] at hr
      subst hr
      rw [hst] at key
      exact key
theorem wP {f:D→D} {g:D→Bool}:∀ (ps:List (Nat×Operand)) (i:Nat),2*i+1 ∉ aJ (dQ s f g ps)
  | [],_,h=>by simp [dQ,aJ] at h
  | (j,x)::r,i,h=>by
    simp only [dQ] at h
    have app:∀ (u v:St),aJ (u++v)=aJ u++aJ v:=by
      intro u v
      induction u with
      | nil=>rfl
      | cons p r ih=>simp [aJ,ih]
    rw [app,List.mem_append] at h
    rcases h with h | h
    · cases x with
      | tmp t=>
        simp only [bZ] at h
        cases hg:g (get s (2*t)) with
        | true=>
          simp only [hg,cond_true,aJ,List.mem_cons,List.not_mem_nil,or_false] at h
          have h':2*i+1=2*(t:Nat):=h
          exact absurd h' (by omega)
        | false=>simp [hg,aJ] at h
      | _=>simp [bZ,aJ] at h
    · exact wP r i h
theorem RB {p:Sh} {d:D} {x:p.ty.den} (hok:qR p=true) (h:p.arg s d=some x):dK d=false:=by
  cases d with
  | gB vs=>
    exfalso
    cases p with
    | lf l=>exact vL (l:=l) (d:=.gB vs) rfl rfl hok h
    | agg ls=>simp [Sh.arg] at h
    | aH st live ls=>cases hok
    | aU st live ar t=>cases hok
  | _=>rfl
theorem yV:∀ {ps:List Sh} {xs:List Operand} {z:(iT ps).den},ps.all lK=true→iH s ps xs=some z→xs.length=ps.length∧∀ x∈dU ps xs,dK (aV s x)=false
  | [],[],_,_,_=>⟨rfl,fun x hx=>by simp [dU] at hx⟩
  | [],_::_,_,_,h=>by simp [iH] at h
  | _::_,[],_,_,h=>by simp [iH] at h
  | p::r,x::xs,z,hok,h=>by
    simp only [List.all_cons,Bool.and_eq_true] at hok
    simp only [iH] at h
    split at h
    · rename_i y z' h1 h2
      obtain ⟨q1,q2⟩:=yV hok.2 h2
      refine ⟨by simp [q1],fun x' hx=>?_⟩
      simp only [dU] at hx
      cases ho:ownSh p with
      | true=>
        rw [ho] at hx
        exact q2 x' hx
      | false=>
        rw [ho] at hx
        simp only [cond_false] at hx
        rcases List.mem_cons.1 hx with rfl | hx
        · simp only [Sh.EC,ho,cond_false] at h1
          exact RB (yS hok.1 ho) h1
        · exact q2 x' hx
    · cases h
theorem Fj {x:Nat}:∀ {l:List Nat},M0 x l=true↔x∈l
  | []=>by simp [M0]
  | y::r=>by
    simp only [M0,Bool.or_eq_true,List.mem_cons,Fj (l:=r)]
    rw [eX]
    simp
theorem BG {t:Nat}:∀ {xs:List Operand},Operand.tmp t∈xs→2*t∈ow xs
  | [],h=>by simp at h
  | x::r,h=>by
    rcases List.mem_cons.1 h with h | h
    · subst h
      simp [ow]
    · have:=BG h
      cases x with
      | tmp u=>exact List.mem_cons_of_mem _ this
      | _=>exact this
theorem l5:∀ {ps:List Sh} {xs:List Operand} {x:Operand},x∈bL ps xs→x∈xs
  | [],_,_,h=>by simp [bL] at h
  | _::_,[],_,h=>by simp [bL] at h
  | p::ps,x::xs,y,h=>by
    simp only [bL] at h
    cases hp:ownSh p with
    | false=>
      rw [hp] at h
      exact List.mem_cons_of_mem _ (l5 h)
    | true=>
      rw [hp] at h
      simp only [cond_true,List.mem_cons] at h
      rcases h with h | h
      · exact List.mem_cons.2 (.inl h)
      · exact List.mem_cons_of_mem _ (l5 h)
theorem rM {x:Operand} {xs:List Operand} (h:sS (ow (x::xs))=true):sS (ow xs)=true∧∀ t,x = .tmp t→Operand.tmp t ∉ xs:=by
  cases x with
  | tmp u=>
    simp only [ow,sS,Bool.and_eq_true,Bool.not_eq_true'] at h
    refine ⟨h.2,fun t ht hm=>?_⟩
    cases ht
    have:=Fj.2 (BG hm)
    rw [this] at h
    cases h.1
  | _=>exact ⟨h,fun t ht=>by cases ht⟩
theorem nZ:∀ {ps:List Sh} {xs:List Operand} {t:Nat},sS (ow xs)=true→Operand.tmp t∈bL ps xs→Operand.tmp t ∉ dU ps xs
  | [],_,_,_,h=>by simp [bL] at h
  | _::_,[],_,_,h=>by simp [bL] at h
  | p::ps,x::xs,t,hd,h=>by
    obtain ⟨h1,h2⟩:=rM hd
    simp only [bL] at h
    simp only [dU]
    cases hp:ownSh p with
    | true=>
      rw [hp] at h
      simp only [cond_true,List.mem_cons] at h ⊢
      rcases h with h | h
      · intro hm
        exact h2 t h.symm (lX hm)
      · exact nZ h1 h
    | false=>
      rw [hp] at h
      simp only [cond_false,List.mem_cons,not_or] at h ⊢
      exact ⟨fun hx=>h2 t hx.symm (l5 h),nZ h1 h⟩
theorem wQ {f:D→D} {g:D→Bool}:∀ (xs:List Operand) (t:Nat),2*t∈aJ (dQ s f g (xs.map fun x=>(0,x)))→Operand.tmp t∈xs
  | [],_,h=>by simp [dQ,aJ] at h
  | x::r,t,h=>by
    simp only [List.map_cons,dQ] at h
    have app:∀ (u v:St),aJ (u++v)=aJ u++aJ v:=by
      intro u v
      induction u with
      | nil=>rfl
      | cons p r ih=>simp [aJ,ih]
    rw [app,List.mem_append] at h
    rcases h with h | h
    · cases x with
      | tmp u=>
        simp only [bZ] at h
        cases hg:g (get s (2*u)) with
        | true=>
          simp only [hg,cond_true,aJ,List.mem_cons,List.not_mem_nil,or_false] at h
          have h':2*t=2*u:=h
          have e:t=u:=Nat.eq_of_mul_eq_mul_left (by decide) h'
          rw [e]
          exact List.mem_cons_self
        | false=>simp [hg,aJ] at h
      | _=>simp [bZ,aJ] at h
    · exact List.mem_cons_of_mem _ (wQ r t h)
theorem rO:∀ {l:List Operand} {t:Nat},2*t∈aJ (kr l)→Operand.tmp t∈l
  | [],_,h=>by simp [kr,aJ] at h
  | x::r,t,h=>by
    cases x with
    | tmp u=>
      simp only [kr,aJ,List.mem_cons] at h
      rcases h with h | h
      · have e:t=u:=Nat.eq_of_mul_eq_mul_left (by decide) h
        rw [e]
        exact List.mem_cons_self
      · exact List.mem_cons_of_mem _ (rO h)
    | _=>
      simp only [kr] at h
      exact List.mem_cons_of_mem _ (rO h)
theorem Hu {p:Sh} (ho:ownSh p=true):p.give .undef=none:=by
  cases p with
  | lf l=>cases l<;>first | rfl | (cases ho;done)
  | _=>rfl
theorem Rel.drop1 (R:Rel E C s a w G pt) {t:Nat} (ht:t<E.n):Rel E C ((2*t,.undef)::s) a w G pt ∧
    ∀ b,TC E.n C.m ((2*t,.undef)::s) a w pt b+cT s a b t=TC E.n C.m s a w pt b:=by
  have cnt:∀ b,TC E.n C.m ((2*t,.undef)::s) a w pt b+cT s a b t=TC E.n C.m s a w pt b:=by
    intro b
    have h1:=bM (n:=E.n) (f:=cT s a b) (g:=cT ((2*t,.undef)::s) a b) ht (fun i hi=>by simp only [cT,bV,hi,if_false])
    have h2:cT ((2*t,.undef)::s) a b t=0:=by simp only [cT,bV,if_true];exact dG b _
    have h3:bK C.m (cB ((2*t,.undef)::s) w pt b)=bK C.m (cB s w pt b):=aM fun i _=>by simp only [cB,gD]
    unfold TC
    omega
  refine ⟨?_,cnt⟩
  refine R.step (fun u=>u=t) (fun _=>False) (fun _=>False) rfl R.df (fun u hu=>⟨by rw [bV,if_neg hu],rfl⟩) (fun i _=>⟨gD _ _ _ _,rfl⟩) (Ext.refl _ _) (fun _ _ _ h=>h) (fun _ _ _=>⟨rfl,rfl⟩)
    (fun b h=>h.elim) (fun b h=>h.elim) (fun b h=>h.elim) (fun u hu=>by subst hu;exact ⟨ht,by rw [bV,if_pos rfl];trivial⟩) (fun i h=>h.elim) (fun c1 c2 b=>?_) R.gz rfl rfl rfl (Nat.le_refl _)
  have h1:=cnt b
  have h2:=R.ct b
  have h3:=R.cb b
  exact ⟨by omega,fun h=>h3 (by omega)⟩
theorem Jp (s:St) (a:Act) (b:Nat) {x:Operand} (hx:∀ t,x≠.tmp t):cO b (aV s x) (a.eval x)=0:=by
  cases x with
  | tmp t=>exact absurd rfl (hx t)
  | global g=>rfl
  | func f=>rfl
  | const v=>
    show cO b (J8 v) v=0
    unfold J8
    split
    · rfl
    · rename_i k n
      cases LU k n<;>rfl
    · rename_i s
      cases (jq s).length.ble iQ<;>rfl
    all_goals (first | rfl | exact dG b _)
theorem NG {ps:List Sh} {xs:List Operand} {z:(iT ps).den}:ps.all lK=true→iH s ps xs=some z→(bL ps xs=[]∨sS (ow xs)=true) →
    ∀ {s':St},Rel E C s' a w G pt→(∀ x∈bL ps xs,aV s' x=aV s x) →
    Rel E C (ak (kr (bL ps xs)) s') a w G pt∧(∀ i,get (ak (kr (bL ps xs)) s') (2*i+1)=get s' (2*i+1)) ∧
    (∀ b,TC E.n C.m (ak (kr (bL ps xs)) s') a w pt b+bK ps.length (fun i=>cO b ((bP ps z).getD i .undef) ((xs.map a.eval).getD i undef))=TC E.n C.m s' a w pt b) ∧
    ∀ x∈bL ps xs,∀ b,cO b (aV s x) (a.eval x)≤bK ps.length (fun i=>cO b ((bP ps z).getD i .undef) ((xs.map a.eval).getD i undef)):=by
  induction ps generalizing xs with
  | nil=>
    intro _ hz _ s' R _
    have:bL [] xs=[]:=by simp [bL]
    rw [this]
    exact ⟨R,fun i=>rfl,fun b=>rfl,fun x hx=>by simp at hx⟩
  | cons p r ih=>
    intro hok hz hd s' R he
    cases xs with
    | nil=>simp [iH] at hz
    | cons x xs=>
      simp only [List.all_cons,Bool.and_eq_true] at hok
      simp only [iH] at hz
      split at hz
      · rename_i y z' h1 h2
        simp only [Option.some.injEq] at hz
        subst hz
        have sums:∀ b,bK (r.length+1) (fun i=>cO b ((bP (p::r) (y,z')).getD i .undef) (((x::xs).map a.eval).getD i undef)) =
            cO b (p.con y) (a.eval x)+bK r.length (fun i=>cO b ((bP r z').getD i .undef) ((xs.map a.eval).getD i undef)):=fun b=>by rw [nX];rfl
        cases ho:ownSh p with
        | false=>
          have hg:bL (p::r) (x::xs)=bL r xs:=by simp only [bL,ho,cond_false]
          rw [hg] at hd he ⊢
          obtain ⟨R2,q1,q2,q3⟩:=ih hok.2 h2 (hd.imp id fun h=>(rM h).1) R he
          refine ⟨R2,q1,fun b=>?_,fun x' hx' b=>?_⟩
          · have:=q2 b
            show _+bK (r.length+1) _=_
            rw [sums,yQ (yS hok.1 ho)]
            omega
          · have:=q3 x' hx' b
            show _≤bK (r.length+1) _
            rw [sums]
            omega
        | true=>
          have hg:bL (p::r) (x::xs)=x::bL r xs:=by simp only [bL,ho,cond_true]
          rw [hg] at hd he ⊢
          have hd:sS (ow (x::xs))=true:=by
            rcases hd with h | h
            · cases h
            · exact h
          obtain ⟨d1,d2⟩:=rM hd
          simp only [Sh.EC,ho,cond_true] at h1
          have hx:=he x List.mem_cons_self
          have hrep:=pq (bJ:=pt) hok.1 h1 (by rw [←hx];exact aT R x)
          cases x with
          | tmp t=>
            have ht:t<E.n:=by
              rcases Nat.lt_or_ge t E.n with h | h
              · exact h
              · have h3:=R.ht t h
                have h4:aV s (.tmp t) = .undef:=by rw [←hx];exact h3
                rw [h4,Hu ho] at h1
                cases h1
            obtain ⟨R1,c1⟩:=R.drop1 ht
            obtain ⟨R2,q1,q2,q3⟩:=ih hok.2 h2 (.inr d1) R1 (fun x' hx'=>by
              rw [←he x' (List.mem_cons_of_mem _ hx')]
              cases x' with
              | tmp u=>
                have:u≠t:=by
                  rintro rfl
                  exact d2 u rfl (l5 hx')
                simp only [aV,bV,this,if_false]
              | _=>rfl)
            refine ⟨R2,fun i=>by have:=q1 i;rw [gD] at this;exact this,fun b=>?_,fun x' hx' b=>?_⟩
            · have k1:=q2 b
              have k2:=c1 b
              have k3:cT s' a b t=cO b (p.con y) (a.eval (.tmp t)):=by
                rw [hrep.2 b,←hx];rfl
              show TC E.n C.m (ak (kr (bL r xs)) ((2*t,.undef)::s')) a w pt b+bK (r.length+1) _=_
              rw [sums]
              omega
            · show _≤bK (r.length+1) _
              rw [sums]
              rcases List.mem_cons.1 hx' with rfl | hx'
              · rw [←hrep.2 b];omega
              · have:=q3 x' hx' b;omega
          | _=>
            have hz0:∀ b,cO b (p.con y) (a.eval _)=0:=fun b=>(hrep.2 b).trans (Jp s a b (by intro t h;cases h))
            obtain ⟨R2,q1,q2,q3⟩:=ih hok.2 h2 (.inr d1) R (fun x' hx'=>he x' (List.mem_cons_of_mem _ hx'))
            refine ⟨R2,q1,fun b=>?_,fun x' hx' b=>?_⟩
            · have:=q2 b
              show _+bK (r.length+1) _=_
              rw [sums,hz0]
              simp only [kr]
              omega
            · show _≤bK (r.length+1) _
              rw [sums]
              rcases List.mem_cons.1 hx' with rfl | hx'
              · rw [←hrep.2 b];omega
              · have:=q3 x' hx' b;omega
      · cases hz
theorem Jq {x:Operand}:∀ {xs:List Operand},x∈xs→gQ (aV s x)=true→nQ s xs=true
  | y::r,hx,h=>by
    simp only [nQ,Bool.or_eq_true]
    rcases List.mem_cons.1 hx with rfl | hx
    · exact .inl h
    · exact .inr (Jq hx h)
theorem rP {s1:St} (R:Rel E C s1 a w G pt) (hs:∀ i,get s1 (2*i+1)=get s (2*i+1)) {len:Bool}:∀ {ps:List Sh} {xs:List Operand} {z:(iT ps).den},ps.all lK=true→iH s ps xs=some z →
    (∀ x∈dU ps xs,aY w (eu len s1 a pt w G) pt (view (aV s x)) (a.eval x))→(∀ x∈bL ps xs,aY w G pt (aV s x) (a.eval x)∧∀ b,0<cO b (aV s x) (a.eval x)→eu len s1 a pt w G b=G b) →
    (∀ x∈xs,gQ (aV s x)=true→len=true) →
    ∀ i,i<ps.length→aY w (eu len s1 a pt w G) jy ((bP ps z).getD i .undef) ((xs.map a.eval).getD i undef)
  | [],_,_,_,_,_,_,_,i,hi=>by simp at hi
  | _::_,[],_,_,h,_,_,_,_,_=>by simp [iH] at h
  | p::r,x::xs,z,hok,h,hv,hg,hl,i,hi=>by
    simp only [List.all_cons,Bool.and_eq_true] at hok
    simp only [iH] at h
    split at h
    · rename_i y z' h1 h2
      simp only [Option.some.injEq] at h
      subst h
      cases ho:ownSh p with
      | false=>
        simp only [dU,bL,ho,cond_false] at hv hg
        simp only [Sh.EC,ho,cond_false] at h1
        have h1':p.arg s1 (aV s x)=some y:=by
          rw [arg_eq fun id _=>hs id];exact h1
        cases i with
        | zero=>exact CQ R (yS hok.1 ho) h1' (hv x (by simp)) (hl x (by simp))
        | succ i=>exact rP R hs hok.2 h2 (fun x hx=>hv x (List.mem_cons_of_mem _ hx)) hg (fun x hx=>hl x (List.mem_cons_of_mem _ hx)) i (by simpa using hi)
      | true=>
        simp only [dU,bL,ho,cond_true] at hv hg
        simp only [Sh.EC,ho,cond_true] at h1
        cases i with
        | zero=>
          obtain ⟨g1,g2⟩:=hg x (by simp)
          obtain ⟨q1,q2⟩:=pq (bJ:=jy) hok.1 h1 g1
          refine aY.mono (pt:=jy) (R.qF len) (fun _ _ _ h=>h) q1 fun b hb=>⟨rfl,g2 b ?_⟩
          rw [←q2 b];exact hb
        | succ i=>exact rP R hs hok.2 h2 hv (fun x hx=>hg x (List.mem_cons_of_mem _ hx)) (fun x hx=>hl x (List.mem_cons_of_mem _ hx)) i (by simpa using hi)
    · cases h
theorem BH {f:Nat} {con:aR} (H:aj P E f con) (KF:con.xf=none) (hm:E.n≤C.m) (R:Rel E C s a w G pt) {o:Oper} {c:Call} (hop:o.op = .call c) (hc:∃ x,c.callee = .value x∧aV s x = .Ai f) (hd:dP E o=true)
    {xs pre:List Operand} (hxs:c.args.toList=pre++xs) (hpre:pre.length=con.k0) {id st:Nat} {cs:List D} (hb:con.aG=true→get s (2*id+1) = .aH st true cs)
    (hp0:con.aG=true→∃ x,pre=[x]∧aV s x = .ptr id st 0) {y:(eD con.pre).den} {z:(iT con.ps).den} (hy:con.aG=true→aL con.pre y=cs) (hz:iH s con.ps xs=some z)
    (abS:nQ s xs=true→con.nv=true) (hself:con.aG=true→notSelf o id con.rs=true) (hgo:vB con.ps xs=true)
    {r:(Ty.cons con.rs.ty (eD con.post)).den} (hF:con.F (y,z)=some r) {u:St} (hr:xX o s con.rs r.1=some u) :
    EJ P E C o a w (ak u ((bif con.aG then [(2*id+1,.aH st true (aL con.post r.2))] else [])++ak (wI con.nv s con.ps xs) s)):=by
  have hok:=H.ok
  have hok2:=hok
  simp only [aR.ok,Bool.and_eq_true] at hok2
  obtain ⟨⟨⟨⟨o1,o2⟩,o3⟩,o4⟩,o5⟩:=hok2
  have ho:∀ t,o.dst=some t→t<E.n:=by
    intro t ht
    simpa [dP,ht,Nat.blt_eq] using hd
  obtain ⟨hlen,abT⟩:=yV o2 hz
  have hgd:bL con.ps xs=[]∨sS (ow xs)=true:=by
    unfold vB at hgo
    split at hgo
    · rename_i h;exact .inl h
    · exact .inr hgo
  -- shared,or nQ
  obtain ⟨G1,s0,afq,R0,afr,hgs,hvF,hvT⟩:∃ (G1:Nat→Nat) (s0:St),ak (bif con.nv then [] else kW s (dU con.ps xs)) s=s0∧Rel E C s0 a w G1 pt∧(∀ i,get s0 (2*i+1)=get s (2*i+1)) ∧
      (∀ x∈bL con.ps xs,aV s0 x=aV s x)∧(con.nv=false→∀ x∈dU con.ps xs,aY w G1 pt (view (aV s x)) (a.eval x))∧(con.nv=true→s0=s):=by
    cases hn:con.nv with
    | true=>exact ⟨G,s,rfl,R,fun _=>rfl,fun _ _=>rfl,fun h=>(by cases h),fun _=>rfl⟩
    | false=>
      obtain ⟨G1,e1,R0,hv1,hs1⟩:=Rel.sK (s:=s) ((dU con.ps xs).map fun x=>(0,x)) R (fun t=>.inl rfl) (fun p hp=>by
        obtain ⟨x,hx,rfl⟩:=List.mem_map.1 hp
        exact abT x hx)
      change Rel E C (ak (kW s (dU con.ps xs)) s) a w G1 pt at R0
      refine ⟨G1,ak (kW s (dU con.ps xs)) s,rfl,R0,fun i=>bC _ _ _ (wP _ i),?_,fun _ x hx=>hv1 (0,x) (List.mem_map.2 ⟨x,hx,rfl⟩),fun h=>(by cases h)⟩
      intro x hx
      cases x with
      | tmp t=>
        rcases hgd with h | h
        · rw [h] at hx;simp at hx
        · exact bC _ _ _ fun hm=>nZ h hx (wQ _ t hm)
      | _=>rfl
  -- given away
  obtain ⟨R1,abU,hcnt,hsum⟩:=NG o2 hz hgd R0 hgs
  have hbs:∀ i,get (ak (kr (bL con.ps xs)) s0) (2*i+1)=get s (2*i+1):=fun i=>(abU i).trans (afr i)
  have abV:ak (wI con.nv s con.ps xs) s=ak (kr (bL con.ps xs)) s0:=by
    unfold wI
    rw [aP,afq]
  rw [abV]
  have hkept:∀ t,Operand.tmp t∈dU con.ps xs→get (ak (kr (bL con.ps xs)) s0) (2*t)=get s0 (2*t):=by
    intro t ht
    rcases hgd with h | h
    · rw [h];rfl
    · exact bC _ _ _ fun hm=>nZ h (rO hm) ht
  generalize akU:ak (kr (bL con.ps xs)) s0=s1 at R1 abU hcnt hbs hkept
  have hb1:con.aG=true→get s1 (2*id+1) = .aH st true (aL con.pre y):=fun h=>by rw [hbs,hb h,hy h]
  have hvx:∀ x∈dU con.ps xs,aY w (eu con.nv s1 a pt w G1) pt (view (aV s x)) (a.eval x):=by
    intro x hx
    cases hn:con.nv with
    | false=>
      have e:eu false s1 a pt w G1=G1:=by
        funext b
        unfold eu
        rw [if_neg (by simp)]
      rw [e]
      exact hvF hn x hx
    | true=>
      have hs:=hvT hn
      subst hs
      refine Ry (by have:=R1.qF con.nv;rw [hn] at this;exact this) (abT x hx) (aT R0 x) fun b hb=>?_
      cases x with
      | tmp t=>
        have h1:0<cT s1 a b t:=by
          simp only [cT]
          rw [hkept t hx]
          exact hb
        unfold eu
        rw [if_pos ⟨rfl,.inr ⟨t,h1⟩⟩]
      | _=>
        rw [Jp s0 a b (by intro t h;cases h)] at hb
        omega
  have hgx:∀ x∈bL con.ps xs,aY w G1 pt (aV s x) (a.eval x)∧∀ b,0<cO b (aV s x) (a.eval x)→eu con.nv s1 a pt w G1 b=G1 b:=by
    intro x hx
    refine ⟨by rw [←hgs x hx];exact aT R0 x,fun b hb=>?_⟩
    unfold eu
    rw [if_neg]
    rintro ⟨_,hl⟩
    have h3:=(R1.Fh hl).2.2
    have h4:=hcnt b
    have h5:=hsum x hx b
    have h6:=R0.ct b
    omega
  -- the callee's start
  have Ub:(c.args.toList.map a.eval).length=con.num:=by rw [hxs,List.length_map,List.length_append,hpre,hlen];rfl
  have Uc:∀ i,(c.args.toList.map a.eval).getD (con.k0+i) undef=(xs.map a.eval).getD i undef:=by
    intro i
    rw [hxs,List.map_append]
    simp only [List.getD]
    rw [List.getElem?_append_right (by rw [List.length_map,hpre];omega),List.length_map,hpre]
    congr 2
    omega
  have abW:∀ b,TC E.n C.m s1 a w pt b+bK con.ps.length (fun i=>cO b ((bP con.ps z).getD i .undef) ((xs.map a.eval).getD i undef))≤1:=fun b=>by
    have h1:=hcnt b
    have h2:=R0.ct b
    omega
  have abX:∀ b,0<bK con.ps.length (fun i=>cO b ((bP con.ps z).getD i .undef) ((xs.map a.eval).getD i undef))→b<w.heap.size∧(C.w0.heap.size≤b∨C.X b):=fun b h=>by
    have h1:=hcnt b
    exact R0.cb b (by omega)
  have Rin:=NC R1 hok (x:=(y,z)) hb1 (vals:=c.args.toList.map a.eval) Ub (fun h=>by
      obtain ⟨x,rfl,hx⟩:=hp0 h
      have:=aT R x
      rw [hx] at this
      obtain ⟨blk,q1,q2⟩:=this
      exact ⟨blk,q1,by rw [hxs];simpa using q2⟩) (R1.qF con.nv) (fun b h1 h2=>by
      unfold eu
      rw [if_neg]
      rintro ⟨_,⟨i,j,ar,t,l,g1,g2⟩ | ⟨t,g1⟩⟩
      · have h3:=(R1.nQ g1 g2).2.2.2
        have hne:i≠id:=by
          rintro rfl
          rw [hb1 h1] at g1;cases g1
        have:=R1.bb h2 hne
        omega
      · have:=R1.bt h2 t
        omega) (R1.abL _) (fun i hi=>by
      have h1:=rP (jy:=CS con.aG pt id st) (len:=con.nv) R1 hbs o2 hz hvx hgx (fun x hx h=>abS (Jq hx h)) i hi
      rw [Uc];exact h1)
    (gv:=fun b=>bK con.ps.length (fun i=>cO b ((bP con.ps z).getD i .undef) ((xs.map a.eval).getD i undef))) (fun b=>by simp only [Uc]) abW (fun b h=>(abX b h).1)
  intro K Q hK
  unfold Oper.wp
  rw [KV H R hop hc,Oper.upon_enter]
  have hargs:c.args.map a.eval=(c.args.toList.map a.eval).toArray:=by
    apply Array.ext'
    simp
  rw [hargs]
  refine H.sem KF (y,z) r hF _ _ w _ _ rfl ?_ (by simpa using Ub) Rin _ (fun vs w' G2 jy R2=>?_)
  · cases h:con.aG with
    | true=>exact .inr rfl
    | false=>exact .inl (by simp [Q0])
  · obtain ⟨R3,hbd⟩:=ND R1 hok hb1 (fun h=>by simpa only [aR.nv,Bool.and_eq_true] using h) abW abX R2
    obtain ⟨G',bJ,RF⟩:=KZ (s:=s) R3 hm ho o3 hr (fun t ht hn=>by
        obtain ⟨ls,hn⟩:=hn
        cases hP:con.aG with
        | false=>simp only [cond_false,List.nil_append];exact hbs t
        | true=>
          have h1:=hself hP
          rw [hn] at h1
          simp only [notSelf,ht,Bool.not_eq_true'] at h1
          rw [eX] at h1
          have h2:t≠id:=of_decide_eq_false h1
          simp only [cond_true,List.singleton_append,bG,h2,if_false]
          exact hbs t) (fun k hk=>by
        unfold fU
        cases con.aG with
        | false=>rfl
        | true=>simp only [cond_true,List.singleton_append,aF,hk,if_false]) R2 rfl hbd (by
        cases hl:con.nv with
        | true=>
          simp only [aR.nv,Bool.and_eq_true] at hl
          exact .inr hl.1
        | false=>exact .inl fun b=>by unfold jF;rw [if_neg (by simp)])
    exact hK _ _ _ _ RF
theorem BI {Γ:dD} (hm:E.n≤C.m) (HΓ:∀ f con,Γ f=some con→aj P E (f%1000000) con) :
    ∀ f con o c s a w G pt u,f<1000000→Γ (ckey E o f)=some con→o.op = .call c→abJ s con c f→Rel E C s a w G pt→(oz E con o s c.args.toList).den=some u→EJ P E C o a w (ak u s):=by
  intro f con o c s a w G pt u hlt hΓ hop hcc R h
  have hc2:∃ x,c.callee = .value x∧aV s x = .Ai f:=by
    rcases hcc with h | h
    · exact ⟨_,h,rfl⟩
    · exact h.1
  have H:aj P E f con:=by
    have H:=HΓ _ con hΓ
    have e:ckey E o f%1000000=f:=by
      unfold ckey
      cases Nat.ble 101 (tag E o) with
      | true=>simp only [cond_true];omega
      | false=>simp only [cond_false];omega
    rw [e] at H
    exact H
  unfold oz at h
  split at h
  · rename_i x hx
    unfold M4 at h
    cases hd:dP E o with
    | false=>rw [hd] at h;cases h
    | true=>
      rw [hd] at h
      simp only [cond_true] at h
      split at h
      · rename_i t ht
        split at h
        · rename_i gg u' hu
          cases gg with
          | false=>simp [Out.den] at h
          | true=>
          simp only [Out.den,cond_true,Option.some.injEq] at h
          subst h
          have hc:c.callee = .value (.func f):=by
            rcases hcc with h | h
            · exact h
            · rw [h.2] at hx;cases hx
          exact H.WL x hx E C o c s a w G pt t _ rfl hm (by simpa [dP,ht,Nat.blt_eq] using hd) ht hop hc R hu
        · cases h
      · cases h
  rename_i KF
  unfold nR at h
  cases hd:dP E o with
  | false=>rw [hd] at h;cases h
  | true=>
    rw [hd] at h
    simp only [cond_true] at h
    split at h
    · rename_i x xs hP hxs
      split at h
      · rename_i id st off hx
        split at h
        · rename_i st' cs hb
          cases hg:(Nat.beq st st' && Nat.beq off 0&&(!nQ s xs || con.nv)&&notSelf o id con.rs&&vB con.ps xs) with
          | false=>rw [hg] at h;cases h
          | true=>
            rw [hg] at h
            simp only [cond_true] at h
            simp only [Bool.and_eq_true,Bool.or_eq_true,Bool.not_eq_true'] at hg
            obtain ⟨⟨⟨⟨g1,g2⟩,g3⟩,g4⟩,g5⟩:=hg
            have g1:=Nat.eq_of_beq_eq_true g1
            have g2:=Nat.eq_of_beq_eq_true g2
            subst g1;subst g2
            split at h
            · rename_i y z hy hz
              obtain ⟨r,hF,h⟩:=mU h
              split at h
              · rename_i u' hu'
                simp only [Out.den,Option.some.injEq] at h
                subst h
                have:=BH (xs:=xs) (pre:=[x]) H KF hm R hop hc2 hd (by simpa using hxs) (by simp [aR.k0,hP]) (id:=id) (st:=st) (cs:=cs) (fun _=>hb) (fun _=>⟨x,rfl,hx⟩) (fun _=>kG hy) hz
                  (fun hl=>by rcases g3 with g3 | g3;(rw [hl] at g3;cases g3);exact g3) (fun _=>g4) g5 hF hu'
                rw [hP] at this
                rw [aP]
                exact this
              · cases h
            · cases h
        · cases h
      · cases h
    · rename_i hP
      cases hg:((!nQ s c.args.toList || con.nv)&&vB con.ps c.args.toList) with
      | false=>rw [hg] at h;cases h
      | true=>
        rw [hg] at h
        simp only [cond_true] at h
        split at h
        · rename_i y z hy hz
          obtain ⟨r,hF,h⟩:=mU h
          split at h
          · rename_i u' hu'
            simp only [Out.den,Option.some.injEq] at h
            subst h
            have hok:=H.ok
            simp only [aR.ok,Bool.and_eq_true,Bool.or_eq_true,hP,Bool.false_eq_true,false_or] at hok
            have:=BH (xs:=c.args.toList) (pre:=[]) H KF hm R hop hc2 hd (by simp) (by simp [aR.k0,hP]) (id:=0) (st:=0) (cs:=[]) (fun h=>by rw [hP] at h;cases h) (fun h=>by rw [hP] at h;cases h)
              (fun h=>by rw [hP] at h;cases h) hz (fun hl=>by
                simp only [Bool.and_eq_true,Bool.or_eq_true,Bool.not_eq_true'] at hg
                rcases hg.1 with hg | hg
                · rw [hl] at hg;cases hg
                · exact hg) (fun h=>by rw [hP] at h;cases h) (by simp only [Bool.and_eq_true] at hg;exact hg.2) hF hu'
            rw [hP] at this
            rw [aP]
            exact this
          · cases h
        · cases h
    · cases h
end
end Go.aW
namespace Go.aW
section
variable {P:Program} {E E':Env} {C C':Ctx} {s s':St} {a a':Act} {w w':World} {G G':Nat→Nat} {pt bJ:Nat→Nat→Option Value}
def vN (a:Act):Act:={ a with tmps:=a.tmps.pop }
theorem Fp {o:Oper} {f:Nat} (hlt:f<1000000):ckey E o f%1000000=f:=by
  unfold ckey
  cases Nat.ble 101 (tag E o) with
  | true=>simp only [cond_true];omega
  | false=>simp only [cond_false];omega
theorem vO {xs:Array Value} {v:Value} (t:Nat) (h:t≠xs.size):(xs.push v).getD t undef=xs.getD t undef:=by
  simp only [Array.getD_eq_getD_getElem?,Array.getElem?_push,h,if_false]
theorem pz {xs:Array Value} {v:Value}:(xs.push v).getD xs.size undef=v:=by
  simp [Array.getD_eq_getD_getElem?]
theorem NH {xs:Array Value} (t:Nat) (h:t+1<xs.size∨xs.size≤t):xs.pop.getD t undef=xs.getD t undef:=by
  simp only [Array.getD_eq_getD_getElem?,Array.getElem?_pop]
  rcases h with h | h
  · rw [if_pos (by omega)]
  · rw [if_neg (by omega),Array.getElem?_eq_none h]
theorem Rel.abY (R:Rel E C s a w G pt) {d:D} {v:Value} (hd:aY w G pt d v) (hc:∀ b,cO b d v=0) :
    Rel { E with n:=E.n+1 } { C with m:=C.m+1 } ((2*E.n,d)::s) { a with tmps:=a.tmps.push v } w G pt:=by
  have g2:∀ id,get ((2*E.n,d)::s) (2*id+1)=get s (2*id+1):=fun id=>by rw [aF,if_neg (by omega)]
  have g1:∀ t,t≠E.n→get ((2*E.n,d)::s) (2*t)=get s (2*t):=fun t h=>by rw [aF,if_neg (by omega)]
  have g0:get ((2*E.n,d)::s) (2*E.n)=d:=by rw [aF,if_pos rfl]
  have hv0:(a.tmps.push v).getD E.n undef=v:=by
    have:=pz (xs:=a.tmps) (v:=v)
    rw [R.sz] at this
    exact this
  have Jr:∀ b,TC (E.n+1) (C.m+1) ((2*E.n,d)::s) { a with tmps:=a.tmps.push v } w pt b=TC E.n C.m s a w pt b:=by
    intro b
    unfold TC
    simp only [bK]
    have e1:bK E.n (cT ((2*E.n,d)::s) { a with tmps:=a.tmps.push v } b)=bK E.n (cT s a b):=aM fun i hi=>by
      simp only [cT]
      rw [g1 i (by omega),vO i (by rw [R.sz];omega)]
    have e2:bK C.m (cB ((2*E.n,d)::s) w pt b)=bK C.m (cB s w pt b):=aM fun i _=>by simp only [cB,g2]
    have e3:cT ((2*E.n,d)::s) { a with tmps:=a.tmps.push v } b E.n=0:=by
      simp only [cT]
      rw [g0,hv0]
      exact hc b
    have e4:cB ((2*E.n,d)::s) w pt b C.m=0:=by
      simp only [cB]
      rw [g2,R.hb C.m (Nat.le_refl _)]
      rfl
    omega
  refine ⟨by simp [R.sz],R.df,fun t=>?_,fun id=>?_,fun t ht=>?_,fun id hid=>?_,fun b=>?_,fun b hb=>?_,R.fr,R.ex,R.gz,R.os,R.out,R.tape,R.hs,fun id st h=>?_,R.gl,R.pn⟩
  · by_cases h:t=E.n
    · subst h
      rw [g0]
      show aY w G pt d ((a.tmps.push v).getD E.n undef)
      rw [hv0]
      exact hd
    · rw [g1 t h]
      show aY w G pt (get s (2*t)) ((a.tmps.push v).getD t undef)
      rw [vO t (by rw [R.sz];exact h)]
      exact R.tm t
  · rw [g2];exact R.bx id
  · have ht:E.n+1≤t:=ht
    rw [g1 t (by omega)];exact R.ht t (by omega)
  · have hid:C.m+1≤id:=hid
    rw [g2];exact R.hb id (by omega)
  · exact Nat.le_trans (Nat.le_of_eq (Jr b)) (R.ct b)
  · exact R.cb b (by have:=Jr b;exact this▸hb)
  · rw [g2] at h;exact R.pf id st h
theorem Rel.afs {s1 s2:St} {a1:Act} (R:Rel { E with n:=E.n+1 } { C with m:=C.m+1 } s1 a1 w G pt) (h1:∀ k,k≠2*E.n→get s2 k=get s1 k) (h2:get s2 (2*E.n) = .undef) (h3:get s1 (2*C.m+1) = .undef) :
    Rel E C s2 (vN a1) w G pt:=by
  have hsz:a1.tmps.size=E.n+1:=R.sz
  have g2:∀ id,get s2 (2*id+1)=get s1 (2*id+1):=fun id=>h1 _ (by omega)
  have hg:∀ t,t≠E.n→(vN a1).tmps.getD t undef=a1.tmps.getD t undef:=fun t h=>NH t (by omega)
  have Jr:∀ b,TC E.n C.m s2 (vN a1) w pt b≤TC (E.n+1) (C.m+1) s1 a1 w pt b:=by
    intro b
    unfold TC
    simp only [bK]
    have e1:bK E.n (cT s2 (vN a1) b)=bK E.n (cT s1 a1 b):=aM fun i hi=>by
      simp only [cT]
      rw [h1 _ (by omega),hg i (by omega)]
    have e2:bK C.m (cB s2 w pt b)=bK C.m (cB s1 w pt b):=aM fun i _=>by simp only [cB,g2]
    omega
  refine ⟨by simp [vN,hsz],R.df,fun t=>?_,fun id=>?_,fun t ht=>?_,fun id hid=>?_,fun b=>?_,fun b hb=>?_,R.fr,R.ex,R.gz,R.os,R.out,R.tape,R.hs,fun id st h=>?_,R.gl,R.pn⟩
  · by_cases h:t=E.n
    · subst h
      rw [h2];trivial
    · rw [h1 _ (by omega),hg t h]
      exact R.tm t
  · rw [g2];exact R.bx id
  · by_cases h:t=E.n
    · subst h;exact h2
    · rw [h1 _ (by omega)]
      exact R.ht t (show E.n+1≤t by omega)
  · by_cases h:id=C.m
    · subst h;rw [g2];exact h3
    · rw [g2];exact R.hb id (show C.m+1≤id by omega)
  · exact Nat.le_trans (Jr b) (R.ct b)
  · exact R.cb b (Nat.lt_of_lt_of_le hb (Jr b))
  · rw [g2] at h;exact R.pf id st h
theorem BJ:∀ {n:Nat} {u:St},x9 n u=true→∀ k∈aJ u,k<n
  | _,[],_,k,hk=>by simp [aJ] at hk
  | n,(k0,d)::r,h,k,hk=>by
    simp only [x9,Bool.and_eq_true,Nat.blt_eq] at h
    simp only [aJ,List.mem_cons] at hk
    rcases hk with rfl | hk
    · exact h.1
    · exact BJ h.2 k hk
theorem Fq {n:Nat}:∀ {l:List Operand},xZ n l=true→∀ t,Operand.tmp t∈l→t<n
  | [],_,t,ht=>by simp at ht
  | x::r,h,t,ht=>by
    rcases List.mem_cons.1 ht with rfl | ht
    · simp only [xZ,Bool.and_eq_true,Nat.blt_eq] at h
      exact h.1
    · refine Fq (l:=r) ?_ t ht
      cases x<;>simp only [xZ,Bool.and_eq_true] at h<;>first | exact h | exact h.2
theorem BK {a:Act} {v:Value}:vN { a with tmps:=a.tmps.push v }=a:=by
  cases a
  simp [vN]
theorem NI {a:Act} {v r:Value} (o:Oper) (h:∀ t,o.dst=some t→t<a.tmps.size):vN (({ a with tmps:=a.tmps.push v }:Act).put o.dst r)=a.put o.dst r:=by
  cases hd:o.dst with
  | none=>exact BK
  | some t=>
    have:=h t hd
    simp only [vN,Act.put]
    congr 1
    apply Array.ext_getElem?
    intro i
    simp only [Array.getElem?_pop,Array.size_setIfInBounds,Array.size_push,Array.getElem?_setIfInBounds,Array.getElem?_push]
    by_cases hi:i<a.tmps.size
    · rw [if_pos (by omega)]
      by_cases ht:t=i
      · subst ht
        simp [hi]
        first | exact this | exact Nat.lt_succ_of_lt this | omega
      · simp [ht,show i≠a.tmps.size by omega]
    · rw [if_neg (by omega)]
      rw [if_neg (fun e:t=i=>hi (e▸this)),Array.getElem?_eq_none (Nat.le_of_not_lt hi)]
theorem aj.aft {P:Program} {E E':Env} {f:Nat} {c:aR} (h:E'.glob=E.glob) (H:aj P E f c):aj P E' f c:=by
  refine ⟨H.ok,fun hx=>?_,by rw [h];exact H.WL,H.fn⟩
  have:=H.sem hx
  unfold iL mZ at this ⊢
  rw [h];exact this
theorem RD {Γ:dD} (hm:E.n≤C.m) (HΓ:∀ f con,Γ f=some con→aj P E (f%1000000) con):Nf P E Γ C:=by
  intro f t v con o c s a w G pt u x hlt hΓ KF hop afu hx R h
  have H:aj P E f con:=by
    have H:=HΓ _ con hΓ
    rw [Fp hlt] at H
    exact H
  unfold Bc at h
  cases hd:(dP E o && !con.aG&&xZ E.n c.args.toList) with
  | false=>rw [hd] at h;cases h
  | true=>
    rw [hd] at h
    simp only [cond_true] at h
    simp only [Bool.and_eq_true] at hd
    obtain ⟨⟨hd1,-⟩,hd3⟩:=hd
    have hdst:∀ t,o.dst=some t→t<E.n:=by
      intro t ht
      simpa [dP,ht,Nat.blt_eq] using hd1
    rw [mR] at h
    split at h
    · rename_i u' h1
      cases hk:x9 (2*E.n) u' with
      | false=>rw [hk] at h;cases h
      | true=>
        rw [hk] at h
        simp only [cond_true,Out.den,Option.some.injEq] at h
        subst h
        have hr:=aT R x
        rw [hx] at hr
        obtain ⟨b,off,hv,hle,hc⟩:=hr
        have hd':aY w G pt (.gN t [v] 0 0) (.pointer (some ⟨b,off,none⟩)):=
          ⟨b,off,by simp,by simp,by simpa using hle,fun i hi=>by
            have:i=0:=by simpa using hi
            subst this
            simpa using hc⟩
        have R1:=R.abY hd' (fun _=>rfl)
        have key:=BI (P:=P) (E:={ E with n:=E.n+1 }) (C:={ C with m:=C.m+1 }) (Γ:=fun k=>if k%1000000=f then some con else none) (show E.n+1≤C.m+1 by omega) (fun k akX hk=>by
          split at hk
          · rename_i hkf
            simp only [Option.some.injEq] at hk
            subst hk
            rw [hkf]
            exact aj.aft (E:=E) rfl H
          · cases hk) f con { o with op:=.call { callee:=.value (.func f),args:=c.args.push (.tmp E.n),argTypes:=c.argTypes } } { callee:=.value (.func f),args:=c.args.push (.tmp E.n),argTypes:=c.argTypes }
          ((2*E.n,.gN t [v] 0 0)::s) { a with tmps:=a.tmps.push (.pointer (some ⟨b,off,none⟩)) } w G pt u' hlt (if_pos (Fp hlt)) rfl (.inl rfl) R1 (by
            unfold oz
            rw [KF]
            simp only [Array.toList_push]
            exact h1)
        have hkl:=BJ hk
        have gk:∀ k,k≠2*E.n→get (ak u' s) k=get (ak u' ((2*E.n,.gN t [v] 0 0)::s)) k:=by
          intro k hk
          by_cases hm:k∈aJ u'
          · exact jT _ _ _ _ hm
          · rw [bC _ _ _ hm,bC _ _ _ hm,aF,if_neg hk]
        have g2:get (ak u' s) (2*E.n) = .undef:=by
          rw [bC _ _ _ (fun hm=>by have:=hkl _ hm;omega)]
          exact R.ht _ (Nat.le_refl _)
        have g3:get (ak u' ((2*E.n,.gN t [v] 0 0)::s)) (2*C.m+1) = .undef:=by
          rw [bC _ _ _ (fun hm=>by have:=hkl _ hm;omega),aF,if_neg (by omega)]
          exact R.hb _ (Nat.le_refl _)
        intro K Q hK
        have key:=key (fun a' w'=>K (vN a') w') (fun e a' w'=>Q e (vN a') w') (fun a' w' G' bJ R'=>hK _ _ _ _ (R'.afs gk g2 g3))
        unfold Oper.wp at key ⊢
        rw [Nw H rfl rfl,Oper.upon_enter] at key
        have hrun:(execOp a.eval o).run P w = .ok (.enter f ((c.args.map a.eval).push (.pointer (some ⟨b,off,none⟩)))) w:=by
          obtain ⟨fn,h1,h2,h3⟩:=H.fn
          have e:execOp a.eval o=callFunc f (#[]++c.args.map a.eval++#[.pointer (some ⟨b,off,none⟩)]):=by
            simp only [execOp,hop,resolve,afu,hv]
            rfl
          rw [e]
          simp only [callFunc]
          have h2':¬ fn.name = "runtime.NumGoroutine":=by simpa using h2
          have h3':¬ fn.body=none:=fun h=>by rw [h] at h3;cases h3
          simp [go_sem,h1,h2',h3']
        have hargs:(c.args.push (.tmp E.n)).map ({ a with tmps:=a.tmps.push (.pointer (some ⟨b,off,none⟩)) }:Act).eval=(c.args.map a.eval).push (.pointer (some ⟨b,off,none⟩)):=by
          rw [Array.map_push]
          have e1:({ a with tmps:=a.tmps.push (.pointer (some ⟨b,off,none⟩)) }:Act).eval (.tmp E.n) = .pointer (some ⟨b,off,none⟩):=by
            have:=pz (xs:=a.tmps) (v:=.pointer (some ⟨b,off,none⟩))
            rw [R.sz] at this
            exact this
          rw [e1]
          congr 1
          apply Array.map_congr_left
          intro y hy
          cases y with
          | tmp u=>
            have:=Fq hd3 u (by simpa using hy)
            exact vO u (by rw [R.sz];exact Nat.ne_of_lt this)
          | _=>rfl
        rw [hrun,Oper.upon_enter]
        simp only [hargs] at key
        refine key.mono fun e w' he=>?_
        cases e with
        | returned r=>
          have he:K (vN (({ a with tmps:=a.tmps.push (.pointer (some ⟨b,off,none⟩)) }:Act).put o.dst r)) w':=he
          rw [NI o (fun t ht=>by rw [R.sz];exact hdst t ht)] at he
          exact he
        | panicked ch=>
          have he:Q (.panic ch) (vN { a with tmps:=a.tmps.push (.pointer (some ⟨b,off,none⟩)) }) w':=he
          rw [BK] at he
          exact he
        | outgrown=>
          obtain ⟨a2,w2,he⟩:=he
          exact ⟨_,_,he⟩
    · cases h
theorem Fu {Γ:dD} (hm:E.n≤C.m) (HΓ:∀ f con,Γ f=some con→aj P E (f%1000000) con):CB P E Γ C:=⟨RD hm HΓ,BI hm HΓ⟩
end
end Go.aW
namespace Go.aW
theorem aj.env {P:Program} {E E':Env} {f:Nat} {c:aR} (h:E'.glob=E.glob) (H:aj P E f c):aj P E' f c:=by
  refine ⟨H.ok,fun hx=>?_,by rw [h];exact H.WL,H.fn⟩
  have:=H.sem hx
  unfold iL mZ at this ⊢
  rw [h];exact this
def CU (E:Env) (fn:Func) (c:aR):Bool:=
  Nat.beq E.n fn.ntmps&&iK E.hp c.aG&&c.ok&&Nat.ble c.num E.n && !(fn.name == "runtime.NumGoroutine") && !fn.body.isNone&&c.xf.isNone
theorem WS {P:Program} {E:Env} (HP:nM P E) (Hg:P.follows .mixedOrders=true) {Γ:dD} (HΓ:∀ g con,Γ g=some con→aj P E (g%1000000) con)
    {f:Nat} {fn:Func} (plan:Plan) {c:aR} (hf:P.funcs[f]? = some fn) (hck:CU E fn c=true)
    (hF:∀ x y,c.okV x→c.F x=some y→(eF (fun _ _=>Loop) E Γ fn plan c x).den=some y):aj P E f c:=by
  simp only [CU,Bool.and_eq_true,Bool.not_eq_true'] at hck
  obtain ⟨⟨⟨⟨⟨⟨h1,h2⟩,h3⟩,h4⟩,h5⟩,h6⟩,h7⟩:=hck
  have h7:c.xf=none:=by simpa using h7
  refine ⟨h3,fun _=>?_,fun x hx=>(by rw [h7] at hx;cases hx),fn,hf,h5,h6⟩
  exact WJ HP Hg hf (Nat.eq_of_beq_eq_true h1) (jR h2) h3 (Nat.le_of_ble_eq_true h4) (fun C hC _=>Fu hC HΓ) hF
end Go.aW
namespace Go.aW
def Js:List (Nat×TI)→Nat→Option TI
  | [],_=>none
  | (t,i)::r,u=>bif Nat.beq u t then some i else Js r u
def Ud:List (Nat×Nat)→Nat→Nat
  | [],_=>0
  | (a,b)::r,t=>bif Nat.beq t a then b else Ud r t
def Jt:List (Nat×(IntKind×List Int))→Nat→Option (IntKind×List Int)
  | [],_=>none
  | (a,b)::r,t=>bif Nat.beq t a then some b else Jt r t
def au:List (Nat×aR)→Nat→Option aR
  | [],_=>none
  | (a,b)::r,t=>bif Nat.beq t a then some b else au r t
def eB (tab:List (Nat×TI)) (gl:List (Nat×(IntKind×List Int))) (n:Nat) (hp:Bool) (md:List (Nat×Nat)):Env:=
  { T:=Js tab,md:=Ud md,glob:=Jt gl,n,hp }
theorem vP {t:Nat} {i:TI}:∀ {tab:List (Nat×TI)},Js tab t=some i→(t,i)∈tab
  | (u,j)::r,h=>by
    simp only [Js] at h
    cases hb:Nat.beq t u with
    | true=>
      rw [hb] at h
      simp only [cond_true,Option.some.injEq] at h
      have:=Nat.eq_of_beq_eq_true hb
      subst this;subst h
      simp
    | false=>
      rw [hb] at h
      exact List.mem_cons_of_mem _ (vP h)
theorem og {α β:Type} {f g:α→β}:∀ {l:List α},l.map f=l.map g→∀ x∈l,f x=g x
  | [],_,x,h=>by simp at h
  | y::r,h,x,hx=>by
    simp only [List.map_cons,List.cons.injEq] at h
    rcases List.mem_cons.1 hx with rfl | hx
    · exact h.1
    · exact og h.2 x hx
theorem Fv {t:Nat} {ks:List Nat}:∀ {cl:List (Nat×List Nat)},look cl t=some ks→(t,ks)∈cl
  | (u,j)::r,h=>by
    simp only [look] at h
    cases hb:Nat.beq t u with
    | true=>
      rw [hb] at h
      simp only [cond_true,Option.some.injEq] at h
      have:=Nat.eq_of_beq_eq_true hb
      subst this;subst h
      simp
    | false=>
      rw [hb] at h
      exact List.mem_cons_of_mem _ (Fv h)
theorem NJ {P:Program} {cl:List (Nat×List Nat)} {T:TypeId} {i:TI} (h:Ki P cl T=some i):i.cmp=look cl T:=by
  unfold Ki at h
  split at h
  · rename_i pi d hi hu
    split at h
    · rename_i z hz
      cases hb:(Nat.beq z.cells.size pi.size&&(iP d || Nat.beq pi.size 1)&&z.cells.all (·.oneCell')) with
      | false=>simp [hb] at h
      | true=>
        simp only [hb,cond_true,Option.some.injEq] at h
        subst h;rfl
    · cases h
  · cases h
theorem WT {P:Program} {tab:List (Nat×TI)} {gl:List (Nat×(IntKind×List Int))} (cl:List (Nat×List Nat)) (h1:tab.map (fun p=>Ki P cl p.1)=tab.map (fun p=>some p.2))
    (h2:cl.map (fun p=>(iG P 8 p.1,P.eqGuardType P.depth p.1))=cl.map (fun p=>(some p.2,false))) (n:Nat) (hp:Bool) (md:List (Nat×Nat)):nM P (eB tab gl n hp md):=by
  refine ⟨fun T i h=>Q9 (og h1 (T,i) (vP h)),fun T i ks h hk=>?_⟩
  have h3:=NJ (og h1 (T,i) (vP h))
  rw [hk] at h3
  have h4:=og h2 (T,ks) (Fv h3.symm)
  simp only [Prod.mk.injEq] at h4
  exact h4
end Go.aW
namespace Go.aW
theorem NK {τ ε:Type} {step:τ→Option (Sum τ ε)} (I:τ→Prop) (m:τ→Nat) (f:τ→ε)
    (h:∀ v,I v→step v=some (.inr (f v))∨∃ v',step v=some (.inl v')∧I v'∧m v' < m v∧f v' = f v) {v:τ} (hv:I v):Loop step v=some (f v):=by
  have key:∀ n v,I v→m v≤n→∃ k,yu step k v=some (f v):=by
    intro n
    induction n with
    | zero=>
      intro v hv hm
      rcases h v hv with h1 | ⟨v',h1,_,h3,_⟩
      · exact ⟨1,by simp [yu,h1]⟩
      · omega
    | succ n ih=>
      intro v hv hm
      rcases h v hv with h1 | ⟨v',h1,h2,h3,h4⟩
      · exact ⟨1,by simp [yu,h1]⟩
      · obtain ⟨k,hk⟩:=ih v' h2 (by omega)
        exact ⟨k+1,by simp [yu,h1,hk,h4]⟩
  obtain ⟨k,hk⟩:=key (m v) v hv (Nat.le_refl _)
  exact tC hk
theorem Ju {P:Program} {E:Env}:∀ g con,au [] g=some con→aj P E (g%1000000) con:=fun _ _ h=>by cases h
theorem aA {P:Program} {E E':Env} {f:Nat} {c:aR} {l:List (Nat×aR)} (hg:E.glob=E'.glob) (h:aj P E' (f%1000000) c) (hl:∀ g con,au l g=some con→aj P E (g%1000000) con) :
    ∀ g con,au ((f,c)::l) g=some con→aj P E (g%1000000) con:=by
  intro g con h'
  simp only [au] at h'
  cases hb:Nat.beq g f with
  | true=>
    rw [hb] at h'
    simp only [cond_true,Option.some.injEq] at h'
    have:=Nat.eq_of_beq_eq_true hb
    subst this;subst h'
    exact h.env hg
  | false=>
    rw [hb] at h'
    exact hl g con h'
end Go.aW
namespace Go.aW
open Go
theorem fu {n:Int} (h1:-9223372036854775808≤n) (h2:n≤9223372036854775807):IntKind.wrap .i64 n=n:=by
  have e1:(2:Int) ^ IntKind.i64.bits=18446744073709551616:=by decide
  have e2:(2:Int) ^ (IntKind.i64.bits - 1)=9223372036854775808:=by decide
  have e3:IntKind.i64.signed=true:=rfl
  simp only [IntKind.wrap,e1,e2,e3,Bool.true_and,decide_eq_true_eq]
  split<;>omega
theorem wu64 {n:Int} (h1:0≤n) (h2:n<18446744073709551616):IntKind.wrap .u64 n=n:=by
  have e1:(2:Int) ^ IntKind.u64.bits=18446744073709551616:=by decide
  have e3:IntKind.u64.signed=false:=rfl
  simp only [IntKind.wrap,e1,e3,Bool.false_and,Bool.false_eq_true,if_false]
  omega
theorem NM (n:Int):IntKind.wrap .u64 n=n%18446744073709551616:=by
  have e1:(2:Int) ^ IntKind.u64.bits=18446744073709551616:=by decide
  have e3:IntKind.u64.signed=false:=rfl
  simp only [IntKind.wrap,e1,e3,Bool.false_and,Bool.false_eq_true,if_false]
theorem afv (n:Int):IntKind.wrap .u8 n=n%256:=by
  have e1:(2:Int) ^ IntKind.u8.bits=256:=by decide
  have e3:IntKind.u8.signed=false:=rfl
  simp only [IntKind.wrap,e1,e3,Bool.false_and,Bool.false_eq_true,if_false]
theorem wu8 {n:Int} (h1:0≤n) (h2:n<256):IntKind.wrap .u8 n=n:=by rw [afv];omega
theorem RG {n:Int} (h:IntKind.u64.has n):0≤n∧n<18446744073709551616:=by
  have h1:0≤n:=h.1
  have h2:n≤18446744073709551615:=h.2
  omega
theorem CV {n:Int} (h:IntKind.i64.has n):-9223372036854775808≤n∧n≤9223372036854775807:=h
theorem RH {a b:Int} (h:0≤a):Int.tdiv a b=a / b:=Int.tdiv_eq_ediv_of_nonneg h
theorem CW {a b:Int} (h:0≤a):Int.tmod a b=a%b:=Int.tmod_eq_emod_of_nonneg h
theorem pow2 (n:Nat):Int.pow (2:Int) n=2 ^ n:=rfl
theorem toNat_ofInt {w:Nat} {x:Int} (h1:0≤x) (h2:x<2 ^ w):(BitVec.ofInt w x).toNat=x.toNat:=by
  rw [BitVec.toNat_ofInt]
  have:x%((2 ^ w:Nat):Int)=x:=Int.emod_eq_of_lt h1 (by simpa using h2)
  rw [this]
theorem bvand {w:Nat} {x y:Int} (h1:0≤x) (h2:x<2 ^ w) (h3:0≤y) (h4:y<2 ^ w):(BitVec.and (BitVec.ofInt w x) (BitVec.ofInt w y)).toNat=x.toNat &&& y.toNat:=by
  show (BitVec.ofInt w x &&& BitVec.ofInt w y).toNat=_
  rw [BitVec.toNat_and,toNat_ofInt h1 h2,toNat_ofInt h3 h4]
theorem bvor {w:Nat} {x y:Int} (h1:0≤x) (h2:x<2 ^ w) (h3:0≤y) (h4:y<2 ^ w):(BitVec.or (BitVec.ofInt w x) (BitVec.ofInt w y)).toNat=x.toNat ||| y.toNat:=by
  show (BitVec.ofInt w x ||| BitVec.ofInt w y).toNat=_
  rw [BitVec.toNat_or,toNat_ofInt h1 h2,toNat_ofInt h3 h4]
theorem bvxor {w:Nat} {x y:Int} (h1:0≤x) (h2:x<2 ^ w) (h3:0≤y) (h4:y<2 ^ w):(BitVec.xor (BitVec.ofInt w x) (BitVec.ofInt w y)).toNat=x.toNat ^^^ y.toNat:=by
  show (BitVec.ofInt w x ^^^ BitVec.ofInt w y).toNat=_
  rw [BitVec.toNat_xor,toNat_ofInt h1 h2,toNat_ofInt h3 h4]
theorem pE (n:Nat):(2:Int) ^ n=((2 ^ n:Nat):Int):=by simp
theorem j5 {a b:Nat} (h:a≤b):Nat.ble a b=true:=by rw [Nat.ble_eq];exact h
theorem l6 {a b:Nat} (h:a<b):Nat.blt a b=true:=by rw [Nat.blt_eq];exact h
theorem iW {α:Type} {l:List α} {i:Nat} {d:α} (h:i<l.length):l.getD i d∈l:=by
  rw [List.getD_eq_getElem?_getD,List.getElem?_eq_getElem h];exact List.getElem_mem h
theorem NP {α:Type} {l:List α} {i j:Nat} {d x:α} (h:i<l.length):(l.set i x).getD j d=if i=j then x else l.getD j d:=by
  simp only [List.getD_eq_getElem?_getD,List.getElem?_set]
  by_cases hj:i=j
  · subst hj;simp [h]
  · simp [hj]
theorem K3 {τ ε:Type} {step:τ→Option (Sum τ ε)} (I:τ→Prop) (m:τ→Nat) (Q:ε→Prop)
    (h:∀ v,I v→(∃ e,step v=some (.inr e)∧Q e)∨∃ v',step v=some (.inl v')∧I v'∧m v' < m v) {v:τ} (hv:I v):∃ e,Loop step v=some e∧Q e:=by
  have key:∀ n v,I v→m v≤n→∃ k e,yu step k v=some e∧Q e:=by
    intro n
    induction n with
    | zero=>
      intro v hv hm
      rcases h v hv with ⟨e,h1,h2⟩ | ⟨v',h1,_,h3⟩
      · exact ⟨1,e,by simp [yu,h1],h2⟩
      · omega
    | succ n ih=>
      intro v hv hm
      rcases h v hv with ⟨e,h1,h2⟩ | ⟨v',h1,h2,h3⟩
      · exact ⟨1,e,by simp [yu,h1],h2⟩
      · obtain ⟨k,e,h4,h5⟩:=ih v' h2 (by omega)
        exact ⟨k+1,e,by simp [yu,h1,h4],h5⟩
  obtain ⟨k,e,h1,h2⟩:=key _ v hv (Nat.le_refl _)
  exact ⟨e,tC h1,h2⟩
theorem vQ {α ε:Type} {step:Int×Unit→Option (Sum (Int×Unit) ε)} (l:List α) (d:α) (bad:α→Bool) (R1 R0:ε)
    (h1:∀ i:Int,0≤i→i<(l.length:Int)→step (i,())=some (bif bad (l.getD i.toNat d) then .inr R1 else .inl (i+1,())))
    (h0:step ((l.length:Int),())=some (.inr R0)):Loop step ((0:Int),())=some (bif l.any bad then R1 else R0):=by
  have key:Loop step ((0:Int),())=some (bif (l.drop (0:Int).toNat).any bad then R1 else R0):=by
    refine NK (fun v:Int×Unit=>0≤v.1∧v.1≤(l.length:Int)) (fun v:Int×Unit=>((l.length:Int) - v.1).toNat) (fun v:Int×Unit=>bif (l.drop v.1.toNat).any bad then R1 else R0) ?_ (v:=(0,())) ⟨by simp,by simp⟩
    rintro ⟨i,⟨⟩⟩ ⟨k1,k2⟩
    simp only at k1 k2
    by_cases h:i<(l.length:Int)
    · have hi:i.toNat<l.length:=by omega
      have hd:l.drop i.toNat=l.getD i.toNat d::l.drop (i+1).toNat:=by
        rw [show (i+1).toNat=i.toNat+1 by omega,List.drop_eq_getElem_cons hi,List.getD_eq_getElem?_getD,List.getElem?_eq_getElem hi];rfl
      rw [h1 i k1 h,hd,List.any_cons]
      cases hb:bad (l.getD i.toNat d) with
      | true=>left;rfl
      | false=>right;exact ⟨(i+1,()),rfl,⟨by simp only;omega,by simp only;omega⟩,by simp only;omega,by simp only [Bool.false_or]⟩
    · have:i=(l.length:Int):=by omega
      subst this
      left
      rw [h0,Int.toNat_natCast,List.drop_length]
      rfl
  simpa using key
theorem yX {α:Type} (f:Nat→α) (n k:Nat) (d:α):((List.range n).map f).getD k d=if k<n then f k else d:=by
  by_cases h:k<n<;>simp [List.getD_eq_getElem?_getD,h]
theorem Ay {α:Type} {l m:List α} (d:α) (h:l.length=m.length) (k:∀ i,i<l.length→l.getD i d=m.getD i d):l=m:=by
  refine List.ext_getElem h fun i hi hi'=>?_
  have:=k i hi
  simpa [List.getD_eq_getElem?_getD,hi,hi'] using this
theorem Fw {α:Type} (a b:List α) (i:Nat) (d:α):(a++b).getD i d=if i<a.length then a.getD i d else b.getD (i - a.length) d:=by
  simp only [List.getD_eq_getElem?_getD]
  split
  · rw [List.getElem?_append_left (by assumption)]
  · rw [List.getElem?_append_right (by omega)]
theorem lu {α:Type} (l:List α) (i:Nat) (d:α) (h:i<l.length):l.take (i+1)=l.take i++[l.getD i d]:=by
  rw [List.take_add_one,List.getD_eq_getElem?_getD,List.getElem?_eq_getElem h];rfl
theorem Hw {ε:Type} {step:Int×Unit→Option (Sum (Int×Unit) ε)} (n:Nat) (bad:Nat→Bool) (R1 R0:ε)
    (h1:∀ i:Int,0≤i→i<(n:Int)→step (i,())=some (bif bad i.toNat then .inr R1 else .inl (i+1,())))
    (h0:step ((n:Int),())=some (.inr R0)):Loop step ((0:Int),())=some (bif (List.range n).any bad then R1 else R0):=by
  refine vQ (List.range n) 0 bad R1 R0 (fun i k1 k2=>?_) (by simpa using h0)
  have k2:i<(n:Int):=by simpa using k2
  have e:(List.range n).getD i.toNat 0=i.toNat:=by
    have h:i.toNat<n:=by omega
    simp [List.getD_eq_getElem?_getD,h]
  rw [h1 i k1 k2,e]
end Go.aW
namespace Go.aW
theorem dH {α:Type} {l:List α} {d:α} {i:Nat} (h:i<l.length):l.getD i d=l[i]:=by
  rw [List.getD_eq_getElem?_getD,List.getElem?_eq_getElem h]
  rfl
theorem j6 {τ ε:Type} {step:τ→Option (Sum τ ε)} (enc:Nat→τ) (n:Nat) (e:ε) (hs:∀ k,k<n→step (enc k)=some (.inl (enc (k+1)))) (he:step (enc n)=some (.inr e)) (k:Nat) (hk:k≤n):Loop step (enc k)=some e:=by
  have key:∀ j k,k+j=n→Loop step (enc k)=some e:=by
    intro j
    induction j with
    | zero=>intro k hk;have:k=n:=by omega
            subst this;rw [aN,he]
    | succ j ih=>intro k hk;rw [aN,hs k (by omega)];exact ih (k+1) (by omega)
  exact key (n - k) k (by omega)
theorem vR {τ ε:Type} {step:τ→Option (Sum τ ε)} (enc:Nat→τ) (n:Nat) (e:ε) (out:Nat→Option ε)
    (hs:∀ k,k<n→step (enc k)=match out k with | some x=>some (.inr x) | none=>some (.inl (enc (k+1)))) (he:step (enc n)=some (.inr e)) :
    Loop step (enc 0)=some (((List.range n).findSome? out).getD e):=by
  have key:∀ j k,k+j=n→(∀ i,i<k→out i=none)→Loop step (enc k)=some (((List.range n).findSome? out).getD e):=by
    intro j
    induction j with
    | zero=>
      intro k hk hn
      have:k=n:=by omega
      subst this
      have:(List.range k).findSome? out=none:=by
        rw [List.findSome?_eq_none_iff]
        intro x hx
        exact hn x (List.mem_range.1 hx)
      rw [aN,he,this]
      rfl
    | succ j ih=>
      intro k hk hn
      rw [aN,hs k (by omega)]
      cases ho:out k with
      | none=>
        exact ih (k+1) (by omega) fun i hi=>by
          by_cases h:i=k
          · rw [h];exact ho
          · exact hn i (by omega)
      | some x=>
        have hr:List.range n=List.range k++k::(List.range (n - k - 1)).map (k+1 + ·):=by
          rw [show n=k+(1+(n - k - 1)) by omega,List.range_add,List.range_add]
          simp [List.map_append]
          intro a ha
          omega
        have:(List.range n).findSome? out=some x:=by
          rw [hr,List.findSome?_append]
          have:(List.range k).findSome? out=none:=by
            rw [List.findSome?_eq_none_iff]
            intro x hx
            exact hn x (List.mem_range.1 hx)
          rw [this,List.findSome?_cons,ho]
          rfl
        rw [this]
        rfl
  exact key n 0 (by omega) (fun i hi=>absurd hi (by omega))
theorem CX {α β:Type} (l:List α) (p:α→Bool) (x:β):l.findSome? (fun i=>bif p i then some x else none)=bif l.any p then some x else none:=by
  induction l with
  | nil=>rfl
  | cons a r ih=>rw [List.findSome?_cons,List.any_cons];cases p a<;>simp [ih]
theorem qU {α β:Type} (l:List α) (p:α→Bool) (f:α→β):l.findSome? (fun i=>bif p i then some (f i) else none)=(l.find? p).map f:=by
  induction l with
  | nil=>rfl
  | cons a r ih=>rw [List.findSome?_cons,List.find?_cons];cases p a<;>simp [ih]
theorem vS {τ ε:Type} {step:τ→Option (Sum τ ε)} (enc:Nat→τ) (n:Nat) (e:ε) (bad:Nat→Bool) (R:ε)
    (hs:∀ k,k<n→step (enc k)=some (bif bad k then .inr R else .inl (enc (k+1)))) (he:step (enc n)=some (.inr e)) :
    Loop step (enc 0)=some (bif (List.range n).any bad then R else e):=by
  rw [vR enc n e (fun i=>bif bad i then some R else none) (fun k hk=>by rw [hs k hk];cases bad k<;>rfl) he,CX]
  cases (List.range n).any bad<;>rfl
theorem BL {α ρ:Type} (f:(Int×Unit)→Option (Sum (Int×Unit) ρ)) (l:List α) (d:α) (bad:α→Bool) (R1 R0:ρ)
    (h1:∀ i:Nat,i<l.length→f ((i:Int),())=some (bif bad (l.getD i d) then .inr R1 else .inl (((i+1:Nat):Int),())))
    (h0:f ((l.length:Int),())=some (.inr R0)):Loop f ((0:Int),())=some (bif l.any bad then R1 else R0):=
  vQ l d bad R1 R0 (fun i hi hlt=>by
    obtain ⟨k,rfl⟩:∃ n:Nat,i=n:=⟨i.toNat,by omega⟩
    rw [h1 k (by omega),Int.toNat_natCast]
    rfl) h0
theorem CY {n k:Nat} {p:Nat→Bool} (hk:k<n) (h:p k=true):(List.range n).any p=true:=List.any_eq_true.2 ⟨k,List.mem_range.2 hk,h⟩
theorem Jv {ρ:Type} (f:(Int×Unit)→Option (Sum (Int×Unit) ρ)) (n:Nat) (bad:Nat→Bool) (R1 R0:ρ)
    (h1:∀ i:Nat,1≤i→i<n→f ((i:Int),())=some (bif bad i then .inr R1 else .inl (((i+1:Nat):Int),())))
    (h0:∀ i:Nat,n≤i→i≤n+1→f ((i:Int),())=some (.inr R0)):Loop f ((1:Int),())=some (bif (List.range (n - 1)).any (fun i=>bad (i+1)) then R1 else R0):=by
  have key:∀ j k,k+j=n - 1→(∀ i,i<k→bad (i+1)=false)→Loop f (((k+1:Nat):Int),())=some (bif (List.range (n - 1)).any (fun i=>bad (i+1)) then R1 else R0):=by
    intro j
    induction j with
    | zero=>
      intro k hk hn
      rw [aN,h0 (k+1) (by omega) (by omega)]
      have:(List.range (n - 1)).any (fun i=>bad (i+1))=false:=by
        rw [Bool.eq_false_iff]
        intro h
        obtain ⟨x,hx,hp⟩:=List.any_eq_true.1 h
        rw [hn x (by have:=List.mem_range.1 hx;omega)] at hp
        cases hp
      rw [this]
      rfl
    | succ j ih=>
      intro k hk hn
      rw [aN,h1 (k+1) (by omega) (by omega)]
      cases hb:bad (k+1) with
      | true=>
        rw [CY (p:=fun i=>bad (i+1)) (show k<n - 1 by omega) hb]
        rfl
      | false=>
        exact ih (k+1) (by omega) fun i hi=>by
          by_cases h:i=k
          · rw [h];exact hb
          · exact hn i (by omega)
  exact key (n - 1) 0 (by omega) (fun i hi=>absurd hi (by omega))
theorem tQ {ρ:Type} (f:(Int×Unit)→Option (Sum (Int×Unit) ρ)) (n:Nat) (bad:Nat→Bool) (R1 R0:ρ)
    (h1:∀ i:Nat,i<n→f ((i:Int),())=some (bif bad i then .inr R1 else .inl (((i+1:Nat):Int),())))
    (h0:f ((n:Int),())=some (.inr R0)):Loop f ((0:Int),())=some (bif (List.range n).any bad then R1 else R0):=
  Hw n bad R1 R0 (fun i hi hlt=>by
    obtain ⟨k,rfl⟩:∃ n:Nat,i=n:=⟨i.toNat,by omega⟩
    rw [h1 k (by omega),Int.toNat_natCast]
    rfl) h0
theorem fE {k:Nat} (h:k≤9223372036854775806):IntKind.wrap .i64 ((k:Int)+1)=((k+1:Nat):Int):=by rw [fu (by omega) (by omega)];omega
theorem Fx {k:Nat} (h0:0<k) (h:k≤9223372036854775806):IntKind.wrap .i64 ((k:Int) - 1)=((k - 1:Nat):Int):=by rw [fu (by omega) (by omega)];omega
theorem dT {p:Prop} {i:Decidable p} (h:p):@decide p i=true:=decide_eq_true h
theorem dF {p:Prop} {i:Decidable p} (h:¬ p):@decide p i=false:=decide_eq_false h
end Go.aW
namespace Go.aW
def iM (w:World) (G:Nat→Nat):(t:Ty)→t.den→(Nat→Value)→Nat→Prop
  | .int k,n,f,o=>f o = .int k n∧k.has n
  | .bool,x,f,o=>f o = .bool x
  | .str,l,f,o=>∃ s,f o = .string s∧jq s=l∧l.length≤iQ
  | .sl t,l,f,o=>∃ a n c,f o = .slice a n c∧n=l.length∧n*t.mE≤big∧n≤c ∧
      (l=[]∨∃ b' o',a=some ⟨b',o',none⟩∧o' + n*t.nc≤G b'∧∀ i (h:i<l.length),bX w G t l[i] b' (o' + i*t.nc))
  | .unit,_,_,_=>True
  | .cons a b,x,f,o=>iM w G a x.1 f o∧iM w G b x.2 f (o+a.nc)
  | .st _ c,x,f,o=>iM w G c x f o
  | .fO _ _,_,_,_=>False
section
variable {w:World} {G:Nat→Nat} {pt:Nat→Nat→Option Value}
theorem iM.shift:∀ {t:Ty} {x:t.den} {f g:Nat→Value} {o o':Nat},iM w G t x f o→(∀ j,j<t.nc→g (o' + j)=f (o+j))→iM w G t x g o'
  | .int k,n,f,g,o,o',h,hc=>by
    have:=hc 0 (by simp [Ty.nc])
    simp only [Nat.add_zero] at this
    simp only [iM] at h ⊢
    rw [this];exact h
  | .bool,n,f,g,o,o',h,hc=>by
    have:=hc 0 (by simp [Ty.nc])
    simp only [Nat.add_zero] at this
    simp only [iM] at h ⊢
    rw [this];exact h
  | .str,n,f,g,o,o',h,hc=>by
    have:=hc 0 (by simp [Ty.nc])
    simp only [Nat.add_zero] at this
    simp only [iM] at h ⊢
    rw [this];exact h
  | .sl t,l,f,g,o,o',h,hc=>by
    have:=hc 0 (by simp [Ty.nc])
    simp only [Nat.add_zero] at this
    simp only [iM] at h ⊢
    rw [this];exact h
  | .unit,_,_,_,_,_,_,_=>trivial
  | .cons a c,x,f,g,o,o',h,hc=>by
    simp only [iM] at h ⊢
    simp only [Ty.nc] at hc
    refine ⟨h.1.shift fun j hj=>hc j (by omega),h.2.shift fun j hj=>?_⟩
    have:=hc (a.nc+j) (by omega)
    rw [Nat.add_assoc,Nat.add_assoc];exact this
  | .st _ c,x,f,g,o,o',h,hc=>by
    simp only [iM] at h ⊢
    exact iM.shift (t:=c) h hc
  | .fO _ _,x,f,g,o,o',h,hc=>h.elim
theorem iM.mem:∀ {t:Ty} {x:t.den} {f:Nat→Value} {o b o':Nat},iM w G t x f o→(∀ j,j<t.nc→w.cell? ⟨b,o' + j,none⟩=some (f (o+j)))→bX w G t x b o'
  | .int k,n,f,o,b,o',h,hc=>by
    have:=hc 0 (by simp [Ty.nc])
    simp only [Nat.add_zero] at this
    simp only [iM] at h
    simp only [bX]
    rw [this,h.1];exact ⟨rfl,h.2⟩
  | .bool,n,f,o,b,o',h,hc=>by
    have:=hc 0 (by simp [Ty.nc])
    simp only [Nat.add_zero] at this
    simp only [iM] at h
    simp only [bX]
    rw [this,h]
  | .str,n,f,o,b,o',h,hc=>by
    have:=hc 0 (by simp [Ty.nc])
    simp only [Nat.add_zero] at this
    simp only [iM] at h
    obtain ⟨s,h1,h2⟩:=h
    simp only [bX]
    exact ⟨s,by rw [this,h1],h2⟩
  | .sl t,l,f,o,b,o',h,hc=>by
    have:=hc 0 (by simp [Ty.nc])
    simp only [Nat.add_zero] at this
    simp only [iM] at h
    obtain ⟨a,n,c,h1,h2⟩:=h
    simp only [bX]
    exact ⟨a,n,c,by rw [this,h1],h2⟩
  | .unit,_,_,_,_,_,_,_=>by simp only [bX]
  | .cons a c,x,f,o,b,o',h,hc=>by
    simp only [iM] at h
    simp only [bX]
    simp only [Ty.nc] at hc
    refine ⟨h.1.mem fun j hj=>hc j (by omega),h.2.mem fun j hj=>?_⟩
    have:=hc (a.nc+j) (by omega)
    rw [Nat.add_assoc,Nat.add_assoc];exact this
  | .st _ c,x,f,o,b,o',h,hc=>by
    simp only [iM] at h
    simp only [bX]
    exact iM.mem (t:=c) h hc
  | .fO _ _,x,f,o,b,o',h,hc=>h.elim
theorem iM.leaf:∀ {t:Ty} {x:t.den} {f:Nat→Value} {o:Nat},iM w G t x f o→∀ j (h:j<(enc t x).length),bI w G pt (enc t x)[j] (f (o+j))∧(f (o+j)).oneCell' = true
  | .int k,n,f,o,h,j,hj=>by
    have:j=0:=by simp [enc] at hj;exact hj
    subst this
    simp only [iM] at h
    rw [Nat.add_zero,h.1]
    exact ⟨⟨rfl,h.2⟩,rfl⟩
  | .bool,n,f,o,h,j,hj=>by
    have:j=0:=by simp [enc] at hj;exact hj
    subst this
    simp only [iM] at h
    rw [Nat.add_zero,h]
    exact ⟨rfl,rfl⟩
  | .str,n,f,o,h,j,hj=>by
    have:j=0:=by simp [enc] at hj;exact hj
    subst this
    simp only [iM] at h
    obtain ⟨s,h1,h2⟩:=h
    rw [Nat.add_zero,h1]
    exact ⟨⟨s,rfl,h2⟩,rfl⟩
  | .sl t,l,f,o,h,j,hj=>by
    have:j=0:=by simp [enc] at hj;exact hj
    subst this
    simp only [iM] at h
    obtain ⟨a,n,c,h1,h2,h3,h4,h5⟩:=h
    rw [Nat.add_zero,h1]
    refine ⟨⟨a,n,c,rfl,h2,h3,by rw [←h2];exact h4,?_⟩,rfl⟩
    rcases h5 with h5 | ⟨b',o',h6,h7,h8⟩
    · exact .inl h5
    · subst h2
      exact .inr ⟨b',o',h6,h7,h8⟩
  | .fO _ _,x,f,o,h,j,hj=>h.elim
  | .unit,_,_,_,_,j,hj=>by simp [enc] at hj
  | .cons a c,x,f,o,h,j,hj=>by
    simp only [iM] at h
    have hl:=iJ a x.1
    have e:enc (.cons a c) x=enc a x.1++enc c x.2:=rfl
    by_cases h1:j<(enc a x.1).length
    · have:=h.1.leaf j h1
      simp only [e,List.getElem_append_left h1]
      exact this
    · have hj2:j - (enc a x.1).length<(enc c x.2).length:=by
        rw [e,List.length_append] at hj;omega
      have:=h.2.leaf (j - (enc a x.1).length) hj2
      simp only [e,List.getElem_append_right (by omega:(enc a x.1).length≤j)]
      rw [show o+a.nc+(j - (enc a x.1).length)=o+j by omega] at this
      exact this
  | .st _ c,x,f,o,h,j,hj=>by
    simp only [iM] at h
    exact iM.leaf (t:=c) h j hj
end
def RI (RJ:TypeId→Ty→Bool) (P:Program):List Field→Nat→Ty→Bool
  | [],_,.unit=>true
  | f::r,off,.cons a b=>RJ f.type a&&Nat.beq f.offset off&&Nat.beq (P.cellsOf f.type) a.nc&&RI RJ P r (off+a.nc) b
  | _,_,_=>false
def wR (P:Program):Nat→TypeId→Ty→Bool
  | 0,_,_=>false
  | n+1,t,ty=>match P.underlying t,ty with
    | some (.int k),.int k'=>iO k k'
    | some .bool,.bool=>true
    | some .string,.str=>true
    | some (.slice e),.sl a=>wR P n e a&&Nat.beq (P.cellsOf e) a.nc&&Nat.beq (P.bytesOf e) a.mE&&Nat.blt 0 a.nc
    | some (.struct fs),.st _ c=>RI (wR P n) P fs.toList 0 c&&Nat.beq (P.cellsOf t) c.nc
    | _,_=>false
section
variable {H:Type} {en:TypeId×Value→H} {P:Program} {w:World} {spare:Nat→Bool} {held:Bool}
theorem xg {p:Nat→Bool} {a b:List Nat} (h:(a++b).all p=true):a.all p=true∧b.all p=true:=by
  rw [List.all_append,Bool.and_eq_true] at h;exact h
theorem pF {e:TypeId} {p:Nat→Bool}:∀ {l:List (DataW H)},(DataW.weightsAll P e l).all p=true→∀ d∈l,(d.weights P e).all p=true
  | [],_,d,h=>by simp at h
  | x::r,hw,d,h=>by
    simp only [DataW.weightsAll] at hw
    obtain ⟨h1,h2⟩:=xg hw
    rcases List.mem_cons.1 h with rfl | h
    · exact h1
    · exact pF h2 d h
theorem Jw {b o:Nat} {v:Value} (h:w.cell? ⟨b,o,none⟩=some v):o<eH w b:=by
  unfold World.cell? at h
  unfold eH
  simp only at h
  split at h
  · rename_i c _ _ hc
    rw [hc]
    simp only [Option.isSome_none,Bool.false_eq_true,if_false] at h
    exact (Array.getElem?_eq_some_iff.1 h).1
  · cases h
theorem Fy {α:Type} {n:Nat} {p:Nat→α→Prop} (h:∀ i,i<n→∃ y,p i y):∃ l:List α,l.length=n∧∀ i (hi:i<l.length),p i l[i]:=by
  induction n with
  | zero=>exact ⟨[],rfl,fun i hi=>by simp at hi⟩
  | succ n ih=>
    obtain ⟨l,h1,h2⟩:=ih fun i hi=>h i (by omega)
    obtain ⟨y,hy⟩:=h n (by omega)
    refine ⟨l++[y],by simp [h1],fun i hi=>?_⟩
    by_cases hl:i<l.length
    · rw [List.getElem_append_left hl];exact h2 i hl
    · have:i=n:=by simp at hi;omega
      subst this
      rw [List.getElem_append_right (by omega)]
      simpa using hy
theorem yY:∀ (n:Nat) (t:TypeId) (ty:Ty) (fuel:Nat) (cs:List Value) (x:DataW H×List MemPlace),wR P n t ty=true→DataW.trod en P w 0 spare held fuel t cs=some x →
    (x.1.weights P t).all (·≤reachBytes)=true→cs.length=ty.nc∧∃ y:ty.den,iM w (eH w) ty y (fun j=>cs.getD j undef) 0
  | 0,_,_,_,_,_,h,_,_=>by cases h
  | n+1,t,ty,fuel,cs,x,hc,ht,hw=>by
    unfold wR at hc
    split at hc
    · rename_i k k' hu
      obtain rfl:=dX hc
      obtain ⟨m,rfl,rfl,hwf⟩:=DataW.trod_int hu ht
      refine ⟨rfl,m,rfl,?_⟩
      simp only [Lit.wf,Bool.and_eq_true,decide_eq_true_eq] at hwf
      exact hwf
    · rename_i hu
      obtain ⟨b,rfl,rfl⟩:=DataW.trod_bool hu ht
      exact ⟨rfl,b,rfl⟩
    · rename_i hu
      obtain ⟨s,rfl,rfl,hs⟩:=DataW.trod_string hu ht
      refine ⟨rfl,jq s,s,rfl,rfl,?_⟩
      have:(jq s).length=s.size:=by simp only [jq,List.length_map,Array.length_toList];rfl
      rw [this]
      exact hs
    · rename_i e a hu
      simp only [Bool.and_eq_true] at hc
      obtain ⟨⟨⟨c1,c2⟩,c3⟩,c4⟩:=hc
      have c2:=Nat.eq_of_beq_eq_true c2
      have c3:=Nat.eq_of_beq_eq_true c3
      have c4:0<a.nc:=by rwa [Nat.blt_eq] at c4
      rcases DataW.trod_slice hu ht with ⟨rfl,rfl⟩ | ⟨ad,len,cap,elems,rest,m,rfl,rfl,rfl,_,hlc,_,hel,hread,_,_⟩
      · refine ⟨rfl,([]:List a.den),none,0,0,rfl,rfl,by rw [Nat.zero_mul];exact Nat.zero_le _,Nat.le_refl _,.inl rfl⟩
      · simp only [DataW.weights,hu] at hw
        rw [List.all_cons,Bool.and_eq_true] at hw
        have hbig:len*a.mE≤big:=by
          have h1:=of_decide_eq_true hw.1
          rw [c3] at h1
          simp only [List.length_map] at h1
          have:len*a.mE≤(elems.length+rest.length)*a.mE:=Nat.mul_le_mul_right _ (by omega)
          have:reachBytes≤big:=by decide
          omega
        have hwe:=(xg hw.2).1
        -- each element
        have each:∀ i,i<len→∃ y:a.den,ad.spot=none∧bX w (eH w) a y ad.block (ad.off+i*a.nc)∧ad.off+(i+1)*a.nc≤eH w ad.block:=by
          intro i hi
          have hr:=hread i hi
          rw [List.getElem?_eq_getElem (by omega),Option.bind_eq_some_iff] at hr
          obtain ⟨cs',h1,h2⟩:=hr
          have hwi:((elems[i]'(by omega)).1.weights P e).all (·≤reachBytes)=true:=pF hwe _ (List.mem_map.2 ⟨_,List.getElem_mem _,rfl⟩)
          obtain ⟨l1,y,hy⟩:=yY n e a m cs' _ c1 h2 hwi
          have hcell:∀ j,j<a.nc→w.cell? ((ad.add (i*P.cellsOf e)).add j)=some (cs'.getD j undef):=by
            intro j hj
            obtain ⟨_,_,h3⟩:=World.cells?_some h1
            have:=h3 j (by omega)
            rw [this]
            simp [List.getD,show j<cs'.length by omega]
          have hspot:ad.spot=none:=by
            have hr0:=hread 0 (by omega)
            rw [List.getElem?_eq_getElem (by omega),Option.bind_eq_some_iff] at hr0
            obtain ⟨cs0,k1,_⟩:=hr0
            obtain ⟨_,k2,k3⟩:=World.cells?_some k1
            have k4:=k3 0 (by omega)
            rw [Nat.zero_mul] at k4
            have k5:Addr.add (Addr.add ad 0) 0=ad:=rfl
            rw [k5,List.getElem?_eq_getElem (by omega)] at k4
            unfold World.cell? at k4
            split at k4
            · cases hs:ad.spot with
              | none=>rfl
              | some z=>rw [hs] at k4;simp at k4
            · cases k4
          obtain ⟨ab,ao,asp⟩:=ad
          simp only at hspot
          subst hspot
          have hadd:∀ j,(Addr.add (Addr.add ⟨ab,ao,none⟩ (i*P.cellsOf e)) j)=⟨ab,ao+i*a.nc+j,none⟩:=by
            intro j
            rw [c2]
            unfold Addr.add
            split<;>split<;>simp_all<;>omega
          refine ⟨y,rfl,?_,?_⟩
          · refine hy.mem fun j hj=>?_
            have:=hcell j hj
            rw [hadd] at this
            rw [this,Nat.zero_add]
          · have:=hcell (a.nc - 1) (by omega)
            rw [hadd] at this
            have:=Jw this
            have e:(i+1)*a.nc=i*a.nc+a.nc:=Nat.succ_mul i a.nc
            simp only
            omega
        obtain ⟨l,hl,hall⟩:=Fy each
        refine ⟨rfl,l,some ad,len,cap,rfl,hl.symm,hbig,hlc,?_⟩
        by_cases h0:len=0
        · left
          exact List.length_eq_zero_iff.1 (by omega)
        · right
          have hsp:=(hall 0 (by omega)).1
          obtain ⟨ab,ao,asp⟩:=ad
          simp only at hsp
          subst hsp
          refine ⟨ab,ao,rfl,?_,fun i hi=>(hall i hi).2.1⟩
          have:=(hall (len - 1) (by omega)).2.2
          rw [show len - 1+1=len by omega] at this
          exact this
    · rename_i fs b c hu
      simp only [Bool.and_eq_true] at hc
      obtain ⟨c1,c2⟩:=hc
      have c2:=Nat.eq_of_beq_eq_true c2
      obtain ⟨xs,m,rfl,rfl,hlen,hxl,hread⟩:=DataW.trod_struct hu ht
      simp only [DataW.weights,hu] at hw
      refine ⟨by rw [hlen,c2];rfl,?_⟩
      -- the fields
      have fields:∀ (fl:List Field) (off:Nat) (c:Ty) (ys:List (DataW H×List MemPlace)),RI (wR P n) P fl off c=true→fl.length=ys.length →
          (∀ (i:Nat) (f:Field),fl[i]? = some f→DataW.trod en P w 0 spare held m f.type ((cs.drop f.offset).take (P.cellsOf f.type))=ys[i]?) →
          (DataW.weightsEach P (fl.map (·.type)) (ys.map (·.1))).all (·≤reachBytes)=true→∃ y:c.den,iM w (eH w) c y (fun j=>cs.getD j undef) off:=by
        intro fl
        induction fl with
        | nil=>
          intro off c ys h1 _ _ _
          cases c with
          | unit=>exact ⟨(),trivial⟩
          | _=>cases h1
        | cons f r ih=>
          intro off c ys h1 h2 h3 h4
          cases c with
          | cons a b=>
            simp only [RI,Bool.and_eq_true] at h1
            obtain ⟨⟨⟨g1,g2⟩,g3⟩,g4⟩:=h1
            have g2:=Nat.eq_of_beq_eq_true g2
            have g3:=Nat.eq_of_beq_eq_true g3
            cases ys with
            | nil=>simp at h2
            | cons y0 yr=>
              simp only [List.map_cons,DataW.weightsEach] at h4
              obtain ⟨h4a,h4b⟩:=xg h4
              have k0:=h3 0 f rfl
              obtain ⟨l1,y,hy⟩:=yY n f.type a m _ y0 g1 k0 h4a
              obtain ⟨z,hz⟩:=ih (off+a.nc) b yr g4 (by simpa using h2) (fun i f' hf'=>by simpa using h3 (i+1) f' (by simpa using hf')) h4b
              refine ⟨(y,z),hy.shift fun j hj=>?_,hz⟩
              rw [←g2,Nat.zero_add,g3]
              simp only [List.getD]
              rw [List.getElem?_take_of_lt hj,List.getElem?_drop]
          | _=>cases h1
      have:=fields fs.toList 0 c xs c1 (by simpa using hxl.symm) (fun i f hf=>hread i f (by simpa using hf)) hw
      exact this
    · cases hc
end
end Go.aW
namespace Go.aW
def Hy:Ty→List Lf
  | .int k=>[.int k]
  | .bool=>[.bool]
  | .str=>[.str]
  | .sl t=>[.sl 0 t]
  | .unit=>[]
  | .cons a b=>Hy a++Hy b
  | .st _ c=>Hy c
  | .fO f t=>[.fO f t]
def rQ:Ty→Sh
  | .int k=>.lf (.int k)
  | .bool=>.lf .bool
  | .str=>.lf .str
  | .sl t=>.lf (.sl 0 t)
  | .st _ c=>.agg (Hy c)
  | _=>.agg []
theorem BM:∀ (a b:List Lf) (x:(eD a).den) (y:(eD b).den),∃ z:(eD (a++b)).den,aL (a++b) z=aL a x++aL b y
  | [],_,_,y=>⟨y,rfl⟩
  | l::r,b,x,y=>by
    obtain ⟨z,hz⟩:=BM r b x.2 y
    exact ⟨(x.1,z),by simp only [List.cons_append,aL,hz]⟩
theorem xk:∀ (c:Ty) (y:c.den),∃ z:(eD (Hy c)).den,aL (Hy c) z=enc c y
  | .int k,y=>⟨(y,()),rfl⟩
  | .bool,y=>⟨(y,()),rfl⟩
  | .str,y=>⟨(y,()),rfl⟩
  | .sl t,y=>⟨(y,()),rfl⟩
  | .unit,_=>⟨(),rfl⟩
  | .cons a b,y=>by
    obtain ⟨z1,h1⟩:=xk a y.1
    obtain ⟨z2,h2⟩:=xk b y.2
    obtain ⟨z,h⟩:=BM (Hy a) (Hy b) z1 z2
    exact ⟨z,by show aL (Hy a++Hy b) z=enc a y.1++enc b y.2;rw [h,h1,h2]⟩
  | .st _ c,y=>xk c y
  | .fO f t,y=>⟨(y,()),rfl⟩
section
variable {H:Type} {en:TypeId×Value→H} {P:Program} {w:World} {spare:Nat→Bool} {held:Bool} {pt:Nat→Nat→Option Value}
theorem xq {ty:Ty} {y:ty.den} {v:Value} {d:D} (h:iM w (eH w) ty y (fun j=>#[v].toList.getD j undef) 0) (he:enc ty y=[d]):bI w (eH w) pt d v:=by
  have:=(h.leaf (pt:=pt) 0 (by rw [he];simp)).1
  simp only [he] at this
  exact this
theorem K4 {n:Nat} {t:TypeId} {ty:Ty} {v:Value} {d:DataW H} {p:List MemPlace} {base:Nat} (hc:wR P n t ty=true) (hok:Value.okWide P w .any base t v)
    (ht:DataW.Trod en P w 0 spare held t v d p) (hw:(d.weights P t).all (·≤reachBytes)=true):∃ x:(rQ ty).ty.den,aY w (eH w) pt ((rQ ty).con x) v:=by
  obtain ⟨fuel,ht⟩:=ht
  obtain ⟨hl,y,hy⟩:=yY n t ty fuel _ _ hc ht hw
  cases n with
  | zero=>cases hc
  | succ n=>
    unfold wR at hc
    split at hc
    · rename_i k k' hu
      obtain ⟨m,rfl⟩:=WideShapes.okWide_int hu hok
      exact ⟨y,xq (pt:=pt) hy rfl⟩
    · rename_i hu
      obtain ⟨m,rfl⟩:=WideShapes.okWide_bool hu hok
      exact ⟨y,xq (pt:=pt) hy rfl⟩
    · rename_i hu
      obtain ⟨m,rfl⟩:=WideShapes.okWide_string hu hok
      exact ⟨y,xq (pt:=pt) hy rfl⟩
    · rename_i e a hu
      obtain ⟨ad,len,cap,rfl⟩:=WideShapes.okWide_slice hu hok
      exact ⟨y,xq (pt:=pt) hy rfl⟩
    · rename_i fs b c hu
      obtain ⟨arr,rfl,hsz⟩:=WideShapes.okWide_struct hu hok
      obtain ⟨z,hz⟩:=xk c y
      refine ⟨z,?_⟩
      refine ⟨arr,rfl,?_,?_⟩
      · show arr.size=(aL (Hy c) z).length
        rw [hz,iJ]
        simpa [Value.cells,Ty.nc] using hl
      · show aQ w (eH w) pt (aL (Hy c) z) (aO arr)
        rw [hz]
        intro j hj
        have:=hy.leaf (pt:=pt) j hj
        have e:(Value.agg arr).cells.toList.getD (0+j) undef=aO arr j:=by
          rw [Nat.zero_add]
          simp [Value.cells,aO,List.getD,Array.getD_eq_getD_getElem?]
        simp only [e] at this
        exact this
    · cases hc
def Jy (P:Program) (n:Nat):List TypeId→List Ty→Bool
  | [],[]=>true
  | t::ts,y::ys=>wR P n t y&&Jy P n ts ys
  | _,_=>false
theorem Fz:∀ {ts:List TypeId} {tys:List Ty} {vs:List Value} {ds:List (DataW H)} {p:List MemPlace} {base:Nat} {n:Nat},Jy P n ts tys=true →
    DataW.TrodAll en P w 0 spare held ts vs ds p→(∀ (j:Nat) (t:TypeId) (v:Value),ts[j]? = some t→vs[j]? = some v→Value.okWide P w .any base t v)→(DataW.weightsEach P ts ds).all (·≤reachBytes)=true →
    vs.length=tys.length∧ds.length=tys.length∧∃ x:(iT (tys.map rQ)).den,∀ i,i<tys.length→aY w (eH w) pt ((bP (tys.map rQ) x).getD i .undef) (vs.getD i undef)
  | [],[],vs,ds,p,base,n,_,h,_,_=>by
    cases vs with
    | nil=>
      cases ds with
      | nil=>exact ⟨rfl,rfl,(),fun i hi=>by simp at hi⟩
      | cons d r=>simp [DataW.TrodAll] at h
    | cons v r=>simp [DataW.TrodAll] at h
  | [],_::_,_,_,_,_,_,h,_,_,_=>by cases h
  | _::_,[],_,_,_,_,_,h,_,_,_=>by cases h
  | t::ts,ty::tys,vs,ds,p,base,n,hc,h,hok,hw=>by
    simp only [Jy,Bool.and_eq_true] at hc
    cases vs with
    | nil=>simp [DataW.TrodAll] at h
    | cons v vs=>
      cases ds with
      | nil=>simp [DataW.TrodAll] at h
      | cons d ds=>
        simp only [DataW.TrodAll] at h
        obtain ⟨p1,q1,h1,h2,_⟩:=h
        simp only [DataW.weightsEach] at hw
        obtain ⟨w1,w2⟩:=xg hw
        obtain ⟨x,hx⟩:=K4 (pt:=pt) hc.1 (hok 0 t v rfl rfl) h1 w1
        obtain ⟨hlen,IX,z,hz⟩:=Fz hc.2 h2 (fun j t' v' hj hv=>hok (j+1) t' v' (by simpa using hj) (by simpa using hv)) w2
        refine ⟨by simp [hlen],by simp [IX],(x,z),fun i hi=>?_⟩
        cases i with
        | zero=>exact hx
        | succ i=>exact hz i (by simpa using hi)
end
mutual
def flat {H:Type}:DataW H→List Int
  | .lit (.int _ n)=>[n]
  | .agg parts=>Jz parts
  | _=>[]
def Jz {H:Type}:List (DataW H)→List Int
  | []=>[]
  | d::r=>flat d++Jz r
end
theorem yZ {H:Type}:∀ (l:List (DataW H)),Jz l=l.flatMap flat
  | []=>rfl
  | d::r=>by simp only [Jz,List.flatMap_cons,yZ r]
def FB (P:Program) (k:IntKind):Nat→TypeId→Bool
  | 0,_=>false
  | n+1,t=>match P.underlying t with
    | some (.int k')=>iO k' k
    | some (.array len e)=>FB P k n e&&Nat.beq (P.cellsOf t) (len*P.cellsOf e)
    | some (.struct fs)=>Nat.beq (P.cellsOf t) fs.size&&(List.range fs.size).all fun i=>match fs[i]? with
      | some f=>FB P k n f.type&&Nat.beq f.offset i&&Nat.beq (P.cellsOf f.type) 1
      | none=>false
    | _=>false
theorem chunks {α β:Type} {g:β→List α} {c:Nat}:∀ {n:Nat} {cs:List α} {xs:List β},cs.length=n*c→xs.length=n→(∀ i (h:i<xs.length),(cs.drop (i*c)).take c=g xs[i])→cs=xs.flatMap g
  | 0,cs,xs,h1,h2,_=>by
    rw [Nat.zero_mul] at h1
    rw [List.length_eq_zero_iff.1 h1,List.length_eq_zero_iff.1 h2];rfl
  | n+1,cs,xs,h1,h2,h3=>by
    cases xs with
    | nil=>simp at h2
    | cons x xr=>
      have h0:=h3 0 (by simp)
      rw [Nat.zero_mul,List.drop_zero] at h0
      have hr:cs.drop c=xr.flatMap g:=by
        refine chunks (n:=n) (c:=c) (by rw [List.length_drop,h1,Nat.succ_mul];omega) (by simpa using h2) fun i hi=>?_
        have:=h3 (i+1) (by simpa using hi)
        rw [List.drop_drop,show c+i*c=(i+1)*c by rw [Nat.succ_mul];omega]
        simpa using this
      have h0':g x=cs.take c:=h0.symm
      rw [List.flatMap_cons,←hr,h0']
      exact (List.take_append_drop c cs).symm
section
variable {H:Type} {en:TypeId×Value→H} {P:Program} {w:World} {spare:Nat→Bool} {held:Bool} {base:Nat}
theorem vT {k:IntKind}:∀ (n:Nat) (t:TypeId) (fuel:Nat) (cs:List Value) (x:DataW H×List MemPlace),FB P k n t=true→DataW.trod en P w base spare held fuel t cs=some x →
    cs=(flat x.1).map (Value.int k)∧∀ m∈flat x.1,k.has m
  | 0,_,_,_,_,h,_=>by cases h
  | n+1,t,fuel,cs,x,hc,ht=>by
    unfold FB at hc
    split at hc
    · rename_i k' hu
      obtain rfl:=dX hc
      obtain ⟨m,rfl,rfl,hwf⟩:=DataW.trod_int hu ht
      refine ⟨rfl,fun i hi=>?_⟩
      simp only [flat,List.mem_cons,List.not_mem_nil,or_false] at hi
      subst hi
      simp only [Lit.wf,Bool.and_eq_true,decide_eq_true_eq] at hwf
      exact hwf
    · rename_i len e hu
      simp only [Bool.and_eq_true] at hc
      obtain ⟨c1,c2⟩:=hc
      have c2:=Nat.eq_of_beq_eq_true c2
      obtain ⟨xs,m,rfl,rfl,hl,hxl,hread⟩:=DataW.trod_array hu ht
      have each:∀ i (h:i<xs.length),(cs.drop (i*P.cellsOf e)).take (P.cellsOf e)=(flat xs[i].1).map (Value.int k)∧∀ m∈flat xs[i].1,k.has m:=by
        intro i hi
        have:=hread i (by omega)
        rw [List.getElem?_eq_getElem hi] at this
        exact vT n e m _ _ c1 this
      simp only [flat,yZ]
      constructor
      · have:=chunks (g:=fun (x:DataW H×List MemPlace)=>(flat x.1).map (Value.int k)) (c:=P.cellsOf e) (n:=len) (cs:=cs) (xs:=xs) (by rw [hl,c2]) hxl (fun i hi=>(each i hi).1)
        rw [this,List.flatMap_map,List.map_flatMap]
      · intro m hm
        rw [List.flatMap_map,List.mem_flatMap] at hm
        obtain ⟨y,hy,hm⟩:=hm
        obtain ⟨i,hi,rfl⟩:=List.getElem_of_mem hy
        exact (each i hi).2 m hm
    · rename_i fs hu
      simp only [Bool.and_eq_true] at hc
      obtain ⟨c1,c2⟩:=hc
      have c1:=Nat.eq_of_beq_eq_true c1
      obtain ⟨xs,m,rfl,rfl,hl,hxl,hread⟩:=DataW.trod_struct hu ht
      have each:∀ i (h:i<xs.length),(cs.drop (i*1)).take 1=(flat xs[i].1).map (Value.int k)∧∀ m∈flat xs[i].1,k.has m:=by
        intro i hi
        have hif:i<fs.size:=by omega
        have hci:=List.all_eq_true.1 c2 i (List.mem_range.2 hif)
        rw [Array.getElem?_eq_getElem hif] at hci
        simp only [Bool.and_eq_true] at hci
        have o1:=Nat.eq_of_beq_eq_true hci.1.2
        have o2:=Nat.eq_of_beq_eq_true hci.2
        have:=hread i fs[i] (Array.getElem?_eq_getElem hif)
        rw [List.getElem?_eq_getElem hi,o1,o2] at this
        rw [Nat.mul_one]
        exact vT n _ m _ _ hci.1.1 this
      simp only [flat,yZ]
      constructor
      · have:=chunks (g:=fun (x:DataW H×List MemPlace)=>(flat x.1).map (Value.int k)) (c:=1) (n:=fs.size) (cs:=cs) (xs:=xs) (by rw [hl,c1,Nat.mul_one]) hxl (fun i hi=>(each i hi).1)
        rw [this,List.flatMap_map,List.map_flatMap]
      · intro m hm
        rw [List.flatMap_map,List.mem_flatMap] at hm
        obtain ⟨y,hy,hm⟩:=hm
        obtain ⟨i,hi,rfl⟩:=List.getElem_of_mem hy
        exact (each i hi).2 m hm
    · cases hc
end
theorem K5 {P:Program} {W:World} {name:String} {d:DataW Unit} {rest:List (String×DataW Unit)} {ps:List MemPlace} {k:IntKind} {n:Nat} {g:Nat} {t:TypeId} (h:DataW.LaidVars P W ((name,d)::rest) ps)
    (hg:P.globalNamed name=some g) (ht:(P.globals[g]?).map (·.type)=some t) (hc:FB P k n t=true) :
    (flat d).length≤eH W g∧∀ j (hj:j<(flat d).length),W.cell? ⟨g,j,none⟩=some (.int k (flat d)[j])∧k.has (flat d)[j]:=by
  obtain ⟨g',t',cs,fuel,p,q,hg',ht',hvar,hd,_,_⟩:=h
  obtain rfl:=Option.some.inj (hg.symm.trans hg')
  obtain rfl:=Option.some.inj (ht.symm.trans ht')
  obtain ⟨h1,h2⟩:=vT n t fuel _ _ hc hd
  have hcell:∀ j (hj:j<(flat d).length),W.cell? ⟨g,j,none⟩=some (.int k (flat d)[j]):=by
    intro j hj
    rw [World.var?_cell hg hvar j,←Array.getElem?_toList,h1]
    simp [hj]
  refine ⟨?_,fun j hj=>⟨hcell j hj,h2 _ (List.getElem_mem hj)⟩⟩
  by_cases h0:(flat d).length=0
  · omega
  · have:=Jw (hcell ((flat d).length - 1) (by omega))
    omega
theorem xu:∀ c:Ty,(Hy c).all jX=true
  | .int _=>rfl
  | .bool=>rfl
  | .str=>rfl
  | .sl _=>rfl
  | .unit=>rfl
  | .cons a b=>by
    simp only [Hy,List.all_append,xu a,xu b,Bool.and_self]
  | .st _ c=>by
    simp only [Hy]
    exact xu c
  | .fO _ _=>rfl
theorem Hz (t:Ty):qR (rQ t)=true:=by
  cases t<;>first | rfl | exact xu _
theorem FC (l:List Ty):(l.map rQ).all qR=true:=by
  simp only [List.all_eq_true,List.mem_map]
  rintro _ ⟨t,_,rfl⟩
  exact Hz t
def iI (ps:List Sh):aR:={ aG:=false,pre:=[],ps:=ps,rs:=.one (.lf .bool),post:=[],F:=fun _=>some (true,()) }
theorem K6 {P:Program} {E:Env} {f:Nat} {ps:List Sh} (H:aj P E f (iI ps)) (o2:ps.all qR=true) {W:World} {args:Array Value} (hsz:args.size=ps.length) {x:(iT ps).den}
    (hargs:∀ i,i<ps.length→aY W (eH W) (fun _ _=>none) ((bP ps x).getD i .undef) (args.toList.getD i undef))
    (hgl:∀ g k l,E.glob g=some (k,l)→l.length≤eH W g∧∀ j (h:j<l.length),W.cell? ⟨g,j,none⟩=some (.int k l[j])∧k.has l[j]) :
    Calls P f args W fun e W'=>e = .returned (.bool true)∧RowKit.Below W.heap.size W W':=by
  have hok:=H.ok
  simp only [aR.ok,Bool.and_eq_true,iI] at hok
  have yP:(iI ps).num=ps.length:=by simp [aR.num,iI]
  have gE:∀ k,get (bg (iI ps) ((),x)) k=get (iN 0 (bP ps x)++[]) k:=by
    intro k
    unfold bg
    simp only [iI,cond_false,jh,List.append_nil]
  have hl:=fK ps x
  have Av:∀ t,get (bg (iI ps) ((),x)) (2*t)=if t<ps.length then (bP ps x).getD t .undef else .undef:=by
    intro t
    rw [gE,fq]
    have e1:2*t%2=0:=by omega
    have e2:2*t / 2=t:=by omega
    simp only [e1,e2,hl,Nat.zero_le,Nat.zero_add,true_and,Nat.sub_zero]
    by_cases h:t<ps.length
    · rw [if_pos h,if_pos h]
    · rw [if_neg h,if_neg h];rfl
  have rJ:∀ i,get (bg (iI ps) ((),x)) (2*i+1) = .undef:=by
    intro i
    rw [gE,fq,if_neg (by omega)]
    rfl
  let C:Ctx:={ m:=2,w0:=W,G0:=eH W,X:=fun _=>False,pin:=none }
  have tz:∀ b,TC (mZ E (iI ps).num false).n C.m (bg (iI ps) ((),x)) { tmps:=args,defers:=[] } W (fun _ _=>none) b=0:=by
    intro b
    unfold TC
    have e1:bK (mZ E (iI ps).num false).n (cT (bg (iI ps) ((),x)) { tmps:=args,defers:=[] } b)=0:=by
      refine jl fun t _=>?_
      simp only [cT]
      rw [Av]
      by_cases h:t<ps.length
      · rw [if_pos h]
        obtain ⟨p,y,h1,h2⟩:=lZ ps x t h
        rw [h2]
        exact yQ (List.all_eq_true.1 o2 p h1) y b _
      · rw [if_neg h];exact dG b _
    have e2:bK C.m (cB (bg (iI ps) ((),x)) W (fun _ _=>none) b)=0:=by
      refine jl fun i _=>?_
      simp only [cB]
      rw [rJ];rfl
    rw [e1,e2]
  have R:Rel (mZ E (iI ps).num false) C (bg (iI ps) ((),x)) { tmps:=args,defers:=[] } W (eH W) (fun _ _=>none):=by
    refine ⟨by simp [mZ,yP,hsz],rfl,fun t=>?_,fun i=>?_,fun t ht=>?_,fun i _=>rJ i,fun b=>by rw [tz];exact Nat.zero_le _,fun b hb=>by rw [tz] at hb;omega,fun b _ _=>⟨rfl,rfl⟩,Ext.refl _ _,fun b hb=>?_,
      rfl,rfl,rfl,Nat.le_refl _,fun _ _ _=>rfl,hgl,fun v hv=>by cases hv⟩
    · rw [Av]
      by_cases h:t<ps.length
      · rw [if_pos h]
        have:=hargs t h
        have e:args.toList.getD t undef=args.getD t undef:=by simp [List.getD,Array.getD_eq_getD_getElem?]
        rw [e] at this
        exact this
      · rw [if_neg h];trivial
    · rw [rJ];trivial
    · have:ps.length≤t:=by simpa [mZ,yP] using ht
      rw [Av,if_neg (by omega)]
    · unfold eH
      rw [Array.getElem?_eq_none hb]
  refine H.sem rfl ((),x) (true,()) rfl C args W (eH W) (fun _ _=>none) rfl (.inl rfl) (by rw [yP];exact hsz) R _ (fun vs w' G' bJ R2=>?_)
  have hvs:vs.size=1:=R2.sz
  have hv:=R2.tm 0
  have hg:get (fU (iI ps) (true,())) (2*0) = .bool true:=rfl
  rw [hg] at hv
  have hv:vs.getD 0 undef = .bool true:=hv
  refine ⟨by rw [nY hvs,hv],⟨R2.os,R2.tape,R2.out,R2.hs,fun k hk=>(R2.fr k hk (fun h=>h)).1⟩⟩
end Go.aW
namespace Go.aW
open Go.RowKit Go.ChangeShapes Go.WideShapes
theorem qV {H:Type} {enc:TypeId×Value→H} {P:Program} {W W':World} (hl:laidOutB P=true) (hb:Below W.heap.size W W'):∀ {ts:List TypeId} {vs:List Value} {ds:List (DataW H)} {p:List MemPlace},
    (∀ t∈ts,P.readableRec t=true∧t<P.types.size)→DataW.TrodAll enc P W 0 (fun _=>true) true ts vs ds p→(∀ x∈p,x.block<W.heap.size) →
    DataW.TrodAll enc P W' 0 (fun b=>decide (b<W.heap.size)) true ts vs ds p
  | [],[],[],p,_,h,_=>h
  | [],[],_::_,_,_,h,_=>by simp [DataW.TrodAll] at h
  | [],_::_,_,_,_,h,_=>by simp [DataW.TrodAll] at h
  | _::_,[],_,_,_,h,_=>by simp [DataW.TrodAll] at h
  | _::_,_::_,[],_,_,h,_=>by simp [DataW.TrodAll] at h
  | t::ts,v::vs,d::ds,p,hr,h,hlt=>by
    simp only [DataW.TrodAll] at h ⊢
    obtain ⟨p1,q1,h1,h2,rfl⟩:=h
    exact ⟨p1,q1,Below.trod hl (hr t (by simp)).1 (hr t (by simp)).2 h1 hb (fun x hx=>hlt x (List.mem_append.2 (.inl hx))),
      qV hl hb (fun t' ht=>hr t' (List.mem_cons_of_mem _ ht)) h2 (fun x hx=>hlt x (List.mem_append.2 (.inr hx))),rfl⟩
theorem NQ {H:Type} {enc:TypeId×Value→H} {P:Program} {f:Func} {s:ChangeSpec} {apart fresh handsOn:Bool} {W W':World} {args:Array Value} {ds gs:List (DataW H)} {before:List MemPlace} {tb:TypeId}
    (hl:laidOutB P=true) (hr:(f.params.toList.all fun t=>P.readableRec t&&Nat.blt t P.types.size)=true) (hs:s.vars=[]) (hW:DataW.Whole enc P f.params.toList s.vars apart W args.toList ds gs before) (hres:f.resultTypes = #[tb]) (htb:P.underlying tb=some .bool)
    (hfn:s.fn H ds={ results:=[.lit (.bool true)],args:=ds }) (hb:Below W.heap.size W W'):s.post enc P f apart fresh handsOn false W args (.bool true) W':=by
  have hlt:=hW.lt
  have hW':=hW
  obtain ⟨p,q,hA,hV,rfl,hfz,hnd⟩:=hW
  rw [hs] at hV
  obtain ⟨rfl,rfl⟩:=trodVars_none hV
  refine ⟨ds,[],_,[],p,[],hW',?_,?_,?_,hb.frame _,fun h=>by cases h⟩
  · rw [List.append_nil,hfn,hres]
    exact trodAll_mk1 (shut_bool htb true)
  · rw [List.append_nil,hfn]
    exact qV hl hb (fun t ht=>by
      have:=List.all_eq_true.1 hr t ht
      rw [Bool.and_eq_true,Nat.blt_eq] at this
      exact this) hA fun x hx=>hlt x (by simpa using hx)
  · rw [List.append_nil,hfn,hs]
    rfl
theorem RL {H:Type} {enc:TypeId×Value→H} {P:Program} {E:Env} {fid:Nat} {f:Func} {s:ChangeSpec} {apart fresh handsOn:Bool} {W:World} {base:Nat} {args:Array Value} {ds gs:List (DataW H)} {before:List MemPlace} {tb:TypeId} {ps:List Sh} (n:Nat) (tys:List Ty)
    (Hf:aj P E fid (iI ps)) (hps:ps=tys.map rQ) (hl:laidOutB P=true) (hr:(f.params.toList.all fun t=>P.readableRec t&&Nat.blt t P.types.size)=true) (hty:Jy P n f.params.toList tys=true)
    (hs:s.vars=[]) (hres:f.resultTypes = #[tb]) (htb:P.underlying tb=some .bool) (hfn:∀ ds:List (DataW H),ds.length=tys.length→s.fn H ds={ results:=[.lit (.bool true)],args:=ds })
    (hgl:∀ g k l,E.glob g=some (k,l)→l.length≤eH W g∧∀ j (h:j<l.length),W.cell? ⟨g,j,none⟩=some (.int k l[j])∧k.has l[j])
    (hval:∀ (j:Nat) (t:TypeId) (v:Value),f.params[j]? = some t→args[j]? = some v→Value.okWide P W .any base t v) (hW:DataW.Whole enc P f.params.toList s.vars apart W args.toList ds gs before)
    (hwt:(DataW.weightsEach P (f.params.toList++s.plain.varTypes P) (ds++gs)).all (·≤reachBytes)=true):Calls P fid args W fun e W'=>∃ v,e = .returned v∧s.post enc P f apart fresh handsOn false W args v W':=by
  have hW':=hW
  obtain ⟨p,q,hA,hV,hbf,hfz,hnd⟩:=hW
  have hV':=hV
  rw [hs] at hV'
  obtain ⟨rfl,rfl⟩:=trodVars_none hV'
  have hvt:s.plain.varTypes P=[]:=by simp [ChangeSpec.plain,DataSpec.varTypes,hs]
  rw [hvt,List.append_nil,List.append_nil] at hwt
  obtain ⟨hlen,IX,x,hx⟩:=Fz (pt:=fun _ _=>none) hty hA (fun j t v h1 h2=>hval j t v (by simpa using h1) (by simpa using h2)) hwt
  subst hps
  refine (K6 Hf (FC _) (by rw [List.length_map,←hlen];simp) (x:=x) (fun i hi=>hx i (by simpa using hi)) hgl).mono fun e W' he=>?_
  obtain ⟨he,hb⟩:=he
  exact ⟨_,he,NQ hl hr hs hW' hres htb (hfn ds IX) hb⟩
end Go.aW
namespace Go.aW
open Go.RowKit
section
variable {P:Program} {E E':Env} {C:Ctx} {s s':St} {a:Act} {w w':World} {G:Nat→Nat} {pt:Nat→Nat→Option Value}
theorem Rel.below {E1:Env} {w0:World} {G0:Nat→Nat} (R:Rel E1 { m:=2,w0:=w0,G0:=G0,X:=fun _=>False,pin:=none } s a w G pt):Below w0.heap.size w0 w:=
  ⟨R.os,R.tape,R.out,R.hs,fun k hk=>(R.fr k hk (fun h=>h)).1⟩
theorem Rel.done (R:Rel E C s a w G pt) (hb:Below w.heap.size w w') (hs:∀ id,get s (2*id+1) = .undef) {n:Nat} {vs:Array Value} (hsz:vs.size=n)
    (hrep:∀ t,aY w' G pt (get s' (2*t)) (vs.getD t undef)) (hz:∀ t b,cO b (get s' (2*t)) (vs.getD t undef)=0)
    (hbx:∀ id,get s' (2*id+1) = .undef) (hhi:∀ t,n≤t→get s' (2*t) = .undef) (hg:E'.glob=E.glob) (hn:E'.n=n) :
    Rel E' C s' { tmps:=vs,defers:=[] } w' G pt:=by
  have htc:∀ b,TC E'.n C.m s' { tmps:=vs,defers:=[] } w' pt b=0:=fun b=>by
    unfold TC
    rw [jl fun i _=>by rw [cT];exact hz i b,jl fun i _=>by rw [cB,hbx];rfl]
  have hc:∀ b o,o<G b→w'.cell? ⟨b,o,none⟩=w.cell? ⟨b,o,none⟩:=fun b o h=>by
    have hlt:b<w.heap.size:=by
      rcases Nat.lt_or_ge b w.heap.size with h1 | h1
      · exact h1
      · have:=R.gz b h1;omega
    exact cell_of_heap (hb.block b hlt) o
  refine ⟨by rw [hn];exact hsz,rfl,hrep,fun id=>by rw [hbx];trivial,fun t ht=>hhi t (by omega),fun id _=>hbx id,fun b=>by rw [htc b];omega,fun b h=>?_,fun b h1 h2=>?_,
    R.ex.trans ⟨hc,fun _=>Nat.le_refl _⟩,fun b h=>R.gz b (by have:=hb.size;omega),hb.os.trans R.os,hb.output.trans R.out,hb.tape.trans R.tape,Nat.le_trans R.hs hb.size,fun id st h=>?_,fun g k l h=>?_,R.pn⟩
  · rw [htc b] at h;omega
  · obtain ⟨h3,h4⟩:=R.fr b h1 h2
    exact ⟨(hb.block b (Nat.lt_of_lt_of_le h1 R.hs)).trans h3,h4⟩
  · refine R.pf id st ?_
    rw [hs]
    rw [hbx] at h
    exact h
  · rw [hg] at h
    obtain ⟨h1,h2⟩:=R.gl g k l h
    refine ⟨h1,fun j hj=>?_⟩
    rw [hc g j (by omega)]
    exact h2 j hj
end
end Go.aW
namespace Go.aW
open Go
def rR (ps:List Sh) (rs:RS) (F:(Ty.cons (eD []) (iT ps)).den→Option (Ty.cons rs.ty (eD [])).den):aR:={ aG:=false,pre:=[],ps:=ps,rs:=rs,post:=[],F:=F }
abbrev WU (W:World) (G:Nat→Nat):Ctx:={ m:=2,w0:=W,G0:=G,X:=fun _=>False,pin:=none }
theorem rT {P:Program} {E:Env} {f:Nat} {ps:List Sh} {rs:RS} {F:(Ty.cons (eD []) (iT ps)).den→Option (Ty.cons rs.ty (eD [])).den} (H:iL P E f (rR ps rs F)) (o2:ps.all qR=true) {W:World} {G:Nat→Nat}
    {args:Array Value} (hsz:args.size=ps.length) {x:(iT ps).den} {y:rs.ty.den} (hF:F ((),x)=some (y,()))
    (hargs:∀ i,i<ps.length→aY W G (fun _ _=>none) ((bP ps x).getD i .undef) (args.toList.getD i undef))
    (hgz:∀ b,W.heap.size≤b→G b=0)
    (hgl:∀ g k l,E.glob g=some (k,l)→l.length≤G g∧∀ j (h:j<l.length),W.cell? ⟨g,j,none⟩=some (.int k l[j])∧k.has l[j]) :
    Calls P f args W fun e W'=>∃ vs G' bJ,e = .returned (gG vs)∧Rel (mZ E rs.num false) (WU W G) (fU (rR ps rs F) (y,())) { tmps:=vs,defers:=[] } W' G' bJ:=by
  have yP:(rR ps rs F).num=ps.length:=by simp [aR.num,rR]
  have gE:∀ k,get (bg (rR ps rs F) ((),x)) k=get (iN 0 (bP ps x)++[]) k:=by
    intro k
    unfold bg
    simp only [rR,cond_false,jh,List.append_nil]
  have hl:=fK ps x
  have Av:∀ t,get (bg (rR ps rs F) ((),x)) (2*t)=if t<ps.length then (bP ps x).getD t .undef else .undef:=by
    intro t
    rw [gE,fq]
    have e1:2*t%2=0:=by omega
    have e2:2*t / 2=t:=by omega
    simp only [e1,e2,hl,Nat.zero_le,Nat.zero_add,true_and,Nat.sub_zero]
    by_cases h:t<ps.length
    · rw [if_pos h,if_pos h]
    · rw [if_neg h,if_neg h];rfl
  have rJ:∀ i,get (bg (rR ps rs F) ((),x)) (2*i+1) = .undef:=by
    intro i
    rw [gE,fq,if_neg (by omega)]
    rfl
  let C:Ctx:=WU W G
  have tz:∀ b,TC (mZ E (rR ps rs F).num false).n C.m (bg (rR ps rs F) ((),x)) { tmps:=args,defers:=[] } W (fun _ _=>none) b=0:=by
    intro b
    unfold TC
    have e1:bK (mZ E (rR ps rs F).num false).n (cT (bg (rR ps rs F) ((),x)) { tmps:=args,defers:=[] } b)=0:=by
      refine jl fun t _=>?_
      simp only [cT]
      rw [Av]
      by_cases h:t<ps.length
      · rw [if_pos h]
        obtain ⟨p,y,h1,h2⟩:=lZ ps x t h
        rw [h2]
        exact yQ (List.all_eq_true.1 o2 p h1) y b _
      · rw [if_neg h];exact dG b _
    have e2:bK C.m (cB (bg (rR ps rs F) ((),x)) W (fun _ _=>none) b)=0:=by
      refine jl fun i _=>?_
      simp only [cB]
      rw [rJ];rfl
    rw [e1,e2]
  have R:Rel (mZ E (rR ps rs F).num false) C (bg (rR ps rs F) ((),x)) { tmps:=args,defers:=[] } W G (fun _ _=>none):=by
    refine ⟨by simp [mZ,yP,hsz],rfl,fun t=>?_,fun i=>?_,fun t ht=>?_,fun i _=>rJ i,fun b=>by rw [tz];exact Nat.zero_le _,fun b hb=>by rw [tz] at hb;omega,fun b _ _=>⟨rfl,rfl⟩,Ext.refl _ _,hgz,
      rfl,rfl,rfl,Nat.le_refl _,fun _ _ _=>rfl,hgl,fun v hv=>by cases hv⟩
    · rw [Av]
      by_cases h:t<ps.length
      · rw [if_pos h]
        have:=hargs t h
        have e:args.toList.getD t undef=args.getD t undef:=by simp [List.getD,Array.getD_eq_getD_getElem?]
        rw [e] at this
        exact this
      · rw [if_neg h];trivial
    · rw [rJ];trivial
    · have:ps.length≤t:=by simpa [mZ,yP] using ht
      rw [Av,if_neg (by omega)]
  exact H ((),x) (y,()) hF C args W G (fun _ _=>none) rfl (.inl rfl) (by rw [yP];exact hsz) R _ (fun vs w' G' bJ R2=>⟨vs,G',bJ,rfl,R2⟩)
theorem Rel.HV {E:Env} {W:World} {G:Nat→Nat} {s:St} {a:Act} {w:World} {G':Nat→Nat} {pt:Nat→Nat→Option Value} (R:Rel E (WU W G) s a w G' pt):RowKit.Below W.heap.size W w:=
  ⟨R.os,R.tape,R.out,R.hs,fun k hk=>(R.fr k hk (fun h=>h)).1⟩
theorem ng {w w':World} {G:Nat→Nat} (h:RowKit.Below w.heap.size w w') (hgz:∀ b,w.heap.size≤b→G b=0):Ext w G w' G:=by
  refine ⟨fun b o ho=>?_,fun b=>Nat.le_refl _⟩
  by_cases hb:b<w.heap.size
  · exact h.cell hb
  · rw [hgz b (by omega)] at ho;omega
theorem tT {a b:Nat} (h:a≠b):Nat.beq a b=false:=by
  cases hb:Nat.beq a b with
  | false=>rfl
  | true=>exact absurd (Nat.eq_of_beq_eq_true hb) h
theorem FD (d:D) (k:Nat) (h:k≠0):get [(0,d)] k = .undef:=by
  simp only [get,tT h,cond_false]
theorem Rel.RN {E:Env} {n:Nat} {C:Ctx} {s:St} {a:Act} {w w':World} {G:Nat→Nat} {pt:Nat→Nat→Option Value} (R:Rel (mZ E n false) C s a w G pt) (hb:∀ id,get s (2*id+1) = .undef) (h:RowKit.Below w.heap.size w w')
    {k:IntKind} {r:Int} (hr:aY w G pt (.int k r) (.int k r)) :
    Rel (mZ E 1 false) C [(0,.int k r)] { tmps:=#[.int k r],defers:=[] } w' G pt:=by
  have g1:∀ id,get [(0,D.int k r)] (2*id+1) = .undef:=fun id=>FD _ _ (by omega)
  have g2:∀ t,1≤t→get [(0,D.int k r)] (2*t) = .undef:=fun t ht=>FD _ _ (by omega)
  have Jr:∀ b,TC 1 C.m [(0,D.int k r)] { tmps:=#[.int k r],defers:=[] } w' pt b=0:=by
    intro b
    unfold TC
    have z2:bK C.m (cB [(0,D.int k r)] w' pt b)=0:=jl fun i hi=>by
      rw [cB,g1]
      rfl
    rw [z2]
    rfl
  have hE:=ng h R.gz
  refine ⟨rfl,rfl,fun t=>?_,fun id=>?_,fun t ht=>g2 t ht,fun id hid=>g1 id,fun b=>?_,fun b hb=>?_,fun b hb hX=>?_,R.ex.trans hE,fun b hb=>R.gz b (Nat.le_trans h.size hb),h.os.trans R.os,h.output.trans R.out,h.tape.trans R.tape,Nat.le_trans R.hs h.size,fun id st h=>?_,fun g k l hg=>?_,R.pn⟩
  · cases t with
    | zero=>exact hr
    | succ t=>rw [g2 (t+1) (by omega)];trivial
  · rw [g1];trivial
  · exact Nat.le_trans (Nat.le_of_eq (Jr b)) (Nat.zero_le _)
  · have:=Jr b
    exact absurd hb (by show ¬ 0<TC 1 _ _ _ _ _ _;omega)
  · have:=R.fr b hb hX
    refine ⟨(h.block b (Nat.lt_of_lt_of_le hb R.hs)).trans this.1,this.2⟩
  · rw [g1] at h
    have:=R.pf id st
    rw [hb] at this
    exact this h
  · obtain ⟨g1,g2⟩:=R.gl g k l hg
    refine ⟨g1,fun j hj=>?_⟩
    rw [hE.cell g j (by omega)]
    exact g2 j hj
end Go.aW
namespace Go.aW
section
variable {P:Program} {E:Env}
theorem WV (HP:nM P E) (Hg:P.follows .mixedOrders=true) {Γ:dD} (HΓ:∀ g con,Γ g=some con→aj P E (g%1000000) con) {f:Nat} {fn:Func} {plan:Plan} {c:aR} (hf:P.funcs[f]? = some fn)
    (hn:E.n=fn.ntmps) (hhp:E.hp=c.aG) (hok:c.ok=true) {n0:Nat} (yP:n0≤E.n) {code:Code} (hcode:fn.body=some code) {s0:St} {y:(Ty.cons c.rs.ty (eD c.post)).den}
    (hy:((ev (fun _ _=>Loop) E Γ code plan [] s0).jL (yx E fn c)).den=some y)
    {C:Ctx} {args:Array Value} {w:World} {G:Nat→Nat} {pt:Nat→Nat→Option Value} (hm:C.m=2) (eU:C.pin=none∨c.aG=true) (hargs:args.size=n0)
    (R:Rel (mZ E n0 c.aG) C s0 { tmps:=args,defers:=[] } w G pt)
    (K:Ending→World→Prop) (hK:∀ (vs:Array Value) w' G' bJ,Rel (mZ E c.rs.num c.aG) C (fU c y) { tmps:=vs,defers:=[] } w' G' bJ→K (.returned (gG vs)) w') :
    Calls P f args w K:=by
  obtain ⟨r,hr,hl⟩:=fT hy
  refine calls_of_wp hf hcode ?_
  have hpn:C.pin=none∨E.hp=true:=by rw [hhp];exact eU
  have R1:Rel E { C with m:=E.n+2 } s0 { tmps:=args++Array.replicate (fn.ntmps - args.size) undef,defers:=[] } w G pt:=by
    have hsz:(args++Array.replicate (fn.ntmps - args.size) undef).size=E.n:=by
      simp only [Array.size_append,Array.size_replicate]
      omega
    have hget:∀ t,t<n0→(args++Array.replicate (fn.ntmps - args.size) undef).getD t undef=args.getD t undef:=by
      intro t ht
      have h1:t<args.size:=by omega
      rw [Array.getD_eq_getD_getElem?,Array.getD_eq_getD_getElem?,Array.getElem?_append_left h1]
    have hhi:∀ t,n0≤t→get s0 (2*t) = .undef:=fun t ht=>R.ht t ht
    refine R.make rfl rfl rfl rfl hsz rfl (fun t=>?_) R.bx (fun t ht=>hhi t (by omega)) (fun id hid=>R.hb id (by simp only at hid;omega)) (fun b=>?_) R.pf R.pn
    · by_cases ht:t<n0
      · rw [hget t ht];exact R.tm t
      · rw [hhi t (by omega)];trivial
    · unfold TC
      refine Nat.add_le_add ?_ ?_
      · rw [kJ (f:=cT s0 _ b) (n:=n0) (m:=E.n) yP fun i hi=>by rw [cT,hhi i hi];exact dG b _]
        refine Nat.le_of_eq (aM fun t ht=>?_)
        simp only [cT]
        rw [hget t ht]
      · rw [kJ (f:=cB s0 w pt b) (n:=C.m) (m:=E.n+2) (by omega) fun i hi=>by rw [cB,R.hb i hi];rfl]
        exact Nat.le_refl _
  have HO:=Ng (C:={ C with m:=E.n+2 }) HP (by simp) (Fu (by simp) HΓ)
  have:=(iU (C:={ C with m:=E.n+2 }) (by show E.n≤E.n+2;omega) hpn HO (EY Hg HO) code plan [] s0 r hr).2 _ w G pt R1
  refine wp_mono this fun e a' w' hp=>?_
  obtain ⟨rfl,G',bJ,R'⟩:=hp
  obtain ⟨re,rch,rs⟩:=r
  obtain ⟨he,vs,G2,jy,hrun,R2⟩:=Fb HP R' (C':=C) hm rfl rfl rfl rfl eU hok hl
  have fin:a'.defers=[]∧∃ v,(results fn a'.tmps).run P w' = .ok v w'∧K (.returned v) w':=⟨R'.df,_,hrun,hK vs w' G2 jy R2⟩
  match re,he with
  | 0,_=>exact fin
  | 1,_=>exact fin
end
end Go.aW