/- The abstract evaluator, part 3: proved is that regions, branches, blocks and loops that the evaluator runs do what the run says, in every order that a region allows; no conditions but those that each theorem states. -/
import Derived.Test.YtmpfafdaadhabaaGreatDoorAbsB
import Derived.Scope
set_option linter.unusedVariables false
set_option linter.unusedSimpArgs false
namespace Go.aW
inductive Out (R:Type) where
  | ret (r:R)
  | fail
  | ite (c:Bool) (a b:Out R)
  | call (t:Ty) (r:Option t.den) (k:t.den→Out R)
def Out.den {R:Type}:Out R→Option R
  | .ret r=>some r
  | .fail=>none
  | .ite c a b=>bif c then a.den else b.den
  | .call _ r k=>match r with
    | some x=>(k x).den
    | none=>none
def Out.bind {R S:Type}:Out R→(R→Out S)→Out S
  | .ret r,f=>f r
  | .fail,_=>.fail
  | .ite c a b,f=>.ite c (a.bind f) (b.bind f)
  | .call t r k,f=>.call t r (fun x=>(k x).bind f)
def iK (a:Bool):Bool→Bool
  | true=>a
  | false=>(match a with
    | true=>false
    | false=>true)
inductive Lf where
  | cst (d:D) | int (k:IntKind) | bool | str | sl (f:Nat) (t:Ty) | fO (f:Nat) (t:Ty) | vp (t:Ty) | av (k:IntKind) | va (k:IntKind)
inductive Sh where
  | lf (l:Lf) | agg (ls:List Lf) | aH (st:Nat) (live:Bool) (ls:List Lf) | aU (st:Nat) (live ar:Bool) (t:Ty)
@[reducible] def Lf.ty:Lf→Ty
  | .cst _=>.unit
  | .int k=>.int k
  | .bool=>.bool
  | .str=>.str
  | .sl _ t=>.sl t
  | .fO f t=>.fO f t
  | .vp t=>t
  | .av k=>.sl (.int k)
  | .va k=>.sl (.int k)
@[reducible] def eD:List Lf→Ty
  | []=>.unit
  | l::r=>.cons l.ty (eD r)
@[reducible] def Sh.ty:Sh→Ty
  | .lf l=>l.ty
  | .agg ls=>eD ls
  | .aH _ _ ls=>eD ls
  | .aU _ _ _ t=>.sl t
@[reducible] def iT:List Sh→Ty
  | []=>.unit
  | l::r=>.cons l.ty (iT r)
def Lf.con:(l:Lf)→l.ty.den→D
  | .cst d,_=>d
  | .int k,n=>.int k n
  | .bool,b=>.bool b
  | .str,s=>.str s
  | .sl f t,l=>.sl f t l
  | .fO f t,x=>.fO f t x
  | .vp t,x=>.gN t [x] 0 0
  | .av k,l=>.av k l
  | .va k,l=>.LY k l
def aL:(ls:List Lf)→(eD ls).den→List D
  | [],_=>[]
  | l::r,x=>l.con x.1::aL r x.2
def Sh.con:(l:Sh)→l.ty.den→D
  | .lf l,x=>l.con x
  | .agg ls,x=>.agg (aL ls x)
  | .aH st live ls,x=>.aH st live (aL ls x)
  | .aU st live ar t,l=>.aU st live ar t l
def keq:D→D→Bool
  | .undef,.undef=>true
  | .jf,.jf=>true
  | .ptr a b c,.ptr a' b' c'=>Nat.beq a a' && Nat.beq b b' && Nat.beq c c'
  | .qO a b,.qO a' b'=>Nat.beq a a' && Nat.beq b b'
  | .fM a b,.fM a' b'=>Nat.beq a a' && Nat.beq b b'
  | .AJ a b c,.AJ a' b' c'=>Nat.beq a a' && Nat.beq b b' && Nat.beq c c'
  | .Ai a,.Ai a'=>Nat.beq a a'
  | _,_=>false
theorem Kv {a b:D} (h:keq a b=true):a=b:=by
  cases a<;>cases b<;>simp only [keq,Bool.false_eq_true,Bool.and_eq_true] at h<;>first | rfl | skip
  · rw [Nat.eq_of_beq_eq_true h.1.1,Nat.eq_of_beq_eq_true h.1.2,Nat.eq_of_beq_eq_true h.2]
  · rw [Nat.eq_of_beq_eq_true h.1,Nat.eq_of_beq_eq_true h.2]
  · rw [Nat.eq_of_beq_eq_true h.1,Nat.eq_of_beq_eq_true h.2]
  · rw [Nat.eq_of_beq_eq_true h.1.1,Nat.eq_of_beq_eq_true h.1.2,Nat.eq_of_beq_eq_true h.2]
  · rw [Nat.eq_of_beq_eq_true h]
def Lf.abs:(l:Lf)→D→Option l.ty.den
  | .cst d,d'=>bif keq d d' then some () else none
  | .int k,.int k' n=>bif iO k k' then some n else none
  | .bool,.bool b=>some b
  | .str,.str s=>some s
  | .sl f t,.sl f' t' l=>bif Nat.beq f f' then (if h:t'.beq t=true then some (kM (Ty.eq_of_beq h) l) else none) else none
  | .fO f t,.fO f' t' x=>if h:(Ty.fO f' t').beq (.fO f t)=true then some (IE (Ty.eq_of_beq h) x) else none
  | .vp t,.gN t' [x] 0 0=>if h:t'.beq t=true then some (IE (Ty.eq_of_beq h) x) else none
  | .av k,.av k' l=>bif iO k k' then some l else none
  | .va k,.LY k' l=>bif iO k k' then some l else none
  | _,_=>none
def oq:(ls:List Lf)→List D→Option (eD ls).den
  | [],[]=>some ()
  | l::r,d::ds=>match l.abs d,oq r ds with
    | some x,some y=>some (x,y)
    | _,_=>none
  | _,_=>none
def Sh.abs:(l:Sh)→D→Option l.ty.den
  | .lf l,d=>l.abs d
  | .agg ls,.agg cs=>oq ls cs
  | .aH st live ls,.aH st' xW cs=>bif Nat.beq st st' && iK live xW then oq ls cs else none
  | .aU st live ar t,.aU st' xW ar' t' l=>bif Nat.beq st st' && iK live xW&&iK ar ar' then (if h:t'.beq t=true then some (kM (Ty.eq_of_beq h) l) else none) else none
  | _,_=>none
theorem Lf.lT {l:Lf} {d:D} {x:l.ty.den} (h:l.abs d=some x):l.con x=d:=by
  cases l with
  | cst d0=>
    simp only [Lf.abs] at h
    cases hk:keq d0 d with
    | true=>exact Kv hk
    | false=>simp [hk] at h
  | int k=>
    cases d<;>simp only [Lf.abs,reduceCtorEq] at h
    rename_i k' n
    cases hk:iO k k' with
    | true=>
      simp only [hk,cond_true,Option.some.injEq] at h
      subst h
      rw [dX hk];rfl
    | false=>simp [hk] at h
  | bool=>
    cases d<;>simp only [Lf.abs,reduceCtorEq,Option.some.injEq] at h
    subst h;rfl
  | str=>
    cases d<;>simp only [Lf.abs,reduceCtorEq,Option.some.injEq] at h
    subst h;rfl
  | sl f t=>
    cases d<;>simp only [Lf.abs,reduceCtorEq] at h
    rename_i f' t' l
    cases hk:Nat.beq f f' with
    | true=>
      simp only [hk,cond_true] at h
      split at h
      · rename_i hb
        have he:=Ty.eq_of_beq hb
        subst he
        simp only [Option.some.injEq] at h
        subst h
        rw [Nat.eq_of_beq_eq_true hk];rfl
      · cases h
    | false=>simp [hk] at h
  | fO f t=>
    cases d<;>simp only [Lf.abs,reduceCtorEq] at h
    rename_i f' t' y
    split at h
    · rename_i hb
      have he:=Ty.eq_of_beq hb
      injection he with e1 e2
      subst e1 e2
      simp only [Option.some.injEq] at h
      subst h
      rfl
    · cases h
  | av k=>
    cases d<;>simp only [Lf.abs,reduceCtorEq] at h
    rename_i k' l
    cases hk:iO k k' with
    | true=>
      simp only [hk,cond_true,Option.some.injEq] at h
      subst h
      rw [dX hk];rfl
    | false=>simp [hk] at h
  | va k=>
    cases d<;>simp only [Lf.abs,reduceCtorEq] at h
    rename_i k' l
    cases hk:iO k k' with
    | true=>
      simp only [hk,cond_true,Option.some.injEq] at h
      subst h
      rw [dX hk];rfl
    | false=>simp [hk] at h
  | vp t=>
    cases d with
    | gN t' l i off=>
      match l,i,off,h with
      | [y],0,0,h=>
        have h':(if hb:t'.beq t=true then some (IE (Ty.eq_of_beq hb) y) else none)=some x:=h
        split at h'
        · rename_i hb
          have he:=Ty.eq_of_beq hb
          subst he
          simp only [Option.some.injEq] at h'
          subst h'
          rfl
        · cases h'
      | [],_,_,h=>cases h
      | _::_::_,_,_,h=>cases h
      | [_],_+1,_,h=>cases h
      | [_],0,_+1,h=>cases h
    | _=>cases h
theorem kG:∀ {ls:List Lf} {ds:List D} {x:(eD ls).den},oq ls ds=some x→aL ls x=ds
  | [],[],_,_=>rfl
  | [],_::_,_,h=>by simp [oq] at h
  | _::_,[],_,h=>by simp [oq] at h
  | l::r,d::ds,x,h=>by
    simp only [oq] at h
    split at h
    · rename_i y z h1 h2
      simp only [Option.some.injEq] at h
      subst h
      simp only [aL]
      rw [Lf.lT h1,kG h2]
    · cases h
theorem Wv {a b:Bool} (h:iK a b=true):a=b:=by cases a<;>cases b<;>first | rfl | cases h
theorem Sh.lT {l:Sh} {d:D} {x:l.ty.den} (h:l.abs d=some x):l.con x=d:=by
  cases l with
  | lf l=>exact Lf.lT h
  | agg ls=>
    cases d<;>simp only [Sh.abs,reduceCtorEq] at h
    simp only [Sh.con]
    rw [kG h]
  | aH st live ls=>
    cases d<;>simp only [Sh.abs,reduceCtorEq] at h
    rename_i st' xW cs
    cases hk:(Nat.beq st st' && iK live xW) with
    | true=>
      simp only [hk,cond_true] at h
      simp only [Bool.and_eq_true] at hk
      simp only [Sh.con]
      rw [kG h,Nat.eq_of_beq_eq_true hk.1,Wv hk.2]
    | false=>simp [hk] at h
  | aU st live ar t=>
    cases d<;>simp only [Sh.abs,reduceCtorEq] at h
    rename_i st' xW ar' t' l
    cases hk:(Nat.beq st st' && iK live xW&&iK ar ar') with
    | true=>
      simp only [hk,cond_true] at h
      simp only [Bool.and_eq_true] at hk
      split at h
      · rename_i hb
        have he:=Ty.eq_of_beq hb
        subst he
        simp only [Option.some.injEq] at h
        subst h
        simp only [Sh.con]
        rw [Nat.eq_of_beq_eq_true hk.1.1,Wv hk.1.2,Wv hk.2];rfl
      · cases h
    | false=>simp [hk] at h
abbrev Pl:=List (Nat×Sh)
@[reducible] def nO:Pl→Ty
  | []=>.unit
  | p::r=>.cons p.2.ty (nO r)
def ou:(p:Pl)→(nO p).den→St
  | [],_=>[]
  | p::r,x=>(p.1,p.2.con x.1)::ou r x.2
def Ba:(p:Pl)→St→Option (nO p).den
  | [],_=>some ()
  | p::r,s=>match p.2.abs (get s p.1),Ba r s with
    | some x,some y=>some (x,y)
    | _,_=>none
def mem (k:Nat):List Nat→Bool
  | []=>false
  | x::r=>Nat.beq k x || mem k r
def bQ:D→List Nat
  | .ptr id _ _ | .kL id _ _ _ _ | .fM id _ | .AJ id _ _=>[id]
  | _=>[]
def dZ:List D→List Nat
  | []=>[]
  | d::r=>bQ d++dZ r
def gK:D→List Nat
  | .agg cs=>dZ cs
  | d=>bQ d
def sO:List D→List Nat
  | []=>[]
  | d::r=>gK d++sO r
def refs:D→List Nat
  | .agg cs=>dZ cs
  | .gB vs=>sO vs
  | .fn _ cs=>dZ cs
  | .aH _ _ cs=>dZ cs
  | d=>bQ d
def strike (ks:List Nat):St→St
  | []=>[]
  | (k,d)::r=>bif mem k ks then strike ks r else (k,d)::strike (k::ks) r
def odd (k:Nat):Bool:=Nat.beq (k%2) 1
def gP:D→Bool
  | .undef=>true
  | _=>false
def closedIn (s:St):St→Bool
  | []=>true
  | (_,d)::r=>((refs d).all fun i=>!gP (get s (2*i+1)))&&closedIn s r
def gF (hp:Bool) (s:St):Bool:=closedIn s s&&(!hp || !gP (get s 1))
def bit (n k:Nat):Bool:=Nat.beq ((n >>> k)%2) 1
def sP:List Operand→Nat
  | []=>0
  | .tmp t::r=>Nat.lor (1 <<< t) (sP r)
  | _::r=>sP r
def union:List Nat→List Nat→List Nat
  | [],ys=>ys
  | x::xs,ys=>bif mem x ys then union xs ys else union xs (x::ys)
structure Lv where
  e:Nat
  ch:List Nat
  s:St
def aJ:St→List Nat
  | []=>[]
  | (k,_)::r=>k::aJ r
def subset:List Nat→List Nat→Bool
  | [],_=>true
  | x::xs,ys=>mem x ys&&subset xs ys
def Out.jL {R S:Type} (f:R→Option S):Out R→Out S
  | .ret r=>match f r with
    | some x=>.ret x
    | none=>.fail
  | .fail=>.fail
  | .ite c a b=>.ite c (a.jL f) (b.jL f)
  | .call t r k=>.call t r (fun x=>(k x).jL f)
end Go.aW
namespace Go.aW
def Lf.arg:(l:Lf)→D→Option l.ty.den
  | .sl _ t,.jf=>some ([]:List t.den)
  | l,d=>l.abs (bU d)
def Lf.Ao (s:St):(l:Lf)→D→Option l.ty.den
  | .sl _ t,.fM id st=>match get s (2*id+1) with
    | .aU st' true false t' l=>bif Nat.beq st st' then (if h:t'.beq t=true then some (kM (Ty.eq_of_beq h) l) else none) else none
    | _=>none
  | .va k,.ptr id st 0=>match get s (2*id+1) with
    | .aU st' true true (.int k') l=>bif Nat.beq st st' && iO k k' then some l else none
    | _=>none
  | l,d=>l.arg d
def nP (s:St):(ls:List Lf)→List D→Option (eD ls).den
  | [],[]=>some ()
  | l::r,d::ds=>match l.Ao s d,nP s r ds with
    | some x,some y=>some (x,y)
    | _,_=>none
  | _,_=>none
def Sh.arg (s:St):(l:Sh)→D→Option l.ty.den
  | .lf l,d=>l.Ao s d
  | .agg ls,.agg cs=>nP s ls cs
  | _,_=>none
def I5:Lf→Bool
  | .sl f _=>!Nat.beq f 0
  | _=>false
def ownSh:Sh→Bool
  | .lf l=>I5 l
  | .agg ls=>ls.any I5
  | _=>false
def Lf.give:(l:Lf)→D→Option l.ty.den
  | .sl f t,.jf=>bif Nat.blt f 3 then some ([]:List t.den) else none
  | l,d=>l.abs d
def vw:(ls:List Lf)→List D→Option (eD ls).den
  | [],[]=>some ()
  | l::r,d::ds=>match l.give d,vw r ds with
    | some x,some y=>some (x,y)
    | _,_=>none
  | _,_=>none
def Sh.give:(l:Sh)→D→Option l.ty.den
  | .lf l,d=>l.give d
  | .agg ls,.agg cs=>vw ls cs
  | _,_=>none
def Sh.EC (s:St) (p:Sh) (d:D):Option p.ty.den:=bif ownSh p then p.give d else p.arg s d
def iH (s:St):(ps:List Sh)→List Operand→Option (iT ps).den
  | [],[]=>some ()
  | p::r,x::xs=>match p.EC s (aV s x),iH s r xs with
    | some y,some z=>some (y,z)
    | _,_=>none
  | _,_=>none
inductive RS where
  | none | one (s:Sh) | gB (l:List Sh) | sQ (ls:List Lf)
@[reducible] def RS.ty:RS→Ty
  | .none=>.unit
  | .one s=>s.ty
  | .gB l=>iT l
  | .sQ ls=>eD ls
def Ty.ok:(t:Ty)→t.den→Prop
  | .int k,n=>k.has n
  | .bool,_=>True
  | .str,l=>l.length≤iQ∧∀ c∈l,0≤c∧c<256
  | .sl t,l=>l.length*t.mE≤big∧∀ x∈l,t.ok x
  | .unit,_=>True
  | .cons a b,x=>a.ok x.1∧b.ok x.2
  | .st _ c,x=>c.ok x
  | .fO _ t,x=>t.ok x
abbrev XF:=Nat→Nat→List (D×D)→Option (Bool×St)
def I6 (s:St):D→D
  | .fM id _ | .ptr id _ _=>get s (2*id+1)
  | .agg cs=>match dZ cs with
    | [id]=>get s (2*id+1)
    | _=>.undef
  | _=>.undef
def MZ (s:St) (x:Operand):D×D:=(aV s x,I6 s (aV s x))
structure aR where
  aG:Bool
  pre:List Lf
  ps:List Sh
  rs:RS
  post:List Lf
  F:(Ty.cons (eD pre) (iT ps)).den→Option (Ty.cons rs.ty (eD post)).den
  xf:Option XF:=none
def bP:(l:List Sh)→(iT l).den→List D
  | [],_=>[]
  | p::r,x=>p.con x.1::bP r x.2
def Ww:D→Bool
  | .fM _ _=>true
  | .ptr _ _ _=>true
  | _=>false
def gQ:D→Bool
  | .agg cs=>cs.any Ww
  | d=>Ww d
def nQ (s:St):List Operand→Bool
  | []=>false
  | x::r=>gQ (aV s x) || nQ s r
def Bb:Ty→Bool
  | .sl _=>false
  | .fO _ _=>false
  | .cons a b=>Bb a&&Bb b
  | .st _ c=>Bb c
  | _=>true
def jP:Lf→Bool
  | .sl f t=>!Nat.beq f 0&&Bb t
  | .cst .undef=>false
  | .cst .jf=>true
  | .cst _=>false
  | .fO _ _=>false
  | .vp _=>false
  | .va _=>false
  | _=>true
def noView:Sh→Bool
  | .lf l=>jP l
  | .agg ls=>ls.all jP
  | _=>false
def RS.noView:RS→Bool
  | .none=>true
  | .one s=>aW.noView s
  | .gB l=>l.all aW.noView
  | .sQ ls=>ls.all jP
def xX (o:Oper) (s:St) (rs:RS) (x:rs.ty.den):Option St:=
  match rs,x with
  | .none,_=>match o.dst with
    | none=>some []
    | some t=>some [(2*t,.undef)]
  | .one p,x=>some (bB o (p.con x))
  | .gB l,x=>some (bB o (.gB (bP l x)))
  | .sQ ls,x=>match o.dst with
    | some t=>some [(2*t+1,.aH (aI (get s (2*t+1))+1) true (aL ls x)),(2*t,.ptr t (aI (get s (2*t+1))+1) 0)]
    | none=>none
def kW (s:St) (xs:List Operand):St:=dQ s share jg (xs.map fun x=>(0,x))
def dU:List Sh→List Operand→List Operand
  | p::ps,x::xs=>bif ownSh p then dU ps xs else x::dU ps xs
  | _,_=>[]
def bL:List Sh→List Operand→List Operand
  | p::ps,x::xs=>bif ownSh p then x::bL ps xs else bL ps xs
  | _,_=>[]
def kr:List Operand→St
  | []=>[]
  | .tmp t::r=>(2*t,.undef)::kr r
  | _::r=>kr r
def ow:List Operand→List Nat
  | []=>[]
  | .tmp t::r=>2*t::ow r
  | _::r=>ow r
def M0 (x:Nat):List Nat→Bool
  | []=>false
  | y::r=>Nat.beq x y || M0 x r
def sS:List Nat→Bool
  | []=>true
  | x::r=>!M0 x r&&sS r
def vB (ps:List Sh) (xs:List Operand):Bool:=
  match bL ps xs with
  | []=>true
  | _=>sS (ow xs)
def wI (nv:Bool) (s:St) (ps:List Sh) (xs:List Operand):St:=(bif nv then [] else kW s (dU ps xs))++kr (bL ps xs)
def aR.nv (c:aR):Bool:=c.rs.noView&&c.post.all jP
def notSelf (o:Oper) (id:Nat):RS→Bool
  | .sQ _=>match o.dst with
    | some t=>!Nat.beq t id
    | none=>false
  | _=>true
def nR (E:Env) (c:aR) (o:Oper) (s:St) (args:List Operand):Out St:=
  bif dP E o then
  match c.aG,args with
  | true,x::xs=>match aV s x with
    | .ptr id st off=>match get s (2*id+1) with
      | .aH st' true cs=>bif Nat.beq st st' && Nat.beq off 0&&(!nQ s xs || c.nv)&&notSelf o id c.rs&&vB c.ps xs then
        match oq c.pre cs,iH s c.ps xs with
        | some y,some z=>.call (.cons c.rs.ty (eD c.post)) (c.F (y,z)) fun r=>
            match xX o s c.rs r.1 with
            | some u=>.ret (wI c.nv s c.ps xs++(2*id+1,.aH st true (aL c.post r.2))::u)
            | none=>.fail
        | _,_=>.fail else .fail
      | _=>.fail
    | _=>.fail
  | false,xs=>bif (!nQ s xs || c.nv)&&vB c.ps xs then
    match oq c.pre [],iH s c.ps xs with
    | some y,some z=>.call (.cons c.rs.ty (eD c.post)) (c.F (y,z)) fun r=>
        match xX o s c.rs r.1 with
        | some u=>.ret (wI c.nv s c.ps xs++u)
        | none=>.fail
    | _,_=>.fail else .fail
  | _,_=>.fail else .fail
def M4 (E:Env) (x:XF) (o:Oper) (s:St) (args:List Operand):Out St:=
  bif dP E o then
    match o.dst with
    | some t=>match x t (aI (get s (2*t+1))+1) (args.map (MZ s)) with
      | some (g,u)=>.ite g (.ret u) .fail
      | none=>.fail
    | none=>.fail
  else .fail
def oz (E:Env) (c:aR) (o:Oper) (s:St) (args:List Operand):Out St:=
  match c.xf with
  | some x=>M4 E x o s args
  | none=>nR E c o s args
def abw:D→Bool
  | .aU _ _ _ _ _=>true
  | _=>false
def xY (s:St) (x:Operand):Bool:=
  match aV s x with
  | .kL _ _ _ _ _ | .qO _ _=>true
  | .ptr id _ _=>abw (get s (2*id+1))
  | _=>false
def TT:Operand→Bool
  | .const _=>true
  | _=>false
def afe:D→Bool
  | .sl _ _ _ | .fM _ _ | .str _ | .AJ _ _ _=>true
  | _=>false
def xZ (n:Nat):List Operand→Bool
  | []=>true
  | .tmp t::r=>Nat.blt t n&&xZ n r
  | _::r=>xZ n r
def x9 (n:Nat):St→Bool
  | []=>true
  | p::r=>Nat.blt p.1 n&&x9 n r
def Bc (E:Env) (c:aR) (o:Oper) (s:St) (args:List Operand) (d:D):Out St:=
  bif dP E o && !c.aG&&xZ E.n args then
    (nR { E with n:=E.n+1 } c o ((2*E.n,d)::s) (args++[.tmp E.n])).bind fun u=>bif x9 (2*E.n) u then .ret u else .fail
  else .fail
def yc (o:Oper) (s:St):Bool:=
  match o.op with
  | .binOp op _ _ y _=>match op with
    | .quo | .rem | .shl | .shr=>!TT y
    | .add=>match aV s y with
      | .str _=>true
      | _=>false
    | _=>false
  | .load _ x=>xY s x
  | .store _ x _=>xY s x
  | .convert _ _ x=>match aV s x with
    | .str _=>true
    | _=>false
  | .makeSlice _ _ _ | .slice _ _ _ _ _=>true
  | .indexAddr _ x i | .index _ x i=>!TT i || afe (aV s x)
  | .call c=>match c.callee with
    | .builtin .append=>true
    | _=>false
  | _=>false
def guarded (o:Oper) (s:St):Option (Bool×St)→Out St
  | some (g,u)=>bif yc o s then .ite g (.ret u) .fail else bif g then .ret u else .fail
  | none=>.fail
def lU (s:St) (k j X:Nat):St:=
  match get s (2*X+1) with
  | .aU st true false t l=>
    (bif odd k then (match get s k with
      | .aH st' true cs=>(match (cs.drop j).take 1 with
        | [.fM Y st2]=>bif Nat.beq Y X&&(Nat.beq st2 st && !Nat.beq (k / 2) X) then [(k,.aH st' true (cZ cs j [.sl 2 t l])),(2*X+1,.aU st false false t l)] else []
        | _=>[])
      | _=>[])
    else (match get s k with
      | .fM Y st2=>bif Nat.beq Y X&&Nat.beq st2 st then [(k,.sl 2 t l),(2*X+1,.aU st false false t l)] else []
      | _=>[]))
  | _=>[]
def o7 (s:St) (X:Nat):St:=
  match get s (2*X+1) with
  | .iC st l=>[(2*X+1,.aU st true false mq l)]
  | _=>[]
def nS (s:St) (k j X:Nat):St:=lU (o7 s X++s) k j X++o7 s X
def gT (E:Env) (o:Oper) (s:St) (args:List Operand):St:=
  bif Nat.beq (tag E o) 10 then (match args with
    | .tmp u::_=>(match get s (2*u) with
      | .fM X _=>lU s (2*u) 0 X
      | _=>[])
    | _=>[]) else []
def yg (E:Env) (o:Oper) (s:St) (args:List Operand):Out St:=
  (guarded o (gT E o s args++s) (GH E o (gT E o s args++s))).bind fun u=>.ret ((gT E o s args).reverse++u)
abbrev Kn:=List (Nat×Bool)
def knL:Kn→Nat→Option Bool
  | [],_=>none
  | (t,b)::r,u=>bif Nat.beq u t then some b else knL r u
def Wx (kn:Kn):Operand→Option Bool
  | .const (.bool b)=>some b
  | .tmp t=>knL kn t
  | _=>none
def Cr (t:Nat):Kn→Kn
  | []=>[]
  | (u,b)::r=>bif Nat.beq u t then Cr t r else (u,b)::Cr t r
def qQ (kn:Kn) (o:Oper) (b:Option Bool):Kn:=
  match o.dst with
  | none=>kn
  | some t=>match b with
    | some b=>(t,b)::Cr t kn
    | none=>Cr t kn
def GJ:Bool→Bool
  | true=>false
  | false=>true
def Kw (kn:Kn) (o:Oper):Kn:=
  match o.op with
  | .move x=>qQ kn o (Wx kn x)
  | .unOp .not _ x=>qQ kn o (match Wx kn x with
    | some b=>some (GJ b)
    | none=>none)
  | .pick c x y=>qQ kn o (match Wx kn c with
    | some b=>Wx kn (bif b then x else y)
    | none=>none)
  | _=>qQ kn o none
abbrev dD:=Nat→Option aR
def GK:Option (Bool×St)→Out St
  | some (g,u)=>bif g then .ret u else .fail
  | none=>.fail
def ckey (E:Env) (o:Oper) (f:Nat):Nat:=bif Nat.ble 101 (tag E o) then f+(tag E o - 100)*1000000 else f
def Ct (E:Env) (Γ:dD) (kn:Kn) (o:Oper) (s:St):Out St:=
  match o.op with
  | .pick c x y=>bif dP E o then
    match aV s c with
    | .bool b=>match Wx kn c with
      | some b'=>.ite (iK b b') (GK (kN E o s (bif b' then x else y))) .fail
      | none=>.ite b (GK (kN E o s x)) (GK (kN E o s y))
    | _=>.fail else .fail
  | .call c=>match c.callee with
    | .value (.func f)=>bif Nat.blt f 1000000 then
      (match Γ (ckey E o f) with
      | some con=>oz E con o s c.args.toList
      | none=>.fail) else .fail
    | .value x=>match aV s x with
      | .Ai f=>bif Nat.blt f 1000000 then
        (match Γ (ckey E o f) with
        | some con=>match con.xf with
          | none=>nR E con o s c.args.toList
          | some _=>.fail
        | none=>.fail) else .fail
      | .fO f t v=>bif Nat.blt f 1000000 then
        (match Γ (ckey E o f) with
        | some con=>match con.xf with
          | none=>Bc E con o s c.args.toList (.gN t [v] 0 0)
          | some _=>.fail
        | none=>.fail) else .fail
      | _=>.fail
    | _=>yg E o s c.args.toList
  | _=>guarded o s (GH E o s)
def wJ (all:List Oper) (j:Nat):Option Nat:=
  match all[j]? with
  | some o=>o.dst
  | none=>none
def fQ (o:Oper):St:=bB o (.gB [])
def jA (E:Env) (Γ:dD) (all:List Oper):List Oper→Kn→List Nat→St→Out Lv
  | [],_,ch,s=>.ret ⟨0,ch,s⟩
  | o::r,kn,ch,s=>match o.guard with
    | none=>(Ct E Γ kn o s).bind fun u=>jA E Γ all r (Kw kn o) (aJ u++ch) (ak u s)
    | some (j,want)=>match wJ all j with
      | none=>.fail
      | some t=>match get s (2*t) with
        | .bool b=>match knL kn t with
          | some c=>bif iK b c then
              (bif iK c want then (Ct E Γ kn o s).bind fun u=>jA E Γ all r (Kw kn o) (aJ u++ch) (ak u s)
               else bif dP E o then jA E Γ all r (qQ kn o none) (aJ (fQ o)++ch) (ak (fQ o) s) else .fail) else .fail
          | none=>bif dP E o then
              .ite (iK b want)
                ((Ct E Γ ((t,want)::kn) o ((2*t,.bool want)::s)).bind fun u=>
                  jA E Γ all r (Kw ((t,want)::kn) o) (aJ u++2*t::ch) (ak u ((2*t,.bool want)::s)))
                (jA E Γ all r (qQ ((t,GJ want)::kn) o none) (aJ (fQ o)++2*t::ch) (ak (fQ o) ((2*t,.bool (GJ want))::s))) else .fail
        | .gB []=>bif dP E o then jA E Γ all r (qQ kn o none) (aJ (fQ o)++ch) (ak (fQ o) s) else .fail
        | _=>.fail
def I7:List Nat→List Nat
  | []=>[]
  | i::r=>(2*i+1)::I7 r
def yh (s:St):Operand→List Nat
  | .tmp t=>match get s (2*t) with
    | .ptr id _ _ | .kL id _ _ _ _ | .fM id _ | .AJ id _ _=>[2*t,2*id+1]
    | .agg cs=>2*t::I7 (dZ cs)
    | _=>[2*t]
  | _=>[]
def qp (s:St):List Operand→List Nat
  | []=>[]
  | x::r=>yh s x++qp s r
def aB:List Operand→List Nat
  | []=>[]
  | .tmp t::r=>2*t::aB r
  | _::r=>aB r
def deep:Op→Bool
  | .move _ | .assign _ | .pick _ _ _ | .alloc _ | .box _ _ | .build _ _ | .buildSlice _ _ _ | .nilCheck _ | .binOp _ _ _ _ _ | .unOp _ _ _ | .makeSlice _ _ _ | .fieldAddr _ _ _ | .field _ _ _ | .extract _ _=>false
  | _=>true
def reads (all:List Oper) (o:Oper) (s:St):List Nat:=
  (match o.guard with
   | some (j,_)=>match wJ all j with
     | some t=>[2*t]
     | none=>[]
   | none=>[])++((match o.dst with
   | some t=>[2*t+1]
   | none=>[])++bif deep o.op then qp s o.op.operands.toList else aB o.op.operands.toList)
def I8 (E:Env) (Γ:dD) (all:List Oper) (o:Oper) (s:St):Out St:=
  match o.guard with
  | none=>Ct E Γ [] o s
  | some (j,want)=>match wJ all j with
    | none=>.fail
    | some t=>match get s (2*t) with
      | .bool b=>bif dP E o then .ite (iK b want) (Ct E Γ [] o s) (.ret (fQ o)) else .fail
      | .gB []=>bif dP E o then .ret (fQ o) else .fail
      | _=>.fail
def meets:List Nat→List Nat→Bool
  | [],_=>false
  | x::r,ys=>mem x ys || meets r ys
def bY (o:Oper):List Nat:=(o.after.toList.filter (Region.binds .any)).map (·.on)
structure oF where
  rd:List Nat
  wr:List Nat
  bf:List Nat
def nth (l:List oF) (n:Nat):Option oF:=l[n]?
def below (i:Nat):List Nat→Bool
  | []=>true
  | x::r=>Nat.blt x i&&below i r
def closure (fs:List oF):List Nat→List Nat
  | []=>[]
  | x::r=>match fs[x]? with
    | some f=>union (x::f.bf) (closure fs r)
    | none=>union [x] (closure fs r)
def apart (f g:oF):Bool:=!meets f.wr g.rd && !meets f.wr g.wr && !meets g.wr f.rd
def dL (bf:List Nat) (g:oF):Nat→List oF→Bool
  | _,[]=>true
  | i,f::r=>(mem i bf || apart f g)&&dL bf g (i+1) r
def dR (all:List Oper) (o:Oper) (fs:List oF) (s u:St):oF:={ rd:=reads all o s,wr:=aJ u,bf:=closure fs (bY o) }
def dV (E:Env) (Γ:dD) (all:List Oper):List Oper→Kn→List oF→List Nat→St→Out Lv
  | [],_,_,ch,s=>.ret ⟨0,ch,s⟩
  | o::r,kn,fs,ch,s=>bif below fs.length (bY o) then
      (match o.guard with
      | none=>(Ct E Γ kn o s).bind fun u=>bif dL (closure fs (bY o)) (dR all o fs s u) 0 fs then dV E Γ all r (Kw kn o) (fs++[dR all o fs s u]) (aJ u++ch) (ak u s) else .fail
      | some (j,want)=>match wJ all j with
        | none=>.fail
        | some t=>match get s (2*t) with
          | .bool b=>bif dP E o then
              (match knL kn t with
              | some c=>.ite (iK b c) (bif iK c want then
                  ((Ct E Γ kn o s).bind fun u=>bif dL (closure fs (bY o)) (dR all o fs s u) 0 fs then dV E Γ all r (Kw kn o) (fs++[dR all o fs s u]) (aJ u++ch) (ak u s) else .fail)
                  else (bif dL (closure fs (bY o)) (dR all o fs s (fQ o)) 0 fs then dV E Γ all r (qQ kn o none) (fs++[dR all o fs s (fQ o)]) (aJ (fQ o)++ch) (ak (fQ o) s) else .fail)) .fail
              | none=>.ite (iK b want)
                  ((Ct E Γ ((t,want)::kn) o s).bind fun u=>bif dL (closure fs (bY o)) (dR all o fs s u) 0 fs then dV E Γ all r (Kw ((t,want)::kn) o) (fs++[dR all o fs s u]) (aJ u++ch) (ak u s) else .fail)
                  (bif dL (closure fs (bY o)) (dR all o fs s (fQ o)) 0 fs then dV E Γ all r (qQ ((t,GJ want)::kn) o none) (fs++[dR all o fs s (fQ o)]) (aJ (fQ o)++ch) (ak (fQ o) s) else .fail)) else .fail
          | .gB []=>bif dP E o then (bif dL (closure fs (bY o)) (dR all o fs s (fQ o)) 0 fs then dV E Γ all r (qQ kn o none) (fs++[dR all o fs s (fQ o)]) (aJ (fQ o)++ch) (ak (fQ o) s) else .fail) else .fail
          | _=>.fail)
      else .fail
structure Way where
  e:Nat
  pl:Pl
  drop:List Nat
inductive Plan where
  | go
  | sq (a b:Plan)
  | cut (M:List Nat) (ws:List Way) (p:Plan)
  | loop (M:List Nat) (pl:Pl) (drop:List Nat) (ws:List Way) (p:Plan)
  | opn (l:List (Nat×Nat×Nat))
  | opk (l:List (Nat×Nat×Nat))
  | sea (l:List (Nat×Nat×Nat))
  | unr (n:Nat) (p:Plan)
def yj:D→Option ((t:Ty)×t.den)
  | .int k n=>some ⟨.int k,n⟩
  | .bool b=>some ⟨.bool,b⟩
  | .str l=>some ⟨.str,l⟩
  | .sl 0 t l=>some ⟨.sl t,l⟩
  | .fO f t x=>some ⟨.fO f t,x⟩
  | _=>none
def qw:List D→Option ((t:Ty)×t.den)
  | []=>some ⟨.unit,()⟩
  | d::r=>match yj d,qw r with
    | some a,some b=>some ⟨.cons a.1 b.1,(a.2,b.2)⟩
    | _,_=>none
def I9 (s:St) (k id st off:Nat):St:=
  match get s (2*id+1) with
  | .aH st' true cs=>(match qw cs with
    | some x=>bif Nat.beq st st' && Nat.beq off 0 then [(2*id+1,.aH st false cs),(k,.gN x.1 [x.2] 0 0)] else []
    | none=>[])
  | _=>[]
def M5:D→Bool
  | .iC _ _=>true
  | _=>false
def sU (n:Nat) (s:St) (k j X:Nat):St:=
  bif M5 (get s (2*X+1)) then o7 s X else
  bif Nat.blt X n then
    (bif odd k then (match get s k with
      | .aH st true cs=>(match (cs.drop j).take 1 with
        | [.sl f t l]=>bif Nat.beq f 2&&(Nat.blt 0 t.nc && !Nat.beq (k / 2) X) then
            [(k,.aH st true (cZ cs j [.fM X (aI (get s (2*X+1))+1)])),(2*X+1,.aU (aI (get s (2*X+1))+1) true false t l)] else []
        | _=>[])
      | _=>[])
    else (match get s k with
      | .sl f t l=>bif Nat.beq f 2&&Nat.blt 0 t.nc then
          [(k,.fM X (aI (get s (2*X+1))+1)),(2*X+1,.aU (aI (get s (2*X+1))+1) true false t l)] else []
      | .ptr id st off=>I9 s k id st off
      | _=>[]))
  else []
def Ja {α:Type} (n:Nat):List (Nat×Nat×Nat)→List Nat→St→(List Nat→St→α)→α
  | [],ch,s,k=>k ch s
  | p::r,ch,s,k=>Ja n r (aJ (sU n s p.1 p.2.1 p.2.2)++ch) (sU n s p.1 p.2.1 p.2.2++s) k
def o8:List (Nat×Nat×Nat)→Lv→Lv
  | [],r=>r
  | p::l,r=>o8 l ⟨r.e,aJ (nS r.s p.1 p.2.1 p.2.2)++r.ch,nS r.s p.1 p.2.1 p.2.2++r.s⟩
def Bd (n:Nat) (p:Plan) (ch:List Nat) (s:St) (run:List Nat→St→Out Lv):Out Lv:=
  match p with
  | .opn l=>Ja n l ch s fun ch s=>(run ch s).bind fun r=>.ret (o8 l r)
  | .opk l=>Ja n l ch s run
  | .sea l=>(run ch s).bind fun r=>.ret (o8 l r)
  | _=>run ch s
def sV (run:List Nat→St→Out Lv):Nat→List Nat→St→Out Lv
  | 0,_,_=>.fail
  | n+1,ch,s=>(run ch s).bind fun r=>bif Nat.beq r.e 0 then sV run n r.ch r.s else .ret r
def Plan.inner:Plan→Plan
  | .cut _ _ q=>q
  | q=>q
def Plan.left:Plan→Plan
  | .sq a _=>a
  | _=>.go
def Plan.right:Plan→Plan
  | .sq _ b=>b
  | _=>.go
@[reducible] def kX:List Way→Ty
  | []=>.unit
  | [w]=>nO w.pl
  | w::r=>.cons .bool (.cons (nO w.pl) (kX r))
def yt (M:List Nat) (base:St) (w:Way) (x:(nO w.pl).den):St:=ou w.pl x++strike (M++w.drop) base
def Wy:Lf→Nat
  | .sl f _=>f
  | _=>2
def Jb:List Lf→Nat
  | []=>2
  | l::r=>bif Nat.ble (Wy l) (Jb r) then Wy l else Jb r
def sW:Sh→Nat
  | .lf l=>Wy l
  | .agg ls=>Jb ls
  | .aH _ _ ls=>Jb ls
  | _=>2
def M6 (n:Nat):D→Bool
  | .sl f _ _=>Nat.blt n f
  | _=>false
def M7 (n:Nat):D→Bool
  | .agg cs=>cs.any (M6 n)
  | .aH _ _ cs=>cs.any (M6 n)
  | d=>M6 n d
def ED (M:List Nat) (s:St) (k:Nat) (sh:Sh):St:=
  bif (M7 (sW sh) (get s k) && !(sh.abs (get s k)).isSome)&&mem k M then
    (bif odd k then (match get s k with
      | .aH st true cs=>bif Nat.beq (sW sh) 0 then (k,.aH st true (cs.map bU))::(k,.aH st true (cs.map bO))::s else (k,.aH st true (cs.map bO))::s
      | _=>s)
    else (bif dK (get s k) then s else
      (bif Nat.beq (sW sh) 0 then (k,view (get s k))::(k,share (get s k))::s else (k,share (get s k))::s)))
  else s
def nT (M:List Nat):Pl→St→St
  | [],s=>s
  | p::r,s=>nT M r (ED M s p.1 p.2)
def mh (M:List Nat) (pl:Pl) (s:St):Option (nO pl).den:=Ba pl (nT M pl s)
def lV (M:List Nat) (e:Nat) (s:St):(ws:List Way)→Option (kX ws).den
  | []=>none
  | [w]=>bif Nat.beq e w.e then mh M w.pl s else none
  | w::w'::r=>bif Nat.beq e w.e then (match mh M w.pl s with
      | some x=>some (true,x,(kX (w'::r)).dflt)
      | none=>none)
    else (match lV M e s (w'::r) with
      | some y=>some (false,(nO w.pl).dflt,y)
      | none=>none)
def nU (hp:Bool) (M:List Nat) (ch:List Nat) (base:St):(ws:List Way)→(kX ws).den→Out Lv
  | [],_=>.fail
  | [w],x=>let s:=yt M base w x
    bif gF hp s then .ret ⟨w.e,M++w.drop++ch,s⟩ else .fail
  | w::w'::r,x=>.ite x.1 (let s:=yt M base w x.2.1
    bif gF hp s then .ret ⟨w.e,M++w.drop++ch,s⟩ else .fail) (nU hp M ch base (w'::r) x.2.2)
def M8 (M:List Nat) (ws:List Way) (r:Lv):Option (kX ws).den:=
  bif subset r.ch M then lV M r.e r.s ws else none
def afg (hp:Bool) (M:List Nat) (ws:List Way) (ch:List Nat) (base:St) (o:Out Lv):Out Lv:=
  .call (kX ws) (o.jL (M8 M ws)).den (nU hp M ch base ws)
def wrap (hp:Bool) (p:Plan) (ch:List Nat) (s:St) (run:List Nat→Out Lv):Out Lv:=
  match p with
  | .cut M ws _=>afg hp M ws ch s (run [])
  | _=>run ch
def yu {τ ε:Type} (step:τ→Option (Sum τ ε)):Nat→τ→Option ε
  | 0,_=>none
  | n+1,v=>match step v with
    | some (.inl v')=>yu step n v'
    | some (.inr e)=>some e
    | none=>none
open Classical in
noncomputable def Loop {τ ε:Type} (step:τ→Option (Sum τ ε)) (v:τ):Option ε:=
  if h:∃ n,(yu step n v).isSome=true then yu step h.choose v else none
def rD:Pl→List Nat
  | []=>[]
  | p::r=>p.1::rD r
def jM (M:List Nat) (pl:Pl) (drop:List Nat) (base:St) (v:(nO pl).den):St:=ou pl v++strike (M++drop) base
def Jc (hp:Bool) (M:List Nat) (pl:Pl) (drop:List Nat) (base:St) (ws:List Way) (r:Lv):Option (Sum (nO pl).den (kX ws).den):=
  bif subset r.ch M then
    (bif Nat.beq r.e 0 then (match mh M pl r.s with
      | some v=>bif gF hp (jM M pl drop base v) then some (.inl v) else none
      | none=>none)
    else match lV M r.e r.s ws with
      | some x=>some (.inr x)
      | none=>none) else none
abbrev Cu:=(τ ε:Type)→(τ→Option (Sum τ ε))→τ→Option ε
def Jd (lp:Cu) (hp:Bool) (M:List Nat) (pl:Pl) (drop:List Nat) (ws:List Way) (ch:List Nat) (s:St) (body:St→Out Lv):Out Lv:=
  bif subset (rD pl) M then
  match mh M pl s with
  | some v0=>bif gF hp (jM M pl drop s v0) then
      .call (kX ws) (lp _ _ (fun v=>((body (jM M pl drop s v)).jL (Jc hp M pl drop s ws)).den) v0) (nU hp (M++drop) ch s ws) else .fail
  | none=>.fail else .fail
def ev (lp:Cu) (E:Env) (Γ:dD):Code→Plan→List Nat→St→Out Lv
  | .skip,_,ch,s=>.ret ⟨0,ch,s⟩
  | .ret,_,ch,s=>.ret ⟨1,ch,s⟩
  | .exit id,_,ch,s=>.ret ⟨id+2,ch,s⟩
  | .label _,_,ch,s=>.ret ⟨0,ch,s⟩
  | .scope c,p,ch,s=>ev lp E Γ c p ch s
  | .region _ ops draw,p,ch,s=>wrap E.hp p ch s fun ch=>Bd E.n p.inner ch s fun ch s=>bif draw then dV E Γ ops.toList ops.toList [] [] ch s else jA E Γ ops.toList ops.toList [] ch s
  | .seq a b,p,ch,s=>wrap E.hp p ch s fun ch=>(ev lp E Γ a p.inner.left ch s).bind fun r=>bif Nat.beq r.e 0 then ev lp E Γ b p.inner.right r.ch r.s else .ret r
  | .cond c a b,p,ch,s=>wrap E.hp p ch s fun ch=>match aV s c with
      | .bool x=>.ite x (ev lp E Γ a p.inner.left ch s) (ev lp E Γ b p.inner.right ch s)
      | _=>.fail
  | .block id c,p,ch,s=>wrap E.hp p ch s fun ch=>(ev lp E Γ c p.inner.left ch s).bind fun r=>.ret ⟨bif Nat.beq r.e (id+2) then 0 else r.e,r.ch,r.s⟩
  | .loop c,p,ch,s=>wrap E.hp p ch s fun ch=>match p.inner with
      | .loop M pl drop ws q=>Jd lp E.hp M pl drop ws ch s (fun st=>ev lp E Γ c q [] st)
      | .unr n q=>sV (fun ch st=>ev lp E Γ c q ch st) n ch s
      | _=>.fail
  | _,_,_,_=>.fail
def sZ:Nat→(ps:List Sh)→(iT ps).den→St
  | _,[],_=>[]
  | i,p::r,x=>(2*i,p.con x.1)::sZ (i+1) r x.2
def bg (c:aR) (x:(Ty.cons (eD c.pre) (iT c.ps)).den):St:=
  bif c.aG then (1,.aH 1 true (aL c.pre x.1))::(0,.ptr 0 1 0)::sZ 1 c.ps x.2 else sZ 0 c.ps x.2
def Lf.res:(l:Lf)→D→Option l.ty.den
  | .sl f t,.jf=>bif Nat.ble f 2 then some ([]:List t.den) else none
  | .sl 0 t,d=>(Lf.sl 0 t).abs (bU d)
  | l,d=>l.abs d
def Bf:(ls:List Lf)→List D→Option (eD ls).den
  | [],[]=>some ()
  | l::r,d::ds=>match l.res d,Bf r ds with
    | some x,some y=>some (x,y)
    | _,_=>none
  | _,_=>none
def Je:Lf→Bool
  | .sl 0 _=>true
  | _=>false
def EF:Sh→Bool
  | .lf l=>Je l
  | .agg ls=>ls.any Je
  | _=>false
def Sh.res1:(l:Sh)→D→Option l.ty.den
  | .lf l,d=>l.res d
  | .agg ls,.agg cs=>Bf ls cs
  | _,_=>none
def clean:D→D
  | .agg cs=>bif (dZ cs).isEmpty then .agg cs else .undef
  | .gB _=>.undef
  | .fn _ _=>.undef
  | .aH _ _ _=>.undef
  | .aU _ _ _ _ _=>.undef
  | d=>bif (bQ d).isEmpty then d else .undef
def Sh.res (p:Sh) (d:D):Option p.ty.den:=p.res1 (bif EF p then share (clean d) else clean d)
def TU (t:Ty) (l:List t.den) (n:Nat):D:=bif Nat.blt 64 n then Kc n t l else .agg (Ka t l 0 n)
def Rm (E:Env) (s:St):ResultVar→Option D
  | .tmp t=>some (get s (2*t))
  | .cell t T=>match get s (2*t),E.T T with
    | .ptr id st off,some i=>match get s (2*id+1) with
      | .aH st' true cs=>bif Nat.beq st st' && Nat.beq off 0&&Nat.beq cs.length i.size then mk1 i.agg cs else none
      | .aU st' true true t l=>bif Nat.beq st st' && Nat.beq off 0&&i.agg&&Nat.beq t.nc 1&&Nat.beq l.length i.size then some (TU t l i.size) else none
      | _=>none
    | _,_=>none
def GL (s:St):ResultVar→Nat
  | .tmp t=>2*t
  | .cell t _=>match get s (2*t) with
    | .ptr id _ _=>2*id+1
    | _=>0
def vC (E:Env) (s:St):List ResultVar→Option (List D)
  | []=>some []
  | r::l=>match Rm E s r,vC E s l with
    | some d,some ds=>some (d::ds)
    | _,_=>none
def nodupB:List Nat→Bool
  | []=>true
  | x::r=>!mem x r&&nodupB r
def tq:(l:List Sh)→List D→Option (iT l).den
  | [],[]=>some ()
  | p::r,d::ds=>match p.res d,tq r ds with
    | some x,some y=>some (x,y)
    | _,_=>none
  | _,_=>none
def yw (s:St):(rs:RS)→List D→Option rs.ty.den
  | .none,[]=>some ()
  | .one p,[d]=>p.res d
  | .gB l,ds=>bif Nat.beq ds.length 1 then none else tq l ds
  | .sQ ls,[.ptr id st off]=>match get s (2*id+1) with
    | .aH st' true cs=>bif Nat.beq st st' && Nat.beq off 0 && !Nat.beq id 0 then oq ls cs else none
    | _=>none
  | _,_=>none
def EG (s:St) (aG:Bool) (post:List Lf):Option (eD post).den:=
  match aG with
  | true=>match get s 1 with
    | .aH st true cs=>bif Nat.beq st 1 then oq post cs else none
    | _=>none
  | false=>oq post []
def yx (E:Env) (fn:Func) (c:aR) (r:Lv):Option (Ty.cons c.rs.ty (eD c.post)).den:=
  bif Nat.blt r.e 2&&nodupB ((bif c.aG then 1 else 2000001)::fn.results.toList.map (GL r.s)) then
    match vC E r.s fn.results.toList with
    | some ds=>match yw r.s c.rs ds,EG r.s c.aG c.post with
      | some x,some y=>some (x,y)
      | _,_=>none
    | none=>none
  else none
def iD:Lf→Bool
  | .cst .undef=>true
  | .cst .jf=>true
  | .cst (.qO _ _)=>true
  | .cst (.Ai _)=>true
  | .cst _=>false
  | _=>true
def lK:Sh→Bool
  | .lf l=>iD l
  | .agg ls=>ls.all iD
  | _=>false
def jX:Lf→Bool
  | .sl f _=>Nat.beq f 0
  | l=>iD l
def qR:Sh→Bool
  | .lf l=>jX l
  | .agg ls=>ls.all jX
  | _=>false
def RS.ok:RS→Bool
  | .none=>true
  | .one p=>lK p
  | .gB l=>l.all lK && !Nat.beq l.length 1
  | .sQ ls=>ls.all iD
def aR.ok (c:aR):Bool:=c.pre.all iD&&c.ps.all lK&&c.rs.ok&&c.post.all iD&&(c.aG || (c.pre.isEmpty&&c.post.isEmpty))
def eF (lp:Cu) (E:Env) (Γ:dD) (fn:Func) (p:Plan) (c:aR) (x:(Ty.cons (eD c.pre) (iT c.ps)).den):Out (Ty.cons c.rs.ty (eD c.post)).den:=
  match fn.body with
  | some code=>(ev lp E Γ code p [] (bg c x)).jL (yx E fn c)
  | none=>.fail
def Wz (s:St):St:=
  match get s 2 with
  | .agg [a,b,c,.sl 2 t l]=>if h:t.beq mq=true then (2,.agg [a,b,c,.fM 1 1])::(3,.iC 1 (kM (Ty.eq_of_beq h) l))::s else s
  | _=>s
def Cv (c:aR) (x:(Ty.cons (eD c.pre) (iT c.ps)).den):St:=Wz (bg c x)
def aby (lp:Cu) (E:Env) (Γ:dD) (fn:Func) (p:Plan) (c:aR) (x:(Ty.cons (eD c.pre) (iT c.ps)).den):Out (Ty.cons c.rs.ty (eD c.post)).den:=
  match fn.body with
  | some code=>(ev lp E Γ code p [] (Cv c x)).jL (yx E fn c)
  | none=>.fail
end Go.aW
namespace Go.aW
theorem EH {d:D}:gP d=true↔d = .undef:=by cases d<;>simp [gP]
theorem qx {n:Nat} {f g:Nat→Nat} (h:∀ i,f i≤g i):bK n f≤bK n g:=by
  induction n with
  | zero=>exact Nat.le_refl _
  | succ n ih=>simp only [bK];exact Nat.add_le_add ih (h n)
section
variable {w:World} {G:Nat→Nat} {pt bJ:Nat→Nat→Option Value}
theorem bI.ptr {d:D} {v:Value} (hp:∀ i∈bQ d,∀ st,bJ i st=pt i st) (h:bI w G pt d v):bI w G bJ d v:=by
  cases d with
  | ptr id st off=>obtain ⟨b,h1,h2⟩:=h;exact ⟨b,by rw [hp id (by simp [bQ])];exact h1,h2⟩
  | kL id st i off es=>obtain ⟨b,h1,h2⟩:=h;exact ⟨b,by rw [hp id (by simp [bQ])];exact h1,h2⟩
  | fM id st=>show bJ id st=some v;rw [hp id (by simp [bQ])];exact h
  | AJ id st n=>
    obtain ⟨h,hn⟩:=h
    rcases h with ⟨b,c,h1,h2⟩ | h
    · exact ⟨.inl ⟨b,c,by rw [hp id (by simp [bQ])];exact h1,h2⟩,hn⟩
    · exact ⟨.inr h,hn⟩
  | _=>exact h
theorem yA {i:Nat}:∀ {ds:List D} (j:Nat) (h:j<ds.length),i∈bQ ds[j]→i∈dZ ds
  | d::r,0,_,h=>by simp only [dZ,List.mem_append];exact .inl h
  | d::r,j+1,hj,h=>by
    simp only [dZ,List.mem_append]
    exact .inr (yA j (by simpa using hj) (by simpa using h))
theorem wK {i:Nat}:∀ {ds:List D} (j:Nat) (h:j<ds.length),i∈gK ds[j]→i∈sO ds
  | d::r,0,_,h=>by simp only [sO,List.mem_append];exact .inl h
  | d::r,j+1,hj,h=>by
    simp only [sO,List.mem_append]
    exact .inr (wK j (by simpa using hj) (by simpa using h))
theorem aQ.ptr {ds:List D} {f:Nat→Value} (hp:∀ i∈dZ ds,∀ st,bJ i st=pt i st) (h:aQ w G pt ds f):aQ w G bJ ds f:=
  fun j hj=>⟨(h j hj).1.ptr fun i hi=>hp i (yA j hj hi),(h j hj).2⟩
theorem wU.ptr {d:D} {v:Value} (hp:∀ i∈gK d,∀ st,bJ i st=pt i st) (h:wU w G pt d v):wU w G bJ d v:=by
  cases d with
  | agg cs=>obtain ⟨arr,h1,h2,h3⟩:=h;exact ⟨arr,h1,h2,h3.ptr hp⟩
  | _=>simp only [wU] at h ⊢;exact bI.ptr hp h
theorem aY.ptr {d:D} {v:Value} (hp:∀ i∈refs d,∀ st,bJ i st=pt i st) (h:aY w G pt d v):aY w G bJ d v:=by
  cases d with
  | agg cs=>obtain ⟨arr,h1,h2,h3⟩:=h;exact ⟨arr,h1,h2,h3.ptr hp⟩
  | gB vs=>obtain ⟨arr,h1,h2,h3⟩:=h;exact ⟨arr,h1,h2,fun j hj=>(h3 j hj).ptr fun i hi=>hp i (wK j hj hi)⟩
  | fn f cs=>obtain ⟨arr,h1,h2,h3,h4⟩:=h;exact ⟨arr,h1,h2,h3.ptr hp,h4⟩
  | aH st l cs=>simp only [aY,bI] at h
  | _=>simp only [aY] at h ⊢;exact bI.ptr hp h
theorem oD.ptr {id:Nat} {d:D} (hid:d≠.undef→∀ st,bJ id st=pt id st) (hp:∀ i∈refs d,∀ st,bJ i st=pt i st) (h:oD w G pt id d):oD w G bJ id d:=by
  cases d with
  | undef=>trivial
  | aH st live cs=>
    intro hl
    obtain ⟨b,h1,h2,h3,h4⟩:=h hl
    exact ⟨b,by rw [hid (by simp)];exact h1,h2,h3,h4.ptr hp⟩
  | aU st live ar t l=>
    intro hl
    have h':=h hl
    cases ar with
    | true=>
      simp only [if_true] at h' ⊢
      rw [hid (by simp)];exact h'
    | false=>
      simp only [Bool.false_eq_true,if_false] at h' ⊢
      rw [hid (by simp)];exact h'
  | iC st l=>
    obtain ⟨h1,h2⟩:=h
    have e:inf w bJ id st=inf w pt id st:=funext fun j=>by simp only [inf,hid (by simp)]
    refine ⟨by rw [hid (by simp)];exact h1,?_⟩
    rw [e]
    exact h2.ptr fun i hi=>by
      exfalso
      have:∀ l:List (Int×(List Int×Unit)),i ∉ dZ (inn l):=by
        intro l
        induction l with
        | nil=>simp [inn,dZ]
        | cons r l ih=>simp only [inn,List.map_cons,dZ,bQ,List.nil_append] at ih ⊢;exact ih
      exact this l hi
  | _=>exact h.elim
theorem GN {id:Nat} {d:D} (hid:d≠.undef→∀ st,bJ id st=pt id st) (b:Nat):fI w bJ b id d=fI w pt b id d:=by
  cases d with
  | aH st live cs=>cases live<;>simp only [fI];rw [hid (by simp)]
  | aU st live ar t l=>cases live<;>simp only [fI];rw [hid (by simp)]
  | iC st l=>
    have e:inf w bJ id st=inf w pt id st:=funext fun j=>by simp only [inf,hid (by simp)]
    simp only [fI,hid (by simp),e]
  | _=>rfl
variable {E:Env} {C:Ctx} {s s':St} {a:Act}
theorem Rel.restrict (R:Rel E C s a w G pt) (hk:∀ k,get s' k=get s k∨get s' k = .undef) (hc:∀ k i,i∈refs (get s' k)→get s' (2*i+1)≠.undef)
    (hp:C.pin=none∨get s' 1≠.undef):∃ bJ,Rel E C s' a w G bJ:=by
  refine ⟨fun id st=>bif gP (get s' (2*id+1)) then none else pt id st,?_⟩
  have same:∀ id,get s' (2*id+1)≠.undef→∀ st,(bif gP (get s' (2*id+1)) then none else pt id st)=pt id st:=by
    intro id h st
    cases hu:gP (get s' (2*id+1)) with
    | true=>exact absurd (EH.1 hu) h
    | false=>rfl
  have D9:∀ b t,cT s' a b t≤cT s a b t:=by
    intro b t
    simp only [cT]
    rcases hk (2*t) with h | h
    · rw [h];exact Nat.le_refl _
    · rw [h,dG];exact Nat.zero_le _
  have cb1:∀ b id,cB s' w (fun id st=>bif gP (get s' (2*id+1)) then none else pt id st) b id≤cB s w pt b id:=by
    intro b id
    simp only [cB]
    rcases hk (2*id+1) with h | h
    · rw [GN (pt:=pt) (fun hne=>same id hne),h];exact Nat.le_refl _
    · rw [h];exact Nat.zero_le _
  have tc:∀ b,TC E.n C.m s' a w (fun id st=>bif gP (get s' (2*id+1)) then none else pt id st) b≤TC E.n C.m s a w pt b:=
    fun b=>Nat.add_le_add (qx (D9 b)) (qx (cb1 b))
  refine ⟨R.sz,R.df,fun t=>?_,fun id=>?_,fun t ht=>?_,fun id hid=>?_,fun b=>Nat.le_trans (tc b) (R.ct b),fun b hb=>R.cb b (Nat.lt_of_lt_of_le hb (tc b)),R.fr,R.ex,R.gz,R.os,R.out,R.tape,R.hs,
    fun id st hs=>?_,R.gl,fun v hv=>?_⟩
  · rcases hk (2*t) with h | h
    · have:=R.tm t
      rw [←h] at this
      exact this.ptr fun i hi=>same i (hc _ i hi)
    · rw [h];trivial
  · rcases hk (2*id+1) with h | h
    · have:=R.bx id
      rw [←h] at this
      exact this.ptr (fun hne=>same id hne) fun i hi=>same i (hc _ i hi)
    · rw [h];trivial
  · rcases hk (2*t) with h | h
    · rw [h];exact R.ht t ht
    · exact h
  · rcases hk (2*id+1) with h | h
    · rw [h];exact R.hb id hid
    · exact h
  · rcases hk (2*id+1) with h | h
    · by_cases hne:get s' (2*id+1) = .undef
      · show (bif gP (get s' (2*id+1)) then none else pt id st)=none
        rw [hne];rfl
      · show (bif gP (get s' (2*id+1)) then none else pt id st)=none
        rw [same id hne]
        exact R.pf id st (by rw [←h];exact hs)
    · show (bif gP (get s' (2*id+1)) then none else pt id st)=none
      rw [h];rfl
  · show (bif gP (get s' (2*0+1)) then none else pt 0 1)=some v
    rcases hp with hp | hp
    · rw [hp] at hv;cases hv
    · rw [same 0 hp];exact R.pn v hv
end
theorem mR {R S:Type} (f:R→Out S):∀ (o:Out R),(o.bind f).den=(match o.den with | some r=>(f r).den | none=>none)
  | .ret r=>rfl
  | .fail=>rfl
  | .ite c a b=>by
    simp only [Out.bind,Out.den]
    cases c
    · exact mR f b
    · exact mR f a
  | .call t r k=>by
    simp only [Out.bind,Out.den]
    cases r with
    | none=>rfl
    | some x=>exact mR f (k x)
theorem mU {R:Type} {t:Ty} {o:Option t.den} {k:t.den→Out R} {y:R} (h:(Out.call t o k).den=some y):∃ x,o=some x∧(k x).den=some y:=by
  cases o with
  | none=>cases h
  | some x=>exact ⟨x,rfl,h⟩
theorem bind_some {R S:Type} {f:R→Out S} {o:Out R} {y:S} (h:(o.bind f).den=some y):∃ r,o.den=some r∧(f r).den=some y:=by
  rw [mR] at h
  cases hr:o.den with
  | none=>rw [hr] at h;cases h
  | some r=>rw [hr] at h;exact ⟨r,rfl,h⟩
theorem fT {R S:Type} {f:R→Option S}:∀ {o:Out R} {y:S},(o.jL f).den=some y→∃ r,o.den=some r∧f r=some y
  | .ret r,y,h=>by
    simp only [Out.jL] at h
    cases hf:f r with
    | none=>rw [hf] at h;cases h
    | some x=>rw [hf] at h;simp only [Out.den,Option.some.injEq] at h;subst h;exact ⟨r,rfl,hf⟩
  | .fail,y,h=>by cases h
  | .ite c a b,y,h=>by
    simp only [Out.jL,Out.den] at h ⊢
    cases c
    · exact fT (o:=b) h
    · exact fT (o:=a) h
  | .call t r k,y,h=>by
    simp only [Out.jL,Out.den] at h ⊢
    cases r with
    | none=>cases h
    | some x=>exact fT (o:=k x) h
end Go.aW
namespace Go.aW
theorem jQ:∀ (u s:St) (k:Nat),k ∉ aJ u→get (u++s) k=get s k
  | [],_,_,_=>rfl
  | (j,d)::r,s,k,h=>by
    simp only [aJ,List.mem_cons,not_or] at h
    rw [List.cons_append,aF,if_neg h.1]
    exact jQ r s k h.2
theorem vD (k:Nat):(odd k=true∧∃ i,k=2*i+1)∨(odd k=false∧∃ i,k=2*i):=by
  cases h:odd k with
  | true=>
    refine .inl ⟨rfl,k / 2,?_⟩
    have:k%2=1:=by simpa [odd] using h
    omega
  | false=>
    refine .inr ⟨rfl,k / 2,?_⟩
    have:¬ k%2=1:=Nat.ne_of_beq_eq_false h
    omega
section
variable {E:Env} {C:Ctx} {s:St} {a:Act} {w:World} {G:Nat→Nat} {pt:Nat→Nat→Option Value}
theorem Cw {t:Ty} {l:List t.den} {v:Value} (h:bI w G pt (.sl 2 t l) v) (b:Nat):dw b (.sl 2 t l) v=bR b (some v):=by
  obtain ⟨ad,n,c,hv,_,_,hs⟩:=h
  subst hv
  rcases hs with ⟨h5,_⟩ | ⟨b',h5,_⟩<;>subst h5<;>simp [bR,bA,dw]
theorem yB (X st:Nat) (v:Value):aS pt X st v X st=some v:=by simp [aS]
theorem yC (R:Rel E C s a w G pt) (X:Nat) (v:Value):∀ i j u,pt i j=some u→aS pt X (aI (get s (2*X+1))+1) v i j=some u:=by
  intro i j u h
  unfold aS
  rw [if_neg]
  · exact h
  · rintro ⟨rfl,rfl⟩
    rw [R.pf i _ (Nat.lt_succ_self _)] at h;cases h
theorem EI (R:Rel E C s a w G pt) (X:Nat) (v:Value) {st:Nat} (h:aI (get s (2*X+1))+1<st):aS pt X (aI (get s (2*X+1))+1) v X st=none:=by
  unfold aS
  rw [if_neg (by omega)]
  exact R.pf X st (by omega)
theorem Rel.abz (R:Rel E C s a w G pt) {u X:Nat} (hX:X<C.m) {t:Ty} {l:List t.den} (hs:get s (2*u) = .sl 2 t l) :
    ∃ bJ,Rel E C ((2*u,.fM X (aI (get s (2*X+1))+1))::(2*X+1,.aU (aI (get s (2*X+1))+1) true false t l)::s) a w G bJ:=by
  have hu:u<E.n:=by
    rcases Nat.lt_or_ge u E.n with h | h
    · exact h
    · rw [R.ht u h] at hs;cases hs
  have hr:=R.tm u
  rw [hs] at hr
  refine ⟨aS pt X (aI (get s (2*X+1))+1) (a.tmps.getD u undef),?_⟩
  refine R.step (fun i=>i=u) (fun i=>i=X) (fun _=>False) rfl R.df (fun i hi=>?_) (fun id hid=>?_) (Ext.refl _ _) (yC R X _) (fun _ _ _=>⟨rfl,rfl⟩) (fun b h=>h.elim) (fun b h=>h.elim) (fun b h=>h.elim)
    (fun i hi=>?_) (fun id hid=>?_) (fun c1 c2 b=>?_) R.gz rfl rfl rfl (Nat.le_refl _)
  · simp only [bV,get_bt,hi,if_false];exact ⟨trivial,trivial⟩
  · simp only [gD,bG,hid,if_false];exact ⟨trivial,funext fun j=>by simp [aS,hid]⟩
  · subst hi
    refine ⟨hu,?_⟩
    simp only [bV,if_true]
    show aS _ _ _ _ _ _=_
    simp [aS]
  · subst hid
    simp only [gD,bG,if_true]
    refine ⟨hX,fun _=>?_,fun st hst=>EI R id _ hst⟩
    simp only [Bool.false_eq_true,if_false]
    obtain ⟨ad,n,c,h1,h2⟩:=hr
    exact ⟨ad,n,c,by simp [aS,h1],h2⟩
  · have e1:=bM (n:=E.n) hu (fun i hi=>c1 i hi b)
    have e2:=bM (n:=C.m) (x:=X) hX (fun i hi=>c2 i hi b)
    have e3:cT ((2*u,.fM X (aI (get s (2*X+1))+1))::(2*X+1,.aU (aI (get s (2*X+1))+1) true false t l)::s) a b u=0:=by
      simp only [cT,bV,if_true]
      cases a.tmps.getD u undef<;>rfl
    have e4:cB ((2*u,.fM X (aI (get s (2*X+1))+1))::(2*X+1,.aU (aI (get s (2*X+1))+1) true false t l)::s) w (aS pt X (aI (get s (2*X+1))+1) (a.tmps.getD u undef)) b X=cT s a b u:=by
      simp only [cB,gD,bG,if_true,fI,cT,hs]
      have:cO b (.sl 2 t l) (a.tmps.getD u undef)=dw b (.sl 2 t l) (a.tmps.getD u undef):=by cases a.tmps.getD u undef<;>rfl
      rw [this,Cw (pt:=pt) hr,yB]
    have h1:=R.ct b
    have h2:=R.cb b
    unfold TC at *
    exact ⟨by omega,fun h=>h2 (by omega)⟩
theorem Rel.abA (R:Rel E C s a w G pt) {u X st:Nat} {t:Ty} {l:List t.den} (hX:get s (2*X+1) = .aU st true false t l) (hs:get s (2*u) = .fM X st) :
    Rel E C ((2*u,.sl 2 t l)::(2*X+1,.aU st false false t l)::s) a w G pt:=by
  have hu:u<E.n:=by
    rcases Nat.lt_or_ge u E.n with h | h
    · exact h
    · rw [R.ht u h] at hs;cases hs
  have WA:=dY R (id:=X) (by rw [hX];simp)
  have hr:pt X st=some (a.tmps.getD u undef):=by have:=R.tm u;rw [hs] at this;exact this
  have hB:=R.bx X
  rw [hX] at hB
  obtain ⟨ad,n,c,q1,q2⟩:=hB rfl
  have hv:a.tmps.getD u undef = .slice ad n c:=by rw [hr] at q1;exact Option.some.inj q1
  have rep:bI w G pt (.sl 2 t l) (a.tmps.getD u undef):=⟨ad,n,c,hv,q2⟩
  refine R.step (fun i=>i=u) (fun i=>i=X) (fun _=>False) rfl R.df (fun i hi=>?_) (fun id hid=>?_) (Ext.refl _ _) (fun _ _ _ h=>h) (fun _ _ _=>⟨rfl,rfl⟩) (fun b h=>h.elim) (fun b h=>h.elim) (fun b h=>h.elim)
    (fun i hi=>?_) (fun id hid=>?_) (fun c1 c2 b=>?_) R.gz rfl rfl rfl (Nat.le_refl _)
  · simp only [bV,get_bt,hi,if_false];exact ⟨trivial,trivial⟩
  · simp only [gD,bG,hid,if_false];exact ⟨trivial,trivial⟩
  · subst hi
    refine ⟨hu,?_⟩
    simp only [bV,if_true]
    exact rep
  · subst hid
    simp only [gD,bG,if_true]
    exact ⟨WA,(by intro h;cases h),fun j hj=>R.pf id j (by rw [hX];exact hj)⟩
  · have e1:=bM (n:=E.n) hu (fun i hi=>c1 i hi b)
    have e2:=bM (n:=C.m) (x:=X) WA (fun i hi=>c2 i hi b)
    have e3:cT s a b u=0:=by
      simp only [cT,hs]
      cases a.tmps.getD u undef<;>rfl
    have e4:cT ((2*u,.sl 2 t l)::(2*X+1,.aU st false false t l)::s) a b u=bR b (pt X st):=by
      simp only [cT,bV,if_true]
      have:cO b (.sl 2 t l) (a.tmps.getD u undef)=dw b (.sl 2 t l) (a.tmps.getD u undef):=by cases a.tmps.getD u undef<;>rfl
      rw [this,Cw rep,hr]
    have e5:cB ((2*u,.sl 2 t l)::(2*X+1,.aU st false false t l)::s) w pt b X=0:=by
      simp only [cB,gD,bG,if_true,fI]
    have e6:cB s w pt b X=bR b (pt X st):=by simp only [cB,hX,fI]
    have h1:=R.ct b
    have h2:=R.cb b
    unfold TC at *
    exact ⟨by omega,fun h=>h2 (by omega)⟩
theorem Bg {cs:List D} {j:Nat} {d:D} (h:(cs.drop j).take 1=[d]) (d':D):j+[d'].length≤cs.length:=by
  have:=congrArg List.length h
  simp at this ⊢
  omega
theorem Rel.abB (R:Rel E C s a w G pt) {id j X st:Nat} {cs:List D} (hX:X<C.m) (hne:id≠X) {t:Ty} {l:List t.den}
    (hb:get s (2*id+1) = .aH st true cs) (hj:(cs.drop j).take 1=[.sl 2 t l]) :
    ∃ bJ,Rel E C ((2*id+1,.aH st true (cZ cs j [.fM X (aI (get s (2*X+1))+1)]))::(2*X+1,.aU (aI (get s (2*X+1))+1) true false t l)::s) a w G bJ:=by
  have hid:=dY R (id:=id) (by rw [hb];simp)
  have hB:=R.bx id
  rw [hb] at hB
  obtain ⟨blk,h1,h2,h3,h4⟩:=hB rfl
  have hblk:bA (pt id st)=some blk:=by rw [h1];rfl
  have hsub:=h4.sub j 1
  rw [hj] at hsub
  have hcell:=(hsub 0 (by simp)).1
  simp only [List.getElem_cons_zero,Nat.add_zero] at hcell
  have hl1:=Bg hj (.fM X (aI (get s (2*X+1))+1))
  generalize hv:aC w blk j=v at hcell
  have hpt:=yC R X v
  refine ⟨aS pt X (aI (get s (2*X+1))+1) v,?_⟩
  have hpi:aS pt X (aI (get s (2*X+1))+1) v id st=pt id st:=by simp [aS,hne]
  refine R.step (fun _=>False) (fun i=>i=id∨i=X) (fun _=>False) rfl R.df (fun i _=>⟨by simp,rfl⟩) (fun i hi=>?_) (Ext.refl _ _) hpt (fun _ _ _=>⟨rfl,rfl⟩) (fun b h=>h.elim) (fun b h=>h.elim) (fun b h=>h.elim)
    (fun i hi=>hi.elim) (fun i hi=>?_) (fun c1 c2 b=>?_) R.gz rfl rfl rfl (Nat.le_refl _)
  · simp only [not_or] at hi
    simp only [bG,hi.1,hi.2,if_false];exact ⟨trivial,funext fun j=>by simp [aS,hi.2]⟩
  · by_cases hiX:i=X
    · subst hiX
      simp only [bG,if_true,if_neg (Ne.symm hne)]
      refine ⟨hX,fun _=>?_,fun st hst=>EI R i _ hst⟩
      simp only [Bool.false_eq_true,if_false]
      obtain ⟨ad,n,c,g1,g2⟩:=hcell
      exact ⟨ad,n,c,by simp [aS,g1],g2⟩
    · have hii:i=id:=by rcases hi with h | h;exact h;exact absurd h hiX
      subst hii
      simp only [bG,if_true]
      refine ⟨hid,fun _=>⟨blk,by rw [hpi];exact h1,by rw [fD hl1];exact h2,h3,?_⟩,fun st' hst'=>?_⟩
      · refine (h4.mono (Ext.refl _ _) hpt (fun _ _=>rfl) (fun _ _=>⟨rfl,rfl⟩)).cZ (fun m hm=>?_) hl1
        have:m=0:=by simp at hm;exact hm
        subst this
        refine ⟨?_,(h4 (j+0) (by simp at hl1;omega)).2⟩
        simp only [List.getElem_cons_zero,Nat.add_zero,hv]
        show aS _ _ _ _ _ _=_
        simp [aS]
      · have:=R.pf i st' (by rw [hb];exact hst')
        simp only [aS];rw [if_neg (by omega)];exact this
  · have e1:=aM (n:=E.n) (fun i _=>c1 i (fun h=>h) b)
    have e2:=mJ (n:=C.m) hid hX hne (fun i h1 h2=>c2 i (fun h=>by rcases h with h | h;exact h1 h;exact h2 h) b)
    have e3:cB s w pt b id=bR b (pt id st)+aK b cs (aC w blk):=by simp only [cB,hb,fI,hblk,Option.getD_some]
    have e4:cB ((2*id+1,.aH st true (cZ cs j [.fM X (aI (get s (2*X+1))+1)]))::(2*X+1,.aU (aI (get s (2*X+1))+1) true false t l)::s) w (aS pt X (aI (get s (2*X+1))+1) v) b id =
        bR b (pt id st)+aK b (cZ cs j [.fM X (aI (get s (2*X+1))+1)]) (aC w blk):=by
      simp only [cB,bG,if_true,fI,hpi,hblk,Option.getD_some]
    have e5:cB ((2*id+1,.aH st true (cZ cs j [.fM X (aI (get s (2*X+1))+1)]))::(2*X+1,.aU (aI (get s (2*X+1))+1) true false t l)::s) w (aS pt X (aI (get s (2*X+1))+1) v) b X=dw b (.sl 2 t l) v:=by
      simp only [cB,bG,if_true,if_neg (Ne.symm hne),fI]
      rw [Cw (pt:=pt) hcell,yB]
    have e6:=gW (b:=b) (f:=aC w blk) hl1
    have e7:aK b [D.fM X (aI (get s (2*X+1))+1)] (fun i=>aC w blk (j+i))=0:=by
      show dw b (.fM X _) _+0=0
      cases aC w blk (j+0)<;>rfl
    have e8:aK b ((cs.drop j).take [D.fM X (aI (get s (2*X+1))+1)].length) (fun i=>aC w blk (j+i))=dw b (.sl 2 t l) v:=by
      show aK b ((cs.drop j).take 1) _=_
      rw [hj]
      show dw b (.sl 2 t l) (aC w blk (j+0))+0=_
      rw [Nat.add_zero,Nat.add_zero,hv]
    have h1:=R.ct b
    have h2:=R.cb b
    unfold TC at *
    exact ⟨by omega,fun h=>h2 (by omega)⟩
theorem Rel.abD (R:Rel E C s a w G pt) {id j X st st':Nat} {cs:List D} (hne:id≠X) {t:Ty} {l:List t.den} (hX:get s (2*X+1) = .aU st true false t l)
    (hb:get s (2*id+1) = .aH st' true cs) (hj:(cs.drop j).take 1=[.fM X st]) :
    Rel E C ((2*id+1,.aH st' true (cZ cs j [.sl 2 t l]))::(2*X+1,.aU st false false t l)::s) a w G pt:=by
  have hid:=dY R (id:=id) (by rw [hb];simp)
  have WA:=dY R (id:=X) (by rw [hX];simp)
  have hB:=R.bx id
  rw [hb] at hB
  obtain ⟨blk,h1,h2,h3,h4⟩:=hB rfl
  have hblk:bA (pt id st')=some blk:=by rw [h1];rfl
  have hsub:=h4.sub j 1
  rw [hj] at hsub
  have hcell:=(hsub 0 (by simp)).1
  simp only [List.getElem_cons_zero,Nat.add_zero] at hcell
  have hl1:=Bg hj (.sl 2 t l)
  generalize hv:aC w blk j=v at hcell
  have hr:pt X st=some v:=hcell
  have hBX:=R.bx X
  rw [hX] at hBX
  obtain ⟨ad,n,c,q1,q2⟩:=hBX rfl
  have hvv:v = .slice ad n c:=by rw [hr] at q1;exact Option.some.inj q1
  have rep:bI w G pt (.sl 2 t l) v:=⟨ad,n,c,hvv,q2⟩
  refine R.step (fun _=>False) (fun i=>i=id∨i=X) (fun _=>False) rfl R.df (fun i _=>⟨by simp,rfl⟩) (fun i hi=>?_) (Ext.refl _ _) (fun _ _ _ h=>h) (fun _ _ _=>⟨rfl,rfl⟩) (fun b h=>h.elim) (fun b h=>h.elim) (fun b h=>h.elim)
    (fun i hi=>hi.elim) (fun i hi=>?_) (fun c1 c2 b=>?_) R.gz rfl rfl rfl (Nat.le_refl _)
  · simp only [not_or] at hi
    simp only [bG,hi.1,hi.2,if_false];exact ⟨trivial,trivial⟩
  · by_cases hiX:i=X
    · subst hiX
      simp only [bG,if_true,if_neg (Ne.symm hne)]
      exact ⟨WA,(by intro h;cases h),fun j hj=>R.pf i j (by rw [hX];exact hj)⟩
    · have hii:i=id:=by rcases hi with h | h;exact h;exact absurd h hiX
      subst hii
      simp only [bG,if_true]
      refine ⟨hid,fun _=>⟨blk,h1,by rw [fD hl1];exact h2,h3,?_⟩,fun st' hst'=>?_⟩
      · refine h4.cZ (fun m hm=>?_) hl1
        have:m=0:=by simp at hm;exact hm
        subst this
        refine ⟨?_,(h4 (j+0) (by simp at hl1;omega)).2⟩
        simp only [List.getElem_cons_zero,Nat.add_zero,hv]
        exact rep
      · exact R.pf i st' (by rw [hb];exact hst')
  · have e1:=aM (n:=E.n) (fun i _=>c1 i (fun h=>h) b)
    have e2:=mJ (n:=C.m) hid WA hne (fun i h1 h2=>c2 i (fun h=>by rcases h with h | h;exact h1 h;exact h2 h) b)
    have e3:cB s w pt b id=bR b (pt id st')+aK b cs (aC w blk):=by simp only [cB,hb,fI,hblk,Option.getD_some]
    have e4:cB ((2*id+1,.aH st' true (cZ cs j [.sl 2 t l]))::(2*X+1,.aU st false false t l)::s) w pt b id =
        bR b (pt id st')+aK b (cZ cs j [.sl 2 t l]) (aC w blk):=by
      simp only [cB,bG,if_true,fI,hblk,Option.getD_some]
    have e5:cB ((2*id+1,.aH st' true (cZ cs j [.sl 2 t l]))::(2*X+1,.aU st false false t l)::s) w pt b X=0:=by
      simp only [cB,bG,if_true,if_neg (Ne.symm hne),fI]
    have e5':cB s w pt b X=dw b (.sl 2 t l) v:=by
      simp only [cB,hX,fI]
      rw [Cw rep,hr]
    have e6:=gW (b:=b) (f:=aC w blk) hl1
    have e7:aK b [D.sl 2 t l] (fun i=>aC w blk (j+i))=dw b (.sl 2 t l) v:=by
      show dw b (.sl 2 t l) (aC w blk (j+0))+0=_
      rw [Nat.add_zero,Nat.add_zero,hv]
    have e8:aK b ((cs.drop j).take [D.sl 2 t l].length) (fun i=>aC w blk (j+i))=0:=by
      show aK b ((cs.drop j).take 1) _=_
      rw [hj]
      show dw b (.fM X st) (aC w blk (j+0))+0=0
      cases aC w blk (j+0)<;>rfl
    have h1:=R.ct b
    have h2:=R.cb b
    unfold TC at *
    exact ⟨by omega,fun h=>h2 (by omega)⟩
theorem Ky {d:D} {x:(t:Ty)×t.den} {v:Value} {b o:Nat} (hx:yj d=some x) (h:bI w G pt d v) (hc:w.cell? ⟨b,o,none⟩=some v):x.1.nc=1∧bX w G x.1 x.2 b o:=by
  cases d with
  | int k n=>
    simp only [yj,Option.some.injEq] at hx
    subst hx
    exact ⟨rfl,by simp only [bX];rw [hc,h.1];exact ⟨rfl,h.2⟩⟩
  | bool z=>
    simp only [yj,Option.some.injEq] at hx
    subst hx
    exact ⟨rfl,by simp only [bX];rw [hc,show v = .bool z from h]⟩
  | str l=>
    simp only [yj,Option.some.injEq] at hx
    subst hx
    obtain ⟨s,h1,h2⟩:=h
    exact ⟨rfl,by simp only [bX];exact ⟨s,by rw [hc,h1],h2⟩⟩
  | sl f t l=>
    match f,hx,h with
    | 0,hx,h=>
      simp only [yj,Option.some.injEq] at hx
      subst hx
      obtain ⟨a,n,c,h1,h2,h3,h4,h5⟩:=h
      subst h2
      refine ⟨rfl,?_⟩
      simp only [bX]
      refine ⟨a,l.length,c,by rw [hc,h1],rfl,h3,h4,?_⟩
      rcases h5 with h5 | ⟨b1,o1,h5,h6,h7⟩
      · exact .inl h5
      · exact .inr ⟨b1,o1,h5,h6,h7⟩
    | n+1,hx,_=>cases hx
  | fO f t y=>
    simp only [yj,Option.some.injEq] at hx
    subst hx
    obtain ⟨b1,o1,h1,h2,h3⟩:=h
    refine ⟨rfl,?_⟩
    simp only [bX]
    exact ⟨b1,o1,by rw [hc,h1],h2,h3⟩
  | _=>cases hx
theorem wL:∀ {cs:List D} {x:(t:Ty)×t.den} {f:Nat→Value} {b o:Nat},qw cs=some x→aQ w G pt cs f→(∀ j,j<cs.length→w.cell? ⟨b,o+j,none⟩=some (f j))→x.1.nc=cs.length∧bX w G x.1 x.2 b o
  | [],x,f,b,o,hx,_,_=>by
    simp only [qw,Option.some.injEq] at hx
    subst hx
    exact ⟨rfl,by simp only [bX]⟩
  | d::r,x,f,b,o,hx,h,hc=>by
    simp only [qw] at hx
    split at hx
    · rename_i y z hy hz
      simp only [Option.some.injEq] at hx
      subst hx
      obtain ⟨p1,p2⟩:=Ky (b:=b) (o:=o) hy (h 0 (by simp)).1 (by simpa using hc 0 (by simp))
      obtain ⟨q1,q2⟩:=wL (f:=fun j=>f (j+1)) (b:=b) (o:=o+1) hz (fun j hj=>by
        have:=h (j+1) (by simpa using hj)
        rw [List.getElem_cons_succ] at this
        exact this) (fun j hj=>by
        have:=hc (j+1) (by simpa using hj)
        rw [show o+1+j=o+(j+1) by omega]
        exact this)
      refine ⟨by simp only [Ty.nc,List.length_cons];omega,?_⟩
      simp only [bX]
      rw [p1]
      exact ⟨p2,q2⟩
    · cases hx
theorem Rel.freeze (R:Rel E C s a w G pt) {u id st:Nat} {cs:List D} {x:(t:Ty)×t.den} (hu:get s (2*u) = .ptr id st 0) (hb:get s (2*id+1) = .aH st true cs) (hx:qw cs=some x) :
    ∃ G',Rel E C ([(2*id+1,.aH st false cs),(2*u,.gN x.1 [x.2] 0 0)]++s) a w G' pt:=by
  have hB:=R.bx id
  rw [hb] at hB
  obtain ⟨blk,h1,h2,h3,h4⟩:=hB rfl
  have hblk:bA (pt id st)=some blk:=by rw [h1];rfl
  have hid:=dY R (id:=id) (by rw [hb];simp)
  have hcb:0<cB s w pt blk id:=by
    simp only [cB,hb,fI,bR,hblk,if_true]
    omega
  have hpos:0<TC E.n C.m s a w pt blk:=Nat.lt_of_lt_of_le hcb (R.gJ blk id)
  obtain ⟨hlt,hnew⟩:=R.cb blk hpos
  have hE:Ext w G w (fun b=>if b=blk then cs.length else G b):=⟨fun _ _ _=>rfl,fun b=>by
    by_cases h:b=blk
    · subst h;rw [h3];exact Nat.zero_le _
    · simp [h]⟩
  have gu:∀ t,t≠u→get ([(2*id+1,.aH st false cs),(2*u,.gN x.1 [x.2] 0 0)]++s) (2*t)=get s (2*t):=fun t ht=>by
    show get ((2*id+1,_)::(2*u,_)::s) (2*t)=_
    rw [aF,if_neg (by omega),aF,if_neg (by omega)]
  have gi:∀ i,i≠id→get ([(2*id+1,.aH st false cs),(2*u,.gN x.1 [x.2] 0 0)]++s) (2*i+1)=get s (2*i+1):=fun i hi=>by
    show get ((2*id+1,_)::(2*u,_)::s) (2*i+1)=_
    rw [aF,if_neg (by omega),aF,if_neg (by omega)]
  have gu0:get ([(2*id+1,.aH st false cs),(2*u,.gN x.1 [x.2] 0 0)]++s) (2*u) = .gN x.1 [x.2] 0 0:=by
    show get ((2*id+1,_)::(2*u,_)::s) (2*u)=_
    rw [aF,if_neg (by omega),aF,if_pos rfl]
  have gi0:get ([(2*id+1,.aH st false cs),(2*u,.gN x.1 [x.2] 0 0)]++s) (2*id+1) = .aH st false cs:=by
    show get ((2*id+1,_)::(2*u,_)::s) (2*id+1)=_
    rw [aF,if_pos rfl]
  have hun:u<E.n:=by
    rcases Nat.lt_or_ge u E.n with h | h
    · exact h
    · have:=R.ht u h
      rw [hu] at this
      cases this
  refine ⟨fun b=>if b=blk then cs.length else G b,R.step (fun t=>t=u) (fun i=>i=id) (fun b=>b=blk) rfl R.df (fun t ht=>⟨gu t ht,rfl⟩) (fun i hi=>⟨gi i hi,rfl⟩) hE (fun _ _ _ h=>h)
    (fun b hb' _=>⟨rfl,by simp [show ¬ b=blk from hb']⟩) (fun b hb' t _=>by rw [show b=blk from hb'];exact R.bt hcb t) (fun b hb' i hi=>by rw [show b=blk from hb'];exact R.bb hcb hi) (fun b hb'=>by rw [show b=blk from hb'];exact hnew)
    (fun t ht=>?_) (fun i hi=>?_) (fun c1 c2 b=>?_) (fun b hb'=>?_) rfl rfl rfl (Nat.le_refl _)⟩
  · have ht:t=u:=ht
    subst ht
    refine ⟨hun,?_⟩
    rw [gu0]
    have ht:=R.tm t
    rw [hu] at ht
    obtain ⟨b',q1,q2⟩:=ht
    rw [hblk] at q1
    have q1:blk=b':=by simpa using q1
    subst q1
    have h4':aQ w (fun b=>if b=blk then cs.length else G b) pt cs (aC w blk):=fun j hj=>⟨bI.mono hE (fun _ _ _ h=>h) (h4 j hj).1 fun b hb'=>by
      have hne:b≠blk:=by
        rintro rfl
        have e1:aK b cs (aC w b)≤0:=by
          have:=R.ct b
          have h5:=R.gJ b id
          simp only [cB,hb,fI,bR,hblk,if_true,Option.getD_some] at h5
          omega
        have:=iE (b:=b) (ds:=cs) (f:=aC w b) j hj
        omega
      exact ⟨rfl,by simp [hne]⟩,(h4 j hj).2⟩
    obtain ⟨p1,p2⟩:=wL (b:=blk) (o:=0) hx h4' (fun j hj=>by rw [Nat.zero_add];exact kF h2 hj)
    refine ⟨blk,0,by rw [q2];simp,by simp,by simp [p1],fun i hi=>?_⟩
    have:i=0:=by simpa using hi
    subst this
    simpa using p2
  · have hi:i=id:=hi
    subst hi
    refine ⟨hid,?_,fun st' h=>?_⟩
    · rw [gi0]
      intro h
      cases h
    · rw [gi0] at h
      exact R.pf i st' (by rw [hb];exact h)
  · have hle:TC E.n C.m ([(2*id+1,.aH st false cs),(2*u,.gN x.1 [x.2] 0 0)]++s) a w pt b≤TC E.n C.m s a w pt b:=by
      unfold TC
      refine Nat.add_le_add (qx fun t=>?_) (qx fun i=>?_)
      · by_cases ht:t=u
        · subst ht
          simp only [cT]
          rw [gu0]
          have:cO b (.gN x.1 [x.2] 0 0) (a.tmps.getD t undef)=0:=by cases a.tmps.getD t undef<;>rfl
          omega
        · exact Nat.le_of_eq (c1 t ht b)
      · by_cases hi:i=id
        · subst hi
          simp only [cB]
          rw [gi0]
          exact Nat.zero_le _
        · exact Nat.le_of_eq (c2 i hi b)
    exact ⟨Nat.le_trans hle (R.ct b),fun h=>R.cb b (Nat.lt_of_lt_of_le h hle)⟩
  · have:b≠blk:=by omega
    simp [this]
    exact R.gz b hb'
theorem Rel.sU (R:Rel E C s a w G pt) (hm:E.n≤C.m) (k j X:Nat):∃ G' bJ,Rel E C (sU E.n s k j X++s) a w G' bJ:=by
  unfold aW.sU
  cases hdp:M5 (get s (2*X+1)) with
  | true=>
    unfold o7
    simp only [cond_true]
    split
    · rename_i st l hb
      exact ⟨G,pt,(R.flatten hb).1⟩
    · exact ⟨G,pt,R⟩
  | false=>
  simp only [cond_false]
  cases hX:Nat.blt X E.n with
  | false=>exact ⟨G,pt,R⟩
  | true=>
    have hX':X<C.m:=by have:X<E.n:=by simpa [Nat.blt_eq] using hX
                       omega
    rcases vD k with ⟨ho,i,rfl⟩ | ⟨ho,i,rfl⟩
    · simp only [ho,cond_true]
      split
      · rename_i st cs hb
        split
        · rename_i f t l hj
          cases hg:(Nat.beq f 2&&(Nat.blt 0 t.nc && !Nat.beq ((2*i+1) / 2) X)) with
          | false=>exact ⟨G,pt,R⟩
          | true=>
            simp only [Bool.and_eq_true,Bool.not_eq_true'] at hg
            have hf:=Nat.eq_of_beq_eq_true hg.1
            subst hf
            have hne:i≠X:=by have:=Nat.ne_of_beq_eq_false hg.2.2;omega
            exact ⟨G,R.abB hX' hne hb hj⟩
        · exact ⟨G,pt,R⟩
      · exact ⟨G,pt,R⟩
    · simp only [ho,cond_true,cond_false]
      split
      · rename_i f t l hs
        cases hg:(Nat.beq f 2&&Nat.blt 0 t.nc) with
        | false=>exact ⟨G,pt,R⟩
        | true=>
          simp only [Bool.and_eq_true] at hg
          have hf:=Nat.eq_of_beq_eq_true hg.1
          subst hf
          exact ⟨G,R.abz hX' hs⟩
      · rename_i id st off hs
        unfold I9
        split
        · rename_i st' cs hb
          split
          · rename_i x hx
            cases hg:(Nat.beq st st' && Nat.beq off 0) with
            | false=>exact ⟨G,pt,R⟩
            | true=>
              simp only [Bool.and_eq_true] at hg
              have h1:=Nat.eq_of_beq_eq_true hg.1
              have h2:=Nat.eq_of_beq_eq_true hg.2
              subst h1 h2
              obtain ⟨G',R'⟩:=R.freeze hs hb hx
              exact ⟨G',pt,R'⟩
          · exact ⟨G,pt,R⟩
        · exact ⟨G,pt,R⟩
      · exact ⟨G,pt,R⟩
theorem Rel.lU (R:Rel E C s a w G pt) (k j X:Nat):Rel E C (lU s k j X++s) a w G pt:=by
  unfold aW.lU
  split
  · rename_i st t l hX
    rcases vD k with ⟨ho,i,rfl⟩ | ⟨ho,i,rfl⟩
    · simp only [ho,cond_true]
      split
      · rename_i st' cs hb
        split
        · rename_i Y st2 hj
          cases hg:(Nat.beq Y X&&(Nat.beq st2 st && !Nat.beq ((2*i+1) / 2) X)) with
          | false=>exact R
          | true=>
            simp only [Bool.and_eq_true,Bool.not_eq_true'] at hg
            have hY:=Nat.eq_of_beq_eq_true hg.1
            have hS:=Nat.eq_of_beq_eq_true hg.2.1
            subst hY hS
            have hne:i≠Y:=by have:=Nat.ne_of_beq_eq_false hg.2.2;omega
            exact R.abD hne hX hb hj
        · exact R
      · exact R
    · simp only [ho,cond_false]
      split
      · rename_i Y st2 hs
        cases hg:(Nat.beq Y X&&Nat.beq st2 st) with
        | false=>exact R
        | true=>
          simp only [Bool.and_eq_true] at hg
          have hY:=Nat.eq_of_beq_eq_true hg.1
          have hS:=Nat.eq_of_beq_eq_true hg.2
          subst hY hS
          exact R.abA hX hs
      · exact R
  · exact R
theorem Rel.nS (R:Rel E C s a w G pt) (k j X:Nat):Rel E C (nS s k j X++s) a w G pt:=by
  unfold aW.nS
  rw [List.append_assoc]
  refine Rel.lU ?_ k j X
  unfold o7
  split
  · rename_i st l hb
    exact (R.flatten hb).1
  · exact R
theorem Cx:∀ (l:List (Nat×Nat×Nat)) (r:Lv),(o8 l r).e=r.e
  | [],_=>rfl
  | _::l,r=>Cx l _
theorem vE:∀ (l:List (Nat×Nat×Nat)) (r:Lv) (a:Act) (w:World) (G:Nat→Nat) (pt:Nat→Nat→Option Value),Rel E C r.s a w G pt→Rel E C (o8 l r).s a w G pt
  | [],_,_,_,_,_,R=>R
  | p::l,r,a,w,G,pt,R=>vE l ⟨r.e,aJ (aW.nS r.s p.1 p.2.1 p.2.2)++r.ch,aW.nS r.s p.1 p.2.1 p.2.2++r.s⟩ a w G pt (R.nS p.1 p.2.1 p.2.2)
theorem rE:∀ (l:List (Nat×Nat×Nat)) (r:Lv) (s0:St),(∀ k,k ∉ r.ch→get r.s k=get s0 k)→∀ k,k ∉ (o8 l r).ch→get (o8 l r).s k=get s0 k
  | [],_,_,h=>h
  | p::l,r,s0,h=>rE l _ s0 fun k hk=>by
    simp only [List.mem_append,not_or] at hk
    show get (aW.nS r.s p.1 p.2.1 p.2.2++r.s) k=_
    rw [jQ _ _ _ hk.1]
    exact h k hk.2
theorem kY {α:Type} {n:Nat} (Q:α→Prop) (I:List Nat→St→Prop) (h1:∀ ch s k j X,I ch s→I (aJ (aW.sU n s k j X)++ch) (aW.sU n s k j X++s)) :
    ∀ (l:List (Nat×Nat×Nat)) (ch:List Nat) (s:St) (f:List Nat→St→α),I ch s→(∀ ch s,I ch s→Q (f ch s))→Q (Ja n l ch s f)
  | [],ch,s,f,hI,hf=>hf ch s hI
  | p::l,ch,s,f,hI,hf=>kY Q I h1 l _ _ f (h1 ch s p.1 p.2.1 p.2.2 hI) hf
end
end Go.aW
namespace Go.aW
section
variable {E:Env} {C:Ctx} {s:St} {a:Act} {w:World} {G:Nat→Nat} {pt:Nat→Nat→Option Value}
theorem M9 (cs:List D) (f:D→D):cZ cs 0 (((cs.drop 0).take cs.length).map f)=cs.map f:=by
  simp [cZ]
theorem Rel.abE (R:Rel E C s a w G pt) (t:Nat) (hnt:dK (get s (2*t))=false) (hu:t<E.n) :
    ∃ G',Rel E C ((2*t,view (get s (2*t)))::(2*t,share (get s (2*t)))::s) a w G' pt:=by
  obtain ⟨G',e,R1,h1,_⟩:=R.xK t hnt
  exact ⟨G',R1.weak t (Ext.refl _ _) (fun _ _=>rfl) (h1.view hnt) hu (fun b=>by rw [kR _ _ _ hnt];exact Nat.zero_le _)⟩
theorem Rel.abF (R:Rel E C s a w G pt) (id st:Nat) {cs:List D} (hb:get s (2*id+1) = .aH st true cs)
    (hv:∀ blk,bA (pt id st)=some blk→aQ w G pt (cs.map bU) (aC w blk)) :
    Rel E C ((2*id+1,.aH st true (cs.map bU))::s) a w G pt:=by
  have hB:=R.bx id
  rw [hb] at hB
  obtain ⟨blk,h1,h2,h3,h4⟩:=hB rfl
  have hblk:bA (pt id st)=some blk:=by rw [h1];rfl
  have hid:=dY R (id:=id) (by rw [hb];simp)
  refine R.step (fun _=>False) (fun i=>i=id) (fun _=>False) rfl R.df (fun t _=>⟨by simp,rfl⟩) (fun i hi=>⟨by simp [hi],rfl⟩) (Ext.refl _ _) (fun _ _ _ h=>h) (fun _ _ _=>⟨rfl,rfl⟩) (fun b h=>h.elim) (fun b h=>h.elim) (fun b h=>h.elim)
    (fun t h=>h.elim) (fun i hi=>?_) (fun c1 c2 b=>?_) R.gz rfl rfl rfl (Nat.le_refl _)
  · subst hi
    refine ⟨hid,?_,?_⟩
    · simp only [bG,if_true]
      exact fun _=>⟨blk,h1,by rw [List.length_map];exact h2,h3,hv blk hblk⟩
    · simp only [bG,if_true]
      intro st' hst'
      exact R.pf i st' (by rw [hb];exact hst')
  · have e1:=aM (n:=E.n) (f:=cT s a b) (g:=cT ((2*id+1,.aH st true (cs.map bU))::s) a b) (fun i _=>(c1 i (fun h=>h) b).symm)
    have e2:=bM (n:=C.m) (f:=cB s w pt b) (g:=cB ((2*id+1,.aH st true (cs.map bU))::s) w pt b) hid (fun i hi=>c2 i hi b)
    have e3:cB ((2*id+1,.aH st true (cs.map bU))::s) w pt b id≤cB s w pt b id:=by
      simp only [cB,bG,if_true,hb,fI]
      rw [gV mM]
      omega
    have h1:=R.ct b
    have h2:=R.cb b
    unfold TC at *
    exact ⟨by omega,fun h=>h2 (by omega)⟩
theorem yD (cs:List D):(cs.map bO).map bU=cs.map bU:=by
  rw [List.map_map]
  refine List.map_congr_left fun d _=>?_
  cases d<;>rfl
theorem Kz {M:List Nat} {k:Nat} {sh:Sh} {m:Nat} (hm:m ∉ M):get (ED M s k sh) m=get s m:=by
  unfold ED
  cases hc:((M7 (sW sh) (get s k) && !(sh.abs (get s k)).isSome)&&mem k M) with
  | false=>rfl
  | true=>
    simp only [cond_true]
    rw [Bool.and_eq_true,Bool.and_eq_true] at hc
    have hk:m≠k:=fun h=>by
      subst h
      exact hm (by
        have:=hc.2
        clear hc
        induction M with
        | nil=>cases this
        | cons x r ih=>
          simp only [mem,Bool.or_eq_true] at this
          rcases this with h | h
          · rw [Nat.eq_of_beq_eq_true h];simp
          · exact List.mem_cons_of_mem _ (ih (fun h2=>hm (List.mem_cons_of_mem _ h2)) h))
    cases odd k with
    | true=>
      simp only [cond_true]
      split
      · cases Nat.beq (sW sh) 0 with
        | true=>simp only [cond_true];rw [aF,if_neg hk,aF,if_neg hk]
        | false=>simp only [cond_false];rw [aF,if_neg hk]
      · rfl
    | false=>
      simp only [cond_false]
      cases dK (get s k) with
      | true=>rfl
      | false=>
        cases Nat.beq (sW sh) 0 with
        | true=>simp only [cond_true,cond_false];rw [aF,if_neg hk,aF,if_neg hk]
        | false=>simp only [cond_false];rw [aF,if_neg hk]
theorem KA (R:Rel E C s a w G pt) (M:List Nat) (k:Nat) (sh:Sh):∃ G',Rel E C (ED M s k sh) a w G' pt:=by
  unfold ED
  cases hc:((M7 (sW sh) (get s k) && !(sh.abs (get s k)).isSome)&&mem k M) with
  | false=>exact ⟨G,R⟩
  | true=>
    simp only [cond_true]
    rw [Bool.and_eq_true,Bool.and_eq_true] at hc
    rcases vD k with ⟨hk,i,rfl⟩ | ⟨hk,i,rfl⟩
    · rw [hk]
      simp only [cond_true]
      split
      · rename_i st cs hb
        obtain ⟨G',blk,e,hblk,hroom,R1,hr⟩:=R.Mx i st 0 cs.length hb (by omega)
        rw [M9] at R1
        cases Nat.beq (sW sh) 0 with
        | false=>exact ⟨G',R1⟩
        | true=>
          simp only [cond_true]
          have:=R1.abF i st (cs:=cs.map bO) (by rw [aF,if_pos rfl]) (fun b hb'=>by
            rw [hblk] at hb'
            simp only [Option.some.injEq] at hb'
            subst hb'
            rw [yD]
            have h2:aQ w G' pt (cs.map bO) (aC w blk):=by
              have h3:=hr
              simp only [List.drop_zero,List.take_length,Nat.zero_add] at h3
              exact h3
            exact h2.view)
          rw [yD] at this
          exact ⟨G',this⟩
      · exact ⟨G,R⟩
    · rw [hk]
      simp only [cond_false]
      cases hnt:dK (get s (2*i)) with
      | true=>exact ⟨G,R⟩
      | false=>
        simp only [cond_false]
        have hu:i<E.n:=by
          rcases Nat.lt_or_ge i E.n with h | h
          · exact h
          · have:=hc.1.1
            rw [R.ht i h] at this;cases this
        cases Nat.beq (sW sh) 0 with
        | true=>exact R.abE i hnt hu
        | false=>
          obtain ⟨G',e,R1,_⟩:=R.xK i hnt
          exact ⟨G',R1⟩
theorem rF {M:List Nat}:∀ {pl:Pl} {s:St} {m:Nat},m ∉ M→get (nT M pl s) m=get s m
  | [],_,_,_=>rfl
  | p::r,s,m,h=>by
    unfold nT
    rw [rF h,Kz h]
end
section
variable {E:Env} {C:Ctx} {a:Act} {w:World} {pt:Nat→Nat→Option Value}
theorem yE (M:List Nat):∀ (pl:Pl) {s:St} {G:Nat→Nat},Rel E C s a w G pt→∃ G',Rel E C (nT M pl s) a w G' pt
  | [],_,G,R=>⟨G,R⟩
  | p::r,s,G,R=>by
    obtain ⟨G1,R1⟩:=KA R M p.1 p.2
    exact yE M r R1
end
end Go.aW
namespace Go.aW
theorem mem_iff {k:Nat}:∀ {l:List Nat},mem k l=true↔k∈l
  | []=>by simp [mem]
  | x::r=>by
    simp only [mem,Bool.or_eq_true,List.mem_cons,mem_iff (l:=r)]
    constructor
    · rintro (h | h)
      · exact .inl (Nat.eq_of_beq_eq_true h)
      · exact .inr h
    · rintro (h | h)
      · subst h;exact .inl (Nat.beq_refl k)
      · exact .inr h
theorem kZ:∀ {a b:List Nat},subset a b=true→∀ k∈a,k∈b
  | [],_,_,k,h=>by simp at h
  | x::r,b,hs,k,h=>by
    simp only [subset,Bool.and_eq_true] at hs
    rcases List.mem_cons.1 h with h | h
    · subst h;exact mem_iff.1 hs.1
    · exact kZ hs.2 k h
theorem lg:∀ (s:St) (ks:List Nat) (k:Nat),get (strike ks s) k=bif mem k ks then .undef else get s k
  | [],ks,k=>by simp only [strike,get];cases mem k ks<;>rfl
  | (k0,d)::r,ks,k=>by
    simp only [strike]
    cases h0:mem k0 ks with
    | true=>
      simp only [cond_true]
      rw [lg r ks k,aF]
      by_cases hk:k=k0
      · subst hk;rw [h0];rfl
      · rw [if_neg hk]
    | false=>
      simp only [cond_false]
      rw [aF,aF]
      by_cases hk:k=k0
      · subst hk;rw [if_pos rfl,if_pos rfl,h0];rfl
      · rw [if_neg hk,if_neg hk,lg r (k0::ks) k]
        have:mem k (k0::ks)=mem k ks:=by
          simp only [mem,eX]
          rw [decide_eq_false hk,Bool.false_or]
        rw [this]
theorem vF {s' rest:St}:∀ {pl:Pl} {x:(nO pl).den},Ba pl s' = some x→∀ k,get (ou pl x++rest) k=get s' k∨get (ou pl x++rest) k=get rest k
  | [],_,_,k=>.inr rfl
  | p::r,x,h,k=>by
    simp only [Ba] at h
    split at h
    · rename_i y z h1 h2
      simp only [Option.some.injEq] at h
      subst h
      simp only [ou,List.cons_append]
      rw [aF]
      by_cases hk:k=p.1
      · subst hk
        rw [if_pos rfl]
        exact .inl (Sh.lT h1)
      · rw [if_neg hk]
        exact vF h2 k
    · cases h
theorem tu {s0:St}:∀ {s:St},closedIn s0 s=true→∀ k i,i∈refs (get s k)→get s0 (2*i+1)≠.undef
  | [],_,k,i,h=>by simp [get,refs,bQ] at h
  | (k0,d)::r,hc,k,i,h=>by
    simp only [closedIn,Bool.and_eq_true] at hc
    rw [aF] at h
    by_cases hk:k=k0
    · rw [if_pos hk] at h
      have:=List.all_eq_true.1 hc.1 i h
      intro hu
      rw [hu] at this
      simp [gP] at this
    · rw [if_neg hk] at h
      exact tu hc.2 k i h
section
variable {E:Env} {C:Ctx} {s s':St} {a:Act} {w:World} {G:Nat→Nat} {pt:Nat→Nat→Option Value}
theorem Rel.cut (R:Rel E C s' a w G pt) {base:St} {hp:Bool} {M drop:List Nat} {pl:Pl} {x:(nO pl).den} (eU:C.pin=none∨hp=true)
    (hch:∀ k,k ∉ M++drop→get s' k=get base k) {M':List Nat} (hM:∀ k∈M',k∈M++drop) (hx:mh M' pl s' = some x) (hcl:gF hp (ou pl x++strike (M++drop) base)=true) :
    ∃ G' bJ,Rel E C (ou pl x++strike (M++drop) base) a w G' bJ:=by
  simp only [gF,Bool.and_eq_true] at hcl
  obtain ⟨G',RW⟩:=yE M' pl R
  have hch:∀ k,k ∉ M++drop→get (nT M' pl s') k=get base k:=fun k hk=>(rF (fun h=>hk (hM k h))).trans (hch k hk)
  have hx:Ba pl (nT M' pl s')=some x:=hx
  refine ⟨G',?_⟩
  refine RW.restrict (fun k=>?_) (fun k i h=>tu hcl.1 k i h) ?_
  · rcases vF (rest:=strike (M++drop) base) hx k with h | h
    · exact .inl h
    · rw [h,lg]
      cases hm:mem k (M++drop) with
      | true=>exact .inr rfl
      | false=>
        refine .inl (hch k fun hk=>?_).symm
        have h2:mem k (M++drop)=true:=mem_iff.2 hk
        rw [hm] at h2;cases h2
  · rcases eU with h | h
    · exact .inl h
    · refine .inr fun hu=>?_
      have:=hcl.2
      rw [h,hu] at this
      simp [gP] at this
theorem Na {base:St} {s':St} {M drop ch0:List Nat} {pl:Pl} {x:(nO pl).den} {M':List Nat} (hM:∀ k∈M',k∈M++drop) (hx:mh M' pl s' = some x) (hch:∀ k,k ∉ M++drop→get s' k=get base k) :
    ∀ k,k ∉ M++drop++ch0→get (ou pl x++strike (M++drop) base) k=get base k:=by
  have hch:∀ k,k ∉ M++drop→get (nT M' pl s') k=get base k:=fun k hk=>(rF (fun h=>hk (hM k h))).trans (hch k hk)
  have hx:Ba pl (nT M' pl s')=some x:=hx
  intro k hk
  simp only [List.mem_append,not_or] at hk
  obtain ⟨⟨h1,h2⟩,h3⟩:=hk
  rcases vF (rest:=strike (M++drop) base) hx k with h | h
  · rw [h]
    exact hch k (by simp [h1,h2])
  · rw [h,lg]
    have:mem k (M++drop)=false:=by
      cases hm:mem k (M++drop) with
      | false=>rfl
      | true=>
        have:=mem_iff.1 hm
        simp only [List.mem_append] at this
        exact absurd this (by simp [h1,h2])
    rw [this];rfl
end
theorem qy {hp:Bool} {M M' ch:List Nat} {base s':St} {e:Nat} {r:Lv}:∀ {ws:List Way} {x:(kX ws).den},lV M' e s' ws=some x→(nU hp M ch base ws x).den=some r →
    ∃ (w:Way) (y:(nO w.pl).den),w∈ws∧w.e=e∧mh M' w.pl s' = some y∧gF hp (yt M base w y)=true∧r=⟨e,M++w.drop++ch,yt M base w y⟩
  | [],_,h,_=>by cases h
  | [w],x,h,hr=>by
    simp only [lV] at h
    cases he:Nat.beq e w.e with
    | false=>simp [he] at h
    | true=>
      simp only [he,cond_true] at h
      have he:=Nat.eq_of_beq_eq_true he
      simp only [nU] at hr
      cases hc:gF hp (yt M base w x) with
      | false=>rw [hc] at hr;cases hr
      | true=>
        rw [hc] at hr
        simp only [cond_true,Out.den,Option.some.injEq] at hr
        exact ⟨w,x,by simp,he.symm,h,hc,by rw [←hr,he]⟩
  | w::w'::ws,x,h,hr=>by
    simp only [lV] at h
    cases he:Nat.beq e w.e with
    | true=>
      simp only [he,cond_true] at h
      have he:=Nat.eq_of_beq_eq_true he
      split at h
      · rename_i y hy
        simp only [Option.some.injEq] at h
        subst h
        simp only [nU,Out.den,cond_true] at hr
        cases hc:gF hp (yt M base w y) with
        | false=>rw [hc] at hr;cases hr
        | true=>
          rw [hc] at hr
          simp only [cond_true,Out.den,Option.some.injEq] at hr
          exact ⟨w,y,by simp,he.symm,hy,hc,by rw [←hr,he]⟩
      · cases h
    | false=>
      simp only [he,cond_false] at h
      split at h
      · rename_i y hy
        simp only [Option.some.injEq] at h
        subst h
        simp only [nU,Out.den,cond_false] at hr
        obtain ⟨v,z,h1,h2⟩:=qy hy hr
        exact ⟨v,z,List.mem_cons_of_mem _ h1,h2⟩
      · cases h
end Go.aW
namespace Go.aW
def EJ (P:Program) (E:Env) (C:Ctx) (o:Oper) (a:Act) (w:World) (s':St):Prop:=
  ∀ (K:Act→World→Prop) (Q:Exit→Act→World→Prop),(∀ a' w' G' bJ,Rel E C s' a' w' G' bJ→K a' w')→o.wp P a w K Q
section
variable {P:Program} {E:Env} {C:Ctx} {s:St} {a:Act} {w:World} {G:Nat→Nat} {pt:Nat→Nat→Option Value} {o:Oper} {u:St}
theorem fC.wp {s':St} (h:fC P E C o a w s'):EJ P E C o a w s':=by
  intro K Q hK
  obtain ⟨v,w',G',bJ,hr,hR⟩:=h
  unfold Oper.wp
  rcases hr with hr | ⟨hr,rfl⟩
  · rw [hr,Oper.upon_value];exact hK _ _ _ _ hR
  · rw [hr,Oper.upon_skip];exact hK _ _ _ _ hR
def Jf (P:Program) (E:Env) (Γ:dD) (C:Ctx):Prop:=
  ∀ kn o s a w G pt u,Rel E C s a w G pt→(Ct E Γ kn o s).den=some u→EJ P E C o a w (ak u s)
theorem bC:∀ (u s:St) (k:Nat),k ∉ aJ u→get (ak u s) k=get s k
  | [],_,_,_=>rfl
  | (k0,d)::r,s,k,h=>by
    simp only [aJ,List.mem_cons,not_or] at h
    show get (ak r ((k0,d)::s)) k=_
    rw [bC r _ k h.2,aF,if_neg h.1]
theorem jR {a b:Bool} (h:iK a b=true):a=b:=by cases a<;>cases b<;>first | rfl | cases h
theorem Cy {a b:Bool} (h:iK a b=false):a=GJ b:=by cases a<;>cases b<;>first | rfl | cases h
theorem Cz (b:Bool):GJ b≠b:=by cases b<;>simp [GJ]
theorem EK (R:Rel E C s a w G pt) {ops:Array Oper} {j t:Nat} {b:Bool} (hj:wJ ops.toList j=some t) (hb:get s (2*t) = .bool b):yielded ops a.tmps j=some b:=by
  unfold wJ at hj
  have hv:=R.tm t
  rw [hb] at hv
  have hv:a.tmps.getD t undef = .bool b:=hv
  have KC:a.tmps[t]? = some (.bool b):=by
    rw [Array.getD_eq_getD_getElem?] at hv
    cases h:a.tmps[t]? with
    | none=>rw [h] at hv;simp [undef] at hv
    | some x=>rw [h] at hv;simpa using hv
  simp only [Array.getElem?_toList] at hj
  unfold yielded
  cases ho:ops[j]? with
  | none=>rw [ho] at hj;cases hj
  | some o=>
    rw [ho] at hj
    simp only at hj
    simp [hj,KC]
theorem Rel.told (R:Rel E C s a w G pt) {t:Nat} {b:Bool} (hb:get s (2*t) = .bool b):Rel E C ((2*t,.bool b)::s) a w G pt:=
  R.congr fun k=>by
    rw [aF]
    by_cases hk:k=2*t
    · rw [if_pos hk,hk,hb]
    · rw [if_neg hk]
theorem Rel.skipped (R:Rel E C s a w G pt) (hd:dP E o=true):Rel E C (ak (fQ o) s) (a.put o.dst undef) w G pt:=
  R.wV o (fun t ht=>by simpa [dP,ht,Nat.blt_eq] using hd) (d:=.gB []) ⟨#[],rfl,rfl,fun j h=>absurd h (Nat.not_lt_zero j)⟩ (fun b=>rfl)
theorem yF (R:Rel E C s a w G pt) {ops:Array Oper} {j t:Nat} (hj:wJ ops.toList j=some t) (hb:get s (2*t) = .gB []):yielded ops a.tmps j=none:=by
  unfold wJ at hj
  have hv:=R.tm t
  rw [hb] at hv
  obtain ⟨arr,hv,hsz,_⟩:=hv
  have KC:a.tmps[t]? = none∨a.tmps[t]? = some (.tuple arr):=by
    rw [Array.getD_eq_getD_getElem?] at hv
    cases h:a.tmps[t]? with
    | none=>exact .inl rfl
    | some x=>rw [h] at hv;right;simpa using hv
  simp only [Array.getElem?_toList] at hj
  unfold yielded
  cases ho:ops[j]? with
  | none=>rw [ho] at hj;cases hj
  | some o=>
    rw [ho] at hj
    simp only at hj
    rcases KC with KC | KC<;>simp [hj,KC]
theorem kH {s0 s u:St} {ch:List Nat} (h:∀ k,k ∉ ch→get s k=get s0 k):∀ k,k ∉ aJ u++ch→get (ak u s) k=get s0 k:=by
  intro k hk
  simp only [List.mem_append,not_or] at hk
  rw [bC u s k hk.1];exact h k hk.2
theorem Bh {s0 s:St} {ch:List Nat} {k0:Nat} {d:D} (h:∀ k,k ∉ ch→get s k=get s0 k):∀ k,k ∉ k0::ch→get ((k0,d)::s) k=get s0 k:=by
  intro k hk
  simp only [List.mem_cons,not_or] at hk
  rw [aF,if_neg hk.1];exact h k hk.2
theorem rG (E:Env) (Γ:dD) (all:List Oper) (s0:St):∀ (l:List Oper) (kn:Kn) (ch:List Nat) (s:St) (r:Lv),
    (∀ k,k ∉ ch→get s k=get s0 k)→(jA E Γ all l kn ch s).den=some r→r.e=0∧∀ k,k ∉ r.ch→get r.s k=get s0 k
  | [],kn,ch,s,r,hch,h=>by
    simp only [jA,Out.den,Option.some.injEq] at h
    subst h
    exact ⟨rfl,hch⟩
  | o::l,kn,ch,s,r,hch,h=>by
    have IH:=rG E Γ all s0 l
    simp only [jA] at h
    split at h
    · obtain ⟨u,_,h2⟩:=bind_some h
      exact IH _ _ _ r (kH hch) h2
    · rename_i j want hg
      split at h
      · cases h
      · rename_i t ht
        split at h
        · rename_i b hb
          split at h
          · rename_i c hc
            cases hbc:iK b c with
            | false=>rw [hbc] at h;cases h
            | true=>
              rw [hbc] at h
              simp only [cond_true] at h
              cases hcw:iK c want with
              | true=>
                rw [hcw] at h
                simp only [cond_true] at h
                obtain ⟨u,_,h2⟩:=bind_some h
                exact IH _ _ _ r (kH hch) h2
              | false=>
                rw [hcw] at h
                simp only [cond_false] at h
                cases hd:dP E o with
                | false=>rw [hd] at h;cases h
                | true=>
                  rw [hd] at h
                  exact IH _ _ _ r (kH hch) h
          · cases hd:dP E o with
            | false=>rw [hd] at h;cases h
            | true=>
              rw [hd] at h
              simp only [cond_true,Out.den] at h
              cases hbw:iK b want with
              | true=>
                rw [hbw] at h
                simp only [cond_true] at h
                obtain ⟨u,_,h2⟩:=bind_some h
                exact IH _ _ _ r (kH (Bh hch)) h2
              | false=>
                rw [hbw] at h
                exact IH _ _ _ r (kH (Bh hch)) h
        · cases hd:dP E o with
          | false=>rw [hd] at h;cases h
          | true=>
            rw [hd] at h
            exact IH _ _ _ r (kH hch) h
        · cases h
theorem Rn (E:Env) (Γ:dD) (all:List Oper) (l:List Oper) (kn:Kn) (ch:List Nat) (s:St) (r:Lv) (h:(jA E Γ all l kn ch s).den=some r):r.e=0:=by
  -- every place may have turned
  exact (rG E Γ all s l kn ch s r (fun _ _=>rfl) h).1
theorem yG {Γ:dD} {ops:Array Oper} {Q:Exit→Act→World→Prop} (H:Jf P E Γ C):∀ (l:List Oper) (i:Nat) (kn:Kn) (ch:List Nat) (s:St) (a:Act) (w:World) (G:Nat→Nat) (pt:Nat→Nat→Option Value) (r:Lv),
    ops.toList.drop i=l→Rel E C s a w G pt→(jA E Γ ops.toList l kn ch s).den=some r →
    (∀ a' w' G' bJ,Rel E C r.s a' w' G' bJ→Q .normal a' w')→wpOps P ops Q (List.range' i l.length) a w
  | [],i,kn,ch,s,a,w,G,pt,r,_,R,h,hQ=>by
    simp only [jA,Out.den,Option.some.injEq] at h
    subst h
    exact hQ _ _ _ _ R
  | o::l,i,kn,ch,s,a,w,G,pt,r,hl,R,h,hQ=>by
    have hi:ops[i]? = some o:=by
      have:(ops.toList.drop i)[0]? = some o:=by rw [hl];rfl
      rw [List.getElem?_drop] at this
      simpa using this
    have hl':ops.toList.drop (i+1)=l:=by
      rw [←List.drop_drop,hl];rfl
    have abG:List.range' i (o::l).length=i::List.range' (i+1) l.length:=by
      simp [List.range'_succ]
    rw [abG]
    simp only [wpOps,hi]
    -- the operation is run
    have run:∀ (EL:Kn) (ch1:List Nat) (s1:St) (Nb:Kn),Region.wanted o (yielded ops a.tmps)=true→Rel E C s1 a w G pt →
        ((Ct E Γ EL o s1).bind fun u=>jA E Γ ops.toList l Nb (aJ u++ch1) (ak u s1)).den=some r →
        (if Region.wanted o (yielded ops a.tmps) then o.wp P a w (wpOps P ops Q (List.range' (i+1) l.length)) Q∨(o.asks P a w∧LetsOut Q)
          else wpOps P ops Q (List.range' (i+1) l.length) (a.put o.dst undef) w):=by
      intro EL ch1 s1 Nb hw R1 hb
      obtain ⟨u,h1,h2⟩:=bind_some hb
      rw [hw,if_pos rfl]
      exact .inl (H EL o s1 a w G pt u R1 h1 _ _ fun a' w' G' bJ R'=>yG H l (i+1) _ _ _ a' w' G' bJ r hl' R' h2 hQ)
    have skip:∀ (ch1:List Nat) (s1:St) (Nb:Kn),Region.wanted o (yielded ops a.tmps)=false→Rel E C s1 a w G pt→dP E o=true →
        (jA E Γ ops.toList l Nb ch1 (ak (fQ o) s1)).den=some r →
        (if Region.wanted o (yielded ops a.tmps) then o.wp P a w (wpOps P ops Q (List.range' (i+1) l.length)) Q∨(o.asks P a w∧LetsOut Q)
          else wpOps P ops Q (List.range' (i+1) l.length) (a.put o.dst undef) w):=by
      intro ch1 s1 Nb hw R1 hd hb
      rw [hw]
      simp only [Bool.false_eq_true,if_false]
      exact yG H l (i+1) _ _ _ _ w G pt r hl' (R1.skipped hd) hb hQ
    simp only [jA] at h
    split at h
    · rename_i hg
      exact run _ _ _ _ (by simp [Region.wanted,hg]) R h
    · rename_i j want hg
      split at h
      · cases h
      · rename_i t ht
        split at h
        · rename_i b hb
          have hy:=EK R ht hb
          have hwd:Region.wanted o (yielded ops a.tmps)=decide (b=want):=by
            simp only [Region.wanted,hg,hy]
            cases b<;>cases want<;>rfl
          split at h
          · rename_i c hc
            cases hbc:iK b c with
            | false=>rw [hbc] at h;cases h
            | true=>
              rw [hbc] at h
              simp only [cond_true] at h
              have hbc:=jR hbc
              subst hbc
              cases hcw:iK b want with
              | true=>
                rw [hcw] at h
                have:=jR hcw
                exact run _ _ _ _ (by rw [hwd];exact decide_eq_true this) R h
              | false=>
                rw [hcw] at h
                have hne:=Cy hcw
                simp only [cond_false] at h
                cases hd:dP E o with
                | false=>rw [hd] at h;cases h
                | true=>
                  rw [hd] at h
                  exact skip _ _ _ (by rw [hwd,hne];exact decide_eq_false (Cz _)) R hd h
          · cases hd:dP E o with
            | false=>rw [hd] at h;cases h
            | true=>
              rw [hd] at h
              simp only [cond_true,Out.den] at h
              cases hbw:iK b want with
              | true=>
                rw [hbw] at h
                have:=jR hbw
                subst this
                exact run _ _ _ _ (by rw [hwd];exact decide_eq_true rfl) (R.told hb) h
              | false=>
                rw [hbw] at h
                have hne:=Cy hbw
                subst hne
                exact skip _ _ _ (by rw [hwd];exact decide_eq_false (Cz _)) (R.told hb) hd h
        · rename_i hb
          have hy:=yF R ht hb
          have hwd:Region.wanted o (yielded ops a.tmps)=false:=by
            simp only [Region.wanted,hg,hy]
            cases want<;>rfl
          cases hd:dP E o with
          | false=>rw [hd] at h;cases h
          | true=>
            rw [hd] at h
            exact skip _ _ _ hwd R hd h
        · cases h
end
end Go.aW
namespace Go.aW
theorem qz {τ ε:Type} {step:τ→Option (Sum τ ε)} {v:τ} {e:ε} (h:Loop step v=some e):∃ n,yu step n v=some e:=by
  unfold Loop at h
  split at h
  · rename_i hx;exact ⟨_,h⟩
  · cases h
theorem yH {τ ε:Type} {step:τ→Option (Sum τ ε)}:∀ {n m:Nat} {v:τ} {e:ε},yu step n v=some e→n≤m→yu step m v=some e
  | 0,_,_,_,h,_=>by cases h
  | n+1,0,_,_,_,hm=>by omega
  | n+1,m+1,v,e,h,hm=>by
    simp only [yu] at h ⊢
    split at h
    · rename_i v' hv;exact yH h (by omega)
    · exact h
    · cases h
theorem tC {τ ε:Type} {step:τ→Option (Sum τ ε)} {v:τ} {e:ε} {n:Nat} (h:yu step n v=some e):Loop step v=some e:=by
  have hx:∃ n,(yu step n v).isSome=true:=⟨n,by rw [h];rfl⟩
  unfold Loop
  rw [dif_pos hx]
  obtain ⟨e',he'⟩:=Option.isSome_iff_exists.1 hx.choose_spec
  rw [he']
  have h1:=yH h (Nat.le_max_left n hx.choose)
  have h2:=yH he' (Nat.le_max_right n hx.choose)
  rw [h1] at h2
  exact h2.symm
theorem aN {τ ε:Type} {step:τ→Option (Sum τ ε)} {v:τ}:Loop step v=(match step v with
    | some (.inl v')=>Loop step v'
    | some (.inr e)=>some e
    | none=>none):=by
  cases hs:step v with
  | none=>
    cases hl:Loop step v with
    | none=>rfl
    | some e=>
      obtain ⟨n,hn⟩:=qz hl
      cases n with
      | zero=>cases hn
      | succ n=>simp only [yu,hs] at hn;cases hn
  | some r=>
    cases r with
    | inr e=>exact tC (n:=1) (by simp only [yu,hs])
    | inl v'=>
      show Loop step v=Loop step v'
      cases hl:Loop step v' with
      | some e=>
        obtain ⟨n,hn⟩:=qz hl
        exact tC (n:=n+1) (by simp only [yu,hs];exact hn)
      | none=>
        cases hl2:Loop step v with
        | none=>rfl
        | some e=>
          obtain ⟨n,hn⟩:=qz hl2
          cases n with
          | zero=>cases hn
          | succ n=>
            simp only [yu,hs] at hn
            rw [tC hn] at hl;cases hl
def vG (P:Program) (c:Code) (Q:Exit→Act→World→Prop) (a:Act) (w:World):Prop:=
  ∀ (b:Frame) (k:List Item) (cs:List Frame),∃ e a' w',Q e a' w'∧Arrives P (lone (b.at a (.inLoop c::k)) cs w) b k cs e a' w'
theorem tF {P:Program} {c:Code} {Q:Exit→Act→World→Prop} {a:Act} {w:World} (h:c.wp P (Exit.then (vG P c Q) Q) a w) :
    ∀ (b:Frame) (k:List Item) (cs:List Frame),∃ e a' w',Q e a' w'∧Arrives P (lone (b.at a (.code c::.inLoop c::k)) cs w) b k cs e a' w':=by
  intro b k cs
  obtain ⟨e,a₁,w₁,hq,harr⟩:=h b (.inLoop c::k) cs
  cases e with
  | normal=>
    obtain ⟨e₂,a₂,w₂,hq₂,harr₂⟩:=hq b k cs
    exact ⟨e₂,a₂,w₂,hq₂,.of_steps harr harr₂⟩
  | exit id=>exact ⟨_,a₁,w₁,hq,.pass (x:=.inLoop c) rfl (fun _ _=>.inl (by simp)) harr⟩
  | goto l=>exact ⟨_,a₁,w₁,hq,.pass (x:=.inLoop c) rfl (fun _ _=>.inl (by simp)) harr⟩
  | ret=>exact ⟨_,a₁,w₁,hq,.pass (x:=.inLoop c) rfl (fun _ _=>.inl (by simp)) harr⟩
  | panic ch=>exact ⟨_,a₁,w₁,hq,.pass (x:=.inLoop c) rfl (fun _ _=>.inl (by simp)) harr⟩
  | outgrown=>exact ⟨_,a₁,w₁,hq,.pass (x:=.inLoop c) rfl (fun _ _=>.inl (by simp)) harr⟩
theorem wM {P:Program} {c:Code} {Q:Exit→Act→World→Prop} {a:Act} {w:World} (h:c.wp P (Exit.then (vG P c Q) Q) a w):(Code.loop c).wp P Q a w:=
  fun b k cs=>let ⟨e,a',w',hq,harr⟩:=tF h b k cs
    ⟨e,a',w',hq,.of_steps (.one step_loop) harr⟩
theorem wN {P:Program} {c:Code} {Q:Exit→Act→World→Prop} {a:Act} {w:World} (h:c.wp P (Exit.then (vG P c Q) Q) a w):vG P c Q a w:=
  fun b k cs=>let ⟨e,a',w',hq,harr⟩:=tF h b k cs
    ⟨e,a',w',hq,.of_steps (.one step_inLoop) harr⟩
def EM:Nat→Exit
  | 0=>.normal
  | 1=>.ret
  | n+2=>.exit n
def Post (E:Env) (C:Ctx) (r:Lv):Exit→Act→World→Prop:=
  fun x a w=>x=EM r.e∧∃ G pt,Rel E C r.s a w G pt
def Stat (s:St) (ch:List Nat) (r:Lv):Prop:=
  ∀ s0,(∀ k,k ∉ ch→get s k=get s0 k)→∀ k,k ∉ r.ch→get r.s k=get s0 k
def Jg (P:Program) (E:Env) (Γ:dD) (C:Ctx):Prop:=
  ∀ (id:Nat) (ops:Array Oper) ch s r,(dV E Γ ops.toList ops.toList [] [] ch s).den=some r→Stat s ch r ∧
    ∀ a w G pt,Rel E C s a w G pt→(Code.region id ops true).wp P (Post E C r) a w
section
variable {P:Program} {E:Env} {C:Ctx} {s:St} {a:Act} {w:World} {G:Nat→Nat} {pt:Nat→Nat→Option Value}
theorem abI {r:Lv} {M drop:List Nat} (hs:subset r.ch M=true) (H:Stat s [] r):∀ k,k ∉ M++drop→get r.s k=get s k:=
  fun k hk=>H s (fun _ _=>rfl) k fun h=>hk (List.mem_append.2 (.inl (kZ hs k h)))
theorem EN {M drop ch:List Nat} {base s':St} {pl:Pl} {x:(nO pl).den} {M':List Nat} (hM:∀ k∈M',k∈M++drop) (hx:mh M' pl s' = some x) (hch:∀ k,k ∉ M++drop→get s' k=get base k) (e:Nat) :
    Stat base ch ⟨e,M++drop++ch,ou pl x++strike (M++drop) base⟩:=by
  intro s0 h0 k hk
  rw [Na (ch0:=ch) hM hx hch k hk]
  refine h0 k fun hc=>hk ?_
  exact List.mem_append.2 (.inr hc)
theorem mV {hp:Bool} {p:Plan} {ch:List Nat} {run:List Nat→Out Lv} {r:Lv} (H:∀ ch r,(run ch).den=some r→Stat s ch r) (h:(wrap hp p ch s run).den=some r):Stat s ch r:=by
  unfold wrap at h
  split at h
  · rename_i M ws q
    obtain ⟨x,hx,h⟩:=mU h
    obtain ⟨r',h1,h2⟩:=fT hx
    simp only [M8] at h2
    cases hs:subset r'.ch M with
    | false=>rw [hs] at h2;cases h2
    | true=>
      rw [hs] at h2
      obtain ⟨v,y,_,_,hy,_,rfl⟩:=qy h2 h
      exact EN (fun k h=>List.mem_append.2 (.inl h)) hy (abI hs (H [] r' h1)) _
  · exact H ch r h
theorem tH {c:Code} {p:Plan} {ch:List Nat} {run:List Nat→Out Lv} {r:Lv} (eU:C.pin=none∨E.hp=true) (H:∀ ch r,(run ch).den=some r→Stat s ch r)
    (H2:∀ ch r,(run ch).den=some r→c.wp P (Post E C r) a w) (h:(wrap E.hp p ch s run).den=some r):c.wp P (Post E C r) a w:=by
  unfold wrap at h
  split at h
  · rename_i M ws q
    obtain ⟨x,hx,h⟩:=mU h
    obtain ⟨r',h1,h2⟩:=fT hx
    simp only [M8] at h2
    cases hs:subset r'.ch M with
    | false=>rw [hs] at h2;cases h2
    | true=>
      rw [hs] at h2
      obtain ⟨v,y,_,_,hy,hc,rfl⟩:=qy h2 h
      refine wp_mono (H2 [] r' h1) fun e a' w' hpost=>?_
      obtain ⟨he,G',bJ,R'⟩:=hpost
      obtain ⟨G2,jy,R2⟩:=R'.cut eU (abI hs (H [] r' h1)) (fun k h=>List.mem_append.2 (.inl h)) hy hc
      exact ⟨he,G2,jy,R2⟩
  · exact H2 ch r h
theorem Bj {rest:St}:∀ {pl:Pl} {x:(nO pl).den} {k:Nat},k ∉ rD pl→get (ou pl x++rest) k=get rest k
  | [],_,_,_=>rfl
  | p::r,x,k,h=>by
    simp only [rD,List.mem_cons,not_or] at h
    simp only [ou,List.cons_append]
    rw [aF,if_neg h.1]
    exact Bj h.2
theorem EO {M drop:List Nat} {pl:Pl} {v:(nO pl).den} (hsub:subset (rD pl) M=true) {k:Nat} (hk:k ∉ M++drop):get (jM M pl drop s v) k=get s k:=by
  unfold jM
  have h1:k ∉ rD pl:=fun h=>hk (List.mem_append.2 (.inl (kZ hsub k h)))
  rw [Bj h1,lg]
  cases hm:mem k (M++drop) with
  | false=>rfl
  | true=>exact absurd (mem_iff.1 hm) hk
theorem yI {hp:Bool} {M drop:List Nat} {pl:Pl} {ws:List Way} {r:Lv} {y:Sum (nO pl).den (kX ws).den} (h:Jc hp M pl drop s ws r=some y) :
    subset r.ch M=true∧((∃ v,y = .inl v∧r.e=0∧mh M pl r.s=some v∧gF hp (jM M pl drop s v)=true)∨(∃ x,y = .inr x∧r.e≠0∧lV M r.e r.s ws=some x)):=by
  unfold Jc at h
  cases hs:subset r.ch M with
  | false=>rw [hs] at h;cases h
  | true=>
    rw [hs] at h
    simp only [cond_true] at h
    refine ⟨rfl,?_⟩
    cases he:Nat.beq r.e 0 with
    | true=>
      rw [he] at h
      simp only [cond_true] at h
      split at h
      · rename_i v hv
        cases hc:gF hp (jM M pl drop s v) with
        | false=>rw [hc] at h;cases h
        | true=>
          rw [hc] at h
          simp only [cond_true,Option.some.injEq] at h
          exact .inl ⟨v,h.symm,Nat.eq_of_beq_eq_true he,hv,hc⟩
      · cases h
    | false=>
      rw [he] at h
      simp only [cond_false] at h
      split at h
      · rename_i x hx
        simp only [Option.some.injEq] at h
        refine .inr ⟨x,h.symm,fun h0=>?_,hx⟩
        rw [h0] at he;cases he
      · cases h
theorem Ro {c:Code} {M drop ch:List Nat} {pl:Pl} {ws:List Way} {body:St→Out Lv} {r:Lv} (eU:C.pin=none∨E.hp=true)
    (hbs:∀ s r,(body s).den=some r→Stat s [] r) (hbo:∀ s a w G pt r,Rel E C s a w G pt→(body s).den=some r→c.wp P (Post E C r) a w)
    (h:(Jd (fun _ _=>Loop) E.hp M pl drop ws ch s body).den=some r):Stat s ch r∧∀ a w G pt,Rel E C s a w G pt→(Code.loop c).wp P (Post E C r) a w:=by
  unfold Jd at h
  cases hsub:subset (rD pl) M with
  | false=>rw [hsub] at h;cases h
  | true=>
    rw [hsub] at h
    simp only [cond_true] at h
    split at h
    · rename_i v0 hv0
      cases hc0:gF E.hp (jM M pl drop s v0) with
      | false=>rw [hc0] at h;cases h
      | true=>
        rw [hc0] at h
        simp only [cond_true] at h
        obtain ⟨x,hx,h⟩:=mU h
        obtain ⟨n,hn⟩:=qz hx
        have key:∀ n v,yu (fun v=>((body (jM M pl drop s v)).jL (Jc E.hp M pl drop s ws)).den) n v=some x →
            (∀ a w G pt,Rel E C (jM M pl drop s v) a w G pt→c.wp P (Exit.then (vG P c (Post E C r)) (Post E C r)) a w)∧Stat s ch r:=by
          intro n
          induction n with
          | zero=>intro v h;cases h
          | succ n ih=>
            intro v hv
            simp only [yu] at hv
            split at hv
            · rename_i v' hst
              obtain ⟨r1,h1,h2⟩:=fT hst
              obtain ⟨hs1,h3⟩:=yI h2
              obtain ⟨v2,e2,he,hp,hcl⟩:∃ v2,(Sum.inl v':Sum _ (kX ws).den) = .inl v2∧r1.e=0∧mh M pl r1.s=some v2∧gF E.hp (jM M pl drop s v2)=true:=by
                rcases h3 with h3 | ⟨x',hx',_⟩
                · exact h3
                · cases hx'
              cases e2
              obtain ⟨k1,k2⟩:=ih v' hv
              refine ⟨fun a w G pt R1=>wp_mono (hbo _ a w G pt r1 R1 h1) fun e a' w' hpost=>?_,k2⟩
              obtain ⟨he',G',bJ,R'⟩:=hpost
              rw [he] at he'
              subst he'
              obtain ⟨G2,jy,R2⟩:=R'.cut (base:=s) (M:=M) (drop:=drop) eU (fun k hk=>by
                rw [hbs _ r1 h1 (jM M pl drop s v) (fun _ _=>rfl) k (fun hk2=>hk (List.mem_append.2 (.inl (kZ hs1 k hk2))))]
                exact EO hsub hk) (fun k h=>List.mem_append.2 (.inl h)) hp hcl
              exact wN (k1 a' w' G2 jy R2)
            · rename_i x' hst
              simp only [Option.some.injEq] at hv
              subst hv
              obtain ⟨r1,h1,h2⟩:=fT hst
              obtain ⟨hs1,h3⟩:=yI h2
              obtain ⟨x2,e2,he,hw⟩:∃ x2,(Sum.inr x':Sum (nO pl).den _) = .inr x2∧r1.e≠0∧lV M r1.e r1.s ws=some x2:=by
                rcases h3 with ⟨v2,hv2,_⟩ | h3
                · cases hv2
                · exact h3
              cases e2
              obtain ⟨wy,y,_,_,hy,hcl,rfl⟩:=qy hw h
              have hk:∀ k,k ∉ M++drop++wy.drop→get r1.s k=get s k:=by
                intro k hk
                simp only [List.mem_append,not_or] at hk
                rw [hbs _ r1 h1 (jM M pl drop s v) (fun _ _=>rfl) k (fun hk2=>hk.1.1 (kZ hs1 k hk2))]
                exact EO hsub (by simp [hk.1.1,hk.1.2])
              refine ⟨fun a w G pt R1=>wp_mono (hbo _ a w G pt r1 R1 h1) fun e a' w' hpost=>?_,EN (fun k h=>by simp [h]) hy hk _⟩
              obtain ⟨he',G',bJ,R'⟩:=hpost
              obtain ⟨G2,jy,R2⟩:=R'.cut (base:=s) (M:=M++drop) (drop:=wy.drop) eU hk (fun k h=>by simp [h]) hy hcl
              have hpo:Post E C ⟨r1.e,M++drop++wy.drop++ch,yt (M++drop) s wy y⟩ e a' w':=⟨he',G2,jy,R2⟩
              cases e with
              | normal=>
                match hre:r1.e,he with
                | 0,h0=>exact absurd rfl h0
                | 1,_=>rw [hre] at he';cases he'
                | n+2,_=>rw [hre] at he';cases he'
              | _=>exact hpo
            · cases hv
        obtain ⟨k1,k2⟩:=key n v0 hn
        refine ⟨k2,fun a w G pt R=>?_⟩
        obtain ⟨G0,pt0,R0⟩:=R.cut (base:=s) (M:=M) (drop:=drop) eU (fun _ _=>rfl) (fun k h=>List.mem_append.2 (.inl h)) hv0 hc0
        exact wM (k1 a w G0 pt0 R0)
    · cases h
theorem gZ {R S:Type} {f:R→Out S} {o:Out R} {y:S} (h:(o.bind f).den=some y):∃ r,o.den=some r∧(f r).den=some y:=by
  rw [mR] at h
  cases ho:o.den with
  | none=>rw [ho] at h;cases h
  | some r=>rw [ho] at h;exact ⟨r,rfl,h⟩
theorem KD {n:Nat} {p:Plan} {ch:List Nat} {s:St} {r:Lv} {run:List Nat→St→Out Lv} (H:∀ ch s r,(run ch s).den=some r→Stat s ch r)
    (h:(Bd n p ch s run).den=some r):Stat s ch r:=by
  unfold Bd at h
  split at h
  · rename_i l
    refine kY (fun o:Out Lv=>o.den=some r→Stat s ch r) (fun ch' s'=>∀ s0,(∀ k,k ∉ ch→get s k=get s0 k)→∀ k,k ∉ ch'→get s' k=get s0 k)
      (fun ch' s' k j X hI s0 h0 m hm=>?_) l ch s _ (fun s0 h0=>h0) (fun ch' s' hI h=>?_) h
    · simp only [List.mem_append,not_or] at hm
      rw [jQ _ _ _ hm.1]
      exact hI s0 h0 m hm.2
    · obtain ⟨r1,h1,h2⟩:=gZ h
      have h3:o8 l r1=r:=by simpa [Out.den] using h2
      subst h3
      exact fun s0 h0=>rE l r1 s0 (H ch' s' r1 h1 s0 (hI s0 h0))
  · rename_i l
    refine kY (fun o:Out Lv=>o.den=some r→Stat s ch r) (fun ch' s'=>∀ s0,(∀ k,k ∉ ch→get s k=get s0 k)→∀ k,k ∉ ch'→get s' k=get s0 k)
      (fun ch' s' k j X hI s0 h0 m hm=>?_) l ch s _ (fun s0 h0=>h0) (fun ch' s' hI h=>?_) h
    · simp only [List.mem_append,not_or] at hm
      rw [jQ _ _ _ hm.1]
      exact hI s0 h0 m hm.2
    · exact fun s0 h0=>H ch' s' r h s0 (hI s0 h0)
  · rename_i l
    obtain ⟨r1,h1,h2⟩:=gZ h
    have h3:o8 l r1=r:=by simpa [Out.den] using h2
    subst h3
    exact fun s0 h0=>rE l r1 s0 (H ch s r1 h1 s0 h0)
  · exact H ch s r h
theorem Nc {c:Code} {p:Plan} {ch:List Nat} {s:St} {r:Lv} {run:List Nat→St→Out Lv} {a:Act} {w:World} {G:Nat→Nat} {pt:Nat→Nat→Option Value} (hm:E.n≤C.m)
    (H:∀ ch s r,(run ch s).den=some r→∀ a w G pt,Rel E C s a w G pt→c.wp P (Post E C r) a w)
    (h:(Bd E.n p ch s run).den=some r) (R:Rel E C s a w G pt):c.wp P (Post E C r) a w:=by
  unfold Bd at h
  split at h
  · rename_i l
    refine kY (fun o:Out Lv=>o.den=some r→c.wp P (Post E C r) a w) (fun _ s'=>∃ G' bJ,Rel E C s' a w G' bJ)
      (fun ch' s' k j X hI=>?_) l ch s _ ⟨G,pt,R⟩ (fun ch' s' hI h=>?_) h
    · obtain ⟨G',bJ,R'⟩:=hI
      exact R'.sU hm k j X
    · obtain ⟨r1,h1,h2⟩:=gZ h
      have h3:o8 l r1=r:=by simpa [Out.den] using h2
      subst h3
      obtain ⟨G1,bJ,R'⟩:=hI
      refine wp_mono (H ch' s' r1 h1 a w G1 bJ R') fun e a' w' hpost=>?_
      obtain ⟨he,G',jy,R2⟩:=hpost
      exact ⟨by rw [Cx];exact he,G',jy,vE l r1 a' w' G' jy R2⟩
  · rename_i l
    refine kY (fun o:Out Lv=>o.den=some r→c.wp P (Post E C r) a w) (fun _ s'=>∃ G' bJ,Rel E C s' a w G' bJ)
      (fun ch' s' k j X hI=>?_) l ch s _ ⟨G,pt,R⟩ (fun ch' s' hI h=>?_) h
    · obtain ⟨G',bJ,R'⟩:=hI
      exact R'.sU hm k j X
    · obtain ⟨G1,bJ,R'⟩:=hI
      exact H ch' s' r h a w G1 bJ R'
  · rename_i l
    obtain ⟨r1,h1,h2⟩:=gZ h
    have h3:o8 l r1=r:=by simpa [Out.den] using h2
    subst h3
    refine wp_mono (H ch s r1 h1 a w G pt R) fun e a' w' hpost=>?_
    obtain ⟨he,G',jy,R2⟩:=hpost
    exact ⟨by rw [Cx];exact he,G',jy,vE l r1 a' w' G' jy R2⟩
  · exact H ch s r h a w G pt R
theorem Bl {c:Code} {run:List Nat→St→Out Lv} (H1:∀ ch s r,(run ch s).den=some r→Stat s ch r)
    (H2:∀ ch s r,(run ch s).den=some r→∀ a w G pt,Rel E C s a w G pt→c.wp P (Post E C r) a w) :
    ∀ (n:Nat) (ch:List Nat) (s:St) (r:Lv),(sV run n ch s).den=some r→Stat s ch r∧∀ a w G pt,Rel E C s a w G pt→c.wp P (Exit.then (vG P c (Post E C r)) (Post E C r)) a w
  | 0,ch,s,r,h=>by cases h
  | n+1,ch,s,r,h=>by
    simp only [sV] at h
    obtain ⟨r1,h1,h2⟩:=gZ h
    cases he:Nat.beq r1.e 0 with
    | true=>
      rw [he] at h2
      simp only [cond_true] at h2
      obtain ⟨k1,k2⟩:=Bl H1 H2 n r1.ch r1.s r h2
      refine ⟨fun s0 h0=>k1 s0 (H1 ch s r1 h1 s0 h0),fun a w G pt R=>wp_mono (H2 ch s r1 h1 a w G pt R) fun e a' w' hp=>?_⟩
      obtain ⟨rfl,G',bJ,R'⟩:=hp
      have he:=Nat.eq_of_beq_eq_true he
      rw [he]
      exact wN (k2 a' w' G' bJ R')
    | false=>
      rw [he] at h2
      simp only [cond_false,Out.den,Option.some.injEq] at h2
      subst h2
      refine ⟨H1 ch s r1 h1,fun a w G pt R=>wp_mono (H2 ch s r1 h1 a w G pt R) fun e a' w' hp=>?_⟩
      have hpo:=hp
      obtain ⟨rfl,G',bJ,R'⟩:=hp
      match hre:r1.e with
      | 0=>rw [hre] at he;simp [eX] at he
      | 1=>rw [hre] at hpo;exact hpo
      | n+2=>rw [hre] at hpo;exact hpo
theorem iU {Γ:dD} (hm:E.n≤C.m) (eU:C.pin=none∨E.hp=true) (H:Jf P E Γ C) (D:Jg P E Γ C):∀ (c:Code) (p:Plan) (ch:List Nat) (s:St) (r:Lv),
    (ev (fun _ _=>Loop) E Γ c p ch s).den=some r→Stat s ch r∧∀ a w G pt,Rel E C s a w G pt→c.wp P (Post E C r) a w
  | .skip,p,ch,s,r,h=>by
    simp only [ev,Out.den,Option.some.injEq] at h
    subst h
    exact ⟨fun _ h=>h,fun a w G pt R=>wp_skip ⟨rfl,G,pt,R⟩⟩
  | .ret,p,ch,s,r,h=>by
    simp only [ev,Out.den,Option.some.injEq] at h
    subst h
    exact ⟨fun _ h=>h,fun a w G pt R=>wp_ret ⟨rfl,G,pt,R⟩⟩
  | .exit id,p,ch,s,r,h=>by
    simp only [ev,Out.den,Option.some.injEq] at h
    subst h
    exact ⟨fun _ h=>h,fun a w G pt R=>wp_exit ⟨rfl,G,pt,R⟩⟩
  | .region id ops draw,p,ch,s,r,h=>by
    simp only [ev] at h
    have HS0:∀ ch s r,(bif draw then dV E Γ ops.toList ops.toList [] [] ch s else jA E Γ ops.toList ops.toList [] ch s).den=some r→Stat s ch r:=by
      intro ch s r h
      cases draw with
      | true=>exact (D id ops ch s r h).1
      | false=>exact fun s0 h0=>(rG E Γ ops.toList s0 ops.toList [] ch s r h0 h).2
    have HR0:∀ ch s r,(bif draw then dV E Γ ops.toList ops.toList [] [] ch s else jA E Γ ops.toList ops.toList [] ch s).den=some r →
        ∀ a w G pt,Rel E C s a w G pt→(Code.region id ops draw).wp P (Post E C r) a w:=by
      intro ch s r h a w G pt R
      cases draw with
      | true=>exact (D id ops ch s r h).2 a w G pt R
      | false=>
        refine wp_region ?_
        have h0:r.e=0:=Rn E Γ ops.toList ops.toList [] ch s r h
        have:=yG (Q:=Post E C r) H ops.toList 0 [] ch s a w G pt r rfl R h (fun a' w' G' bJ R'=>⟨by rw [h0];rfl,G',bJ,R'⟩)
        rw [List.range_eq_range']
        simpa using this
    have HS:∀ ch r,(Bd E.n p.inner ch s fun ch s=>bif draw then dV E Γ ops.toList ops.toList [] [] ch s else jA E Γ ops.toList ops.toList [] ch s).den=some r→Stat s ch r:=
      fun ch r h=>KD HS0 h
    exact ⟨mV HS h,fun a w G pt R=>tH eU HS (fun ch r h=>Nc hm HR0 h R) h⟩
  | .seq x y,p,ch,s,r,h=>by
    simp only [ev] at h
    have HS:∀ ch r,((ev (fun _ _=>Loop) E Γ x p.inner.left ch s).bind fun r=>bif Nat.beq r.e 0 then ev (fun _ _=>Loop) E Γ y p.inner.right r.ch r.s else .ret r).den=some r→Stat s ch r:=by
      intro ch r h
      obtain ⟨r1,h1,h2⟩:=bind_some h
      have k1:=(iU hm eU H D x _ ch s r1 h1).1
      cases he:Nat.beq r1.e 0 with
      | true=>
        rw [he] at h2
        have k2:=(iU hm eU H D y _ _ _ r h2).1
        exact fun s0 h0=>k2 s0 (k1 s0 h0)
      | false=>
        rw [he] at h2
        simp only [cond_false,Out.den,Option.some.injEq] at h2
        subst h2;exact k1
    refine ⟨mV HS h,fun a w G pt R=>tH eU HS (fun ch r h=>?_) h⟩
    obtain ⟨r1,h1,h2⟩:=bind_some h
    refine wp_seq (wp_mono ((iU hm eU H D x _ ch s r1 h1).2 a w G pt R) fun e a' w' hp=>?_)
    obtain ⟨rfl,G',bJ,R'⟩:=hp
    cases he:Nat.beq r1.e 0 with
    | true=>
      rw [he] at h2
      have he:=Nat.eq_of_beq_eq_true he
      rw [he]
      exact (iU hm eU H D y _ _ _ r h2).2 a' w' G' bJ R'
    | false=>
      rw [he] at h2
      simp only [cond_false,Out.den,Option.some.injEq] at h2
      subst h2
      have hpo:Post E C r1 (EM r1.e) a' w':=⟨rfl,G',bJ,R'⟩
      match hre:r1.e with
      | 0=>rw [hre] at he;cases he
      | 1=>rw [hre] at hpo;exact hpo
      | n+2=>rw [hre] at hpo;exact hpo
  | .cond c x y,p,ch,s,r,h=>by
    simp only [ev] at h
    have HS:∀ ch r,(match aV s c with
      | .bool b=>Out.ite b (ev (fun _ _=>Loop) E Γ x p.inner.left ch s) (ev (fun _ _=>Loop) E Γ y p.inner.right ch s)
      | _=>.fail).den=some r→∃ b,aV s c = .bool b∧((b=true∧(ev (fun _ _=>Loop) E Γ x p.inner.left ch s).den=some r)∨(b=false∧(ev (fun _ _=>Loop) E Γ y p.inner.right ch s).den=some r)):=by
      intro ch r h
      split at h
      · rename_i b hb
        refine ⟨b,hb,?_⟩
        cases b with
        | true=>exact .inl ⟨rfl,h⟩
        | false=>exact .inr ⟨rfl,h⟩
      · cases h
    refine ⟨mV (fun ch r h=>?_) h,fun a w G pt R=>tH eU (fun ch r h=>?_) (fun ch r h=>?_) h⟩
    · obtain ⟨b,hb,⟨_,h⟩ | ⟨_,h⟩⟩:=HS ch r h
      · exact (iU hm eU H D x _ ch s r h).1
      · exact (iU hm eU H D y _ ch s r h).1
    · obtain ⟨b,hb,⟨_,h⟩ | ⟨_,h⟩⟩:=HS ch r h
      · exact (iU hm eU H D x _ ch s r h).1
      · exact (iU hm eU H D y _ ch s r h).1
    · obtain ⟨b,hb,⟨rfl,h⟩ | ⟨rfl,h⟩⟩:=HS ch r h
      · have hv:=aT R c
        rw [hb] at hv
        exact wp_cond_true hv ((iU hm eU H D x _ ch s r h).2 a w G pt R)
      · have hv:=aT R c
        rw [hb] at hv
        exact wp_cond_false hv ((iU hm eU H D y _ ch s r h).2 a w G pt R)
  | .block id c,p,ch,s,r,h=>by
    simp only [ev] at h
    refine ⟨mV (fun ch r h=>?_) h,fun a w G pt R=>tH eU (fun ch r h=>?_) (fun ch r h=>?_) h⟩
    · obtain ⟨r1,h1,h2⟩:=bind_some h
      simp only [Out.den,Option.some.injEq] at h2
      subst h2
      exact (iU hm eU H D c _ ch s r1 h1).1
    · obtain ⟨r1,h1,h2⟩:=bind_some h
      simp only [Out.den,Option.some.injEq] at h2
      subst h2
      exact (iU hm eU H D c _ ch s r1 h1).1
    · obtain ⟨r1,h1,h2⟩:=bind_some h
      simp only [Out.den,Option.some.injEq] at h2
      subst h2
      refine wp_block (wp_mono ((iU hm eU H D c _ ch s r1 h1).2 a w G pt R) fun e a' w' hp=>?_)
      obtain ⟨rfl,G',bJ,R'⟩:=hp
      match hre:r1.e with
      | 0=>exact ⟨by simp [hre,EM,eX],G',bJ,R'⟩
      | 1=>exact ⟨by simp [hre,EM,eX],G',bJ,R'⟩
      | n+2=>
        simp only [EM,Exit.inBlock]
        by_cases hn:n=id
        · rw [if_pos hn];exact ⟨by simp [hre,EM,eX,hn],G',bJ,R'⟩
        · rw [if_neg hn];exact ⟨by simp [hre,EM,eX,hn],G',bJ,R'⟩
  | .loop c,p,ch,s,r,h=>by
    simp only [ev] at h
    have HS:∀ ch r,(match p.inner with
      | .loop M pl drop ws q=>Jd (fun _ _=>Loop) E.hp M pl drop ws ch s (fun st=>ev (fun _ _=>Loop) E Γ c q [] st)
      | .unr n q=>sV (fun ch st=>ev (fun _ _=>Loop) E Γ c q ch st) n ch s
      | _=>.fail).den=some r→Stat s ch r∧∀ a w G pt,Rel E C s a w G pt→(Code.loop c).wp P (Post E C r) a w:=by
      intro ch r h
      split at h
      · rename_i M pl drop ws q hq
        exact Ro eU (fun s r h=>(iU hm eU H D c q [] s r h).1) (fun s a w G pt r R h=>(iU hm eU H D c q [] s r h).2 a w G pt R) h
      · rename_i n q hq
        obtain ⟨k1,k2⟩:=Bl (fun ch s r h=>(iU hm eU H D c q ch s r h).1) (fun ch s r h=>(iU hm eU H D c q ch s r h).2) n ch s r h
        exact ⟨k1,fun a w G pt R=>wM (k2 a w G pt R)⟩
      · cases h
    exact ⟨mV (fun ch r h=>(HS ch r h).1) h,fun a w G pt R=>tH eU (fun ch r h=>(HS ch r h).1) (fun ch r h=>(HS ch r h).2 a w G pt R) h⟩
  | .goto l,p,ch,s,r,h=>by cases h
  | .label l,p,ch,s,r,h=>by
    simp only [ev,Out.den,Option.some.injEq] at h
    subst h
    exact ⟨fun _ h=>h,fun a w G pt R=>wp_label ⟨rfl,G,pt,R⟩⟩
  | .scope c,p,ch,s,r,h=>by
    simp only [ev] at h
    refine ⟨(iU hm eU H D c p ch s r h).1,fun a w G pt R=>wp_scope_straight (wp_mono ((iU hm eU H D c p ch s r h).2 a w G pt R) fun e a' w' hp=>?_)⟩
    obtain ⟨rfl,G',bJ,R'⟩:=hp
    have hpo:Post E C r (EM r.e) a' w':=⟨rfl,G',bJ,R'⟩
    match hre:r.e with
    | 0=>rw [hre] at hpo;exact hpo
    | 1=>rw [hre] at hpo;exact hpo
    | n+2=>rw [hre] at hpo;exact hpo
  | .refuse w,p,ch,s,r,h=>by cases h
  | .rangeFunc f ps a b,p,ch,s,r,h=>by cases h
end
end Go.aW
namespace Go.aW
section
variable {P:Program} {E:Env} {C:Ctx} {s:St} {a:Act} {w:World} {G:Nat→Nat} {pt:Nat→Nat→Option Value} {o:Oper} {u:St}
theorem tJ {x:Option (Bool×St)} (h:(guarded o s x).den=some u):x=some (true,u):=by
  unfold guarded at h
  split at h
  · rename_i g v
    cases hn:yc o s with
    | true=>
      rw [hn] at h
      simp only [cond_true,Out.den] at h
      cases g with
      | true=>simp only [cond_true,Out.den,Option.some.injEq] at h;rw [h]
      | false=>cases h
    | false=>
      rw [hn] at h
      cases g with
      | true=>simp only [cond_true,cond_false,Out.den,Option.some.injEq] at h;rw [h]
      | false=>cases h
  · cases h
theorem KE {x:Option (Bool×St)} (h:(GK x).den=some u):x=some (true,u):=by
  unfold GK at h
  split at h
  · rename_i g v
    cases g with
    | true=>simp only [cond_true,Out.den,Option.some.injEq] at h;rw [h]
    | false=>cases h
  · cases h
def abJ (s:St) (con:aR) (c:Call) (f:Nat):Prop:=c.callee = .value (.func f)∨((∃ x,c.callee = .value x∧aV s x = .Ai f)∧con.xf=none)
def Nf (P:Program) (E:Env) (Γ:dD) (C:Ctx):Prop:=
  ∀ f t v con o c s a w G pt u x,f<1000000→Γ (ckey E o f)=some con→con.xf=none→o.op = .call c→c.callee = .value x→aV s x = .fO f t v→Rel E C s a w G pt→(Bc E con o s c.args.toList (.gN t [v] 0 0)).den=some u→EJ P E C o a w (ak u s)
def CB (P:Program) (E:Env) (Γ:dD) (C:Ctx):Prop:=Nf P E Γ C ∧
  ∀ f con o c s a w G pt u,f<1000000→Γ (ckey E o f)=some con→o.op = .call c→abJ s con c f→Rel E C s a w G pt→(oz E con o s c.args.toList).den=some u→EJ P E C o a w (ak u s)
theorem yJ:∀ (l s:St),ak l s=l.reverse++s
  | [],_=>rfl
  | p::r,s=>by
    show ak r (p::s)=_
    rw [yJ r,List.reverse_cons,List.append_assoc]
    rfl
theorem Rel.gT (R:Rel E C s a w G pt) {o:Oper} (args:List Operand):Rel E C (gT E o s args++s) a w G pt:=by
  unfold aW.gT
  cases Nat.beq (tag E o) 10 with
  | false=>exact R
  | true=>
    simp only [cond_true]
    split
    · split
      · exact R.lU _ 0 _
      · exact R
    · exact R
theorem Ng {Γ:dD} (HP:nM P E) (hm:E.n≤C.m) (HC:CB P E Γ C):Jf P E Γ C:=by
  intro kn o s a w G pt u R h
  unfold Ct at h
  split at h
  · rename_i c x y hop
    cases hd:dP E o with
    | false=>rw [hd] at h;cases h
    | true=>
      rw [hd] at h
      simp only [cond_true] at h
      split at h
      · rename_i b hb
        have fin:(GK (kN E o s (bif b then x else y))).den=some u→EJ P E C o a w (ak u s):=
          fun h=>(Rl R hd c x y b hop hb (KE h)).wp
        split at h
        · rename_i b' _
          simp only [Out.den] at h
          cases hbb:iK b b' with
          | false=>rw [hbb] at h;cases h
          | true=>
            rw [hbb] at h
            have:=jR hbb
            subst this
            exact fin h
        · simp only [Out.den] at h
          cases b with
          | true=>exact fin h
          | false=>exact fin h
      · cases h
  · rename_i c hop
    split at h
    · rename_i f hf
      cases hlt:Nat.blt f 1000000 with
      | false=>rw [hlt] at h;cases h
      | true=>
      rw [hlt] at h
      simp only [cond_true] at h
      split at h
      · rename_i con hcon
        exact HC.2 f con o c s a w G pt u (by simpa [Nat.blt_eq] using hlt) hcon hop (.inl hf) R h
      · cases h
    · rename_i x _ hf
      split at h
      · rename_i f hx
        cases hlt:Nat.blt f 1000000 with
        | false=>rw [hlt] at h;cases h
        | true=>
        rw [hlt] at h
        simp only [cond_true] at h
        split at h
        · rename_i con hcon
          split at h
          · rename_i KF
            refine HC.2 f con o c s a w G pt u (by simpa [Nat.blt_eq] using hlt) hcon hop (.inr ⟨⟨x,hf,hx⟩,KF⟩) R ?_
            unfold oz
            rw [KF]
            exact h
          · cases h
        · cases h
      · rename_i f t v hx
        cases hlt:Nat.blt f 1000000 with
        | false=>rw [hlt] at h;cases h
        | true=>
        rw [hlt] at h
        simp only [cond_true] at h
        split at h
        · rename_i con hcon
          split at h
          · rename_i KF
            exact HC.1 f t v con o c s a w G pt u _ (by simpa [Nat.blt_eq] using hlt) hcon KF hop hf hx R h
          · cases h
        · cases h
      · cases h
    · unfold yg at h
      obtain ⟨u1,h1,h2⟩:=gZ h
      have h2:(gT E o s c.args.toList).reverse++u1=u:=by simpa [Out.den] using h2
      subst h2
      rw [aP,yJ (gT E o s c.args.toList).reverse s,List.reverse_reverse]
      exact (MX HP hm (R.gT _) (tJ h1)).wp
  · exact (MX HP hm R (tJ h)).wp
end
end Go.aW
namespace Go.aW
section
variable {E:Env} {s s':St} {o:Oper}
theorem bD {x:Operand} (h:∀ k∈aB [x],get s' k=get s k):aV s' x=aV s x:=by
  cases x with
  | tmp t=>exact h (2*t) (by simp [aB])
  | _=>rfl
theorem iy {x:Operand} (f:D→D) (g:D→Bool) (h:∀ k∈aB [x],get s' k=get s k):bZ s' x f g=bZ s x f g:=by
  cases x with
  | tmp t=>
    have:=h (2*t) (by simp [aB])
    simp only [bZ,this]
  | _=>rfl
theorem lW {x:Operand}:∀ {xs:List Operand},x∈xs→∀ k∈aB [x],k∈aB xs
  | y::r,h,k,hk=>by
    rcases List.mem_cons.1 h with rfl | h
    · cases x with
      | tmp t=>simp only [aB,List.mem_cons,List.not_mem_nil,or_false] at hk ⊢;exact .inl hk
      | _=>simp [aB] at hk
    · have:=lW h k hk
      cases y with
      | tmp t=>simp only [aB,List.mem_cons];exact .inr this
      | _=>simpa only [aB] using this
theorem Ap {x:Operand} {xs:List Operand} (hx:x∈xs):∀ k∈aB [x],k∈qp s xs:=by
  induction xs with
  | nil=>simp at hx
  | cons y r ih=>
    intro k hk
    simp only [qp,List.mem_append]
    rcases List.mem_cons.1 hx with rfl | hx
    · left
      cases x with
      | tmp t=>
        simp only [aB,List.mem_cons,List.not_mem_nil,or_false] at hk
        subst hk
        simp only [yh]
        split<;>simp
      | _=>simp [aB] at hk
    · exact .inr (ih hx k hk)
theorem Bn {i:Nat}:∀ {l:List Nat},i∈l→2*i+1∈I7 l
  | j::r,h=>by
    simp only [I7,List.mem_cons]
    rcases List.mem_cons.1 h with rfl | h
    · exact .inl rfl
    · exact .inr (Bn h)
theorem qA {d:D} {i:Nat} (h:i∈bQ d):i∈gK d:=by
  cases d<;>first | exact h | (simp [bQ] at h;done)
theorem Nh (v:Value):gK (J8 v)=[]:=by
  unfold J8
  split
  · rfl
  · rename_i k n;cases LU k n<;>rfl
  · rename_i b;cases Nat.ble (jq b).length iQ<;>rfl
  · rfl
  · rfl
theorem GQ {x:Operand} {id:Nat} (h:id∈gK (aV s x)):2*id+1∈yh s x:=by
  cases x with
  | tmp t=>
    simp only [aV] at h
    simp only [yh]
    cases hd:get s (2*t) with
    | agg cs=>
      rw [hd] at h
      exact List.mem_cons_of_mem _ (Bn h)
    | _=>
      rw [hd] at h
      simp only [gK,bQ,List.mem_cons,List.not_mem_nil,or_false] at h
      all_goals (subst h;simp)
  | const v=>
    exfalso
    simp only [aV,Nh,List.not_mem_nil] at h
  | _=>simp [aV,gK,bQ] at h
theorem rH {d:D} (h:∀ id∈bQ d,get s' (2*id+1)=get s (2*id+1)):content s' d=content s d:=by
  cases d<;>first | rfl | skip
  rename_i id st
  simp only [content,h id (by simp [bQ])]
theorem Jh {t:Ty} {d:D} (h:∀ id∈bQ d,get s' (2*id+1)=get s (2*id+1)):tail s' t d=tail s t d:=by
  unfold tail
  split<;>first | rfl | skip
  rw [rH h]
theorem o9 {x:Operand} (h:∀ k∈aB [x],get s' k=get s k):kN E o s' x=kN E o s x:=by
  have e6:qZ o s' x=qZ o s x:=by
    have e1:=bD h
    cases x with
    | tmp t=>
      have e2:get s' (2*t)=get s (2*t):=e1
      simp only [qZ,e2,iy _ _ h,e1]
    | _=>simp only [qZ,iy _ _ h,e1]
  simp only [kN,uT,e6,bD h,iy _ _ h]
theorem KG {x:Operand} (h:∀ k∈aB [x],get s' k=get s k) (hd:∀ t,o.dst=some t→get s' (2*t+1)=get s (2*t+1)):uU E o s' x=uU E o s x:=by
  unfold uU
  cases ho:o.dst with
  | none=>rfl
  | some t=>simp only [bD h,iy _ _ h,hd t ho]
theorem CF {x:Operand} (h:∀ k∈aB [x],get s' k=get s k):kD o s' x=kD o s x:=by
  simp only [kD,bD h]
theorem WB {op:UnOp} {x:Operand} (h:∀ k∈aB [x],get s' k=get s k):aUn o s' op x=aUn o s op x:=by
  simp only [aUn,bD h]
theorem Rp {op:BinOp} {T:Nat} {x y:Operand} (h:∀ k∈aB [x],get s' k=get s k) (h2:∀ k∈aB [y],get s' k=get s k):Ke E o s' op T x y=Ke E o s op T x y:=by
  simp only [Ke,bD h,bD h2]
theorem Aq {T f:Nat} {x:Operand} (h:∀ k∈aB [x],get s' k=get s k):jI E o s' T x f=jI E o s T x f:=by
  simp only [jI,bD h]
theorem KH {T f:Nat} {x:Operand} (h:∀ k∈aB [x],get s' k=get s k):uZ E o s' T x f=uZ E o s T x f:=by
  simp only [uZ,bD h,iy _ _ h]
theorem CG {fn:Fn} {first caps:List Operand} (h:∀ x∈caps,∀ k∈aB [x],get s' k=get s k):kE o s' fn first caps=kE o s fn first caps:=by
  unfold kE
  split
  · rename_i x
    rw [bD (h x (by simp))]
  · rfl
theorem EP {i:Nat} {x:Operand} (h:∀ k∈aB [x],get s' k=get s k):mG o s' x i=mG o s x i:=by
  simp only [mG,bD h]
theorem Ar {T:Nat} {x y:Operand} (h:∀ k∈aB [x],get s' k=get s k) (h2:∀ k∈aB [y],get s' k=get s k):jH E o s' T x y=jH E o s T x y:=by
  simp only [jH,bD h,bD h2]
theorem GR {x:Operand} (h:∀ k∈aB [x],get s' k=get s k) (hd:∀ t,o.dst=some t→get s' (2*t+1)=get s (2*t+1)):nH E o s' x=nH E o s x:=by
  cases ho:o.dst with
  | none=>
    simp only [nH,bD h,iy _ _ h,ho]
    generalize bS (J9 E o.type) (aV s x)=d
    cases d<;>rfl
  | some t=>
    simp only [nH,bD h,iy _ _ h,ho]
    generalize bS (J9 E o.type) (aV s x)=d
    cases d<;>first | rfl | simp only [hd t ho]
theorem KI {T:Nat} (hd:∀ t,o.dst=some t→get s' (2*t+1)=get s (2*t+1)):ru E o s' T=ru E o s T:=by
  cases ho:o.dst with
  | none=>
    simp only [ru,ho]
    cases E.T T<;>rfl
  | some t=>
    simp only [ru,ho]
    cases E.T T<;>first | rfl | simp only [hd t ho]
theorem Rq {T:Nat} {x:Operand} (h:∀ k∈aB [x],get s' k=get s k) (hd:∀ t,o.dst=some t→get s' (2*t+1)=get s (2*t+1)):Gs E o s' T x=Gs E o s T x:=by
  cases ho:o.dst with
  | none=>
    simp only [Gs,bD h,iy _ _ h,ho]
    cases E.T T<;>rfl
  | some t=>
    simp only [Gs,bD h,iy _ _ h,ho]
    cases E.T T<;>first | rfl | simp only [hd t ho]
theorem KJ {T:Nat} {x:Operand} (h:∀ k∈aB [x],get s' k=get s k) (hb:∀ id∈bQ (aV s x),get s' (2*id+1)=get s (2*id+1)):uW E o s' T x=uW E o s T x:=by
  unfold uW
  rw [bD h]
  cases E.T T with
  | none=>rfl
  | some i=>
    cases o.dst with
    | none=>rfl
    | some t=>
      simp only
      cases hx:aV s x<;>first | rfl | skip
      rename_i id st i0 off es
      rw [hx] at hb
      simp only [hb id (by simp [bQ])]
theorem Ni {T:Nat} {x:Operand} (h:∀ k∈aB [x],get s' k=get s k) (hb:∀ id∈bQ (aV s x),get s' (2*id+1)=get s (2*id+1))
    (hd:∀ t,o.dst=some t→get s' (2*t+1)=get s (2*t+1)):AL E o s' T x=AL E o s T x:=by
  have hd':∀ t,o.dst=some t→aI (get s' (2*t+1))=aI (get s (2*t+1)):=fun t ht=>by rw [hd t ht]
  unfold AL
  rw [bD h]
  cases E.T T with
  | none=>rfl
  | some i=>
    simp only
    cases hx:aV s x<;>first | rfl | skip
    · rename_i id st off
      rw [hx] at hb
      simp only [hb id (by simp [bQ])]
      cases get s (2*id+1)<;>first | rfl | skip
      · rename_i st' live cs
        cases live<;>first | rfl | skip
        dsimp only
        generalize (List.take i.size (List.drop off cs))=ds
        generalize tag E o=tg
        match tg with
        | 0=>rfl
        | 1=>rfl
        | 2=>rfl
        | n+4=>rfl
        | 3=>
          match ds with
          | []=>rfl
          | [d]=>
            cases ho:o.dst with
            | none=>cases d<;>rfl
            | some t=>cases d<;>first | rfl | (simp only [hd' t ho];try rfl)
          | d::_::_=>cases d<;>rfl
      · rename_i st' live ar t l
        cases live<;>cases ar<;>rfl
    · rename_i id st i0 off es
      rw [hx] at hb
      simp only [hb id (by simp [bQ])]
end
end Go.aW
namespace Go.aW
section
variable {E:Env} {s s':St} {o:Oper}
theorem GU {T:Nat} {a x:Operand} (ha:∀ k∈aB [a],get s' k=get s k) (h:∀ k∈aB [x],get s' k=get s k)
    (hb:∀ id∈bQ (aV s a),get s' (2*id+1)=get s (2*id+1)):p9 E o s' T a x=p9 E o s T a x:=by
  unfold p9
  rw [bD h,bD ha]
  cases E.T T with
  | none=>rfl
  | some i=>
    simp only [iy _ _ h]
    cases hx:aV s a<;>first | rfl | skip
    · rename_i id st off
      rw [hx] at hb
      simp only [hb id (by simp [bQ])]
    · rename_i id st i0 off es
      rw [hx] at hb
      simp only [hb id (by simp [bQ])]
theorem KL {T:Nat} {a x:Operand} (ha:∀ k∈aB [a],get s' k=get s k) (h:∀ k∈aB [x],get s' k=get s k)
    (hb:∀ id∈bQ (aV s a),get s' (2*id+1)=get s (2*id+1)):uX E o s' T a x=uX E o s T a x:=by
  have hav:∀ k l,mF E s' T a k l=mF E s T a k l:=by
    intro k l
    unfold mF
    rw [bD ha]
    cases E.T T with
    | none=>rfl
    | some i=>
      cases hx:aV s a<;>first | rfl | skip
      rename_i id st off
      rw [hx] at hb
      simp only [hb id (by simp [bQ])]
  unfold uX
  rw [bD h,GU ha h hb]
  simp only [hav]
theorem mW {x:Option Operand} {z:Nat} (h:∀ y,x=some y→∀ k∈aB [y],get s' k=get s k):bound s' x z=bound s x z:=by
  cases x with
  | none=>rfl
  | some y=>simp only [bound,bD (h y rfl)]
theorem KM {T:Nat} {x:Operand} {lo hi:Option Operand} (h:∀ k∈aB [x],get s' k=get s k) (h1:∀ y,lo=some y→∀ k∈aB [y],get s' k=get s k)
    (h2:∀ y,hi=some y→∀ k∈aB [y],get s' k=get s k):uY E o s' T x lo hi=uY E o s T x lo hi:=by
  simp only [uY,bD h,mW h1,mW h2,iy _ _ h]
theorem GV {T:Nat} {x:Operand} {lo:Option Operand} {hi mx:Operand} (h:∀ k∈aB [x],get s' k=get s k) (h1:∀ y,lo=some y→∀ k∈aB [y],get s' k=get s k)
    (h2:∀ k∈aB [hi],get s' k=get s k) (h3:∀ k∈aB [mx],get s' k=get s k):qb E o s' T x lo hi mx=qb E o s T x lo hi mx:=by
  have e1:∀ z,bound s' (some hi) z=bound s (some hi) z:=fun _=>mW (s:=s) (s':=s') (x:=some hi) (fun y hy=>by cases hy;exact h2)
  have e2:∀ z,bound s' (some mx) z=bound s (some mx) z:=fun _=>mW (s:=s) (s':=s') (x:=some mx) (fun y hy=>by cases hy;exact h3)
  simp only [qb,bD h,mW h1,e1,e2,iy _ _ h]
theorem GX {T:Nat} {x:Operand} {lo hi:Option Operand} (h:∀ k∈aB [x],get s' k=get s k)
    (h2:∀ y,hi=some y→∀ k∈aB [y],get s' k=get s k) (hb:∀ id∈bQ (aV s x),get s' (2*id+1)=get s (2*id+1)):qc E o s' T x lo hi=qc E o s T x lo hi:=by
  unfold qc
  rw [bD h]
  simp only [mW h2]
  cases E.T T with
  | none=>rfl
  | some i=>
    cases lo with
    | some y=>cases aV s x<;>rfl
    | none=>
      cases hx:aV s x with
      | fM id st=>
        rw [hx] at hb
        simp only [hb id (by simp [bQ])]
      | _=>rfl
theorem Au {T:Nat} {x i:Operand} (h:∀ k∈aB [x],get s' k=get s k) (h1:∀ k∈aB [i],get s' k=get s k)
    (hb:∀ id∈bQ (aV s x),get s' (2*id+1)=get s (2*id+1)):jJ E o s' T x i=jJ E o s T x i:=by
  simp only [jJ,bD h,bD h1,iy _ _ h]
  cases hx:aV s x<;>first | rfl | skip
  · rename_i id st off
    rw [hx] at hb
    simp only [hb id (by simp [bQ])]
  · rename_i id st
    rw [hx] at hb
    simp only [hb id (by simp [bQ])]
  · rename_i id st n
    rw [hx] at hb
    simp only [hb id (by simp [bQ])]
theorem KN {T:Nat} {x i:Operand} (h:∀ k∈aB [x],get s' k=get s k) (h1:∀ k∈aB [i],get s' k=get s k):u6 E o s' T x i=u6 E o s T x i:=by
  simp only [u6,bD h,bD h1]
theorem Nj {T U:Nat} {x:Operand} (h:∀ k∈aB [x],get s' k=get s k)
    (hb:∀ id∈bQ (aV s x),get s' (2*id+1)=get s (2*id+1)):AO E o s' T U x=AO E o s T U x:=by
  have hc:=rH hb
  unfold AO
  rw [bD h]
  cases E.T T with
  | none=>rfl
  | some a=>
    cases E.T U with
    | none=>rfl
    | some b=>
      dsimp only
      generalize aV s x=d at hc
      split<;>first | rfl | (rw [hc])
theorem Rs {T:Nat} {d:D} (hb:∀ id∈bQ d,get s' (2*id+1)=get s (2*id+1)):Kg E s' T d=Kg E s T d:=by
  have hc:=rH hb
  unfold Kg
  cases E.T T with
  | none=>rfl
  | some a=>
    dsimp only
    split<;>first | rfl | (rw [hc])
theorem GY {T:Nat} {x y:Operand} (h:∀ k∈aB [x],get s' k=get s k) (h1:∀ k∈aB [y],get s' k=get s k)
    (hb:∀ id∈bQ (aV s x),get s' (2*id+1)=get s (2*id+1)) (hb1:∀ id∈bQ (aV s y),get s' (2*id+1)=get s (2*id+1)) :
    qd E o s' T x y=qd E o s T x y:=by
  unfold qd
  rw [bD h,bD h1]
  simp only [Jh hb1]
  cases hx:aV s x<;>first | rfl | skip
  rename_i id st
  rw [hx] at hb
  simp only [hb id (by simp [bQ])]
theorem Nk {T:Nat} {x y:Operand} (h:∀ k∈aB [x],get s' k=get s k) (h1:∀ k∈aB [y],get s' k=get s k)
    (hb:∀ id∈bQ (aV s x),get s' (2*id+1)=get s (2*id+1)) (hb1:∀ id∈bQ (aV s y),get s' (2*id+1)=get s (2*id+1)) :
    AP E o s' T x y=AP E o s T x y:=by
  unfold AP
  rw [bD h,bD h1]
  simp only [Jh hb1]
  cases hx:aV s x<;>first | rfl | skip
  rename_i id st
  rw [hx] at hb
  simp only [hb id (by simp [bQ])]
theorem Bo:∀ {xs:List Operand},(∀ k∈aB xs,get s' k=get s k)→xs.map (aV s')=xs.map (aV s)
  | [],_=>rfl
  | x::r,h=>by
    rw [List.map_cons,List.map_cons,bD fun k hk=>h k (lW List.mem_cons_self k hk),Bo fun k hk=>h k ?_]
    cases x with
    | tmp t=>simp only [aB,List.mem_cons];exact .inr hk
    | _=>simpa only [aB] using hk
theorem Ji {lt:Int→Int→Bool} {xs:List Operand} (h:∀ k∈aB xs,get s' k=get s k):Gt o s' lt xs=Gt o s lt xs:=by
  simp only [Gt,Bo h]
structure Agree (s s':St) (xs:List Operand):Prop where
  sh:∀ k∈aB xs,get s' k=get s k
  bx:∀ x∈xs,∀ id∈gK (aV s x),get s' (2*id+1)=get s (2*id+1)
theorem Agree.one {xs:List Operand} (h:Agree s s' xs) {x:Operand} (hx:x∈xs):∀ k∈aB [x],get s' k=get s k:=
  fun k hk=>h.sh k (lW hx k hk)
theorem Agree.bxL {xs:List Operand} (h:Agree s s' xs) {x:Operand} (hx:x∈xs):∀ id∈bQ (aV s x),get s' (2*id+1)=get s (2*id+1):=
  fun id hid=>h.bx x hx id (qA hid)
theorem ER {b:Builtin} {xs:List Operand} {ts:List Nat} (h:Agree s s' xs):mH E o s' b xs ts=mH E o s b xs ts:=by
  unfold mH
  split<;>first | rfl | skip
  · rw [bD (h.one (by simp)),Rs (h.bxL (by simp))]
  · rw [GY (h.one (by simp)) (h.one (by simp)) (h.bxL (by simp)) (h.bxL (by simp))]
  · rw [Nk (h.one (by simp)) (h.one (by simp)) (h.bxL (by simp)) (h.bxL (by simp))]
  · rw [Ji h.sh]
  · rw [Ji h.sh]
theorem jY {pl:Nat→Option (Nat×Nat)} {f:D→D}:∀ {ps:List (Nat×Operand)} {cs:List D},(∀ p∈ps,∀ k∈aB [p.2],get s' k=get s k) →
    dW pl s' f cs ps=dW pl s f cs ps
  | [],_,_=>rfl
  | (j,x)::r,cs,h=>by
    simp only [dW]
    rw [bD (h (j,x) (by simp))]
    cases pl j with
    | none=>rfl
    | some q=>
      have hr:∀ cs,dW pl s' f cs r=dW pl s f cs r:=fun cs=>jY fun p hp=>h p (List.mem_cons_of_mem _ hp)
      simp only [hr]
theorem kI {f:D→D} {g:D→Bool}:∀ {ps:List (Nat×Operand)},(∀ p∈ps,∀ k∈aB [p.2],get s' k=get s k) →
    dQ s' f g ps=dQ s f g ps
  | [],_=>rfl
  | (j,x)::r,h=>by
    simp only [dQ]
    rw [iy f g (h (j,x) (by simp)),kI fun p hp=>h p (List.mem_cons_of_mem _ hp)]
theorem ES:∀ {ps:List (Nat×Operand)},(∀ p∈ps,∀ k∈aB [p.2],get s' k=get s k)→ko s' ps=ko s ps
  | [],_=>rfl
  | (j,x)::r,h=>by
    have hr:=ES (ps:=r) fun p hp=>h p (List.mem_cons_of_mem _ hp)
    cases x with
    | tmp t=>
      simp only [ko,hr]
      rw [h (j,.tmp t) (by simp) (2*t) (by simp [aB])]
    | _=>simp only [ko,hr]
theorem KO {T:Nat} {ps:List (Nat×Operand)} (h:∀ p∈ps,∀ k∈aB [p.2],get s' k=get s k):uV E o s' T ps=uV E o s T ps:=by
  simp only [uV,jY h,kI h,ES h]
theorem CJ {T n:Nat} {ps:List (Nat×Operand)} (h:∀ p∈ps,∀ k∈aB [p.2],get s' k=get s k) (hd:∀ t,o.dst=some t→get s' (2*t+1)=get s (2*t+1)) :
    jG E o s' T n ps=jG E o s T n ps:=by
  cases ho:o.dst with
  | none=>
    simp only [jG,jY h,kI h,ho]
    cases E.T T<;>rfl
  | some t=>
    simp only [jG,jY h,kI h,ho]
    cases E.T T<;>first | rfl | simp only [hd t ho]
theorem yK {T n:Nat} {ps:List (Nat×Operand)} (h:∀ p∈ps,∀ k∈aB [p.2],get s' k=get s k):jk E o s' T n ps=jk E o s T n ps:=by
  simp only [jk,jY h,kI h]
theorem Jj {l:Lf} {d:D} (hb:∀ id∈bQ d,get s' (2*id+1)=get s (2*id+1)):l.Ao s' d=l.Ao s d:=by
  unfold Lf.Ao
  split<;>first | rfl | (rw [hb _ (by simp only [bQ,List.mem_cons,List.not_mem_nil,or_false])])
theorem Bp:∀ {ls:List Lf} {ds:List D},(∀ id∈dZ ds,get s' (2*id+1)=get s (2*id+1))→nP s' ls ds=nP s ls ds
  | [],[],_=>rfl
  | [],_::_,_=>rfl
  | _::_,[],_=>rfl
  | l::r,d::ds,h=>by
    simp only [nP]
    rw [Jj (fun id hid=>h id (by simp only [dZ,List.mem_append];exact .inl hid)),Bp (fun id hid=>h id (by simp only [dZ,List.mem_append];exact .inr hid))]
theorem arg_eq {p:Sh} {d:D} (hb:∀ id∈gK d,get s' (2*id+1)=get s (2*id+1)):p.arg s' d=p.arg s d:=by
  cases p with
  | lf l=>
    simp only [Sh.arg]
    exact Jj fun id hid=>hb id (qA hid)
  | agg ls=>
    cases d with
    | agg cs=>
      simp only [Sh.arg]
      exact Bp hb
    | _=>rfl
  | _=>rfl
theorem Ru {p:Sh} {d:D} (hb:∀ id∈gK d,get s' (2*id+1)=get s (2*id+1)):p.EC s' d=p.EC s d:=by
  unfold Sh.EC
  rw [arg_eq hb]
theorem vH:∀ {ps:List Sh} {xs:List Operand},Agree s s' xs→iH s' ps xs=iH s ps xs
  | [],[],_=>rfl
  | [],_::_,_=>rfl
  | _::_,[],_=>rfl
  | p::r,x::xs,h=>by
    have h1:Agree s s' xs:=⟨fun k hk=>h.sh k (by cases x<;>simp only [aB,List.mem_cons]<;>first | exact .inr hk | exact hk),fun y hy=>h.bx y (List.mem_cons_of_mem _ hy)⟩
    simp only [iH]
    rw [bD (h.one List.mem_cons_self),Ru (h.bx x List.mem_cons_self),vH h1]
theorem CK:∀ {xs:List Operand},(∀ x∈xs,∀ k∈aB [x],get s' k=get s k)→nQ s' xs=nQ s xs
  | [],_=>rfl
  | x::r,h=>by
    simp only [nQ]
    rw [bD (h x (by simp)),CK fun y hy=>h y (List.mem_cons_of_mem _ hy)]
theorem Jk {rs:RS} {x:rs.ty.den} (hd:∀ t,o.dst=some t→get s' (2*t+1)=get s (2*t+1)):xX o s' rs x=xX o s rs x:=by
  cases rs with
  | sQ ls=>
    simp only [xX]
    cases ho:o.dst with
    | none=>rfl
    | some t=>simp only [hd t ho]
  | _=>rfl
theorem ET {xs:List Operand} (h:∀ x∈xs,∀ k∈aB [x],get s' k=get s k):kW s' xs=kW s xs:=by
  unfold kW
  refine kI fun p hp=>?_
  obtain ⟨x,hx,rfl⟩:=List.mem_map.1 hp
  exact h x hx
theorem lX:∀ {ps:List Sh} {xs:List Operand} {x:Operand},x∈dU ps xs→x∈xs
  | [],_,_,h=>by simp [dU] at h
  | _::_,[],_,h=>by simp [dU] at h
  | p::ps,x::xs,y,h=>by
    simp only [dU] at h
    cases hp:ownSh p with
    | true=>
      rw [hp] at h
      exact List.mem_cons_of_mem _ (lX h)
    | false=>
      rw [hp] at h
      simp only [cond_false,List.mem_cons] at h
      rcases h with h | h
      · exact List.mem_cons.2 (.inl h)
      · exact List.mem_cons_of_mem _ (lX h)
theorem EU {nv:Bool} {ps:List Sh} {xs:List Operand} (h:∀ x∈xs,∀ k∈aB [x],get s' k=get s k):wI nv s' ps xs=wI nv s ps xs:=by
  unfold wI
  rw [ET fun y hy=>h y (lX hy)]
theorem Bq {c:aR} {xs:List Operand} (h:Agree s s' xs) (hd:∀ t,o.dst=some t→get s' (2*t+1)=get s (2*t+1)):nR E c o s' xs=nR E c o s xs:=by
  have tl:∀ {x:Operand} {ys:List Operand},xs=x::ys→Agree s s' ys:=by
    intro x ys he
    subst he
    exact ⟨fun k hk=>h.sh k (by cases x<;>simp only [aB,List.mem_cons]<;>first | exact .inr hk | exact hk),fun y hy=>h.bx y (List.mem_cons_of_mem _ hy)⟩
  unfold nR
  split
  · rename_i x ys hc
    have h2:=tl rfl
    rw [bD (h.one List.mem_cons_self)]
    cases hx:aV s x<;>first | rfl | skip
    rename_i id st off
    have hb:=h.bx x List.mem_cons_self id (by rw [hx];simp [gK,bQ])
    simp only [hb,CK fun y hy=>h2.one hy,vH h2,EU fun y hy=>h2.one hy,Jk hd]
  · simp only [CK fun y hy=>h.one hy,vH h,EU fun y hy=>h.one hy,Jk hd]
  · rfl
theorem EW {c:aR} {xs:List Operand} (h:Agree s s' xs) (hd:∀ t,o.dst=some t→get s' (2*t+1)=get s (2*t+1)):oz E c o s' xs=oz E c o s xs:=by
  unfold oz
  split
  · rename_i x hx
    have hm:xs.map (MZ s')=xs.map (MZ s):=by
      refine List.map_congr_left fun y hy=>?_
      unfold MZ
      rw [bD (h.one hy)]
      have hb:=h.bx y hy
      congr 1
      cases hd:aV s y<;>first | rfl | skip
      · rw [hd] at hb
        exact hb _ (by simp [gK,bQ])
      · rw [hd] at hb
        exact hb _ (by simp [gK,bQ])
      · rename_i cs
        rw [hd] at hb
        simp only [I6]
        split
        · rename_i id hid
          exact hb id (by simp [gK,hid])
        · rfl
    unfold M4
    rw [hm]
    cases ho:o.dst with
    | none=>rfl
    | some t=>simp only [hd t ho]
  · exact Bq h hd
end
end Go.aW
namespace Go.aW
section
variable {E:Env} {s s':St} {o:Oper}
theorem Nl (a b:Nat):¬ 2*a+1=2*b:=by omega
theorem WC {a b:Nat} (h:¬ a=b):¬ 2*a=2*b:=by omega
structure Agr (o:Oper) (s s':St):Prop where
  sh:∀ x∈o.op.operands.toList,∀ k∈aB [x],get s' k=get s k
  bx:deep o.op=true→∀ x∈o.op.operands.toList,∀ id∈gK (aV s x),get s' (2*id+1)=get s (2*id+1)
  dt:∀ t,o.dst=some t→get s' (2*t+1)=get s (2*t+1)
theorem WE (h:Agr o s s'):act E o s' = act E o s:=by
  obtain ⟨h1,h2',h3⟩:=h
  have h2:deep o.op=true→∀ x∈o.op.operands.toList,∀ id∈bQ (aV s x),get s' (2*id+1)=get s (2*id+1):=fun hd x hx id hid=>h2' hd x hx id (qA hid)
  unfold act
  split<;>(try (rename_i hop;rw [hop] at h1 h2 h2';simp only [Op.operands,deep] at h1 h2 h2'))
  · rw [KG (h1 _ (by simp)) h3,o9 (h1 _ (by simp))]
  · exact GR (h1 _ (by simp)) h3
  · exact KI h3
  · exact Rq (h1 _ (by simp)) h3
  · exact KO fun p hp=>h1 _ (by simp only [List.mem_map];exact ⟨p,hp,rfl⟩)
  · rw [CJ (fun p hp=>h1 _ (by simp only [List.mem_map];exact ⟨p,hp,rfl⟩)) h3,yK fun p hp=>h1 _ (by simp only [List.mem_map];exact ⟨p,hp,rfl⟩)]
  · rw [KJ (h1 _ (by simp)) (h2 trivial _ (by simp)),Ni (h1 _ (by simp)) (h2 trivial _ (by simp)) h3]
  · exact KL (h1 _ (by simp)) (h1 _ (by simp)) (h2 trivial _ (by simp))
  · exact CF (h1 _ (by simp))
  · exact Rp (h1 _ (by simp)) (h1 _ (by simp))
  · exact WB (h1 _ (by simp))
  · exact Nj (h1 _ (by simp)) (h2 trivial _ (by simp))
  · exact Ar (h1 _ (by simp)) (h1 _ (by simp))
  · rw [bD (h1 _ (by simp))]
    split
    · exact GX (h1 _ (by simp)) (fun y hy=>h1 _ (by simp [hy])) (h2 trivial _ (by simp))
    · exact KM (h1 _ (by simp)) (fun y hy=>h1 _ (by simp [hy])) (fun y hy=>h1 _ (by simp [hy]))
  · exact GV (h1 _ (by simp)) (fun y hy=>h1 _ (by simp [hy])) (h1 _ (by simp)) (h1 _ (by simp))
  · exact Aq (h1 _ (by simp))
  · exact KH (h1 _ (by simp))
  · exact Au (h1 _ (by simp)) (h1 _ (by simp)) (h2 trivial _ (by simp))
  · exact KN (h1 _ (by simp)) (h1 _ (by simp))
  · exact EP (h1 _ (by simp))
  · exact CG fun x hx=>h1 x (by simp only [Array.toList_append,List.mem_append];exact .inr hx)
  · rename_i c
    split<;>first | rfl | skip
    rename_i b hb
    refine ER ⟨?_,?_⟩
    · intro k hk
      obtain ⟨x,hx,hkx⟩:∃ x∈c.args.toList,k∈aB [x]:=by
        generalize c.args.toList=l at hk
        clear h1 h2 h2' h3
        induction l with
        | nil=>simp [aB] at hk
        | cons y r ih=>
          cases y with
          | tmp t=>
            simp only [aB,List.mem_cons] at hk
            rcases hk with hk | hk
            · exact ⟨.tmp t,by simp,by simp [aB,hk]⟩
            · obtain ⟨x,hx,hkx⟩:=ih hk
              exact ⟨x,by simp [hx],hkx⟩
          | _=>
            simp only [aB] at hk
            obtain ⟨x,hx,hkx⟩:=ih hk
            exact ⟨x,by simp [hx],hkx⟩
      exact h1 x (by simp only [Call.operands,Array.toList_append,List.mem_append];exact .inr hx) k hkx
    · intro x hx
      exact h2' trivial x (by simp only [Call.operands,Array.toList_append,List.mem_append];exact .inr hx)
  · rfl
theorem Br {x:Operand} (h:∀ k∈aB [x],get s' k=get s k) (hb:∀ id∈bQ (aV s x),get s' (2*id+1)=get s (2*id+1)):xY s' x=xY s x:=by
  unfold xY
  rw [bD h]
  cases hx:aV s x<;>first | rfl | skip
  rename_i id st off
  simp only [hb id (by rw [hx];simp [bQ])]
theorem KP (h:Agr o s s'):yc o s' = yc o s:=by
  obtain ⟨h1,h2',_⟩:=h
  have h2:deep o.op=true→∀ x∈o.op.operands.toList,∀ id∈bQ (aV s x),get s' (2*id+1)=get s (2*id+1):=fun hd x hx id hid=>h2' hd x hx id (qA hid)
  unfold yc
  split<;>(try (rename_i hop;rw [hop] at h1 h2;simp only [Op.operands,deep] at h1 h2))
  · split<;>first | rfl | skip
    rw [bD (h1 _ (by simp))]
  · exact Br (h1 _ (by simp)) (h2 trivial _ (by simp))
  · exact Br (h1 _ (by simp)) (h2 trivial _ (by simp))
  · rw [bD (h1 _ (by simp))]
  · rfl
  · rfl
  · rw [bD (h1 _ (by simp))]
  · rw [bD (h1 _ (by simp))]
  · rfl
  · rfl
theorem yL (h:Agr o s s'):guarded o s' (GH E o s')=guarded o s (GH E o s):=by
  simp only [GH,WE h,guarded,KP h]
theorem jZ:∀ {l:List Operand} {k:Nat},k∈aB l→∃ x∈l,k∈aB [x]
  | y::r,k,hk=>by
    cases y with
    | tmp t=>
      simp only [aB,List.mem_cons] at hk
      rcases hk with hk | hk
      · exact ⟨.tmp t,by simp,by simp [aB,hk]⟩
      · obtain ⟨x,hx,hkx⟩:=jZ hk
        exact ⟨x,by simp [hx],hkx⟩
    | _=>
      simp only [aB] at hk
      obtain ⟨x,hx,hkx⟩:=jZ hk
      exact ⟨x,by simp [hx],hkx⟩
theorem jS:∀ (u:St) {s s':St} {k:Nat},get s' k=get s k→get (u++s') k=get (u++s) k
  | [],_,_,_,h=>h
  | (k0,d)::r,s,s',k,h=>by
    show get ((k0,d)::(r++s')) k=get ((k0,d)::(r++s)) k
    rw [aF,aF,jS r h]
theorem GZ {p:Prop}:p→p:=fun h=>h
theorem KQ {s:St} {u X st:Nat} {x:Operand} {id:Nat} (hX:get s (2*u) = .fM X st) (h:id∈gK (aV (lU s (2*u) 0 X++s) x)):id∈gK (aV s x):=by
  cases x with
  | tmp t=>
    have key:get (lU s (2*u) 0 X++s) (2*t)=get s (2*t)∨gK (get (lU s (2*u) 0 X++s) (2*t))=[]:=by
      unfold lU
      split
      · rename_i st' t' l hb
        have ho:odd (2*u)=false:=by
          unfold odd
          rw [Nat.mul_mod_right]
          rfl
        rw [ho]
        simp only [cond_false,hX]
        cases (Nat.beq X X&&Nat.beq st st') with
        | false=>exact .inl rfl
        | true=>
          show get ((2*u,_)::(2*X+1,_)::s) (2*t)=_∨gK (get ((2*u,_)::(2*X+1,_)::s) (2*t))=[]
          rw [aF,aF]
          by_cases htu:2*t=2*u
          · rw [if_pos htu];exact .inr rfl
          · rw [if_neg htu,if_neg (fun e=>Nl X t e.symm)];exact .inl rfl
      · exact .inl rfl
    rcases key with k | k
    · have h:id∈gK (get (lU s (2*u) 0 X++s) (2*t)):=h
      rw [k] at h
      exact h
    · have h:id∈gK (get (lU s (2*u) 0 X++s) (2*t)):=h
      rw [k] at h
      cases h
  | _=>exact h
theorem Nn {Γ:dD} {kn:Kn} (h:Agr o s s'):Ct E Γ kn o s' = Ct E Γ kn o s:=by
  have h0:=h
  obtain ⟨h1,h2,h3⟩:=h0
  unfold Ct
  split<;>(try (rename_i hop;rw [hop] at h1 h2;simp only [Op.operands,deep] at h1 h2))
  · rename_i c x y
    rw [bD (h1 c (by simp)),o9 (h1 x (by simp)),o9 (h1 y (by simp))]
    have hm:∀ b:Bool,kN E o s' (bif b then x else y)=kN E o s (bif b then x else y):=by
      intro b
      cases b
      · exact o9 (h1 y (by simp))
      · exact o9 (h1 x (by simp))
    simp only [hm]
  · split<;>first | rfl | skip
    · split<;>first | rfl | skip
      congr 1
      refine EW ⟨fun k hk=>?_,fun x hx=>h2 trivial x (by simp only [Call.operands,Array.toList_append,List.mem_append];exact .inr hx)⟩ h3
      obtain ⟨x,hx,hkx⟩:=jZ hk
      exact h1 x (by simp only [Call.operands,Array.toList_append,List.mem_append];exact .inr hx) k hkx
    · rename_i c _ x _ hf
      have hx:aV s' x=aV s x:=bD (h1 x (by simp only [Call.operands,hf];simp))
      have key:∀ con:aR,(match con.xf with | none=>nR E con o s' c.args.toList | some _=>.fail)=(match con.xf with | none=>nR E con o s c.args.toList | some _=>.fail):=by
        intro con
        cases KF:con.xf with
        | none=>
          have hc:oz E con o s' c.args.toList=oz E con o s c.args.toList:=by
            refine EW ⟨fun k hk=>?_,fun x hx=>h2 trivial x (by simp only [Call.operands,Array.toList_append,List.mem_append];exact .inr hx)⟩ h3
            obtain ⟨x,hx,hkx⟩:=jZ hk
            exact h1 x (by simp only [Call.operands,Array.toList_append,List.mem_append];exact .inr hx) k hkx
          unfold oz at hc
          rw [KF] at hc
          exact hc
        | some _=>rfl
      rw [hx]
      cases aV s x<;>first | rfl | skip
      · rename_i f
        simp only
        cases Γ (ckey E o f) with
        | none=>rfl
        | some con=>
          cases Nat.blt f 1000000 with
          | false=>rfl
          | true=>exact key con
      · rename_i f t v
        have hc:∀ con:aR,Bc E con o s' c.args.toList (.gN t [v] 0 0)=Bc E con o s c.args.toList (.gN t [v] 0 0):=by
          intro con
          unfold Bc
          rw [Bq (s:=(2*E.n,.gN t [v] 0 0)::s) (s':=(2*E.n,.gN t [v] 0 0)::s') ⟨fun k hk=>?_,fun y hy id hid=>?_⟩ (fun tt ht=>?_)]
          · obtain ⟨y,hy,hky⟩:=jZ hk
            rw [aF,aF]
            by_cases hkn:k=2*E.n
            · rw [if_pos hkn,if_pos hkn]
            · rw [if_neg hkn,if_neg hkn]
              rcases List.mem_append.1 hy with hy | hy
              · exact h1 y (by simp only [Call.operands,Array.toList_append,List.mem_append];exact .inr hy) k hky
              · rw [List.mem_singleton.1 hy] at hky
                simp only [aB,List.mem_cons,List.not_mem_nil,or_false] at hky
                exact absurd hky hkn
          · have ek:¬ 2*id+1=2*E.n:=by omega
            rw [aF,aF,if_neg ek,if_neg ek]
            have hy':aV ((2*E.n,.gN t [v] 0 0)::s) y = .gN t [v] 0 0∨(y∈c.args.toList∧aV ((2*E.n,.gN t [v] 0 0)::s) y=aV s y):=by
              cases y with
              | tmp u=>
                by_cases hu:u=E.n
                · left
                  subst hu
                  show get ((2*E.n,_)::s) (2*E.n)=_
                  rw [aF,if_pos rfl]
                · right
                  rcases List.mem_append.1 hy with hy | hy
                  · refine ⟨hy,?_⟩
                    show get ((2*E.n,_)::s) (2*u)=get s (2*u)
                    rw [aF,if_neg (WC hu)]
                  · have:=List.mem_singleton.1 hy
                    injection this with this
                    exact absurd this hu
              | _=>
                right
                rcases List.mem_append.1 hy with hy | hy
                · exact ⟨hy,rfl⟩
                · cases List.mem_singleton.1 hy
            rcases hy' with he | ⟨hm,he⟩
            · rw [he] at hid
              simp [gK,bQ] at hid
            · rw [he] at hid
              exact h2 trivial y (by simp only [Call.operands,Array.toList_append,List.mem_append];exact .inr hm) id hid
          · have ek:¬ 2*tt+1=2*E.n:=Nl _ _
            rw [aF,aF,if_neg ek,if_neg ek]
            exact h3 tt ht
        simp only
        cases Γ (ckey E o f) with
        | none=>rfl
        | some con=>
          simp only [hc]
    · rename_i c _ _ _
      have h2':∀ x∈c.args.toList,∀ id∈gK (aV s x),get s' (2*id+1)=get s (2*id+1):=fun x hx=>h2 trivial x (by simp only [Call.operands,Array.toList_append,List.mem_append];exact .inr hx)
      have h1':∀ x∈c.args.toList,∀ k∈aB [x],get s' k=get s k:=fun x hx=>h1 x (by simp only [Call.operands,Array.toList_append,List.mem_append];exact .inr hx)
      have hp:gT E o s' c.args.toList=gT E o s c.args.toList:=by
        unfold gT
        cases Nat.beq (tag E o) 10 with
        | false=>rfl
        | true=>
          simp only [cond_true]
          generalize c.args.toList=l at h1' h2'
          cases l with
          | nil=>rfl
          | cons x r=>
            cases x<;>first | rfl | skip
            rename_i u
            have hu:get s' (2*u)=get s (2*u):=h1' (.tmp u) List.mem_cons_self _ (by simp [aB])
            simp only [hu]
            cases hx:get s (2*u)<;>first | rfl | skip
            rename_i X st
            have hX:get s' (2*X+1)=get s (2*X+1):=h2' (.tmp u) List.mem_cons_self X (by
              show X∈gK (get s (2*u))
              rw [hx]
              simp [gK,bQ])
            unfold lU
            simp only [hX,hx,hu]
      unfold yg
      rw [hp]
      have hA:Agr o (gT E o s c.args.toList++s) (gT E o s c.args.toList++s'):=by
        refine ⟨fun x hx k hk=>jS _ (h.sh x hx k hk),fun hd x hx id hid=>jS _ ?_,fun t ht=>jS _ (h.dt t ht)⟩
        refine h.bx hd x hx id ?_
        revert hid
        unfold gT
        cases Nat.beq (tag E o) 10 with
        | false=>exact GZ
        | true=>
          simp only [cond_true]
          split
          · rename_i u _
            split
            · rename_i X st hX
              intro hid
              exact KQ hX hid
            · exact GZ
          · exact GZ
      rw [yL hA]
  · exact yL h
theorem yM {x:Operand} {k:Nat}:∀ {xs:List Operand},x∈xs→k∈yh s x→k∈qp s xs
  | y::r,h,hk=>by
    simp only [qp,List.mem_append]
    rcases List.mem_cons.1 h with rfl | h
    · exact .inl hk
    · exact .inr (yM h hk)
theorem WG {all:List Oper} (h:∀ k∈reads all o s,get s' k=get s k):Agr o s s':=by
  simp only [reads,List.mem_append] at h
  refine ⟨fun x hx k hk=>h k (.inr (.inr ?_)),fun hd x hx id hid=>h _ (.inr (.inr ?_)),fun t ht=>h _ (.inr (.inl ?_))⟩
  · cases deep o.op with
    | true=>exact Ap hx k hk
    | false=>exact lW hx k hk
  · rw [hd]
    exact yM hx (GQ hid)
  · rw [ht];simp
theorem WH {Γ:dD} {all:List Oper} (h:∀ k∈reads all o s,get s' k=get s k):I8 E Γ all o s' = I8 E Γ all o s:=by
  have hA:=WG h
  unfold I8
  split
  · exact Nn hA
  · rename_i j want hg
    split
    · rfl
    · rename_i t ht
      have:get s' (2*t)=get s (2*t):=h _ (by simp [reads,hg,ht])
      rw [this]
      split
      · rw [Nn hA]
      · rfl
      · rfl
end
end Go.aW
namespace Go.aW
def mX (us:Nat→St) (S:Nat→Bool) (s0:St):Nat→St
  | 0=>s0
  | i+1=>bif S i then ak (us i) (mX us S s0 i) else mX us S s0 i
theorem jT:∀ (u s s':St) (k:Nat),k∈aJ u→get (ak u s) k=get (ak u s') k
  | [],_,_,_,h=>by simp [aJ] at h
  | (k0,d)::r,s,s',k,h=>by
    show get (ak r ((k0,d)::s)) k=get (ak r ((k0,d)::s')) k
    by_cases hk:k∈aJ r
    · exact jT r _ _ k hk
    · rw [bC r _ k hk,bC r _ k hk]
      have:k=k0:=by
        simp only [aJ,List.mem_cons] at h
        exact h.resolve_right hk
      rw [aF,aF,if_pos this,if_pos this]
theorem tK {us:Nat→St} {S S':Nat→Bool} {s0:St} {k:Nat}:∀ {n:Nat},(∀ j,j<n→k∈aJ (us j)→S j=S' j) →
    get (mX us S s0 n) k=get (mX us S' s0 n) k
  | 0,_=>rfl
  | n+1,h=>by
    have ih:=tK (s0:=s0) (n:=n) fun j hj=>h j (by omega)
    simp only [mX]
    by_cases hk:k∈aJ (us n)
    · have:=h n (by omega) hk
      rw [this]
      cases S' n with
      | true=>exact jT _ _ _ k hk
      | false=>exact ih
    · have h1:∀ (b:Bool) (s:St),get (bif b then ak (us n) s else s) k=get s k:=by
        intro b s
        cases b with
        | true=>exact bC _ _ k hk
        | false=>rfl
      rw [h1,h1];exact ih
theorem He {us:Nat→St} {s0:St} {i:Nat}:∀ {n:Nat},i≤n→mX us (fun j=>Nat.blt j i) s0 n=mX us (fun _=>true) s0 i
  | 0,h=>by
    have:i=0:=by omega
    subst this;rfl
  | n+1,h=>by
    by_cases hi:i=n+1
    · subst hi
      have:∀ m,m≤n+1→mX us (fun j=>Nat.blt j (n+1)) s0 m=mX us (fun _=>true) s0 m:=by
        intro m
        induction m with
        | zero=>intro _;rfl
        | succ m ih=>
          intro hm
          simp only [mX]
          have:Nat.blt m (n+1)=true:=by simp [Nat.blt_eq];omega
          rw [this,ih (by omega)]
      exact this _ (Nat.le_refl _)
    · have:Nat.blt n i=false:=by
        cases hb:Nat.blt n i with
        | false=>rfl
        | true=>rw [Nat.blt_eq] at hb;omega
      simp only [mX,this,cond_false]
      exact He (by omega)
structure Told (E:Env) (Γ:dD) (all:List Oper) (s0:St) (us:Nat→St) (fs:List oF) (i:Nat) (o:Oper):Prop where
  bl:below i (bY o)=true
  un:(I8 E Γ all o (mX us (fun _=>true) s0 i)).den=some (us i)
  ft:fs[i]? = some { rd:=reads all o (mX us (fun _=>true) s0 i),wr:=aJ (us i),bf:=closure (fs.take i) (bY o) }
  ap:dL (closure (fs.take i) (bY o)) { rd:=reads all o (mX us (fun _=>true) s0 i),wr:=aJ (us i),bf:=closure (fs.take i) (bY o) } 0 (fs.take i)=true
theorem Np {E:Env} {Γ:dD} {kn:Kn} {o:Oper} {s u:St} (h:(Ct E Γ kn o s).den=some u):(Ct E Γ [] o s).den=some u:=by
  unfold Ct at h ⊢
  split at h
  · rename_i c x y hop
    cases hd:dP E o with
    | false=>rw [hd] at h;cases h
    | true=>
      rw [hd] at h
      simp only [cond_true] at h ⊢
      split at h
      · rename_i b hb
        have nil:Wx [] c=none∨∃ b',c = .const (.bool b')∧Wx [] c=some b'∧b' = b:=by
          cases c with
          | const v=>
            cases v<;>first | exact .inl rfl | skip
            rename_i b'
            refine .inr ⟨b',rfl,rfl,?_⟩
            simpa [aV,J8] using hb
          | _=>exact .inl rfl
        have key:(GK (kN E o s (bif b then x else y))).den=some u:=by
          split at h
          · rename_i b' _
            simp only [Out.den] at h
            cases hbb:iK b b' with
            | false=>rw [hbb] at h;cases h
            | true=>
              rw [hbb] at h
              have:=jR hbb
              subst this
              exact h
          · simp only [Out.den] at h
            cases b<;>exact h
        rcases nil with nil | ⟨b',_,nil,rfl⟩
        · rw [nil]
          simp only [Out.den]
          cases b<;>exact key
        · rw [nil]
          have:iK b' b' = true:=by cases b'<;>rfl
          simp only [Out.den,this,cond_true]
          exact key
      · cases h
  · exact h
  · exact h
theorem CO {E:Env} {Γ:dD} {all:List Oper} {o:Oper} {l:List Oper} {kn:Kn} {fs:List oF} {ch:List Nat} {s:St} {r:Lv} (h:(dV E Γ all (o::l) kn fs ch s).den=some r) :
    below fs.length (bY o)=true∧∃ u EL,(I8 E Γ all o s).den=some u∧dL (closure fs (bY o)) (dR all o fs s u) 0 fs=true ∧
      (dV E Γ all l EL (fs++[dR all o fs s u]) (aJ u++ch) (ak u s)).den=some r:=by
  simp only [dV] at h
  cases hb:below fs.length (bY o) with
  | false=>rw [hb] at h;cases h
  | true=>
    rw [hb] at h
    simp only [cond_true] at h
    refine ⟨rfl,?_⟩
    have cont:∀ (u:St) (EL:Kn),(I8 E Γ all o s).den=some u→(bif dL (closure fs (bY o)) (dR all o fs s u) 0 fs then dV E Γ all l EL (fs++[dR all o fs s u]) (aJ u++ch) (ak u s) else .fail).den=some r →
        ∃ u EL,(I8 E Γ all o s).den=some u∧dL (closure fs (bY o)) (dR all o fs s u) 0 fs=true ∧
          (dV E Γ all l EL (fs++[dR all o fs s u]) (aJ u++ch) (ak u s)).den=some r:=by
      intro u EL h1 h2
      cases ha:dL (closure fs (bY o)) (dR all o fs s u) 0 fs with
      | false=>rw [ha] at h2;cases h2
      | true=>
        rw [ha] at h2
        exact ⟨u,EL,h1,ha,h2⟩
    split at h
    · rename_i hg
      obtain ⟨u,hu,h⟩:=bind_some h
      exact cont u _ (by unfold I8;rw [hg];exact Np hu) h
    · rename_i j want hg
      split at h
      · cases h
      · rename_i t ht
        split at h
        · rename_i b hbo
          cases hd:dP E o with
          | false=>rw [hd] at h;cases h
          | true=>
            rw [hd] at h
            simp only [cond_true] at h
            have eG:I8 E Γ all o s = .ite (iK b want) (Ct E Γ [] o s) (.ret (fQ o)):=by
              unfold I8
              simp only [hg,ht,hbo,hd,cond_true]
            have run:∀ (kn1 Nb:Kn),b=want→((Ct E Γ kn1 o s).bind fun u=>bif dL (closure fs (bY o)) (dR all o fs s u) 0 fs then dV E Γ all l Nb (fs++[dR all o fs s u]) (aJ u++ch) (ak u s) else .fail).den=some r →
                ∃ u EL,(I8 E Γ all o s).den=some u∧dL (closure fs (bY o)) (dR all o fs s u) 0 fs=true ∧
                  (dV E Γ all l EL (fs++[dR all o fs s u]) (aJ u++ch) (ak u s)).den=some r:=by
              intro kn1 Nb hw h
              obtain ⟨u,hu,h⟩:=bind_some h
              refine cont u _ ?_ h
              rw [eG]
              subst hw
              have:iK b b=true:=by cases b<;>rfl
              simp only [Out.den,this,cond_true]
              exact Np hu
            have skip:∀ (Nb:Kn),iK b want=false→(bif dL (closure fs (bY o)) (dR all o fs s (fQ o)) 0 fs then dV E Γ all l Nb (fs++[dR all o fs s (fQ o)]) (aJ (fQ o)++ch) (ak (fQ o) s) else .fail).den=some r →
                ∃ u EL,(I8 E Γ all o s).den=some u∧dL (closure fs (bY o)) (dR all o fs s u) 0 fs=true ∧
                  (dV E Γ all l EL (fs++[dR all o fs s u]) (aJ u++ch) (ak u s)).den=some r:=by
              intro Nb hw h
              refine cont (fQ o) _ ?_ h
              rw [eG]
              simp only [Out.den,hw,cond_false]
            split at h
            · rename_i c _
              simp only [Out.den] at h
              cases hbc:iK b c with
              | false=>rw [hbc] at h;cases h
              | true=>
                rw [hbc] at h
                simp only [cond_true] at h
                have:=jR hbc
                subst this
                cases hcw:iK b want with
                | true=>
                  rw [hcw] at h
                  exact run _ _ (jR hcw) h
                | false=>
                  rw [hcw] at h
                  exact skip _ hcw h
            · simp only [Out.den] at h
              cases hbw:iK b want with
              | true=>
                rw [hbw] at h
                exact run _ _ (jR hbw) h
              | false=>
                rw [hbw] at h
                exact skip _ hbw h
        · rename_i hbo
          cases hd:dP E o with
          | false=>rw [hd] at h;cases h
          | true=>
            rw [hd] at h
            simp only [cond_true] at h
            refine cont (fQ o) _ ?_ h
            unfold I8
            simp only [hg,ht,hbo,hd,cond_true]
            rfl
        · cases h
theorem EX {E:Env} {Γ:dD} {all:List Oper} {s0:St}:∀ (l:List Oper) (kn:Kn) (rZ:List oF) (KR:Nat→St) (ch:List Nat) (r:Lv),
    (dV E Γ all l kn rZ ch (mX KR (fun _=>true) s0 rZ.length)).den=some r →
    ∃ us fs,(∀ j,j<rZ.length→us j=KR j)∧(∀ j,j<rZ.length→fs[j]? = rZ[j]?)∧fs.length=rZ.length+l.length ∧
      (∀ j o,l[j]? = some o→Told E Γ all s0 us fs (rZ.length+j) o)∧r.e=0∧r.s=mX us (fun _=>true) s0 fs.length ∧
      (∀ k,k ∉ r.ch→k ∉ ch∧get r.s k=get (mX KR (fun _=>true) s0 rZ.length) k)
  | [],kn,rZ,KR,ch,r,h=>by
    simp only [dV,Out.den,Option.some.injEq] at h
    subst h
    exact ⟨KR,rZ,fun _ _=>rfl,fun _ _=>rfl,rfl,fun j o hj=>by simp at hj,rfl,rfl,fun k hk=>⟨hk,rfl⟩⟩
  | o::l,kn,rZ,KR,ch,r,h=>by
    obtain ⟨hb,u,EL,hu,ha,h⟩:=CO h
    generalize hg:dR all o rZ (mX KR (fun _=>true) s0 rZ.length) u=g at h ha
    have hst:∀ (us1:Nat→St),(∀ j,j<rZ.length→us1 j=KR j)→∀ m,m≤rZ.length→mX us1 (fun _=>true) s0 m=mX KR (fun _=>true) s0 m:=by
      intro us1 h1 m
      induction m with
      | zero=>intro _;rfl
      | succ m ih=>
        intro hm
        simp only [mX,cond_true]
        rw [ih (by omega),h1 m (by omega)]
    have key:=EX l EL (rZ++[g]) (fun j=>if j=rZ.length then u else KR j) (aJ u++ch) r (by
      simp only [List.length_append,List.length_cons,List.length_nil,mX,cond_true,if_true]
      rw [hst _ (fun j hj=>if_neg (by omega)) _ (Nat.le_refl _)]
      exact h)
    obtain ⟨us,fs,k1,k2,k3,k4,k5,k6,k7⟩:=key
    simp only [List.length_append,List.length_cons,List.length_nil] at k1 k2 k3 k4 k7
    have e1:∀ j,j<rZ.length→us j=KR j:=fun j hj=>by rw [k1 j (by omega),if_neg (by omega)]
    have e2:us rZ.length=u:=by rw [k1 _ (by omega),if_pos rfl]
    have e3:∀ j,j<rZ.length→fs[j]? = rZ[j]?:=fun j hj=>by rw [k2 j (by omega),List.getElem?_append_left hj]
    have e4:fs.take rZ.length=rZ:=by
      apply List.ext_getElem?
      intro j
      by_cases hj:j<rZ.length
      · rw [List.getElem?_take_of_lt hj];exact e3 j hj
      · rw [List.getElem?_eq_none (by simp;omega),List.getElem?_eq_none (by omega)]
    have e5:=hst us e1 _ (Nat.le_refl _)
    refine ⟨us,fs,e1,e3,by simp only [List.length_cons];omega,?_,k5,k6,?_⟩
    · intro j o' hj
      cases j with
      | zero=>
        simp only [List.getElem?_cons_zero,Option.some.injEq] at hj
        subst hj
        refine ⟨hb,?_,?_,?_⟩
        · rw [Nat.add_zero,e5,e2];exact hu
        · rw [Nat.add_zero,e5,e2,e4]
          have hg':({ rd:=reads all o (mX KR (fun _=>true) s0 rZ.length),wr:=aJ u,bf:=closure rZ (bY o) }:oF)=g:=hg
          rw [hg',k2 _ (by omega),List.getElem?_append_right (Nat.le_refl _)];simp
        · rw [Nat.add_zero,e5,e2,e4]
          have hg':({ rd:=reads all o (mX KR (fun _=>true) s0 rZ.length),wr:=aJ u,bf:=closure rZ (bY o) }:oF)=g:=hg
          rw [hg']
          exact ha
      | succ j=>
        have:=k4 j o' (by simpa using hj)
        rw [show rZ.length+(j+1)=rZ.length+(0+1)+j from by omega]
        simpa using this
    · intro k hk
      obtain ⟨q1,q2⟩:=k7 k hk
      simp only [List.mem_append,not_or] at q1
      refine ⟨q1.2,?_⟩
      rw [q2]
      simp only [mX,cond_true,if_true]
      rw [hst _ (fun j hj=>if_neg (by omega)) _ (Nat.le_refl _)]
      exact bC _ _ k q1.1
theorem qB {i:Nat}:∀ {l:List Nat},below i l=true→∀ j∈l,j<i
  | [],_,j,h=>by simp at h
  | x::r,hb,j,h=>by
    simp only [below,Bool.and_eq_true,Nat.blt_eq] at hb
    rcases List.mem_cons.1 h with rfl | h
    · exact hb.1
    · exact qB hb.2 j h
theorem qC {k:Nat}:∀ {xs ys:List Nat},k∈union xs ys↔k∈xs∨k∈ys
  | [],ys=>by simp [union]
  | x::xs,ys=>by
    simp only [union]
    cases hm:mem x ys with
    | true=>
      have:=mem_iff.1 hm
      simp only [cond_true,qC,List.mem_cons]
      constructor
      · rintro (h | h)
        · exact .inl (.inr h)
        · exact .inr h
      · rintro ((rfl | h) | h)
        · exact .inr this
        · exact .inl h
        · exact .inr h
    | false=>
      simp only [cond_false,qC,List.mem_cons]
      constructor
      · rintro (h | rfl | h)
        · exact .inl (.inr h)
        · exact .inl (.inl rfl)
        · exact .inr h
      · rintro ((rfl | h) | h)
        · exact .inr (.inl rfl)
        · exact .inl h
        · exact .inr (.inr h)
theorem lY {fs:List oF} {j:Nat}:∀ {l:List Nat},j∈closure fs l→∃ x∈l,j=x∨∃ f,fs[x]? = some f∧j∈f.bf
  | [],h=>by simp [closure] at h
  | x::r,h=>by
    simp only [closure] at h
    split at h
    · rename_i f hf
      rcases qC.1 h with h | h
      · rcases List.mem_cons.1 h with h | h
        · exact ⟨x,by simp,.inl h⟩
        · exact ⟨x,by simp,.inr ⟨f,hf,h⟩⟩
      · obtain ⟨y,h1,h2⟩:=lY h
        exact ⟨y,by simp [h1],h2⟩
    · rcases qC.1 h with h | h
      · simp only [List.mem_cons,List.not_mem_nil,or_false] at h
        exact ⟨x,by simp,.inl h⟩
      · obtain ⟨y,h1,h2⟩:=lY h
        exact ⟨y,by simp [h1],h2⟩
theorem mY {k:Nat}:∀ {xs ys:List Nat},meets xs ys=false→k∈xs→k∈ys→False
  | x::r,ys,h,h1,h2=>by
    simp only [meets,Bool.or_eq_false_iff] at h
    rcases List.mem_cons.1 h1 with rfl | h1
    · have:=mem_iff.2 h2
      rw [h.1] at this;cases this
    · exact mY h.2 h1 h2
theorem nV {bf:List Nat} {g:oF}:∀ {l:List oF} {i j:Nat} {f:oF},dL bf g i l=true→l[j]? = some f→(i+j)∈bf∨apart f g=true
  | [],i,j,f,_,h=>by simp at h
  | x::r,i,0,f,h,hf=>by
    simp only [dL,Bool.and_eq_true,Bool.or_eq_true] at h
    simp only [List.getElem?_cons_zero,Option.some.injEq] at hf
    subst hf
    rcases h.1 with h | h
    · exact .inl (mem_iff.1 h)
    · exact .inr h
  | x::r,i,j+1,f,h,hf=>by
    simp only [dL,Bool.and_eq_true] at h
    rw [show i+(j+1)=i+1+j from by omega]
    exact nV h.2 (by simpa using hf)
theorem filter_lt {p q:Nat→Bool} {x:Nat}:∀ {l:List Nat},l.Nodup→(∀ j,q j=true→p j=true)→x∈l→p x=true→q x=false→(l.filter q).length<(l.filter p).length
  | [],_,_,h,_,_=>by simp at h
  | y::r,hn,hs,hx,hp,hq=>by
    have hn':=List.nodup_cons.1 hn
    have le:(r.filter q).length≤(r.filter p).length:=by
      clear hn hn' hx
      induction r with
      | nil=>simp
      | cons z r ih=>
        simp only [List.filter_cons]
        by_cases hz:q z=true
        · rw [if_pos hz,if_pos (hs z hz)];simpa using ih
        · rw [if_neg hz]
          split
          · simp only [List.length_cons];omega
          · exact ih
    simp only [List.filter_cons]
    rcases List.mem_cons.1 hx with rfl | hx
    · rw [hp,hq]
      simp only [Bool.false_eq_true,if_false,if_true,List.length_cons]
      omega
    · have ih:=filter_lt hn'.2 hs hx hp hq
      by_cases hz:q y=true
      · rw [if_pos hz,if_pos (hs y hz)];simpa using ih
      · rw [if_neg hz]
        split
        · simp only [List.length_cons];omega
        · exact ih
section
variable {P:Program} {E:Env} {C:Ctx}
theorem Rel.world {s:St} {a:Act} {w w':World} {G:Nat→Nat} {pt:Nat→Nat→Option Value} (R:Rel E C s a w G pt) (hh:w'.heap=w.heap) (ho:w'.os=w.os)
    (hp:w'.output=w.output) (ht:w'.tape=w.tape):Rel E C s a w' G pt:=by
  have hc:∀ b o,w'.cell? ⟨b,o,none⟩=w.cell? ⟨b,o,none⟩:=fun b o=>cell_of_heap (by rw [hh]) o
  refine R.step (fun _=>False) (fun _=>False) (fun _=>False) rfl R.df (fun _ _=>⟨rfl,rfl⟩) (fun _ _=>⟨rfl,rfl⟩) ⟨fun b o _=>hc b o,fun b=>Nat.le_refl _⟩
    (fun _ _ _ h=>h) (fun b _ _=>⟨by rw [hh],rfl⟩) (fun _ h=>h.elim) (fun _ h=>h.elim) (fun _ h=>h.elim) (fun _ h=>h.elim) (fun _ h=>h.elim) ?_
    (fun b hb=>R.gz b (by rw [←hh];exact hb)) ho hp ht (by rw [hh];exact Nat.le_refl _)
  intro c1 c2 b
  have:TC E.n C.m s a w' pt b=TC E.n C.m s a w pt b:=by
    unfold TC
    rw [aM fun i _=>c1 i id b,aM fun i _=>c2 i id b]
  rw [this,hh]
  exact ⟨R.ct b,R.cb b⟩
theorem EY {Γ:dD} (Hg:P.follows .mixedOrders=true) (H:Jf P E Γ C):Jg P E Γ C:=by
  intro id ops ch s0 r hr
  obtain ⟨us,fs,-,-,hlen,htold,he,hs,hst⟩:=EX (E:=E) (Γ:=Γ) (all:=ops.toList) (s0:=s0) ops.toList [] [] (fun _=>[]) ch r hr
  simp only [List.length_nil,Nat.zero_add,mX] at hlen htold hst
  have hn:fs.length=ops.size:=by simpa using hlen
  refine ⟨fun s' h0 k hk=>?_,?_⟩
  · obtain ⟨h1,h2⟩:=hst k hk
    rw [h2];exact h0 k h1
  intro a w G pt R
  refine wp_region_any Hg ?_
  have R:Rel E C s0 a { w with drawn:=w.drawn+1 } G pt:=R.world rfl rfl rfl rfl
  generalize { w with drawn:=w.drawn+1 }=w at R
  -- one operation's facts
  have T:∀ i o,ops[i]? = some o→Told E Γ ops.toList s0 us fs i o:=fun i o h=>htold i o (by simpa using h)
  have bfS:∀ (S:Nat→Bool),(∀ i o,ops[i]? = some o→S i=true→∀ j∈bY o,S j=true)→∀ i f,fs[i]? = some f→S i=true→∀ j∈f.bf,S j=true:=by
    intro S hS i
    induction i using Nat.strongRecOn with
    | _ i ih=>
      intro f hf hi j hj
      have hlt:i<ops.size:=by
        have:=(List.getElem?_eq_some_iff.1 hf).1
        omega
      have ho:ops[i]? = some ops[i]:=by simp [hlt]
      have t:=T i _ ho
      rw [t.ft] at hf
      simp only [Option.some.injEq] at hf
      subst hf
      obtain ⟨x,hx,hj⟩:=lY hj
      have hSx:=hS i _ ho hi x hx
      rcases hj with rfl | ⟨f,hf,hj⟩
      · exact hSx
      · have hlt:=qB t.bl x hx
        rw [List.getElem?_take_of_lt hlt] at hf
        exact ih x hlt f hf hSx j hj
  have gd:∀ {L:Array Bool} {j:Nat},L.size=ops.size→j<ops.size→L.getD j false=L.getD j true:=by
    intro L j h1 h2
    simp [h1,h2]
  have fin:∀ (L:Array Bool) (a:Act) (w:World) (G:Nat→Nat) (pt:Nat→Nat→Option Value),L.size=ops.size→(∀ i,i<ops.size→L.getD i true=true) →
      Rel E C (mX us (fun i=>L.getD i false) s0 ops.size) a w G pt→Post E C r .normal a w:=by
    intro L a w G pt hL hall R
    refine ⟨by rw [he];rfl,G,pt,?_⟩
    rw [hs,hn]
    refine R.congr fun k=>tK fun j hj _=>?_
    rw [gd hL hj,hall j hj]
  have key:∀ (fuel:Nat) (L:Array Bool) (a:Act) (w:World) (G:Nat→Nat) (pt:Nat→Nat→Option Value),L.size=ops.size →
      (∀ i o,ops[i]? = some o→L.getD i false=true→∀ j∈bY o,L.getD j false=true) →
      ((List.range ops.size).filter fun i=>!L.getD i true).length≤fuel →
      Rel E C (mX us (fun i=>L.getD i false) s0 ops.size) a w G pt→wpAny P .any ops (Post E C r) fuel L a w:=by
    intro fuel
    induction fuel with
    | zero=>
      intro L a w G pt hL hS hf R
      have all:∀ i,i<ops.size→L.getD i true=true:=by
        intro i hi
        have hnil:=List.length_eq_zero_iff.1 (Nat.le_zero.1 hf)
        cases hb:L.getD i true with
        | true=>rfl
        | false=>
          have:i∈(List.range ops.size).filter fun i=>!L.getD i true:=by
            rw [List.mem_filter,List.mem_range,hb];exact ⟨hi,rfl⟩
          rw [hnil] at this
          simp at this
      refine ⟨?_,fin L a w G pt hL all R⟩
      apply List.eq_nil_iff_forall_not_mem.2
      intro i hi
      obtain ⟨h1,o,h2,_⟩:=mem_ready.1 hi
      have:=all i (Array.getElem?_eq_some_iff.1 h2).1
      rw [h1] at this;cases this
    | succ fuel ih=>
      intro L a w G pt hL hS hf R
      refine ⟨fun hnil=>fin L a w G pt hL (fun i hi=>?_) R,fun i hi=>?_⟩
      · induction i using Nat.strongRecOn with
        | _ i ih2=>
          cases hb:L.getD i true with
          | true=>rfl
          | false=>
            exfalso
            have ho:ops[i]? = some ops[i]:=by simp [hi]
            have:i∈Region.ready .any ops L:=by
              refine mem_ready.2 ⟨hb,ops[i],ho,fun e he hbe=>?_⟩
              have hm:e.on∈bY ops[i]:=by
                simp only [bY,List.mem_map,List.mem_filter]
                exact ⟨e,⟨by simpa using he,hbe⟩,rfl⟩
              have hlt:=qB (T i _ ho).bl _ hm
              rw [gd hL (by omega)]
              exact ih2 e.on hlt (by omega)
            rw [hnil] at this
            simp at this
      · obtain ⟨hi0,o,ho,hed⟩:=mem_ready.1 hi
        have hlt:=(Array.getElem?_eq_some_iff.1 ho).1
        have t:=T i o ho
        have hbS:∀ j∈bY o,L.getD j false=true:=by
          intro j hj
          simp only [bY,List.mem_map,List.mem_filter] at hj
          obtain ⟨e,⟨h1,h2⟩,rfl⟩:=hj
          exact hed e (by simpa using h1) h2
        have hi1:L.getD i false=false:=by rw [gd hL hlt];exact hi0
        have cl:=bfS (fun j=>L.getD j false) hS
        -- what comes before for sure is done
        have cb:∀ j∈closure (fs.take i) (bY o),L.getD j false=true:=by
          intro j hj
          obtain ⟨x,hx,hj⟩:=lY hj
          rcases hj with rfl | ⟨f,hf,hj⟩
          · exact hbS j hx
          · have hxl:=qB t.bl x hx
            rw [List.getElem?_take_of_lt hxl] at hf
            exact cl x f hf (hbS x hx) j hj
        -- an earlier one that is not done is apart
        have early:∀ j,j<i→L.getD j false=false→∀ f,fs[j]? = some f→∀ k∈f.wr,k∈reads ops.toList o (mX us (fun _=>true) s0 i)∨k∈aJ (us i)→False:=by
          intro j hj hb f hf k hk h
          rcases nV t.ap (by rw [List.getElem?_take_of_lt hj];exact hf) with h1 | h1
          · have:=cb _ h1
            rw [Nat.zero_add,hb] at this;cases this
          · simp only [apart,Bool.and_eq_true,Bool.not_eq_true'] at h1
            rcases h with h | h
            · exact mY h1.1.1 hk h
            · exact mY h1.1.2 hk h
        -- a later one that is done is apart
        have late:∀ j,i<j→L.getD j false=true→∀ f,fs[j]? = some f→∀ k∈f.wr,k∈reads ops.toList o (mX us (fun _=>true) s0 i)∨k∈aJ (us i)→False:=by
          intro j hj hb f hf k hk h
          have hjn:j<ops.size:=by
            have:=(List.getElem?_eq_some_iff.1 hf).1
            omega
          have hoj:ops[j]? = some ops[j]:=by simp [hjn]
          have tj:=T j _ hoj
          have hf':=tj.ft
          rw [hf] at hf'
          simp only [Option.some.injEq] at hf'
          subst hf'
          rcases nV tj.ap (by rw [List.getElem?_take_of_lt hj];exact t.ft) with h1 | h1
          · have:=cl j _ hf hb i (by simpa using h1)
            rw [hi1] at this;cases this
          · simp only [apart,Bool.and_eq_true,Bool.not_eq_true'] at h1
            rcases h with h | h
            · exact mY h1.2 hk h
            · exact mY h1.1.2 h hk
        have wr:∀ j,j<ops.size→∃ f,fs[j]? = some f∧f.wr=aJ (us j):=by
          intro j hj
          exact ⟨_,(T j ops[j] (by simp [hj])).ft,rfl⟩
        -- it reads what it reads in order
        have rd:∀ k∈reads ops.toList o (mX us (fun _=>true) s0 i),get (mX us (fun j=>L.getD j false) s0 ops.size) k=get (mX us (fun _=>true) s0 i) k:=by
          intro k hk
          rw [←He (n:=ops.size) (Nat.le_of_lt hlt)]
          refine tK fun j hj hkj=>?_
          obtain ⟨f,hf,hw⟩:=wr j hj
          rw [←hw] at hkj
          by_cases hji:j<i
          · have hbl:Nat.blt j i=true:=by rw [Nat.blt_eq];exact hji
            rw [hbl]
            cases hb:L.getD j false with
            | true=>rfl
            | false=>exact (early j hji hb f hf k hkj (.inl hk)).elim
          · have hbl:Nat.blt j i=false:=by
              cases hb:Nat.blt j i with
              | false=>rfl
              | true=>rw [Nat.blt_eq] at hb;omega
            rw [hbl]
            cases hb:L.getD j false with
            | false=>rfl
            | true=>
              rcases Nat.lt_or_ge i j with h | h
              · exact (late j h hb f hf k hkj (.inl hk)).elim
              · have:j=i:=by omega
                subst this
                rw [hi1] at hb;cases hb
        have un:=t.un
        rw [←WH rd] at un
        -- behind it
        have after:∀ k,get (ak (us i) (mX us (fun j=>L.getD j false) s0 ops.size)) k=get (mX us (fun j=>(L.setIfInBounds i true).getD j false) s0 ops.size) k:=by
          intro k
          by_cases hk:k∈aJ (us i)
          · have h1:get (mX us (fun j=>(L.setIfInBounds i true).getD j false) s0 ops.size) k=get (mX us (fun j=>Nat.blt j (i+1)) s0 ops.size) k:=by
              refine tK fun j hj hkj=>?_
              obtain ⟨f,hf,hw⟩:=wr j hj
              rw [←hw] at hkj
              by_cases hji:j=i
              · subst hji
                have:Nat.blt j (j+1)=true:=by rw [Nat.blt_eq];omega
                rw [this]
                simp [hL,hj]
              · rw [getD_set_ne false (Ne.symm hji)]
                by_cases hlt2:j<i
                · have hbl:Nat.blt j (i+1)=true:=by rw [Nat.blt_eq];omega
                  rw [hbl]
                  cases hb:L.getD j false with
                  | true=>rfl
                  | false=>exact (early j hlt2 hb f hf k hkj (.inr hk)).elim
                · have hbl:Nat.blt j (i+1)=false:=by
                    cases hb:Nat.blt j (i+1) with
                    | false=>rfl
                    | true=>rw [Nat.blt_eq] at hb;omega
                  rw [hbl]
                  cases hb:L.getD j false with
                  | false=>rfl
                  | true=>exact (late j (by omega) hb f hf k hkj (.inr hk)).elim
            rw [h1,He (by omega)]
            simp only [mX,cond_true]
            exact jT _ _ _ k hk
          · rw [bC _ _ k hk]
            refine tK fun j hj hkj=>?_
            by_cases hji:j=i
            · subst hji;exact (hk hkj).elim
            · rw [getD_set_ne false (Ne.symm hji)]
        have IH:∀ a' w' G' bJ,Rel E C (ak (us i) (mX us (fun j=>L.getD j false) s0 ops.size)) a' w' G' bJ→wpAny P .any ops (Post E C r) fuel (L.setIfInBounds i true) a' w':=by
          intro a' w' G' bJ R'
          refine ih (L.setIfInBounds i true) a' w' G' bJ (by simpa using hL) ?_ ?_ (R'.congr fun k=>(after k).symm)
          · intro j oj hoj hj j' hj'
            by_cases hji:j=i
            · subst hji
              rw [ho] at hoj
              simp only [Option.some.injEq] at hoj
              subst hoj
              exact getD_set_true (hbS j' hj')
            · rw [getD_set_ne false (Ne.symm hji)] at hj
              exact getD_set_true (hS j oj hoj hj j' hj')
          · refine Nat.le_of_lt_succ (Nat.lt_of_lt_of_le ?_ hf)
            refine filter_lt (List.nodup_range) (x:=i) (fun j hj=>?_) (by simpa using hlt) (by rw [hi0];rfl) (by simp [hL,hlt])
            by_cases hji:j=i
            · subst hji;simp [hL,hlt] at hj
            · rw [getD_set_ne true (Ne.symm hji)] at hj;exact hj
        -- the operation itself
        unfold wpOp
        rw [ho]
        simp only
        unfold I8 at un
        split at un
        · rename_i hg
          rw [if_pos (by simp [Region.wanted,hg])]
          exact .inl (H [] o _ a w G pt _ R un _ _ fun a' w' G' bJ R'=>IH a' w' G' bJ R')
        · rename_i j want hg
          split at un
          · cases un
          · rename_i tt ht
            split at un
            · rename_i b hb
              have hy:=EK R ht hb
              have hwd:Region.wanted o (yielded ops a.tmps)=decide (b=want):=by
                simp only [Region.wanted,hg,hy]
                cases b<;>cases want<;>rfl
              cases hd:dP E o with
              | false=>rw [hd] at un;cases un
              | true=>
                rw [hd] at un
                simp only [cond_true,Out.den] at un
                cases hbw:iK b want with
                | true=>
                  rw [hbw] at un
                  rw [hwd,if_pos (by simpa using jR hbw)]
                  exact .inl (H [] o _ a w G pt _ R un _ _ fun a' w' G' bJ R'=>IH a' w' G' bJ R')
                | false=>
                  rw [hbw] at un
                  simp only [cond_false,Option.some.injEq] at un
                  have hne:=Cy hbw
                  rw [hwd,if_neg (by rw [hne];simp [Cz])]
                  refine IH _ w G pt ?_
                  rw [←un]
                  exact R.skipped hd
            · rename_i hb
              have hy:=yF R ht hb
              have hwd:Region.wanted o (yielded ops a.tmps)=false:=by
                simp only [Region.wanted,hg,hy]
                cases want<;>rfl
              cases hd:dP E o with
              | false=>rw [hd] at un;cases un
              | true=>
                rw [hd] at un
                simp only [cond_true,Out.den,Option.some.injEq] at un
                rw [hwd,if_neg (by simp)]
                refine IH _ w G pt ?_
                rw [←un]
                exact R.skipped hd
            · cases un
  refine key ops.size _ a w G pt (by simp) (fun i o _ hi=>?_) ?_ ?_
  · exfalso
    rw [Array.getD_eq_getD_getElem?,Array.getElem?_replicate] at hi
    split at hi<;>simp at hi
  · refine Nat.le_trans (List.length_filter_le _ _) ?_
    simp
  · have h0:∀ n,mX us (fun i=>(Array.replicate ops.size false).getD i false) s0 n=s0:=by
      intro n
      induction n with
      | zero=>rfl
      | succ n ih=>
        simp only [mX]
        have:(Array.replicate ops.size false).getD n false=false:=by
          rw [Array.getD_eq_getD_getElem?,Array.getElem?_replicate]
          split<;>rfl
        rw [this];exact ih
    rw [h0];exact R
end
end Go.aW