/- The abstract evaluator, part 3: proved is that regions, branches, blocks and loops that the evaluator runs do what the run says, in every order that a region allows; no conditions but those that each theorem states. -/
import Derived.Test.YtlfiacncaggbcaaGreatAbsB
import Derived.Scope
set_option linter.unusedVariables false
set_option linter.unusedSimpArgs false
namespace Go.dw
inductive Out (R:Type) where
 | ret (r:R)
 | fail
 | ite (c:Bool) (a b:Out R)
 | call (t:Ty) (r:Option t.den) (k:t.den→Out R)
def Out.den {R:Type}:Out R→Option R
 | .ret r=>some r
 | .fail=>none
 | .ite c a b=>bif c then a.den else b.den
 | .call _ r k=>match r with
  | some x=>(k x).den
  | none=>none
def Out.bind {R S:Type}:Out R→(R→Out S)→Out S
 | .ret r,f=>f r
 | .fail,_=>.fail
 | .ite c a b,f=>.ite c (a.bind f) (b.bind f)
 | .call t r k,f=>.call t r (fun x=>(k x).bind f)
def j5 (a:Bool):Bool→Bool
 | true=>a
 | false=>(match a with
  | true=>false
  | false=>true)
inductive Lf where
 | cst (d:D) | int (k:IntKind) | bool | str | sl (f:Nat) (t:Ty) | iF (f:Nat) (t:Ty) | vp (t:Ty) | av (k:IntKind) | va (k:IntKind)
inductive Sh where
 | lf (l:Lf) | agg (ls:List Lf) | aI (st:Nat) (live:Bool) (ls:List Lf) | aX (st:Nat) (live ar:Bool) (t:Ty) | dI (st:Nat) (t:Ty) | bO (st:Nat) (k v:Ty)
@[reducible] def Lf.ty:Lf→Ty
  | .cst _=>.unit
  | .int k=>.int k
  | .bool=>.bool
  | .str=>.str
  | .sl _ t=>.sl t
  | .iF f t=>.iF f t
  | .vp t=>t
  | .av k=>.sl (.int k)
  | .va k=>.sl (.int k)
@[reducible] def fJ:List Lf→Ty
  | []=>.unit
  | l::r=>.cons l.ty (fJ r)
@[reducible] def Sh.ty:Sh→Ty
  | .lf l=>l.ty
  | .agg ls=>fJ ls
  | .aI _ _ ls=>fJ ls
  | .aX _ _ _ t=>.sl t
  | .dI _ t=>.sl (.sl t)
  | .bO _ k v=>.sl (ent k v)
@[reducible] def kJ:List Sh→Ty
  | []=>.unit
  | l::r=>.cons l.ty (kJ r)
def Lf.aZ:(l:Lf)→l.ty.den→D
 | .cst d,_=>d
 | .int k,n=>.int k n
 | .bool,b=>.bool b
 | .str,s=>.str s
 | .sl f t,l=>.sl f t l
 | .iF f t,x=>.iF f t x
 | .vp t,x=>.jQ t [x] 0 0
 | .av k,l=>.av k l
 | .va k,l=>.vpa k l
def aO:(ls:List Lf)→(fJ ls).den→List D
 | [],_=>[]
 | l::r,x=>l.aZ x.1::aO r x.2
def Sh.aZ:(l:Sh)→l.ty.den→D
 | .lf l,x=>l.aZ x
 | .agg ls,x=>.agg (aO ls x)
 | .aI st live ls,x=>.aI st live (aO ls x)
 | .aX st live ar t,l=>.aX st live ar t l
 | .dI st t,l=>.dI st t l none
 | .bO st k v,l=>.bO st k v l
def agj {a b c d:Ty} (h:(Ty.cons a b).beq (.cons c d)=true) (l:List (a.den×b.den)):List (c.den×d.den):=xG (a:=ent a b) (b:=ent c d) (Ty.eq_of_beq h) l
def keq:D→D→Bool
 | .undef,.undef=>true
 | .lS,.lS=>true
 | .ptr a b c,.ptr a' b' c'=>Nat.beq a a' && Nat.beq b b' && Nat.beq c c'
 | .BF a b,.BF a' b'=>Nat.beq a a' && Nat.beq b b'
 | .fU a b,.fU a' b'=>Nat.beq a a' && Nat.beq b b'
 | .Jr a b c,.Jr a' b' c'=>Nat.beq a a' && Nat.beq b b' && Nat.beq c c'
 | .BG a,.BG a'=>Nat.beq a a'
 | _,_=>false
theorem Wt {a b:D} (h:keq a b=true):a=b:=by
 cases a<;>cases b<;>simp only [keq,xD,dA] at h<;>first | rfl | skip
 ·rw [fD h.1.1,fD h.1.2,fD h.2]
 ·rw [fD h.1,fD h.2]
 ·rw [fD h.1,fD h.2]
 ·rw [fD h.1.1,fD h.1.2,fD h.2]
 ·rw [fD h]
def Lf.abs:(l:Lf)→D→Option l.ty.den
 | .cst d,d'=>bif keq d d' then some () else none
 | .int k,.int k' n=>bif mZ k k' then some n else none
 | .bool,.bool b=>some b
 | .str,.str s=>some s
 | .sl f t,.sl f' t' l=>bif Nat.beq f f' then (if h:t'.beq t=true then some (xG (Ty.eq_of_beq h) l) else none) else none
 | .iF f t,.iF f' t' x=>if h:(Ty.iF f' t').beq (.iF f t)=true then some (TR (Ty.eq_of_beq h) x) else none
 | .vp t,.jQ t' [x] 0 0=>if h:t'.beq t=true then some (TR (Ty.eq_of_beq h) x) else none
 | .av k,.av k' l=>bif mZ k k' then some l else none
 | .va k,.vpa k' l=>bif mZ k k' then some l else none
 | _,_=>none
def tZ:(ls:List Lf)→List D→Option (fJ ls).den
 | [],[]=>some ()
 | l::r,d::ds=>match l.abs d,tZ r ds with
  | some x,some y=>some (x,y)
  | _,_=>none
 | _,_=>none
def Sh.abs:(l:Sh)→D→Option l.ty.den
 | .lf l,d=>l.abs d
 | .agg ls,.agg cs=>tZ ls cs
 | .aI st live ls,.aI st' FU cs=>bif Nat.beq st st' && j5 live FU then tZ ls cs else none
 | .aX st live ar t,.aX st' FU ar' t' l=>bif Nat.beq st st' && j5 live FU&&j5 ar ar' then (if h:t'.beq t=true then some (xG (Ty.eq_of_beq h) l) else none) else none
 | .dI st t,.dI st' t' l none=>bif Nat.beq st st' then (if h:(Ty.sl t').beq (.sl t)=true then some (xG (Ty.eq_of_beq h) l) else none) else none
 | .bO st k v,.bO st' k' v' l=>bif Nat.beq st st' then (if h:(Ty.cons k' v').beq (.cons k v)=true then some (agj h l) else none) else none
 | _,_=>none
theorem Lf.qd {l:Lf} {d:D} {x:l.ty.den} (h:l.abs d=some x):l.aZ x=d:=by
 cases l with
 | cst d0=>
  simp only [Lf.abs] at h
  cases hk:keq d0 d with
  | true=>exact Wt hk
  | false=>simp [hk] at h
 | int k=>
  cases d<;>simp only [Lf.abs,reduceCtorEq] at h
  rename_i k' n
  cases hk:mZ k k' with
  | true=>
   simp only [hk,aQ,bn] at h;subst h;rw [gW hk];rfl
  | false=>simp [hk] at h
 | bool=>
  cases d<;>simp only [Lf.abs,reduceCtorEq,bn] at h
  subst h;rfl
 | str=>
  cases d<;>simp only [Lf.abs,reduceCtorEq,bn] at h
  subst h;rfl
 | sl f t=>
  cases d<;>simp only [Lf.abs,reduceCtorEq] at h
  rename_i f' t' l
  cases hk:Nat.beq f f' with
  | true=>
   simp only [hk,aQ] at h;split at h
   ·rename_i hb
    have he:=Ty.eq_of_beq hb;subst he;simp only [bn] at h;subst h;rw [fD hk];rfl
   ·cases h
  | false=>simp [hk] at h
 | iF f t=>
  cases d<;>simp only [Lf.abs,reduceCtorEq] at h
  rename_i f' t' y;split at h
  ·rename_i hb
   have he:=Ty.eq_of_beq hb
   injection he with e1 e2
   subst e1 e2;simp only [bn] at h;subst h;rfl
  ·cases h
 | av k=>
  cases d<;>simp only [Lf.abs,reduceCtorEq] at h
  rename_i k' l
  cases hk:mZ k k' with
  | true=>
   simp only [hk,aQ,bn] at h;subst h;rw [gW hk];rfl
  | false=>simp [hk] at h
 | va k=>
  cases d<;>simp only [Lf.abs,reduceCtorEq] at h
  rename_i k' l
  cases hk:mZ k k' with
  | true=>
   simp only [hk,aQ,bn] at h;subst h;rw [gW hk];rfl
  | false=>simp [hk] at h
 | vp t=>
  cases d with
  | jQ t' l i off=>
   match l,i,off,h with
   | [y],0,0,h=>
    have h':(if hb:t'.beq t=true then some (TR (Ty.eq_of_beq hb) y) else none)=some x:=h
    split at h'
    ·rename_i hb
     have he:=Ty.eq_of_beq hb;subst he;simp only [bn] at h';subst h';rfl
    ·cases h'
   | [],_,_,h=>cases h
   | _::_::_,_,_,h=>cases h
   | [_],_+1,_,h=>cases h
   | [_],0,_+1,h=>cases h
  | _=>cases h
theorem ow:∀ {ls:List Lf} {ds:List D} {x:(fJ ls).den},tZ ls ds=some x→aO ls x=ds
 | [],[],_,_=>rfl
 | [],_::_,_,h=>by simp [tZ] at h
 | _::_,[],_,h=>by simp [tZ] at h
 | l::r,d::ds,x,h=>by
  simp only [tZ] at h;split at h
  ·rename_i y z h1 h2
   simp only [bn] at h;subst h;simp only [aO];rw [Lf.qd h1,ow h2]
  ·cases h
theorem ahT {a b:Bool} (h:j5 a b=true):a=b:=by cases a<;>cases b<;>first | rfl | cases h
theorem Sh.qd {l:Sh} {d:D} {x:l.ty.den} (h:l.abs d=some x):l.aZ x=d:=by
 cases l with
 | lf l=>exact Lf.qd h
 | agg ls=>
  cases d<;>simp only [Sh.abs,reduceCtorEq] at h
  simp only [Sh.aZ];rw [ow h]
 | aI st live ls=>
  cases d<;>simp only [Sh.abs,reduceCtorEq] at h
  rename_i st' FU cs
  cases hk:(Nat.beq st st' && j5 live FU) with
  | true=>
   simp only [hk,aQ] at h;simp only [dA] at hk;simp only [Sh.aZ];rw [ow h,fD hk.1,ahT hk.2]
  | false=>simp [hk] at h
 | aX st live ar t=>
  cases d<;>simp only [Sh.abs,reduceCtorEq] at h
  rename_i st' FU ar' t' l
  cases hk:(Nat.beq st st' && j5 live FU&&j5 ar ar') with
  | true=>
   simp only [hk,aQ] at h;simp only [dA] at hk;split at h
   ·rename_i hb
    have he:=Ty.eq_of_beq hb;subst he;simp only [bn] at h;subst h;simp only [Sh.aZ];rw [fD hk.1.1,ahT hk.1.2,ahT hk.2];rfl
   ·cases h
  | false=>simp [hk] at h
 | dI st t=>
  cases d<;>simp only [Sh.abs,reduceCtorEq] at h
  rename_i st' t' l hl
  cases hl with
  | some _=>cases h
  | none=>
   simp only at h
   cases hk:Nat.beq st st' with
   | true=>
    simp only [hk,aQ] at h;split at h
    ·rename_i hb
     have he:=Ty.eq_of_beq hb;cases he;simp only [bn] at h;subst h;simp only [Sh.aZ];rw [fD hk];rfl
    ·cases h
   | false=>simp [hk] at h
 | bO st k v=>
  cases d<;>simp only [Sh.abs,reduceCtorEq] at h
  rename_i st' k' v' l
  cases hk:Nat.beq st st' with
  | true=>
   simp only [hk,aQ] at h;split at h
   ·rename_i hb
    have he:=Ty.eq_of_beq hb;cases he;simp only [bn] at h;subst h;simp only [Sh.aZ];rw [fD hk];rfl
   ·cases h
  | false=>simp [hk] at h
abbrev Pl:=List (Nat×Sh)
@[reducible] def sK:Pl→Ty
  | []=>.unit
  | p::r=>.cons p.2.ty (sK r)
def uf:(p:Pl)→(sK p).den→St
 | [],_=>[]
 | p::r,x=>(p.1,p.2.aZ x.1)::uf r x.2
def JG:(p:Pl)→St→Option (sK p).den
 | [],_=>some ()
 | p::r,s=>match p.2.abs (get s p.1),JG r s with
  | some x,some y=>some (x,y)
  | _,_=>none
def mem (k:Nat):List Nat→Bool
 | []=>false
 | x::r=>Nat.beq k x || mem k r
def bW:D→List Nat
 | .ptr id _ _ | .uE id _ _ _ _ | .fU id _ | .Jr id _ _ | .VO id _ _ _ _=>[id]
 | _=>[]
def fq:List D→List Nat
 | []=>[]
 | d::r=>bW d++fq r
def jv:D→List Nat
 | .agg cs=>fq cs
 | d=>bW d
def Ab:List D→List Nat
 | []=>[]
 | d::r=>jv d++Ab r
def refs:D→List Nat
 | .agg cs=>fq cs
 | .iJ vs=>Ab vs
 | .fn _ cs=>fq cs
 | .aI _ _ cs=>fq cs
 | .dI _ _ _ (some (_,X,_))=>[X]
 | d=>bW d
def strike (ks:List Nat):St→St
 | []=>[]
 | (k,d)::r=>bif mem k ks then strike ks r else (k,d)::strike (k::ks) r
def odd (k:Nat):Bool:=Nat.beq (k%2) 1
def jA:D→Bool
 | .undef=>true
 | _=>false
def closedIn (s:St):St→Bool
 | []=>true
 | (_,d)::r=>((refs d).all fun i=>!jA (get s (2*i+1)))&&closedIn s r
def jh (hp:Bool) (s:St):Bool:=closedIn s s&&(!hp || !jA (get s 1))
def bit (n k:Nat):Bool:=Nat.beq ((n >>> k)%2) 1
def union:List Nat→List Nat→List Nat
 | [],ys=>ys
 | x::xs,ys=>bif mem x ys then union xs ys else union xs (x::ys)
structure Lv where
 e:Nat
 ch:List Nat
 s:St
def aH:St→List Nat
 | []=>[]
 | (k,_)::r=>k::aH r
def subset:List Nat→List Nat→Bool
 | [],_=>true
 | x::xs,ys=>mem x ys&&subset xs ys
def Out.oV {R S:Type} (f:R→Option S):Out R→Out S
 | .ret r=>match f r with
  | some x=>.ret x
  | none=>.fail
 | .fail=>.fail
 | .ite c a b=>.ite c (a.oV f) (b.oV f)
 | .call t r k=>.call t r (fun x=>(k x).oV f)
def Lf.arg:(l:Lf)→D→Option l.ty.den
 | .sl _ t,.lS=>some ([]:List t.den)
 | l,d=>l.abs (dD d)
def Lf.Iw (s:St):(l:Lf)→D→Option l.ty.den
 | .sl _ t,.fU id st=>match get s (2*id+1) with
  | .aX st' true false t' l=>bif Nat.beq st st' then (if h:t'.beq t=true then some (xG (Ty.eq_of_beq h) l) else none) else none
  | _=>none
 | .va k,.ptr id st 0=>match get s (2*id+1) with
  | .aX st' true true (.int k') l=>bif Nat.beq st st' && mZ k k' then some l else none
  | _=>none
 | l,d=>l.arg d
def sM (s:St):(ls:List Lf)→List D→Option (fJ ls).den
 | [],[]=>some ()
 | l::r,d::ds=>match l.Iw s d,sM s r ds with
  | some x,some y=>some (x,y)
  | _,_=>none
 | _,_=>none
def Sh.arg (s:St):(l:Sh)→D→Option l.ty.den
 | .lf l,d=>l.Iw s d
 | .agg ls,.agg cs=>sM s ls cs
 | _,_=>none
def Uo:Lf→Bool
 | .sl f _=>!Nat.beq f 0
 | _=>false
def ownSh:Sh→Bool
 | .lf l=>Uo l
 | .agg ls=>ls.any Uo
 | _=>false
def Lf.give:(l:Lf)→D→Option l.ty.den
 | .sl f t,.lS=>bif Nat.blt f 3 then some ([]:List t.den) else none
 | l,d=>l.abs d
def BU:(ls:List Lf)→List D→Option (fJ ls).den
 | [],[]=>some ()
 | l::r,d::ds=>match l.give d,BU r ds with
  | some x,some y=>some (x,y)
  | _,_=>none
 | _,_=>none
def Sh.give:(l:Sh)→D→Option l.ty.den
 | .lf l,d=>l.give d
 | .agg ls,.agg cs=>BU ls cs
 | _,_=>none
def Sh.Ot (s:St) (p:Sh) (d:D):Option p.ty.den:=bif ownSh p then p.give d else p.arg s d
def jW (s:St):(ps:List Sh)→List Operand→Option (kJ ps).den
 | [],[]=>some ()
 | p::r,x::xs=>match p.Ot s (aV s x),jW s r xs with
  | some y,some z=>some (y,z)
  | _,_=>none
 | _,_=>none
inductive RS where
 | none | one (s:Sh) | iJ (l:List Sh) | Ac (ls:List Lf) | yu (k v:Ty)
@[reducible] def RS.ty:RS→Ty
  | .none=>.unit
  | .one s=>s.ty
  | .iJ l=>kJ l
  | .Ac ls=>fJ ls
  | .yu k v=>.sl (ent k v)
abbrev XF:=Nat→Nat→List (D×D)→Option (Bool×St)
def Dn (s:St):D→D
 | .fU id _ | .ptr id _ _=>get s (2*id+1)
 | .agg cs=>match fq cs with
  | [id]=>get s (2*id+1)
  | _=>.undef
 | _=>.undef
def ZK (s:St) (x:Operand):D×D:=(aV s x,Dn s (aV s x))
structure cu where
 bM:Bool
 pre:List Lf
 ps:List Sh
 rs:RS
 post:List Lf
 F:(Ty.cons (fJ pre) (kJ ps)).den→Option (Ty.cons rs.ty (fJ post)).den
 xf:Option XF:=none
def bY:(l:List Sh)→(kJ l).den→List D
 | [],_=>[]
 | p::r,x=>p.aZ x.1::bY r x.2
def isR:D→Bool
 | .fU _ _=>true
 | .ptr _ _ _=>true
 | _=>false
def jR:D→Bool
 | .agg cs=>cs.any isR
 | d=>isR d
def sN (s:St):List Operand→Bool
 | []=>false
 | x::r=>jR (aV s x) || sN s r
def JH:Ty→Bool
 | .sl _=>false
 | .iF _ _=>false
 | .cons a b=>JH a&&JH b
 | .st _ c=>JH c
 | _=>true
def mQ:Lf→Bool
 | .sl f t=>!Nat.beq f 0&&JH t
 | .cst .undef=>false
 | .cst .lS=>true
 | .cst _=>false
 | .iF _ _=>false
 | .vp _=>false
 | .va _=>false
 | _=>true
def noView:Sh→Bool
 | .lf l=>mQ l
 | .agg ls=>ls.all mQ
 | _=>false
def RS.noView:RS→Bool
 | .none=>true
 | .one s=>dw.noView s
 | .iJ l=>l.all dw.noView
 | .Ac ls=>ls.all mQ
 | .yu _ _=>true
def BX (o:Oper) (s:St) (rs:RS) (x:rs.ty.den):Option St:=
 match rs,x with
 | .none,_=>match o.dst with
  | none=>some []
  | some t=>some [(2*t,.undef)]
 | .one p,x=>some (dN o (p.aZ x))
 | .iJ l,x=>some (dN o (.iJ (bY l x)))
 | .Ac ls,x=>match o.dst with
  | some t=>some [(2*t+1,.aI (aL (get s (2*t+1))+1) true (aO ls x)),(2*t,.ptr t (aL (get s (2*t+1))+1) 0)]
  | none=>none
 | .yu k v,x=>match o.dst with
  | some t=>some [(2*t+1,.bO (aL (get s (2*t+1))+1) k v x),(2*t,.fU t (aL (get s (2*t+1))+1))]
  | none=>none
def oW (s:St) (xs:List Operand):St:=iy s share oH (xs.map fun x=>(0,x))
def fH:List Sh→List Operand→List Operand
 | p::ps,x::xs=>bif ownSh p then fH ps xs else x::fH ps xs
 | _,_=>[]
def bQ:List Sh→List Operand→List Operand
 | p::ps,x::xs=>bif ownSh p then x::bQ ps xs else bQ ps xs
 | _,_=>[]
def nO:List Operand→St
 | []=>[]
 | .tmp t::r=>(2*t,.undef)::nO r
 | _::r=>nO r
def ug:List Operand→List Nat
 | []=>[]
 | .tmp t::r=>2*t::ug r
 | _::r=>ug r
def ZL (x:Nat):List Nat→Bool
 | []=>false
 | y::r=>Nat.beq x y || ZL x r
def Ae:List Nat→Bool
 | []=>true
 | x::r=>!ZL x r&&Ae r
def BZ (ps:List Sh) (xs:List Operand):Bool:=
 match bQ ps xs with
 | []=>true
 | _=>Ae (ug xs)
def Dp (nv:Bool) (s:St) (ps:List Sh) (xs:List Operand):St:=(bif nv then [] else oW s (fH ps xs))++nO (bQ ps xs)
def cu.nv (c:cu):Bool:=c.rs.noView&&c.post.all mQ
def EH (o:Oper) (id:Nat):RS→Bool
 | .Ac _=>match o.dst with
  | some t=>!Nat.beq t id
  | none=>false
 | .yu _ _=>match o.dst with
  | some t=>!Nat.beq t id
  | none=>false
 | _=>true
def sO (E:Env) (c:cu) (o:Oper) (s:St) (args:List Operand):Out St:=
 bif fE E o then
 match c.bM,args with
 | true,x::xs=>match aV s x with
  | .ptr id st off=>match get s (2*id+1) with
   | .aI st' true cs=>bif Nat.beq st st' && Nat.beq off 0&&(!sN s xs || c.nv)&&EH o id c.rs&&BZ c.ps xs then
    match tZ c.pre cs,jW s c.ps xs with
    | some y,some z=>.call (.cons c.rs.ty (fJ c.post)) (c.F (y,z)) fun r=>
     match BX o s c.rs r.1 with
     | some u=>.ret (Dp c.nv s c.ps xs++(2*id+1,.aI st true (aO c.post r.2))::u)
     | none=>.fail
    | _,_=>.fail else .fail
   | _=>.fail
  | _=>.fail
 | false,xs=>bif (!sN s xs || c.nv)&&BZ c.ps xs then
  match tZ c.pre [],jW s c.ps xs with
  | some y,some z=>.call (.cons c.rs.ty (fJ c.post)) (c.F (y,z)) fun r=>
   match BX o s c.rs r.1 with
   | some u=>.ret (Dp c.nv s c.ps xs++u)
   | none=>.fail
  | _,_=>.fail else .fail
 | _,_=>.fail else .fail
def ZM (E:Env) (x:XF) (o:Oper) (s:St) (args:List Operand):Out St:=
 bif fE E o then
  match o.dst with
  | some t=>match x t (aL (get s (2*t+1))+1) (args.map (ZK s)) with
   | some (g,u)=>.ite g (.ret u) .fail
   | none=>.fail
  | none=>.fail
 else .fail
def uj (E:Env) (c:cu) (o:Oper) (s:St) (args:List Operand):Out St:=
 match c.xf with
 | some x=>ZM E x o s args
 | none=>sO E c o s args
def anA:D→Bool
 | .dI _ _ _ _=>true
 | .aX _ _ _ _ _=>true
 | _=>false
def FV (s:St) (x:Operand):Bool:=
 match aV s x with
 | .uE _ _ _ _ _ | .BF _ _=>true
 | .ptr id _ _=>anA (get s (2*id+1))
 | _=>false
def agk:Operand→Bool
 | .const _=>true
 | _=>false
def aub:D→Bool
 | .sl _ _ _ | .fU _ _ | .str _ | .Jr _ _ _ | .VO _ _ _ _ _=>true
 | _=>false
def FW (n:Nat):List Operand→Bool
 | []=>true
 | .tmp t::r=>Nat.blt t n&&FW n r
 | _::r=>FW n r
def FX (n:Nat):St→Bool
 | []=>true
 | p::r=>Nat.blt p.1 n&&FX n r
def JI (E:Env) (c:cu) (o:Oper) (s:St) (args:List Operand) (d:D):Out St:=
 bif fE E o && !c.bM&&FW E.n args then
  (sO { E with n:=E.n+1 } c o ((2*E.n,d)::s) (args++[.tmp E.n])).bind fun u=>bif FX (2*E.n) u then .ret u else .fail
 else .fail
def FY (o:Oper) (s:St):Bool:=
 match o.op with
 | .binOp op _ _ y _=>match op with
  | .quo | .rem | .shl | .shr=>!agk y
  | .add=>match aV s y with
   | .str _=>true
   | _=>false
  | _=>false
 | .load _ x=>FV s x
 | .store _ x _=>FV s x
 | .convert _ _ x=>match aV s x with
  | .str _=>true
  | _=>false
 | .makeSlice _ _ _ | .slice _ _ _ _ _=>true
 | .indexAddr _ x i | .index _ x i=>!agk i || aub (aV s x)
 | .call c=>match c.callee with
  | .builtin .append=>true
  | _=>false
 | _=>false
def guarded (o:Oper) (s:St):Option (Bool×St)→Out St
 | some (g,u)=>bif FY o s then .ite g (.ret u) .fail else bif g then .ret u else .fail
 | none=>.fail
def qg (s:St) (k j X:Nat):St:=
 match get s (2*X+1) with
 | .aX st true false t l=>
  (bif odd k then (match get s k with
   | .aI st' true cs=>(match (cs.drop j).take 1 with
    | [.fU Y st2]=>bif Nat.beq Y X&&(Nat.beq st2 st && !Nat.beq (k / 2) X) then [(k,.aI st' true (dL cs j [.sl 2 t l])),(2*X+1,.aX st false false t l)] else []
    | _=>[])
   | .dI st' t' l' (some (i,Y,st2))=>bif Nat.beq Y X&&(Nat.beq st2 st && !Nat.beq (k / 2) X) then
    (if h:t.beq t' = true then [(k,.dI st' t' (l'.set i (xG (Ty.eq_of_beq h) l)) none),(2*X+1,.aX st false false t l)] else []) else []
   | _=>[])
  else (match get s k with
   | .fU Y st2=>bif Nat.beq Y X&&Nat.beq st2 st then [(k,.sl 2 t l),(2*X+1,.aX st false false t l)] else []
   | _=>[]))
 | _=>[]
def uX (s:St) (X:Nat):St:=
 match get s (2*X+1) with
 | .DW st l=>[(2*X+1,.aX st true false rwY l)]
 | _=>[]
def sP (s:St) (k j X:Nat):St:=qg (uX s X++s) k j X++uX s X
def jB (E:Env) (o:Oper) (s:St) (args:List Operand):St:=
 bif Nat.beq (tag E o) 10 then (match args with
  | .tmp u::_=>(match get s (2*u) with
   | .fU X _=>qg s (2*u) 0 X
   | _=>[])
  | _=>[]) else []
def FZ (E:Env) (o:Oper) (s:St) (args:List Operand):Out St:=
 (guarded o (jB E o s args++s) (Ri E o (jB E o s args++s))).bind fun u=>.ret ((jB E o s args).reverse++u)
abbrev Kn:=List (Nat×Bool)
def knL:Kn→Nat→Option Bool
 | [],_=>none
 | (t,b)::r,u=>bif Nat.beq u t then some b else knL r u
def knO (kn:Kn):Operand→Option Bool
 | .const (.bool b)=>some b
 | .tmp t=>knL kn t
 | _=>none
def LD (t:Nat):Kn→Kn
 | []=>[]
 | (u,b)::r=>bif Nat.beq u t then LD t r else (u,b)::LD t r
def xH (kn:Kn) (o:Oper) (b:Option Bool):Kn:=
 match o.dst with
 | none=>kn
 | some t=>match b with
  | some b=>(t,b)::LD t kn
  | none=>LD t kn
def LG:Bool→Bool
 | true=>false
 | false=>true
def Wu (kn:Kn) (o:Oper):Kn:=
 match o.op with
 | .move x=>xH kn o (knO kn x)
 | .unOp .not _ x=>xH kn o (match knO kn x with
  | some b=>some (LG b)
  | none=>none)
 | .pick c x y=>xH kn o (match knO kn c with
  | some b=>knO kn (bif b then x else y)
  | none=>none)
 | _=>xH kn o none
abbrev Af:=Nat→Option cu
def Rk:Option (Bool×St)→Out St
 | some (g,u)=>bif g then .ret u else .fail
 | none=>.fail
def ckey (E:Env) (o:Oper) (f:Nat):Nat:=bif Nat.ble 101 (tag E o) then f+(tag E o - 100)*1000000 else f
def F3 (E:Env) (Γ:Af) (kn:Kn) (o:Oper) (s:St):Out St:=
 match o.op with
 | .pick c x y=>bif fE E o then
  match aV s c with
  | .bool b=>match knO kn c with
   | some b'=>.ite (j5 b b') (Rk (oI E o s (bif b' then x else y))) .fail
   | none=>.ite b (Rk (oI E o s x)) (Rk (oI E o s y))
  | _=>.fail else .fail
 | .call c=>match c.callee with
  | .value (.func f)=>bif Nat.blt f 1000000 then
   (match Γ (ckey E o f) with
   | some aZ=>uj E aZ o s c.args.toList
   | none=>.fail) else .fail
  | .value x=>match aV s x with
   | .BG f=>bif Nat.blt f 1000000 then
    (match Γ (ckey E o f) with
    | some aZ=>match aZ.xf with
     | none=>sO E aZ o s c.args.toList
     | some _=>.fail
    | none=>.fail) else .fail
   | .iF f t v=>bif Nat.blt f 1000000 then
    (match Γ (ckey E o f) with
    | some aZ=>match aZ.xf with
     | none=>JI E aZ o s c.args.toList (.jQ t [v] 0 0)
     | some _=>.fail
    | none=>.fail) else .fail
   | _=>.fail
  | _=>FZ E o s c.args.toList
 | _=>guarded o s (Ri E o s)
def Dq (all:List Oper) (j:Nat):Option Nat:=
 match all[j]? with
 | some o=>o.dst
 | none=>none
def iP (o:Oper):St:=dN o (.iJ [])
def lH (E:Env) (Γ:Af) (all:List Oper):List Oper→Kn→List Nat→St→Out Lv
 | [],_,ch,s=>.ret ⟨0,ch,s⟩
 | o::r,kn,ch,s=>match o.guard with
  | none=>(F3 E Γ kn o s).bind fun u=>lH E Γ all r (Wu kn o) (aH u++ch) (au u s)
  | some (j,want)=>match Dq all j with
   | none=>.fail
   | some t=>match get s (2*t) with
    | .bool b=>match knL kn t with
     | some c=>bif j5 b c then
      (bif j5 c want then (F3 E Γ kn o s).bind fun u=>lH E Γ all r (Wu kn o) (aH u++ch) (au u s)
       else bif fE E o then lH E Γ all r (xH kn o none) (aH (iP o)++ch) (au (iP o) s) else .fail) else .fail
     | none=>bif fE E o then
      .ite (j5 b want)
       ((F3 E Γ ((t,want)::kn) o ((2*t,.bool want)::s)).bind fun u=>
         lH E Γ all r (Wu ((t,want)::kn) o) (aH u++2*t::ch) (au u ((2*t,.bool want)::s)))
       (lH E Γ all r (xH ((t,LG want)::kn) o none) (aH (iP o)++2*t::ch) (au (iP o) ((2*t,.bool (LG want))::s))) else .fail
    | .iJ []=>bif fE E o then lH E Γ all r (xH kn o none) (aH (iP o)++ch) (au (iP o) s) else .fail
    | _=>.fail
def Uq:List Nat→List Nat
 | []=>[]
 | i::r=>(2*i+1)::Uq r
def qG (s:St):Operand→List Nat
 | .tmp t=>match get s (2*t) with
  | .ptr id _ _ | .uE id _ _ _ _ | .fU id _ | .Jr id _ _ | .VO id _ _ _ _=>[2*t,2*id+1]
  | .agg cs=>2*t::Uq (fq cs)
  | _=>[2*t]
 | _=>[]
def j6 (s:St):List Operand→List Nat
 | []=>[]
 | x::r=>qG s x++j6 s r
def ak:List Operand→List Nat
 | []=>[]
 | .tmp t::r=>2*t::ak r
 | _::r=>ak r
def deep:Op→Bool
 | .move _ | .assign _ | .pick _ _ _ | .alloc _ | .box _ _ | .build _ _ | .buildSlice _ _ _ | .nilCheck _ | .binOp _ _ _ _ _ | .unOp _ _ _ | .makeSlice _ _ _ | .fieldAddr _ _ _ | .field _ _ _ | .extract _ _=>false
 | _=>true
def reads (all:List Oper) (o:Oper) (s:St):List Nat:=
 (match o.guard with
  | some (j,_)=>match Dq all j with
   | some t=>[2*t]
   | none=>[]
  | none=>[])++((match o.dst with
  | some t=>[2*t+1]
  | none=>[])++bif deep o.op then j6 s o.op.operands.toList else ak o.op.operands.toList)
def Nj (E:Env) (Γ:Af) (all:List Oper) (o:Oper) (s:St):Out St:=
 match o.guard with
 | none=>F3 E Γ [] o s
 | some (j,want)=>match Dq all j with
  | none=>.fail
  | some t=>match get s (2*t) with
   | .bool b=>bif fE E o then .ite (j5 b want) (F3 E Γ [] o s) (.ret (iP o)) else .fail
   | .iJ []=>bif fE E o then .ret (iP o) else .fail
   | _=>.fail
def meets:List Nat→List Nat→Bool
 | [],_=>false
 | x::r,ys=>mem x ys || meets r ys
def dH (o:Oper):List Nat:=(o.after.toList.filter (Region.binds .any)).map (·.on)
structure sQ where
 rd:List Nat
 wr:List Nat
 bf:List Nat
def nth (l:List sQ) (n:Nat):Option sQ:=l[n]?
def below (i:Nat):List Nat→Bool
 | []=>true
 | x::r=>Nat.blt x i&&below i r
def closure (fs:List sQ):List Nat→List Nat
 | []=>[]
 | x::r=>match fs[x]? with
  | some f=>union (x::f.bf) (closure fs r)
  | none=>union [x] (closure fs r)
def apart (f g:sQ):Bool:=!meets f.wr g.rd && !meets f.wr g.wr && !meets g.wr f.rd
def fu (bf:List Nat) (g:sQ):Nat→List sQ→Bool
 | _,[]=>true
 | i,f::r=>(mem i bf || apart f g)&&fu bf g (i+1) r
def eB (all:List Oper) (o:Oper) (fs:List sQ) (s u:St):sQ:={ rd:=reads all o s,wr:=aH u,bf:=closure fs (dH o) }
def fI (E:Env) (Γ:Af) (all:List Oper):List Oper→Kn→List sQ→List Nat→St→Out Lv
 | [],_,_,ch,s=>.ret ⟨0,ch,s⟩
 | o::r,kn,fs,ch,s=>bif below fs.length (dH o) then
  (match o.guard with
  | none=>(F3 E Γ kn o s).bind fun u=>bif fu (closure fs (dH o)) (eB all o fs s u) 0 fs then fI E Γ all r (Wu kn o) (fs++[eB all o fs s u]) (aH u++ch) (au u s) else .fail
  | some (j,want)=>match Dq all j with
   | none=>.fail
   | some t=>match get s (2*t) with
    | .bool b=>bif fE E o then
     (match knL kn t with
     | some c=>.ite (j5 b c) (bif j5 c want then
      ((F3 E Γ kn o s).bind fun u=>bif fu (closure fs (dH o)) (eB all o fs s u) 0 fs then fI E Γ all r (Wu kn o) (fs++[eB all o fs s u]) (aH u++ch) (au u s) else .fail)
      else (bif fu (closure fs (dH o)) (eB all o fs s (iP o)) 0 fs then fI E Γ all r (xH kn o none) (fs++[eB all o fs s (iP o)]) (aH (iP o)++ch) (au (iP o) s) else .fail)) .fail
     | none=>.ite (j5 b want)
      ((F3 E Γ ((t,want)::kn) o ((2*t,.bool want)::s)).bind fun u=>bif fu (closure fs (dH o)) (eB all o fs s u) 0 fs then fI E Γ all r (Wu ((t,want)::kn) o) (fs++[eB all o fs s u]) (aH u++ch) (au u ((2*t,.bool want)::s)) else .fail)
      (bif fu (closure fs (dH o)) (eB all o fs s (iP o)) 0 fs then fI E Γ all r (xH ((t,LG want)::kn) o none) (fs++[eB all o fs s (iP o)]) (aH (iP o)++ch) (au (iP o) ((2*t,.bool (LG want))::s)) else .fail)) else .fail
    | .iJ []=>bif fE E o then (bif fu (closure fs (dH o)) (eB all o fs s (iP o)) 0 fs then fI E Γ all r (xH kn o none) (fs++[eB all o fs s (iP o)]) (aH (iP o)++ch) (au (iP o) s) else .fail) else .fail
    | _=>.fail)
  else .fail
structure Way where
 e:Nat
 pl:Pl
 drop:List Nat
inductive Plan where
 | go
 | sq (a b:Plan)
 | cut (M:List Nat) (ws:List Way) (p:Plan)
 | loop (M:List Nat) (pl:Pl) (drop:List Nat) (ws:List Way) (p:Plan)
 | opn (l:List (Nat×Nat×Nat))
 | opk (l:List (Nat×Nat×Nat))
 | sea (l:List (Nat×Nat×Nat))
 | unr (n:Nat) (p:Plan)
def F4:D→Option ((t:Ty)×t.den)
 | .int k n=>some ⟨.int k,n⟩
 | .bool b=>some ⟨.bool,b⟩
 | .str l=>some ⟨.str,l⟩
 | .sl 0 t l=>some ⟨.sl t,l⟩
 | .iF f t x=>some ⟨.iF f t,x⟩
 | _=>none
def wE:List D→Option ((t:Ty)×t.den)
 | []=>some ⟨.unit,()⟩
 | d::r=>match F4 d,wE r with
  | some a,some b=>some ⟨.cons a.1 b.1,(a.2,b.2)⟩
  | _,_=>none
def Ur (s:St) (k id st off:Nat):St:=
 match get s (2*id+1) with
 | .aI st' true cs=>(match wE cs with
  | some x=>bif Nat.beq st st' && Nat.beq off 0 then [(2*id+1,.aI st false cs),(k,.jQ x.1 [x.2] 0 0)] else []
  | none=>[])
 | _=>[]
def ZN:D→Bool
 | .DW _ _=>true
 | _=>false
def anB:D→Bool
 | .dI _ _ _ none=>true
 | _=>false
def Um (s:St) (X:Nat):St:=
 match get s (2*X+1) with
 | .dI st t l none=>[(2*X+1,.aX st true true (.sl t) l)]
 | _=>[]
def Ag (n:Nat) (s:St) (k j X:Nat):St:=
 bif anB (get s (2*X+1)) then Um s X else
 bif ZN (get s (2*X+1)) then uX s X else
 bif Nat.blt X n then
  (bif odd k then (match get s k with
   | .aI st true cs=>(match (cs.drop j).take 1 with
    | [.sl f t l]=>bif Nat.beq f 2&&(Nat.blt 0 t.nc && !Nat.beq (k / 2) X) then
     [(k,.aI st true (dL cs j [.fU X (aL (get s (2*X+1))+1)])),(2*X+1,.aX (aL (get s (2*X+1))+1) true false t l)] else []
    | _=>[])
   | _=>[])
  else (match get s k with
   | .sl f t l=>bif Nat.beq f 2&&Nat.blt 0 t.nc then
    [(k,.fU X (aL (get s (2*X+1))+1)),(2*X+1,.aX (aL (get s (2*X+1))+1) true false t l)] else []
   | .ptr id st off=>Ur s k id st off
   | _=>[]))
 else []
def Us {α:Type} (n:Nat):List (Nat×Nat×Nat)→List Nat→St→(List Nat→St→α)→α
 | [],ch,s,k=>k ch s
 | p::r,ch,s,k=>Us n r (aH (Ag n s p.1 p.2.1 p.2.2)++ch) (Ag n s p.1 p.2.1 p.2.2++s) k
def uY:List (Nat×Nat×Nat)→Lv→Lv
 | [],r=>r
 | p::l,r=>uY l ⟨r.e,aH (sP r.s p.1 p.2.1 p.2.2)++r.ch,sP r.s p.1 p.2.1 p.2.2++r.s⟩
def JJ (n:Nat) (p:Plan) (ch:List Nat) (s:St) (run:List Nat→St→Out Lv):Out Lv:=
 match p with
 | .opn l=>Us n l ch s fun ch s=>(run ch s).bind fun r=>.ret (uY l r)
 | .opk l=>Us n l ch s run
 | .sea l=>(run ch s).bind fun r=>.ret (uY l r)
 | _=>run ch s
def Ah (run:List Nat→St→Out Lv):Nat→List Nat→St→Out Lv
 | 0,_,_=>.fail
 | n+1,ch,s=>(run ch s).bind fun r=>bif Nat.beq r.e 0 then Ah run n r.ch r.s else .ret r
def Plan.inner:Plan→Plan
 | .cut _ _ q=>q
 | q=>q
def Plan.left:Plan→Plan
 | .sq a _=>a
 | _=>.go
def Plan.right:Plan→Plan
 | .sq _ b=>b
 | _=>.go
@[reducible] def oZ:List Way→Ty
  | []=>.unit
  | [w]=>sK w.pl
  | w::r=>.cons .bool (.cons (sK w.pl) (oZ r))
def F5 (M:List Nat) (base:St) (w:Way) (x:(sK w.pl).den):St:=uf w.pl x++strike (M++w.drop) base
def ahW:Lf→Nat
 | .sl f _=>f
 | _=>2
def Ut:List Lf→Nat
 | []=>2
 | l::r=>bif Nat.ble (ahW l) (Ut r) then ahW l else Ut r
def Ai:Sh→Nat
 | .lf l=>ahW l
 | .agg ls=>Ut ls
 | .aI _ _ ls=>Ut ls
 | _=>2
def ZO (n:Nat):D→Bool
 | .sl f _ _=>Nat.blt n f
 | _=>false
def ZP (n:Nat):D→Bool
 | .agg cs=>cs.any (ZO n)
 | .aI _ _ cs=>cs.any (ZO n)
 | d=>ZO n d
def Ou (M:List Nat) (s:St) (k:Nat) (sh:Sh):St:=
 bif (ZP (Ai sh) (get s k) && !(sh.abs (get s k)).isSome)&&mem k M then
  (bif odd k then (match get s k with
   | .aI st true cs=>bif Nat.beq (Ai sh) 0 then (k,.aI st true (cs.map dD))::(k,.aI st true (cs.map bP))::s else (k,.aI st true (cs.map bP))::s
   | _=>s)
  else (bif fZ (get s k) then s else
   (bif Nat.beq (Ai sh) 0 then (k,view (get s k))::(k,share (get s k))::s else (k,share (get s k))::s)))
 else s
def sS (M:List Nat):Pl→St→St
 | [],s=>s
 | p::r,s=>sS M r (Ou M s p.1 p.2)
def qH (M:List Nat) (pl:Pl) (s:St):Option (sK pl).den:=JG pl (sS M pl s)
def qh (M:List Nat) (e:Nat) (s:St):(ws:List Way)→Option (oZ ws).den
 | []=>none
 | [w]=>bif Nat.beq e w.e then qH M w.pl s else none
 | w::w'::r=>bif Nat.beq e w.e then (match qH M w.pl s with
  | some x=>some (true,x,(oZ (w'::r)).dflt)
  | none=>none)
  else (match qh M e s (w'::r) with
   | some y=>some (false,(sK w.pl).dflt,y)
   | none=>none)
def sU (hp:Bool) (M:List Nat) (ch:List Nat) (base:St):(ws:List Way)→(oZ ws).den→Out Lv
 | [],_=>.fail
 | [w],x=>let s:=F5 M base w x
  bif jh hp s then .ret ⟨w.e,M++w.drop++ch,s⟩ else .fail
 | w::w'::r,x=>.ite x.1 (let s:=F5 M base w x.2.1
  bif jh hp s then .ret ⟨w.e,M++w.drop++ch,s⟩ else .fail) (sU hp M ch base (w'::r) x.2.2)
def ZQ (M:List Nat) (ws:List Way) (r:Lv):Option (oZ ws).den:=
 bif subset r.ch M then qh M r.e r.s ws else none
def auc (hp:Bool) (M:List Nat) (ws:List Way) (ch:List Nat) (base:St) (o:Out Lv):Out Lv:=
 .call (oZ ws) (o.oV (ZQ M ws)).den (sU hp M ch base ws)
def wrap (hp:Bool) (p:Plan) (ch:List Nat) (s:St) (run:List Nat→Out Lv):Out Lv:=
 match p with
 | .cut M ws _=>auc hp M ws ch s (run [])
 | _=>run ch
def wF {τ ε:Type} (step:τ→Option (Sum τ ε)):Nat→τ→Option ε
 | 0,_=>none
 | n+1,v=>match step v with
  | some (.inl v')=>wF step n v'
  | some (.inr e)=>some e
  | none=>none
open Classical in
noncomputable def Loop {τ ε:Type} (step:τ→Option (Sum τ ε)) (v:τ):Option ε:=
 if h:∃ n,(wF step n v).isSome=true then wF step h.choose v else none
def yw:Pl→List Nat
 | []=>[]
 | p::r=>p.1::yw r
def mh (M:List Nat) (pl:Pl) (drop:List Nat) (base:St) (v:(sK pl).den):St:=uf pl v++strike (M++drop) base
def Uu (hp:Bool) (M:List Nat) (pl:Pl) (drop:List Nat) (base:St) (ws:List Way) (r:Lv):Option (Sum (sK pl).den (oZ ws).den):=
 bif subset r.ch M then
  (bif Nat.beq r.e 0 then (match qH M pl r.s with
   | some v=>bif jh hp (mh M pl drop base v) then some (.inl v) else none
   | none=>none)
  else match qh M r.e r.s ws with
   | some x=>some (.inr x)
   | none=>none) else none
abbrev Rl:=(τ ε:Type)→(τ→Option (Sum τ ε))→τ→Option ε
def Uv (lp:Rl) (hp:Bool) (M:List Nat) (pl:Pl) (drop:List Nat) (ws:List Way) (ch:List Nat) (s:St) (body:St→Out Lv):Out Lv:=
 bif subset (yw pl) M then
 match qH M pl s with
 | some v0=>bif jh hp (mh M pl drop s v0) then
  .call (oZ ws) (lp _ _ (fun v=>((body (mh M pl drop s v)).oV (Uu hp M pl drop s ws)).den) v0) (sU hp (M++drop) ch s ws) else .fail
 | none=>.fail else .fail
def ev (lp:Rl) (E:Env) (Γ:Af):Code→Plan→List Nat→St→Out Lv
 | .skip,_,ch,s=>.ret ⟨0,ch,s⟩
 | .ret,_,ch,s=>.ret ⟨1,ch,s⟩
 | .exit id,_,ch,s=>.ret ⟨id+2,ch,s⟩
 | .label _,_,ch,s=>.ret ⟨0,ch,s⟩
 | .scope c,p,ch,s=>ev lp E Γ c p ch s
 | .region _ ops draw,p,ch,s=>wrap E.hp p ch s fun ch=>JJ E.n p.inner ch s fun ch s=>bif draw then fI E Γ ops.toList ops.toList [] [] ch s else lH E Γ ops.toList ops.toList [] ch s
 | .seq a b,p,ch,s=>wrap E.hp p ch s fun ch=>(ev lp E Γ a p.inner.left ch s).bind fun r=>bif Nat.beq r.e 0 then ev lp E Γ b p.inner.right r.ch r.s else .ret r
 | .cond c a b,p,ch,s=>wrap E.hp p ch s fun ch=>match aV s c with
  | .bool x=>.ite x (ev lp E Γ a p.inner.left ch s) (ev lp E Γ b p.inner.right ch s)
  | _=>.fail
 | .block id c,p,ch,s=>wrap E.hp p ch s fun ch=>(ev lp E Γ c p.inner.left ch s).bind fun r=>.ret ⟨bif Nat.beq r.e (id+2) then 0 else r.e,r.ch,r.s⟩
 | .loop c,p,ch,s=>wrap E.hp p ch s fun ch=>match p.inner with
  | .loop M pl drop ws q=>Uv lp E.hp M pl drop ws ch s (fun st=>ev lp E Γ c q [] st)
  | .unr n q=>Ah (fun ch st=>ev lp E Γ c q ch st) n ch s
  | _=>.fail
 | _,_,_,_=>.fail
def Aj:Nat→(ps:List Sh)→(kJ ps).den→St
 | _,[],_=>[]
 | i,p::r,x=>(2*i,p.aZ x.1)::Aj (i+1) r x.2
def bI (c:cu) (x:(Ty.cons (fJ c.pre) (kJ c.ps)).den):St:=
 bif c.bM then (1,.aI 1 true (aO c.pre x.1))::(0,.ptr 0 1 0)::Aj 1 c.ps x.2 else Aj 0 c.ps x.2
def Lf.res:(l:Lf)→D→Option l.ty.den
 | .sl f t,.lS=>bif Nat.ble f 2 then some ([]:List t.den) else none
 | .sl 0 t,d=>(Lf.sl 0 t).abs (dD d)
 | l,d=>l.abs d
def JK:(ls:List Lf)→List D→Option (fJ ls).den
 | [],[]=>some ()
 | l::r,d::ds=>match l.res d,JK r ds with
  | some x,some y=>some (x,y)
  | _,_=>none
 | _,_=>none
def Uw:Lf→Bool
 | .sl 0 _=>true
 | _=>false
def Ov:Sh→Bool
 | .lf l=>Uw l
 | .agg ls=>ls.any Uw
 | _=>false
def Sh.res1:(l:Sh)→D→Option l.ty.den
 | .lf l,d=>l.res d
 | .agg ls,.agg cs=>JK ls cs
 | _,_=>none
def clean:D→D
 | .agg cs=>bif (fq cs).isEmpty then .agg cs else .undef
 | .iJ _=>.undef
 | .fn _ _=>.undef
 | .aI _ _ _=>.undef
 | .aX _ _ _ _ _=>.undef
 | .dI _ _ _ _=>.undef
 | .bO _ _ _ _=>.undef
 | d=>bif (bW d).isEmpty then d else .undef
def Sh.res (p:Sh) (d:D):Option p.ty.den:=p.res1 (bif Ov p then share (clean d) else clean d)
def agl (t:Ty) (l:List t.den) (n:Nat):D:=bif Nat.blt 64 n then YX n t l else .agg (YW t l 0 n)
def ad7 (E:Env) (s:St):ResultVar→Option D
 | .tmp t=>some (get s (2*t))
 | .cell t T=>match get s (2*t),E.T T with
  | .ptr id st off,some i=>match get s (2*id+1) with
   | .aI st' true cs=>bif Nat.beq st st' && Nat.beq off 0&&Nat.beq cs.length i.size then mk1 i.agg cs else none
   | .aX st' true true t l=>bif Nat.beq st st' && Nat.beq off 0&&i.agg&&Nat.beq t.nc 1&&Nat.beq l.length i.size then some (agl t l i.size) else none
   | _=>none
  | _,_=>none
def Rm (s:St):ResultVar→Nat
 | .tmp t=>2*t
 | .cell t _=>match get s (2*t) with
  | .ptr id _ _=>2*id+1
  | _=>0
def Ca (E:Env) (s:St):List ResultVar→Option (List D)
 | []=>some []
 | r::l=>match ad7 E s r,Ca E s l with
  | some d,some ds=>some (d::ds)
  | _,_=>none
def nodupB:List Nat→Bool
 | []=>true
 | x::r=>!mem x r&&nodupB r
def Ak:(l:List Sh)→List D→Option (kJ l).den
 | [],[]=>some ()
 | p::r,d::ds=>match p.res d,Ak r ds with
  | some x,some y=>some (x,y)
  | _,_=>none
 | _,_=>none
def yx (s:St):(rs:RS)→List D→Option rs.ty.den
 | .none,[]=>some ()
 | .one p,[d]=>p.res d
 | .iJ l,ds=>bif Nat.beq ds.length 1 then none else Ak l ds
 | .Ac ls,[.ptr id st off]=>match get s (2*id+1) with
  | .aI st' true cs=>bif Nat.beq st st' && Nat.beq off 0 && !Nat.beq id 0 then tZ ls cs else none
  | _=>none
 | .yu k v,[.fU id st]=>match get s (2*id+1) with
  | .bO st' k' v' l=>bif Nat.beq st st' && !Nat.beq id 0 then (if h:(Ty.cons k' v').beq (.cons k v)=true then some (agj h l) else none) else none
  | _=>none
 | _,_=>none
def F6 (s:St) (bM:Bool) (post:List Lf):Option (fJ post).den:=
 match bM with
 | true=>match get s 1 with
  | .aI st true cs=>bif Nat.beq st 1 then tZ post cs else none
  | _=>none
 | false=>tZ post []
def Ro (E:Env) (fn:Func) (c:cu) (r:Lv):Option (Ty.cons c.rs.ty (fJ c.post)).den:=
 bif Nat.blt r.e 2&&nodupB ((bif c.bM then 1 else 2000001)::fn.results.toList.map (Rm r.s)) then
  match Ca E r.s fn.results.toList with
  | some ds=>match yx r.s c.rs ds,F6 r.s c.bM c.post with
   | some x,some y=>some (x,y)
   | _,_=>none
  | none=>none
 else none
def jG:Lf→Bool
 | .cst .undef=>true
 | .cst .lS=>true
 | .cst (.BF _ _)=>true
 | .cst (.BG _)=>true
 | .cst _=>false
 | _=>true
def pR:Sh→Bool
 | .lf l=>jG l
 | .agg ls=>ls.all jG
 | _=>false
def ni:Lf→Bool
 | .sl f _=>Nat.beq f 0
 | l=>jG l
def xI:Sh→Bool
 | .lf l=>ni l
 | .agg ls=>ls.all ni
 | _=>false
def RS.ok:RS→Bool
 | .none=>true
 | .one p=>pR p
 | .iJ l=>l.all pR && !Nat.beq l.length 1
 | .Ac ls=>ls.all jG
 | .yu _ _=>true
def cu.ok (c:cu):Bool:=c.pre.all jG&&c.ps.all pR&&c.rs.ok&&c.post.all jG&&(c.bM || (c.pre.isEmpty&&c.post.isEmpty))
def evF (lp:Rl) (E:Env) (Γ:Af) (fn:Func) (p:Plan) (c:cu) (x:(Ty.cons (fJ c.pre) (kJ c.ps)).den):Out (Ty.cons c.rs.ty (fJ c.post)).den:=
 match fn.body with
 | some code=>(ev lp E Γ code p [] (bI c x)).oV (Ro E fn c)
 | none=>.fail
theorem Ow {d:D}:jA d=true↔d = .undef:=by cases d<;>simp [jA]
theorem EI {n:Nat} {f g:Nat→Nat} (h:∀ i,f i≤g i):cO n f≤cO n g:=by
 induction n with
 | zero=>exact bT _
 | succ n ih=>simp only [cO];exact Nat.add_le_add ih (h n)
section
variable {w:World} {G:Nat→Nat} {pt bC:Nat→Nat→Option Value}
theorem bF.ptr {d:D} {v:Value} (hp:∀ i∈bW d,∀ st,bC i st=pt i st) (h:bF w G pt d v):bF w G bC d v:=by
 cases d with
 | ptr id st off=>obtain ⟨b,h1,h2⟩:=h;exact ⟨b,by rw [hp id (by simp [bW])];exact h1,h2⟩
 | uE id st i off es=>obtain ⟨b,h1,h2⟩:=h;exact ⟨b,by rw [hp id (by simp [bW])];exact h1,h2⟩
 | fU id st=>show bC id st=some v;rw [hp id (by simp [bW])];exact h
 | VO id st nc o n=>obtain ⟨ad,m,c,ad',c',h1,h⟩:=h;exact ⟨ad,m,c,ad',c',by rw [hp id (by simp [bW])];exact h1,h⟩
 | Jr id st n=>
  obtain ⟨h,hn⟩:=h
  rcases h with ⟨b,c,h1,h2⟩ | h
  ·exact ⟨.inl ⟨b,c,by rw [hp id (by simp [bW])];exact h1,h2⟩,hn⟩
  ·exact ⟨.inr h,hn⟩
 | _=>exact h
theorem F7 {i:Nat}:∀ {ds:List D} (j:Nat) (h:j<ds.length),i∈bW ds[j]→i∈fq ds
 | d::r,0,_,h=>by simp only [fq,pV];exact .inl h
 | d::r,j+1,hj,h=>by
  simp only [fq,pV]
  exact .inr (F7 j (by simpa using hj) (by simpa using h))
theorem Dr {i:Nat}:∀ {ds:List D} (j:Nat) (h:j<ds.length),i∈jv ds[j]→i∈Ab ds
 | d::r,0,_,h=>by simp only [Ab,pV];exact .inl h
 | d::r,j+1,hj,h=>by
  simp only [Ab,pV]
  exact .inr (Dr j (by simpa using hj) (by simpa using h))
theorem aP.ptr {ds:List D} {f:Nat→Value} (hp:∀ i∈fq ds,∀ st,bC i st=pt i st) (h:aP w G pt ds f):aP w G bC ds f:=
 fun j hj=>⟨(h j hj).1.ptr fun i hi=>hp i (F7 j hj hi),(h j hj).2⟩
theorem BH.ptr {d:D} {v:Value} (hp:∀ i∈jv d,∀ st,bC i st=pt i st) (h:BH w G pt d v):BH w G bC d v:=by
 cases d with
 | agg cs=>obtain ⟨arr,h1,h2,h3⟩:=h;exact ⟨arr,h1,h2,h3.ptr hp⟩
 | _=>simp only [BH] at h ⊢;exact bF.ptr hp h
theorem aU.ptr {d:D} {v:Value} (hp:∀ i∈refs d,∀ st,bC i st=pt i st) (h:aU w G pt d v):aU w G bC d v:=by
 cases d with
 | agg cs=>obtain ⟨arr,h1,h2,h3⟩:=h;exact ⟨arr,h1,h2,h3.ptr hp⟩
 | iJ vs=>obtain ⟨arr,h1,h2,h3⟩:=h;exact ⟨arr,h1,h2,fun j hj=>(h3 j hj).ptr fun i hi=>hp i (Dr j hj hi)⟩
 | fn f cs=>obtain ⟨arr,h1,h2,h3,h4⟩:=h;exact ⟨arr,h1,h2,h3.ptr hp,h4⟩
 | aI st l cs=>simp only [aU,bF] at h
 | dI st t l h'=>simp only [aU,bF] at h
 | bO st k v l=>simp only [aU,bF] at h
 | _=>simp only [aU] at h ⊢;exact bF.ptr hp h
theorem Cb {i:Nat} {t:Ty}:∀ {l:List (List t.den)},i ∉ fq (l.map fun r=>D.sl 2 t r)
 | []=>by simp [fq]
 | r::l=>by simp only [jy,fq,bW,List.nil_append];exact Cb
theorem Ox {i:Nat} {d:D}:∀ {ds:List D} {j:Nat},i∈fq (ds.set j d)→i∈fq ds∨i∈bW d
 | [],_,h=>.inl h
 | d'::r,0,h=>by
  simp only [K6,fq,pV] at h ⊢
  rcases h with h | h
  ·exact .inr h
  ·exact .inl (.inr h)
 | d'::r,j+1,h=>by
  simp only [K7,fq,pV] at h ⊢
  rcases h with h | h
  ·exact .inl (.inl h)
  ·rcases Ox h with h | h
   ·exact .inl (.inr h)
   ·exact .inr h
theorem Oy {i st:Nat} {t:Ty} {l:List (List t.den)} {h:Option (Nat×Nat×Nat)} (hi:i∈fq (bA t l h)):i∈refs (.dI st t l h):=by
 cases h with
 | none=>exact absurd hi Cb
 | some p=>
  obtain ⟨j,X,st2⟩:=p
  rcases Ox hi with hi | hi
  ·exact absurd hi Cb
  ·exact hi
theorem pK.ptr {id:Nat} {d:D} (hid:d≠.undef→∀ st,bC id st=pt id st) (hp:∀ i∈refs d,∀ st,bC i st=pt i st) (h:pK w G pt id d):pK w G bC id d:=by
 cases d with
 | undef=>trivial
 | aI st live cs=>
  intro hl;obtain ⟨b,h1,h2,h3,h4⟩:=h hl
  exact ⟨b,by rw [hid (by simp)];exact h1,h2,h3,h4.ptr hp⟩
 | bO st k v l=>
  obtain ⟨b,h1,h2⟩:=h
  exact ⟨b,by rw [hid (by simp)];exact h1,h2⟩
 | dI st t l h'=>
  obtain ⟨b,h1,h2,h3,h4⟩:=h
  exact ⟨b,by rw [hid (by simp)];exact h1,h2,h3,h4.ptr fun i hi=>hp i (Oy hi)⟩
 | aX st live ar t l=>
  intro hl;have h':=h hl
  cases ar with
  | true=>
   simp only [if_true] at h' ⊢
   rw [hid (by simp)];exact h'
  | false=>
   simp only [xD,if_false] at h' ⊢
   rw [hid (by simp)];exact h'
 | DW st l=>
  obtain ⟨h1,h2⟩:=h
  have e:inf w bC id st=inf w pt id st:=funext fun j=>by simp only [inf,hid (by simp)]
  refine ⟨by rw [hid (by simp)];exact h1,?_⟩
  rw [e]
  exact h2.ptr fun i hi=>by
   exfalso
   have:∀ l:List (Int×(List Int×Unit)),i ∉ fq (Yo l):=by
    intro l
    induction l with
    | nil=>simp [Yo,fq]
    | cons r l ih=>simp only [Yo,jy,fq,bW,List.nil_append] at ih ⊢;exact ih
   exact this l hi
 | _=>exact h.elim
theorem Rp {id:Nat} {d:D} (hid:d≠.undef→∀ st,bC id st=pt id st) (b:Nat):gY w bC b id d=gY w pt b id d:=by
 cases d with
 | aI st live cs=>cases live<;>simp only [gY];rw [hid (by simp)]
 | aX st live ar t l=>cases live<;>simp only [gY];rw [hid (by simp)]
 | dI st t l h'=>simp only [gY];rw [hid (by simp)]
 | bO st k v l=>simp only [gY];rw [hid (by simp)]
 | DW st l=>
  have e:inf w bC id st=inf w pt id st:=funext fun j=>by simp only [inf,hid (by simp)]
  simp only [gY,hid (by simp),e]
 | _=>rfl
variable {E:Env} {C:Ctx} {s s':St} {a:Act}
theorem Rel.restrict (R:Rel E C s a w G pt) (hk:∀ k,get s' k=get s k∨get s' k = .undef) (hc:∀ k i,i∈refs (get s' k)→get s' (2*i+1)≠.undef)
 (hp:C.pin=none∨get s' 1≠.undef):∃ bC,Rel E C s' a w G bC:=by
 refine ⟨fun id st=>bif jA (get s' (2*id+1)) then none else pt id st,?_⟩
 have same:∀ id,get s' (2*id+1)≠.undef→∀ st,(bif jA (get s' (2*id+1)) then none else pt id st)=pt id st:=by
  intro id h st
  cases hu:jA (get s' (2*id+1)) with
  | true=>exact absurd (Ow.1 hu) h
  | false=>rfl
 have Fb:∀ b t,cT s' a b t≤cT s a b t:=by
  intro b t;simp only [cT]
  rcases hk (2*t) with h | h
  ·rw [h];exact bT _
  ·rw [h,dX];exact mY _
 have cb1:∀ b id,cB s' w (fun id st=>bif jA (get s' (2*id+1)) then none else pt id st) b id≤cB s w pt b id:=by
  intro b id;simp only [cB]
  rcases hk (2*id+1) with h | h
  ·rw [Rp (pt:=pt) (fun fC=>same id fC),h];exact bT _
  ·rw [h];exact mY _
 have tc:∀ b,TC E.n C.m s' a w (fun id st=>bif jA (get s' (2*id+1)) then none else pt id st) b≤TC E.n C.m s a w pt b:=
  fun b=>Nat.add_le_add (EI (Fb b)) (EI (cb1 b))
 refine ⟨R.sz,R.df,fun t=>?_,fun id=>?_,fun t ht=>?_,fun id hid=>?_,fun b=>gX (tc b) (R.ct b),fun b hb=>R.cb b (mK hb (tc b)),R.fr,R.ex,R.gz,R.os,R.out,R.tape,R.hs,
  fun id st hs=>?_,R.gl,fun v hv=>?_⟩
 ·rcases hk (2*t) with h | h
  ·have:=R.tm t
   rw [←h] at this
   exact this.ptr fun i hi=>same i (hc _ i hi)
  ·rw [h];trivial
 ·rcases hk (2*id+1) with h | h
  ·have:=R.bx id
   rw [←h] at this
   exact this.ptr (fun fC=>same id fC) fun i hi=>same i (hc _ i hi)
  ·rw [h];trivial
 ·rcases hk (2*t) with h | h
  ·rw [h];exact R.ht t ht
  ·exact h
 ·rcases hk (2*id+1) with h | h
  ·rw [h];exact R.hb id hid
  ·exact h
 ·rcases hk (2*id+1) with h | h
  ·by_cases fC:get s' (2*id+1) = .undef
   ·show (bif jA (get s' (2*id+1)) then none else pt id st)=none
    rw [fC];rfl
   ·show (bif jA (get s' (2*id+1)) then none else pt id st)=none
    rw [same id fC]
    exact R.pf id st (by rw [←h];exact hs)
  ·show (bif jA (get s' (2*id+1)) then none else pt id st)=none
   rw [h];rfl
 ·show (bif jA (get s' (2*0+1)) then none else pt 0 1)=some v
  rcases hp with hp | hp
  ·rw [hp] at hv;cases hv
  ·rw [same 0 hp];exact R.pn v hv
end
theorem rF {R S:Type} (f:R→Out S):∀ (o:Out R),(o.bind f).den=(match o.den with | some r=>(f r).den | none=>none)
 | .ret r=>rfl
 | .fail=>rfl
 | .ite c a b=>by
  simp only [Out.bind,Out.den];cases c
  ·exact rF f b
  ·exact rF f a
 | .call t r k=>by
  simp only [Out.bind,Out.den]
  cases r with
  | none=>rfl
  | some x=>exact rF f (k x)
theorem rG {R:Type} {t:Ty} {o:Option t.den} {k:t.den→Out R} {y:R} (h:(Out.call t o k).den=some y):∃ x,o=some x∧(k x).den=some y:=by
 cases o with
 | none=>cases h
 | some x=>exact ⟨x,rfl,h⟩
theorem bind_some {R S:Type} {f:R→Out S} {o:Out R} {y:S} (h:(o.bind f).den=some y):∃ r,o.den=some r∧(f r).den=some y:=by
 rw [rF] at h
 cases hr:o.den with
 | none=>rw [hr] at h;cases h
 | some r=>rw [hr] at h;exact ⟨r,rfl,h⟩
theorem jw {R S:Type} {f:R→Option S}:∀ {o:Out R} {y:S},(o.oV f).den=some y→∃ r,o.den=some r∧f r=some y
 | .ret r,y,h=>by
  simp only [Out.oV] at h
  cases hf:f r with
  | none=>rw [hf] at h;cases h
  | some x=>rw [hf] at h;simp only [Out.den,bn] at h;subst h;exact ⟨r,rfl,hf⟩
 | .fail,y,h=>by cases h
 | .ite c a b,y,h=>by
  simp only [Out.oV,Out.den] at h ⊢;cases c
  ·exact jw (o:=b) h
  ·exact jw (o:=a) h
 | .call t r k,y,h=>by
  simp only [Out.oV,Out.den] at h ⊢
  cases r with
  | none=>cases h
  | some x=>exact jw (o:=k x) h
theorem mR:∀ (u s:St) (k:Nat),k ∉ aH u→get (u++s) k=get s k
 | [],_,_,_=>rfl
 | (j,d)::r,s,k,h=>by
  simp only [aH,List.mem_cons,not_or] at h;rw [List.cons_append,aD,if_neg h.1];exact mR r s k h.2
theorem Cc (k:Nat):(odd k=true∧∃ i,k=2*i+1)∨(odd k=false∧∃ i,k=2*i):=by
 cases h:odd k with
 | true=>
  refine .inl ⟨rfl,k / 2,?_⟩
  have:k%2=1:=by simpa [odd] using h
  omega
 | false=>
  refine .inr ⟨rfl,k / 2,?_⟩;have:¬ k%2=1:=zC5 h;omega
section
variable {E:Env} {C:Ctx} {s:St} {a:Act} {w:World} {G:Nat→Nat} {pt:Nat→Nat→Option Value}
theorem LH {t:Ty} {l:List t.den} {v:Value} (h:bF w G pt (.sl 2 t l) v) (b:Nat):dS b (.sl 2 t l) v=dh b (some v):=by
 obtain ⟨ad,n,c,hv,_,_,hs⟩:=h;subst hv
 rcases hs with ⟨h5,_⟩ | ⟨b',h5,_⟩<;>subst h5<;>simp [dh,bE,dS]
theorem F8 (X st:Nat) (v:Value):bG pt X st v X st=some v:=by simp [bG]
theorem F9 (R:Rel E C s a w G pt) (X:Nat) (v:Value):∀ i j u,pt i j=some u→bG pt X (aL (get s (2*X+1))+1) v i j=some u:=by
 intro i j u h;unfold bG;rw [if_neg]
 ·exact h
 ·rintro ⟨rfl,rfl⟩
  rw [R.pf i _ (Nat.lt_succ_self _)] at h;cases h
theorem Oz (R:Rel E C s a w G pt) (X:Nat) (v:Value) {st:Nat} (h:aL (get s (2*X+1))+1<st):bG pt X (aL (get s (2*X+1))+1) v X st=none:=by
 unfold bG
 rw [if_neg (by omega)]
 exact R.pf X st (by omega)
theorem Rel.anC (R:Rel E C s a w G pt) {u X:Nat} (hX:X<C.m) {t:Ty} {l:List t.den} (hs:get s (2*u) = .sl 2 t l) :
 ∃ bC,Rel E C ((2*u,.fU X (aL (get s (2*X+1))+1))::(2*X+1,.aX (aL (get s (2*X+1))+1) true false t l)::s) a w G bC:=by
 have hu:u<E.n:=by
  rcases Nat.lt_or_ge u E.n with h | h
  ·exact h
  ·rw [R.ht u h] at hs;cases hs
 have hr:=R.tm u;rw [hs] at hr;refine ⟨bG pt X (aL (get s (2*X+1))+1) (a.tmps.getD u undef),?_⟩
 refine R.step (fun i=>i=u) (fun i=>i=X) (fun _=>False) rfl R.df (fun i hi=>?_) (fun id hid=>?_) (Ext.refl _ _) (F9 R X _) (fun _ _ _=>⟨rfl,rfl⟩) (fun b h=>h.elim) (fun b h=>h.elim) (fun b h=>h.elim)
  (fun i hi=>?_) (fun id hid=>?_) (fun c1 c2 b=>?_) R.gz rfl rfl rfl (bT _)
 ·simp only [dQ,get_bt,hi,if_false];exact ⟨trivial,trivial⟩
 ·simp only [kF,aW,hid,if_false];exact ⟨trivial,funext fun j=>by simp [bG,hid]⟩
 ·subst hi
  refine ⟨hu,?_⟩;simp only [dQ,if_true];show bG _ _ _ _ _ _=_;simp [bG]
 ·subst hid
  simp only [kF,aW,if_true]
  refine ⟨hX,fun _=>?_,fun st gG=>Oz R id _ gG⟩
  simp only [xD,if_false];obtain ⟨ad,n,c,h1,h2⟩:=hr
  exact ⟨ad,n,c,by simp [bG,h1],h2⟩
 ·have e1:=dG (n:=E.n) hu (fun i hi=>c1 i hi b)
  have e2:=dG (n:=C.m) (x:=X) hX (fun i hi=>c2 i hi b)
  have e3:cT ((2*u,.fU X (aL (get s (2*X+1))+1))::(2*X+1,.aX (aL (get s (2*X+1))+1) true false t l)::s) a b u=0:=by
   simp only [cT,dQ,if_true]
   cases a.tmps.getD u undef<;>rfl
  have e4:cB ((2*u,.fU X (aL (get s (2*X+1))+1))::(2*X+1,.aX (aL (get s (2*X+1))+1) true false t l)::s) w (bG pt X (aL (get s (2*X+1))+1) (a.tmps.getD u undef)) b X=cT s a b u:=by
   simp only [cB,kF,aW,if_true,gY,cT,hs]
   have:dP b (.sl 2 t l) (a.tmps.getD u undef)=dS b (.sl 2 t l) (a.tmps.getD u undef):=by cases a.tmps.getD u undef<;>rfl
   rw [this,LH (pt:=pt) hr,F8]
  have h1:=R.ct b;have h2:=R.cb b;unfold TC at *
  exact ⟨by omega,fun h=>h2 (by omega)⟩
theorem Rel.anD (R:Rel E C s a w G pt) {u X st:Nat} {t:Ty} {l:List t.den} (hX:get s (2*X+1) = .aX st true false t l) (hs:get s (2*u) = .fU X st) :
 Rel E C ((2*u,.sl 2 t l)::(2*X+1,.aX st false false t l)::s) a w G pt:=by
 have hu:u<E.n:=by
  rcases Nat.lt_or_ge u E.n with h | h
  ·exact h
  ·rw [R.ht u h] at hs;cases hs
 have hXm:=fT R (id:=X) (by rw [hX];simp)
 have hr:pt X st=some (a.tmps.getD u undef):=by have:=R.tm u;rw [hs] at this;exact this
 have hB:=R.bx X;rw [hX] at hB;obtain ⟨ad,n,c,q1,q2⟩:=hB rfl
 have hv:a.tmps.getD u undef = .slice ad n c:=by rw [hr] at q1;exact Option.some.inj q1
 have rep:bF w G pt (.sl 2 t l) (a.tmps.getD u undef):=⟨ad,n,c,hv,q2⟩
 refine R.step (fun i=>i=u) (fun i=>i=X) (fun _=>False) rfl R.df (fun i hi=>?_) (fun id hid=>?_) (Ext.refl _ _) (fun _ _ _ h=>h) (fun _ _ _=>⟨rfl,rfl⟩) (fun b h=>h.elim) (fun b h=>h.elim) (fun b h=>h.elim)
  (fun i hi=>?_) (fun id hid=>?_) (fun c1 c2 b=>?_) R.gz rfl rfl rfl (bT _)
 ·simp only [dQ,get_bt,hi,if_false];exact ⟨trivial,trivial⟩
 ·simp only [kF,aW,hid,if_false];exact ⟨trivial,trivial⟩
 ·subst hi
  refine ⟨hu,?_⟩;simp only [dQ,if_true];exact rep
 ·subst hid
  simp only [kF,aW,if_true]
  exact ⟨hXm,(by intro h;cases h),fun j hj=>R.pf id j (by rw [hX];exact hj)⟩
 ·have e1:=dG (n:=E.n) hu (fun i hi=>c1 i hi b)
  have e2:=dG (n:=C.m) (x:=X) hXm (fun i hi=>c2 i hi b)
  have e3:cT s a b u=0:=by
   simp only [cT,hs]
   cases a.tmps.getD u undef<;>rfl
  have e4:cT ((2*u,.sl 2 t l)::(2*X+1,.aX st false false t l)::s) a b u=dh b (pt X st):=by
   simp only [cT,dQ,if_true]
   have:dP b (.sl 2 t l) (a.tmps.getD u undef)=dS b (.sl 2 t l) (a.tmps.getD u undef):=by cases a.tmps.getD u undef<;>rfl
   rw [this,LH rep,hr]
  have e5:cB ((2*u,.sl 2 t l)::(2*X+1,.aX st false false t l)::s) w pt b X=0:=by
   simp only [cB,kF,aW,if_true,gY]
  have e6:cB s w pt b X=dh b (pt X st):=by simp only [cB,hX,gY]
  have h1:=R.ct b;have h2:=R.cb b;unfold TC at *
  exact ⟨by omega,fun h=>h2 (by omega)⟩
theorem JL {cs:List D} {j:Nat} {d:D} (h:(cs.drop j).take 1=[d]) (d':D):j+[d'].length≤cs.length:=by
 have:=congrArg List.length h;simp at this ⊢;omega
theorem Rel.anF (R:Rel E C s a w G pt) {id j X st:Nat} {cs:List D} (hX:X<C.m) (fC:id≠X) {t:Ty} {l:List t.den}
 (hb:get s (2*id+1) = .aI st true cs) (hj:(cs.drop j).take 1=[.sl 2 t l]) :
 ∃ bC,Rel E C ((2*id+1,.aI st true (dL cs j [.fU X (aL (get s (2*X+1))+1)]))::(2*X+1,.aX (aL (get s (2*X+1))+1) true false t l)::s) a w G bC:=by
 have hid:=fT R (id:=id) (by rw [hb];simp)
 have hB:=R.bx id;rw [hb] at hB;obtain ⟨bR,h1,h2,h3,h4⟩:=hB rfl
 have hblk:bE (pt id st)=some bR:=by rw [h1];rfl
 have lF:=h4.sub j 1;rw [hj] at lF
 have gy:=(lF 0 (by simp)).1
 simp only [List.getElem_cons_zero,Nat.add_zero] at gy;have qN:=JL hj (.fU X (aL (get s (2*X+1))+1));generalize hv:aB w bR j=v at gy;have nQ:=F9 R X v;refine ⟨bG pt X (aL (get s (2*X+1))+1) v,?_⟩
 have hpi:bG pt X (aL (get s (2*X+1))+1) v id st=pt id st:=by simp [bG,fC]
 refine R.step (fun _=>False) (fun i=>i=id∨i=X) (fun _=>False) rfl R.df (fun i _=>⟨by simp,rfl⟩) (fun i hi=>?_) (Ext.refl _ _) nQ (fun _ _ _=>⟨rfl,rfl⟩) (fun b h=>h.elim) (fun b h=>h.elim) (fun b h=>h.elim)
  (fun i hi=>hi.elim) (fun i hi=>?_) (fun c1 c2 b=>?_) R.gz rfl rfl rfl (bT _)
 ·simp only [not_or] at hi
  simp only [aW,hi.1,hi.2,if_false];exact ⟨trivial,funext fun j=>by simp [bG,hi.2]⟩
 ·by_cases hiX:i=X
  ·subst hiX
   simp only [aW,if_true,if_neg (Ne.symm fC)]
   refine ⟨hX,fun _=>?_,fun st gG=>Oz R i _ gG⟩
   simp only [xD,if_false];obtain ⟨ad,n,c,g1,g2⟩:=gy
   exact ⟨ad,n,c,by simp [bG,g1],g2⟩
  ·have hii:i=id:=by rcases hi with h | h;exact h;exact absurd h hiX
   subst hii;simp only [aW,if_true]
   refine ⟨hid,fun _=>⟨bR,by rw [hpi];exact h1,by rw [gZ qN];exact h2,h3,?_⟩,fun st' Lm=>?_⟩
   ·refine (h4.mono (Ext.refl _ _) nQ (fun _ _=>rfl) (fun _ _=>⟨rfl,rfl⟩)).dL (fun m hm=>?_) qN
    have:m=0:=by simp at hm;exact hm
    subst this
    refine ⟨?_,(h4 (j+0) (by simp at qN;omega)).2⟩
    simp only [List.getElem_cons_zero,Nat.add_zero,hv];show bG _ _ _ _ _ _=_;simp [bG]
   ·have:=R.pf i st' (by rw [hb];exact Lm)
    simp only [bG];rw [if_neg (by omega)];exact this
 ·have e1:=aG (n:=E.n) (fun i _=>c1 i (fun h=>h) b)
  have e2:=qY (n:=C.m) hid hX fC (fun i h1 h2=>c2 i (fun h=>by rcases h with h | h;exact h1 h;exact h2 h) b)
  have e3:cB s w pt b id=dh b (pt id st)+aM b cs (aB w bR):=by simp only [cB,hb,gY,hblk,sw]
  have e4:cB ((2*id+1,.aI st true (dL cs j [.fU X (aL (get s (2*X+1))+1)]))::(2*X+1,.aX (aL (get s (2*X+1))+1) true false t l)::s) w (bG pt X (aL (get s (2*X+1))+1) v) b id =
   dh b (pt id st)+aM b (dL cs j [.fU X (aL (get s (2*X+1))+1)]) (aB w bR):=by
   simp only [cB,aW,if_true,gY,hpi,hblk,sw]
  have e5:cB ((2*id+1,.aI st true (dL cs j [.fU X (aL (get s (2*X+1))+1)]))::(2*X+1,.aX (aL (get s (2*X+1))+1) true false t l)::s) w (bG pt X (aL (get s (2*X+1))+1) v) b X=dS b (.sl 2 t l) v:=by
   simp only [cB,aW,if_true,if_neg (Ne.symm fC),gY];rw [LH (pt:=pt) gy,F8]
  have e6:=jK (b:=b) (f:=aB w bR) qN
  have e7:aM b [D.fU X (aL (get s (2*X+1))+1)] (fun i=>aB w bR (j+i))=0:=by
   show dS b (.fU X _) _+0=0
   cases aB w bR (j+0)<;>rfl
  have e8:aM b ((cs.drop j).take [D.fU X (aL (get s (2*X+1))+1)].length) (fun i=>aB w bR (j+i))=dS b (.sl 2 t l) v:=by
   show aM b ((cs.drop j).take 1) _=_;rw [hj];show dS b (.sl 2 t l) (aB w bR (j+0))+0=_;rw [Nat.add_zero,Nat.add_zero,hv]
  have h1:=R.ct b;have h2:=R.cb b;unfold TC at *
  exact ⟨by omega,fun h=>h2 (by omega)⟩
theorem Rel.agm (R:Rel E C s a w G pt) {id j X st st':Nat} {cs:List D} (fC:id≠X) {t:Ty} {l:List t.den} (hX:get s (2*X+1) = .aX st true false t l)
 (hb:get s (2*id+1) = .aI st' true cs) (hj:(cs.drop j).take 1=[.fU X st]) :
 Rel E C ((2*id+1,.aI st' true (dL cs j [.sl 2 t l]))::(2*X+1,.aX st false false t l)::s) a w G pt:=by
 have hid:=fT R (id:=id) (by rw [hb];simp)
 have hXm:=fT R (id:=X) (by rw [hX];simp)
 have hB:=R.bx id;rw [hb] at hB;obtain ⟨bR,h1,h2,h3,h4⟩:=hB rfl
 have hblk:bE (pt id st')=some bR:=by rw [h1];rfl
 have lF:=h4.sub j 1;rw [hj] at lF
 have gy:=(lF 0 (by simp)).1
 simp only [List.getElem_cons_zero,Nat.add_zero] at gy;have qN:=JL hj (.sl 2 t l);generalize hv:aB w bR j=v at gy;have hr:pt X st=some v:=gy;have hBX:=R.bx X;rw [hX] at hBX;obtain ⟨ad,n,c,q1,q2⟩:=hBX rfl
 have hvv:v = .slice ad n c:=by rw [hr] at q1;exact Option.some.inj q1
 have rep:bF w G pt (.sl 2 t l) v:=⟨ad,n,c,hvv,q2⟩
 refine R.step (fun _=>False) (fun i=>i=id∨i=X) (fun _=>False) rfl R.df (fun i _=>⟨by simp,rfl⟩) (fun i hi=>?_) (Ext.refl _ _) (fun _ _ _ h=>h) (fun _ _ _=>⟨rfl,rfl⟩) (fun b h=>h.elim) (fun b h=>h.elim) (fun b h=>h.elim)
  (fun i hi=>hi.elim) (fun i hi=>?_) (fun c1 c2 b=>?_) R.gz rfl rfl rfl (bT _)
 ·simp only [not_or] at hi
  simp only [aW,hi.1,hi.2,if_false];exact ⟨trivial,trivial⟩
 ·by_cases hiX:i=X
  ·subst hiX
   simp only [aW,if_true,if_neg (Ne.symm fC)]
   exact ⟨hXm,(by intro h;cases h),fun j hj=>R.pf i j (by rw [hX];exact hj)⟩
  ·have hii:i=id:=by rcases hi with h | h;exact h;exact absurd h hiX
   subst hii;simp only [aW,if_true]
   refine ⟨hid,fun _=>⟨bR,h1,by rw [gZ qN];exact h2,h3,?_⟩,fun st' Lm=>?_⟩
   ·refine h4.dL (fun m hm=>?_) qN
    have:m=0:=by simp at hm;exact hm
    subst this
    refine ⟨?_,(h4 (j+0) (by simp at qN;omega)).2⟩
    simp only [List.getElem_cons_zero,Nat.add_zero,hv];exact rep
   ·exact R.pf i st' (by rw [hb];exact Lm)
 ·have e1:=aG (n:=E.n) (fun i _=>c1 i (fun h=>h) b)
  have e2:=qY (n:=C.m) hid hXm fC (fun i h1 h2=>c2 i (fun h=>by rcases h with h | h;exact h1 h;exact h2 h) b)
  have e3:cB s w pt b id=dh b (pt id st')+aM b cs (aB w bR):=by simp only [cB,hb,gY,hblk,sw]
  have e4:cB ((2*id+1,.aI st' true (dL cs j [.sl 2 t l]))::(2*X+1,.aX st false false t l)::s) w pt b id =
   dh b (pt id st')+aM b (dL cs j [.sl 2 t l]) (aB w bR):=by
   simp only [cB,aW,if_true,gY,hblk,sw]
  have e5:cB ((2*id+1,.aI st' true (dL cs j [.sl 2 t l]))::(2*X+1,.aX st false false t l)::s) w pt b X=0:=by
   simp only [cB,aW,if_true,if_neg (Ne.symm fC),gY]
  have e5':cB s w pt b X=dS b (.sl 2 t l) v:=by
   simp only [cB,hX,gY];rw [LH rep,hr]
  have e6:=jK (b:=b) (f:=aB w bR) qN
  have e7:aM b [D.sl 2 t l] (fun i=>aB w bR (j+i))=dS b (.sl 2 t l) v:=by
   show dS b (.sl 2 t l) (aB w bR (j+0))+0=_;rw [Nat.add_zero,Nat.add_zero,hv]
  have e8:aM b ((cs.drop j).take [D.sl 2 t l].length) (fun i=>aB w bR (j+i))=0:=by
   show aM b ((cs.drop j).take 1) _=_;rw [hj];show dS b (.fU X st) (aB w bR (j+0))+0=0
   cases aB w bR (j+0)<;>rfl
  have h1:=R.ct b;have h2:=R.cb b;unfold TC at *
  exact ⟨by omega,fun h=>h2 (by omega)⟩
theorem Wv {d:D} {x:(t:Ty)×t.den} {v:Value} {b o:Nat} (hx:F4 d=some x) (h:bF w G pt d v) (hc:w.cell? ⟨b,o,none⟩=some v):x.1.nc=1∧dK w G x.1 x.2 b o:=by
 cases d with
 | int k n=>
  simp only [F4,bn] at hx;subst hx
  exact ⟨rfl,by simp only [dK];rw [hc,h.1];exact ⟨rfl,h.2⟩⟩
 | bool z=>
  simp only [F4,bn] at hx;subst hx
  exact ⟨rfl,by simp only [dK];rw [hc,show v = .bool z from h]⟩
 | str l=>
  simp only [F4,bn] at hx;subst hx;obtain ⟨s,h1,h2⟩:=h
  exact ⟨rfl,by simp only [dK];exact ⟨s,by rw [hc,h1],h2⟩⟩
 | sl f t l=>
  match f,hx,h with
  | 0,hx,h=>
   simp only [F4,bn] at hx;subst hx;obtain ⟨a,n,c,h1,h2,h3,h4,h5⟩:=h;subst h2;refine ⟨rfl,?_⟩;simp only [dK]
   refine ⟨a,l.length,c,by rw [hc,h1],rfl,h3,h4,?_⟩
   rcases h5 with h5 | ⟨b1,o1,h5,h6,h7⟩
   ·exact .inl h5
   ·exact .inr ⟨b1,o1,h5,h6,h7⟩
  | n+1,hx,_=>cases hx
 | iF f t y=>
  simp only [F4,bn] at hx;subst hx;obtain ⟨b1,o1,h1,h2,h3⟩:=h;refine ⟨rfl,?_⟩;simp only [dK]
  exact ⟨b1,o1,by rw [hc,h1],h2,h3⟩
 | _=>cases hx
theorem Dt:∀ {cs:List D} {x:(t:Ty)×t.den} {f:Nat→Value} {b o:Nat},wE cs=some x→aP w G pt cs f→(∀ j,j<cs.length→w.cell? ⟨b,o+j,none⟩=some (f j))→x.1.nc=cs.length∧dK w G x.1 x.2 b o
 | [],x,f,b,o,hx,_,_=>by
  simp only [wE,bn] at hx;subst hx
  exact ⟨rfl,by simp only [dK]⟩
 | d::r,x,f,b,o,hx,h,hc=>by
  simp only [wE] at hx;split at hx
  ·rename_i y z hy hz
   simp only [bn] at hx;subst hx
   obtain ⟨p1,p2⟩:=Wv (b:=b) (o:=o) hy (h 0 (by simp)).1 (by simpa using hc 0 (by simp))
   obtain ⟨q1,q2⟩:=Dt (f:=fun j=>f (j+1)) (b:=b) (o:=o+1) hz (fun j hj=>by
    have:=h (j+1) (by simpa using hj)
    rw [List.getElem_cons_succ] at this
    exact this) (fun j hj=>by
    have:=hc (j+1) (by simpa using hj)
    rw [show o+1+j=o+(j+1) by omega]
    exact this)
   refine ⟨by simp only [Ty.nc,lD];omega,?_⟩
   simp only [dK];rw [p1];exact ⟨p2,q2⟩
  ·cases hx
theorem Rel.freeze (R:Rel E C s a w G pt) {u id st:Nat} {cs:List D} {x:(t:Ty)×t.den} (hu:get s (2*u) = .ptr id st 0) (hb:get s (2*id+1) = .aI st true cs) (hx:wE cs=some x) :
 ∃ G',Rel E C ([(2*id+1,.aI st false cs),(2*u,.jQ x.1 [x.2] 0 0)]++s) a w G' pt:=by
 have hB:=R.bx id;rw [hb] at hB;obtain ⟨bR,h1,h2,h3,h4⟩:=hB rfl
 have hblk:bE (pt id st)=some bR:=by rw [h1];rfl
 have hid:=fT R (id:=id) (by rw [hb];simp)
 have Wh:0<cB s w pt bR id:=by
  simp only [cB,hb,gY,dh,hblk,if_true];omega
 have uO:0<TC E.n C.m s a w pt bR:=mK Wh (R.jq bR id);obtain ⟨aT,ZR⟩:=R.cb bR uO
 have hE:Ext w G w (fun b=>if b=bR then cs.length else G b):=⟨fun _ _ _=>rfl,fun b=>by
  by_cases h:b=bR
  ·subst h;rw [h3];exact mY _
  ·simp [h]⟩
 have gu:∀ t,t≠u→get ([(2*id+1,.aI st false cs),(2*u,.jQ x.1 [x.2] 0 0)]++s) (2*t)=get s (2*t):=fun t ht=>by
  show get ((2*id+1,_)::(2*u,_)::s) (2*t)=_
  rw [aD,if_neg (by omega),aD,if_neg (by omega)]
 have gi:∀ i,i≠id→get ([(2*id+1,.aI st false cs),(2*u,.jQ x.1 [x.2] 0 0)]++s) (2*i+1)=get s (2*i+1):=fun i hi=>by
  show get ((2*id+1,_)::(2*u,_)::s) (2*i+1)=_
  rw [aD,if_neg (by omega),aD,if_neg (by omega)]
 have gu0:get ([(2*id+1,.aI st false cs),(2*u,.jQ x.1 [x.2] 0 0)]++s) (2*u) = .jQ x.1 [x.2] 0 0:=by
  show get ((2*id+1,_)::(2*u,_)::s) (2*u)=_
  rw [aD,if_neg (by omega),aD,if_pos rfl]
 have gi0:get ([(2*id+1,.aI st false cs),(2*u,.jQ x.1 [x.2] 0 0)]++s) (2*id+1) = .aI st false cs:=by
  show get ((2*id+1,_)::(2*u,_)::s) (2*id+1)=_;rw [aD,if_pos rfl]
 have hun:u<E.n:=by
  rcases Nat.lt_or_ge u E.n with h | h
  ·exact h
  ·have:=R.ht u h
   rw [hu] at this;cases this
 refine ⟨fun b=>if b=bR then cs.length else G b,R.step (fun t=>t=u) (fun i=>i=id) (fun b=>b=bR) rfl R.df (fun t ht=>⟨gu t ht,rfl⟩) (fun i hi=>⟨gi i hi,rfl⟩) hE (fun _ _ _ h=>h)
  (fun b nH _=>⟨rfl,by simp [show ¬ b=bR from nH]⟩) (fun b nH t _=>by rw [show b=bR from nH];exact R.bt Wh t) (fun b nH i hi=>by rw [show b=bR from nH];exact R.bb Wh hi) (fun b nH=>by rw [show b=bR from nH];exact ZR)
  (fun t ht=>?_) (fun i hi=>?_) (fun c1 c2 b=>?_) (fun b nH=>?_) rfl rfl rfl (bT _)⟩
 ·have ht:t=u:=ht
  subst ht;refine ⟨hun,?_⟩;rw [gu0];have ht:=R.tm t;rw [hu] at ht;obtain ⟨b',q1,q2⟩:=ht;rw [hblk] at q1
  have q1:bR=b':=by simpa using q1
  subst q1
  have LA:aP w (fun b=>if b=bR then cs.length else G b) pt cs (aB w bR):=fun j hj=>⟨bF.mono hE (fun _ _ _ h=>h) (h4 j hj).1 fun b nH=>by
   have fC:b≠bR:=by
    rintro rfl
    have e1:aM b cs (aB w b)≤0:=by
     have:=R.ct b;have h5:=R.jq b id;simp only [cB,hb,gY,dh,hblk,if_true,sw] at h5;omega
    have:=kI (b:=b) (ds:=cs) (f:=aB w b) j hj;omega
   exact ⟨rfl,by simp [fC]⟩,(h4 j hj).2⟩
  obtain ⟨p1,p2⟩:=Dt (b:=bR) (o:=0) hx LA (fun j hj=>by rw [Nat.zero_add];exact rA h2 hj)
  refine ⟨bR,0,by rw [q2];simp,by simp,by simp [p1],fun i hi=>?_⟩
  have:i=0:=by simpa using hi
  subst this
  simpa using p2
 ·have hi:i=id:=hi
  subst hi
  refine ⟨hid,?_,fun st' h=>?_⟩
  ·rw [gi0]
   intro h;cases h
  ·rw [gi0] at h
   exact R.pf i st' (by rw [hb];exact h)
 ·have hle:TC E.n C.m ([(2*id+1,.aI st false cs),(2*u,.jQ x.1 [x.2] 0 0)]++s) a w pt b≤TC E.n C.m s a w pt b:=by
   unfold TC
   refine Nat.add_le_add (EI fun t=>?_) (EI fun i=>?_)
   ·by_cases ht:t=u
    ·subst ht
     simp only [cT];rw [gu0]
     have:dP b (.jQ x.1 [x.2] 0 0) (a.tmps.getD t undef)=0:=by cases a.tmps.getD t undef<;>rfl
     omega
    ·exact Nat.le_of_eq (c1 t ht b)
   ·by_cases hi:i=id
    ·subst hi
     simp only [cB];rw [gi0];exact mY _
    ·exact Nat.le_of_eq (c2 i hi b)
  exact ⟨gX hle (R.ct b),fun h=>R.cb b (mK h hle)⟩
 ·have:b≠bR:=by omega
  simp [this];exact R.gz b nH
theorem Rel.Ag (R:Rel E C s a w G pt) (hm:E.n≤C.m) (k j X:Nat):∃ G' bC,Rel E C (Ag E.n s k j X++s) a w G' bC:=by
 unfold dw.Ag
 cases ha2:anB (get s (2*X+1)) with
 | true=>
  unfold dw.Um;simp only [aQ];split
  ·rename_i st t l hb
   obtain ⟨G',R'⟩:=R.Um hb;exact ⟨G',pt,R'⟩
  ·exact ⟨G,pt,R⟩
 | false=>
 simp only [bJ]
 cases hdp:ZN (get s (2*X+1)) with
 | true=>
  unfold uX;simp only [aQ];split
  ·rename_i st l hb
   exact ⟨G,pt,(R.flatten hb).1⟩
  ·exact ⟨G,pt,R⟩
 | false=>
 simp only [bJ]
 cases hX:Nat.blt X E.n with
 | false=>exact ⟨G,pt,R⟩
 | true=>
  have hX':X<C.m:=by have:X<E.n:=by simpa [Nat.blt_eq] using hX
                     omega
  rcases Cc k with ⟨ho,i,rfl⟩ | ⟨ho,i,rfl⟩
  ·simp only [ho,aQ]
   split
   ·rename_i st cs hb
    split
    ·rename_i f t l hj
     cases hg:(Nat.beq f 2&&(Nat.blt 0 t.nc && !Nat.beq ((2*i+1) / 2) X)) with
     | false=>exact ⟨G,pt,R⟩
     | true=>
      simp only [dA,Bool.not_eq_true'] at hg;have hf:=fD hg.1;subst hf
      have fC:i≠X:=by have:=zC5 hg.2.2;omega
      exact ⟨G,R.anF hX' fC hb hj⟩
    ·exact ⟨G,pt,R⟩
   ·exact ⟨G,pt,R⟩
  ·simp only [ho,aQ,bJ]
   split
   ·rename_i f t l hs
    cases hg:(Nat.beq f 2&&Nat.blt 0 t.nc) with
    | false=>exact ⟨G,pt,R⟩
    | true=>
     simp only [dA] at hg;have hf:=fD hg.1;subst hf;exact ⟨G,R.anC hX' hs⟩
   ·rename_i id st off hs
    unfold Ur;split
    ·rename_i st' cs hb
     split
     ·rename_i x hx
      cases hg:(Nat.beq st st' && Nat.beq off 0) with
      | false=>exact ⟨G,pt,R⟩
      | true=>
       simp only [dA] at hg;have h1:=fD hg.1;have h2:=fD hg.2;subst h1 h2;obtain ⟨G',R'⟩:=R.freeze hs hb hx;exact ⟨G',pt,R'⟩
     ·exact ⟨G,pt,R⟩
    ·exact ⟨G,pt,R⟩
   ·exact ⟨G,pt,R⟩
theorem Rel.anI (R:Rel E C s a w G pt) {id X st st' i:Nat} (fC:id≠X) {t:Ty} {r:List t.den} {l:List (List t.den)} (hX:get s (2*X+1) = .aX st true false t r)
 (hb:get s (2*id+1) = .dI st' t l (some (i,X,st))) :
 Rel E C ((2*id+1,.dI st' t (l.set i r) none)::(2*X+1,.aX st false false t r)::s) a w G pt:=by
 rcases Nat.lt_or_ge i l.length with aT | hge
 ·have R1:=R.Oi hb
  have hj:((bA t l (some (i,X,st))).drop i).take 1=[.fU X st]:=by
   rw [drop_one (by rw [oQ];exact aT)]
   simp [bA]
  have R2:=R1.agm (id:=id) (X:=X) (st:=st) (st':=st') (cs:=bA t l (some (i,X,st))) (j:=i) (t:=t) (l:=r) fC (by simp only [aW,Ne.symm fC,if_false];exact hX) (by simp only [aW,if_true]) hj
  rw [FQ (by rw [oQ];exact aT),Ol] at R2
  have R3:=R2.Oj (id:=id) (st:=st') (t:=t) (l:=l.set i r) (h:=none) (by simp only [aW,if_true])
  refine R3.congr fun k=>?_
  simp only [aD]
  by_cases hk:k=2*id+1
  ·simp only [hk,if_true]
  ·simp only [hk,if_false]
 ·have e1:bA t (l.set i r) none=bA t l (some (i,X,st)):=by
   rw [List.set_eq_of_length_le hge];simp only [bA]
   rw [List.set_eq_of_length_le (by simpa using hge)]
  have R1:=R.Oi hb;rw [←e1] at R1
  have R2:=R1.Oj (id:=id) (st:=st') (t:=t) (l:=l.set i r) (h:=none) (by simp only [aW,if_true])
  have R3:=(R2.Uj (id:=X) (st:=st) (ar:=false) (t:=t) (l:=r) (by simp only [aW,Ne.symm fC,if_false];exact hX)).1
  have R4:=R3.sameBox (id:=X) (d:=.aX st false false t []) (d':=.aX st false false t r) (by simp only [aW,if_true]) (by simp) (fun _ h=>by cases h) (fun _=>rfl) rfl
  refine R4.congr fun k=>?_
  simp only [aD]
  by_cases hk:k=2*id+1
  ·have:¬ (2*id+1=2*X+1):=by omega
   simp only [hk,if_true,this,if_false]
  ·simp only [hk,if_false]
   by_cases lX:k=2*X+1
   ·simp only [lX,if_true]
   ·simp only [lX,if_false]
theorem Rel.qg (R:Rel E C s a w G pt) (k j X:Nat):Rel E C (qg s k j X++s) a w G pt:=by
 unfold dw.qg;split
 ·rename_i st t l hX
  rcases Cc k with ⟨ho,i,rfl⟩ | ⟨ho,i,rfl⟩
  ·simp only [ho,aQ]
   split
   ·rename_i st' cs hb
    split
    ·rename_i Y st2 hj
     cases hg:(Nat.beq Y X&&(Nat.beq st2 st && !Nat.beq ((2*i+1) / 2) X)) with
     | false=>exact R
     | true=>
      simp only [dA,Bool.not_eq_true'] at hg;have hY:=fD hg.1;have hS:=fD hg.2.1;subst hY hS
      have fC:i≠Y:=by have:=zC5 hg.2.2;omega
      exact R.agm fC hX hb hj
    ·exact R
   ·rename_i st' t' l' i' Y st2 hb
    cases hg:(Nat.beq Y X&&(Nat.beq st2 st && !Nat.beq ((2*i+1) / 2) X)) with
    | false=>exact R
    | true=>
     simp only [dA,Bool.not_eq_true'] at hg;have hY:=fD hg.1;have hS:=fD hg.2.1;subst hY hS
     have fC:i≠Y:=by have:=zC5 hg.2.2;omega
     simp only [aQ];split
     ·rename_i ht
      have Yw:=Ty.eq_of_beq ht;subst Yw;exact R.anI fC hX hb
     ·exact R
   ·exact R
  ·simp only [ho,bJ]
   split
   ·rename_i Y st2 hs
    cases hg:(Nat.beq Y X&&Nat.beq st2 st) with
    | false=>exact R
    | true=>
     simp only [dA] at hg;have hY:=fD hg.1;have hS:=fD hg.2;subst hY hS;exact R.anD hX hs
   ·exact R
 ·exact R
theorem Rel.sP (R:Rel E C s a w G pt) (k j X:Nat):Rel E C (sP s k j X++s) a w G pt:=by
 unfold dw.sP;rw [List.append_assoc];refine Rel.qg ?_ k j X;unfold uX;split
 ·rename_i st l hb
  exact (R.flatten hb).1
 ·exact R
theorem LJ:∀ (l:List (Nat×Nat×Nat)) (r:Lv),(uY l r).e=r.e
 | [],_=>rfl
 | _::l,r=>LJ l _
theorem Ce:∀ (l:List (Nat×Nat×Nat)) (r:Lv) (a:Act) (w:World) (G:Nat→Nat) (pt:Nat→Nat→Option Value),Rel E C r.s a w G pt→Rel E C (uY l r).s a w G pt
 | [],_,_,_,_,_,R=>R
 | p::l,r,a,w,G,pt,R=>Ce l ⟨r.e,aH (dw.sP r.s p.1 p.2.1 p.2.2)++r.ch,dw.sP r.s p.1 p.2.1 p.2.2++r.s⟩ a w G pt (R.sP p.1 p.2.1 p.2.2)
theorem yA:∀ (l:List (Nat×Nat×Nat)) (r:Lv) (s0:St),(∀ k,k ∉ r.ch→get r.s k=get s0 k)→∀ k,k ∉ (uY l r).ch→get (uY l r).s k=get s0 k
 | [],_,_,h=>h
 | p::l,r,s0,h=>yA l _ s0 fun k hk=>by
  simp only [pV,not_or] at hk;show get (dw.sP r.s p.1 p.2.1 p.2.2++r.s) k=_;rw [mR _ _ _ hk.1];exact h k hk.2
theorem o7 {α:Type} {n:Nat} (Q:α→Prop) (I:List Nat→St→Prop) (h1:∀ ch s k j X,I ch s→I (aH (dw.Ag n s k j X)++ch) (dw.Ag n s k j X++s)) :
 ∀ (l:List (Nat×Nat×Nat)) (ch:List Nat) (s:St) (f:List Nat→St→α),I ch s→(∀ ch s,I ch s→Q (f ch s))→Q (Us n l ch s f)
 | [],ch,s,f,hI,hf=>hf ch s hI
 | p::l,ch,s,f,hI,hf=>o7 Q I h1 l _ _ f (h1 ch s p.1 p.2.1 p.2.2 hI) hf
theorem Rel.anJ (R:Rel E C s a w G pt) (t:Nat) (wo:fZ (get s (2*t))=false) (hu:t<E.n) :
 ∃ G',Rel E C ((2*t,view (get s (2*t)))::(2*t,share (get s (2*t)))::s) a w G' pt:=by
 obtain ⟨G',e,R1,h1,_⟩:=R.Fu t wo
 exact ⟨G',R1.weak t (Ext.refl _ _) (fun _ _=>rfl) (h1.view wo) hu (fun b=>by rw [uL _ _ _ wo];exact mY _)⟩
theorem Ww {M:List Nat} {k:Nat} {sh:Sh} {m:Nat} (hm:m ∉ M):get (Ou M s k sh) m=get s m:=by
 unfold Ou
 cases hc:((ZP (Ai sh) (get s k) && !(sh.abs (get s k)).isSome)&&mem k M) with
 | false=>rfl
 | true=>
  simp only [aQ];rw [dA,dA] at hc
  have hk:m≠k:=fun h=>by
   subst h
   exact hm (by
    have:=hc.2;clear hc
    induction M with
    | nil=>cases this
    | cons x r ih=>
     simp only [mem,Bool.or_eq_true] at this
     rcases this with h | h
     ·rw [fD h];simp
     ·exact kE _ (ih (fun h2=>hm (kE _ h2)) h))
  cases odd k with
  | true=>
   simp only [aQ];split
   ·cases Nat.beq (Ai sh) 0 with
    | true=>simp only [aQ];rw [aD,if_neg hk,aD,if_neg hk]
    | false=>simp only [bJ];rw [aD,if_neg hk]
   ·rfl
  | false=>
   simp only [bJ]
   cases fZ (get s k) with
   | true=>rfl
   | false=>
    cases Nat.beq (Ai sh) 0 with
    | true=>simp only [aQ,bJ];rw [aD,if_neg hk,aD,if_neg hk]
    | false=>simp only [bJ];rw [aD,if_neg hk]
theorem Wx (R:Rel E C s a w G pt) (M:List Nat) (k:Nat) (sh:Sh):∃ G',Rel E C (Ou M s k sh) a w G' pt:=by
 unfold Ou
 cases hc:((ZP (Ai sh) (get s k) && !(sh.abs (get s k)).isSome)&&mem k M) with
 | false=>exact ⟨G,R⟩
 | true=>
  simp only [aQ];rw [dA,dA] at hc
  rcases Cc k with ⟨hk,i,rfl⟩ | ⟨hk,i,rfl⟩
  ·rw [hk]
   simp only [aQ];split
   ·rename_i st cs hb
    obtain ⟨G',bR,e,hblk,jr,R1,hr⟩:=R.QY i st 0 cs.length hb (by omega)
    rw [Oo] at R1
    cases Nat.beq (Ai sh) 0 with
    | false=>exact ⟨G',R1⟩
    | true=>
     simp only [aQ]
     have:=R1.agh i st (cs:=cs.map bP) (by rw [aD,if_pos rfl]) (fun b nH=>by
      rw [hblk] at nH;simp only [bn] at nH;subst nH;rw [sJ]
      have h2:aP w G' pt (cs.map bP) (aB w bR):=by
       have h3:=hr;simp only [List.drop_zero,List.take_length,Nat.zero_add] at h3;exact h3
      exact h2.view)
     rw [sJ] at this;exact ⟨G',this⟩
   ·exact ⟨G,R⟩
  ·rw [hk]
   simp only [bJ]
   cases wo:fZ (get s (2*i)) with
   | true=>exact ⟨G,R⟩
   | false=>
    simp only [bJ]
    have hu:i<E.n:=by
     rcases Nat.lt_or_ge i E.n with h | h
     ·exact h
     ·have:=hc.1.1
      rw [R.ht i h] at this;cases this
    cases Nat.beq (Ai sh) 0 with
    | true=>exact R.anJ i wo hu
    | false=>
     obtain ⟨G',e,R1,_⟩:=R.Fu i wo;exact ⟨G',R1⟩
theorem yB {M:List Nat}:∀ {pl:Pl} {s:St} {m:Nat},m ∉ M→get (sS M pl s) m=get s m
 | [],_,_,_=>rfl
 | p::r,s,m,h=>by
  unfold sS;rw [yB h,Ww h]
end
section
variable {E:Env} {C:Ctx} {a:Act} {w:World} {pt:Nat→Nat→Option Value}
theorem Ga (M:List Nat):∀ (pl:Pl) {s:St} {G:Nat→Nat},Rel E C s a w G pt→∃ G',Rel E C (sS M pl s) a w G' pt
 | [],_,G,R=>⟨G,R⟩
 | p::r,s,G,R=>by
  obtain ⟨G1,R1⟩:=Wx R M p.1 p.2;exact Ga M r R1
end
theorem mem_iff {k:Nat}:∀ {l:List Nat},mem k l=true↔k∈l
 | []=>by simp [mem]
 | x::r=>by
  simp only [mem,Bool.or_eq_true,List.mem_cons,mem_iff (l:=r)];constructor
  ·rintro (h | h)
   ·exact .inl (fD h)
   ·exact .inr h
  ·rintro (h | h)
   ·subst h;exact .inl (Nat.beq_refl k)
   ·exact .inr h
theorem o8:∀ {a b:List Nat},subset a b=true→∀ k∈a,k∈b
 | [],_,_,k,h=>by simp at h
 | x::r,b,hs,k,h=>by
  simp only [subset,dA] at hs
  rcases lC h with h | h
  ·subst h;exact mem_iff.1 hs.1
  ·exact o8 hs.2 k h
theorem o9:∀ (s:St) (ks:List Nat) (k:Nat),get (strike ks s) k=bif mem k ks then .undef else get s k
 | [],ks,k=>by simp only [strike,get];cases mem k ks<;>rfl
 | (k0,d)::r,ks,k=>by
  simp only [strike]
  cases h0:mem k0 ks with
  | true=>
   simp only [aQ];rw [o9 r ks k,aD]
   by_cases hk:k=k0
   ·subst hk;rw [h0];rfl
   ·rw [if_neg hk]
  | false=>
   simp only [bJ];rw [aD,aD]
   by_cases hk:k=k0
   ·subst hk;rw [if_pos rfl,if_pos rfl,h0];rfl
   ·rw [if_neg hk,if_neg hk,o9 r (k0::ks) k]
    have:mem k (k0::ks)=mem k ks:=by
     simp only [mem,gF];rw [d9 hk,Bool.false_or]
    rw [this]
theorem Cg {s' rest:St}:∀ {pl:Pl} {x:(sK pl).den},JG pl s' = some x→∀ k,get (uf pl x++rest) k=get s' k∨get (uf pl x++rest) k=get rest k
 | [],_,_,k=>.inr rfl
 | p::r,x,h,k=>by
  simp only [JG] at h;split at h
  ·rename_i y z h1 h2
   simp only [bn] at h;subst h;simp only [uf,List.cons_append];rw [aD]
   by_cases hk:k=p.1
   ·subst hk
    rw [if_pos rfl];exact .inl (Sh.qd h1)
   ·rw [if_neg hk]
    exact Cg h2 k
  ·cases h
theorem Al {s0:St}:∀ {s:St},closedIn s0 s=true→∀ k i,i∈refs (get s k)→get s0 (2*i+1)≠.undef
 | [],_,k,i,h=>by simp [get,refs,bW] at h
 | (k0,d)::r,hc,k,i,h=>by
  simp only [closedIn,dA] at hc;rw [aD] at h
  by_cases hk:k=k0
  ·rw [if_pos hk] at h
   have:=List.all_eq_true.1 hc.1 i h;intro hu;rw [hu] at this;simp [jA] at this
  ·rw [if_neg hk] at h
   exact Al hc.2 k i h
section
variable {E:Env} {C:Ctx} {s s':St} {a:Act} {w:World} {G:Nat→Nat} {pt:Nat→Nat→Option Value}
theorem Rel.cut (R:Rel E C s' a w G pt) {base:St} {hp:Bool} {M drop:List Nat} {pl:Pl} {x:(sK pl).den} (gP:C.pin=none∨hp=true)
 (JM:∀ k,k ∉ M++drop→get s' k=get base k) {M':List Nat} (hM:∀ k∈M',k∈M++drop) (hx:qH M' pl s' = some x) (qF:jh hp (uf pl x++strike (M++drop) base)=true) :
 ∃ G' bC,Rel E C (uf pl x++strike (M++drop) base) a w G' bC:=by
 simp only [jh,dA] at qF;obtain ⟨G',RW⟩:=Ga M' pl R
 have JM:∀ k,k ∉ M++drop→get (sS M' pl s') k=get base k:=fun k hk=>(yB (fun h=>hk (hM k h))).trans (JM k hk)
 have hx:JG pl (sS M' pl s')=some x:=hx;refine ⟨G',?_⟩
 refine RW.restrict (fun k=>?_) (fun k i h=>Al qF.1 k i h) ?_
 ·rcases Cg (rest:=strike (M++drop) base) hx k with h | h
  ·exact .inl h
  ·rw [h,o9]
   cases hm:mem k (M++drop) with
   | true=>exact .inr rfl
   | false=>
    refine .inl (JM k fun hk=>?_).symm
    have h2:mem k (M++drop)=true:=mem_iff.2 hk;rw [hm] at h2;cases h2
 ·rcases gP with h | h
  ·exact .inl h
  ·refine .inr fun hu=>?_
   have:=qF.2;rw [h,hu] at this;simp [jA] at this
theorem ZT {base:St} {s':St} {M drop ch0:List Nat} {pl:Pl} {x:(sK pl).den} {M':List Nat} (hM:∀ k∈M',k∈M++drop) (hx:qH M' pl s' = some x) (JM:∀ k,k ∉ M++drop→get s' k=get base k) :
 ∀ k,k ∉ M++drop++ch0→get (uf pl x++strike (M++drop) base) k=get base k:=by
 have JM:∀ k,k ∉ M++drop→get (sS M' pl s') k=get base k:=fun k hk=>(yB (fun h=>hk (hM k h))).trans (JM k hk)
 have hx:JG pl (sS M' pl s')=some x:=hx;intro k hk;simp only [pV,not_or] at hk;obtain ⟨⟨h1,h2⟩,h3⟩:=hk
 rcases Cg (rest:=strike (M++drop) base) hx k with h | h
 ·rw [h]
  exact JM k (by simp [h1,h2])
 ·rw [h,o9]
  have:mem k (M++drop)=false:=by
   cases hm:mem k (M++drop) with
   | false=>rfl
   | true=>
    have:=mem_iff.1 hm;simp only [pV] at this
    exact absurd this (by simp [h1,h2])
  rw [this];rfl
end
theorem wG {hp:Bool} {M M' ch:List Nat} {base s':St} {e:Nat} {r:Lv}:∀ {ws:List Way} {x:(oZ ws).den},qh M' e s' ws=some x→(sU hp M ch base ws x).den=some r →
 ∃ (w:Way) (y:(sK w.pl).den),w∈ws∧w.e=e∧qH M' w.pl s' = some y∧jh hp (F5 M base w y)=true∧r=⟨e,M++w.drop++ch,F5 M base w y⟩
 | [],_,h,_=>by cases h
 | [w],x,h,hr=>by
  simp only [qh] at h
  cases he:Nat.beq e w.e with
  | false=>simp [he] at h
  | true=>
   simp only [he,aQ] at h;have he:=fD he;simp only [sU] at hr
   cases hc:jh hp (F5 M base w x) with
   | false=>rw [hc] at hr;cases hr
   | true=>
    rw [hc] at hr;simp only [aQ,Out.den,bn] at hr
    exact ⟨w,x,by simp,he.symm,h,hc,by rw [←hr,he]⟩
 | w::w'::ws,x,h,hr=>by
  simp only [qh] at h
  cases he:Nat.beq e w.e with
  | true=>
   simp only [he,aQ] at h;have he:=fD he;split at h
   ·rename_i y hy
    simp only [bn] at h;subst h;simp only [sU,Out.den,aQ] at hr
    cases hc:jh hp (F5 M base w y) with
    | false=>rw [hc] at hr;cases hr
    | true=>
     rw [hc] at hr;simp only [aQ,Out.den,bn] at hr
     exact ⟨w,y,by simp,he.symm,hy,hc,by rw [←hr,he]⟩
   ·cases h
  | false=>
   simp only [he,bJ] at h;split at h
   ·rename_i y hy
    simp only [bn] at h;subst h;simp only [sU,Out.den,bJ] at hr;obtain ⟨v,z,h1,h2⟩:=wG hy hr;exact ⟨v,z,kE _ h1,h2⟩
   ·cases h
def OA (P:Program) (E:Env) (C:Ctx) (o:Oper) (a:Act) (w:World) (s':St):Prop:=
 ∀ (K:Act→World→Prop) (Q:Exit→Act→World→Prop),(∀ a' w' G' bC,Rel E C s' a' w' G' bC→K a' w')→o.wp P a w K Q
section
variable {P:Program} {E:Env} {C:Ctx} {s:St} {a:Act} {w:World} {G:Nat→Nat} {pt:Nat→Nat→Option Value} {o:Oper} {u:St}
theorem fB.wp {s':St} (h:fB P E C o a w s'):OA P E C o a w s':=by
 intro K Q hK;obtain ⟨v,w',G',bC,hr,hR⟩:=h;unfold Oper.wp
 rcases hr with hr | ⟨hr,rfl⟩
 ·rw [hr,Oper.upon_value];exact hK _ _ _ _ hR
 ·rw [hr,Oper.upon_skip];exact hK _ _ _ _ hR
def Ux (P:Program) (E:Env) (Γ:Af) (C:Ctx):Prop:=
 ∀ kn o s a w G pt u,Rel E C s a w G pt→(F3 E Γ kn o s).den=some u→OA P E C o a w (au u s)
theorem bq:∀ (u s:St) (k:Nat),k ∉ aH u→get (au u s) k=get s k
 | [],_,_,_=>rfl
 | (k0,d)::r,s,k,h=>by
  simp only [aH,List.mem_cons,not_or] at h;show get (au r ((k0,d)::s)) k=_;rw [bq r _ k h.2,aD,if_neg h.1]
theorem mU {a b:Bool} (h:j5 a b=true):a=b:=by cases a<;>cases b<;>first | rfl | cases h
theorem LK {a b:Bool} (h:j5 a b=false):a=LG b:=by cases a<;>cases b<;>first | rfl | cases h
theorem LM (b:Bool):LG b≠b:=by cases b<;>simp [LG]
theorem OB (R:Rel E C s a w G pt) {ops:Array Oper} {j t:Nat} {b:Bool} (hj:Dq ops.toList j=some t) (hb:get s (2*t) = .bool b):yielded ops a.tmps j=some b:=by
 unfold Dq at hj;have hv:=R.tm t;rw [hb] at hv;have hv:a.tmps.getD t undef = .bool b:=hv
 have Wy:a.tmps[t]? = some (.bool b):=by
  rw [xE] at hv
  cases h:a.tmps[t]? with
  | none=>rw [h] at hv;simp [undef] at hv
  | some x=>rw [h] at hv;simpa using hv
 simp only [Array.getElem?_toList] at hj;unfold yielded
 cases ho:ops[j]? with
 | none=>rw [ho] at hj;cases hj
 | some o=>
  rw [ho] at hj;simp only at hj;simp [hj,Wy]
theorem Rel.told (R:Rel E C s a w G pt) {t:Nat} {b:Bool} (hb:get s (2*t) = .bool b):Rel E C ((2*t,.bool b)::s) a w G pt:=
 R.congr fun k=>by
  rw [aD]
  by_cases hk:k=2*t
  ·rw [if_pos hk,hk,hb]
  ·rw [if_neg hk]
theorem Rel.skipped (R:Rel E C s a w G pt) (hd:fE E o=true):Rel E C (au (iP o) s) (a.put o.dst undef) w G pt:=
 R.Fq o (fun t ht=>by simpa [fE,ht,Nat.blt_eq] using hd) (d:=.iJ []) ⟨#[],rfl,rfl,fun j h=>absurd h (Nat.not_lt_zero j)⟩ (fun b=>rfl)
theorem Gb (R:Rel E C s a w G pt) {ops:Array Oper} {j t:Nat} (hj:Dq ops.toList j=some t) (hb:get s (2*t) = .iJ []):yielded ops a.tmps j=none:=by
 unfold Dq at hj;have hv:=R.tm t;rw [hb] at hv;obtain ⟨arr,hv,eU,_⟩:=hv
 have Wy:a.tmps[t]? = none∨a.tmps[t]? = some (.tuple arr):=by
  rw [xE] at hv
  cases h:a.tmps[t]? with
  | none=>exact .inl rfl
  | some x=>rw [h] at hv;right;simpa using hv
 simp only [Array.getElem?_toList] at hj;unfold yielded
 cases ho:ops[j]? with
 | none=>rw [ho] at hj;cases hj
 | some o=>
  rw [ho] at hj;simp only at hj
  rcases Wy with Wy | Wy<;>simp [hj,Wy]
theorem oz {s0 s u:St} {ch:List Nat} (h:∀ k,k ∉ ch→get s k=get s0 k):∀ k,k ∉ aH u++ch→get (au u s) k=get s0 k:=by
 intro k hk;simp only [pV,not_or] at hk;rw [bq u s k hk.1];exact h k hk.2
theorem JN {s0 s:St} {ch:List Nat} {k0:Nat} {d:D} (h:∀ k,k ∉ ch→get s k=get s0 k):∀ k,k ∉ k0::ch→get ((k0,d)::s) k=get s0 k:=by
 intro k hk;simp only [List.mem_cons,not_or] at hk;rw [aD,if_neg hk.1];exact h k hk.2
theorem yC (E:Env) (Γ:Af) (all:List Oper) (s0:St):∀ (l:List Oper) (kn:Kn) (ch:List Nat) (s:St) (r:Lv),
 (∀ k,k ∉ ch→get s k=get s0 k)→(lH E Γ all l kn ch s).den=some r→r.e=0∧∀ k,k ∉ r.ch→get r.s k=get s0 k
 | [],kn,ch,s,r,JM,h=>by
  simp only [lH,Out.den,bn] at h;subst h;exact ⟨rfl,JM⟩
 | o::l,kn,ch,s,r,JM,h=>by
  have IH:=yC E Γ all s0 l;simp only [lH] at h;split at h
  ·obtain ⟨u,_,h2⟩:=bind_some h
   exact IH _ _ _ r (oz JM) h2
  ·rename_i j want hg
   split at h
   ·cases h
   ·rename_i t ht
    split at h
    ·rename_i b hb
     split at h
     ·rename_i c hc
      cases Yz:j5 b c with
      | false=>rw [Yz] at h;cases h
      | true=>
       rw [Yz] at h;simp only [aQ] at h
       cases hcw:j5 c want with
       | true=>
        rw [hcw] at h;simp only [aQ] at h;obtain ⟨u,_,h2⟩:=bind_some h;exact IH _ _ _ r (oz JM) h2
       | false=>
        rw [hcw] at h;simp only [bJ] at h
        cases hd:fE E o with
        | false=>rw [hd] at h;cases h
        | true=>
         rw [hd] at h;exact IH _ _ _ r (oz JM) h
     ·cases hd:fE E o with
      | false=>rw [hd] at h;cases h
      | true=>
       rw [hd] at h;simp only [aQ,Out.den] at h
       cases hbw:j5 b want with
       | true=>
        rw [hbw] at h;simp only [aQ] at h;obtain ⟨u,_,h2⟩:=bind_some h;exact IH _ _ _ r (oz (JN JM)) h2
       | false=>
        rw [hbw] at h;exact IH _ _ _ r (oz (JN JM)) h
    ·cases hd:fE E o with
     | false=>rw [hd] at h;cases h
     | true=>
      rw [hd] at h;exact IH _ _ _ r (oz JM) h
    ·cases h
theorem ad8 (E:Env) (Γ:Af) (all:List Oper) (l:List Oper) (kn:Kn) (ch:List Nat) (s:St) (r:Lv) (h:(lH E Γ all l kn ch s).den=some r):r.e=0:=by
 -- every place may have aug
 exact (yC E Γ all s l kn ch s r (fun _ _=>rfl) h).1
theorem Gc {Γ:Af} {ops:Array Oper} {Q:Exit→Act→World→Prop} (H:Ux P E Γ C):∀ (l:List Oper) (i:Nat) (kn:Kn) (ch:List Nat) (s:St) (a:Act) (w:World) (G:Nat→Nat) (pt:Nat→Nat→Option Value) (r:Lv),
 ops.toList.drop i=l→Rel E C s a w G pt→(lH E Γ ops.toList l kn ch s).den=some r →
 (∀ a' w' G' bC,Rel E C r.s a' w' G' bC→Q .normal a' w')→wpOps P ops Q (List.range' i l.length) a w
 | [],i,kn,ch,s,a,w,G,pt,r,_,R,h,hQ=>by
  simp only [lH,Out.den,bn] at h;subst h;exact hQ _ _ _ _ R
 | o::l,i,kn,ch,s,a,w,G,pt,r,hl,R,h,hQ=>by
  have hi:ops[i]? = some o:=by
   have:(ops.toList.drop i)[0]? = some o:=by rw [hl];rfl
   rw [List.getElem?_drop] at this
   simpa using this
  have Yr:ops.toList.drop (i+1)=l:=by
   rw [←List.drop_drop,hl];rfl
  have anK:List.range' i (o::l).length=i::List.range' (i+1) l.length:=by
   simp [List.range'_succ]
  rw [anK];simp only [wpOps,hi]
  -- the operation is run
  have run:∀ (OC:Kn) (ch1:List Nat) (s1:St) (ZU:Kn),Region.wanted o (yielded ops a.tmps)=true→Rel E C s1 a w G pt →
   ((F3 E Γ OC o s1).bind fun u=>lH E Γ ops.toList l ZU (aH u++ch1) (au u s1)).den=some r →
   (if Region.wanted o (yielded ops a.tmps) then o.wp P a w (wpOps P ops Q (List.range' (i+1) l.length)) Q∨(o.asks P a w∧LetsOut Q)
    else wpOps P ops Q (List.range' (i+1) l.length) (a.put o.dst undef) w):=by
   intro OC ch1 s1 ZU hw R1 hb;obtain ⟨u,h1,h2⟩:=bind_some hb;rw [hw,if_pos rfl]
   exact .inl (H OC o s1 a w G pt u R1 h1 _ _ fun a' w' G' bC R'=>Gc H l (i+1) _ _ _ a' w' G' bC r Yr R' h2 hQ)
  have skip:∀ (ch1:List Nat) (s1:St) (ZU:Kn),Region.wanted o (yielded ops a.tmps)=false→Rel E C s1 a w G pt→fE E o=true →
   (lH E Γ ops.toList l ZU ch1 (au (iP o) s1)).den=some r →
   (if Region.wanted o (yielded ops a.tmps) then o.wp P a w (wpOps P ops Q (List.range' (i+1) l.length)) Q∨(o.asks P a w∧LetsOut Q)
    else wpOps P ops Q (List.range' (i+1) l.length) (a.put o.dst undef) w):=by
   intro ch1 s1 ZU hw R1 hd hb;rw [hw];simp only [xD,if_false];exact Gc H l (i+1) _ _ _ _ w G pt r Yr (R1.skipped hd) hb hQ
  simp only [lH] at h;split at h
  ·rename_i hg
   exact run _ _ _ _ (by simp [Region.wanted,hg]) R h
  ·rename_i j want hg
   split at h
   ·cases h
   ·rename_i t ht
    split at h
    ·rename_i b hb
     have hy:=OB R ht hb
     have ZV:Region.wanted o (yielded ops a.tmps)=decide (b=want):=by
      simp only [Region.wanted,hg,hy]
      cases b<;>cases want<;>rfl
     split at h
     ·rename_i c hc
      cases Yz:j5 b c with
      | false=>rw [Yz] at h;cases h
      | true=>
       rw [Yz] at h;simp only [aQ] at h;have Yz:=mU Yz;subst Yz
       cases hcw:j5 b want with
       | true=>
        rw [hcw] at h;have:=mU hcw
        exact run _ _ _ _ (by rw [ZV];exact bL this) R h
       | false=>
        rw [hcw] at h;have fC:=LK hcw;simp only [bJ] at h
        cases hd:fE E o with
        | false=>rw [hd] at h;cases h
        | true=>
         rw [hd] at h
         exact skip _ _ _ (by rw [ZV,fC];exact d9 (LM _)) R hd h
     ·cases hd:fE E o with
      | false=>rw [hd] at h;cases h
      | true=>
       rw [hd] at h;simp only [aQ,Out.den] at h
       cases hbw:j5 b want with
       | true=>
        rw [hbw] at h;have:=mU hbw;subst this
        exact run _ _ _ _ (by rw [ZV];exact bL rfl) (R.told hb) h
       | false=>
        rw [hbw] at h;have fC:=LK hbw;subst fC
        exact skip _ _ _ (by rw [ZV];exact d9 (LM _)) (R.told hb) hd h
    ·rename_i hb
     have hy:=Gb R ht hb
     have ZV:Region.wanted o (yielded ops a.tmps)=false:=by
      simp only [Region.wanted,hg,hy]
      cases want<;>rfl
     cases hd:fE E o with
     | false=>rw [hd] at h;cases h
     | true=>
      rw [hd] at h;exact skip _ _ _ ZV R hd h
    ·cases h
end
theorem oC {τ ε:Type} {step:τ→Option (Sum τ ε)} {v:τ} {e:ε} (h:Loop step v=some e):∃ n,wF step n v=some e:=by
 unfold Loop at h;split at h
 ·rename_i hx;exact ⟨_,h⟩
 ·cases h
theorem Gd {τ ε:Type} {step:τ→Option (Sum τ ε)}:∀ {n m:Nat} {v:τ} {e:ε},wF step n v=some e→n≤m→wF step m v=some e
 | 0,_,_,_,h,_=>by cases h
 | n+1,0,_,_,_,hm=>by omega
 | n+1,m+1,v,e,h,hm=>by
  simp only [wF] at h ⊢;split at h
  ·rename_i v' hv;exact Gd h (by omega)
  ·exact h
  ·cases h
theorem Am {τ ε:Type} {step:τ→Option (Sum τ ε)} {v:τ} {e:ε} {n:Nat} (h:wF step n v=some e):Loop step v=some e:=by
 have hx:∃ n,(wF step n v).isSome=true:=⟨n,by rw [h];rfl⟩
 unfold Loop;rw [dif_pos hx];obtain ⟨e',ZW⟩:=Option.isSome_iff_exists.1 hx.choose_spec;rw [ZW];have h1:=Gd h (Nat.le_max_left n hx.choose);have h2:=Gd ZW (Nat.le_max_right n hx.choose);rw [h1] at h2;exact h2.symm
theorem dY {τ ε:Type} {step:τ→Option (Sum τ ε)} {v:τ}:Loop step v=(match step v with
 | some (.inl v')=>Loop step v'
 | some (.inr e)=>some e
 | none=>none):=by
 cases hs:step v with
 | none=>
  cases hl:Loop step v with
  | none=>rfl
  | some e=>
   obtain ⟨n,hn⟩:=oC hl
   cases n with
   | zero=>cases hn
   | succ n=>simp only [wF,hs] at hn;cases hn
 | some r=>
  cases r with
  | inr e=>exact Am (n:=1) (by simp only [wF,hs])
  | inl v'=>
   show Loop step v=Loop step v'
   cases hl:Loop step v' with
   | some e=>
    obtain ⟨n,hn⟩:=oC hl
    exact Am (n:=n+1) (by simp only [wF,hs];exact hn)
   | none=>
    cases D5:Loop step v with
    | none=>rfl
    | some e=>
     obtain ⟨n,hn⟩:=oC D5
     cases n with
     | zero=>cases hn
     | succ n=>
      simp only [wF,hs] at hn;rw [Am hn] at hl;cases hl
def Ci (P:Program) (c:Code) (Q:Exit→Act→World→Prop) (a:Act) (w:World):Prop:=
 ∀ (b:Frame) (k:List Item) (cs:List Frame),∃ e a' w',Q e a' w'∧Arrives P (lone (b.at a (.inLoop c::k)) cs w) b k cs e a' w'
theorem Ao {P:Program} {c:Code} {Q:Exit→Act→World→Prop} {a:Act} {w:World} (h:c.wp P (Exit.then (Ci P c Q) Q) a w) :
 ∀ (b:Frame) (k:List Item) (cs:List Frame),∃ e a' w',Q e a' w'∧Arrives P (lone (b.at a (.code c::.inLoop c::k)) cs w) b k cs e a' w':=by
 intro b k cs;obtain ⟨e,a₁,w₁,hq,Iy⟩:=h b (.inLoop c::k) cs
 cases e with
 | normal=>
  obtain ⟨e₂,a₂,w₂,hq₂,harr₂⟩:=hq b k cs;exact ⟨e₂,a₂,w₂,hq₂,.of_steps Iy harr₂⟩
 | exit id=>exact ⟨_,a₁,w₁,hq,.pass (x:=.inLoop c) rfl (fun _ _=>.inl (by simp)) Iy⟩
 | goto l=>exact ⟨_,a₁,w₁,hq,.pass (x:=.inLoop c) rfl (fun _ _=>.inl (by simp)) Iy⟩
 | ret=>exact ⟨_,a₁,w₁,hq,.pass (x:=.inLoop c) rfl (fun _ _=>.inl (by simp)) Iy⟩
 | panic ch=>exact ⟨_,a₁,w₁,hq,.pass (x:=.inLoop c) rfl (fun _ _=>.inl (by simp)) Iy⟩
 | outgrown=>exact ⟨_,a₁,w₁,hq,.pass (x:=.inLoop c) rfl (fun _ _=>.inl (by simp)) Iy⟩
theorem Du {P:Program} {c:Code} {Q:Exit→Act→World→Prop} {a:Act} {w:World} (h:c.wp P (Exit.then (Ci P c Q) Q) a w):(Code.loop c).wp P Q a w:=
 fun b k cs=>let ⟨e,a',w',hq,Iy⟩:=Ao h b k cs
  ⟨e,a',w',hq,.of_steps (.one step_loop) Iy⟩
theorem Dv {P:Program} {c:Code} {Q:Exit→Act→World→Prop} {a:Act} {w:World} (h:c.wp P (Exit.then (Ci P c Q) Q) a w):Ci P c Q a w:=
 fun b k cs=>let ⟨e,a',w',hq,Iy⟩:=Ao h b k cs
  ⟨e,a',w',hq,.of_steps (.one step_inLoop) Iy⟩
def OD:Nat→Exit
 | 0=>.normal
 | 1=>.ret
 | n+2=>.exit n
def Post (E:Env) (C:Ctx) (r:Lv):Exit→Act→World→Prop:=
 fun x a w=>x=OD r.e∧∃ G pt,Rel E C r.s a w G pt
def Stat (s:St) (ch:List Nat) (r:Lv):Prop:=
 ∀ s0,(∀ k,k ∉ ch→get s k=get s0 k)→∀ k,k ∉ r.ch→get r.s k=get s0 k
def Uy (P:Program) (E:Env) (Γ:Af) (C:Ctx):Prop:=
 ∀ (id:Nat) (ops:Array Oper) ch s r,(fI E Γ ops.toList ops.toList [] [] ch s).den=some r→Stat s ch r ∧
  ∀ a w G pt,Rel E C s a w G pt→(Code.region id ops true).wp P (Post E C r) a w
section
variable {P:Program} {E:Env} {C:Ctx} {s:St} {a:Act} {w:World} {G:Nat→Nat} {pt:Nat→Nat→Option Value}
theorem anM {r:Lv} {M drop:List Nat} (hs:subset r.ch M=true) (H:Stat s [] r):∀ k,k ∉ M++drop→get r.s k=get s k:=
 fun k hk=>H s (fun _ _=>rfl) k fun h=>hk (List.mem_append.2 (.inl (o8 hs k h)))
theorem OE {M drop ch:List Nat} {base s':St} {pl:Pl} {x:(sK pl).den} {M':List Nat} (hM:∀ k∈M',k∈M++drop) (hx:qH M' pl s' = some x) (JM:∀ k,k ∉ M++drop→get s' k=get base k) (e:Nat) :
 Stat base ch ⟨e,M++drop++ch,uf pl x++strike (M++drop) base⟩:=by
 intro s0 h0 k hk;rw [ZT (ch0:=ch) hM hx JM k hk]
 refine h0 k fun hc=>hk ?_
 exact List.mem_append.2 (.inr hc)
theorem rH {hp:Bool} {p:Plan} {ch:List Nat} {run:List Nat→Out Lv} {r:Lv} (H:∀ ch r,(run ch).den=some r→Stat s ch r) (h:(wrap hp p ch s run).den=some r):Stat s ch r:=by
 unfold wrap at h;split at h
 ·rename_i M ws q
  obtain ⟨x,hx,h⟩:=rG h;obtain ⟨r',h1,h2⟩:=jw hx;simp only [ZQ] at h2
  cases hs:subset r'.ch M with
  | false=>rw [hs] at h2;cases h2
  | true=>
   rw [hs] at h2;obtain ⟨v,y,_,_,hy,_,rfl⟩:=wG h2 h
   exact OE (fun k h=>List.mem_append.2 (.inl h)) hy (anM hs (H [] r' h1)) _
 ·exact H ch r h
theorem Ap {c:Code} {p:Plan} {ch:List Nat} {run:List Nat→Out Lv} {r:Lv} (gP:C.pin=none∨E.hp=true) (H:∀ ch r,(run ch).den=some r→Stat s ch r)
 (H2:∀ ch r,(run ch).den=some r→c.wp P (Post E C r) a w) (h:(wrap E.hp p ch s run).den=some r):c.wp P (Post E C r) a w:=by
 unfold wrap at h;split at h
 ·rename_i M ws q
  obtain ⟨x,hx,h⟩:=rG h;obtain ⟨r',h1,h2⟩:=jw hx;simp only [ZQ] at h2
  cases hs:subset r'.ch M with
  | false=>rw [hs] at h2;cases h2
  | true=>
   rw [hs] at h2;obtain ⟨v,y,_,_,hy,hc,rfl⟩:=wG h2 h
   refine wp_mono (H2 [] r' h1) fun e a' w' nk=>?_
   obtain ⟨he,G',bC,R'⟩:=nk
   obtain ⟨G2,kY,R2⟩:=R'.cut gP (anM hs (H [] r' h1)) (fun k h=>List.mem_append.2 (.inl h)) hy hc
   exact ⟨he,G2,kY,R2⟩
 ·exact H2 ch r h
theorem JO {rest:St}:∀ {pl:Pl} {x:(sK pl).den} {k:Nat},k ∉ yw pl→get (uf pl x++rest) k=get rest k
 | [],_,_,_=>rfl
 | p::r,x,k,h=>by
  simp only [yw,List.mem_cons,not_or] at h;simp only [uf,List.cons_append];rw [aD,if_neg h.1];exact JO h.2
theorem OG {M drop:List Nat} {pl:Pl} {v:(sK pl).den} (lF:subset (yw pl) M=true) {k:Nat} (hk:k ∉ M++drop):get (mh M pl drop s v) k=get s k:=by
 unfold mh
 have h1:k ∉ yw pl:=fun h=>hk (List.mem_append.2 (.inl (o8 lF k h)))
 rw [JO h1,o9]
 cases hm:mem k (M++drop) with
 | false=>rfl
 | true=>exact absurd (mem_iff.1 hm) hk
theorem Gf {hp:Bool} {M drop:List Nat} {pl:Pl} {ws:List Way} {r:Lv} {y:Sum (sK pl).den (oZ ws).den} (h:Uu hp M pl drop s ws r=some y) :
 subset r.ch M=true∧((∃ v,y = .inl v∧r.e=0∧qH M pl r.s=some v∧jh hp (mh M pl drop s v)=true)∨(∃ x,y = .inr x∧r.e≠0∧qh M r.e r.s ws=some x)):=by
 unfold Uu at h
 cases hs:subset r.ch M with
 | false=>rw [hs] at h;cases h
 | true=>
  rw [hs] at h;simp only [aQ] at h;refine ⟨rfl,?_⟩
  cases he:Nat.beq r.e 0 with
  | true=>
   rw [he] at h;simp only [aQ] at h;split at h
   ·rename_i v hv
    cases hc:jh hp (mh M pl drop s v) with
    | false=>rw [hc] at h;cases h
    | true=>
     rw [hc] at h;simp only [aQ,bn] at h;exact .inl ⟨v,h.symm,fD he,hv,hc⟩
   ·cases h
  | false=>
   rw [he] at h;simp only [bJ] at h;split at h
   ·rename_i x hx
    simp only [bn] at h
    refine .inr ⟨x,h.symm,fun h0=>?_,hx⟩
    rw [h0] at he;cases he
   ·cases h
theorem ad9 {c:Code} {M drop ch:List Nat} {pl:Pl} {ws:List Way} {body:St→Out Lv} {r:Lv} (gP:C.pin=none∨E.hp=true)
 (yj:∀ s r,(body s).den=some r→Stat s [] r) (hbo:∀ s a w G pt r,Rel E C s a w G pt→(body s).den=some r→c.wp P (Post E C r) a w)
 (h:(Uv (fun _ _=>Loop) E.hp M pl drop ws ch s body).den=some r):Stat s ch r∧∀ a w G pt,Rel E C s a w G pt→(Code.loop c).wp P (Post E C r) a w:=by
 unfold Uv at h
 cases lF:subset (yw pl) M with
 | false=>rw [lF] at h;cases h
 | true=>
  rw [lF] at h;simp only [aQ] at h;split at h
  ·rename_i v0 Uz
   cases FB:jh E.hp (mh M pl drop s v0) with
   | false=>rw [FB] at h;cases h
   | true=>
    rw [FB] at h;simp only [aQ] at h;obtain ⟨x,hx,h⟩:=rG h;obtain ⟨n,hn⟩:=oC hx
    have key:∀ n v,wF (fun v=>((body (mh M pl drop s v)).oV (Uu E.hp M pl drop s ws)).den) n v=some x →
     (∀ a w G pt,Rel E C (mh M pl drop s v) a w G pt→c.wp P (Exit.then (Ci P c (Post E C r)) (Post E C r)) a w)∧Stat s ch r:=by
     intro n
     induction n with
     | zero=>intro v h;cases h
     | succ n ih=>
      intro v hv;simp only [wF] at hv;split at hv
      ·rename_i v' gG
       obtain ⟨r1,h1,h2⟩:=jw gG;obtain ⟨Yt,h3⟩:=Gf h2
       obtain ⟨v2,e2,he,hp,qF⟩:∃ v2,(Sum.inl v':Sum _ (oZ ws).den) = .inl v2∧r1.e=0∧qH M pl r1.s=some v2∧jh E.hp (mh M pl drop s v2)=true:=by
        rcases h3 with h3 | ⟨x',zU,_⟩
        ·exact h3
        ·cases zU
       cases e2;obtain ⟨k1,k2⟩:=ih v' hv
       refine ⟨fun a w G pt R1=>wp_mono (hbo _ a w G pt r1 R1 h1) fun e a' w' nk=>?_,k2⟩
       obtain ⟨ZW,G',bC,R'⟩:=nk;rw [he] at ZW;subst ZW
       obtain ⟨G2,kY,R2⟩:=R'.cut (base:=s) (M:=M) (drop:=drop) gP (fun k hk=>by
        rw [yj _ r1 h1 (mh M pl drop s v) (fun _ _=>rfl) k (fun lX=>hk (List.mem_append.2 (.inl (o8 Yt k lX))))]
        exact OG lF hk) (fun k h=>List.mem_append.2 (.inl h)) hp qF
       exact Dv (k1 a' w' G2 kY R2)
      ·rename_i x' gG
       simp only [bn] at hv;subst hv;obtain ⟨r1,h1,h2⟩:=jw gG;obtain ⟨Yt,h3⟩:=Gf h2
       obtain ⟨x2,e2,he,hw⟩:∃ x2,(Sum.inr x':Sum (sK pl).den _) = .inr x2∧r1.e≠0∧qh M r1.e r1.s ws=some x2:=by
        rcases h3 with ⟨v2,Ll,_⟩ | h3
        ·cases Ll
        ·exact h3
       cases e2;obtain ⟨wy,y,_,_,hy,qF,rfl⟩:=wG hw h
       have hk:∀ k,k ∉ M++drop++wy.drop→get r1.s k=get s k:=by
        intro k hk;simp only [pV,not_or] at hk
        rw [yj _ r1 h1 (mh M pl drop s v) (fun _ _=>rfl) k (fun lX=>hk.1.1 (o8 Yt k lX))]
        exact OG lF (by simp [hk.1.1,hk.1.2])
       refine ⟨fun a w G pt R1=>wp_mono (hbo _ a w G pt r1 R1 h1) fun e a' w' nk=>?_,OE (fun k h=>by simp [h]) hy hk _⟩
       obtain ⟨ZW,G',bC,R'⟩:=nk
       obtain ⟨G2,kY,R2⟩:=R'.cut (base:=s) (M:=M++drop) (drop:=wy.drop) gP hk (fun k h=>by simp [h]) hy qF
       have Dw:Post E C ⟨r1.e,M++drop++wy.drop++ch,F5 (M++drop) s wy y⟩ e a' w':=⟨ZW,G2,kY,R2⟩
       cases e with
       | normal=>
        match Dj:r1.e,he with
        | 0,h0=>exact absurd rfl h0
        | 1,_=>rw [Dj] at ZW;cases ZW
        | n+2,_=>rw [Dj] at ZW;cases ZW
       | _=>exact Dw
      ·cases hv
    obtain ⟨k1,k2⟩:=key n v0 hn
    refine ⟨k2,fun a w G pt R=>?_⟩
    obtain ⟨G0,pt0,R0⟩:=R.cut (base:=s) (M:=M) (drop:=drop) gP (fun _ _=>rfl) (fun k h=>List.mem_append.2 (.inl h)) Uz FB
    exact Du (k1 a w G0 pt0 R0)
  ·cases h
theorem jL {R S:Type} {f:R→Out S} {o:Out R} {y:S} (h:(o.bind f).den=some y):∃ r,o.den=some r∧(f r).den=some y:=by
 rw [rF] at h
 cases ho:o.den with
 | none=>rw [ho] at h;cases h
 | some r=>rw [ho] at h;exact ⟨r,rfl,h⟩
theorem Wz {n:Nat} {p:Plan} {ch:List Nat} {s:St} {r:Lv} {run:List Nat→St→Out Lv} (H:∀ ch s r,(run ch s).den=some r→Stat s ch r)
 (h:(JJ n p ch s run).den=some r):Stat s ch r:=by
 unfold JJ at h;split at h
 ·rename_i l
  refine o7 (fun o:Out Lv=>o.den=some r→Stat s ch r) (fun Rq s'=>∀ s0,(∀ k,k ∉ ch→get s k=get s0 k)→∀ k,k ∉ Rq→get s' k=get s0 k)
   (fun Rq s' k j X hI s0 h0 m hm=>?_) l ch s _ (fun s0 h0=>h0) (fun Rq s' hI h=>?_) h
  ·simp only [pV,not_or] at hm
   rw [mR _ _ _ hm.1];exact hI s0 h0 m hm.2
  ·obtain ⟨r1,h1,h2⟩:=jL h
   have h3:uY l r1=r:=by simpa [Out.den] using h2
   subst h3
   exact fun s0 h0=>yA l r1 s0 (H Rq s' r1 h1 s0 (hI s0 h0))
 ·rename_i l
  refine o7 (fun o:Out Lv=>o.den=some r→Stat s ch r) (fun Rq s'=>∀ s0,(∀ k,k ∉ ch→get s k=get s0 k)→∀ k,k ∉ Rq→get s' k=get s0 k)
   (fun Rq s' k j X hI s0 h0 m hm=>?_) l ch s _ (fun s0 h0=>h0) (fun Rq s' hI h=>?_) h
  ·simp only [pV,not_or] at hm
   rw [mR _ _ _ hm.1];exact hI s0 h0 m hm.2
  ·exact fun s0 h0=>H Rq s' r h s0 (hI s0 h0)
 ·rename_i l
  obtain ⟨r1,h1,h2⟩:=jL h
  have h3:uY l r1=r:=by simpa [Out.den] using h2
  subst h3
  exact fun s0 h0=>yA l r1 s0 (H ch s r1 h1 s0 h0)
 ·exact H ch s r h
theorem ZX {c:Code} {p:Plan} {ch:List Nat} {s:St} {r:Lv} {run:List Nat→St→Out Lv} {a:Act} {w:World} {G:Nat→Nat} {pt:Nat→Nat→Option Value} (hm:E.n≤C.m)
 (H:∀ ch s r,(run ch s).den=some r→∀ a w G pt,Rel E C s a w G pt→c.wp P (Post E C r) a w)
 (h:(JJ E.n p ch s run).den=some r) (R:Rel E C s a w G pt):c.wp P (Post E C r) a w:=by
 unfold JJ at h;split at h
 ·rename_i l
  refine o7 (fun o:Out Lv=>o.den=some r→c.wp P (Post E C r) a w) (fun _ s'=>∃ G' bC,Rel E C s' a w G' bC)
   (fun Rq s' k j X hI=>?_) l ch s _ ⟨G,pt,R⟩ (fun Rq s' hI h=>?_) h
  ·obtain ⟨G',bC,R'⟩:=hI
   exact R'.Ag hm k j X
  ·obtain ⟨r1,h1,h2⟩:=jL h
   have h3:uY l r1=r:=by simpa [Out.den] using h2
   subst h3;obtain ⟨G1,bC,R'⟩:=hI
   refine wp_mono (H Rq s' r1 h1 a w G1 bC R') fun e a' w' nk=>?_
   obtain ⟨he,G',kY,R2⟩:=nk
   exact ⟨by rw [LJ];exact he,G',kY,Ce l r1 a' w' G' kY R2⟩
 ·rename_i l
  refine o7 (fun o:Out Lv=>o.den=some r→c.wp P (Post E C r) a w) (fun _ s'=>∃ G' bC,Rel E C s' a w G' bC)
   (fun Rq s' k j X hI=>?_) l ch s _ ⟨G,pt,R⟩ (fun Rq s' hI h=>?_) h
  ·obtain ⟨G',bC,R'⟩:=hI
   exact R'.Ag hm k j X
  ·obtain ⟨G1,bC,R'⟩:=hI
   exact H Rq s' r h a w G1 bC R'
 ·rename_i l
  obtain ⟨r1,h1,h2⟩:=jL h
  have h3:uY l r1=r:=by simpa [Out.den] using h2
  subst h3
  refine wp_mono (H ch s r1 h1 a w G pt R) fun e a' w' nk=>?_
  obtain ⟨he,G',kY,R2⟩:=nk
  exact ⟨by rw [LJ];exact he,G',kY,Ce l r1 a' w' G' kY R2⟩
 ·exact H ch s r h a w G pt R
theorem JQ {c:Code} {run:List Nat→St→Out Lv} (H1:∀ ch s r,(run ch s).den=some r→Stat s ch r)
 (H2:∀ ch s r,(run ch s).den=some r→∀ a w G pt,Rel E C s a w G pt→c.wp P (Post E C r) a w) :
 ∀ (n:Nat) (ch:List Nat) (s:St) (r:Lv),(Ah run n ch s).den=some r→Stat s ch r∧∀ a w G pt,Rel E C s a w G pt→c.wp P (Exit.then (Ci P c (Post E C r)) (Post E C r)) a w
 | 0,ch,s,r,h=>by cases h
 | n+1,ch,s,r,h=>by
  simp only [Ah] at h;obtain ⟨r1,h1,h2⟩:=jL h
  cases he:Nat.beq r1.e 0 with
  | true=>
   rw [he] at h2;simp only [aQ] at h2;obtain ⟨k1,k2⟩:=JQ H1 H2 n r1.ch r1.s r h2
   refine ⟨fun s0 h0=>k1 s0 (H1 ch s r1 h1 s0 h0),fun a w G pt R=>wp_mono (H2 ch s r1 h1 a w G pt R) fun e a' w' hp=>?_⟩
   obtain ⟨rfl,G',bC,R'⟩:=hp;have he:=fD he;rw [he];exact Dv (k2 a' w' G' bC R')
  | false=>
   rw [he] at h2;simp only [bJ,Out.den,bn] at h2;subst h2
   refine ⟨H1 ch s r1 h1,fun a w G pt R=>wp_mono (H2 ch s r1 h1 a w G pt R) fun e a' w' hp=>?_⟩
   have Dw:=hp;obtain ⟨rfl,G',bC,R'⟩:=hp
   match Dj:r1.e with
   | 0=>rw [Dj] at he;simp [gF] at he
   | 1=>rw [Dj] at Dw;exact Dw
   | n+2=>rw [Dj] at Dw;exact Dw
theorem kZ {Γ:Af} (hm:E.n≤C.m) (gP:C.pin=none∨E.hp=true) (H:Ux P E Γ C) (D:Uy P E Γ C):∀ (c:Code) (p:Plan) (ch:List Nat) (s:St) (r:Lv),
 (ev (fun _ _=>Loop) E Γ c p ch s).den=some r→Stat s ch r∧∀ a w G pt,Rel E C s a w G pt→c.wp P (Post E C r) a w
 | .skip,p,ch,s,r,h=>by
  simp only [ev,Out.den,bn] at h;subst h
  exact ⟨fun _ h=>h,fun a w G pt R=>wp_skip ⟨rfl,G,pt,R⟩⟩
 | .ret,p,ch,s,r,h=>by
  simp only [ev,Out.den,bn] at h;subst h
  exact ⟨fun _ h=>h,fun a w G pt R=>wp_ret ⟨rfl,G,pt,R⟩⟩
 | .exit id,p,ch,s,r,h=>by
  simp only [ev,Out.den,bn] at h;subst h
  exact ⟨fun _ h=>h,fun a w G pt R=>wp_exit ⟨rfl,G,pt,R⟩⟩
 | .region id ops draw,p,ch,s,r,h=>by
  simp only [ev] at h
  have HS0:∀ ch s r,(bif draw then fI E Γ ops.toList ops.toList [] [] ch s else lH E Γ ops.toList ops.toList [] ch s).den=some r→Stat s ch r:=by
   intro ch s r h
   cases draw with
   | true=>exact (D id ops ch s r h).1
   | false=>exact fun s0 h0=>(yC E Γ ops.toList s0 ops.toList [] ch s r h0 h).2
  have HR0:∀ ch s r,(bif draw then fI E Γ ops.toList ops.toList [] [] ch s else lH E Γ ops.toList ops.toList [] ch s).den=some r →
   ∀ a w G pt,Rel E C s a w G pt→(Code.region id ops draw).wp P (Post E C r) a w:=by
   intro ch s r h a w G pt R
   cases draw with
   | true=>exact (D id ops ch s r h).2 a w G pt R
   | false=>
    refine wp_region ?_;have h0:r.e=0:=ad8 E Γ ops.toList ops.toList [] ch s r h
    have:=Gc (Q:=Post E C r) H ops.toList 0 [] ch s a w G pt r rfl R h (fun a' w' G' bC R'=>⟨by rw [h0];rfl,G',bC,R'⟩)
    rw [List.range_eq_range']
    simpa using this
  have HS:∀ ch r,(JJ E.n p.inner ch s fun ch s=>bif draw then fI E Γ ops.toList ops.toList [] [] ch s else lH E Γ ops.toList ops.toList [] ch s).den=some r→Stat s ch r:=
   fun ch r h=>Wz HS0 h
  exact ⟨rH HS h,fun a w G pt R=>Ap gP HS (fun ch r h=>ZX hm HR0 h R) h⟩
 | .seq x y,p,ch,s,r,h=>by
  simp only [ev] at h
  have HS:∀ ch r,((ev (fun _ _=>Loop) E Γ x p.inner.left ch s).bind fun r=>bif Nat.beq r.e 0 then ev (fun _ _=>Loop) E Γ y p.inner.right r.ch r.s else .ret r).den=some r→Stat s ch r:=by
   intro ch r h;obtain ⟨r1,h1,h2⟩:=bind_some h;have k1:=(kZ hm gP H D x _ ch s r1 h1).1
   cases he:Nat.beq r1.e 0 with
   | true=>
    rw [he] at h2;have k2:=(kZ hm gP H D y _ _ _ r h2).1
    exact fun s0 h0=>k2 s0 (k1 s0 h0)
   | false=>
    rw [he] at h2;simp only [bJ,Out.den,bn] at h2;subst h2;exact k1
  refine ⟨rH HS h,fun a w G pt R=>Ap gP HS (fun ch r h=>?_) h⟩
  obtain ⟨r1,h1,h2⟩:=bind_some h
  refine wp_seq (wp_mono ((kZ hm gP H D x _ ch s r1 h1).2 a w G pt R) fun e a' w' hp=>?_)
  obtain ⟨rfl,G',bC,R'⟩:=hp
  cases he:Nat.beq r1.e 0 with
  | true=>
   rw [he] at h2;have he:=fD he;rw [he];exact (kZ hm gP H D y _ _ _ r h2).2 a' w' G' bC R'
  | false=>
   rw [he] at h2;simp only [bJ,Out.den,bn] at h2;subst h2;have Dw:Post E C r1 (OD r1.e) a' w':=⟨rfl,G',bC,R'⟩
   match Dj:r1.e with
   | 0=>rw [Dj] at he;cases he
   | 1=>rw [Dj] at Dw;exact Dw
   | n+2=>rw [Dj] at Dw;exact Dw
 | .cond c x y,p,ch,s,r,h=>by
  simp only [ev] at h
  have HS:∀ ch r,(match aV s c with
   | .bool b=>Out.ite b (ev (fun _ _=>Loop) E Γ x p.inner.left ch s) (ev (fun _ _=>Loop) E Γ y p.inner.right ch s)
   | _=>.fail).den=some r→∃ b,aV s c = .bool b∧((b=true∧(ev (fun _ _=>Loop) E Γ x p.inner.left ch s).den=some r)∨(b=false∧(ev (fun _ _=>Loop) E Γ y p.inner.right ch s).den=some r)):=by
   intro ch r h;split at h
   ·rename_i b hb
    refine ⟨b,hb,?_⟩
    cases b with
    | true=>exact .inl ⟨rfl,h⟩
    | false=>exact .inr ⟨rfl,h⟩
   ·cases h
  refine ⟨rH (fun ch r h=>?_) h,fun a w G pt R=>Ap gP (fun ch r h=>?_) (fun ch r h=>?_) h⟩
  ·obtain ⟨b,hb,⟨_,h⟩ | ⟨_,h⟩⟩:=HS ch r h
   ·exact (kZ hm gP H D x _ ch s r h).1
   ·exact (kZ hm gP H D y _ ch s r h).1
  ·obtain ⟨b,hb,⟨_,h⟩ | ⟨_,h⟩⟩:=HS ch r h
   ·exact (kZ hm gP H D x _ ch s r h).1
   ·exact (kZ hm gP H D y _ ch s r h).1
  ·obtain ⟨b,hb,⟨rfl,h⟩ | ⟨rfl,h⟩⟩:=HS ch r h
   ·have hv:=aJ R c
    rw [hb] at hv;exact wp_cond_true hv ((kZ hm gP H D x _ ch s r h).2 a w G pt R)
   ·have hv:=aJ R c
    rw [hb] at hv;exact wp_cond_false hv ((kZ hm gP H D y _ ch s r h).2 a w G pt R)
 | .block id c,p,ch,s,r,h=>by
  simp only [ev] at h
  refine ⟨rH (fun ch r h=>?_) h,fun a w G pt R=>Ap gP (fun ch r h=>?_) (fun ch r h=>?_) h⟩
  ·obtain ⟨r1,h1,h2⟩:=bind_some h
   simp only [Out.den,bn] at h2;subst h2;exact (kZ hm gP H D c _ ch s r1 h1).1
  ·obtain ⟨r1,h1,h2⟩:=bind_some h
   simp only [Out.den,bn] at h2;subst h2;exact (kZ hm gP H D c _ ch s r1 h1).1
  ·obtain ⟨r1,h1,h2⟩:=bind_some h
   simp only [Out.den,bn] at h2;subst h2
   refine wp_block (wp_mono ((kZ hm gP H D c _ ch s r1 h1).2 a w G pt R) fun e a' w' hp=>?_)
   obtain ⟨rfl,G',bC,R'⟩:=hp
   match Dj:r1.e with
   | 0=>exact ⟨by simp [Dj,OD,gF],G',bC,R'⟩
   | 1=>exact ⟨by simp [Dj,OD,gF],G',bC,R'⟩
   | n+2=>
    simp only [OD,Exit.inBlock]
    by_cases hn:n=id
    ·rw [if_pos hn];exact ⟨by simp [Dj,OD,gF,hn],G',bC,R'⟩
    ·rw [if_neg hn];exact ⟨by simp [Dj,OD,gF,hn],G',bC,R'⟩
 | .loop c,p,ch,s,r,h=>by
  simp only [ev] at h
  have HS:∀ ch r,(match p.inner with
   | .loop M pl drop ws q=>Uv (fun _ _=>Loop) E.hp M pl drop ws ch s (fun st=>ev (fun _ _=>Loop) E Γ c q [] st)
   | .unr n q=>Ah (fun ch st=>ev (fun _ _=>Loop) E Γ c q ch st) n ch s
   | _=>.fail).den=some r→Stat s ch r∧∀ a w G pt,Rel E C s a w G pt→(Code.loop c).wp P (Post E C r) a w:=by
   intro ch r h;split at h
   ·rename_i M pl drop ws q hq
    exact ad9 gP (fun s r h=>(kZ hm gP H D c q [] s r h).1) (fun s a w G pt r R h=>(kZ hm gP H D c q [] s r h).2 a w G pt R) h
   ·rename_i n q hq
    obtain ⟨k1,k2⟩:=JQ (fun ch s r h=>(kZ hm gP H D c q ch s r h).1) (fun ch s r h=>(kZ hm gP H D c q ch s r h).2) n ch s r h
    exact ⟨k1,fun a w G pt R=>Du (k2 a w G pt R)⟩
   ·cases h
  exact ⟨rH (fun ch r h=>(HS ch r h).1) h,fun a w G pt R=>Ap gP (fun ch r h=>(HS ch r h).1) (fun ch r h=>(HS ch r h).2 a w G pt R) h⟩
 | .goto l,p,ch,s,r,h=>by cases h
 | .label l,p,ch,s,r,h=>by
  simp only [ev,Out.den,bn] at h;subst h
  exact ⟨fun _ h=>h,fun a w G pt R=>wp_label ⟨rfl,G,pt,R⟩⟩
 | .scope c,p,ch,s,r,h=>by
  simp only [ev] at h
  refine ⟨(kZ hm gP H D c p ch s r h).1,fun a w G pt R=>wp_scope_straight (wp_mono ((kZ hm gP H D c p ch s r h).2 a w G pt R) fun e a' w' hp=>?_)⟩
  obtain ⟨rfl,G',bC,R'⟩:=hp;have Dw:Post E C r (OD r.e) a' w':=⟨rfl,G',bC,R'⟩
  match Dj:r.e with
  | 0=>rw [Dj] at Dw;exact Dw
  | 1=>rw [Dj] at Dw;exact Dw
  | n+2=>rw [Dj] at Dw;exact Dw
 | .refuse w,p,ch,s,r,h=>by cases h
 | .rangeFunc f ps a b,p,ch,s,r,h=>by cases h
end
section
variable {P:Program} {E:Env} {C:Ctx} {s:St} {a:Act} {w:World} {G:Nat→Nat} {pt:Nat→Nat→Option Value} {o:Oper} {u:St}
theorem Aq {x:Option (Bool×St)} (h:(guarded o s x).den=some u):x=some (true,u):=by
 unfold guarded at h;split at h
 ·rename_i g v
  cases hn:FY o s with
  | true=>
   rw [hn] at h;simp only [aQ,Out.den] at h
   cases g with
   | true=>simp only [aQ,Out.den,bn] at h;rw [h]
   | false=>cases h
  | false=>
   rw [hn] at h
   cases g with
   | true=>simp only [aQ,bJ,Out.den,bn] at h;rw [h]
   | false=>cases h
 ·cases h
theorem WA {x:Option (Bool×St)} (h:(Rk x).den=some u):x=some (true,u):=by
 unfold Rk at h;split at h
 ·rename_i g v
  cases g with
  | true=>simp only [aQ,Out.den,bn] at h;rw [h]
  | false=>cases h
 ·cases h
def anN (s:St) (aZ:cu) (c:Call) (f:Nat):Prop:=c.callee = .value (.func f)∨((∃ x,c.callee = .value x∧aV s x = .BG f)∧aZ.xf=none)
def ZY (P:Program) (E:Env) (Γ:Af) (C:Ctx):Prop:=
 ∀ f t v aZ o c s a w G pt u x,f<1000000→Γ (ckey E o f)=some aZ→aZ.xf=none→o.op = .call c→c.callee = .value x→aV s x = .iF f t v→Rel E C s a w G pt→(JI E aZ o s c.args.toList (.jQ t [v] 0 0)).den=some u→OA P E C o a w (au u s)
def LP (P:Program) (E:Env) (Γ:Af) (C:Ctx):Prop:=ZY P E Γ C ∧
 ∀ f aZ o c s a w G pt u,f<1000000→Γ (ckey E o f)=some aZ→o.op = .call c→anN s aZ c f→Rel E C s a w G pt→(uj E aZ o s c.args.toList).den=some u→OA P E C o a w (au u s)
theorem Gg:∀ (l s:St),au l s=l.reverse++s
 | [],_=>rfl
 | p::r,s=>by
  show au r (p::s)=_;rw [Gg r,List.reverse_cons,List.append_assoc];rfl
theorem Rel.jB (R:Rel E C s a w G pt) {o:Oper} (args:List Operand):Rel E C (jB E o s args++s) a w G pt:=by
 unfold dw.jB
 cases Nat.beq (tag E o) 10 with
 | false=>exact R
 | true=>
  simp only [aQ];split
  ·split
   ·exact R.qg _ 0 _
   ·exact R
  ·exact R
theorem ahY {Γ:Af} (HP:nS P E) (hm:E.n≤C.m) (HC:LP P E Γ C):Ux P E Γ C:=by
 intro kn o s a w G pt u R h;unfold F3 at h;split at h
 ·rename_i c x y aY
  cases hd:fE E o with
  | false=>rw [hd] at h;cases h
  | true=>
   rw [hd] at h;simp only [aQ] at h;split at h
   ·rename_i b hb
    have fin:(Rk (oI E o s (bif b then x else y))).den=some u→OA P E C o a w (au u s):=
     fun h=>(ad6 R hd c x y b aY hb (WA h)).wp
    split at h
    ·rename_i b' _
     simp only [Out.den] at h
     cases xq:j5 b b' with
     | false=>rw [xq] at h;cases h
     | true=>
      rw [xq] at h;have:=mU xq;subst this;exact fin h
    ·simp only [Out.den] at h
     cases b with
     | true=>exact fin h
     | false=>exact fin h
   ·cases h
 ·rename_i c aY
  split at h
  ·rename_i f hf
   cases aT:Nat.blt f 1000000 with
   | false=>rw [aT] at h;cases h
   | true=>
   rw [aT] at h;simp only [aQ] at h;split at h
   ·rename_i aZ Z0
    exact HC.2 f aZ o c s a w G pt u (by simpa [Nat.blt_eq] using aT) Z0 aY (.inl hf) R h
   ·cases h
  ·rename_i x _ hf
   split at h
   ·rename_i f hx
    cases aT:Nat.blt f 1000000 with
    | false=>rw [aT] at h;cases h
    | true=>
    rw [aT] at h;simp only [aQ] at h;split at h
    ·rename_i aZ Z0
     split at h
     ·rename_i WB
      refine HC.2 f aZ o c s a w G pt u (by simpa [Nat.blt_eq] using aT) Z0 aY (.inr ⟨⟨x,hf,hx⟩,WB⟩) R ?_
      unfold uj;rw [WB];exact h
     ·cases h
    ·cases h
   ·rename_i f t v hx
    cases aT:Nat.blt f 1000000 with
    | false=>rw [aT] at h;cases h
    | true=>
    rw [aT] at h;simp only [aQ] at h;split at h
    ·rename_i aZ Z0
     split at h
     ·rename_i WB
      exact HC.1 f t v aZ o c s a w G pt u _ (by simpa [Nat.blt_eq] using aT) Z0 WB aY hf hx R h
     ·cases h
    ·cases h
   ·cases h
  ·unfold FZ at h
   obtain ⟨u1,h1,h2⟩:=jL h
   have h2:(jB E o s c.args.toList).reverse++u1=u:=by simpa [Out.den] using h2
   subst h2;rw [bg,Gg (jB E o s c.args.toList).reverse s,List.reverse_reverse];exact (ZJ HP hm (R.jB _) (Aq h1)).wp
 ·exact (ZJ HP hm R (Aq h)).wp
end
section
variable {E:Env} {s s':St} {o:Oper}
theorem bD {x:Operand} (h:∀ k∈ak [x],get s' k=get s k):aV s' x=aV s x:=by
 cases x with
 | tmp t=>exact h (2*t) (by simp [ak])
 | _=>rfl
theorem jC {x:Operand} (f:D→D) (g:D→Bool) (h:∀ k∈ak [x],get s' k=get s k):dU s' x f g=dU s x f g:=by
 cases x with
 | tmp t=>
  have:=h (2*t) (by simp [ak])
  simp only [dU,this]
 | _=>rfl
theorem qj {x:Operand}:∀ {xs:List Operand},x∈xs→∀ k∈ak [x],k∈ak xs
 | y::r,h,k,hk=>by
  rcases lC h with rfl | h
  ·cases x with
   | tmp t=>simp only [ak,List.mem_cons,List.not_mem_nil,or_false] at hk ⊢;exact .inl hk
   | _=>simp [ak] at hk
  ·have:=qj h k hk
   cases y with
   | tmp t=>simp only [ak,List.mem_cons];exact .inr this
   | _=>simpa only [ak] using this
theorem Iz {x:Operand} {xs:List Operand} (hx:x∈xs):∀ k∈ak [x],k∈j6 s xs:=by
 induction xs with
 | nil=>simp at hx
 | cons y r ih=>
  intro k hk;simp only [j6,pV]
  rcases lC hx with rfl | hx
  ·left
   cases x with
   | tmp t=>
    simp only [ak,List.mem_cons,List.not_mem_nil,or_false] at hk;subst hk;simp only [qG]
    split<;>simp
   | _=>simp [ak] at hk
  ·exact .inr (ih hx k hk)
theorem JR {i:Nat}:∀ {l:List Nat},i∈l→2*i+1∈Uq l
 | j::r,h=>by
  simp only [Uq,List.mem_cons]
  rcases lC h with rfl | h
  ·exact .inl rfl
  ·exact .inr (JR h)
theorem wH {d:D} {i:Nat} (h:i∈bW d):i∈jv d:=by
 cases d<;>first | exact h | (simp [bW] at h;done)
theorem Z4 (v:Value):jv (VP v)=[]:=by
 unfold VP;split
 ·rfl
 ·rename_i k n;cases Yn k n<;>rfl
 ·rename_i b;cases Nat.ble (lZ b).length nG<;>rfl
 ·rfl
 ·rfl
theorem Rs {x:Operand} {id:Nat} (h:id∈jv (aV s x)):2*id+1∈qG s x:=by
 cases x with
 | tmp t=>
  simp only [aV] at h;simp only [qG]
  cases hd:get s (2*t) with
  | agg cs=>
   rw [hd] at h;exact kE _ (JR h)
  | _=>
   rw [hd] at h;simp only [jv,bW,List.mem_cons,List.not_mem_nil,or_false] at h
   all_goals (subst h;simp)
 | const v=>
  exfalso;simp only [aV,Z4,List.not_mem_nil] at h
 | _=>simp [aV,jv,bW] at h
theorem Gh {d:D} (h:∀ id∈bW d,get s' (2*id+1)=get s (2*id+1)):content s' d=content s d:=by
 cases d<;>first | rfl | skip
 ·rename_i id st
  simp only [content,h id (by simp [bW])]
theorem aeb {t:Ty} {d:D} (h:∀ id∈bW d,get s' (2*id+1)=get s (2*id+1)):tail s' t d=tail s t d:=by
 unfold tail
 split<;>first | rfl | skip
 rw [Gh h]
theorem uZ {x:Operand} (h:∀ k∈ak [x],get s' k=get s k):oI E o s' x=oI E o s x:=by
 have e6:xU o s' x=xU o s x:=by
  have e1:=bD h
  cases x with
  | tmp t=>
   have e2:get s' (2*t)=get s (2*t):=e1;simp only [xU,e2,jC _ _ h,e1]
  | _=>simp only [xU,jC _ _ h,e1]
 simp only [oI,K9,e6,bD h,jC _ _ h]
theorem WC {x:Operand} (h:∀ k∈ak [x],get s' k=get s k) (hd:∀ t,o.dst=some t→get s' (2*t+1)=get s (2*t+1)):Fg E o s' x=Fg E o s x:=by rfl
theorem LQ {x:Operand} (h:∀ k∈ak [x],get s' k=get s k):oo o s' x=oo o s x:=by
 simp only [oo,bD h]
theorem ahZ {op:UnOp} {x:Operand} (h:∀ k∈ak [x],get s' k=get s k):aUn o s' op x=aUn o s op x:=by
 simp only [aUn,bD h]
theorem aec {op:BinOp} {T:Nat} {x y:Operand} (h:∀ k∈ak [x],get s' k=get s k) (h2:∀ k∈ak [y],get s' k=get s k):VR E o s' op T x y=VR E o s op T x y:=by
 simp only [VR,bD h,bD h2]
theorem IB {T f:Nat} {x:Operand} (h:∀ k∈ak [x],get s' k=get s k):l6 E o s' T x f=l6 E o s T x f:=by
 simp only [l6,bD h]
theorem WE {T f:Nat} {x:Operand} (h:∀ k∈ak [x],get s' k=get s k):BN E o s' T x f=BN E o s T x f:=by
 simp only [BN,bD h,jC _ _ h]
theorem LU {fn:Fn} {first qC:List Operand} (h:∀ x∈qC,∀ k∈ak [x],get s' k=get s k):oq o s' fn first qC=oq o s fn first qC:=by
 unfold oq;split
 ·rename_i x
  rw [bD (h x (by simp))]
 ·rfl
theorem OH {i:Nat} {x:Operand} (h:∀ k∈ak [x],get s' k=get s k):qU o s' x i=qU o s x i:=by
 simp only [qU,bD h]
theorem IC {T:Nat} {x y:Operand} (h:∀ k∈ak [x],get s' k=get s k) (h2:∀ k∈ak [y],get s' k=get s k):l5 E o s' T x y=l5 E o s T x y:=by
 simp only [l5,bD h,bD h2]
theorem Ru {x:Operand} (h:∀ k∈ak [x],get s' k=get s k) (hd:∀ t,o.dst=some t→get s' (2*t+1)=get s (2*t+1)):vR E o s' x=vR E o s x:=by
 simp only [vR,bD h,jC _ _ h]
theorem WG {T:Nat} (hd:∀ t,o.dst=some t→get s' (2*t+1)=get s (2*t+1)):xV E o s' T=xV E o s T:=by
 cases ho:o.dst with
 | none=>
  simp only [xV,ho]
  cases E.T T<;>rfl
 | some t=>
  simp only [xV,ho]
  cases E.T T<;>first | rfl | simp only [hd t ho]
theorem aed {T:Nat} {x:Operand} (h:∀ k∈ak [x],get s' k=get s k) (hd:∀ t,o.dst=some t→get s' (2*t+1)=get s (2*t+1)):QL E o s' T x=QL E o s T x:=by
 cases ho:o.dst with
 | none=>
  simp only [QL,bD h,jC _ _ h,ho]
  cases E.T T<;>rfl
 | some t=>
  simp only [QL,bD h,jC _ _ h,ho]
  cases E.T T<;>first | rfl | simp only [hd t ho]
theorem WH {T:Nat} {x:Operand} (h:∀ k∈ak [x],get s' k=get s k) (hb:∀ id∈bW (aV s x),get s' (2*id+1)=get s (2*id+1)):Fh E o s' T x=Fh E o s T x:=by rfl
theorem Z5 {T:Nat} {x:Operand} (h:∀ k∈ak [x],get s' k=get s k) (hb:∀ id∈bW (aV s x),get s' (2*id+1)=get s (2*id+1))
 (hd:∀ t,o.dst=some t→get s' (2*t+1)=get s (2*t+1)):Df E o s' T x=Df E o s T x:=by
 have hd':∀ t,o.dst=some t→aL (get s' (2*t+1))=aL (get s (2*t+1)):=fun t ht=>by rw [hd t ht]
 unfold Df;rw [bD h]
 cases E.T T with
 | none=>rfl
 | some i=>
  simp only
  cases hx:aV s x<;>first | rfl | skip
  ·rename_i id st off
   rw [hx] at hb
   simp only [hb id (by simp [bW])]
   cases get s (2*id+1)<;>first | rfl | skip
   ·rename_i st' live cs
    cases live<;>first | rfl | skip
    dsimp only;generalize (List.take i.size (List.drop off cs))=ds;generalize tag E o=tg
    match tg with
    | 0=>rfl
    | 1=>rfl
    | 2=>rfl
    | n+4=>rfl
    | 3=>
     match ds with
     | []=>rfl
     | [d]=>
      cases ho:o.dst with
      | none=>cases d<;>rfl
      | some t=>cases d<;>first | rfl | (simp only [hd' t ho];try rfl)
     | d::_::_=>cases d<;>rfl
  ·rename_i id st i0 off es
   rw [hx] at hb
   simp only [hb id (by simp [bW])]
theorem Rv {T:Nat} {a x:Operand} (ha:∀ k∈ak [a],get s' k=get s k) (h:∀ k∈ak [x],get s' k=get s k)
 (hb:∀ id∈bW (aV s a),get s' (2*id+1)=get s (2*id+1)):pW E o s' T a x=pW E o s T a x:=by
 unfold pW;rw [bD h,bD ha]
 cases E.T T with
 | none=>rfl
 | some i=>
  simp only [jC _ _ h]
  cases hx:aV s a<;>first | rfl | skip
  ·rename_i id st off
   rw [hx] at hb
   simp only [hb id (by simp [bW])]
  ·rename_i id st i0 off es
   rw [hx] at hb
   simp only [hb id (by simp [bW])]
theorem WI {T:Nat} {a x:Operand} (ha:∀ k∈ak [a],get s' k=get s k) (h:∀ k∈ak [x],get s' k=get s k)
 (hb:∀ id∈bW (aV s a),get s' (2*id+1)=get s (2*id+1)):uH E o s' T a x=uH E o s T a x:=by
 have hav:∀ k l,uG E s' T a k l=uG E s T a k l:=by
  intro k l;rfl
 unfold uH;rw [bD h,Rv ha h hb];simp only [hav]
theorem rJ {x:Option Operand} {z:Nat} (h:∀ y,x=some y→∀ k∈ak [y],get s' k=get s k):bound s' x z=bound s x z:=by
 cases x with
 | none=>rfl
 | some y=>simp only [bound,bD (h y rfl)]
theorem WJ {T:Nat} {x:Operand} {lo hi:Option Operand} (h:∀ k∈ak [x],get s' k=get s k) (h1:∀ y,lo=some y→∀ k∈ak [y],get s' k=get s k)
 (h2:∀ y,hi=some y→∀ k∈ak [y],get s' k=get s k):BL E o s' T x lo hi=BL E o s T x lo hi:=by
 simp only [BL,bD h,rJ h1,rJ h2,jC _ _ h]
theorem Rw {T:Nat} {x:Operand} {lo:Option Operand} {hi mx:Operand} (h:∀ k∈ak [x],get s' k=get s k) (h1:∀ y,lo=some y→∀ k∈ak [y],get s' k=get s k)
 (h2:∀ k∈ak [hi],get s' k=get s k) (h3:∀ k∈ak [mx],get s' k=get s k):vV E o s' T x lo hi mx=vV E o s T x lo hi mx:=by
 have e1:∀ z,bound s' (some hi) z=bound s (some hi) z:=fun _=>rJ (s:=s) (s':=s') (x:=some hi) (fun y hy=>by cases hy;exact h2)
 have e2:∀ z,bound s' (some mx) z=bound s (some mx) z:=fun _=>rJ (s:=s) (s':=s') (x:=some mx) (fun y hy=>by cases hy;exact h3)
 simp only [vV,bD h,rJ h1,e1,e2,jC _ _ h]
theorem OI {T:Nat} {x:Operand} {lo:Option Operand} {hi mx:Operand} (h:∀ k∈ak [x],get s' k=get s k)
 (h2:∀ k∈ak [hi],get s' k=get s k) (h3:∀ k∈ak [mx],get s' k=get s k):uI E o s' T x lo hi mx=uI E o s T x lo hi mx:=by rfl
theorem Z6 {x:Operand} (h:∀ k∈ak [x],get s' k=get s k):Ju E o s' x=Ju E o s x:=by
 simp only [Ju,bD h,jC _ _ h]
theorem Rx {T:Nat} {x:Operand} {lo hi:Option Operand} (h:∀ k∈ak [x],get s' k=get s k) (h1:∀ y,lo=some y→∀ k∈ak [y],get s' k=get s k):vW E o s' T x lo hi=vW E o s T x lo hi:=by
 simp only [vW,bD h,rJ h1,jC _ _ h]
theorem Ry {T:Nat} {x:Operand} {lo hi:Option Operand} (h:∀ k∈ak [x],get s' k=get s k)
 (h1:∀ y,lo=some y→∀ k∈ak [y],get s' k=get s k) (h2:∀ y,hi=some y→∀ k∈ak [y],get s' k=get s k) (hb:∀ id∈bW (aV s x),get s' (2*id+1)=get s (2*id+1)):zN E o s' T x lo hi=zN E o s T x lo hi:=by rfl
theorem Rz {T:Nat} {x:Operand} {lo hi:Option Operand} (h:∀ k∈ak [x],get s' k=get s k)
 (h2:∀ y,hi=some y→∀ k∈ak [y],get s' k=get s k) (hb:∀ id∈bW (aV s x),get s' (2*id+1)=get s (2*id+1)):zM E o s' T x lo hi=zM E o s T x lo hi:=by rfl
theorem IE {T:Nat} {x i:Operand} (h:∀ k∈ak [x],get s' k=get s k) (h1:∀ k∈ak [i],get s' k=get s k)
 (hb:∀ id∈bW (aV s x),get s' (2*id+1)=get s (2*id+1)):l7 E o s' T x i=l7 E o s T x i:=by
 simp only [l7,bD h,bD h1,jC _ _ h]
 cases hx:aV s x<;>first | rfl | skip
 ·rename_i id st
  rw [hx] at hb
  simp only [hb id (by simp [bW])]
 ·rename_i id st n
  rw [hx] at hb
  simp only [hb id (by simp [bW])]
theorem WK {T:Nat} {x i:Operand} (h:∀ k∈ak [x],get s' k=get s k) (h1:∀ k∈ak [i],get s' k=get s k):Fp E o s' T x i=Fp E o s T x i:=by rfl
theorem Z7 {T U:Nat} {x:Operand} (h:∀ k∈ak [x],get s' k=get s k)
 (hb:∀ id∈bW (aV s x),get s' (2*id+1)=get s (2*id+1)):Jt E o s' T U x=Jt E o s T U x:=by
 unfold Jt;rw [bD h]
theorem aee {T:Nat} {d:D} (hb:∀ id∈bW d,get s' (2*id+1)=get s (2*id+1)):VT E s' T d=VT E s T d:=by
 have hc:=Gh hb;unfold VT
 cases E.T T with
 | none=>rfl
 | some a=>
  dsimp only
  split<;>first | rfl | (rw [hc])
theorem RA {T:Nat} {x y:Operand} (h:∀ k∈ak [x],get s' k=get s k) (h1:∀ k∈ak [y],get s' k=get s k)
 (hb:∀ id∈bW (aV s x),get s' (2*id+1)=get s (2*id+1)) (nI:∀ id∈bW (aV s y),get s' (2*id+1)=get s (2*id+1)) :
 vX E o s' T x y=vX E o s T x y:=by
 unfold vX;rw [bD h,bD h1];simp only [aeb nI]
 cases hx:aV s x<;>first | rfl | skip
 rename_i id st;rw [hx] at hb
 simp only [hb id (by simp [bW])]
theorem JU:∀ {xs:List Operand},(∀ k∈ak xs,get s' k=get s k)→xs.map (aV s')=xs.map (aV s)
 | [],_=>rfl
 | x::r,h=>by
  rw [jy,jy,bD fun k hk=>h k (qj uD k hk),JU fun k hk=>h k ?_]
  cases x with
  | tmp t=>simp only [ak,List.mem_cons];exact .inr hk
  | _=>simpa only [ak] using hk
theorem UA {lt:Int→Int→Bool} {xs:List Operand} (h:∀ k∈ak xs,get s' k=get s k):QN o s' lt xs=QN o s lt xs:=by
 simp only [QN,JU h]
structure Agree (s s':St) (xs:List Operand):Prop where
 sh:∀ k∈ak xs,get s' k=get s k
 bx:∀ x∈xs,∀ id∈jv (aV s x),get s' (2*id+1)=get s (2*id+1)
theorem Agree.one {xs:List Operand} (h:Agree s s' xs) {x:Operand} (hx:x∈xs):∀ k∈ak [x],get s' k=get s k:=
 fun k hk=>h.sh k (qj hx k hk)
theorem Agree.bxL {xs:List Operand} (h:Agree s s' xs) {x:Operand} (hx:x∈xs):∀ id∈bW (aV s x),get s' (2*id+1)=get s (2*id+1):=
 fun id hid=>h.bx x hx id (wH hid)
theorem OJ {b:Builtin} {xs:List Operand} {ts:List Nat} (h:Agree s s' xs):qV E o s' b xs ts=qV E o s b xs ts:=by
 unfold qV
 split<;>first | rfl | skip
 ·rw [bD (h.one (by simp)),aee (h.bxL (by simp))]
 ·rw [RA (h.one (by simp)) (h.one (by simp)) (h.bxL (by simp)) (h.bxL (by simp))]
 ·rw [UA h.sh]
 ·rw [UA h.sh]
theorem u6 {pl:Nat→Option (Nat×Nat)} {f:D→D}:∀ {ps:List (Nat×Operand)} {cs:List D},(∀ p∈ps,∀ k∈ak [p.2],get s' k=get s k) →
 iC pl s' f cs ps=iC pl s f cs ps
 | [],_,_=>rfl
 | (j,x)::r,cs,h=>by
  simp only [iC]
  rw [bD (h (j,x) (by simp))]
  cases pl j with
  | none=>rfl
  | some q=>
   have hr:∀ cs,iC pl s' f cs r=iC pl s f cs r:=fun cs=>u6 fun p hp=>h p (kE _ hp)
   simp only [hr]
theorem wI {f:D→D} {g:D→Bool}:∀ {ps:List (Nat×Operand)},(∀ p∈ps,∀ k∈ak [p.2],get s' k=get s k) →
 iy s' f g ps=iy s f g ps
 | [],_=>rfl
 | (j,x)::r,h=>by
  simp only [iy]
  rw [jC f g (h (j,x) (by simp)),wI fun p hp=>h p (kE _ hp)]
theorem OL:∀ {ps:List (Nat×Operand)},(∀ p∈ps,∀ k∈ak [p.2],get s' k=get s k)→nN s' ps=nN s ps
 | [],_=>rfl
 | (j,x)::r,h=>by
  have hr:=OL (ps:=r) fun p hp=>h p (kE _ hp)
  cases x with
  | tmp t=>
   simp only [nN,hr]
   rw [h (j,.tmp t) (by simp) (2*t) (by simp [ak])]
  | _=>simp only [nN,hr]
theorem WL {T:Nat} {ps:List (Nat×Operand)} (h:∀ p∈ps,∀ k∈ak [p.2],get s' k=get s k):BI E o s' T ps=BI E o s T ps:=by
 simp only [BI,u6 h,wI h,OL h]
theorem LV {T n:Nat} {ps:List (Nat×Operand)} (h:∀ p∈ps,∀ k∈ak [p.2],get s' k=get s k) (hd:∀ t,o.dst=some t→get s' (2*t+1)=get s (2*t+1)) :
 qR E o s' T n ps=qR E o s T n ps:=by rfl
theorem Gj {T n:Nat} {ps:List (Nat×Operand)} (h:∀ p∈ps,∀ k∈ak [p.2],get s' k=get s k):kU E o s' T n ps=kU E o s T n ps:=by
 simp only [kU,u6 h,wI h]
theorem UC {l:Lf} {d:D} (hb:∀ id∈bW d,get s' (2*id+1)=get s (2*id+1)):l.Iw s' d=l.Iw s d:=by
 unfold Lf.Iw
 split<;>first | rfl | (rw [hb _ (by simp only [bW,List.mem_cons,List.not_mem_nil,or_false])])
theorem JV:∀ {ls:List Lf} {ds:List D},(∀ id∈fq ds,get s' (2*id+1)=get s (2*id+1))→sM s' ls ds=sM s ls ds
 | [],[],_=>rfl
 | [],_::_,_=>rfl
 | _::_,[],_=>rfl
 | l::r,d::ds,h=>by
  simp only [sM]
  rw [UC (fun id hid=>h id (by simp only [fq,pV];exact .inl hid)),JV (fun id hid=>h id (by simp only [fq,pV];exact .inr hid))]
theorem arg_eq {p:Sh} {d:D} (hb:∀ id∈jv d,get s' (2*id+1)=get s (2*id+1)):p.arg s' d=p.arg s d:=by
 cases p with
 | lf l=>
  simp only [Sh.arg]
  exact UC fun id hid=>hb id (wH hid)
 | agg ls=>
  cases d with
  | agg cs=>
   simp only [Sh.arg];exact JV hb
  | _=>rfl
 | _=>rfl
theorem aef {p:Sh} {d:D} (hb:∀ id∈jv d,get s' (2*id+1)=get s (2*id+1)):p.Ot s' d=p.Ot s d:=by
 unfold Sh.Ot;rw [arg_eq hb]
theorem Cj:∀ {ps:List Sh} {xs:List Operand},Agree s s' xs→jW s' ps xs=jW s ps xs
 | [],[],_=>rfl
 | [],_::_,_=>rfl
 | _::_,[],_=>rfl
 | p::r,x::xs,h=>by
  have h1:Agree s s' xs:=⟨fun k hk=>h.sh k (by cases x<;>simp only [ak,List.mem_cons]<;>first | exact .inr hk | exact hk),fun y hy=>h.bx y (kE _ hy)⟩
  simp only [jW];rw [bD (h.one uD),aef (h.bx x uD),Cj h1]
theorem LW:∀ {xs:List Operand},(∀ x∈xs,∀ k∈ak [x],get s' k=get s k)→sN s' xs=sN s xs
 | [],_=>rfl
 | x::r,h=>by
  simp only [sN]
  rw [bD (h x (by simp)),LW fun y hy=>h y (kE _ hy)]
theorem UD {rs:RS} {x:rs.ty.den} (hd:∀ t,o.dst=some t→get s' (2*t+1)=get s (2*t+1)):BX o s' rs x=BX o s rs x:=by
 cases rs with
 | Ac ls=>
  simp only [BX]
  cases ho:o.dst with
  | none=>rfl
  | some t=>simp only [hd t ho]
 | yu k v=>
  simp only [BX]
  cases ho:o.dst with
  | none=>rfl
  | some t=>simp only [hd t ho]
 | _=>rfl
theorem OM {xs:List Operand} (h:∀ x∈xs,∀ k∈ak [x],get s' k=get s k):oW s' xs=oW s xs:=by
 unfold oW
 refine wI fun p hp=>?_
 obtain ⟨x,hx,rfl⟩:=List.mem_map.1 hp;exact h x hx
theorem ql:∀ {ps:List Sh} {xs:List Operand} {x:Operand},x∈fH ps xs→x∈xs
 | [],_,_,h=>by simp [fH] at h
 | _::_,[],_,h=>by simp [fH] at h
 | p::ps,x::xs,y,h=>by
  simp only [fH] at h
  cases hp:ownSh p with
  | true=>
   rw [hp] at h;exact kE _ (ql h)
  | false=>
   rw [hp] at h;simp only [bJ,List.mem_cons] at h
   rcases h with h | h
   ·exact List.mem_cons.2 (.inl h)
   ·exact kE _ (ql h)
theorem OO {nv:Bool} {ps:List Sh} {xs:List Operand} (h:∀ x∈xs,∀ k∈ak [x],get s' k=get s k):Dp nv s' ps xs=Dp nv s ps xs:=by
 unfold Dp
 rw [OM fun y hy=>h y (ql hy)]
theorem JW {c:cu} {xs:List Operand} (h:Agree s s' xs) (hd:∀ t,o.dst=some t→get s' (2*t+1)=get s (2*t+1)):sO E c o s' xs=sO E c o s xs:=by
 have tl:∀ {x:Operand} {ys:List Operand},xs=x::ys→Agree s s' ys:=by
  intro x ys he;subst he
  exact ⟨fun k hk=>h.sh k (by cases x<;>simp only [ak,List.mem_cons]<;>first | exact .inr hk | exact hk),fun y hy=>h.bx y (kE _ hy)⟩
 unfold sO;split
 ·rename_i x ys hc
  have h2:=tl rfl;rw [bD (h.one uD)]
  cases hx:aV s x<;>first | rfl | skip
  rename_i id st off
  have hb:=h.bx x uD id (by rw [hx];simp [jv,bW])
  simp only [hb,LW fun y hy=>h2.one hy,Cj h2,OO fun y hy=>h2.one hy,UD hd]
 ·simp only [LW fun y hy=>h.one hy,Cj h,OO fun y hy=>h.one hy,UD hd]
 ·rfl
theorem OP {c:cu} {xs:List Operand} (h:Agree s s' xs) (hd:∀ t,o.dst=some t→get s' (2*t+1)=get s (2*t+1)):uj E c o s' xs=uj E c o s xs:=by
 unfold uj;split
 ·rename_i x hx
  have hm:xs.map (ZK s')=xs.map (ZK s):=by
   refine List.map_congr_left fun y hy=>?_
   unfold ZK;rw [bD (h.one hy)];have hb:=h.bx y hy
   congr 1
   cases hd:aV s y<;>first | rfl | skip
   ·rw [hd] at hb
    exact hb _ (by simp [jv,bW])
   ·rw [hd] at hb
    exact hb _ (by simp [jv,bW])
   ·rename_i cs
    rw [hd] at hb;simp only [Dn];split
    ·rename_i id hid
     exact hb id (by simp [jv,hid])
    ·rfl
  unfold ZM;rw [hm]
  cases ho:o.dst with
  | none=>rfl
  | some t=>simp only [hd t ho]
 ·exact JW h hd
theorem Z8 (a b:Nat):¬ 2*a+1=2*b:=by omega
theorem ah0 {a b:Nat} (h:¬ a=b):¬ 2*a=2*b:=by omega
structure Agr (o:Oper) (s s':St):Prop where
 sh:∀ x∈o.op.operands.toList,∀ k∈ak [x],get s' k=get s k
 bx:deep o.op=true→∀ x∈o.op.operands.toList,∀ id∈jv (aV s x),get s' (2*id+1)=get s (2*id+1)
 dt:∀ t,o.dst=some t→get s' (2*t+1)=get s (2*t+1)
theorem WM {T:Nat} {x:Operand} (h:∀ k∈ak [x],get s' k=get s k) (hb:∀ id∈bW (aV s x),get s' (2*id+1)=get s (2*id+1))
 (hd:∀ t,o.dst=some t→get s' (2*t+1)=get s (2*t+1)):BJ E o s' T x=BJ E o s T x:=by
 unfold BJ;rw [bD h]
 cases E.T T with
 | none=>rfl
 | some i=>
  cases ho:o.dst with
  | none=>rfl
  | some t=>
   simp only [hd t ho]
   cases hx:aV s x<;>first | rfl | skip
   rename_i id st off;rw [hx] at hb
   simp only [hb id (by simp [bW])]
theorem RB {T:Nat} {a x:Operand} (ha:∀ k∈ak [a],get s' k=get s k) (h:∀ k∈ak [x],get s' k=get s k)
 (hb:∀ id∈bW (aV s a),get s' (2*id+1)=get s (2*id+1)):vS E s' T a x=vS E s T a x:=by
 unfold vS;rw [bD ha,bD h]
 cases E.T T with
 | none=>rfl
 | some i=>
  cases aV s x<;>first | rfl | skip
  simp only [jC _ _ h]
  cases hx:aV s a<;>first | rfl | skip
  rename_i id st off;rw [hx] at hb
  simp only [hb id (by simp [bW])]
theorem WO {T:Nat} {x y:Operand} (h:∀ k∈ak [x],get s' k=get s k) (h2:∀ k∈ak [y],get s' k=get s k)
 (hd:∀ t,o.dst=some t→get s' (2*t+1)=get s (2*t+1)):BK E o s' T x y=BK E o s T x y:=by
 unfold BK;rw [bD h,bD h2]
 cases E.T T with
 | none=>rfl
 | some i=>
  cases ho:o.dst with
  | none=>rfl
  | some t=>simp only [hd t ho]
theorem OQ {T:Nat} {r:Option Operand} (hd:∀ t,o.dst=some t→get s' (2*t+1)=get s (2*t+1)):qW E o s' T r=qW E o s T r:=by
 unfold qW
 cases E.T T with
 | none=>rfl
 | some i=>
  cases ho:o.dst with
  | none=>rfl
  | some t=>
   cases r with
   | some _=>rfl
   | none=>simp only [hd t ho]
theorem RD {T:Nat} {m x:Operand} {ok:Bool} (h:∀ k∈ak [m],get s' k=get s k) (h1:∀ k∈ak [x],get s' k=get s k)
 (hb:∀ id∈bW (aV s m),get s' (2*id+1)=get s (2*id+1)):vY E o s' T m x ok=vY E o s T m x ok:=by
 unfold vY;rw [bD h,bD h1]
 cases E.T T with
 | none=>rfl
 | some i=>
  cases hx:aV s m<;>first | rfl | skip
  rename_i id st;rw [hx] at hb
  simp only [hb id (by simp [bW])]
theorem xJ {T:Nat} {m x y:Operand} (h:∀ k∈ak [m],get s' k=get s k) (h1:∀ k∈ak [x],get s' k=get s k) (h2:∀ k∈ak [y],get s' k=get s k)
 (hb:∀ id∈bW (aV s m),get s' (2*id+1)=get s (2*id+1)):kN E o s' T m x y=kN E o s T m x y:=by
 unfold kN;rw [bD h,bD h1,bD h2]
 cases E.T T with
 | none=>rfl
 | some i=>
  cases hx:aV s m<;>first | rfl | skip
  rename_i id st;rw [hx] at hb
  cases o.dst with
  | some _=>rfl
  | none=>simp only [hb id (by simp [bW])]
theorem ah1 (h:Agr o s s'):act E o s' = act E o s:=by
 obtain ⟨h1,Iq,h3⟩:=h
 have h2:deep o.op=true→∀ x∈o.op.operands.toList,∀ id∈bW (aV s x),get s' (2*id+1)=get s (2*id+1):=fun hd x hx id hid=>Iq hd x hx id (wH hid)
 unfold act
 split<;>(try (rename_i aY;rw [aY] at h1 h2 Iq;simp only [Op.operands,deep] at h1 h2 Iq))
 ·rw [WC (h1 _ (by simp)) h3,uZ (h1 _ (by simp))]
 ·rw [Z6 (h1 _ (by simp)),Ru (h1 _ (by simp)) h3]
 ·exact WG h3
 ·exact aed (h1 _ (by simp)) h3
 ·exact WL fun p hp=>h1 _ (by simp only [List.mem_map];exact ⟨p,hp,rfl⟩)
 ·rw [LV (fun p hp=>h1 _ (by simp only [List.mem_map];exact ⟨p,hp,rfl⟩)) h3,Gj fun p hp=>h1 _ (by simp only [List.mem_map];exact ⟨p,hp,rfl⟩)]
 ·rw [WH (h1 _ (by simp)) (h2 trivial _ (by simp)),WM (h1 _ (by simp)) (h2 trivial _ (by simp)) h3,Z5 (h1 _ (by simp)) (h2 trivial _ (by simp)) h3]
 ·rename_i T a x
  rw [RB (a:=a) (x:=x) (h1 _ (by simp)) (h1 _ (by simp)) (h2 trivial _ (by simp)),WI (a:=a) (x:=x) (h1 _ (by simp)) (h1 _ (by simp)) (h2 trivial _ (by simp))]
 ·exact LQ (h1 _ (by simp))
 ·exact aec (h1 _ (by simp)) (h1 _ (by simp))
 ·exact ahZ (h1 _ (by simp))
 ·exact Z7 (h1 _ (by simp)) (h2 trivial _ (by simp))
 ·rw [IC (h1 _ (by simp)) (h1 _ (by simp)),WO (h1 _ (by simp)) (h1 _ (by simp)) h3]
 ·rw [bD (h1 _ (by simp))]
  split
  ·rw [Ry (h1 _ (by simp)) (fun y hy=>h1 _ (by simp [hy])) (fun y hy=>h1 _ (by simp [hy])) (h2 trivial _ (by simp)),Rz (h1 _ (by simp)) (fun y hy=>h1 _ (by simp [hy])) (h2 trivial _ (by simp))]
  ·rw [Rx (h1 _ (by simp)) (fun y hy=>h1 _ (by simp [hy])),WJ (h1 _ (by simp)) (fun y hy=>h1 _ (by simp [hy])) (fun y hy=>h1 _ (by simp [hy]))]
 ·rw [OI (h1 _ (by simp)) (h1 _ (by simp)) (h1 _ (by simp)),Rw (h1 _ (by simp)) (fun y hy=>h1 _ (by simp [hy])) (h1 _ (by simp)) (h1 _ (by simp))]
 ·exact IB (h1 _ (by simp))
 ·exact WE (h1 _ (by simp))
 ·exact IE (h1 _ (by simp)) (h1 _ (by simp)) (h2 trivial _ (by simp))
 ·exact WK (h1 _ (by simp)) (h1 _ (by simp))
 ·exact OH (h1 _ (by simp))
 ·exact LU fun x hx=>h1 x (by simp only [Array.toList_append,pV];exact .inr hx)
 ·exact OQ h3
 ·exact RD (h1 _ (by simp)) (h1 _ (by simp)) (h2 trivial _ (by simp))
 ·exact xJ (h1 _ (by simp)) (h1 _ (by simp)) (h1 _ (by simp)) (h2 trivial _ (by simp))
 ·exact xJ (h1 _ (by simp)) (h1 _ (by simp)) (h1 _ (by simp)) (h2 trivial _ (by simp))
 ·rename_i c
  split<;>first | rfl | skip
  rename_i b hb;refine OJ ⟨?_,?_⟩
  ·intro k hk
   obtain ⟨x,hx,LX⟩:∃ x∈c.args.toList,k∈ak [x]:=by
    generalize c.args.toList=l at hk;clear h1 h2 Iq h3
    induction l with
    | nil=>simp [ak] at hk
    | cons y r ih=>
     cases y with
     | tmp t=>
      simp only [ak,List.mem_cons] at hk
      rcases hk with hk | hk
      ·exact ⟨.tmp t,by simp,by simp [ak,hk]⟩
      ·obtain ⟨x,hx,LX⟩:=ih hk
       exact ⟨x,by simp [hx],LX⟩
     | _=>
      simp only [ak] at hk;obtain ⟨x,hx,LX⟩:=ih hk
      exact ⟨x,by simp [hx],LX⟩
   exact h1 x (by simp only [Call.operands,Array.toList_append,pV];exact .inr hx) k LX
  ·intro x hx
   exact Iq trivial x (by simp only [Call.operands,Array.toList_append,pV];exact .inr hx)
 ·rfl
theorem JX {x:Operand} (h:∀ k∈ak [x],get s' k=get s k) (hb:∀ id∈bW (aV s x),get s' (2*id+1)=get s (2*id+1)):FV s' x=FV s x:=by
 unfold FV;rw [bD h]
 cases hx:aV s x<;>first | rfl | skip
 rename_i id st off
 simp only [hb id (by rw [hx];simp [bW])]
theorem WQ (h:Agr o s s'):FY o s' = FY o s:=by
 obtain ⟨h1,Iq,_⟩:=h
 have h2:deep o.op=true→∀ x∈o.op.operands.toList,∀ id∈bW (aV s x),get s' (2*id+1)=get s (2*id+1):=fun hd x hx id hid=>Iq hd x hx id (wH hid)
 unfold FY
 split<;>(try (rename_i aY;rw [aY] at h1 h2;simp only [Op.operands,deep] at h1 h2))
 ·split<;>first | rfl | skip
  rw [bD (h1 _ (by simp))]
 ·exact JX (h1 _ (by simp)) (h2 trivial _ (by simp))
 ·exact JX (h1 _ (by simp)) (h2 trivial _ (by simp))
 ·rw [bD (h1 _ (by simp))]
 ·rfl
 ·rfl
 ·rw [bD (h1 _ (by simp))]
 ·rw [bD (h1 _ (by simp))]
 ·rfl
 ·rfl
theorem Gm (h:Agr o s s'):guarded o s' (Ri E o s')=guarded o s (Ri E o s):=by
 simp only [Ri,ah1 h,guarded,WQ h]
theorem nu:∀ {l:List Operand} {k:Nat},k∈ak l→∃ x∈l,k∈ak [x]
 | y::r,k,hk=>by
  cases y with
  | tmp t=>
   simp only [ak,List.mem_cons] at hk
   rcases hk with hk | hk
   ·exact ⟨.tmp t,by simp,by simp [ak,hk]⟩
   ·obtain ⟨x,hx,LX⟩:=nu hk
    exact ⟨x,by simp [hx],LX⟩
  | _=>
   simp only [ak] at hk;obtain ⟨x,hx,LX⟩:=nu hk
   exact ⟨x,by simp [hx],LX⟩
theorem mV:∀ (u:St) {s s':St} {k:Nat},get s' k=get s k→get (u++s') k=get (u++s) k
 | [],_,_,_,h=>h
 | (k0,d)::r,s,s',k,h=>by
  show get ((k0,d)::(r++s')) k=get ((k0,d)::(r++s)) k;rw [aD,aD,mV r h]
theorem RG {p:Prop}:p→p:=fun h=>h
theorem WR {s:St} {u X st:Nat} {x:Operand} {id:Nat} (hX:get s (2*u) = .fU X st) (h:id∈jv (aV (qg s (2*u) 0 X++s) x)):id∈jv (aV s x):=by
 cases x with
 | tmp t=>
  have key:get (qg s (2*u) 0 X++s) (2*t)=get s (2*t)∨jv (get (qg s (2*u) 0 X++s) (2*t))=[]:=by
   unfold qg;split
   ·rename_i st' t' l hb
    have ho:odd (2*u)=false:=by
     unfold odd;rw [Nat.mul_mod_right];rfl
    rw [ho];simp only [bJ,hX]
    cases (Nat.beq X X&&Nat.beq st st') with
    | false=>exact .inl rfl
    | true=>
     show get ((2*u,_)::(2*X+1,_)::s) (2*t)=_∨jv (get ((2*u,_)::(2*X+1,_)::s) (2*t))=[];rw [aD,aD]
     by_cases htu:2*t=2*u
     ·rw [if_pos htu];exact .inr rfl
     ·rw [if_neg htu,if_neg (fun e=>Z8 X t e.symm)];exact .inl rfl
   ·exact .inl rfl
  rcases key with k | k
  ·have h:id∈jv (get (qg s (2*u) 0 X++s) (2*t)):=h
   rw [k] at h;exact h
  ·have h:id∈jv (get (qg s (2*u) 0 X++s) (2*t)):=h
   rw [k] at h;cases h
 | _=>exact h
theorem RH {Γ:Af} {kn:Kn} (h:Agr o s s'):F3 E Γ kn o s' = F3 E Γ kn o s:=by
 have h0:=h;obtain ⟨h1,h2,h3⟩:=h0;unfold F3
 split<;>(try (rename_i aY;rw [aY] at h1 h2;simp only [Op.operands,deep] at h1 h2))
 ·rename_i c x y
  rw [bD (h1 c (by simp)),uZ (h1 x (by simp)),uZ (h1 y (by simp))]
  have hm:∀ b:Bool,oI E o s' (bif b then x else y)=oI E o s (bif b then x else y):=by
   intro b;cases b
   ·exact uZ (h1 y (by simp))
   ·exact uZ (h1 x (by simp))
  simp only [hm]
 ·split<;>first | rfl | skip
  ·split<;>first | rfl | skip
   congr 1
   refine OP ⟨fun k hk=>?_,fun x hx=>h2 trivial x (by simp only [Call.operands,Array.toList_append,pV];exact .inr hx)⟩ h3
   obtain ⟨x,hx,LX⟩:=nu hk
   exact h1 x (by simp only [Call.operands,Array.toList_append,pV];exact .inr hx) k LX
  ·rename_i c _ x _ hf
   have hx:aV s' x=aV s x:=bD (h1 x (by simp only [Call.operands,hf];simp))
   have key:∀ aZ:cu,(match aZ.xf with | none=>sO E aZ o s' c.args.toList | some _=>.fail)=(match aZ.xf with | none=>sO E aZ o s c.args.toList | some _=>.fail):=by
    intro aZ
    cases WB:aZ.xf with
    | none=>
     have hc:uj E aZ o s' c.args.toList=uj E aZ o s c.args.toList:=by
      refine OP ⟨fun k hk=>?_,fun x hx=>h2 trivial x (by simp only [Call.operands,Array.toList_append,pV];exact .inr hx)⟩ h3
      obtain ⟨x,hx,LX⟩:=nu hk
      exact h1 x (by simp only [Call.operands,Array.toList_append,pV];exact .inr hx) k LX
     unfold uj at hc;rw [WB] at hc;exact hc
    | some _=>rfl
   rw [hx]
   cases aV s x<;>first | rfl | skip
   ·rename_i f
    simp only
    cases Γ (ckey E o f) with
    | none=>rfl
    | some aZ=>
     cases Nat.blt f 1000000 with
     | false=>rfl
     | true=>exact key aZ
   ·rename_i f t v
    have hc:∀ aZ:cu,JI E aZ o s' c.args.toList (.jQ t [v] 0 0)=JI E aZ o s c.args.toList (.jQ t [v] 0 0):=by
     intro aZ;unfold JI
     rw [JW (s:=(2*E.n,.jQ t [v] 0 0)::s) (s':=(2*E.n,.jQ t [v] 0 0)::s') ⟨fun k hk=>?_,fun y hy id hid=>?_⟩ (fun tt ht=>?_)]
     ·obtain ⟨y,hy,hky⟩:=nu hk
      rw [aD,aD]
      by_cases OT:k=2*E.n
      ·rw [if_pos OT,if_pos OT]
      ·rw [if_neg OT,if_neg OT]
       rcases List.mem_append.1 hy with hy | hy
       ·exact h1 y (by simp only [Call.operands,Array.toList_append,pV];exact .inr hy) k hky
       ·rw [List.mem_singleton.1 hy] at hky
        simp only [ak,List.mem_cons,List.not_mem_nil,or_false] at hky;exact absurd hky OT
     ·have ek:¬ 2*id+1=2*E.n:=by omega
      rw [aD,aD,if_neg ek,if_neg ek]
      have hy':aV ((2*E.n,.jQ t [v] 0 0)::s) y = .jQ t [v] 0 0∨(y∈c.args.toList∧aV ((2*E.n,.jQ t [v] 0 0)::s) y=aV s y):=by
       cases y with
       | tmp u=>
        by_cases hu:u=E.n
        ·left
         subst hu;show get ((2*E.n,_)::s) (2*E.n)=_;rw [aD,if_pos rfl]
        ·right
         rcases List.mem_append.1 hy with hy | hy
         ·refine ⟨hy,?_⟩
          show get ((2*E.n,_)::s) (2*u)=get s (2*u);rw [aD,if_neg (ah0 hu)]
         ·have:=List.mem_singleton.1 hy
          injection this with this
          exact absurd this hu
       | _=>
        right
        rcases List.mem_append.1 hy with hy | hy
        ·exact ⟨hy,rfl⟩
        ·cases List.mem_singleton.1 hy
      rcases hy' with he | ⟨hm,he⟩
      ·rw [he] at hid
       simp [jv,bW] at hid
      ·rw [he] at hid
       exact h2 trivial y (by simp only [Call.operands,Array.toList_append,pV];exact .inr hm) id hid
     ·have ek:¬ 2*tt+1=2*E.n:=Z8 _ _
      rw [aD,aD,if_neg ek,if_neg ek];exact h3 tt ht
    simp only
    cases Γ (ckey E o f) with
    | none=>rfl
    | some aZ=>
     simp only [hc]
  ·rename_i c _ _ _
   have Iq:∀ x∈c.args.toList,∀ id∈jv (aV s x),get s' (2*id+1)=get s (2*id+1):=fun x hx=>h2 trivial x (by simp only [Call.operands,Array.toList_append,pV];exact .inr hx)
   have BA:∀ x∈c.args.toList,∀ k∈ak [x],get s' k=get s k:=fun x hx=>h1 x (by simp only [Call.operands,Array.toList_append,pV];exact .inr hx)
   have hp:jB E o s' c.args.toList=jB E o s c.args.toList:=by
    unfold jB
    cases Nat.beq (tag E o) 10 with
    | false=>rfl
    | true=>
     simp only [aQ];generalize c.args.toList=l at BA Iq
     cases l with
     | nil=>rfl
     | cons x r=>
      cases x<;>first | rfl | skip
      rename_i u
      have hu:get s' (2*u)=get s (2*u):=BA (.tmp u) uD _ (by simp [ak])
      simp only [hu]
      cases hx:get s (2*u)<;>first | rfl | skip
      rename_i X st
      have hX:get s' (2*X+1)=get s (2*X+1):=Iq (.tmp u) uD X (by
       show X∈jv (get s (2*u));rw [hx]
       simp [jv,bW])
      unfold qg;simp only [hX,hx,hu]
   unfold FZ;rw [hp]
   have hA:Agr o (jB E o s c.args.toList++s) (jB E o s c.args.toList++s'):=by
    refine ⟨fun x hx k hk=>mV _ (h.sh x hx k hk),fun hd x hx id hid=>mV _ ?_,fun t ht=>mV _ (h.dt t ht)⟩
    refine h.bx hd x hx id ?_
    revert hid
    unfold jB
    cases Nat.beq (tag E o) 10 with
    | false=>exact RG
    | true=>
     simp only [aQ];split
     ·rename_i u _
      split
      ·rename_i X st hX
       intro hid;exact WR hX hid
      ·exact RG
     ·exact RG
   rw [Gm hA]
 ·exact Gm h
theorem Gn {x:Operand} {k:Nat}:∀ {xs:List Operand},x∈xs→k∈qG s x→k∈j6 s xs
 | y::r,h,hk=>by
  simp only [j6,pV]
  rcases lC h with rfl | h
  ·exact .inl hk
  ·exact .inr (Gn h hk)
theorem ah2 {all:List Oper} (h:∀ k∈reads all o s,get s' k=get s k):Agr o s s':=by
 simp only [reads,pV] at h
 refine ⟨fun x hx k hk=>h k (.inr (.inr ?_)),fun hd x hx id hid=>h _ (.inr (.inr ?_)),fun t ht=>h _ (.inr (.inl ?_))⟩
 ·cases deep o.op with
  | true=>exact Iz hx k hk
  | false=>exact qj hx k hk
 ·rw [hd]
  exact Gn hx (Rs hid)
 ·rw [ht];simp
theorem Z9 {Γ:Af} {all:List Oper} (h:∀ k∈reads all o s,get s' k=get s k):Nj E Γ all o s' = Nj E Γ all o s:=by
 have hA:=ah2 h;unfold Nj;split
 ·exact RH hA
 ·rename_i j want hg
  split
  ·rfl
  ·rename_i t ht
   have:get s' (2*t)=get s (2*t):=h _ (by simp [reads,hg,ht])
   rw [this];split
   ·rw [RH hA]
   ·rfl
   ·rfl
end
def qP (us:Nat→St) (S:Nat→Bool) (s0:St):Nat→St
 | 0=>s0
 | i+1=>bif S i then au (us i) (qP us S s0 i) else qP us S s0 i
theorem kK:∀ (u s s':St) (k:Nat),k∈aH u→get (au u s) k=get (au u s') k
 | [],_,_,_,h=>by simp [aH] at h
 | (k0,d)::r,s,s',k,h=>by
  show get (au r ((k0,d)::s)) k=get (au r ((k0,d)::s')) k
  by_cases hk:k∈aH r
  ·exact kK r _ _ k hk
  ·rw [bq r _ k hk,bq r _ k hk]
   have:k=k0:=by
    simp only [aH,List.mem_cons] at h;exact h.resolve_right hk
   rw [aD,aD,if_pos this,if_pos this]
theorem Au {us:Nat→St} {S S':Nat→Bool} {s0:St} {k:Nat}:∀ {n:Nat},(∀ j,j<n→k∈aH (us j)→S j=S' j) →
 get (qP us S s0 n) k=get (qP us S' s0 n) k
 | 0,_=>rfl
 | n+1,h=>by
  have ih:=Au (s0:=s0) (n:=n) fun j hj=>h j (by omega)
  simp only [qP]
  by_cases hk:k∈aH (us n)
  ·have:=h n (by omega) hk
   rw [this]
   cases S' n with
   | true=>exact kK _ _ _ k hk
   | false=>exact ih
  ·have h1:∀ (b:Bool) (s:St),get (bif b then au (us n) s else s) k=get s k:=by
    intro b s
    cases b with
    | true=>exact bq _ _ k hk
    | false=>rfl
   rw [h1,h1];exact ih
theorem RI {us:Nat→St} {s0:St} {i:Nat}:∀ {n:Nat},i≤n→qP us (fun j=>Nat.blt j i) s0 n=qP us (fun _=>true) s0 i
 | 0,h=>by
  have:i=0:=by omega
  subst this;rfl
 | n+1,h=>by
  by_cases hi:i=n+1
  ·subst hi
   have:∀ m,m≤n+1→qP us (fun j=>Nat.blt j (n+1)) s0 m=qP us (fun _=>true) s0 m:=by
    intro m
    induction m with
    | zero=>intro _;rfl
    | succ m ih=>
     intro hm;simp only [qP]
     have:Nat.blt m (n+1)=true:=by simp [Nat.blt_eq];omega
     rw [this,ih (by omega)]
   exact this _ (bT _)
  ·have:Nat.blt n i=false:=by
    cases hb:Nat.blt n i with
    | false=>rfl
    | true=>rw [Nat.blt_eq] at hb;omega
   simp only [qP,this,bJ]
   exact RI (by omega)
structure Told (E:Env) (Γ:Af) (all:List Oper) (s0:St) (us:Nat→St) (fs:List sQ) (i:Nat) (o:Oper):Prop where
 bl:below i (dH o)=true
 un:(Nj E Γ all o (qP us (fun _=>true) s0 i)).den=some (us i)
 ft:fs[i]? = some { rd:=reads all o (qP us (fun _=>true) s0 i),wr:=aH (us i),bf:=closure (fs.take i) (dH o) }
 ap:fu (closure (fs.take i) (dH o)) { rd:=reads all o (qP us (fun _=>true) s0 i),wr:=aH (us i),bf:=closure (fs.take i) (dH o) } 0 (fs.take i)=true
theorem aac {E:Env} {Γ:Af} {kn:Kn} {o:Oper} {s u:St} (h:(F3 E Γ kn o s).den=some u):(F3 E Γ [] o s).den=some u:=by
 unfold F3 at h ⊢;split at h
 ·rename_i c x y aY
  cases hd:fE E o with
  | false=>rw [hd] at h;cases h
  | true=>
   rw [hd] at h;simp only [aQ] at h ⊢;split at h
   ·rename_i b hb
    have nil:knO [] c=none∨∃ b',c = .const (.bool b')∧knO [] c=some b'∧b' = b:=by
     cases c with
     | const v=>
      cases v<;>first | exact .inl rfl | skip
      rename_i b';refine .inr ⟨b',rfl,rfl,?_⟩
      simpa [aV,VP] using hb
     | _=>exact .inl rfl
    have key:(Rk (oI E o s (bif b then x else y))).den=some u:=by
     split at h
     ·rename_i b' _
      simp only [Out.den] at h
      cases xq:j5 b b' with
      | false=>rw [xq] at h;cases h
      | true=>
       rw [xq] at h;have:=mU xq;subst this;exact h
     ·simp only [Out.den] at h
      cases b<;>exact h
    rcases nil with nil | ⟨b',_,nil,rfl⟩
    ·rw [nil]
     simp only [Out.den]
     cases b<;>exact key
    ·rw [nil]
     have:j5 b' b' = true:=by cases b'<;>rfl
     simp only [Out.den,this,aQ];exact key
   ·cases h
 ·exact h
 ·exact h
def Alike (s s':St):Prop:=∀ k,get s' k=get s k
theorem Alike.au {s s':St} (h:Alike s s') (u:St):Alike (au u s) (au u s'):=by
 intro k
 by_cases hk:k∈aH u
 ·exact kK u s' s k hk
 ·rw [bq _ _ _ hk,bq _ _ _ hk];exact h k
theorem Alike.F3 {E:Env} {s s':St} (h:Alike s s') (Γ:Af) (kn:Kn) (o:Oper):F3 E Γ kn o s' = F3 E Γ kn o s:=RH ⟨fun _ _ k _=>h k,fun _ _ _ id _=>h _,fun _ _=>h _⟩
theorem Alike.Nj {E:Env} {s s':St} (h:Alike s s') (Γ:Af) (all:List Oper) (o:Oper):Nj E Γ all o s' = Nj E Γ all o s:=Z9 fun k _=>h k
theorem Alike.qG {s s':St} (h:Alike s s') (x:Operand):qG s' x=qG s x:=by
 cases x<;>simp only [dw.qG]
 rw [h]
theorem Alike.j6 {s s':St} (h:Alike s s'):∀ l:List Operand,j6 s' l=j6 s l
 | []=>rfl
 | x::r=>by rw [dw.j6,dw.j6,h.qG,h.j6 r]
theorem Alike.reads {s s':St} (h:Alike s s') (all:List Oper) (o:Oper):reads all o s' = reads all o s:=by
 unfold dw.reads;rw [h.j6]
theorem Alike.eB {s s':St} (h:Alike s s') (all:List Oper) (o:Oper) (fs:List sQ) (u:St):eB all o fs s' u=eB all o fs s u:=by
 unfold dw.eB;rw [h.reads]
theorem Gp {s:St} {t:Nat} {b:Bool} (hb:get s (2*t) = .bool b):Alike s ((2*t,.bool b)::s):=by
 intro k;rw [aD]
 by_cases h:k=2*t
 ·rw [if_pos h,h,hb]
 ·rw [if_neg h]
theorem LY {E:Env} {Γ:Af} {all:List Oper} {o:Oper} {l:List Oper} {kn:Kn} {fs:List sQ} {ch:List Nat} {s:St} {r:Lv} (h:(fI E Γ all (o::l) kn fs ch s).den=some r) :
 below fs.length (dH o)=true∧∃ u OC s',Alike s s'∧(Nj E Γ all o s).den=some u∧fu (closure fs (dH o)) (eB all o fs s u) 0 fs=true ∧
  (fI E Γ all l OC (fs++[eB all o fs s u]) (aH u++ch) (au u s')).den=some r:=by
 simp only [fI] at h
 cases hb:below fs.length (dH o) with
 | false=>rw [hb] at h;cases h
 | true=>
  rw [hb] at h;simp only [aQ] at h;refine ⟨rfl,?_⟩
  have cont:∀ (u:St) (OC:Kn) (s':St),Alike s s'→(Nj E Γ all o s).den=some u→(bif fu (closure fs (dH o)) (eB all o fs s u) 0 fs then fI E Γ all l OC (fs++[eB all o fs s u]) (aH u++ch) (au u s') else .fail).den=some r →
   ∃ u OC s',Alike s s'∧(Nj E Γ all o s).den=some u∧fu (closure fs (dH o)) (eB all o fs s u) 0 fs=true ∧
    (fI E Γ all l OC (fs++[eB all o fs s u]) (aH u++ch) (au u s')).den=some r:=by
   intro u OC s' h0 h1 h2
   cases ha:fu (closure fs (dH o)) (eB all o fs s u) 0 fs with
   | false=>rw [ha] at h2;cases h2
   | true=>
    rw [ha] at h2;exact ⟨u,OC,s',h0,h1,ha,h2⟩
  have refl:Alike s s:=fun _=>rfl
  split at h
  ·rename_i hg
   obtain ⟨u,hu,h⟩:=bind_some h
   exact cont u _ s refl (by unfold Nj;rw [hg];exact aac hu) h
  ·rename_i j want hg
   split at h
   ·cases h
   ·rename_i t ht
    split at h
    ·rename_i b hbo
     cases hd:fE E o with
     | false=>rw [hd] at h;cases h
     | true=>
      rw [hd] at h;simp only [aQ] at h
      have eG:Nj E Γ all o s = .ite (j5 b want) (F3 E Γ [] o s) (.ret (iP o)):=by
       unfold Nj;simp only [hg,ht,hbo,hd,aQ]
      have run:∀ (kn1 ZU:Kn) (s':St),Alike s s'→b=want→((F3 E Γ kn1 o s').bind fun u=>bif fu (closure fs (dH o)) (eB all o fs s u) 0 fs then fI E Γ all l ZU (fs++[eB all o fs s u]) (aH u++ch) (au u s') else .fail).den=some r →
       ∃ u OC s',Alike s s'∧(Nj E Γ all o s).den=some u∧fu (closure fs (dH o)) (eB all o fs s u) 0 fs=true ∧
        (fI E Γ all l OC (fs++[eB all o fs s u]) (aH u++ch) (au u s')).den=some r:=by
       intro kn1 ZU s' hA hw h;rw [hA.F3] at h;obtain ⟨u,hu,h⟩:=bind_some h;refine cont u _ s' hA ?_ h;rw [eG];subst hw
       have:j5 b b=true:=by cases b<;>rfl
       simp only [Out.den,this,aQ];exact aac hu
      have skip:∀ (ZU:Kn) (s':St),Alike s s'→j5 b want=false→(bif fu (closure fs (dH o)) (eB all o fs s (iP o)) 0 fs then fI E Γ all l ZU (fs++[eB all o fs s (iP o)]) (aH (iP o)++ch) (au (iP o) s') else .fail).den=some r →
       ∃ u OC s',Alike s s'∧(Nj E Γ all o s).den=some u∧fu (closure fs (dH o)) (eB all o fs s u) 0 fs=true ∧
        (fI E Γ all l OC (fs++[eB all o fs s u]) (aH u++ch) (au u s')).den=some r:=by
       intro ZU s' hA hw h;refine cont (iP o) _ s' hA ?_ h;rw [eG];simp only [Out.den,hw,bJ]
      split at h
      ·rename_i c _
       simp only [Out.den] at h
       cases Yz:j5 b c with
       | false=>rw [Yz] at h;cases h
       | true=>
        rw [Yz] at h;simp only [aQ] at h;have:=mU Yz;subst this
        cases hcw:j5 b want with
        | true=>
         rw [hcw] at h;exact run _ _ s refl (mU hcw) h
        | false=>
         rw [hcw] at h;exact skip _ s refl hcw h
      ·simp only [Out.den] at h
       cases hbw:j5 b want with
       | true=>
        rw [hbw] at h;have e:=mU hbw;subst e;exact run _ _ _ (Gp hbo) rfl h
       | false=>
        rw [hbw] at h
        have e:b=LG want:=by cases b<;>cases want<;>first | rfl | cases hbw
        rw [e] at hbo;exact skip _ _ (Gp hbo) hbw h
    ·rename_i hbo
     cases hd:fE E o with
     | false=>rw [hd] at h;cases h
     | true=>
      rw [hd] at h;simp only [aQ] at h;refine cont (iP o) _ s refl ?_ h;unfold Nj;simp only [hg,ht,hbo,hd,aQ];rfl
    ·cases h
theorem OU {E:Env} {Γ:Af} {all:List Oper} {s0:St}:∀ (l:List Oper) (kn:Kn) (yD:List sQ) (UE:Nat→St) (ch:List Nat) (r:Lv) (σ:St),Alike (qP UE (fun _=>true) s0 yD.length) σ →
 (fI E Γ all l kn yD ch σ).den=some r →
 ∃ us fs,(∀ j,j<yD.length→us j=UE j)∧(∀ j,j<yD.length→fs[j]? = yD[j]?)∧fs.length=yD.length+l.length ∧
  (∀ j o,l[j]? = some o→Told E Γ all s0 us fs (yD.length+j) o)∧r.e=0∧Alike (qP us (fun _=>true) s0 fs.length) r.s ∧
  (∀ k,k ∉ r.ch→k ∉ ch∧get r.s k=get (qP UE (fun _=>true) s0 yD.length) k)
 | [],kn,yD,UE,ch,r,σ,hσ,h=>by
  simp only [fI,Out.den,bn] at h;subst h
  exact ⟨UE,yD,fun _ _=>rfl,fun _ _=>rfl,rfl,fun j o hj=>by simp at hj,rfl,hσ,fun k hk=>⟨hk,hσ k⟩⟩
 | o::l,kn,yD,UE,ch,r,σ,hσ,h=>by
  obtain ⟨hb,u,OC,σ',hA,hu,ha,h⟩:=LY h;rw [hσ.Nj] at hu;rw [hσ.eB] at ha h
  have hσ':Alike (qP UE (fun _=>true) s0 yD.length) σ':=fun k=>(hA k).trans (hσ k)
  generalize hg:eB all o yD (qP UE (fun _=>true) s0 yD.length) u=g at h ha
  have gG:∀ (us1:Nat→St),(∀ j,j<yD.length→us1 j=UE j)→∀ m,m≤yD.length→qP us1 (fun _=>true) s0 m=qP UE (fun _=>true) s0 m:=by
   intro us1 h1 m
   induction m with
   | zero=>intro _;rfl
   | succ m ih=>
    intro hm;simp only [qP,aQ]
    rw [ih (by omega),h1 m (by omega)]
  have key:=OU l OC (yD++[g]) (fun j=>if j=yD.length then u else UE j) (aH u++ch) r (au u σ') (by
   simp only [nP,lD,List.length_nil,qP,aQ,if_true]
   rw [gG _ (fun j hj=>if_neg (by omega)) _ (bT _)]
   exact hσ'.au u) h
  obtain ⟨us,fs,k1,k2,k3,k4,k5,k6,k7⟩:=key;simp only [nP,lD,List.length_nil] at k1 k2 k3 k4 k7
  have e1:∀ j,j<yD.length→us j=UE j:=fun j hj=>by rw [k1 j (by omega),if_neg (by omega)]
  have e2:us yD.length=u:=by rw [k1 _ (by omega),if_pos rfl]
  have e3:∀ j,j<yD.length→fs[j]? = yD[j]?:=fun j hj=>by rw [k2 j (by omega),List.getElem?_append_left hj]
  have e4:fs.take yD.length=yD:=by
   apply List.ext_getElem?;intro j
   by_cases hj:j<yD.length
   ·rw [List.getElem?_take_of_lt hj];exact e3 j hj
   ·rw [List.getElem?_eq_none (by simp;omega),List.getElem?_eq_none (by omega)]
  have e5:=gG us e1 _ (bT _)
  refine ⟨us,fs,e1,e3,by simp only [lD];omega,?_,k5,k6,?_⟩
  ·intro j o' hj
   cases j with
   | zero=>
    simp only [List.getElem?_cons_zero,bn] at hj;subst hj;refine ⟨hb,?_,?_,?_⟩
    ·rw [Nat.add_zero,e5,e2];exact hu
    ·rw [Nat.add_zero,e5,e2,e4]
     have Gq:({ rd:=reads all o (qP UE (fun _=>true) s0 yD.length),wr:=aH u,bf:=closure yD (dH o) }:sQ)=g:=hg
     rw [Gq,k2 _ (by omega),List.getElem?_append_right (bT _)];simp
    ·rw [Nat.add_zero,e5,e2,e4]
     have Gq:({ rd:=reads all o (qP UE (fun _=>true) s0 yD.length),wr:=aH u,bf:=closure yD (dH o) }:sQ)=g:=hg
     rw [Gq];exact ha
   | succ j=>
    have:=k4 j o' (by simpa using hj)
    rw [show yD.length+(j+1)=yD.length+(0+1)+j from by omega]
    simpa using this
  ·intro k hk
   obtain ⟨q1,q2⟩:=k7 k hk;simp only [pV,not_or] at q1;refine ⟨q1.2,?_⟩;rw [q2];simp only [qP,aQ,if_true]
   rw [gG _ (fun j hj=>if_neg (by omega)) _ (bT _)]
   exact bq _ _ k q1.1
theorem wJ {i:Nat}:∀ {l:List Nat},below i l=true→∀ j∈l,j<i
 | [],_,j,h=>by simp at h
 | x::r,hb,j,h=>by
  simp only [below,dA,Nat.blt_eq] at hb
  rcases lC h with rfl | h
  ·exact hb.1
  ·exact wJ hb.2 j h
theorem wK {k:Nat}:∀ {xs ys:List Nat},k∈union xs ys↔k∈xs∨k∈ys
 | [],ys=>by simp [union]
 | x::xs,ys=>by
  simp only [union]
  cases hm:mem x ys with
  | true=>
   have:=mem_iff.1 hm;simp only [aQ,wK,List.mem_cons];constructor
   ·rintro (h | h)
    ·exact .inl (.inr h)
    ·exact .inr h
   ·rintro ((rfl | h) | h)
    ·exact .inr this
    ·exact .inl h
    ·exact .inr h
  | false=>
   simp only [bJ,wK,List.mem_cons];constructor
   ·rintro (h | rfl | h)
    ·exact .inl (.inr h)
    ·exact .inl (.inl rfl)
    ·exact .inr h
   ·rintro ((rfl | h) | h)
    ·exact .inr (.inl rfl)
    ·exact .inl h
    ·exact .inr (.inr h)
theorem qm {fs:List sQ} {j:Nat}:∀ {l:List Nat},j∈closure fs l→∃ x∈l,j=x∨∃ f,fs[x]? = some f∧j∈f.bf
 | [],h=>by simp [closure] at h
 | x::r,h=>by
  simp only [closure] at h;split at h
  ·rename_i f hf
   rcases wK.1 h with h | h
   ·rcases lC h with h | h
    ·exact ⟨x,by simp,.inl h⟩
    ·exact ⟨x,by simp,.inr ⟨f,hf,h⟩⟩
   ·obtain ⟨y,h1,h2⟩:=qm h
    exact ⟨y,by simp [h1],h2⟩
  ·rcases wK.1 h with h | h
   ·simp only [List.mem_cons,List.not_mem_nil,or_false] at h
    exact ⟨x,by simp,.inl h⟩
   ·obtain ⟨y,h1,h2⟩:=qm h
    exact ⟨y,by simp [h1],h2⟩
theorem rM {k:Nat}:∀ {xs ys:List Nat},meets xs ys=false→k∈xs→k∈ys→False
 | x::r,ys,h,h1,h2=>by
  simp only [meets,Bool.or_eq_false_iff] at h
  rcases lC h1 with rfl | h1
  ·have:=mem_iff.2 h2
   rw [h.1] at this;cases this
  ·exact rM h.2 h1 h2
theorem sV {bf:List Nat} {g:sQ}:∀ {l:List sQ} {i j:Nat} {f:sQ},fu bf g i l=true→l[j]? = some f→(i+j)∈bf∨apart f g=true
 | [],i,j,f,_,h=>by simp at h
 | x::r,i,0,f,h,hf=>by
  simp only [fu,dA,Bool.or_eq_true] at h;simp only [List.getElem?_cons_zero,bn] at hf;subst hf
  rcases h.1 with h | h
  ·exact .inl (mem_iff.1 h)
  ·exact .inr h
 | x::r,i,j+1,f,h,hf=>by
  simp only [fu,dA] at h
  rw [show i+(j+1)=i+1+j from by omega]
  exact sV h.2 (by simpa using hf)
theorem filter_lt {p q:Nat→Bool} {x:Nat}:∀ {l:List Nat},l.Nodup→(∀ j,q j=true→p j=true)→x∈l→p x=true→q x=false→(l.filter q).length<(l.filter p).length
 | [],_,_,h,_,_=>by simp at h
 | y::r,hn,hs,hx,hp,hq=>by
  have hn':=List.nodup_cons.1 hn
  have le:(r.filter q).length≤(r.filter p).length:=by
   clear hn hn' hx
   induction r with
   | nil=>simp
   | cons z r ih=>
    simp only [List.filter_cons]
    by_cases hz:q z=true
    ·rw [if_pos hz,if_pos (hs z hz)];simpa using ih
    ·rw [if_neg hz]
     split
     ·simp only [lD];omega
     ·exact ih
  simp only [List.filter_cons]
  rcases lC hx with rfl | hx
  ·rw [hp,hq]
   simp only [xD,if_false,if_true,lD];omega
  ·have ih:=filter_lt hn'.2 hs hx hp hq
   by_cases hz:q y=true
   ·rw [if_pos hz,if_pos (hs y hz)];simpa using ih
   ·rw [if_neg hz]
    split
    ·simp only [lD];omega
    ·exact ih
section
variable {P:Program} {E:Env} {C:Ctx}
theorem Rel.world {s:St} {a:Act} {w w':World} {G:Nat→Nat} {pt:Nat→Nat→Option Value} (R:Rel E C s a w G pt) (hh:w'.heap=w.heap) (ho:w'.os=w.os)
 (hp:w'.output=w.output) (ht:w'.tape=w.tape):Rel E C s a w' G pt:=by
 have hc:∀ b o,w'.cell? ⟨b,o,none⟩=w.cell? ⟨b,o,none⟩:=fun b o=>cell_of_heap (by rw [hh]) o
 refine R.step (fun _=>False) (fun _=>False) (fun _=>False) rfl R.df (fun _ _=>⟨rfl,rfl⟩) (fun _ _=>⟨rfl,rfl⟩) ⟨fun b o _=>hc b o,fun b=>bT _⟩
  (fun _ _ _ h=>h) (fun b _ _=>⟨by rw [hh],rfl⟩) (fun _ h=>h.elim) (fun _ h=>h.elim) (fun _ h=>h.elim) (fun _ h=>h.elim) (fun _ h=>h.elim) ?_
  (fun b hb=>R.gz b (by rw [←hh];exact hb)) ho hp ht (by rw [hh];exact bT _)
 intro c1 c2 b
 have:TC E.n C.m s a w' pt b=TC E.n C.m s a w pt b:=by
  unfold TC
  rw [aG fun i _=>c1 i id b,aG fun i _=>c2 i id b]
 rw [this,hh];exact ⟨R.ct b,R.cb b⟩
theorem aad {Γ:Af} (aae:P.follows .mixedOrders=true) (H:Ux P E Γ C):Uy P E Γ C:=by
 intro id ops ch s0 r hr
 obtain ⟨us,fs,-,-,hlen,agn,he,hs,gG⟩:=OU (E:=E) (Γ:=Γ) (all:=ops.toList) (s0:=s0) ops.toList [] [] (fun _=>[]) ch r s0 (fun _=>rfl) hr
 simp only [List.length_nil,Nat.zero_add,qP] at hlen agn gG
 have hn:fs.length=ops.size:=by simpa using hlen
 refine ⟨fun s' h0 k hk=>?_,?_⟩
 ·obtain ⟨h1,h2⟩:=gG k hk
  rw [h2];exact h0 k h1
 intro a w G pt R;refine wp_region_any aae ?_
 have R:Rel E C s0 a { w with drawn:=w.drawn+1 } G pt:=R.world rfl rfl rfl rfl
 generalize { w with drawn:=w.drawn+1 }=w at R
 -- one operation's facts
 have T:∀ i o,ops[i]? = some o→Told E Γ ops.toList s0 us fs i o:=fun i o h=>agn i o (by simpa using h)
 have bfS:∀ (S:Nat→Bool),(∀ i o,ops[i]? = some o→S i=true→∀ j∈dH o,S j=true)→∀ i f,fs[i]? = some f→S i=true→∀ j∈f.bf,S j=true:=by
  intro S hS i
  induction i using Nat.strongRecOn with
  | _ i ih=>
   intro f hf hi j hj
   have aT:i<ops.size:=by
    have:=(List.getElem?_eq_some_iff.1 hf).1;omega
   have ho:ops[i]? = some ops[i]:=by simp [aT]
   have t:=T i _ ho;rw [t.ft] at hf;simp only [bn] at hf;subst hf;obtain ⟨x,hx,hj⟩:=qm hj;have hSx:=hS i _ ho hi x hx
   rcases hj with rfl | ⟨f,hf,hj⟩
   ·exact hSx
   ·have aT:=wJ t.bl x hx
    rw [List.getElem?_take_of_lt aT] at hf;exact ih x aT f hf hSx j hj
 have gd:∀ {L:Array Bool} {j:Nat},L.size=ops.size→j<ops.size→L.getD j false=L.getD j true:=by
  intro L j h1 h2;simp [h1,h2]
 have fin:∀ (L:Array Bool) (a:Act) (w:World) (G:Nat→Nat) (pt:Nat→Nat→Option Value),L.size=ops.size→(∀ i,i<ops.size→L.getD i true=true) →
  Rel E C (qP us (fun i=>L.getD i false) s0 ops.size) a w G pt→Post E C r .normal a w:=by
  intro L a w G pt hL oO R
  refine ⟨by rw [he];rfl,G,pt,?_⟩
  refine R.congr fun k=>(hs k).trans ?_
  rw [hn]
  refine Au fun j hj _=>?_
  rw [gd hL hj,oO j hj]
 have key:∀ (fuel:Nat) (L:Array Bool) (a:Act) (w:World) (G:Nat→Nat) (pt:Nat→Nat→Option Value),L.size=ops.size →
  (∀ i o,ops[i]? = some o→L.getD i false=true→∀ j∈dH o,L.getD j false=true) →
  ((List.range ops.size).filter fun i=>!L.getD i true).length≤fuel →
  Rel E C (qP us (fun i=>L.getD i false) s0 ops.size) a w G pt→wpAny P .any ops (Post E C r) fuel L a w:=by
  intro fuel
  induction fuel with
  | zero=>
   intro L a w G pt hL hS hf R
   have all:∀ i,i<ops.size→L.getD i true=true:=by
    intro i hi;have yh:=List.length_eq_zero_iff.1 (Nat.le_zero.1 hf)
    cases hb:L.getD i true with
    | true=>rfl
    | false=>
     have:i∈(List.range ops.size).filter fun i=>!L.getD i true:=by
      rw [List.mem_filter,List.mem_range,hb];exact ⟨hi,rfl⟩
     rw [yh] at this;simp at this
   refine ⟨?_,fin L a w G pt hL all R⟩;apply List.eq_nil_iff_forall_not_mem.2;intro i hi;obtain ⟨h1,o,h2,_⟩:=mem_ready.1 hi;have:=all i (E5 h2).1;rw [h1] at this;cases this
  | succ fuel ih=>
   intro L a w G pt hL hS hf R
   refine ⟨fun yh=>fin L a w G pt hL (fun i hi=>?_) R,fun i hi=>?_⟩
   ·induction i using Nat.strongRecOn with
    | _ i ih2=>
     cases hb:L.getD i true with
     | true=>rfl
     | false=>
      exfalso
      have ho:ops[i]? = some ops[i]:=by simp [hi]
      have:i∈Region.ready .any ops L:=by
       refine mem_ready.2 ⟨hb,ops[i],ho,fun e he hbe=>?_⟩
       have hm:e.on∈dH ops[i]:=by
        simp only [dH,List.mem_map,List.mem_filter]
        exact ⟨e,⟨by simpa using he,hbe⟩,rfl⟩
       have aT:=wJ (T i _ ho).bl _ hm
       rw [gd hL (by omega)]
       exact ih2 e.on aT (by omega)
      rw [yh] at this;simp at this
   ·obtain ⟨hi0,o,ho,hed⟩:=mem_ready.1 hi
    have aT:=(E5 ho).1;have t:=T i o ho
    have WS:∀ j∈dH o,L.getD j false=true:=by
     intro j hj;simp only [dH,List.mem_map,List.mem_filter] at hj;obtain ⟨e,⟨h1,h2⟩,rfl⟩:=hj
     exact hed e (by simpa using h1) h2
    have hi1:L.getD i false=false:=by rw [gd hL aT];exact hi0
    have cl:=bfS (fun j=>L.getD j false) hS
    -- what comes before for sure is done
    have cb:∀ j∈closure (fs.take i) (dH o),L.getD j false=true:=by
     intro j hj;obtain ⟨x,hx,hj⟩:=qm hj
     rcases hj with rfl | ⟨f,hf,hj⟩
     ·exact WS j hx
     ·have hxl:=wJ t.bl x hx
      rw [List.getElem?_take_of_lt hxl] at hf;exact cl x f hf (WS x hx) j hj
    -- an earlier one that is not done is apart
    have early:∀ j,j<i→L.getD j false=false→∀ f,fs[j]? = some f→∀ k∈f.wr,k∈reads ops.toList o (qP us (fun _=>true) s0 i)∨k∈aH (us i)→False:=by
     intro j hj hb f hf k hk h
     rcases sV t.ap (by rw [List.getElem?_take_of_lt hj];exact hf) with h1 | h1
     ·have:=cb _ h1
      rw [Nat.zero_add,hb] at this;cases this
     ·simp only [apart,dA,Bool.not_eq_true'] at h1
      rcases h with h | h
      ·exact rM h1.1.1 hk h
      ·exact rM h1.1.2 hk h
    -- a later one that is done is apart
    have late:∀ j,i<j→L.getD j false=true→∀ f,fs[j]? = some f→∀ k∈f.wr,k∈reads ops.toList o (qP us (fun _=>true) s0 i)∨k∈aH (us i)→False:=by
     intro j hj hb f hf k hk h
     have hjn:j<ops.size:=by
      have:=(List.getElem?_eq_some_iff.1 hf).1;omega
     have hoj:ops[j]? = some ops[j]:=by simp [hjn]
     have tj:=T j _ hoj;have hf':=tj.ft;rw [hf] at hf';simp only [bn] at hf';subst hf'
     rcases sV tj.ap (by rw [List.getElem?_take_of_lt hj];exact t.ft) with h1 | h1
     ·have:=cl j _ hf hb i (by simpa using h1)
      rw [hi1] at this;cases this
     ·simp only [apart,dA,Bool.not_eq_true'] at h1
      rcases h with h | h
      ·exact rM h1.2 hk h
      ·exact rM h1.1.2 h hk
    have wr:∀ j,j<ops.size→∃ f,fs[j]? = some f∧f.wr=aH (us j):=by
     intro j hj
     exact ⟨_,(T j ops[j] (by simp [hj])).ft,rfl⟩
    -- it reads what it reads in order
    have rd:∀ k∈reads ops.toList o (qP us (fun _=>true) s0 i),get (qP us (fun j=>L.getD j false) s0 ops.size) k=get (qP us (fun _=>true) s0 i) k:=by
     intro k hk;rw [←RI (n:=ops.size) (Nat.le_of_lt aT)]
     refine Au fun j hj hkj=>?_
     obtain ⟨f,hf,hw⟩:=wr j hj;rw [←hw] at hkj
     by_cases hji:j<i
     ·have YA:Nat.blt j i=true:=by rw [Nat.blt_eq];exact hji
      rw [YA]
      cases hb:L.getD j false with
      | true=>rfl
      | false=>exact (early j hji hb f hf k hkj (.inl hk)).elim
     ·have YA:Nat.blt j i=false:=by
       cases hb:Nat.blt j i with
       | false=>rfl
       | true=>rw [Nat.blt_eq] at hb;omega
      rw [YA]
      cases hb:L.getD j false with
      | false=>rfl
      | true=>
       rcases Nat.lt_or_ge i j with h | h
       ·exact (late j h hb f hf k hkj (.inl hk)).elim
       ·have:j=i:=by omega
        subst this;rw [hi1] at hb;cases hb
    have un:=t.un;rw [←Z9 rd] at un
    -- behind it
    have after:∀ k,get (au (us i) (qP us (fun j=>L.getD j false) s0 ops.size)) k=get (qP us (fun j=>(L.setIfInBounds i true).getD j false) s0 ops.size) k:=by
     intro k
     by_cases hk:k∈aH (us i)
     ·have h1:get (qP us (fun j=>(L.setIfInBounds i true).getD j false) s0 ops.size) k=get (qP us (fun j=>Nat.blt j (i+1)) s0 ops.size) k:=by
       refine Au fun j hj hkj=>?_
       obtain ⟨f,hf,hw⟩:=wr j hj;rw [←hw] at hkj
       by_cases hji:j=i
       ·subst hji
        have:Nat.blt j (j+1)=true:=by rw [Nat.blt_eq];omega
        rw [this];simp [hL,hj]
       ·rw [getD_set_ne false (Ne.symm hji)]
        by_cases ah3:j<i
        ·have YA:Nat.blt j (i+1)=true:=by rw [Nat.blt_eq];omega
         rw [YA]
         cases hb:L.getD j false with
         | true=>rfl
         | false=>exact (early j ah3 hb f hf k hkj (.inr hk)).elim
        ·have YA:Nat.blt j (i+1)=false:=by
          cases hb:Nat.blt j (i+1) with
          | false=>rfl
          | true=>rw [Nat.blt_eq] at hb;omega
         rw [YA]
         cases hb:L.getD j false with
         | false=>rfl
         | true=>exact (late j (by omega) hb f hf k hkj (.inr hk)).elim
      rw [h1,RI (by omega)]
      simp only [qP,aQ];exact kK _ _ _ k hk
     ·rw [bq _ _ k hk]
      refine Au fun j hj hkj=>?_
      by_cases hji:j=i
      ·subst hji;exact (hk hkj).elim
      ·rw [getD_set_ne false (Ne.symm hji)]
    have IH:∀ a' w' G' bC,Rel E C (au (us i) (qP us (fun j=>L.getD j false) s0 ops.size)) a' w' G' bC→wpAny P .any ops (Post E C r) fuel (L.setIfInBounds i true) a' w':=by
     intro a' w' G' bC R'
     refine ih (L.setIfInBounds i true) a' w' G' bC (by simpa using hL) ?_ ?_ (R'.congr fun k=>(after k).symm)
     ·intro j oj hoj hj j' nR
      by_cases hji:j=i
      ·subst hji
       rw [ho] at hoj;simp only [bn] at hoj;subst hoj;exact getD_set_true (WS j' nR)
      ·rw [getD_set_ne false (Ne.symm hji)] at hj
       exact getD_set_true (hS j oj hoj hj j' nR)
     ·refine Nat.le_of_lt_succ (mK ?_ hf)
      refine filter_lt (List.nodup_range) (x:=i) (fun j hj=>?_) (by simpa using aT) (by rw [hi0];rfl) (by simp [hL,aT])
      by_cases hji:j=i
      ·subst hji;simp [hL,aT] at hj
      ·rw [getD_set_ne true (Ne.symm hji)] at hj;exact hj
    -- the operation itself
    unfold wpOp;rw [ho];simp only;unfold Nj at un;split at un
    ·rename_i hg
     rw [if_pos (by simp [Region.wanted,hg])]
     exact .inl (H [] o _ a w G pt _ R un _ _ fun a' w' G' bC R'=>IH a' w' G' bC R')
    ·rename_i j want hg
     split at un
     ·cases un
     ·rename_i tt ht
      split at un
      ·rename_i b hb
       have hy:=OB R ht hb
       have ZV:Region.wanted o (yielded ops a.tmps)=decide (b=want):=by
        simp only [Region.wanted,hg,hy]
        cases b<;>cases want<;>rfl
       cases hd:fE E o with
       | false=>rw [hd] at un;cases un
       | true=>
        rw [hd] at un;simp only [aQ,Out.den] at un
        cases hbw:j5 b want with
        | true=>
         rw [hbw] at un
         rw [ZV,if_pos (by simpa using mU hbw)]
         exact .inl (H [] o _ a w G pt _ R un _ _ fun a' w' G' bC R'=>IH a' w' G' bC R')
        | false=>
         rw [hbw] at un;simp only [bJ,bn] at un;have fC:=LK hbw
         rw [ZV,if_neg (by rw [fC];simp [LM])]
         refine IH _ w G pt ?_;rw [←un];exact R.skipped hd
      ·rename_i hb
       have hy:=Gb R ht hb
       have ZV:Region.wanted o (yielded ops a.tmps)=false:=by
        simp only [Region.wanted,hg,hy]
        cases want<;>rfl
       cases hd:fE E o with
       | false=>rw [hd] at un;cases un
       | true=>
        rw [hd] at un;simp only [aQ,Out.den,bn] at un
        rw [ZV,if_neg (by simp)]
        refine IH _ w G pt ?_;rw [←un];exact R.skipped hd
      ·cases un
 refine key ops.size _ a w G pt (by simp) (fun i o _ hi=>?_) ?_ ?_
 ·exfalso
  rw [xE,Array.getElem?_replicate] at hi
  split at hi<;>simp at hi
 ·refine gX (List.length_filter_le _ _) ?_
  simp
 ·have h0:∀ n,qP us (fun i=>(Array.replicate ops.size false).getD i false) s0 n=s0:=by
   intro n
   induction n with
   | zero=>rfl
   | succ n ih=>
    simp only [qP]
    have:(Array.replicate ops.size false).getD n false=false:=by
     rw [xE,Array.getElem?_replicate]
     split<;>rfl
    rw [this];exact ih
  rw [h0];exact R
end
end Go.dw