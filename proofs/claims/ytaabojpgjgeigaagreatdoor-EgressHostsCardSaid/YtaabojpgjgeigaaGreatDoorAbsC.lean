/- The abstract evaluator, part 3: proved is that regions, branches, blocks and loops that the evaluator runs do what the run says, in every order that a region allows; no conditions but those that each theorem states. -/
import Derived.Test.YtaabojpgjgeigaaGreatDoorAbsB
import Derived.Scope
set_option linter.unusedVariables false
set_option linter.unusedSimpArgs false
namespace Go.gI
inductive Out (R:Type) where
 | ret (r:R)
 | fail
 | ite (c:Bool) (a b:Out R)
 | call (t:Ty) (r:Option t.den) (k:t.den→Out R)
def Out.den {R:Type}:Out R→Option R
 | .ret r=>some r
 | .fail=>none
 | .ite c a b=>bif c then a.den else b.den
 | .call _ r k=>match r with
  | some x=>(k x).den
  | none=>none
def Out.bind {R S:Type}:Out R→(R→Out S)→Out S
 | .ret r,f=>f r
 | .fail,_=>.fail
 | .ite c a b,f=>.ite c (a.bind f) (b.bind f)
 | .call t r k,f=>.call t r (fun x=>(k x).bind f)
def ji (a:Bool):Bool→Bool
 | true=>a
 | false=>(match a with
  | true=>false
  | false=>true)
inductive Lf where
 | cst (d:D) | int (k:IntKind) | bool | str | sl (f:Nat) (t:Ty) | gM (f:Nat) (t:Ty) | vp (t:Ty) | av (k:IntKind) | va (k:IntKind)
inductive Sh where
 | lf (l:Lf) | agg (ls:List Lf) | aI (st:Nat) (live:Bool) (ls:List Lf) | aW (st:Nat) (live ar:Bool) (t:Ty) | dP (st:Nat) (t:Ty)
@[reducible] def Lf.ty:Lf→Ty
  | .cst _=>.unit
  | .int k=>.int k
  | .bool=>.bool
  | .str=>.str
  | .sl _ t=>.sl t
  | .gM f t=>.gM f t
  | .vp t=>t
  | .av k=>.sl (.int k)
  | .va k=>.sl (.int k)
@[reducible] def fQ:List Lf→Ty
  | []=>.unit
  | l::r=>.cons l.ty (fQ r)
@[reducible] def Sh.ty:Sh→Ty
  | .lf l=>l.ty
  | .agg ls=>fQ ls
  | .aI _ _ ls=>fQ ls
  | .aW _ _ _ t=>.sl t
  | .dP _ t=>.sl (.sl t)
@[reducible] def jT:List Sh→Ty
  | []=>.unit
  | l::r=>.cons l.ty (jT r)
def Lf.con:(l:Lf)→l.ty.den→D
 | .cst d,_=>d
 | .int k,n=>.int k n
 | .bool,b=>.bool b
 | .str,s=>.str s
 | .sl f t,l=>.sl f t l
 | .gM f t,x=>.gM f t x
 | .vp t,x=>.iF t [x] 0 0
 | .av k,l=>.av k l
 | .va k,l=>.O6 k l
def aN:(ls:List Lf)→(fQ ls).den→List D
 | [],_=>[]
 | l::r,x=>l.con x.1::aN r x.2
def Sh.con:(l:Sh)→l.ty.den→D
 | .lf l,x=>l.con x
 | .agg ls,x=>.agg (aN ls x)
 | .aI st live ls,x=>.aI st live (aN ls x)
 | .aW st live ar t,l=>.aW st live ar t l
 | .dP st t,l=>.dP st t l none
def keq:D→D→Bool
 | .undef,.undef=>true
 | .jK,.jK=>true
 | .ptr a b c,.ptr a' b' c'=>Nat.beq a a' && Nat.beq b b' && Nat.beq c c'
 | .sj a b,.sj a' b'=>Nat.beq a a' && Nat.beq b b'
 | .gZ a b,.gZ a' b'=>Nat.beq a a' && Nat.beq b b'
 | .BZ a b c,.BZ a' b' c'=>Nat.beq a a' && Nat.beq b b' && Nat.beq c c'
 | .BS a,.BS a'=>Nat.beq a a'
 | _,_=>false
theorem Na {a b:D} (h:keq a b=true):a=b:=by
 cases a<;>cases b<;>simp only [keq,sI,bP] at h<;>first | rfl | skip
 ·rw [dM h.1.1,dM h.1.2,dM h.2]
 ·rw [dM h.1,dM h.2]
 ·rw [dM h.1,dM h.2]
 ·rw [dM h.1.1,dM h.1.2,dM h.2]
 ·rw [dM h]
def Lf.abs:(l:Lf)→D→Option l.ty.den
 | .cst d,d'=>bif keq d d' then some () else none
 | .int k,.int k' n=>bif jm k k' then some n else none
 | .bool,.bool b=>some b
 | .str,.str s=>some s
 | .sl f t,.sl f' t' l=>bif Nat.beq f f' then (if h:t'.beq t=true then some (uJ (Ty.eq_of_beq h) l) else none) else none
 | .gM f t,.gM f' t' x=>if h:(Ty.gM f' t').beq (.gM f t)=true then some (KD (Ty.eq_of_beq h) x) else none
 | .vp t,.iF t' [x] 0 0=>if h:t'.beq t=true then some (KD (Ty.eq_of_beq h) x) else none
 | .av k,.av k' l=>bif jm k k' then some l else none
 | .va k,.O6 k' l=>bif jm k k' then some l else none
 | _,_=>none
def pI:(ls:List Lf)→List D→Option (fQ ls).den
 | [],[]=>some ()
 | l::r,d::ds=>match l.abs d,pI r ds with
  | some x,some y=>some (x,y)
  | _,_=>none
 | _,_=>none
def Sh.abs:(l:Sh)→D→Option l.ty.den
 | .lf l,d=>l.abs d
 | .agg ls,.agg cs=>pI ls cs
 | .aI st live ls,.aI st' Ag cs=>bif Nat.beq st st' && ji live Ag then pI ls cs else none
 | .aW st live ar t,.aW st' Ag ar' t' l=>bif Nat.beq st st' && ji live Ag&&ji ar ar' then (if h:t'.beq t=true then some (uJ (Ty.eq_of_beq h) l) else none) else none
 | .dP st t,.dP st' t' l none=>bif Nat.beq st st' then (if h:(Ty.sl t').beq (.sl t)=true then some (uJ (Ty.eq_of_beq h) l) else none) else none
 | _,_=>none
theorem Lf.mQ {l:Lf} {d:D} {x:l.ty.den} (h:l.abs d=some x):l.con x=d:=by
 cases l with
 | cst d0=>
  simp only [Lf.abs] at h
  cases hk:keq d0 d with
  | true=>exact Na hk
  | false=>simp [hk] at h
 | int k=>
  cases d<;>simp only [Lf.abs,reduceCtorEq] at h
  rename_i k' n
  cases hk:jm k k' with
  | true=>
   simp only [hk,aQ,bq] at h;subst h;rw [fq hk];rfl
  | false=>simp [hk] at h
 | bool=>
  cases d<;>simp only [Lf.abs,reduceCtorEq,bq] at h
  subst h;rfl
 | str=>
  cases d<;>simp only [Lf.abs,reduceCtorEq,bq] at h
  subst h;rfl
 | sl f t=>
  cases d<;>simp only [Lf.abs,reduceCtorEq] at h
  rename_i f' t' l
  cases hk:Nat.beq f f' with
  | true=>
   simp only [hk,aQ] at h;split at h
   ·rename_i hb
    have he:=Ty.eq_of_beq hb;subst he;simp only [bq] at h;subst h;rw [dM hk];rfl
   ·cases h
  | false=>simp [hk] at h
 | gM f t=>
  cases d<;>simp only [Lf.abs,reduceCtorEq] at h
  rename_i f' t' y;split at h
  ·rename_i hb
   have he:=Ty.eq_of_beq hb
   injection he with e1 e2
   subst e1 e2;simp only [bq] at h;subst h;rfl
  ·cases h
 | av k=>
  cases d<;>simp only [Lf.abs,reduceCtorEq] at h
  rename_i k' l
  cases hk:jm k k' with
  | true=>
   simp only [hk,aQ,bq] at h;subst h;rw [fq hk];rfl
  | false=>simp [hk] at h
 | va k=>
  cases d<;>simp only [Lf.abs,reduceCtorEq] at h
  rename_i k' l
  cases hk:jm k k' with
  | true=>
   simp only [hk,aQ,bq] at h;subst h;rw [fq hk];rfl
  | false=>simp [hk] at h
 | vp t=>
  cases d with
  | iF t' l i off=>
   match l,i,off,h with
   | [y],0,0,h=>
    have h':(if hb:t'.beq t=true then some (KD (Ty.eq_of_beq hb) y) else none)=some x:=h
    split at h'
    ·rename_i hb
     have he:=Ty.eq_of_beq hb;subst he;simp only [bq] at h';subst h';rfl
    ·cases h'
   | [],_,_,h=>cases h
   | _::_::_,_,_,h=>cases h
   | [_],_+1,_,h=>cases h
   | [_],0,_+1,h=>cases h
  | _=>cases h
theorem lJ:∀ {ls:List Lf} {ds:List D} {x:(fQ ls).den},pI ls ds=some x→aN ls x=ds
 | [],[],_,_=>rfl
 | [],_::_,_,h=>by simp [pI] at h
 | _::_,[],_,h=>by simp [pI] at h
 | l::r,d::ds,x,h=>by
  simp only [pI] at h;split at h
  ·rename_i y z h1 h2
   simp only [bq] at h;subst h;simp only [aN];rw [Lf.mQ h1,lJ h2]
  ·cases h
theorem aay {a b:Bool} (h:ji a b=true):a=b:=by cases a<;>cases b<;>first | rfl | cases h
theorem Sh.mQ {l:Sh} {d:D} {x:l.ty.den} (h:l.abs d=some x):l.con x=d:=by
 cases l with
 | lf l=>exact Lf.mQ h
 | agg ls=>
  cases d<;>simp only [Sh.abs,reduceCtorEq] at h
  simp only [Sh.con];rw [lJ h]
 | aI st live ls=>
  cases d<;>simp only [Sh.abs,reduceCtorEq] at h
  rename_i st' Ag cs
  cases hk:(Nat.beq st st' && ji live Ag) with
  | true=>
   simp only [hk,aQ] at h;simp only [bP] at hk;simp only [Sh.con];rw [lJ h,dM hk.1,aay hk.2]
  | false=>simp [hk] at h
 | aW st live ar t=>
  cases d<;>simp only [Sh.abs,reduceCtorEq] at h
  rename_i st' Ag ar' t' l
  cases hk:(Nat.beq st st' && ji live Ag&&ji ar ar') with
  | true=>
   simp only [hk,aQ] at h;simp only [bP] at hk;split at h
   ·rename_i hb
    have he:=Ty.eq_of_beq hb;subst he;simp only [bq] at h;subst h;simp only [Sh.con];rw [dM hk.1.1,aay hk.1.2,aay hk.2];rfl
   ·cases h
  | false=>simp [hk] at h
 | dP st t=>
  cases d<;>simp only [Sh.abs,reduceCtorEq] at h
  rename_i st' t' l hl
  cases hl with
  | some _=>cases h
  | none=>
   simp only at h
   cases hk:Nat.beq st st' with
   | true=>
    simp only [hk,aQ] at h;split at h
    ·rename_i hb
     have he:=Ty.eq_of_beq hb;cases he;simp only [bq] at h;subst h;simp only [Sh.con];rw [dM hk];rfl
    ·cases h
   | false=>simp [hk] at h
abbrev Pl:=List (Nat×Sh)
@[reducible] def oN:Pl→Ty
  | []=>.unit
  | p::r=>.cons p.2.ty (oN r)
def pJ:(p:Pl)→(oN p).den→St
 | [],_=>[]
 | p::r,x=>(p.1,p.2.con x.1)::pJ r x.2
def CB:(p:Pl)→St→Option (oN p).den
 | [],_=>some ()
 | p::r,s=>match p.2.abs (get s p.1),CB r s with
  | some x,some y=>some (x,y)
  | _,_=>none
def mem (k:Nat):List Nat→Bool
 | []=>false
 | x::r=>Nat.beq k x || mem k r
def bR:D→List Nat
 | .ptr id _ _ | .mH id _ _ _ _ | .gZ id _ | .BZ id _ _ | .IQ id _ _ _ _=>[id]
 | _=>[]
def eB:List D→List Nat
 | []=>[]
 | d::r=>bR d++eB r
def iC:D→List Nat
 | .agg cs=>eB cs
 | d=>bR d
def uU:List D→List Nat
 | []=>[]
 | d::r=>iC d++uU r
def refs:D→List Nat
 | .agg cs=>eB cs
 | .fO vs=>uU vs
 | .fn _ cs=>eB cs
 | .aI _ _ cs=>eB cs
 | .dP _ _ _ (some (_,X,_))=>[X]
 | d=>bR d
def strike (ks:List Nat):St→St
 | []=>[]
 | (k,d)::r=>bif mem k ks then strike ks r else (k,d)::strike (k::ks) r
def odd (k:Nat):Bool:=Nat.beq (k%2) 1
def iG:D→Bool
 | .undef=>true
 | _=>false
def closedIn (s:St):St→Bool
 | []=>true
 | (_,d)::r=>((refs d).all fun i=>!iG (get s (2*i+1)))&&closedIn s r
def iw (hp:Bool) (s:St):Bool:=closedIn s s&&(!hp || !iG (get s 1))
def bit (n k:Nat):Bool:=Nat.beq ((n >>> k)%2) 1
def Qb:List Operand→Nat
 | []=>0
 | .tmp t::r=>Nat.lor (1 <<< t) (Qb r)
 | _::r=>Qb r
def union:List Nat→List Nat→List Nat
 | [],ys=>ys
 | x::xs,ys=>bif mem x ys then union xs ys else union xs (x::ys)
structure Lv where
 e:Nat
 ch:List Nat
 s:St
def aL:St→List Nat
 | []=>[]
 | (k,_)::r=>k::aL r
def subset:List Nat→List Nat→Bool
 | [],_=>true
 | x::xs,ys=>mem x ys&&subset xs ys
def Out.l6 {R S:Type} (f:R→Option S):Out R→Out S
 | .ret r=>match f r with
  | some x=>.ret x
  | none=>.fail
 | .fail=>.fail
 | .ite c a b=>.ite c (a.l6 f) (b.l6 f)
 | .call t r k=>.call t r (fun x=>(k x).l6 f)
def Lf.arg:(l:Lf)→D→Option l.ty.den
 | .sl _ t,.jK=>some ([]:List t.den)
 | l,d=>l.abs (dw d)
def Lf.Cb (s:St):(l:Lf)→D→Option l.ty.den
 | .sl _ t,.gZ id st=>match get s (2*id+1) with
  | .aW st' true false t' l=>bif Nat.beq st st' then (if h:t'.beq t=true then some (uJ (Ty.eq_of_beq h) l) else none) else none
  | _=>none
 | .va k,.ptr id st 0=>match get s (2*id+1) with
  | .aW st' true true (.int k') l=>bif Nat.beq st st' && jm k k' then some l else none
  | _=>none
 | l,d=>l.arg d
def oO (s:St):(ls:List Lf)→List D→Option (fQ ls).den
 | [],[]=>some ()
 | l::r,d::ds=>match l.Cb s d,oO s r ds with
  | some x,some y=>some (x,y)
  | _,_=>none
 | _,_=>none
def Sh.arg (s:St):(l:Sh)→D→Option l.ty.den
 | .lf l,d=>l.Cb s d
 | .agg ls,.agg cs=>oO s ls cs
 | _,_=>none
def KR:Lf→Bool
 | .sl f _=>!Nat.beq f 0
 | _=>false
def ownSh:Sh→Bool
 | .lf l=>KR l
 | .agg ls=>ls.any KR
 | _=>false
def Lf.give:(l:Lf)→D→Option l.ty.den
 | .sl f t,.jK=>bif Nat.blt f 3 then some ([]:List t.den) else none
 | l,d=>l.abs d
def wP:(ls:List Lf)→List D→Option (fQ ls).den
 | [],[]=>some ()
 | l::r,d::ds=>match l.give d,wP r ds with
  | some x,some y=>some (x,y)
  | _,_=>none
 | _,_=>none
def Sh.give:(l:Sh)→D→Option l.ty.den
 | .lf l,d=>l.give d
 | .agg ls,.agg cs=>wP ls cs
 | _,_=>none
def Sh.Gj (s:St) (p:Sh) (d:D):Option p.ty.den:=bif ownSh p then p.give d else p.arg s d
def jc (s:St):(ps:List Sh)→List Operand→Option (jT ps).den
 | [],[]=>some ()
 | p::r,x::xs=>match p.Gj s (aX s x),jc s r xs with
  | some y,some z=>some (y,z)
  | _,_=>none
 | _,_=>none
inductive RS where
 | none | one (s:Sh) | fO (l:List Sh) | uV (ls:List Lf)
@[reducible] def RS.ty:RS→Ty
  | .none=>.unit
  | .one s=>s.ty
  | .fO l=>jT l
  | .uV ls=>fQ ls
def Ty.ok:(t:Ty)→t.den→Prop
 | .int k,n=>k.has n
 | .bool,_=>True
 | .str,l=>l.length≤jo∧∀ c∈l,0≤c∧c<256
 | .sl t,l=>l.length*t.pV≤big∧∀ x∈l,t.ok x
 | .unit,_=>True
 | .cons a b,x=>a.ok x.1∧b.ok x.2
 | .st _ c,x=>c.ok x
 | .gM _ t,x=>t.ok x
abbrev XF:=Nat→Nat→List (D×D)→Option (Bool×St)
def Qc (s:St):D→D
 | .gZ id _ | .ptr id _ _=>get s (2*id+1)
 | .agg cs=>match eB cs with
  | [id]=>get s (2*id+1)
  | _=>.undef
 | _=>.undef
def Qd (s:St) (x:Operand):D×D:=(aX s x,Qc s (aX s x))
structure aY where
 bZ:Bool
 pre:List Lf
 ps:List Sh
 rs:RS
 post:List Lf
 F:(Ty.cons (fQ pre) (jT ps)).den→Option (Ty.cons rs.ty (fQ post)).den
 xf:Option XF:=none
def dn:(l:List Sh)→(jT l).den→List D
 | [],_=>[]
 | p::r,x=>p.con x.1::dn r x.2
def isR:D→Bool
 | .gZ _ _=>true
 | .ptr _ _ _=>true
 | _=>false
def ni:D→Bool
 | .agg cs=>cs.any isR
 | d=>isR d
def oP (s:St):List Operand→Bool
 | []=>false
 | x::r=>ni (aX s x) || oP s r
def CF:Ty→Bool
 | .sl _=>false
 | .gM _ _=>false
 | .cons a b=>CF a&&CF b
 | .st _ c=>CF c
 | _=>true
def kR:Lf→Bool
 | .sl f t=>!Nat.beq f 0&&CF t
 | .cst .undef=>false
 | .cst .jK=>true
 | .cst _=>false
 | .gM _ _=>false
 | .vp _=>false
 | .va _=>false
 | _=>true
def noView:Sh→Bool
 | .lf l=>kR l
 | .agg ls=>ls.all kR
 | _=>false
def RS.noView:RS→Bool
 | .none=>true
 | .one s=>gI.noView s
 | .fO l=>l.all gI.noView
 | .uV ls=>ls.all kR
def Ah (o:Oper) (s:St) (rs:RS) (x:rs.ty.den):Option St:=
 match rs,x with
 | .none,_=>match o.dst with
  | none=>some []
  | some t=>some [(2*t,.undef)]
 | .one p,x=>some (bN o (p.con x))
 | .fO l,x=>some (bN o (.fO (dn l x)))
 | .uV ls,x=>match o.dst with
  | some t=>some [(2*t+1,.aI (aO (get s (2*t+1))+1) true (aN ls x)),(2*t,.ptr t (aO (get s (2*t+1))+1) 0)]
  | none=>none
def l7 (s:St) (xs:List Operand):St:=fT s share ko (xs.map fun x=>(0,x))
def eP:List Sh→List Operand→List Operand
 | p::ps,x::xs=>bif ownSh p then eP ps xs else x::eP ps xs
 | _,_=>[]
def bQ:List Sh→List Operand→List Operand
 | p::ps,x::xs=>bif ownSh p then x::bQ ps xs else bQ ps xs
 | _,_=>[]
def lu:List Operand→St
 | []=>[]
 | .tmp t::r=>(2*t,.undef)::lu r
 | _::r=>lu r
def pK:List Operand→List Nat
 | []=>[]
 | .tmp t::r=>2*t::pK r
 | _::r=>pK r
def Qe (x:Nat):List Nat→Bool
 | []=>false
 | y::r=>Nat.beq x y || Qe x r
def uW:List Nat→Bool
 | []=>true
 | x::r=>!Qe x r&&uW r
def wQ (ps:List Sh) (xs:List Operand):Bool:=
 match bQ ps xs with
 | []=>true
 | _=>uW (pK xs)
def yg (nv:Bool) (s:St) (ps:List Sh) (xs:List Operand):St:=(bif nv then [] else l7 s (eP ps xs))++lu (bQ ps xs)
def aY.nv (c:aY):Bool:=c.rs.noView&&c.post.all kR
def notSelf (o:Oper) (id:Nat):RS→Bool
 | .uV _=>match o.dst with
  | some t=>!Nat.beq t id
  | none=>false
 | _=>true
def oQ (E:Env) (c:aY) (o:Oper) (s:St) (args:List Operand):Out St:=
 bif eO E o then
 match c.bZ,args with
 | true,x::xs=>match aX s x with
  | .ptr id st off=>match get s (2*id+1) with
   | .aI st' true cs=>bif Nat.beq st st' && Nat.beq off 0&&(!oP s xs || c.nv)&&notSelf o id c.rs&&wQ c.ps xs then
    match pI c.pre cs,jc s c.ps xs with
    | some y,some z=>.call (.cons c.rs.ty (fQ c.post)) (c.F (y,z)) fun r=>
     match Ah o s c.rs r.1 with
     | some u=>.ret (yg c.nv s c.ps xs++(2*id+1,.aI st true (aN c.post r.2))::u)
     | none=>.fail
    | _,_=>.fail else .fail
   | _=>.fail
  | _=>.fail
 | false,xs=>bif (!oP s xs || c.nv)&&wQ c.ps xs then
  match pI c.pre [],jc s c.ps xs with
  | some y,some z=>.call (.cons c.rs.ty (fQ c.post)) (c.F (y,z)) fun r=>
   match Ah o s c.rs r.1 with
   | some u=>.ret (yg c.nv s c.ps xs++u)
   | none=>.fail
  | _,_=>.fail else .fail
 | _,_=>.fail else .fail
def Qf (E:Env) (x:XF) (o:Oper) (s:St) (args:List Operand):Out St:=
 bif eO E o then
  match o.dst with
  | some t=>match x t (aO (get s (2*t+1))+1) (args.map (Qd s)) with
   | some (g,u)=>.ite g (.ret u) .fail
   | none=>.fail
  | none=>.fail
 else .fail
def pO (E:Env) (c:aY) (o:Oper) (s:St) (args:List Operand):Out St:=
 match c.xf with
 | some x=>Qf E x o s args
 | none=>oQ E c o s args
def af4:D→Bool
 | .dP _ _ _ _=>true
 | .aW _ _ _ _ _=>true
 | _=>false
def Ai (s:St) (x:Operand):Bool:=
 match aX s x with
 | .mH _ _ _ _ _ | .sj _ _=>true
 | .ptr id _ _=>af4 (get s (2*id+1))
 | _=>false
def Zv:Operand→Bool
 | .const _=>true
 | _=>false
def ank:D→Bool
 | .sl _ _ _ | .gZ _ _ | .str _ | .BZ _ _ _ | .IQ _ _ _ _ _=>true
 | _=>false
def Aj (n:Nat):List Operand→Bool
 | []=>true
 | .tmp t::r=>Nat.blt t n&&Aj n r
 | _::r=>Aj n r
def Ak (n:Nat):St→Bool
 | []=>true
 | p::r=>Nat.blt p.1 n&&Ak n r
def CG (E:Env) (c:aY) (o:Oper) (s:St) (args:List Operand) (d:D):Out St:=
 bif eO E o && !c.bZ&&Aj E.n args then
  (oQ { E with n:=E.n+1 } c o ((2*E.n,d)::s) (args++[.tmp E.n])).bind fun u=>bif Ak (2*E.n) u then .ret u else .fail
 else .fail
def Al (o:Oper) (s:St):Bool:=
 match o.op with
 | .binOp op _ _ y _=>match op with
  | .quo | .rem | .shl | .shr=>!Zv y
  | .add=>match aX s y with
   | .str _=>true
   | _=>false
  | _=>false
 | .load _ x=>Ai s x
 | .store _ x _=>Ai s x
 | .convert _ _ x=>match aX s x with
  | .str _=>true
  | _=>false
 | .makeSlice _ _ _ | .slice _ _ _ _ _=>true
 | .indexAddr _ x i | .index _ x i=>!Zv i || ank (aX s x)
 | .call c=>match c.callee with
  | .builtin .append=>true
  | _=>false
 | _=>false
def guarded (o:Oper) (s:St):Option (Bool×St)→Out St
 | some (g,u)=>bif Al o s then .ite g (.ret u) .fail else bif g then .ret u else .fail
 | none=>.fail
def mR (s:St) (k j X:Nat):St:=
 match get s (2*X+1) with
 | .aW st true false t l=>
  (bif odd k then (match get s k with
   | .aI st' true cs=>(match (cs.drop j).take 1 with
    | [.gZ Y st2]=>bif Nat.beq Y X&&(Nat.beq st2 st && !Nat.beq (k / 2) X) then [(k,.aI st' true (dL cs j [.sl 2 t l])),(2*X+1,.aW st false false t l)] else []
    | _=>[])
   | .dP st' t' l' (some (i,Y,st2))=>bif Nat.beq Y X&&(Nat.beq st2 st && !Nat.beq (k / 2) X) then
    (if h:t.beq t' = true then [(k,.dP st' t' (l'.set i (uJ (Ty.eq_of_beq h) l)) none),(2*X+1,.aW st false false t l)] else []) else []
   | _=>[])
  else (match get s k with
   | .gZ Y st2=>bif Nat.beq Y X&&Nat.beq st2 st then [(k,.sl 2 t l),(2*X+1,.aW st false false t l)] else []
   | _=>[]))
 | _=>[]
def qA (s:St) (X:Nat):St:=
 match get s (2*X+1) with
 | .uI st l=>[(2*X+1,.aW st true false Uv l)]
 | _=>[]
def oU (s:St) (k j X:Nat):St:=mR (qA s X++s) k j X++qA s X
def iH (E:Env) (o:Oper) (s:St) (args:List Operand):St:=
 bif Nat.beq (tag E o) 10 then (match args with
  | .tmp u::_=>(match get s (2*u) with
   | .gZ X _=>mR s (2*u) 0 X
   | _=>[])
  | _=>[]) else []
def Am (E:Env) (o:Oper) (s:St) (args:List Operand):Out St:=
 (guarded o (iH E o s args++s) (Jd E o (iH E o s args++s))).bind fun u=>.ret ((iH E o s args).reverse++u)
abbrev Kn:=List (Nat×Bool)
def knL:Kn→Nat→Option Bool
 | [],_=>none
 | (t,b)::r,u=>bif Nat.beq u t then some b else knL r u
def knO (kn:Kn):Operand→Option Bool
 | .const (.bool b)=>some b
 | .tmp t=>knL kn t
 | _=>none
def D9 (t:Nat):Kn→Kn
 | []=>[]
 | (u,b)::r=>bif Nat.beq u t then D9 t r else (u,b)::D9 t r
def sM (kn:Kn) (o:Oper) (b:Option Bool):Kn:=
 match o.dst with
 | none=>kn
 | some t=>match b with
  | some b=>(t,b)::D9 t kn
  | none=>D9 t kn
def Ea:Bool→Bool
 | true=>false
 | false=>true
def Nb (kn:Kn) (o:Oper):Kn:=
 match o.op with
 | .move x=>sM kn o (knO kn x)
 | .unOp .not _ x=>sM kn o (match knO kn x with
  | some b=>some (Ea b)
  | none=>none)
 | .pick c x y=>sM kn o (match knO kn c with
  | some b=>knO kn (bif b then x else y)
  | none=>none)
 | _=>sM kn o none
abbrev uX:=Nat→Option aY
def Jf:Option (Bool×St)→Out St
 | some (g,u)=>bif g then .ret u else .fail
 | none=>.fail
def ckey (E:Env) (o:Oper) (f:Nat):Nat:=bif Nat.ble 101 (tag E o) then f+(tag E o - 100)*1000000 else f
def Ao (E:Env) (Γ:uX) (kn:Kn) (o:Oper) (s:St):Out St:=
 match o.op with
 | .pick c x y=>bif eO E o then
  match aX s c with
  | .bool b=>match knO kn c with
   | some b'=>.ite (ji b b') (Jf (lM E o s (bif b' then x else y))) .fail
   | none=>.ite b (Jf (lM E o s x)) (Jf (lM E o s y))
  | _=>.fail else .fail
 | .call c=>match c.callee with
  | .value (.func f)=>bif Nat.blt f 1000000 then
   (match Γ (ckey E o f) with
   | some con=>pO E con o s c.args.toList
   | none=>.fail) else .fail
  | .value x=>match aX s x with
   | .BS f=>bif Nat.blt f 1000000 then
    (match Γ (ckey E o f) with
    | some con=>match con.xf with
     | none=>oQ E con o s c.args.toList
     | some _=>.fail
    | none=>.fail) else .fail
   | .gM f t v=>bif Nat.blt f 1000000 then
    (match Γ (ckey E o f) with
    | some con=>match con.xf with
     | none=>CG E con o s c.args.toList (.iF t [v] 0 0)
     | some _=>.fail
    | none=>.fail) else .fail
   | _=>.fail
  | _=>Am E o s c.args.toList
 | _=>guarded o s (Jd E o s)
def yh (all:List Oper) (j:Nat):Option Nat:=
 match all[j]? with
 | some o=>o.dst
 | none=>none
def gU (o:Oper):St:=bN o (.fO [])
def jU (E:Env) (Γ:uX) (all:List Oper):List Oper→Kn→List Nat→St→Out Lv
 | [],_,ch,s=>.ret ⟨0,ch,s⟩
 | o::r,kn,ch,s=>match o.guard with
  | none=>(Ao E Γ kn o s).bind fun u=>jU E Γ all r (Nb kn o) (aL u++ch) (aA u s)
  | some (j,want)=>match yh all j with
   | none=>.fail
   | some t=>match get s (2*t) with
    | .bool b=>match knL kn t with
     | some c=>bif ji b c then
      (bif ji c want then (Ao E Γ kn o s).bind fun u=>jU E Γ all r (Nb kn o) (aL u++ch) (aA u s)
       else bif eO E o then jU E Γ all r (sM kn o none) (aL (gU o)++ch) (aA (gU o) s) else .fail) else .fail
     | none=>bif eO E o then
      .ite (ji b want)
       ((Ao E Γ ((t,want)::kn) o ((2*t,.bool want)::s)).bind fun u=>
         jU E Γ all r (Nb ((t,want)::kn) o) (aL u++2*t::ch) (aA u ((2*t,.bool want)::s)))
       (jU E Γ all r (sM ((t,Ea want)::kn) o none) (aL (gU o)++2*t::ch) (aA (gU o) ((2*t,.bool (Ea want))::s))) else .fail
    | .fO []=>bif eO E o then jU E Γ all r (sM kn o none) (aL (gU o)++ch) (aA (gU o) s) else .fail
    | _=>.fail
def KS:List Nat→List Nat
 | []=>[]
 | i::r=>(2*i+1)::KS r
def nk (s:St):Operand→List Nat
 | .tmp t=>match get s (2*t) with
  | .ptr id _ _ | .mH id _ _ _ _ | .gZ id _ | .BZ id _ _ | .IQ id _ _ _ _=>[2*t,2*id+1]
  | .agg cs=>2*t::KS (eB cs)
  | _=>[2*t]
 | _=>[]
def jk (s:St):List Operand→List Nat
 | []=>[]
 | x::r=>nk s x++jk s r
def aC:List Operand→List Nat
 | []=>[]
 | .tmp t::r=>2*t::aC r
 | _::r=>aC r
def deep:Op→Bool
 | .move _ | .assign _ | .pick _ _ _ | .alloc _ | .box _ _ | .build _ _ | .buildSlice _ _ _ | .nilCheck _ | .binOp _ _ _ _ _ | .unOp _ _ _ | .makeSlice _ _ _ | .fieldAddr _ _ _ | .field _ _ _ | .extract _ _=>false
 | _=>true
def reads (all:List Oper) (o:Oper) (s:St):List Nat:=
 (match o.guard with
  | some (j,_)=>match yh all j with
   | some t=>[2*t]
   | none=>[]
  | none=>[])++((match o.dst with
  | some t=>[2*t+1]
  | none=>[])++bif deep o.op then jk s o.op.operands.toList else aC o.op.operands.toList)
def FM (E:Env) (Γ:uX) (all:List Oper) (o:Oper) (s:St):Out St:=
 match o.guard with
 | none=>Ao E Γ [] o s
 | some (j,want)=>match yh all j with
  | none=>.fail
  | some t=>match get s (2*t) with
   | .bool b=>bif eO E o then .ite (ji b want) (Ao E Γ [] o s) (.ret (gU o)) else .fail
   | .fO []=>bif eO E o then .ret (gU o) else .fail
   | _=>.fail
def meets:List Nat→List Nat→Bool
 | [],_=>false
 | x::r,ys=>mem x ys || meets r ys
def dJ (o:Oper):List Nat:=(o.after.toList.filter (Region.binds .any)).map (·.on)
structure oV where
 rd:List Nat
 wr:List Nat
 bf:List Nat
def nth (l:List oV) (n:Nat):Option oV:=l[n]?
def below (i:Nat):List Nat→Bool
 | []=>true
 | x::r=>Nat.blt x i&&below i r
def closure (fs:List oV):List Nat→List Nat
 | []=>[]
 | x::r=>match fs[x]? with
  | some f=>union (x::f.bf) (closure fs r)
  | none=>union [x] (closure fs r)
def apart (f g:oV):Bool:=!meets f.wr g.rd && !meets f.wr g.wr && !meets g.wr f.rd
def eD (bf:List Nat) (g:oV):Nat→List oV→Bool
 | _,[]=>true
 | i,f::r=>(mem i bf || apart f g)&&eD bf g (i+1) r
def dR (all:List Oper) (o:Oper) (fs:List oV) (s u:St):oV:={ rd:=reads all o s,wr:=aL u,bf:=closure fs (dJ o) }
def eU (E:Env) (Γ:uX) (all:List Oper):List Oper→Kn→List oV→List Nat→St→Out Lv
 | [],_,_,ch,s=>.ret ⟨0,ch,s⟩
 | o::r,kn,fs,ch,s=>bif below fs.length (dJ o) then
  (match o.guard with
  | none=>(Ao E Γ kn o s).bind fun u=>bif eD (closure fs (dJ o)) (dR all o fs s u) 0 fs then eU E Γ all r (Nb kn o) (fs++[dR all o fs s u]) (aL u++ch) (aA u s) else .fail
  | some (j,want)=>match yh all j with
   | none=>.fail
   | some t=>match get s (2*t) with
    | .bool b=>bif eO E o then
     (match knL kn t with
     | some c=>.ite (ji b c) (bif ji c want then
      ((Ao E Γ kn o s).bind fun u=>bif eD (closure fs (dJ o)) (dR all o fs s u) 0 fs then eU E Γ all r (Nb kn o) (fs++[dR all o fs s u]) (aL u++ch) (aA u s) else .fail)
      else (bif eD (closure fs (dJ o)) (dR all o fs s (gU o)) 0 fs then eU E Γ all r (sM kn o none) (fs++[dR all o fs s (gU o)]) (aL (gU o)++ch) (aA (gU o) s) else .fail)) .fail
     | none=>.ite (ji b want)
      ((Ao E Γ ((t,want)::kn) o ((2*t,.bool want)::s)).bind fun u=>bif eD (closure fs (dJ o)) (dR all o fs s u) 0 fs then eU E Γ all r (Nb ((t,want)::kn) o) (fs++[dR all o fs s u]) (aL u++ch) (aA u ((2*t,.bool want)::s)) else .fail)
      (bif eD (closure fs (dJ o)) (dR all o fs s (gU o)) 0 fs then eU E Γ all r (sM ((t,Ea want)::kn) o none) (fs++[dR all o fs s (gU o)]) (aL (gU o)++ch) (aA (gU o) ((2*t,.bool (Ea want))::s)) else .fail)) else .fail
    | .fO []=>bif eO E o then (bif eD (closure fs (dJ o)) (dR all o fs s (gU o)) 0 fs then eU E Γ all r (sM kn o none) (fs++[dR all o fs s (gU o)]) (aL (gU o)++ch) (aA (gU o) s) else .fail) else .fail
    | _=>.fail)
  else .fail
structure Way where
 e:Nat
 pl:Pl
 drop:List Nat
inductive Plan where
 | go
 | sq (a b:Plan)
 | cut (M:List Nat) (ws:List Way) (p:Plan)
 | loop (M:List Nat) (pl:Pl) (drop:List Nat) (ws:List Way) (p:Plan)
 | opn (l:List (Nat×Nat×Nat))
 | opk (l:List (Nat×Nat×Nat))
 | sea (l:List (Nat×Nat×Nat))
 | unr (n:Nat) (p:Plan)
def Ap:D→Option ((t:Ty)×t.den)
 | .int k n=>some ⟨.int k,n⟩
 | .bool b=>some ⟨.bool,b⟩
 | .str l=>some ⟨.str,l⟩
 | .sl 0 t l=>some ⟨.sl t,l⟩
 | .gM f t x=>some ⟨.gM f t,x⟩
 | _=>none
def rD:List D→Option ((t:Ty)×t.den)
 | []=>some ⟨.unit,()⟩
 | d::r=>match Ap d,rD r with
  | some a,some b=>some ⟨.cons a.1 b.1,(a.2,b.2)⟩
  | _,_=>none
def KT (s:St) (k id st off:Nat):St:=
 match get s (2*id+1) with
 | .aI st' true cs=>(match rD cs with
  | some x=>bif Nat.beq st st' && Nat.beq off 0 then [(2*id+1,.aI st false cs),(k,.iF x.1 [x.2] 0 0)] else []
  | none=>[])
 | _=>[]
def Qg:D→Bool
 | .uI _ _=>true
 | _=>false
def uY (n:Nat) (s:St) (k j X:Nat):St:=
 bif Qg (get s (2*X+1)) then qA s X else
 bif Nat.blt X n then
  (bif odd k then (match get s k with
   | .aI st true cs=>(match (cs.drop j).take 1 with
    | [.sl f t l]=>bif Nat.beq f 2&&(Nat.blt 0 t.nc && !Nat.beq (k / 2) X) then
     [(k,.aI st true (dL cs j [.gZ X (aO (get s (2*X+1))+1)])),(2*X+1,.aW (aO (get s (2*X+1))+1) true false t l)] else []
    | _=>[])
   | _=>[])
  else (match get s k with
   | .sl f t l=>bif Nat.beq f 2&&Nat.blt 0 t.nc then
    [(k,.gZ X (aO (get s (2*X+1))+1)),(2*X+1,.aW (aO (get s (2*X+1))+1) true false t l)] else []
   | .ptr id st off=>KT s k id st off
   | _=>[]))
 else []
def KU {α:Type} (n:Nat):List (Nat×Nat×Nat)→List Nat→St→(List Nat→St→α)→α
 | [],ch,s,k=>k ch s
 | p::r,ch,s,k=>KU n r (aL (uY n s p.1 p.2.1 p.2.2)++ch) (uY n s p.1 p.2.1 p.2.2++s) k
def qB:List (Nat×Nat×Nat)→Lv→Lv
 | [],r=>r
 | p::l,r=>qB l ⟨r.e,aL (oU r.s p.1 p.2.1 p.2.2)++r.ch,oU r.s p.1 p.2.1 p.2.2++r.s⟩
def CJ (n:Nat) (p:Plan) (ch:List Nat) (s:St) (run:List Nat→St→Out Lv):Out Lv:=
 match p with
 | .opn l=>KU n l ch s fun ch s=>(run ch s).bind fun r=>.ret (qB l r)
 | .opk l=>KU n l ch s run
 | .sea l=>(run ch s).bind fun r=>.ret (qB l r)
 | _=>run ch s
def uZ (run:List Nat→St→Out Lv):Nat→List Nat→St→Out Lv
 | 0,_,_=>.fail
 | n+1,ch,s=>(run ch s).bind fun r=>bif Nat.beq r.e 0 then uZ run n r.ch r.s else .ret r
def Plan.inner:Plan→Plan
 | .cut _ _ q=>q
 | q=>q
def Plan.left:Plan→Plan
 | .sq a _=>a
 | _=>.go
def Plan.right:Plan→Plan
 | .sq _ b=>b
 | _=>.go
@[reducible] def l8:List Way→Ty
  | []=>.unit
  | [w]=>oN w.pl
  | w::r=>.cons .bool (.cons (oN w.pl) (l8 r))
def Aq (M:List Nat) (base:St) (w:Way) (x:(oN w.pl).den):St:=pJ w.pl x++strike (M++w.drop) base
def aaB:Lf→Nat
 | .sl f _=>f
 | _=>2
def KV:List Lf→Nat
 | []=>2
 | l::r=>bif Nat.ble (aaB l) (KV r) then aaB l else KV r
def u6:Sh→Nat
 | .lf l=>aaB l
 | .agg ls=>KV ls
 | .aI _ _ ls=>KV ls
 | _=>2
def Qh (n:Nat):D→Bool
 | .sl f _ _=>Nat.blt n f
 | _=>false
def Qi (n:Nat):D→Bool
 | .agg cs=>cs.any (Qh n)
 | .aI _ _ cs=>cs.any (Qh n)
 | d=>Qh n d
def Gm (M:List Nat) (s:St) (k:Nat) (sh:Sh):St:=
 bif (Qi (u6 sh) (get s k) && !(sh.abs (get s k)).isSome)&&mem k M then
  (bif odd k then (match get s k with
   | .aI st true cs=>bif Nat.beq (u6 sh) 0 then (k,.aI st true (cs.map dw))::(k,.aI st true (cs.map bV))::s else (k,.aI st true (cs.map bV))::s
   | _=>s)
  else (bif fu (get s k) then s else
   (bif Nat.beq (u6 sh) 0 then (k,view (get s k))::(k,share (get s k))::s else (k,share (get s k))::s)))
 else s
def oW (M:List Nat):Pl→St→St
 | [],s=>s
 | p::r,s=>oW M r (Gm M s p.1 p.2)
def nu (M:List Nat) (pl:Pl) (s:St):Option (oN pl).den:=CB pl (oW M pl s)
def mU (M:List Nat) (e:Nat) (s:St):(ws:List Way)→Option (l8 ws).den
 | []=>none
 | [w]=>bif Nat.beq e w.e then nu M w.pl s else none
 | w::w'::r=>bif Nat.beq e w.e then (match nu M w.pl s with
  | some x=>some (true,x,(l8 (w'::r)).dflt)
  | none=>none)
  else (match mU M e s (w'::r) with
   | some y=>some (false,(oN w.pl).dflt,y)
   | none=>none)
def oZ (hp:Bool) (M:List Nat) (ch:List Nat) (base:St):(ws:List Way)→(l8 ws).den→Out Lv
 | [],_=>.fail
 | [w],x=>let s:=Aq M base w x
  bif iw hp s then .ret ⟨w.e,M++w.drop++ch,s⟩ else .fail
 | w::w'::r,x=>.ite x.1 (let s:=Aq M base w x.2.1
  bif iw hp s then .ret ⟨w.e,M++w.drop++ch,s⟩ else .fail) (oZ hp M ch base (w'::r) x.2.2)
def Qj (M:List Nat) (ws:List Way) (r:Lv):Option (l8 ws).den:=
 bif subset r.ch M then mU M r.e r.s ws else none
def anm (hp:Bool) (M:List Nat) (ws:List Way) (ch:List Nat) (base:St) (o:Out Lv):Out Lv:=
 .call (l8 ws) (o.l6 (Qj M ws)).den (oZ hp M ch base ws)
def wrap (hp:Bool) (p:Plan) (ch:List Nat) (s:St) (run:List Nat→Out Lv):Out Lv:=
 match p with
 | .cut M ws _=>anm hp M ws ch s (run [])
 | _=>run ch
def Ar {τ ε:Type} (step:τ→Option (Sum τ ε)):Nat→τ→Option ε
 | 0,_=>none
 | n+1,v=>match step v with
  | some (.inl v')=>Ar step n v'
  | some (.inr e)=>some e
  | none=>none
open Classical in
noncomputable def Loop {τ ε:Type} (step:τ→Option (Sum τ ε)) (v:τ):Option ε:=
 if h:∃ n,(Ar step n v).isSome=true then Ar step h.choose v else none
def tH:Pl→List Nat
 | []=>[]
 | p::r=>p.1::tH r
def kF (M:List Nat) (pl:Pl) (drop:List Nat) (base:St) (v:(oN pl).den):St:=pJ pl v++strike (M++drop) base
def KW (hp:Bool) (M:List Nat) (pl:Pl) (drop:List Nat) (base:St) (ws:List Way) (r:Lv):Option (Sum (oN pl).den (l8 ws).den):=
 bif subset r.ch M then
  (bif Nat.beq r.e 0 then (match nu M pl r.s with
   | some v=>bif iw hp (kF M pl drop base v) then some (.inl v) else none
   | none=>none)
  else match mU M r.e r.s ws with
   | some x=>some (.inr x)
   | none=>none) else none
abbrev Jg:=(τ ε:Type)→(τ→Option (Sum τ ε))→τ→Option ε
def KX (lp:Jg) (hp:Bool) (M:List Nat) (pl:Pl) (drop:List Nat) (ws:List Way) (ch:List Nat) (s:St) (body:St→Out Lv):Out Lv:=
 bif subset (tH pl) M then
 match nu M pl s with
 | some v0=>bif iw hp (kF M pl drop s v0) then
  .call (l8 ws) (lp _ _ (fun v=>((body (kF M pl drop s v)).l6 (KW hp M pl drop s ws)).den) v0) (oZ hp (M++drop) ch s ws) else .fail
 | none=>.fail else .fail
def ev (lp:Jg) (E:Env) (Γ:uX):Code→Plan→List Nat→St→Out Lv
 | .skip,_,ch,s=>.ret ⟨0,ch,s⟩
 | .ret,_,ch,s=>.ret ⟨1,ch,s⟩
 | .exit id,_,ch,s=>.ret ⟨id+2,ch,s⟩
 | .label _,_,ch,s=>.ret ⟨0,ch,s⟩
 | .scope c,p,ch,s=>ev lp E Γ c p ch s
 | .region _ ops draw,p,ch,s=>wrap E.hp p ch s fun ch=>CJ E.n p.inner ch s fun ch s=>bif draw then eU E Γ ops.toList ops.toList [] [] ch s else jU E Γ ops.toList ops.toList [] ch s
 | .seq a b,p,ch,s=>wrap E.hp p ch s fun ch=>(ev lp E Γ a p.inner.left ch s).bind fun r=>bif Nat.beq r.e 0 then ev lp E Γ b p.inner.right r.ch r.s else .ret r
 | .cond c a b,p,ch,s=>wrap E.hp p ch s fun ch=>match aX s c with
  | .bool x=>.ite x (ev lp E Γ a p.inner.left ch s) (ev lp E Γ b p.inner.right ch s)
  | _=>.fail
 | .block id c,p,ch,s=>wrap E.hp p ch s fun ch=>(ev lp E Γ c p.inner.left ch s).bind fun r=>.ret ⟨bif Nat.beq r.e (id+2) then 0 else r.e,r.ch,r.s⟩
 | .loop c,p,ch,s=>wrap E.hp p ch s fun ch=>match p.inner with
  | .loop M pl drop ws q=>KX lp E.hp M pl drop ws ch s (fun st=>ev lp E Γ c q [] st)
  | .unr n q=>uZ (fun ch st=>ev lp E Γ c q ch st) n ch s
  | _=>.fail
 | _,_,_,_=>.fail
def u7:Nat→(ps:List Sh)→(jT ps).den→St
 | _,[],_=>[]
 | i,p::r,x=>(2*i,p.con x.1)::u7 (i+1) r x.2
def bY (c:aY) (x:(Ty.cons (fQ c.pre) (jT c.ps)).den):St:=
 bif c.bZ then (1,.aI 1 true (aN c.pre x.1))::(0,.ptr 0 1 0)::u7 1 c.ps x.2 else u7 0 c.ps x.2
def Lf.res:(l:Lf)→D→Option l.ty.den
 | .sl f t,.jK=>bif Nat.ble f 2 then some ([]:List t.den) else none
 | .sl 0 t,d=>(Lf.sl 0 t).abs (dw d)
 | l,d=>l.abs d
def CK:(ls:List Lf)→List D→Option (fQ ls).den
 | [],[]=>some ()
 | l::r,d::ds=>match l.res d,CK r ds with
  | some x,some y=>some (x,y)
  | _,_=>none
 | _,_=>none
def KY:Lf→Bool
 | .sl 0 _=>true
 | _=>false
def Gn:Sh→Bool
 | .lf l=>KY l
 | .agg ls=>ls.any KY
 | _=>false
def Sh.res1:(l:Sh)→D→Option l.ty.den
 | .lf l,d=>l.res d
 | .agg ls,.agg cs=>CK ls cs
 | _,_=>none
def clean:D→D
 | .agg cs=>bif (eB cs).isEmpty then .agg cs else .undef
 | .fO _=>.undef
 | .fn _ _=>.undef
 | .aI _ _ _=>.undef
 | .aW _ _ _ _ _=>.undef
 | .dP _ _ _ _=>.undef
 | d=>bif (bR d).isEmpty then d else .undef
def Sh.res (p:Sh) (d:D):Option p.ty.den:=p.res1 (bif Gn p then share (clean d) else clean d)
def Zw (t:Ty) (l:List t.den) (n:Nat):D:=bif Nat.blt 64 n then IW n t l else .agg (FQ t l 0 n)
def UJ (E:Env) (s:St):ResultVar→Option D
 | .tmp t=>some (get s (2*t))
 | .cell t T=>match get s (2*t),E.T T with
  | .ptr id st off,some i=>match get s (2*id+1) with
   | .aI st' true cs=>bif Nat.beq st st' && Nat.beq off 0&&Nat.beq cs.length i.size then mk1 i.agg cs else none
   | .aW st' true true t l=>bif Nat.beq st st' && Nat.beq off 0&&i.agg&&Nat.beq t.nc 1&&Nat.beq l.length i.size then some (Zw t l i.size) else none
   | _=>none
  | _,_=>none
def Jh (s:St):ResultVar→Nat
 | .tmp t=>2*t
 | .cell t _=>match get s (2*t) with
  | .ptr id _ _=>2*id+1
  | _=>0
def wR (E:Env) (s:St):List ResultVar→Option (List D)
 | []=>some []
 | r::l=>match UJ E s r,wR E s l with
  | some d,some ds=>some (d::ds)
  | _,_=>none
def nodupB:List Nat→Bool
 | []=>true
 | x::r=>!mem x r&&nodupB r
def vg:(l:List Sh)→List D→Option (jT l).den
 | [],[]=>some ()
 | p::r,d::ds=>match p.res d,vg r ds with
  | some x,some y=>some (x,y)
  | _,_=>none
 | _,_=>none
def Au (s:St):(rs:RS)→List D→Option rs.ty.den
 | .none,[]=>some ()
 | .one p,[d]=>p.res d
 | .fO l,ds=>bif Nat.beq ds.length 1 then none else vg l ds
 | .uV ls,[.ptr id st off]=>match get s (2*id+1) with
  | .aI st' true cs=>bif Nat.beq st st' && Nat.beq off 0 && !Nat.beq id 0 then pI ls cs else none
  | _=>none
 | _,_=>none
def Gp (s:St) (bZ:Bool) (post:List Lf):Option (fQ post).den:=
 match bZ with
 | true=>match get s 1 with
  | .aI st true cs=>bif Nat.beq st 1 then pI post cs else none
  | _=>none
 | false=>pI post []
def Ji (E:Env) (fn:Func) (c:aY) (r:Lv):Option (Ty.cons c.rs.ty (fQ c.post)).den:=
 bif Nat.blt r.e 2&&nodupB ((bif c.bZ then 1 else 2000001)::fn.results.toList.map (Jh r.s)) then
  match wR E r.s fn.results.toList with
  | some ds=>match Au r.s c.rs ds,Gp r.s c.bZ c.post with
   | some x,some y=>some (x,y)
   | _,_=>none
  | none=>none
 else none
def iW:Lf→Bool
 | .cst .undef=>true
 | .cst .jK=>true
 | .cst (.sj _ _)=>true
 | .cst (.BS _)=>true
 | .cst _=>false
 | _=>true
def mI:Sh→Bool
 | .lf l=>iW l
 | .agg ls=>ls.all iW
 | _=>false
def kV:Lf→Bool
 | .sl f _=>Nat.beq f 0
 | l=>iW l
def vk:Sh→Bool
 | .lf l=>kV l
 | .agg ls=>ls.all kV
 | _=>false
def RS.ok:RS→Bool
 | .none=>true
 | .one p=>mI p
 | .fO l=>l.all mI && !Nat.beq l.length 1
 | .uV ls=>ls.all iW
def aY.ok (c:aY):Bool:=c.pre.all iW&&c.ps.all mI&&c.rs.ok&&c.post.all iW&&(c.bZ || (c.pre.isEmpty&&c.post.isEmpty))
def evF (lp:Jg) (E:Env) (Γ:uX) (fn:Func) (p:Plan) (c:aY) (x:(Ty.cons (fQ c.pre) (jT c.ps)).den):Out (Ty.cons c.rs.ty (fQ c.post)).den:=
 match fn.body with
 | some code=>(ev lp E Γ code p [] (bY c x)).l6 (Ji E fn c)
 | none=>.fail
theorem Gq {d:D}:iG d=true↔d = .undef:=by cases d<;>simp [iG]
theorem yV {n:Nat} {f g:Nat→Nat} (h:∀ i,f i≤g i):dh n f≤dh n g:=by
 induction n with
 | zero=>exact dQ _
 | succ n ih=>simp only [dh];exact Nat.add_le_add ih (h n)
section
variable {w:World} {G:Nat→Nat} {pt bX:Nat→Nat→Option Value}
theorem bO.ptr {d:D} {v:Value} (hp:∀ i∈bR d,∀ st,bX i st=pt i st) (h:bO w G pt d v):bO w G bX d v:=by
 cases d with
 | ptr id st off=>obtain ⟨b,h1,h2⟩:=h;exact ⟨b,by rw [hp id (by simp [bR])];exact h1,h2⟩
 | mH id st i off es=>obtain ⟨b,h1,h2⟩:=h;exact ⟨b,by rw [hp id (by simp [bR])];exact h1,h2⟩
 | gZ id st=>show bX id st=some v;rw [hp id (by simp [bR])];exact h
 | IQ id st nc o n=>obtain ⟨ad,m,c,Uu,c',h1,h⟩:=h;exact ⟨ad,m,c,Uu,c',by rw [hp id (by simp [bR])];exact h1,h⟩
 | BZ id st n=>
  obtain ⟨h,hn⟩:=h
  rcases h with ⟨b,c,h1,h2⟩ | h
  ·exact ⟨.inl ⟨b,c,by rw [hp id (by simp [bR])];exact h1,h2⟩,hn⟩
  ·exact ⟨.inr h,hn⟩
 | _=>exact h
theorem Av {i:Nat}:∀ {ds:List D} (j:Nat) (h:j<ds.length),i∈bR ds[j]→i∈eB ds
 | d::r,0,_,h=>by simp only [eB,qb];exact .inl h
 | d::r,j+1,hj,h=>by
  simp only [eB,qb]
  exact .inr (Av j (by simpa using hj) (by simpa using h))
theorem yj {i:Nat}:∀ {ds:List D} (j:Nat) (h:j<ds.length),i∈iC ds[j]→i∈uU ds
 | d::r,0,_,h=>by simp only [uU,qb];exact .inl h
 | d::r,j+1,hj,h=>by
  simp only [uU,qb]
  exact .inr (yj j (by simpa using hj) (by simpa using h))
theorem aR.ptr {ds:List D} {f:Nat→Value} (hp:∀ i∈eB ds,∀ st,bX i st=pt i st) (h:aR w G pt ds f):aR w G bX ds f:=
 fun j hj=>⟨(h j hj).1.ptr fun i hi=>hp i (Av j hj hi),(h j hj).2⟩
theorem yH.ptr {d:D} {v:Value} (hp:∀ i∈iC d,∀ st,bX i st=pt i st) (h:yH w G pt d v):yH w G bX d v:=by
 cases d with
 | agg cs=>obtain ⟨arr,h1,h2,h3⟩:=h;exact ⟨arr,h1,h2,h3.ptr hp⟩
 | _=>simp only [yH] at h ⊢;exact bO.ptr hp h
theorem bg.ptr {d:D} {v:Value} (hp:∀ i∈refs d,∀ st,bX i st=pt i st) (h:bg w G pt d v):bg w G bX d v:=by
 cases d with
 | agg cs=>obtain ⟨arr,h1,h2,h3⟩:=h;exact ⟨arr,h1,h2,h3.ptr hp⟩
 | fO vs=>obtain ⟨arr,h1,h2,h3⟩:=h;exact ⟨arr,h1,h2,fun j hj=>(h3 j hj).ptr fun i hi=>hp i (yj j hj hi)⟩
 | fn f cs=>obtain ⟨arr,h1,h2,h3,h4⟩:=h;exact ⟨arr,h1,h2,h3.ptr hp,h4⟩
 | aI st l cs=>simp only [bg,bO] at h
 | dP st t l h'=>simp only [bg,bO] at h
 | _=>simp only [bg] at h ⊢;exact bO.ptr hp h
theorem wS {i:Nat} {t:Ty}:∀ {l:List (List t.den)},i ∉ eB (l.map fun r=>D.sl 2 t r)
 | []=>by simp [eB]
 | r::l=>by simp only [List.map_cons,eB,bR,List.nil_append];exact wS
theorem Gs {i:Nat} {d:D}:∀ {ds:List D} {j:Nat},i∈eB (ds.set j d)→i∈eB ds∨i∈bR d
 | [],_,h=>.inl h
 | d'::r,0,h=>by
  simp only [List.set_cons_zero,eB,qb] at h ⊢
  rcases h with h | h
  ·exact .inr h
  ·exact .inl (.inr h)
 | d'::r,j+1,h=>by
  simp only [List.set_cons_succ,eB,qb] at h ⊢
  rcases h with h | h
  ·exact .inl (.inl h)
  ·rcases Gs h with h | h
   ·exact .inl (.inr h)
   ·exact .inr h
theorem Gt {i st:Nat} {t:Ty} {l:List (List t.den)} {h:Option (Nat×Nat×Nat)} (hi:i∈eB (bM t l h)):i∈refs (.dP st t l h):=by
 cases h with
 | none=>exact absurd hi wS
 | some p=>
  obtain ⟨j,X,st2⟩:=p
  rcases Gs hi with hi | hi
  ·exact absurd hi wS
  ·exact hi
theorem nI.ptr {id:Nat} {d:D} (hid:d≠.undef→∀ st,bX id st=pt id st) (hp:∀ i∈refs d,∀ st,bX i st=pt i st) (h:nI w G pt id d):nI w G bX id d:=by
 cases d with
 | undef=>trivial
 | aI st live cs=>
  intro hl;obtain ⟨b,h1,h2,h3,h4⟩:=h hl
  exact ⟨b,by rw [hid (by simp)];exact h1,h2,h3,h4.ptr hp⟩
 | dP st t l h'=>
  obtain ⟨b,h1,h2,h3,h4⟩:=h
  exact ⟨b,by rw [hid (by simp)];exact h1,h2,h3,h4.ptr fun i hi=>hp i (Gt hi)⟩
 | aW st live ar t l=>
  intro hl;have h':=h hl
  cases ar with
  | true=>
   simp only [if_true] at h' ⊢
   rw [hid (by simp)];exact h'
  | false=>
   simp only [sI,if_false] at h' ⊢
   rw [hid (by simp)];exact h'
 | uI st l=>
  obtain ⟨h1,h2⟩:=h
  have e:inf w bX id st=inf w pt id st:=funext fun j=>by simp only [inf,hid (by simp)]
  refine ⟨by rw [hid (by simp)];exact h1,?_⟩
  rw [e]
  exact h2.ptr fun i hi=>by
   exfalso
   have:∀ l:List (Int×(List Int×Unit)),i ∉ eB (inn l):=by
    intro l
    induction l with
    | nil=>simp [inn,eB]
    | cons r l ih=>simp only [inn,List.map_cons,eB,bR,List.nil_append] at ih ⊢;exact ih
   exact this l hi
 | _=>exact h.elim
theorem Jj {id:Nat} {d:D} (hid:d≠.undef→∀ st,bX id st=pt id st) (b:Nat):gQ w bX b id d=gQ w pt b id d:=by
 cases d with
 | aI st live cs=>cases live<;>simp only [gQ];rw [hid (by simp)]
 | aW st live ar t l=>cases live<;>simp only [gQ];rw [hid (by simp)]
 | dP st t l h'=>simp only [gQ];rw [hid (by simp)]
 | uI st l=>
  have e:inf w bX id st=inf w pt id st:=funext fun j=>by simp only [inf,hid (by simp)]
  simp only [gQ,hid (by simp),e]
 | _=>rfl
variable {E:Env} {C:Ctx} {s s':St} {a:Act}
theorem Rel.restrict (R:Rel E C s a w G pt) (hk:∀ k,get s' k=get s k∨get s' k = .undef) (hc:∀ k i,i∈refs (get s' k)→get s' (2*i+1)≠.undef)
 (hp:C.pin=none∨get s' 1≠.undef):∃ bX,Rel E C s' a w G bX:=by
 refine ⟨fun id st=>bif iG (get s' (2*id+1)) then none else pt id st,?_⟩
 have same:∀ id,get s' (2*id+1)≠.undef→∀ st,(bif iG (get s' (2*id+1)) then none else pt id st)=pt id st:=by
  intro id h st
  cases hu:iG (get s' (2*id+1)) with
  | true=>exact absurd (Gq.1 hu) h
  | false=>rfl
 have IK:∀ b t,cT s' a b t≤cT s a b t:=by
  intro b t;simp only [cT]
  rcases hk (2*t) with h | h
  ·rw [h];exact dQ _
  ·rw [h,dX];exact fG _
 have cb1:∀ b id,cB s' w (fun id st=>bif iG (get s' (2*id+1)) then none else pt id st) b id≤cB s w pt b id:=by
  intro b id;simp only [cB]
  rcases hk (2*id+1) with h | h
  ·rw [Jj (pt:=pt) (fun hne=>same id hne),h];exact dQ _
  ·rw [h];exact fG _
 have tc:∀ b,TC E.n C.m s' a w (fun id st=>bif iG (get s' (2*id+1)) then none else pt id st) b≤TC E.n C.m s a w pt b:=
  fun b=>Nat.add_le_add (yV (IK b)) (yV (cb1 b))
 refine ⟨R.sz,R.df,fun t=>?_,fun id=>?_,fun t ht=>?_,fun id hid=>?_,fun b=>jQ (tc b) (R.ct b),fun b hb=>R.cb b (nG hb (tc b)),R.fr,R.ex,R.gz,R.os,R.out,R.tape,R.hs,
  fun id st hs=>?_,R.gl,fun v hv=>?_⟩
 ·rcases hk (2*t) with h | h
  ·have:=R.tm t
   rw [←h] at this
   exact this.ptr fun i hi=>same i (hc _ i hi)
  ·rw [h];trivial
 ·rcases hk (2*id+1) with h | h
  ·have:=R.bx id
   rw [←h] at this
   exact this.ptr (fun hne=>same id hne) fun i hi=>same i (hc _ i hi)
  ·rw [h];trivial
 ·rcases hk (2*t) with h | h
  ·rw [h];exact R.ht t ht
  ·exact h
 ·rcases hk (2*id+1) with h | h
  ·rw [h];exact R.hb id hid
  ·exact h
 ·rcases hk (2*id+1) with h | h
  ·by_cases hne:get s' (2*id+1) = .undef
   ·show (bif iG (get s' (2*id+1)) then none else pt id st)=none
    rw [hne];rfl
   ·show (bif iG (get s' (2*id+1)) then none else pt id st)=none
    rw [same id hne]
    exact R.pf id st (by rw [←h];exact hs)
  ·show (bif iG (get s' (2*id+1)) then none else pt id st)=none
   rw [h];rfl
 ·show (bif iG (get s' (2*0+1)) then none else pt 0 1)=some v
  rcases hp with hp | hp
  ·rw [hp] at hv;cases hv
  ·rw [same 0 hp];exact R.pn v hv
end
theorem og {R S:Type} (f:R→Out S):∀ (o:Out R),(o.bind f).den=(match o.den with | some r=>(f r).den | none=>none)
 | .ret r=>rfl
 | .fail=>rfl
 | .ite c a b=>by
  simp only [Out.bind,Out.den];cases c
  ·exact og f b
  ·exact og f a
 | .call t r k=>by
  simp only [Out.bind,Out.den]
  cases r with
  | none=>rfl
  | some x=>exact og f (k x)
theorem oh {R:Type} {t:Ty} {o:Option t.den} {k:t.den→Out R} {y:R} (h:(Out.call t o k).den=some y):∃ x,o=some x∧(k x).den=some y:=by
 cases o with
 | none=>cases h
 | some x=>exact ⟨x,rfl,h⟩
theorem bind_some {R S:Type} {f:R→Out S} {o:Out R} {y:S} (h:(o.bind f).den=some y):∃ r,o.den=some r∧(f r).den=some y:=by
 rw [og] at h
 cases hr:o.den with
 | none=>rw [hr] at h;cases h
 | some r=>rw [hr] at h;exact ⟨r,rfl,h⟩
theorem iD {R S:Type} {f:R→Option S}:∀ {o:Out R} {y:S},(o.l6 f).den=some y→∃ r,o.den=some r∧f r=some y
 | .ret r,y,h=>by
  simp only [Out.l6] at h
  cases hf:f r with
  | none=>rw [hf] at h;cases h
  | some x=>rw [hf] at h;simp only [Out.den,bq] at h;subst h;exact ⟨r,rfl,hf⟩
 | .fail,y,h=>by cases h
 | .ite c a b,y,h=>by
  simp only [Out.l6,Out.den] at h ⊢;cases c
  ·exact iD (o:=b) h
  ·exact iD (o:=a) h
 | .call t r k,y,h=>by
  simp only [Out.l6,Out.den] at h ⊢
  cases r with
  | none=>cases h
  | some x=>exact iD (o:=k x) h
theorem kS:∀ (u s:St) (k:Nat),k ∉ aL u→get (u++s) k=get s k
 | [],_,_,_=>rfl
 | (j,d)::r,s,k,h=>by
  simp only [aL,List.mem_cons,not_or] at h;rw [List.cons_append,aH,if_neg h.1];exact kS r s k h.2
theorem wT (k:Nat):(odd k=true∧∃ i,k=2*i+1)∨(odd k=false∧∃ i,k=2*i):=by
 cases h:odd k with
 | true=>
  refine .inl ⟨rfl,k / 2,?_⟩
  have:k%2=1:=by simpa [odd] using h
  omega
 | false=>
  refine .inr ⟨rfl,k / 2,?_⟩;have:¬ k%2=1:=zC5 h;omega
section
variable {E:Env} {C:Ctx} {s:St} {a:Act} {w:World} {G:Nat→Nat} {pt:Nat→Nat→Option Value}
theorem Eb {t:Ty} {l:List t.den} {v:Value} (h:bO w G pt (.sl 2 t l) v) (b:Nat):eu b (.sl 2 t l) v=dx b (some v):=by
 obtain ⟨ad,n,c,hv,_,_,hs⟩:=h;subst hv
 rcases hs with ⟨h5,_⟩ | ⟨b',h5,_⟩<;>subst h5<;>simp [dx,bH,eu]
theorem Aw (X st:Nat) (v:Value):bB pt X st v X st=some v:=by simp [bB]
theorem Ay (R:Rel E C s a w G pt) (X:Nat) (v:Value):∀ i j u,pt i j=some u→bB pt X (aO (get s (2*X+1))+1) v i j=some u:=by
 intro i j u h;unfold bB;rw [if_neg]
 ·exact h
 ·rintro ⟨rfl,rfl⟩
  rw [R.pf i _ (Nat.lt_succ_self _)] at h;cases h
theorem Gu (R:Rel E C s a w G pt) (X:Nat) (v:Value) {st:Nat} (h:aO (get s (2*X+1))+1<st):bB pt X (aO (get s (2*X+1))+1) v X st=none:=by
 unfold bB
 rw [if_neg (by omega)]
 exact R.pf X st (by omega)
theorem Rel.af6 (R:Rel E C s a w G pt) {u X:Nat} (hX:X<C.m) {t:Ty} {l:List t.den} (hs:get s (2*u) = .sl 2 t l) :
 ∃ bX,Rel E C ((2*u,.gZ X (aO (get s (2*X+1))+1))::(2*X+1,.aW (aO (get s (2*X+1))+1) true false t l)::s) a w G bX:=by
 have hu:u<E.n:=by
  rcases Nat.lt_or_ge u E.n with h | h
  ·exact h
  ·rw [R.ht u h] at hs;cases hs
 have hr:=R.tm u;rw [hs] at hr;refine ⟨bB pt X (aO (get s (2*X+1))+1) (a.tmps.getD u undef),?_⟩
 refine R.step (fun i=>i=u) (fun i=>i=X) (fun _=>False) rfl R.df (fun i hi=>?_) (fun id hid=>?_) (Ext.refl _ _) (Ay R X _) (fun _ _ _=>⟨rfl,rfl⟩) (fun b h=>h.elim) (fun b h=>h.elim) (fun b h=>h.elim)
  (fun i hi=>?_) (fun id hid=>?_) (fun c1 c2 b=>?_) R.gz rfl rfl rfl (dQ _)
 ·simp only [dO,get_bt,hi,if_false];exact ⟨trivial,trivial⟩
 ·simp only [jq,bA,hid,if_false];exact ⟨trivial,funext fun j=>by simp [bB,hid]⟩
 ·subst hi
  refine ⟨hu,?_⟩;simp only [dO,if_true];show bB _ _ _ _ _ _=_;simp [bB]
 ·subst hid
  simp only [jq,bA,if_true]
  refine ⟨hX,fun _=>?_,fun st hst=>Gu R id _ hst⟩
  simp only [sI,if_false];obtain ⟨ad,n,c,h1,h2⟩:=hr
  exact ⟨ad,n,c,by simp [bB,h1],h2⟩
 ·have e1:=dH (n:=E.n) hu (fun i hi=>c1 i hi b)
  have e2:=dH (n:=C.m) (x:=X) hX (fun i hi=>c2 i hi b)
  have e3:cT ((2*u,.gZ X (aO (get s (2*X+1))+1))::(2*X+1,.aW (aO (get s (2*X+1))+1) true false t l)::s) a b u=0:=by
   simp only [cT,dO,if_true]
   cases a.tmps.getD u undef<;>rfl
  have e4:cB ((2*u,.gZ X (aO (get s (2*X+1))+1))::(2*X+1,.aW (aO (get s (2*X+1))+1) true false t l)::s) w (bB pt X (aO (get s (2*X+1))+1) (a.tmps.getD u undef)) b X=cT s a b u:=by
   simp only [cB,jq,bA,if_true,gQ,cT,hs]
   have:dN b (.sl 2 t l) (a.tmps.getD u undef)=eu b (.sl 2 t l) (a.tmps.getD u undef):=by cases a.tmps.getD u undef<;>rfl
   rw [this,Eb (pt:=pt) hr,Aw]
  have h1:=R.ct b;have h2:=R.cb b;unfold TC at *
  exact ⟨by omega,fun h=>h2 (by omega)⟩
theorem Rel.af7 (R:Rel E C s a w G pt) {u X st:Nat} {t:Ty} {l:List t.den} (hX:get s (2*X+1) = .aW st true false t l) (hs:get s (2*u) = .gZ X st) :
 Rel E C ((2*u,.sl 2 t l)::(2*X+1,.aW st false false t l)::s) a w G pt:=by
 have hu:u<E.n:=by
  rcases Nat.lt_or_ge u E.n with h | h
  ·exact h
  ·rw [R.ht u h] at hs;cases hs
 have hXm:=gB R (id:=X) (by rw [hX];simp)
 have hr:pt X st=some (a.tmps.getD u undef):=by have:=R.tm u;rw [hs] at this;exact this
 have hB:=R.bx X;rw [hX] at hB;obtain ⟨ad,n,c,q1,q2⟩:=hB rfl
 have hv:a.tmps.getD u undef = .slice ad n c:=by rw [hr] at q1;exact Option.some.inj q1
 have rep:bO w G pt (.sl 2 t l) (a.tmps.getD u undef):=⟨ad,n,c,hv,q2⟩
 refine R.step (fun i=>i=u) (fun i=>i=X) (fun _=>False) rfl R.df (fun i hi=>?_) (fun id hid=>?_) (Ext.refl _ _) (fun _ _ _ h=>h) (fun _ _ _=>⟨rfl,rfl⟩) (fun b h=>h.elim) (fun b h=>h.elim) (fun b h=>h.elim)
  (fun i hi=>?_) (fun id hid=>?_) (fun c1 c2 b=>?_) R.gz rfl rfl rfl (dQ _)
 ·simp only [dO,get_bt,hi,if_false];exact ⟨trivial,trivial⟩
 ·simp only [jq,bA,hid,if_false];exact ⟨trivial,trivial⟩
 ·subst hi
  refine ⟨hu,?_⟩;simp only [dO,if_true];exact rep
 ·subst hid
  simp only [jq,bA,if_true]
  exact ⟨hXm,(by intro h;cases h),fun j hj=>R.pf id j (by rw [hX];exact hj)⟩
 ·have e1:=dH (n:=E.n) hu (fun i hi=>c1 i hi b)
  have e2:=dH (n:=C.m) (x:=X) hXm (fun i hi=>c2 i hi b)
  have e3:cT s a b u=0:=by
   simp only [cT,hs]
   cases a.tmps.getD u undef<;>rfl
  have e4:cT ((2*u,.sl 2 t l)::(2*X+1,.aW st false false t l)::s) a b u=dx b (pt X st):=by
   simp only [cT,dO,if_true]
   have:dN b (.sl 2 t l) (a.tmps.getD u undef)=eu b (.sl 2 t l) (a.tmps.getD u undef):=by cases a.tmps.getD u undef<;>rfl
   rw [this,Eb rep,hr]
  have e5:cB ((2*u,.sl 2 t l)::(2*X+1,.aW st false false t l)::s) w pt b X=0:=by
   simp only [cB,jq,bA,if_true,gQ]
  have e6:cB s w pt b X=dx b (pt X st):=by simp only [cB,hX,gQ]
  have h1:=R.ct b;have h2:=R.cb b;unfold TC at *
  exact ⟨by omega,fun h=>h2 (by omega)⟩
theorem CO {cs:List D} {j:Nat} {d:D} (h:(cs.drop j).take 1=[d]) (d':D):j+[d'].length≤cs.length:=by
 have:=congrArg List.length h;simp at this ⊢;omega
theorem Rel.af9 (R:Rel E C s a w G pt) {id j X st:Nat} {cs:List D} (hX:X<C.m) (hne:id≠X) {t:Ty} {l:List t.den}
 (hb:get s (2*id+1) = .aI st true cs) (hj:(cs.drop j).take 1=[.sl 2 t l]) :
 ∃ bX,Rel E C ((2*id+1,.aI st true (dL cs j [.gZ X (aO (get s (2*X+1))+1)]))::(2*X+1,.aW (aO (get s (2*X+1))+1) true false t l)::s) a w G bX:=by
 have hid:=gB R (id:=id) (by rw [hb];simp)
 have hB:=R.bx id;rw [hb] at hB;obtain ⟨blk,h1,h2,h3,h4⟩:=hB rfl
 have hblk:bH (pt id st)=some blk:=by rw [h1];rfl
 have hsub:=h4.sub j 1;rw [hj] at hsub
 have hcell:=(hsub 0 (by simp)).1
 simp only [List.getElem_cons_zero,Nat.add_zero] at hcell;have hl1:=CO hj (.gZ X (aO (get s (2*X+1))+1));generalize hv:aD w blk j=v at hcell;have hpt:=Ay R X v;refine ⟨bB pt X (aO (get s (2*X+1))+1) v,?_⟩
 have hpi:bB pt X (aO (get s (2*X+1))+1) v id st=pt id st:=by simp [bB,hne]
 refine R.step (fun _=>False) (fun i=>i=id∨i=X) (fun _=>False) rfl R.df (fun i _=>⟨by simp,rfl⟩) (fun i hi=>?_) (Ext.refl _ _) hpt (fun _ _ _=>⟨rfl,rfl⟩) (fun b h=>h.elim) (fun b h=>h.elim) (fun b h=>h.elim)
  (fun i hi=>hi.elim) (fun i hi=>?_) (fun c1 c2 b=>?_) R.gz rfl rfl rfl (dQ _)
 ·simp only [not_or] at hi
  simp only [bA,hi.1,hi.2,if_false];exact ⟨trivial,funext fun j=>by simp [bB,hi.2]⟩
 ·by_cases hiX:i=X
  ·subst hiX
   simp only [bA,if_true,if_neg (Ne.symm hne)]
   refine ⟨hX,fun _=>?_,fun st hst=>Gu R i _ hst⟩
   simp only [sI,if_false];obtain ⟨ad,n,c,g1,g2⟩:=hcell
   exact ⟨ad,n,c,by simp [bB,g1],g2⟩
  ·have hii:i=id:=by rcases hi with h | h;exact h;exact absurd h hiX
   subst hii;simp only [bA,if_true]
   refine ⟨hid,fun _=>⟨blk,by rw [hpi];exact h1,by rw [fP hl1];exact h2,h3,?_⟩,fun st' hst'=>?_⟩
   ·refine (h4.mono (Ext.refl _ _) hpt (fun _ _=>rfl) (fun _ _=>⟨rfl,rfl⟩)).dL (fun m hm=>?_) hl1
    have:m=0:=by simp at hm;exact hm
    subst this
    refine ⟨?_,(h4 (j+0) (by simp at hl1;omega)).2⟩
    simp only [List.getElem_cons_zero,Nat.add_zero,hv];show bB _ _ _ _ _ _=_;simp [bB]
   ·have:=R.pf i st' (by rw [hb];exact hst')
    simp only [bB];rw [if_neg (by omega)];exact this
 ·have e1:=aM (n:=E.n) (fun i _=>c1 i (fun h=>h) b)
  have e2:=nQ (n:=C.m) hid hX hne (fun i h1 h2=>c2 i (fun h=>by rcases h with h | h;exact h1 h;exact h2 h) b)
  have e3:cB s w pt b id=dx b (pt id st)+aP b cs (aD w blk):=by simp only [cB,hb,gQ,hblk,Option.getD_some]
  have e4:cB ((2*id+1,.aI st true (dL cs j [.gZ X (aO (get s (2*X+1))+1)]))::(2*X+1,.aW (aO (get s (2*X+1))+1) true false t l)::s) w (bB pt X (aO (get s (2*X+1))+1) v) b id =
   dx b (pt id st)+aP b (dL cs j [.gZ X (aO (get s (2*X+1))+1)]) (aD w blk):=by
   simp only [cB,bA,if_true,gQ,hpi,hblk,Option.getD_some]
  have e5:cB ((2*id+1,.aI st true (dL cs j [.gZ X (aO (get s (2*X+1))+1)]))::(2*X+1,.aW (aO (get s (2*X+1))+1) true false t l)::s) w (bB pt X (aO (get s (2*X+1))+1) v) b X=eu b (.sl 2 t l) v:=by
   simp only [cB,bA,if_true,if_neg (Ne.symm hne),gQ];rw [Eb (pt:=pt) hcell,Aw]
  have e6:=iP (b:=b) (f:=aD w blk) hl1
  have e7:aP b [D.gZ X (aO (get s (2*X+1))+1)] (fun i=>aD w blk (j+i))=0:=by
   show eu b (.gZ X _) _+0=0
   cases aD w blk (j+0)<;>rfl
  have e8:aP b ((cs.drop j).take [D.gZ X (aO (get s (2*X+1))+1)].length) (fun i=>aD w blk (j+i))=eu b (.sl 2 t l) v:=by
   show aP b ((cs.drop j).take 1) _=_;rw [hj];show eu b (.sl 2 t l) (aD w blk (j+0))+0=_;rw [Nat.add_zero,Nat.add_zero,hv]
  have h1:=R.ct b;have h2:=R.cb b;unfold TC at *
  exact ⟨by omega,fun h=>h2 (by omega)⟩
theorem Rel.Zx (R:Rel E C s a w G pt) {id j X st st':Nat} {cs:List D} (hne:id≠X) {t:Ty} {l:List t.den} (hX:get s (2*X+1) = .aW st true false t l)
 (hb:get s (2*id+1) = .aI st' true cs) (hj:(cs.drop j).take 1=[.gZ X st]) :
 Rel E C ((2*id+1,.aI st' true (dL cs j [.sl 2 t l]))::(2*X+1,.aW st false false t l)::s) a w G pt:=by
 have hid:=gB R (id:=id) (by rw [hb];simp)
 have hXm:=gB R (id:=X) (by rw [hX];simp)
 have hB:=R.bx id;rw [hb] at hB;obtain ⟨blk,h1,h2,h3,h4⟩:=hB rfl
 have hblk:bH (pt id st')=some blk:=by rw [h1];rfl
 have hsub:=h4.sub j 1;rw [hj] at hsub
 have hcell:=(hsub 0 (by simp)).1
 simp only [List.getElem_cons_zero,Nat.add_zero] at hcell;have hl1:=CO hj (.sl 2 t l);generalize hv:aD w blk j=v at hcell;have hr:pt X st=some v:=hcell;have hBX:=R.bx X;rw [hX] at hBX;obtain ⟨ad,n,c,q1,q2⟩:=hBX rfl
 have hvv:v = .slice ad n c:=by rw [hr] at q1;exact Option.some.inj q1
 have rep:bO w G pt (.sl 2 t l) v:=⟨ad,n,c,hvv,q2⟩
 refine R.step (fun _=>False) (fun i=>i=id∨i=X) (fun _=>False) rfl R.df (fun i _=>⟨by simp,rfl⟩) (fun i hi=>?_) (Ext.refl _ _) (fun _ _ _ h=>h) (fun _ _ _=>⟨rfl,rfl⟩) (fun b h=>h.elim) (fun b h=>h.elim) (fun b h=>h.elim)
  (fun i hi=>hi.elim) (fun i hi=>?_) (fun c1 c2 b=>?_) R.gz rfl rfl rfl (dQ _)
 ·simp only [not_or] at hi
  simp only [bA,hi.1,hi.2,if_false];exact ⟨trivial,trivial⟩
 ·by_cases hiX:i=X
  ·subst hiX
   simp only [bA,if_true,if_neg (Ne.symm hne)]
   exact ⟨hXm,(by intro h;cases h),fun j hj=>R.pf i j (by rw [hX];exact hj)⟩
  ·have hii:i=id:=by rcases hi with h | h;exact h;exact absurd h hiX
   subst hii;simp only [bA,if_true]
   refine ⟨hid,fun _=>⟨blk,h1,by rw [fP hl1];exact h2,h3,?_⟩,fun st' hst'=>?_⟩
   ·refine h4.dL (fun m hm=>?_) hl1
    have:m=0:=by simp at hm;exact hm
    subst this
    refine ⟨?_,(h4 (j+0) (by simp at hl1;omega)).2⟩
    simp only [List.getElem_cons_zero,Nat.add_zero,hv];exact rep
   ·exact R.pf i st' (by rw [hb];exact hst')
 ·have e1:=aM (n:=E.n) (fun i _=>c1 i (fun h=>h) b)
  have e2:=nQ (n:=C.m) hid hXm hne (fun i h1 h2=>c2 i (fun h=>by rcases h with h | h;exact h1 h;exact h2 h) b)
  have e3:cB s w pt b id=dx b (pt id st')+aP b cs (aD w blk):=by simp only [cB,hb,gQ,hblk,Option.getD_some]
  have e4:cB ((2*id+1,.aI st' true (dL cs j [.sl 2 t l]))::(2*X+1,.aW st false false t l)::s) w pt b id =
   dx b (pt id st')+aP b (dL cs j [.sl 2 t l]) (aD w blk):=by
   simp only [cB,bA,if_true,gQ,hblk,Option.getD_some]
  have e5:cB ((2*id+1,.aI st' true (dL cs j [.sl 2 t l]))::(2*X+1,.aW st false false t l)::s) w pt b X=0:=by
   simp only [cB,bA,if_true,if_neg (Ne.symm hne),gQ]
  have e5':cB s w pt b X=eu b (.sl 2 t l) v:=by
   simp only [cB,hX,gQ];rw [Eb rep,hr]
  have e6:=iP (b:=b) (f:=aD w blk) hl1
  have e7:aP b [D.sl 2 t l] (fun i=>aD w blk (j+i))=eu b (.sl 2 t l) v:=by
   show eu b (.sl 2 t l) (aD w blk (j+0))+0=_;rw [Nat.add_zero,Nat.add_zero,hv]
  have e8:aP b ((cs.drop j).take [D.sl 2 t l].length) (fun i=>aD w blk (j+i))=0:=by
   show aP b ((cs.drop j).take 1) _=_;rw [hj];show eu b (.gZ X st) (aD w blk (j+0))+0=0
   cases aD w blk (j+0)<;>rfl
  have h1:=R.ct b;have h2:=R.cb b;unfold TC at *
  exact ⟨by omega,fun h=>h2 (by omega)⟩
theorem Nc {d:D} {x:(t:Ty)×t.den} {v:Value} {b o:Nat} (hx:Ap d=some x) (h:bO w G pt d v) (hc:w.cell? ⟨b,o,none⟩=some v):x.1.nc=1∧dK w G x.1 x.2 b o:=by
 cases d with
 | int k n=>
  simp only [Ap,bq] at hx;subst hx
  exact ⟨rfl,by simp only [dK];rw [hc,h.1];exact ⟨rfl,h.2⟩⟩
 | bool z=>
  simp only [Ap,bq] at hx;subst hx
  exact ⟨rfl,by simp only [dK];rw [hc,show v = .bool z from h]⟩
 | str l=>
  simp only [Ap,bq] at hx;subst hx;obtain ⟨s,h1,h2⟩:=h
  exact ⟨rfl,by simp only [dK];exact ⟨s,by rw [hc,h1],h2⟩⟩
 | sl f t l=>
  match f,hx,h with
  | 0,hx,h=>
   simp only [Ap,bq] at hx;subst hx;obtain ⟨a,n,c,h1,h2,h3,h4,h5⟩:=h;subst h2;refine ⟨rfl,?_⟩;simp only [dK]
   refine ⟨a,l.length,c,by rw [hc,h1],rfl,h3,h4,?_⟩
   rcases h5 with h5 | ⟨b1,o1,h5,h6,h7⟩
   ·exact .inl h5
   ·exact .inr ⟨b1,o1,h5,h6,h7⟩
  | n+1,hx,_=>cases hx
 | gM f t y=>
  simp only [Ap,bq] at hx;subst hx;obtain ⟨b1,o1,h1,h2,h3⟩:=h;refine ⟨rfl,?_⟩;simp only [dK]
  exact ⟨b1,o1,by rw [hc,h1],h2,h3⟩
 | _=>cases hx
theorem yt:∀ {cs:List D} {x:(t:Ty)×t.den} {f:Nat→Value} {b o:Nat},rD cs=some x→aR w G pt cs f→(∀ j,j<cs.length→w.cell? ⟨b,o+j,none⟩=some (f j))→x.1.nc=cs.length∧dK w G x.1 x.2 b o
 | [],x,f,b,o,hx,_,_=>by
  simp only [rD,bq] at hx;subst hx
  exact ⟨rfl,by simp only [dK]⟩
 | d::r,x,f,b,o,hx,h,hc=>by
  simp only [rD] at hx;split at hx
  ·rename_i y z hy hz
   simp only [bq] at hx;subst hx
   obtain ⟨p1,p2⟩:=Nc (b:=b) (o:=o) hy (h 0 (by simp)).1 (by simpa using hc 0 (by simp))
   obtain ⟨q1,q2⟩:=yt (f:=fun j=>f (j+1)) (b:=b) (o:=o+1) hz (fun j hj=>by
    have:=h (j+1) (by simpa using hj)
    rw [List.getElem_cons_succ] at this
    exact this) (fun j hj=>by
    have:=hc (j+1) (by simpa using hj)
    rw [show o+1+j=o+(j+1) by omega]
    exact this)
   refine ⟨by simp only [Ty.nc,List.length_cons];omega,?_⟩
   simp only [dK];rw [p1];exact ⟨p2,q2⟩
  ·cases hx
theorem Rel.freeze (R:Rel E C s a w G pt) {u id st:Nat} {cs:List D} {x:(t:Ty)×t.den} (hu:get s (2*u) = .ptr id st 0) (hb:get s (2*id+1) = .aI st true cs) (hx:rD cs=some x) :
 ∃ G',Rel E C ([(2*id+1,.aI st false cs),(2*u,.iF x.1 [x.2] 0 0)]++s) a w G' pt:=by
 have hB:=R.bx id;rw [hb] at hB;obtain ⟨blk,h1,h2,h3,h4⟩:=hB rfl
 have hblk:bH (pt id st)=some blk:=by rw [h1];rfl
 have hid:=gB R (id:=id) (by rw [hb];simp)
 have hcb:0<cB s w pt blk id:=by
  simp only [cB,hb,gQ,dx,hblk,if_true];omega
 have hpos:0<TC E.n C.m s a w pt blk:=nG hcb (R.iT blk id);obtain ⟨hlt,hnew⟩:=R.cb blk hpos
 have hE:Ext w G w (fun b=>if b=blk then cs.length else G b):=⟨fun _ _ _=>rfl,fun b=>by
  by_cases h:b=blk
  ·subst h;rw [h3];exact fG _
  ·simp [h]⟩
 have gu:∀ t,t≠u→get ([(2*id+1,.aI st false cs),(2*u,.iF x.1 [x.2] 0 0)]++s) (2*t)=get s (2*t):=fun t ht=>by
  show get ((2*id+1,_)::(2*u,_)::s) (2*t)=_
  rw [aH,if_neg (by omega),aH,if_neg (by omega)]
 have gi:∀ i,i≠id→get ([(2*id+1,.aI st false cs),(2*u,.iF x.1 [x.2] 0 0)]++s) (2*i+1)=get s (2*i+1):=fun i hi=>by
  show get ((2*id+1,_)::(2*u,_)::s) (2*i+1)=_
  rw [aH,if_neg (by omega),aH,if_neg (by omega)]
 have gu0:get ([(2*id+1,.aI st false cs),(2*u,.iF x.1 [x.2] 0 0)]++s) (2*u) = .iF x.1 [x.2] 0 0:=by
  show get ((2*id+1,_)::(2*u,_)::s) (2*u)=_
  rw [aH,if_neg (by omega),aH,if_pos rfl]
 have gi0:get ([(2*id+1,.aI st false cs),(2*u,.iF x.1 [x.2] 0 0)]++s) (2*id+1) = .aI st false cs:=by
  show get ((2*id+1,_)::(2*u,_)::s) (2*id+1)=_;rw [aH,if_pos rfl]
 have hun:u<E.n:=by
  rcases Nat.lt_or_ge u E.n with h | h
  ·exact h
  ·have:=R.ht u h
   rw [hu] at this;cases this
 refine ⟨fun b=>if b=blk then cs.length else G b,R.step (fun t=>t=u) (fun i=>i=id) (fun b=>b=blk) rfl R.df (fun t ht=>⟨gu t ht,rfl⟩) (fun i hi=>⟨gi i hi,rfl⟩) hE (fun _ _ _ h=>h)
  (fun b hb' _=>⟨rfl,by simp [show ¬ b=blk from hb']⟩) (fun b hb' t _=>by rw [show b=blk from hb'];exact R.bt hcb t) (fun b hb' i hi=>by rw [show b=blk from hb'];exact R.bb hcb hi) (fun b hb'=>by rw [show b=blk from hb'];exact hnew)
  (fun t ht=>?_) (fun i hi=>?_) (fun c1 c2 b=>?_) (fun b hb'=>?_) rfl rfl rfl (dQ _)⟩
 ·have ht:t=u:=ht
  subst ht;refine ⟨hun,?_⟩;rw [gu0];have ht:=R.tm t;rw [hu] at ht;obtain ⟨b',q1,q2⟩:=ht;rw [hblk] at q1
  have q1:blk=b':=by simpa using q1
  subst q1
  have h4':aR w (fun b=>if b=blk then cs.length else G b) pt cs (aD w blk):=fun j hj=>⟨bO.mono hE (fun _ _ _ h=>h) (h4 j hj).1 fun b hb'=>by
   have hne:b≠blk:=by
    rintro rfl
    have e1:aP b cs (aD w b)≤0:=by
     have:=R.ct b;have h5:=R.iT b id;simp only [cB,hb,gQ,dx,hblk,if_true,Option.getD_some] at h5;omega
    have:=jy (b:=b) (ds:=cs) (f:=aD w b) j hj;omega
   exact ⟨rfl,by simp [hne]⟩,(h4 j hj).2⟩
  obtain ⟨p1,p2⟩:=yt (b:=blk) (o:=0) hx h4' (fun j hj=>by rw [Nat.zero_add];exact nX h2 hj)
  refine ⟨blk,0,by rw [q2];simp,by simp,by simp [p1],fun i hi=>?_⟩
  have:i=0:=by simpa using hi
  subst this
  simpa using p2
 ·have hi:i=id:=hi
  subst hi
  refine ⟨hid,?_,fun st' h=>?_⟩
  ·rw [gi0]
   intro h;cases h
  ·rw [gi0] at h
   exact R.pf i st' (by rw [hb];exact h)
 ·have hle:TC E.n C.m ([(2*id+1,.aI st false cs),(2*u,.iF x.1 [x.2] 0 0)]++s) a w pt b≤TC E.n C.m s a w pt b:=by
   unfold TC
   refine Nat.add_le_add (yV fun t=>?_) (yV fun i=>?_)
   ·by_cases ht:t=u
    ·subst ht
     simp only [cT];rw [gu0]
     have:dN b (.iF x.1 [x.2] 0 0) (a.tmps.getD t undef)=0:=by cases a.tmps.getD t undef<;>rfl
     omega
    ·exact Nat.le_of_eq (c1 t ht b)
   ·by_cases hi:i=id
    ·subst hi
     simp only [cB];rw [gi0];exact fG _
    ·exact Nat.le_of_eq (c2 i hi b)
  exact ⟨jQ hle (R.ct b),fun h=>R.cb b (nG h hle)⟩
 ·have:b≠blk:=by omega
  simp [this];exact R.gz b hb'
theorem Rel.uY (R:Rel E C s a w G pt) (hm:E.n≤C.m) (k j X:Nat):∃ G' bX,Rel E C (uY E.n s k j X++s) a w G' bX:=by
 unfold gI.uY
 cases hdp:Qg (get s (2*X+1)) with
 | true=>
  unfold qA;simp only [aQ];split
  ·rename_i st l hb
   exact ⟨G,pt,(R.flatten hb).1⟩
  ·exact ⟨G,pt,R⟩
 | false=>
 simp only [bU]
 cases hX:Nat.blt X E.n with
 | false=>exact ⟨G,pt,R⟩
 | true=>
  have hX':X<C.m:=by have:X<E.n:=by simpa [Nat.blt_eq] using hX
                     omega
  rcases wT k with ⟨ho,i,rfl⟩ | ⟨ho,i,rfl⟩
  ·simp only [ho,aQ]
   split
   ·rename_i st cs hb
    split
    ·rename_i f t l hj
     cases hg:(Nat.beq f 2&&(Nat.blt 0 t.nc && !Nat.beq ((2*i+1) / 2) X)) with
     | false=>exact ⟨G,pt,R⟩
     | true=>
      simp only [bP,Bool.not_eq_true'] at hg;have hf:=dM hg.1;subst hf
      have hne:i≠X:=by have:=zC5 hg.2.2;omega
      exact ⟨G,R.af9 hX' hne hb hj⟩
    ·exact ⟨G,pt,R⟩
   ·exact ⟨G,pt,R⟩
  ·simp only [ho,aQ,bU]
   split
   ·rename_i f t l hs
    cases hg:(Nat.beq f 2&&Nat.blt 0 t.nc) with
    | false=>exact ⟨G,pt,R⟩
    | true=>
     simp only [bP] at hg;have hf:=dM hg.1;subst hf;exact ⟨G,R.af6 hX' hs⟩
   ·rename_i id st off hs
    unfold KT;split
    ·rename_i st' cs hb
     split
     ·rename_i x hx
      cases hg:(Nat.beq st st' && Nat.beq off 0) with
      | false=>exact ⟨G,pt,R⟩
      | true=>
       simp only [bP] at hg;have h1:=dM hg.1;have h2:=dM hg.2;subst h1 h2;obtain ⟨G',R'⟩:=R.freeze hs hb hx;exact ⟨G',pt,R'⟩
     ·exact ⟨G,pt,R⟩
    ·exact ⟨G,pt,R⟩
   ·exact ⟨G,pt,R⟩
theorem Rel.agb (R:Rel E C s a w G pt) {id X st st' i:Nat} (hne:id≠X) {t:Ty} {r:List t.den} {l:List (List t.den)} (hX:get s (2*X+1) = .aW st true false t r)
 (hb:get s (2*id+1) = .dP st' t l (some (i,X,st))) :
 Rel E C ((2*id+1,.dP st' t (l.set i r) none)::(2*X+1,.aW st false false t r)::s) a w G pt:=by
 rcases Nat.lt_or_ge i l.length with hlt | hge
 ·have R1:=R.KP hb
  have hj:((bM t l (some (i,X,st))).drop i).take 1=[.gZ X st]:=by
   rw [drop_one (by rw [lZ];exact hlt)]
   simp [bM]
  have R2:=R1.Zx (id:=id) (X:=X) (st:=st) (st':=st') (cs:=bM t l (some (i,X,st))) (j:=i) (t:=t) (l:=r) hne (by simp only [bA,Ne.symm hne,if_false];exact hX) (by simp only [bA,if_true]) hj
  rw [Af (by rw [lZ];exact hlt),Gg] at R2
  have R3:=R2.Gf (id:=id) (st:=st') (t:=t) (l:=l.set i r) (h:=none) (by simp only [bA,if_true])
  refine R3.congr fun k=>?_
  simp only [aH]
  by_cases hk:k=2*id+1
  ·simp only [hk,if_true]
  ·simp only [hk,if_false]
 ·have e1:bM t (l.set i r) none=bM t l (some (i,X,st)):=by
   rw [List.set_eq_of_length_le hge];simp only [bM]
   rw [List.set_eq_of_length_le (by simpa using hge)]
  have R1:=R.KP hb;rw [←e1] at R1
  have R2:=R1.Gf (id:=id) (st:=st') (t:=t) (l:=l.set i r) (h:=none) (by simp only [bA,if_true])
  have R3:=(R2.D5 (id:=X) (st:=st) (ar:=false) (t:=t) (l:=r) (by simp only [bA,Ne.symm hne,if_false];exact hX)).1
  have R4:=R3.sameBox (id:=X) (d:=.aW st false false t []) (d':=.aW st false false t r) (by simp only [bA,if_true]) (by simp) (fun _ h=>by cases h) (fun _=>rfl) rfl
  refine R4.congr fun k=>?_
  simp only [aH]
  by_cases hk:k=2*id+1
  ·have:¬ (2*id+1=2*X+1):=by omega
   simp only [hk,if_true,this,if_false]
  ·simp only [hk,if_false]
   by_cases hk2:k=2*X+1
   ·simp only [hk2,if_true]
   ·simp only [hk2,if_false]
theorem Rel.mR (R:Rel E C s a w G pt) (k j X:Nat):Rel E C (mR s k j X++s) a w G pt:=by
 unfold gI.mR;split
 ·rename_i st t l hX
  rcases wT k with ⟨ho,i,rfl⟩ | ⟨ho,i,rfl⟩
  ·simp only [ho,aQ]
   split
   ·rename_i st' cs hb
    split
    ·rename_i Y st2 hj
     cases hg:(Nat.beq Y X&&(Nat.beq st2 st && !Nat.beq ((2*i+1) / 2) X)) with
     | false=>exact R
     | true=>
      simp only [bP,Bool.not_eq_true'] at hg;have hY:=dM hg.1;have hS:=dM hg.2.1;subst hY hS
      have hne:i≠Y:=by have:=zC5 hg.2.2;omega
      exact R.Zx hne hX hb hj
    ·exact R
   ·rename_i st' t' l' i' Y st2 hb
    cases hg:(Nat.beq Y X&&(Nat.beq st2 st && !Nat.beq ((2*i+1) / 2) X)) with
    | false=>exact R
    | true=>
     simp only [bP,Bool.not_eq_true'] at hg;have hY:=dM hg.1;have hS:=dM hg.2.1;subst hY hS
     have hne:i≠Y:=by have:=zC5 hg.2.2;omega
     simp only [aQ];split
     ·rename_i ht
      have ht':=Ty.eq_of_beq ht;subst ht';exact R.agb hne hX hb
     ·exact R
   ·exact R
  ·simp only [ho,bU]
   split
   ·rename_i Y st2 hs
    cases hg:(Nat.beq Y X&&Nat.beq st2 st) with
    | false=>exact R
    | true=>
     simp only [bP] at hg;have hY:=dM hg.1;have hS:=dM hg.2;subst hY hS;exact R.af7 hX hs
   ·exact R
 ·exact R
theorem Rel.oU (R:Rel E C s a w G pt) (k j X:Nat):Rel E C (oU s k j X++s) a w G pt:=by
 unfold gI.oU;rw [List.append_assoc];refine Rel.mR ?_ k j X;unfold qA;split
 ·rename_i st l hb
  exact (R.flatten hb).1
 ·exact R
theorem Ec:∀ (l:List (Nat×Nat×Nat)) (r:Lv),(qB l r).e=r.e
 | [],_=>rfl
 | _::l,r=>Ec l _
theorem wU:∀ (l:List (Nat×Nat×Nat)) (r:Lv) (a:Act) (w:World) (G:Nat→Nat) (pt:Nat→Nat→Option Value),Rel E C r.s a w G pt→Rel E C (qB l r).s a w G pt
 | [],_,_,_,_,_,R=>R
 | p::l,r,a,w,G,pt,R=>wU l ⟨r.e,aL (gI.oU r.s p.1 p.2.1 p.2.2)++r.ch,gI.oU r.s p.1 p.2.1 p.2.2++r.s⟩ a w G pt (R.oU p.1 p.2.1 p.2.2)
theorem tJ:∀ (l:List (Nat×Nat×Nat)) (r:Lv) (s0:St),(∀ k,k ∉ r.ch→get r.s k=get s0 k)→∀ k,k ∉ (qB l r).ch→get (qB l r).s k=get s0 k
 | [],_,_,h=>h
 | p::l,r,s0,h=>tJ l _ s0 fun k hk=>by
  simp only [qb,not_or] at hk;show get (gI.oU r.s p.1 p.2.1 p.2.2++r.s) k=_;rw [kS _ _ _ hk.1];exact h k hk.2
theorem l9 {α:Type} {n:Nat} (Q:α→Prop) (I:List Nat→St→Prop) (h1:∀ ch s k j X,I ch s→I (aL (gI.uY n s k j X)++ch) (gI.uY n s k j X++s)) :
 ∀ (l:List (Nat×Nat×Nat)) (ch:List Nat) (s:St) (f:List Nat→St→α),I ch s→(∀ ch s,I ch s→Q (f ch s))→Q (KU n l ch s f)
 | [],ch,s,f,hI,hf=>hf ch s hI
 | p::l,ch,s,f,hI,hf=>l9 Q I h1 l _ _ f (h1 ch s p.1 p.2.1 p.2.2 hI) hf
theorem Qk (cs:List D) (f:D→D):dL cs 0 (((cs.drop 0).take cs.length).map f)=cs.map f:=by
 simp [dL]
theorem Rel.agc (R:Rel E C s a w G pt) (t:Nat) (hnt:fu (get s (2*t))=false) (hu:t<E.n) :
 ∃ G',Rel E C ((2*t,view (get s (2*t)))::(2*t,share (get s (2*t)))::s) a w G' pt:=by
 obtain ⟨G',e,R1,h1,_⟩:=R.zV t hnt
 exact ⟨G',R1.weak t (Ext.refl _ _) (fun _ _=>rfl) (h1.view hnt) hu (fun b=>by rw [nT _ _ _ hnt];exact fG _)⟩
theorem Rel.agd (R:Rel E C s a w G pt) (id st:Nat) {cs:List D} (hb:get s (2*id+1) = .aI st true cs)
 (hv:∀ blk,bH (pt id st)=some blk→aR w G pt (cs.map dw) (aD w blk)) :
 Rel E C ((2*id+1,.aI st true (cs.map dw))::s) a w G pt:=by
 have hB:=R.bx id;rw [hb] at hB;obtain ⟨blk,h1,h2,h3,h4⟩:=hB rfl
 have hblk:bH (pt id st)=some blk:=by rw [h1];rfl
 have hid:=gB R (id:=id) (by rw [hb];simp)
 refine R.step (fun _=>False) (fun i=>i=id) (fun _=>False) rfl R.df (fun t _=>⟨by simp,rfl⟩) (fun i hi=>⟨by simp [hi],rfl⟩) (Ext.refl _ _) (fun _ _ _ h=>h) (fun _ _ _=>⟨rfl,rfl⟩) (fun b h=>h.elim) (fun b h=>h.elim) (fun b h=>h.elim)
  (fun t h=>h.elim) (fun i hi=>?_) (fun c1 c2 b=>?_) R.gz rfl rfl rfl (dQ _)
 ·subst hi
  refine ⟨hid,?_,?_⟩
  ·simp only [bA,if_true]
   exact fun _=>⟨blk,h1,by rw [List.length_map];exact h2,h3,hv blk hblk⟩
  ·simp only [bA,if_true]
   intro st' hst'
   exact R.pf i st' (by rw [hb];exact hst')
 ·have e1:=aM (n:=E.n) (f:=cT s a b) (g:=cT ((2*id+1,.aI st true (cs.map dw))::s) a b) (fun i _=>(c1 i (fun h=>h) b).symm)
  have e2:=dH (n:=C.m) (f:=cB s w pt b) (g:=cB ((2*id+1,.aI st true (cs.map dw))::s) w pt b) hid (fun i hi=>c2 i hi b)
  have e3:cB ((2*id+1,.aI st true (cs.map dw))::s) w pt b id≤cB s w pt b id:=by
   simp only [cB,bA,if_true,hb,gQ];rw [iN nS];omega
  have h1:=R.ct b;have h2:=R.cb b;unfold TC at *
  exact ⟨by omega,fun h=>h2 (by omega)⟩
theorem Az (cs:List D):(cs.map bV).map dw=cs.map dw:=by
 rw [List.map_map]
 refine List.map_congr_left fun d _=>?_
 cases d<;>rfl
theorem Nf {M:List Nat} {k:Nat} {sh:Sh} {m:Nat} (hm:m ∉ M):get (Gm M s k sh) m=get s m:=by
 unfold Gm
 cases hc:((Qi (u6 sh) (get s k) && !(sh.abs (get s k)).isSome)&&mem k M) with
 | false=>rfl
 | true=>
  simp only [aQ];rw [bP,bP] at hc
  have hk:m≠k:=fun h=>by
   subst h
   exact hm (by
    have:=hc.2;clear hc
    induction M with
    | nil=>cases this
    | cons x r ih=>
     simp only [mem,Bool.or_eq_true] at this
     rcases this with h | h
     ·rw [dM h];simp
     ·exact oH _ (ih (fun h2=>hm (oH _ h2)) h))
  cases odd k with
  | true=>
   simp only [aQ];split
   ·cases Nat.beq (u6 sh) 0 with
    | true=>simp only [aQ];rw [aH,if_neg hk,aH,if_neg hk]
    | false=>simp only [bU];rw [aH,if_neg hk]
   ·rfl
  | false=>
   simp only [bU]
   cases fu (get s k) with
   | true=>rfl
   | false=>
    cases Nat.beq (u6 sh) 0 with
    | true=>simp only [aQ,bU];rw [aH,if_neg hk,aH,if_neg hk]
    | false=>simp only [bU];rw [aH,if_neg hk]
theorem Ng (R:Rel E C s a w G pt) (M:List Nat) (k:Nat) (sh:Sh):∃ G',Rel E C (Gm M s k sh) a w G' pt:=by
 unfold Gm
 cases hc:((Qi (u6 sh) (get s k) && !(sh.abs (get s k)).isSome)&&mem k M) with
 | false=>exact ⟨G,R⟩
 | true=>
  simp only [aQ];rw [bP,bP] at hc
  rcases wT k with ⟨hk,i,rfl⟩ | ⟨hk,i,rfl⟩
  ·rw [hk]
   simp only [aQ];split
   ·rename_i st cs hb
    obtain ⟨G',blk,e,hblk,hroom,R1,hr⟩:=R.PD i st 0 cs.length hb (by omega)
    rw [Qk] at R1
    cases Nat.beq (u6 sh) 0 with
    | false=>exact ⟨G',R1⟩
    | true=>
     simp only [aQ]
     have:=R1.agd i st (cs:=cs.map bV) (by rw [aH,if_pos rfl]) (fun b hb'=>by
      rw [hblk] at hb';simp only [bq] at hb';subst hb';rw [Az]
      have h2:aR w G' pt (cs.map bV) (aD w blk):=by
       have h3:=hr;simp only [List.drop_zero,List.take_length,Nat.zero_add] at h3;exact h3
      exact h2.view)
     rw [Az] at this;exact ⟨G',this⟩
   ·exact ⟨G,R⟩
  ·rw [hk]
   simp only [bU]
   cases hnt:fu (get s (2*i)) with
   | true=>exact ⟨G,R⟩
   | false=>
    simp only [bU]
    have hu:i<E.n:=by
     rcases Nat.lt_or_ge i E.n with h | h
     ·exact h
     ·have:=hc.1.1
      rw [R.ht i h] at this;cases this
    cases Nat.beq (u6 sh) 0 with
    | true=>exact R.agc i hnt hu
    | false=>
     obtain ⟨G',e,R1,_⟩:=R.zV i hnt;exact ⟨G',R1⟩
theorem tK {M:List Nat}:∀ {pl:Pl} {s:St} {m:Nat},m ∉ M→get (oW M pl s) m=get s m
 | [],_,_,_=>rfl
 | p::r,s,m,h=>by
  unfold oW;rw [tK h,Nf h]
end
section
variable {E:Env} {C:Ctx} {a:Act} {w:World} {pt:Nat→Nat→Option Value}
theorem AA (M:List Nat):∀ (pl:Pl) {s:St} {G:Nat→Nat},Rel E C s a w G pt→∃ G',Rel E C (oW M pl s) a w G' pt
 | [],_,G,R=>⟨G,R⟩
 | p::r,s,G,R=>by
  obtain ⟨G1,R1⟩:=Ng R M p.1 p.2;exact AA M r R1
end
theorem mem_iff {k:Nat}:∀ {l:List Nat},mem k l=true↔k∈l
 | []=>by simp [mem]
 | x::r=>by
  simp only [mem,Bool.or_eq_true,List.mem_cons,mem_iff (l:=r)];constructor
  ·rintro (h | h)
   ·exact .inl (dM h)
   ·exact .inr h
  ·rintro (h | h)
   ·subst h;exact .inl (Nat.beq_refl k)
   ·exact .inr h
theorem mg:∀ {a b:List Nat},subset a b=true→∀ k∈a,k∈b
 | [],_,_,k,h=>by simp at h
 | x::r,b,hs,k,h=>by
  simp only [subset,bP] at hs
  rcases List.mem_cons.1 h with h | h
  ·subst h;exact mem_iff.1 hs.1
  ·exact mg hs.2 k h
theorem mh:∀ (s:St) (ks:List Nat) (k:Nat),get (strike ks s) k=bif mem k ks then .undef else get s k
 | [],ks,k=>by simp only [strike,get];cases mem k ks<;>rfl
 | (k0,d)::r,ks,k=>by
  simp only [strike]
  cases h0:mem k0 ks with
  | true=>
   simp only [aQ];rw [mh r ks k,aH]
   by_cases hk:k=k0
   ·subst hk;rw [h0];rfl
   ·rw [if_neg hk]
  | false=>
   simp only [bU];rw [aH,aH]
   by_cases hk:k=k0
   ·subst hk;rw [if_pos rfl,if_pos rfl,h0];rfl
   ·rw [if_neg hk,if_neg hk,mh r (k0::ks) k]
    have:mem k (k0::ks)=mem k ks:=by
     simp only [mem,fH];rw [jM hk,Bool.false_or]
    rw [this]
theorem wV {s' rest:St}:∀ {pl:Pl} {x:(oN pl).den},CB pl s' = some x→∀ k,get (pJ pl x++rest) k=get s' k∨get (pJ pl x++rest) k=get rest k
 | [],_,_,k=>.inr rfl
 | p::r,x,h,k=>by
  simp only [CB] at h;split at h
  ·rename_i y z h1 h2
   simp only [bq] at h;subst h;simp only [pJ,List.cons_append];rw [aH]
   by_cases hk:k=p.1
   ·subst hk
    rw [if_pos rfl];exact .inl (Sh.mQ h1)
   ·rw [if_neg hk]
    exact wV h2 k
  ·cases h
theorem vo {s0:St}:∀ {s:St},closedIn s0 s=true→∀ k i,i∈refs (get s k)→get s0 (2*i+1)≠.undef
 | [],_,k,i,h=>by simp [get,refs,bR] at h
 | (k0,d)::r,hc,k,i,h=>by
  simp only [closedIn,bP] at hc;rw [aH] at h
  by_cases hk:k=k0
  ·rw [if_pos hk] at h
   have:=List.all_eq_true.1 hc.1 i h;intro hu;rw [hu] at this;simp [iG] at this
  ·rw [if_neg hk] at h
   exact vo hc.2 k i h
section
variable {E:Env} {C:Ctx} {s s':St} {a:Act} {w:World} {G:Nat→Nat} {pt:Nat→Nat→Option Value}
theorem Rel.cut (R:Rel E C s' a w G pt) {base:St} {hp:Bool} {M drop:List Nat} {pl:Pl} {x:(oN pl).den} (gF:C.pin=none∨hp=true)
 (hch:∀ k,k ∉ M++drop→get s' k=get base k) {M':List Nat} (hM:∀ k∈M',k∈M++drop) (hx:nu M' pl s' = some x) (hcl:iw hp (pJ pl x++strike (M++drop) base)=true) :
 ∃ G' bX,Rel E C (pJ pl x++strike (M++drop) base) a w G' bX:=by
 simp only [iw,bP] at hcl;obtain ⟨G',RW⟩:=AA M' pl R
 have hch:∀ k,k ∉ M++drop→get (oW M' pl s') k=get base k:=fun k hk=>(tK (fun h=>hk (hM k h))).trans (hch k hk)
 have hx:CB pl (oW M' pl s')=some x:=hx;refine ⟨G',?_⟩
 refine RW.restrict (fun k=>?_) (fun k i h=>vo hcl.1 k i h) ?_
 ·rcases wV (rest:=strike (M++drop) base) hx k with h | h
  ·exact .inl h
  ·rw [h,mh]
   cases hm:mem k (M++drop) with
   | true=>exact .inr rfl
   | false=>
    refine .inl (hch k fun hk=>?_).symm
    have h2:mem k (M++drop)=true:=mem_iff.2 hk;rw [hm] at h2;cases h2
 ·rcases gF with h | h
  ·exact .inl h
  ·refine .inr fun hu=>?_
   have:=hcl.2;rw [h,hu] at this;simp [iG] at this
theorem Ql {base:St} {s':St} {M drop ch0:List Nat} {pl:Pl} {x:(oN pl).den} {M':List Nat} (hM:∀ k∈M',k∈M++drop) (hx:nu M' pl s' = some x) (hch:∀ k,k ∉ M++drop→get s' k=get base k) :
 ∀ k,k ∉ M++drop++ch0→get (pJ pl x++strike (M++drop) base) k=get base k:=by
 have hch:∀ k,k ∉ M++drop→get (oW M' pl s') k=get base k:=fun k hk=>(tK (fun h=>hk (hM k h))).trans (hch k hk)
 have hx:CB pl (oW M' pl s')=some x:=hx;intro k hk;simp only [qb,not_or] at hk;obtain ⟨⟨h1,h2⟩,h3⟩:=hk
 rcases wV (rest:=strike (M++drop) base) hx k with h | h
 ·rw [h]
  exact hch k (by simp [h1,h2])
 ·rw [h,mh]
  have:mem k (M++drop)=false:=by
   cases hm:mem k (M++drop) with
   | false=>rfl
   | true=>
    have:=mem_iff.1 hm;simp only [qb] at this
    exact absurd this (by simp [h1,h2])
  rw [this];rfl
end
theorem rE {hp:Bool} {M M' ch:List Nat} {base s':St} {e:Nat} {r:Lv}:∀ {ws:List Way} {x:(l8 ws).den},mU M' e s' ws=some x→(oZ hp M ch base ws x).den=some r →
 ∃ (w:Way) (y:(oN w.pl).den),w∈ws∧w.e=e∧nu M' w.pl s' = some y∧iw hp (Aq M base w y)=true∧r=⟨e,M++w.drop++ch,Aq M base w y⟩
 | [],_,h,_=>by cases h
 | [w],x,h,hr=>by
  simp only [mU] at h
  cases he:Nat.beq e w.e with
  | false=>simp [he] at h
  | true=>
   simp only [he,aQ] at h;have he:=dM he;simp only [oZ] at hr
   cases hc:iw hp (Aq M base w x) with
   | false=>rw [hc] at hr;cases hr
   | true=>
    rw [hc] at hr;simp only [aQ,Out.den,bq] at hr
    exact ⟨w,x,by simp,he.symm,h,hc,by rw [←hr,he]⟩
 | w::w'::ws,x,h,hr=>by
  simp only [mU] at h
  cases he:Nat.beq e w.e with
  | true=>
   simp only [he,aQ] at h;have he:=dM he;split at h
   ·rename_i y hy
    simp only [bq] at h;subst h;simp only [oZ,Out.den,aQ] at hr
    cases hc:iw hp (Aq M base w y) with
    | false=>rw [hc] at hr;cases hr
    | true=>
     rw [hc] at hr;simp only [aQ,Out.den,bq] at hr
     exact ⟨w,y,by simp,he.symm,hy,hc,by rw [←hr,he]⟩
   ·cases h
  | false=>
   simp only [he,bU] at h;split at h
   ·rename_i y hy
    simp only [bq] at h;subst h;simp only [oZ,Out.den,bU] at hr;obtain ⟨v,z,h1,h2⟩:=rE hy hr;exact ⟨v,z,oH _ h1,h2⟩
   ·cases h
def Gv (P:Program) (E:Env) (C:Ctx) (o:Oper) (a:Act) (w:World) (s':St):Prop:=
 ∀ (K:Act→World→Prop) (Q:Exit→Act→World→Prop),(∀ a' w' G' bX,Rel E C s' a' w' G' bX→K a' w')→o.wp P a w K Q
section
variable {P:Program} {E:Env} {C:Ctx} {s:St} {a:Act} {w:World} {G:Nat→Nat} {pt:Nat→Nat→Option Value} {o:Oper} {u:St}
theorem fC.wp {s':St} (h:fC P E C o a w s'):Gv P E C o a w s':=by
 intro K Q hK;obtain ⟨v,w',G',bX,hr,hR⟩:=h;unfold Oper.wp
 rcases hr with hr | ⟨hr,rfl⟩
 ·rw [hr,Oper.upon_value];exact hK _ _ _ _ hR
 ·rw [hr,Oper.upon_skip];exact hK _ _ _ _ hR
def KZ (P:Program) (E:Env) (Γ:uX) (C:Ctx):Prop:=
 ∀ kn o s a w G pt u,Rel E C s a w G pt→(Ao E Γ kn o s).den=some u→Gv P E C o a w (aA u s)
theorem bn:∀ (u s:St) (k:Nat),k ∉ aL u→get (aA u s) k=get s k
 | [],_,_,_=>rfl
 | (k0,d)::r,s,k,h=>by
  simp only [aL,List.mem_cons,not_or] at h;show get (aA r ((k0,d)::s)) k=_;rw [bn r _ k h.2,aH,if_neg h.1]
theorem kT {a b:Bool} (h:ji a b=true):a=b:=by cases a<;>cases b<;>first | rfl | cases h
theorem Ee {a b:Bool} (h:ji a b=false):a=Ea b:=by cases a<;>cases b<;>first | rfl | cases h
theorem Ef (b:Bool):Ea b≠b:=by cases b<;>simp [Ea]
theorem Gw (R:Rel E C s a w G pt) {ops:Array Oper} {j t:Nat} {b:Bool} (hj:yh ops.toList j=some t) (hb:get s (2*t) = .bool b):yielded ops a.tmps j=some b:=by
 unfold yh at hj;have hv:=R.tm t;rw [hb] at hv;have hv:a.tmps.getD t undef = .bool b:=hv
 have Nh:a.tmps[t]? = some (.bool b):=by
  rw [sJ] at hv
  cases h:a.tmps[t]? with
  | none=>rw [h] at hv;simp [undef] at hv
  | some x=>rw [h] at hv;simpa using hv
 simp only [Array.getElem?_toList] at hj;unfold yielded
 cases ho:ops[j]? with
 | none=>rw [ho] at hj;cases hj
 | some o=>
  rw [ho] at hj;simp only at hj;simp [hj,Nh]
theorem Rel.told (R:Rel E C s a w G pt) {t:Nat} {b:Bool} (hb:get s (2*t) = .bool b):Rel E C ((2*t,.bool b)::s) a w G pt:=
 R.congr fun k=>by
  rw [aH]
  by_cases hk:k=2*t
  ·rw [if_pos hk,hk,hb]
  ·rw [if_neg hk]
theorem Rel.skipped (R:Rel E C s a w G pt) (hd:eO E o=true):Rel E C (aA (gU o) s) (a.put o.dst undef) w G pt:=
 R.zU o (fun t ht=>by simpa [eO,ht,Nat.blt_eq] using hd) (d:=.fO []) ⟨#[],rfl,rfl,fun j h=>absurd h (Nat.not_lt_zero j)⟩ (fun b=>rfl)
theorem AB (R:Rel E C s a w G pt) {ops:Array Oper} {j t:Nat} (hj:yh ops.toList j=some t) (hb:get s (2*t) = .fO []):yielded ops a.tmps j=none:=by
 unfold yh at hj;have hv:=R.tm t;rw [hb] at hv;obtain ⟨arr,hv,hsz,_⟩:=hv
 have Nh:a.tmps[t]? = none∨a.tmps[t]? = some (.tuple arr):=by
  rw [sJ] at hv
  cases h:a.tmps[t]? with
  | none=>exact .inl rfl
  | some x=>rw [h] at hv;right;simpa using hv
 simp only [Array.getElem?_toList] at hj;unfold yielded
 cases ho:ops[j]? with
 | none=>rw [ho] at hj;cases hj
 | some o=>
  rw [ho] at hj;simp only at hj
  rcases Nh with Nh | Nh<;>simp [hj,Nh]
theorem lK {s0 s u:St} {ch:List Nat} (h:∀ k,k ∉ ch→get s k=get s0 k):∀ k,k ∉ aL u++ch→get (aA u s) k=get s0 k:=by
 intro k hk;simp only [qb,not_or] at hk;rw [bn u s k hk.1];exact h k hk.2
theorem CP {s0 s:St} {ch:List Nat} {k0:Nat} {d:D} (h:∀ k,k ∉ ch→get s k=get s0 k):∀ k,k ∉ k0::ch→get ((k0,d)::s) k=get s0 k:=by
 intro k hk;simp only [List.mem_cons,not_or] at hk;rw [aH,if_neg hk.1];exact h k hk.2
theorem tL (E:Env) (Γ:uX) (all:List Oper) (s0:St):∀ (l:List Oper) (kn:Kn) (ch:List Nat) (s:St) (r:Lv),
 (∀ k,k ∉ ch→get s k=get s0 k)→(jU E Γ all l kn ch s).den=some r→r.e=0∧∀ k,k ∉ r.ch→get r.s k=get s0 k
 | [],kn,ch,s,r,hch,h=>by
  simp only [jU,Out.den,bq] at h;subst h;exact ⟨rfl,hch⟩
 | o::l,kn,ch,s,r,hch,h=>by
  have IH:=tL E Γ all s0 l;simp only [jU] at h;split at h
  ·obtain ⟨u,_,h2⟩:=bind_some h
   exact IH _ _ _ r (lK hch) h2
  ·rename_i j want hg
   split at h
   ·cases h
   ·rename_i t ht
    split at h
    ·rename_i b hb
     split at h
     ·rename_i c hc
      cases hbc:ji b c with
      | false=>rw [hbc] at h;cases h
      | true=>
       rw [hbc] at h;simp only [aQ] at h
       cases hcw:ji c want with
       | true=>
        rw [hcw] at h;simp only [aQ] at h;obtain ⟨u,_,h2⟩:=bind_some h;exact IH _ _ _ r (lK hch) h2
       | false=>
        rw [hcw] at h;simp only [bU] at h
        cases hd:eO E o with
        | false=>rw [hd] at h;cases h
        | true=>
         rw [hd] at h;exact IH _ _ _ r (lK hch) h
     ·cases hd:eO E o with
      | false=>rw [hd] at h;cases h
      | true=>
       rw [hd] at h;simp only [aQ,Out.den] at h
       cases hbw:ji b want with
       | true=>
        rw [hbw] at h;simp only [aQ] at h;obtain ⟨u,_,h2⟩:=bind_some h;exact IH _ _ _ r (lK (CP hch)) h2
       | false=>
        rw [hbw] at h;exact IH _ _ _ r (lK (CP hch)) h
    ·cases hd:eO E o with
     | false=>rw [hd] at h;cases h
     | true=>
      rw [hd] at h;exact IH _ _ _ r (lK hch) h
    ·cases h
theorem UK (E:Env) (Γ:uX) (all:List Oper) (l:List Oper) (kn:Kn) (ch:List Nat) (s:St) (r:Lv) (h:(jU E Γ all l kn ch s).den=some r):r.e=0:=by
 -- every place may have turned
 exact (tL E Γ all s l kn ch s r (fun _ _=>rfl) h).1
theorem AJ {Γ:uX} {ops:Array Oper} {Q:Exit→Act→World→Prop} (H:KZ P E Γ C):∀ (l:List Oper) (i:Nat) (kn:Kn) (ch:List Nat) (s:St) (a:Act) (w:World) (G:Nat→Nat) (pt:Nat→Nat→Option Value) (r:Lv),
 ops.toList.drop i=l→Rel E C s a w G pt→(jU E Γ ops.toList l kn ch s).den=some r →
 (∀ a' w' G' bX,Rel E C r.s a' w' G' bX→Q .normal a' w')→wpOps P ops Q (List.range' i l.length) a w
 | [],i,kn,ch,s,a,w,G,pt,r,_,R,h,hQ=>by
  simp only [jU,Out.den,bq] at h;subst h;exact hQ _ _ _ _ R
 | o::l,i,kn,ch,s,a,w,G,pt,r,hl,R,h,hQ=>by
  have hi:ops[i]? = some o:=by
   have:(ops.toList.drop i)[0]? = some o:=by rw [hl];rfl
   rw [List.getElem?_drop] at this
   simpa using this
  have hl':ops.toList.drop (i+1)=l:=by
   rw [←List.drop_drop,hl];rfl
  have agf:List.range' i (o::l).length=i::List.range' (i+1) l.length:=by
   simp [List.range'_succ]
  rw [agf];simp only [wpOps,hi]
  -- the operation is run
  have run:∀ (Gx:Kn) (ch1:List Nat) (s1:St) (Qm:Kn),Region.wanted o (yielded ops a.tmps)=true→Rel E C s1 a w G pt →
   ((Ao E Γ Gx o s1).bind fun u=>jU E Γ ops.toList l Qm (aL u++ch1) (aA u s1)).den=some r →
   (if Region.wanted o (yielded ops a.tmps) then o.wp P a w (wpOps P ops Q (List.range' (i+1) l.length)) Q∨(o.asks P a w∧LetsOut Q)
    else wpOps P ops Q (List.range' (i+1) l.length) (a.put o.dst undef) w):=by
   intro Gx ch1 s1 Qm hw R1 hb;obtain ⟨u,h1,h2⟩:=bind_some hb;rw [hw,if_pos rfl]
   exact .inl (H Gx o s1 a w G pt u R1 h1 _ _ fun a' w' G' bX R'=>AJ H l (i+1) _ _ _ a' w' G' bX r hl' R' h2 hQ)
  have skip:∀ (ch1:List Nat) (s1:St) (Qm:Kn),Region.wanted o (yielded ops a.tmps)=false→Rel E C s1 a w G pt→eO E o=true →
   (jU E Γ ops.toList l Qm ch1 (aA (gU o) s1)).den=some r →
   (if Region.wanted o (yielded ops a.tmps) then o.wp P a w (wpOps P ops Q (List.range' (i+1) l.length)) Q∨(o.asks P a w∧LetsOut Q)
    else wpOps P ops Q (List.range' (i+1) l.length) (a.put o.dst undef) w):=by
   intro ch1 s1 Qm hw R1 hd hb;rw [hw];simp only [sI,if_false];exact AJ H l (i+1) _ _ _ _ w G pt r hl' (R1.skipped hd) hb hQ
  simp only [jU] at h;split at h
  ·rename_i hg
   exact run _ _ _ _ (by simp [Region.wanted,hg]) R h
  ·rename_i j want hg
   split at h
   ·cases h
   ·rename_i t ht
    split at h
    ·rename_i b hb
     have hy:=Gw R ht hb
     have hwd:Region.wanted o (yielded ops a.tmps)=decide (b=want):=by
      simp only [Region.wanted,hg,hy]
      cases b<;>cases want<;>rfl
     split at h
     ·rename_i c hc
      cases hbc:ji b c with
      | false=>rw [hbc] at h;cases h
      | true=>
       rw [hbc] at h;simp only [aQ] at h;have hbc:=kT hbc;subst hbc
       cases hcw:ji b want with
       | true=>
        rw [hcw] at h;have:=kT hcw
        exact run _ _ _ _ (by rw [hwd];exact fB this) R h
       | false=>
        rw [hcw] at h;have hne:=Ee hcw;simp only [bU] at h
        cases hd:eO E o with
        | false=>rw [hd] at h;cases h
        | true=>
         rw [hd] at h
         exact skip _ _ _ (by rw [hwd,hne];exact jM (Ef _)) R hd h
     ·cases hd:eO E o with
      | false=>rw [hd] at h;cases h
      | true=>
       rw [hd] at h;simp only [aQ,Out.den] at h
       cases hbw:ji b want with
       | true=>
        rw [hbw] at h;have:=kT hbw;subst this
        exact run _ _ _ _ (by rw [hwd];exact fB rfl) (R.told hb) h
       | false=>
        rw [hbw] at h;have hne:=Ee hbw;subst hne
        exact skip _ _ _ (by rw [hwd];exact jM (Ef _)) (R.told hb) hd h
    ·rename_i hb
     have hy:=AB R ht hb
     have hwd:Region.wanted o (yielded ops a.tmps)=false:=by
      simp only [Region.wanted,hg,hy]
      cases want<;>rfl
     cases hd:eO E o with
     | false=>rw [hd] at h;cases h
     | true=>
      rw [hd] at h;exact skip _ _ _ hwd R hd h
    ·cases h
end
theorem rF {τ ε:Type} {step:τ→Option (Sum τ ε)} {v:τ} {e:ε} (h:Loop step v=some e):∃ n,Ar step n v=some e:=by
 unfold Loop at h;split at h
 ·rename_i hx;exact ⟨_,h⟩
 ·cases h
theorem AO {τ ε:Type} {step:τ→Option (Sum τ ε)}:∀ {n m:Nat} {v:τ} {e:ε},Ar step n v=some e→n≤m→Ar step m v=some e
 | 0,_,_,_,h,_=>by cases h
 | n+1,0,_,_,_,hm=>by omega
 | n+1,m+1,v,e,h,hm=>by
  simp only [Ar] at h ⊢;split at h
  ·rename_i v' hv;exact AO h (by omega)
  ·exact h
  ·cases h
theorem vv {τ ε:Type} {step:τ→Option (Sum τ ε)} {v:τ} {e:ε} {n:Nat} (h:Ar step n v=some e):Loop step v=some e:=by
 have hx:∃ n,(Ar step n v).isSome=true:=⟨n,by rw [h];rfl⟩
 unfold Loop;rw [dif_pos hx];obtain ⟨e',he'⟩:=Option.isSome_iff_exists.1 hx.choose_spec;rw [he'];have h1:=AO h (Nat.le_max_left n hx.choose);have h2:=AO he' (Nat.le_max_right n hx.choose);rw [h1] at h2;exact h2.symm
theorem aT {τ ε:Type} {step:τ→Option (Sum τ ε)} {v:τ}:Loop step v=(match step v with
 | some (.inl v')=>Loop step v'
 | some (.inr e)=>some e
 | none=>none):=by
 cases hs:step v with
 | none=>
  cases hl:Loop step v with
  | none=>rfl
  | some e=>
   obtain ⟨n,hn⟩:=rF hl
   cases n with
   | zero=>cases hn
   | succ n=>simp only [Ar,hs] at hn;cases hn
 | some r=>
  cases r with
  | inr e=>exact vv (n:=1) (by simp only [Ar,hs])
  | inl v'=>
   show Loop step v=Loop step v'
   cases hl:Loop step v' with
   | some e=>
    obtain ⟨n,hn⟩:=rF hl
    exact vv (n:=n+1) (by simp only [Ar,hs];exact hn)
   | none=>
    cases hl2:Loop step v with
    | none=>rfl
    | some e=>
     obtain ⟨n,hn⟩:=rF hl2
     cases n with
     | zero=>cases hn
     | succ n=>
      simp only [Ar,hs] at hn;rw [vv hn] at hl;cases hl
def wW (P:Program) (c:Code) (Q:Exit→Act→World→Prop) (a:Act) (w:World):Prop:=
 ∀ (b:Frame) (k:List Item) (cs:List Frame),∃ e a' w',Q e a' w'∧Arrives P (lone (b.at a (.inLoop c::k)) cs w) b k cs e a' w'
theorem vw {P:Program} {c:Code} {Q:Exit→Act→World→Prop} {a:Act} {w:World} (h:c.wp P (Exit.then (wW P c Q) Q) a w) :
 ∀ (b:Frame) (k:List Item) (cs:List Frame),∃ e a' w',Q e a' w'∧Arrives P (lone (b.at a (.code c::.inLoop c::k)) cs w) b k cs e a' w':=by
 intro b k cs;obtain ⟨e,a₁,w₁,hq,harr⟩:=h b (.inLoop c::k) cs
 cases e with
 | normal=>
  obtain ⟨e₂,a₂,w₂,hq₂,harr₂⟩:=hq b k cs;exact ⟨e₂,a₂,w₂,hq₂,.of_steps harr harr₂⟩
 | exit id=>exact ⟨_,a₁,w₁,hq,.pass (x:=.inLoop c) rfl (fun _ _=>.inl (by simp)) harr⟩
 | goto l=>exact ⟨_,a₁,w₁,hq,.pass (x:=.inLoop c) rfl (fun _ _=>.inl (by simp)) harr⟩
 | ret=>exact ⟨_,a₁,w₁,hq,.pass (x:=.inLoop c) rfl (fun _ _=>.inl (by simp)) harr⟩
 | panic ch=>exact ⟨_,a₁,w₁,hq,.pass (x:=.inLoop c) rfl (fun _ _=>.inl (by simp)) harr⟩
 | outgrown=>exact ⟨_,a₁,w₁,hq,.pass (x:=.inLoop c) rfl (fun _ _=>.inl (by simp)) harr⟩
theorem yu {P:Program} {c:Code} {Q:Exit→Act→World→Prop} {a:Act} {w:World} (h:c.wp P (Exit.then (wW P c Q) Q) a w):(Code.loop c).wp P Q a w:=
 fun b k cs=>let ⟨e,a',w',hq,harr⟩:=vw h b k cs
  ⟨e,a',w',hq,.of_steps (.one step_loop) harr⟩
theorem yw {P:Program} {c:Code} {Q:Exit→Act→World→Prop} {a:Act} {w:World} (h:c.wp P (Exit.then (wW P c Q) Q) a w):wW P c Q a w:=
 fun b k cs=>let ⟨e,a',w',hq,harr⟩:=vw h b k cs
  ⟨e,a',w',hq,.of_steps (.one step_inLoop) harr⟩
def Gy:Nat→Exit
 | 0=>.normal
 | 1=>.ret
 | n+2=>.exit n
def Post (E:Env) (C:Ctx) (r:Lv):Exit→Act→World→Prop:=
 fun x a w=>x=Gy r.e∧∃ G pt,Rel E C r.s a w G pt
def Stat (s:St) (ch:List Nat) (r:Lv):Prop:=
 ∀ s0,(∀ k,k ∉ ch→get s k=get s0 k)→∀ k,k ∉ r.ch→get r.s k=get s0 k
def K3 (P:Program) (E:Env) (Γ:uX) (C:Ctx):Prop:=
 ∀ (id:Nat) (ops:Array Oper) ch s r,(eU E Γ ops.toList ops.toList [] [] ch s).den=some r→Stat s ch r ∧
  ∀ a w G pt,Rel E C s a w G pt→(Code.region id ops true).wp P (Post E C r) a w
section
variable {P:Program} {E:Env} {C:Ctx} {s:St} {a:Act} {w:World} {G:Nat→Nat} {pt:Nat→Nat→Option Value}
theorem yJ {r:Lv} {M drop:List Nat} (hs:subset r.ch M=true) (H:Stat s [] r):∀ k,k ∉ M++drop→get r.s k=get s k:=
 fun k hk=>H s (fun _ _=>rfl) k fun h=>hk (List.mem_append.2 (.inl (mg hs k h)))
theorem Gz {M drop ch:List Nat} {base s':St} {pl:Pl} {x:(oN pl).den} {M':List Nat} (hM:∀ k∈M',k∈M++drop) (hx:nu M' pl s' = some x) (hch:∀ k,k ∉ M++drop→get s' k=get base k) (e:Nat) :
 Stat base ch ⟨e,M++drop++ch,pJ pl x++strike (M++drop) base⟩:=by
 intro s0 h0 k hk;rw [Ql (ch0:=ch) hM hx hch k hk]
 refine h0 k fun hc=>hk ?_
 exact List.mem_append.2 (.inr hc)
theorem om {hp:Bool} {p:Plan} {ch:List Nat} {run:List Nat→Out Lv} {r:Lv} (H:∀ ch r,(run ch).den=some r→Stat s ch r) (h:(wrap hp p ch s run).den=some r):Stat s ch r:=by
 unfold wrap at h;split at h
 ·rename_i M ws q
  obtain ⟨x,hx,h⟩:=oh h;obtain ⟨r',h1,h2⟩:=iD hx;simp only [Qj] at h2
  cases hs:subset r'.ch M with
  | false=>rw [hs] at h2;cases h2
  | true=>
   rw [hs] at h2;obtain ⟨v,y,_,_,hy,_,rfl⟩:=rE h2 h
   exact Gz (fun k h=>List.mem_append.2 (.inl h)) hy (yJ hs (H [] r' h1)) _
 ·exact H ch r h
theorem vB {c:Code} {p:Plan} {ch:List Nat} {run:List Nat→Out Lv} {r:Lv} (gF:C.pin=none∨E.hp=true) (H:∀ ch r,(run ch).den=some r→Stat s ch r)
 (H2:∀ ch r,(run ch).den=some r→c.wp P (Post E C r) a w) (h:(wrap E.hp p ch s run).den=some r):c.wp P (Post E C r) a w:=by
 unfold wrap at h;split at h
 ·rename_i M ws q
  obtain ⟨x,hx,h⟩:=oh h;obtain ⟨r',h1,h2⟩:=iD hx;simp only [Qj] at h2
  cases hs:subset r'.ch M with
  | false=>rw [hs] at h2;cases h2
  | true=>
   rw [hs] at h2;obtain ⟨v,y,_,_,hy,hc,rfl⟩:=rE h2 h
   refine wp_mono (H2 [] r' h1) fun e a' w' hpost=>?_
   obtain ⟨he,G',bX,R'⟩:=hpost
   obtain ⟨G2,kG,R2⟩:=R'.cut gF (yJ hs (H [] r' h1)) (fun k h=>List.mem_append.2 (.inl h)) hy hc
   exact ⟨he,G2,kG,R2⟩
 ·exact H2 ch r h
theorem CQ {rest:St}:∀ {pl:Pl} {x:(oN pl).den} {k:Nat},k ∉ tH pl→get (pJ pl x++rest) k=get rest k
 | [],_,_,_=>rfl
 | p::r,x,k,h=>by
  simp only [tH,List.mem_cons,not_or] at h;simp only [pJ,List.cons_append];rw [aH,if_neg h.1];exact CQ h.2
theorem GA {M drop:List Nat} {pl:Pl} {v:(oN pl).den} (hsub:subset (tH pl) M=true) {k:Nat} (hk:k ∉ M++drop):get (kF M pl drop s v) k=get s k:=by
 unfold kF
 have h1:k ∉ tH pl:=fun h=>hk (List.mem_append.2 (.inl (mg hsub k h)))
 rw [CQ h1,mh]
 cases hm:mem k (M++drop) with
 | false=>rfl
 | true=>exact absurd (mem_iff.1 hm) hk
theorem AP {hp:Bool} {M drop:List Nat} {pl:Pl} {ws:List Way} {r:Lv} {y:Sum (oN pl).den (l8 ws).den} (h:KW hp M pl drop s ws r=some y) :
 subset r.ch M=true∧((∃ v,y = .inl v∧r.e=0∧nu M pl r.s=some v∧iw hp (kF M pl drop s v)=true)∨(∃ x,y = .inr x∧r.e≠0∧mU M r.e r.s ws=some x)):=by
 unfold KW at h
 cases hs:subset r.ch M with
 | false=>rw [hs] at h;cases h
 | true=>
  rw [hs] at h;simp only [aQ] at h;refine ⟨rfl,?_⟩
  cases he:Nat.beq r.e 0 with
  | true=>
   rw [he] at h;simp only [aQ] at h;split at h
   ·rename_i v hv
    cases hc:iw hp (kF M pl drop s v) with
    | false=>rw [hc] at h;cases h
    | true=>
     rw [hc] at h;simp only [aQ,bq] at h;exact .inl ⟨v,h.symm,dM he,hv,hc⟩
   ·cases h
  | false=>
   rw [he] at h;simp only [bU] at h;split at h
   ·rename_i x hx
    simp only [bq] at h
    refine .inr ⟨x,h.symm,fun h0=>?_,hx⟩
    rw [h0] at he;cases he
   ·cases h
theorem UL {c:Code} {M drop ch:List Nat} {pl:Pl} {ws:List Way} {body:St→Out Lv} {r:Lv} (gF:C.pin=none∨E.hp=true)
 (hbs:∀ s r,(body s).den=some r→Stat s [] r) (UM:∀ s a w G pt r,Rel E C s a w G pt→(body s).den=some r→c.wp P (Post E C r) a w)
 (h:(KX (fun _ _=>Loop) E.hp M pl drop ws ch s body).den=some r):Stat s ch r∧∀ a w G pt,Rel E C s a w G pt→(Code.loop c).wp P (Post E C r) a w:=by
 unfold KX at h
 cases hsub:subset (tH pl) M with
 | false=>rw [hsub] at h;cases h
 | true=>
  rw [hsub] at h;simp only [aQ] at h;split at h
  ·rename_i v0 hv0
   cases hc0:iw E.hp (kF M pl drop s v0) with
   | false=>rw [hc0] at h;cases h
   | true=>
    rw [hc0] at h;simp only [aQ] at h;obtain ⟨x,hx,h⟩:=oh h;obtain ⟨n,hn⟩:=rF hx
    have key:∀ n v,Ar (fun v=>((body (kF M pl drop s v)).l6 (KW E.hp M pl drop s ws)).den) n v=some x →
     (∀ a w G pt,Rel E C (kF M pl drop s v) a w G pt→c.wp P (Exit.then (wW P c (Post E C r)) (Post E C r)) a w)∧Stat s ch r:=by
     intro n
     induction n with
     | zero=>intro v h;cases h
     | succ n ih=>
      intro v hv;simp only [Ar] at hv;split at hv
      ·rename_i v' hst
       obtain ⟨r1,h1,h2⟩:=iD hst;obtain ⟨hs1,h3⟩:=AP h2
       obtain ⟨v2,e2,he,hp,hcl⟩:∃ v2,(Sum.inl v':Sum _ (l8 ws).den) = .inl v2∧r1.e=0∧nu M pl r1.s=some v2∧iw E.hp (kF M pl drop s v2)=true:=by
        rcases h3 with h3 | ⟨x',hx',_⟩
        ·exact h3
        ·cases hx'
       cases e2;obtain ⟨k1,k2⟩:=ih v' hv
       refine ⟨fun a w G pt R1=>wp_mono (UM _ a w G pt r1 R1 h1) fun e a' w' hpost=>?_,k2⟩
       obtain ⟨he',G',bX,R'⟩:=hpost;rw [he] at he';subst he'
       obtain ⟨G2,kG,R2⟩:=R'.cut (base:=s) (M:=M) (drop:=drop) gF (fun k hk=>by
        rw [hbs _ r1 h1 (kF M pl drop s v) (fun _ _=>rfl) k (fun hk2=>hk (List.mem_append.2 (.inl (mg hs1 k hk2))))]
        exact GA hsub hk) (fun k h=>List.mem_append.2 (.inl h)) hp hcl
       exact yw (k1 a' w' G2 kG R2)
      ·rename_i x' hst
       simp only [bq] at hv;subst hv;obtain ⟨r1,h1,h2⟩:=iD hst;obtain ⟨hs1,h3⟩:=AP h2
       obtain ⟨x2,e2,he,hw⟩:∃ x2,(Sum.inr x':Sum (oN pl).den _) = .inr x2∧r1.e≠0∧mU M r1.e r1.s ws=some x2:=by
        rcases h3 with ⟨v2,hv2,_⟩ | h3
        ·cases hv2
        ·exact h3
       cases e2;obtain ⟨wy,y,_,_,hy,hcl,rfl⟩:=rE hw h
       have hk:∀ k,k ∉ M++drop++wy.drop→get r1.s k=get s k:=by
        intro k hk;simp only [qb,not_or] at hk
        rw [hbs _ r1 h1 (kF M pl drop s v) (fun _ _=>rfl) k (fun hk2=>hk.1.1 (mg hs1 k hk2))]
        exact GA hsub (by simp [hk.1.1,hk.1.2])
       refine ⟨fun a w G pt R1=>wp_mono (UM _ a w G pt r1 R1 h1) fun e a' w' hpost=>?_,Gz (fun k h=>by simp [h]) hy hk _⟩
       obtain ⟨he',G',bX,R'⟩:=hpost
       obtain ⟨G2,kG,R2⟩:=R'.cut (base:=s) (M:=M++drop) (drop:=wy.drop) gF hk (fun k h=>by simp [h]) hy hcl
       have hpo:Post E C ⟨r1.e,M++drop++wy.drop++ch,Aq (M++drop) s wy y⟩ e a' w':=⟨he',G2,kG,R2⟩
       cases e with
       | normal=>
        match hre:r1.e,he with
        | 0,h0=>exact absurd rfl h0
        | 1,_=>rw [hre] at he';cases he'
        | n+2,_=>rw [hre] at he';cases he'
       | _=>exact hpo
      ·cases hv
    obtain ⟨k1,k2⟩:=key n v0 hn
    refine ⟨k2,fun a w G pt R=>?_⟩
    obtain ⟨G0,pt0,R0⟩:=R.cut (base:=s) (M:=M) (drop:=drop) gF (fun _ _=>rfl) (fun k h=>List.mem_append.2 (.inl h)) hv0 hc0
    exact yu (k1 a w G0 pt0 R0)
  ·cases h
theorem iQ {R S:Type} {f:R→Out S} {o:Out R} {y:S} (h:(o.bind f).den=some y):∃ r,o.den=some r∧(f r).den=some y:=by
 rw [og] at h
 cases ho:o.den with
 | none=>rw [ho] at h;cases h
 | some r=>rw [ho] at h;exact ⟨r,rfl,h⟩
theorem Ni {n:Nat} {p:Plan} {ch:List Nat} {s:St} {r:Lv} {run:List Nat→St→Out Lv} (H:∀ ch s r,(run ch s).den=some r→Stat s ch r)
 (h:(CJ n p ch s run).den=some r):Stat s ch r:=by
 unfold CJ at h;split at h
 ·rename_i l
  refine l9 (fun o:Out Lv=>o.den=some r→Stat s ch r) (fun ch' s'=>∀ s0,(∀ k,k ∉ ch→get s k=get s0 k)→∀ k,k ∉ ch'→get s' k=get s0 k)
   (fun ch' s' k j X hI s0 h0 m hm=>?_) l ch s _ (fun s0 h0=>h0) (fun ch' s' hI h=>?_) h
  ·simp only [qb,not_or] at hm
   rw [kS _ _ _ hm.1];exact hI s0 h0 m hm.2
  ·obtain ⟨r1,h1,h2⟩:=iQ h
   have h3:qB l r1=r:=by simpa [Out.den] using h2
   subst h3
   exact fun s0 h0=>tJ l r1 s0 (H ch' s' r1 h1 s0 (hI s0 h0))
 ·rename_i l
  refine l9 (fun o:Out Lv=>o.den=some r→Stat s ch r) (fun ch' s'=>∀ s0,(∀ k,k ∉ ch→get s k=get s0 k)→∀ k,k ∉ ch'→get s' k=get s0 k)
   (fun ch' s' k j X hI s0 h0 m hm=>?_) l ch s _ (fun s0 h0=>h0) (fun ch' s' hI h=>?_) h
  ·simp only [qb,not_or] at hm
   rw [kS _ _ _ hm.1];exact hI s0 h0 m hm.2
  ·exact fun s0 h0=>H ch' s' r h s0 (hI s0 h0)
 ·rename_i l
  obtain ⟨r1,h1,h2⟩:=iQ h
  have h3:qB l r1=r:=by simpa [Out.den] using h2
  subst h3
  exact fun s0 h0=>tJ l r1 s0 (H ch s r1 h1 s0 h0)
 ·exact H ch s r h
theorem Qn {c:Code} {p:Plan} {ch:List Nat} {s:St} {r:Lv} {run:List Nat→St→Out Lv} {a:Act} {w:World} {G:Nat→Nat} {pt:Nat→Nat→Option Value} (hm:E.n≤C.m)
 (H:∀ ch s r,(run ch s).den=some r→∀ a w G pt,Rel E C s a w G pt→c.wp P (Post E C r) a w)
 (h:(CJ E.n p ch s run).den=some r) (R:Rel E C s a w G pt):c.wp P (Post E C r) a w:=by
 unfold CJ at h;split at h
 ·rename_i l
  refine l9 (fun o:Out Lv=>o.den=some r→c.wp P (Post E C r) a w) (fun _ s'=>∃ G' bX,Rel E C s' a w G' bX)
   (fun ch' s' k j X hI=>?_) l ch s _ ⟨G,pt,R⟩ (fun ch' s' hI h=>?_) h
  ·obtain ⟨G',bX,R'⟩:=hI
   exact R'.uY hm k j X
  ·obtain ⟨r1,h1,h2⟩:=iQ h
   have h3:qB l r1=r:=by simpa [Out.den] using h2
   subst h3;obtain ⟨G1,bX,R'⟩:=hI
   refine wp_mono (H ch' s' r1 h1 a w G1 bX R') fun e a' w' hpost=>?_
   obtain ⟨he,G',kG,R2⟩:=hpost
   exact ⟨by rw [Ec];exact he,G',kG,wU l r1 a' w' G' kG R2⟩
 ·rename_i l
  refine l9 (fun o:Out Lv=>o.den=some r→c.wp P (Post E C r) a w) (fun _ s'=>∃ G' bX,Rel E C s' a w G' bX)
   (fun ch' s' k j X hI=>?_) l ch s _ ⟨G,pt,R⟩ (fun ch' s' hI h=>?_) h
  ·obtain ⟨G',bX,R'⟩:=hI
   exact R'.uY hm k j X
  ·obtain ⟨G1,bX,R'⟩:=hI
   exact H ch' s' r h a w G1 bX R'
 ·rename_i l
  obtain ⟨r1,h1,h2⟩:=iQ h
  have h3:qB l r1=r:=by simpa [Out.den] using h2
  subst h3
  refine wp_mono (H ch s r1 h1 a w G pt R) fun e a' w' hpost=>?_
  obtain ⟨he,G',kG,R2⟩:=hpost
  exact ⟨by rw [Ec];exact he,G',kG,wU l r1 a' w' G' kG R2⟩
 ·exact H ch s r h a w G pt R
theorem CS {c:Code} {run:List Nat→St→Out Lv} (H1:∀ ch s r,(run ch s).den=some r→Stat s ch r)
 (H2:∀ ch s r,(run ch s).den=some r→∀ a w G pt,Rel E C s a w G pt→c.wp P (Post E C r) a w) :
 ∀ (n:Nat) (ch:List Nat) (s:St) (r:Lv),(uZ run n ch s).den=some r→Stat s ch r∧∀ a w G pt,Rel E C s a w G pt→c.wp P (Exit.then (wW P c (Post E C r)) (Post E C r)) a w
 | 0,ch,s,r,h=>by cases h
 | n+1,ch,s,r,h=>by
  simp only [uZ] at h;obtain ⟨r1,h1,h2⟩:=iQ h
  cases he:Nat.beq r1.e 0 with
  | true=>
   rw [he] at h2;simp only [aQ] at h2;obtain ⟨k1,k2⟩:=CS H1 H2 n r1.ch r1.s r h2
   refine ⟨fun s0 h0=>k1 s0 (H1 ch s r1 h1 s0 h0),fun a w G pt R=>wp_mono (H2 ch s r1 h1 a w G pt R) fun e a' w' hp=>?_⟩
   obtain ⟨rfl,G',bX,R'⟩:=hp;have he:=dM he;rw [he];exact yw (k2 a' w' G' bX R')
  | false=>
   rw [he] at h2;simp only [bU,Out.den,bq] at h2;subst h2
   refine ⟨H1 ch s r1 h1,fun a w G pt R=>wp_mono (H2 ch s r1 h1 a w G pt R) fun e a' w' hp=>?_⟩
   have hpo:=hp;obtain ⟨rfl,G',bX,R'⟩:=hp
   match hre:r1.e with
   | 0=>rw [hre] at he;simp [fH] at he
   | 1=>rw [hre] at hpo;exact hpo
   | n+2=>rw [hre] at hpo;exact hpo
theorem jO {Γ:uX} (hm:E.n≤C.m) (gF:C.pin=none∨E.hp=true) (H:KZ P E Γ C) (D:K3 P E Γ C):∀ (c:Code) (p:Plan) (ch:List Nat) (s:St) (r:Lv),
 (ev (fun _ _=>Loop) E Γ c p ch s).den=some r→Stat s ch r∧∀ a w G pt,Rel E C s a w G pt→c.wp P (Post E C r) a w
 | .skip,p,ch,s,r,h=>by
  simp only [ev,Out.den,bq] at h;subst h
  exact ⟨fun _ h=>h,fun a w G pt R=>wp_skip ⟨rfl,G,pt,R⟩⟩
 | .ret,p,ch,s,r,h=>by
  simp only [ev,Out.den,bq] at h;subst h
  exact ⟨fun _ h=>h,fun a w G pt R=>wp_ret ⟨rfl,G,pt,R⟩⟩
 | .exit id,p,ch,s,r,h=>by
  simp only [ev,Out.den,bq] at h;subst h
  exact ⟨fun _ h=>h,fun a w G pt R=>wp_exit ⟨rfl,G,pt,R⟩⟩
 | .region id ops draw,p,ch,s,r,h=>by
  simp only [ev] at h
  have HS0:∀ ch s r,(bif draw then eU E Γ ops.toList ops.toList [] [] ch s else jU E Γ ops.toList ops.toList [] ch s).den=some r→Stat s ch r:=by
   intro ch s r h
   cases draw with
   | true=>exact (D id ops ch s r h).1
   | false=>exact fun s0 h0=>(tL E Γ ops.toList s0 ops.toList [] ch s r h0 h).2
  have HR0:∀ ch s r,(bif draw then eU E Γ ops.toList ops.toList [] [] ch s else jU E Γ ops.toList ops.toList [] ch s).den=some r →
   ∀ a w G pt,Rel E C s a w G pt→(Code.region id ops draw).wp P (Post E C r) a w:=by
   intro ch s r h a w G pt R
   cases draw with
   | true=>exact (D id ops ch s r h).2 a w G pt R
   | false=>
    refine wp_region ?_;have h0:r.e=0:=UK E Γ ops.toList ops.toList [] ch s r h
    have:=AJ (Q:=Post E C r) H ops.toList 0 [] ch s a w G pt r rfl R h (fun a' w' G' bX R'=>⟨by rw [h0];rfl,G',bX,R'⟩)
    rw [List.range_eq_range']
    simpa using this
  have HS:∀ ch r,(CJ E.n p.inner ch s fun ch s=>bif draw then eU E Γ ops.toList ops.toList [] [] ch s else jU E Γ ops.toList ops.toList [] ch s).den=some r→Stat s ch r:=
   fun ch r h=>Ni HS0 h
  exact ⟨om HS h,fun a w G pt R=>vB gF HS (fun ch r h=>Qn hm HR0 h R) h⟩
 | .seq x y,p,ch,s,r,h=>by
  simp only [ev] at h
  have HS:∀ ch r,((ev (fun _ _=>Loop) E Γ x p.inner.left ch s).bind fun r=>bif Nat.beq r.e 0 then ev (fun _ _=>Loop) E Γ y p.inner.right r.ch r.s else .ret r).den=some r→Stat s ch r:=by
   intro ch r h;obtain ⟨r1,h1,h2⟩:=bind_some h;have k1:=(jO hm gF H D x _ ch s r1 h1).1
   cases he:Nat.beq r1.e 0 with
   | true=>
    rw [he] at h2;have k2:=(jO hm gF H D y _ _ _ r h2).1
    exact fun s0 h0=>k2 s0 (k1 s0 h0)
   | false=>
    rw [he] at h2;simp only [bU,Out.den,bq] at h2;subst h2;exact k1
  refine ⟨om HS h,fun a w G pt R=>vB gF HS (fun ch r h=>?_) h⟩
  obtain ⟨r1,h1,h2⟩:=bind_some h
  refine wp_seq (wp_mono ((jO hm gF H D x _ ch s r1 h1).2 a w G pt R) fun e a' w' hp=>?_)
  obtain ⟨rfl,G',bX,R'⟩:=hp
  cases he:Nat.beq r1.e 0 with
  | true=>
   rw [he] at h2;have he:=dM he;rw [he];exact (jO hm gF H D y _ _ _ r h2).2 a' w' G' bX R'
  | false=>
   rw [he] at h2;simp only [bU,Out.den,bq] at h2;subst h2;have hpo:Post E C r1 (Gy r1.e) a' w':=⟨rfl,G',bX,R'⟩
   match hre:r1.e with
   | 0=>rw [hre] at he;cases he
   | 1=>rw [hre] at hpo;exact hpo
   | n+2=>rw [hre] at hpo;exact hpo
 | .cond c x y,p,ch,s,r,h=>by
  simp only [ev] at h
  have HS:∀ ch r,(match aX s c with
   | .bool b=>Out.ite b (ev (fun _ _=>Loop) E Γ x p.inner.left ch s) (ev (fun _ _=>Loop) E Γ y p.inner.right ch s)
   | _=>.fail).den=some r→∃ b,aX s c = .bool b∧((b=true∧(ev (fun _ _=>Loop) E Γ x p.inner.left ch s).den=some r)∨(b=false∧(ev (fun _ _=>Loop) E Γ y p.inner.right ch s).den=some r)):=by
   intro ch r h;split at h
   ·rename_i b hb
    refine ⟨b,hb,?_⟩
    cases b with
    | true=>exact .inl ⟨rfl,h⟩
    | false=>exact .inr ⟨rfl,h⟩
   ·cases h
  refine ⟨om (fun ch r h=>?_) h,fun a w G pt R=>vB gF (fun ch r h=>?_) (fun ch r h=>?_) h⟩
  ·obtain ⟨b,hb,⟨_,h⟩ | ⟨_,h⟩⟩:=HS ch r h
   ·exact (jO hm gF H D x _ ch s r h).1
   ·exact (jO hm gF H D y _ ch s r h).1
  ·obtain ⟨b,hb,⟨_,h⟩ | ⟨_,h⟩⟩:=HS ch r h
   ·exact (jO hm gF H D x _ ch s r h).1
   ·exact (jO hm gF H D y _ ch s r h).1
  ·obtain ⟨b,hb,⟨rfl,h⟩ | ⟨rfl,h⟩⟩:=HS ch r h
   ·have hv:=aV R c
    rw [hb] at hv;exact wp_cond_true hv ((jO hm gF H D x _ ch s r h).2 a w G pt R)
   ·have hv:=aV R c
    rw [hb] at hv;exact wp_cond_false hv ((jO hm gF H D y _ ch s r h).2 a w G pt R)
 | .block id c,p,ch,s,r,h=>by
  simp only [ev] at h
  refine ⟨om (fun ch r h=>?_) h,fun a w G pt R=>vB gF (fun ch r h=>?_) (fun ch r h=>?_) h⟩
  ·obtain ⟨r1,h1,h2⟩:=bind_some h
   simp only [Out.den,bq] at h2;subst h2;exact (jO hm gF H D c _ ch s r1 h1).1
  ·obtain ⟨r1,h1,h2⟩:=bind_some h
   simp only [Out.den,bq] at h2;subst h2;exact (jO hm gF H D c _ ch s r1 h1).1
  ·obtain ⟨r1,h1,h2⟩:=bind_some h
   simp only [Out.den,bq] at h2;subst h2
   refine wp_block (wp_mono ((jO hm gF H D c _ ch s r1 h1).2 a w G pt R) fun e a' w' hp=>?_)
   obtain ⟨rfl,G',bX,R'⟩:=hp
   match hre:r1.e with
   | 0=>exact ⟨by simp [hre,Gy,fH],G',bX,R'⟩
   | 1=>exact ⟨by simp [hre,Gy,fH],G',bX,R'⟩
   | n+2=>
    simp only [Gy,Exit.inBlock]
    by_cases hn:n=id
    ·rw [if_pos hn];exact ⟨by simp [hre,Gy,fH,hn],G',bX,R'⟩
    ·rw [if_neg hn];exact ⟨by simp [hre,Gy,fH,hn],G',bX,R'⟩
 | .loop c,p,ch,s,r,h=>by
  simp only [ev] at h
  have HS:∀ ch r,(match p.inner with
   | .loop M pl drop ws q=>KX (fun _ _=>Loop) E.hp M pl drop ws ch s (fun st=>ev (fun _ _=>Loop) E Γ c q [] st)
   | .unr n q=>uZ (fun ch st=>ev (fun _ _=>Loop) E Γ c q ch st) n ch s
   | _=>.fail).den=some r→Stat s ch r∧∀ a w G pt,Rel E C s a w G pt→(Code.loop c).wp P (Post E C r) a w:=by
   intro ch r h;split at h
   ·rename_i M pl drop ws q hq
    exact UL gF (fun s r h=>(jO hm gF H D c q [] s r h).1) (fun s a w G pt r R h=>(jO hm gF H D c q [] s r h).2 a w G pt R) h
   ·rename_i n q hq
    obtain ⟨k1,k2⟩:=CS (fun ch s r h=>(jO hm gF H D c q ch s r h).1) (fun ch s r h=>(jO hm gF H D c q ch s r h).2) n ch s r h
    exact ⟨k1,fun a w G pt R=>yu (k2 a w G pt R)⟩
   ·cases h
  exact ⟨om (fun ch r h=>(HS ch r h).1) h,fun a w G pt R=>vB gF (fun ch r h=>(HS ch r h).1) (fun ch r h=>(HS ch r h).2 a w G pt R) h⟩
 | .goto l,p,ch,s,r,h=>by cases h
 | .label l,p,ch,s,r,h=>by
  simp only [ev,Out.den,bq] at h;subst h
  exact ⟨fun _ h=>h,fun a w G pt R=>wp_label ⟨rfl,G,pt,R⟩⟩
 | .scope c,p,ch,s,r,h=>by
  simp only [ev] at h
  refine ⟨(jO hm gF H D c p ch s r h).1,fun a w G pt R=>wp_scope_straight (wp_mono ((jO hm gF H D c p ch s r h).2 a w G pt R) fun e a' w' hp=>?_)⟩
  obtain ⟨rfl,G',bX,R'⟩:=hp;have hpo:Post E C r (Gy r.e) a' w':=⟨rfl,G',bX,R'⟩
  match hre:r.e with
  | 0=>rw [hre] at hpo;exact hpo
  | 1=>rw [hre] at hpo;exact hpo
  | n+2=>rw [hre] at hpo;exact hpo
 | .refuse w,p,ch,s,r,h=>by cases h
 | .rangeFunc f ps a b,p,ch,s,r,h=>by cases h
end
section
variable {P:Program} {E:Env} {C:Ctx} {s:St} {a:Act} {w:World} {G:Nat→Nat} {pt:Nat→Nat→Option Value} {o:Oper} {u:St}
theorem vC {x:Option (Bool×St)} (h:(guarded o s x).den=some u):x=some (true,u):=by
 unfold guarded at h;split at h
 ·rename_i g v
  cases hn:Al o s with
  | true=>
   rw [hn] at h;simp only [aQ,Out.den] at h
   cases g with
   | true=>simp only [aQ,Out.den,bq] at h;rw [h]
   | false=>cases h
  | false=>
   rw [hn] at h
   cases g with
   | true=>simp only [aQ,bU,Out.den,bq] at h;rw [h]
   | false=>cases h
 ·cases h
theorem Nj {x:Option (Bool×St)} (h:(Jf x).den=some u):x=some (true,u):=by
 unfold Jf at h;split at h
 ·rename_i g v
  cases g with
  | true=>simp only [aQ,Out.den,bq] at h;rw [h]
  | false=>cases h
 ·cases h
def agi (s:St) (con:aY) (c:Call) (f:Nat):Prop:=c.callee = .value (.func f)∨((∃ x,c.callee = .value x∧aX s x = .BS f)∧con.xf=none)
def Qo (P:Program) (E:Env) (Γ:uX) (C:Ctx):Prop:=
 ∀ f t v con o c s a w G pt u x,f<1000000→Γ (ckey E o f)=some con→con.xf=none→o.op = .call c→c.callee = .value x→aX s x = .gM f t v→Rel E C s a w G pt→(CG E con o s c.args.toList (.iF t [v] 0 0)).den=some u→Gv P E C o a w (aA u s)
def Eh (P:Program) (E:Env) (Γ:uX) (C:Ctx):Prop:=Qo P E Γ C ∧
 ∀ f con o c s a w G pt u,f<1000000→Γ (ckey E o f)=some con→o.op = .call c→agi s con c f→Rel E C s a w G pt→(pO E con o s c.args.toList).den=some u→Gv P E C o a w (aA u s)
theorem AQ:∀ (l s:St),aA l s=l.reverse++s
 | [],_=>rfl
 | p::r,s=>by
  show aA r (p::s)=_;rw [AQ r,List.reverse_cons,List.append_assoc];rfl
theorem Rel.iH (R:Rel E C s a w G pt) {o:Oper} (args:List Operand):Rel E C (iH E o s args++s) a w G pt:=by
 unfold gI.iH
 cases Nat.beq (tag E o) 10 with
 | false=>exact R
 | true=>
  simp only [aQ];split
  ·split
   ·exact R.mR _ 0 _
   ·exact R
  ·exact R
theorem aaC {Γ:uX} (HP:mG P E) (hm:E.n≤C.m) (HC:Eh P E Γ C):KZ P E Γ C:=by
 intro kn o s a w G pt u R h;unfold Ao at h;split at h
 ·rename_i c x y hop
  cases hd:eO E o with
  | false=>rw [hd] at h;cases h
  | true=>
   rw [hd] at h;simp only [aQ] at h;split at h
   ·rename_i b hb
    have fin:(Jf (lM E o s (bif b then x else y))).den=some u→Gv P E C o a w (aA u s):=
     fun h=>(UH R hd c x y b hop hb (Nj h)).wp
    split at h
    ·rename_i b' _
     simp only [Out.den] at h
     cases hbb:ji b b' with
     | false=>rw [hbb] at h;cases h
     | true=>
      rw [hbb] at h;have:=kT hbb;subst this;exact fin h
    ·simp only [Out.den] at h
     cases b with
     | true=>exact fin h
     | false=>exact fin h
   ·cases h
 ·rename_i c hop
  split at h
  ·rename_i f hf
   cases hlt:Nat.blt f 1000000 with
   | false=>rw [hlt] at h;cases h
   | true=>
   rw [hlt] at h;simp only [aQ] at h;split at h
   ·rename_i con hcon
    exact HC.2 f con o c s a w G pt u (by simpa [Nat.blt_eq] using hlt) hcon hop (.inl hf) R h
   ·cases h
  ·rename_i x _ hf
   split at h
   ·rename_i f hx
    cases hlt:Nat.blt f 1000000 with
    | false=>rw [hlt] at h;cases h
    | true=>
    rw [hlt] at h;simp only [aQ] at h;split at h
    ·rename_i con hcon
     split at h
     ·rename_i Nk
      refine HC.2 f con o c s a w G pt u (by simpa [Nat.blt_eq] using hlt) hcon hop (.inr ⟨⟨x,hf,hx⟩,Nk⟩) R ?_
      unfold pO;rw [Nk];exact h
     ·cases h
    ·cases h
   ·rename_i f t v hx
    cases hlt:Nat.blt f 1000000 with
    | false=>rw [hlt] at h;cases h
    | true=>
    rw [hlt] at h;simp only [aQ] at h;split at h
    ·rename_i con hcon
     split at h
     ·rename_i Nk
      exact HC.1 f t v con o c s a w G pt u _ (by simpa [Nat.blt_eq] using hlt) hcon Nk hop hf hx R h
     ·cases h
    ·cases h
   ·cases h
  ·unfold Am at h
   obtain ⟨u1,h1,h2⟩:=iQ h
   have h2:(iH E o s c.args.toList).reverse++u1=u:=by simpa [Out.den] using h2
   subst h2;rw [aU,AQ (iH E o s c.args.toList).reverse s,List.reverse_reverse];exact (Qa HP hm (R.iH _) (vC h1)).wp
 ·exact (Qa HP hm R (vC h)).wp
end
section
variable {E:Env} {s s':St} {o:Oper}
theorem bD {x:Operand} (h:∀ k∈aC [x],get s' k=get s k):aX s' x=aX s x:=by
 cases x with
 | tmp t=>exact h (2*t) (by simp [aC])
 | _=>rfl
theorem iI {x:Operand} (f:D→D) (g:D→Bool) (h:∀ k∈aC [x],get s' k=get s k):dA s' x f g=dA s x f g:=by
 cases x with
 | tmp t=>
  have:=h (2*t) (by simp [aC])
  simp only [dA,this]
 | _=>rfl
theorem mV {x:Operand}:∀ {xs:List Operand},x∈xs→∀ k∈aC [x],k∈aC xs
 | y::r,h,k,hk=>by
  rcases List.mem_cons.1 h with rfl | h
  ·cases x with
   | tmp t=>simp only [aC,List.mem_cons,List.not_mem_nil,or_false] at hk ⊢;exact .inl hk
   | _=>simp [aC] at hk
  ·have:=mV h k hk
   cases y with
   | tmp t=>simp only [aC,List.mem_cons];exact .inr this
   | _=>simpa only [aC] using this
theorem Cc {x:Operand} {xs:List Operand} (hx:x∈xs):∀ k∈aC [x],k∈jk s xs:=by
 induction xs with
 | nil=>simp at hx
 | cons y r ih=>
  intro k hk;simp only [jk,qb]
  rcases List.mem_cons.1 hx with rfl | hx
  ·left
   cases x with
   | tmp t=>
    simp only [aC,List.mem_cons,List.not_mem_nil,or_false] at hk;subst hk;simp only [nk]
    split<;>simp
   | _=>simp [aC] at hk
  ·exact .inr (ih hx k hk)
theorem CU {i:Nat}:∀ {l:List Nat},i∈l→2*i+1∈KS l
 | j::r,h=>by
  simp only [KS,List.mem_cons]
  rcases List.mem_cons.1 h with rfl | h
  ·exact .inl rfl
  ·exact .inr (CU h)
theorem rG {d:D} {i:Nat} (h:i∈bR d):i∈iC d:=by
 cases d<;>first | exact h | (simp [bR] at h;done)
theorem Qp (v:Value):iC (MN v)=[]:=by
 unfold MN;split
 ·rfl
 ·rename_i k n;cases OY k n<;>rfl
 ·rename_i b;cases Nat.ble (d9 b).length jo<;>rfl
 ·rfl
 ·rfl
theorem Jk {x:Operand} {id:Nat} (h:id∈iC (aX s x)):2*id+1∈nk s x:=by
 cases x with
 | tmp t=>
  simp only [aX] at h;simp only [nk]
  cases hd:get s (2*t) with
  | agg cs=>
   rw [hd] at h;exact oH _ (CU h)
  | _=>
   rw [hd] at h;simp only [iC,bR,List.mem_cons,List.not_mem_nil,or_false] at h
   all_goals (subst h;simp)
 | const v=>
  exfalso;simp only [aX,Qp,List.not_mem_nil] at h
 | _=>simp [aX,iC,bR] at h
theorem tN {d:D} (h:∀ id∈bR d,get s' (2*id+1)=get s (2*id+1)):content s' d=content s d:=by
 cases d<;>first | rfl | skip
 ·rename_i id st
  simp only [content,h id (by simp [bR])]
 ·rename_i id st nc o n
  simp only [content,h id (by simp [bR])]
theorem UN {t:Ty} {d:D} (h:∀ id∈bR d,get s' (2*id+1)=get s (2*id+1)):tail s' t d=tail s t d:=by
 unfold tail
 split<;>first | rfl | skip
 rw [tN h]
theorem qC {x:Operand} (h:∀ k∈aC [x],get s' k=get s k):lM E o s' x=lM E o s x:=by
 have e6:sZ o s' x=sZ o s x:=by
  have e1:=bD h
  cases x with
  | tmp t=>
   have e2:get s' (2*t)=get s (2*t):=e1;simp only [sZ,e2,iI _ _ h,e1]
  | _=>simp only [sZ,iI _ _ h,e1]
 simp only [lM,DN,e6,bD h,iI _ _ h]
theorem Nl {x:Operand} (h:∀ k∈aC [x],get s' k=get s k) (hd:∀ t,o.dst=some t→get s' (2*t+1)=get s (2*t+1)):zK E o s' x=zK E o s x:=by rfl
theorem Ei {x:Operand} (h:∀ k∈aC [x],get s' k=get s k):lH o s' x=lH o s x:=by
 simp only [lH,bD h]
theorem aaD {op:UnOp} {x:Operand} (h:∀ k∈aC [x],get s' k=get s k):aUn o s' op x=aUn o s op x:=by
 simp only [aUn,bD h]
theorem UO {op:BinOp} {T:Nat} {x y:Operand} (h:∀ k∈aC [x],get s' k=get s k) (h2:∀ k∈aC [y],get s' k=get s k):MP E o s' op T x y=MP E o s op T x y:=by
 simp only [MP,bD h,bD h2]
theorem Ce {T f:Nat} {x:Operand} (h:∀ k∈aC [x],get s' k=get s k):ku E o s' T x f=ku E o s T x f:=by
 simp only [ku,bD h]
theorem Nn {T f:Nat} {x:Operand} (h:∀ k∈aC [x],get s' k=get s k):wJ E o s' T x f=wJ E o s T x f:=by
 simp only [wJ,bD h,iI _ _ h]
theorem Ej {fn:Fn} {first caps:List Operand} (h:∀ x∈caps,∀ k∈aC [x],get s' k=get s k):lI o s' fn first caps=lI o s fn first caps:=by
 unfold lI;split
 ·rename_i x
  rw [bD (h x (by simp))]
 ·rfl
theorem GD {i:Nat} {x:Operand} (h:∀ k∈aC [x],get s' k=get s k):nN o s' x i=nN o s x i:=by
 simp only [nN,bD h]
theorem Cg {T:Nat} {x y:Operand} (h:∀ k∈aC [x],get s' k=get s k) (h2:∀ k∈aC [y],get s' k=get s k):kr E o s' T x y=kr E o s T x y:=by
 simp only [kr,bD h,bD h2]
theorem Jl {x:Operand} (h:∀ k∈aC [x],get s' k=get s k) (hd:∀ t,o.dst=some t→get s' (2*t+1)=get s (2*t+1)):oI E o s' x=oI E o s x:=by
 cases ho:o.dst with
 | none=>
  simp only [oI,bD h,iI _ _ h,ho];generalize cZ (MO E o.type) (aX s x)=d
  cases d<;>rfl
 | some t=>
  simp only [oI,bD h,iI _ _ h,ho];generalize cZ (MO E o.type) (aX s x)=d
  cases d<;>first | rfl | simp only [hd t ho]
theorem Np {T:Nat} (hd:∀ t,o.dst=some t→get s' (2*t+1)=get s (2*t+1)):tq E o s' T=tq E o s T:=by
 cases ho:o.dst with
 | none=>
  simp only [tq,ho]
  cases E.T T<;>rfl
 | some t=>
  simp only [tq,ho]
  cases E.T T<;>first | rfl | simp only [hd t ho]
theorem UQ {T:Nat} {x:Operand} (h:∀ k∈aC [x],get s' k=get s k) (hd:∀ t,o.dst=some t→get s' (2*t+1)=get s (2*t+1)):IV E o s' T x=IV E o s T x:=by
 cases ho:o.dst with
 | none=>
  simp only [IV,bD h,iI _ _ h,ho]
  cases E.T T<;>rfl
 | some t=>
  simp only [IV,bD h,iI _ _ h,ho]
  cases E.T T<;>first | rfl | simp only [hd t ho]
theorem Nq {T:Nat} {x:Operand} (h:∀ k∈aC [x],get s' k=get s k) (hb:∀ id∈bR (aX s x),get s' (2*id+1)=get s (2*id+1)):zM E o s' T x=zM E o s T x:=by rfl
theorem Qq {T:Nat} {x:Operand} (h:∀ k∈aC [x],get s' k=get s k) (hb:∀ id∈bR (aX s x),get s' (2*id+1)=get s (2*id+1))
 (hd:∀ t,o.dst=some t→get s' (2*t+1)=get s (2*t+1)):xX E o s' T x=xX E o s T x:=by
 have hd':∀ t,o.dst=some t→aO (get s' (2*t+1))=aO (get s (2*t+1)):=fun t ht=>by rw [hd t ht]
 unfold xX;rw [bD h]
 cases E.T T with
 | none=>rfl
 | some i=>
  simp only
  cases hx:aX s x<;>first | rfl | skip
  ·rename_i id st off
   rw [hx] at hb
   simp only [hb id (by simp [bR])]
   cases get s (2*id+1)<;>first | rfl | skip
   ·rename_i st' live cs
    cases live<;>first | rfl | skip
    dsimp only;generalize (List.take i.size (List.drop off cs))=ds;generalize tag E o=tg
    match tg with
    | 0=>rfl
    | 1=>rfl
    | 2=>rfl
    | n+4=>rfl
    | 3=>
     match ds with
     | []=>rfl
     | [d]=>
      cases ho:o.dst with
      | none=>cases d<;>rfl
      | some t=>cases d<;>first | rfl | (simp only [hd' t ho];try rfl)
     | d::_::_=>cases d<;>rfl
   ·rename_i st' live ar t l
    cases live<;>cases ar<;>rfl
  ·rename_i id st i0 off es
   rw [hx] at hb
   simp only [hb id (by simp [bR])]
theorem Jm {T:Nat} {a x:Operand} (ha:∀ k∈aC [a],get s' k=get s k) (h:∀ k∈aC [x],get s' k=get s k)
 (hb:∀ id∈bR (aX s a),get s' (2*id+1)=get s (2*id+1)):mJ E o s' T a x=mJ E o s T a x:=by
 unfold mJ;rw [bD h,bD ha]
 cases E.T T with
 | none=>rfl
 | some i=>
  simp only [iI _ _ h]
  cases hx:aX s a<;>first | rfl | skip
  ·rename_i id st off
   rw [hx] at hb
   simp only [hb id (by simp [bR])]
  ·rename_i id st i0 off es
   rw [hx] at hb
   simp only [hb id (by simp [bR])]
theorem Nr {T:Nat} {a x:Operand} (ha:∀ k∈aC [a],get s' k=get s k) (h:∀ k∈aC [x],get s' k=get s k)
 (hb:∀ id∈bR (aX s a),get s' (2*id+1)=get s (2*id+1)):qg E o s' T a x=qg E o s T a x:=by
 have hav:∀ k l,nL E s' T a k l=nL E s T a k l:=by
  intro k l;unfold nL;rw [bD ha]
  cases E.T T with
  | none=>rfl
  | some i=>
   cases hx:aX s a<;>first | rfl | skip
   rename_i id st off;rw [hx] at hb
   simp only [hb id (by simp [bR])]
 unfold qg;rw [bD h,Jm ha h hb];simp only [hav]
theorem jC {x:Option Operand} {z:Nat} (h:∀ y,x=some y→∀ k∈aC [y],get s' k=get s k):bound s' x z=bound s x z:=by
 cases x with
 | none=>rfl
 | some y=>simp only [bound,bD (h y rfl)]
theorem Ns {T:Nat} {x:Operand} {lo hi:Option Operand} (h:∀ k∈aC [x],get s' k=get s k) (h1:∀ y,lo=some y→∀ k∈aC [y],get s' k=get s k)
 (h2:∀ y,hi=some y→∀ k∈aC [y],get s' k=get s k):wI E o s' T x lo hi=wI E o s T x lo hi:=by
 simp only [wI,bD h,jC h1,jC h2,iI _ _ h]
theorem Jo {T:Nat} {x:Operand} {lo:Option Operand} {hi mx:Operand} (h:∀ k∈aC [x],get s' k=get s k) (h1:∀ y,lo=some y→∀ k∈aC [y],get s' k=get s k)
 (h2:∀ k∈aC [hi],get s' k=get s k) (h3:∀ k∈aC [mx],get s' k=get s k):qX E o s' T x lo hi mx=qX E o s T x lo hi mx:=by
 have e1:∀ z,bound s' (some hi) z=bound s (some hi) z:=fun _=>jC (s:=s) (s':=s') (x:=some hi) (fun y hy=>by cases hy;exact h2)
 have e2:∀ z,bound s' (some mx) z=bound s (some mx) z:=fun _=>jC (s:=s) (s':=s') (x:=some mx) (fun y hy=>by cases hy;exact h3)
 simp only [qX,bD h,jC h1,e1,e2,iI _ _ h]
theorem GH {T:Nat} {x:Operand} {lo:Option Operand} {hi mx:Operand} (h:∀ k∈aC [x],get s' k=get s k)
 (h2:∀ k∈aC [hi],get s' k=get s k) (h3:∀ k∈aC [mx],get s' k=get s k):nM E o s' T x lo hi mx=nM E o s T x lo hi mx:=by
 have e1:∀ z,bound s' (some hi) z=bound s (some hi) z:=fun _=>jC (s:=s) (s':=s') (x:=some hi) (fun y hy=>by cases hy;exact h2)
 have e2:∀ z,bound s' (some mx) z=bound s (some mx) z:=fun _=>jC (s:=s) (s':=s') (x:=some mx) (fun y hy=>by cases hy;exact h3)
 simp only [nM,bD h,e1,e2,iI _ _ h]
theorem Jp {T:Nat} {x:Operand} {lo hi:Option Operand} (h:∀ k∈aC [x],get s' k=get s k)
 (h1:∀ y,lo=some y→∀ k∈aC [y],get s' k=get s k) (h2:∀ y,hi=some y→∀ k∈aC [y],get s' k=get s k) (hb:∀ id∈bR (aX s x),get s' (2*id+1)=get s (2*id+1)):qZ E o s' T x lo hi=qZ E o s T x lo hi:=by
 unfold qZ;rw [bD h];simp only [jC h1,jC h2]
 cases E.T T with
 | none=>rfl
 | some i=>
  cases hx:aX s x with
  | gZ id st=>
   simp only
   rw [hb id (by rw [hx];simp [bR])]
  | _=>rfl
theorem Jq {T:Nat} {x:Operand} {lo hi:Option Operand} (h:∀ k∈aC [x],get s' k=get s k)
 (h2:∀ y,hi=some y→∀ k∈aC [y],get s' k=get s k) (hb:∀ id∈bR (aX s x),get s' (2*id+1)=get s (2*id+1)):qY E o s' T x lo hi=qY E o s T x lo hi:=by
 unfold qY;rw [bD h];simp only [jC h2]
 cases E.T T with
 | none=>rfl
 | some i=>
  cases lo with
  | some y=>cases aX s x<;>rfl
  | none=>
   cases hx:aX s x with
   | gZ id st=>
    rw [hx] at hb
    simp only [hb id (by simp [bR])]
   | _=>rfl
theorem Ch {T:Nat} {x i:Operand} (h:∀ k∈aC [x],get s' k=get s k) (h1:∀ k∈aC [i],get s' k=get s k)
 (hb:∀ id∈bR (aX s x),get s' (2*id+1)=get s (2*id+1)):kC E o s' T x i=kC E o s T x i:=by
 simp only [kC,bD h,bD h1,iI _ _ h]
 cases hx:aX s x<;>first | rfl | skip
 ·rename_i id st off
  rw [hx] at hb
  simp only [hb id (by simp [bR])]
 ·rename_i id st
  rw [hx] at hb
  simp only [hb id (by simp [bR])]
 ·rename_i id st n
  rw [hx] at hb
  simp only [hb id (by simp [bR])]
theorem Nt {T:Nat} {x i:Operand} (h:∀ k∈aC [x],get s' k=get s k) (h1:∀ k∈aC [i],get s' k=get s k):wK E o s' T x i=wK E o s T x i:=by
 simp only [wK,bD h,bD h1]
theorem Qr {T U:Nat} {x:Operand} (h:∀ k∈aC [x],get s' k=get s k)
 (hb:∀ id∈bR (aX s x),get s' (2*id+1)=get s (2*id+1)):Cq E o s' T U x=Cq E o s T U x:=by
 have hc:=tN hb;unfold Cq;rw [bD h]
 cases E.T T with
 | none=>rfl
 | some a=>
  cases E.T U with
  | none=>rfl
  | some b=>
   dsimp only;generalize aX s x=d at hc
   split<;>first | rfl | (rw [hc])
theorem UR {T:Nat} {d:D} (hb:∀ id∈bR d,get s' (2*id+1)=get s (2*id+1)):MQ E s' T d=MQ E s T d:=by
 have hc:=tN hb;unfold MQ
 cases E.T T with
 | none=>rfl
 | some a=>
  dsimp only
  split<;>first | rfl | (rw [hc])
theorem Jr {T:Nat} {x y:Operand} (h:∀ k∈aC [x],get s' k=get s k) (h1:∀ k∈aC [y],get s' k=get s k)
 (hb:∀ id∈bR (aX s x),get s' (2*id+1)=get s (2*id+1)) (hb1:∀ id∈bR (aX s y),get s' (2*id+1)=get s (2*id+1)) :
 q8 E o s' T x y=q8 E o s T x y:=by
 unfold q8;rw [bD h,bD h1];simp only [UN hb1]
 cases hx:aX s x<;>first | rfl | skip
 rename_i id st;rw [hx] at hb
 simp only [hb id (by simp [bR])]
theorem CV:∀ {xs:List Operand},(∀ k∈aC xs,get s' k=get s k)→xs.map (aX s')=xs.map (aX s)
 | [],_=>rfl
 | x::r,h=>by
  rw [List.map_cons,List.map_cons,bD fun k hk=>h k (mV List.mem_cons_self k hk),CV fun k hk=>h k ?_]
  cases x with
  | tmp t=>simp only [aC,List.mem_cons];exact .inr hk
  | _=>simpa only [aC] using hk
theorem K4 {lt:Int→Int→Bool} {xs:List Operand} (h:∀ k∈aC xs,get s' k=get s k):IY o s' lt xs=IY o s lt xs:=by
 simp only [IY,CV h]
structure Agree (s s':St) (xs:List Operand):Prop where
 sh:∀ k∈aC xs,get s' k=get s k
 bx:∀ x∈xs,∀ id∈iC (aX s x),get s' (2*id+1)=get s (2*id+1)
theorem Agree.one {xs:List Operand} (h:Agree s s' xs) {x:Operand} (hx:x∈xs):∀ k∈aC [x],get s' k=get s k:=
 fun k hk=>h.sh k (mV hx k hk)
theorem Agree.bxL {xs:List Operand} (h:Agree s s' xs) {x:Operand} (hx:x∈xs):∀ id∈bR (aX s x),get s' (2*id+1)=get s (2*id+1):=
 fun id hid=>h.bx x hx id (rG hid)
theorem GI {b:Builtin} {xs:List Operand} {ts:List Nat} (h:Agree s s' xs):nO E o s' b xs ts=nO E o s b xs ts:=by
 unfold nO
 split<;>first | rfl | skip
 ·rw [bD (h.one (by simp)),UR (h.bxL (by simp))]
 ·rw [Jr (h.one (by simp)) (h.one (by simp)) (h.bxL (by simp)) (h.bxL (by simp))]
 ·rw [K4 h.sh]
 ·rw [K4 h.sh]
theorem qD {pl:Nat→Option (Nat×Nat)} {f:D→D}:∀ {ps:List (Nat×Operand)} {cs:List D},(∀ p∈ps,∀ k∈aC [p.2],get s' k=get s k) →
 gD pl s' f cs ps=gD pl s f cs ps
 | [],_,_=>rfl
 | (j,x)::r,cs,h=>by
  simp only [gD]
  rw [bD (h (j,x) (by simp))]
  cases pl j with
  | none=>rfl
  | some q=>
   have hr:∀ cs,gD pl s' f cs r=gD pl s f cs r:=fun cs=>qD fun p hp=>h p (oH _ hp)
   simp only [hr]
theorem rH {f:D→D} {g:D→Bool}:∀ {ps:List (Nat×Operand)},(∀ p∈ps,∀ k∈aC [p.2],get s' k=get s k) →
 fT s' f g ps=fT s f g ps
 | [],_=>rfl
 | (j,x)::r,h=>by
  simp only [fT]
  rw [iI f g (h (j,x) (by simp)),rH fun p hp=>h p (oH _ hp)]
theorem GJ:∀ {ps:List (Nat×Operand)},(∀ p∈ps,∀ k∈aC [p.2],get s' k=get s k)→lq s' ps=lq s ps
 | [],_=>rfl
 | (j,x)::r,h=>by
  have hr:=GJ (ps:=r) fun p hp=>h p (oH _ hp)
  cases x with
  | tmp t=>
   simp only [lq,hr]
   rw [h (j,.tmp t) (by simp) (2*t) (by simp [aC])]
  | _=>simp only [lq,hr]
theorem Nu {T:Nat} {ps:List (Nat×Operand)} (h:∀ p∈ps,∀ k∈aC [p.2],get s' k=get s k):wF E o s' T ps=wF E o s T ps:=by
 simp only [wF,qD h,rH h,GJ h]
theorem El {T n:Nat} {ps:List (Nat×Operand)} (h:∀ p∈ps,∀ k∈aC [p.2],get s' k=get s k) (hd:∀ t,o.dst=some t→get s' (2*t+1)=get s (2*t+1)) :
 nK E o s' T n ps=nK E o s T n ps:=by rfl
theorem AU {T n:Nat} {ps:List (Nat×Operand)} (h:∀ p∈ps,∀ k∈aC [p.2],get s' k=get s k):jN E o s' T n ps=jN E o s T n ps:=by
 simp only [jN,qD h,rH h]
theorem K5 {l:Lf} {d:D} (hb:∀ id∈bR d,get s' (2*id+1)=get s (2*id+1)):l.Cb s' d=l.Cb s d:=by
 unfold Lf.Cb
 split<;>first | rfl | (rw [hb _ (by simp only [bR,List.mem_cons,List.not_mem_nil,or_false])])
theorem CW:∀ {ls:List Lf} {ds:List D},(∀ id∈eB ds,get s' (2*id+1)=get s (2*id+1))→oO s' ls ds=oO s ls ds
 | [],[],_=>rfl
 | [],_::_,_=>rfl
 | _::_,[],_=>rfl
 | l::r,d::ds,h=>by
  simp only [oO]
  rw [K5 (fun id hid=>h id (by simp only [eB,qb];exact .inl hid)),CW (fun id hid=>h id (by simp only [eB,qb];exact .inr hid))]
theorem arg_eq {p:Sh} {d:D} (hb:∀ id∈iC d,get s' (2*id+1)=get s (2*id+1)):p.arg s' d=p.arg s d:=by
 cases p with
 | lf l=>
  simp only [Sh.arg]
  exact K5 fun id hid=>hb id (rG hid)
 | agg ls=>
  cases d with
  | agg cs=>
   simp only [Sh.arg];exact CW hb
  | _=>rfl
 | _=>rfl
theorem UU {p:Sh} {d:D} (hb:∀ id∈iC d,get s' (2*id+1)=get s (2*id+1)):p.Gj s' d=p.Gj s d:=by
 unfold Sh.Gj;rw [arg_eq hb]
theorem wX:∀ {ps:List Sh} {xs:List Operand},Agree s s' xs→jc s' ps xs=jc s ps xs
 | [],[],_=>rfl
 | [],_::_,_=>rfl
 | _::_,[],_=>rfl
 | p::r,x::xs,h=>by
  have h1:Agree s s' xs:=⟨fun k hk=>h.sh k (by cases x<;>simp only [aC,List.mem_cons]<;>first | exact .inr hk | exact hk),fun y hy=>h.bx y (oH _ hy)⟩
  simp only [jc];rw [bD (h.one List.mem_cons_self),UU (h.bx x List.mem_cons_self),wX h1]
theorem Em:∀ {xs:List Operand},(∀ x∈xs,∀ k∈aC [x],get s' k=get s k)→oP s' xs=oP s xs
 | [],_=>rfl
 | x::r,h=>by
  simp only [oP]
  rw [bD (h x (by simp)),Em fun y hy=>h y (oH _ hy)]
theorem K6 {rs:RS} {x:rs.ty.den} (hd:∀ t,o.dst=some t→get s' (2*t+1)=get s (2*t+1)):Ah o s' rs x=Ah o s rs x:=by
 cases rs with
 | uV ls=>
  simp only [Ah]
  cases ho:o.dst with
  | none=>rfl
  | some t=>simp only [hd t ho]
 | _=>rfl
theorem GK {xs:List Operand} (h:∀ x∈xs,∀ k∈aC [x],get s' k=get s k):l7 s' xs=l7 s xs:=by
 unfold l7
 refine rH fun p hp=>?_
 obtain ⟨x,hx,rfl⟩:=List.mem_map.1 hp;exact h x hx
theorem mW:∀ {ps:List Sh} {xs:List Operand} {x:Operand},x∈eP ps xs→x∈xs
 | [],_,_,h=>by simp [eP] at h
 | _::_,[],_,h=>by simp [eP] at h
 | p::ps,x::xs,y,h=>by
  simp only [eP] at h
  cases hp:ownSh p with
  | true=>
   rw [hp] at h;exact oH _ (mW h)
  | false=>
   rw [hp] at h;simp only [bU,List.mem_cons] at h
   rcases h with h | h
   ·exact List.mem_cons.2 (.inl h)
   ·exact oH _ (mW h)
theorem GL {nv:Bool} {ps:List Sh} {xs:List Operand} (h:∀ x∈xs,∀ k∈aC [x],get s' k=get s k):yg nv s' ps xs=yg nv s ps xs:=by
 unfold yg
 rw [GK fun y hy=>h y (mW hy)]
theorem CX {c:aY} {xs:List Operand} (h:Agree s s' xs) (hd:∀ t,o.dst=some t→get s' (2*t+1)=get s (2*t+1)):oQ E c o s' xs=oQ E c o s xs:=by
 have tl:∀ {x:Operand} {ys:List Operand},xs=x::ys→Agree s s' ys:=by
  intro x ys he;subst he
  exact ⟨fun k hk=>h.sh k (by cases x<;>simp only [aC,List.mem_cons]<;>first | exact .inr hk | exact hk),fun y hy=>h.bx y (oH _ hy)⟩
 unfold oQ;split
 ·rename_i x ys hc
  have h2:=tl rfl;rw [bD (h.one List.mem_cons_self)]
  cases hx:aX s x<;>first | rfl | skip
  rename_i id st off
  have hb:=h.bx x List.mem_cons_self id (by rw [hx];simp [iC,bR])
  simp only [hb,Em fun y hy=>h2.one hy,wX h2,GL fun y hy=>h2.one hy,K6 hd]
 ·simp only [Em fun y hy=>h.one hy,wX h,GL fun y hy=>h.one hy,K6 hd]
 ·rfl
theorem GN {c:aY} {xs:List Operand} (h:Agree s s' xs) (hd:∀ t,o.dst=some t→get s' (2*t+1)=get s (2*t+1)):pO E c o s' xs=pO E c o s xs:=by
 unfold pO;split
 ·rename_i x hx
  have hm:xs.map (Qd s')=xs.map (Qd s):=by
   refine List.map_congr_left fun y hy=>?_
   unfold Qd;rw [bD (h.one hy)];have hb:=h.bx y hy
   congr 1
   cases hd:aX s y<;>first | rfl | skip
   ·rw [hd] at hb
    exact hb _ (by simp [iC,bR])
   ·rw [hd] at hb
    exact hb _ (by simp [iC,bR])
   ·rename_i cs
    rw [hd] at hb;simp only [Qc];split
    ·rename_i id hid
     exact hb id (by simp [iC,hid])
    ·rfl
  unfold Qf;rw [hm]
  cases ho:o.dst with
  | none=>rfl
  | some t=>simp only [hd t ho]
 ·exact CX h hd
theorem Qs (a b:Nat):¬ 2*a+1=2*b:=by omega
theorem aaE {a b:Nat} (h:¬ a=b):¬ 2*a=2*b:=by omega
structure Agr (o:Oper) (s s':St):Prop where
 sh:∀ x∈o.op.operands.toList,∀ k∈aC [x],get s' k=get s k
 bx:deep o.op=true→∀ x∈o.op.operands.toList,∀ id∈iC (aX s x),get s' (2*id+1)=get s (2*id+1)
 dt:∀ t,o.dst=some t→get s' (2*t+1)=get s (2*t+1)
theorem Nv {T:Nat} {x:Operand} (h:∀ k∈aC [x],get s' k=get s k) (hb:∀ id∈bR (aX s x),get s' (2*id+1)=get s (2*id+1))
 (hd:∀ t,o.dst=some t→get s' (2*t+1)=get s (2*t+1)):wG E o s' T x=wG E o s T x:=by
 unfold wG;rw [bD h]
 cases E.T T with
 | none=>rfl
 | some i=>
  cases ho:o.dst with
  | none=>rfl
  | some t=>
   simp only [hd t ho]
   cases hx:aX s x<;>first | rfl | skip
   rename_i id st off;rw [hx] at hb
   simp only [hb id (by simp [bR])]
theorem Js {T:Nat} {a x:Operand} (ha:∀ k∈aC [a],get s' k=get s k) (h:∀ k∈aC [x],get s' k=get s k)
 (hb:∀ id∈bR (aX s a),get s' (2*id+1)=get s (2*id+1)):qW E s' T a x=qW E s T a x:=by
 unfold qW;rw [bD ha,bD h]
 cases E.T T with
 | none=>rfl
 | some i=>
  cases aX s x<;>first | rfl | skip
  simp only [iI _ _ h]
  cases hx:aX s a<;>first | rfl | skip
  rename_i id st off;rw [hx] at hb
  simp only [hb id (by simp [bR])]
theorem Nw {T:Nat} {x y:Operand} (h:∀ k∈aC [x],get s' k=get s k) (h2:∀ k∈aC [y],get s' k=get s k)
 (hd:∀ t,o.dst=some t→get s' (2*t+1)=get s (2*t+1)):wH E o s' T x y=wH E o s T x y:=by
 unfold wH;rw [bD h,bD h2]
 cases E.T T with
 | none=>rfl
 | some i=>
  cases ho:o.dst with
  | none=>rfl
  | some t=>simp only [hd t ho]
theorem aaF (h:Agr o s s'):act E o s' = act E o s:=by
 obtain ⟨h1,h2',h3⟩:=h
 have h2:deep o.op=true→∀ x∈o.op.operands.toList,∀ id∈bR (aX s x),get s' (2*id+1)=get s (2*id+1):=fun hd x hx id hid=>h2' hd x hx id (rG hid)
 unfold act
 split<;>(try (rename_i hop;rw [hop] at h1 h2 h2';simp only [Op.operands,deep] at h1 h2 h2'))
 ·rw [Nl (h1 _ (by simp)) h3,qC (h1 _ (by simp))]
 ·exact Jl (h1 _ (by simp)) h3
 ·exact Np h3
 ·exact UQ (h1 _ (by simp)) h3
 ·exact Nu fun p hp=>h1 _ (by simp only [List.mem_map];exact ⟨p,hp,rfl⟩)
 ·rw [El (fun p hp=>h1 _ (by simp only [List.mem_map];exact ⟨p,hp,rfl⟩)) h3,AU fun p hp=>h1 _ (by simp only [List.mem_map];exact ⟨p,hp,rfl⟩)]
 ·rw [Nq (h1 _ (by simp)) (h2 trivial _ (by simp)),Nv (h1 _ (by simp)) (h2 trivial _ (by simp)) h3,Qq (h1 _ (by simp)) (h2 trivial _ (by simp)) h3]
 ·rename_i T a x
  rw [Js (a:=a) (x:=x) (h1 _ (by simp)) (h1 _ (by simp)) (h2 trivial _ (by simp)),Nr (a:=a) (x:=x) (h1 _ (by simp)) (h1 _ (by simp)) (h2 trivial _ (by simp))]
 ·exact Ei (h1 _ (by simp))
 ·exact UO (h1 _ (by simp)) (h1 _ (by simp))
 ·exact aaD (h1 _ (by simp))
 ·exact Qr (h1 _ (by simp)) (h2 trivial _ (by simp))
 ·rw [Cg (h1 _ (by simp)) (h1 _ (by simp)),Nw (h1 _ (by simp)) (h1 _ (by simp)) h3]
 ·rw [bD (h1 _ (by simp))]
  split
  ·rw [Jp (h1 _ (by simp)) (fun y hy=>h1 _ (by simp [hy])) (fun y hy=>h1 _ (by simp [hy])) (h2 trivial _ (by simp)),Jq (h1 _ (by simp)) (fun y hy=>h1 _ (by simp [hy])) (h2 trivial _ (by simp))]
  ·exact Ns (h1 _ (by simp)) (fun y hy=>h1 _ (by simp [hy])) (fun y hy=>h1 _ (by simp [hy]))
 ·rw [GH (h1 _ (by simp)) (h1 _ (by simp)) (h1 _ (by simp)),Jo (h1 _ (by simp)) (fun y hy=>h1 _ (by simp [hy])) (h1 _ (by simp)) (h1 _ (by simp))]
 ·exact Ce (h1 _ (by simp))
 ·exact Nn (h1 _ (by simp))
 ·exact Ch (h1 _ (by simp)) (h1 _ (by simp)) (h2 trivial _ (by simp))
 ·exact Nt (h1 _ (by simp)) (h1 _ (by simp))
 ·exact GD (h1 _ (by simp))
 ·exact Ej fun x hx=>h1 x (by simp only [Array.toList_append,qb];exact .inr hx)
 ·rename_i c
  split<;>first | rfl | skip
  rename_i b hb;refine GI ⟨?_,?_⟩
  ·intro k hk
   obtain ⟨x,hx,hkx⟩:∃ x∈c.args.toList,k∈aC [x]:=by
    generalize c.args.toList=l at hk;clear h1 h2 h2' h3
    induction l with
    | nil=>simp [aC] at hk
    | cons y r ih=>
     cases y with
     | tmp t=>
      simp only [aC,List.mem_cons] at hk
      rcases hk with hk | hk
      ·exact ⟨.tmp t,by simp,by simp [aC,hk]⟩
      ·obtain ⟨x,hx,hkx⟩:=ih hk
       exact ⟨x,by simp [hx],hkx⟩
     | _=>
      simp only [aC] at hk;obtain ⟨x,hx,hkx⟩:=ih hk
      exact ⟨x,by simp [hx],hkx⟩
   exact h1 x (by simp only [Call.operands,Array.toList_append,qb];exact .inr hx) k hkx
  ·intro x hx
   exact h2' trivial x (by simp only [Call.operands,Array.toList_append,qb];exact .inr hx)
 ·rfl
theorem CY {x:Operand} (h:∀ k∈aC [x],get s' k=get s k) (hb:∀ id∈bR (aX s x),get s' (2*id+1)=get s (2*id+1)):Ai s' x=Ai s x:=by
 unfold Ai;rw [bD h]
 cases hx:aX s x<;>first | rfl | skip
 rename_i id st off
 simp only [hb id (by rw [hx];simp [bR])]
theorem Ny (h:Agr o s s'):Al o s' = Al o s:=by
 obtain ⟨h1,h2',_⟩:=h
 have h2:deep o.op=true→∀ x∈o.op.operands.toList,∀ id∈bR (aX s x),get s' (2*id+1)=get s (2*id+1):=fun hd x hx id hid=>h2' hd x hx id (rG hid)
 unfold Al
 split<;>(try (rename_i hop;rw [hop] at h1 h2;simp only [Op.operands,deep] at h1 h2))
 ·split<;>first | rfl | skip
  rw [bD (h1 _ (by simp))]
 ·exact CY (h1 _ (by simp)) (h2 trivial _ (by simp))
 ·exact CY (h1 _ (by simp)) (h2 trivial _ (by simp))
 ·rw [bD (h1 _ (by simp))]
 ·rfl
 ·rfl
 ·rw [bD (h1 _ (by simp))]
 ·rw [bD (h1 _ (by simp))]
 ·rfl
 ·rfl
theorem AV (h:Agr o s s'):guarded o s' (Jd E o s')=guarded o s (Jd E o s):=by
 simp only [Jd,aaF h,guarded,Ny h]
theorem kW:∀ {l:List Operand} {k:Nat},k∈aC l→∃ x∈l,k∈aC [x]
 | y::r,k,hk=>by
  cases y with
  | tmp t=>
   simp only [aC,List.mem_cons] at hk
   rcases hk with hk | hk
   ·exact ⟨.tmp t,by simp,by simp [aC,hk]⟩
   ·obtain ⟨x,hx,hkx⟩:=kW hk
    exact ⟨x,by simp [hx],hkx⟩
  | _=>
   simp only [aC] at hk;obtain ⟨x,hx,hkx⟩:=kW hk
   exact ⟨x,by simp [hx],hkx⟩
theorem kU:∀ (u:St) {s s':St} {k:Nat},get s' k=get s k→get (u++s') k=get (u++s) k
 | [],_,_,_,h=>h
 | (k0,d)::r,s,s',k,h=>by
  show get ((k0,d)::(r++s')) k=get ((k0,d)::(r++s)) k;rw [aH,aH,kU r h]
theorem Jt {p:Prop}:p→p:=fun h=>h
theorem Nz {s:St} {u X st:Nat} {x:Operand} {id:Nat} (hX:get s (2*u) = .gZ X st) (h:id∈iC (aX (mR s (2*u) 0 X++s) x)):id∈iC (aX s x):=by
 cases x with
 | tmp t=>
  have key:get (mR s (2*u) 0 X++s) (2*t)=get s (2*t)∨iC (get (mR s (2*u) 0 X++s) (2*t))=[]:=by
   unfold mR;split
   ·rename_i st' t' l hb
    have ho:odd (2*u)=false:=by
     unfold odd;rw [Nat.mul_mod_right];rfl
    rw [ho];simp only [bU,hX]
    cases (Nat.beq X X&&Nat.beq st st') with
    | false=>exact .inl rfl
    | true=>
     show get ((2*u,_)::(2*X+1,_)::s) (2*t)=_∨iC (get ((2*u,_)::(2*X+1,_)::s) (2*t))=[];rw [aH,aH]
     by_cases htu:2*t=2*u
     ·rw [if_pos htu];exact .inr rfl
     ·rw [if_neg htu,if_neg (fun e=>Qs X t e.symm)];exact .inl rfl
   ·exact .inl rfl
  rcases key with k | k
  ·have h:id∈iC (get (mR s (2*u) 0 X++s) (2*t)):=h
   rw [k] at h;exact h
  ·have h:id∈iC (get (mR s (2*u) 0 X++s) (2*t)):=h
   rw [k] at h;cases h
 | _=>exact h
theorem Ju {Γ:uX} {kn:Kn} (h:Agr o s s'):Ao E Γ kn o s' = Ao E Γ kn o s:=by
 have h0:=h;obtain ⟨h1,h2,h3⟩:=h0;unfold Ao
 split<;>(try (rename_i hop;rw [hop] at h1 h2;simp only [Op.operands,deep] at h1 h2))
 ·rename_i c x y
  rw [bD (h1 c (by simp)),qC (h1 x (by simp)),qC (h1 y (by simp))]
  have hm:∀ b:Bool,lM E o s' (bif b then x else y)=lM E o s (bif b then x else y):=by
   intro b;cases b
   ·exact qC (h1 y (by simp))
   ·exact qC (h1 x (by simp))
  simp only [hm]
 ·split<;>first | rfl | skip
  ·split<;>first | rfl | skip
   congr 1
   refine GN ⟨fun k hk=>?_,fun x hx=>h2 trivial x (by simp only [Call.operands,Array.toList_append,qb];exact .inr hx)⟩ h3
   obtain ⟨x,hx,hkx⟩:=kW hk
   exact h1 x (by simp only [Call.operands,Array.toList_append,qb];exact .inr hx) k hkx
  ·rename_i c _ x _ hf
   have hx:aX s' x=aX s x:=bD (h1 x (by simp only [Call.operands,hf];simp))
   have key:∀ con:aY,(match con.xf with | none=>oQ E con o s' c.args.toList | some _=>.fail)=(match con.xf with | none=>oQ E con o s c.args.toList | some _=>.fail):=by
    intro con
    cases Nk:con.xf with
    | none=>
     have hc:pO E con o s' c.args.toList=pO E con o s c.args.toList:=by
      refine GN ⟨fun k hk=>?_,fun x hx=>h2 trivial x (by simp only [Call.operands,Array.toList_append,qb];exact .inr hx)⟩ h3
      obtain ⟨x,hx,hkx⟩:=kW hk
      exact h1 x (by simp only [Call.operands,Array.toList_append,qb];exact .inr hx) k hkx
     unfold pO at hc;rw [Nk] at hc;exact hc
    | some _=>rfl
   rw [hx]
   cases aX s x<;>first | rfl | skip
   ·rename_i f
    simp only
    cases Γ (ckey E o f) with
    | none=>rfl
    | some con=>
     cases Nat.blt f 1000000 with
     | false=>rfl
     | true=>exact key con
   ·rename_i f t v
    have hc:∀ con:aY,CG E con o s' c.args.toList (.iF t [v] 0 0)=CG E con o s c.args.toList (.iF t [v] 0 0):=by
     intro con;unfold CG
     rw [CX (s:=(2*E.n,.iF t [v] 0 0)::s) (s':=(2*E.n,.iF t [v] 0 0)::s') ⟨fun k hk=>?_,fun y hy id hid=>?_⟩ (fun tt ht=>?_)]
     ·obtain ⟨y,hy,hky⟩:=kW hk
      rw [aH,aH]
      by_cases hkn:k=2*E.n
      ·rw [if_pos hkn,if_pos hkn]
      ·rw [if_neg hkn,if_neg hkn]
       rcases List.mem_append.1 hy with hy | hy
       ·exact h1 y (by simp only [Call.operands,Array.toList_append,qb];exact .inr hy) k hky
       ·rw [List.mem_singleton.1 hy] at hky
        simp only [aC,List.mem_cons,List.not_mem_nil,or_false] at hky;exact absurd hky hkn
     ·have ek:¬ 2*id+1=2*E.n:=by omega
      rw [aH,aH,if_neg ek,if_neg ek]
      have hy':aX ((2*E.n,.iF t [v] 0 0)::s) y = .iF t [v] 0 0∨(y∈c.args.toList∧aX ((2*E.n,.iF t [v] 0 0)::s) y=aX s y):=by
       cases y with
       | tmp u=>
        by_cases hu:u=E.n
        ·left
         subst hu;show get ((2*E.n,_)::s) (2*E.n)=_;rw [aH,if_pos rfl]
        ·right
         rcases List.mem_append.1 hy with hy | hy
         ·refine ⟨hy,?_⟩
          show get ((2*E.n,_)::s) (2*u)=get s (2*u);rw [aH,if_neg (aaE hu)]
         ·have:=List.mem_singleton.1 hy
          injection this with this
          exact absurd this hu
       | _=>
        right
        rcases List.mem_append.1 hy with hy | hy
        ·exact ⟨hy,rfl⟩
        ·cases List.mem_singleton.1 hy
      rcases hy' with he | ⟨hm,he⟩
      ·rw [he] at hid
       simp [iC,bR] at hid
      ·rw [he] at hid
       exact h2 trivial y (by simp only [Call.operands,Array.toList_append,qb];exact .inr hm) id hid
     ·have ek:¬ 2*tt+1=2*E.n:=Qs _ _
      rw [aH,aH,if_neg ek,if_neg ek];exact h3 tt ht
    simp only
    cases Γ (ckey E o f) with
    | none=>rfl
    | some con=>
     simp only [hc]
  ·rename_i c _ _ _
   have h2':∀ x∈c.args.toList,∀ id∈iC (aX s x),get s' (2*id+1)=get s (2*id+1):=fun x hx=>h2 trivial x (by simp only [Call.operands,Array.toList_append,qb];exact .inr hx)
   have h1':∀ x∈c.args.toList,∀ k∈aC [x],get s' k=get s k:=fun x hx=>h1 x (by simp only [Call.operands,Array.toList_append,qb];exact .inr hx)
   have hp:iH E o s' c.args.toList=iH E o s c.args.toList:=by
    unfold iH
    cases Nat.beq (tag E o) 10 with
    | false=>rfl
    | true=>
     simp only [aQ];generalize c.args.toList=l at h1' h2'
     cases l with
     | nil=>rfl
     | cons x r=>
      cases x<;>first | rfl | skip
      rename_i u
      have hu:get s' (2*u)=get s (2*u):=h1' (.tmp u) List.mem_cons_self _ (by simp [aC])
      simp only [hu]
      cases hx:get s (2*u)<;>first | rfl | skip
      rename_i X st
      have hX:get s' (2*X+1)=get s (2*X+1):=h2' (.tmp u) List.mem_cons_self X (by
       show X∈iC (get s (2*u));rw [hx]
       simp [iC,bR])
      unfold mR;simp only [hX,hx,hu]
   unfold Am;rw [hp]
   have hA:Agr o (iH E o s c.args.toList++s) (iH E o s c.args.toList++s'):=by
    refine ⟨fun x hx k hk=>kU _ (h.sh x hx k hk),fun hd x hx id hid=>kU _ ?_,fun t ht=>kU _ (h.dt t ht)⟩
    refine h.bx hd x hx id ?_
    revert hid
    unfold iH
    cases Nat.beq (tag E o) 10 with
    | false=>exact Jt
    | true=>
     simp only [aQ];split
     ·rename_i u _
      split
      ·rename_i X st hX
       intro hid;exact Nz hX hid
      ·exact Jt
     ·exact Jt
   rw [AV hA]
 ·exact AV h
theorem AX {x:Operand} {k:Nat}:∀ {xs:List Operand},x∈xs→k∈nk s x→k∈jk s xs
 | y::r,h,hk=>by
  simp only [jk,qb]
  rcases List.mem_cons.1 h with rfl | h
  ·exact .inl hk
  ·exact .inr (AX h hk)
theorem aaG {all:List Oper} (h:∀ k∈reads all o s,get s' k=get s k):Agr o s s':=by
 simp only [reads,qb] at h
 refine ⟨fun x hx k hk=>h k (.inr (.inr ?_)),fun hd x hx id hid=>h _ (.inr (.inr ?_)),fun t ht=>h _ (.inr (.inl ?_))⟩
 ·cases deep o.op with
  | true=>exact Cc hx k hk
  | false=>exact mV hx k hk
 ·rw [hd]
  exact AX hx (Jk hid)
 ·rw [ht];simp
theorem Qt {Γ:uX} {all:List Oper} (h:∀ k∈reads all o s,get s' k=get s k):FM E Γ all o s' = FM E Γ all o s:=by
 have hA:=aaG h;unfold FM;split
 ·exact Ju hA
 ·rename_i j want hg
  split
  ·rfl
  ·rename_i t ht
   have:get s' (2*t)=get s (2*t):=h _ (by simp [reads,hg,ht])
   rw [this];split
   ·rw [Ju hA]
   ·rfl
   ·rfl
end
def nH (us:Nat→St) (S:Nat→Bool) (s0:St):Nat→St
 | 0=>s0
 | i+1=>bif S i then aA (us i) (nH us S s0 i) else nH us S s0 i
theorem jD:∀ (u s s':St) (k:Nat),k∈aL u→get (aA u s) k=get (aA u s') k
 | [],_,_,_,h=>by simp [aL] at h
 | (k0,d)::r,s,s',k,h=>by
  show get (aA r ((k0,d)::s)) k=get (aA r ((k0,d)::s')) k
  by_cases hk:k∈aL r
  ·exact jD r _ _ k hk
  ·rw [bn r _ k hk,bn r _ k hk]
   have:k=k0:=by
    simp only [aL,List.mem_cons] at h;exact h.resolve_right hk
   rw [aH,aH,if_pos this,if_pos this]
theorem vD {us:Nat→St} {S S':Nat→Bool} {s0:St} {k:Nat}:∀ {n:Nat},(∀ j,j<n→k∈aL (us j)→S j=S' j) →
 get (nH us S s0 n) k=get (nH us S' s0 n) k
 | 0,_=>rfl
 | n+1,h=>by
  have ih:=vD (s0:=s0) (n:=n) fun j hj=>h j (by omega)
  simp only [nH]
  by_cases hk:k∈aL (us n)
  ·have:=h n (by omega) hk
   rw [this]
   cases S' n with
   | true=>exact jD _ _ _ k hk
   | false=>exact ih
  ·have h1:∀ (b:Bool) (s:St),get (bif b then aA (us n) s else s) k=get s k:=by
    intro b s
    cases b with
    | true=>exact bn _ _ k hk
    | false=>rfl
   rw [h1,h1];exact ih
theorem Jv {us:Nat→St} {s0:St} {i:Nat}:∀ {n:Nat},i≤n→nH us (fun j=>Nat.blt j i) s0 n=nH us (fun _=>true) s0 i
 | 0,h=>by
  have:i=0:=by omega
  subst this;rfl
 | n+1,h=>by
  by_cases hi:i=n+1
  ·subst hi
   have:∀ m,m≤n+1→nH us (fun j=>Nat.blt j (n+1)) s0 m=nH us (fun _=>true) s0 m:=by
    intro m
    induction m with
    | zero=>intro _;rfl
    | succ m ih=>
     intro hm;simp only [nH]
     have:Nat.blt m (n+1)=true:=by simp [Nat.blt_eq];omega
     rw [this,ih (by omega)]
   exact this _ (dQ _)
  ·have:Nat.blt n i=false:=by
    cases hb:Nat.blt n i with
    | false=>rfl
    | true=>rw [Nat.blt_eq] at hb;omega
   simp only [nH,this,bU]
   exact Jv (by omega)
structure Told (E:Env) (Γ:uX) (all:List Oper) (s0:St) (us:Nat→St) (fs:List oV) (i:Nat) (o:Oper):Prop where
 bl:below i (dJ o)=true
 un:(FM E Γ all o (nH us (fun _=>true) s0 i)).den=some (us i)
 ft:fs[i]? = some { rd:=reads all o (nH us (fun _=>true) s0 i),wr:=aL (us i),bf:=closure (fs.take i) (dJ o) }
 ap:eD (closure (fs.take i) (dJ o)) { rd:=reads all o (nH us (fun _=>true) s0 i),wr:=aL (us i),bf:=closure (fs.take i) (dJ o) } 0 (fs.take i)=true
theorem Qu {E:Env} {Γ:uX} {kn:Kn} {o:Oper} {s u:St} (h:(Ao E Γ kn o s).den=some u):(Ao E Γ [] o s).den=some u:=by
 unfold Ao at h ⊢;split at h
 ·rename_i c x y hop
  cases hd:eO E o with
  | false=>rw [hd] at h;cases h
  | true=>
   rw [hd] at h;simp only [aQ] at h ⊢;split at h
   ·rename_i b hb
    have nil:knO [] c=none∨∃ b',c = .const (.bool b')∧knO [] c=some b'∧b' = b:=by
     cases c with
     | const v=>
      cases v<;>first | exact .inl rfl | skip
      rename_i b';refine .inr ⟨b',rfl,rfl,?_⟩
      simpa [aX,MN] using hb
     | _=>exact .inl rfl
    have key:(Jf (lM E o s (bif b then x else y))).den=some u:=by
     split at h
     ·rename_i b' _
      simp only [Out.den] at h
      cases hbb:ji b b' with
      | false=>rw [hbb] at h;cases h
      | true=>
       rw [hbb] at h;have:=kT hbb;subst this;exact h
     ·simp only [Out.den] at h
      cases b<;>exact h
    rcases nil with nil | ⟨b',_,nil,rfl⟩
    ·rw [nil]
     simp only [Out.den]
     cases b<;>exact key
    ·rw [nil]
     have:ji b' b' = true:=by cases b'<;>rfl
     simp only [Out.den,this,aQ];exact key
   ·cases h
 ·exact h
 ·exact h
def Alike (s s':St):Prop:=∀ k,get s' k=get s k
theorem Alike.aA {s s':St} (h:Alike s s') (u:St):Alike (aA u s) (aA u s'):=by
 intro k
 by_cases hk:k∈aL u
 ·exact jD u s' s k hk
 ·rw [bn _ _ _ hk,bn _ _ _ hk];exact h k
theorem Alike.Ao {E:Env} {s s':St} (h:Alike s s') (Γ:uX) (kn:Kn) (o:Oper):Ao E Γ kn o s' = Ao E Γ kn o s:=Ju ⟨fun _ _ k _=>h k,fun _ _ _ id _=>h _,fun _ _=>h _⟩
theorem Alike.FM {E:Env} {s s':St} (h:Alike s s') (Γ:uX) (all:List Oper) (o:Oper):FM E Γ all o s' = FM E Γ all o s:=Qt fun k _=>h k
theorem Alike.nk {s s':St} (h:Alike s s') (x:Operand):nk s' x=nk s x:=by
 cases x<;>simp only [gI.nk]
 rw [h]
theorem Alike.jk {s s':St} (h:Alike s s'):∀ l:List Operand,jk s' l=jk s l
 | []=>rfl
 | x::r=>by rw [gI.jk,gI.jk,h.nk,h.jk r]
theorem Alike.reads {s s':St} (h:Alike s s') (all:List Oper) (o:Oper):reads all o s' = reads all o s:=by
 unfold gI.reads;rw [h.jk]
theorem Alike.dR {s s':St} (h:Alike s s') (all:List Oper) (o:Oper) (fs:List oV) (u:St):dR all o fs s' u=dR all o fs s u:=by
 unfold gI.dR;rw [h.reads]
theorem AY {s:St} {t:Nat} {b:Bool} (hb:get s (2*t) = .bool b):Alike s ((2*t,.bool b)::s):=by
 intro k;rw [aH]
 by_cases h:k=2*t
 ·rw [if_pos h,h,hb]
 ·rw [if_neg h]
theorem En {E:Env} {Γ:uX} {all:List Oper} {o:Oper} {l:List Oper} {kn:Kn} {fs:List oV} {ch:List Nat} {s:St} {r:Lv} (h:(eU E Γ all (o::l) kn fs ch s).den=some r) :
 below fs.length (dJ o)=true∧∃ u Gx s',Alike s s'∧(FM E Γ all o s).den=some u∧eD (closure fs (dJ o)) (dR all o fs s u) 0 fs=true ∧
  (eU E Γ all l Gx (fs++[dR all o fs s u]) (aL u++ch) (aA u s')).den=some r:=by
 simp only [eU] at h
 cases hb:below fs.length (dJ o) with
 | false=>rw [hb] at h;cases h
 | true=>
  rw [hb] at h;simp only [aQ] at h;refine ⟨rfl,?_⟩
  have cont:∀ (u:St) (Gx:Kn) (s':St),Alike s s'→(FM E Γ all o s).den=some u→(bif eD (closure fs (dJ o)) (dR all o fs s u) 0 fs then eU E Γ all l Gx (fs++[dR all o fs s u]) (aL u++ch) (aA u s') else .fail).den=some r →
   ∃ u Gx s',Alike s s'∧(FM E Γ all o s).den=some u∧eD (closure fs (dJ o)) (dR all o fs s u) 0 fs=true ∧
    (eU E Γ all l Gx (fs++[dR all o fs s u]) (aL u++ch) (aA u s')).den=some r:=by
   intro u Gx s' h0 h1 h2
   cases ha:eD (closure fs (dJ o)) (dR all o fs s u) 0 fs with
   | false=>rw [ha] at h2;cases h2
   | true=>
    rw [ha] at h2;exact ⟨u,Gx,s',h0,h1,ha,h2⟩
  have refl:Alike s s:=fun _=>rfl
  split at h
  ·rename_i hg
   obtain ⟨u,hu,h⟩:=bind_some h
   exact cont u _ s refl (by unfold FM;rw [hg];exact Qu hu) h
  ·rename_i j want hg
   split at h
   ·cases h
   ·rename_i t ht
    split at h
    ·rename_i b UM
     cases hd:eO E o with
     | false=>rw [hd] at h;cases h
     | true=>
      rw [hd] at h;simp only [aQ] at h
      have eG:FM E Γ all o s = .ite (ji b want) (Ao E Γ [] o s) (.ret (gU o)):=by
       unfold FM;simp only [hg,ht,UM,hd,aQ]
      have run:∀ (kn1 Qm:Kn) (s':St),Alike s s'→b=want→((Ao E Γ kn1 o s').bind fun u=>bif eD (closure fs (dJ o)) (dR all o fs s u) 0 fs then eU E Γ all l Qm (fs++[dR all o fs s u]) (aL u++ch) (aA u s') else .fail).den=some r →
       ∃ u Gx s',Alike s s'∧(FM E Γ all o s).den=some u∧eD (closure fs (dJ o)) (dR all o fs s u) 0 fs=true ∧
        (eU E Γ all l Gx (fs++[dR all o fs s u]) (aL u++ch) (aA u s')).den=some r:=by
       intro kn1 Qm s' hA hw h;rw [hA.Ao] at h;obtain ⟨u,hu,h⟩:=bind_some h;refine cont u _ s' hA ?_ h;rw [eG];subst hw
       have:ji b b=true:=by cases b<;>rfl
       simp only [Out.den,this,aQ];exact Qu hu
      have skip:∀ (Qm:Kn) (s':St),Alike s s'→ji b want=false→(bif eD (closure fs (dJ o)) (dR all o fs s (gU o)) 0 fs then eU E Γ all l Qm (fs++[dR all o fs s (gU o)]) (aL (gU o)++ch) (aA (gU o) s') else .fail).den=some r →
       ∃ u Gx s',Alike s s'∧(FM E Γ all o s).den=some u∧eD (closure fs (dJ o)) (dR all o fs s u) 0 fs=true ∧
        (eU E Γ all l Gx (fs++[dR all o fs s u]) (aL u++ch) (aA u s')).den=some r:=by
       intro Qm s' hA hw h;refine cont (gU o) _ s' hA ?_ h;rw [eG];simp only [Out.den,hw,bU]
      split at h
      ·rename_i c _
       simp only [Out.den] at h
       cases hbc:ji b c with
       | false=>rw [hbc] at h;cases h
       | true=>
        rw [hbc] at h;simp only [aQ] at h;have:=kT hbc;subst this
        cases hcw:ji b want with
        | true=>
         rw [hcw] at h;exact run _ _ s refl (kT hcw) h
        | false=>
         rw [hcw] at h;exact skip _ s refl hcw h
      ·simp only [Out.den] at h
       cases hbw:ji b want with
       | true=>
        rw [hbw] at h;have e:=kT hbw;subst e;exact run _ _ _ (AY UM) rfl h
       | false=>
        rw [hbw] at h
        have e:b=Ea want:=by cases b<;>cases want<;>first | rfl | cases hbw
        rw [e] at UM;exact skip _ _ (AY UM) hbw h
    ·rename_i UM
     cases hd:eO E o with
     | false=>rw [hd] at h;cases h
     | true=>
      rw [hd] at h;simp only [aQ] at h;refine cont (gU o) _ s refl ?_ h;unfold FM;simp only [hg,ht,UM,hd,aQ];rfl
    ·cases h
theorem GQ {E:Env} {Γ:uX} {all:List Oper} {s0:St}:∀ (l:List Oper) (kn:Kn) (tO:List oV) (K7:Nat→St) (ch:List Nat) (r:Lv) (σ:St),Alike (nH K7 (fun _=>true) s0 tO.length) σ →
 (eU E Γ all l kn tO ch σ).den=some r →
 ∃ us fs,(∀ j,j<tO.length→us j=K7 j)∧(∀ j,j<tO.length→fs[j]? = tO[j]?)∧fs.length=tO.length+l.length ∧
  (∀ j o,l[j]? = some o→Told E Γ all s0 us fs (tO.length+j) o)∧r.e=0∧Alike (nH us (fun _=>true) s0 fs.length) r.s ∧
  (∀ k,k ∉ r.ch→k ∉ ch∧get r.s k=get (nH K7 (fun _=>true) s0 tO.length) k)
 | [],kn,tO,K7,ch,r,σ,hσ,h=>by
  simp only [eU,Out.den,bq] at h;subst h
  exact ⟨K7,tO,fun _ _=>rfl,fun _ _=>rfl,rfl,fun j o hj=>by simp at hj,rfl,hσ,fun k hk=>⟨hk,hσ k⟩⟩
 | o::l,kn,tO,K7,ch,r,σ,hσ,h=>by
  obtain ⟨hb,u,Gx,σ',hA,hu,ha,h⟩:=En h;rw [hσ.FM] at hu;rw [hσ.dR] at ha h
  have hσ':Alike (nH K7 (fun _=>true) s0 tO.length) σ':=fun k=>(hA k).trans (hσ k)
  generalize hg:dR all o tO (nH K7 (fun _=>true) s0 tO.length) u=g at h ha
  have hst:∀ (us1:Nat→St),(∀ j,j<tO.length→us1 j=K7 j)→∀ m,m≤tO.length→nH us1 (fun _=>true) s0 m=nH K7 (fun _=>true) s0 m:=by
   intro us1 h1 m
   induction m with
   | zero=>intro _;rfl
   | succ m ih=>
    intro hm;simp only [nH,aQ]
    rw [ih (by omega),h1 m (by omega)]
  have key:=GQ l Gx (tO++[g]) (fun j=>if j=tO.length then u else K7 j) (aL u++ch) r (aA u σ') (by
   simp only [kZ,List.length_cons,List.length_nil,nH,aQ,if_true]
   rw [hst _ (fun j hj=>if_neg (by omega)) _ (dQ _)]
   exact hσ'.aA u) h
  obtain ⟨us,fs,k1,k2,k3,k4,k5,k6,k7⟩:=key;simp only [kZ,List.length_cons,List.length_nil] at k1 k2 k3 k4 k7
  have e1:∀ j,j<tO.length→us j=K7 j:=fun j hj=>by rw [k1 j (by omega),if_neg (by omega)]
  have e2:us tO.length=u:=by rw [k1 _ (by omega),if_pos rfl]
  have e3:∀ j,j<tO.length→fs[j]? = tO[j]?:=fun j hj=>by rw [k2 j (by omega),List.getElem?_append_left hj]
  have e4:fs.take tO.length=tO:=by
   apply List.ext_getElem?;intro j
   by_cases hj:j<tO.length
   ·rw [List.getElem?_take_of_lt hj];exact e3 j hj
   ·rw [List.getElem?_eq_none (by simp;omega),List.getElem?_eq_none (by omega)]
  have e5:=hst us e1 _ (dQ _)
  refine ⟨us,fs,e1,e3,by simp only [List.length_cons];omega,?_,k5,k6,?_⟩
  ·intro j o' hj
   cases j with
   | zero=>
    simp only [List.getElem?_cons_zero,bq] at hj;subst hj;refine ⟨hb,?_,?_,?_⟩
    ·rw [Nat.add_zero,e5,e2];exact hu
    ·rw [Nat.add_zero,e5,e2,e4]
     have hg':({ rd:=reads all o (nH K7 (fun _=>true) s0 tO.length),wr:=aL u,bf:=closure tO (dJ o) }:oV)=g:=hg
     rw [hg',k2 _ (by omega),List.getElem?_append_right (dQ _)];simp
    ·rw [Nat.add_zero,e5,e2,e4]
     have hg':({ rd:=reads all o (nH K7 (fun _=>true) s0 tO.length),wr:=aL u,bf:=closure tO (dJ o) }:oV)=g:=hg
     rw [hg'];exact ha
   | succ j=>
    have:=k4 j o' (by simpa using hj)
    rw [show tO.length+(j+1)=tO.length+(0+1)+j from by omega]
    simpa using this
  ·intro k hk
   obtain ⟨q1,q2⟩:=k7 k hk;simp only [qb,not_or] at q1;refine ⟨q1.2,?_⟩;rw [q2];simp only [nH,aQ,if_true]
   rw [hst _ (fun j hj=>if_neg (by omega)) _ (dQ _)]
   exact bn _ _ k q1.1
theorem rJ {i:Nat}:∀ {l:List Nat},below i l=true→∀ j∈l,j<i
 | [],_,j,h=>by simp at h
 | x::r,hb,j,h=>by
  simp only [below,bP,Nat.blt_eq] at hb
  rcases List.mem_cons.1 h with rfl | h
  ·exact hb.1
  ·exact rJ hb.2 j h
theorem rM {k:Nat}:∀ {xs ys:List Nat},k∈union xs ys↔k∈xs∨k∈ys
 | [],ys=>by simp [union]
 | x::xs,ys=>by
  simp only [union]
  cases hm:mem x ys with
  | true=>
   have:=mem_iff.1 hm;simp only [aQ,rM,List.mem_cons];constructor
   ·rintro (h | h)
    ·exact .inl (.inr h)
    ·exact .inr h
   ·rintro ((rfl | h) | h)
    ·exact .inr this
    ·exact .inl h
    ·exact .inr h
  | false=>
   simp only [bU,rM,List.mem_cons];constructor
   ·rintro (h | rfl | h)
    ·exact .inl (.inr h)
    ·exact .inl (.inl rfl)
    ·exact .inr h
   ·rintro ((rfl | h) | h)
    ·exact .inr (.inl rfl)
    ·exact .inl h
    ·exact .inr (.inr h)
theorem mX {fs:List oV} {j:Nat}:∀ {l:List Nat},j∈closure fs l→∃ x∈l,j=x∨∃ f,fs[x]? = some f∧j∈f.bf
 | [],h=>by simp [closure] at h
 | x::r,h=>by
  simp only [closure] at h;split at h
  ·rename_i f hf
   rcases rM.1 h with h | h
   ·rcases List.mem_cons.1 h with h | h
    ·exact ⟨x,by simp,.inl h⟩
    ·exact ⟨x,by simp,.inr ⟨f,hf,h⟩⟩
   ·obtain ⟨y,h1,h2⟩:=mX h
    exact ⟨y,by simp [h1],h2⟩
  ·rcases rM.1 h with h | h
   ·simp only [List.mem_cons,List.not_mem_nil,or_false] at h
    exact ⟨x,by simp,.inl h⟩
   ·obtain ⟨y,h1,h2⟩:=mX h
    exact ⟨y,by simp [h1],h2⟩
theorem oo {k:Nat}:∀ {xs ys:List Nat},meets xs ys=false→k∈xs→k∈ys→False
 | x::r,ys,h,h1,h2=>by
  simp only [meets,Bool.or_eq_false_iff] at h
  rcases List.mem_cons.1 h1 with rfl | h1
  ·have:=mem_iff.2 h2
   rw [h.1] at this;cases this
  ·exact oo h.2 h1 h2
theorem o7 {bf:List Nat} {g:oV}:∀ {l:List oV} {i j:Nat} {f:oV},eD bf g i l=true→l[j]? = some f→(i+j)∈bf∨apart f g=true
 | [],i,j,f,_,h=>by simp at h
 | x::r,i,0,f,h,hf=>by
  simp only [eD,bP,Bool.or_eq_true] at h;simp only [List.getElem?_cons_zero,bq] at hf;subst hf
  rcases h.1 with h | h
  ·exact .inl (mem_iff.1 h)
  ·exact .inr h
 | x::r,i,j+1,f,h,hf=>by
  simp only [eD,bP] at h
  rw [show i+(j+1)=i+1+j from by omega]
  exact o7 h.2 (by simpa using hf)
theorem filter_lt {p q:Nat→Bool} {x:Nat}:∀ {l:List Nat},l.Nodup→(∀ j,q j=true→p j=true)→x∈l→p x=true→q x=false→(l.filter q).length<(l.filter p).length
 | [],_,_,h,_,_=>by simp at h
 | y::r,hn,hs,hx,hp,hq=>by
  have hn':=List.nodup_cons.1 hn
  have le:(r.filter q).length≤(r.filter p).length:=by
   clear hn hn' hx
   induction r with
   | nil=>simp
   | cons z r ih=>
    simp only [List.filter_cons]
    by_cases hz:q z=true
    ·rw [if_pos hz,if_pos (hs z hz)];simpa using ih
    ·rw [if_neg hz]
     split
     ·simp only [List.length_cons];omega
     ·exact ih
  simp only [List.filter_cons]
  rcases List.mem_cons.1 hx with rfl | hx
  ·rw [hp,hq]
   simp only [sI,if_false,if_true,List.length_cons];omega
  ·have ih:=filter_lt hn'.2 hs hx hp hq
   by_cases hz:q y=true
   ·rw [if_pos hz,if_pos (hs y hz)];simpa using ih
   ·rw [if_neg hz]
    split
    ·simp only [List.length_cons];omega
    ·exact ih
section
variable {P:Program} {E:Env} {C:Ctx}
theorem Rel.world {s:St} {a:Act} {w w':World} {G:Nat→Nat} {pt:Nat→Nat→Option Value} (R:Rel E C s a w G pt) (hh:w'.heap=w.heap) (ho:w'.os=w.os)
 (hp:w'.output=w.output) (ht:w'.tape=w.tape):Rel E C s a w' G pt:=by
 have hc:∀ b o,w'.cell? ⟨b,o,none⟩=w.cell? ⟨b,o,none⟩:=fun b o=>cell_of_heap (by rw [hh]) o
 refine R.step (fun _=>False) (fun _=>False) (fun _=>False) rfl R.df (fun _ _=>⟨rfl,rfl⟩) (fun _ _=>⟨rfl,rfl⟩) ⟨fun b o _=>hc b o,fun b=>dQ _⟩
  (fun _ _ _ h=>h) (fun b _ _=>⟨by rw [hh],rfl⟩) (fun _ h=>h.elim) (fun _ h=>h.elim) (fun _ h=>h.elim) (fun _ h=>h.elim) (fun _ h=>h.elim) ?_
  (fun b hb=>R.gz b (by rw [←hh];exact hb)) ho hp ht (by rw [hh];exact dQ _)
 intro c1 c2 b
 have:TC E.n C.m s a w' pt b=TC E.n C.m s a w pt b:=by
  unfold TC
  rw [aM fun i _=>c1 i id b,aM fun i _=>c2 i id b]
 rw [this,hh];exact ⟨R.ct b,R.cb b⟩
theorem Qv {Γ:uX} (Qw:P.follows .mixedOrders=true) (H:KZ P E Γ C):K3 P E Γ C:=by
 intro id ops ch s0 r hr
 obtain ⟨us,fs,-,-,hlen,htold,he,hs,hst⟩:=GQ (E:=E) (Γ:=Γ) (all:=ops.toList) (s0:=s0) ops.toList [] [] (fun _=>[]) ch r s0 (fun _=>rfl) hr
 simp only [List.length_nil,Nat.zero_add,nH] at hlen htold hst
 have hn:fs.length=ops.size:=by simpa using hlen
 refine ⟨fun s' h0 k hk=>?_,?_⟩
 ·obtain ⟨h1,h2⟩:=hst k hk
  rw [h2];exact h0 k h1
 intro a w G pt R;refine wp_region_any Qw ?_
 have R:Rel E C s0 a { w with drawn:=w.drawn+1 } G pt:=R.world rfl rfl rfl rfl
 generalize { w with drawn:=w.drawn+1 }=w at R
 -- one operation's facts
 have T:∀ i o,ops[i]? = some o→Told E Γ ops.toList s0 us fs i o:=fun i o h=>htold i o (by simpa using h)
 have bfS:∀ (S:Nat→Bool),(∀ i o,ops[i]? = some o→S i=true→∀ j∈dJ o,S j=true)→∀ i f,fs[i]? = some f→S i=true→∀ j∈f.bf,S j=true:=by
  intro S hS i
  induction i using Nat.strongRecOn with
  | _ i ih=>
   intro f hf hi j hj
   have hlt:i<ops.size:=by
    have:=(List.getElem?_eq_some_iff.1 hf).1;omega
   have ho:ops[i]? = some ops[i]:=by simp [hlt]
   have t:=T i _ ho;rw [t.ft] at hf;simp only [bq] at hf;subst hf;obtain ⟨x,hx,hj⟩:=mX hj;have hSx:=hS i _ ho hi x hx
   rcases hj with rfl | ⟨f,hf,hj⟩
   ·exact hSx
   ·have hlt:=rJ t.bl x hx
    rw [List.getElem?_take_of_lt hlt] at hf;exact ih x hlt f hf hSx j hj
 have gd:∀ {L:Array Bool} {j:Nat},L.size=ops.size→j<ops.size→L.getD j false=L.getD j true:=by
  intro L j h1 h2;simp [h1,h2]
 have fin:∀ (L:Array Bool) (a:Act) (w:World) (G:Nat→Nat) (pt:Nat→Nat→Option Value),L.size=ops.size→(∀ i,i<ops.size→L.getD i true=true) →
  Rel E C (nH us (fun i=>L.getD i false) s0 ops.size) a w G pt→Post E C r .normal a w:=by
  intro L a w G pt hL hall R
  refine ⟨by rw [he];rfl,G,pt,?_⟩
  refine R.congr fun k=>(hs k).trans ?_
  rw [hn]
  refine vD fun j hj _=>?_
  rw [gd hL hj,hall j hj]
 have key:∀ (fuel:Nat) (L:Array Bool) (a:Act) (w:World) (G:Nat→Nat) (pt:Nat→Nat→Option Value),L.size=ops.size →
  (∀ i o,ops[i]? = some o→L.getD i false=true→∀ j∈dJ o,L.getD j false=true) →
  ((List.range ops.size).filter fun i=>!L.getD i true).length≤fuel →
  Rel E C (nH us (fun i=>L.getD i false) s0 ops.size) a w G pt→wpAny P .any ops (Post E C r) fuel L a w:=by
  intro fuel
  induction fuel with
  | zero=>
   intro L a w G pt hL hS hf R
   have all:∀ i,i<ops.size→L.getD i true=true:=by
    intro i hi;have hnil:=List.length_eq_zero_iff.1 (Nat.le_zero.1 hf)
    cases hb:L.getD i true with
    | true=>rfl
    | false=>
     have:i∈(List.range ops.size).filter fun i=>!L.getD i true:=by
      rw [List.mem_filter,List.mem_range,hb];exact ⟨hi,rfl⟩
     rw [hnil] at this;simp at this
   refine ⟨?_,fin L a w G pt hL all R⟩;apply List.eq_nil_iff_forall_not_mem.2;intro i hi;obtain ⟨h1,o,h2,_⟩:=mem_ready.1 hi;have:=all i (Array.getElem?_eq_some_iff.1 h2).1;rw [h1] at this;cases this
  | succ fuel ih=>
   intro L a w G pt hL hS hf R
   refine ⟨fun hnil=>fin L a w G pt hL (fun i hi=>?_) R,fun i hi=>?_⟩
   ·induction i using Nat.strongRecOn with
    | _ i ih2=>
     cases hb:L.getD i true with
     | true=>rfl
     | false=>
      exfalso
      have ho:ops[i]? = some ops[i]:=by simp [hi]
      have:i∈Region.ready .any ops L:=by
       refine mem_ready.2 ⟨hb,ops[i],ho,fun e he hbe=>?_⟩
       have hm:e.on∈dJ ops[i]:=by
        simp only [dJ,List.mem_map,List.mem_filter]
        exact ⟨e,⟨by simpa using he,hbe⟩,rfl⟩
       have hlt:=rJ (T i _ ho).bl _ hm
       rw [gd hL (by omega)]
       exact ih2 e.on hlt (by omega)
      rw [hnil] at this;simp at this
   ·obtain ⟨hi0,o,ho,hed⟩:=mem_ready.1 hi
    have hlt:=(Array.getElem?_eq_some_iff.1 ho).1;have t:=T i o ho
    have hbS:∀ j∈dJ o,L.getD j false=true:=by
     intro j hj;simp only [dJ,List.mem_map,List.mem_filter] at hj;obtain ⟨e,⟨h1,h2⟩,rfl⟩:=hj
     exact hed e (by simpa using h1) h2
    have hi1:L.getD i false=false:=by rw [gd hL hlt];exact hi0
    have cl:=bfS (fun j=>L.getD j false) hS
    -- what comes before for sure is done
    have cb:∀ j∈closure (fs.take i) (dJ o),L.getD j false=true:=by
     intro j hj;obtain ⟨x,hx,hj⟩:=mX hj
     rcases hj with rfl | ⟨f,hf,hj⟩
     ·exact hbS j hx
     ·have hxl:=rJ t.bl x hx
      rw [List.getElem?_take_of_lt hxl] at hf;exact cl x f hf (hbS x hx) j hj
    -- an earlier one that is not done is apart
    have early:∀ j,j<i→L.getD j false=false→∀ f,fs[j]? = some f→∀ k∈f.wr,k∈reads ops.toList o (nH us (fun _=>true) s0 i)∨k∈aL (us i)→False:=by
     intro j hj hb f hf k hk h
     rcases o7 t.ap (by rw [List.getElem?_take_of_lt hj];exact hf) with h1 | h1
     ·have:=cb _ h1
      rw [Nat.zero_add,hb] at this;cases this
     ·simp only [apart,bP,Bool.not_eq_true'] at h1
      rcases h with h | h
      ·exact oo h1.1.1 hk h
      ·exact oo h1.1.2 hk h
    -- a later one that is done is apart
    have late:∀ j,i<j→L.getD j false=true→∀ f,fs[j]? = some f→∀ k∈f.wr,k∈reads ops.toList o (nH us (fun _=>true) s0 i)∨k∈aL (us i)→False:=by
     intro j hj hb f hf k hk h
     have hjn:j<ops.size:=by
      have:=(List.getElem?_eq_some_iff.1 hf).1;omega
     have hoj:ops[j]? = some ops[j]:=by simp [hjn]
     have tj:=T j _ hoj;have hf':=tj.ft;rw [hf] at hf';simp only [bq] at hf';subst hf'
     rcases o7 tj.ap (by rw [List.getElem?_take_of_lt hj];exact t.ft) with h1 | h1
     ·have:=cl j _ hf hb i (by simpa using h1)
      rw [hi1] at this;cases this
     ·simp only [apart,bP,Bool.not_eq_true'] at h1
      rcases h with h | h
      ·exact oo h1.2 hk h
      ·exact oo h1.1.2 h hk
    have wr:∀ j,j<ops.size→∃ f,fs[j]? = some f∧f.wr=aL (us j):=by
     intro j hj
     exact ⟨_,(T j ops[j] (by simp [hj])).ft,rfl⟩
    -- it reads what it reads in order
    have rd:∀ k∈reads ops.toList o (nH us (fun _=>true) s0 i),get (nH us (fun j=>L.getD j false) s0 ops.size) k=get (nH us (fun _=>true) s0 i) k:=by
     intro k hk;rw [←Jv (n:=ops.size) (Nat.le_of_lt hlt)]
     refine vD fun j hj hkj=>?_
     obtain ⟨f,hf,hw⟩:=wr j hj;rw [←hw] at hkj
     by_cases hji:j<i
     ·have hbl:Nat.blt j i=true:=by rw [Nat.blt_eq];exact hji
      rw [hbl]
      cases hb:L.getD j false with
      | true=>rfl
      | false=>exact (early j hji hb f hf k hkj (.inl hk)).elim
     ·have hbl:Nat.blt j i=false:=by
       cases hb:Nat.blt j i with
       | false=>rfl
       | true=>rw [Nat.blt_eq] at hb;omega
      rw [hbl]
      cases hb:L.getD j false with
      | false=>rfl
      | true=>
       rcases Nat.lt_or_ge i j with h | h
       ·exact (late j h hb f hf k hkj (.inl hk)).elim
       ·have:j=i:=by omega
        subst this;rw [hi1] at hb;cases hb
    have un:=t.un;rw [←Qt rd] at un
    -- behind it
    have after:∀ k,get (aA (us i) (nH us (fun j=>L.getD j false) s0 ops.size)) k=get (nH us (fun j=>(L.setIfInBounds i true).getD j false) s0 ops.size) k:=by
     intro k
     by_cases hk:k∈aL (us i)
     ·have h1:get (nH us (fun j=>(L.setIfInBounds i true).getD j false) s0 ops.size) k=get (nH us (fun j=>Nat.blt j (i+1)) s0 ops.size) k:=by
       refine vD fun j hj hkj=>?_
       obtain ⟨f,hf,hw⟩:=wr j hj;rw [←hw] at hkj
       by_cases hji:j=i
       ·subst hji
        have:Nat.blt j (j+1)=true:=by rw [Nat.blt_eq];omega
        rw [this];simp [hL,hj]
       ·rw [getD_set_ne false (Ne.symm hji)]
        by_cases hlt2:j<i
        ·have hbl:Nat.blt j (i+1)=true:=by rw [Nat.blt_eq];omega
         rw [hbl]
         cases hb:L.getD j false with
         | true=>rfl
         | false=>exact (early j hlt2 hb f hf k hkj (.inr hk)).elim
        ·have hbl:Nat.blt j (i+1)=false:=by
          cases hb:Nat.blt j (i+1) with
          | false=>rfl
          | true=>rw [Nat.blt_eq] at hb;omega
         rw [hbl]
         cases hb:L.getD j false with
         | false=>rfl
         | true=>exact (late j (by omega) hb f hf k hkj (.inr hk)).elim
      rw [h1,Jv (by omega)]
      simp only [nH,aQ];exact jD _ _ _ k hk
     ·rw [bn _ _ k hk]
      refine vD fun j hj hkj=>?_
      by_cases hji:j=i
      ·subst hji;exact (hk hkj).elim
      ·rw [getD_set_ne false (Ne.symm hji)]
    have IH:∀ a' w' G' bX,Rel E C (aA (us i) (nH us (fun j=>L.getD j false) s0 ops.size)) a' w' G' bX→wpAny P .any ops (Post E C r) fuel (L.setIfInBounds i true) a' w':=by
     intro a' w' G' bX R'
     refine ih (L.setIfInBounds i true) a' w' G' bX (by simpa using hL) ?_ ?_ (R'.congr fun k=>(after k).symm)
     ·intro j oj hoj hj j' hj'
      by_cases hji:j=i
      ·subst hji
       rw [ho] at hoj;simp only [bq] at hoj;subst hoj;exact getD_set_true (hbS j' hj')
      ·rw [getD_set_ne false (Ne.symm hji)] at hj
       exact getD_set_true (hS j oj hoj hj j' hj')
     ·refine Nat.le_of_lt_succ (nG ?_ hf)
      refine filter_lt (List.nodup_range) (x:=i) (fun j hj=>?_) (by simpa using hlt) (by rw [hi0];rfl) (by simp [hL,hlt])
      by_cases hji:j=i
      ·subst hji;simp [hL,hlt] at hj
      ·rw [getD_set_ne true (Ne.symm hji)] at hj;exact hj
    -- the operation itself
    unfold wpOp;rw [ho];simp only;unfold FM at un;split at un
    ·rename_i hg
     rw [if_pos (by simp [Region.wanted,hg])]
     exact .inl (H [] o _ a w G pt _ R un _ _ fun a' w' G' bX R'=>IH a' w' G' bX R')
    ·rename_i j want hg
     split at un
     ·cases un
     ·rename_i tt ht
      split at un
      ·rename_i b hb
       have hy:=Gw R ht hb
       have hwd:Region.wanted o (yielded ops a.tmps)=decide (b=want):=by
        simp only [Region.wanted,hg,hy]
        cases b<;>cases want<;>rfl
       cases hd:eO E o with
       | false=>rw [hd] at un;cases un
       | true=>
        rw [hd] at un;simp only [aQ,Out.den] at un
        cases hbw:ji b want with
        | true=>
         rw [hbw] at un
         rw [hwd,if_pos (by simpa using kT hbw)]
         exact .inl (H [] o _ a w G pt _ R un _ _ fun a' w' G' bX R'=>IH a' w' G' bX R')
        | false=>
         rw [hbw] at un;simp only [bU,bq] at un;have hne:=Ee hbw
         rw [hwd,if_neg (by rw [hne];simp [Ef])]
         refine IH _ w G pt ?_;rw [←un];exact R.skipped hd
      ·rename_i hb
       have hy:=AB R ht hb
       have hwd:Region.wanted o (yielded ops a.tmps)=false:=by
        simp only [Region.wanted,hg,hy]
        cases want<;>rfl
       cases hd:eO E o with
       | false=>rw [hd] at un;cases un
       | true=>
        rw [hd] at un;simp only [aQ,Out.den,bq] at un
        rw [hwd,if_neg (by simp)]
        refine IH _ w G pt ?_;rw [←un];exact R.skipped hd
      ·cases un
 refine key ops.size _ a w G pt (by simp) (fun i o _ hi=>?_) ?_ ?_
 ·exfalso
  rw [sJ,Array.getElem?_replicate] at hi
  split at hi<;>simp at hi
 ·refine jQ (List.length_filter_le _ _) ?_
  simp
 ·have h0:∀ n,nH us (fun i=>(Array.replicate ops.size false).getD i false) s0 n=s0:=by
   intro n
   induction n with
   | zero=>rfl
   | succ n ih=>
    simp only [nH]
    have:(Array.replicate ops.size false).getD n false=false:=by
     rw [sJ,Array.getElem?_replicate]
     split<;>rfl
    rw [this];exact ih
  rw [h0];exact R
end
end Go.gI