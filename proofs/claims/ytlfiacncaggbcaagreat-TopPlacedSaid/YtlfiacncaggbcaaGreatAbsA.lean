/- The abstract evaluator, part 1: proved is that each operation of the model that it runs keeps the relation between abstract values and memory (values, moves, tables of types, numbers, strings); no conditions but those that each theorem states. -/
import Derived.WalkKit
import Derived.Deep.MidRow
import Derived.Maps.Keyed
set_option linter.unusedVariables false
set_option linter.unusedSimpArgs false
theorem bn {α:Type _} (a b:α):(some a=some b)=(a=b):=Option.some.injEq a b
theorem gD {α:Type _} {β:Type _} (a:α) (b:β) (c:α) (d:β):((a,b)=(c,d))=(a=c∧b=d):=Prod.mk.injEq a b c d
theorem fQ (n:Nat):Int.ofNat n=(n:Int):=rfl
theorem dA (a b:Bool):((a&&b)=true)=(a=true∧b=true):=Bool.and_eq_true a b
theorem jd (n:Nat):(n:Int).toNat=n:=rfl
theorem fD {n m:Nat} (h:Nat.beq n m=true):n=m:=Nat.eq_of_beq_eq_true h
theorem aQ {α:Sort _} (a b:α):cond true a b=a:=rfl
theorem bJ {α:Sort _} (a b:α):cond false a b=b:=rfl
theorem mK {n m k:Nat} (h:n<m) (h2:m≤k):n<k:=Nat.lt_of_lt_of_le h h2
theorem zF {m n:Nat} (k:Nat) (h:m≤n):m*k≤n*k:=Nat.mul_le_mul_right k h
theorem bL {p:Prop} [Decidable p] (h:p):decide p=true:=decide_eq_true h
theorem mX {p:Prop} [Decidable p]:(decide p=true)=p:=decide_eq_true_eq
theorem qB {α:Type _} {β:Type _} (f:α→Option β) (a:α):(some a).bind f=f a:=rfl
theorem bT (n:Nat):n≤n:=Nat.le_refl n
theorem mY (n:Nat):0≤n:=Nat.zero_le n
theorem nP {α:Type _} {as bs:List α}:(as++bs).length=as.length+bs.length:=List.length_append
theorem iW {α:Type _} {l:List α} {i:Nat} {a:α}:l.getD i a=(l[i]?).getD a:=List.getD_eq_getElem?_getD
theorem xD:(false=true)=False:=Bool.false_eq_true
theorem d9 {p:Prop} [Decidable p] (h:¬p):decide p=false:=decide_eq_false h
theorem kE {α:Type _} (y:α) {a:α} {l:List α} (h:a∈l):a∈y::l:=List.mem_cons_of_mem y h
theorem zC5 {n m:Nat} (h:Nat.beq n m=false):¬ n=m:=Nat.ne_of_beq_eq_false h
theorem pV {α:Type _} {a:α} {s t:List α}:a∈s++t↔a∈s∨a∈t:=List.mem_append
theorem zC7 {α:Type _} {a:α}:[a].length=1:=rfl
theorem gX {n m k:Nat} (h:n≤m) (h2:m≤k):n≤k:=Nat.le_trans h h2
theorem xE {α:Type _} {xs:Array α} {i:Nat} {d:α}:xs.getD i d=xs[i]?.getD d:=by rw [Array.getD_eq_getD_getElem?]
abbrev aR:=Go.IntKind.wrap .i64
theorem iw {α:Type _} {l:List α} {i:Nat} (h:i<l.length):l[i]? = some l[i]:=List.getElem?_eq_getElem h
theorem jy {α:Type _} {β:Type _} {f:α→β} {a:α} {l:List α}:(a::l).map f=f a::l.map f:=rfl
theorem lD {α:Type _} {a:α} {as:List α}:(a::as).length=as.length+1:=rfl
theorem lC {α:Type _} {a b:α} {l:List α} (h:a∈b::l):a=b∨a∈l:=List.mem_cons.1 h
theorem E5 {α:Type _} {xs:Array α} {i:Nat} {b:α} (h:xs[i]? = some b):∃ h:i<xs.size,xs[i]=b:=Array.getElem?_eq_some_iff.1 h
theorem NA {α:Type _} (l:List α) (i:Nat) (a:α):l.toArray.setIfInBounds i a=(l.set i a).toArray:=List.setIfInBounds_toArray l i a
theorem K6 {α:Type _} {a b:α} {as:List α}:(a::as).set 0 b=b::as:=rfl
theorem K7 {α:Type _} {a b:α} {n:Nat} {as:List α}:(a::as).set (n+1) b=a::as.set n b:=rfl
theorem pJ {α:Type _} {β:Type _} {f:α→β} {as:List α}:(as.map f).length=as.length:=List.length_map f
theorem uD {α:Type _} {a:α} {l:List α}:a∈a::l:=List.mem_cons_self
theorem vO {α:Type _} {β:Type _} {f:α→β} {l₁ l₂:List α}:(l₁++l₂).map f=l₁.map f++l₂.map f:=List.map_append
theorem zG {α:Type _} {l:List α} {n:Nat} (h:n<l.length):l[n]∈l:=List.getElem_mem h
theorem Ii {n m:Nat} (h:Nat.ble n m=true):n≤m:=Nat.le_of_ble_eq_true h
theorem vP {p:Prop} [Decidable p] (h:decide p=true):p:=of_decide_eq_true h
theorem sw {α:Type _} {a b:α}:(some a).getD b=a:=rfl
namespace Go.dw
inductive Ty where
 | int (k:IntKind) | bool | str | sl (t:Ty) | unit | cons (a b:Ty) | st (by_:Nat) (c:Ty) | iF (f:Nat) (t:Ty)
 deriving Inhabited
@[reducible] def Ty.den:Ty→Type
  | .int _=>Int
  | .bool=>Bool
  | .str=>List Int
  | .sl t=>List t.den
  | .unit=>Unit
  | .cons a b=>a.den×b.den
  | .st _ c=>c.den
  | .iF _ t=>t.den
def Ty.nc:Ty→Nat
 | .unit=>0
 | .cons a b=>a.nc+b.nc
 | .st _ c=>c.nc
 | _=>1
def Ty.xk:Ty→Nat
 | .int k=>k.bits / 8
 | .bool=>1
 | .str=>16
 | .sl _=>24
 | .st b _=>b
 | .iF _ _=>8
 | _=>0
def Ty.dflt:(t:Ty)→t.den
 | .int _=>(0:Int)
 | .bool=>false
 | .str=>[]
 | .sl _=>[]
 | .unit=>()
 | .cons a b=>(a.dflt,b.dflt)
 | .st _ c=>c.dflt
 | .iF _ t=>t.dflt
def mZ:IntKind→IntKind→Bool
 | .i8,.i8 | .i16,.i16 | .i32,.i32 | .i64,.i64 | .u8,.u8 | .u16,.u16 | .u32,.u32 | .u64,.u64=>true
 | _,_=>false
theorem gW {a b:IntKind} (h:mZ a b=true):a=b:=by
 cases a<;>cases b<;>first | rfl | (simp [mZ] at h)
def Ty.beq:Ty→Ty→Bool
 | .int k,.int k'=>mZ k k'
 | .bool,.bool=>true
 | .str,.str=>true
 | .sl a,.sl b=>a.beq b
 | .unit,.unit=>true
 | .cons a b,.cons c d=>a.beq c&&b.beq d
 | .st n a,.st m b=>Nat.beq n m&&a.beq b
 | .iF n a,.iF m b=>Nat.beq n m&&a.beq b
 | _,_=>false
theorem Ty.eq_of_beq:∀ {a b:Ty},a.beq b=true→a=b
 | .int k,.int k',h=>by rw [gW (show mZ k k' = true from h)]
 | .bool,.bool,_=>rfl
 | .str,.str,_=>rfl
 | .unit,.unit,_=>rfl
 | .sl a,.sl b,h=>by rw [Ty.eq_of_beq (show a.beq b=true from h)]
 | .cons a b,.cons c d,h=>by
  have h':(a.beq c&&b.beq d)=true:=h;rw [dA] at h';rw [Ty.eq_of_beq h'.1,Ty.eq_of_beq h'.2]
 | .st n a,.st m b,h=>by
  have h':(Nat.beq n m&&a.beq b)=true:=h;rw [dA] at h';rw [fD h'.1,Ty.eq_of_beq h'.2]
 | .iF n a,.iF m b,h=>by
  have h':(Nat.beq n m&&a.beq b)=true:=h;rw [dA] at h';rw [fD h'.1,Ty.eq_of_beq h'.2]
 | .iF _ _,.int _,h | .iF _ _,.bool,h | .iF _ _,.str,h | .iF _ _,.sl _,h | .iF _ _,.unit,h | .iF _ _,.cons _ _,h | .iF _ _,.st _ _,h
 | .int _,.iF _ _,h | .bool,.iF _ _,h | .str,.iF _ _,h | .sl _,.iF _ _,h | .unit,.iF _ _,h | .cons _ _,.iF _ _,h | .st _ _,.iF _ _,h
 | .int _,.bool,h | .int _,.str,h | .int _,.sl _,h | .int _,.unit,h | .int _,.cons _ _,h | .int _,.st _ _,h
 | .bool,.int _,h | .bool,.str,h | .bool,.sl _,h | .bool,.unit,h | .bool,.cons _ _,h | .bool,.st _ _,h
 | .str,.int _,h | .str,.bool,h | .str,.sl _,h | .str,.unit,h | .str,.cons _ _,h | .str,.st _ _,h
 | .sl _,.int _,h | .sl _,.bool,h | .sl _,.str,h | .sl _,.unit,h | .sl _,.cons _ _,h | .sl _,.st _ _,h
 | .unit,.int _,h | .unit,.bool,h | .unit,.str,h | .unit,.sl _,h | .unit,.cons _ _,h | .unit,.st _ _,h
 | .cons _ _,.int _,h | .cons _ _,.bool,h | .cons _ _,.str,h | .cons _ _,.sl _,h | .cons _ _,.unit,h | .cons _ _,.st _ _,h
 | .st _ _,.int _,h | .st _ _,.bool,h | .st _ _,.str,h | .st _ _,.sl _,h | .st _ _,.unit,h | .st _ _,.cons _ _,h=>by
  exact absurd (show false=true from h) (by decide)
inductive D where
 | undef
 | bool (b:Bool)
 | int (k:IntKind) (n:Int)
 | str (s:List Int)
 | lS
 | sl (fl:Nat) (t:Ty) (l:List t.den)
 | ptr (id st off:Nat)
 | uE (id st i off es:Nat)
 | BF (g off:Nat)
 | jQ (t:Ty) (l:List t.den) (i off:Nat)
 | csl (t:Ty) (l:List t.den)
 | fU (id st:Nat)
 | agg (cs:List D)
 | iJ (vs:List D)
 | fn (f:Nat) (qC:List D)
 | aI (st:Nat) (live:Bool) (cs:List D)
 | aX (st:Nat) (live:Bool) (ar:Bool) (t:Ty) (l:List t.den)
 | DW (st:Nat) (l:List (Int×(List Int×Unit)))
 | dI (st:Nat) (t:Ty) (l:List (List t.den)) (h:Option (Nat×Nat×Nat))
 | Jr (id st n:Nat)
 | VO (id st nc o n:Nat)
 | BG (f:Nat)
 | iF (f:Nat) (t:Ty) (x:t.den)
 | av (k:IntKind) (l:List Int)
 | vpa (k:IntKind) (l:List Int)
 | bO (st:Nat) (kt vt:Ty) (l:List (kt.den×vt.den))
 deriving Inhabited
def Ty.fl:Ty→Bool
 | .int _=>true
 | .bool=>true
 | .unit=>true
 | .cons a b=>a.fl&&b.fl
 | .st _ c=>c.fl
 | _=>false
def Ty.fk:Ty→Bool
 | .int _=>true
 | .bool=>true
 | .st _ c=>c.fl
 | _=>false
def toC:(t:Ty)→t.den→List Value
 | .int k,n=>[.int k n]
 | .bool,b=>[.bool b]
 | .cons a b,x=>toC a x.1++toC b x.2
 | .st _ c,x=>toC c x
 | _,_=>[]
def je (t:Ty) (x:t.den):Value:=
 match t,x with
 | .int k,n=>.int k n
 | .bool,b=>.bool b
 | .st _ c,x=>.agg (toC c x).toArray
 | _,_=>.tuple #[]
def Ty.om:(t:Ty)→t.den→t.den→Bool
 | .int _,(a:Int),(b:Int)=>decide (a=b)
 | .bool,a,b=>(match a with
  | true=>b
  | false=>!b)
 | .unit,_,_=>true
 | .cons a b,x,y=>a.om x.1 y.1&&b.om x.2 y.2
 | .st _ c,x,y=>c.om x y
 | _,_,_=>false
def iE (k v:Ty):List (k.den×v.den)→k.den→Option v.den
 | [],_=>none
 | p::r,x=>bif k.om p.1 x then some p.2 else iE k v r x
def cZ (k v:Ty) (l:List (k.den×v.den)) (x:k.den):v.den:=
 match iE k v l x with
 | some y=>y
 | none=>v.dflt
def DX (k v:Ty) (l:List (k.den×v.den)) (x:k.den):Bool:=
 match iE k v l x with
 | some _=>true
 | none=>false
def gM (k v:Ty):List (k.den×v.den)→k.den→v.den→List (k.den×v.den)
 | [],x,y=>[(x,y)]
 | p::r,x,y=>bif k.om p.1 x then (x,y)::r else p::gM k v r x y
abbrev ent (k v:Ty):Ty:=.cons k v
def enc:(t:Ty)→t.den→List D
 | .int k,n=>[.int k n]
 | .bool,b=>[.bool b]
 | .str,s=>[.str s]
 | .sl t,l=>[.sl 0 t l]
 | .unit,_=>[]
 | .cons a b,x=>enc a x.1++enc b x.2
 | .st _ c,x=>enc c x
 | .iF f t,x=>[.iF f t x]
def TR {a b:Ty} (h:a=b) (x:a.den):b.den:=h▸x
def xG {a b:Ty} (h:a=b) (l:List a.den):List b.den:=h▸l
def dec:(t:Ty)→List D→Option (t.den×List D)
 | .int k,.int k' n::r=>bif mZ k k' then some (n,r) else none
 | .bool,.bool b::r=>some (b,r)
 | .str,.str s::r=>some (s,r)
 | .sl _,.lS::r=>some ([],r)
 | .sl t,.sl _ t' l::r=>if h:t'.beq t=true then some (xG (Ty.eq_of_beq h) l,r) else none
 | .unit,r=>some ((),r)
 | .cons a b,r=>match dec a r with
  | some (x,r')=>match dec b r' with
   | some (y,r'')=>some ((x,y),r'')
   | none=>none
  | none=>none
 | .st _ c,r=>dec c r
 | .iF f t,.iF f' t' x::r=>if h:(Ty.iF f' t').beq (.iF f t)=true then some (TR (Ty.eq_of_beq h) x,r) else none
 | _,_=>none
structure TI where
 size:Nat
 bytes:Nat
 agg:Bool
 ty:Ty
 desc:TypeDesc
 zero:List D
 arr:Option Ty
 cmp:Option (List Nat)
 deriving Inhabited
abbrev St:=List (Nat×D)
def get:St→Nat→D
 | [],_=>.undef
 | (l,d)::r,m=>bif Nat.beq m l then d else get r m
def dD:D→D
 | .sl _ t l=>.sl 0 t l
 | d=>d
def bP:D→D
 | .sl f t l=>.sl (bif Nat.beq f 2 then 1 else f) t l
 | d=>d
def stripL:D→D
 | .sl f t l=>bif Nat.beq f 0 then .sl 0 t l else .undef
 | d=>d
def Dc:D→Bool
 | .sl f _ _=>!Nat.beq f 0
 | _=>false
def Fa:D→Bool
 | .sl f _ _=>Nat.beq f 2
 | _=>false
def view:D→D
 | .agg cs=>.agg (cs.map dD)
 | d=>dD d
def share:D→D
 | .agg cs=>.agg (cs.map bP)
 | d=>bP d
def strip:D→D
 | .agg cs=>.agg (cs.map stripL)
 | .iJ _=>.undef
 | d=>stripL d
def gN:D→Bool
 | .agg cs=>cs.any Dc
 | .iJ _=>true
 | d=>Dc d
def oH:D→Bool
 | .agg cs=>cs.any Fa
 | .iJ _=>true
 | d=>Fa d
def dW (t:Ty):D→D
 | .lS=>match t with
  | .sl e=>.sl 2 e []
  | _=>.lS
 | d=>d
def lZ (s:ByteArray):List Int:=s.data.toList.map fun b=>(b.toNat:Int)
def Yn (k:IntKind) (n:Int):Bool:=decide (k.min≤n)&&decide (n≤k.max)
def nG:Nat:=9223372036854775807
def VP:Value→D
 | .bool b=>.bool b
 | .int k n=>bif Yn k n then .int k n else .undef
 | .string s=>bif Nat.ble (lZ s).length nG then .str (lZ s) else .undef
 | .slice none 0 0=>.lS
 | _=>.undef
def lW:Nat:=140737488355328
def dK (w:World) (G:Nat→Nat):(t:Ty)→t.den→Nat→Nat→Prop
 | .int k,n,b,o=>w.cell? ⟨b,o,none⟩=some (.int k n)∧k.has n
 | .bool,x,b,o=>w.cell? ⟨b,o,none⟩=some (.bool x)
 | .str,l,b,o=>∃ s,w.cell? ⟨b,o,none⟩=some (.string s)∧lZ s=l∧l.length≤nG
 | .sl t,l,b,o=>∃ a n c,w.cell? ⟨b,o,none⟩=some (.slice a n c)∧n=l.length∧n*t.xk≤lW∧n≤c ∧
  (l=[]∨∃ b' o',a=some ⟨b',o',none⟩∧o' + n*t.nc≤G b'∧∀ i (h:i<l.length),dK w G t l[i] b' (o' + i*t.nc))
 | .unit,_,_,_=>True
 | .cons a c,x,b,o=>dK w G a x.1 b o∧dK w G c x.2 b (o+a.nc)
 | .st _ c,x,b,o=>dK w G c x b o
 | .iF f t,x,b,o=>∃ b' o',w.cell? ⟨b,o,none⟩=some (.func (.func f) #[] #[.pointer (some ⟨b',o',none⟩)])∧o' + t.nc≤G b'∧dK w G t x b' o'
def fA (w:World) (G:Nat→Nat) (t:Ty) (l:List t.den) (b o:Nat):Prop:=
 ∀ i (h:i<l.length),dK w G t l[i] b (o+i*t.nc)
structure Ext (w:World) (G:Nat→Nat) (w':World) (G':Nat→Nat):Prop where
 cell:∀ b o,o<G b→w'.cell? ⟨b,o,none⟩=w.cell? ⟨b,o,none⟩
 le:∀ b,G b≤G' b
theorem Ext.refl (w:World) (G:Nat→Nat):Ext w G w G:=⟨fun _ _ _=>rfl,fun _=>bT _⟩
theorem Ext.trans {w1 w2 w3:World} {G1 G2 G3:Nat→Nat} (h:Ext w1 G1 w2 G2) (k:Ext w2 G2 w3 G3):Ext w1 G1 w3 G3:=
 ⟨fun b o ho=>(k.cell b o (mK ho (h.le b))).trans (h.cell b o ho),fun b=>gX (h.le b) (k.le b)⟩
theorem dK.mono {w w':World} {G G':Nat→Nat} (hE:Ext w G w' G') :
 ∀ {t:Ty} {x:t.den} {b o:Nat},dK w G t x b o →
  (∀ j,o≤j→j<o+t.nc→w'.cell? ⟨b,j,none⟩=w.cell? ⟨b,j,none⟩)→dK w' G' t x b o
 | .int k,n,b,o,h,hc=>by
  simp only [dK] at h ⊢
  rw [hc o (bT _) (by simp [Ty.nc])];exact h
 | .bool,n,b,o,h,hc=>by
  simp only [dK] at h ⊢
  rw [hc o (bT _) (by simp [Ty.nc])];exact h
 | .str,n,b,o,h,hc=>by
  simp only [dK] at h ⊢
  rw [hc o (bT _) (by simp [Ty.nc])];exact h
 | .sl t,l,b,o,h,hc=>by
  simp only [dK] at h ⊢
  rw [hc o (bT _) (by simp [Ty.nc])]
  obtain ⟨a,n,c,h1,h2,h3,Ip,h4⟩:=h;refine ⟨a,n,c,h1,h2,h3,Ip,?_⟩
  rcases h4 with h4 | ⟨b',o',h5,h6,h7⟩
  ·exact .inl h4
  ·refine .inr ⟨b',o',h5,gX h6 (hE.le b'),fun i hi=>(h7 i hi).mono hE fun j K8 vQ=>hE.cell _ _ ?_⟩
   have:(i+1)*t.nc≤n*t.nc:=zF _ (by omega)
   rw [Nat.add_mul] at this;omega
 | .unit,_,_,_,_,_=>trivial
 | .cons a c,x,b,o,h,hc=>by
  simp only [dK] at h ⊢;simp only [Ty.nc] at hc
  exact ⟨h.1.mono hE fun j h1 h2=>hc j h1 (by omega),h.2.mono hE fun j h1 h2=>hc j (by omega) (by omega)⟩
 | .st _ c,x,b,o,h,hc=>by
  simp only [dK] at h ⊢;exact dK.mono hE h hc
 | .iF f t,x,b,o,h,hc=>by
  simp only [dK] at h ⊢
  rw [hc o (bT _) (by simp [Ty.nc])]
  obtain ⟨b',o',h1,h2,h3⟩:=h
  exact ⟨b',o',h1,gX h2 (hE.le b'),h3.mono hE fun j K8 vQ=>hE.cell _ _ (by omega)⟩
theorem fA.mono {w w':World} {G G':Nat→Nat} (hE:Ext w G w' G') {t:Ty} {l:List t.den} {b o:Nat} (h:fA w G t l b o)
 (hc:∀ j,o≤j→j<o+l.length*t.nc→w'.cell? ⟨b,j,none⟩=w.cell? ⟨b,j,none⟩):fA w' G' t l b o:=by
 intro i hi
 refine (h i hi).mono hE fun j K8 vQ=>hc j (by omega) ?_
 have:(i+1)*t.nc≤l.length*t.nc:=zF _ (by omega)
 rw [Nat.add_mul] at this;omega
def Room (w:World) (b k:Nat):Prop:=
 ∃ cur e fr,w.heap[b]? = some (.cells cur e fr)∧k≤cur.size∧∀ o,o<cur.size→¬ (fr.1≤o∧o<fr.2)
def VQ (w:World) (G:Nat→Nat) (f:Nat) (t:Ty) (l:List t.den) (a:Option Addr) (c:Nat):Prop:=
 match f with
 | 0=>l.length≤c∧(l=[]∨∃ b o,a=some ⟨b,o,none⟩∧o+l.length*t.nc≤G b∧fA w G t l b o)
 | 1=>(a=none∧l=[]∧c=0)∨∃ b,a=some ⟨b,0,none⟩∧G b=l.length*t.nc∧Room w b (c*t.nc)∧l.length≤c∧fA w G t l b 0∧0<t.nc
 | 2=>(a=none∧l=[]∧c=0)∨∃ b,a=some ⟨b,0,none⟩∧G b=0∧Room w b (c*t.nc)∧l.length≤c∧fA w G t l b 0∧0<t.nc
 | 3=>(a=none∧l=[]∧c=0)∨∃ b o d,a=some ⟨b,o,none⟩∧(d=0∨c=0)∧G b=o+d+l.length*t.nc∧Room w b (o+d+c*t.nc)∧l.length≤c∧fA w G t l b o∧0<t.nc
 | _=>False
def bE:Option Value→Option Nat
 | some (.map (some b))=>some b
 | some (.pointer (some ⟨b,0,none⟩))=>some b
 | some (.slice (some ⟨b,0,none⟩) _ _)=>some b
 | _=>none
def bF (w:World) (G:Nat→Nat) (pt:Nat→Nat→Option Value):D→Value→Prop
 | .undef,_=>True
 | .bool b,v=>v = .bool b
 | .int k n,v=>v = .int k n∧k.has n
 | .str l,v=>∃ s,v = .string s∧lZ s=l∧l.length≤nG
 | .lS,v=>v = .slice none 0 0
 | .sl f t l,v=>∃ a n c,v = .slice a n c∧n=l.length∧n*t.xk≤lW∧VQ w G f t l a c
 | .ptr id st off,v=>∃ b,bE (pt id st)=some b∧v = .pointer (some ⟨b,off,none⟩)
 | .uE id st i off es,v=>∃ b,bE (pt id st)=some b∧v = .pointer (some ⟨b,i*es+off,none⟩)
 | .BF g off,v=>v = .pointer (some ⟨g,off,none⟩)
 | .jQ t l i off,v=>∃ b o,v = .pointer (some ⟨b,o+i*t.nc+off,none⟩)∧i<l.length∧o+l.length*t.nc≤G b∧fA w G t l b o
 | .csl t l,v=>∃ a n,v = .slice a n n∧n=l.length∧n*t.xk≤lW∧VQ w G 0 t l a n
 | .fU id st,v=>pt id st=some v
 | .BG f,v=>v = .func (.func f) #[] #[]
 | .iF f t x,v=>∃ b o,v = .func (.func f) #[] #[.pointer (some ⟨b,o,none⟩)]∧o+t.nc≤G b∧dK w G t x b o
 | .av k l,v=>∃ arr,v = .agg arr∧arr.size=l.length∧∀ j (h:j<l.length),arr.getD j undef = .int k l[j]∧k.has l[j]
 | .vpa k l,v=>∃ b o,v = .pointer (some ⟨b,o,none⟩)∧o+l.length≤G b∧fA w G (.int k) l b o
 | .VO id st nc o n,v=>∃ ad m c ad' c',pt id st=some (.slice ad m c)∧v = .slice ad' n c'∧o+n≤m∧n≤c'∧(n=0∨∃ b,ad=some ⟨b,0,none⟩∧ad' = some ⟨b,o*nc,none⟩)
 | .Jr id st n,v=>((∃ b c,bE (pt id st)=some b∧v = .slice (some ⟨b,0,none⟩) n c)∨(n=0∧v = .slice none 0 0))∧n≤nG
 | _,_=>False
def aP (w:World) (G:Nat→Nat) (pt:Nat→Nat→Option Value) (ds:List D) (f:Nat→Value):Prop:=
 ∀ j (h:j<ds.length),bF w G pt ds[j] (f j)∧(f j).oneCell' = true
def aS (arr:Array Value) (j:Nat):Value:=arr.getD j undef
def BH (w:World) (G:Nat→Nat) (pt:Nat→Nat→Option Value) (d:D) (v:Value):Prop:=
 match d with
 | .agg cs=>∃ arr,v = .agg arr∧arr.size=cs.length∧aP w G pt cs (aS arr)
 | d=>bF w G pt d v
def dS (b:Nat):D→Value→Nat
 | .sl f _ _,.slice (some a) _ _=>if f≠0∧a.block=b then 1 else 0
 | _,_=>0
def aM (b:Nat) (ds:List D) (f:Nat→Value):Nat:=
 match ds with
 | []=>0
 | d::r=>dS b d (f 0)+aM b r (fun i=>f (i+1))
def aU (w:World) (G:Nat→Nat) (pt:Nat→Nat→Option Value) (d:D) (v:Value):Prop:=
 match d with
 | .agg cs=>∃ arr,v = .agg arr∧arr.size=cs.length∧aP w G pt cs (aS arr)
 | .iJ vs=>∃ arr,v = .tuple arr∧arr.size=vs.length∧∀ j (h:j<vs.length),BH w G pt vs[j] (aS arr j)
 | .fn f qC=>∃ arr,v = .func (.func f) #[] arr∧arr.size=qC.length∧aP w G pt qC (aS arr)∧∀ b,aM b qC (aS arr)=0
 | d=>bF w G pt d v
def aB (w:World) (b j:Nat):Value:=(w.cell? ⟨b,j,none⟩).getD undef
abbrev rwY:Ty:=.st 32 (.cons (.int .i64) (.cons (.sl (.int .i64)) .unit))
def Yo (l:List (Int×(List Int×Unit))):List D:=l.map fun r=>.sl 1 (.int .i64) r.2.1
def inf (w:World) (pt:Nat→Nat→Option Value) (id st:Nat) (i:Nat):Value:=aB w ((bE (pt id st)).getD 0) (i*2+1)
def bA (t:Ty) (l:List (List t.den)) (h:Option (Nat×Nat×Nat)):List D:=
 match h with
 | none=>l.map fun r=>.sl 2 t r
 | some (i,X,st)=>(l.map fun r=>D.sl 2 t r).set i (.fU X st)
def Ty.ok:(t:Ty)→t.den→Prop
 | .int k,n=>k.has n
 | .bool,_=>True
 | .str,l=>l.length≤nG∧∀ c∈l,0≤c∧c<256
 | .sl t,l=>l.length*t.xk≤lW∧∀ x∈l,t.ok x
 | .unit,_=>True
 | .cons a b,x=>a.ok x.1∧b.ok x.2
 | .st _ c,x=>c.ok x
 | .iF _ t,x=>t.ok x
def MapAt (w:World) (b:Nat) (kt vt:Ty) (l:List (kt.den×vt.den)):Prop:=
 ∃ es clock,w.heap[b]? = some (.map es clock)∧es.toList.map (fun e=>(e.key,e.val))=l.map (fun p=>(je kt p.1,je vt p.2)) ∧
  (es.toList.map (·.born)).Nodup∧(∀ e∈es.toList,e.born<clock)∧l.Pairwise (fun p q=>kt.om p.1 q.1=false)∧(∀ p∈l,kt.ok p.1∧vt.ok p.2)∧kt.fk=true∧vt.fk=true
theorem MapAt.same {w w':World} {b:Nat} {kt vt:Ty} {l:List (kt.den×vt.den)} (h:MapAt w b kt vt l) (hb:w'.heap[b]? = w.heap[b]?):MapAt w' b kt vt l:=by
 obtain ⟨es,clock,h1,h2⟩:=h;exact ⟨es,clock,hb.trans h1,h2⟩
def pK (w:World) (G:Nat→Nat) (pt:Nat→Nat→Option Value) (id:Nat) (d:D):Prop:=
 match d with
 | .undef=>True
 | .aI st live cs=>live=true→∃ b,pt id st=some (.pointer (some ⟨b,0,none⟩))∧Room w b cs.length∧G b=0∧aP w G pt cs (aB w b)
 | .aX st live ar t l=>live=true→if ar=true
  then ∃ b,pt id st=some (.pointer (some ⟨b,0,none⟩))∧Room w b (l.length*t.nc)∧G b=0∧fA w G t l b 0
  else ∃ a n c,pt id st=some (.slice a n c)∧n=l.length∧n*t.xk≤lW∧VQ w G 2 t l a c
 | .bO st kt vt l=>∃ b,pt id st=some (.map (some b))∧G b=0∧MapAt w b kt vt l
 | .dI st t l h=>∃ b,pt id st=some (.pointer (some ⟨b,0,none⟩))∧Room w b (bA t l h).length∧G b=0∧aP w G pt (bA t l h) (aB w b)
 | .DW st l=>(∃ a n c,pt id st=some (.slice a n c)∧n=l.length∧n*32≤lW∧VQ w G 2 rwY l a c)∧aP w G pt (Yo l) (inf w pt id st)
 | _=>False
def Fb (b:Nat) (d:D) (v:Value):Nat:=
 match d,v with
 | .agg cs,.agg arr=>aM b cs (aS arr)
 | d,v=>dS b d v
def qQ (b:Nat) (ds:List D) (f:Nat→Value):Nat:=
 match ds with
 | []=>0
 | d::r=>Fb b d (f 0)+qQ b r (fun i=>f (i+1))
def dP (b:Nat) (d:D) (v:Value):Nat:=
 match d,v with
 | .agg cs,.agg arr=>aM b cs (aS arr)
 | .iJ vs,.tuple arr=>qQ b vs (aS arr)
 | d,v=>dS b d v
def dh (b:Nat) (v:Option Value):Nat:=if bE v=some b then 1 else 0
def gY (w:World) (pt:Nat→Nat→Option Value) (b id:Nat) (d:D):Nat:=
 match d with
 | .aI st true cs=>dh b (pt id st)+aM b cs (aB w ((bE (pt id st)).getD 0))
 | .aX st true _ _ _=>dh b (pt id st)
 | .DW st l=>dh b (pt id st)+aM b (Yo l) (inf w pt id st)
 | .bO st _ _ _=>dh b (pt id st)
 | .dI st t l h=>dh b (pt id st)+aM b (bA t l h) (aB w ((bE (pt id st)).getD 0))
 | _=>0
theorem Js {w:World} {G:Nat→Nat} {pt:Nat→Nat→Option Value} {id st:Nat} {t:Ty} {l:List (List t.den)} {h:Option (Nat×Nat×Nat)} :
 pK w G pt id (.dI st t l h)↔pK w G pt id (.aI st true (bA t l h)):=⟨fun h _=>h,fun h=>h rfl⟩
theorem Room.same {w w':World} {b k:Nat} (h:Room w b k) (hb:w'.heap[b]? = w.heap[b]?):Room w' b k:=by
 obtain ⟨cur,e,fr,h1,h2⟩:=h;exact ⟨cur,e,fr,hb.trans h1,h2⟩
theorem cell_of_heap {w w':World} {b:Nat} (hb:w'.heap[b]? = w.heap[b]?) (o:Nat):w'.cell? ⟨b,o,none⟩=w.cell? ⟨b,o,none⟩:=by
 simp [World.cell?,hb]
theorem bF.mono {w w':World} {G G':Nat→Nat} {pt bC:Nat→Nat→Option Value} (hE:Ext w G w' G')
 (nQ:∀ id st v,pt id st=some v→bC id st=some v) {d:D} {v:Value} (h:bF w G pt d v)
 (hx:∀ b,0<dS b d v→w'.heap[b]? = w.heap[b]?∧G' b=G b):bF w' G' bC d v:=by
 have hblk:∀ id st b,bE (pt id st)=some b→bE (bC id st)=some b:=by
  intro id st b hb
  cases hp:pt id st with
  | none=>rw [hp] at hb;simp [bE] at hb
  | some u=>rw [nQ id st u hp];rw [hp] at hb;exact hb
 cases d with
 | undef=>trivial
 | bool b=>exact h
 | int k n=>exact h
 | str l=>exact h
 | lS=>exact h
 | sl f t l=>
  obtain ⟨a,n,c,h1,h2,h3,h4⟩:=h;refine ⟨a,n,c,h1,h2,h3,?_⟩
  match f,h4,hx with
  | 0,h4,_=>
   refine ⟨h4.1,?_⟩
   rcases h4.2 with h4 | ⟨b,o,h5,h6,h7⟩
   ·exact .inl h4
   ·exact .inr ⟨b,o,h5,gX h6 (hE.le b),h7.mono hE fun j K8 vQ=>hE.cell b j (by omega)⟩
  | 1,h4,hx=>
   rcases h4 with h4 | ⟨b,h5,h6,h7,h8,h9⟩
   ·exact .inl h4
   ·subst h1;subst h5
    obtain ⟨q1,q2⟩:=hx b (by simp [dS])
    exact .inr ⟨b,rfl,q2.trans h6,h7.same q1,h8,h9.1.mono hE fun j _ _=>cell_of_heap q1 j,h9.2⟩
  | 2,h4,hx=>
   rcases h4 with h4 | ⟨b,h5,h6,h7,h8,h9⟩
   ·exact .inl h4
   ·subst h1;subst h5
    obtain ⟨q1,q2⟩:=hx b (by simp [dS])
    exact .inr ⟨b,rfl,q2.trans h6,h7.same q1,h8,h9.1.mono hE fun j _ _=>cell_of_heap q1 j,h9.2⟩
  | 3,h4,hx=>
   rcases h4 with h4 | ⟨b,o,d,h5,h0,h6,h7,h8,h9⟩
   ·exact .inl h4
   ·subst h1;subst h5
    obtain ⟨q1,q2⟩:=hx b (by simp [dS])
    exact .inr ⟨b,o,d,rfl,h0,q2.trans h6,h7.same q1,h8,h9.1.mono hE fun j _ _=>cell_of_heap q1 j,h9.2⟩
  | (k+4),h4,_=>exact h4.elim
 | ptr id st off=>obtain ⟨b,h1,h2⟩:=h;exact ⟨b,hblk _ _ _ h1,h2⟩
 | uE id st i off es=>obtain ⟨b,h1,h2⟩:=h;exact ⟨b,hblk _ _ _ h1,h2⟩
 | BF g off=>exact h
 | jQ t l i off=>
  obtain ⟨b,o,h1,h2,h3,h4⟩:=h
  exact ⟨b,o,h1,h2,gX h3 (hE.le b),h4.mono hE fun j K8 vQ=>hE.cell b j (by omega)⟩
 | csl t l=>
  obtain ⟨a,n,h1,h2,h3,h4⟩:=h;refine ⟨a,n,h1,h2,h3,h4.1,?_⟩
  rcases h4.2 with h4 | ⟨b,o,h5,h6,h7⟩
  ·exact .inl h4
  ·exact .inr ⟨b,o,h5,gX h6 (hE.le b),h7.mono hE fun j K8 vQ=>hE.cell b j (by omega)⟩
 | fU id st=>exact nQ _ _ _ h
 | agg cs=>exact h.elim
 | iJ cs=>exact h.elim
 | fn f cs=>exact h.elim
 | aI st live cs=>exact h.elim
 | aX st live ar t l=>exact h.elim
 | DW st l=>exact h.elim
 | dI st t l h'=>exact h.elim
 | bO st kt vt l=>exact h.elim
 | BG f=>exact h
 | iF f t x=>
  obtain ⟨b,o,h1,h2,h3⟩:=h
  exact ⟨b,o,h1,gX h2 (hE.le b),h3.mono hE fun j K8 vQ=>hE.cell b j (by omega)⟩
 | av k l=>exact h
 | vpa k l=>
  obtain ⟨b,o,h1,h2,h3⟩:=h
  exact ⟨b,o,h1,gX h2 (hE.le b),h3.mono hE fun j K8 vQ=>hE.cell b j (by simp only [Ty.nc,Nat.mul_one] at vQ;omega)⟩
 | VO id st nc o n=>
  obtain ⟨ad,m,c,ad',c',h1,h⟩:=h;exact ⟨ad,m,c,ad',c',nQ _ _ _ h1,h⟩
 | Jr id st n=>
  obtain ⟨h,hn⟩:=h
  rcases h with ⟨b,c,h1,h2⟩ | h
  ·exact ⟨.inl ⟨b,c,hblk _ _ _ h1,h2⟩,hn⟩
  ·exact ⟨.inr h,hn⟩
theorem kI {b:Nat}:∀ {ds:List D} {f:Nat→Value} (j:Nat) (h:j<ds.length),dS b ds[j] (f j)≤aM b ds f
 | d::r,f,0,_=>by simp [aM]
 | d::r,f,j+1,h=>by
  have:=kI (b:=b) (ds:=r) (f:=fun i=>f (i+1)) j (by simpa using h)
  simp only [aM,List.getElem_cons_succ];omega
theorem NC {b:Nat}:∀ {ds:List D} {f:Nat→Value} (j:Nat) (h:j<ds.length),Fb b ds[j] (f j)≤qQ b ds f
 | d::r,f,0,_=>by simp [qQ]
 | d::r,f,j+1,h=>by
  have:=NC (b:=b) (ds:=r) (f:=fun i=>f (i+1)) j (by simpa using h)
  simp only [qQ,List.getElem_cons_succ];omega
section
variable {w w':World} {G G':Nat→Nat} {pt bC:Nat→Nat→Option Value} (hE:Ext w G w' G')
 (nQ:∀ id st v,pt id st=some v→bC id st=some v)
include hE nQ
theorem aP.mono {ds:List D} {f f':Nat→Value} (h:aP w G pt ds f) (hf:∀ j,j<ds.length→f' j=f j)
 (hx:∀ b,0<aM b ds f→w'.heap[b]? = w.heap[b]?∧G' b=G b):aP w' G' bC ds f':=by
 intro j hj;rw [hf j hj]
 exact ⟨(h j hj).1.mono hE nQ fun b hb=>hx b (mK hb (kI j hj)),(h j hj).2⟩
theorem BH.mono {d:D} {v:Value} (h:BH w G pt d v)
 (hx:∀ b,0<Fb b d v→w'.heap[b]? = w.heap[b]?∧G' b=G b):BH w' G' bC d v:=by
 cases d with
 | agg cs=>
  obtain ⟨arr,rfl,h2,h3⟩:=h
  exact ⟨arr,rfl,h2,h3.mono hE nQ (fun _ _=>rfl) hx⟩
 | _=>
  simp only [BH] at h ⊢
  exact bF.mono hE nQ h (by simpa only [Fb] using hx)
theorem aU.mono {d:D} {v:Value} (h:aU w G pt d v)
 (hx:∀ b,0<dP b d v→w'.heap[b]? = w.heap[b]?∧G' b=G b):aU w' G' bC d v:=by
 cases d with
 | agg cs=>
  obtain ⟨arr,rfl,h2,h3⟩:=h
  exact ⟨arr,rfl,h2,h3.mono hE nQ (fun _ _=>rfl) hx⟩
 | iJ vs=>
  obtain ⟨arr,rfl,h2,h3⟩:=h
  exact ⟨arr,rfl,h2,fun j hj=>(h3 j hj).mono hE nQ fun b hb=>hx b (mK hb (NC j hj))⟩
 | fn f qC=>
  obtain ⟨arr,rfl,h2,h3,h4⟩:=h
  exact ⟨arr,rfl,h2,h3.mono hE nQ (fun _ _=>rfl) (fun b hb=>by have:=h4 b;omega),h4⟩
 | _=>
  simp only [aU] at h ⊢
  exact bF.mono hE nQ h (by simpa only [dP] using hx)
theorem pK.mono {id:Nat} {d:D} (h:pK w G pt id d)
 (hx:∀ b,0<gY w pt b id d→w'.heap[b]? = w.heap[b]?∧G' b=G b):pK w' G' bC id d:=by
 cases d with
 | undef=>trivial
 | aI st live cs=>
  intro hl;subst hl;obtain ⟨b,h1,h2,h3,h4⟩:=h rfl
  have hb:bE (pt id st)=some b:=by rw [h1];rfl
  obtain ⟨q1,q2⟩:=hx b (by simp [gY,dh,hb]<;>omega)
  refine ⟨b,nQ _ _ _ h1,h2.same q1,q2.trans h3,h4.mono hE nQ (fun j _=>by simp [aB,cell_of_heap q1]) fun b' nH=>hx b' ?_⟩
  simp only [gY,hb,sw];omega
 | bO st kt vt l=>
  obtain ⟨b,h1,h2,h3⟩:=h
  have hb:bE (pt id st)=some b:=by rw [h1];rfl
  obtain ⟨q1,q2⟩:=hx b (by simp [gY,dh,hb]<;>omega)
  exact ⟨b,nQ _ _ _ h1,q2.trans h2,h3.same q1⟩
 | dI st t l h'=>
  obtain ⟨b,h1,h2,h3,h4⟩:=h
  have hb:bE (pt id st)=some b:=by rw [h1];rfl
  obtain ⟨q1,q2⟩:=hx b (by simp [gY,dh,hb]<;>omega)
  refine ⟨b,nQ _ _ _ h1,h2.same q1,q2.trans h3,h4.mono hE nQ (fun j _=>by simp [aB,cell_of_heap q1]) fun b' nH=>hx b' ?_⟩
  simp only [gY,hb,sw];omega
 | aX st live ar t l=>
  intro hl;subst hl;have h':=h rfl
  cases ar with
  | true=>
   simp only [if_true] at h' ⊢;obtain ⟨b,h1,h2,h3,h4⟩:=h'
   have hb:bE (pt id st)=some b:=by rw [h1];rfl
   obtain ⟨q1,q2⟩:=hx b (by simp [gY,dh,hb]<;>omega)
   exact ⟨b,nQ _ _ _ h1,h2.same q1,q2.trans h3,h4.mono hE fun j _ _=>cell_of_heap q1 j⟩
  | false=>
   simp only [xD,if_false] at h' ⊢;obtain ⟨a,n,c,h1,h2,h3,h4⟩:=h';refine ⟨a,n,c,nQ _ _ _ h1,h2,h3,?_⟩
   rcases h4 with h4 | ⟨b,h5,h6,h7,h8,h9⟩
   ·exact .inl h4
   ·subst h5
    have hb:bE (pt id st)=some b:=by rw [h1];rfl
    obtain ⟨q1,q2⟩:=hx b (by simp [gY,dh,hb]<;>omega)
    exact .inr ⟨b,rfl,q2.trans h6,h7.same q1,h8,h9.1.mono hE fun j _ _=>cell_of_heap q1 j,h9.2⟩
 | DW st l=>
  obtain ⟨⟨a,n,c,h1,h2,h3,h4⟩,h5⟩:=h;have e1:=nQ _ _ _ h1
  rcases h4 with h4 | ⟨b,g5,g6,g7,g8,g9⟩
  ·obtain ⟨g1,g2,g3⟩:=h4
   subst g2
   exact ⟨⟨a,n,c,e1,h2,h3,.inl ⟨g1,rfl,g3⟩⟩,fun j hj=>by simp [Yo] at hj⟩
  ·subst g5
   have hb:bE (pt id st)=some b:=by rw [h1];rfl
   obtain ⟨q1,q2⟩:=hx b (by simp [gY,dh,hb]<;>omega)
   refine ⟨⟨_,n,c,e1,h2,h3,.inr ⟨b,rfl,q2.trans g6,g7.same q1,g8,g9.1.mono hE fun j _ _=>cell_of_heap q1 j,g9.2⟩⟩,?_⟩
   refine h5.mono hE nQ (fun j _=>?_) fun b' nH=>hx b' (by simp only [gY];omega)
   simp only [inf,e1,h1,bE,sw,aB,cell_of_heap q1]
 | _=>exact h.elim
omit hE in
theorem Fe {id:Nat} {d:D} (h:pK w G pt id d)
 (hx:∀ b,0<gY w pt b id d→w'.heap[b]? = w.heap[b]?∧G' b=G b) (b:Nat):gY w' bC b id d=gY w pt b id d:=by
 cases d with
 | aI st live cs=>
  cases live with
  | false=>rfl
  | true=>
   obtain ⟨b0,h1,_⟩:=h rfl
   have hb:bE (pt id st)=some b0:=by rw [h1];rfl
   obtain ⟨q1,q2⟩:=hx b0 (by simp [gY,dh,hb]<;>omega)
   simp only [gY,nQ _ _ _ h1,h1,bE,sw]
   congr 1
   exact congrArg _ (funext fun j=>by simp [aB,cell_of_heap q1])
 | bO st kt vt l=>
  obtain ⟨b0,h1,_⟩:=h;simp only [gY,nQ _ _ _ h1,h1]
 | dI st t l h'=>
  obtain ⟨b0,h1,_⟩:=h
  have hb:bE (pt id st)=some b0:=by rw [h1];rfl
  obtain ⟨q1,q2⟩:=hx b0 (by simp [gY,dh,hb]<;>omega)
  simp only [gY,nQ _ _ _ h1,h1,bE,sw]
  congr 1
  exact congrArg _ (funext fun j=>by simp [aB,cell_of_heap q1])
 | aX st live ar t l=>
  cases live with
  | false=>rfl
  | true=>
   have h':=h rfl
   cases ar with
   | true=>
    simp only [if_true] at h';obtain ⟨b0,h1,_⟩:=h';simp only [gY,nQ _ _ _ h1,h1]
   | false=>
    simp only [xD,if_false] at h';obtain ⟨a,n,c,h1,_⟩:=h';simp only [gY,nQ _ _ _ h1,h1]
 | DW st l=>
  obtain ⟨⟨a,n,c,h1,h2,h3,h4⟩,h5⟩:=h;have e1:=nQ _ _ _ h1
  rcases h4 with h4 | ⟨b0,g5,g6,g7,g8,g9⟩
  ·obtain ⟨g1,g2,g3⟩:=h4
   subst g2;simp only [gY,e1,h1,Yo,List.map_nil,aM]
  ·subst g5
   have hb:bE (pt id st)=some b0:=by rw [h1];rfl
   obtain ⟨q1,q2⟩:=hx b0 (by simp [gY,dh,hb]<;>omega)
   simp only [gY,e1,h1]
   congr 1
   exact congrArg _ (funext fun j=>by simp only [inf,e1,h1,bE,sw,aB,cell_of_heap q1])
 | _=>rfl
end
structure Env where
 T:Nat→Option TI
 md:Nat→Nat
 glob:Nat→Option (IntKind×List Int)
 n:Nat
 hp:Bool
def tag (E:Env) (o:Oper):Nat:=
 match o.dst with
 | some t=>bif Nat.beq (E.md t) 5 then 1 else E.md t
 | none=>0
def aV (s:St):Operand→D
 | .tmp t=>get s (2*t)
 | .const v=>VP v
 | .global g=>.BF g 0
 | .func f=>.BG f
def dU (s:St) (x:Operand) (f:D→D) (h:D→Bool):St:=
 match x with
 | .tmp t=>bif h (get s (2*t)) then [(2*t,f (get s (2*t)))] else []
 | _=>[]
def dN (o:Oper) (d:D):St:=
 match o.dst with
 | some t=>[(2*t,d)]
 | none=>[]
def fZ:D→Bool
 | .iJ _=>true
 | _=>false
def aL:D→Nat
 | .aI st _ _=>st
 | .aX st _ _ _ _=>st
 | .DW st _=>st
 | .dI st _ _ _=>st
 | .bO st _ _ _=>st
 | _=>0
def leaves:D→List D
 | .agg cs=>cs
 | d=>[d]
def dL (cs:List D) (off:Nat) (ds:List D):List D:=cs.take off++(ds++cs.drop (off+ds.length))
def K9 (E:Env) (o:Oper) (s:St) (x:Operand):Option (Bool×St):=
 let d:=aV s x
 bif Nat.beq (tag E o) 1 || fZ d then some (true,dU s x strip gN++dN o d)
 else some (true,dU s x share oH++dN o (view d))
def xU (o:Oper) (s:St) (x:Operand):Option (Bool×St):=none
def oI (E:Env) (o:Oper) (s:St) (x:Operand):Option (Bool×St):=
 bif Nat.beq (tag E o) 6 then xU o s x else K9 E o s x
def Fg (E:Env) (o:Oper) (s:St) (x:Operand):Option (Bool×St):=none
def pO (E:Env) (T:Nat):Ty:=
 match E.T T with
 | some i=>i.ty
 | none=>.unit
def vR (E:Env) (o:Oper) (s:St) (x:Operand):Option (Bool×St):=
 let d:=dW (pO E o.type) (aV s x)
 bif fZ d then none else
 match tag E o with
 | 2=>some (true,dU s x strip gN++dN o d)
 | _=>some (true,dU s x strip gN++dN o (share d))
def iK:D→Bool
 | .undef | .fU _ _ | .iJ _ | .fn _ _ | .aI _ _ _ | .aX _ _ _ _ _ | .Jr _ _ _ | .VO _ _ _ _ _ | .BG _ | .av _ _ | .vpa _ _ | .bO _ _ _ _=>false
 | _=>true
def ND (t:Ty):Nat→List D→Option (List t.den)
 | 0,[]=>some []
 | 0,_::_=>none
 | n+1,ds=>match dec t ds with
  | some (x,r)=>(match ND t n r with | some l=>some (x::l) | none=>none)
  | none=>none
def xV (E:Env) (o:Oper) (s:St) (T:Nat):Option (Bool×St):=
 match E.T T,o.dst with
 | some i,some dst=>
  let st:=aL (get s (2*dst+1))+1
  match i.arr with
  | some _=>none
  | none=>some (true,[(2*dst+1,.aI st true i.zero),(2*dst,.ptr dst st 0)])
 | _,_=>none
def QL (E:Env) (o:Oper) (s:St) (T:Nat) (x:Operand):Option (Bool×St):=
 match E.T T,o.dst with
 | some i,some dst=>
  let st:=aL (get s (2*dst+1))+1
  let d:=dW i.ty (aV s x)
  bif iK d then
  match i.arr with
  | some _=>none
  | none=>bif Nat.beq (tag E o) 2 then some (true,dU s x strip gN++[(2*dst+1,.aI st true (leaves d)),(2*dst,.ptr dst st 0)])
   else some (true,dU s x strip gN++[(2*dst+1,.aI st true ((leaves d).map bP)),(2*dst,.ptr dst st 0)])
  else none
 | _,_=>none
def partAt (E:Env) (i:TI) (j:Nat):Option (Nat×Nat):=
 match i.desc with
 | .struct fs=>match fs.toList[j]? with
  | some f=>match E.T f.type with
   | some fi=>some (f.offset,fi.size)
   | none=>none
  | none=>none
 | .array _ e=>match E.T e with
  | some ei=>some (j*ei.size,ei.size)
  | none=>none
 | _=>none
def fit (z:List D):List D→List D
 | [.lS]=>match z with
  | [.sl f t _]=>bif Nat.ble f 2 then [.sl f t []] else [.lS]
  | _=>[.lS]
 | ds=>ds
def iC (pl:Nat→Option (Nat×Nat)) (s:St) (f:D→D) (cs:List D):List (Nat×Operand)→Option (List D)
 | []=>some cs
 | (j,x)::r=>match pl j with
  | some (off,sz)=>
   let ds:=fit ((cs.drop off).take sz) (leaves (f (aV s x)))
   bif iK (aV s x)&&Nat.beq ds.length sz&&Nat.ble (off+sz) cs.length then iC pl s f (dL cs off ds) r else none
  | none=>none
def iy (s:St) (f:D→D) (h:D→Bool):List (Nat×Operand)→St
 | []=>[]
 | (_,x)::r=>dU s x f h++iy s f h r
def TS (t:Nat):Operand→Bool
 | .tmp u=>Nat.beq t u
 | _=>false
def tmpsOf:List (Nat×Operand)→Nat→Bool
 | [],_=>false
 | p::r,t=>TS t p.2 || tmpsOf r t
def nN (s:St):List (Nat×Operand)→Bool
 | []=>true
 | (_,.tmp t)::r=>(!gN (get s (2*t)) || !tmpsOf r t)&&nN s r
 | _::r=>nN s r
def uF (E:Env) (i:TI):Bool:=
 match i.desc with
 | .struct fs=>fs.toList.all fun f=>(E.T f.type).isSome
 | .array _ e=>(E.T e).isSome
 | _=>false
def BI (E:Env) (o:Oper) (s:St) (T:Nat) (parts:List (Nat×Operand)):Option (Bool×St):=
 match E.T T with
 | some i=>match iC (partAt E i) s (fun d=>d) i.zero parts with
  | some cs=>bif nN s parts&&uF E i then some (true,iy s strip gN parts++dN o (.agg cs)) else none
  | none=>none
 | none=>none
def rep (n:Nat) (z:List D):List D:=
 match n with
 | 0=>[]
 | n+1=>z++rep n z
def kU (E:Env) (o:Oper) (s:St) (T n:Nat) (parts:List (Nat×Operand)):Option (Bool×St):=
 match E.T T with
 | some i=>match i.desc with
  | .slice e=>match E.T e with
   | some ei=>match iC (fun j=>some (j*ei.size,ei.size)) s view (rep n ei.zero) parts with
    | some cs=>match ND ei.ty n cs with
     | some l=>bif Nat.ble (n*ei.size) 16777216&&Nat.beq ei.size ei.ty.nc&&Nat.blt 0 ei.size&&Nat.ble (n*ei.ty.xk) lW then
      some (true,iy s share oH parts++dN o (.sl 2 ei.ty l)) else none
     | none=>none
    | none=>none
   | none=>none
  | _=>none
 | none=>none
def qR (E:Env) (o:Oper) (s:St) (T n:Nat) (parts:List (Nat×Operand)):Option (Bool×St):=none
def mk1 (agg:Bool) (ds:List D):Option D:=
 bif agg then some (.agg ds) else
 match ds with
 | [d]=>some d
 | _=>none
def YW (t:Ty) (l:List t.den) (i0:Nat):Nat→List D
 | 0=>[]
 | n+1=>enc t (l.getD i0 t.dflt)++YW t l (i0+1) n
theorem TT {t:Ty} {l:List t.den}:∀ (n i0:Nat),i0+n≤l.length→YW t l i0 n=((l.drop i0).take n).flatMap (enc t)
 | 0,i0,_=>by simp [YW]
 | n+1,i0,h=>by
  have aT:i0<l.length:=by omega
  rw [YW,TT n (i0+1) (by omega),List.drop_eq_getElem_cons aT,List.take_succ_cons,List.flatMap_cons]
  have e:l.getD i0 t.dflt=l[i0]:=by simp [aT]
  rw [e]
def YX (n:Nat):(t:Ty)→List t.den→D
 | .int k,l=>bif Nat.blt 64 n then .av k l else .agg (l.flatMap (enc (.int k)))
 | t,l=>.agg (l.flatMap (enc t))
def Df (E:Env) (o:Oper) (s:St) (T:Nat) (x:Operand):Option (Bool×St):=
 match E.T T with
 | some i=>match aV s x with
  | .ptr id st off=>match get s (2*id+1) with
   | .aI st' true cs=>
    let ds:=(cs.drop off).take i.size
    bif Nat.beq st st' && Nat.beq ds.length i.size&&Nat.blt 0 i.size then
    (match tag E o with
    | 3=>match ds,o.dst with
     | [.sl f t l],some dst=>
      let st2:=aL (get s (2*dst+1))+1
      bif Nat.beq f 2&&Nat.blt 0 t.nc && !Nat.beq dst id && !i.agg then
       some (true,[(2*id+1,.aI st true (dL cs off [.fU dst st2])),(2*dst+1,.aX st2 true false t l),(2*dst,.fU dst st2)]) else none
     | [.fU a b],_=>bif i.agg then none else some (true,dN o (.fU a b))
     | _,_=>none
    | 1=>match mk1 i.agg ds with
     | some d=>some (true,(2*id+1,.aI st true (dL cs off (ds.map stripL)))::dN o d)
     | none=>none
    | _=>match mk1 i.agg (ds.map dD) with
     | some d=>some (true,(bif ds.any Fa then [(2*id+1,.aI st true (dL cs off (ds.map bP)))] else [])++dN o d)
     | none=>none) else none
   | _=>none
  | .uE id st i0 off es=>match get s (2*id+1) with
   | .aX st' true _ t l=>
    bif i.agg&&Nat.beq t.nc 1&&Nat.blt 1 i.size then
     none else
    match mk1 i.agg (((enc t (l.getD i0 t.dflt)).drop off).take i.size) with
    | some d=>bif Nat.beq st st' && Nat.beq es t.nc&&Nat.ble (off+i.size) t.nc then some (Nat.blt i0 l.length,dN o d) else none
    | none=>none
   | _=>none
  | .jQ t l i0 off=>
   match mk1 i.agg (((enc t (l.getD i0 t.dflt)).drop off).take i.size) with
   | some d=>bif Nat.ble (off+i.size) t.nc then some (true,dN o d) else none
   | none=>none
  | _=>none
 | none=>none
def Fh (E:Env) (o:Oper) (s:St) (T:Nat) (x:Operand):Option (Bool×St):=none
def BJ (E:Env) (o:Oper) (s:St) (T:Nat) (x:Operand):Option (Bool×St):=
 match E.T T,o.dst with
 | some i,some dst=>match aV s x with
  | .ptr id st off=>match get s (2*id+1) with
   | .dI st' t l none=>bif Nat.beq st st' && Nat.beq i.size 1 && !i.agg&&Nat.blt 0 t.nc && !Nat.beq dst id then
    some (Nat.blt off l.length,[(2*id+1,.dI st t l (some (off,dst,aL (get s (2*dst+1))+1))),(2*dst+1,.aX (aL (get s (2*dst+1))+1) true false t (l.getD off [])),(2*dst,.fU dst (aL (get s (2*dst+1))+1))]) else none
   | _=>none
  | _=>none
 | _,_=>none
def NG (E:Env):Operand→Bool
 | .tmp t=>Nat.beq (E.md t) 2 || Nat.beq (E.md t) 5
 | _=>false
def QM (E:Env) (x:Operand) (ds:List D):List D:=bif NG E x then ds else ds.map bP
def pW (E:Env) (_o:Oper) (s:St) (T:Nat) (a x:Operand):Option (Bool×St):=
 match E.T T with
 | some i=>
  let d:=dW i.ty (aV s x)
  bif iK d then
  match aV s a with
  | .ptr id st off=>match get s (2*id+1) with
   | .aI st' true cs=>
    let ds:=QM E x (leaves d)
    bif Nat.beq st st' && Nat.beq ds.length i.size&&Nat.ble (off+i.size) cs.length then
     some (true,dU s x strip gN++[(2*id+1,.aI st true (dL cs off ds))]) else none
   | _=>none
  | .uE id st i0 off es=>match get s (2*id+1) with
   | .aX st' true ar t l=>
    match dec t (dL (enc t (l.getD i0 t.dflt)) off (leaves (view d))) with
    | some (v,[])=>bif Nat.beq st st' && Nat.beq es t.nc&&Nat.beq (leaves d).length i.size&&Nat.ble (off+i.size) t.nc then
     some (Nat.blt i0 l.length,dU s x share oH++[(2*id+1,.aX st true ar t (l.set i0 v))]) else none
    | _=>none
   | _=>none
  | _=>none
  else none
 | none=>none
def vS (E:Env) (s:St) (T:Nat) (a x:Operand):Option (Bool×St):=
 match E.T T,aV s x with
 | some i,.sl f t r=>match aV s a with
  | .ptr id st off=>match get s (2*id+1) with
   | .dI st' t' l none=>bif Nat.beq st st' && Nat.beq f 2&&Nat.beq i.size 1&&NG E x then
    (if h:t.beq t' = true then some (Nat.blt off l.length,dU s x strip gN++[(2*id+1,.dI st t' (l.set off (xG (Ty.eq_of_beq h) r)) none)]) else none) else none
   | _=>none
  | _=>none
 | _,_=>none
def uG (E:Env) (s:St) (T:Nat) (a:Operand) (k:IntKind) (l':List Int):Option (Bool×St):=none
def uH (E:Env) (o:Oper) (s:St) (T:Nat) (a x:Operand):Option (Bool×St):=
 match aV s x with
 | .av k l'=>uG E s T a k l'
 | _=>pW E o s T a x
def TU:D→Bool
 | .ptr _ _ _ | .uE _ _ _ _ _ | .BF _ _ | .jQ _ _ _ _ | .vpa _ _=>true
 | .fn _ _ | .BG _=>true
 | _=>false
def oo (o:Oper) (s:St) (x:Operand):Option (Bool×St):=
 let d:=aV s x
 bif TU d then some (true,dN o d) else none
def arith (op:BinOp) (k:IntKind) (x y:Int):Option (Bool×D):=
 match op with
 | .add=>some (true,.int k (k.wrap (x+y)))
 | .sub=>some (true,.int k (k.wrap (x - y)))
 | .mul=>some (true,.int k (k.wrap (x*y)))
 | .quo=>some (!(y==0),.int k (k.wrap (x.tdiv y)))
 | .rem=>some (!(y==0),.int k (x.tmod y))
 | .and=>some (true,.int k (k.wrap (BitVec.ofInt k.bits x &&& BitVec.ofInt k.bits y).toNat))
 | .or=>some (true,.int k (k.wrap (BitVec.ofInt k.bits x ||| BitVec.ofInt k.bits y).toNat))
 | .xor=>some (true,.int k (k.wrap (BitVec.ofInt k.bits x ^^^ BitVec.ofInt k.bits y).toNat))
 | .andNot=>some (true,.int k (k.wrap (BitVec.ofInt k.bits x &&& ~~~BitVec.ofInt k.bits y).toNat))
 | .eql=>some (true,.bool (x==y))
 | .neq=>some (true,.bool (x != y))
 | .lss=>some (true,.bool (decide (x<y)))
 | .leq=>some (true,.bool (decide (x≤y)))
 | .gtr=>some (true,.bool (decide (x > y)))
 | .geq=>some (true,.bool (decide (x≥y)))
 | _=>none
def shifts (op:BinOp) (k:IntKind) (x y:Int):Option (Bool×D):=
 match op with
 | .shl=>some (decide (0≤y),.int k (k.wrap (x*2 ^ min y.toNat k.bits)))
 | .shr=>some (decide (0≤y),.int k (x.fdiv (2 ^ min y.toNat k.bits)))
 | _=>none
def TV:BinOp→Bool
 | .shl | .shr=>true
 | _=>false
def jU:List D→List D→Option Bool
 | [],[]=>some true
 | .int k x::r,.int k' y::r'=>bif mZ k k' then (match jU r r' with | some b=>some ((x==y)&&b) | none=>none) else none
 | .bool x::r,.bool y::r'=>(match jU r r' with | some b=>some ((x==y)&&b) | none=>none)
 | .str x::r,.str y::r'=>(match jU r r' with | some b=>some ((x==y)&&b) | none=>none)
 | _,_=>none
def gT:List Int→List Int→Bool
 | _,[]=>false
 | [],_::_=>true
 | a::x,b::y=>decide (a<b) || ((a==b)&&gT x y)
def YZ (op:BinOp) (x y:List Int):Option (Bool×D):=
 match op with
 | .add=>some (Nat.ble (x.length+y.length) nG,.str (x++y))
 | .eql=>some (true,.bool (x==y))
 | .neq=>some (true,.bool (!(x==y)))
 | .lss=>some (true,.bool (gT x y))
 | .leq=>some (true,.bool (gT x y || x==y))
 | .gtr=>some (true,.bool (!(gT x y || x==y)))
 | .geq=>some (true,.bool (!gT x y))
 | _=>none
def Y0:D→Nat→Bool
 | .int _ _,k=>Nat.beq k 0
 | .bool _,k=>Nat.beq k 1
 | .str _,k=>Nat.beq k 2
 | _,_=>false
def conf:List D→List Nat→Bool
 | [],[]=>true
 | d::r,k::ks=>Y0 d k&&conf r ks
 | _,_=>false
def Y1 (E:Env) (T:Nat) (a:List D):Bool:=
 match E.T T with
 | some i=>match i.cmp with
  | some ks=>i.agg&&conf a ks
  | none=>false
 | none=>false
def VR (E:Env) (o:Oper) (s:St) (op:BinOp) (xT:Nat) (x y:Operand):Option (Bool×St):=
 match aV s x,aV s y with
 | .int k a,.int k' b=>
  bif TV op then (match shifts op k a b with | some (g,d)=>some (g,dN o d) | none=>none)
  else bif mZ k k' then (match arith op k a b with | some (g,d)=>some (g,dN o d) | none=>none) else none
 | .str a,.str b=>(match YZ op a b with | some (g,d)=>some (g,dN o d) | none=>none)
 | .bool a,.bool b=>(match E.T xT with
  | some i=>(match i.desc,op with
   | .bool,.eql=>some (true,dN o (.bool (a==b)))
   | .bool,.neq=>some (true,dN o (.bool (!(a==b))))
   | _,_=>none)
  | none=>none)
 | .agg a,.agg b=>bif Y1 E xT a then (match jU a b,op with
  | some r,.eql=>some (true,dN o (.bool r))
  | some r,.neq=>some (true,dN o (.bool (!r)))
  | _,_=>none) else none
 | _,_=>none
def aUn (o:Oper) (s:St) (op:UnOp) (x:Operand):Option (Bool×St):=
 match op,aV s x with
 | .not,.bool b=>some (true,dN o (.bool (!b)))
 | .neg,.int k n=>some (true,dN o (.int k (k.wrap (0 - n))))
 | .xor,.int k n=>some (true,dN o (.int k (k.wrap (BitVec.ofInt k.bits (if k.signed then -1 else k.max) ^^^ BitVec.ofInt k.bits n).toNat)))
 | _,_=>none
def content (s:St):D→Option ((t:Ty)×List t.den)
 | .sl _ t l=>some ⟨t,l⟩
 | .fU id st=>match get s (2*id+1) with
  | .aX st' true false t l=>bif Nat.beq st st' then some ⟨t,l⟩ else none
  | _=>none
 | _=>none
def Jt (E:Env) (o:Oper) (s:St) (src dst:Nat) (x:Operand):Option (Bool×St):=
 match E.T src,E.T dst with
 | some a,some b=>match a.desc,b.desc,aV s x with
  | .int _,.int k,.int _ n=>some (true,dN o (.int k (k.wrap n)))
  | _,_,_=>none
 | _,_=>none
def l5 (E:Env) (o:Oper) (s:St) (T:Nat) (l c:Operand):Option (Bool×St):=
 match E.T T with
 | some i=>match i.desc with
  | .slice e=>match E.T e with
   | some ei=>match dec ei.ty ei.zero,aV s l,aV s c with
    | some (z,[]),.int _ n,.int _ m=>
     bif Nat.beq ei.size ei.ty.nc&&Nat.beq ei.bytes ei.ty.xk&&Nat.blt 0 ei.size&&Nat.blt 0 ei.bytes then
      some (decide (0≤n)&&decide (n≤m)&&decide (m*ei.bytes≤lW),dN o (.sl 2 ei.ty (List.replicate n.toNat z))) else none
    | _,_,_=>none
   | none=>none
  | _=>none
 | none=>none
def BK (E:Env) (o:Oper) (s:St) (T:Nat) (l c:Operand):Option (Bool×St):=
 match E.T T,o.dst with
 | some i,some dst=>match i.desc with
  | .slice e=>match E.T e with
   | some ei=>match ei.ty,ei.zero,aV s l,aV s c with
    | .sl t,[.sl 2 t' []],.int _ n,.int _ m=>
     bif t'.beq t&&Nat.beq ei.size 1&&Nat.beq ei.bytes 24 then
      some (decide (0≤n)&&decide (m=n)&&decide (m*ei.bytes≤lW),
       [(2*dst+1,.dI (aL (get s (2*dst+1))+1) t (List.replicate n.toNat []) none),(2*dst,.Jr dst (aL (get s (2*dst+1))+1) n.toNat)]) else none
    | _,_,_,_=>none
   | none=>none
  | _=>none
 | _,_=>none
def bound (s:St) (x:Option Operand) (z:Nat):Option Int:=
 match x with
 | none=>some z
 | some x=>match aV s x with
  | .int _ n=>some n
  | _=>none
def BL (E:Env) (o:Oper) (s:St) (T:Nat) (x:Operand) (lo hi:Option Operand):Option (Bool×St):=
 match E.T T with
 | some i=>match i.desc,aV s x with
  | .slice e,.sl _ t l=>match E.T e,bound s lo 0,bound s hi l.length with
   | some ei,some a,some b=>bif Nat.beq ei.size t.nc then
    some (decide (0≤a)&&decide (a≤b)&&decide (b≤(l.length:Int)),dU s x share oH++dN o (.sl 0 t ((l.take b.toNat).drop a.toNat))) else none
   | _,_,_=>none
  | .string,.str l=>match bound s lo 0,bound s hi l.length with
   | some a,some b=>some (decide (0≤a)&&decide (a≤b)&&decide (b≤(l.length:Int)),dN o (.str ((l.take b.toNat).drop a.toNat)))
   | _,_=>none
  | _,_=>none
 | none=>none
def vV (E:Env) (o:Oper) (s:St) (T:Nat) (x:Operand) (lo:Option Operand) (hi mx:Operand):Option (Bool×St):=
 match E.T T with
 | some i=>match i.desc,aV s x with
  | .slice e,.sl _ t l=>match E.T e,bound s lo 0,bound s (some hi) l.length,bound s (some mx) 0 with
   | some ei,some a,some b,some m=>bif Nat.beq ei.size t.nc then
    some (decide (0≤a)&&decide (a≤b)&&decide (b≤(l.length:Int))&&decide (m=b),dU s x share oH++dN o (.csl t ((l.take b.toNat).drop a.toNat))) else none
   | _,_,_,_=>none
  | _,_=>none
 | none=>none
def uI (E:Env) (o:Oper) (s:St) (T:Nat) (x:Operand) (lo:Option Operand) (hi mx:Operand):Option (Bool×St):=none
def Ju (E:Env) (o:Oper) (s:St) (x:Operand):Option (Bool×St):=
 match aV s x with
 | .sl f t l=>bif Nat.beq f 0 then none else some (true,dU s x strip gN++dN o (.sl 3 t l))
 | _=>none
def vW (E:Env) (o:Oper) (s:St) (T:Nat) (x:Operand) (lo hi:Option Operand):Option (Bool×St):=
 match E.T T,hi with
 | some i,none=>match i.desc,aV s x with
  | .slice e,.sl f t l=>match E.T e,bound s lo 0 with
   | some ei,some p=>bif Nat.beq ei.size t.nc && !Nat.beq f 0 then
    some (decide (0≤p)&&decide (p≤(l.length:Int)),dU s x strip gN++dN o (.sl 3 t (l.drop p.toNat))) else none
   | _,_=>none
  | _,_=>none
 | _,_=>none
def zM (E:Env) (o:Oper) (s:St) (T:Nat) (x:Operand) (lo hi:Option Operand):Option (Bool×St):=none
def zN (E:Env) (o:Oper) (s:St) (T:Nat) (x:Operand) (lo hi:Option Operand):Option (Bool×St):=none
def Fj (E:Env) (T f:Nat):Option Nat:=
 match E.T T with
 | some i=>match i.desc with
  | .struct fs=>match fs.toList[f]? with
   | some fd=>match E.T fd.type with
    | some fi=>bif Nat.blt 0 fi.size then some fd.offset else none
    | none=>none
   | none=>none
  | _=>none
 | none=>none
def l6 (E:Env) (o:Oper) (s:St) (T:Nat) (x:Operand) (f:Nat):Option (Bool×St):=
 match Fj E T f with
 | some k=>match aV s x with
  | .ptr id st off=>some (true,dN o (.ptr id st (off+k)))
  | .uE id st i off es=>some (true,dN o (.uE id st i (off+k) es))
  | .BF g off=>some (true,dN o (.BF g (off+k)))
  | .jQ t l i off=>some (true,dN o (.jQ t l i (off+k)))
  | _=>none
 | none=>none
def BN (E:Env) (o:Oper) (s:St) (T:Nat) (x:Operand) (f:Nat):Option (Bool×St):=
 match E.T T with
 | some i=>match i.desc with
  | .struct fs=>match fs.toList[f]? with
   | some fd=>match E.T fd.type,aV s x with
    | some fi,.agg cs=>
     let ds:=(cs.drop fd.offset).take fi.size
     bif Nat.beq ds.length fi.size then (match mk1 fi.agg (ds.map dD) with
      | some d=>some (true,dU s x share oH++dN o d)
      | none=>none) else none
    | _,_=>none
   | none=>none
  | _=>none
 | none=>none
def l7 (E:Env) (o:Oper) (s:St) (T:Nat) (x i:Operand):Option (Bool×St):=
 match E.T T,aV s i with
 | some ti,.int _ n=>match ti.desc with
  | .slice e=>match E.T e with
   | some ei=>match aV s x with
    | .sl _ t l=>bif Nat.beq ei.size t.nc then
     some (decide (0≤n)&&decide (n<(l.length:Int)),dU s x share oH++dN o (.jQ t l n.toNat 0)) else none
    | .fU id st=>match get s (2*id+1) with
     | .aX st' true false t l=>bif Nat.beq st st' && Nat.beq ei.size t.nc then
      some (decide (0≤n)&&decide (n<(l.length:Int)),dN o (.uE id st n.toNat 0 ei.size)) else none
     | _=>none
    | .Jr id st m=>match get s (2*id+1) with
     | .aX st' true true t l=>bif Nat.beq st st' && Nat.beq ei.size t.nc then
      some (decide (0≤n)&&decide (n<(m:Int)),dN o (.uE id st n.toNat 0 ei.size)) else none
     | .dI st' _ _ none=>bif Nat.beq st st' && Nat.beq ei.size 1 then
      some (decide (0≤n)&&decide (n<(m:Int)),dN o (.ptr id st n.toNat)) else none
     | _=>none
    | _=>none
   | none=>none
  | _=>none
 | _,_=>none
def Fp (E:Env) (o:Oper) (s:St) (T:Nat) (x i:Operand):Option (Bool×St):=none
def qU (o:Oper) (s:St) (x:Operand) (i:Nat):Option (Bool×St):=
 match x,aV s x with
 | .tmp t,.iJ vs=>match vs[i]? with
  | some d=>some (true,(bif gN d then [(2*t,.iJ (vs.set i .undef))] else [])++dN o d)
  | none=>none
 | _,_=>none
def oq (o:Oper) (s:St) (fn:Fn) (first qC:List Operand):Option (Bool×St):=
 match fn,first,qC with
 | .func f,[],[x]=>match aV s x with
  | .jQ t [v] 0 0=>some (true,dN o (.iF f t v))
  | _=>none
 | _,_,_=>none
def VT (E:Env) (s:St) (T:Nat) (d:D):Option Nat:=
 match E.T T with
 | some i=>match i.desc,d with
  | .string,.str l=>some l.length
  | .array n _,_=>bif Nat.ble n nG then some n else none
  | .slice _,.lS=>some 0
  | .slice _,.Jr _ _ n=>some n
  | .slice _,d=>match content s d with
   | some ⟨t,l⟩=>bif Nat.blt 0 t.xk then some l.length else none
   | none=>none
  | _,_=>none
 | none=>none
def tail (s:St) (t:Ty):D→Option (List t.den)
 | .lS=>some []
 | .str l=>match t with
  | .int .u8=>some l
  | _=>none
 | d=>match content s d with
  | some ⟨t',l⟩=>if h:t'.beq t=true then some (xG (Ty.eq_of_beq h) l) else none
  | none=>none
def TW (E:Env) (T:Nat):Bool:=
 match E.T T with
 | some i=>match i.desc with
  | .slice _=>true
  | .string=>true
  | _=>false
 | none=>false
def vX (E:Env) (o:Oper) (s:St) (T:Nat) (x y:Operand):Option (Bool×St):=
 match E.T T with
 | some i=>match i.desc with
  | .slice e=>match E.T e with
   | some ei=>
    bif Nat.beq ei.size ei.ty.nc&&Nat.beq ei.bytes ei.ty.xk&&Nat.blt 0 ei.size&&Nat.blt 0 ei.bytes then
    (match aV s x with
    | .lS=>match tail s ei.ty (aV s y) with
     | some l'=>some (Nat.ble (l'.length*ei.bytes) lW,dN o (.sl 2 ei.ty l'))
     | none=>none
    | .sl f t l=>bif Nat.beq f 0 then none else
     match tail s t (aV s y),x with
     | some l',.tmp a=>bif t.beq ei.ty then some (Nat.ble ((l.length+l'.length)*ei.bytes) lW,(2*a,.undef)::dN o (.sl f t (l++l'))) else none
     | _,_=>none
    | .fU id st=>match get s (2*id+1) with
     | .aX st' true false t l=>match tail s t (aV s y) with
      | some l'=>bif Nat.beq st st' && t.beq ei.ty then some (Nat.ble ((l.length+l'.length)*ei.bytes) lW,(2*id+1,.aX st false false t [])::dN o (.sl 2 t (l++l'))) else none
      | none=>none
     | _=>none
    | .csl t l=>match tail s t (aV s y) with
     | some l'=>bif t.beq ei.ty then some (Nat.blt 0 l'.length&&Nat.ble ((l.length+l'.length)*ei.bytes) lW,dN o (.sl 2 t (l++l'))) else none
     | none=>none
    | _=>none) else none
   | none=>none
  | _=>none
 | none=>none
def Y2 (E:Env) (o:Oper) (s:St) (T:Nat) (x y:Operand):Option (Bool×St):=none
def zO (lt:Int→Int→Bool) (k:IntKind) (m:Int):List D→Option Int
 | []=>some m
 | .int k' n::r=>bif mZ k k' then zO lt k (bif lt n m then n else m) r else none
 | _::_=>none
def QN (o:Oper) (s:St) (lt:Int→Int→Bool) (xs:List Operand):Option (Bool×St):=
 match xs.map (aV s) with
 | .int k n::r=>match zO lt k n r with
  | some m=>some (true,dN o (.int k m))
  | none=>none
 | _=>none
def qV (E:Env) (o:Oper) (s:St) (b:Builtin) (args:List Operand) (ts:List Nat):Option (Bool×St):=
 match b,args,ts with
 | .len,[x],[T]=>match VT E s T (aV s x) with
  | some n=>some (true,dN o (.int .i64 n))
  | none=>none
 | .append,[x,y],[T,T']=>bif TW E T' then vX E o s T x y else none
 | .copy,[x,y],[T,_]=>Y2 E o s T x y
 | .min,xs,_=>QN o s (fun a b=>decide (a<b)) xs
 | .max,xs,_=>QN o s (fun a b=>decide (b<a)) xs
 | _,_,_=>none
def TY:Ty→Bool
 | .st _ _=>true
 | _=>false
def La:D→Bool
 | .agg _=>true
 | _=>false
def mkV (t:Ty) (x:t.den):D:=bif TY t then .agg (enc t x) else (enc t x).headD .undef
def Y3 (t:Ty) (d:D):Option t.den:=
 match TY t,La d,dec t (leaves d) with
 | true,true,some (x,[])=>some x
 | false,false,some (x,[])=>some x
 | _,_,_=>none
def qW (E:Env) (o:Oper) (s:St) (T:Nat) (r:Option Operand):Option (Bool×St):=
 match E.T T,o.dst,r with
 | some i,some dst,none=>match i.desc with
  | .map k e=>bif (pO E k).fk&&(pO E e).fk then
   some (true,[(2*dst+1,.bO (aL (get s (2*dst+1))+1) (pO E k) (pO E e) []),(2*dst,.fU dst (aL (get s (2*dst+1))+1))]) else none
  | _=>none
 | _,_,_=>none
def vY (E:Env) (o:Oper) (s:St) (T:Nat) (m x:Operand) (ok:Bool):Option (Bool×St):=
 match E.T T,aV s m with
 | some i,.fU id st=>match i.desc,get s (2*id+1) with
  | .map k e,.bO st' kt vt l=>match Y3 kt (aV s x) with
   | some key=>bif Nat.beq st st' && kt.beq (pO E k)&&vt.beq (pO E e) then
    some (true,dN o (bif ok then .iJ [mkV vt (cZ kt vt l key),.bool (DX kt vt l key)] else mkV vt (cZ kt vt l key))) else none
   | none=>none
  | _,_=>none
 | _,_=>none
def kN (E:Env) (o:Oper) (s:St) (T:Nat) (m x y:Operand):Option (Bool×St):=
 match E.T T,aV s m,o.dst with
 | some i,.fU id st,none=>match i.desc,get s (2*id+1) with
  | .map k e,.bO st' kt vt l=>match Y3 kt (aV s x),Y3 vt (aV s y) with
   | some key,some val=>bif Nat.beq st st' && kt.beq (pO E k)&&vt.beq (pO E e) then
    some (true,[(2*id+1,.bO st kt vt (gM kt vt l key val))]) else none
   | _,_=>none
  | _,_=>none
 | _,_,_=>none
def act (E:Env) (o:Oper) (s:St):Option (Bool×St):=
 match o.op with
 | .move x=>bif Nat.beq (tag E o) 9 then Fg E o s x else oI E o s x
 | .assign x=>bif Nat.beq (tag E o) 15 then Ju E o s x else vR E o s x
 | .alloc T=>xV E o s T
 | .box T x=>QL E o s T x
 | .build T ps=>BI E o s T ps.toList
 | .buildSlice T n ps=>bif Nat.beq (tag E o) 8 then qR E o s T n ps.toList else kU E o s T n ps.toList
 | .load T x=>bif Nat.beq (tag E o) 11 then Fh E o s T x else bif Nat.beq (tag E o) 13 then BJ E o s T x else Df E o s T x
 | .store T a x=>match vS E s T a x with
  | some r=>some r
  | none=>uH E o s T a x
 | .nilCheck x=>oo o s x
 | .binOp op xT x y _=>VR E o s op xT x y
 | .unOp op _ x=>aUn o s op x
 | .convert a b x=>Jt E o s a b x
 | .makeSlice T l c=>bif Nat.beq (tag E o) 13 then BK E o s T l c else l5 E o s T l c
 | .slice T x lo hi none=>match aV s x with
  | .fU _ _=>bif Nat.beq (tag E o) 14 then zN E o s T x lo hi else zM E o s T x lo hi
  | _=>bif Nat.beq (tag E o) 15 then vW E o s T x lo hi else BL E o s T x lo hi
 | .slice T x lo (some hi) (some mx)=>bif Nat.beq (tag E o) 12 then uI E o s T x lo hi mx else vV E o s T x lo hi mx
 | .fieldAddr T x f=>l6 E o s T x f
 | .field T x f=>BN E o s T x f
 | .indexAddr T x i=>l7 E o s T x i
 | .index T x i=>Fp E o s T x i
 | .extract x i=>qU o s x i
 | .makeFunc fn first qC=>oq o s fn first.toList qC.toList
 | .makeMap T r=>qW E o s T r
 | .lookup T m x ok=>vY E o s T m x ok
 | .mapUpdate T m x y=>kN E o s T m x y
 | .insert T m x y=>kN E o s T m x y
 | .call c=>match c.callee with
  | .builtin b=>qV E o s b c.args.toList c.argTypes.toList
  | _=>none
 | _=>none
def cO:Nat→(Nat→Nat)→Nat
 | 0,_=>0
 | n+1,f=>cO n f+f n
theorem aG {n:Nat} {f g:Nat→Nat} (h:∀ i,i<n→f i=g i):cO n f=cO n g:=by
 induction n with
 | zero=>rfl
 | succ n ih=>simp only [cO];rw [ih fun i hi=>h i (by omega),h n (by omega)]
theorem qX {n:Nat} {f:Nat→Nat} {i:Nat} (h:i<n):f i≤cO n f:=by
 induction n with
 | zero=>omega
 | succ n ih=>
  simp only [cO]
  by_cases hi:i=n
  ·subst hi;omega
  ·have:=ih (by omega);omega
theorem dG {n:Nat} {f g:Nat→Nat} {x:Nat} (hx:x<n) (h:∀ i,i≠x→g i=f i):cO n g+f x=cO n f+g x:=by
 induction n with
 | zero=>omega
 | succ n ih=>
  simp only [cO]
  by_cases hn:x=n
  ·subst hn
   have:cO x g=cO x f:=aG fun i hi=>h i (by omega)
   omega
  ·have:=ih (by omega)
   have:=h n (by omega)
   omega
theorem qY {n:Nat} {f g:Nat→Nat} {x y:Nat} (hx:x<n) (hy:y<n) (hxy:x≠y) (h:∀ i,i≠x→i≠y→g i=f i) :
 cO n g+f x+f y=cO n f+g x+g y:=by
 have h1:=dG (f:=f) (g:=fun i=>if i=x then g x else f i) hx (fun i hi=>if_neg hi)
 have h2:=dG (f:=fun i=>if i=x then g x else f i) (g:=g) hy (fun i hi=>by
  by_cases Ij:i=x
  ·rw [if_pos Ij,Ij]
  ·rw [if_neg Ij];exact h i Ij hi)
 rw [if_pos rfl] at h1;rw [if_neg (Ne.symm hxy)] at h2;omega
structure Ctx where
 m:Nat
 w0:World
 G0:Nat→Nat
 X:Nat→Prop
 pin:Option Value
def cT (s:St) (a:Act) (b t:Nat):Nat:=dP b (get s (2*t)) (a.tmps.getD t undef)
def cB (s:St) (w:World) (pt:Nat→Nat→Option Value) (b id:Nat):Nat:=gY w pt b id (get s (2*id+1))
def TC (n m:Nat) (s:St) (a:Act) (w:World) (pt:Nat→Nat→Option Value) (b:Nat):Nat:=
 cO n (cT s a b)+cO m (cB s w pt b)
structure Rel (E:Env) (C:Ctx) (s:St) (a:Act) (w:World) (G:Nat→Nat) (pt:Nat→Nat→Option Value):Prop where
 sz:a.tmps.size=E.n
 df:a.defers=[]
 tm:∀ t,aU w G pt (get s (2*t)) (a.tmps.getD t undef)
 bx:∀ id,pK w G pt id (get s (2*id+1))
 ht:∀ t,E.n≤t→get s (2*t) = .undef
 hb:∀ id,C.m≤id→get s (2*id+1) = .undef
 ct:∀ b,TC E.n C.m s a w pt b≤1
 cb:∀ b,0<TC E.n C.m s a w pt b→b<w.heap.size∧(C.w0.heap.size≤b∨C.X b)
 fr:∀ b,b<C.w0.heap.size→¬ C.X b→w.heap[b]? = C.w0.heap[b]?∧G b=C.G0 b
 ex:Ext C.w0 C.G0 w G
 gz:∀ b,w.heap.size≤b→G b=0
 os:w.os=C.w0.os
 out:w.output=C.w0.output
 tape:w.tape=C.w0.tape
 hs:C.w0.heap.size≤w.heap.size
 pf:∀ id st,aL (get s (2*id+1))<st→pt id st=none
 gl:∀ g k l,E.glob g=some (k,l)→l.length≤G g∧∀ j (h:j<l.length),w.cell? ⟨g,j,none⟩=some (.int k l[j])∧k.has l[j]
 pn:∀ v,C.pin=some v→pt 0 1=some v
theorem dX (b:Nat) (v:Value):dP b .undef v=0:=by cases v<;>rfl
section
variable {E:Env} {C:Ctx} {s:St} {a:Act} {w:World} {G:Nat→Nat} {pt:Nat→Nat→Option Value}
theorem Rel.qZ (R:Rel E C s a w G pt) (b t:Nat):cT s a b t≤TC E.n C.m s a w pt b:=by
 by_cases h:t<E.n
 ·exact gX (qX (f:=cT s a b) h) (Nat.le_add_right _ _)
 ·have:cT s a b t=0:=by rw [cT,R.ht t (by omega)];exact dX b _
  omega
theorem Rel.jq (R:Rel E C s a w G pt) (b id:Nat):cB s w pt b id≤TC E.n C.m s a w pt b:=by
 by_cases h:id<C.m
 ·exact gX (qX (f:=cB s w pt b) h) (Nat.le_add_left _ _)
 ·have:cB s w pt b id=0:=by rw [cB,R.hb id (by omega)];rfl
  omega
theorem Rel.tt (R:Rel E C s a w G pt) {b t u:Nat} (h:0<cT s a b t) (hu:u≠t):cT s a b u=0:=by
 by_cases h1:t<E.n
 ·by_cases h2:u<E.n
  ·have h3:=qY (f:=cT s a b) (g:=fun i=>if i=t∨i=u then 0 else cT s a b i) h1 h2 (Ne.symm hu)
    (fun i hi hj=>if_neg (by simp [hi,hj]))
   have h4:=R.ct b;simp at h3;unfold TC at h4;omega
  ·rw [cT,R.ht u (by omega)];exact dX b _
 ·rw [cT,R.ht t (by omega),dX] at h
  omega
theorem Rel.tb (R:Rel E C s a w G pt) {b t:Nat} (h:0<cT s a b t) (id:Nat):cB s w pt b id=0:=by
 by_cases h1:t<E.n
 ·by_cases h2:id<C.m
  ·have h3:=qX (f:=cT s a b) h1
   have h4:=qX (f:=cB s w pt b) h2;have h5:=R.ct b;unfold TC at h5;omega
  ·rw [cB,R.hb id (by omega)];rfl
 ·rw [cT,R.ht t (by omega),dX] at h
  omega
theorem Rel.bt (R:Rel E C s a w G pt) {b id:Nat} (h:0<cB s w pt b id) (t:Nat):cT s a b t=0:=by
 rcases Nat.eq_zero_or_pos (cT s a b t) with h1 | h1
 ·exact h1
 ·have:=R.tb h1 id;omega
theorem Rel.bb (R:Rel E C s a w G pt) {b t u:Nat} (h:0<cB s w pt b t) (hu:u≠t):cB s w pt b u=0:=by
 by_cases h1:t<C.m
 ·by_cases h2:u<C.m
  ·have h3:=qY (f:=cB s w pt b) (g:=fun i=>if i=t∨i=u then 0 else cB s w pt b i) h1 h2 (Ne.symm hu)
    (fun i hi hj=>if_neg (by simp [hi,hj]))
   have h4:=R.ct b;simp at h3;unfold TC at h4;omega
  ·rw [cB,R.hb u (by omega)];rfl
 ·rw [cB,R.hb t (by omega)] at h
  exact absurd h (by simp [gY])
theorem Rel.step (R:Rel E C s a w G pt) {s':St} {a':Act} {w':World} {G':Nat→Nat} {bC:Nat→Nat→Option Value}
 (U V:Nat→Prop) (T:Nat→Prop)
 (eU:a'.tmps.size=a.tmps.size) (hdf:a'.defers=[])
 (hgt:∀ t,¬ U t→get s' (2*t)=get s (2*t)∧a'.tmps.getD t undef=a.tmps.getD t undef)
 (hgb:∀ id,¬ V id→get s' (2*id+1)=get s (2*id+1)∧bC id=pt id)
 (hE:Ext w G w' G') (nQ:∀ id st v,pt id st=some v→bC id st=some v)
 (hT:∀ b,¬ T b→b<w.heap.size→w'.heap[b]? = w.heap[b]?∧G' b=G b)
 (hxt:∀ b,T b→∀ t,¬ U t→cT s a b t=0)
 (hxb:∀ b,T b→∀ id,¬ V id→cB s w pt b id=0)
 (hTf:∀ b,T b→C.w0.heap.size≤b∨C.X b)
 (Y4:∀ t,U t→t<E.n∧aU w' G' bC (get s' (2*t)) (a'.tmps.getD t undef))
 (tV:∀ id,V id→id<C.m∧pK w' G' bC id (get s' (2*id+1))∧∀ st,aL (get s' (2*id+1))<st→bC id st=none)
 (hct:(∀ t,¬ U t→∀ b,cT s' a' b t=cT s a b t)→(∀ id,¬ V id→∀ b,cB s' w' bC b id=cB s w pt b id) →
  ∀ b,TC E.n C.m s' a' w' bC b≤1∧(0<TC E.n C.m s' a' w' bC b→b<w'.heap.size∧(C.w0.heap.size≤b∨C.X b)))
 (Ik:∀ b,w'.heap.size≤b→G' b=0) (Y5:w'.os=w.os) (sD:w'.output=w.output) (Y6:w'.tape=w.tape) (Y7:w.heap.size≤w'.heap.size) :
 Rel E C s' a' w' G' bC:=by
 have old:∀ b,0<TC E.n C.m s a w pt b→b<w.heap.size:=fun b h=>(R.cb b h).1
 have ut:∀ t,¬ U t→∀ b,0<cT s a b t→w'.heap[b]? = w.heap[b]?∧G' b=G b:=by
  intro t ht b hb
  refine hT b (fun hTb=>?_) (old b (mK hb (R.qZ b t)))
  have:=hxt b hTb t ht;omega
 have ub:∀ id,¬ V id→∀ b,0<cB s w pt b id→w'.heap[b]? = w.heap[b]?∧G' b=G b:=by
  intro id hid b hb
  refine hT b (fun hTb=>?_) (old b (mK hb (R.jq b id)))
  have:=hxb b hTb id hid;omega
 have c1:∀ t,¬ U t→∀ b,cT s' a' b t=cT s a b t:=by
  intro t ht b;obtain ⟨h1,h2⟩:=hgt t ht;simp only [cT,h1,h2]
 have c2:∀ id,¬ V id→∀ b,cB s' w' bC b id=cB s w pt b id:=by
  intro id hid b;obtain ⟨h1,h2⟩:=hgb id hid;simp only [cB,h1];exact Fe nQ (R.bx id) (ub id hid) b
 have hc:=hct c1 c2
 refine ⟨eU.trans R.sz,hdf,fun t=>?_,fun id=>?_,fun t ht=>?_,fun id hid=>?_,fun b=>(hc b).1,fun b=>(hc b).2,fun b hb hX=>?_,R.ex.trans hE,Ik,Y5.trans R.os,sD.trans R.out,
  Y6.trans R.tape,gX R.hs Y7,fun id st h=>?_,fun g k l h=>?_,fun v h=>nQ _ _ _ (R.pn v h)⟩
 ·by_cases hU:U t
  ·exact (Y4 t hU).2
  ·obtain ⟨h1,h2⟩:=hgt t hU
   rw [h1,h2];exact (R.tm t).mono hE nQ (ut t hU)
 ·by_cases hV:V id
  ·exact (tV id hV).2.1
  ·rw [(hgb id hV).1]
   exact (R.bx id).mono hE nQ (ub id hV)
 ·by_cases hU:U t
  ·have:=(Y4 t hU).1;omega
  ·rw [(hgt t hU).1];exact R.ht t ht
 ·by_cases hV:V id
  ·have:=(tV id hV).1;omega
  ·rw [(hgb id hV).1];exact R.hb id hid
 ·obtain ⟨h1,h2⟩:=R.fr b hb hX
  have hnT:¬ T b:=fun h=>by rcases hTf b h with h | h;omega;exact hX h
  obtain ⟨h3,h4⟩:=hT b hnT (mK hb R.hs);exact ⟨h3.trans h1,h4.trans h2⟩
 ·by_cases hV:V id
  ·exact (tV id hV).2.2 st h
  ·rw [(hgb id hV).1] at h
   rw [(hgb id hV).2];exact R.pf id st h
 ·obtain ⟨h1,h2⟩:=R.gl g k l h
  refine ⟨gX h1 (hE.le g),fun j hj=>?_⟩
  rw [hE.cell g j (by omega)]
  exact h2 j hj
end
theorem gF (a b:Nat):Nat.beq a b=decide (a=b):=by
 cases h:Nat.beq a b with
 | true=>simp [fD h]
 | false=>simp [zC5 h]
theorem aD (s:St) (l m:Nat) (d:D):get ((l,d)::s) m=if m=l then d else get s m:=by
 simp only [get,gF]
 by_cases h:m=l<;>simp [h]
@[simp] theorem dQ (s:St) (t u:Nat) (d:D):get ((2*t,d)::s) (2*u)=if u=t then d else get s (2*u):=by
  rw [aD]
  by_cases h:u=t
  ·rw [if_pos h,if_pos (by omega)]
  ·rw [if_neg h,if_neg (by omega)]
@[simp] theorem kF (s:St) (t u:Nat) (d:D):get ((2*t,d)::s) (2*u+1)=get s (2*u+1):=by
  rw [aD,if_neg (by omega)]
@[simp] theorem get_bt (s:St) (t u:Nat) (d:D):get ((2*t+1,d)::s) (2*u)=get s (2*u):=by
  rw [aD,if_neg (by omega)]
@[simp] theorem aW (s:St) (t u:Nat) (d:D):get ((2*t+1,d)::s) (2*u+1)=if u=t then d else get s (2*u+1):=by
  rw [aD]
  by_cases h:u=t
  ·rw [if_pos h,if_pos (by omega)]
  ·rw [if_neg h,if_neg (by omega)]
def au:St→St→St
 | [],s=>s
 | p::r,s=>au r (p::s)
theorem bg (a b s:St):au (a++b) s=au b (au a s):=by
 induction a generalizing s with
 | nil=>rfl
 | cons p a ih=>exact ih (p::s)
theorem jO (a:Act) (t u:Nat) (v:Value) (h:t<a.tmps.size) :
 (a.put (some t) v).tmps.getD u undef=if u=t then v else a.tmps.getD u undef:=by
 simp only [Act.put,xE,Array.getElem?_setIfInBounds]
 by_cases hu:u=t
 ·subst hu;simp [h]
 ·simp [Ne.symm hu,hu]
@[simp] theorem amW (a:Act) (v:Value):a.put none v=a:=rfl
@[simp] theorem amX (a:Act) (o:Option Tmp) (v:Value):(a.put o v).tmps.size=a.tmps.size:=by
  cases o<;>simp [Act.put]
@[simp] theorem put_defers (a:Act) (o:Option Tmp) (v:Value):(a.put o v).defers=a.defers:=by
  cases o<;>simp [Act.put]
section
variable {w:World} {G:Nat→Nat} {pt:Nat→Nat→Option Value}
def q9 (G:Nat→Nat) (d:D) (v:Value):Nat→Nat:=
 match d,v with
 | .sl 2 t l,.slice (some a) _ _=>fun b=>if b=a.block then l.length*t.nc else G b
 | _,_=>G
def oJ (G:Nat→Nat):List D→(Nat→Value)→Nat→Nat
 | [],_=>G
 | d::r,f=>oJ (q9 G d (f 0)) r (fun i=>f (i+1))
theorem BO (b:Nat) (d:D) (v:Value):dS b (bP d) v=dS b d v:=by
 cases d with
 | sl f t l=>
  cases v<;>try rfl
  rename_i a n c
  cases a<;>try rfl
  rename_i a;simp only [bP,dS]
  by_cases h:f=2
  ·subst h;simp
  ·rw [show Nat.beq f 2=false by rw [gF];simp [h]];rfl
 | _=>rfl
theorem ru (b:Nat) (d:D) (v:Value):dS b (dD d) v=0:=by
 cases d with
 | sl f t l=>
  cases v<;>try rfl
  rename_i a n c
  cases a<;>rfl
 | _=>cases v<;>rfl
theorem l8 (b:Nat) (d:D) (v:Value):dS b (stripL d) v=0:=by
 cases d with
 | sl f t l=>
  simp only [stripL,gF]
  by_cases h:f=0
  ·subst h
   cases v<;>try rfl
   rename_i a n c
   cases a<;>rfl
  ·simp only [h,decide_false,bJ]
   cases v<;>rfl
 | _=>cases v<;>rfl
theorem uJ {d:D} {v:Value} {b:Nat} (h:dS b d v=0):q9 G d v b=G b:=by
 unfold q9;split
 ·rename_i t l a n c
  simp only [dS] at h
  by_cases hb:b=a.block
  ·subst hb;simp at h
  ·simp [hb]
 ·rfl
theorem iL:∀ {ds:List D} {f:Nat→Value} {G:Nat→Nat} {b:Nat},aM b ds f=0→oJ G ds f b=G b
 | [],_,_,_,_=>rfl
 | d::r,f,G,b,h=>by
  simp only [aM] at h;simp only [oJ]
  rw [iL (by omega),uJ (by omega)]
theorem Y8 {d:D} {v:Value} (h:bF w G pt d v) (b:Nat):G b≤q9 G d v b:=by
 unfold q9;split
 ·rename_i t l a n c
  obtain ⟨a',n',c',h1,h2,h3,h4⟩:=h
  injection h1 with h1 BA aBQ
  subst h1
  rcases h4 with ⟨h5,_⟩ | ⟨b',h5,h6,_⟩
  ·cases h5
  ·injection h5 with h5
   subst h5
   by_cases hb:b=b'
   ·subst hb;simp [h6]
   ·simp [hb]
 ·exact bT _
theorem Jv {d:D} {v:Value} (h:bF w G pt d v):Ext w G w (q9 G d v):=⟨fun _ _ _=>rfl,Y8 h⟩
theorem bF.share {d:D} {v:Value} (h:bF w G pt d v):bF w (q9 G d v) pt (bP d) v:=by
 cases d with
 | sl f t l=>
  obtain ⟨a,n,c,h1,h2,h3,h4⟩:=h;subst h1;simp only [bP,gF]
  by_cases hf:f=2
  ·subst hf
   simp only [decide_true,aQ];refine ⟨a,n,c,rfl,h2,h3,?_⟩
   rcases h4 with h4 | ⟨b,h5,h6,h7,h8,h9,QF⟩
   ·exact .inl h4
   ·subst h5
    refine .inr ⟨b,rfl,?_,h7,h8,?_,QF⟩
    ·simp [q9]
    ·refine h9.mono ⟨fun _ _ _=>rfl,fun b'=>?_⟩ fun _ _ _=>rfl
     simp only [q9]
     by_cases hb:b' = b
     ·subst hb;simp [h6]
     ·simp [hb]
  ·simp only [hf,decide_false,bJ]
   have:q9 G (.sl f t l) (.slice a n c)=G:=by
    unfold q9;split
    ·rename_i h _ ;injection h with h;exact absurd h hf
    ·rfl
   rw [this];exact ⟨a,n,c,rfl,h2,h3,h4⟩
 | _=>exact h
theorem aP.share:∀ {ds:List D} {f:Nat→Value} {G:Nat→Nat},aP w G pt ds f→(∀ b,aM b ds f≤1) →
 Ext w G w (oJ G ds f)∧aP w (oJ G ds f) pt (ds.map bP) f
 | [],f,G,_,_=>⟨Ext.refl _ _,fun j hj=>by simp at hj⟩
 | d::r,f,G,h,hc=>by
  have h0:bF w G pt d (f 0):=(h 0 (by simp)).1
  have e0:=Jv h0
  have hr:aP w G pt r (fun i=>f (i+1)):=fun j hj=>by
   have:=h (j+1) (by simpa using hj)
   simpa using this
  have hr':aP w (q9 G d (f 0)) pt r (fun i=>f (i+1)):=hr.mono e0 (fun _ _ _ h=>h) (fun _ _=>rfl) fun b hb=>
   ⟨rfl,uJ (by have:=hc b;simp only [aM] at this;omega)⟩
  obtain ⟨e1,h1⟩:=aP.share hr' fun b=>by have:=hc b;simp only [aM] at this;omega
  refine ⟨e0.trans e1,fun j hj=>?_⟩
  match j,hj with
  | 0,_=>
   simp only [jy,List.getElem_cons_zero]
   refine ⟨h0.share.mono e1 (fun _ _ _ h=>h) fun b hb=>⟨rfl,?_⟩,(h 0 (by simp)).2⟩
   rw [BO] at hb
   exact iL (by have:=hc b;simp only [aM] at this;omega)
  | j+1,hj=>
   have:=h1 j (by simpa using hj)
   simp only [jy,List.getElem_cons_succ,oJ];exact this
theorem bF.view {d:D} {v:Value} (h:bF w G pt (bP d) v):bF w G pt (dD d) v:=by
 cases d with
 | sl f t l=>
  simp only [bP,dD,gF] at h ⊢
  have key:∀ f',f'≠2→bF w G pt (.sl f' t l) v→bF w G pt (.sl 0 t l) v:=by
   intro f' hf' h;obtain ⟨a,n,c,h1,h2,h3,h4⟩:=h;refine ⟨a,n,c,h1,h2,h3,?_⟩
   match f',hf',h4 with
   | 0,_,h4=>exact h4
   | 1,_,h4=>
    rcases h4 with ⟨h5,h6,h7⟩ | ⟨b,h5,h6,h7,h8,h9,QF⟩
    ·subst h6;exact ⟨by simp,.inl rfl⟩
    ·exact ⟨h8,.inr ⟨b,0,h5,by omega,h9⟩⟩
   | 3,_,h4=>
    rcases h4 with ⟨h5,h6,h7⟩ | ⟨b,o,d,h5,h0,h6,h7,h8,h9,QF⟩
    ·subst h6;exact ⟨by simp,.inl rfl⟩
    ·exact ⟨h8,.inr ⟨b,o,h5,by omega,h9⟩⟩
   | (k+4),_,h4=>exact h4.elim
  by_cases hf:f=2
  ·subst hf
   simp only [decide_true,aQ] at h
   exact key 1 (by omega) h
  ·simp only [hf,decide_false,bJ] at h
   exact key f hf h
 | _=>exact h
theorem bF.strip {d:D} {v:Value} (h:bF w G pt d v):bF w G pt (stripL d) v:=by
 cases d with
 | sl f t l=>
  simp only [stripL,gF]
  by_cases hf:f=0
  ·subst hf;exact h
  ·simp only [hf,decide_false,bJ];trivial
 | _=>exact h
theorem aP.map {ds:List D} {f:Nat→Value} {g:D→D} (h:aP w G pt ds f) (hg:∀ d v,bF w G pt d v→bF w G pt (g d) v):aP w G pt (ds.map g) f:=by
 intro j hj;simp only [List.getElem_map]
 have:=h j (by simpa using hj)
 exact ⟨hg _ _ this.1,this.2⟩
theorem jJ {g:D→D} (hg:∀ b d v,dS b (g d) v=0) (b:Nat):∀ (ds:List D) (f:Nat→Value),aM b (ds.map g) f=0
 | [],_=>rfl
 | d::r,f=>by simp only [jy,aM,hg,jJ hg b r]
theorem oK (b:Nat):∀ (ds:List D) (f:Nat→Value),aM b (ds.map bP) f=aM b ds f
 | [],_=>rfl
 | d::r,f=>by simp only [jy,aM,BO,oK b r]
theorem aP.view {ds:List D} {f:Nat→Value} (h:aP w G pt (ds.map bP) f):aP w G pt (ds.map dD) f:=by
 intro j hj
 have:=h j (by simpa using hj)
 simp only [List.getElem_map] at this ⊢;exact ⟨this.1.view,this.2⟩
theorem zP (ds:List D) (h:ds.any Fa=false):ds.map bP=ds:=by
 induction ds with
 | nil=>rfl
 | cons d r ih=>
  simp only [List.any_cons,Bool.or_eq_false_iff] at h;rw [jy,ih h.2]
  congr 1
  cases d with
  | sl f t l=>simp only [Fa] at h;simp [bP,h.1]
  | _=>rfl
theorem Lb (ds:List D) (h:ds.any Dc=false):ds.map stripL=ds∧∀ b f,aM b ds f=0:=by
 induction ds with
 | nil=>exact ⟨rfl,fun _ _=>rfl⟩
 | cons d r ih=>
  simp only [List.any_cons,Bool.or_eq_false_iff] at h;obtain ⟨h1,h2⟩:=ih h.2
  have hd:stripL d=d:=by
   cases d with
   | sl f t l=>
    have:Nat.beq f 0=true:=by have:=h.1;simp only [Dc] at this;simpa using this
    have h0:=fD this;subst h0;rfl
   | _=>rfl
  refine ⟨by rw [jy,h1,hd],fun b f=>?_⟩
  simp only [aM,h2];rw [←hd,l8]
def NH (G:Nat→Nat) (d:D) (v:Value):Nat→Nat:=
 match d,v with
 | .agg cs,.agg arr=>oJ G cs (aS arr)
 | d,v=>q9 G d v
theorem uK {d:D} {v:Value} {b:Nat} (h:dP b d v=0):NH G d v b=G b:=by
 unfold NH;split
 ·exact iL h
 ·rename_i h1
  cases d with
  | agg cs=>cases v<;>first | rfl | exact absurd rfl (h1 _ _ rfl)
  | iJ cs=>rfl
  | fn f cs=>rfl
  | _=>exact uJ (by simpa only [dP] using h)
theorem Jw (b:Nat) (d:D) (v:Value):dP b (share d) v=dP b d v:=by
 cases d with
 | agg cs=>cases v<;>first | rfl | exact oK _ _ _
 | sl f t l=>exact BO b (.sl f t l) v
 | _=>rfl
theorem uL (b:Nat) (d:D) (v:Value) (hd:fZ d=false):dP b (view d) v=0:=by
 cases d with
 | agg cs=>cases v<;>first | rfl | exact jJ ru _ _ _
 | iJ cs=>simp [fZ] at hd
 | fn f cs=>cases v<;>rfl
 | sl f t l=>exact ru b (.sl f t l) v
 | _=>cases v<;>rfl
theorem vZ (b:Nat) (d:D) (v:Value):dP b (strip d) v=0:=by
 cases d with
 | agg cs=>cases v<;>first | rfl | exact jJ l8 _ _ _
 | iJ cs=>exact dX _ _
 | fn f cs=>cases v<;>rfl
 | sl f t l=>
  have:=l8 b (.sl f t l) v;simp only [strip,stripL] at this ⊢
  by_cases hf:Nat.beq f 0=true
  ·rw [hf] at this ⊢;exact this
  ·simp only [Bool.not_eq_true] at hf;rw [hf];exact dX _ _
 | _=>cases v<;>rfl
theorem aU.share {d:D} {v:Value} (h:aU w G pt d v) (hc:∀ b,dP b d v≤1) (hd:fZ d=false) :
 Ext w G w (NH G d v)∧aU w (NH G d v) pt (dw.share d) v:=by
 cases d with
 | agg cs=>
  obtain ⟨arr,rfl,h2,h3⟩:=h;obtain ⟨e,h4⟩:=h3.share hc
  exact ⟨e,arr,rfl,by simpa using h2,h4⟩
 | iJ cs=>simp [fZ] at hd
 | fn f cs=>exact ⟨Ext.refl _ _,h⟩
 | _=>
  simp only [aU] at h;exact ⟨Jv h,h.share⟩
theorem aU.view {d:D} {v:Value} (h:aU w G pt (dw.share d) v) (hd:fZ d=false):aU w G pt (dw.view d) v:=by
 cases d with
 | agg cs=>
  obtain ⟨arr,rfl,h2,h3⟩:=h
  exact ⟨arr,rfl,by simpa using h2,h3.view⟩
 | iJ cs=>simp [fZ] at hd
 | fn f cs=>exact h
 | sl f t l=>exact bF.view (pt:=pt) (d:=.sl f t l) h
 | _=>exact h
theorem aU.strip {d:D} {v:Value} (h:aU w G pt d v):aU w G pt (dw.strip d) v:=by
 cases d with
 | agg cs=>
  obtain ⟨arr,rfl,h2,h3⟩:=h
  exact ⟨arr,rfl,by simpa using h2,h3.map fun _ _ h=>h.strip⟩
 | iJ cs=>trivial
 | fn f cs=>exact h
 | sl f t l=>
  have h':=bF.strip (pt:=pt) (d:=.sl f t l) h;simp only [dw.strip,stripL] at h' ⊢
  by_cases hf:Nat.beq f 0=true
  ·rw [hf] at h' ⊢;exact h'
  ·simp only [Bool.not_eq_true] at hf;rw [hf];trivial
 | _=>exact h
end
theorem dK.move {w w':World} {G G':Nat→Nat} (hE:Ext w G w' G') :
 ∀ {t:Ty} {x:t.den} {b o b' o':Nat},dK w G t x b o →
  (∀ j,j<t.nc→w'.cell? ⟨b',o' + j,none⟩=w.cell? ⟨b,o+j,none⟩)→dK w' G' t x b' o'
 | .int k,n,b,o,b',o',h,hc=>by
  have:=hc 0 (by simp [Ty.nc])
  simp only [Nat.add_zero] at this;simp only [dK] at h ⊢;rw [this];exact h
 | .bool,n,b,o,b',o',h,hc=>by
  have:=hc 0 (by simp [Ty.nc])
  simp only [Nat.add_zero] at this;simp only [dK] at h ⊢;rw [this];exact h
 | .str,n,b,o,b',o',h,hc=>by
  have:=hc 0 (by simp [Ty.nc])
  simp only [Nat.add_zero] at this;simp only [dK] at h ⊢;rw [this];exact h
 | .sl t,l,b,o,b',o',h,hc=>by
  have:=hc 0 (by simp [Ty.nc])
  simp only [Nat.add_zero] at this;have h2:dK w' G' (.sl t) l b o∨True:=.inr trivial;simp only [dK] at h ⊢;rw [this];obtain ⟨a,n,c,h1,h2,h3,Ip,h4⟩:=h;refine ⟨a,n,c,h1,h2,h3,Ip,?_⟩
  rcases h4 with h4 | ⟨b1,o1,h5,h6,h7⟩
  ·exact .inl h4
  ·refine .inr ⟨b1,o1,h5,gX h6 (hE.le b1),fun i hi=>(h7 i hi).mono hE fun j K8 vQ=>hE.cell _ _ ?_⟩
   have:(i+1)*t.nc≤n*t.nc:=zF _ (by omega)
   rw [Nat.add_mul] at this;omega
 | .unit,_,_,_,_,_,_,_=>trivial
 | .cons a c,x,b,o,b',o',h,hc=>by
  simp only [dK] at h ⊢;simp only [Ty.nc] at hc
  refine ⟨h.1.move hE fun j hj=>hc j (by omega),h.2.move hE fun j hj=>?_⟩
  have:=hc (a.nc+j) (by omega)
  rw [Nat.add_assoc,Nat.add_assoc];exact this
 | .st _ c,x,b,o,b',o',h,hc=>by
  simp only [dK] at h ⊢;exact dK.move hE h hc
 | .iF f t,x,b,o,b',o',h,hc=>by
  have:=hc 0 (by simp [Ty.nc])
  simp only [Nat.add_zero] at this;simp only [dK] at h ⊢;rw [this];obtain ⟨b1,o1,h1,h2,h3⟩:=h
  exact ⟨b1,o1,h1,gX h2 (hE.le b1),h3.mono hE fun j K8 vQ=>hE.cell _ _ (by omega)⟩
theorem jZ:∀ (t:Ty) (x:t.den),(enc t x).length=t.nc
 | .int _,_=>rfl
 | .bool,_=>rfl
 | .str,_=>rfl
 | .sl _,_=>rfl
 | .unit,_=>rfl
 | .cons a b,x=>by
  show (enc a x.1++enc b x.2).length=_;rw [nP,jZ a,jZ b];rfl
 | .st _ c,x=>jZ c x
 | .iF _ _,_=>rfl
theorem wh {w:World} {G:Nat→Nat} (pt:Nat→Nat→Option Value) :
 ∀ {t:Ty} {x:t.den} {b o:Nat},dK w G t x b o →
  ∀ j (h:j<(enc t x).length),∃ v,w.cell? ⟨b,o+j,none⟩=some v∧bF w G pt (enc t x)[j] v∧∀ c,dS c (enc t x)[j] v=0
 | .int k,n,b,o,h,j,hj=>by
  have:j=0:=by simp [enc] at hj;exact hj
  subst this
  exact ⟨_,h.1,⟨rfl,h.2⟩,fun _=>rfl⟩
 | .bool,n,b,o,h,j,hj=>by
  have:j=0:=by simp [enc] at hj;exact hj
  subst this
  exact ⟨_,h,rfl,fun _=>rfl⟩
 | .str,n,b,o,h,j,hj=>by
  have:j=0:=by simp [enc] at hj;exact hj
  subst this;obtain ⟨s,h1,h2⟩:=h
  exact ⟨_,h1,⟨s,rfl,h2⟩,fun _=>rfl⟩
 | .sl t,l,b,o,h,j,hj=>by
  have:j=0:=by simp [enc] at hj;exact hj
  subst this;simp only [dK] at h;obtain ⟨a,n,c,h1,h2,h3,Ip,h4⟩:=h
  refine ⟨_,h1,⟨a,n,c,rfl,h2,h3,by omega,?_⟩,fun c'=>by cases a<;>rfl⟩
  subst h2
  rcases h4 with h4 | ⟨b1,o1,h5,h6,h7⟩
  ·exact .inl h4
  ·exact .inr ⟨b1,o1,h5,h6,h7⟩
 | .unit,_,_,_,_,j,hj=>by simp [enc] at hj
 | .cons a c,x,b,o,h,j,hj=>by
  have e:enc (.cons a c) x=enc a x.1++enc c x.2:=rfl;simp only [dK] at h;have hla:=jZ a x.1
  by_cases hja:j<(enc a x.1).length
  ·obtain ⟨v,h1,h2,h3⟩:=wh pt h.1 j hja
   have:(enc (.cons a c) x)[j]=(enc a x.1)[j]:=by simp only [e];exact List.getElem_append_left hja
   rw [this];exact ⟨v,h1,h2,h3⟩
  ·have nR:j - (enc a x.1).length<(enc c x.2).length:=by simp only [e,nP] at hj;omega
   obtain ⟨v,h1,h2,h3⟩:=wh pt h.2 (j - (enc a x.1).length) nR
   have:(enc (.cons a c) x)[j]=(enc c x.2)[j - (enc a x.1).length]:=by simp only [e];exact List.getElem_append_right (by omega)
   rw [this];refine ⟨v,?_,h2,h3⟩;rw [←h1]
   congr 2
   omega
 | .st _ c,x,b,o,h,j,hj=>wh (t:=c) pt h j hj
 | .iF f t,x,b,o,h,j,hj=>by
  have:j=0:=by simp [enc] at hj;exact hj
  subst this;simp only [dK] at h;obtain ⟨b1,o1,h1,h2,h3⟩:=h
  exact ⟨_,h1,⟨b1,o1,rfl,h2,h3⟩,fun _=>rfl⟩
theorem zQ {w w':World} {G G':Nat→Nat} {pt:Nat→Nat→Option Value} (hE:Ext w G w' G') :
 ∀ {t:Ty} {ds:List D} {x:t.den} {r:List D} {f:Nat→Value} {b o:Nat},dec t ds=some (x,r)→aP w G pt (ds.map dD) f →
  (∀ j,j<t.nc→w'.cell? ⟨b,o+j,none⟩=some (f j))→dK w' G' t x b o∧r=ds.drop t.nc∧t.nc≤ds.length
 | .int k,ds,x,r,f,b,o,h,hr,hc=>by
  cases ds with
  | nil=>simp [dec] at h
  | cons d ds=>
   cases d<;>simp only [dec] at h<;>try (cases h;done)
   rename_i k' n
   by_cases hk:mZ k k' = true
   ·simp only [hk,aQ,bn,gD] at h
    obtain ⟨rfl,rfl⟩:=h;have hk':=gW hk;subst hk'
    have h0:=(hr 0 (by simp)).1
    simp only [jy,List.getElem_cons_zero,dD,bF] at h0
    have c0:=hc 0 (by simp [Ty.nc])
    simp only [Nat.add_zero] at c0
    refine ⟨⟨by rw [c0,h0.1],h0.2⟩,rfl,by simp [Ty.nc]⟩
   ·simp only [Bool.not_eq_true] at hk;simp [hk] at h
 | .bool,ds,x,r,f,b,o,h,hr,hc=>by
  cases ds with
  | nil=>simp [dec] at h
  | cons d ds=>
   cases d<;>simp only [dec] at h<;>try (cases h;done)
   simp only [bn,gD] at h;obtain ⟨rfl,rfl⟩:=h
   have h0:=(hr 0 (by simp)).1
   simp only [jy,List.getElem_cons_zero,dD,bF] at h0
   have c0:=hc 0 (by simp [Ty.nc])
   simp only [Nat.add_zero] at c0
   exact ⟨by simp only [dK];rw [c0,h0],rfl,by simp [Ty.nc]⟩
 | .str,ds,x,r,f,b,o,h,hr,hc=>by
  cases ds with
  | nil=>simp [dec] at h
  | cons d ds=>
   cases d<;>simp only [dec] at h<;>try (cases h;done)
   simp only [bn,gD] at h;obtain ⟨rfl,rfl⟩:=h
   have h0:=(hr 0 (by simp)).1
   simp only [jy,List.getElem_cons_zero,dD,bF] at h0
   have c0:=hc 0 (by simp [Ty.nc])
   simp only [Nat.add_zero] at c0;obtain ⟨s,h1,h2⟩:=h0
   exact ⟨⟨s,by rw [c0,h1],h2⟩,rfl,by simp [Ty.nc]⟩
 | .sl t,ds,x,r,f,b,o,h,hr,hc=>by
  have c0:=hc 0 (by simp [Ty.nc])
  simp only [Nat.add_zero] at c0
  cases ds with
  | nil=>simp [dec] at h
  | cons d ds=>
   cases d<;>simp only [dec] at h<;>try (cases h;done)
   ·simp only [bn,gD] at h
    obtain ⟨rfl,rfl⟩:=h
    have h0:=(hr 0 (by simp)).1
    simp only [jy,List.getElem_cons_zero,dD,bF] at h0
    refine ⟨?_,rfl,by simp [Ty.nc]⟩
    simp only [dK]
    exact ⟨none,0,0,by rw [c0,h0],rfl,by simp,by simp,.inl trivial⟩
   ·rename_i fl t' l
    by_cases hb:t'.beq t=true
    ·simp only [hb,dite_true,bn,gD] at h
     obtain ⟨rfl,rfl⟩:=h;have ht:=Ty.eq_of_beq hb;subst ht
     have h0:=(hr 0 (by simp)).1
     simp only [jy,List.getElem_cons_zero,dD,bF] at h0;obtain ⟨a,n,c,h1,h2,h3,h4,h5⟩:=h0
     refine ⟨?_,rfl,by simp [Ty.nc]⟩
     simp only [dK]
     refine ⟨a,n,c,by rw [c0,h1],h2,h3,by omega,?_⟩
     rcases h5 with h5 | ⟨b1,o1,h5,h6,h7⟩
     ·exact .inl h5
     ·subst h2
      have h8:=h7.mono hE fun j K8 vQ=>hE.cell b1 j (by omega)
      exact .inr ⟨b1,o1,h5,gX h6 (hE.le b1),h8⟩
    ·simp [hb] at h
 | .iF f0 t,ds,x,r,f,b,o,h,hr,hc=>by
  have c0:=hc 0 (by simp [Ty.nc])
  simp only [Nat.add_zero] at c0
  cases ds with
  | nil=>simp [dec] at h
  | cons d ds=>
   cases d<;>simp only [dec] at h<;>try (cases h;done)
   rename_i f' t' y
   by_cases hb:(Ty.iF f' t').beq (.iF f0 t)=true
   ·simp only [hb,dite_true,bn,gD] at h
    obtain ⟨rfl,rfl⟩:=h;have ht:=Ty.eq_of_beq hb
    injection ht with e1 e2
    subst e1 e2
    have h0:=(hr 0 (by simp)).1
    simp only [jy,List.getElem_cons_zero,dD,bF] at h0;obtain ⟨b1,o1,h1,h2,h3⟩:=h0
    refine ⟨?_,rfl,by simp [Ty.nc]⟩
    simp only [dK]
    exact ⟨b1,o1,by rw [c0,h1],gX h2 (hE.le b1),h3.mono hE fun j K8 vQ=>hE.cell b1 j (by omega)⟩
   ·simp [hb] at h
 | .unit,ds,x,r,f,b,o,h,hr,hc=>by
  simp only [dec,bn,gD] at h
  exact ⟨trivial,h.2.symm,by simp [Ty.nc]⟩
 | .cons a c,ds,x,r,f,b,o,h,hr,hc=>by
  simp only [Ty.nc] at hc;simp only [dec] at h
  cases ha:dec a ds with
  | none=>simp [ha] at h
  | some p=>
   obtain ⟨xa,ra⟩:=p;simp only [ha] at h
   obtain ⟨h1,h2,h3⟩:=zQ hE (b:=b) (o:=o) ha hr (fun j hj=>hc j (by omega))
   cases QG:dec c ra with
   | none=>simp [QG] at h
   | some p=>
    obtain ⟨xc,rc⟩:=p;simp only [QG,bn,gD] at h;obtain ⟨rfl,rfl⟩:=h;subst h2
    obtain ⟨h4,h5,h6⟩:=zQ hE (b:=b) (o:=o+a.nc) (f:=fun j=>f (a.nc+j)) QG
     (fun j hj=>by
      have hl:a.nc+j<(ds.map dD).length:=by simp at hj ⊢;omega
      have:=hr (a.nc+j) hl
      simpa using this)
     (fun j hj=>by
      have:=hc (a.nc+j) (by omega)
      rw [Nat.add_assoc];exact this)
    refine ⟨⟨h1,h4⟩,?_,?_⟩
    ·rw [h5,List.drop_drop];rfl
    ·simp only [List.length_drop] at h6;simp only [Ty.nc];omega
 | .st _ c,ds,x,r,f,b,o,h,hr,hc=>zQ (t:=c) hE h hr hc
section
variable {E:Env} {C:Ctx} {s:St} {a:Act} {w:World} {G:Nat→Nat} {pt:Nat→Nat→Option Value}
theorem Rel.congr {s':St} (R:Rel E C s a w G pt) (h:∀ l,get s' l=get s l):Rel E C s' a w G pt:=by
 have e1:∀ b,cT s' a b=cT s a b:=fun b=>funext fun t=>by simp only [cT,h]
 have e2:∀ b,cB s' w pt b=cB s w pt b:=fun b=>funext fun t=>by simp only [cB,h]
 refine ⟨R.sz,R.df,fun t=>by rw [h];exact R.tm t,fun id=>by rw [h];exact R.bx id,fun t ht=>by rw [h];exact R.ht t ht,fun id hid=>by rw [h];exact R.hb id hid,
  fun b=>by unfold TC;rw [e1,e2];exact R.ct b,fun b=>by unfold TC;rw [e1,e2];exact R.cb b,R.fr,R.ex,R.gz,R.os,R.out,R.tape,R.hs,fun id st hs=>R.pf id st (by rw [h] at hs;exact hs),R.gl,R.pn⟩
theorem aU.undef (v:Value):aU w G pt .undef v:=trivial
theorem Rel.amZ (R:Rel E C s a w G pt) (t:Nat) (Dg:t<E.n) {d:D} {v:Value} (hd:aU w G pt d v)
 (hc:∀ b,dP b d v=0):Rel E C ((2*t,d)::s) (a.put (some t) v) w G pt:=by
 have qD:t<a.tmps.size:=by rw [R.sz];exact Dg
 refine R.step (fun u=>u=t) (fun _=>False) (fun _=>False) (by simp) (by simpa using R.df) (fun u hu=>?_) (fun id _=>⟨by simp,rfl⟩) (Ext.refl _ _) (fun _ _ _ h=>h)
  (fun b _ _=>⟨rfl,rfl⟩) (fun b h=>h.elim) (fun b h=>h.elim) (fun b h=>h.elim) (fun u hu=>?_) (fun id h=>h.elim) (fun c1 c2 b=>?_) R.gz rfl rfl rfl (bT _)
 ·simp only [dQ,hu,if_false]
  rw [jO a t u v qD,if_neg hu];exact ⟨trivial,rfl⟩
 ·subst hu
  refine ⟨Dg,?_⟩;simp only [dQ,if_true];rw [jO a u u v qD,if_pos rfl];exact hd
 ·have e1:=dG (n:=E.n) (f:=cT s a b) (g:=cT ((2*t,d)::s) (a.put (some t) v) b) Dg (fun i hi=>c1 i hi b)
  have e2:=aG (n:=C.m) (f:=cB s w pt b) (g:=cB ((2*t,d)::s) w pt b) (fun i _=>(c2 i (fun h=>h) b).symm)
  have e3:cT ((2*t,d)::s) (a.put (some t) v) b t=0:=by
   simp only [cT,dQ,if_true];rw [jO a t t v qD,if_pos rfl];exact hc b
  have h1:=R.ct b;have h2:=R.cb b;unfold TC at *
  exact ⟨by omega,fun h=>h2 (by omega)⟩
theorem kV {o:Oper} {t:Nat} (h:o.dst=some t) (d:D):dN o d=[(2*t,d)]:=by simp [dN,h]
theorem wm {o:Oper} (h:o.dst=none) (d:D):dN o d=[]:=by simp [dN,h]
theorem Rel.Fq (R:Rel E C s a w G pt) (o:Oper) (ho:∀ t,o.dst=some t→t<E.n) {d:D} {v:Value} (hd:aU w G pt d v)
 (hc:∀ b,dP b d v=0):Rel E C (au (dN o d) s) (a.put o.dst v) w G pt:=by
 cases h:o.dst with
 | none=>rw [wm h];exact R
 | some t=>rw [kV h];exact R.amZ t (ho t h) hd hc
theorem Rel.drew (R:Rel E C s a w G pt) {w':World} (hh:w'.heap=w.heap) (ho:w'.os=w.os) (hu:w'.output=w.output) (ht:w'.tape=w.tape):Rel E C s a w' G pt:=by
 refine R.step (fun _=>False) (fun _=>False) (fun _=>False) rfl R.df (fun _ _=>⟨rfl,rfl⟩) (fun _ _=>⟨rfl,rfl⟩) ⟨fun b o _=>cell_of_heap (by rw [hh]) o,fun _=>bT _⟩ (fun _ _ _ h=>h)
  (fun b _ _=>⟨by rw [hh],rfl⟩) (fun b h=>h.elim) (fun b h=>h.elim) (fun b h=>h.elim) (fun t h=>h.elim) (fun id h=>h.elim) (fun c1 c2 b=>?_) (fun b hb=>R.gz b (by rw [hh] at hb;exact hb)) ho hu ht (by rw [hh];exact bT _)
 have e1:=aG (n:=E.n) (f:=cT s a b) (g:=cT s a b) (fun _ _=>rfl)
 have e2:=aG (n:=C.m) (f:=cB s w pt b) (g:=cB s w' pt b) (fun i _=>(c2 i (fun h=>h) b).symm)
 have h1:=R.ct b;have h2:=R.cb b;unfold TC at *;rw [hh]
 exact ⟨by omega,fun h=>h2 (by omega)⟩
theorem Rel.weak (R:Rel E C s a w G pt) {G':Nat→Nat} (t:Nat) {d:D} (hE:Ext w G w G')
 (hT:∀ b,cT s a b t=0→G' b=G b) (hd:aU w G' pt d (a.tmps.getD t Go.undef)) (hn:t<E.n)
 (hc:∀ b,dP b d (a.tmps.getD t Go.undef)≤cT s a b t):Rel E C ((2*t,d)::s) a w G' pt:=by
 refine R.step (fun u=>u=t) (fun _=>False) (fun b=>0<cT s a b t) rfl R.df (fun u hu=>?_) (fun id _=>⟨by simp,rfl⟩) hE (fun _ _ _ h=>h)
  (fun b hb _=>⟨rfl,hT b (by omega)⟩) (fun b hb u hu=>R.tt hb hu) (fun b hb id _=>R.tb hb id) (fun b hb=>(R.cb b (mK hb (R.qZ b t))).2) (fun u hu=>?_) (fun id h=>h.elim) (fun c1 c2 b=>?_)
  (fun b hb=>?_) rfl rfl rfl (bT _)
 ·simp only [dQ,hu,if_false];exact ⟨trivial,trivial⟩
 ·subst hu;simp only [dQ,if_true];exact ⟨hn,hd⟩
 ·have e1:=dG (n:=E.n) (f:=cT s a b) (g:=cT ((2*t,d)::s) a b) hn (fun i hi=>c1 i hi b)
  have e2:=aG (n:=C.m) (f:=cB s w pt b) (g:=cB ((2*t,d)::s) w pt b) (fun i _=>(c2 i (fun h=>h) b).symm)
  have e3:cT ((2*t,d)::s) a b t=dP b d (a.tmps.getD t Go.undef):=by simp only [cT,dQ,if_true]
  have h1:=R.ct b;have h2:=R.cb b;have h3:=hc b;unfold TC at *
  exact ⟨by omega,fun h=>h2 (by omega)⟩
 ·rw [hT b ?_];exact R.gz b hb
  rcases Nat.eq_zero_or_pos (cT s a b t) with h | h
  ·exact h
  ·have:=(R.cb b (mK h (R.qZ b t))).1;omega
theorem Rel.Fu (R:Rel E C s a w G pt) (t:Nat) (wo:fZ (get s (2*t))=false) :
 ∃ G',Ext w G w G'∧Rel E C ((2*t,share (get s (2*t)))::s) a w G' pt∧aU w G' pt (share (get s (2*t))) (a.tmps.getD t Go.undef) ∧
  ∀ b,cT s a b t=0→G' b=G b:=by
 have h0:=R.tm t
 by_cases hn:t<E.n
 ·obtain ⟨e,h1⟩:=h0.share (fun b=>gX (R.qZ b t) (R.ct b)) wo
  refine ⟨NH G (get s (2*t)) (a.tmps.getD t Go.undef),e,R.weak t e (fun b hb=>uK hb) h1 hn (fun b=>?_),h1,fun b hb=>uK hb⟩
  rw [Jw];exact bT _
 ·have hu:=R.ht t (by omega)
  refine ⟨G,Ext.refl _ _,?_,by rw [hu];exact aU.undef _,fun _ _=>rfl⟩
  rw [hu];show Rel E C ((2*t,.undef)::s) a w G pt
  refine R.step (fun _=>False) (fun _=>False) (fun _=>False) rfl R.df (fun u _=>?_) (fun id _=>⟨by simp,rfl⟩) (Ext.refl _ _) (fun _ _ _ h=>h) (fun _ _ _=>⟨rfl,rfl⟩) (fun b h=>h.elim) (fun b h=>h.elim) (fun b h=>h.elim) (fun t h=>h.elim) (fun id h=>h.elim) (fun c1 c2 b=>?_) R.gz rfl rfl rfl (bT _)
  ·simp only [dQ]
   by_cases h:u=t
   ·subst h;simp [hu]
   ·simp [h]
  ·have e1:=aG (n:=E.n) (f:=cT s a b) (g:=cT ((2*t,.undef)::s) a b) (fun i _=>(c1 i (fun h=>h) b).symm)
   have e2:=aG (n:=C.m) (f:=cB s w pt b) (g:=cB ((2*t,.undef)::s) w pt b) (fun i _=>(c2 i (fun h=>h) b).symm)
   have h1:=R.ct b;have h2:=R.cb b;unfold TC at *
   exact ⟨by omega,fun h=>h2 (by omega)⟩
theorem Jy (v:Value):share (VP v)=VP v:=by
 unfold VP
 split<;>try rfl
 ·rename_i k n
  cases Yn k n<;>rfl
 ·rename_i s
  cases Nat.ble (lZ s).length nG<;>rfl
theorem sF {d:D} (h:oH d=false):share d=d:=by
 cases d with
 | agg cs=>simp only [share];rw [zP cs h]
 | sl f t l=>
  have h':Nat.beq f 2=false:=h;simp [share,bP,h']
 | _=>rfl
theorem xW {d:D} (h:gN d=false):strip d=d∧∀ b v,dP b d v=0:=by
 cases d with
 | agg cs=>
  obtain ⟨h1,h2⟩:=Lb cs h
  refine ⟨by simp only [strip];rw [h1],fun b v=>?_⟩
  cases v<;>first | rfl | exact h2 b _
 | iJ cs=>simp [gN] at h
 | sl f t l=>
  have:Nat.beq f 0=true:=by simpa [gN,Dc] using h
  have h0:=fD this;subst h0
  refine ⟨rfl,fun b v=>?_⟩
  cases v<;>try rfl
  rename_i a n c
  cases a<;>rfl
 | _=>exact ⟨rfl,fun b v=>by cases v<;>rfl⟩
theorem aJ (R:Rel E C s a w G pt) (x:Operand):aU w G pt (aV s x) (a.eval x):=by
 cases x with
 | tmp t=>exact R.tm t
 | global g=>rfl
 | func f=>exact (rfl:a.eval (.func f) = .func (.func f) #[] #[])
 | const v=>
  show aU w G pt (VP v) v;unfold VP;split
  ·rfl
  ·rename_i k n
   by_cases h:Yn k n=true
   ·rw [h]
    simp only [Yn,dA,mX] at h;exact ⟨rfl,h⟩
   ·simp only [Bool.not_eq_true] at h;rw [h];trivial
  ·rename_i s
   by_cases h:Nat.ble (lZ s).length nG=true
   ·rw [h];exact ⟨_,rfl,rfl,Ii h⟩
   ·simp only [Bool.not_eq_true] at h;rw [h];trivial
  ·rfl
  ·trivial
theorem Rel.Jz (R:Rel E C s a w G pt) (x:Operand) (wo:fZ (aV s x)=false) :
 ∃ G',Ext w G w G'∧Rel E C (au (dU s x share oH) s) a w G' pt∧aU w G' pt (view (aV s x)) (a.eval x)∧(∀ b,dP b (view (aV s x)) (a.eval x)=0) ∧
  aU w G' pt (share (aV s x)) (a.eval x):=by
 have hv:∀ b,dP b (view (aV s x)) (a.eval x)=0:=fun b=>uL b _ _ wo
 by_cases hx:∃ t,x = .tmp t
 ·obtain ⟨t,rfl⟩:=hx
  simp only [dU,aV] at wo hv ⊢
  cases hU:oH (get s (2*t)) with
  | true=>
   obtain ⟨G',e,h1,h2,_⟩:=R.Fu t wo;exact ⟨G',e,h1,h2.view wo,hv,h2⟩
  | false=>
   refine ⟨G,Ext.refl _ _,R,?_,hv,?_⟩
   ·have:=R.tm t
    rw [←sF hU] at this;exact this.view wo
   ·rw [sF hU];exact R.tm t
 ·have h1:dU s x share oH=[]:=by cases x<;>first | rfl | exact absurd ⟨_,rfl⟩ hx
  have h2:share (aV s x)=aV s x:=by
   cases x with
   | tmp t=>exact absurd ⟨_,rfl⟩ hx
   | const v=>
    exact Jy v
   | _=>rfl
  rw [h1,h2];have:=aJ R x;refine ⟨G,Ext.refl _ _,R,?_,hv,this⟩;rw [←h2] at this;exact this.view wo
end
theorem Lc (b:Nat) (v u:Value):dP b (VP v) u=0:=by
 unfold VP
 split<;>try (cases u<;>rfl)
 ·rename_i k n
  cases Yn k n<;>cases u<;>rfl
 ·rename_i s
  cases Nat.ble (lZ s).length nG<;>cases u<;>rfl
section
variable {E:Env} {C:Ctx} {s:St} {a:Act} {w:World} {G:Nat→Nat} {pt:Nat→Nat→Option Value}
theorem Rel.take (R:Rel E C s a w G pt) (x:Operand) (o:Oper) (ho:∀ t,o.dst=some t→t<E.n) {G':Nat→Nat} {d':D} {v':Value}
 (hE:Ext w G w G') (hG:∀ b,dP b (aV s x) (a.eval x)=0→G' b=G b) (hd:aU w G' pt d' v')
 (hc:∀ b,dP b d' v'≤dP b (aV s x) (a.eval x)) :
 Rel E C (au (dU s x strip gN++dN o d') s) (a.put o.dst v') w G' pt:=by
 have zero:(∀ b,dP b (aV s x) (a.eval x)=0)→dU s x strip gN=[] →
  Rel E C (au (dU s x strip gN++dN o d') s) (a.put o.dst v') w G' pt:=by
  intro h1 h2
  have hGG:G' = G:=funext fun b=>hG b (h1 b)
  subst hGG;rw [h2,List.nil_append]
  exact R.Fq o ho hd fun b=>by have:=hc b;have:=h1 b;omega
 cases x with
 | tmp tx=>
  cases hX:gN (get s (2*tx)) with
  | false=>exact zero (fun b=>(xW hX).2 b _) (by simp [dU,hX])
  | true=>
   have e1:dU s (.tmp tx) strip gN=[(2*tx,strip (get s (2*tx)))]:=by simp [dU,hX]
   rw [e1]
   have hxn:tx<E.n:=by
    rcases Nat.lt_or_ge tx E.n with h | h
    ·exact h
    ·have:=R.ht tx h;rw [this] at hX;simp [gN,Dc] at hX
   simp only [aV] at hc hG
   have T9:∀ b,dP b d' v'≤cT s a b tx:=hc
   have DY:∀ b,cT s a b tx=0→G' b=G b:=hG
   -- the source alone
   have hEs:aU w G' pt (strip (get s (2*tx))) (a.tmps.getD tx Go.undef):=by
    refine aU.mono (pt:=pt) hE (fun _ _ _ h=>h) (R.tm tx).strip fun b hb=>?_
    rw [vZ] at hb;omega
   cases Yp:o.dst with
   | none=>
    rw [wm Yp]
    exact R.weak tx hE DY hEs hxn fun b=>by rw [vZ];exact mY _
   | some t=>
    rw [kV Yp];have Dg:=ho t Yp
    have qD:t<a.tmps.size:=by rw [R.sz];exact Dg
    show Rel E C ((2*t,d')::(2*tx,strip (get s (2*tx)))::s) (a.put (some t) v') w G' pt
    refine R.step (fun u=>u=t∨u=tx) (fun _=>False) (fun b=>0<cT s a b tx) (by simp) (by simpa using R.df) (fun u hu=>?_) (fun id _=>⟨by simp,rfl⟩) hE (fun _ _ _ h=>h)
     (fun b hb _=>⟨rfl,DY b (by omega)⟩) (fun b hb u hu=>R.tt hb (fun h=>hu (.inr h))) (fun b hb id _=>R.tb hb id) (fun b hb=>(R.cb b (mK hb (R.qZ b tx))).2)
     (fun u hu=>?_) (fun id h=>h.elim) (fun c1 c2 b=>?_) (fun b hb=>?_) rfl rfl rfl (bT _)
    ·have h1:u≠t:=fun h=>hu (.inl h)
     have h2:u≠tx:=fun h=>hu (.inr h)
     simp only [dQ,h1,h2,if_false];rw [jO a t u v' qD,if_neg h1];exact ⟨trivial,rfl⟩
    ·by_cases h1:u=t
     ·subst h1
      refine ⟨Dg,?_⟩;simp only [dQ,if_true];rw [jO a u u v' qD,if_pos rfl];exact hd
     ·have h2:u=tx:=hu.resolve_left h1
      subst h2;refine ⟨hxn,?_⟩;simp only [dQ,h1,if_false,if_true];rw [jO a t u v' qD,if_neg h1];exact hEs
    ·have q2:=aG (n:=C.m) (f:=cB s w pt b) (g:=cB ((2*t,d')::(2*tx,strip (get s (2*tx)))::s) w pt b) (fun i _=>(c2 i (fun h=>h) b).symm)
     have q3:cT ((2*t,d')::(2*tx,strip (get s (2*tx)))::s) (a.put (some t) v') b t=dP b d' v':=by
      simp only [cT,dQ,if_true];rw [jO a t t v' qD,if_pos rfl]
     have h1:=R.ct b;have h2:=R.cb b;have h3:=T9 b
     by_cases htx:tx=t
     ·subst htx
      have q1:=dG (n:=E.n) (f:=cT s a b) (g:=cT ((2*tx,d')::(2*tx,strip (get s (2*tx)))::s) (a.put (some tx) v') b) Dg (fun i hi=>c1 i (by simp [hi]) b)
      unfold TC at *
      exact ⟨by omega,fun h=>h2 (by omega)⟩
     ·have q1:=qY (n:=E.n) (f:=cT s a b) (g:=cT ((2*t,d')::(2*tx,strip (get s (2*tx)))::s) (a.put (some t) v') b) Dg hxn (Ne.symm htx) (fun i hi hj=>c1 i (by simp [hi,hj]) b)
      have q4:cT ((2*t,d')::(2*tx,strip (get s (2*tx)))::s) (a.put (some t) v') b tx=0:=by
       simp only [cT,dQ,htx,if_false,if_true];rw [jO a t tx v' qD,if_neg htx];exact vZ _ _ _
      unfold TC at *
      exact ⟨by omega,fun h=>h2 (by omega)⟩
    ·rw [DY b ?_];exact R.gz b hb
     rcases Nat.eq_zero_or_pos (cT s a b tx) with h | h
     ·exact h
     ·have:=(R.cb b (mK h (R.qZ b tx))).1;omega
 | const v=>exact zero (fun b=>Lc b v _) rfl
 | global g=>exact zero (fun b=>rfl) rfl
 | func f=>exact zero (fun b=>rfl) rfl
end
def fB (P:Program) (E:Env) (C:Ctx) (o:Oper) (a:Act) (w:World) (s':St):Prop:=
 ∃ v w' G' bC,((execOp a.eval o).run P w = .ok (.value v) w'∨(execOp a.eval o).run P w = .ok .skip w'∧v=Go.undef)∧Rel E C s' (a.put o.dst v) w' G' bC
section
variable {P:Program} {E:Env} {C:Ctx} {s:St} {a:Act} {w:World} {G:Nat→Nat} {pt:Nat→Nat→Option Value} {o:Oper} {u:St}
theorem Y9 (R:Rel E C s a w G pt) (ho:∀ t,o.dst=some t→t<E.n) (x:Operand) (aY:o.op = .move x)
 (h:K9 E o s x=some (true,u)):fB P E C o a w (au u s):=by
 have bB:(execOp a.eval o).run P w = .ok (.value (a.eval x)) w:=by simp [execOp,aY]
 simp only [K9] at h
 cases hc:(Nat.beq (tag E o) 1 || fZ (aV s x)) with
 | true=>
  rw [hc] at h;simp only [aQ,bn,gD,true_and] at h;subst h
  exact ⟨_,w,G,pt,.inl bB,R.take x o ho (Ext.refl _ _) (fun _ _=>rfl) (aJ R x) (fun _=>bT _)⟩
 | false=>
  rw [hc] at h;simp only [bJ,bn,gD,true_and] at h;subst h
  have wo:fZ (aV s x)=false:=by simp only [Bool.or_eq_false_iff] at hc;exact hc.2
  obtain ⟨G',e,h1,h2,h3,_⟩:=R.Jz x wo;rw [bg];exact ⟨_,w,G',pt,.inl bB,h1.Fq o ho h2 h3⟩
end
section
variable {E:Env} {C:Ctx} {s:St} {a:Act} {w:World} {G:Nat→Nat} {pt:Nat→Nat→Option Value}
theorem Rel.Za (R:Rel E C s a w G pt) (t:Nat) (hn:t<E.n) {d:D} (hd:aU w G pt d (a.tmps.getD t Go.undef)) (hc:∀ b,dP b d (a.tmps.getD t Go.undef)=0) :
 Rel E C ((2*t,d)::s) a w G pt ∧
  ∀ b,TC E.n C.m ((2*t,d)::s) a w pt b+cT s a b t=TC E.n C.m s a w pt b:=by
 refine ⟨R.weak t (Ext.refl _ _) (fun _ _=>rfl) hd hn fun b=>by rw [hc];exact mY _,fun b=>?_⟩
 have e1:=dG (n:=E.n) (f:=cT s a b) (g:=cT ((2*t,d)::s) a b) hn (fun i hi=>by simp only [cT,dQ,hi,if_false])
 have e2:=aG (n:=C.m) (f:=cB s w pt b) (g:=cB ((2*t,d)::s) w pt b) (fun i _=>by simp only [cB,kF])
 have e3:cT ((2*t,d)::s) a b t=0:=by simp only [cT,dQ,if_true];exact hc b
 unfold TC;omega
theorem xX (R:Rel E C s a w G pt) {t:Nat} (h:gN (get s (2*t))=true):t<E.n:=by
 rcases Nat.lt_or_ge t E.n with h1 | h1
 ·exact h1
 ·rw [R.ht t h1] at h;simp [gN,Dc] at h
theorem fT (R:Rel E C s a w G pt) {id:Nat} (h:get s (2*id+1)≠.undef):id<C.m:=by
 rcases Nat.lt_or_ge id C.m with h1 | h1
 ·exact h1
 ·exact absurd (R.hb id h1) h
theorem Rel.qE (R:Rel E C s a w G pt) (x:Operand) :
 Rel E C (au (dU s x strip gN) s) a w G pt ∧
  ∀ b,TC E.n C.m (au (dU s x strip gN) s) a w pt b+dP b (aV s x) (a.eval x)=TC E.n C.m s a w pt b:=by
 cases x with
 | tmp t=>
  cases hX:gN (get s (2*t)) with
  | true=>
   have e1:dU s (.tmp t) strip gN=[(2*t,strip (get s (2*t)))]:=by simp [dU,hX]
   rw [e1]
   exact R.Za t (xX R hX) (R.tm t).strip fun b=>vZ _ _ _
  | false=>
   have e1:dU s (.tmp t) strip gN=[]:=by simp [dU,hX]
   rw [e1]
   exact ⟨R,fun b=>by rw [show dP b (aV s (.tmp t)) _=0 from (xW hX).2 b _];rfl⟩
 | const v=>exact ⟨R,fun b=>by rw [show dP b (aV s (.const v)) _=0 from Lc b v _];rfl⟩
 | _=>exact ⟨R,fun b=>rfl⟩
theorem Rel.held (R:Rel E C s a w G pt) (x:Operand) {b:Nat} (h:0<dP b (aV s x) (a.eval x)) :
 b<w.heap.size∧(C.w0.heap.size≤b∨C.X b):=by
 cases x with
 | tmp t=>exact R.cb b (mK h (R.qZ b t))
 | const v=>rw [show dP b (aV s (.const v)) _=0 from Lc b v _] at h;omega
 | global g=>exact absurd h (by simp [aV,dP,dS])
 | func f=>exact absurd h (by show ¬ 0<dP b (.BG f) _;rw [show dP b (.BG f) (a.eval (.func f))=0 from rfl];omega)
theorem Rel.put (R:Rel E C s a w G pt) (o:Oper) (ho:∀ t,o.dst=some t→t<E.n) {w':World} {G':Nat→Nat} {d':D} {v':Value}
 (T:Nat→Prop) (hE:Ext w G w' G') (hT:∀ b,¬ T b→b<w.heap.size→w'.heap[b]? = w.heap[b]?∧G' b=G b)
 (h0:∀ b,T b→TC E.n C.m s a w pt b=0∧(C.w0.heap.size≤b∨C.X b)) (hd:aU w' G' pt d' v')
 (hc:∀ b,dP b d' v'≤1∧(0<dP b d' v'→TC E.n C.m s a w pt b=0∧b<w'.heap.size∧(C.w0.heap.size≤b∨C.X b)))
 (Ik:∀ b,w'.heap.size≤b→G' b=0) (Y5:w'.os=w.os) (sD:w'.output=w.output) (Y6:w'.tape=w.tape) (Y7:w.heap.size≤w'.heap.size) :
 Rel E C (au (dN o d') s) (a.put o.dst v') w' G' pt:=by
 have z1:∀ b,T b→∀ t,cT s a b t=0:=fun b hb t=>by have:=R.qZ b t;have:=(h0 b hb).1;omega
 have z2:∀ b,T b→∀ id,cB s w pt b id=0:=fun b hb id=>by have:=R.jq b id;have:=(h0 b hb).1;omega
 cases Yp:o.dst with
 | none=>
  rw [wm Yp]
  refine R.step (fun _=>False) (fun _=>False) T (by simp) (by simpa using R.df) (fun _ _=>⟨rfl,rfl⟩) (fun _ _=>⟨rfl,rfl⟩) hE (fun _ _ _ h=>h) hT (fun b hb t _=>z1 b hb t) (fun b hb id _=>z2 b hb id)
   (fun b hb=>(h0 b hb).2) (fun t h=>h.elim) (fun id h=>h.elim) (fun c1 c2 b=>?_) Ik Y5 sD Y6 Y7
  have e1:=aG (n:=E.n) (f:=cT s a b) (g:=cT s (a.put none v') b) (fun _ _=>rfl)
  have e2:=aG (n:=C.m) (f:=cB s w pt b) (g:=cB s w' pt b) (fun i _=>(c2 i (fun h=>h) b).symm)
  have h1:=R.ct b;have h2:=R.cb b;show TC E.n C.m s (a.put none v') w' pt b≤1∧(0<TC E.n C.m s (a.put none v') w' pt b→_);unfold TC at *
  exact ⟨by omega,fun h=>⟨mK (h2 (by omega)).1 Y7,(h2 (by omega)).2⟩⟩
 | some t=>
  rw [kV Yp];have Dg:=ho t Yp
  have qD:t<a.tmps.size:=by rw [R.sz];exact Dg
  show Rel E C ((2*t,d')::s) (a.put (some t) v') w' G' pt
  refine R.step (fun u=>u=t) (fun _=>False) T (by simp) (by simpa using R.df) (fun u hu=>?_) (fun id _=>⟨by simp,rfl⟩) hE (fun _ _ _ h=>h) hT (fun b hb t _=>z1 b hb t) (fun b hb id _=>z2 b hb id)
   (fun b hb=>(h0 b hb).2) (fun u hu=>?_) (fun id h=>h.elim) (fun c1 c2 b=>?_) Ik Y5 sD Y6 Y7
  ·simp only [dQ,hu,if_false]
   rw [jO a t u v' qD,if_neg hu];exact ⟨trivial,rfl⟩
  ·subst hu
   refine ⟨Dg,?_⟩;simp only [dQ,if_true];rw [jO a u u v' qD,if_pos rfl];exact hd
  ·have e1:=dG (n:=E.n) (f:=cT s a b) (g:=cT ((2*t,d')::s) (a.put (some t) v') b) Dg (fun i hi=>c1 i hi b)
   have e2:=aG (n:=C.m) (f:=cB s w pt b) (g:=cB ((2*t,d')::s) w' pt b) (fun i _=>(c2 i (fun h=>h) b).symm)
   have e3:cT ((2*t,d')::s) (a.put (some t) v') b t=dP b d' v':=by
    simp only [cT,dQ,if_true];rw [jO a t t v' qD,if_pos rfl]
   have h1:=R.ct b;have h2:=R.cb b;have h3:=hc b;unfold TC at *
   rcases Nat.eq_zero_or_pos (dP b d' v') with h4 | h4
   ·exact ⟨by omega,fun h=>⟨mK (h2 (by omega)).1 Y7,(h2 (by omega)).2⟩⟩
   ·have h5:=h3.2 h4
    exact ⟨by omega,fun _=>h5.2⟩
def bG (pt:Nat→Nat→Option Value) (id st:Nat) (v:Value):Nat→Nat→Option Value:=
 fun i j=>if i=id∧j=st then some v else pt i j
theorem Rel.xY (R:Rel E C s a w G pt) (t:Nat) (Dg:t<E.n) (hm:E.n≤C.m) {w':World} {G':Nat→Nat} {dB d':D} {pv v':Value}
 (hE:Ext w G w' G') (hT:∀ b,b<w.heap.size→w'.heap[b]? = w.heap[b]?∧G' b=G b)
 (hd:aU w' G' (bG pt t (aL (get s (2*t+1))+1) pv) d' v') (Yp:∀ b,dP b d' v' = 0)
 (hB:pK w' G' (bG pt t (aL (get s (2*t+1))+1) pv) t dB) (gG:aL dB=aL (get s (2*t+1))+1)
 (hc:∀ b,gY w' (bG pt t (aL (get s (2*t+1))+1) pv) b t dB≤1∧(0<gY w' (bG pt t (aL (get s (2*t+1))+1) pv) b t dB →
  TC E.n C.m s a w pt b=0∧b<w'.heap.size∧(C.w0.heap.size≤b∨C.X b)))
 (Ik:∀ b,w'.heap.size≤b→G' b=0) (Y5:w'.os=w.os) (sD:w'.output=w.output) (Y6:w'.tape=w.tape) (Y7:w.heap.size≤w'.heap.size) :
 Rel E C ((2*t,d')::(2*t+1,dB)::s) (a.put (some t) v') w' G' (bG pt t (aL (get s (2*t+1))+1) pv):=by
 have qD:t<a.tmps.size:=by rw [R.sz];exact Dg
 generalize aBS:aL (get s (2*t+1))+1=st at *
 have Le:∀ j,st≤j→pt t j=none:=fun j hj=>R.pf t j (by omega)
 have nQ:∀ i j v,pt i j=some v→bG pt t st pv i j=some v:=by
  intro i j v h;unfold bG;rw [if_neg]
  ·exact h
  ·rintro ⟨rfl,rfl⟩
   rw [Le j (bT _)] at h;cases h
 refine R.step (fun u=>u=t) (fun i=>i=t) (fun _=>False) (by simp) (by simpa using R.df) (fun u hu=>?_) (fun id hid=>?_) hE nQ (fun b _ hb=>hT b hb) (fun b h=>h.elim) (fun b h=>h.elim) (fun b h=>h.elim)
  (fun u hu=>?_) (fun id hid=>?_) (fun c1 c2 b=>?_) Ik Y5 sD Y6 Y7
 ·simp only [dQ,get_bt,hu,if_false]
  rw [jO a t u v' qD,if_neg hu];exact ⟨trivial,rfl⟩
 ·simp only [kF,aW,hid,if_false]
  exact ⟨trivial,funext fun j=>by simp [bG,hid]⟩
 ·subst hu
  refine ⟨Dg,?_⟩;simp only [dQ,if_true];rw [jO a u u v' qD,if_pos rfl];exact hd
 ·subst hid
  simp only [kF,aW,if_true]
  refine ⟨by omega,hB,fun j hj=>?_⟩
  rw [gG] at hj;unfold bG
  rw [if_neg (by omega)]
  exact Le j (by omega)
 ·have e1:=dG (n:=E.n) (f:=cT s a b) (g:=cT ((2*t,d')::(2*t+1,dB)::s) (a.put (some t) v') b) Dg (fun i hi=>c1 i hi b)
  have e2:=dG (n:=C.m) (f:=cB s w pt b) (g:=cB ((2*t,d')::(2*t+1,dB)::s) w' (bG pt t st pv) b) (x:=t) (by omega) (fun i hi=>c2 i hi b)
  have e3:cT ((2*t,d')::(2*t+1,dB)::s) (a.put (some t) v') b t=0:=by
   simp only [cT,dQ,if_true];rw [jO a t t v' qD,if_pos rfl];exact Yp b
  have e4:cB ((2*t,d')::(2*t+1,dB)::s) w' (bG pt t st pv) b t=gY w' (bG pt t st pv) b t dB:=by
   simp only [cB,kF,aW,if_true]
  have h1:=R.ct b;have h2:=R.cb b;have h3:=hc b;unfold TC at *
  rcases Nat.eq_zero_or_pos (gY w' (bG pt t st pv) b t dB) with h4 | h4
  ·exact ⟨by omega,fun h=>⟨mK (h2 (by omega)).1 Y7,(h2 (by omega)).2⟩⟩
  ·have h5:=h3.2 h4
   exact ⟨by omega,fun _=>h5.2⟩
end
section
variable {P:Program} {E:Env} {C:Ctx} {s:St} {a:Act} {w:World} {G:Nat→Nat} {pt:Nat→Nat→Option Value} {o:Oper} {u:St}
theorem xZ {t:Ty} {d:D} {v:Value} (h:aU w G pt d v):aU w G pt (dW t d) v∧∀ b,dP b (dW t d) v=dP b d v:=by
 cases d with
 | lS=>
  have h':v = .slice none 0 0:=h;subst h'
  cases t<;>try exact ⟨h,fun _=>rfl⟩
  refine ⟨⟨none,0,0,rfl,rfl,by simp,.inl ⟨rfl,rfl,rfl⟩⟩,fun _=>rfl⟩
 | _=>exact ⟨h,fun _=>rfl⟩
theorem QO {t:Ty} {d:D} (h:fZ (dW t d)=false):fZ d=false:=by
 cases d<;>first | rfl | exact h
theorem VU (R:Rel E C s a w G pt) (hm:E.n≤C.m) (ho:∀ t,o.dst=some t→t<E.n) (x:Operand) (aY:o.op = .assign x)
 (h:vR E o s x=some (true,u)):fB P E C o a w (au u s):=by
 have bB:(execOp a.eval o).run P w = .ok (.value (a.eval x)) w:=by simp [execOp,aY]
 simp only [vR] at h
 cases hT:fZ (dW (pO E o.type) (aV s x)) with
 | true=>simp [hT] at h
 | false=>
  rw [hT] at h;simp only [bJ] at h;have zS:=aJ R x;obtain ⟨q1,q2⟩:=xZ (t:=pO E o.type) zS;split at h
  ·-- yc
   simp only [bn,gD,true_and] at h;subst h
   exact ⟨_,w,G,pt,.inl bB,R.take x o ho (Ext.refl _ _) (fun _ _=>rfl) q1 (fun b=>by rw [q2];exact bT _)⟩
  ·-- the default
   simp only [bn,gD,true_and] at h;subst h
   have hc:∀ b,dP b (dW (pO E o.type) (aV s x)) (a.eval x)≤1:=by
    intro b;rw [q2];have h1:=(R.qE x).2 b;have h2:=R.ct b;omega
   obtain ⟨e,h1⟩:=q1.share hc hT
   exact ⟨_,w,_,pt,.inl bB,R.take x o ho e (fun b hb=>uK (by rw [q2];exact hb)) h1 (fun b=>by rw [Jw,q2];exact bT _)⟩
end
def wu:Ty→List Ty
 | .unit=>[]
 | .cons a b=>wu a++wu b
 | .st _ c=>wu c
 | t=>[t]
def tyP (P:Program):Nat→TypeId→Ty
 | 0,_=>.unit
 | n+1,T=>match P.underlying T with
  | some (.int k)=>.int k
  | some .bool=>.bool
  | some .string=>.str
  | some (.slice e)=>.sl (tyP P n e)
  | some (.struct fs)=>.st (((P.info? T).map (·.bytes)).getD 0) (fs.toList.foldr (fun f r=>.cons (tyP P n f.type) r) .unit)
  | some (.array len e)=>.st (((P.info? T).map (·.bytes)).getD 0) ((List.replicate len e).foldr (fun e r=>.cons (tyP P n e) r) .unit)
  | _=>.unit
def zD:Value→Ty→D
 | .int k n,_=>bif Yn k n then .int k n else .undef
 | .bool b,_=>.bool b
 | .string s,_=>bif Nat.ble (lZ s).length nG then .str (lZ s) else .undef
 | .slice none 0 0,.sl t=>.sl 2 t []
 | .slice none 0 0,_=>.lS
 | _,_=>.undef
def Ua:List Value→List Ty→List D
 | [],_=>[]
 | v::r,[]=>zD v .unit::Ua r []
 | v::r,t::ts=>zD v t::Ua r ts
def NI (k:IntKind):List Ty→Bool
 | []=>true
 | .int k'::r=>mZ k k' && NI k r
 | _::_=>false
def kG:TypeDesc→Bool
 | .struct _ | .array _ _=>true
 | _=>false
def look:List (Nat×List Nat)→Nat→Option (List Nat)
 | [],_=>none
 | (t,ks)::r,T=>bif Nat.beq T t then some ks else look r T
def VW (P:Program) (cl:List (Nat×List Nat)) (T:TypeId):Option TI:=
 match P.info? T,P.underlying T with
 | some pi,some d=>match pi.zero with
  | some z=>
   let ty:=tyP P 12 T
   bif Nat.beq z.cells.size pi.size&&(kG d || Nat.beq pi.size 1)&&z.cells.all (·.oneCell') then
   some { size:=pi.size,bytes:=pi.bytes,agg:=kG d,ty:=ty,desc:=d,zero:=Ua z.cells.toList (wu ty),
          arr:=match d,wu ty with
           | .array _ e,.int k::r=>bif NI k r then some (.int k) else some (tyP P 11 e)
           | .array _ e,_=>some (tyP P 11 e)
           | _,_=>none
          cmp:=look cl T } else none
  | none=>none
 | _,_=>none
structure Zb (P:Program) (T:TypeId) (i:TI):Prop where
 info:∃ pi z,P.info? T=some pi∧pi.size=i.size∧pi.bytes=i.bytes∧pi.zero=some z∧z.cells.size=i.size∧i.zero.length=i.size ∧
  (∀ j,j<i.size→(aS z.cells j).oneCell' = true) ∧
  ∀ j (h:j<i.zero.length),(∀ w G pt,bF w G pt i.zero[j] (aS z.cells j))∧∀ b,dS b i.zero[j] (aS z.cells j)=0
 und:P.underlying T=some i.desc
 agg:i.agg=kG i.desc
 one:i.agg=false→i.size=1
theorem aga (v:Value) (t:Ty):(∀ w G pt,bF w G pt (zD v t) v)∧∀ b,dS b (zD v t) v=0:=by
 cases v with
 | int k n=>
  show (∀ w G pt,bF w G pt (bif Yn k n then .int k n else .undef) _)∧∀ b,dS b (bif Yn k n then .int k n else .undef) _=0
  by_cases h:Yn k n=true
  ·rw [h]
   simp only [Yn,dA,mX] at h
   exact ⟨fun _ _ _=>⟨rfl,h⟩,fun _=>rfl⟩
  ·simp only [Bool.not_eq_true] at h;rw [h];exact ⟨fun _ _ _=>trivial,fun _=>rfl⟩
 | bool b=>exact ⟨fun _ _ _=>rfl,fun _=>rfl⟩
 | string s=>
  show (∀ w G pt,bF w G pt (bif Nat.ble (lZ s).length nG then .str (lZ s) else .undef) _)∧∀ b,dS b (bif Nat.ble (lZ s).length nG then .str (lZ s) else .undef) _=0
  by_cases h:Nat.ble (lZ s).length nG=true
  ·rw [h];exact ⟨fun _ _ _=>⟨_,rfl,rfl,Ii h⟩,fun _=>rfl⟩
  ·simp only [Bool.not_eq_true] at h;rw [h];exact ⟨fun _ _ _=>trivial,fun _=>rfl⟩
 | slice a n c=>
  unfold zD;split
  ·rename_i h;cases h
  ·rename_i h;cases h
  ·rename_i h;cases h
  ·rename_i h;cases h;exact ⟨fun _ _ _=>⟨none,0,0,rfl,rfl,by simp,.inl ⟨rfl,rfl,rfl⟩⟩,fun _=>rfl⟩
  ·rename_i h _;cases h;exact ⟨fun _ _ _=>rfl,fun _=>rfl⟩
  ·exact ⟨fun _ _ _=>trivial,fun _=>rfl⟩
 | _=>exact ⟨fun _ _ _=>trivial,fun _=>rfl⟩
theorem QS:∀ (vs:List Value) (ts:List Ty),(Ua vs ts).length=vs.length ∧
 ∀ j (h:j<(Ua vs ts).length),(∀ w G pt,bF w G pt (Ua vs ts)[j] (vs.getD j undef))∧∀ b,dS b (Ua vs ts)[j] (vs.getD j undef)=0
 | [],_=>⟨rfl,fun j h=>by simp [Ua] at h⟩
 | v::r,[]=>by
  obtain ⟨h1,h2⟩:=QS r []
  refine ⟨by simp [Ua,h1],fun j h=>?_⟩
  match j,h with
  | 0,_=>exact aga v .unit
  | j+1,h=>simpa [Ua] using h2 j (by simpa [Ua] using h)
 | v::r,t::ts=>by
  obtain ⟨h1,h2⟩:=QS r ts
  refine ⟨by simp [Ua,h1],fun j h=>?_⟩
  match j,h with
  | 0,_=>exact aga v t
  | j+1,h=>simpa [Ua] using h2 j (by simpa [Ua] using h)
theorem adK {P:Program} {cl:List (Nat×List Nat)} {T:TypeId} {i:TI} (h:VW P cl T=some i):Zb P T i:=by
 unfold VW at h;split at h
 ·rename_i pi d hi hu
  split at h
  ·rename_i z hz
   cases hb:(Nat.beq z.cells.size pi.size&&(kG d || Nat.beq pi.size 1)&&z.cells.all (·.oneCell')) with
   | false=>simp [hb] at h
   | true=>
    simp only [hb,aQ,bn] at h;subst h;simp only [dA,Bool.or_eq_true] at hb;obtain ⟨⟨h1,h2⟩,h3⟩:=hb;have BA:=fD h1;obtain ⟨q1,q2⟩:=QS z.cells.toList (wu (tyP P 12 T))
    refine ⟨⟨pi,z,hi,rfl,rfl,hz,BA,by simp [q1,BA],fun j hj=>?_,fun j hj=>?_⟩,hu,rfl,fun ha=>?_⟩
    ·have nR:j<z.cells.size:=by rw [BA];exact hj
     have:=Array.all_eq_true.1 h3 j nR
     simpa [aS,xE,nR] using this
    ·have:=q2 j hj
     have e:aS z.cells j=z.cells.toList.getD j undef:=by simp [aS,xE,iW]
     rw [e];exact this
    ·rcases h2 with h2 | h2
     ·rw [h2] at ha;cases ha
     ·exact fD h2
  ·cases h
 ·cases h
theorem jg (k:IntKind) (n:Int):k.has (k.wrap n):=by
 have key:∀ m:Int,0<m→0≤n%m∧n%m<m:=fun m hm=>⟨Int.emod_nonneg _ (by omega),Int.emod_lt_of_pos _ hm⟩
 cases k<;>simp only [IntKind.has,IntKind.wrap,IntKind.min,IntKind.max,IntKind.bits,IntKind.signed]<;>simp<;>(try split)<;>omega
theorem zT {x y:Int} (hx:0≤x) (hy:0<y):x%y≤x:=by
 rw [Int.emod_def];have:=Int.mul_nonneg (Int.le_of_lt hy) (Int.ediv_nonneg hx (Int.le_of_lt hy));omega
theorem Zc {k:IntKind} {x:Int} (y:Int) (h:k.has x):k.has (x.tmod y):=by
 have h1:x.tmod y≤x∨x.tmod y≤0:=by
  rcases Int.le_total 0 x with hx | hx
  ·left
   rw [Int.tmod_eq_emod_of_nonneg hx]
   rcases Int.lt_trichotomy y 0 with hy | hy | hy
   ·rw [←Int.emod_neg]
    exact zT hx (by omega)
   ·subst hy;simp
   ·exact zT hx (by omega)
  ·right
   have:=Int.neg_tmod (-x) y;rw [Int.neg_neg] at this;rw [this]
   have:=Int.tmod_nonneg y (show 0≤-x by omega)
   omega
 have h2:x≤x.tmod y∨0≤x.tmod y:=by
  rcases Int.le_total 0 x with hx | hx
  ·right;exact Int.tmod_nonneg y hx
  ·left
   have:=Int.neg_tmod (-x) y;rw [Int.neg_neg] at this;rw [this]
   have:(-x).tmod y≤-x:=by
    have zU:0≤-x:=by omega
    rw [Int.tmod_eq_emod_of_nonneg zU]
    rcases Int.lt_trichotomy y 0 with hy | hy | hy
    ·rw [←Int.emod_neg]
     exact zT zU (by omega)
    ·subst hy;simp
    ·exact zT zU (by omega)
   omega
 have atG:k.min≤0:=by cases k<;>simp [IntKind.min,IntKind.bits,IntKind.signed]
 have atH:0≤k.max:=by cases k<;>simp [IntKind.max,IntKind.bits,IntKind.signed]
 unfold IntKind.has at *;omega
theorem Zd {k:IntKind} {x:Int} (m:Nat) (h:k.has x):k.has (x.fdiv (2 ^ m)):=by
 have hp:(0:Int)<2 ^ m:=Int.pow_pos (by omega)
 rw [Int.fdiv_eq_ediv_of_nonneg _ (by omega)]
 have h1:0≤x→x / 2 ^ m≤x∧0≤x / 2 ^ m:=fun hx=>⟨Int.ediv_le_self _ hx,Int.ediv_nonneg hx (by omega)⟩
 have h2:x<0→x≤x / 2 ^ m∧x / 2 ^ m<0:=fun hx=>⟨by
  rw [Int.le_ediv_iff_mul_le hp]
  have:x*2 ^ m≤x*1:=Int.mul_le_mul_of_nonpos_left (by omega) (by omega)
  omega,Int.ediv_neg_of_neg_of_pos hx hp⟩
 have atG:k.min≤0:=by cases k<;>simp [IntKind.min,IntKind.bits,IntKind.signed]
 have atH:0≤k.max:=by cases k<;>simp [IntKind.max,IntKind.bits,IntKind.signed]
 unfold IntKind.has at *
 by_cases hx:x<0
 ·have:=h2 hx;omega
 ·have:=h1 (by omega);omega
section
variable {P:Program} {E:Env} {C:Ctx} {s:St} {a:Act} {w:World} {G:Nat→Nat} {pt:Nat→Nat→Option Value} {o:Oper} {u:St} {xT:Nat}
theorem pure_ok (R:Rel E C s a w G pt) (ho:∀ t,o.dst=some t→t<E.n) {v:Value} {d:D} (bB:(execOp a.eval o).run P w = .ok (.value v) w)
 (hd:aU w G pt d v) (hc:∀ b,dP b d v=0):fB P E C o a w (au (dN o d) s):=
 ⟨v,w,G,pt,.inl bB,R.Fq o ho hd hc⟩
theorem NJ (R:Rel E C s a w G pt) (ho:∀ t,o.dst=some t→t<E.n) (x:Operand) (aY:o.op = .nilCheck x)
 (h:oo o s x=some (true,u)):fB P E C o a w (au u s):=by
 simp only [oo] at h
 cases hp:TU (aV s x) with
 | false=>simp [hp] at h
 | true=>
  rw [hp] at h;simp only [aQ,bn,gD,true_and] at h;subst h;have hr:=aJ R x
  have bB:(execOp a.eval o).run P w = .ok (.value (a.eval x)) w:=by
   cases hd:aV s x<;>rw [hd] at hp hr<;>simp only [TU,xD] at hp
   ·obtain ⟨b,_,hv⟩:=hr;simp [execOp,aY,hv]
   ·obtain ⟨b,_,hv⟩:=hr;simp [execOp,aY,hv]
   ·have hv:a.eval x = .pointer _:=hr;simp [execOp,aY,hv]
   ·obtain ⟨b,_,hv,_⟩:=hr;simp [execOp,aY,hv]
   ·obtain ⟨arr,hv,_⟩:=hr;simp [execOp,aY,hv]
   ·have hv:a.eval x = .func _ #[] #[]:=hr;simp [execOp,aY,hv]
   ·obtain ⟨b,_,hv,_⟩:=hr;simp [execOp,aY,hv]
  refine pure_ok R ho bB hr fun b=>?_
  cases hd:aV s x<;>rw [hd] at hp<;>simp only [TU,xD] at hp<;>cases a.eval x<;>rfl
theorem VX (op:BinOp) (xT:Nat) (x y:Operand) (yT:Nat) (aY:o.op = .binOp op xT x y yT) {v:Value}
 (hg:(eqGuard op xT x y (a.eval x) (a.eval y)).run P w = .ok () w) (hb:(binOp op xT (a.eval x) (a.eval y)).run P w = .ok v w) :
 (execOp a.eval o).run P w = .ok (.value v) w:=by
 simp [execOp,aY,hg,hb]
theorem BP (op:BinOp) (xT:Nat) (x y:Operand) {p q:Value} (h:∀ cs,p≠.agg cs) (h2:p≠.nilIface):(eqGuard op xT x y p q).run P w = .ok () w:=by
 unfold eqGuard
 cases op<;>simp<;>split<;>first | rfl | exact absurd rfl h2 | exact absurd rfl (h _)
theorem Ze {op:BinOp} {k:IntKind} {x y:Int} {d:D} (hx:k.has x) (h:arith op k x y=some (true,d)) :
 ∃ v,(binOp op xT (.int k x) (.int k y)).run P w = .ok v w∧aU w G pt d v∧∀ b,dP b d v=0:=by
 cases op<;>simp only [arith,bn,gD,true_and,reduceCtorEq,Bool.not_eq_true',beq_eq_false_iff_ne,ne_eq] at h
 ·subst h;exact ⟨.int k (k.wrap (x+y)),by simp [binOp,Op.intArith],⟨rfl,jg _ _⟩,fun _=>rfl⟩
 ·subst h;exact ⟨.int k (k.wrap (x - y)),by simp [binOp,Op.intArith],⟨rfl,jg _ _⟩,fun _=>rfl⟩
 ·subst h;exact ⟨.int k (k.wrap (x*y)),by simp [binOp,Op.intArith],⟨rfl,jg _ _⟩,fun _=>rfl⟩
 ·obtain ⟨h0,h⟩:=h;subst h;exact ⟨.int k (k.wrap (x.tdiv y)),by simp [binOp,Op.intDiv,h0],⟨rfl,jg _ _⟩,fun _=>rfl⟩
 ·obtain ⟨h0,h⟩:=h;subst h;exact ⟨.int k (x.tmod y),by simp [binOp,Op.intDiv,h0],⟨rfl,Zc _ hx⟩,fun _=>rfl⟩
 ·subst h;refine ⟨.int k (k.wrap (BitVec.ofInt k.bits x &&& BitVec.ofInt k.bits y).toNat),?_,⟨rfl,jg _ _⟩,fun _=>rfl⟩;simp [binOp,Op.intBits]
 ·subst h;refine ⟨.int k (k.wrap (BitVec.ofInt k.bits x ||| BitVec.ofInt k.bits y).toNat),?_,⟨rfl,jg _ _⟩,fun _=>rfl⟩;simp [binOp,Op.intBits]
 ·subst h;refine ⟨.int k (k.wrap (BitVec.ofInt k.bits x ^^^ BitVec.ofInt k.bits y).toNat),?_,⟨rfl,jg _ _⟩,fun _=>rfl⟩;simp [binOp,Op.intBits]
 ·subst h;refine ⟨.int k (k.wrap (BitVec.ofInt k.bits x &&& ~~~BitVec.ofInt k.bits y).toNat),?_,⟨rfl,jg _ _⟩,fun _=>rfl⟩;simp [binOp,Op.intBits]
 ·subst h;exact ⟨.bool (x==y),by simp [binOp,Op.intCmp],rfl,fun _=>rfl⟩
 ·subst h;exact ⟨.bool (x != y),by simp [binOp,Op.intCmp],rfl,fun _=>rfl⟩
 ·subst h;exact ⟨.bool (decide (x<y)),by simp [binOp,Op.intCmp],rfl,fun _=>rfl⟩
 ·subst h;exact ⟨.bool (decide (x≤y)),by simp [binOp,Op.intCmp],rfl,fun _=>rfl⟩
 ·subst h;exact ⟨.bool (decide (x > y)),by simp [binOp,Op.intCmp],rfl,fun _=>rfl⟩
 ·subst h;exact ⟨.bool (decide (x≥y)),by simp [binOp,Op.intCmp],rfl,fun _=>rfl⟩
theorem VY {op:BinOp} {k k':IntKind} {x y:Int} {d:D} (hx:k.has x) (h:shifts op k x y=some (true,d)) :
 ∃ v,(binOp op xT (.int k x) (.int k' y)).run P w = .ok v w∧aU w G pt d v∧∀ b,dP b d v=0:=by
 cases op<;>simp only [shifts,bn,gD,reduceCtorEq,mX] at h
 ·obtain ⟨h0,h⟩:=h;subst h
  exact ⟨.int k (k.wrap (x*2 ^ min y.toNat k.bits)),by simp [binOp,Op.shift,show ¬ y<0 by omega],⟨rfl,jg _ _⟩,fun _=>rfl⟩
 ·obtain ⟨h0,h⟩:=h;subst h
  exact ⟨.int k (x.fdiv (2 ^ min y.toNat k.bits)),by simp [binOp,Op.shift,show ¬ y<0 by omega],⟨rfl,Zd _ hx⟩,fun _=>rfl⟩
end
def mM (P:Program) (rec:TypeId→Option (List Nat)):List Field→Nat→Nat→Option (List Nat)
 | [],off,tot=>bif Nat.beq off tot then some [] else none
 | f::r,off,tot=>bif Nat.beq f.offset off&&(f.name != "_") then
  match rec f.type with
  | some ks=>match mM P rec r (off+P.cellsOf f.type) tot with
   | some ks'=>some (ks++ks')
   | none=>none
  | none=>none
  else none
def jV (P:Program):Nat→TypeId→Option (List Nat)
 | 0,_=>none
 | n+1,T=>match P.underlying T with
  | some (.int _)=>bif Nat.beq (P.cellsOf T) 1 then some [0] else none
  | some .bool=>bif Nat.beq (P.cellsOf T) 1 then some [1] else none
  | some .string=>bif Nat.beq (P.cellsOf T) 1 then some [2] else none
  | some (.struct fs)=>bif !P.stoodInHeld T then mM P (jV P n) fs.toList 0 (P.cellsOf T) else none
  | _=>none
theorem Uc {s s':ByteArray}:(s.toList==s'.toList)=(lZ s==lZ s'):=by
 rw [Bool.eq_iff_iff,beq_iff_eq,beq_iff_eq,ByteArray.toList_eq,ByteArray.toList_eq];unfold lZ;constructor
 ·intro h;rw [h]
 ·intro h
  have inj:∀ (a b:List UInt8),(a.map fun x=>(x.toNat:Int))=b.map (fun x=>(x.toNat:Int))→a=b:=by
   intro a
   induction a with
   | nil=>intro b h;cases b<;>simp at h ⊢
   | cons x a ih=>
    intro b h
    cases b with
    | nil=>simp at h
    | cons y b=>
     simp only [jy,List.cons.injEq] at h
     rw [ih b h.2,UInt8.toNat_inj.1 (by omega:x.toNat=y.toNat)]
  exact inj _ _ h
theorem oL:∀ {a b:List D} {r:Bool},jU a b=some r→a.length=b.length
 | [],[],_,_=>rfl
 | [],_::_,_,h=>by simp [jU] at h
 | d::a,[],_,h=>by cases d<;>simp [jU] at h
 | d::a,e::b,r,h=>by
  cases d<;>cases e<;>simp only [jU,reduceCtorEq] at h
  ·cases hr:jU a b with
   | none=>simp [hr] at h
   | some q=>simp [oL hr]
  ·rename_i k x k' y
   cases hk:mZ k k' with
   | false=>simp [hk] at h
   | true=>
    simp only [hk,aQ] at h
    cases hr:jU a b with
    | none=>simp [hr] at h
    | some q=>simp [oL hr]
  ·cases hr:jU a b with
   | none=>simp [hr] at h
   | some q=>simp [oL hr]
theorem sG:∀ {a b:List D} (n:Nat) {r:Bool},jU a b=some r→∃ r1 r2,jU (a.take n) (b.take n)=some r1∧jU (a.drop n) (b.drop n)=some r2∧r=(r1&&r2)
 | a,b,0,r,h=>⟨true,r,by simp [jU],by simpa using h,by simp⟩
 | [],[],n+1,r,h=>⟨true,true,by simp [jU],by simp [jU],by simpa [jU] using h.symm⟩
 | [],_::_,n+1,r,h=>by simp [jU] at h
 | d::a,[],n+1,_,h=>by cases d<;>simp [jU] at h
 | d::a,e::b,n+1,r,h=>by
  cases d<;>cases e<;>simp only [jU,reduceCtorEq] at h
  ·cases hr:jU a b with
   | none=>simp [hr] at h
   | some q=>
    obtain ⟨r1,r2,h1,h2,h3⟩:=sG n hr;simp only [hr,bn] at h
    exact ⟨_,r2,by simp only [List.take_succ_cons,jU,h1];rfl,by simpa using h2,by rw [←h,h3,Bool.and_assoc]⟩
  ·rename_i k x k' y
   cases hk:mZ k k' with
   | false=>simp [hk] at h
   | true=>
    simp only [hk,aQ] at h
    cases hr:jU a b with
    | none=>simp [hr] at h
    | some q=>
     obtain ⟨r1,r2,h1,h2,h3⟩:=sG n hr;simp only [hr,bn] at h
     exact ⟨_,r2,by simp only [List.take_succ_cons,jU,h1,hk,aQ];rfl,by simpa using h2,by rw [←h,h3,Bool.and_assoc]⟩
  ·cases hr:jU a b with
   | none=>simp [hr] at h
   | some q=>
    obtain ⟨r1,r2,h1,h2,h3⟩:=sG n hr;simp only [hr,bn] at h
    exact ⟨_,r2,by simp only [List.take_succ_cons,jU,h1];rfl,by simpa using h2,by rw [←h,h3,Bool.and_assoc]⟩
section
variable {P:Program} {w:World} {G:Nat→Nat} {pt:Nat→Nat→Option Value}
theorem aP.take {ds:List D} {f:Nat→Value} (h:aP w G pt ds f) (n:Nat):aP w G pt (ds.take n) f:=fun j hj=>by
 have:=h j (by simp at hj;omega)
 simpa using this
theorem aP.drop {ds:List D} {f:Nat→Value} (h:aP w G pt ds f) (n:Nat):aP w G pt (ds.drop n) (fun j=>f (n+j)):=fun j hj=>by
 have:=h (n+j) (by simp at hj;omega)
 simpa using this
theorem NK {T:TypeId} (h:(P.info? T).isSome=true):(sizeOf T).run P w = .ok (P.cellsOf T) w:=by
 obtain ⟨i,hi⟩:=Option.isSome_iff_exists.1 h;simp [sizeOf,typeInfo,hi,Program.cellsOf]
theorem BQ {T:TypeId} {d:TypeDesc} (hu:P.underlying T=some d) (hd:kG d=false) (xs:Array Value) (o:Nat) (h:o<xs.size) :
 (part T xs o).run P w = .ok (aS xs o) w:=by
 have Zf:(isAgg T).run P w = .ok false w:=by
  unfold isAgg;rw [Sem.run_bind,run_underlying hu w]
  cases d<;>simp_all [kG]
 simp [part,Zf,h,aS,xE]
theorem uM {T:TypeId} {d:TypeDesc} (hu:P.underlying T=some d) (hd:kG d=true) (hi:(P.info? T).isSome=true) (xs:Array Value) (o:Nat) :
 (part T xs o).run P w = .ok (.agg (xs.extract o (o+P.cellsOf T))) w:=by
 have Zf:(isAgg T).run P w = .ok true w:=by
  unfold isAgg;rw [Sem.run_bind,run_underlying hu w]
  cases d<;>simp_all [kG]
 simp [part,Zf,NK hi]
theorem pX {T:TypeId} {d:TypeDesc} (h:P.underlying T=some d):(P.info? T).isSome=true:=by
 unfold Program.underlying at h
 split at h<;>simp_all
theorem zV (xs:Array Value) (o n j:Nat) (hj:j<n) (h:o+n≤xs.size):aS (xs.extract o (o+n)) j=aS xs (o+j):=by
 simp only [aS,xE,Array.getElem?_extract]
 rw [if_pos (by omega)]
theorem uN:∀ {a:List D} {ks:List Nat},conf a ks=true→a.length=ks.length
 | [],[],_=>rfl
 | [],_::_,h=>by simp [conf] at h
 | d::a,[],h=>by simp [conf] at h
 | d::a,k::ks,h=>by
  simp only [conf,dA] at h;simp [uN h.2]
theorem Fv:∀ {a:List D} {ks ks':List Nat},conf a (ks++ks')=true→conf (a.take ks.length) ks=true∧conf (a.drop ks.length) ks' = true
 | a,[],ks',h=>⟨by simp [conf],by simpa using h⟩
 | [],k::ks,ks',h=>by simp [conf] at h
 | d::a,k::ks,ks',h=>by
  simp only [List.cons_append,conf,dA] at h;obtain ⟨h3,h4⟩:=Fv h.2
  exact ⟨by simp [conf,h.1,h3],by simpa using h4⟩
theorem Fw (n:Nat) (tot:Nat) (ih:∀ {T:TypeId} {ks:List Nat},jV P n T=some ks→ks.length=P.cellsOf T):∀ (l:List Field) (off:Nat) (ks:List Nat),mM P (jV P n) l off tot=some ks→off+ks.length=tot:=by
 intro l
 induction l with
 | nil=>
  intro off ks h;simp only [mM] at h
  cases hoff:Nat.beq off tot with
  | false=>simp [hoff] at h
  | true=>
   simp only [hoff,aQ,bn] at h;subst h
   simpa using fD hoff
 | cons f l ihl=>
  intro off ks h;simp only [mM] at h
  cases rz:(Nat.beq f.offset off&&(f.name != "_")) with
  | false=>simp [rz] at h
  | true=>
   simp only [rz,aQ] at h
   cases Yq:jV P n f.type with
   | none=>simp [Yq] at h
   | some k1=>
    simp only [Yq] at h
    cases Nf:mM P (jV P n) l (off+P.cellsOf f.type) tot with
    | none=>simp [Nf] at h
    | some k2=>
     simp only [Nf,bn] at h;subst h;have:=ih Yq;have:=ihl _ _ Nf;rw [nP];omega
theorem wz:∀ (n:Nat) {T:TypeId} {ks:List Nat},jV P n T=some ks→ks.length=P.cellsOf T
 | 0,T,ks,h=>by simp [jV] at h
 | n+1,T,ks,h=>by
  have leaf:∀ kd,(bif Nat.beq (P.cellsOf T) 1 then some [kd] else none)=some ks→ks.length=P.cellsOf T:=by
   intro kd h
   cases eU:Nat.beq (P.cellsOf T) 1 with
   | false=>simp [eU] at h
   | true=>
    simp only [eU,aQ,bn] at h;rw [fD eU,←h];rfl
  simp only [jV] at h;split at h
  ·exact leaf _ h
  ·exact leaf _ h
  ·exact leaf _ h
  ·rename_i fs hu
   cases gG:P.stoodInHeld T with
   | true=>simp [gG] at h
   | false=>
    simp only [gG,Bool.not_false,aQ] at h;have:=Fw n _ (wz n) _ _ _ h;omega
  ·cases h
def Zg (ds:TypeDesc) (kd:Nat):Prop:=
 match ds with
 | .int _=>kd=0
 | .bool=>kd=1
 | .string=>kd=2
 | _=>False
theorem adL {T:TypeId} {kd:Nat} {d e:D} {r:Bool} {u v:Value} {ds:TypeDesc} (hu:P.underlying T=some ds)
 (hk:Zg ds kd)
 (hc:Y0 d kd=true) (he:jU [d] [e]=some r) (h1:bF w G pt d u) (h2:bF w G pt e v) (n:Nat) :
 (Op.equalIn (n+1) T u v).run P w = .ok r w:=by
 cases d<;>simp only [Y0,xD] at hc
 ·have hc:=fD hc
  subst hc
  cases ds<;>simp [Zg] at hk
  cases e<;>simp only [jU,reduceCtorEq,Bool.and_true,bn] at he
  simp only [bF] at h1 h2;rw [h1,h2,←he];exact run_equalIn_bool' w n T _ _ hu
 ·have hc:=fD hc
  subst hc
  cases ds<;>simp [Zg] at hk
  cases e<;>simp only [jU,reduceCtorEq,Bool.and_true] at he
  rename_i k1 x _ k2 y;simp only [bF] at h1 h2;rw [h1.1,h2.1]
  cases hkk:mZ k1 k2 with
  | false=>simp [hkk] at he
  | true=>
   simp only [hkk,aQ,bn] at he;rw [gW hkk,←he];exact run_equalIn_int w n T k2 _ x y hu
 ·have hc:=fD hc
  subst hc
  cases ds<;>simp [Zg] at hk
  cases e<;>simp only [jU,reduceCtorEq,Bool.and_true,bn] at he
  obtain ⟨s1,h1,BA,_⟩:=h1;obtain ⟨s2,h2,Iq,_⟩:=h2;rw [h1,h2,←he,←BA,←Iq,←Uc];exact run_equalIn_string w n T _ _ hu
theorem NM:∀ (n:Nat) {T:TypeId} {ks:List Nat},jV P n T=some ks→∀ (k:Nat) (xs ys:Array Value) (o:Nat) {a b:List D} {r:Bool},
 conf a ks=true→jU a b=some r→o+P.cellsOf T≤xs.size→o+P.cellsOf T≤ys.size →
 aP w G pt a (fun j=>aS xs (o+j))→aP w G pt b (fun j=>aS ys (o+j)) →
 ∃ x y,(part T xs o).run P w = .ok x w∧(part T ys o).run P w = .ok y w∧(Op.equalIn (n+k) T x y).run P w = .ok r w
 | 0,T,ks,h,_,_,_,_,_,_,_,_,_,_,_,_,_=>by simp [jV] at h
 | n+1,T,ks,h,k,xs,ys,o,a,b,r,hcf,he,hx,hy,ha,hb=>by
  simp only [jV] at h
  rw [show n+1+k=n+k+1 by omega]
  have Zh:∀ ds kd,P.underlying T=some ds→kG ds=false→Zg ds kd →
   (bif Nat.beq (P.cellsOf T) 1 then some [kd] else none)=some ks →
   ∃ x y,(part T xs o).run P w = .ok x w∧(part T ys o).run P w = .ok y w∧(Op.equalIn (n+k+1) T x y).run P w = .ok r w:=by
   intro ds kd hu JA hkd h
   cases eU:Nat.beq (P.cellsOf T) 1 with
   | false=>simp [eU] at h
   | true=>
    simp only [eU,aQ,bn] at h;have eU:=fD eU;subst h
    refine ⟨_,_,BQ hu JA xs o (by omega),BQ hu JA ys o (by omega),?_⟩
    match a,b,uN hcf,oL he with
    | [d],[e],_,_=>
     simp only [conf,Bool.and_true] at hcf
     have h1:=(ha 0 (by simp)).1
     have h2:=(hb 0 (by simp)).1
     exact adL hu hkd hcf he h1 h2 _
    | [],_,h,_=>simp at h
    | _::_::_,_,h,_=>simp at h
    | [_],[],_,h=>simp at h
    | [_],_::_::_,_,h=>simp at h
  split at h
  ·rename_i kk hu;exact Zh _ 0 hu rfl rfl h
  ·rename_i hu;exact Zh _ 1 hu rfl rfl h
  ·rename_i hu;exact Zh _ 2 hu rfl rfl h
  ·rename_i fs hu
   cases gG:P.stoodInHeld T with
   | true=>simp [gG] at h
   | false=>
    simp only [gG,Bool.not_false,aQ] at h
    have hfo:P.fieldsOf T=fs:=by simp [Program.fieldsOf,hu]
    have px:=uM (P:=P) (w:=w) hu rfl (pX hu) xs o;have py:=uM (P:=P) (w:=w) hu rfl (pX hu) ys o
    have key:∀ (l:List Field) (off:Nat) (ks:List Nat) (a b:List D) (r:Bool),mM P (jV P n) l off (P.cellsOf T)=some ks→conf a ks=true→jU a b=some r →
     aP w G pt a (fun j=>aS xs (o+(off+j)))→aP w G pt b (fun j=>aS ys (o+(off+j))) →
     (Op.eqFields (n+k) (xs.extract o (o+P.cellsOf T)) (ys.extract o (o+P.cellsOf T)) l).run P w = .ok r w:=by
     intro l
     induction l with
     | nil=>
      intro off ks a b r h hcf he _ _;simp only [mM] at h
      cases hoff:Nat.beq off (P.cellsOf T) with
      | false=>simp [hoff] at h
      | true=>
       simp only [hoff,aQ,bn] at h;subst h;have hl:=uN hcf;obtain rfl:=List.eq_nil_of_length_eq_zero hl;obtain rfl:=List.eq_nil_of_length_eq_zero ((oL he).symm.trans hl);simp only [jU,bn] at he;subst he;rfl
     | cons f l ihl=>
      intro off ks a b r h hcf he hra QT;simp only [mM] at h
      cases rz:(Nat.beq f.offset off&&(f.name != "_")) with
      | false=>simp [rz] at h
      | true=>
       simp only [rz,aQ] at h;simp only [dA,bne_iff_ne,ne_eq] at rz;obtain ⟨rz,hnm⟩:=rz;have rz:=fD rz
       cases Yq:jV P n f.type with
       | none=>simp [Yq] at h
       | some k1=>
        simp only [Yq] at h
        cases Nf:mM P (jV P n) l (off+P.cellsOf f.type) (P.cellsOf T) with
        | none=>simp [Nf] at h
        | some k2=>
         simp only [Nf,bn] at h;subst h;obtain ⟨c1,c2⟩:=Fv hcf;obtain ⟨r1,r2,e1,e2,e3⟩:=sG k1.length he;have Zi:=wz n Yq;have lX:=Fw n _ (wz n) _ _ _ Nf;have yg:=oL he;have hla:=uN hcf;rw [nP] at hla
         have hsx:(xs.extract o (o+P.cellsOf T)).size=P.cellsOf T:=by simp;omega
         have hsy:(ys.extract o (o+P.cellsOf T)).size=P.cellsOf T:=by simp;omega
         have ex:∀ j,off+j<P.cellsOf T→aS (xs.extract o (o+P.cellsOf T)) (off+j)=aS xs (o+(off+j)):=fun j hj=>zV xs o _ _ hj hx
         have ey:∀ j,off+j<P.cellsOf T→aS (ys.extract o (o+P.cellsOf T)) (off+j)=aS ys (o+(off+j)):=fun j hj=>zV ys o _ _ hj hy
         obtain ⟨x1,y1,p1,p2,p3⟩:=NM n Yq k (xs.extract o (o+P.cellsOf T)) (ys.extract o (o+P.cellsOf T)) off c1 e1 (by omega) (by omega)
          (fun j hj=>by
           have:=hra.take k1.length j hj
           simp only [ex j (by simp at hj;omega)];exact this)
          (fun j hj=>by
           have:=QT.take k1.length j hj
           simp only [ey j (by simp at hj;omega)];exact this)
         have p4:=ihl (off+P.cellsOf f.type) k2 _ _ r2 Nf c2 e2
          (fun j hj=>by
           have:=hra.drop k1.length j hj;simp only [Zi] at this ⊢
           simpa only [show o+(off+P.cellsOf f.type+j)=o+(off+(P.cellsOf f.type+j)) by omega] using this)
          (fun j hj=>by
           have:=QT.drop k1.length j hj;simp only [Zi] at this ⊢
           simpa only [show o+(off+P.cellsOf f.type+j)=o+(off+(P.cellsOf f.type+j)) by omega] using this)
         simp only [Op.eqFields,ne_eq,hnm,not_false_eq_true,if_true,Sem.run_bind,rz,p1,p2,p3,Result.andThen_ok]
         cases r1 with
         | true=>simpa [e3] using p4
         | false=>simp [e3]
    refine ⟨_,_,px,py,?_⟩
    rw [run_equalIn_struct w (n+k) T _ _ (by rw [hfo];exact hu) gG,hfo]
    exact key fs.toList 0 ks a b r h hcf he (by simpa using ha) (by simpa using hb)
  ·cases h
end
structure tX (P:Program) (k e:TypeId) (kt vt:Ty):Prop where
 keyed:Go.Maps.Keyed P k
 key:∀ x,kt.ok x→∃ l,keyOf P k (je kt x)=some l
 zero:∀ w,(zeroValue e).run P w = .ok (je vt vt.dflt) w
 zok:vt.ok vt.dflt
structure nS (P:Program) (E:Env):Prop where
 ti:∀ T i,E.T T=some i→Zb P T i
 mp:∀ T i k e,E.T T=some i→i.desc = .map k e→tX P k e (pO E k) (pO E e)
 cmp:∀ T i ks,E.T T=some i→i.cmp=some ks→jV P 8 T=some ks∧P.eqGuardType P.depth T=false
theorem Fx:∀ (a b:List UInt8),Op.bytesLess a b=gT (a.map fun x=>(x.toNat:Int)) (b.map fun x=>(x.toNat:Int))
 | _,[]=>by simp [Op.bytesLess,gT]
 | [],_::_=>by simp [Op.bytesLess,gT]
 | a::x,b::y=>by
  have h1:decide ((a.toNat:Int)<(b.toNat:Int))=decide (a<b):=by
   rw [decide_eq_decide,UInt8.lt_iff_toNat_lt];omega
  have h2:((a.toNat:Int)==(b.toNat:Int))=(a==b):=by
   rw [Bool.eq_iff_iff,beq_iff_eq,beq_iff_eq,←UInt8.toNat_inj];omega
  simp only [jy,Op.bytesLess,gT,h1,h2,Fx x y]
theorem oM (s:ByteArray):(lZ s).length=s.size:=by simp [lZ]
section
variable {P:Program} {E:Env} {C:Ctx} {s:St} {a:Act} {w:World} {G:Nat→Nat} {pt:Nat→Nat→Option Value} {o:Oper} {u:St}
theorem Zj {op:BinOp} {x y:ByteArray} {d:D} (xT:Nat) (h:YZ op (lZ x) (lZ y)=some (true,d)) :
 ∃ v,(binOp op xT (.string x) (.string y)).run P w = .ok v w∧aU w G pt d v∧∀ b,dP b d v=0:=by
 have e1:(x.toList==y.toList)=(lZ x==lZ y):=Uc
 have e2:Op.bytesLess x.toList y.toList=gT (lZ x) (lZ y):=by rw [Fx,ByteArray.toList_eq,ByteArray.toList_eq];rfl
 cases op<;>simp only [YZ,bn,gD,true_and,reduceCtorEq] at h
 ·obtain ⟨h0,h⟩:=h;subst h
  have h0:=Ii h0;rw [oM,oM] at h0;have h0':x.size+y.size≤9223372036854775807:=h0
  refine ⟨.string (x++y),?_,⟨_,rfl,?_,?_⟩,fun _=>rfl⟩
  ·have:¬ (((x.size+y.size:Nat):Int) > IntKind.i64.max):=by rw [IntKind.max_i64];omega
   simp only [binOp,Op.stringOp];rw [if_neg this];rfl
  ·simp [lZ]
  ·rw [nP,oM,oM];exact h0
 ·subst h;exact ⟨.bool (lZ x==lZ y),by simp only [binOp,Op.stringOp,e1];rfl,rfl,fun _=>rfl⟩
 ·subst h;exact ⟨.bool (!(lZ x==lZ y)),by simp only [binOp,Op.stringOp,e1];rfl,rfl,fun _=>rfl⟩
 ·subst h;exact ⟨.bool (gT (lZ x) (lZ y)),by simp only [binOp,Op.stringOp,e2];rfl,rfl,fun _=>rfl⟩
 ·subst h;exact ⟨.bool (gT (lZ x) (lZ y) || lZ x==lZ y),by simp only [binOp,Op.stringOp,e1,e2];rfl,rfl,fun _=>rfl⟩
 ·subst h;exact ⟨.bool (!(gT (lZ x) (lZ y) || lZ x==lZ y)),by simp only [binOp,Op.stringOp,e1,e2];rfl,rfl,fun _=>rfl⟩
 ·subst h;exact ⟨.bool (!gT (lZ x) (lZ y)),by simp only [binOp,Op.stringOp,e2];rfl,rfl,fun _=>rfl⟩
theorem ahm (HP:nS P E) (R:Rel E C s a w G pt) (ho:∀ t,o.dst=some t→t<E.n) (op:BinOp) (xT:Nat) (x y:Operand) (yT:Nat) (aY:o.op = .binOp op xT x y yT)
 (h:VR E o s op xT x y=some (true,u)):fB P E C o a w (au u s):=by
 have hx:=aJ R x;have hy:=aJ R y
 have fin:∀ (d:D) (v:Value),(eqGuard op xT x y (a.eval x) (a.eval y)).run P w = .ok () w→(binOp op xT (a.eval x) (a.eval y)).run P w = .ok v w →
  aU w G pt d v→(∀ b,dP b d v=0)→fB P E C o a w (au (dN o d) s):=fun d v h1 h2 h3 h4=>pure_ok R ho (VX op xT x y yT aY h1 h2) h3 h4
 simp only [VR] at h;split at h
 ·rename_i k p k' q h1 h2
  rw [h1] at hx;rw [h2] at hy;obtain ⟨hx1,hx2⟩:=hx;obtain ⟨hy1,hy2⟩:=hy;rw [hx1,hy1] at fin
  have hg:=BP (P:=P) (w:=w) op xT x y (p:=.int k p) (q:=.int k' q) (by simp) (by simp)
  cases hs:TV op with
  | true=>
   simp only [hs,aQ] at h;split at h
   ·rename_i g d Ud
    simp only [bn,gD] at h;obtain ⟨rfl,rfl⟩:=h;obtain ⟨v,h3,h4,h5⟩:=VY (P:=P) (w:=w) (G:=G) (pt:=pt) (xT:=xT) (k':=k') hx2 Ud;exact fin d v hg h3 h4 h5
   ·cases h
  | false=>
   simp only [hs,bJ] at h
   cases hk:mZ k k' with
   | false=>simp [hk] at h
   | true=>
    simp only [hk,aQ] at h;split at h
    ·rename_i g d Ud
     simp only [bn,gD] at h;obtain ⟨rfl,rfl⟩:=h;have:=gW hk;subst this;obtain ⟨v,h3,h4,h5⟩:=Ze (P:=P) (w:=w) (G:=G) (pt:=pt) (xT:=xT) hx2 Ud;exact fin d v hg h3 h4 h5
    ·cases h
 ·rename_i p q h1 h2
  rw [h1] at hx;rw [h2] at hy;obtain ⟨x',hx1,hx2,_⟩:=hx;obtain ⟨y',hy1,hy2,_⟩:=hy;rw [hx1,hy1] at fin;split at h
  ·rename_i g d gG
   simp only [bn,gD] at h;obtain ⟨rfl,rfl⟩:=h;rw [←hx2,←hy2] at gG;obtain ⟨v,h3,h4,h5⟩:=Zj (P:=P) (w:=w) (G:=G) (pt:=pt) xT gG
   exact fin d v (BP op xT x y (by simp) (by simp)) h3 h4 h5
  ·cases h
 ·rename_i p q h1 h2
  rw [h1] at hx;rw [h2] at hy;have hx:a.eval x = .bool p:=hx;have hy:a.eval y = .bool q:=hy;rw [hx,hy] at fin
  have hg:=BP (P:=P) (w:=w) op xT x y (p:=.bool p) (q:=.bool q) (by simp) (by simp)
  split at h
  ·rename_i i hi
   have ht:=(HP.ti _ _ hi).und;split at h
   ·rename_i hd
    rw [hd] at ht;simp only [bn,gD,true_and] at h;subst h
    exact fin _ (.bool (p==q)) hg (by simp [binOp,Op.equal,Op.maxDepth,run_equalIn_bool' w _ xT p q ht]) rfl (fun _=>rfl)
   ·rename_i hd
    rw [hd] at ht;simp only [bn,gD,true_and] at h;subst h
    exact fin _ (.bool (!(p==q))) hg (by simp [binOp,Op.equal,Op.maxDepth,run_equalIn_bool' w _ xT p q ht]) rfl (fun _=>rfl)
   ·cases h
  ·cases h
 ·rename_i p q h1 h2
  rw [h1] at hx;rw [h2] at hy;obtain ⟨ax,hx1,hx2,hx3⟩:=hx;obtain ⟨ay,hy1,hy2,hy3⟩:=hy;rw [hx1,hy1] at fin
  cases hc:Y1 E xT p with
  | false=>simp [hc] at h
  | true=>
   simp only [hc,aQ] at h;unfold Y1 at hc;split at hc
   ·rename_i i hi
    split at hc
    ·rename_i ks hks
     obtain ⟨hkb,Lg⟩:=HP.cmp _ _ _ hi hks;simp only [dA] at hc;have hl:=wz 8 hkb;have hpl:=uN hc.2
     have key:∀ r,jU p q=some r→(Op.equalIn 10000 xT (.agg ax) (.agg ay)).run P w = .ok r w:=by
      intro r hr;have hql:=oL hr;have hT:=HP.ti _ _ hi
      have JA:kG i.desc=true:=by rw [←hT.agg];exact hc.1
      have p1:=uM (P:=P) (w:=w) hT.und JA (pX hT.und) ax 0;have p2:=uM (P:=P) (w:=w) hT.und JA (pX hT.und) ay 0
      obtain ⟨x1,y1,q1,q2,q3⟩:=NM (P:=P) (w:=w) (G:=G) (pt:=pt) 8 hkb 9992 ax ay 0 hc.2 hr (by omega) (by omega) (by simpa using hx3) (by simpa using hy3)
      rw [p1] at q1;rw [p2] at q2
      have e1:ax.extract 0 (0+P.cellsOf xT)=ax:=by rw [show 0+P.cellsOf xT=ax.size by omega];simp
      have e2:ay.extract 0 (0+P.cellsOf xT)=ay:=by rw [show 0+P.cellsOf xT=ay.size by omega];simp
      rw [e1] at q1;rw [e2] at q2
      injection q1 with q1;injection q2 with q2
      subst q1;subst q2;exact q3
     have hg:=run_eqGuard_agg (P:=P) w op xT x y ax ay Lg;split at h
     ·rename_i r hr
      simp only [bn,gD,true_and] at h;subst h
      exact fin _ (.bool r) hg (by rw [run_eql_struct,key r hr];rfl) rfl (fun _=>rfl)
     ·rename_i r hr
      simp only [bn,gD,true_and] at h;subst h
      exact fin _ (.bool (!r)) hg (by rw [run_neq_struct,key r hr];rfl) rfl (fun _=>rfl)
     ·cases h
    ·cases hc
   ·cases hc
 ·cases h
theorem am2 (R:Rel E C s a w G pt) (ho:∀ t,o.dst=some t→t<E.n) (op:UnOp) (xT:Nat) (x:Operand) (aY:o.op = .unOp op xT x)
 (h:aUn o s op x=some (true,u)):fB P E C o a w (au u s):=by
 have hx:=aJ R x;simp only [aUn] at h;split at h
 ·rename_i b h1
  rw [h1] at hx;have hx:a.eval x = .bool b:=hx;simp only [bn,gD,true_and] at h;subst h
  exact pure_ok R ho (v:=.bool (!b)) (by simp [execOp,aY,Op.unary,hx]) rfl (fun _=>rfl)
 ·rename_i k n h1
  rw [h1] at hx;obtain ⟨hx,_⟩:=hx;simp only [bn,gD,true_and] at h;subst h
  exact pure_ok R ho (v:=.int k (k.wrap (0 - n))) (by simp [execOp,aY,Op.unary,Op.intArith,hx]) ⟨rfl,jg _ _⟩ (fun _=>rfl)
 ·rename_i k n h1
  rw [h1] at hx;obtain ⟨hx,_⟩:=hx;simp only [bn,gD,true_and] at h;subst h
  exact pure_ok R ho (v:=.int k (k.wrap (BitVec.ofInt k.bits (if k.signed then -1 else k.max) ^^^ BitVec.ofInt k.bits n).toNat))
   (by simp only [execOp,aY,Op.unary,hx,Op.intBits];rfl) ⟨rfl,jg _ _⟩ (fun _=>rfl)
 ·cases h
theorem QU (R:Rel E C s a w G pt) (ho:∀ t,o.dst=some t→t<E.n) (x:Operand) (i:Nat) (aY:o.op = .extract x i)
 (h:qU o s x i=some (true,u)):fB P E C o a w (au u s):=by
 simp only [qU] at h;split at h
 ·rename_i t vs h1
  split at h
  ·rename_i d hd
   simp only [bn,gD,true_and] at h;subst h;have hx:=R.tm t;have BA:get s (2*t) = .iJ vs:=h1;rw [BA] at hx;obtain ⟨arr,hv,eU,hr⟩:=hx;obtain ⟨hi,hvi⟩:=List.getElem?_eq_some_iff.1 hd
   have hia:i<arr.size:=by omega
   have bB:(execOp a.eval o).run P w = .ok (.value (aS arr i)) w:=by
    simp [execOp,aY,Act.eval,hv,Instr.extract,hia,aS,xE]
   have hX:gN d=true∨fB P E C o a w (au ((bif gN d then [(2*t,.iJ (vs.set i .undef))] else [])++dN o d) s):=by
    cases hX:gN d with
    | true=>exact .inl rfl
    | false=>
     right
     have hri:=hr i hi;rw [hvi] at hri
     have hrd:aU w G pt d (aS arr i):=by
      cases d<;>first | exact hri | exact absurd hri id
     exact pure_ok R ho bB hrd (fun b=>(xW hX).2 b _)
   rcases hX with hX | hX
   case inr=>exact hX
   rw [hX];simp only [aQ,List.singleton_append]
   have Dg:t<E.n:=xX R (by rw [BA];rfl)
   have hct:∀ b,cT s a b t=qQ b vs (aS arr):=fun b=>by simp only [cT,BA,hv,dP]
   -- the tuple without its component
   have QV:∀ b,qQ b (vs.set i .undef) (aS arr)+Fb b vs[i] (aS arr i)=qQ b vs (aS arr):=by
    intro b
    have key:∀ (l:List D) (f:Nat→Value) (i:Nat) (h:i<l.length),qQ b (l.set i .undef) f+Fb b l[i] (f i)=qQ b l f:=by
     intro l
     induction l with
     | nil=>intro f i h;simp at h
     | cons d l ih=>
      intro f i h
      match i,h with
      | 0,_=>
       have:Fb b .undef (f 0)=0:=by cases f 0<;>rfl
       simp only [K6,qQ,this,List.getElem_cons_zero];omega
      | i+1,h=>
       have:=ih (fun j=>f (j+1)) i (by simpa using h)
       simp only [K7,qQ,List.getElem_cons_succ];omega
    exact key vs (aS arr) i hi
   have am3:aU w G pt (.iJ (vs.set i .undef)) (a.tmps.getD t Go.undef):=by
    refine ⟨arr,hv,by simpa using eU,fun j hj=>?_⟩
    rw [List.getElem_set];split
    ·trivial
    ·exact hr j (by simpa using hj)
   have VZ:∀ b,dP b (.iJ (vs.set i .undef)) (a.tmps.getD t Go.undef)=qQ b (vs.set i .undef) (aS arr):=fun b=>by rw [hv];rfl
   have R1:=R.weak t (G':=G) (d:=.iJ (vs.set i .undef)) (Ext.refl _ _) (fun _ _=>rfl) am3 Dg (fun b=>by rw [VZ,hct];have:=QV b;omega)
   have tc1:∀ b,TC E.n C.m ((2*t,.iJ (vs.set i .undef))::s) a w pt b+Fb b vs[i] (aS arr i)=TC E.n C.m s a w pt b:=by
    intro b
    have e1:=dG (n:=E.n) (f:=cT s a b) (g:=cT ((2*t,.iJ (vs.set i .undef))::s) a b) Dg (fun j hj=>by simp only [cT,dQ,hj,if_false])
    have e2:=aG (n:=C.m) (f:=cB s w pt b) (g:=cB ((2*t,.iJ (vs.set i .undef))::s) w pt b) (fun j _=>by simp only [cB,kF])
    have e3:cT ((2*t,.iJ (vs.set i .undef))::s) a b t=qQ b (vs.set i .undef) (aS arr):=by
     simp only [cT,dQ,if_true];exact VZ b
    have:=QV b;have:=hct b;unfold TC;omega
   have rz:∀ b,dP b d (aS arr i)=Fb b vs[i] (aS arr i):=by
    intro b;rw [hvi];have hri:=hr i hi;rw [hvi] at hri
    cases d<;>first | (cases aS arr i<;>rfl) | exact absurd hri id
   have hrd:aU w G pt d (aS arr i):=by
    have hri:=hr i hi;rw [hvi] at hri
    cases d<;>first | exact hri | exact absurd hri id
   show fB P E C o a w (au (dN o d) ((2*t,.iJ (vs.set i .undef))::s))
   refine ⟨_,w,G,pt,.inl bB,R1.put o ho (fun _=>False) (Ext.refl _ _) (fun _ _ _=>⟨rfl,rfl⟩) (fun b h=>h.elim) hrd (fun b=>?_) R.gz rfl rfl rfl (bT _)⟩
   have h2:=tc1 b;have h3:=R.ct b;have h4:=R.cb b;rw [rz]
   exact ⟨by omega,fun h=>⟨by omega,h4 (by omega)⟩⟩
  ·cases h
 ·cases h
theorem NP (HP:nS P E) {T f k:Nat} (h:Fj E T f=some k) :
 ∃ fs fd,P.underlying T=some (.struct fs)∧fs[f]? = some fd∧fd.offset=k∧∃ pi,P.info? fd.type=some pi∧0<pi.size:=by
 unfold Fj at h;split at h
 ·rename_i i hi
  split at h
  ·rename_i fs hd
   split at h
   ·rename_i fd hfd
    split at h
    ·rename_i fi hfi
     cases hb:Nat.blt 0 fi.size with
     | false=>simp [hb] at h
     | true=>
      simp only [hb,aQ,bn] at h;obtain ⟨pi,z,h1,h2,_⟩:=(HP.ti _ _ hfi).info
      have uO:0<fi.size:=by simpa [Nat.blt_eq] using hb
      exact ⟨fs,fd,by rw [(HP.ti _ _ hi).und,hd],by simpa using hfd,h,pi,h1,by omega⟩
    ·cases h
   ·cases h
  ·cases h
 ·cases h
theorem NQ {T f k:Nat} {fs:Array Field} {fd:Field} {pi:TypeInfo} (hu:P.underlying T=some (.struct fs)) (hf:fs[f]? = some fd) (hk:fd.offset=k)
 (hi:P.info? fd.type=some pi) (hp:0<pi.size) (b off:Nat) :
 (Instr.fieldAt T (.pointer (some ⟨b,off,none⟩)) f).run P w = .ok (.pointer (some ⟨b,off+k,none⟩)) w:=by
 have fC:¬ pi.size=0:=by omega
 simp [Instr.fieldAt,run_underlying hu,hf,Instr.sureAddr,fieldPlace,sizeOf,typeInfo,hi,fC,Go.Addr.add_mid,hk]
theorem Lh (HP:nS P E) (R:Rel E C s a w G pt) (ho:∀ t,o.dst=some t→t<E.n) (T:Nat) (x:Operand) (f:Nat) (aY:o.op = .fieldAddr T x f)
 (h:l6 E o s T x f=some (true,u)):fB P E C o a w (au u s):=by
 have hx:=aJ R x;simp only [l6] at h;split at h
 ·rename_i k hk
  obtain ⟨fs,fd,hu,hf,hk',pi,hi,hp⟩:=NP HP hk
  have run:∀ b off,a.eval x = .pointer (some ⟨b,off,none⟩)→(execOp a.eval o).run P w = .ok (.value (.pointer (some ⟨b,off+k,none⟩))) w:=by
   intro b off hv;have:=NQ (P:=P) (w:=w) hu hf hk' hi hp b off;simp [execOp,aY,hv,this]
  split at h
  ·rename_i id st off h1
   rw [h1] at hx;obtain ⟨b,hb,hv⟩:=hx;simp only [bn,gD,true_and] at h;subst h
   exact pure_ok R ho (run _ _ hv) ⟨b,hb,rfl⟩ (fun _=>rfl)
  ·rename_i id st i off es h1
   rw [h1] at hx;obtain ⟨b,hb,hv⟩:=hx;simp only [bn,gD,true_and] at h;subst h
   exact pure_ok R ho (run _ _ hv) ⟨b,hb,by rw [Nat.add_assoc]⟩ (fun _=>rfl)
  ·rename_i g off h1
   rw [h1] at hx;have hv:a.eval x = .pointer (some ⟨g,off,none⟩):=hx;simp only [bn,gD,true_and] at h;subst h
   exact pure_ok R ho (run _ _ hv) rfl (fun _=>rfl)
  ·rename_i t l i off h1
   rw [h1] at hx;obtain ⟨b,ob,hv,h2⟩:=hx;simp only [bn,gD,true_and] at h;subst h
   exact pure_ok R ho (run _ _ hv) ⟨b,ob,by rw [Nat.add_assoc],h2⟩ (fun _=>rfl)
  ·cases h
 ·cases h
theorem uP (R:Rel E C s a w G pt) {d:D} {v:Value} (h:aU w G pt d v) {t:Ty} {l:List t.den} (hc:content s d=some ⟨t,l⟩) :
 ∃ ad n c,v = .slice ad n c∧n=l.length∧n*t.xk≤lW∧n≤c∧(l=[]∨∃ b o,ad=some ⟨b,o,none⟩∧fA w G t l b o):=by
 cases d<;>simp only [content,reduceCtorEq] at hc
 ·rename_i f t' l'
  simp only [bn,Sigma.mk.injEq] at hc;obtain ⟨rfl,hc⟩:=hc;have hc:=eq_of_heq hc;subst hc;obtain ⟨ad,n,c,h1,h2,h3,h4⟩:=h;refine ⟨ad,n,c,h1,h2,h3,?_⟩
  match f,h4 with
  | 0,h4=>
   refine ⟨by have:=h4.1;omega,?_⟩
   rcases h4.2 with h5 | ⟨b,o,h5,h6,h7⟩
   ·exact .inl h5
   ·exact .inr ⟨b,o,h5,h7⟩
  | 1,h4=>
   rcases h4 with ⟨h5,h6,h7⟩ | ⟨b,h5,h6,h7,h8,h9,QF⟩
   ·subst h6;subst h2;exact ⟨by simp,.inl rfl⟩
   ·exact ⟨by omega,.inr ⟨b,0,h5,h9⟩⟩
  | 2,h4=>
   rcases h4 with ⟨h5,h6,h7⟩ | ⟨b,h5,h6,h7,h8,h9,QF⟩
   ·subst h6;subst h2;exact ⟨by simp,.inl rfl⟩
   ·exact ⟨by omega,.inr ⟨b,0,h5,h9⟩⟩
  | 3,h4=>
   rcases h4 with ⟨h5,h6,h7⟩ | ⟨b,o,d,h5,h0,h6,h7,h8,h9,QF⟩
   ·subst h6;subst h2;exact ⟨by simp,.inl rfl⟩
   ·exact ⟨by omega,.inr ⟨b,o,h5,h9⟩⟩
  | (k+4),h4=>exact h4.elim
 ·rename_i id st
  split at hc
  ·rename_i st' t' l' hb
   cases hs:Nat.beq st st' with
   | false=>simp [hs] at hc
   | true=>
    simp only [hs,aQ,bn,Sigma.mk.injEq] at hc;obtain ⟨rfl,hc⟩:=hc;have hc:=eq_of_heq hc;subst hc;have hs:=fD hs;subst hs;have hB:=R.bx id;rw [hb] at hB;have hB:=hB rfl;simp only [xD,if_false] at hB;obtain ⟨ad,n,c,h1,h2,h3,h4⟩:=hB;have hv:pt id st=some v:=h;rw [hv] at h1
    injection h1 with h1
    refine ⟨ad,n,c,h1,h2,h3,?_⟩
    rcases h4 with ⟨h5,h6,h7⟩ | ⟨b,h5,h6,h7,h8,h9,QF⟩
    ·subst h6;subst h2;exact ⟨by simp,.inl rfl⟩
    ·exact ⟨by omega,.inr ⟨b,0,h5,h9⟩⟩
  ·cases hc
theorem adP (n:Nat) (h:n≤nG):IntKind.i64.has (n:Int):=by
 unfold nG at h;unfold IntKind.has;simp [IntKind.min,IntKind.max,IntKind.bits,IntKind.signed];omega
theorem ahp (HP:nS P E) (R:Rel E C s a w G pt) (ho:∀ t,o.dst=some t→t<E.n) (x:Operand) (T:Nat) (ts:Array TypeId) (qD:ts.toList=[T])
 (aY:o.op = .call { callee:=.builtin .len,args:=#[x],argTypes:=ts }) {n:Nat} (h:VT E s T (aV s x)=some n) :
 fB P E C o a w (au (dN o (.int .i64 n)) s):=by
 have hx:=aJ R x
 have atN:ts = #[T]:=by apply Array.ext';simpa using qD
 subst atN
 have fin:∀ m:Nat,m≤nG→(Builtin.len_ #[T] o.type #[a.eval x]).run P w = .ok (goInt m) w→fB P E C o a w (au (dN o (.int .i64 m)) s):=by
  intro m hm hr
  refine pure_ok R ho (v:=.int .i64 m) ?_ ⟨rfl,adP m hm⟩ (fun _=>rfl)
  simp [execOp,aY,resolve,invoke,builtin,hr,goInt]
 unfold VT at h;split at h
 ·rename_i i hi
  have hu:=(HP.ti _ _ hi).und;split at h
  ·rename_i l hd h1
   rw [h1] at hx;rw [hd] at hu;obtain ⟨b,hv,hl,hb⟩:=hx;simp only [bn] at h;subst h;refine fin _ hb ?_;rw [←hl,oM,hv];simp [Builtin.len_,run_underlying hu]
  ·rename_i _ len e hd
   rw [hd] at hu
   cases hb:Nat.ble len nG with
   | false=>simp [hb] at h
   | true=>
    simp only [hb,aQ,bn] at h;subst h;refine fin _ (Ii hb) ?_;simp [Builtin.len_,run_underlying hu]
  ·rename_i e hd h1
   rw [h1] at hx;rw [hd] at hu;have hv:a.eval x = .slice none 0 0:=hx;simp only [bn] at h;subst h
   refine fin 0 (by simp [nG]) ?_
   rw [hv];simp [Builtin.len_,run_underlying hu]
  ·rename_i e id st m hd h1
   rw [h1] at hx;rw [hd] at hu;obtain ⟨hx,hm⟩:=hx;simp only [bn] at h;subst h;refine fin _ hm ?_
   rcases hx with ⟨b,c,_,hv⟩ | ⟨rfl,hv⟩<;>rw [hv]<;>simp [Builtin.len_,run_underlying hu]
  ·rename_i e d hd _ _
   rw [hd] at hu;split at h
   ·rename_i t l hc
    cases hb:Nat.blt 0 t.xk with
    | false=>simp [hb] at h
    | true=>
     simp only [hb,aQ,bn] at h;subst h;obtain ⟨ad,n,c,hv,hn,oN,_⟩:=uP R hx hc
     have hbz:0<t.xk:=by simpa [Nat.blt_eq] using hb
     have:n≤n*t.xk:=Nat.le_mul_of_pos_right _ hbz
     have hm:l.length≤nG:=by unfold lW at oN;unfold nG;omega
     refine fin _ hm ?_;rw [hv,←hn];simp [Builtin.len_,run_underlying hu]
   ·cases h
  ·cases h
 ·cases h
theorem Li (lt:Int→Int→Bool) (f:Value→Value→Sem Value) (hf:∀ k x y,(f (.int k x) (.int k y)).run P w = .ok (.int k (bif lt y x then y else x)) w) (k:IntKind) :
 ∀ (xs:List Operand) (m r:Int),k.has m→(∀ x∈xs,aU w G pt (aV s x) (a.eval x))→zO lt k m (xs.map (aV s))=some r →
  ((xs.map a.eval).foldlM f (.int k m)).run P w = .ok (.int k r) w∧k.has r
 | [],m,r,hm,_,h=>by
  simp only [List.map_nil,zO,bn] at h;subst h
  exact ⟨by simp,hm⟩
 | x::xs,m,r,hm,hx,h=>by
  have h0:=hx x (by simp)
  rw [jy] at h
  cases h1:aV s x<;>rw [h1] at h<;>simp only [zO,reduceCtorEq] at h
  rename_i k' n
  cases hk:mZ k k' with
  | false=>simp [hk] at h
  | true=>
   simp only [hk,aQ] at h;have hkk:=gW hk;subst hkk;rw [h1] at h0;obtain ⟨hv,hn⟩:=h0
   have hm':k.has (bif lt n m then n else m):=by cases lt n m<;>assumption
   obtain ⟨q1,q2⟩:=Li lt f hf k xs _ r hm' (fun y hy=>hx y (by simp [hy])) h
   refine ⟨?_,q2⟩;simp only [jy,List.foldlM_cons,Sem.run_bind,hv,hf,Result.andThen_ok];exact q1
theorem JB (R:Rel E C s a w G pt) (ho:∀ t,o.dst=some t→t<E.n) (xs:Array Operand) (ts:Array TypeId) (isMax:Bool)
 (aY:o.op = .call { callee:=.builtin (bif isMax then .max else .min),args:=xs,argTypes:=ts })
 (h:QN o s (bif isMax then (fun a b=>decide (b<a)) else (fun a b=>decide (a<b))) xs.toList=some (true,u)):fB P E C o a w (au u s):=by
 simp only [QN] at h;split at h
 ·rename_i k n r heq
  split at h
  ·rename_i m hm
   simp only [bn,gD,true_and] at h;subst h
   cases QH:xs.toList with
   | nil=>rw [QH] at heq;simp at heq
   | cons x rest=>
    rw [QH] at heq;simp only [jy,List.cons.injEq] at heq;obtain ⟨h1,h2⟩:=heq;have hx:=aJ R x;rw [h1] at hx;obtain ⟨hv,hn⟩:=hx;rw [←h2] at hm
    have iM:(xs.map a.eval).toList=a.eval x::rest.map a.eval:=by simp [QH]
    cases isMax with
    | false=>
     obtain ⟨q1,q2⟩:=Li (P:=P) (w:=w) (G:=G) (pt:=pt) (s:=s) (a:=a) (fun a b=>decide (a<b)) Builtin.min2 (fun k x y=>by
      simp only [Builtin.min2,Sem.run_pure];by_cases h:y<x<;>simp [h]) k rest n m hn (fun y _=>aJ R y) hm
     refine pure_ok R ho (v:=.int k m) ?_ ⟨rfl,q2⟩ (fun _=>rfl)
     simp only [execOp,aY,bJ,resolve,invoke,builtin,Builtin.min_,iM,hv,pure_bind,Sem.run_bind,q1,Result.andThen_ok,Sem.run_pure]
    | true=>
     obtain ⟨q1,q2⟩:=Li (P:=P) (w:=w) (G:=G) (pt:=pt) (s:=s) (a:=a) (fun a b=>decide (b<a)) Builtin.max2 (fun k x y=>by
      simp only [Builtin.max2,Sem.run_pure];by_cases h:x<y<;>simp [h]) k rest n m hn (fun y _=>aJ R y) hm
     refine pure_ok R ho (v:=.int k m) ?_ ⟨rfl,q2⟩ (fun _=>rfl)
     simp only [execOp,aY,aQ,resolve,invoke,builtin,Builtin.max_,iM,hv,pure_bind,Sem.run_bind,q1,Result.andThen_ok,Sem.run_pure]
  ·cases h
 ·cases h
theorem Zk (HP:nS P E) (R:Rel E C s a w G pt) (ho:∀ t,o.dst=some t→t<E.n) (T:Nat) (x i:Operand) (aY:o.op = .index T x i)
 (h:Fp E o s T x i=some (true,u)):fB P E C o a w (au u s):=by unfold Fp at h;cases h
end
end Go.dw