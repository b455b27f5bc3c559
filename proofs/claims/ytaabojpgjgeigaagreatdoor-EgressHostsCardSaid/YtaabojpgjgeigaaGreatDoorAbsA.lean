/- The abstract evaluator, part 1: proved is that each operation of the model that it runs keeps the relation between abstract values and memory (values, moves, tables of types, numbers, strings); no conditions but those that each theorem states. -/
import Derived.WalkKit
import Derived.Deep.MidRow
set_option linter.unusedVariables false
set_option linter.unusedSimpArgs false
theorem bq {α:Type _} (a b:α):(some a=some b)=(a=b):=Option.some.injEq a b
theorem eX {α:Type _} {β:Type _} (a:α) (b:β) (c:α) (d:β):((a,b)=(c,d))=(a=c∧b=d):=Prod.mk.injEq a b c d
theorem bK (n:Nat):Int.ofNat n=(n:Int):=rfl
theorem bP (a b:Bool):((a&&b)=true)=(a=true∧b=true):=Bool.and_eq_true a b
theorem dG (n:Nat):(n:Int).toNat=n:=rfl
theorem dM {n m:Nat} (h:Nat.beq n m=true):n=m:=Nat.eq_of_beq_eq_true h
theorem aQ {α:Sort _} (a b:α):cond true a b=a:=rfl
theorem bU {α:Sort _} (a b:α):cond false a b=b:=rfl
theorem nG {n m k:Nat} (h:n<m) (h2:m≤k):n<k:=Nat.lt_of_lt_of_le h h2
theorem sW {m n:Nat} (k:Nat) (h:m≤n):m*k≤n*k:=Nat.mul_le_mul_right k h
theorem fB {p:Prop} [Decidable p] (h:p):decide p=true:=decide_eq_true h
theorem jH {p:Prop} [Decidable p]:(decide p=true)=p:=decide_eq_true_eq
theorem gL {α:Type _} {β:Type _} (f:α→Option β) (a:α):(some a).bind f=f a:=rfl
theorem dQ (n:Nat):n≤n:=Nat.le_refl n
theorem fG (n:Nat):0≤n:=Nat.zero_le n
theorem kZ {α:Type _} {as bs:List α}:(as++bs).length=as.length+bs.length:=List.length_append
theorem yP {α:Type _} {l:List α} {i:Nat} {a:α}:l.getD i a=(l[i]?).getD a:=List.getD_eq_getElem?_getD
theorem sI:(false=true)=False:=Bool.false_eq_true
theorem jM {p:Prop} [Decidable p] (h:¬p):decide p=false:=decide_eq_false h
theorem oH {α:Type _} (y:α) {a:α} {l:List α} (h:a∈l):a∈y::l:=List.mem_cons_of_mem y h
theorem zC5 {n m:Nat} (h:Nat.beq n m=false):¬ n=m:=Nat.ne_of_beq_eq_false h
theorem qb {α:Type _} {a:α} {s t:List α}:a∈s++t↔a∈s∨a∈t:=List.mem_append
theorem FL {α:Type _} {a:α}:[a].length=1:=rfl
theorem jQ {n m k:Nat} (h:n≤m) (h2:m≤k):n≤k:=Nat.le_trans h h2
theorem sJ {α:Type _} {xs:Array α} {i:Nat} {d:α}:xs.getD i d=xs[i]?.getD d:=by rw [Array.getD_eq_getD_getElem?]
namespace Go.gI
inductive Ty where
 | int (k:IntKind) | bool | str | sl (t:Ty) | unit | cons (a b:Ty) | st (by_:Nat) (c:Ty) | gM (f:Nat) (t:Ty)
 deriving Inhabited
@[reducible] def Ty.den:Ty→Type
  | .int _=>Int
  | .bool=>Bool
  | .str=>List Int
  | .sl t=>List t.den
  | .unit=>Unit
  | .cons a b=>a.den×b.den
  | .st _ c=>c.den
  | .gM _ t=>t.den
def Ty.nc:Ty→Nat
 | .unit=>0
 | .cons a b=>a.nc+b.nc
 | .st _ c=>c.nc
 | _=>1
def Ty.pV:Ty→Nat
 | .int k=>k.bits / 8
 | .bool=>1
 | .str=>16
 | .sl _=>24
 | .st b _=>b
 | .gM _ _=>8
 | _=>0
def Ty.dflt:(t:Ty)→t.den
 | .int _=>(0:Int)
 | .bool=>false
 | .str=>[]
 | .sl _=>[]
 | .unit=>()
 | .cons a b=>(a.dflt,b.dflt)
 | .st _ c=>c.dflt
 | .gM _ t=>t.dflt
def jm:IntKind→IntKind→Bool
 | .i8,.i8 | .i16,.i16 | .i32,.i32 | .i64,.i64 | .u8,.u8 | .u16,.u16 | .u32,.u32 | .u64,.u64=>true
 | _,_=>false
theorem fq {a b:IntKind} (h:jm a b=true):a=b:=by
 cases a<;>cases b<;>first | rfl | (simp [jm] at h)
def Ty.beq:Ty→Ty→Bool
 | .int k,.int k'=>jm k k'
 | .bool,.bool=>true
 | .str,.str=>true
 | .sl a,.sl b=>a.beq b
 | .unit,.unit=>true
 | .cons a b,.cons c d=>a.beq c&&b.beq d
 | .st n a,.st m b=>Nat.beq n m&&a.beq b
 | .gM n a,.gM m b=>Nat.beq n m&&a.beq b
 | _,_=>false
theorem Ty.eq_of_beq:∀ {a b:Ty},a.beq b=true→a=b
 | .int k,.int k',h=>by rw [fq (show jm k k' = true from h)]
 | .bool,.bool,_=>rfl
 | .str,.str,_=>rfl
 | .unit,.unit,_=>rfl
 | .sl a,.sl b,h=>by rw [Ty.eq_of_beq (show a.beq b=true from h)]
 | .cons a b,.cons c d,h=>by
  have h':(a.beq c&&b.beq d)=true:=h;rw [bP] at h';rw [Ty.eq_of_beq h'.1,Ty.eq_of_beq h'.2]
 | .st n a,.st m b,h=>by
  have h':(Nat.beq n m&&a.beq b)=true:=h;rw [bP] at h';rw [dM h'.1,Ty.eq_of_beq h'.2]
 | .gM n a,.gM m b,h=>by
  have h':(Nat.beq n m&&a.beq b)=true:=h;rw [bP] at h';rw [dM h'.1,Ty.eq_of_beq h'.2]
 | .gM _ _,.int _,h | .gM _ _,.bool,h | .gM _ _,.str,h | .gM _ _,.sl _,h | .gM _ _,.unit,h | .gM _ _,.cons _ _,h | .gM _ _,.st _ _,h
 | .int _,.gM _ _,h | .bool,.gM _ _,h | .str,.gM _ _,h | .sl _,.gM _ _,h | .unit,.gM _ _,h | .cons _ _,.gM _ _,h | .st _ _,.gM _ _,h
 | .int _,.bool,h | .int _,.str,h | .int _,.sl _,h | .int _,.unit,h | .int _,.cons _ _,h | .int _,.st _ _,h
 | .bool,.int _,h | .bool,.str,h | .bool,.sl _,h | .bool,.unit,h | .bool,.cons _ _,h | .bool,.st _ _,h
 | .str,.int _,h | .str,.bool,h | .str,.sl _,h | .str,.unit,h | .str,.cons _ _,h | .str,.st _ _,h
 | .sl _,.int _,h | .sl _,.bool,h | .sl _,.str,h | .sl _,.unit,h | .sl _,.cons _ _,h | .sl _,.st _ _,h
 | .unit,.int _,h | .unit,.bool,h | .unit,.str,h | .unit,.sl _,h | .unit,.cons _ _,h | .unit,.st _ _,h
 | .cons _ _,.int _,h | .cons _ _,.bool,h | .cons _ _,.str,h | .cons _ _,.sl _,h | .cons _ _,.unit,h | .cons _ _,.st _ _,h
 | .st _ _,.int _,h | .st _ _,.bool,h | .st _ _,.str,h | .st _ _,.sl _,h | .st _ _,.unit,h | .st _ _,.cons _ _,h=>by
  exact absurd (show false=true from h) (by decide)
inductive D where
 | undef
 | bool (b:Bool)
 | int (k:IntKind) (n:Int)
 | str (s:List Int)
 | jK
 | sl (fl:Nat) (t:Ty) (l:List t.den)
 | ptr (id st off:Nat)
 | mH (id st i off es:Nat)
 | sj (g off:Nat)
 | iF (t:Ty) (l:List t.den) (i off:Nat)
 | csl (t:Ty) (l:List t.den)
 | gZ (id st:Nat)
 | agg (cs:List D)
 | fO (vs:List D)
 | fn (f:Nat) (caps:List D)
 | aI (st:Nat) (live:Bool) (cs:List D)
 | aW (st:Nat) (live:Bool) (ar:Bool) (t:Ty) (l:List t.den)
 | uI (st:Nat) (l:List (Int×(List Int×Unit)))
 | dP (st:Nat) (t:Ty) (l:List (List t.den)) (h:Option (Nat×Nat×Nat))
 | BZ (id st n:Nat)
 | IQ (id st nc o n:Nat)
 | BS (f:Nat)
 | gM (f:Nat) (t:Ty) (x:t.den)
 | av (k:IntKind) (l:List Int)
 | O6 (k:IntKind) (l:List Int)
 deriving Inhabited
def enc:(t:Ty)→t.den→List D
 | .int k,n=>[.int k n]
 | .bool,b=>[.bool b]
 | .str,s=>[.str s]
 | .sl t,l=>[.sl 0 t l]
 | .unit,_=>[]
 | .cons a b,x=>enc a x.1++enc b x.2
 | .st _ c,x=>enc c x
 | .gM f t,x=>[.gM f t x]
def Ut:Nat→List Int→List Int
 | 0,_=>[]
 | n+1,l=>l.headD 0::Ut n l.tail
theorem KC:∀ {n:Nat} {l:List Int},l.length=n→Ut n l=l
 | 0,[],_=>rfl
 | 0,_::_,h=>by simp at h
 | n+1,[],h=>by simp at h
 | n+1,x::r,h=>by rw [Ut];simp only [List.headD_cons,List.tail_cons];rw [KC (by simpa using h)]
def KD {a b:Ty} (h:a=b) (x:a.den):b.den:=h▸x
def uJ {a b:Ty} (h:a=b) (l:List a.den):List b.den:=h▸l
def dec:(t:Ty)→List D→Option (t.den×List D)
 | .int k,.int k' n::r=>bif jm k k' then some (n,r) else none
 | .bool,.bool b::r=>some (b,r)
 | .str,.str s::r=>some (s,r)
 | .sl _,.jK::r=>some ([],r)
 | .sl t,.sl _ t' l::r=>if h:t'.beq t=true then some (uJ (Ty.eq_of_beq h) l,r) else none
 | .unit,r=>some ((),r)
 | .cons a b,r=>match dec a r with
  | some (x,r')=>match dec b r' with
   | some (y,r'')=>some ((x,y),r'')
   | none=>none
  | none=>none
 | .st _ c,r=>dec c r
 | .gM f t,.gM f' t' x::r=>if h:(Ty.gM f' t').beq (.gM f t)=true then some (KD (Ty.eq_of_beq h) x,r) else none
 | _,_=>none
structure TI where
 size:Nat
 bytes:Nat
 agg:Bool
 ty:Ty
 desc:TypeDesc
 zero:List D
 arr:Option Ty
 cmp:Option (List Nat)
 deriving Inhabited
abbrev St:=List (Nat×D)
def get:St→Nat→D
 | [],_=>.undef
 | (l,d)::r,m=>bif Nat.beq m l then d else get r m
def dw:D→D
 | .sl _ t l=>.sl 0 t l
 | d=>d
def bV:D→D
 | .sl f t l=>.sl (bif Nat.beq f 2 then 1 else f) t l
 | d=>d
def stripL:D→D
 | .sl f t l=>bif Nat.beq f 0 then .sl 0 t l else .undef
 | d=>d
def xW:D→Bool
 | .sl f _ _=>!Nat.beq f 0
 | _=>false
def zI:D→Bool
 | .sl f _ _=>Nat.beq f 2
 | _=>false
def view:D→D
 | .agg cs=>.agg (cs.map dw)
 | d=>dw d
def share:D→D
 | .agg cs=>.agg (cs.map bV)
 | d=>bV d
def strip:D→D
 | .agg cs=>.agg (cs.map stripL)
 | .fO _=>.undef
 | d=>stripL d
def dY:D→Bool
 | .agg cs=>cs.any xW
 | .fO _=>true
 | d=>xW d
def ko:D→Bool
 | .agg cs=>cs.any zI
 | .fO _=>true
 | d=>zI d
def cZ (t:Ty):D→D
 | .jK=>match t with
  | .sl e=>.sl 2 e []
  | _=>.jK
 | d=>d
def d9 (s:ByteArray):List Int:=s.data.toList.map fun b=>(b.toNat:Int)
def OY (k:IntKind) (n:Int):Bool:=decide (k.min≤n)&&decide (n≤k.max)
def jo:Nat:=9223372036854775807
def MN:Value→D
 | .bool b=>.bool b
 | .int k n=>bif OY k n then .int k n else .undef
 | .string s=>bif Nat.ble (d9 s).length jo then .str (d9 s) else .undef
 | .slice none 0 0=>.jK
 | _=>.undef
def big:Nat:=140737488355328
def dK (w:World) (G:Nat→Nat):(t:Ty)→t.den→Nat→Nat→Prop
 | .int k,n,b,o=>w.cell? ⟨b,o,none⟩=some (.int k n)∧k.has n
 | .bool,x,b,o=>w.cell? ⟨b,o,none⟩=some (.bool x)
 | .str,l,b,o=>∃ s,w.cell? ⟨b,o,none⟩=some (.string s)∧d9 s=l∧l.length≤jo
 | .sl t,l,b,o=>∃ a n c,w.cell? ⟨b,o,none⟩=some (.slice a n c)∧n=l.length∧n*t.pV≤big∧n≤c ∧
  (l=[]∨∃ b' o',a=some ⟨b',o',none⟩∧o' + n*t.nc≤G b'∧∀ i (h:i<l.length),dK w G t l[i] b' (o' + i*t.nc))
 | .unit,_,_,_=>True
 | .cons a c,x,b,o=>dK w G a x.1 b o∧dK w G c x.2 b (o+a.nc)
 | .st _ c,x,b,o=>dK w G c x b o
 | .gM f t,x,b,o=>∃ b' o',w.cell? ⟨b,o,none⟩=some (.func (.func f) #[] #[.pointer (some ⟨b',o',none⟩)])∧o' + t.nc≤G b'∧dK w G t x b' o'
def fJ (w:World) (G:Nat→Nat) (t:Ty) (l:List t.den) (b o:Nat):Prop:=
 ∀ i (h:i<l.length),dK w G t l[i] b (o+i*t.nc)
structure Ext (w:World) (G:Nat→Nat) (w':World) (G':Nat→Nat):Prop where
 cell:∀ b o,o<G b→w'.cell? ⟨b,o,none⟩=w.cell? ⟨b,o,none⟩
 le:∀ b,G b≤G' b
theorem Ext.refl (w:World) (G:Nat→Nat):Ext w G w G:=⟨fun _ _ _=>rfl,fun _=>dQ _⟩
theorem Ext.trans {w1 w2 w3:World} {G1 G2 G3:Nat→Nat} (h:Ext w1 G1 w2 G2) (k:Ext w2 G2 w3 G3):Ext w1 G1 w3 G3:=
 ⟨fun b o ho=>(k.cell b o (nG ho (h.le b))).trans (h.cell b o ho),fun b=>jQ (h.le b) (k.le b)⟩
theorem dK.mono {w w':World} {G G':Nat→Nat} (hE:Ext w G w' G') :
 ∀ {t:Ty} {x:t.den} {b o:Nat},dK w G t x b o →
  (∀ j,o≤j→j<o+t.nc→w'.cell? ⟨b,j,none⟩=w.cell? ⟨b,j,none⟩)→dK w' G' t x b o
 | .int k,n,b,o,h,hc=>by
  simp only [dK] at h ⊢
  rw [hc o (dQ _) (by simp [Ty.nc])];exact h
 | .bool,n,b,o,h,hc=>by
  simp only [dK] at h ⊢
  rw [hc o (dQ _) (by simp [Ty.nc])];exact h
 | .str,n,b,o,h,hc=>by
  simp only [dK] at h ⊢
  rw [hc o (dQ _) (by simp [Ty.nc])];exact h
 | .sl t,l,b,o,h,hc=>by
  simp only [dK] at h ⊢
  rw [hc o (dQ _) (by simp [Ty.nc])]
  obtain ⟨a,n,c,h1,h2,h3,h3',h4⟩:=h;refine ⟨a,n,c,h1,h2,h3,h3',?_⟩
  rcases h4 with h4 | ⟨b',o',h5,h6,h7⟩
  ·exact .inl h4
  ·refine .inr ⟨b',o',h5,jQ h6 (hE.le b'),fun i hi=>(h7 i hi).mono hE fun j hj1 hj2=>hE.cell _ _ ?_⟩
   have:(i+1)*t.nc≤n*t.nc:=sW _ (by omega)
   rw [Nat.add_mul] at this;omega
 | .unit,_,_,_,_,_=>trivial
 | .cons a c,x,b,o,h,hc=>by
  simp only [dK] at h ⊢;simp only [Ty.nc] at hc
  exact ⟨h.1.mono hE fun j h1 h2=>hc j h1 (by omega),h.2.mono hE fun j h1 h2=>hc j (by omega) (by omega)⟩
 | .st _ c,x,b,o,h,hc=>by
  simp only [dK] at h ⊢;exact dK.mono hE h hc
 | .gM f t,x,b,o,h,hc=>by
  simp only [dK] at h ⊢
  rw [hc o (dQ _) (by simp [Ty.nc])]
  obtain ⟨b',o',h1,h2,h3⟩:=h
  exact ⟨b',o',h1,jQ h2 (hE.le b'),h3.mono hE fun j hj1 hj2=>hE.cell _ _ (by omega)⟩
theorem fJ.mono {w w':World} {G G':Nat→Nat} (hE:Ext w G w' G') {t:Ty} {l:List t.den} {b o:Nat} (h:fJ w G t l b o)
 (hc:∀ j,o≤j→j<o+l.length*t.nc→w'.cell? ⟨b,j,none⟩=w.cell? ⟨b,j,none⟩):fJ w' G' t l b o:=by
 intro i hi
 refine (h i hi).mono hE fun j hj1 hj2=>hc j (by omega) ?_
 have:(i+1)*t.nc≤l.length*t.nc:=sW _ (by omega)
 rw [Nat.add_mul] at this;omega
def Room (w:World) (b k:Nat):Prop:=
 ∃ cur e fr,w.heap[b]? = some (.cells cur e fr)∧k≤cur.size∧∀ o,o<cur.size→¬ (fr.1≤o∧o<fr.2)
def SlR (w:World) (G:Nat→Nat) (f:Nat) (t:Ty) (l:List t.den) (a:Option Addr) (c:Nat):Prop:=
 match f with
 | 0=>l.length≤c∧(l=[]∨∃ b o,a=some ⟨b,o,none⟩∧o+l.length*t.nc≤G b∧fJ w G t l b o)
 | 1=>(a=none∧l=[]∧c=0)∨∃ b,a=some ⟨b,0,none⟩∧G b=l.length*t.nc∧Room w b (c*t.nc)∧l.length≤c∧fJ w G t l b 0∧0<t.nc
 | 2=>(a=none∧l=[]∧c=0)∨∃ b,a=some ⟨b,0,none⟩∧G b=0∧Room w b (c*t.nc)∧l.length≤c∧fJ w G t l b 0∧0<t.nc
 | _=>False
def bH:Option Value→Option Nat
 | some (.pointer (some ⟨b,0,none⟩))=>some b
 | some (.slice (some ⟨b,0,none⟩) _ _)=>some b
 | _=>none
def bO (w:World) (G:Nat→Nat) (pt:Nat→Nat→Option Value):D→Value→Prop
 | .undef,_=>True
 | .bool b,v=>v = .bool b
 | .int k n,v=>v = .int k n∧k.has n
 | .str l,v=>∃ s,v = .string s∧d9 s=l∧l.length≤jo
 | .jK,v=>v = .slice none 0 0
 | .sl f t l,v=>∃ a n c,v = .slice a n c∧n=l.length∧n*t.pV≤big∧SlR w G f t l a c
 | .ptr id st off,v=>∃ b,bH (pt id st)=some b∧v = .pointer (some ⟨b,off,none⟩)
 | .mH id st i off es,v=>∃ b,bH (pt id st)=some b∧v = .pointer (some ⟨b,i*es+off,none⟩)
 | .sj g off,v=>v = .pointer (some ⟨g,off,none⟩)
 | .iF t l i off,v=>∃ b o,v = .pointer (some ⟨b,o+i*t.nc+off,none⟩)∧i<l.length∧o+l.length*t.nc≤G b∧fJ w G t l b o
 | .csl t l,v=>∃ a n,v = .slice a n n∧n=l.length∧n*t.pV≤big∧SlR w G 0 t l a n
 | .gZ id st,v=>pt id st=some v
 | .BS f,v=>v = .func (.func f) #[] #[]
 | .gM f t x,v=>∃ b o,v = .func (.func f) #[] #[.pointer (some ⟨b,o,none⟩)]∧o+t.nc≤G b∧dK w G t x b o
 | .av k l,v=>∃ arr,v = .agg arr∧arr.size=l.length∧∀ j (h:j<l.length),arr.getD j undef = .int k l[j]∧k.has l[j]
 | .O6 k l,v=>∃ b o,v = .pointer (some ⟨b,o,none⟩)∧o+l.length≤G b∧fJ w G (.int k) l b o
 | .IQ id st nc o n,v=>∃ ad m c Uu c',pt id st=some (.slice ad m c)∧v = .slice Uu n c'∧o+n≤m∧n≤c'∧(n=0∨∃ b,ad=some ⟨b,0,none⟩∧Uu=some ⟨b,o*nc,none⟩)
 | .BZ id st n,v=>((∃ b c,bH (pt id st)=some b∧v = .slice (some ⟨b,0,none⟩) n c)∨(n=0∧v = .slice none 0 0))∧n≤jo
 | _,_=>False
def aR (w:World) (G:Nat→Nat) (pt:Nat→Nat→Option Value) (ds:List D) (f:Nat→Value):Prop:=
 ∀ j (h:j<ds.length),bO w G pt ds[j] (f j)∧(f j).oneCell' = true
def aS (arr:Array Value) (j:Nat):Value:=arr.getD j undef
def yH (w:World) (G:Nat→Nat) (pt:Nat→Nat→Option Value) (d:D) (v:Value):Prop:=
 match d with
 | .agg cs=>∃ arr,v = .agg arr∧arr.size=cs.length∧aR w G pt cs (aS arr)
 | d=>bO w G pt d v
def eu (b:Nat):D→Value→Nat
 | .sl f _ _,.slice (some a) _ _=>if f≠0∧a.block=b then 1 else 0
 | _,_=>0
def aP (b:Nat) (ds:List D) (f:Nat→Value):Nat:=
 match ds with
 | []=>0
 | d::r=>eu b d (f 0)+aP b r (fun i=>f (i+1))
def bg (w:World) (G:Nat→Nat) (pt:Nat→Nat→Option Value) (d:D) (v:Value):Prop:=
 match d with
 | .agg cs=>∃ arr,v = .agg arr∧arr.size=cs.length∧aR w G pt cs (aS arr)
 | .fO vs=>∃ arr,v = .tuple arr∧arr.size=vs.length∧∀ j (h:j<vs.length),yH w G pt vs[j] (aS arr j)
 | .fn f caps=>∃ arr,v = .func (.func f) #[] arr∧arr.size=caps.length∧aR w G pt caps (aS arr)∧∀ b,aP b caps (aS arr)=0
 | d=>bO w G pt d v
def aD (w:World) (b j:Nat):Value:=(w.cell? ⟨b,j,none⟩).getD undef
abbrev Uv:Ty:=.st 32 (.cons (.int .i64) (.cons (.sl (.int .i64)) .unit))
def inn (l:List (Int×(List Int×Unit))):List D:=l.map fun r=>.sl 1 (.int .i64) r.2.1
def inf (w:World) (pt:Nat→Nat→Option Value) (id st:Nat) (i:Nat):Value:=aD w ((bH (pt id st)).getD 0) (i*2+1)
def bM (t:Ty) (l:List (List t.den)) (h:Option (Nat×Nat×Nat)):List D:=
 match h with
 | none=>l.map fun r=>.sl 2 t r
 | some (i,X,st)=>(l.map fun r=>D.sl 2 t r).set i (.gZ X st)
def nI (w:World) (G:Nat→Nat) (pt:Nat→Nat→Option Value) (id:Nat) (d:D):Prop:=
 match d with
 | .undef=>True
 | .aI st live cs=>live=true→∃ b,pt id st=some (.pointer (some ⟨b,0,none⟩))∧Room w b cs.length∧G b=0∧aR w G pt cs (aD w b)
 | .aW st live ar t l=>live=true→if ar=true
  then ∃ b,pt id st=some (.pointer (some ⟨b,0,none⟩))∧Room w b (l.length*t.nc)∧G b=0∧fJ w G t l b 0
  else ∃ a n c,pt id st=some (.slice a n c)∧n=l.length∧n*t.pV≤big∧SlR w G 2 t l a c
 | .dP st t l h=>∃ b,pt id st=some (.pointer (some ⟨b,0,none⟩))∧Room w b (bM t l h).length∧G b=0∧aR w G pt (bM t l h) (aD w b)
 | .uI st l=>(∃ a n c,pt id st=some (.slice a n c)∧n=l.length∧n*32≤big∧SlR w G 2 Uv l a c)∧aR w G pt (inn l) (inf w pt id st)
 | _=>False
def IK (b:Nat) (d:D) (v:Value):Nat:=
 match d,v with
 | .agg cs,.agg arr=>aP b cs (aS arr)
 | d,v=>eu b d v
def nJ (b:Nat) (ds:List D) (f:Nat→Value):Nat:=
 match ds with
 | []=>0
 | d::r=>IK b d (f 0)+nJ b r (fun i=>f (i+1))
def dN (b:Nat) (d:D) (v:Value):Nat:=
 match d,v with
 | .agg cs,.agg arr=>aP b cs (aS arr)
 | .fO vs,.tuple arr=>nJ b vs (aS arr)
 | d,v=>eu b d v
def dx (b:Nat) (v:Option Value):Nat:=if bH v=some b then 1 else 0
def gQ (w:World) (pt:Nat→Nat→Option Value) (b id:Nat) (d:D):Nat:=
 match d with
 | .aI st true cs=>dx b (pt id st)+aP b cs (aD w ((bH (pt id st)).getD 0))
 | .aW st true _ _ _=>dx b (pt id st)
 | .uI st l=>dx b (pt id st)+aP b (inn l) (inf w pt id st)
 | .dP st t l h=>dx b (pt id st)+aP b (bM t l h) (aD w ((bH (pt id st)).getD 0))
 | _=>0
theorem Co {w:World} {G:Nat→Nat} {pt:Nat→Nat→Option Value} {id st:Nat} {t:Ty} {l:List (List t.den)} {h:Option (Nat×Nat×Nat)} :
 nI w G pt id (.dP st t l h)↔nI w G pt id (.aI st true (bM t l h)):=⟨fun h _=>h,fun h=>h rfl⟩
theorem Room.same {w w':World} {b k:Nat} (h:Room w b k) (hb:w'.heap[b]? = w.heap[b]?):Room w' b k:=by
 obtain ⟨cur,e,fr,h1,h2⟩:=h;exact ⟨cur,e,fr,hb.trans h1,h2⟩
theorem cell_of_heap {w w':World} {b:Nat} (hb:w'.heap[b]? = w.heap[b]?) (o:Nat):w'.cell? ⟨b,o,none⟩=w.cell? ⟨b,o,none⟩:=by
 simp [World.cell?,hb]
theorem bO.mono {w w':World} {G G':Nat→Nat} {pt bX:Nat→Nat→Option Value} (hE:Ext w G w' G')
 (hpt:∀ id st v,pt id st=some v→bX id st=some v) {d:D} {v:Value} (h:bO w G pt d v)
 (hx:∀ b,0<eu b d v→w'.heap[b]? = w.heap[b]?∧G' b=G b):bO w' G' bX d v:=by
 have hblk:∀ id st b,bH (pt id st)=some b→bH (bX id st)=some b:=by
  intro id st b hb
  cases hp:pt id st with
  | none=>rw [hp] at hb;simp [bH] at hb
  | some u=>rw [hpt id st u hp];rw [hp] at hb;exact hb
 cases d with
 | undef=>trivial
 | bool b=>exact h
 | int k n=>exact h
 | str l=>exact h
 | jK=>exact h
 | sl f t l=>
  obtain ⟨a,n,c,h1,h2,h3,h4⟩:=h;refine ⟨a,n,c,h1,h2,h3,?_⟩
  match f,h4,hx with
  | 0,h4,_=>
   refine ⟨h4.1,?_⟩
   rcases h4.2 with h4 | ⟨b,o,h5,h6,h7⟩
   ·exact .inl h4
   ·exact .inr ⟨b,o,h5,jQ h6 (hE.le b),h7.mono hE fun j hj1 hj2=>hE.cell b j (by omega)⟩
  | 1,h4,hx=>
   rcases h4 with h4 | ⟨b,h5,h6,h7,h8,h9⟩
   ·exact .inl h4
   ·subst h1;subst h5
    obtain ⟨q1,q2⟩:=hx b (by simp [eu])
    exact .inr ⟨b,rfl,q2.trans h6,h7.same q1,h8,h9.1.mono hE fun j _ _=>cell_of_heap q1 j,h9.2⟩
  | 2,h4,hx=>
   rcases h4 with h4 | ⟨b,h5,h6,h7,h8,h9⟩
   ·exact .inl h4
   ·subst h1;subst h5
    obtain ⟨q1,q2⟩:=hx b (by simp [eu])
    exact .inr ⟨b,rfl,q2.trans h6,h7.same q1,h8,h9.1.mono hE fun j _ _=>cell_of_heap q1 j,h9.2⟩
  | (k+3),h4,_=>exact h4.elim
 | ptr id st off=>obtain ⟨b,h1,h2⟩:=h;exact ⟨b,hblk _ _ _ h1,h2⟩
 | mH id st i off es=>obtain ⟨b,h1,h2⟩:=h;exact ⟨b,hblk _ _ _ h1,h2⟩
 | sj g off=>exact h
 | iF t l i off=>
  obtain ⟨b,o,h1,h2,h3,h4⟩:=h
  exact ⟨b,o,h1,h2,jQ h3 (hE.le b),h4.mono hE fun j hj1 hj2=>hE.cell b j (by omega)⟩
 | csl t l=>
  obtain ⟨a,n,h1,h2,h3,h4⟩:=h;refine ⟨a,n,h1,h2,h3,h4.1,?_⟩
  rcases h4.2 with h4 | ⟨b,o,h5,h6,h7⟩
  ·exact .inl h4
  ·exact .inr ⟨b,o,h5,jQ h6 (hE.le b),h7.mono hE fun j hj1 hj2=>hE.cell b j (by omega)⟩
 | gZ id st=>exact hpt _ _ _ h
 | agg cs=>exact h.elim
 | fO cs=>exact h.elim
 | fn f cs=>exact h.elim
 | aI st live cs=>exact h.elim
 | aW st live ar t l=>exact h.elim
 | uI st l=>exact h.elim
 | dP st t l h'=>exact h.elim
 | BS f=>exact h
 | gM f t x=>
  obtain ⟨b,o,h1,h2,h3⟩:=h
  exact ⟨b,o,h1,jQ h2 (hE.le b),h3.mono hE fun j hj1 hj2=>hE.cell b j (by omega)⟩
 | av k l=>exact h
 | O6 k l=>
  obtain ⟨b,o,h1,h2,h3⟩:=h
  exact ⟨b,o,h1,jQ h2 (hE.le b),h3.mono hE fun j hj1 hj2=>hE.cell b j (by simp only [Ty.nc,Nat.mul_one] at hj2;omega)⟩
 | IQ id st nc o n=>
  obtain ⟨ad,m,c,Uu,c',h1,h⟩:=h;exact ⟨ad,m,c,Uu,c',hpt _ _ _ h1,h⟩
 | BZ id st n=>
  obtain ⟨h,hn⟩:=h
  rcases h with ⟨b,c,h1,h2⟩ | h
  ·exact ⟨.inl ⟨b,c,hblk _ _ _ h1,h2⟩,hn⟩
  ·exact ⟨.inr h,hn⟩
theorem jy {b:Nat}:∀ {ds:List D} {f:Nat→Value} (j:Nat) (h:j<ds.length),eu b ds[j] (f j)≤aP b ds f
 | d::r,f,0,_=>by simp [aP]
 | d::r,f,j+1,h=>by
  have:=jy (b:=b) (ds:=r) (f:=fun i=>f (i+1)) j (by simpa using h)
  simp only [aP,List.getElem_cons_succ];omega
theorem FP {b:Nat}:∀ {ds:List D} {f:Nat→Value} (j:Nat) (h:j<ds.length),IK b ds[j] (f j)≤nJ b ds f
 | d::r,f,0,_=>by simp [nJ]
 | d::r,f,j+1,h=>by
  have:=FP (b:=b) (ds:=r) (f:=fun i=>f (i+1)) j (by simpa using h)
  simp only [nJ,List.getElem_cons_succ];omega
section
variable {w w':World} {G G':Nat→Nat} {pt bX:Nat→Nat→Option Value} (hE:Ext w G w' G')
 (hpt:∀ id st v,pt id st=some v→bX id st=some v)
include hE hpt
theorem aR.mono {ds:List D} {f f':Nat→Value} (h:aR w G pt ds f) (hf:∀ j,j<ds.length→f' j=f j)
 (hx:∀ b,0<aP b ds f→w'.heap[b]? = w.heap[b]?∧G' b=G b):aR w' G' bX ds f':=by
 intro j hj;rw [hf j hj]
 exact ⟨(h j hj).1.mono hE hpt fun b hb=>hx b (nG hb (jy j hj)),(h j hj).2⟩
theorem yH.mono {d:D} {v:Value} (h:yH w G pt d v)
 (hx:∀ b,0<IK b d v→w'.heap[b]? = w.heap[b]?∧G' b=G b):yH w' G' bX d v:=by
 cases d with
 | agg cs=>
  obtain ⟨arr,rfl,h2,h3⟩:=h
  exact ⟨arr,rfl,h2,h3.mono hE hpt (fun _ _=>rfl) hx⟩
 | _=>
  simp only [yH] at h ⊢
  exact bO.mono hE hpt h (by simpa only [IK] using hx)
theorem bg.mono {d:D} {v:Value} (h:bg w G pt d v)
 (hx:∀ b,0<dN b d v→w'.heap[b]? = w.heap[b]?∧G' b=G b):bg w' G' bX d v:=by
 cases d with
 | agg cs=>
  obtain ⟨arr,rfl,h2,h3⟩:=h
  exact ⟨arr,rfl,h2,h3.mono hE hpt (fun _ _=>rfl) hx⟩
 | fO vs=>
  obtain ⟨arr,rfl,h2,h3⟩:=h
  exact ⟨arr,rfl,h2,fun j hj=>(h3 j hj).mono hE hpt fun b hb=>hx b (nG hb (FP j hj))⟩
 | fn f caps=>
  obtain ⟨arr,rfl,h2,h3,h4⟩:=h
  exact ⟨arr,rfl,h2,h3.mono hE hpt (fun _ _=>rfl) (fun b hb=>by have:=h4 b;omega),h4⟩
 | _=>
  simp only [bg] at h ⊢
  exact bO.mono hE hpt h (by simpa only [dN] using hx)
theorem nI.mono {id:Nat} {d:D} (h:nI w G pt id d)
 (hx:∀ b,0<gQ w pt b id d→w'.heap[b]? = w.heap[b]?∧G' b=G b):nI w' G' bX id d:=by
 cases d with
 | undef=>trivial
 | aI st live cs=>
  intro hl;subst hl;obtain ⟨b,h1,h2,h3,h4⟩:=h rfl
  have hb:bH (pt id st)=some b:=by rw [h1];rfl
  obtain ⟨q1,q2⟩:=hx b (by simp [gQ,dx,hb]<;>omega)
  refine ⟨b,hpt _ _ _ h1,h2.same q1,q2.trans h3,h4.mono hE hpt (fun j _=>by simp [aD,cell_of_heap q1]) fun b' hb'=>hx b' ?_⟩
  simp only [gQ,hb,Option.getD_some];omega
 | dP st t l h'=>
  obtain ⟨b,h1,h2,h3,h4⟩:=h
  have hb:bH (pt id st)=some b:=by rw [h1];rfl
  obtain ⟨q1,q2⟩:=hx b (by simp [gQ,dx,hb]<;>omega)
  refine ⟨b,hpt _ _ _ h1,h2.same q1,q2.trans h3,h4.mono hE hpt (fun j _=>by simp [aD,cell_of_heap q1]) fun b' hb'=>hx b' ?_⟩
  simp only [gQ,hb,Option.getD_some];omega
 | aW st live ar t l=>
  intro hl;subst hl;have h':=h rfl
  cases ar with
  | true=>
   simp only [if_true] at h' ⊢;obtain ⟨b,h1,h2,h3,h4⟩:=h'
   have hb:bH (pt id st)=some b:=by rw [h1];rfl
   obtain ⟨q1,q2⟩:=hx b (by simp [gQ,dx,hb]<;>omega)
   exact ⟨b,hpt _ _ _ h1,h2.same q1,q2.trans h3,h4.mono hE fun j _ _=>cell_of_heap q1 j⟩
  | false=>
   simp only [sI,if_false] at h' ⊢;obtain ⟨a,n,c,h1,h2,h3,h4⟩:=h';refine ⟨a,n,c,hpt _ _ _ h1,h2,h3,?_⟩
   rcases h4 with h4 | ⟨b,h5,h6,h7,h8,h9⟩
   ·exact .inl h4
   ·subst h5
    have hb:bH (pt id st)=some b:=by rw [h1];rfl
    obtain ⟨q1,q2⟩:=hx b (by simp [gQ,dx,hb]<;>omega)
    exact .inr ⟨b,rfl,q2.trans h6,h7.same q1,h8,h9.1.mono hE fun j _ _=>cell_of_heap q1 j,h9.2⟩
 | uI st l=>
  obtain ⟨⟨a,n,c,h1,h2,h3,h4⟩,h5⟩:=h;have e1:=hpt _ _ _ h1
  rcases h4 with h4 | ⟨b,g5,g6,g7,g8,g9⟩
  ·obtain ⟨g1,g2,g3⟩:=h4
   subst g2
   exact ⟨⟨a,n,c,e1,h2,h3,.inl ⟨g1,rfl,g3⟩⟩,fun j hj=>by simp [inn] at hj⟩
  ·subst g5
   have hb:bH (pt id st)=some b:=by rw [h1];rfl
   obtain ⟨q1,q2⟩:=hx b (by simp [gQ,dx,hb]<;>omega)
   refine ⟨⟨_,n,c,e1,h2,h3,.inr ⟨b,rfl,q2.trans g6,g7.same q1,g8,g9.1.mono hE fun j _ _=>cell_of_heap q1 j,g9.2⟩⟩,?_⟩
   refine h5.mono hE hpt (fun j _=>?_) fun b' hb'=>hx b' (by simp only [gQ];omega)
   simp only [inf,e1,h1,bH,Option.getD_some,aD,cell_of_heap q1]
 | _=>exact h.elim
omit hE in
theorem zJ {id:Nat} {d:D} (h:nI w G pt id d)
 (hx:∀ b,0<gQ w pt b id d→w'.heap[b]? = w.heap[b]?∧G' b=G b) (b:Nat):gQ w' bX b id d=gQ w pt b id d:=by
 cases d with
 | aI st live cs=>
  cases live with
  | false=>rfl
  | true=>
   obtain ⟨b0,h1,_⟩:=h rfl
   have hb:bH (pt id st)=some b0:=by rw [h1];rfl
   obtain ⟨q1,q2⟩:=hx b0 (by simp [gQ,dx,hb]<;>omega)
   simp only [gQ,hpt _ _ _ h1,h1,bH,Option.getD_some]
   congr 1
   exact congrArg _ (funext fun j=>by simp [aD,cell_of_heap q1])
 | dP st t l h'=>
  obtain ⟨b0,h1,_⟩:=h
  have hb:bH (pt id st)=some b0:=by rw [h1];rfl
  obtain ⟨q1,q2⟩:=hx b0 (by simp [gQ,dx,hb]<;>omega)
  simp only [gQ,hpt _ _ _ h1,h1,bH,Option.getD_some]
  congr 1
  exact congrArg _ (funext fun j=>by simp [aD,cell_of_heap q1])
 | aW st live ar t l=>
  cases live with
  | false=>rfl
  | true=>
   have h':=h rfl
   cases ar with
   | true=>
    simp only [if_true] at h';obtain ⟨b0,h1,_⟩:=h';simp only [gQ,hpt _ _ _ h1,h1]
   | false=>
    simp only [sI,if_false] at h';obtain ⟨a,n,c,h1,_⟩:=h';simp only [gQ,hpt _ _ _ h1,h1]
 | uI st l=>
  obtain ⟨⟨a,n,c,h1,h2,h3,h4⟩,h5⟩:=h;have e1:=hpt _ _ _ h1
  rcases h4 with h4 | ⟨b0,g5,g6,g7,g8,g9⟩
  ·obtain ⟨g1,g2,g3⟩:=h4
   subst g2;simp only [gQ,e1,h1,inn,List.map_nil,aP]
  ·subst g5
   have hb:bH (pt id st)=some b0:=by rw [h1];rfl
   obtain ⟨q1,q2⟩:=hx b0 (by simp [gQ,dx,hb]<;>omega)
   simp only [gQ,e1,h1]
   congr 1
   exact congrArg _ (funext fun j=>by simp only [inf,e1,h1,bH,Option.getD_some,aD,cell_of_heap q1])
 | _=>rfl
end
structure Env where
 T:Nat→Option TI
 md:Nat→Nat
 glob:Nat→Option (IntKind×List Int)
 n:Nat
 hp:Bool
def tag (E:Env) (o:Oper):Nat:=
 match o.dst with
 | some t=>bif Nat.beq (E.md t) 5 then 1 else E.md t
 | none=>0
def aX (s:St):Operand→D
 | .tmp t=>get s (2*t)
 | .const v=>MN v
 | .global g=>.sj g 0
 | .func f=>.BS f
def dA (s:St) (x:Operand) (f:D→D) (h:D→Bool):St:=
 match x with
 | .tmp t=>bif h (get s (2*t)) then [(2*t,f (get s (2*t)))] else []
 | _=>[]
def bN (o:Oper) (d:D):St:=
 match o.dst with
 | some t=>[(2*t,d)]
 | none=>[]
def fu:D→Bool
 | .fO _=>true
 | _=>false
def aO:D→Nat
 | .aI st _ _=>st
 | .aW st _ _ _ _=>st
 | .uI st _=>st
 | .dP st _ _ _=>st
 | _=>0
def leaves:D→List D
 | .agg cs=>cs
 | d=>[d]
def qV (k:IntKind):List D→Option (List Int)
 | []=>some []
 | .int k' n::r=>bif jm k k' then (match qV k r with | some l=>some (n::l) | none=>none) else none
 | _::_=>none
def dL (cs:List D) (off:Nat) (ds:List D):List D:=cs.take off++(ds++cs.drop (off+ds.length))
def DN (E:Env) (o:Oper) (s:St) (x:Operand):Option (Bool×St):=
 let d:=aX s x
 bif Nat.beq (tag E o) 1 || fu d then some (true,dA s x strip dY++bN o d)
 else some (true,dA s x share ko++bN o (view d))
def sZ (o:Oper) (s:St) (x:Operand):Option (Bool×St):=
 match x with
 | .tmp t=>match get s (2*t) with
  | .sl 1 ty l=>some (true,(2*t,.sl 0 ty l)::bN o (.sl 1 ty l))
  | _=>some (true,dA s (.tmp t) strip dY++bN o (aX s (.tmp t)))
 | x=>some (true,dA s x strip dY++bN o (aX s x))
def lM (E:Env) (o:Oper) (s:St) (x:Operand):Option (Bool×St):=
 bif Nat.beq (tag E o) 6 then sZ o s x else DN E o s x
def zK (E:Env) (o:Oper) (s:St) (x:Operand):Option (Bool×St):=none
def MO (E:Env) (T:Nat):Ty:=
 match E.T T with
 | some i=>i.ty
 | none=>.unit
def oI (E:Env) (o:Oper) (s:St) (x:Operand):Option (Bool×St):=
 let d:=cZ (MO E o.type) (aX s x)
 bif fu d then none else
 match tag E o with
 | 3=>match d,o.dst with
  | .sl f t l,some dst=>bif Nat.beq f 2&&Nat.blt 0 t.nc then
   let st:=aO (get s (2*dst+1))+1
   some (true,dA s x strip dY++[(2*dst+1,.aW st true false t l),(2*dst,.gZ dst st)]) else none
  | _,_=>none
 | 2=>some (true,dA s x strip dY++bN o d)
 | _=>some (true,dA s x strip dY++bN o (share d))
def gJ:D→Bool
 | .undef | .gZ _ _ | .fO _ | .fn _ _ | .aI _ _ _ | .aW _ _ _ _ _ | .BZ _ _ _ | .IQ _ _ _ _ _ | .BS _ | .av _ _ | .O6 _ _=>false
 | _=>true
def uK (t:Ty):Nat→List D→Option (List t.den)
 | 0,[]=>some []
 | 0,_::_=>none
 | n+1,ds=>match dec t ds with
  | some (x,r)=>(match uK t n r with | some l=>some (x::l) | none=>none)
  | none=>none
def O7:List Int→Bool
 | []=>true
 | .ofNat 0::r=>O7 r
 | _=>false
def KE (n:Nat):(t:Ty)→List t.den→List t.den
 | .int _,l=>bif Nat.blt 64 n&&(Nat.beq (l:List Int).length n&&O7 l) then (List.replicate n (0:Int):List Int) else l
 | _,l=>l
theorem KF:∀ {l:List Int},O7 l=true→l=List.replicate l.length 0
 | [],_=>rfl
 | .ofNat 0::r,h=>by rw [List.length_cons,List.replicate_succ,←KF (l:=r) h];rfl
 | .ofNat (_+1)::_,h=>absurd (show false=true from h) (by decide)
 | .negSucc _::_,h=>absurd (show false=true from h) (by decide)
theorem IU (n:Nat):∀ (t:Ty) (l:List t.den),KE n t l=l
 | .int _,l=>by
  show (bif Nat.blt 64 n&&(Nat.beq (l:List Int).length n&&O7 l) then (List.replicate n (0:Int):List Int) else l)=l
  cases h:(Nat.blt 64 n&&(Nat.beq (l:List Int).length n&&O7 l)) with
  | false=>rfl
  | true=>
   simp only [bP] at h;have h1:=dM h.2.1;have h2:=KF h.2.2;rw [h1] at h2;exact h2.symm
 | .bool,_ | .str,_ | .sl _,_ | .unit,_ | .cons _ _,_ | .st _ _,_ | .gM _ _,_=>rfl
def tq (E:Env) (o:Oper) (s:St) (T:Nat):Option (Bool×St):=
 match E.T T,o.dst with
 | some i,some dst=>
  let st:=aO (get s (2*dst+1))+1
  match i.arr with
  | some t=>match uK t (i.size / t.nc) i.zero with
   | some l=>bif Nat.beq (i.size / t.nc*t.nc) i.size then some (true,[(2*dst+1,.aW st true true t (KE i.size t l)),(2*dst,.ptr dst st 0)]) else none
   | none=>none
  | none=>some (true,[(2*dst+1,.aI st true i.zero),(2*dst,.ptr dst st 0)])
 | _,_=>none
def IV (E:Env) (o:Oper) (s:St) (T:Nat) (x:Operand):Option (Bool×St):=
 match E.T T,o.dst with
 | some i,some dst=>
  let st:=aO (get s (2*dst+1))+1
  let d:=cZ i.ty (aX s x)
  bif gJ d then
  match i.arr with
  | some t=>match uK t (leaves d).length (leaves (view d)) with
   | some l=>bif Nat.beq t.nc 1 then some (true,dA s x share ko++[(2*dst+1,.aW st true true t l),(2*dst,.ptr dst st 0)]) else none
   | none=>none
  | none=>bif Nat.beq (tag E o) 2 then some (true,dA s x strip dY++[(2*dst+1,.aI st true (leaves d)),(2*dst,.ptr dst st 0)])
   else some (true,dA s x strip dY++[(2*dst+1,.aI st true ((leaves d).map bV)),(2*dst,.ptr dst st 0)])
  else none
 | _,_=>none
def partAt (E:Env) (i:TI) (j:Nat):Option (Nat×Nat):=
 match i.desc with
 | .struct fs=>match fs.toList[j]? with
  | some f=>match E.T f.type with
   | some fi=>some (f.offset,fi.size)
   | none=>none
  | none=>none
 | .array _ e=>match E.T e with
  | some ei=>some (j*ei.size,ei.size)
  | none=>none
 | _=>none
def fit (z:List D):List D→List D
 | [.jK]=>match z with
  | [.sl f t _]=>bif Nat.ble f 2 then [.sl f t []] else [.jK]
  | _=>[.jK]
 | ds=>ds
def gD (pl:Nat→Option (Nat×Nat)) (s:St) (f:D→D) (cs:List D):List (Nat×Operand)→Option (List D)
 | []=>some cs
 | (j,x)::r=>match pl j with
  | some (off,sz)=>
   let ds:=fit ((cs.drop off).take sz) (leaves (f (aX s x)))
   bif gJ (aX s x)&&Nat.beq ds.length sz&&Nat.ble (off+sz) cs.length then gD pl s f (dL cs off ds) r else none
  | none=>none
def fT (s:St) (f:D→D) (h:D→Bool):List (Nat×Operand)→St
 | []=>[]
 | (_,x)::r=>dA s x f h++fT s f h r
def KG (t:Nat):Operand→Bool
 | .tmp u=>Nat.beq t u
 | _=>false
def tmpsOf:List (Nat×Operand)→Nat→Bool
 | [],_=>false
 | p::r,t=>KG t p.2 || tmpsOf r t
def lq (s:St):List (Nat×Operand)→Bool
 | []=>true
 | (_,.tmp t)::r=>(!dY (get s (2*t)) || !tmpsOf r t)&&lq s r
 | _::r=>lq s r
def qd (E:Env) (i:TI):Bool:=
 match i.desc with
 | .struct fs=>fs.toList.all fun f=>(E.T f.type).isSome
 | .array _ e=>(E.T e).isSome
 | _=>false
def wF (E:Env) (o:Oper) (s:St) (T:Nat) (parts:List (Nat×Operand)):Option (Bool×St):=
 match E.T T with
 | some i=>match gD (partAt E i) s (fun d=>d) i.zero parts with
  | some cs=>bif lq s parts&&qd E i then some (true,fT s strip dY parts++bN o (.agg cs)) else none
  | none=>none
 | none=>none
def rep (n:Nat) (z:List D):List D:=
 match n with
 | 0=>[]
 | n+1=>z++rep n z
def jN (E:Env) (o:Oper) (s:St) (T n:Nat) (parts:List (Nat×Operand)):Option (Bool×St):=
 match E.T T with
 | some i=>match i.desc with
  | .slice e=>match E.T e with
   | some ei=>match gD (fun j=>some (j*ei.size,ei.size)) s view (rep n ei.zero) parts with
    | some cs=>match uK ei.ty n cs with
     | some l=>bif Nat.ble (n*ei.size) 16777216&&Nat.beq ei.size ei.ty.nc&&Nat.blt 0 ei.size&&Nat.ble (n*ei.ty.pV) big then
      some (true,fT s share ko parts++bN o (.sl 2 ei.ty l)) else none
     | none=>none
    | none=>none
   | none=>none
  | _=>none
 | none=>none
def nK (E:Env) (o:Oper) (s:St) (T n:Nat) (parts:List (Nat×Operand)):Option (Bool×St):=none
def mk1 (agg:Bool) (ds:List D):Option D:=
 bif agg then some (.agg ds) else
 match ds with
 | [d]=>some d
 | _=>none
def FQ (t:Ty) (l:List t.den) (i0:Nat):Nat→List D
 | 0=>[]
 | n+1=>enc t (l.getD i0 t.dflt)++FQ t l (i0+1) n
theorem yQ {t:Ty} {l:List t.den}:∀ (n i0:Nat),i0+n≤l.length→FQ t l i0 n=((l.drop i0).take n).flatMap (enc t)
 | 0,i0,_=>by simp [FQ]
 | n+1,i0,h=>by
  have hlt:i0<l.length:=by omega
  rw [FQ,yQ n (i0+1) (by omega),List.drop_eq_getElem_cons hlt,List.take_succ_cons,List.flatMap_cons]
  have e:l.getD i0 t.dflt=l[i0]:=by simp [hlt]
  rw [e]
def IW (n:Nat):(t:Ty)→List t.den→D
 | .int k,l=>bif Nat.blt 64 n then .av k l else .agg (l.flatMap (enc (.int k)))
 | t,l=>.agg (l.flatMap (enc t))
def afN (n:Nat):(t:Ty)→List t.den→D
 | .bool,l=>.agg (FQ .bool l 0 n)
 | t,l=>IW n t l
theorem Uw {n:Nat}:∀ {t:Ty} {l:List t.den},l.length=n→afN n t l=IW n t l
 | .bool,l,h=>by
  show D.agg (FQ .bool l 0 n) = .agg (l.flatMap (enc .bool))
  rw [yQ _ _ (by omega),List.drop_zero,←h,List.take_length]
 | .int _,_,_ | .str,_,_ | .sl _,_,_ | .unit,_,_ | .cons _ _,_,_ | .st _ _,_,_ | .gM _ _,_,_=>rfl
def xX (E:Env) (o:Oper) (s:St) (T:Nat) (x:Operand):Option (Bool×St):=
 match E.T T with
 | some i=>match aX s x with
  | .ptr id st off=>match get s (2*id+1) with
   | .aI st' true cs=>
    let ds:=(cs.drop off).take i.size
    bif Nat.beq st st' && Nat.beq ds.length i.size&&Nat.blt 0 i.size then
    (match tag E o with
    | 3=>match ds,o.dst with
     | [.sl f t l],some dst=>
      let st2:=aO (get s (2*dst+1))+1
      bif Nat.beq f 2&&Nat.blt 0 t.nc && !Nat.beq dst id && !i.agg then
       some (true,[(2*id+1,.aI st true (dL cs off [.gZ dst st2])),(2*dst+1,.aW st2 true false t l),(2*dst,.gZ dst st2)]) else none
     | [.gZ a b],_=>bif i.agg then none else some (true,bN o (.gZ a b))
     | _,_=>none
    | 1=>match mk1 i.agg ds with
     | some d=>some (true,(2*id+1,.aI st true (dL cs off (ds.map stripL)))::bN o d)
     | none=>none
    | _=>match mk1 i.agg (ds.map dw) with
     | some d=>some (true,(bif ds.any zI then [(2*id+1,.aI st true (dL cs off (ds.map bV)))] else [])++bN o d)
     | none=>none) else none
   | .aW st' true true t l=>bif Nat.beq st st' && Nat.beq off 0&&i.agg&&Nat.beq t.nc 1 then
    some (Nat.beq l.length i.size,bN o (afN i.size t l)) else none
   | _=>none
  | .mH id st i0 off es=>match get s (2*id+1) with
   | .aW st' true _ t l=>
    bif i.agg&&Nat.beq t.nc 1&&Nat.blt 1 i.size then
     (bif Nat.beq st st' && Nat.beq off 0&&Nat.beq es 1 then some (Nat.ble (i0+i.size) l.length,bN o (.agg (FQ t l i0 i.size))) else none) else
    match mk1 i.agg (((enc t (l.getD i0 t.dflt)).drop off).take i.size) with
    | some d=>bif Nat.beq st st' && Nat.beq es t.nc&&Nat.ble (off+i.size) t.nc then some (Nat.blt i0 l.length,bN o d) else none
    | none=>none
   | _=>none
  | .sj g off=>match E.glob g,i.desc with
   | some (k,l),.int k'=>bif jm k k' && !i.agg&&Nat.beq i.size 1 then some (Nat.blt off l.length,bN o (.int k (l.getD off 0))) else none
   | some (k,l),.struct _=>bif i.agg then some (Nat.ble (off+i.size) l.length,bN o (.agg (((l.drop off).take i.size).map (.int k)))) else none
   | _,_=>none
  | .iF t l i0 off=>
   match mk1 i.agg (((enc t (l.getD i0 t.dflt)).drop off).take i.size) with
   | some d=>bif Nat.ble (off+i.size) t.nc then some (true,bN o d) else none
   | none=>none
  | _=>none
 | none=>none
def zM (E:Env) (o:Oper) (s:St) (T:Nat) (x:Operand):Option (Bool×St):=none
def wG (E:Env) (o:Oper) (s:St) (T:Nat) (x:Operand):Option (Bool×St):=
 match E.T T,o.dst with
 | some i,some dst=>match aX s x with
  | .ptr id st off=>match get s (2*id+1) with
   | .dP st' t l none=>bif Nat.beq st st' && Nat.beq i.size 1 && !i.agg&&Nat.blt 0 t.nc && !Nat.beq dst id then
    some (Nat.blt off l.length,[(2*id+1,.dP st t l (some (off,dst,aO (get s (2*dst+1))+1))),(2*dst+1,.aW (aO (get s (2*dst+1))+1) true false t (l.getD off [])),(2*dst,.gZ dst (aO (get s (2*dst+1))+1))]) else none
   | _=>none
  | _=>none
 | _,_=>none
def FR (E:Env):Operand→Bool
 | .tmp t=>Nat.beq (E.md t) 2 || Nat.beq (E.md t) 5
 | _=>false
def IX (E:Env) (x:Operand) (ds:List D):List D:=bif FR E x then ds else ds.map bV
def mJ (E:Env) (_o:Oper) (s:St) (T:Nat) (a x:Operand):Option (Bool×St):=
 match E.T T with
 | some i=>
  let d:=cZ i.ty (aX s x)
  bif gJ d then
  match aX s a with
  | .ptr id st off=>match get s (2*id+1) with
   | .aI st' true cs=>
    let ds:=IX E x (leaves d)
    bif Nat.beq st st' && Nat.beq ds.length i.size&&Nat.ble (off+i.size) cs.length then
     some (true,dA s x strip dY++[(2*id+1,.aI st true (dL cs off ds))]) else none
   | .aW st' true true t l=>match uK t l.length (leaves (view d)) with
    | some l'=>bif Nat.beq st st' && Nat.beq off 0&&i.agg&&Nat.beq t.nc 1 then some (Nat.beq l.length i.size,dA s x share ko++[(2*id+1,.aW st true true t l')]) else none
    | none=>none
   | _=>none
  | .mH id st i0 off es=>match get s (2*id+1) with
   | .aW st' true ar t l=>
    match dec t (dL (enc t (l.getD i0 t.dflt)) off (leaves (view d))) with
    | some (v,[])=>bif Nat.beq st st' && Nat.beq es t.nc&&Nat.beq (leaves d).length i.size&&Nat.ble (off+i.size) t.nc then
     some (Nat.blt i0 l.length,dA s x share ko++[(2*id+1,.aW st true ar t (l.set i0 v))]) else none
    | _=>none
   | _=>none
  | _=>none
  else none
 | none=>none
def qW (E:Env) (s:St) (T:Nat) (a x:Operand):Option (Bool×St):=
 match E.T T,aX s x with
 | some i,.sl f t r=>match aX s a with
  | .ptr id st off=>match get s (2*id+1) with
   | .dP st' t' l none=>bif Nat.beq st st' && Nat.beq f 2&&Nat.beq i.size 1&&FR E x then
    (if h:t.beq t' = true then some (Nat.blt off l.length,dA s x strip dY++[(2*id+1,.dP st t' (l.set off (uJ (Ty.eq_of_beq h) r)) none)]) else none) else none
   | _=>none
  | _=>none
 | _,_=>none
def nL (E:Env) (s:St) (T:Nat) (a:Operand) (k:IntKind) (l':List Int):Option (Bool×St):=
 match E.T T with
 | some i=>match aX s a with
  | .ptr id st off=>match get s (2*id+1) with
   | .aW st' true true (.int k') l=>bif Nat.beq st st' && Nat.beq off 0&&i.agg&&jm k k' then
    some (Nat.beq l.length i.size&&Nat.beq l'.length i.size,[(2*id+1,.aW st true true (.int k) (Ut i.size l'))]) else none
   | _=>none
  | _=>none
 | none=>none
def qg (E:Env) (o:Oper) (s:St) (T:Nat) (a x:Operand):Option (Bool×St):=
 match aX s x with
 | .av k l'=>nL E s T a k l'
 | _=>mJ E o s T a x
def KH:D→Bool
 | .ptr _ _ _ | .mH _ _ _ _ _ | .sj _ _ | .iF _ _ _ _ | .O6 _ _=>true
 | .fn _ _ | .BS _=>true
 | _=>false
def lH (o:Oper) (s:St) (x:Operand):Option (Bool×St):=
 let d:=aX s x
 bif KH d then some (true,bN o d) else none
def arith (op:BinOp) (k:IntKind) (x y:Int):Option (Bool×D):=
 match op with
 | .add=>some (true,.int k (k.wrap (x+y)))
 | .sub=>some (true,.int k (k.wrap (x - y)))
 | .mul=>some (true,.int k (k.wrap (x*y)))
 | .quo=>some (!(y==0),.int k (k.wrap (x.tdiv y)))
 | .rem=>some (!(y==0),.int k (x.tmod y))
 | .and=>some (true,.int k (k.wrap (BitVec.ofInt k.bits x &&& BitVec.ofInt k.bits y).toNat))
 | .or=>some (true,.int k (k.wrap (BitVec.ofInt k.bits x ||| BitVec.ofInt k.bits y).toNat))
 | .xor=>some (true,.int k (k.wrap (BitVec.ofInt k.bits x ^^^ BitVec.ofInt k.bits y).toNat))
 | .andNot=>some (true,.int k (k.wrap (BitVec.ofInt k.bits x &&& ~~~BitVec.ofInt k.bits y).toNat))
 | .eql=>some (true,.bool (x==y))
 | .neq=>some (true,.bool (x != y))
 | .lss=>some (true,.bool (decide (x<y)))
 | .leq=>some (true,.bool (decide (x≤y)))
 | .gtr=>some (true,.bool (decide (x > y)))
 | .geq=>some (true,.bool (decide (x≥y)))
 | _=>none
def shifts (op:BinOp) (k:IntKind) (x y:Int):Option (Bool×D):=
 match op with
 | .shl=>some (decide (0≤y),.int k (k.wrap (x*2 ^ min y.toNat k.bits)))
 | .shr=>some (decide (0≤y),.int k (x.fdiv (2 ^ min y.toNat k.bits)))
 | _=>none
def KI:BinOp→Bool
 | .shl | .shr=>true
 | _=>false
def iY:List D→List D→Option Bool
 | [],[]=>some true
 | .int k x::r,.int k' y::r'=>bif jm k k' then (match iY r r' with | some b=>some ((x==y)&&b) | none=>none) else none
 | .bool x::r,.bool y::r'=>(match iY r r' with | some b=>some ((x==y)&&b) | none=>none)
 | .str x::r,.str y::r'=>(match iY r r' with | some b=>some ((x==y)&&b) | none=>none)
 | _,_=>none
def bC:List Int→List Int→Bool
 | _,[]=>false
 | [],_::_=>true
 | a::x,b::y=>decide (a<b) || ((a==b)&&bC x y)
def O8 (op:BinOp) (x y:List Int):Option (Bool×D):=
 match op with
 | .add=>some (Nat.ble (x.length+y.length) jo,.str (x++y))
 | .eql=>some (true,.bool (x==y))
 | .neq=>some (true,.bool (!(x==y)))
 | .lss=>some (true,.bool (bC x y))
 | .leq=>some (true,.bool (bC x y || x==y))
 | .gtr=>some (true,.bool (!(bC x y || x==y)))
 | .geq=>some (true,.bool (!bC x y))
 | _=>none
def O9:D→Nat→Bool
 | .int _ _,k=>Nat.beq k 0
 | .bool _,k=>Nat.beq k 1
 | .str _,k=>Nat.beq k 2
 | _,_=>false
def conf:List D→List Nat→Bool
 | [],[]=>true
 | d::r,k::ks=>O9 d k&&conf r ks
 | _,_=>false
def Pb (E:Env) (T:Nat) (a:List D):Bool:=
 match E.T T with
 | some i=>match i.cmp with
  | some ks=>i.agg&&conf a ks
  | none=>false
 | none=>false
def MP (E:Env) (o:Oper) (s:St) (op:BinOp) (xT:Nat) (x y:Operand):Option (Bool×St):=
 match aX s x,aX s y with
 | .int k a,.int k' b=>
  bif KI op then (match shifts op k a b with | some (g,d)=>some (g,bN o d) | none=>none)
  else bif jm k k' then (match arith op k a b with | some (g,d)=>some (g,bN o d) | none=>none) else none
 | .str a,.str b=>(match O8 op a b with | some (g,d)=>some (g,bN o d) | none=>none)
 | .bool a,.bool b=>(match E.T xT with
  | some i=>(match i.desc,op with
   | .bool,.eql=>some (true,bN o (.bool (a==b)))
   | .bool,.neq=>some (true,bN o (.bool (!(a==b))))
   | _,_=>none)
  | none=>none)
 | .agg a,.agg b=>bif Pb E xT a then (match iY a b,op with
  | some r,.eql=>some (true,bN o (.bool r))
  | some r,.neq=>some (true,bN o (.bool (!r)))
  | _,_=>none) else none
 | _,_=>none
def aUn (o:Oper) (s:St) (op:UnOp) (x:Operand):Option (Bool×St):=
 match op,aX s x with
 | .not,.bool b=>some (true,bN o (.bool (!b)))
 | .neg,.int k n=>some (true,bN o (.int k (k.wrap (0 - n))))
 | .xor,.int k n=>some (true,bN o (.int k (k.wrap (BitVec.ofInt k.bits (if k.signed then -1 else k.max) ^^^ BitVec.ofInt k.bits n).toNat)))
 | _,_=>none
def mK (E:Env) (T:Nat):Bool:=
 match E.T T with
 | some i=>match i.desc with
  | .slice e=>match E.T e with
   | some ei=>match ei.desc with
    | .int .u8=>Nat.beq ei.size 1&&Nat.beq ei.bytes 1
    | _=>false
   | none=>false
  | _=>false
 | none=>false
def content (s:St):D→Option ((t:Ty)×List t.den)
 | .sl _ t l=>some ⟨t,l⟩
 | .gZ id st=>match get s (2*id+1) with
  | .aW st' true false t l=>bif Nat.beq st st' then some ⟨t,l⟩ else none
  | .uI st' l=>bif Nat.beq st st' then some ⟨Uv,l⟩ else none
  | _=>none
 | .IQ id st nc o n=>match get s (2*id+1) with
  | .aW st' true false t l=>bif Nat.beq st st' && Nat.beq nc t.nc then some ⟨t,(l.drop o).take n⟩ else none
  | _=>none
 | _=>none
def DR:((t:Ty)×List t.den)→Option (List Int)
 | ⟨.int .u8,l⟩=>some l
 | _=>none
def Cq (E:Env) (o:Oper) (s:St) (src dst:Nat) (x:Operand):Option (Bool×St):=
 match E.T src,E.T dst with
 | some a,some b=>match a.desc,b.desc,aX s x with
  | .int _,.int k,.int _ n=>some (true,bN o (.int k (k.wrap n)))
  | .string,.string,.str l=>some (true,bN o (.str l))
  | .string,.slice _,.str l=>bif mK E dst then some (Nat.ble l.length big,bN o (.sl 2 (.int .u8) l)) else none
  | .slice _,.string,.jK=>bif mK E src then some (true,bN o (.str [])) else none
  | .slice _,.string,d=>bif mK E src then (match content s d with
   | some c=>(match DR c with | some l=>some (true,bN o (.str l)) | none=>none)
   | none=>none) else none
  | _,_,_=>none
 | _,_=>none
def kr (E:Env) (o:Oper) (s:St) (T:Nat) (l c:Operand):Option (Bool×St):=
 match E.T T with
 | some i=>match i.desc with
  | .slice e=>match E.T e with
   | some ei=>match dec ei.ty ei.zero,aX s l,aX s c with
    | some (z,[]),.int _ n,.int _ m=>
     bif Nat.beq ei.size ei.ty.nc&&Nat.beq ei.bytes ei.ty.pV&&Nat.blt 0 ei.size&&Nat.blt 0 ei.bytes then
      some (decide (0≤n)&&decide (n≤m)&&decide (m*ei.bytes≤big),bN o (.sl 2 ei.ty (List.replicate n.toNat z))) else none
    | _,_,_=>none
   | none=>none
  | _=>none
 | none=>none
def wH (E:Env) (o:Oper) (s:St) (T:Nat) (l c:Operand):Option (Bool×St):=
 match E.T T,o.dst with
 | some i,some dst=>match i.desc with
  | .slice e=>match E.T e with
   | some ei=>match ei.ty,ei.zero,aX s l,aX s c with
    | .sl t,[.sl 2 t' []],.int _ n,.int _ m=>
     bif t'.beq t&&Nat.beq ei.size 1&&Nat.beq ei.bytes 24 then
      some (decide (0≤n)&&decide (m=n)&&decide (m*ei.bytes≤big),
       [(2*dst+1,.dP (aO (get s (2*dst+1))+1) t (List.replicate n.toNat []) none),(2*dst,.BZ dst (aO (get s (2*dst+1))+1) n.toNat)]) else none
    | _,_,_,_=>none
   | none=>none
  | _=>none
 | _,_=>none
def bound (s:St) (x:Option Operand) (z:Nat):Option Int:=
 match x with
 | none=>some z
 | some x=>match aX s x with
  | .int _ n=>some n
  | _=>none
def wI (E:Env) (o:Oper) (s:St) (T:Nat) (x:Operand) (lo hi:Option Operand):Option (Bool×St):=
 match E.T T with
 | some i=>match i.desc,aX s x with
  | .slice e,.sl _ t l=>match E.T e,bound s lo 0,bound s hi l.length with
   | some ei,some a,some b=>bif Nat.beq ei.size t.nc then
    some (decide (0≤a)&&decide (a≤b)&&decide (b≤(l.length:Int)),dA s x share ko++bN o (.sl 0 t ((l.take b.toNat).drop a.toNat))) else none
   | _,_,_=>none
  | .string,.str l=>match bound s lo 0,bound s hi l.length with
   | some a,some b=>some (decide (0≤a)&&decide (a≤b)&&decide (b≤(l.length:Int)),bN o (.str ((l.take b.toNat).drop a.toNat)))
   | _,_=>none
  | _,_=>none
 | none=>none
def qX (E:Env) (o:Oper) (s:St) (T:Nat) (x:Operand) (lo:Option Operand) (hi mx:Operand):Option (Bool×St):=
 match E.T T with
 | some i=>match i.desc,aX s x with
  | .slice e,.sl _ t l=>match E.T e,bound s lo 0,bound s (some hi) l.length,bound s (some mx) 0 with
   | some ei,some a,some b,some m=>bif Nat.beq ei.size t.nc then
    some (decide (0≤a)&&decide (a≤b)&&decide (b≤(l.length:Int))&&decide (m=b),dA s x share ko++bN o (.csl t ((l.take b.toNat).drop a.toNat))) else none
   | _,_,_,_=>none
  | _,_=>none
 | none=>none
def nM (E:Env) (o:Oper) (s:St) (T:Nat) (x:Operand) (lo:Option Operand) (hi mx:Operand):Option (Bool×St):=
 match E.T T,lo with
 | some i,none=>match i.desc,aX s x with
  | .slice e,.sl 2 t l=>match E.T e,bound s (some hi) l.length,bound s (some mx) 0 with
   | some ei,some b,some m=>bif Nat.beq ei.size t.nc then
    some (decide (0≤b)&&decide (b≤(l.length:Int))&&decide (m=b),dA s x strip dY++bN o (.sl 2 t (l.take b.toNat))) else none
   | _,_,_=>none
  | _,_=>none
 | _,_=>none
def qY (E:Env) (o:Oper) (s:St) (T:Nat) (x:Operand) (lo hi:Option Operand):Option (Bool×St):=
 match E.T T,aX s x,lo with
 | some i,.gZ id st,none=>match i.desc,get s (2*id+1) with
  | .slice e,.aW st' true false t l=>match E.T e,bound s hi l.length with
   | some ei,some b=>bif Nat.beq st st' && Nat.beq ei.size t.nc then
    (bif Nat.beq (tag E o) 7 then
     (bif Nat.blt 0 t.pV then some (decide (0≤b)&&decide (b≤(l.length:Int)),bN o (.BZ id st b.toNat)) else none) else
    some (decide (0≤b)&&decide (b≤(l.length:Int)),(2*id+1,.aW st false false t [])::bN o (.sl 2 t (l.take b.toNat)))) else none
   | _,_=>none
  | _,_=>none
 | _,_,_=>none
def qZ (E:Env) (o:Oper) (s:St) (T:Nat) (x:Operand) (lo hi:Option Operand):Option (Bool×St):=
 match E.T T,aX s x with
 | some i,.gZ id st=>match i.desc,get s (2*id+1) with
  | .slice e,.aW st' true false t l=>match E.T e,bound s lo 0,bound s hi l.length with
   | some ei,some a,some b=>bif Nat.beq st st' && Nat.beq ei.size t.nc then
    some (decide (0≤a)&&decide (a≤b)&&decide (b≤(l.length:Int)),bN o (.IQ id st t.nc a.toNat (b.toNat - a.toNat))) else none
   | _,_,_=>none
  | _,_=>none
 | _,_=>none
def zN (E:Env) (T f:Nat):Option Nat:=
 match E.T T with
 | some i=>match i.desc with
  | .struct fs=>match fs.toList[f]? with
   | some fd=>match E.T fd.type with
    | some fi=>bif Nat.blt 0 fi.size then some fd.offset else none
    | none=>none
   | none=>none
  | _=>none
 | none=>none
def ku (E:Env) (o:Oper) (s:St) (T:Nat) (x:Operand) (f:Nat):Option (Bool×St):=
 match zN E T f with
 | some k=>match aX s x with
  | .ptr id st off=>some (true,bN o (.ptr id st (off+k)))
  | .mH id st i off es=>some (true,bN o (.mH id st i (off+k) es))
  | .sj g off=>some (true,bN o (.sj g (off+k)))
  | .iF t l i off=>some (true,bN o (.iF t l i (off+k)))
  | _=>none
 | none=>none
def wJ (E:Env) (o:Oper) (s:St) (T:Nat) (x:Operand) (f:Nat):Option (Bool×St):=
 match E.T T with
 | some i=>match i.desc with
  | .struct fs=>match fs.toList[f]? with
   | some fd=>match E.T fd.type,aX s x with
    | some fi,.agg cs=>
     let ds:=(cs.drop fd.offset).take fi.size
     bif Nat.beq ds.length fi.size then (match mk1 fi.agg (ds.map dw) with
      | some d=>some (true,dA s x share ko++bN o d)
      | none=>none) else none
    | _,_=>none
   | none=>none
  | _=>none
 | none=>none
def kC (E:Env) (o:Oper) (s:St) (T:Nat) (x i:Operand):Option (Bool×St):=
 match E.T T,aX s i with
 | some ti,.int _ n=>match ti.desc with
  | .slice e=>match E.T e with
   | some ei=>match aX s x with
    | .sl _ t l=>bif Nat.beq ei.size t.nc then
     some (decide (0≤n)&&decide (n<(l.length:Int)),dA s x share ko++bN o (.iF t l n.toNat 0)) else none
    | .gZ id st=>match get s (2*id+1) with
     | .aW st' true false t l=>bif Nat.beq st st' && Nat.beq ei.size t.nc then
      some (decide (0≤n)&&decide (n<(l.length:Int)),bN o (.mH id st n.toNat 0 ei.size)) else none
     | .uI st' l=>bif Nat.beq st st' && Nat.beq ei.size 2 then
      some (decide (0≤n)&&decide (n<(l.length:Int)),bN o (.mH id st n.toNat 0 2)) else none
     | _=>none
    | .BZ id st m=>match get s (2*id+1) with
     | .aW st' true false t l=>bif Nat.beq st st' && Nat.beq ei.size t.nc then
      some (decide (0≤n)&&decide (n<(m:Int)),bN o (.mH id st n.toNat 0 ei.size)) else none
     | .aI st' true cs=>bif Nat.beq st st' then
      some (decide (0≤n)&&decide (n<(m:Int)),bN o (.ptr id st (n.toNat*ei.size))) else none
     | .dP st' _ _ none=>bif Nat.beq st st' && Nat.beq ei.size 1 then
      some (decide (0≤n)&&decide (n<(m:Int)),bN o (.ptr id st n.toNat)) else none
     | _=>none
    | _=>none
   | none=>none
  | .array len e=>match E.T e with
   | some ei=>match aX s x with
    | .ptr id st off=>match get s (2*id+1) with
     | .aW st' true true t _=>bif Nat.beq st st' && Nat.beq off 0 then
      (bif Nat.beq t.nc 1 then some (decide (0≤n)&&decide (n<(len:Int)),bN o (.mH id st (n.toNat*ei.size) 0 1))
       else some (decide (0≤n)&&decide (n<(len:Int)),bN o (.mH id st n.toNat 0 ei.size))) else none
     | .aI _ _ _=>some (decide (0≤n)&&decide (n<(len:Int)),bN o (.ptr id st (off+n.toNat*ei.size)))
     | _=>none
    | .mH id st i0 off es=>bif Nat.beq off 0&&Nat.beq es 1 then
     some (decide (0≤n)&&decide (n<(len:Int)),bN o (.mH id st (i0+n.toNat*ei.size) 0 1)) else none
    | .sj g off=>some (decide (0≤n)&&decide (n<(len:Int)),bN o (.sj g (off+n.toNat*ei.size)))
    | .iF t l j off=>some (decide (0≤n)&&decide (n<(len:Int)),bN o (.iF t l j (off+n.toNat*ei.size)))
    | .O6 k l=>bif Nat.beq ei.size 1 then some (decide (0≤n)&&decide (n<(len:Int))&&Nat.blt n.toNat l.length,bN o (.iF (.int k) l n.toNat 0)) else none
    | _=>none
   | none=>none
  | _=>none
 | _,_=>none
def wK (E:Env) (o:Oper) (s:St) (T:Nat) (x i:Operand):Option (Bool×St):=
 match E.T T,aX s i with
 | some ti,.int _ n=>match ti.desc,aX s x with
  | .array len e,.agg cs=>match E.T e with
   | some ei=>match ei.desc with
    | .int k=>match qV k cs with
     | some l=>bif Nat.beq ei.size 1 && !ei.agg&&Nat.beq l.length len then
      some (decide (0≤n)&&decide (n<(len:Int)),bN o (.int k (l.getD n.toNat 0))) else none
     | none=>none
    | _=>none
   | none=>none
  | .array len e,.av k l=>match E.T e with
   | some ei=>bif Nat.beq ei.size 1 && !ei.agg then
    some (decide (0≤n)&&decide (n<(len:Int))&&Nat.beq l.length len,bN o (.int k (l.getD n.toNat 0))) else none
   | none=>none
  | .string,.str l=>some (decide (0≤n)&&decide (n<(l.length:Int)),bN o (.int .u8 (l.getD n.toNat 0)))
  | _,_=>none
 | _,_=>none
def nN (o:Oper) (s:St) (x:Operand) (i:Nat):Option (Bool×St):=
 match x,aX s x with
 | .tmp t,.fO vs=>match vs[i]? with
  | some d=>some (true,(bif dY d then [(2*t,.fO (vs.set i .undef))] else [])++bN o d)
  | none=>none
 | _,_=>none
def lI (o:Oper) (s:St) (fn:Fn) (first caps:List Operand):Option (Bool×St):=
 match fn,first,caps with
 | .func f,[],[x]=>match aX s x with
  | .iF t [v] 0 0=>some (true,bN o (.gM f t v))
  | _=>none
 | _,_,_=>none
def MQ (E:Env) (s:St) (T:Nat) (d:D):Option Nat:=
 match E.T T with
 | some i=>match i.desc,d with
  | .string,.str l=>some l.length
  | .array n _,_=>bif Nat.ble n jo then some n else none
  | .slice _,.jK=>some 0
  | .slice _,.BZ _ _ n=>some n
  | .slice _,d=>match content s d with
   | some ⟨t,l⟩=>bif Nat.blt 0 t.pV then some l.length else none
   | none=>none
  | _,_=>none
 | none=>none
def tail (s:St) (t:Ty):D→Option (List t.den)
 | .jK=>some []
 | .str l=>match t with
  | .int .u8=>some l
  | _=>none
 | d=>match content s d with
  | some ⟨t',l⟩=>if h:t'.beq t=true then some (uJ (Ty.eq_of_beq h) l) else none
  | none=>none
def KJ (E:Env) (T:Nat):Bool:=
 match E.T T with
 | some i=>match i.desc with
  | .slice _=>true
  | .string=>true
  | _=>false
 | none=>false
def q8 (E:Env) (o:Oper) (s:St) (T:Nat) (x y:Operand):Option (Bool×St):=
 match E.T T with
 | some i=>match i.desc with
  | .slice e=>match E.T e with
   | some ei=>
    bif Nat.beq ei.size ei.ty.nc&&Nat.beq ei.bytes ei.ty.pV&&Nat.blt 0 ei.size&&Nat.blt 0 ei.bytes then
    (match aX s x with
    | .jK=>match tail s ei.ty (aX s y) with
     | some l'=>some (Nat.ble (l'.length*ei.bytes) big,bN o (.sl 2 ei.ty l'))
     | none=>none
    | .sl f t l=>bif Nat.beq f 0 then none else
     match tail s t (aX s y),x with
     | some l',.tmp a=>bif t.beq ei.ty then some (Nat.ble ((l.length+l'.length)*ei.bytes) big,(2*a,.undef)::bN o (.sl f t (l++l'))) else none
     | _,_=>none
    | .gZ id st=>match get s (2*id+1) with
     | .aW st' true false t l=>match tail s t (aX s y) with
      | some l'=>bif Nat.beq st st' && t.beq ei.ty then some (Nat.ble ((l.length+l'.length)*ei.bytes) big,(2*id+1,.aW st false false t [])::bN o (.sl 2 t (l++l'))) else none
      | none=>none
     | _=>none
    | .csl t l=>match tail s t (aX s y) with
     | some l'=>bif t.beq ei.ty then some (Nat.blt 0 l'.length&&Nat.ble ((l.length+l'.length)*ei.bytes) big,bN o (.sl 2 t (l++l'))) else none
     | none=>none
    | _=>none) else none
   | none=>none
  | _=>none
 | none=>none
def Pf (E:Env) (o:Oper) (s:St) (T:Nat) (x y:Operand):Option (Bool×St):=none
def uL (lt:Int→Int→Bool) (k:IntKind) (m:Int):List D→Option Int
 | []=>some m
 | .int k' n::r=>bif jm k k' then uL lt k (bif lt n m then n else m) r else none
 | _::_=>none
def IY (o:Oper) (s:St) (lt:Int→Int→Bool) (xs:List Operand):Option (Bool×St):=
 match xs.map (aX s) with
 | .int k n::r=>match uL lt k n r with
  | some m=>some (true,bN o (.int k m))
  | none=>none
 | _=>none
def nO (E:Env) (o:Oper) (s:St) (b:Builtin) (args:List Operand) (ts:List Nat):Option (Bool×St):=
 match b,args,ts with
 | .len,[x],[T]=>match MQ E s T (aX s x) with
  | some n=>some (true,bN o (.int .i64 n))
  | none=>none
 | .append,[x,y],[T,T']=>bif KJ E T' then q8 E o s T x y else none
 | .copy,[x,y],[T,_]=>Pf E o s T x y
 | .min,xs,_=>IY o s (fun a b=>decide (a<b)) xs
 | .max,xs,_=>IY o s (fun a b=>decide (b<a)) xs
 | _,_,_=>none
def act (E:Env) (o:Oper) (s:St):Option (Bool×St):=
 match o.op with
 | .move x=>bif Nat.beq (tag E o) 9 then zK E o s x else lM E o s x
 | .assign x=>oI E o s x
 | .alloc T=>tq E o s T
 | .box T x=>IV E o s T x
 | .build T ps=>wF E o s T ps.toList
 | .buildSlice T n ps=>bif Nat.beq (tag E o) 8 then nK E o s T n ps.toList else jN E o s T n ps.toList
 | .load T x=>bif Nat.beq (tag E o) 11 then zM E o s T x else bif Nat.beq (tag E o) 13 then wG E o s T x else xX E o s T x
 | .store T a x=>match qW E s T a x with
  | some r=>some r
  | none=>qg E o s T a x
 | .nilCheck x=>lH o s x
 | .binOp op xT x y _=>MP E o s op xT x y
 | .unOp op _ x=>aUn o s op x
 | .convert a b x=>Cq E o s a b x
 | .makeSlice T l c=>bif Nat.beq (tag E o) 13 then wH E o s T l c else kr E o s T l c
 | .slice T x lo hi none=>match aX s x with
  | .gZ _ _=>bif Nat.beq (tag E o) 14 then qZ E o s T x lo hi else qY E o s T x lo hi
  | _=>wI E o s T x lo hi
 | .slice T x lo (some hi) (some mx)=>bif Nat.beq (tag E o) 12 then nM E o s T x lo hi mx else qX E o s T x lo hi mx
 | .fieldAddr T x f=>ku E o s T x f
 | .field T x f=>wJ E o s T x f
 | .indexAddr T x i=>kC E o s T x i
 | .index T x i=>wK E o s T x i
 | .extract x i=>nN o s x i
 | .makeFunc fn first caps=>lI o s fn first.toList caps.toList
 | .call c=>match c.callee with
  | .builtin b=>nO E o s b c.args.toList c.argTypes.toList
  | _=>none
 | _=>none
def dh:Nat→(Nat→Nat)→Nat
 | 0,_=>0
 | n+1,f=>dh n f+f n
theorem aM {n:Nat} {f g:Nat→Nat} (h:∀ i,i<n→f i=g i):dh n f=dh n g:=by
 induction n with
 | zero=>rfl
 | succ n ih=>simp only [dh];rw [ih fun i hi=>h i (by omega),h n (by omega)]
theorem nP {n:Nat} {f:Nat→Nat} {i:Nat} (h:i<n):f i≤dh n f:=by
 induction n with
 | zero=>omega
 | succ n ih=>
  simp only [dh]
  by_cases hi:i=n
  ·subst hi;omega
  ·have:=ih (by omega);omega
theorem dH {n:Nat} {f g:Nat→Nat} {x:Nat} (hx:x<n) (h:∀ i,i≠x→g i=f i):dh n g+f x=dh n f+g x:=by
 induction n with
 | zero=>omega
 | succ n ih=>
  simp only [dh]
  by_cases hn:x=n
  ·subst hn
   have:dh x g=dh x f:=aM fun i hi=>h i (by omega)
   omega
  ·have:=ih (by omega)
   have:=h n (by omega)
   omega
theorem nQ {n:Nat} {f g:Nat→Nat} {x y:Nat} (hx:x<n) (hy:y<n) (hxy:x≠y) (h:∀ i,i≠x→i≠y→g i=f i) :
 dh n g+f x+f y=dh n f+g x+g y:=by
 have h1:=dH (f:=f) (g:=fun i=>if i=x then g x else f i) hx (fun i hi=>if_neg hi)
 have h2:=dH (f:=fun i=>if i=x then g x else f i) (g:=g) hy (fun i hi=>by
  by_cases hix:i=x
  ·rw [if_pos hix,hix]
  ·rw [if_neg hix];exact h i hix hi)
 rw [if_pos rfl] at h1;rw [if_neg (Ne.symm hxy)] at h2;omega
structure Ctx where
 m:Nat
 w0:World
 G0:Nat→Nat
 X:Nat→Prop
 pin:Option Value
def cT (s:St) (a:Act) (b t:Nat):Nat:=dN b (get s (2*t)) (a.tmps.getD t undef)
def cB (s:St) (w:World) (pt:Nat→Nat→Option Value) (b id:Nat):Nat:=gQ w pt b id (get s (2*id+1))
def TC (n m:Nat) (s:St) (a:Act) (w:World) (pt:Nat→Nat→Option Value) (b:Nat):Nat:=
 dh n (cT s a b)+dh m (cB s w pt b)
structure Rel (E:Env) (C:Ctx) (s:St) (a:Act) (w:World) (G:Nat→Nat) (pt:Nat→Nat→Option Value):Prop where
 sz:a.tmps.size=E.n
 df:a.defers=[]
 tm:∀ t,bg w G pt (get s (2*t)) (a.tmps.getD t undef)
 bx:∀ id,nI w G pt id (get s (2*id+1))
 ht:∀ t,E.n≤t→get s (2*t) = .undef
 hb:∀ id,C.m≤id→get s (2*id+1) = .undef
 ct:∀ b,TC E.n C.m s a w pt b≤1
 cb:∀ b,0<TC E.n C.m s a w pt b→b<w.heap.size∧(C.w0.heap.size≤b∨C.X b)
 fr:∀ b,b<C.w0.heap.size→¬ C.X b→w.heap[b]? = C.w0.heap[b]?∧G b=C.G0 b
 ex:Ext C.w0 C.G0 w G
 gz:∀ b,w.heap.size≤b→G b=0
 os:w.os=C.w0.os
 out:w.output=C.w0.output
 tape:w.tape=C.w0.tape
 hs:C.w0.heap.size≤w.heap.size
 pf:∀ id st,aO (get s (2*id+1))<st→pt id st=none
 gl:∀ g k l,E.glob g=some (k,l)→l.length≤G g∧∀ j (h:j<l.length),w.cell? ⟨g,j,none⟩=some (.int k l[j])∧k.has l[j]
 pn:∀ v,C.pin=some v→pt 0 1=some v
theorem dX (b:Nat) (v:Value):dN b .undef v=0:=by cases v<;>rfl
section
variable {E:Env} {C:Ctx} {s:St} {a:Act} {w:World} {G:Nat→Nat} {pt:Nat→Nat→Option Value}
theorem Rel.mM (R:Rel E C s a w G pt) (b t:Nat):cT s a b t≤TC E.n C.m s a w pt b:=by
 by_cases h:t<E.n
 ·exact jQ (nP (f:=cT s a b) h) (Nat.le_add_right _ _)
 ·have:cT s a b t=0:=by rw [cT,R.ht t (by omega)];exact dX b _
  omega
theorem Rel.iT (R:Rel E C s a w G pt) (b id:Nat):cB s w pt b id≤TC E.n C.m s a w pt b:=by
 by_cases h:id<C.m
 ·exact jQ (nP (f:=cB s w pt b) h) (Nat.le_add_left _ _)
 ·have:cB s w pt b id=0:=by rw [cB,R.hb id (by omega)];rfl
  omega
theorem Rel.tt (R:Rel E C s a w G pt) {b t u:Nat} (h:0<cT s a b t) (hu:u≠t):cT s a b u=0:=by
 by_cases h1:t<E.n
 ·by_cases h2:u<E.n
  ·have h3:=nQ (f:=cT s a b) (g:=fun i=>if i=t∨i=u then 0 else cT s a b i) h1 h2 (Ne.symm hu)
    (fun i hi hj=>if_neg (by simp [hi,hj]))
   have h4:=R.ct b;simp at h3;unfold TC at h4;omega
  ·rw [cT,R.ht u (by omega)];exact dX b _
 ·rw [cT,R.ht t (by omega),dX] at h
  omega
theorem Rel.tb (R:Rel E C s a w G pt) {b t:Nat} (h:0<cT s a b t) (id:Nat):cB s w pt b id=0:=by
 by_cases h1:t<E.n
 ·by_cases h2:id<C.m
  ·have h3:=nP (f:=cT s a b) h1
   have h4:=nP (f:=cB s w pt b) h2;have h5:=R.ct b;unfold TC at h5;omega
  ·rw [cB,R.hb id (by omega)];rfl
 ·rw [cT,R.ht t (by omega),dX] at h
  omega
theorem Rel.bt (R:Rel E C s a w G pt) {b id:Nat} (h:0<cB s w pt b id) (t:Nat):cT s a b t=0:=by
 rcases Nat.eq_zero_or_pos (cT s a b t) with h1 | h1
 ·exact h1
 ·have:=R.tb h1 id;omega
theorem Rel.bb (R:Rel E C s a w G pt) {b t u:Nat} (h:0<cB s w pt b t) (hu:u≠t):cB s w pt b u=0:=by
 by_cases h1:t<C.m
 ·by_cases h2:u<C.m
  ·have h3:=nQ (f:=cB s w pt b) (g:=fun i=>if i=t∨i=u then 0 else cB s w pt b i) h1 h2 (Ne.symm hu)
    (fun i hi hj=>if_neg (by simp [hi,hj]))
   have h4:=R.ct b;simp at h3;unfold TC at h4;omega
  ·rw [cB,R.hb u (by omega)];rfl
 ·rw [cB,R.hb t (by omega)] at h
  exact absurd h (by simp [gQ])
theorem Rel.step (R:Rel E C s a w G pt) {s':St} {a':Act} {w':World} {G':Nat→Nat} {bX:Nat→Nat→Option Value}
 (U V:Nat→Prop) (T:Nat→Prop)
 (hsz:a'.tmps.size=a.tmps.size) (hdf:a'.defers=[])
 (hgt:∀ t,¬ U t→get s' (2*t)=get s (2*t)∧a'.tmps.getD t undef=a.tmps.getD t undef)
 (hgb:∀ id,¬ V id→get s' (2*id+1)=get s (2*id+1)∧bX id=pt id)
 (hE:Ext w G w' G') (hpt:∀ id st v,pt id st=some v→bX id st=some v)
 (hT:∀ b,¬ T b→b<w.heap.size→w'.heap[b]? = w.heap[b]?∧G' b=G b)
 (hxt:∀ b,T b→∀ t,¬ U t→cT s a b t=0)
 (hxb:∀ b,T b→∀ id,¬ V id→cB s w pt b id=0)
 (hTf:∀ b,T b→C.w0.heap.size≤b∨C.X b)
 (Pg:∀ t,U t→t<E.n∧bg w' G' bX (get s' (2*t)) (a'.tmps.getD t undef))
 (hbx:∀ id,V id→id<C.m∧nI w' G' bX id (get s' (2*id+1))∧∀ st,aO (get s' (2*id+1))<st→bX id st=none)
 (hct:(∀ t,¬ U t→∀ b,cT s' a' b t=cT s a b t)→(∀ id,¬ V id→∀ b,cB s' w' bX b id=cB s w pt b id) →
  ∀ b,TC E.n C.m s' a' w' bX b≤1∧(0<TC E.n C.m s' a' w' bX b→b<w'.heap.size∧(C.w0.heap.size≤b∨C.X b)))
 (hgz:∀ b,w'.heap.size≤b→G' b=0) (hos:w'.os=w.os) (hout:w'.output=w.output) (htp:w'.tape=w.tape) (Ph:w.heap.size≤w'.heap.size) :
 Rel E C s' a' w' G' bX:=by
 have old:∀ b,0<TC E.n C.m s a w pt b→b<w.heap.size:=fun b h=>(R.cb b h).1
 have ut:∀ t,¬ U t→∀ b,0<cT s a b t→w'.heap[b]? = w.heap[b]?∧G' b=G b:=by
  intro t ht b hb
  refine hT b (fun hTb=>?_) (old b (nG hb (R.mM b t)))
  have:=hxt b hTb t ht;omega
 have ub:∀ id,¬ V id→∀ b,0<cB s w pt b id→w'.heap[b]? = w.heap[b]?∧G' b=G b:=by
  intro id hid b hb
  refine hT b (fun hTb=>?_) (old b (nG hb (R.iT b id)))
  have:=hxb b hTb id hid;omega
 have c1:∀ t,¬ U t→∀ b,cT s' a' b t=cT s a b t:=by
  intro t ht b;obtain ⟨h1,h2⟩:=hgt t ht;simp only [cT,h1,h2]
 have c2:∀ id,¬ V id→∀ b,cB s' w' bX b id=cB s w pt b id:=by
  intro id hid b;obtain ⟨h1,h2⟩:=hgb id hid;simp only [cB,h1];exact zJ hpt (R.bx id) (ub id hid) b
 have hc:=hct c1 c2
 refine ⟨hsz.trans R.sz,hdf,fun t=>?_,fun id=>?_,fun t ht=>?_,fun id hid=>?_,fun b=>(hc b).1,fun b=>(hc b).2,fun b hb hX=>?_,R.ex.trans hE,hgz,hos.trans R.os,hout.trans R.out,
  htp.trans R.tape,jQ R.hs Ph,fun id st h=>?_,fun g k l h=>?_,fun v h=>hpt _ _ _ (R.pn v h)⟩
 ·by_cases hU:U t
  ·exact (Pg t hU).2
  ·obtain ⟨h1,h2⟩:=hgt t hU
   rw [h1,h2];exact (R.tm t).mono hE hpt (ut t hU)
 ·by_cases hV:V id
  ·exact (hbx id hV).2.1
  ·rw [(hgb id hV).1]
   exact (R.bx id).mono hE hpt (ub id hV)
 ·by_cases hU:U t
  ·have:=(Pg t hU).1;omega
  ·rw [(hgt t hU).1];exact R.ht t ht
 ·by_cases hV:V id
  ·have:=(hbx id hV).1;omega
  ·rw [(hgb id hV).1];exact R.hb id hid
 ·obtain ⟨h1,h2⟩:=R.fr b hb hX
  have hnT:¬ T b:=fun h=>by rcases hTf b h with h | h;omega;exact hX h
  obtain ⟨h3,h4⟩:=hT b hnT (nG hb R.hs);exact ⟨h3.trans h1,h4.trans h2⟩
 ·by_cases hV:V id
  ·exact (hbx id hV).2.2 st h
  ·rw [(hgb id hV).1] at h
   rw [(hgb id hV).2];exact R.pf id st h
 ·obtain ⟨h1,h2⟩:=R.gl g k l h
  refine ⟨jQ h1 (hE.le g),fun j hj=>?_⟩
  rw [hE.cell g j (by omega)]
  exact h2 j hj
end
theorem fH (a b:Nat):Nat.beq a b=decide (a=b):=by
 cases h:Nat.beq a b with
 | true=>simp [dM h]
 | false=>simp [zC5 h]
theorem aH (s:St) (l m:Nat) (d:D):get ((l,d)::s) m=if m=l then d else get s m:=by
 simp only [get,fH]
 by_cases h:m=l<;>simp [h]
@[simp] theorem dO (s:St) (t u:Nat) (d:D):get ((2*t,d)::s) (2*u)=if u=t then d else get s (2*u):=by
  rw [aH]
  by_cases h:u=t
  ·rw [if_pos h,if_pos (by omega)]
  ·rw [if_neg h,if_neg (by omega)]
@[simp] theorem jq (s:St) (t u:Nat) (d:D):get ((2*t,d)::s) (2*u+1)=get s (2*u+1):=by
  rw [aH,if_neg (by omega)]
@[simp] theorem get_bt (s:St) (t u:Nat) (d:D):get ((2*t+1,d)::s) (2*u)=get s (2*u):=by
  rw [aH,if_neg (by omega)]
@[simp] theorem bA (s:St) (t u:Nat) (d:D):get ((2*t+1,d)::s) (2*u+1)=if u=t then d else get s (2*u+1):=by
  rw [aH]
  by_cases h:u=t
  ·rw [if_pos h,if_pos (by omega)]
  ·rw [if_neg h,if_neg (by omega)]
def aA:St→St→St
 | [],s=>s
 | p::r,s=>aA r (p::s)
theorem aU (a b s:St):aA (a++b) s=aA b (aA a s):=by
 induction a generalizing s with
 | nil=>rfl
 | cons p a ih=>exact ih (p::s)
theorem iU (a:Act) (t u:Nat) (v:Value) (h:t<a.tmps.size) :
 (a.put (some t) v).tmps.getD u undef=if u=t then v else a.tmps.getD u undef:=by
 simp only [Act.put,sJ,Array.getElem?_setIfInBounds]
 by_cases hu:u=t
 ·subst hu;simp [h]
 ·simp [Ne.symm hu,hu]
@[simp] theorem afO (a:Act) (v:Value):a.put none v=a:=rfl
@[simp] theorem afP (a:Act) (o:Option Tmp) (v:Value):(a.put o v).tmps.size=a.tmps.size:=by
  cases o<;>simp [Act.put]
@[simp] theorem put_defers (a:Act) (o:Option Tmp) (v:Value):(a.put o v).defers=a.defers:=by
  cases o<;>simp [Act.put]
section
variable {w:World} {G:Nat→Nat} {pt:Nat→Nat→Option Value}
def nR (G:Nat→Nat) (d:D) (v:Value):Nat→Nat:=
 match d,v with
 | .sl 2 t l,.slice (some a) _ _=>fun b=>if b=a.block then l.length*t.nc else G b
 | _,_=>G
def lN (G:Nat→Nat):List D→(Nat→Value)→Nat→Nat
 | [],_=>G
 | d::r,f=>lN (nR G d (f 0)) r (fun i=>f (i+1))
theorem wL (b:Nat) (d:D) (v:Value):eu b (bV d) v=eu b d v:=by
 cases d with
 | sl f t l=>
  cases v<;>try rfl
  rename_i a n c
  cases a<;>try rfl
  rename_i a;simp only [bV,eu]
  by_cases h:f=2
  ·subst h;simp
  ·rw [show Nat.beq f 2=false by rw [fH];simp [h]];rfl
 | _=>rfl
theorem nS (b:Nat) (d:D) (v:Value):eu b (dw d) v=0:=by
 cases d with
 | sl f t l=>
  cases v<;>try rfl
  rename_i a n c
  cases a<;>rfl
 | _=>cases v<;>rfl
theorem kD (b:Nat) (d:D) (v:Value):eu b (stripL d) v=0:=by
 cases d with
 | sl f t l=>
  simp only [stripL,fH]
  by_cases h:f=0
  ·subst h
   cases v<;>try rfl
   rename_i a n c
   cases a<;>rfl
  ·simp only [h,decide_false,bU]
   cases v<;>rfl
 | _=>cases v<;>rfl
theorem qh {d:D} {v:Value} {b:Nat} (h:eu b d v=0):nR G d v b=G b:=by
 unfold nR;split
 ·rename_i t l a n c
  simp only [eu] at h
  by_cases hb:b=a.block
  ·subst hb;simp at h
  ·simp [hb]
 ·rfl
theorem gT:∀ {ds:List D} {f:Nat→Value} {G:Nat→Nat} {b:Nat},aP b ds f=0→lN G ds f b=G b
 | [],_,_,_,_=>rfl
 | d::r,f,G,b,h=>by
  simp only [aP] at h;simp only [lN]
  rw [gT (by omega),qh (by omega)]
theorem Pj {d:D} {v:Value} (h:bO w G pt d v) (b:Nat):G b≤nR G d v b:=by
 unfold nR;split
 ·rename_i t l a n c
  obtain ⟨a',n',c',h1,h2,h3,h4⟩:=h
  injection h1 with h1 h1' auY
  subst h1
  rcases h4 with ⟨h5,_⟩ | ⟨b',h5,h6,_⟩
  ·cases h5
  ·injection h5 with h5
   subst h5
   by_cases hb:b=b'
   ·subst hb;simp [h6]
   ·simp [hb]
 ·exact dQ _
theorem Ct {d:D} {v:Value} (h:bO w G pt d v):Ext w G w (nR G d v):=⟨fun _ _ _=>rfl,Pj h⟩
theorem bO.share {d:D} {v:Value} (h:bO w G pt d v):bO w (nR G d v) pt (bV d) v:=by
 cases d with
 | sl f t l=>
  obtain ⟨a,n,c,h1,h2,h3,h4⟩:=h;subst h1;simp only [bV,fH]
  by_cases hf:f=2
  ·subst hf
   simp only [decide_true,aQ];refine ⟨a,n,c,rfl,h2,h3,?_⟩
   rcases h4 with h4 | ⟨b,h5,h6,h7,h8,h9,h10⟩
   ·exact .inl h4
   ·subst h5
    refine .inr ⟨b,rfl,?_,h7,h8,?_,h10⟩
    ·simp [nR]
    ·refine h9.mono ⟨fun _ _ _=>rfl,fun b'=>?_⟩ fun _ _ _=>rfl
     simp only [nR]
     by_cases hb:b' = b
     ·subst hb;simp [h6]
     ·simp [hb]
  ·simp only [hf,decide_false,bU]
   have:nR G (.sl f t l) (.slice a n c)=G:=by
    unfold nR;split
    ·rename_i h _ ;injection h with h;exact absurd h hf
    ·rfl
   rw [this];exact ⟨a,n,c,rfl,h2,h3,h4⟩
 | _=>exact h
theorem aR.share:∀ {ds:List D} {f:Nat→Value} {G:Nat→Nat},aR w G pt ds f→(∀ b,aP b ds f≤1) →
 Ext w G w (lN G ds f)∧aR w (lN G ds f) pt (ds.map bV) f
 | [],f,G,_,_=>⟨Ext.refl _ _,fun j hj=>by simp at hj⟩
 | d::r,f,G,h,hc=>by
  have h0:bO w G pt d (f 0):=(h 0 (by simp)).1
  have e0:=Ct h0
  have hr:aR w G pt r (fun i=>f (i+1)):=fun j hj=>by
   have:=h (j+1) (by simpa using hj)
   simpa using this
  have hr':aR w (nR G d (f 0)) pt r (fun i=>f (i+1)):=hr.mono e0 (fun _ _ _ h=>h) (fun _ _=>rfl) fun b hb=>
   ⟨rfl,qh (by have:=hc b;simp only [aP] at this;omega)⟩
  obtain ⟨e1,h1⟩:=aR.share hr' fun b=>by have:=hc b;simp only [aP] at this;omega
  refine ⟨e0.trans e1,fun j hj=>?_⟩
  match j,hj with
  | 0,_=>
   simp only [List.map_cons,List.getElem_cons_zero]
   refine ⟨h0.share.mono e1 (fun _ _ _ h=>h) fun b hb=>⟨rfl,?_⟩,(h 0 (by simp)).2⟩
   rw [wL] at hb
   exact gT (by have:=hc b;simp only [aP] at this;omega)
  | j+1,hj=>
   have:=h1 j (by simpa using hj)
   simp only [List.map_cons,List.getElem_cons_succ,lN];exact this
theorem bO.view {d:D} {v:Value} (h:bO w G pt (bV d) v):bO w G pt (dw d) v:=by
 cases d with
 | sl f t l=>
  simp only [bV,dw,fH] at h ⊢
  have key:∀ f',f'≠2→bO w G pt (.sl f' t l) v→bO w G pt (.sl 0 t l) v:=by
   intro f' hf' h;obtain ⟨a,n,c,h1,h2,h3,h4⟩:=h;refine ⟨a,n,c,h1,h2,h3,?_⟩
   match f',hf',h4 with
   | 0,_,h4=>exact h4
   | 1,_,h4=>
    rcases h4 with ⟨h5,h6,h7⟩ | ⟨b,h5,h6,h7,h8,h9,h10⟩
    ·subst h6;exact ⟨by simp,.inl rfl⟩
    ·exact ⟨h8,.inr ⟨b,0,h5,by omega,h9⟩⟩
   | (k+3),_,h4=>exact h4.elim
  by_cases hf:f=2
  ·subst hf
   simp only [decide_true,aQ] at h
   exact key 1 (by omega) h
  ·simp only [hf,decide_false,bU] at h
   exact key f hf h
 | _=>exact h
theorem bO.strip {d:D} {v:Value} (h:bO w G pt d v):bO w G pt (stripL d) v:=by
 cases d with
 | sl f t l=>
  simp only [stripL,fH]
  by_cases hf:f=0
  ·subst hf;exact h
  ·simp only [hf,decide_false,bU];trivial
 | _=>exact h
theorem aR.map {ds:List D} {f:Nat→Value} {g:D→D} (h:aR w G pt ds f) (hg:∀ d v,bO w G pt d v→bO w G pt (g d) v):aR w G pt (ds.map g) f:=by
 intro j hj;simp only [List.getElem_map]
 have:=h j (by simpa using hj)
 exact ⟨hg _ _ this.1,this.2⟩
theorem iN {g:D→D} (hg:∀ b d v,eu b (g d) v=0) (b:Nat):∀ (ds:List D) (f:Nat→Value),aP b (ds.map g) f=0
 | [],_=>rfl
 | d::r,f=>by simp only [List.map_cons,aP,hg,iN hg b r]
theorem lQ (b:Nat):∀ (ds:List D) (f:Nat→Value),aP b (ds.map bV) f=aP b ds f
 | [],_=>rfl
 | d::r,f=>by simp only [List.map_cons,aP,wL,lQ b r]
theorem aR.view {ds:List D} {f:Nat→Value} (h:aR w G pt (ds.map bV) f):aR w G pt (ds.map dw) f:=by
 intro j hj
 have:=h j (by simpa using hj)
 simp only [List.getElem_map] at this ⊢;exact ⟨this.1.view,this.2⟩
theorem uM (ds:List D) (h:ds.any zI=false):ds.map bV=ds:=by
 induction ds with
 | nil=>rfl
 | cons d r ih=>
  simp only [List.any_cons,Bool.or_eq_false_iff] at h;rw [List.map_cons,ih h.2]
  congr 1
  cases d with
  | sl f t l=>simp only [zI] at h;simp [bV,h.1]
  | _=>rfl
theorem DT (ds:List D) (h:ds.any xW=false):ds.map stripL=ds∧∀ b f,aP b ds f=0:=by
 induction ds with
 | nil=>exact ⟨rfl,fun _ _=>rfl⟩
 | cons d r ih=>
  simp only [List.any_cons,Bool.or_eq_false_iff] at h;obtain ⟨h1,h2⟩:=ih h.2
  have hd:stripL d=d:=by
   cases d with
   | sl f t l=>
    have:Nat.beq f 0=true:=by have:=h.1;simp only [xW] at this;simpa using this
    have h0:=dM this;subst h0;rfl
   | _=>rfl
  refine ⟨by rw [List.map_cons,h1,hd],fun b f=>?_⟩
  simp only [aP,h2];rw [←hd,kD]
def FT (G:Nat→Nat) (d:D) (v:Value):Nat→Nat:=
 match d,v with
 | .agg cs,.agg arr=>lN G cs (aS arr)
 | d,v=>nR G d v
theorem qj {d:D} {v:Value} {b:Nat} (h:dN b d v=0):FT G d v b=G b:=by
 unfold FT;split
 ·exact gT h
 ·rename_i h1
  cases d with
  | agg cs=>cases v<;>first | rfl | exact absurd rfl (h1 _ _ rfl)
  | fO cs=>rfl
  | fn f cs=>rfl
  | _=>exact qh (by simpa only [dN] using h)
theorem Cu (b:Nat) (d:D) (v:Value):dN b (share d) v=dN b d v:=by
 cases d with
 | agg cs=>cases v<;>first | rfl | exact lQ _ _ _
 | sl f t l=>exact wL b (.sl f t l) v
 | _=>rfl
theorem nT (b:Nat) (d:D) (v:Value) (hd:fu d=false):dN b (view d) v=0:=by
 cases d with
 | agg cs=>cases v<;>first | rfl | exact iN nS _ _ _
 | fO cs=>simp [fu] at hd
 | fn f cs=>cases v<;>rfl
 | sl f t l=>exact nS b (.sl f t l) v
 | _=>cases v<;>rfl
theorem q9 (b:Nat) (d:D) (v:Value):dN b (strip d) v=0:=by
 cases d with
 | agg cs=>cases v<;>first | rfl | exact iN kD _ _ _
 | fO cs=>exact dX _ _
 | fn f cs=>cases v<;>rfl
 | sl f t l=>
  have:=kD b (.sl f t l) v;simp only [strip,stripL] at this ⊢
  by_cases hf:Nat.beq f 0=true
  ·rw [hf] at this ⊢;exact this
  ·simp only [Bool.not_eq_true] at hf;rw [hf];exact dX _ _
 | _=>cases v<;>rfl
theorem bg.share {d:D} {v:Value} (h:bg w G pt d v) (hc:∀ b,dN b d v≤1) (hd:fu d=false) :
 Ext w G w (FT G d v)∧bg w (FT G d v) pt (gI.share d) v:=by
 cases d with
 | agg cs=>
  obtain ⟨arr,rfl,h2,h3⟩:=h;obtain ⟨e,h4⟩:=h3.share hc
  exact ⟨e,arr,rfl,by simpa using h2,h4⟩
 | fO cs=>simp [fu] at hd
 | fn f cs=>exact ⟨Ext.refl _ _,h⟩
 | _=>
  simp only [bg] at h;exact ⟨Ct h,h.share⟩
theorem bg.view {d:D} {v:Value} (h:bg w G pt (gI.share d) v) (hd:fu d=false):bg w G pt (gI.view d) v:=by
 cases d with
 | agg cs=>
  obtain ⟨arr,rfl,h2,h3⟩:=h
  exact ⟨arr,rfl,by simpa using h2,h3.view⟩
 | fO cs=>simp [fu] at hd
 | fn f cs=>exact h
 | sl f t l=>exact bO.view (pt:=pt) (d:=.sl f t l) h
 | _=>exact h
theorem bg.strip {d:D} {v:Value} (h:bg w G pt d v):bg w G pt (gI.strip d) v:=by
 cases d with
 | agg cs=>
  obtain ⟨arr,rfl,h2,h3⟩:=h
  exact ⟨arr,rfl,by simpa using h2,h3.map fun _ _ h=>h.strip⟩
 | fO cs=>trivial
 | fn f cs=>exact h
 | sl f t l=>
  have h':=bO.strip (pt:=pt) (d:=.sl f t l) h;simp only [gI.strip,stripL] at h' ⊢
  by_cases hf:Nat.beq f 0=true
  ·rw [hf] at h' ⊢;exact h'
  ·simp only [Bool.not_eq_true] at hf;rw [hf];trivial
 | _=>exact h
end
theorem dK.move {w w':World} {G G':Nat→Nat} (hE:Ext w G w' G') :
 ∀ {t:Ty} {x:t.den} {b o b' o':Nat},dK w G t x b o →
  (∀ j,j<t.nc→w'.cell? ⟨b',o' + j,none⟩=w.cell? ⟨b,o+j,none⟩)→dK w' G' t x b' o'
 | .int k,n,b,o,b',o',h,hc=>by
  have:=hc 0 (by simp [Ty.nc])
  simp only [Nat.add_zero] at this;simp only [dK] at h ⊢;rw [this];exact h
 | .bool,n,b,o,b',o',h,hc=>by
  have:=hc 0 (by simp [Ty.nc])
  simp only [Nat.add_zero] at this;simp only [dK] at h ⊢;rw [this];exact h
 | .str,n,b,o,b',o',h,hc=>by
  have:=hc 0 (by simp [Ty.nc])
  simp only [Nat.add_zero] at this;simp only [dK] at h ⊢;rw [this];exact h
 | .sl t,l,b,o,b',o',h,hc=>by
  have:=hc 0 (by simp [Ty.nc])
  simp only [Nat.add_zero] at this;have h2:dK w' G' (.sl t) l b o∨True:=.inr trivial;simp only [dK] at h ⊢;rw [this];obtain ⟨a,n,c,h1,h2,h3,h3',h4⟩:=h;refine ⟨a,n,c,h1,h2,h3,h3',?_⟩
  rcases h4 with h4 | ⟨b1,o1,h5,h6,h7⟩
  ·exact .inl h4
  ·refine .inr ⟨b1,o1,h5,jQ h6 (hE.le b1),fun i hi=>(h7 i hi).mono hE fun j hj1 hj2=>hE.cell _ _ ?_⟩
   have:(i+1)*t.nc≤n*t.nc:=sW _ (by omega)
   rw [Nat.add_mul] at this;omega
 | .unit,_,_,_,_,_,_,_=>trivial
 | .cons a c,x,b,o,b',o',h,hc=>by
  simp only [dK] at h ⊢;simp only [Ty.nc] at hc
  refine ⟨h.1.move hE fun j hj=>hc j (by omega),h.2.move hE fun j hj=>?_⟩
  have:=hc (a.nc+j) (by omega)
  rw [Nat.add_assoc,Nat.add_assoc];exact this
 | .st _ c,x,b,o,b',o',h,hc=>by
  simp only [dK] at h ⊢;exact dK.move hE h hc
 | .gM f t,x,b,o,b',o',h,hc=>by
  have:=hc 0 (by simp [Ty.nc])
  simp only [Nat.add_zero] at this;simp only [dK] at h ⊢;rw [this];obtain ⟨b1,o1,h1,h2,h3⟩:=h
  exact ⟨b1,o1,h1,jQ h2 (hE.le b1),h3.mono hE fun j hj1 hj2=>hE.cell _ _ (by omega)⟩
theorem jh:∀ (t:Ty) (x:t.den),(enc t x).length=t.nc
 | .int _,_=>rfl
 | .bool,_=>rfl
 | .str,_=>rfl
 | .sl _,_=>rfl
 | .unit,_=>rfl
 | .cons a b,x=>by
  show (enc a x.1++enc b x.2).length=_;rw [kZ,jh a,jh b];rfl
 | .st _ c,x=>jh c x
 | .gM _ _,_=>rfl
theorem oJ {w:World} {G:Nat→Nat} (pt:Nat→Nat→Option Value) :
 ∀ {t:Ty} {x:t.den} {b o:Nat},dK w G t x b o →
  ∀ j (h:j<(enc t x).length),∃ v,w.cell? ⟨b,o+j,none⟩=some v∧bO w G pt (enc t x)[j] v∧∀ c,eu c (enc t x)[j] v=0
 | .int k,n,b,o,h,j,hj=>by
  have:j=0:=by simp [enc] at hj;exact hj
  subst this
  exact ⟨_,h.1,⟨rfl,h.2⟩,fun _=>rfl⟩
 | .bool,n,b,o,h,j,hj=>by
  have:j=0:=by simp [enc] at hj;exact hj
  subst this
  exact ⟨_,h,rfl,fun _=>rfl⟩
 | .str,n,b,o,h,j,hj=>by
  have:j=0:=by simp [enc] at hj;exact hj
  subst this;obtain ⟨s,h1,h2⟩:=h
  exact ⟨_,h1,⟨s,rfl,h2⟩,fun _=>rfl⟩
 | .sl t,l,b,o,h,j,hj=>by
  have:j=0:=by simp [enc] at hj;exact hj
  subst this;simp only [dK] at h;obtain ⟨a,n,c,h1,h2,h3,h3',h4⟩:=h
  refine ⟨_,h1,⟨a,n,c,rfl,h2,h3,by omega,?_⟩,fun c'=>by cases a<;>rfl⟩
  subst h2
  rcases h4 with h4 | ⟨b1,o1,h5,h6,h7⟩
  ·exact .inl h4
  ·exact .inr ⟨b1,o1,h5,h6,h7⟩
 | .unit,_,_,_,_,j,hj=>by simp [enc] at hj
 | .cons a c,x,b,o,h,j,hj=>by
  have e:enc (.cons a c) x=enc a x.1++enc c x.2:=rfl;simp only [dK] at h;have hla:=jh a x.1
  by_cases hja:j<(enc a x.1).length
  ·obtain ⟨v,h1,h2,h3⟩:=oJ pt h.1 j hja
   have:(enc (.cons a c) x)[j]=(enc a x.1)[j]:=by simp only [e];exact List.getElem_append_left hja
   rw [this];exact ⟨v,h1,h2,h3⟩
  ·have hj':j - (enc a x.1).length<(enc c x.2).length:=by simp only [e,kZ] at hj;omega
   obtain ⟨v,h1,h2,h3⟩:=oJ pt h.2 (j - (enc a x.1).length) hj'
   have:(enc (.cons a c) x)[j]=(enc c x.2)[j - (enc a x.1).length]:=by simp only [e];exact List.getElem_append_right (by omega)
   rw [this];refine ⟨v,?_,h2,h3⟩;rw [←h1]
   congr 2
   omega
 | .st _ c,x,b,o,h,j,hj=>oJ (t:=c) pt h j hj
 | .gM f t,x,b,o,h,j,hj=>by
  have:j=0:=by simp [enc] at hj;exact hj
  subst this;simp only [dK] at h;obtain ⟨b1,o1,h1,h2,h3⟩:=h
  exact ⟨_,h1,⟨b1,o1,rfl,h2,h3⟩,fun _=>rfl⟩
theorem uN {w w':World} {G G':Nat→Nat} {pt:Nat→Nat→Option Value} (hE:Ext w G w' G') :
 ∀ {t:Ty} {ds:List D} {x:t.den} {r:List D} {f:Nat→Value} {b o:Nat},dec t ds=some (x,r)→aR w G pt (ds.map dw) f →
  (∀ j,j<t.nc→w'.cell? ⟨b,o+j,none⟩=some (f j))→dK w' G' t x b o∧r=ds.drop t.nc∧t.nc≤ds.length
 | .int k,ds,x,r,f,b,o,h,hr,hc=>by
  cases ds with
  | nil=>simp [dec] at h
  | cons d ds=>
   cases d<;>simp only [dec] at h<;>try (cases h;done)
   rename_i k' n
   by_cases hk:jm k k' = true
   ·simp only [hk,aQ,bq,eX] at h
    obtain ⟨rfl,rfl⟩:=h;have hk':=fq hk;subst hk'
    have h0:=(hr 0 (by simp)).1
    simp only [List.map_cons,List.getElem_cons_zero,dw,bO] at h0
    have c0:=hc 0 (by simp [Ty.nc])
    simp only [Nat.add_zero] at c0
    refine ⟨⟨by rw [c0,h0.1],h0.2⟩,rfl,by simp [Ty.nc]⟩
   ·simp only [Bool.not_eq_true] at hk;simp [hk] at h
 | .bool,ds,x,r,f,b,o,h,hr,hc=>by
  cases ds with
  | nil=>simp [dec] at h
  | cons d ds=>
   cases d<;>simp only [dec] at h<;>try (cases h;done)
   simp only [bq,eX] at h;obtain ⟨rfl,rfl⟩:=h
   have h0:=(hr 0 (by simp)).1
   simp only [List.map_cons,List.getElem_cons_zero,dw,bO] at h0
   have c0:=hc 0 (by simp [Ty.nc])
   simp only [Nat.add_zero] at c0
   exact ⟨by simp only [dK];rw [c0,h0],rfl,by simp [Ty.nc]⟩
 | .str,ds,x,r,f,b,o,h,hr,hc=>by
  cases ds with
  | nil=>simp [dec] at h
  | cons d ds=>
   cases d<;>simp only [dec] at h<;>try (cases h;done)
   simp only [bq,eX] at h;obtain ⟨rfl,rfl⟩:=h
   have h0:=(hr 0 (by simp)).1
   simp only [List.map_cons,List.getElem_cons_zero,dw,bO] at h0
   have c0:=hc 0 (by simp [Ty.nc])
   simp only [Nat.add_zero] at c0;obtain ⟨s,h1,h2⟩:=h0
   exact ⟨⟨s,by rw [c0,h1],h2⟩,rfl,by simp [Ty.nc]⟩
 | .sl t,ds,x,r,f,b,o,h,hr,hc=>by
  have c0:=hc 0 (by simp [Ty.nc])
  simp only [Nat.add_zero] at c0
  cases ds with
  | nil=>simp [dec] at h
  | cons d ds=>
   cases d<;>simp only [dec] at h<;>try (cases h;done)
   ·simp only [bq,eX] at h
    obtain ⟨rfl,rfl⟩:=h
    have h0:=(hr 0 (by simp)).1
    simp only [List.map_cons,List.getElem_cons_zero,dw,bO] at h0
    refine ⟨?_,rfl,by simp [Ty.nc]⟩
    simp only [dK]
    exact ⟨none,0,0,by rw [c0,h0],rfl,by simp,by simp,.inl trivial⟩
   ·rename_i fl t' l
    by_cases hb:t'.beq t=true
    ·simp only [hb,dite_true,bq,eX] at h
     obtain ⟨rfl,rfl⟩:=h;have ht:=Ty.eq_of_beq hb;subst ht
     have h0:=(hr 0 (by simp)).1
     simp only [List.map_cons,List.getElem_cons_zero,dw,bO] at h0;obtain ⟨a,n,c,h1,h2,h3,h4,h5⟩:=h0
     refine ⟨?_,rfl,by simp [Ty.nc]⟩
     simp only [dK]
     refine ⟨a,n,c,by rw [c0,h1],h2,h3,by omega,?_⟩
     rcases h5 with h5 | ⟨b1,o1,h5,h6,h7⟩
     ·exact .inl h5
     ·subst h2
      have h8:=h7.mono hE fun j hj1 hj2=>hE.cell b1 j (by omega)
      exact .inr ⟨b1,o1,h5,jQ h6 (hE.le b1),h8⟩
    ·simp [hb] at h
 | .gM f0 t,ds,x,r,f,b,o,h,hr,hc=>by
  have c0:=hc 0 (by simp [Ty.nc])
  simp only [Nat.add_zero] at c0
  cases ds with
  | nil=>simp [dec] at h
  | cons d ds=>
   cases d<;>simp only [dec] at h<;>try (cases h;done)
   rename_i f' t' y
   by_cases hb:(Ty.gM f' t').beq (.gM f0 t)=true
   ·simp only [hb,dite_true,bq,eX] at h
    obtain ⟨rfl,rfl⟩:=h;have ht:=Ty.eq_of_beq hb
    injection ht with e1 e2
    subst e1 e2
    have h0:=(hr 0 (by simp)).1
    simp only [List.map_cons,List.getElem_cons_zero,dw,bO] at h0;obtain ⟨b1,o1,h1,h2,h3⟩:=h0
    refine ⟨?_,rfl,by simp [Ty.nc]⟩
    simp only [dK]
    exact ⟨b1,o1,by rw [c0,h1],jQ h2 (hE.le b1),h3.mono hE fun j hj1 hj2=>hE.cell b1 j (by omega)⟩
   ·simp [hb] at h
 | .unit,ds,x,r,f,b,o,h,hr,hc=>by
  simp only [dec,bq,eX] at h
  exact ⟨trivial,h.2.symm,by simp [Ty.nc]⟩
 | .cons a c,ds,x,r,f,b,o,h,hr,hc=>by
  simp only [Ty.nc] at hc;simp only [dec] at h
  cases ha:dec a ds with
  | none=>simp [ha] at h
  | some p=>
   obtain ⟨xa,ra⟩:=p;simp only [ha] at h
   obtain ⟨h1,h2,h3⟩:=uN hE (b:=b) (o:=o) ha hr (fun j hj=>hc j (by omega))
   cases hcc:dec c ra with
   | none=>simp [hcc] at h
   | some p=>
    obtain ⟨xc,rc⟩:=p;simp only [hcc,bq,eX] at h;obtain ⟨rfl,rfl⟩:=h;subst h2
    obtain ⟨h4,h5,h6⟩:=uN hE (b:=b) (o:=o+a.nc) (f:=fun j=>f (a.nc+j)) hcc
     (fun j hj=>by
      have hl:a.nc+j<(ds.map dw).length:=by simp at hj ⊢;omega
      have:=hr (a.nc+j) hl
      simpa using this)
     (fun j hj=>by
      have:=hc (a.nc+j) (by omega)
      rw [Nat.add_assoc];exact this)
    refine ⟨⟨h1,h4⟩,?_,?_⟩
    ·rw [h5,List.drop_drop];rfl
    ·simp only [List.length_drop] at h6;simp only [Ty.nc];omega
 | .st _ c,ds,x,r,f,b,o,h,hr,hc=>uN (t:=c) hE h hr hc
section
variable {E:Env} {C:Ctx} {s:St} {a:Act} {w:World} {G:Nat→Nat} {pt:Nat→Nat→Option Value}
theorem Rel.congr {s':St} (R:Rel E C s a w G pt) (h:∀ l,get s' l=get s l):Rel E C s' a w G pt:=by
 have e1:∀ b,cT s' a b=cT s a b:=fun b=>funext fun t=>by simp only [cT,h]
 have e2:∀ b,cB s' w pt b=cB s w pt b:=fun b=>funext fun t=>by simp only [cB,h]
 refine ⟨R.sz,R.df,fun t=>by rw [h];exact R.tm t,fun id=>by rw [h];exact R.bx id,fun t ht=>by rw [h];exact R.ht t ht,fun id hid=>by rw [h];exact R.hb id hid,
  fun b=>by unfold TC;rw [e1,e2];exact R.ct b,fun b=>by unfold TC;rw [e1,e2];exact R.cb b,R.fr,R.ex,R.gz,R.os,R.out,R.tape,R.hs,fun id st hs=>R.pf id st (by rw [h] at hs;exact hs),R.gl,R.pn⟩
theorem bg.undef (v:Value):bg w G pt .undef v:=trivial
theorem Rel.afQ (R:Rel E C s a w G pt) (t:Nat) (htn:t<E.n) {d:D} {v:Value} (hd:bg w G pt d v)
 (hc:∀ b,dN b d v=0):Rel E C ((2*t,d)::s) (a.put (some t) v) w G pt:=by
 have hts:t<a.tmps.size:=by rw [R.sz];exact htn
 refine R.step (fun u=>u=t) (fun _=>False) (fun _=>False) (by simp) (by simpa using R.df) (fun u hu=>?_) (fun id _=>⟨by simp,rfl⟩) (Ext.refl _ _) (fun _ _ _ h=>h)
  (fun b _ _=>⟨rfl,rfl⟩) (fun b h=>h.elim) (fun b h=>h.elim) (fun b h=>h.elim) (fun u hu=>?_) (fun id h=>h.elim) (fun c1 c2 b=>?_) R.gz rfl rfl rfl (dQ _)
 ·simp only [dO,hu,if_false]
  rw [iU a t u v hts,if_neg hu];exact ⟨trivial,rfl⟩
 ·subst hu
  refine ⟨htn,?_⟩;simp only [dO,if_true];rw [iU a u u v hts,if_pos rfl];exact hd
 ·have e1:=dH (n:=E.n) (f:=cT s a b) (g:=cT ((2*t,d)::s) (a.put (some t) v) b) htn (fun i hi=>c1 i hi b)
  have e2:=aM (n:=C.m) (f:=cB s w pt b) (g:=cB ((2*t,d)::s) w pt b) (fun i _=>(c2 i (fun h=>h) b).symm)
  have e3:cT ((2*t,d)::s) (a.put (some t) v) b t=0:=by
   simp only [cT,dO,if_true];rw [iU a t t v hts,if_pos rfl];exact hc b
  have h1:=R.ct b;have h2:=R.cb b;unfold TC at *
  exact ⟨by omega,fun h=>h2 (by omega)⟩
theorem nU {o:Oper} {t:Nat} (h:o.dst=some t) (d:D):bN o d=[(2*t,d)]:=by simp [bN,h]
theorem ru {o:Oper} (h:o.dst=none) (d:D):bN o d=[]:=by simp [bN,h]
theorem Rel.zU (R:Rel E C s a w G pt) (o:Oper) (ho:∀ t,o.dst=some t→t<E.n) {d:D} {v:Value} (hd:bg w G pt d v)
 (hc:∀ b,dN b d v=0):Rel E C (aA (bN o d) s) (a.put o.dst v) w G pt:=by
 cases h:o.dst with
 | none=>rw [ru h];exact R
 | some t=>rw [nU h];exact R.afQ t (ho t h) hd hc
theorem Rel.drew (R:Rel E C s a w G pt) {w':World} (hh:w'.heap=w.heap) (ho:w'.os=w.os) (hu:w'.output=w.output) (ht:w'.tape=w.tape):Rel E C s a w' G pt:=by
 refine R.step (fun _=>False) (fun _=>False) (fun _=>False) rfl R.df (fun _ _=>⟨rfl,rfl⟩) (fun _ _=>⟨rfl,rfl⟩) ⟨fun b o _=>cell_of_heap (by rw [hh]) o,fun _=>dQ _⟩ (fun _ _ _ h=>h)
  (fun b _ _=>⟨by rw [hh],rfl⟩) (fun b h=>h.elim) (fun b h=>h.elim) (fun b h=>h.elim) (fun t h=>h.elim) (fun id h=>h.elim) (fun c1 c2 b=>?_) (fun b hb=>R.gz b (by rw [hh] at hb;exact hb)) ho hu ht (by rw [hh];exact dQ _)
 have e1:=aM (n:=E.n) (f:=cT s a b) (g:=cT s a b) (fun _ _=>rfl)
 have e2:=aM (n:=C.m) (f:=cB s w pt b) (g:=cB s w' pt b) (fun i _=>(c2 i (fun h=>h) b).symm)
 have h1:=R.ct b;have h2:=R.cb b;unfold TC at *;rw [hh]
 exact ⟨by omega,fun h=>h2 (by omega)⟩
theorem Rel.weak (R:Rel E C s a w G pt) {G':Nat→Nat} (t:Nat) {d:D} (hE:Ext w G w G')
 (hT:∀ b,cT s a b t=0→G' b=G b) (hd:bg w G' pt d (a.tmps.getD t Go.undef)) (hn:t<E.n)
 (hc:∀ b,dN b d (a.tmps.getD t Go.undef)≤cT s a b t):Rel E C ((2*t,d)::s) a w G' pt:=by
 refine R.step (fun u=>u=t) (fun _=>False) (fun b=>0<cT s a b t) rfl R.df (fun u hu=>?_) (fun id _=>⟨by simp,rfl⟩) hE (fun _ _ _ h=>h)
  (fun b hb _=>⟨rfl,hT b (by omega)⟩) (fun b hb u hu=>R.tt hb hu) (fun b hb id _=>R.tb hb id) (fun b hb=>(R.cb b (nG hb (R.mM b t))).2) (fun u hu=>?_) (fun id h=>h.elim) (fun c1 c2 b=>?_)
  (fun b hb=>?_) rfl rfl rfl (dQ _)
 ·simp only [dO,hu,if_false];exact ⟨trivial,trivial⟩
 ·subst hu;simp only [dO,if_true];exact ⟨hn,hd⟩
 ·have e1:=dH (n:=E.n) (f:=cT s a b) (g:=cT ((2*t,d)::s) a b) hn (fun i hi=>c1 i hi b)
  have e2:=aM (n:=C.m) (f:=cB s w pt b) (g:=cB ((2*t,d)::s) w pt b) (fun i _=>(c2 i (fun h=>h) b).symm)
  have e3:cT ((2*t,d)::s) a b t=dN b d (a.tmps.getD t Go.undef):=by simp only [cT,dO,if_true]
  have h1:=R.ct b;have h2:=R.cb b;have h3:=hc b;unfold TC at *
  exact ⟨by omega,fun h=>h2 (by omega)⟩
 ·rw [hT b ?_];exact R.gz b hb
  rcases Nat.eq_zero_or_pos (cT s a b t) with h | h
  ·exact h
  ·have:=(R.cb b (nG h (R.mM b t))).1;omega
theorem Rel.zV (R:Rel E C s a w G pt) (t:Nat) (hnt:fu (get s (2*t))=false) :
 ∃ G',Ext w G w G'∧Rel E C ((2*t,share (get s (2*t)))::s) a w G' pt∧bg w G' pt (share (get s (2*t))) (a.tmps.getD t Go.undef) ∧
  ∀ b,cT s a b t=0→G' b=G b:=by
 have h0:=R.tm t
 by_cases hn:t<E.n
 ·obtain ⟨e,h1⟩:=h0.share (fun b=>jQ (R.mM b t) (R.ct b)) hnt
  refine ⟨FT G (get s (2*t)) (a.tmps.getD t Go.undef),e,R.weak t e (fun b hb=>qj hb) h1 hn (fun b=>?_),h1,fun b hb=>qj hb⟩
  rw [Cu];exact dQ _
 ·have hu:=R.ht t (by omega)
  refine ⟨G,Ext.refl _ _,?_,by rw [hu];exact bg.undef _,fun _ _=>rfl⟩
  rw [hu];show Rel E C ((2*t,.undef)::s) a w G pt
  refine R.step (fun _=>False) (fun _=>False) (fun _=>False) rfl R.df (fun u _=>?_) (fun id _=>⟨by simp,rfl⟩) (Ext.refl _ _) (fun _ _ _ h=>h) (fun _ _ _=>⟨rfl,rfl⟩) (fun b h=>h.elim) (fun b h=>h.elim) (fun b h=>h.elim) (fun t h=>h.elim) (fun id h=>h.elim) (fun c1 c2 b=>?_) R.gz rfl rfl rfl (dQ _)
  ·simp only [dO]
   by_cases h:u=t
   ·subst h;simp [hu]
   ·simp [h]
  ·have e1:=aM (n:=E.n) (f:=cT s a b) (g:=cT ((2*t,.undef)::s) a b) (fun i _=>(c1 i (fun h=>h) b).symm)
   have e2:=aM (n:=C.m) (f:=cB s w pt b) (g:=cB ((2*t,.undef)::s) w pt b) (fun i _=>(c2 i (fun h=>h) b).symm)
   have h1:=R.ct b;have h2:=R.cb b;unfold TC at *
   exact ⟨by omega,fun h=>h2 (by omega)⟩
theorem Cv (v:Value):share (MN v)=MN v:=by
 unfold MN
 split<;>try rfl
 ·rename_i k n
  cases OY k n<;>rfl
 ·rename_i s
  cases Nat.ble (d9 s).length jo<;>rfl
theorem oK {d:D} (h:ko d=false):share d=d:=by
 cases d with
 | agg cs=>simp only [share];rw [uM cs h]
 | sl f t l=>
  have h':Nat.beq f 2=false:=h;simp [share,bV,h']
 | _=>rfl
theorem tu {d:D} (h:dY d=false):strip d=d∧∀ b v,dN b d v=0:=by
 cases d with
 | agg cs=>
  obtain ⟨h1,h2⟩:=DT cs h
  refine ⟨by simp only [strip];rw [h1],fun b v=>?_⟩
  cases v<;>first | rfl | exact h2 b _
 | fO cs=>simp [dY] at h
 | sl f t l=>
  have:Nat.beq f 0=true:=by simpa [dY,xW] using h
  have h0:=dM this;subst h0
  refine ⟨rfl,fun b v=>?_⟩
  cases v<;>try rfl
  rename_i a n c
  cases a<;>rfl
 | _=>exact ⟨rfl,fun b v=>by cases v<;>rfl⟩
theorem aV (R:Rel E C s a w G pt) (x:Operand):bg w G pt (aX s x) (a.eval x):=by
 cases x with
 | tmp t=>exact R.tm t
 | global g=>rfl
 | func f=>exact (rfl:a.eval (.func f) = .func (.func f) #[] #[])
 | const v=>
  show bg w G pt (MN v) v;unfold MN;split
  ·rfl
  ·rename_i k n
   by_cases h:OY k n=true
   ·rw [h]
    simp only [OY,bP,jH] at h;exact ⟨rfl,h⟩
   ·simp only [Bool.not_eq_true] at h;rw [h];trivial
  ·rename_i s
   by_cases h:Nat.ble (d9 s).length jo=true
   ·rw [h];exact ⟨_,rfl,rfl,Nat.le_of_ble_eq_true h⟩
   ·simp only [Bool.not_eq_true] at h;rw [h];trivial
  ·rfl
  ·trivial
theorem Rel.zX (R:Rel E C s a w G pt) (x:Operand) (hnt:fu (aX s x)=false) :
 ∃ G',Ext w G w G'∧Rel E C (aA (dA s x share ko) s) a w G' pt∧bg w G' pt (view (aX s x)) (a.eval x)∧(∀ b,dN b (view (aX s x)) (a.eval x)=0) ∧
  bg w G' pt (share (aX s x)) (a.eval x):=by
 have hv:∀ b,dN b (view (aX s x)) (a.eval x)=0:=fun b=>nT b _ _ hnt
 by_cases hx:∃ t,x = .tmp t
 ·obtain ⟨t,rfl⟩:=hx
  simp only [dA,aX] at hnt hv ⊢
  cases hU:ko (get s (2*t)) with
  | true=>
   obtain ⟨G',e,h1,h2,_⟩:=R.zV t hnt;exact ⟨G',e,h1,h2.view hnt,hv,h2⟩
  | false=>
   refine ⟨G,Ext.refl _ _,R,?_,hv,?_⟩
   ·have:=R.tm t
    rw [←oK hU] at this;exact this.view hnt
   ·rw [oK hU];exact R.tm t
 ·have h1:dA s x share ko=[]:=by cases x<;>first | rfl | exact absurd ⟨_,rfl⟩ hx
  have h2:share (aX s x)=aX s x:=by
   cases x with
   | tmp t=>exact absurd ⟨_,rfl⟩ hx
   | const v=>
    exact Cv v
   | _=>rfl
  rw [h1,h2];have:=aV R x;refine ⟨G,Ext.refl _ _,R,?_,hv,this⟩;rw [←h2] at this;exact this.view hnt
end
theorem DU (b:Nat) (v u:Value):dN b (MN v) u=0:=by
 unfold MN
 split<;>try (cases u<;>rfl)
 ·rename_i k n
  cases OY k n<;>cases u<;>rfl
 ·rename_i s
  cases Nat.ble (d9 s).length jo<;>cases u<;>rfl
section
variable {E:Env} {C:Ctx} {s:St} {a:Act} {w:World} {G:Nat→Nat} {pt:Nat→Nat→Option Value}
theorem Rel.take (R:Rel E C s a w G pt) (x:Operand) (o:Oper) (ho:∀ t,o.dst=some t→t<E.n) {G':Nat→Nat} {d':D} {v':Value}
 (hE:Ext w G w G') (hG:∀ b,dN b (aX s x) (a.eval x)=0→G' b=G b) (hd:bg w G' pt d' v')
 (hc:∀ b,dN b d' v'≤dN b (aX s x) (a.eval x)) :
 Rel E C (aA (dA s x strip dY++bN o d') s) (a.put o.dst v') w G' pt:=by
 have zero:(∀ b,dN b (aX s x) (a.eval x)=0)→dA s x strip dY=[] →
  Rel E C (aA (dA s x strip dY++bN o d') s) (a.put o.dst v') w G' pt:=by
  intro h1 h2
  have hGG:G' = G:=funext fun b=>hG b (h1 b)
  subst hGG;rw [h2,List.nil_append]
  exact R.zU o ho hd fun b=>by have:=hc b;have:=h1 b;omega
 cases x with
 | tmp tx=>
  cases hX:dY (get s (2*tx)) with
  | false=>exact zero (fun b=>(tu hX).2 b _) (by simp [dA,hX])
  | true=>
   have e1:dA s (.tmp tx) strip dY=[(2*tx,strip (get s (2*tx)))]:=by simp [dA,hX]
   rw [e1]
   have hxn:tx<E.n:=by
    rcases Nat.lt_or_ge tx E.n with h | h
    ·exact h
    ·have:=R.ht tx h;rw [this] at hX;simp [dY,xW] at hX
   simp only [aX] at hc hG
   have hc':∀ b,dN b d' v'≤cT s a b tx:=hc
   have hG':∀ b,cT s a b tx=0→G' b=G b:=hG
   -- the source alone
   have Ux:bg w G' pt (strip (get s (2*tx))) (a.tmps.getD tx Go.undef):=by
    refine bg.mono (pt:=pt) hE (fun _ _ _ h=>h) (R.tm tx).strip fun b hb=>?_
    rw [q9] at hb;omega
   cases hd0:o.dst with
   | none=>
    rw [ru hd0]
    exact R.weak tx hE hG' Ux hxn fun b=>by rw [q9];exact fG _
   | some t=>
    rw [nU hd0];have htn:=ho t hd0
    have hts:t<a.tmps.size:=by rw [R.sz];exact htn
    show Rel E C ((2*t,d')::(2*tx,strip (get s (2*tx)))::s) (a.put (some t) v') w G' pt
    refine R.step (fun u=>u=t∨u=tx) (fun _=>False) (fun b=>0<cT s a b tx) (by simp) (by simpa using R.df) (fun u hu=>?_) (fun id _=>⟨by simp,rfl⟩) hE (fun _ _ _ h=>h)
     (fun b hb _=>⟨rfl,hG' b (by omega)⟩) (fun b hb u hu=>R.tt hb (fun h=>hu (.inr h))) (fun b hb id _=>R.tb hb id) (fun b hb=>(R.cb b (nG hb (R.mM b tx))).2)
     (fun u hu=>?_) (fun id h=>h.elim) (fun c1 c2 b=>?_) (fun b hb=>?_) rfl rfl rfl (dQ _)
    ·have h1:u≠t:=fun h=>hu (.inl h)
     have h2:u≠tx:=fun h=>hu (.inr h)
     simp only [dO,h1,h2,if_false];rw [iU a t u v' hts,if_neg h1];exact ⟨trivial,rfl⟩
    ·by_cases h1:u=t
     ·subst h1
      refine ⟨htn,?_⟩;simp only [dO,if_true];rw [iU a u u v' hts,if_pos rfl];exact hd
     ·have h2:u=tx:=hu.resolve_left h1
      subst h2;refine ⟨hxn,?_⟩;simp only [dO,h1,if_false,if_true];rw [iU a t u v' hts,if_neg h1];exact Ux
    ·have q2:=aM (n:=C.m) (f:=cB s w pt b) (g:=cB ((2*t,d')::(2*tx,strip (get s (2*tx)))::s) w pt b) (fun i _=>(c2 i (fun h=>h) b).symm)
     have q3:cT ((2*t,d')::(2*tx,strip (get s (2*tx)))::s) (a.put (some t) v') b t=dN b d' v':=by
      simp only [cT,dO,if_true];rw [iU a t t v' hts,if_pos rfl]
     have h1:=R.ct b;have h2:=R.cb b;have h3:=hc' b
     by_cases htx:tx=t
     ·subst htx
      have q1:=dH (n:=E.n) (f:=cT s a b) (g:=cT ((2*tx,d')::(2*tx,strip (get s (2*tx)))::s) (a.put (some tx) v') b) htn (fun i hi=>c1 i (by simp [hi]) b)
      unfold TC at *
      exact ⟨by omega,fun h=>h2 (by omega)⟩
     ·have q1:=nQ (n:=E.n) (f:=cT s a b) (g:=cT ((2*t,d')::(2*tx,strip (get s (2*tx)))::s) (a.put (some t) v') b) htn hxn (Ne.symm htx) (fun i hi hj=>c1 i (by simp [hi,hj]) b)
      have q4:cT ((2*t,d')::(2*tx,strip (get s (2*tx)))::s) (a.put (some t) v') b tx=0:=by
       simp only [cT,dO,htx,if_false,if_true];rw [iU a t tx v' hts,if_neg htx];exact q9 _ _ _
      unfold TC at *
      exact ⟨by omega,fun h=>h2 (by omega)⟩
    ·rw [hG' b ?_];exact R.gz b hb
     rcases Nat.eq_zero_or_pos (cT s a b tx) with h | h
     ·exact h
     ·have:=(R.cb b (nG h (R.mM b tx))).1;omega
 | const v=>exact zero (fun b=>DU b v _) rfl
 | global g=>exact zero (fun b=>rfl) rfl
 | func f=>exact zero (fun b=>rfl) rfl
end
def fC (P:Program) (E:Env) (C:Ctx) (o:Oper) (a:Act) (w:World) (s':St):Prop:=
 ∃ v w' G' bX,((execOp a.eval o).run P w = .ok (.value v) w'∨(execOp a.eval o).run P w = .ok .skip w'∧v=Go.undef)∧Rel E C s' (a.put o.dst v) w' G' bX
section
variable {P:Program} {E:Env} {C:Ctx} {s:St} {a:Act} {w:World} {G:Nat→Nat} {pt:Nat→Nat→Option Value} {o:Oper} {u:St}
theorem Pm (R:Rel E C s a w G pt) (ho:∀ t,o.dst=some t→t<E.n) (x:Operand) (hop:o.op = .move x)
 (h:DN E o s x=some (true,u)):fC P E C o a w (aA u s):=by
 have hrun:(execOp a.eval o).run P w = .ok (.value (a.eval x)) w:=by simp [execOp,hop]
 simp only [DN] at h
 cases hc:(Nat.beq (tag E o) 1 || fu (aX s x)) with
 | true=>
  rw [hc] at h;simp only [aQ,bq,eX,true_and] at h;subst h
  exact ⟨_,w,G,pt,.inl hrun,R.take x o ho (Ext.refl _ _) (fun _ _=>rfl) (aV R x) (fun _=>dQ _)⟩
 | false=>
  rw [hc] at h;simp only [bU,bq,eX,true_and] at h;subst h
  have hnt:fu (aX s x)=false:=by simp only [Bool.or_eq_false_iff] at hc;exact hc.2
  obtain ⟨G',e,h1,h2,h3,_⟩:=R.zX x hnt;rw [aU];exact ⟨_,w,G',pt,.inl hrun,h1.zU o ho h2 h3⟩
end
section
variable {E:Env} {C:Ctx} {s:St} {a:Act} {w:World} {G:Nat→Nat} {pt:Nat→Nat→Option Value}
theorem Rel.IZ (R:Rel E C s a w G pt) (t:Nat) (hn:t<E.n) {d:D} (hd:bg w G pt d (a.tmps.getD t Go.undef)) (hc:∀ b,dN b d (a.tmps.getD t Go.undef)=0) :
 Rel E C ((2*t,d)::s) a w G pt ∧
  ∀ b,TC E.n C.m ((2*t,d)::s) a w pt b+cT s a b t=TC E.n C.m s a w pt b:=by
 refine ⟨R.weak t (Ext.refl _ _) (fun _ _=>rfl) hd hn fun b=>by rw [hc];exact fG _,fun b=>?_⟩
 have e1:=dH (n:=E.n) (f:=cT s a b) (g:=cT ((2*t,d)::s) a b) hn (fun i hi=>by simp only [cT,dO,hi,if_false])
 have e2:=aM (n:=C.m) (f:=cB s w pt b) (g:=cB ((2*t,d)::s) w pt b) (fun i _=>by simp only [cB,jq])
 have e3:cT ((2*t,d)::s) a b t=0:=by simp only [cT,dO,if_true];exact hc b
 unfold TC;omega
theorem oL (R:Rel E C s a w G pt) {t:Nat} (h:dY (get s (2*t))=true):t<E.n:=by
 rcases Nat.lt_or_ge t E.n with h1 | h1
 ·exact h1
 ·rw [R.ht t h1] at h;simp [dY,xW] at h
theorem gB (R:Rel E C s a w G pt) {id:Nat} (h:get s (2*id+1)≠.undef):id<C.m:=by
 rcases Nat.lt_or_ge id C.m with h1 | h1
 ·exact h1
 ·exact absurd (R.hb id h1) h
theorem Rel.lS (R:Rel E C s a w G pt) (x:Operand) :
 Rel E C (aA (dA s x strip dY) s) a w G pt ∧
  ∀ b,TC E.n C.m (aA (dA s x strip dY) s) a w pt b+dN b (aX s x) (a.eval x)=TC E.n C.m s a w pt b:=by
 cases x with
 | tmp t=>
  cases hX:dY (get s (2*t)) with
  | true=>
   have e1:dA s (.tmp t) strip dY=[(2*t,strip (get s (2*t)))]:=by simp [dA,hX]
   rw [e1]
   exact R.IZ t (oL R hX) (R.tm t).strip fun b=>q9 _ _ _
  | false=>
   have e1:dA s (.tmp t) strip dY=[]:=by simp [dA,hX]
   rw [e1]
   exact ⟨R,fun b=>by rw [show dN b (aX s (.tmp t)) _=0 from (tu hX).2 b _];rfl⟩
 | const v=>exact ⟨R,fun b=>by rw [show dN b (aX s (.const v)) _=0 from DU b v _];rfl⟩
 | _=>exact ⟨R,fun b=>rfl⟩
theorem Rel.held (R:Rel E C s a w G pt) (x:Operand) {b:Nat} (h:0<dN b (aX s x) (a.eval x)) :
 b<w.heap.size∧(C.w0.heap.size≤b∨C.X b):=by
 cases x with
 | tmp t=>exact R.cb b (nG h (R.mM b t))
 | const v=>rw [show dN b (aX s (.const v)) _=0 from DU b v _] at h;omega
 | global g=>exact absurd h (by simp [aX,dN,eu])
 | func f=>exact absurd h (by show ¬ 0<dN b (.BS f) _;rw [show dN b (.BS f) (a.eval (.func f))=0 from rfl];omega)
theorem Rel.put (R:Rel E C s a w G pt) (o:Oper) (ho:∀ t,o.dst=some t→t<E.n) {w':World} {G':Nat→Nat} {d':D} {v':Value}
 (T:Nat→Prop) (hE:Ext w G w' G') (hT:∀ b,¬ T b→b<w.heap.size→w'.heap[b]? = w.heap[b]?∧G' b=G b)
 (h0:∀ b,T b→TC E.n C.m s a w pt b=0∧(C.w0.heap.size≤b∨C.X b)) (hd:bg w' G' pt d' v')
 (hc:∀ b,dN b d' v'≤1∧(0<dN b d' v'→TC E.n C.m s a w pt b=0∧b<w'.heap.size∧(C.w0.heap.size≤b∨C.X b)))
 (hgz:∀ b,w'.heap.size≤b→G' b=0) (hos:w'.os=w.os) (hout:w'.output=w.output) (htp:w'.tape=w.tape) (Ph:w.heap.size≤w'.heap.size) :
 Rel E C (aA (bN o d') s) (a.put o.dst v') w' G' pt:=by
 have z1:∀ b,T b→∀ t,cT s a b t=0:=fun b hb t=>by have:=R.mM b t;have:=(h0 b hb).1;omega
 have z2:∀ b,T b→∀ id,cB s w pt b id=0:=fun b hb id=>by have:=R.iT b id;have:=(h0 b hb).1;omega
 cases hd0:o.dst with
 | none=>
  rw [ru hd0]
  refine R.step (fun _=>False) (fun _=>False) T (by simp) (by simpa using R.df) (fun _ _=>⟨rfl,rfl⟩) (fun _ _=>⟨rfl,rfl⟩) hE (fun _ _ _ h=>h) hT (fun b hb t _=>z1 b hb t) (fun b hb id _=>z2 b hb id)
   (fun b hb=>(h0 b hb).2) (fun t h=>h.elim) (fun id h=>h.elim) (fun c1 c2 b=>?_) hgz hos hout htp Ph
  have e1:=aM (n:=E.n) (f:=cT s a b) (g:=cT s (a.put none v') b) (fun _ _=>rfl)
  have e2:=aM (n:=C.m) (f:=cB s w pt b) (g:=cB s w' pt b) (fun i _=>(c2 i (fun h=>h) b).symm)
  have h1:=R.ct b;have h2:=R.cb b;show TC E.n C.m s (a.put none v') w' pt b≤1∧(0<TC E.n C.m s (a.put none v') w' pt b→_);unfold TC at *
  exact ⟨by omega,fun h=>⟨nG (h2 (by omega)).1 Ph,(h2 (by omega)).2⟩⟩
 | some t=>
  rw [nU hd0];have htn:=ho t hd0
  have hts:t<a.tmps.size:=by rw [R.sz];exact htn
  show Rel E C ((2*t,d')::s) (a.put (some t) v') w' G' pt
  refine R.step (fun u=>u=t) (fun _=>False) T (by simp) (by simpa using R.df) (fun u hu=>?_) (fun id _=>⟨by simp,rfl⟩) hE (fun _ _ _ h=>h) hT (fun b hb t _=>z1 b hb t) (fun b hb id _=>z2 b hb id)
   (fun b hb=>(h0 b hb).2) (fun u hu=>?_) (fun id h=>h.elim) (fun c1 c2 b=>?_) hgz hos hout htp Ph
  ·simp only [dO,hu,if_false]
   rw [iU a t u v' hts,if_neg hu];exact ⟨trivial,rfl⟩
  ·subst hu
   refine ⟨htn,?_⟩;simp only [dO,if_true];rw [iU a u u v' hts,if_pos rfl];exact hd
  ·have e1:=dH (n:=E.n) (f:=cT s a b) (g:=cT ((2*t,d')::s) (a.put (some t) v') b) htn (fun i hi=>c1 i hi b)
   have e2:=aM (n:=C.m) (f:=cB s w pt b) (g:=cB ((2*t,d')::s) w' pt b) (fun i _=>(c2 i (fun h=>h) b).symm)
   have e3:cT ((2*t,d')::s) (a.put (some t) v') b t=dN b d' v':=by
    simp only [cT,dO,if_true];rw [iU a t t v' hts,if_pos rfl]
   have h1:=R.ct b;have h2:=R.cb b;have h3:=hc b;unfold TC at *
   rcases Nat.eq_zero_or_pos (dN b d' v') with h4 | h4
   ·exact ⟨by omega,fun h=>⟨nG (h2 (by omega)).1 Ph,(h2 (by omega)).2⟩⟩
   ·have h5:=h3.2 h4
    exact ⟨by omega,fun _=>h5.2⟩
def bB (pt:Nat→Nat→Option Value) (id st:Nat) (v:Value):Nat→Nat→Option Value:=
 fun i j=>if i=id∧j=st then some v else pt i j
theorem Rel.wM (R:Rel E C s a w G pt) (t:Nat) (htn:t<E.n) (hm:E.n≤C.m) {w':World} {G':Nat→Nat} {dB d':D} {pv v':Value}
 (hE:Ext w G w' G') (hT:∀ b,b<w.heap.size→w'.heap[b]? = w.heap[b]?∧G' b=G b)
 (hd:bg w' G' (bB pt t (aO (get s (2*t+1))+1) pv) d' v') (hd0:∀ b,dN b d' v' = 0)
 (hB:nI w' G' (bB pt t (aO (get s (2*t+1))+1) pv) t dB) (hst:aO dB=aO (get s (2*t+1))+1)
 (hc:∀ b,gQ w' (bB pt t (aO (get s (2*t+1))+1) pv) b t dB≤1∧(0<gQ w' (bB pt t (aO (get s (2*t+1))+1) pv) b t dB →
  TC E.n C.m s a w pt b=0∧b<w'.heap.size∧(C.w0.heap.size≤b∨C.X b)))
 (hgz:∀ b,w'.heap.size≤b→G' b=0) (hos:w'.os=w.os) (hout:w'.output=w.output) (htp:w'.tape=w.tape) (Ph:w.heap.size≤w'.heap.size) :
 Rel E C ((2*t,d')::(2*t+1,dB)::s) (a.put (some t) v') w' G' (bB pt t (aO (get s (2*t+1))+1) pv):=by
 have hts:t<a.tmps.size:=by rw [R.sz];exact htn
 generalize au0:aO (get s (2*t+1))+1=st at *
 have hno:∀ j,st≤j→pt t j=none:=fun j hj=>R.pf t j (by omega)
 have hpt:∀ i j v,pt i j=some v→bB pt t st pv i j=some v:=by
  intro i j v h;unfold bB;rw [if_neg]
  ·exact h
  ·rintro ⟨rfl,rfl⟩
   rw [hno j (dQ _)] at h;cases h
 refine R.step (fun u=>u=t) (fun i=>i=t) (fun _=>False) (by simp) (by simpa using R.df) (fun u hu=>?_) (fun id hid=>?_) hE hpt (fun b _ hb=>hT b hb) (fun b h=>h.elim) (fun b h=>h.elim) (fun b h=>h.elim)
  (fun u hu=>?_) (fun id hid=>?_) (fun c1 c2 b=>?_) hgz hos hout htp Ph
 ·simp only [dO,get_bt,hu,if_false]
  rw [iU a t u v' hts,if_neg hu];exact ⟨trivial,rfl⟩
 ·simp only [jq,bA,hid,if_false]
  exact ⟨trivial,funext fun j=>by simp [bB,hid]⟩
 ·subst hu
  refine ⟨htn,?_⟩;simp only [dO,if_true];rw [iU a u u v' hts,if_pos rfl];exact hd
 ·subst hid
  simp only [jq,bA,if_true]
  refine ⟨by omega,hB,fun j hj=>?_⟩
  rw [hst] at hj;unfold bB
  rw [if_neg (by omega)]
  exact hno j (by omega)
 ·have e1:=dH (n:=E.n) (f:=cT s a b) (g:=cT ((2*t,d')::(2*t+1,dB)::s) (a.put (some t) v') b) htn (fun i hi=>c1 i hi b)
  have e2:=dH (n:=C.m) (f:=cB s w pt b) (g:=cB ((2*t,d')::(2*t+1,dB)::s) w' (bB pt t st pv) b) (x:=t) (by omega) (fun i hi=>c2 i hi b)
  have e3:cT ((2*t,d')::(2*t+1,dB)::s) (a.put (some t) v') b t=0:=by
   simp only [cT,dO,if_true];rw [iU a t t v' hts,if_pos rfl];exact hd0 b
  have e4:cB ((2*t,d')::(2*t+1,dB)::s) w' (bB pt t st pv) b t=gQ w' (bB pt t st pv) b t dB:=by
   simp only [cB,jq,bA,if_true]
  have h1:=R.ct b;have h2:=R.cb b;have h3:=hc b;unfold TC at *
  rcases Nat.eq_zero_or_pos (gQ w' (bB pt t st pv) b t dB) with h4 | h4
  ·exact ⟨by omega,fun h=>⟨nG (h2 (by omega)).1 Ph,(h2 (by omega)).2⟩⟩
  ·have h5:=h3.2 h4
   exact ⟨by omega,fun _=>h5.2⟩
end
section
variable {P:Program} {E:Env} {C:Ctx} {s:St} {a:Act} {w:World} {G:Nat→Nat} {pt:Nat→Nat→Option Value} {o:Oper} {u:St}
theorem tC {t:Ty} {d:D} {v:Value} (h:bg w G pt d v):bg w G pt (cZ t d) v∧∀ b,dN b (cZ t d) v=dN b d v:=by
 cases d with
 | jK=>
  have h':v = .slice none 0 0:=h;subst h'
  cases t<;>try exact ⟨h,fun _=>rfl⟩
  refine ⟨⟨none,0,0,rfl,rfl,by simp,.inl ⟨rfl,rfl,rfl⟩⟩,fun _=>rfl⟩
 | _=>exact ⟨h,fun _=>rfl⟩
theorem zY {t:Ty} {d:D} (h:fu (cZ t d)=false):fu d=false:=by
 cases d<;>first | rfl | exact h
theorem MR (R:Rel E C s a w G pt) (hm:E.n≤C.m) (ho:∀ t,o.dst=some t→t<E.n) (x:Operand) (hop:o.op = .assign x)
 (h:oI E o s x=some (true,u)):fC P E C o a w (aA u s):=by
 have hrun:(execOp a.eval o).run P w = .ok (.value (a.eval x)) w:=by simp [execOp,hop]
 simp only [oI] at h
 cases hT:fu (cZ (MO E o.type) (aX s x)) with
 | true=>simp [hT] at h
 | false=>
  rw [hT] at h;simp only [bU] at h;have hrep:=aV R x;obtain ⟨q1,q2⟩:=tC (t:=MO E o.type) hrep;split at h
  ·-- promote
   split at h
   ·rename_i f t l dst hd hdst
    cases hg:(Nat.beq f 2&&Nat.blt 0 t.nc) with
    | false=>simp [hg] at h
    | true=>
     rw [hg] at h;simp only [aQ,bq,eX,true_and] at h;simp only [bP] at hg;have hf:=dM hg.1;subst hf;subst h;obtain ⟨R1,hc1⟩:=R.lS x
     have hg0:get (aA (dA s x strip dY) s) (2*dst+1)=get s (2*dst+1):=by
      cases x with
      | tmp t=>simp only [dA];cases dY (get s (2*t))<;>simp [aA]
      | _=>rfl
     rw [hd] at q1 q2;obtain ⟨ad,n,c,hv,hn,hbd,hsl⟩:=q1;rw [aU,←hg0]
     have key:=R1.wM dst (ho dst hdst) hm (w':=w) (G':=G) (dB:=.aW (aO (get (aA (dA s x strip dY) s) (2*dst+1))+1) true false t l)
      (d':=.gZ dst (aO (get (aA (dA s x strip dY) s) (2*dst+1))+1)) (pv:=a.eval x) (v':=a.eval x) (Ext.refl _ _) (fun _ _=>⟨rfl,rfl⟩)
      (by show bB _ _ _ _ _ _=_;simp [bB]) (fun b=>by cases a.eval x<;>rfl)
      (fun _=>by
       simp only [sI,if_false];refine ⟨ad,n,c,?_,hn,hbd,hsl⟩
       simp [bB,hv]) rfl
      (fun b=>by
       have e:gQ w (bB pt dst (aO (get (aA (dA s x strip dY) s) (2*dst+1))+1) (a.eval x)) b dst
        (.aW (aO (get (aA (dA s x strip dY) s) (2*dst+1))+1) true false t l)=dx b (some (a.eval x)):=by
        simp [gQ,bB]
       rw [e]
       have e2:dx b (some (a.eval x))=dN b (aX s x) (a.eval x):=by
        rw [←q2 b,hv]
        rcases hsl with ⟨h5,_⟩ | ⟨b',h5,_⟩
        ·subst h5;simp [dx,bH,dN,eu]
        ·subst h5;simp [dx,bH,dN,eu]
       rw [e2];have h1:=hc1 b;have h2:=R.ct b
       refine ⟨by omega,fun h=>⟨by omega,R.held x h⟩⟩)
      R.gz rfl rfl rfl (dQ _)
     exact ⟨_,w,G,_,.inl hrun,by rw [hdst];exact key⟩
   ·cases h
  ·-- keep
   simp only [bq,eX,true_and] at h;subst h
   exact ⟨_,w,G,pt,.inl hrun,R.take x o ho (Ext.refl _ _) (fun _ _=>rfl) q1 (fun b=>by rw [q2];exact dQ _)⟩
  ·-- the default
   simp only [bq,eX,true_and] at h;subst h
   have hc:∀ b,dN b (cZ (MO E o.type) (aX s x)) (a.eval x)≤1:=by
    intro b;rw [q2];have h1:=(R.lS x).2 b;have h2:=R.ct b;omega
   obtain ⟨e,h1⟩:=q1.share hc hT
   exact ⟨_,w,_,pt,.inl hrun,R.take x o ho e (fun b hb=>qj (by rw [q2];exact hb)) h1 (fun b=>by rw [Cu,q2];exact dQ _)⟩
end
def rz:Ty→List Ty
 | .unit=>[]
 | .cons a b=>rz a++rz b
 | .st _ c=>rz c
 | t=>[t]
def tyP (P:Program):Nat→TypeId→Ty
 | 0,_=>.unit
 | n+1,T=>match P.underlying T with
  | some (.int k)=>.int k
  | some .bool=>.bool
  | some .string=>.str
  | some (.slice e)=>.sl (tyP P n e)
  | some (.struct fs)=>.st (((P.info? T).map (·.bytes)).getD 0) (fs.toList.foldr (fun f r=>.cons (tyP P n f.type) r) .unit)
  | some (.array len e)=>.st (((P.info? T).map (·.bytes)).getD 0) ((List.replicate len e).foldr (fun e r=>.cons (tyP P n e) r) .unit)
  | _=>.unit
def zD:Value→Ty→D
 | .int k n,_=>bif OY k n then .int k n else .undef
 | .bool b,_=>.bool b
 | .string s,_=>bif Nat.ble (d9 s).length jo then .str (d9 s) else .undef
 | .slice none 0 0,.sl t=>.sl 2 t []
 | .slice none 0 0,_=>.jK
 | _,_=>.undef
def KL:List Value→List Ty→List D
 | [],_=>[]
 | v::r,[]=>zD v .unit::KL r []
 | v::r,t::ts=>zD v t::KL r ts
def FU (k:IntKind):List Ty→Bool
 | []=>true
 | .int k'::r=>jm k k' && FU k r
 | _::_=>false
def jr:TypeDesc→Bool
 | .struct _ | .array _ _=>true
 | _=>false
def look:List (Nat×List Nat)→Nat→Option (List Nat)
 | [],_=>none
 | (t,ks)::r,T=>bif Nat.beq T t then some ks else look r T
def MS (P:Program) (cl:List (Nat×List Nat)) (T:TypeId):Option TI:=
 match P.info? T,P.underlying T with
 | some pi,some d=>match pi.zero with
  | some z=>
   let ty:=tyP P 12 T
   bif Nat.beq z.cells.size pi.size&&(jr d || Nat.beq pi.size 1)&&z.cells.all (·.oneCell') then
   some { size:=pi.size,bytes:=pi.bytes,agg:=jr d,ty:=ty,desc:=d,zero:=KL z.cells.toList (rz ty),
          arr:=match d,rz ty with
           | .array _ e,.int k::r=>bif FU k r then some (.int k) else some (tyP P 11 e)
           | .array _ e,_=>some (tyP P 11 e)
           | _,_=>none
          cmp:=look cl T } else none
  | none=>none
 | _,_=>none
structure Po (P:Program) (T:TypeId) (i:TI):Prop where
 info:∃ pi z,P.info? T=some pi∧pi.size=i.size∧pi.bytes=i.bytes∧pi.zero=some z∧z.cells.size=i.size∧i.zero.length=i.size ∧
  (∀ j,j<i.size→(aS z.cells j).oneCell' = true) ∧
  ∀ j (h:j<i.zero.length),(∀ w G pt,bO w G pt i.zero[j] (aS z.cells j))∧∀ b,eu b i.zero[j] (aS z.cells j)=0
 und:P.underlying T=some i.desc
 agg:i.agg=jr i.desc
 one:i.agg=false→i.size=1
theorem Zr (v:Value) (t:Ty):(∀ w G pt,bO w G pt (zD v t) v)∧∀ b,eu b (zD v t) v=0:=by
 cases v with
 | int k n=>
  show (∀ w G pt,bO w G pt (bif OY k n then .int k n else .undef) _)∧∀ b,eu b (bif OY k n then .int k n else .undef) _=0
  by_cases h:OY k n=true
  ·rw [h]
   simp only [OY,bP,jH] at h
   exact ⟨fun _ _ _=>⟨rfl,h⟩,fun _=>rfl⟩
  ·simp only [Bool.not_eq_true] at h;rw [h];exact ⟨fun _ _ _=>trivial,fun _=>rfl⟩
 | bool b=>exact ⟨fun _ _ _=>rfl,fun _=>rfl⟩
 | string s=>
  show (∀ w G pt,bO w G pt (bif Nat.ble (d9 s).length jo then .str (d9 s) else .undef) _)∧∀ b,eu b (bif Nat.ble (d9 s).length jo then .str (d9 s) else .undef) _=0
  by_cases h:Nat.ble (d9 s).length jo=true
  ·rw [h];exact ⟨fun _ _ _=>⟨_,rfl,rfl,Nat.le_of_ble_eq_true h⟩,fun _=>rfl⟩
  ·simp only [Bool.not_eq_true] at h;rw [h];exact ⟨fun _ _ _=>trivial,fun _=>rfl⟩
 | slice a n c=>
  unfold zD;split
  ·rename_i h;cases h
  ·rename_i h;cases h
  ·rename_i h;cases h
  ·rename_i h;cases h;exact ⟨fun _ _ _=>⟨none,0,0,rfl,rfl,by simp,.inl ⟨rfl,rfl,rfl⟩⟩,fun _=>rfl⟩
  ·rename_i h _;cases h;exact ⟨fun _ _ _=>rfl,fun _=>rfl⟩
  ·exact ⟨fun _ _ _=>trivial,fun _=>rfl⟩
 | _=>exact ⟨fun _ _ _=>trivial,fun _=>rfl⟩
theorem I4:∀ (vs:List Value) (ts:List Ty),(KL vs ts).length=vs.length ∧
 ∀ j (h:j<(KL vs ts).length),(∀ w G pt,bO w G pt (KL vs ts)[j] (vs.getD j undef))∧∀ b,eu b (KL vs ts)[j] (vs.getD j undef)=0
 | [],_=>⟨rfl,fun j h=>by simp [KL] at h⟩
 | v::r,[]=>by
  obtain ⟨h1,h2⟩:=I4 r []
  refine ⟨by simp [KL,h1],fun j h=>?_⟩
  match j,h with
  | 0,_=>exact Zr v .unit
  | j+1,h=>simpa [KL] using h2 j (by simpa [KL] using h)
 | v::r,t::ts=>by
  obtain ⟨h1,h2⟩:=I4 r ts
  refine ⟨by simp [KL,h1],fun j h=>?_⟩
  match j,h with
  | 0,_=>exact Zr v t
  | j+1,h=>simpa [KL] using h2 j (by simpa [KL] using h)
theorem Uy {P:Program} {cl:List (Nat×List Nat)} {T:TypeId} {i:TI} (h:MS P cl T=some i):Po P T i:=by
 unfold MS at h;split at h
 ·rename_i pi d hi hu
  split at h
  ·rename_i z hz
   cases hb:(Nat.beq z.cells.size pi.size&&(jr d || Nat.beq pi.size 1)&&z.cells.all (·.oneCell')) with
   | false=>simp [hb] at h
   | true=>
    simp only [hb,aQ,bq] at h;subst h;simp only [bP,Bool.or_eq_true] at hb;obtain ⟨⟨h1,h2⟩,h3⟩:=hb;have h1':=dM h1;obtain ⟨q1,q2⟩:=I4 z.cells.toList (rz (tyP P 12 T))
    refine ⟨⟨pi,z,hi,rfl,rfl,hz,h1',by simp [q1,h1'],fun j hj=>?_,fun j hj=>?_⟩,hu,rfl,fun ha=>?_⟩
    ·have hj':j<z.cells.size:=by rw [h1'];exact hj
     have:=Array.all_eq_true.1 h3 j hj'
     simpa [aS,sJ,hj'] using this
    ·have:=q2 j hj
     have e:aS z.cells j=z.cells.toList.getD j undef:=by simp [aS,sJ,yP]
     rw [e];exact this
    ·rcases h2 with h2 | h2
     ·rw [h2] at ha;cases ha
     ·exact dM h2
  ·cases h
 ·cases h
theorem iK (k:IntKind) (n:Int):k.has (k.wrap n):=by
 have key:∀ m:Int,0<m→0≤n%m∧n%m<m:=fun m hm=>⟨Int.emod_nonneg _ (by omega),Int.emod_lt_of_pos _ hm⟩
 cases k<;>simp only [IntKind.has,IntKind.wrap,IntKind.min,IntKind.max,IntKind.bits,IntKind.signed]<;>simp<;>(try split)<;>omega
theorem uO {x y:Int} (hx:0≤x) (hy:0<y):x%y≤x:=by
 rw [Int.emod_def];have:=Int.mul_nonneg (Int.le_of_lt hy) (Int.ediv_nonneg hx (Int.le_of_lt hy));omega
theorem Pp {k:IntKind} {x:Int} (y:Int) (h:k.has x):k.has (x.tmod y):=by
 have h1:x.tmod y≤x∨x.tmod y≤0:=by
  rcases Int.le_total 0 x with hx | hx
  ·left
   rw [Int.tmod_eq_emod_of_nonneg hx]
   rcases Int.lt_trichotomy y 0 with hy | hy | hy
   ·rw [←Int.emod_neg]
    exact uO hx (by omega)
   ·subst hy;simp
   ·exact uO hx (by omega)
  ·right
   have:=Int.neg_tmod (-x) y;rw [Int.neg_neg] at this;rw [this]
   have:=Int.tmod_nonneg y (show 0≤-x by omega)
   omega
 have h2:x≤x.tmod y∨0≤x.tmod y:=by
  rcases Int.le_total 0 x with hx | hx
  ·right;exact Int.tmod_nonneg y hx
  ·left
   have:=Int.neg_tmod (-x) y;rw [Int.neg_neg] at this;rw [this]
   have:(-x).tmod y≤-x:=by
    have hx':0≤-x:=by omega
    rw [Int.tmod_eq_emod_of_nonneg hx']
    rcases Int.lt_trichotomy y 0 with hy | hy | hy
    ·rw [←Int.emod_neg]
     exact uO hx' (by omega)
    ·subst hy;simp
    ·exact uO hx' (by omega)
   omega
 have hmin:k.min≤0:=by cases k<;>simp [IntKind.min,IntKind.bits,IntKind.signed]
 have hmax:0≤k.max:=by cases k<;>simp [IntKind.max,IntKind.bits,IntKind.signed]
 unfold IntKind.has at *;omega
theorem Pq {k:IntKind} {x:Int} (m:Nat) (h:k.has x):k.has (x.fdiv (2 ^ m)):=by
 have hp:(0:Int)<2 ^ m:=Int.pow_pos (by omega)
 rw [Int.fdiv_eq_ediv_of_nonneg _ (by omega)]
 have h1:0≤x→x / 2 ^ m≤x∧0≤x / 2 ^ m:=fun hx=>⟨Int.ediv_le_self _ hx,Int.ediv_nonneg hx (by omega)⟩
 have h2:x<0→x≤x / 2 ^ m∧x / 2 ^ m<0:=fun hx=>⟨by
  rw [Int.le_ediv_iff_mul_le hp]
  have:x*2 ^ m≤x*1:=Int.mul_le_mul_of_nonpos_left (by omega) (by omega)
  omega,Int.ediv_neg_of_neg_of_pos hx hp⟩
 have hmin:k.min≤0:=by cases k<;>simp [IntKind.min,IntKind.bits,IntKind.signed]
 have hmax:0≤k.max:=by cases k<;>simp [IntKind.max,IntKind.bits,IntKind.signed]
 unfold IntKind.has at *
 by_cases hx:x<0
 ·have:=h2 hx;omega
 ·have:=h1 (by omega);omega
section
variable {P:Program} {E:Env} {C:Ctx} {s:St} {a:Act} {w:World} {G:Nat→Nat} {pt:Nat→Nat→Option Value} {o:Oper} {u:St} {xT:Nat}
theorem pure_ok (R:Rel E C s a w G pt) (ho:∀ t,o.dst=some t→t<E.n) {v:Value} {d:D} (hrun:(execOp a.eval o).run P w = .ok (.value v) w)
 (hd:bg w G pt d v) (hc:∀ b,dN b d v=0):fC P E C o a w (aA (bN o d) s):=
 ⟨v,w,G,pt,.inl hrun,R.zU o ho hd hc⟩
theorem FV (R:Rel E C s a w G pt) (ho:∀ t,o.dst=some t→t<E.n) (x:Operand) (hop:o.op = .nilCheck x)
 (h:lH o s x=some (true,u)):fC P E C o a w (aA u s):=by
 simp only [lH] at h
 cases hp:KH (aX s x) with
 | false=>simp [hp] at h
 | true=>
  rw [hp] at h;simp only [aQ,bq,eX,true_and] at h;subst h;have hr:=aV R x
  have hrun:(execOp a.eval o).run P w = .ok (.value (a.eval x)) w:=by
   cases hd:aX s x<;>rw [hd] at hp hr<;>simp only [KH,sI] at hp
   ·obtain ⟨b,_,hv⟩:=hr;simp [execOp,hop,hv]
   ·obtain ⟨b,_,hv⟩:=hr;simp [execOp,hop,hv]
   ·have hv:a.eval x = .pointer _:=hr;simp [execOp,hop,hv]
   ·obtain ⟨b,_,hv,_⟩:=hr;simp [execOp,hop,hv]
   ·obtain ⟨arr,hv,_⟩:=hr;simp [execOp,hop,hv]
   ·have hv:a.eval x = .func _ #[] #[]:=hr;simp [execOp,hop,hv]
   ·obtain ⟨b,_,hv,_⟩:=hr;simp [execOp,hop,hv]
  refine pure_ok R ho hrun hr fun b=>?_
  cases hd:aX s x<;>rw [hd] at hp<;>simp only [KH,sI] at hp<;>cases a.eval x<;>rfl
theorem MU (op:BinOp) (xT:Nat) (x y:Operand) (yT:Nat) (hop:o.op = .binOp op xT x y yT) {v:Value}
 (hg:(eqGuard op xT x y (a.eval x) (a.eval y)).run P w = .ok () w) (hb:(binOp op xT (a.eval x) (a.eval y)).run P w = .ok v w) :
 (execOp a.eval o).run P w = .ok (.value v) w:=by
 simp [execOp,hop,hg,hb]
theorem wN (op:BinOp) (xT:Nat) (x y:Operand) {p q:Value} (h:∀ cs,p≠.agg cs) (h2:p≠.nilIface):(eqGuard op xT x y p q).run P w = .ok () w:=by
 unfold eqGuard
 cases op<;>simp<;>split<;>first | rfl | exact absurd rfl h2 | exact absurd rfl (h _)
theorem Pt {op:BinOp} {k:IntKind} {x y:Int} {d:D} (hx:k.has x) (h:arith op k x y=some (true,d)) :
 ∃ v,(binOp op xT (.int k x) (.int k y)).run P w = .ok v w∧bg w G pt d v∧∀ b,dN b d v=0:=by
 cases op<;>simp only [arith,bq,eX,true_and,reduceCtorEq,Bool.not_eq_true',beq_eq_false_iff_ne,ne_eq] at h
 ·subst h;exact ⟨.int k (k.wrap (x+y)),by simp [binOp,Op.intArith],⟨rfl,iK _ _⟩,fun _=>rfl⟩
 ·subst h;exact ⟨.int k (k.wrap (x - y)),by simp [binOp,Op.intArith],⟨rfl,iK _ _⟩,fun _=>rfl⟩
 ·subst h;exact ⟨.int k (k.wrap (x*y)),by simp [binOp,Op.intArith],⟨rfl,iK _ _⟩,fun _=>rfl⟩
 ·obtain ⟨h0,h⟩:=h;subst h;exact ⟨.int k (k.wrap (x.tdiv y)),by simp [binOp,Op.intDiv,h0],⟨rfl,iK _ _⟩,fun _=>rfl⟩
 ·obtain ⟨h0,h⟩:=h;subst h;exact ⟨.int k (x.tmod y),by simp [binOp,Op.intDiv,h0],⟨rfl,Pp _ hx⟩,fun _=>rfl⟩
 ·subst h;refine ⟨.int k (k.wrap (BitVec.ofInt k.bits x &&& BitVec.ofInt k.bits y).toNat),?_,⟨rfl,iK _ _⟩,fun _=>rfl⟩;simp [binOp,Op.intBits]
 ·subst h;refine ⟨.int k (k.wrap (BitVec.ofInt k.bits x ||| BitVec.ofInt k.bits y).toNat),?_,⟨rfl,iK _ _⟩,fun _=>rfl⟩;simp [binOp,Op.intBits]
 ·subst h;refine ⟨.int k (k.wrap (BitVec.ofInt k.bits x ^^^ BitVec.ofInt k.bits y).toNat),?_,⟨rfl,iK _ _⟩,fun _=>rfl⟩;simp [binOp,Op.intBits]
 ·subst h;refine ⟨.int k (k.wrap (BitVec.ofInt k.bits x &&& ~~~BitVec.ofInt k.bits y).toNat),?_,⟨rfl,iK _ _⟩,fun _=>rfl⟩;simp [binOp,Op.intBits]
 ·subst h;exact ⟨.bool (x==y),by simp [binOp,Op.intCmp],rfl,fun _=>rfl⟩
 ·subst h;exact ⟨.bool (x != y),by simp [binOp,Op.intCmp],rfl,fun _=>rfl⟩
 ·subst h;exact ⟨.bool (decide (x<y)),by simp [binOp,Op.intCmp],rfl,fun _=>rfl⟩
 ·subst h;exact ⟨.bool (decide (x≤y)),by simp [binOp,Op.intCmp],rfl,fun _=>rfl⟩
 ·subst h;exact ⟨.bool (decide (x > y)),by simp [binOp,Op.intCmp],rfl,fun _=>rfl⟩
 ·subst h;exact ⟨.bool (decide (x≥y)),by simp [binOp,Op.intCmp],rfl,fun _=>rfl⟩
theorem MV {op:BinOp} {k k':IntKind} {x y:Int} {d:D} (hx:k.has x) (h:shifts op k x y=some (true,d)) :
 ∃ v,(binOp op xT (.int k x) (.int k' y)).run P w = .ok v w∧bg w G pt d v∧∀ b,dN b d v=0:=by
 cases op<;>simp only [shifts,bq,eX,reduceCtorEq,jH] at h
 ·obtain ⟨h0,h⟩:=h;subst h
  exact ⟨.int k (k.wrap (x*2 ^ min y.toNat k.bits)),by simp [binOp,Op.shift,show ¬ y<0 by omega],⟨rfl,iK _ _⟩,fun _=>rfl⟩
 ·obtain ⟨h0,h⟩:=h;subst h
  exact ⟨.int k (x.fdiv (2 ^ min y.toNat k.bits)),by simp [binOp,Op.shift,show ¬ y<0 by omega],⟨rfl,Pq _ hx⟩,fun _=>rfl⟩
end
def kP (P:Program) (rec:TypeId→Option (List Nat)):List Field→Nat→Nat→Option (List Nat)
 | [],off,tot=>bif Nat.beq off tot then some [] else none
 | f::r,off,tot=>bif Nat.beq f.offset off&&(f.name != "_") then
  match rec f.type with
  | some ks=>match kP P rec r (off+P.cellsOf f.type) tot with
   | some ks'=>some (ks++ks')
   | none=>none
  | none=>none
  else none
def iZ (P:Program):Nat→TypeId→Option (List Nat)
 | 0,_=>none
 | n+1,T=>match P.underlying T with
  | some (.int _)=>bif Nat.beq (P.cellsOf T) 1 then some [0] else none
  | some .bool=>bif Nat.beq (P.cellsOf T) 1 then some [1] else none
  | some .string=>bif Nat.beq (P.cellsOf T) 1 then some [2] else none
  | some (.struct fs)=>bif !P.stoodInHeld T then kP P (iZ P n) fs.toList 0 (P.cellsOf T) else none
  | _=>none
theorem DV {s s':ByteArray}:(s.toList==s'.toList)=(d9 s==d9 s'):=by
 rw [Bool.eq_iff_iff,beq_iff_eq,beq_iff_eq,ByteArray.toList_eq,ByteArray.toList_eq];unfold d9;constructor
 ·intro h;rw [h]
 ·intro h
  have inj:∀ (a b:List UInt8),(a.map fun x=>(x.toNat:Int))=b.map (fun x=>(x.toNat:Int))→a=b:=by
   intro a
   induction a with
   | nil=>intro b h;cases b<;>simp at h ⊢
   | cons x a ih=>
    intro b h
    cases b with
    | nil=>simp at h
    | cons y b=>
     simp only [List.map_cons,List.cons.injEq] at h
     rw [ih b h.2,UInt8.toNat_inj.1 (by omega:x.toNat=y.toNat)]
  exact inj _ _ h
theorem lT:∀ {a b:List D} {r:Bool},iY a b=some r→a.length=b.length
 | [],[],_,_=>rfl
 | [],_::_,_,h=>by simp [iY] at h
 | d::a,[],_,h=>by cases d<;>simp [iY] at h
 | d::a,e::b,r,h=>by
  cases d<;>cases e<;>simp only [iY,reduceCtorEq] at h
  ·cases hr:iY a b with
   | none=>simp [hr] at h
   | some q=>simp [lT hr]
  ·rename_i k x k' y
   cases hk:jm k k' with
   | false=>simp [hk] at h
   | true=>
    simp only [hk,aQ] at h
    cases hr:iY a b with
    | none=>simp [hr] at h
    | some q=>simp [lT hr]
  ·cases hr:iY a b with
   | none=>simp [hr] at h
   | some q=>simp [lT hr]
theorem oM:∀ {a b:List D} (n:Nat) {r:Bool},iY a b=some r→∃ r1 r2,iY (a.take n) (b.take n)=some r1∧iY (a.drop n) (b.drop n)=some r2∧r=(r1&&r2)
 | a,b,0,r,h=>⟨true,r,by simp [iY],by simpa using h,by simp⟩
 | [],[],n+1,r,h=>⟨true,true,by simp [iY],by simp [iY],by simpa [iY] using h.symm⟩
 | [],_::_,n+1,r,h=>by simp [iY] at h
 | d::a,[],n+1,_,h=>by cases d<;>simp [iY] at h
 | d::a,e::b,n+1,r,h=>by
  cases d<;>cases e<;>simp only [iY,reduceCtorEq] at h
  ·cases hr:iY a b with
   | none=>simp [hr] at h
   | some q=>
    obtain ⟨r1,r2,h1,h2,h3⟩:=oM n hr;simp only [hr,bq] at h
    exact ⟨_,r2,by simp only [List.take_succ_cons,iY,h1];rfl,by simpa using h2,by rw [←h,h3,Bool.and_assoc]⟩
  ·rename_i k x k' y
   cases hk:jm k k' with
   | false=>simp [hk] at h
   | true=>
    simp only [hk,aQ] at h
    cases hr:iY a b with
    | none=>simp [hr] at h
    | some q=>
     obtain ⟨r1,r2,h1,h2,h3⟩:=oM n hr;simp only [hr,bq] at h
     exact ⟨_,r2,by simp only [List.take_succ_cons,iY,h1,hk,aQ];rfl,by simpa using h2,by rw [←h,h3,Bool.and_assoc]⟩
  ·cases hr:iY a b with
   | none=>simp [hr] at h
   | some q=>
    obtain ⟨r1,r2,h1,h2,h3⟩:=oM n hr;simp only [hr,bq] at h
    exact ⟨_,r2,by simp only [List.take_succ_cons,iY,h1];rfl,by simpa using h2,by rw [←h,h3,Bool.and_assoc]⟩
section
variable {P:Program} {w:World} {G:Nat→Nat} {pt:Nat→Nat→Option Value}
theorem aR.take {ds:List D} {f:Nat→Value} (h:aR w G pt ds f) (n:Nat):aR w G pt (ds.take n) f:=fun j hj=>by
 have:=h j (by simp at hj;omega)
 simpa using this
theorem aR.drop {ds:List D} {f:Nat→Value} (h:aR w G pt ds f) (n:Nat):aR w G pt (ds.drop n) (fun j=>f (n+j)):=fun j hj=>by
 have:=h (n+j) (by simp at hj;omega)
 simpa using this
theorem FW {T:TypeId} (h:(P.info? T).isSome=true):(sizeOf T).run P w = .ok (P.cellsOf T) w:=by
 obtain ⟨i,hi⟩:=Option.isSome_iff_exists.1 h;simp [sizeOf,typeInfo,hi,Program.cellsOf]
theorem nV {T:TypeId} {d:TypeDesc} (hu:P.underlying T=some d) (hd:jr d=false) (xs:Array Value) (o:Nat) (h:o<xs.size) :
 (part T xs o).run P w = .ok (aS xs o) w:=by
 have hagg:(isAgg T).run P w = .ok false w:=by
  unfold isAgg;rw [Sem.run_bind,run_underlying hu w]
  cases d<;>simp_all [jr]
 simp [part,hagg,h,aS,sJ]
theorem ql {T:TypeId} {d:TypeDesc} (hu:P.underlying T=some d) (hd:jr d=true) (hi:(P.info? T).isSome=true) (xs:Array Value) (o:Nat) :
 (part T xs o).run P w = .ok (.agg (xs.extract o (o+P.cellsOf T))) w:=by
 have hagg:(isAgg T).run P w = .ok true w:=by
  unfold isAgg;rw [Sem.run_bind,run_underlying hu w]
  cases d<;>simp_all [jr]
 simp [part,hagg,FW hi]
theorem mO {T:TypeId} {d:TypeDesc} (h:P.underlying T=some d):(P.info? T).isSome=true:=by
 unfold Program.underlying at h
 split at h<;>simp_all
theorem uP (xs:Array Value) (o n j:Nat) (hj:j<n) (h:o+n≤xs.size):aS (xs.extract o (o+n)) j=aS xs (o+j):=by
 simp only [aS,sJ,Array.getElem?_extract]
 rw [if_pos (by omega)]
theorem qm:∀ {a:List D} {ks:List Nat},conf a ks=true→a.length=ks.length
 | [],[],_=>rfl
 | [],_::_,h=>by simp [conf] at h
 | d::a,[],h=>by simp [conf] at h
 | d::a,k::ks,h=>by
  simp only [conf,bP] at h;simp [qm h.2]
theorem zZ:∀ {a:List D} {ks ks':List Nat},conf a (ks++ks')=true→conf (a.take ks.length) ks=true∧conf (a.drop ks.length) ks' = true
 | a,[],ks',h=>⟨by simp [conf],by simpa using h⟩
 | [],k::ks,ks',h=>by simp [conf] at h
 | d::a,k::ks,ks',h=>by
  simp only [List.cons_append,conf,bP] at h;obtain ⟨h3,h4⟩:=zZ h.2
  exact ⟨by simp [conf,h.1,h3],by simpa using h4⟩
theorem z8 (n:Nat) (tot:Nat) (ih:∀ {T:TypeId} {ks:List Nat},iZ P n T=some ks→ks.length=P.cellsOf T):∀ (l:List Field) (off:Nat) (ks:List Nat),kP P (iZ P n) l off tot=some ks→off+ks.length=tot:=by
 intro l
 induction l with
 | nil=>
  intro off ks h;simp only [kP] at h
  cases hoff:Nat.beq off tot with
  | false=>simp [hoff] at h
  | true=>
   simp only [hoff,aQ,bq] at h;subst h
   simpa using dM hoff
 | cons f l ihl=>
  intro off ks h;simp only [kP] at h
  cases hc1:(Nat.beq f.offset off&&(f.name != "_")) with
  | false=>simp [hc1] at h
  | true=>
   simp only [hc1,aQ] at h
   cases hr1:iZ P n f.type with
   | none=>simp [hr1] at h
   | some k1=>
    simp only [hr1] at h
    cases hr2:kP P (iZ P n) l (off+P.cellsOf f.type) tot with
    | none=>simp [hr2] at h
    | some k2=>
     simp only [hr2,bq] at h;subst h;have:=ih hr1;have:=ihl _ _ hr2;rw [kZ];omega
theorem rA:∀ (n:Nat) {T:TypeId} {ks:List Nat},iZ P n T=some ks→ks.length=P.cellsOf T
 | 0,T,ks,h=>by simp [iZ] at h
 | n+1,T,ks,h=>by
  have leaf:∀ kd,(bif Nat.beq (P.cellsOf T) 1 then some [kd] else none)=some ks→ks.length=P.cellsOf T:=by
   intro kd h
   cases hsz:Nat.beq (P.cellsOf T) 1 with
   | false=>simp [hsz] at h
   | true=>
    simp only [hsz,aQ,bq] at h;rw [dM hsz,←h];rfl
  simp only [iZ] at h;split at h
  ·exact leaf _ h
  ·exact leaf _ h
  ·exact leaf _ h
  ·rename_i fs hu
   cases hst:P.stoodInHeld T with
   | true=>simp [hst] at h
   | false=>
    simp only [hst,Bool.not_false,aQ] at h;have:=z8 n _ (rA n) _ _ _ h;omega
  ·cases h
def Pv (ds:TypeDesc) (kd:Nat):Prop:=
 match ds with
 | .int _=>kd=0
 | .bool=>kd=1
 | .string=>kd=2
 | _=>False
theorem Uz {T:TypeId} {kd:Nat} {d e:D} {r:Bool} {u v:Value} {ds:TypeDesc} (hu:P.underlying T=some ds)
 (hk:Pv ds kd)
 (hc:O9 d kd=true) (he:iY [d] [e]=some r) (h1:bO w G pt d u) (h2:bO w G pt e v) (n:Nat) :
 (Op.equalIn (n+1) T u v).run P w = .ok r w:=by
 cases d<;>simp only [O9,sI] at hc
 ·have hc:=dM hc
  subst hc
  cases ds<;>simp [Pv] at hk
  cases e<;>simp only [iY,reduceCtorEq,Bool.and_true,bq] at he
  simp only [bO] at h1 h2;rw [h1,h2,←he];exact run_equalIn_bool' w n T _ _ hu
 ·have hc:=dM hc
  subst hc
  cases ds<;>simp [Pv] at hk
  cases e<;>simp only [iY,reduceCtorEq,Bool.and_true] at he
  rename_i k1 x _ k2 y;simp only [bO] at h1 h2;rw [h1.1,h2.1]
  cases hkk:jm k1 k2 with
  | false=>simp [hkk] at he
  | true=>
   simp only [hkk,aQ,bq] at he;rw [fq hkk,←he];exact run_equalIn_int w n T k2 _ x y hu
 ·have hc:=dM hc
  subst hc
  cases ds<;>simp [Pv] at hk
  cases e<;>simp only [iY,reduceCtorEq,Bool.and_true,bq] at he
  obtain ⟨s1,h1,h1',_⟩:=h1;obtain ⟨s2,h2,h2',_⟩:=h2;rw [h1,h2,←he,←h1',←h2',←DV];exact run_equalIn_string w n T _ _ hu
theorem FX:∀ (n:Nat) {T:TypeId} {ks:List Nat},iZ P n T=some ks→∀ (k:Nat) (xs ys:Array Value) (o:Nat) {a b:List D} {r:Bool},
 conf a ks=true→iY a b=some r→o+P.cellsOf T≤xs.size→o+P.cellsOf T≤ys.size →
 aR w G pt a (fun j=>aS xs (o+j))→aR w G pt b (fun j=>aS ys (o+j)) →
 ∃ x y,(part T xs o).run P w = .ok x w∧(part T ys o).run P w = .ok y w∧(Op.equalIn (n+k) T x y).run P w = .ok r w
 | 0,T,ks,h,_,_,_,_,_,_,_,_,_,_,_,_,_=>by simp [iZ] at h
 | n+1,T,ks,h,k,xs,ys,o,a,b,r,hcf,he,hx,hy,ha,hb=>by
  simp only [iZ] at h
  rw [show n+1+k=n+k+1 by omega]
  have Pw:∀ ds kd,P.underlying T=some ds→jr ds=false→Pv ds kd →
   (bif Nat.beq (P.cellsOf T) 1 then some [kd] else none)=some ks →
   ∃ x y,(part T xs o).run P w = .ok x w∧(part T ys o).run P w = .ok y w∧(Op.equalIn (n+k+1) T x y).run P w = .ok r w:=by
   intro ds kd hu hag hkd h
   cases hsz:Nat.beq (P.cellsOf T) 1 with
   | false=>simp [hsz] at h
   | true=>
    simp only [hsz,aQ,bq] at h;have hsz:=dM hsz;subst h
    refine ⟨_,_,nV hu hag xs o (by omega),nV hu hag ys o (by omega),?_⟩
    match a,b,qm hcf,lT he with
    | [d],[e],_,_=>
     simp only [conf,Bool.and_true] at hcf
     have h1:=(ha 0 (by simp)).1
     have h2:=(hb 0 (by simp)).1
     exact Uz hu hkd hcf he h1 h2 _
    | [],_,h,_=>simp at h
    | _::_::_,_,h,_=>simp at h
    | [_],[],_,h=>simp at h
    | [_],_::_::_,_,h=>simp at h
  split at h
  ·rename_i kk hu;exact Pw _ 0 hu rfl rfl h
  ·rename_i hu;exact Pw _ 1 hu rfl rfl h
  ·rename_i hu;exact Pw _ 2 hu rfl rfl h
  ·rename_i fs hu
   cases hst:P.stoodInHeld T with
   | true=>simp [hst] at h
   | false=>
    simp only [hst,Bool.not_false,aQ] at h
    have hfo:P.fieldsOf T=fs:=by simp [Program.fieldsOf,hu]
    have px:=ql (P:=P) (w:=w) hu rfl (mO hu) xs o;have py:=ql (P:=P) (w:=w) hu rfl (mO hu) ys o
    have key:∀ (l:List Field) (off:Nat) (ks:List Nat) (a b:List D) (r:Bool),kP P (iZ P n) l off (P.cellsOf T)=some ks→conf a ks=true→iY a b=some r →
     aR w G pt a (fun j=>aS xs (o+(off+j)))→aR w G pt b (fun j=>aS ys (o+(off+j))) →
     (Op.eqFields (n+k) (xs.extract o (o+P.cellsOf T)) (ys.extract o (o+P.cellsOf T)) l).run P w = .ok r w:=by
     intro l
     induction l with
     | nil=>
      intro off ks a b r h hcf he _ _;simp only [kP] at h
      cases hoff:Nat.beq off (P.cellsOf T) with
      | false=>simp [hoff] at h
      | true=>
       simp only [hoff,aQ,bq] at h;subst h;have hl:=qm hcf;obtain rfl:=List.eq_nil_of_length_eq_zero hl;obtain rfl:=List.eq_nil_of_length_eq_zero ((lT he).symm.trans hl);simp only [iY,bq] at he;subst he;rfl
     | cons f l ihl=>
      intro off ks a b r h hcf he hra hrb;simp only [kP] at h
      cases hc1:(Nat.beq f.offset off&&(f.name != "_")) with
      | false=>simp [hc1] at h
      | true=>
       simp only [hc1,aQ] at h;simp only [bP,bne_iff_ne,ne_eq] at hc1;obtain ⟨hc1,hnm⟩:=hc1;have hc1:=dM hc1
       cases hr1:iZ P n f.type with
       | none=>simp [hr1] at h
       | some k1=>
        simp only [hr1] at h
        cases hr2:kP P (iZ P n) l (off+P.cellsOf f.type) (P.cellsOf T) with
        | none=>simp [hr2] at h
        | some k2=>
         simp only [hr2,bq] at h;subst h;obtain ⟨c1,c2⟩:=zZ hcf;obtain ⟨r1,r2,e1,e2,e3⟩:=oM k1.length he;have hk1:=rA n hr1;have hk2:=z8 n _ (rA n) _ _ _ hr2;have hab:=lT he;have hla:=qm hcf;rw [kZ] at hla
         have hsx:(xs.extract o (o+P.cellsOf T)).size=P.cellsOf T:=by simp;omega
         have hsy:(ys.extract o (o+P.cellsOf T)).size=P.cellsOf T:=by simp;omega
         have ex:∀ j,off+j<P.cellsOf T→aS (xs.extract o (o+P.cellsOf T)) (off+j)=aS xs (o+(off+j)):=fun j hj=>uP xs o _ _ hj hx
         have ey:∀ j,off+j<P.cellsOf T→aS (ys.extract o (o+P.cellsOf T)) (off+j)=aS ys (o+(off+j)):=fun j hj=>uP ys o _ _ hj hy
         obtain ⟨x1,y1,p1,p2,p3⟩:=FX n hr1 k (xs.extract o (o+P.cellsOf T)) (ys.extract o (o+P.cellsOf T)) off c1 e1 (by omega) (by omega)
          (fun j hj=>by
           have:=hra.take k1.length j hj
           simp only [ex j (by simp at hj;omega)];exact this)
          (fun j hj=>by
           have:=hrb.take k1.length j hj
           simp only [ey j (by simp at hj;omega)];exact this)
         have p4:=ihl (off+P.cellsOf f.type) k2 _ _ r2 hr2 c2 e2
          (fun j hj=>by
           have:=hra.drop k1.length j hj;simp only [hk1] at this ⊢
           simpa only [show o+(off+P.cellsOf f.type+j)=o+(off+(P.cellsOf f.type+j)) by omega] using this)
          (fun j hj=>by
           have:=hrb.drop k1.length j hj;simp only [hk1] at this ⊢
           simpa only [show o+(off+P.cellsOf f.type+j)=o+(off+(P.cellsOf f.type+j)) by omega] using this)
         simp only [Op.eqFields,ne_eq,hnm,not_false_eq_true,if_true,Sem.run_bind,hc1,p1,p2,p3,Result.andThen_ok]
         cases r1 with
         | true=>simpa [e3] using p4
         | false=>simp [e3]
    refine ⟨_,_,px,py,?_⟩
    rw [run_equalIn_struct w (n+k) T _ _ (by rw [hfo];exact hu) hst,hfo]
    exact key fs.toList 0 ks a b r h hcf he (by simpa using ha) (by simpa using hb)
  ·cases h
end
structure mG (P:Program) (E:Env):Prop where
 ti:∀ T i,E.T T=some i→Po P T i
 cmp:∀ T i ks,E.T T=some i→i.cmp=some ks→iZ P 8 T=some ks∧P.eqGuardType P.depth T=false
theorem lU:∀ (a b:List UInt8),Op.bytesLess a b=bC (a.map fun x=>(x.toNat:Int)) (b.map fun x=>(x.toNat:Int))
 | _,[]=>by simp [Op.bytesLess,bC]
 | [],_::_=>by simp [Op.bytesLess,bC]
 | a::x,b::y=>by
  have h1:decide ((a.toNat:Int)<(b.toNat:Int))=decide (a<b):=by
   rw [decide_eq_decide,UInt8.lt_iff_toNat_lt];omega
  have h2:((a.toNat:Int)==(b.toNat:Int))=(a==b):=by
   rw [Bool.eq_iff_iff,beq_iff_eq,beq_iff_eq,←UInt8.toNat_inj];omega
  simp only [List.map_cons,Op.bytesLess,bC,h1,h2,lU x y]
theorem jR (s:ByteArray):(d9 s).length=s.size:=by simp [d9]
section
variable {P:Program} {E:Env} {C:Ctx} {s:St} {a:Act} {w:World} {G:Nat→Nat} {pt:Nat→Nat→Option Value} {o:Oper} {u:St}
theorem Px {op:BinOp} {x y:ByteArray} {d:D} (xT:Nat) (h:O8 op (d9 x) (d9 y)=some (true,d)) :
 ∃ v,(binOp op xT (.string x) (.string y)).run P w = .ok v w∧bg w G pt d v∧∀ b,dN b d v=0:=by
 have e1:(x.toList==y.toList)=(d9 x==d9 y):=DV
 have e2:Op.bytesLess x.toList y.toList=bC (d9 x) (d9 y):=by rw [lU,ByteArray.toList_eq,ByteArray.toList_eq];rfl
 cases op<;>simp only [O8,bq,eX,true_and,reduceCtorEq] at h
 ·obtain ⟨h0,h⟩:=h;subst h
  have h0:=Nat.le_of_ble_eq_true h0;rw [jR,jR] at h0;have h0':x.size+y.size≤9223372036854775807:=h0
  refine ⟨.string (x++y),?_,⟨_,rfl,?_,?_⟩,fun _=>rfl⟩
  ·have:¬ (((x.size+y.size:Nat):Int) > IntKind.i64.max):=by rw [IntKind.max_i64];omega
   simp only [binOp,Op.stringOp];rw [if_neg this];rfl
  ·simp [d9]
  ·rw [kZ,jR,jR];exact h0
 ·subst h;exact ⟨.bool (d9 x==d9 y),by simp only [binOp,Op.stringOp,e1];rfl,rfl,fun _=>rfl⟩
 ·subst h;exact ⟨.bool (!(d9 x==d9 y)),by simp only [binOp,Op.stringOp,e1];rfl,rfl,fun _=>rfl⟩
 ·subst h;exact ⟨.bool (bC (d9 x) (d9 y)),by simp only [binOp,Op.stringOp,e2];rfl,rfl,fun _=>rfl⟩
 ·subst h;exact ⟨.bool (bC (d9 x) (d9 y) || d9 x==d9 y),by simp only [binOp,Op.stringOp,e1,e2];rfl,rfl,fun _=>rfl⟩
 ·subst h;exact ⟨.bool (!(bC (d9 x) (d9 y) || d9 x==d9 y)),by simp only [binOp,Op.stringOp,e1,e2];rfl,rfl,fun _=>rfl⟩
 ·subst h;exact ⟨.bool (!bC (d9 x) (d9 y)),by simp only [binOp,Op.stringOp,e2];rfl,rfl,fun _=>rfl⟩
theorem aan (HP:mG P E) (R:Rel E C s a w G pt) (ho:∀ t,o.dst=some t→t<E.n) (op:BinOp) (xT:Nat) (x y:Operand) (yT:Nat) (hop:o.op = .binOp op xT x y yT)
 (h:MP E o s op xT x y=some (true,u)):fC P E C o a w (aA u s):=by
 have hx:=aV R x;have hy:=aV R y
 have fin:∀ (d:D) (v:Value),(eqGuard op xT x y (a.eval x) (a.eval y)).run P w = .ok () w→(binOp op xT (a.eval x) (a.eval y)).run P w = .ok v w →
  bg w G pt d v→(∀ b,dN b d v=0)→fC P E C o a w (aA (bN o d) s):=fun d v h1 h2 h3 h4=>pure_ok R ho (MU op xT x y yT hop h1 h2) h3 h4
 simp only [MP] at h;split at h
 ·rename_i k p k' q h1 h2
  rw [h1] at hx;rw [h2] at hy;obtain ⟨hx1,hx2⟩:=hx;obtain ⟨hy1,hy2⟩:=hy;rw [hx1,hy1] at fin
  have hg:=wN (P:=P) (w:=w) op xT x y (p:=.int k p) (q:=.int k' q) (by simp) (by simp)
  cases hs:KI op with
  | true=>
   simp only [hs,aQ] at h;split at h
   ·rename_i g d hsh
    simp only [bq,eX] at h;obtain ⟨rfl,rfl⟩:=h;obtain ⟨v,h3,h4,h5⟩:=MV (P:=P) (w:=w) (G:=G) (pt:=pt) (xT:=xT) (k':=k') hx2 hsh;exact fin d v hg h3 h4 h5
   ·cases h
  | false=>
   simp only [hs,bU] at h
   cases hk:jm k k' with
   | false=>simp [hk] at h
   | true=>
    simp only [hk,aQ] at h;split at h
    ·rename_i g d hsh
     simp only [bq,eX] at h;obtain ⟨rfl,rfl⟩:=h;have:=fq hk;subst this;obtain ⟨v,h3,h4,h5⟩:=Pt (P:=P) (w:=w) (G:=G) (pt:=pt) (xT:=xT) hx2 hsh;exact fin d v hg h3 h4 h5
    ·cases h
 ·rename_i p q h1 h2
  rw [h1] at hx;rw [h2] at hy;obtain ⟨x',hx1,hx2,_⟩:=hx;obtain ⟨y',hy1,hy2,_⟩:=hy;rw [hx1,hy1] at fin;split at h
  ·rename_i g d hst
   simp only [bq,eX] at h;obtain ⟨rfl,rfl⟩:=h;rw [←hx2,←hy2] at hst;obtain ⟨v,h3,h4,h5⟩:=Px (P:=P) (w:=w) (G:=G) (pt:=pt) xT hst
   exact fin d v (wN op xT x y (by simp) (by simp)) h3 h4 h5
  ·cases h
 ·rename_i p q h1 h2
  rw [h1] at hx;rw [h2] at hy;have hx:a.eval x = .bool p:=hx;have hy:a.eval y = .bool q:=hy;rw [hx,hy] at fin
  have hg:=wN (P:=P) (w:=w) op xT x y (p:=.bool p) (q:=.bool q) (by simp) (by simp)
  split at h
  ·rename_i i hi
   have ht:=(HP.ti _ _ hi).und;split at h
   ·rename_i hd
    rw [hd] at ht;simp only [bq,eX,true_and] at h;subst h
    exact fin _ (.bool (p==q)) hg (by simp [binOp,Op.equal,Op.maxDepth,run_equalIn_bool' w _ xT p q ht]) rfl (fun _=>rfl)
   ·rename_i hd
    rw [hd] at ht;simp only [bq,eX,true_and] at h;subst h
    exact fin _ (.bool (!(p==q))) hg (by simp [binOp,Op.equal,Op.maxDepth,run_equalIn_bool' w _ xT p q ht]) rfl (fun _=>rfl)
   ·cases h
  ·cases h
 ·rename_i p q h1 h2
  rw [h1] at hx;rw [h2] at hy;obtain ⟨ax,hx1,hx2,hx3⟩:=hx;obtain ⟨ay,hy1,hy2,hy3⟩:=hy;rw [hx1,hy1] at fin
  cases hc:Pb E xT p with
  | false=>simp [hc] at h
  | true=>
   simp only [hc,aQ] at h;unfold Pb at hc;split at hc
   ·rename_i i hi
    split at hc
    ·rename_i ks hks
     obtain ⟨hkb,hgd⟩:=HP.cmp _ _ _ hi hks;simp only [bP] at hc;have hl:=rA 8 hkb;have hpl:=qm hc.2
     have key:∀ r,iY p q=some r→(Op.equalIn 10000 xT (.agg ax) (.agg ay)).run P w = .ok r w:=by
      intro r hr;have hql:=lT hr;have hT:=HP.ti _ _ hi
      have hag:jr i.desc=true:=by rw [←hT.agg];exact hc.1
      have p1:=ql (P:=P) (w:=w) hT.und hag (mO hT.und) ax 0;have p2:=ql (P:=P) (w:=w) hT.und hag (mO hT.und) ay 0
      obtain ⟨x1,y1,q1,q2,q3⟩:=FX (P:=P) (w:=w) (G:=G) (pt:=pt) 8 hkb 9992 ax ay 0 hc.2 hr (by omega) (by omega) (by simpa using hx3) (by simpa using hy3)
      rw [p1] at q1;rw [p2] at q2
      have e1:ax.extract 0 (0+P.cellsOf xT)=ax:=by rw [show 0+P.cellsOf xT=ax.size by omega];simp
      have e2:ay.extract 0 (0+P.cellsOf xT)=ay:=by rw [show 0+P.cellsOf xT=ay.size by omega];simp
      rw [e1] at q1;rw [e2] at q2
      injection q1 with q1;injection q2 with q2
      subst q1;subst q2;exact q3
     have hg:=run_eqGuard_agg (P:=P) w op xT x y ax ay hgd;split at h
     ·rename_i r hr
      simp only [bq,eX,true_and] at h;subst h
      exact fin _ (.bool r) hg (by rw [run_eql_struct,key r hr];rfl) rfl (fun _=>rfl)
     ·rename_i r hr
      simp only [bq,eX,true_and] at h;subst h
      exact fin _ (.bool (!r)) hg (by rw [run_neq_struct,key r hr];rfl) rfl (fun _=>rfl)
     ·cases h
    ·cases hc
   ·cases hc
 ·cases h
theorem afR (R:Rel E C s a w G pt) (ho:∀ t,o.dst=some t→t<E.n) (op:UnOp) (xT:Nat) (x:Operand) (hop:o.op = .unOp op xT x)
 (h:aUn o s op x=some (true,u)):fC P E C o a w (aA u s):=by
 have hx:=aV R x;simp only [aUn] at h;split at h
 ·rename_i b h1
  rw [h1] at hx;have hx:a.eval x = .bool b:=hx;simp only [bq,eX,true_and] at h;subst h
  exact pure_ok R ho (v:=.bool (!b)) (by simp [execOp,hop,Op.unary,hx]) rfl (fun _=>rfl)
 ·rename_i k n h1
  rw [h1] at hx;obtain ⟨hx,_⟩:=hx;simp only [bq,eX,true_and] at h;subst h
  exact pure_ok R ho (v:=.int k (k.wrap (0 - n))) (by simp [execOp,hop,Op.unary,Op.intArith,hx]) ⟨rfl,iK _ _⟩ (fun _=>rfl)
 ·rename_i k n h1
  rw [h1] at hx;obtain ⟨hx,_⟩:=hx;simp only [bq,eX,true_and] at h;subst h
  exact pure_ok R ho (v:=.int k (k.wrap (BitVec.ofInt k.bits (if k.signed then -1 else k.max) ^^^ BitVec.ofInt k.bits n).toNat))
   (by simp only [execOp,hop,Op.unary,hx,Op.intBits];rfl) ⟨rfl,iK _ _⟩ (fun _=>rfl)
 ·cases h
theorem I5 (R:Rel E C s a w G pt) (ho:∀ t,o.dst=some t→t<E.n) (x:Operand) (i:Nat) (hop:o.op = .extract x i)
 (h:nN o s x i=some (true,u)):fC P E C o a w (aA u s):=by
 simp only [nN] at h;split at h
 ·rename_i t vs h1
  split at h
  ·rename_i d hd
   simp only [bq,eX,true_and] at h;subst h;have hx:=R.tm t;have h1':get s (2*t) = .fO vs:=h1;rw [h1'] at hx;obtain ⟨arr,hv,hsz,hr⟩:=hx;obtain ⟨hi,hvi⟩:=List.getElem?_eq_some_iff.1 hd
   have hia:i<arr.size:=by omega
   have hrun:(execOp a.eval o).run P w = .ok (.value (aS arr i)) w:=by
    simp [execOp,hop,Act.eval,hv,Instr.extract,hia,aS,sJ]
   have hX:dY d=true∨fC P E C o a w (aA ((bif dY d then [(2*t,.fO (vs.set i .undef))] else [])++bN o d) s):=by
    cases hX:dY d with
    | true=>exact .inl rfl
    | false=>
     right
     have Un:=hr i hi;rw [hvi] at Un
     have hrd:bg w G pt d (aS arr i):=by
      cases d<;>first | exact Un | exact absurd Un id
     exact pure_ok R ho hrun hrd (fun b=>(tu hX).2 b _)
   rcases hX with hX | hX
   case inr=>exact hX
   rw [hX];simp only [aQ,List.singleton_append]
   have htn:t<E.n:=oL R (by rw [h1'];rfl)
   have hct:∀ b,cT s a b t=nJ b vs (aS arr):=fun b=>by simp only [cT,h1',hv,dN]
   -- the tuple without its component
   have hsum:∀ b,nJ b (vs.set i .undef) (aS arr)+IK b vs[i] (aS arr i)=nJ b vs (aS arr):=by
    intro b
    have key:∀ (l:List D) (f:Nat→Value) (i:Nat) (h:i<l.length),nJ b (l.set i .undef) f+IK b l[i] (f i)=nJ b l f:=by
     intro l
     induction l with
     | nil=>intro f i h;simp at h
     | cons d l ih=>
      intro f i h
      match i,h with
      | 0,_=>
       have:IK b .undef (f 0)=0:=by cases f 0<;>rfl
       simp only [List.set_cons_zero,nJ,this,List.getElem_cons_zero];omega
      | i+1,h=>
       have:=ih (fun j=>f (j+1)) i (by simpa using h)
       simp only [List.set_cons_succ,nJ,List.getElem_cons_succ];omega
    exact key vs (aS arr) i hi
   have afS:bg w G pt (.fO (vs.set i .undef)) (a.tmps.getD t Go.undef):=by
    refine ⟨arr,hv,by simpa using hsz,fun j hj=>?_⟩
    rw [List.getElem_set];split
    ·trivial
    ·exact hr j (by simpa using hj)
   have MW:∀ b,dN b (.fO (vs.set i .undef)) (a.tmps.getD t Go.undef)=nJ b (vs.set i .undef) (aS arr):=fun b=>by rw [hv];rfl
   have R1:=R.weak t (G':=G) (d:=.fO (vs.set i .undef)) (Ext.refl _ _) (fun _ _=>rfl) afS htn (fun b=>by rw [MW,hct];have:=hsum b;omega)
   have tc1:∀ b,TC E.n C.m ((2*t,.fO (vs.set i .undef))::s) a w pt b+IK b vs[i] (aS arr i)=TC E.n C.m s a w pt b:=by
    intro b
    have e1:=dH (n:=E.n) (f:=cT s a b) (g:=cT ((2*t,.fO (vs.set i .undef))::s) a b) htn (fun j hj=>by simp only [cT,dO,hj,if_false])
    have e2:=aM (n:=C.m) (f:=cB s w pt b) (g:=cB ((2*t,.fO (vs.set i .undef))::s) w pt b) (fun j _=>by simp only [cB,jq])
    have e3:cT ((2*t,.fO (vs.set i .undef))::s) a b t=nJ b (vs.set i .undef) (aS arr):=by
     simp only [cT,dO,if_true];exact MW b
    have:=hsum b;have:=hct b;unfold TC;omega
   have hc1:∀ b,dN b d (aS arr i)=IK b vs[i] (aS arr i):=by
    intro b;rw [hvi];have Un:=hr i hi;rw [hvi] at Un
    cases d<;>first | (cases aS arr i<;>rfl) | exact absurd Un id
   have hrd:bg w G pt d (aS arr i):=by
    have Un:=hr i hi;rw [hvi] at Un
    cases d<;>first | exact Un | exact absurd Un id
   show fC P E C o a w (aA (bN o d) ((2*t,.fO (vs.set i .undef))::s))
   refine ⟨_,w,G,pt,.inl hrun,R1.put o ho (fun _=>False) (Ext.refl _ _) (fun _ _ _=>⟨rfl,rfl⟩) (fun b h=>h.elim) hrd (fun b=>?_) R.gz rfl rfl rfl (dQ _)⟩
   have h2:=tc1 b;have h3:=R.ct b;have h4:=R.cb b;rw [hc1]
   exact ⟨by omega,fun h=>⟨by omega,h4 (by omega)⟩⟩
  ·cases h
 ·cases h
theorem FY (HP:mG P E) {T f k:Nat} (h:zN E T f=some k) :
 ∃ fs fd,P.underlying T=some (.struct fs)∧fs[f]? = some fd∧fd.offset=k∧∃ pi,P.info? fd.type=some pi∧0<pi.size:=by
 unfold zN at h;split at h
 ·rename_i i hi
  split at h
  ·rename_i fs hd
   split at h
   ·rename_i fd hfd
    split at h
    ·rename_i fi hfi
     cases hb:Nat.blt 0 fi.size with
     | false=>simp [hb] at h
     | true=>
      simp only [hb,aQ,bq] at h;obtain ⟨pi,z,h1,h2,_⟩:=(HP.ti _ _ hfi).info
      have hpos:0<fi.size:=by simpa [Nat.blt_eq] using hb
      exact ⟨fs,fd,by rw [(HP.ti _ _ hi).und,hd],by simpa using hfd,h,pi,h1,by omega⟩
    ·cases h
   ·cases h
  ·cases h
 ·cases h
theorem FZ {T f k:Nat} {fs:Array Field} {fd:Field} {pi:TypeInfo} (hu:P.underlying T=some (.struct fs)) (hf:fs[f]? = some fd) (hk:fd.offset=k)
 (hi:P.info? fd.type=some pi) (hp:0<pi.size) (b off:Nat) :
 (Instr.fieldAt T (.pointer (some ⟨b,off,none⟩)) f).run P w = .ok (.pointer (some ⟨b,off+k,none⟩)) w:=by
 have hne:¬ pi.size=0:=by omega
 simp [Instr.fieldAt,run_underlying hu,hf,Instr.sureAddr,fieldPlace,sizeOf,typeInfo,hi,hne,Go.Addr.add_mid,hk]
theorem DW (HP:mG P E) (R:Rel E C s a w G pt) (ho:∀ t,o.dst=some t→t<E.n) (T:Nat) (x:Operand) (f:Nat) (hop:o.op = .fieldAddr T x f)
 (h:ku E o s T x f=some (true,u)):fC P E C o a w (aA u s):=by
 have hx:=aV R x;simp only [ku] at h;split at h
 ·rename_i k hk
  obtain ⟨fs,fd,hu,hf,hk',pi,hi,hp⟩:=FY HP hk
  have run:∀ b off,a.eval x = .pointer (some ⟨b,off,none⟩)→(execOp a.eval o).run P w = .ok (.value (.pointer (some ⟨b,off+k,none⟩))) w:=by
   intro b off hv;have:=FZ (P:=P) (w:=w) hu hf hk' hi hp b off;simp [execOp,hop,hv,this]
  split at h
  ·rename_i id st off h1
   rw [h1] at hx;obtain ⟨b,hb,hv⟩:=hx;simp only [bq,eX,true_and] at h;subst h
   exact pure_ok R ho (run _ _ hv) ⟨b,hb,rfl⟩ (fun _=>rfl)
  ·rename_i id st i off es h1
   rw [h1] at hx;obtain ⟨b,hb,hv⟩:=hx;simp only [bq,eX,true_and] at h;subst h
   exact pure_ok R ho (run _ _ hv) ⟨b,hb,by rw [Nat.add_assoc]⟩ (fun _=>rfl)
  ·rename_i g off h1
   rw [h1] at hx;have hv:a.eval x = .pointer (some ⟨g,off,none⟩):=hx;simp only [bq,eX,true_and] at h;subst h
   exact pure_ok R ho (run _ _ hv) rfl (fun _=>rfl)
  ·rename_i t l i off h1
   rw [h1] at hx;obtain ⟨b,ob,hv,h2⟩:=hx;simp only [bq,eX,true_and] at h;subst h
   exact pure_ok R ho (run _ _ hv) ⟨b,ob,by rw [Nat.add_assoc],h2⟩ (fun _=>rfl)
  ·cases h
 ·cases h
theorem qo (R:Rel E C s a w G pt) {d:D} {v:Value} (h:bg w G pt d v) {t:Ty} {l:List t.den} (hc:content s d=some ⟨t,l⟩) :
 ∃ ad n c,v = .slice ad n c∧n=l.length∧n*t.pV≤big∧n≤c∧(l=[]∨∃ b o,ad=some ⟨b,o,none⟩∧fJ w G t l b o):=by
 cases d<;>simp only [content,reduceCtorEq] at hc
 ·rename_i f t' l'
  simp only [bq,Sigma.mk.injEq] at hc;obtain ⟨rfl,hc⟩:=hc;have hc:=eq_of_heq hc;subst hc;obtain ⟨ad,n,c,h1,h2,h3,h4⟩:=h;refine ⟨ad,n,c,h1,h2,h3,?_⟩
  match f,h4 with
  | 0,h4=>
   refine ⟨by have:=h4.1;omega,?_⟩
   rcases h4.2 with h5 | ⟨b,o,h5,h6,h7⟩
   ·exact .inl h5
   ·exact .inr ⟨b,o,h5,h7⟩
  | 1,h4=>
   rcases h4 with ⟨h5,h6,h7⟩ | ⟨b,h5,h6,h7,h8,h9,h10⟩
   ·subst h6;subst h2;exact ⟨by simp,.inl rfl⟩
   ·exact ⟨by omega,.inr ⟨b,0,h5,h9⟩⟩
  | 2,h4=>
   rcases h4 with ⟨h5,h6,h7⟩ | ⟨b,h5,h6,h7,h8,h9,h10⟩
   ·subst h6;subst h2;exact ⟨by simp,.inl rfl⟩
   ·exact ⟨by omega,.inr ⟨b,0,h5,h9⟩⟩
  | (k+3),h4=>exact h4.elim
 ·rename_i id st
  split at hc
  ·rename_i st' t' l' hb
   cases hs:Nat.beq st st' with
   | false=>simp [hs] at hc
   | true=>
    simp only [hs,aQ,bq,Sigma.mk.injEq] at hc;obtain ⟨rfl,hc⟩:=hc;have hc:=eq_of_heq hc;subst hc;have hs:=dM hs;subst hs;have hB:=R.bx id;rw [hb] at hB;have hB:=hB rfl;simp only [sI,if_false] at hB;obtain ⟨ad,n,c,h1,h2,h3,h4⟩:=hB;have hv:pt id st=some v:=h;rw [hv] at h1
    injection h1 with h1
    refine ⟨ad,n,c,h1,h2,h3,?_⟩
    rcases h4 with ⟨h5,h6,h7⟩ | ⟨b,h5,h6,h7,h8,h9,h10⟩
    ·subst h6;subst h2;exact ⟨by simp,.inl rfl⟩
    ·exact ⟨by omega,.inr ⟨b,0,h5,h9⟩⟩
  ·rename_i st' l' hb
   cases hs:Nat.beq st st' with
   | false=>simp [hs] at hc
   | true=>
    simp only [hs,aQ,bq,Sigma.mk.injEq] at hc;obtain ⟨rfl,hc⟩:=hc;have hc:=eq_of_heq hc;subst hc;have hs:=dM hs;subst hs;have hB:=R.bx id;rw [hb] at hB;obtain ⟨⟨ad,n,c,h1,h2,h3,h4⟩,_⟩:=hB;have hv:pt id st=some v:=h;rw [hv] at h1
    injection h1 with h1
    refine ⟨ad,n,c,h1,h2,h3,?_⟩
    rcases h4 with ⟨h5,h6,h7⟩ | ⟨b,h5,h6,h7,h8,h9,h10⟩
    ·subst h6;subst h2;exact ⟨by simp,.inl rfl⟩
    ·exact ⟨by omega,.inr ⟨b,0,h5,h9⟩⟩
  ·cases hc
 ·rename_i id st nc o n
  split at hc
  ·rename_i st' t' l' hb
   cases hs:(Nat.beq st st' && Nat.beq nc t'.nc) with
   | false=>simp [hs] at hc
   | true=>
    simp only [hs,aQ,bq,Sigma.mk.injEq] at hc;simp only [bP] at hs;obtain ⟨rfl,hc⟩:=hc;have hc:=eq_of_heq hc;subst hc;obtain ⟨hs,hnc⟩:=hs;have hs:=dM hs;have hnc:=dM hnc;subst hs;have hB:=R.bx id;rw [hb] at hB;have hB:=hB rfl;simp only [sI,if_false] at hB;obtain ⟨ad,m,c,h1,h2,h3,h4⟩:=hB;obtain ⟨ad0,m0,c0,Uu,c',g1,g2,g3,g4,g5⟩:=h;rw [g1] at h1;simp only [bq,Value.slice.injEq] at h1;obtain ⟨rfl,rfl,rfl⟩:=h1
    have hlen:((l'.drop o).take n).length=n:=by simp;omega
    refine ⟨Uu,n,c',g2,hlen.symm,jQ (sW _ (by omega)) h3,g4,?_⟩
    rcases g5 with g5 | ⟨b,g5,g6⟩
    ·left
     apply List.eq_nil_of_length_eq_zero;rw [hlen];exact g5
    ·right
     refine ⟨b,o*nc,g6,fun i hi=>?_⟩
     rw [hlen] at hi
     rcases h4 with ⟨k5,k6,k7⟩ | ⟨b',k5,k6,k7,k8,k9,k10⟩
     ·subst k6;simp at h2;omega
     ·rw [g5] at k5
      simp only [bq,Addr.mk.injEq,and_true] at k5;subst k5
      have:=k9 (o+i) (by omega)
      rw [hnc]
      simpa [Nat.add_mul] using this
  ·cases hc
theorem UA (n:Nat) (h:n≤jo):IntKind.i64.has (n:Int):=by
 unfold jo at h;unfold IntKind.has;simp [IntKind.min,IntKind.max,IntKind.bits,IntKind.signed];omega
theorem aao (HP:mG P E) (R:Rel E C s a w G pt) (ho:∀ t,o.dst=some t→t<E.n) (x:Operand) (T:Nat) (ts:Array TypeId) (hts:ts.toList=[T])
 (hop:o.op = .call { callee:=.builtin .len,args:=#[x],argTypes:=ts }) {n:Nat} (h:MQ E s T (aX s x)=some n) :
 fC P E C o a w (aA (bN o (.int .i64 n)) s):=by
 have hx:=aV R x
 have am8:ts = #[T]:=by apply Array.ext';simpa using hts
 subst am8
 have fin:∀ m:Nat,m≤jo→(Builtin.len_ #[T] o.type #[a.eval x]).run P w = .ok (goInt m) w→fC P E C o a w (aA (bN o (.int .i64 m)) s):=by
  intro m hm hr
  refine pure_ok R ho (v:=.int .i64 m) ?_ ⟨rfl,UA m hm⟩ (fun _=>rfl)
  simp [execOp,hop,resolve,invoke,builtin,hr,goInt]
 unfold MQ at h;split at h
 ·rename_i i hi
  have hu:=(HP.ti _ _ hi).und;split at h
  ·rename_i l hd h1
   rw [h1] at hx;rw [hd] at hu;obtain ⟨b,hv,hl,hb⟩:=hx;simp only [bq] at h;subst h;refine fin _ hb ?_;rw [←hl,jR,hv];simp [Builtin.len_,run_underlying hu]
  ·rename_i _ len e hd
   rw [hd] at hu
   cases hb:Nat.ble len jo with
   | false=>simp [hb] at h
   | true=>
    simp only [hb,aQ,bq] at h;subst h;refine fin _ (Nat.le_of_ble_eq_true hb) ?_;simp [Builtin.len_,run_underlying hu]
  ·rename_i e hd h1
   rw [h1] at hx;rw [hd] at hu;have hv:a.eval x = .slice none 0 0:=hx;simp only [bq] at h;subst h
   refine fin 0 (by simp [jo]) ?_
   rw [hv];simp [Builtin.len_,run_underlying hu]
  ·rename_i e id st m hd h1
   rw [h1] at hx;rw [hd] at hu;obtain ⟨hx,hm⟩:=hx;simp only [bq] at h;subst h;refine fin _ hm ?_
   rcases hx with ⟨b,c,_,hv⟩ | ⟨rfl,hv⟩<;>rw [hv]<;>simp [Builtin.len_,run_underlying hu]
  ·rename_i e d hd _ _
   rw [hd] at hu;split at h
   ·rename_i t l hc
    cases hb:Nat.blt 0 t.pV with
    | false=>simp [hb] at h
    | true=>
     simp only [hb,aQ,bq] at h;subst h;obtain ⟨ad,n,c,hv,hn,hbd,_⟩:=qo R hx hc
     have hbz:0<t.pV:=by simpa [Nat.blt_eq] using hb
     have:n≤n*t.pV:=Nat.le_mul_of_pos_right _ hbz
     have hm:l.length≤jo:=by unfold big at hbd;unfold jo;omega
     refine fin _ hm ?_;rw [hv,←hn];simp [Builtin.len_,run_underlying hu]
   ·cases h
  ·cases h
 ·cases h
theorem DX (lt:Int→Int→Bool) (f:Value→Value→Sem Value) (hf:∀ k x y,(f (.int k x) (.int k y)).run P w = .ok (.int k (bif lt y x then y else x)) w) (k:IntKind) :
 ∀ (xs:List Operand) (m r:Int),k.has m→(∀ x∈xs,bg w G pt (aX s x) (a.eval x))→uL lt k m (xs.map (aX s))=some r →
  ((xs.map a.eval).foldlM f (.int k m)).run P w = .ok (.int k r) w∧k.has r
 | [],m,r,hm,_,h=>by
  simp only [List.map_nil,uL,bq] at h;subst h
  exact ⟨by simp,hm⟩
 | x::xs,m,r,hm,hx,h=>by
  have h0:=hx x (by simp)
  rw [List.map_cons] at h
  cases h1:aX s x<;>rw [h1] at h<;>simp only [uL,reduceCtorEq] at h
  rename_i k' n
  cases hk:jm k k' with
  | false=>simp [hk] at h
  | true=>
   simp only [hk,aQ] at h;have hkk:=fq hk;subst hkk;rw [h1] at h0;obtain ⟨hv,hn⟩:=h0
   have hm':k.has (bif lt n m then n else m):=by cases lt n m<;>assumption
   obtain ⟨q1,q2⟩:=DX lt f hf k xs _ r hm' (fun y hy=>hx y (by simp [hy])) h
   refine ⟨?_,q2⟩;simp only [List.map_cons,List.foldlM_cons,Sem.run_bind,hv,hf,Result.andThen_ok];exact q1
theorem Cw (R:Rel E C s a w G pt) (ho:∀ t,o.dst=some t→t<E.n) (xs:Array Operand) (ts:Array TypeId) (isMax:Bool)
 (hop:o.op = .call { callee:=.builtin (bif isMax then .max else .min),args:=xs,argTypes:=ts })
 (h:IY o s (bif isMax then (fun a b=>decide (b<a)) else (fun a b=>decide (a<b))) xs.toList=some (true,u)):fC P E C o a w (aA u s):=by
 simp only [IY] at h;split at h
 ·rename_i k n r heq
  split at h
  ·rename_i m hm
   simp only [bq,eX,true_and] at h;subst h
   cases hxs:xs.toList with
   | nil=>rw [hxs] at heq;simp at heq
   | cons x rest=>
    rw [hxs] at heq;simp only [List.map_cons,List.cons.injEq] at heq;obtain ⟨h1,h2⟩:=heq;have hx:=aV R x;rw [h1] at hx;obtain ⟨hv,hn⟩:=hx;rw [←h2] at hm
    have hargs:(xs.map a.eval).toList=a.eval x::rest.map a.eval:=by simp [hxs]
    cases isMax with
    | false=>
     obtain ⟨q1,q2⟩:=DX (P:=P) (w:=w) (G:=G) (pt:=pt) (s:=s) (a:=a) (fun a b=>decide (a<b)) Builtin.min2 (fun k x y=>by
      simp only [Builtin.min2,Sem.run_pure];by_cases h:y<x<;>simp [h]) k rest n m hn (fun y _=>aV R y) hm
     refine pure_ok R ho (v:=.int k m) ?_ ⟨rfl,q2⟩ (fun _=>rfl)
     simp only [execOp,hop,bU,resolve,invoke,builtin,Builtin.min_,hargs,hv,pure_bind,Sem.run_bind,q1,Result.andThen_ok,Sem.run_pure]
    | true=>
     obtain ⟨q1,q2⟩:=DX (P:=P) (w:=w) (G:=G) (pt:=pt) (s:=s) (a:=a) (fun a b=>decide (b<a)) Builtin.max2 (fun k x y=>by
      simp only [Builtin.max2,Sem.run_pure];by_cases h:x<y<;>simp [h]) k rest n m hn (fun y _=>aV R y) hm
     refine pure_ok R ho (v:=.int k m) ?_ ⟨rfl,q2⟩ (fun _=>rfl)
     simp only [execOp,hop,aQ,resolve,invoke,builtin,Builtin.max_,hargs,hv,pure_bind,Sem.run_bind,q1,Result.andThen_ok,Sem.run_pure]
  ·cases h
 ·cases h
theorem xY:∀ {k:IntKind} {cs:List D} {l:List Int},qV k cs=some l→l.length=cs.length∧∀ j (h:j<cs.length),cs[j] = .int k (l.getD j 0)
 | k,[],l,h=>by simp [qV] at h;subst h;exact ⟨rfl,fun j h=>by simp at h⟩
 | k,d::cs,l,h=>by
  cases d<;>simp only [qV,reduceCtorEq] at h
  rename_i k' n
  cases hk:jm k k' with
  | false=>simp [hk] at h
  | true=>
   simp only [hk,aQ] at h
   cases hr:qV k cs with
   | none=>simp [hr] at h
   | some l'=>
    simp only [hr,bq] at h;subst h;obtain ⟨h1,h2⟩:=xY hr
    refine ⟨by simp [h1],fun j hj=>?_⟩
    match j,hj with
    | 0,_=>simp [fq hk]
    | j+1,hj=>simpa using h2 j (by simpa using hj)
theorem Py (HP:mG P E) (R:Rel E C s a w G pt) (ho:∀ t,o.dst=some t→t<E.n) (T:Nat) (x i:Operand) (hop:o.op = .index T x i)
 (h:wK E o s T x i=some (true,u)):fC P E C o a w (aA u s):=by
 have hx:=aV R x;have hi:=aV R i;simp only [wK] at h;split at h
 ·rename_i ti k n hti h2
  rw [h2] at hi;obtain ⟨hiv,_⟩:=hi;have hu:=(HP.ti _ _ hti).und;split at h
  ·rename_i len e cs hd h1
   rw [h1] at hx;rw [hd] at hu;obtain ⟨arr,hv,hsz,hr⟩:=hx;split at h
   ·rename_i ei uF
    split at h
    ·rename_i kk hkk
     split at h
     ·rename_i l hl
      cases hb:(Nat.beq ei.size 1 && !ei.agg&&Nat.beq l.length len) with
      | false=>simp [hb] at h
      | true=>
       simp only [hb,aQ,bq,eX,bP,jH] at h;simp only [bP,Bool.not_eq_true'] at hb;obtain ⟨⟨hb1,hb2⟩,hb3⟩:=hb;obtain ⟨⟨hn0,hn1⟩,rfl⟩:=h;have hb1:=dM hb1;have hb3:=dM hb3;obtain ⟨q1,q2⟩:=xY hl;have I6:=HP.ti _ _ uF;obtain ⟨pi,z,p1,p2,_⟩:=I6.info
       have hjl:n.toNat<cs.length:=by omega
       have hrep:=(hr n.toNat hjl).1;rw [q2 _ hjl] at hrep
       refine pure_ok R ho (v:=aS arr n.toNat) ?_ (by rw [hrep.1];exact ⟨rfl,hrep.2⟩) (fun _=>by rw [hrep.1];rfl)
       have hp:=nV (P:=P) (w:=w) I6.und (by rw [←I6.agg];exact hb2) arr n.toNat (by omega)
       simp [execOp,hop,Instr.index,hiv,hv,asIntOf,run_underlying hu,hn0,hn1,sizeOf,typeInfo,p1,show pi.size=1 by omega,hp]
     ·cases h
    ·cases h
   ·cases h
  ·rename_i len e kk l hd h1
   rw [h1] at hx;rw [hd] at hu;obtain ⟨arr,hv,hsz,hr⟩:=hx;split at h
   ·rename_i ei uF
    cases hb:(Nat.beq ei.size 1 && !ei.agg) with
    | false=>simp [hb] at h
    | true=>
     simp only [hb,aQ,bq,eX,bP,jH] at h;simp only [bP,Bool.not_eq_true'] at hb;obtain ⟨hb1,hb2⟩:=hb;obtain ⟨⟨⟨hn0,hn1⟩,hb3⟩,rfl⟩:=h;have hb1:=dM hb1;have hb3:=dM hb3;have I6:=HP.ti _ _ uF;obtain ⟨pi,z,p1,p2,_⟩:=I6.info
     have hjl:n.toNat<l.length:=by omega
     obtain ⟨e1,e2⟩:=hr n.toNat hjl
     have e3:l.getD n.toNat 0=l[n.toNat]:=by simp [hjl]
     have e1:aS arr n.toNat = .int kk l[n.toNat]:=e1
     refine pure_ok R ho (v:=aS arr n.toNat) ?_ (by rw [e1,e3];exact ⟨rfl,e2⟩) (fun _=>by rw [e1];rfl)
     have hp:=nV (P:=P) (w:=w) I6.und (by rw [←I6.agg];exact hb2) arr n.toNat (by omega)
     simp [execOp,hop,Instr.index,hiv,hv,asIntOf,run_underlying hu,hn0,hn1,sizeOf,typeInfo,p1,show pi.size=1 by omega,hp]
   ·cases h
  ·rename_i l hd h1
   rw [h1] at hx;rw [hd] at hu;obtain ⟨b,hv,hl,hb⟩:=hx;simp only [bq,eX,bP,jH] at h;obtain ⟨⟨hn0,hn1⟩,rfl⟩:=h
   have hsz:l.length=b.size:=by rw [←hl];exact jR b
   have hlt:n.toNat<b.size:=by omega
   have e1:l.getD n.toNat 0=((b[n.toNat]'hlt).toNat:Int):=by
    rw [←hl];simp [d9,yP,List.getElem?_map]
    rw [Array.getElem?_eq_getElem (by simpa using hlt)]
    rfl
   have e2:IntKind.u8.has (l.getD n.toNat 0):=by
    rw [e1];have:=(b[n.toNat]'hlt).toNat_lt;unfold IntKind.has;simp [IntKind.min,IntKind.max,IntKind.bits,IntKind.signed];omega
   refine pure_ok R ho (v:=.int .u8 (l.getD n.toNat 0)) ?_ ⟨rfl,e2⟩ (fun _=>rfl)
   rw [e1];simp [execOp,hop,Instr.index,hiv,hv,asIntOf,run_underlying hu,hn0,hlt]
  ·cases h
 ·cases h
end
end Go.gI