/- The abstract evaluator, part 1: proved is that each operation of the model that it runs keeps the relation between abstract values and memory (values, moves, tables of types, numbers, strings); no conditions but those that each theorem states. -/
import Derived.WalkKit
import Derived.Deep.MidRow
set_option linter.unusedVariables false
set_option linter.unusedSimpArgs false
namespace Go.aW
inductive Ty where
  | int (k:IntKind) | bool | str | sl (t:Ty) | unit | cons (a b:Ty) | st (by_:Nat) (c:Ty) | fO (f:Nat) (t:Ty)
  deriving Inhabited
@[reducible] def Ty.den:Ty→Type
  | .int _=>Int
  | .bool=>Bool
  | .str=>List Int
  | .sl t=>List t.den
  | .unit=>Unit
  | .cons a b=>a.den×b.den
  | .st _ c=>c.den
  | .fO _ t=>t.den
def Ty.nc:Ty→Nat
  | .unit=>0
  | .cons a b=>a.nc+b.nc
  | .st _ c=>c.nc
  | _=>1
def Ty.mE:Ty→Nat
  | .int k=>k.bits / 8
  | .bool=>1
  | .str=>16
  | .sl _=>24
  | .st b _=>b
  | .fO _ _=>8
  | _=>0
def Ty.dflt:(t:Ty)→t.den
  | .int _=>(0:Int)
  | .bool=>false
  | .str=>[]
  | .sl _=>[]
  | .unit=>()
  | .cons a b=>(a.dflt,b.dflt)
  | .st _ c=>c.dflt
  | .fO _ t=>t.dflt
def iO:IntKind→IntKind→Bool
  | .i8,.i8 | .i16,.i16 | .i32,.i32 | .i64,.i64 | .u8,.u8 | .u16,.u16 | .u32,.u32 | .u64,.u64=>true
  | _,_=>false
theorem dX {a b:IntKind} (h:iO a b=true):a=b:=by
  cases a<;>cases b<;>first | rfl | (simp [iO] at h)
def Ty.beq:Ty→Ty→Bool
  | .int k,.int k'=>iO k k'
  | .bool,.bool=>true
  | .str,.str=>true
  | .sl a,.sl b=>a.beq b
  | .unit,.unit=>true
  | .cons a b,.cons c d=>a.beq c&&b.beq d
  | .st n a,.st m b=>Nat.beq n m&&a.beq b
  | .fO n a,.fO m b=>Nat.beq n m&&a.beq b
  | _,_=>false
theorem Ty.eq_of_beq:∀ {a b:Ty},a.beq b=true→a=b
  | .int k,.int k',h=>by rw [dX (show iO k k' = true from h)]
  | .bool,.bool,_=>rfl
  | .str,.str,_=>rfl
  | .unit,.unit,_=>rfl
  | .sl a,.sl b,h=>by rw [Ty.eq_of_beq (show a.beq b=true from h)]
  | .cons a b,.cons c d,h=>by
    have h':(a.beq c&&b.beq d)=true:=h
    rw [Bool.and_eq_true] at h'
    rw [Ty.eq_of_beq h'.1,Ty.eq_of_beq h'.2]
  | .st n a,.st m b,h=>by
    have h':(Nat.beq n m&&a.beq b)=true:=h
    rw [Bool.and_eq_true] at h'
    rw [Nat.eq_of_beq_eq_true h'.1,Ty.eq_of_beq h'.2]
  | .fO n a,.fO m b,h=>by
    have h':(Nat.beq n m&&a.beq b)=true:=h
    rw [Bool.and_eq_true] at h'
    rw [Nat.eq_of_beq_eq_true h'.1,Ty.eq_of_beq h'.2]
  | .fO _ _,.int _,h | .fO _ _,.bool,h | .fO _ _,.str,h | .fO _ _,.sl _,h | .fO _ _,.unit,h | .fO _ _,.cons _ _,h | .fO _ _,.st _ _,h
  | .int _,.fO _ _,h | .bool,.fO _ _,h | .str,.fO _ _,h | .sl _,.fO _ _,h | .unit,.fO _ _,h | .cons _ _,.fO _ _,h | .st _ _,.fO _ _,h
  | .int _,.bool,h | .int _,.str,h | .int _,.sl _,h | .int _,.unit,h | .int _,.cons _ _,h | .int _,.st _ _,h
  | .bool,.int _,h | .bool,.str,h | .bool,.sl _,h | .bool,.unit,h | .bool,.cons _ _,h | .bool,.st _ _,h
  | .str,.int _,h | .str,.bool,h | .str,.sl _,h | .str,.unit,h | .str,.cons _ _,h | .str,.st _ _,h
  | .sl _,.int _,h | .sl _,.bool,h | .sl _,.str,h | .sl _,.unit,h | .sl _,.cons _ _,h | .sl _,.st _ _,h
  | .unit,.int _,h | .unit,.bool,h | .unit,.str,h | .unit,.sl _,h | .unit,.cons _ _,h | .unit,.st _ _,h
  | .cons _ _,.int _,h | .cons _ _,.bool,h | .cons _ _,.str,h | .cons _ _,.sl _,h | .cons _ _,.unit,h | .cons _ _,.st _ _,h
  | .st _ _,.int _,h | .st _ _,.bool,h | .st _ _,.str,h | .st _ _,.sl _,h | .st _ _,.unit,h | .st _ _,.cons _ _,h=>by
    exact absurd (show false=true from h) (by decide)
inductive D where
  | undef
  | bool (b:Bool)
  | int (k:IntKind) (n:Int)
  | str (s:List Int)
  | jf
  | sl (fl:Nat) (t:Ty) (l:List t.den)
  | ptr (id st off:Nat)
  | kL (id st i off es:Nat)
  | qO (g off:Nat)
  | gN (t:Ty) (l:List t.den) (i off:Nat)
  | V9 (t:Ty) (l:List t.den)
  | fM (id st:Nat)
  | agg (cs:List D)
  | gB (vs:List D)
  | fn (f:Nat) (caps:List D)
  | aH (st:Nat) (live:Bool) (cs:List D)
  | aU (st:Nat) (live:Bool) (ar:Bool) (t:Ty) (l:List t.den)
  | iC (st:Nat) (l:List (Int×(List Int×Unit)))
  | AJ (id st n:Nat)
  | Ai (f:Nat)
  | fO (f:Nat) (t:Ty) (x:t.den)
  | av (k:IntKind) (l:List Int)
  | LY (k:IntKind) (l:List Int)
  deriving Inhabited
def enc:(t:Ty)→t.den→List D
  | .int k,n=>[.int k n]
  | .bool,b=>[.bool b]
  | .str,s=>[.str s]
  | .sl t,l=>[.sl 0 t l]
  | .unit,_=>[]
  | .cons a b,x=>enc a x.1++enc b x.2
  | .st _ c,x=>enc c x
  | .fO f t,x=>[.fO f t x]
def Q7:Nat→List Int→List Int
  | 0,_=>[]
  | n+1,l=>l.headD 0::Q7 n l.tail
theorem IC:∀ {n:Nat} {l:List Int},l.length=n→Q7 n l=l
  | 0,[],_=>rfl
  | 0,_::_,h=>by simp at h
  | n+1,[],h=>by simp at h
  | n+1,x::r,h=>by rw [Q7];simp only [List.headD_cons,List.tail_cons];rw [IC (by simpa using h)]
def IE {a b:Ty} (h:a=b) (x:a.den):b.den:=h▸x
def kM {a b:Ty} (h:a=b) (l:List a.den):List b.den:=h▸l
def dec:(t:Ty)→List D→Option (t.den×List D)
  | .int k,.int k' n::r=>bif iO k k' then some (n,r) else none
  | .bool,.bool b::r=>some (b,r)
  | .str,.str s::r=>some (s,r)
  | .sl _,.jf::r=>some ([],r)
  | .sl t,.sl _ t' l::r=>if h:t'.beq t=true then some (kM (Ty.eq_of_beq h) l,r) else none
  | .unit,r=>some ((),r)
  | .cons a b,r=>match dec a r with
    | some (x,r')=>match dec b r' with
      | some (y,r'')=>some ((x,y),r'')
      | none=>none
    | none=>none
  | .st _ c,r=>dec c r
  | .fO f t,.fO f' t' x::r=>if h:(Ty.fO f' t').beq (.fO f t)=true then some (IE (Ty.eq_of_beq h) x,r) else none
  | _,_=>none
structure TI where
  size:Nat
  bytes:Nat
  agg:Bool
  ty:Ty
  desc:TypeDesc
  zero:List D
  arr:Option Ty
  cmp:Option (List Nat)
  deriving Inhabited
abbrev St:=List (Nat×D)
def get:St→Nat→D
  | [],_=>.undef
  | (l,d)::r,m=>bif Nat.beq m l then d else get r m
def bU:D→D
  | .sl _ t l=>.sl 0 t l
  | d=>d
def bO:D→D
  | .sl f t l=>.sl (bif Nat.beq f 2 then 1 else f) t l
  | d=>d
def stripL:D→D
  | .sl f t l=>bif Nat.beq f 0 then .sl 0 t l else .undef
  | d=>d
def wC:D→Bool
  | .sl f _ _=>!Nat.beq f 0
  | _=>false
def xH:D→Bool
  | .sl f _ _=>Nat.beq f 2
  | _=>false
def view:D→D
  | .agg cs=>.agg (cs.map bU)
  | d=>bU d
def share:D→D
  | .agg cs=>.agg (cs.map bO)
  | d=>bO d
def strip:D→D
  | .agg cs=>.agg (cs.map stripL)
  | .gB _=>.undef
  | d=>stripL d
def dJ:D→Bool
  | .agg cs=>cs.any wC
  | .gB _=>true
  | d=>wC d
def jg:D→Bool
  | .agg cs=>cs.any xH
  | .gB _=>true
  | d=>xH d
def bS (t:Ty):D→D
  | .jf=>match t with
    | .sl e=>.sl 2 e []
    | _=>.jf
  | d=>d
def jq (s:ByteArray):List Int:=s.data.toList.map fun b=>(b.toNat:Int)
def LU (k:IntKind) (n:Int):Bool:=decide (k.min≤n)&&decide (n≤k.max)
def iQ:Nat:=9223372036854775807
def J8:Value→D
  | .bool b=>.bool b
  | .int k n=>bif LU k n then .int k n else .undef
  | .string s=>bif Nat.ble (jq s).length iQ then .str (jq s) else .undef
  | .slice none 0 0=>.jf
  | _=>.undef
end Go.aW
namespace Go.aW
def big:Nat:=140737488355328
def bX (w:World) (G:Nat→Nat):(t:Ty)→t.den→Nat→Nat→Prop
  | .int k,n,b,o=>w.cell? ⟨b,o,none⟩=some (.int k n)∧k.has n
  | .bool,x,b,o=>w.cell? ⟨b,o,none⟩=some (.bool x)
  | .str,l,b,o=>∃ s,w.cell? ⟨b,o,none⟩=some (.string s)∧jq s=l∧l.length≤iQ
  | .sl t,l,b,o=>∃ a n c,w.cell? ⟨b,o,none⟩=some (.slice a n c)∧n=l.length∧n*t.mE≤big∧n≤c ∧
      (l=[]∨∃ b' o',a=some ⟨b',o',none⟩∧o' + n*t.nc≤G b'∧∀ i (h:i<l.length),bX w G t l[i] b' (o' + i*t.nc))
  | .unit,_,_,_=>True
  | .cons a c,x,b,o=>bX w G a x.1 b o∧bX w G c x.2 b (o+a.nc)
  | .st _ c,x,b,o=>bX w G c x b o
  | .fO f t,x,b,o=>∃ b' o',w.cell? ⟨b,o,none⟩=some (.func (.func f) #[] #[.pointer (some ⟨b',o',none⟩)])∧o' + t.nc≤G b'∧bX w G t x b' o'
def fB (w:World) (G:Nat→Nat) (t:Ty) (l:List t.den) (b o:Nat):Prop:=
  ∀ i (h:i<l.length),bX w G t l[i] b (o+i*t.nc)
structure Ext (w:World) (G:Nat→Nat) (w':World) (G':Nat→Nat):Prop where
  cell:∀ b o,o<G b→w'.cell? ⟨b,o,none⟩=w.cell? ⟨b,o,none⟩
  le:∀ b,G b≤G' b
theorem Ext.refl (w:World) (G:Nat→Nat):Ext w G w G:=⟨fun _ _ _=>rfl,fun _=>Nat.le_refl _⟩
theorem Ext.trans {w1 w2 w3:World} {G1 G2 G3:Nat→Nat} (h:Ext w1 G1 w2 G2) (k:Ext w2 G2 w3 G3):Ext w1 G1 w3 G3:=
  ⟨fun b o ho=>(k.cell b o (Nat.lt_of_lt_of_le ho (h.le b))).trans (h.cell b o ho),fun b=>Nat.le_trans (h.le b) (k.le b)⟩
theorem bX.mono {w w':World} {G G':Nat→Nat} (hE:Ext w G w' G') :
    ∀ {t:Ty} {x:t.den} {b o:Nat},bX w G t x b o →
      (∀ j,o≤j→j<o+t.nc→w'.cell? ⟨b,j,none⟩=w.cell? ⟨b,j,none⟩)→bX w' G' t x b o
  | .int k,n,b,o,h,hc=>by
    simp only [bX] at h ⊢
    rw [hc o (Nat.le_refl _) (by simp [Ty.nc])];exact h
  | .bool,n,b,o,h,hc=>by
    simp only [bX] at h ⊢
    rw [hc o (Nat.le_refl _) (by simp [Ty.nc])];exact h
  | .str,n,b,o,h,hc=>by
    simp only [bX] at h ⊢
    rw [hc o (Nat.le_refl _) (by simp [Ty.nc])];exact h
  | .sl t,l,b,o,h,hc=>by
    simp only [bX] at h ⊢
    rw [hc o (Nat.le_refl _) (by simp [Ty.nc])]
    obtain ⟨a,n,c,h1,h2,h3,h3',h4⟩:=h
    refine ⟨a,n,c,h1,h2,h3,h3',?_⟩
    rcases h4 with h4 | ⟨b',o',h5,h6,h7⟩
    · exact .inl h4
    · refine .inr ⟨b',o',h5,Nat.le_trans h6 (hE.le b'),fun i hi=>(h7 i hi).mono hE fun j hj1 hj2=>hE.cell _ _ ?_⟩
      have:(i+1)*t.nc≤n*t.nc:=Nat.mul_le_mul_right _ (by omega)
      rw [Nat.add_mul] at this
      omega
  | .unit,_,_,_,_,_=>trivial
  | .cons a c,x,b,o,h,hc=>by
    simp only [bX] at h ⊢
    simp only [Ty.nc] at hc
    exact ⟨h.1.mono hE fun j h1 h2=>hc j h1 (by omega),h.2.mono hE fun j h1 h2=>hc j (by omega) (by omega)⟩
  | .st _ c,x,b,o,h,hc=>by
    simp only [bX] at h ⊢
    exact bX.mono hE h hc
  | .fO f t,x,b,o,h,hc=>by
    simp only [bX] at h ⊢
    rw [hc o (Nat.le_refl _) (by simp [Ty.nc])]
    obtain ⟨b',o',h1,h2,h3⟩:=h
    exact ⟨b',o',h1,Nat.le_trans h2 (hE.le b'),h3.mono hE fun j hj1 hj2=>hE.cell _ _ (by omega)⟩
theorem fB.mono {w w':World} {G G':Nat→Nat} (hE:Ext w G w' G') {t:Ty} {l:List t.den} {b o:Nat} (h:fB w G t l b o)
    (hc:∀ j,o≤j→j<o+l.length*t.nc→w'.cell? ⟨b,j,none⟩=w.cell? ⟨b,j,none⟩):fB w' G' t l b o:=by
  intro i hi
  refine (h i hi).mono hE fun j hj1 hj2=>hc j (by omega) ?_
  have:(i+1)*t.nc≤l.length*t.nc:=Nat.mul_le_mul_right _ (by omega)
  rw [Nat.add_mul] at this
  omega
def Room (w:World) (b k:Nat):Prop:=
  ∃ cur e fr,w.heap[b]? = some (.cells cur e fr)∧k≤cur.size∧∀ o,o<cur.size→¬ (fr.1≤o∧o<fr.2)
def Gp (w:World) (G:Nat→Nat) (f:Nat) (t:Ty) (l:List t.den) (a:Option Addr) (c:Nat):Prop:=
  match f with
  | 0=>l.length≤c∧(l=[]∨∃ b o,a=some ⟨b,o,none⟩∧o+l.length*t.nc≤G b∧fB w G t l b o)
  | 1=>(a=none∧l=[]∧c=0)∨∃ b,a=some ⟨b,0,none⟩∧G b=l.length*t.nc∧Room w b (c*t.nc)∧l.length≤c∧fB w G t l b 0∧0<t.nc
  | 2=>(a=none∧l=[]∧c=0)∨∃ b,a=some ⟨b,0,none⟩∧G b=0∧Room w b (c*t.nc)∧l.length≤c∧fB w G t l b 0∧0<t.nc
  | _=>False
def bA:Option Value→Option Nat
  | some (.pointer (some ⟨b,0,none⟩))=>some b
  | some (.slice (some ⟨b,0,none⟩) _ _)=>some b
  | _=>none
def bI (w:World) (G:Nat→Nat) (pt:Nat→Nat→Option Value):D→Value→Prop
  | .undef,_=>True
  | .bool b,v=>v = .bool b
  | .int k n,v=>v = .int k n∧k.has n
  | .str l,v=>∃ s,v = .string s∧jq s=l∧l.length≤iQ
  | .jf,v=>v = .slice none 0 0
  | .sl f t l,v=>∃ a n c,v = .slice a n c∧n=l.length∧n*t.mE≤big∧Gp w G f t l a c
  | .ptr id st off,v=>∃ b,bA (pt id st)=some b∧v = .pointer (some ⟨b,off,none⟩)
  | .kL id st i off es,v=>∃ b,bA (pt id st)=some b∧v = .pointer (some ⟨b,i*es+off,none⟩)
  | .qO g off,v=>v = .pointer (some ⟨g,off,none⟩)
  | .gN t l i off,v=>∃ b o,v = .pointer (some ⟨b,o+i*t.nc+off,none⟩)∧i<l.length∧o+l.length*t.nc≤G b∧fB w G t l b o
  | .V9 t l,v=>∃ a n,v = .slice a n n∧n=l.length∧n*t.mE≤big∧Gp w G 0 t l a n
  | .fM id st,v=>pt id st=some v
  | .Ai f,v=>v = .func (.func f) #[] #[]
  | .fO f t x,v=>∃ b o,v = .func (.func f) #[] #[.pointer (some ⟨b,o,none⟩)]∧o+t.nc≤G b∧bX w G t x b o
  | .av k l,v=>∃ arr,v = .agg arr∧arr.size=l.length∧∀ j (h:j<l.length),arr.getD j undef = .int k l[j]∧k.has l[j]
  | .LY k l,v=>∃ b o,v = .pointer (some ⟨b,o,none⟩)∧o+l.length≤G b∧fB w G (.int k) l b o
  | .AJ id st n,v=>((∃ b c,bA (pt id st)=some b∧v = .slice (some ⟨b,0,none⟩) n c)∨(n=0∧v = .slice none 0 0))∧n≤iQ
  | _,_=>False
def aQ (w:World) (G:Nat→Nat) (pt:Nat→Nat→Option Value) (ds:List D) (f:Nat→Value):Prop:=
  ∀ j (h:j<ds.length),bI w G pt ds[j] (f j)∧(f j).oneCell' = true
def aO (arr:Array Value) (j:Nat):Value:=arr.getD j undef
def wU (w:World) (G:Nat→Nat) (pt:Nat→Nat→Option Value) (d:D) (v:Value):Prop:=
  match d with
  | .agg cs=>∃ arr,v = .agg arr∧arr.size=cs.length∧aQ w G pt cs (aO arr)
  | d=>bI w G pt d v
def dw (b:Nat):D→Value→Nat
  | .sl f _ _,.slice (some a) _ _=>if f≠0∧a.block=b then 1 else 0
  | _,_=>0
def aK (b:Nat) (ds:List D) (f:Nat→Value):Nat:=
  match ds with
  | []=>0
  | d::r=>dw b d (f 0)+aK b r (fun i=>f (i+1))
def aY (w:World) (G:Nat→Nat) (pt:Nat→Nat→Option Value) (d:D) (v:Value):Prop:=
  match d with
  | .agg cs=>∃ arr,v = .agg arr∧arr.size=cs.length∧aQ w G pt cs (aO arr)
  | .gB vs=>∃ arr,v = .tuple arr∧arr.size=vs.length∧∀ j (h:j<vs.length),wU w G pt vs[j] (aO arr j)
  | .fn f caps=>∃ arr,v = .func (.func f) #[] arr∧arr.size=caps.length∧aQ w G pt caps (aO arr)∧∀ b,aK b caps (aO arr)=0
  | d=>bI w G pt d v
def aC (w:World) (b j:Nat):Value:=(w.cell? ⟨b,j,none⟩).getD undef
abbrev mq:Ty:=.st 32 (.cons (.int .i64) (.cons (.sl (.int .i64)) .unit))
def inn (l:List (Int×(List Int×Unit))):List D:=l.map fun r=>.sl 1 (.int .i64) r.2.1
def inf (w:World) (pt:Nat→Nat→Option Value) (id st:Nat) (i:Nat):Value:=aC w ((bA (pt id st)).getD 0) (i*2+1)
def oD (w:World) (G:Nat→Nat) (pt:Nat→Nat→Option Value) (id:Nat) (d:D):Prop:=
  match d with
  | .undef=>True
  | .aH st live cs=>live=true→∃ b,pt id st=some (.pointer (some ⟨b,0,none⟩))∧Room w b cs.length∧G b=0∧aQ w G pt cs (aC w b)
  | .aU st live ar t l=>live=true→if ar=true
      then ∃ b,pt id st=some (.pointer (some ⟨b,0,none⟩))∧Room w b (l.length*t.nc)∧G b=0∧fB w G t l b 0
      else ∃ a n c,pt id st=some (.slice a n c)∧n=l.length∧n*t.mE≤big∧Gp w G 2 t l a c
  | .iC st l=>(∃ a n c,pt id st=some (.slice a n c)∧n=l.length∧n*32≤big∧Gp w G 2 mq l a c)∧aQ w G pt (inn l) (inf w pt id st)
  | _=>False
def D9 (b:Nat) (d:D) (v:Value):Nat:=
  match d,v with
  | .agg cs,.agg arr=>aK b cs (aO arr)
  | d,v=>dw b d v
def mg (b:Nat) (ds:List D) (f:Nat→Value):Nat:=
  match ds with
  | []=>0
  | d::r=>D9 b d (f 0)+mg b r (fun i=>f (i+1))
def cO (b:Nat) (d:D) (v:Value):Nat:=
  match d,v with
  | .agg cs,.agg arr=>aK b cs (aO arr)
  | .gB vs,.tuple arr=>mg b vs (aO arr)
  | d,v=>dw b d v
def bR (b:Nat) (v:Option Value):Nat:=if bA v=some b then 1 else 0
def fI (w:World) (pt:Nat→Nat→Option Value) (b id:Nat) (d:D):Nat:=
  match d with
  | .aH st true cs=>bR b (pt id st)+aK b cs (aC w ((bA (pt id st)).getD 0))
  | .aU st true _ _ _=>bR b (pt id st)
  | .iC st l=>bR b (pt id st)+aK b (inn l) (inf w pt id st)
  | _=>0
theorem Room.same {w w':World} {b k:Nat} (h:Room w b k) (hb:w'.heap[b]? = w.heap[b]?):Room w' b k:=by
  obtain ⟨cur,e,fr,h1,h2⟩:=h
  exact ⟨cur,e,fr,hb.trans h1,h2⟩
theorem cell_of_heap {w w':World} {b:Nat} (hb:w'.heap[b]? = w.heap[b]?) (o:Nat):w'.cell? ⟨b,o,none⟩=w.cell? ⟨b,o,none⟩:=by
  simp [World.cell?,hb]
theorem bI.mono {w w':World} {G G':Nat→Nat} {pt bJ:Nat→Nat→Option Value} (hE:Ext w G w' G')
    (hpt:∀ id st v,pt id st=some v→bJ id st=some v) {d:D} {v:Value} (h:bI w G pt d v)
    (hx:∀ b,0<dw b d v→w'.heap[b]? = w.heap[b]?∧G' b=G b):bI w' G' bJ d v:=by
  have hblk:∀ id st b,bA (pt id st)=some b→bA (bJ id st)=some b:=by
    intro id st b hb
    cases hp:pt id st with
    | none=>rw [hp] at hb;simp [bA] at hb
    | some u=>rw [hpt id st u hp];rw [hp] at hb;exact hb
  cases d with
  | undef=>trivial
  | bool b=>exact h
  | int k n=>exact h
  | str l=>exact h
  | jf=>exact h
  | sl f t l=>
    obtain ⟨a,n,c,h1,h2,h3,h4⟩:=h
    refine ⟨a,n,c,h1,h2,h3,?_⟩
    match f,h4,hx with
    | 0,h4,_=>
      refine ⟨h4.1,?_⟩
      rcases h4.2 with h4 | ⟨b,o,h5,h6,h7⟩
      · exact .inl h4
      · exact .inr ⟨b,o,h5,Nat.le_trans h6 (hE.le b),h7.mono hE fun j hj1 hj2=>hE.cell b j (by omega)⟩
    | 1,h4,hx=>
      rcases h4 with h4 | ⟨b,h5,h6,h7,h8,h9⟩
      · exact .inl h4
      · subst h1;subst h5
        obtain ⟨q1,q2⟩:=hx b (by simp [dw])
        exact .inr ⟨b,rfl,q2.trans h6,h7.same q1,h8,h9.1.mono hE fun j _ _=>cell_of_heap q1 j,h9.2⟩
    | 2,h4,hx=>
      rcases h4 with h4 | ⟨b,h5,h6,h7,h8,h9⟩
      · exact .inl h4
      · subst h1;subst h5
        obtain ⟨q1,q2⟩:=hx b (by simp [dw])
        exact .inr ⟨b,rfl,q2.trans h6,h7.same q1,h8,h9.1.mono hE fun j _ _=>cell_of_heap q1 j,h9.2⟩
    | (k+3),h4,_=>exact h4.elim
  | ptr id st off=>obtain ⟨b,h1,h2⟩:=h;exact ⟨b,hblk _ _ _ h1,h2⟩
  | kL id st i off es=>obtain ⟨b,h1,h2⟩:=h;exact ⟨b,hblk _ _ _ h1,h2⟩
  | qO g off=>exact h
  | gN t l i off=>
    obtain ⟨b,o,h1,h2,h3,h4⟩:=h
    exact ⟨b,o,h1,h2,Nat.le_trans h3 (hE.le b),h4.mono hE fun j hj1 hj2=>hE.cell b j (by omega)⟩
  | V9 t l=>
    obtain ⟨a,n,h1,h2,h3,h4⟩:=h
    refine ⟨a,n,h1,h2,h3,h4.1,?_⟩
    rcases h4.2 with h4 | ⟨b,o,h5,h6,h7⟩
    · exact .inl h4
    · exact .inr ⟨b,o,h5,Nat.le_trans h6 (hE.le b),h7.mono hE fun j hj1 hj2=>hE.cell b j (by omega)⟩
  | fM id st=>exact hpt _ _ _ h
  | agg cs=>exact h.elim
  | gB cs=>exact h.elim
  | fn f cs=>exact h.elim
  | aH st live cs=>exact h.elim
  | aU st live ar t l=>exact h.elim
  | iC st l=>exact h.elim
  | Ai f=>exact h
  | fO f t x=>
    obtain ⟨b,o,h1,h2,h3⟩:=h
    exact ⟨b,o,h1,Nat.le_trans h2 (hE.le b),h3.mono hE fun j hj1 hj2=>hE.cell b j (by omega)⟩
  | av k l=>exact h
  | LY k l=>
    obtain ⟨b,o,h1,h2,h3⟩:=h
    exact ⟨b,o,h1,Nat.le_trans h2 (hE.le b),h3.mono hE fun j hj1 hj2=>hE.cell b j (by simp only [Ty.nc,Nat.mul_one] at hj2;omega)⟩
  | AJ id st n=>
    obtain ⟨h,hn⟩:=h
    rcases h with ⟨b,c,h1,h2⟩ | h
    · exact ⟨.inl ⟨b,c,hblk _ _ _ h1,h2⟩,hn⟩
    · exact ⟨.inr h,hn⟩
theorem iE {b:Nat}:∀ {ds:List D} {f:Nat→Value} (j:Nat) (h:j<ds.length),dw b ds[j] (f j)≤aK b ds f
  | d::r,f,0,_=>by simp [aK]
  | d::r,f,j+1,h=>by
    have:=iE (b:=b) (ds:=r) (f:=fun i=>f (i+1)) j (by simpa using h)
    simp only [aK,List.getElem_cons_succ]
    omega
theorem Ea {b:Nat}:∀ {ds:List D} {f:Nat→Value} (j:Nat) (h:j<ds.length),D9 b ds[j] (f j)≤mg b ds f
  | d::r,f,0,_=>by simp [mg]
  | d::r,f,j+1,h=>by
    have:=Ea (b:=b) (ds:=r) (f:=fun i=>f (i+1)) j (by simpa using h)
    simp only [mg,List.getElem_cons_succ]
    omega
section
variable {w w':World} {G G':Nat→Nat} {pt bJ:Nat→Nat→Option Value} (hE:Ext w G w' G')
    (hpt:∀ id st v,pt id st=some v→bJ id st=some v)
include hE hpt
theorem aQ.mono {ds:List D} {f f':Nat→Value} (h:aQ w G pt ds f) (hf:∀ j,j<ds.length→f' j=f j)
    (hx:∀ b,0<aK b ds f→w'.heap[b]? = w.heap[b]?∧G' b=G b):aQ w' G' bJ ds f':=by
  intro j hj
  rw [hf j hj]
  exact ⟨(h j hj).1.mono hE hpt fun b hb=>hx b (Nat.lt_of_lt_of_le hb (iE j hj)),(h j hj).2⟩
theorem wU.mono {d:D} {v:Value} (h:wU w G pt d v)
    (hx:∀ b,0<D9 b d v→w'.heap[b]? = w.heap[b]?∧G' b=G b):wU w' G' bJ d v:=by
  cases d with
  | agg cs=>
    obtain ⟨arr,rfl,h2,h3⟩:=h
    exact ⟨arr,rfl,h2,h3.mono hE hpt (fun _ _=>rfl) hx⟩
  | _=>
    simp only [wU] at h ⊢
    exact bI.mono hE hpt h (by simpa only [D9] using hx)
theorem aY.mono {d:D} {v:Value} (h:aY w G pt d v)
    (hx:∀ b,0<cO b d v→w'.heap[b]? = w.heap[b]?∧G' b=G b):aY w' G' bJ d v:=by
  cases d with
  | agg cs=>
    obtain ⟨arr,rfl,h2,h3⟩:=h
    exact ⟨arr,rfl,h2,h3.mono hE hpt (fun _ _=>rfl) hx⟩
  | gB vs=>
    obtain ⟨arr,rfl,h2,h3⟩:=h
    exact ⟨arr,rfl,h2,fun j hj=>(h3 j hj).mono hE hpt fun b hb=>hx b (Nat.lt_of_lt_of_le hb (Ea j hj))⟩
  | fn f caps=>
    obtain ⟨arr,rfl,h2,h3,h4⟩:=h
    exact ⟨arr,rfl,h2,h3.mono hE hpt (fun _ _=>rfl) (fun b hb=>by have:=h4 b;omega),h4⟩
  | _=>
    simp only [aY] at h ⊢
    exact bI.mono hE hpt h (by simpa only [cO] using hx)
theorem oD.mono {id:Nat} {d:D} (h:oD w G pt id d)
    (hx:∀ b,0<fI w pt b id d→w'.heap[b]? = w.heap[b]?∧G' b=G b):oD w' G' bJ id d:=by
  cases d with
  | undef=>trivial
  | aH st live cs=>
    intro hl
    subst hl
    obtain ⟨b,h1,h2,h3,h4⟩:=h rfl
    have hb:bA (pt id st)=some b:=by rw [h1];rfl
    obtain ⟨q1,q2⟩:=hx b (by simp [fI,bR,hb]<;>omega)
    refine ⟨b,hpt _ _ _ h1,h2.same q1,q2.trans h3,h4.mono hE hpt (fun j _=>by simp [aC,cell_of_heap q1]) fun b' hb'=>hx b' ?_⟩
    simp only [fI,hb,Option.getD_some]
    omega
  | aU st live ar t l=>
    intro hl
    subst hl
    have h':=h rfl
    cases ar with
    | true=>
      simp only [if_true] at h' ⊢
      obtain ⟨b,h1,h2,h3,h4⟩:=h'
      have hb:bA (pt id st)=some b:=by rw [h1];rfl
      obtain ⟨q1,q2⟩:=hx b (by simp [fI,bR,hb]<;>omega)
      exact ⟨b,hpt _ _ _ h1,h2.same q1,q2.trans h3,h4.mono hE fun j _ _=>cell_of_heap q1 j⟩
    | false=>
      simp only [Bool.false_eq_true,if_false] at h' ⊢
      obtain ⟨a,n,c,h1,h2,h3,h4⟩:=h'
      refine ⟨a,n,c,hpt _ _ _ h1,h2,h3,?_⟩
      rcases h4 with h4 | ⟨b,h5,h6,h7,h8,h9⟩
      · exact .inl h4
      · subst h5
        have hb:bA (pt id st)=some b:=by rw [h1];rfl
        obtain ⟨q1,q2⟩:=hx b (by simp [fI,bR,hb]<;>omega)
        exact .inr ⟨b,rfl,q2.trans h6,h7.same q1,h8,h9.1.mono hE fun j _ _=>cell_of_heap q1 j,h9.2⟩
  | iC st l=>
    obtain ⟨⟨a,n,c,h1,h2,h3,h4⟩,h5⟩:=h
    have e1:=hpt _ _ _ h1
    rcases h4 with h4 | ⟨b,g5,g6,g7,g8,g9⟩
    · obtain ⟨g1,g2,g3⟩:=h4
      subst g2
      exact ⟨⟨a,n,c,e1,h2,h3,.inl ⟨g1,rfl,g3⟩⟩,fun j hj=>by simp [inn] at hj⟩
    · subst g5
      have hb:bA (pt id st)=some b:=by rw [h1];rfl
      obtain ⟨q1,q2⟩:=hx b (by simp [fI,bR,hb]<;>omega)
      refine ⟨⟨_,n,c,e1,h2,h3,.inr ⟨b,rfl,q2.trans g6,g7.same q1,g8,g9.1.mono hE fun j _ _=>cell_of_heap q1 j,g9.2⟩⟩,?_⟩
      refine h5.mono hE hpt (fun j _=>?_) fun b' hb'=>hx b' (by simp only [fI];omega)
      simp only [inf,e1,h1,bA,Option.getD_some,aC,cell_of_heap q1]
  | _=>exact h.elim
omit hE in
theorem xI {id:Nat} {d:D} (h:oD w G pt id d)
    (hx:∀ b,0<fI w pt b id d→w'.heap[b]? = w.heap[b]?∧G' b=G b) (b:Nat):fI w' bJ b id d=fI w pt b id d:=by
  cases d with
  | aH st live cs=>
    cases live with
    | false=>rfl
    | true=>
      obtain ⟨b0,h1,_⟩:=h rfl
      have hb:bA (pt id st)=some b0:=by rw [h1];rfl
      obtain ⟨q1,q2⟩:=hx b0 (by simp [fI,bR,hb]<;>omega)
      simp only [fI,hpt _ _ _ h1,h1,bA,Option.getD_some]
      congr 1
      exact congrArg _ (funext fun j=>by simp [aC,cell_of_heap q1])
  | aU st live ar t l=>
    cases live with
    | false=>rfl
    | true=>
      have h':=h rfl
      cases ar with
      | true=>
        simp only [if_true] at h'
        obtain ⟨b0,h1,_⟩:=h'
        simp only [fI,hpt _ _ _ h1,h1]
      | false=>
        simp only [Bool.false_eq_true,if_false] at h'
        obtain ⟨a,n,c,h1,_⟩:=h'
        simp only [fI,hpt _ _ _ h1,h1]
  | iC st l=>
    obtain ⟨⟨a,n,c,h1,h2,h3,h4⟩,h5⟩:=h
    have e1:=hpt _ _ _ h1
    rcases h4 with h4 | ⟨b0,g5,g6,g7,g8,g9⟩
    · obtain ⟨g1,g2,g3⟩:=h4
      subst g2
      simp only [fI,e1,h1,inn,List.map_nil,aK]
    · subst g5
      have hb:bA (pt id st)=some b0:=by rw [h1];rfl
      obtain ⟨q1,q2⟩:=hx b0 (by simp [fI,bR,hb]<;>omega)
      simp only [fI,e1,h1]
      congr 1
      exact congrArg _ (funext fun j=>by simp only [inf,e1,h1,bA,Option.getD_some,aC,cell_of_heap q1])
  | _=>rfl
end
end Go.aW
namespace Go.aW
structure Env where
  T:Nat→Option TI
  md:Nat→Nat
  glob:Nat→Option (IntKind×List Int)
  n:Nat
  hp:Bool
def tag (E:Env) (o:Oper):Nat:=
  match o.dst with
  | some t=>bif Nat.beq (E.md t) 5 then 1 else E.md t
  | none=>0
def aV (s:St):Operand→D
  | .tmp t=>get s (2*t)
  | .const v=>J8 v
  | .global g=>.qO g 0
  | .func f=>.Ai f
def bZ (s:St) (x:Operand) (f:D→D) (h:D→Bool):St:=
  match x with
  | .tmp t=>bif h (get s (2*t)) then [(2*t,f (get s (2*t)))] else []
  | _=>[]
def bB (o:Oper) (d:D):St:=
  match o.dst with
  | some t=>[(2*t,d)]
  | none=>[]
def dK:D→Bool
  | .gB _=>true
  | _=>false
def aI:D→Nat
  | .aH st _ _=>st
  | .aU st _ _ _ _=>st
  | .iC st _=>st
  | _=>0
def leaves:D→List D
  | .agg cs=>cs
  | d=>[d]
def pY (k:IntKind):List D→Option (List Int)
  | []=>some []
  | .int k' n::r=>bif iO k k' then (match pY k r with | some l=>some (n::l) | none=>none) else none
  | _::_=>none
def cZ (cs:List D) (off:Nat) (ds:List D):List D:=cs.take off++(ds++cs.drop (off+ds.length))
def uT (E:Env) (o:Oper) (s:St) (x:Operand):Option (Bool×St):=
  let d:=aV s x
  bif Nat.beq (tag E o) 1 || dK d then some (true,bZ s x strip dJ++bB o d)
  else some (true,bZ s x share jg++bB o (view d))
def qZ (o:Oper) (s:St) (x:Operand):Option (Bool×St):=
  match x with
  | .tmp t=>match get s (2*t) with
    | .sl 1 ty l=>some (true,(2*t,.sl 0 ty l)::bB o (.sl 1 ty l))
    | _=>some (true,bZ s (.tmp t) strip dJ++bB o (aV s (.tmp t)))
  | x=>some (true,bZ s x strip dJ++bB o (aV s x))
def kN (E:Env) (o:Oper) (s:St) (x:Operand):Option (Bool×St):=
  bif Nat.beq (tag E o) 6 then qZ o s x else uT E o s x
def uU (E:Env) (o:Oper) (s:St) (x:Operand):Option (Bool×St):=
  match o.dst with
  | some dst=>match aV s x with
    | .gB (.agg (.sl f t l::cs)::vs)=>bif Nat.beq f 2&&Nat.blt 0 t.nc then
        some (true,bZ s x strip dJ++bB o (aV s x)++[(2*dst+1,.aU (aI (get s (2*dst+1))+1) true false t l),(2*dst,.gB (.agg (.fM dst (aI (get s (2*dst+1))+1)::cs)::vs))]) else none
    | _=>none
  | none=>none
def J9 (E:Env) (T:Nat):Ty:=
  match E.T T with
  | some i=>i.ty
  | none=>.unit
def nH (E:Env) (o:Oper) (s:St) (x:Operand):Option (Bool×St):=
  let d:=bS (J9 E o.type) (aV s x)
  bif dK d then none else
  match tag E o with
  | 3=>match d,o.dst with
    | .sl f t l,some dst=>bif Nat.beq f 2&&Nat.blt 0 t.nc then
        let st:=aI (get s (2*dst+1))+1
        some (true,bZ s x strip dJ++[(2*dst+1,.aU st true false t l),(2*dst,.fM dst st)]) else none
    | _,_=>none
  | 2=>some (true,bZ s x strip dJ++bB o d)
  | _=>some (true,bZ s x strip dJ++bB o (share d))
def fG:D→Bool
  | .undef | .fM _ _ | .gB _ | .fn _ _ | .aH _ _ _ | .aU _ _ _ _ _ | .AJ _ _ _ | .Ai _ | .av _ _ | .LY _ _=>false
  | _=>true
def sj (t:Ty):Nat→List D→Option (List t.den)
  | 0,[]=>some []
  | 0,_::_=>none
  | n+1,ds=>match dec t ds with
    | some (x,r)=>(match sj t n r with | some l=>some (x::l) | none=>none)
    | none=>none
def LZ:List Int→Bool
  | []=>true
  | .ofNat 0::r=>LZ r
  | _=>false
def IG (n:Nat):(t:Ty)→List t.den→List t.den
  | .int _,l=>bif Nat.blt 64 n&&(Nat.beq (l:List Int).length n&&LZ l) then (List.replicate n (0:Int):List Int) else l
  | _,l=>l
theorem II:∀ {l:List Int},LZ l=true→l=List.replicate l.length 0
  | [],_=>rfl
  | .ofNat 0::r,h=>by rw [List.length_cons,List.replicate_succ,←II (l:=r) h];rfl
  | .ofNat (_+1)::_,h=>absurd (show false=true from h) (by decide)
  | .negSucc _::_,h=>absurd (show false=true from h) (by decide)
theorem Gq (n:Nat):∀ (t:Ty) (l:List t.den),IG n t l=l
  | .int _,l=>by
    show (bif Nat.blt 64 n&&(Nat.beq (l:List Int).length n&&LZ l) then (List.replicate n (0:Int):List Int) else l)=l
    cases h:(Nat.blt 64 n&&(Nat.beq (l:List Int).length n&&LZ l)) with
    | false=>rfl
    | true=>
      simp only [Bool.and_eq_true] at h
      have h1:=Nat.eq_of_beq_eq_true h.2.1
      have h2:=II h.2.2
      rw [h1] at h2
      exact h2.symm
  | .bool,_ | .str,_ | .sl _,_ | .unit,_ | .cons _ _,_ | .st _ _,_ | .fO _ _,_=>rfl
def ru (E:Env) (o:Oper) (s:St) (T:Nat):Option (Bool×St):=
  match E.T T,o.dst with
  | some i,some dst=>
    let st:=aI (get s (2*dst+1))+1
    match i.arr with
    | some t=>match sj t (i.size / t.nc) i.zero with
      | some l=>bif Nat.beq (i.size / t.nc*t.nc) i.size then some (true,[(2*dst+1,.aU st true true t (IG i.size t l)),(2*dst,.ptr dst st 0)]) else none
      | none=>none
    | none=>some (true,[(2*dst+1,.aH st true i.zero),(2*dst,.ptr dst st 0)])
  | _,_=>none
def Gs (E:Env) (o:Oper) (s:St) (T:Nat) (x:Operand):Option (Bool×St):=
  match E.T T,o.dst with
  | some i,some dst=>
    let st:=aI (get s (2*dst+1))+1
    let d:=bS i.ty (aV s x)
    bif fG d then
    match i.arr with
    | some t=>match sj t (leaves d).length (leaves (view d)) with
      | some l=>bif Nat.beq t.nc 1 then some (true,bZ s x share jg++[(2*dst+1,.aU st true true t l),(2*dst,.ptr dst st 0)]) else none
      | none=>none
    | none=>bif Nat.beq (tag E o) 2 then some (true,bZ s x strip dJ++[(2*dst+1,.aH st true (leaves d)),(2*dst,.ptr dst st 0)])
      else some (true,bZ s x strip dJ++[(2*dst+1,.aH st true ((leaves d).map bO)),(2*dst,.ptr dst st 0)])
    else none
  | _,_=>none
def partAt (E:Env) (i:TI) (j:Nat):Option (Nat×Nat):=
  match i.desc with
  | .struct fs=>match fs.toList[j]? with
    | some f=>match E.T f.type with
      | some fi=>some (f.offset,fi.size)
      | none=>none
    | none=>none
  | .array _ e=>match E.T e with
    | some ei=>some (j*ei.size,ei.size)
    | none=>none
  | _=>none
def fit (z:List D):List D→List D
  | [.jf]=>match z with
    | [.sl f t _]=>bif Nat.ble f 2 then [.sl f t []] else [.jf]
    | _=>[.jf]
  | ds=>ds
def dW (pl:Nat→Option (Nat×Nat)) (s:St) (f:D→D) (cs:List D):List (Nat×Operand)→Option (List D)
  | []=>some cs
  | (j,x)::r=>match pl j with
    | some (off,sz)=>
      let ds:=fit ((cs.drop off).take sz) (leaves (f (aV s x)))
      bif fG (aV s x)&&Nat.beq ds.length sz&&Nat.ble (off+sz) cs.length then dW pl s f (cZ cs off ds) r else none
    | none=>none
def dQ (s:St) (f:D→D) (h:D→Bool):List (Nat×Operand)→St
  | []=>[]
  | (_,x)::r=>bZ s x f h++dQ s f h r
def IJ (t:Nat):Operand→Bool
  | .tmp u=>Nat.beq t u
  | _=>false
def tmpsOf:List (Nat×Operand)→Nat→Bool
  | [],_=>false
  | p::r,t=>IJ t p.2 || tmpsOf r t
def ko (s:St):List (Nat×Operand)→Bool
  | []=>true
  | (_,.tmp t)::r=>(!dJ (get s (2*t)) || !tmpsOf r t)&&ko s r
  | _::r=>ko s r
def oJ (E:Env) (i:TI):Bool:=
  match i.desc with
  | .struct fs=>fs.toList.all fun f=>(E.T f.type).isSome
  | .array _ e=>(E.T e).isSome
  | _=>false
def uV (E:Env) (o:Oper) (s:St) (T:Nat) (parts:List (Nat×Operand)):Option (Bool×St):=
  match E.T T with
  | some i=>match dW (partAt E i) s (fun d=>d) i.zero parts with
    | some cs=>bif ko s parts&&oJ E i then some (true,dQ s strip dJ parts++bB o (.agg cs)) else none
    | none=>none
  | none=>none
def rep (n:Nat) (z:List D):List D:=
  match n with
  | 0=>[]
  | n+1=>z++rep n z
def jk (E:Env) (o:Oper) (s:St) (T n:Nat) (parts:List (Nat×Operand)):Option (Bool×St):=
  match E.T T with
  | some i=>match i.desc with
    | .slice e=>match E.T e with
      | some ei=>match dW (fun j=>some (j*ei.size,ei.size)) s view (rep n ei.zero) parts with
        | some cs=>match sj ei.ty n cs with
          | some l=>bif Nat.ble (n*ei.size) 16777216&&Nat.beq ei.size ei.ty.nc&&Nat.blt 0 ei.size&&Nat.ble (n*ei.ty.mE) big then
              some (true,dQ s share jg parts++bB o (.sl 2 ei.ty l)) else none
          | none=>none
        | none=>none
      | none=>none
    | _=>none
  | none=>none
def jG (E:Env) (o:Oper) (s:St) (T n:Nat) (parts:List (Nat×Operand)):Option (Bool×St):=
  match E.T T,o.dst with
  | some i,some dst=>match i.desc with
    | .slice e=>match E.T e with
      | some ei=>match dW (fun j=>some (j*ei.size,ei.size)) s view (rep n ei.zero) parts with
        | some cs=>bif Nat.ble (n*ei.size) 16777216&&Nat.blt 0 ei.size then
            some (true,dQ s share jg parts++[(2*dst+1,.aH (aI (get s (2*dst+1))+1) true cs),(2*dst,.AJ dst (aI (get s (2*dst+1))+1) n)]) else none
        | none=>none
      | none=>none
    | _=>none
  | _,_=>none
def mk1 (agg:Bool) (ds:List D):Option D:=
  bif agg then some (.agg ds) else
  match ds with
  | [d]=>some d
  | _=>none
def Ka (t:Ty) (l:List t.den) (i0:Nat):Nat→List D
  | 0=>[]
  | n+1=>enc t (l.getD i0 t.dflt)++Ka t l (i0+1) n
theorem Ce {t:Ty} {l:List t.den}:∀ (n i0:Nat),i0+n≤l.length→Ka t l i0 n=((l.drop i0).take n).flatMap (enc t)
  | 0,i0,_=>by simp [Ka]
  | n+1,i0,h=>by
    have hlt:i0<l.length:=by omega
    rw [Ka,Ce n (i0+1) (by omega),List.drop_eq_getElem_cons hlt,List.take_succ_cons,List.flatMap_cons]
    have e:l.getD i0 t.dflt=l[i0]:=by simp [hlt]
    rw [e]
def Kc (n:Nat):(t:Ty)→List t.den→D
  | .int k,l=>bif Nat.blt 64 n then .av k l else .agg (l.flatMap (enc (.int k)))
  | t,l=>.agg (l.flatMap (enc t))
def AL (E:Env) (o:Oper) (s:St) (T:Nat) (x:Operand):Option (Bool×St):=
  match E.T T with
  | some i=>match aV s x with
    | .ptr id st off=>match get s (2*id+1) with
      | .aH st' true cs=>
        let ds:=(cs.drop off).take i.size
        bif Nat.beq st st' && Nat.beq ds.length i.size&&Nat.blt 0 i.size then
        (match tag E o with
        | 3=>match ds,o.dst with
          | [.sl f t l],some dst=>
            let st2:=aI (get s (2*dst+1))+1
            bif Nat.beq f 2&&Nat.blt 0 t.nc && !Nat.beq dst id && !i.agg then
              some (true,[(2*id+1,.aH st true (cZ cs off [.fM dst st2])),(2*dst+1,.aU st2 true false t l),(2*dst,.fM dst st2)]) else none
          | [.fM a b],_=>bif i.agg then none else some (true,bB o (.fM a b))
          | _,_=>none
        | 1=>match mk1 i.agg ds with
          | some d=>some (true,(2*id+1,.aH st true (cZ cs off (ds.map stripL)))::bB o d)
          | none=>none
        | _=>match mk1 i.agg (ds.map bU) with
          | some d=>some (true,(bif ds.any xH then [(2*id+1,.aH st true (cZ cs off (ds.map bO)))] else [])++bB o d)
          | none=>none) else none
      | .aU st' true true t l=>bif Nat.beq st st' && Nat.beq off 0&&i.agg&&Nat.beq t.nc 1 then
          some (Nat.beq l.length i.size,bB o (Kc i.size t l)) else none
      | _=>none
    | .kL id st i0 off es=>match get s (2*id+1) with
      | .aU st' true _ t l=>
        bif i.agg&&Nat.beq t.nc 1&&Nat.blt 1 i.size then
          (bif Nat.beq st st' && Nat.beq off 0&&Nat.beq es 1 then some (Nat.ble (i0+i.size) l.length,bB o (.agg (Ka t l i0 i.size))) else none) else
        match mk1 i.agg (((enc t (l.getD i0 t.dflt)).drop off).take i.size) with
        | some d=>bif Nat.beq st st' && Nat.beq es t.nc&&Nat.ble (off+i.size) t.nc then some (Nat.blt i0 l.length,bB o d) else none
        | none=>none
      | _=>none
    | .qO g off=>match E.glob g,i.desc with
      | some (k,l),.int k'=>bif iO k k' && !i.agg&&Nat.beq i.size 1 then some (Nat.blt off l.length,bB o (.int k (l.getD off 0))) else none
      | some (k,l),.struct _=>bif i.agg then some (Nat.ble (off+i.size) l.length,bB o (.agg (((l.drop off).take i.size).map (.int k)))) else none
      | _,_=>none
    | .gN t l i0 off=>
        match mk1 i.agg (((enc t (l.getD i0 t.dflt)).drop off).take i.size) with
        | some d=>bif Nat.ble (off+i.size) t.nc then some (true,bB o d) else none
        | none=>none
    | _=>none
  | none=>none
def uW (E:Env) (o:Oper) (s:St) (T:Nat) (x:Operand):Option (Bool×St):=
  match E.T T,o.dst with
  | some i,some dst=>match aV s x with
    | .kL id st i0 off es=>match get s (2*id+1) with
      | .iC st' l=>bif Nat.beq st st' && Nat.beq off 1&&Nat.beq es 2&&Nat.beq i.size 1 && !i.agg then
          some (Nat.blt i0 l.length,[(2*id+1,.aU st true false mq l),(2*dst,.sl 1 (.int .i64) (l.getD i0 (0,([],()))).2.1)]) else none
      | _=>none
    | _=>none
  | _,_=>none
def Ma (E:Env):Operand→Bool
  | .tmp t=>Nat.beq (E.md t) 2 || Nat.beq (E.md t) 5
  | _=>false
def Mc (E:Env) (x:Operand) (ds:List D):List D:=bif Ma E x then ds else ds.map bO
def p9 (E:Env) (_o:Oper) (s:St) (T:Nat) (a x:Operand):Option (Bool×St):=
  match E.T T with
  | some i=>
    let d:=bS i.ty (aV s x)
    bif fG d then
    match aV s a with
    | .ptr id st off=>match get s (2*id+1) with
      | .aH st' true cs=>
        let ds:=Mc E x (leaves d)
        bif Nat.beq st st' && Nat.beq ds.length i.size&&Nat.ble (off+i.size) cs.length then
          some (true,bZ s x strip dJ++[(2*id+1,.aH st true (cZ cs off ds))]) else none
      | .aU st' true true t l=>match sj t l.length (leaves (view d)) with
        | some l'=>bif Nat.beq st st' && Nat.beq off 0&&i.agg&&Nat.beq t.nc 1 then some (Nat.beq l.length i.size,bZ s x share jg++[(2*id+1,.aU st true true t l')]) else none
        | none=>none
      | _=>none
    | .kL id st i0 off es=>match get s (2*id+1) with
      | .aU st' true ar t l=>
        match dec t (cZ (enc t (l.getD i0 t.dflt)) off (leaves (view d))) with
        | some (v,[])=>bif Nat.beq st st' && Nat.beq es t.nc&&Nat.beq (leaves d).length i.size&&Nat.ble (off+i.size) t.nc then
            some (Nat.blt i0 l.length,bZ s x share jg++[(2*id+1,.aU st true ar t (l.set i0 v))]) else none
        | _=>none
      | _=>none
    | _=>none
    else none
  | none=>none
def mF (E:Env) (s:St) (T:Nat) (a:Operand) (k:IntKind) (l':List Int):Option (Bool×St):=
  match E.T T with
  | some i=>match aV s a with
    | .ptr id st off=>match get s (2*id+1) with
      | .aU st' true true (.int k') l=>bif Nat.beq st st' && Nat.beq off 0&&i.agg&&iO k k' then
          some (Nat.beq l.length i.size&&Nat.beq l'.length i.size,[(2*id+1,.aU st true true (.int k) (Q7 i.size l'))]) else none
      | _=>none
    | _=>none
  | none=>none
def uX (E:Env) (o:Oper) (s:St) (T:Nat) (a x:Operand):Option (Bool×St):=
  match aV s x with
  | .av k l'=>mF E s T a k l'
  | _=>p9 E o s T a x
def IK:D→Bool
  | .ptr _ _ _ | .kL _ _ _ _ _ | .qO _ _ | .gN _ _ _ _ | .LY _ _=>true
  | .fn _ _ | .Ai _=>true
  | _=>false
def kD (o:Oper) (s:St) (x:Operand):Option (Bool×St):=
  let d:=aV s x
  bif IK d then some (true,bB o d) else none
def arith (op:BinOp) (k:IntKind) (x y:Int):Option (Bool×D):=
  match op with
  | .add=>some (true,.int k (k.wrap (x+y)))
  | .sub=>some (true,.int k (k.wrap (x - y)))
  | .mul=>some (true,.int k (k.wrap (x*y)))
  | .quo=>some (!(y==0),.int k (k.wrap (x.tdiv y)))
  | .rem=>some (!(y==0),.int k (x.tmod y))
  | .and=>some (true,.int k (k.wrap (BitVec.ofInt k.bits x &&& BitVec.ofInt k.bits y).toNat))
  | .or=>some (true,.int k (k.wrap (BitVec.ofInt k.bits x ||| BitVec.ofInt k.bits y).toNat))
  | .xor=>some (true,.int k (k.wrap (BitVec.ofInt k.bits x ^^^ BitVec.ofInt k.bits y).toNat))
  | .andNot=>some (true,.int k (k.wrap (BitVec.ofInt k.bits x &&& ~~~BitVec.ofInt k.bits y).toNat))
  | .eql=>some (true,.bool (x==y))
  | .neq=>some (true,.bool (x != y))
  | .lss=>some (true,.bool (decide (x<y)))
  | .leq=>some (true,.bool (decide (x≤y)))
  | .gtr=>some (true,.bool (decide (x > y)))
  | .geq=>some (true,.bool (decide (x≥y)))
  | _=>none
def shifts (op:BinOp) (k:IntKind) (x y:Int):Option (Bool×D):=
  match op with
  | .shl=>some (decide (0≤y),.int k (k.wrap (x*2 ^ min y.toNat k.bits)))
  | .shr=>some (decide (0≤y),.int k (x.fdiv (2 ^ min y.toNat k.bits)))
  | _=>none
def IL:BinOp→Bool
  | .shl | .shr=>true
  | _=>false
def iF:List D→List D→Option Bool
  | [],[]=>some true
  | .int k x::r,.int k' y::r'=>bif iO k k' then (match iF r r' with | some b=>some ((x==y)&&b) | none=>none) else none
  | .bool x::r,.bool y::r'=>(match iF r r' with | some b=>some ((x==y)&&b) | none=>none)
  | .str x::r,.str y::r'=>(match iF r r' with | some b=>some ((x==y)&&b) | none=>none)
  | _,_=>none
def iw:List Int→List Int→Bool
  | _,[]=>false
  | [],_::_=>true
  | a::x,b::y=>decide (a<b) || ((a==b)&&iw x y)
def Md (op:BinOp) (x y:List Int):Option (Bool×D):=
  match op with
  | .add=>some (Nat.ble (x.length+y.length) iQ,.str (x++y))
  | .eql=>some (true,.bool (x==y))
  | .neq=>some (true,.bool (!(x==y)))
  | .lss=>some (true,.bool (iw x y))
  | .leq=>some (true,.bool (iw x y || x==y))
  | .gtr=>some (true,.bool (!(iw x y || x==y)))
  | .geq=>some (true,.bool (!iw x y))
  | _=>none
def Me:D→Nat→Bool
  | .int _ _,k=>Nat.beq k 0
  | .bool _,k=>Nat.beq k 1
  | .str _,k=>Nat.beq k 2
  | _,_=>false
def conf:List D→List Nat→Bool
  | [],[]=>true
  | d::r,k::ks=>Me d k&&conf r ks
  | _,_=>false
def Mf (E:Env) (T:Nat) (a:List D):Bool:=
  match E.T T with
  | some i=>match i.cmp with
    | some ks=>i.agg&&conf a ks
    | none=>false
  | none=>false
def Ke (E:Env) (o:Oper) (s:St) (op:BinOp) (xT:Nat) (x y:Operand):Option (Bool×St):=
  match aV s x,aV s y with
  | .int k a,.int k' b=>
    bif IL op then (match shifts op k a b with | some (g,d)=>some (g,bB o d) | none=>none)
    else bif iO k k' then (match arith op k a b with | some (g,d)=>some (g,bB o d) | none=>none) else none
  | .str a,.str b=>(match Md op a b with | some (g,d)=>some (g,bB o d) | none=>none)
  | .bool a,.bool b=>(match E.T xT with
    | some i=>(match i.desc,op with
      | .bool,.eql=>some (true,bB o (.bool (a==b)))
      | .bool,.neq=>some (true,bB o (.bool (!(a==b))))
      | _,_=>none)
    | none=>none)
  | .agg a,.agg b=>bif Mf E xT a then (match iF a b,op with
    | some r,.eql=>some (true,bB o (.bool r))
    | some r,.neq=>some (true,bB o (.bool (!r)))
    | _,_=>none) else none
  | _,_=>none
def aUn (o:Oper) (s:St) (op:UnOp) (x:Operand):Option (Bool×St):=
  match op,aV s x with
  | .not,.bool b=>some (true,bB o (.bool (!b)))
  | .neg,.int k n=>some (true,bB o (.int k (k.wrap (0 - n))))
  | .xor,.int k n=>some (true,bB o (.int k (k.wrap (BitVec.ofInt k.bits (if k.signed then -1 else k.max) ^^^ BitVec.ofInt k.bits n).toNat)))
  | _,_=>none
def lM (E:Env) (T:Nat):Bool:=
  match E.T T with
  | some i=>match i.desc with
    | .slice e=>match E.T e with
      | some ei=>match ei.desc with
        | .int .u8=>Nat.beq ei.size 1&&Nat.beq ei.bytes 1
        | _=>false
      | none=>false
    | _=>false
  | none=>false
def content (s:St):D→Option ((t:Ty)×List t.den)
  | .sl _ t l=>some ⟨t,l⟩
  | .fM id st=>match get s (2*id+1) with
    | .aU st' true false t l=>bif Nat.beq st st' then some ⟨t,l⟩ else none
    | .iC st' l=>bif Nat.beq st st' then some ⟨mq,l⟩ else none
    | _=>none
  | _=>none
def Cg:((t:Ty)×List t.den)→Option (List Int)
  | ⟨.int .u8,l⟩=>some l
  | _=>none
def AO (E:Env) (o:Oper) (s:St) (src dst:Nat) (x:Operand):Option (Bool×St):=
  match E.T src,E.T dst with
  | some a,some b=>match a.desc,b.desc,aV s x with
    | .int _,.int k,.int _ n=>some (true,bB o (.int k (k.wrap n)))
    | .string,.string,.str l=>some (true,bB o (.str l))
    | .string,.slice _,.str l=>bif lM E dst then some (Nat.ble l.length big,bB o (.sl 2 (.int .u8) l)) else none
    | .slice _,.string,.jf=>bif lM E src then some (true,bB o (.str [])) else none
    | .slice _,.string,d=>bif lM E src then (match content s d with
        | some c=>(match Cg c with | some l=>some (true,bB o (.str l)) | none=>none)
        | none=>none) else none
    | _,_,_=>none
  | _,_=>none
def jH (E:Env) (o:Oper) (s:St) (T:Nat) (l c:Operand):Option (Bool×St):=
  match E.T T with
  | some i=>match i.desc with
    | .slice e=>match E.T e with
      | some ei=>match dec ei.ty ei.zero,aV s l,aV s c with
        | some (z,[]),.int _ n,.int _ m=>
          bif Nat.beq ei.size ei.ty.nc&&Nat.beq ei.bytes ei.ty.mE&&Nat.blt 0 ei.size&&Nat.blt 0 ei.bytes then
            some (decide (0≤n)&&decide (n≤m)&&decide (m*ei.bytes≤big),bB o (.sl 2 ei.ty (List.replicate n.toNat z))) else none
        | _,_,_=>none
      | none=>none
    | _=>none
  | none=>none
def bound (s:St) (x:Option Operand) (z:Nat):Option Int:=
  match x with
  | none=>some z
  | some x=>match aV s x with
    | .int _ n=>some n
    | _=>none
def uY (E:Env) (o:Oper) (s:St) (T:Nat) (x:Operand) (lo hi:Option Operand):Option (Bool×St):=
  match E.T T with
  | some i=>match i.desc,aV s x with
    | .slice e,.sl _ t l=>match E.T e,bound s lo 0,bound s hi l.length with
      | some ei,some a,some b=>bif Nat.beq ei.size t.nc then
          some (decide (0≤a)&&decide (a≤b)&&decide (b≤(l.length:Int)),bZ s x share jg++bB o (.sl 0 t ((l.take b.toNat).drop a.toNat))) else none
      | _,_,_=>none
    | .string,.str l=>match bound s lo 0,bound s hi l.length with
      | some a,some b=>some (decide (0≤a)&&decide (a≤b)&&decide (b≤(l.length:Int)),bB o (.str ((l.take b.toNat).drop a.toNat)))
      | _,_=>none
    | _,_=>none
  | none=>none
def qb (E:Env) (o:Oper) (s:St) (T:Nat) (x:Operand) (lo:Option Operand) (hi mx:Operand):Option (Bool×St):=
  match E.T T with
  | some i=>match i.desc,aV s x with
    | .slice e,.sl _ t l=>match E.T e,bound s lo 0,bound s (some hi) l.length,bound s (some mx) 0 with
      | some ei,some a,some b,some m=>bif Nat.beq ei.size t.nc then
          some (decide (0≤a)&&decide (a≤b)&&decide (b≤(l.length:Int))&&decide (m=b),bZ s x share jg++bB o (.V9 t ((l.take b.toNat).drop a.toNat))) else none
      | _,_,_,_=>none
    | _,_=>none
  | none=>none
def qc (E:Env) (o:Oper) (s:St) (T:Nat) (x:Operand) (lo hi:Option Operand):Option (Bool×St):=
  match E.T T,aV s x,lo with
  | some i,.fM id st,none=>match i.desc,get s (2*id+1) with
    | .slice e,.aU st' true false t l=>match E.T e,bound s hi l.length with
      | some ei,some b=>bif Nat.beq st st' && Nat.beq ei.size t.nc then
          (bif Nat.beq (tag E o) 7 then
            (bif Nat.blt 0 t.mE then some (decide (0≤b)&&decide (b≤(l.length:Int)),bB o (.AJ id st b.toNat)) else none) else
          some (decide (0≤b)&&decide (b≤(l.length:Int)),(2*id+1,.aU st false false t [])::bB o (.sl 2 t (l.take b.toNat)))) else none
      | _,_=>none
    | _,_=>none
  | _,_,_=>none
def xJ (E:Env) (T f:Nat):Option Nat:=
  match E.T T with
  | some i=>match i.desc with
    | .struct fs=>match fs.toList[f]? with
      | some fd=>match E.T fd.type with
        | some fi=>bif Nat.blt 0 fi.size then some fd.offset else none
        | none=>none
      | none=>none
    | _=>none
  | none=>none
def jI (E:Env) (o:Oper) (s:St) (T:Nat) (x:Operand) (f:Nat):Option (Bool×St):=
  match xJ E T f with
  | some k=>match aV s x with
    | .ptr id st off=>some (true,bB o (.ptr id st (off+k)))
    | .kL id st i off es=>some (true,bB o (.kL id st i (off+k) es))
    | .qO g off=>some (true,bB o (.qO g (off+k)))
    | .gN t l i off=>some (true,bB o (.gN t l i (off+k)))
    | _=>none
  | none=>none
def uZ (E:Env) (o:Oper) (s:St) (T:Nat) (x:Operand) (f:Nat):Option (Bool×St):=
  match E.T T with
  | some i=>match i.desc with
    | .struct fs=>match fs.toList[f]? with
      | some fd=>match E.T fd.type,aV s x with
        | some fi,.agg cs=>
          let ds:=(cs.drop fd.offset).take fi.size
          bif Nat.beq ds.length fi.size then (match mk1 fi.agg (ds.map bU) with
            | some d=>some (true,bZ s x share jg++bB o d)
            | none=>none) else none
        | _,_=>none
      | none=>none
    | _=>none
  | none=>none
def jJ (E:Env) (o:Oper) (s:St) (T:Nat) (x i:Operand):Option (Bool×St):=
  match E.T T,aV s i with
  | some ti,.int _ n=>match ti.desc with
    | .slice e=>match E.T e with
      | some ei=>match aV s x with
        | .sl _ t l=>bif Nat.beq ei.size t.nc then
            some (decide (0≤n)&&decide (n<(l.length:Int)),bZ s x share jg++bB o (.gN t l n.toNat 0)) else none
        | .fM id st=>match get s (2*id+1) with
          | .aU st' true false t l=>bif Nat.beq st st' && Nat.beq ei.size t.nc then
              some (decide (0≤n)&&decide (n<(l.length:Int)),bB o (.kL id st n.toNat 0 ei.size)) else none
          | .iC st' l=>bif Nat.beq st st' && Nat.beq ei.size 2 then
              some (decide (0≤n)&&decide (n<(l.length:Int)),bB o (.kL id st n.toNat 0 2)) else none
          | _=>none
        | .AJ id st m=>match get s (2*id+1) with
          | .aU st' true false t l=>bif Nat.beq st st' && Nat.beq ei.size t.nc then
              some (decide (0≤n)&&decide (n<(m:Int)),bB o (.kL id st n.toNat 0 ei.size)) else none
          | .aH st' true cs=>bif Nat.beq st st' then
              some (decide (0≤n)&&decide (n<(m:Int)),bB o (.ptr id st (n.toNat*ei.size))) else none
          | _=>none
        | _=>none
      | none=>none
    | .array len e=>match E.T e with
      | some ei=>match aV s x with
        | .ptr id st off=>match get s (2*id+1) with
          | .aU st' true true t _=>bif Nat.beq st st' && Nat.beq off 0 then
              (bif Nat.beq t.nc 1 then some (decide (0≤n)&&decide (n<(len:Int)),bB o (.kL id st (n.toNat*ei.size) 0 1))
               else some (decide (0≤n)&&decide (n<(len:Int)),bB o (.kL id st n.toNat 0 ei.size))) else none
          | .aH _ _ _=>some (decide (0≤n)&&decide (n<(len:Int)),bB o (.ptr id st (off+n.toNat*ei.size)))
          | _=>none
        | .kL id st i0 off es=>bif Nat.beq off 0&&Nat.beq es 1 then
            some (decide (0≤n)&&decide (n<(len:Int)),bB o (.kL id st (i0+n.toNat*ei.size) 0 1)) else none
        | .qO g off=>some (decide (0≤n)&&decide (n<(len:Int)),bB o (.qO g (off+n.toNat*ei.size)))
        | .gN t l j off=>some (decide (0≤n)&&decide (n<(len:Int)),bB o (.gN t l j (off+n.toNat*ei.size)))
        | .LY k l=>bif Nat.beq ei.size 1 then some (decide (0≤n)&&decide (n<(len:Int))&&Nat.blt n.toNat l.length,bB o (.gN (.int k) l n.toNat 0)) else none
        | _=>none
      | none=>none
    | _=>none
  | _,_=>none
def u6 (E:Env) (o:Oper) (s:St) (T:Nat) (x i:Operand):Option (Bool×St):=
  match E.T T,aV s i with
  | some ti,.int _ n=>match ti.desc,aV s x with
    | .array len e,.agg cs=>match E.T e with
      | some ei=>match ei.desc with
        | .int k=>match pY k cs with
          | some l=>bif Nat.beq ei.size 1 && !ei.agg&&Nat.beq l.length len then
              some (decide (0≤n)&&decide (n<(len:Int)),bB o (.int k (l.getD n.toNat 0))) else none
          | none=>none
        | _=>none
      | none=>none
    | .array len e,.av k l=>match E.T e with
      | some ei=>bif Nat.beq ei.size 1 && !ei.agg then
          some (decide (0≤n)&&decide (n<(len:Int))&&Nat.beq l.length len,bB o (.int k (l.getD n.toNat 0))) else none
      | none=>none
    | .string,.str l=>some (decide (0≤n)&&decide (n<(l.length:Int)),bB o (.int .u8 (l.getD n.toNat 0)))
    | _,_=>none
  | _,_=>none
def mG (o:Oper) (s:St) (x:Operand) (i:Nat):Option (Bool×St):=
  match x,aV s x with
  | .tmp t,.gB vs=>match vs[i]? with
    | some d=>some (true,(bif dJ d then [(2*t,.gB (vs.set i .undef))] else [])++bB o d)
    | none=>none
  | _,_=>none
def kE (o:Oper) (s:St) (fn:Fn) (first caps:List Operand):Option (Bool×St):=
  match fn,first,caps with
  | .func f,[],[x]=>match aV s x with
    | .gN t [v] 0 0=>some (true,bB o (.fO f t v))
    | _=>none
  | _,_,_=>none
def Kg (E:Env) (s:St) (T:Nat) (d:D):Option Nat:=
  match E.T T with
  | some i=>match i.desc,d with
    | .string,.str l=>some l.length
    | .array n _,_=>bif Nat.ble n iQ then some n else none
    | .slice _,.jf=>some 0
    | .slice _,.AJ _ _ n=>some n
    | .slice _,d=>match content s d with
      | some ⟨t,l⟩=>bif Nat.blt 0 t.mE then some l.length else none
      | none=>none
    | _,_=>none
  | none=>none
def tail (s:St) (t:Ty):D→Option (List t.den)
  | .jf=>some []
  | .str l=>match t with
    | .int .u8=>some l
    | _=>none
  | d=>match content s d with
    | some ⟨t',l⟩=>if h:t'.beq t=true then some (kM (Ty.eq_of_beq h) l) else none
    | none=>none
def IQ (E:Env) (T:Nat):Bool:=
  match E.T T with
  | some i=>match i.desc with
    | .slice _=>true
    | .string=>true
    | _=>false
  | none=>false
def qd (E:Env) (o:Oper) (s:St) (T:Nat) (x y:Operand):Option (Bool×St):=
  match E.T T with
  | some i=>match i.desc with
    | .slice e=>match E.T e with
      | some ei=>
        bif Nat.beq ei.size ei.ty.nc&&Nat.beq ei.bytes ei.ty.mE&&Nat.blt 0 ei.size&&Nat.blt 0 ei.bytes then
        (match aV s x with
        | .jf=>match tail s ei.ty (aV s y) with
          | some l'=>some (Nat.ble (l'.length*ei.bytes) big,bB o (.sl 2 ei.ty l'))
          | none=>none
        | .sl f t l=>bif Nat.beq f 0 then none else
          match tail s t (aV s y),x with
          | some l',.tmp a=>bif t.beq ei.ty then some (Nat.ble ((l.length+l'.length)*ei.bytes) big,(2*a,.undef)::bB o (.sl f t (l++l'))) else none
          | _,_=>none
        | .fM id st=>match get s (2*id+1) with
          | .aU st' true false t l=>match tail s t (aV s y) with
            | some l'=>bif Nat.beq st st' && t.beq ei.ty then some (Nat.ble ((l.length+l'.length)*ei.bytes) big,(2*id+1,.aU st false false t [])::bB o (.sl 2 t (l++l'))) else none
            | none=>none
          | _=>none
        | .V9 t l=>match tail s t (aV s y) with
          | some l'=>bif t.beq ei.ty then some (Nat.blt 0 l'.length&&Nat.ble ((l.length+l'.length)*ei.bytes) big,bB o (.sl 2 t (l++l'))) else none
          | none=>none
        | _=>none) else none
      | none=>none
    | _=>none
  | none=>none
def AP (E:Env) (o:Oper) (s:St) (T:Nat) (x y:Operand):Option (Bool×St):=
  match E.T T with
  | some i=>match i.desc with
    | .slice e=>match E.T e with
      | some ei=>match aV s x with
        | .fM id st=>match get s (2*id+1) with
          | .aU st' true false t l=>match tail s t (aV s y) with
            | some l'=>bif Nat.beq st st' && Nat.beq ei.size t.nc&&Nat.blt 0 t.mE then
                some (true,(2*id+1,.aU st true false t (l'.take l.length++l.drop l'.length))::bB o (.int .i64 (min l'.length l.length:Nat))) else none
            | none=>none
          | _=>none
        | _=>none
      | none=>none
    | _=>none
  | none=>none
def su (lt:Int→Int→Bool) (k:IntKind) (m:Int):List D→Option Int
  | []=>some m
  | .int k' n::r=>bif iO k k' then su lt k (bif lt n m then n else m) r else none
  | _::_=>none
def Gt (o:Oper) (s:St) (lt:Int→Int→Bool) (xs:List Operand):Option (Bool×St):=
  match xs.map (aV s) with
  | .int k n::r=>match su lt k n r with
    | some m=>some (true,bB o (.int k m))
    | none=>none
  | _=>none
def mH (E:Env) (o:Oper) (s:St) (b:Builtin) (args:List Operand) (ts:List Nat):Option (Bool×St):=
  match b,args,ts with
  | .len,[x],[T]=>match Kg E s T (aV s x) with
    | some n=>some (true,bB o (.int .i64 n))
    | none=>none
  | .append,[x,y],[T,T']=>bif IQ E T' then qd E o s T x y else none
  | .copy,[x,y],[T,_]=>AP E o s T x y
  | .min,xs,_=>Gt o s (fun a b=>decide (a<b)) xs
  | .max,xs,_=>Gt o s (fun a b=>decide (b<a)) xs
  | _,_,_=>none
def act (E:Env) (o:Oper) (s:St):Option (Bool×St):=
  match o.op with
  | .move x=>bif Nat.beq (tag E o) 9 then uU E o s x else kN E o s x
  | .assign x=>nH E o s x
  | .alloc T=>ru E o s T
  | .box T x=>Gs E o s T x
  | .build T ps=>uV E o s T ps.toList
  | .buildSlice T n ps=>bif Nat.beq (tag E o) 8 then jG E o s T n ps.toList else jk E o s T n ps.toList
  | .load T x=>bif Nat.beq (tag E o) 11 then uW E o s T x else AL E o s T x
  | .store T a x=>uX E o s T a x
  | .nilCheck x=>kD o s x
  | .binOp op xT x y _=>Ke E o s op xT x y
  | .unOp op _ x=>aUn o s op x
  | .convert a b x=>AO E o s a b x
  | .makeSlice T l c=>jH E o s T l c
  | .slice T x lo hi none=>match aV s x with
    | .fM _ _=>qc E o s T x lo hi
    | _=>uY E o s T x lo hi
  | .slice T x lo (some hi) (some mx)=>qb E o s T x lo hi mx
  | .fieldAddr T x f=>jI E o s T x f
  | .field T x f=>uZ E o s T x f
  | .indexAddr T x i=>jJ E o s T x i
  | .index T x i=>u6 E o s T x i
  | .extract x i=>mG o s x i
  | .makeFunc fn first caps=>kE o s fn first.toList caps.toList
  | .call c=>match c.callee with
    | .builtin b=>mH E o s b c.args.toList c.argTypes.toList
    | _=>none
  | _=>none
end Go.aW
namespace Go.aW
def bK:Nat→(Nat→Nat)→Nat
  | 0,_=>0
  | n+1,f=>bK n f+f n
theorem aM {n:Nat} {f g:Nat→Nat} (h:∀ i,i<n→f i=g i):bK n f=bK n g:=by
  induction n with
  | zero=>rfl
  | succ n ih=>simp only [bK];rw [ih fun i hi=>h i (by omega),h n (by omega)]
theorem mI {n:Nat} {f:Nat→Nat} {i:Nat} (h:i<n):f i≤bK n f:=by
  induction n with
  | zero=>omega
  | succ n ih=>
    simp only [bK]
    by_cases hi:i=n
    · subst hi;omega
    · have:=ih (by omega);omega
theorem bM {n:Nat} {f g:Nat→Nat} {x:Nat} (hx:x<n) (h:∀ i,i≠x→g i=f i):bK n g+f x=bK n f+g x:=by
  induction n with
  | zero=>omega
  | succ n ih=>
    simp only [bK]
    by_cases hn:x=n
    · subst hn
      have:bK x g=bK x f:=aM fun i hi=>h i (by omega)
      omega
    · have:=ih (by omega)
      have:=h n (by omega)
      omega
theorem mJ {n:Nat} {f g:Nat→Nat} {x y:Nat} (hx:x<n) (hy:y<n) (hxy:x≠y) (h:∀ i,i≠x→i≠y→g i=f i) :
    bK n g+f x+f y=bK n f+g x+g y:=by
  have h1:=bM (f:=f) (g:=fun i=>if i=x then g x else f i) hx (fun i hi=>if_neg hi)
  have h2:=bM (f:=fun i=>if i=x then g x else f i) (g:=g) hy (fun i hi=>by
    by_cases hix:i=x
    · rw [if_pos hix,hix]
    · rw [if_neg hix];exact h i hix hi)
  rw [if_pos rfl] at h1
  rw [if_neg (Ne.symm hxy)] at h2
  omega
structure Ctx where
  m:Nat
  w0:World
  G0:Nat→Nat
  X:Nat→Prop
  pin:Option Value
def cT (s:St) (a:Act) (b t:Nat):Nat:=cO b (get s (2*t)) (a.tmps.getD t undef)
def cB (s:St) (w:World) (pt:Nat→Nat→Option Value) (b id:Nat):Nat:=fI w pt b id (get s (2*id+1))
def TC (n m:Nat) (s:St) (a:Act) (w:World) (pt:Nat→Nat→Option Value) (b:Nat):Nat:=
  bK n (cT s a b)+bK m (cB s w pt b)
structure Rel (E:Env) (C:Ctx) (s:St) (a:Act) (w:World) (G:Nat→Nat) (pt:Nat→Nat→Option Value):Prop where
  sz:a.tmps.size=E.n
  df:a.defers=[]
  tm:∀ t,aY w G pt (get s (2*t)) (a.tmps.getD t undef)
  bx:∀ id,oD w G pt id (get s (2*id+1))
  ht:∀ t,E.n≤t→get s (2*t) = .undef
  hb:∀ id,C.m≤id→get s (2*id+1) = .undef
  ct:∀ b,TC E.n C.m s a w pt b≤1
  cb:∀ b,0<TC E.n C.m s a w pt b→b<w.heap.size∧(C.w0.heap.size≤b∨C.X b)
  fr:∀ b,b<C.w0.heap.size→¬ C.X b→w.heap[b]? = C.w0.heap[b]?∧G b=C.G0 b
  ex:Ext C.w0 C.G0 w G
  gz:∀ b,w.heap.size≤b→G b=0
  os:w.os=C.w0.os
  out:w.output=C.w0.output
  tape:w.tape=C.w0.tape
  hs:C.w0.heap.size≤w.heap.size
  pf:∀ id st,aI (get s (2*id+1))<st→pt id st=none
  gl:∀ g k l,E.glob g=some (k,l)→l.length≤G g∧∀ j (h:j<l.length),w.cell? ⟨g,j,none⟩=some (.int k l[j])∧k.has l[j]
  pn:∀ v,C.pin=some v→pt 0 1=some v
theorem dG (b:Nat) (v:Value):cO b .undef v=0:=by cases v<;>rfl
section
variable {E:Env} {C:Ctx} {s:St} {a:Act} {w:World} {G:Nat→Nat} {pt:Nat→Nat→Option Value}
theorem Rel.lN (R:Rel E C s a w G pt) (b t:Nat):cT s a b t≤TC E.n C.m s a w pt b:=by
  by_cases h:t<E.n
  · exact Nat.le_trans (mI (f:=cT s a b) h) (Nat.le_add_right _ _)
  · have:cT s a b t=0:=by rw [cT,R.ht t (by omega)];exact dG b _
    omega
theorem Rel.gJ (R:Rel E C s a w G pt) (b id:Nat):cB s w pt b id≤TC E.n C.m s a w pt b:=by
  by_cases h:id<C.m
  · exact Nat.le_trans (mI (f:=cB s w pt b) h) (Nat.le_add_left _ _)
  · have:cB s w pt b id=0:=by rw [cB,R.hb id (by omega)];rfl
    omega
theorem Rel.tt (R:Rel E C s a w G pt) {b t u:Nat} (h:0<cT s a b t) (hu:u≠t):cT s a b u=0:=by
  by_cases h1:t<E.n
  · by_cases h2:u<E.n
    · have h3:=mJ (f:=cT s a b) (g:=fun i=>if i=t∨i=u then 0 else cT s a b i) h1 h2 (Ne.symm hu)
        (fun i hi hj=>if_neg (by simp [hi,hj]))
      have h4:=R.ct b
      simp at h3
      unfold TC at h4
      omega
    · rw [cT,R.ht u (by omega)];exact dG b _
  · rw [cT,R.ht t (by omega),dG] at h
    omega
theorem Rel.tb (R:Rel E C s a w G pt) {b t:Nat} (h:0<cT s a b t) (id:Nat):cB s w pt b id=0:=by
  by_cases h1:t<E.n
  · by_cases h2:id<C.m
    · have h3:=mI (f:=cT s a b) h1
      have h4:=mI (f:=cB s w pt b) h2
      have h5:=R.ct b
      unfold TC at h5
      omega
    · rw [cB,R.hb id (by omega)];rfl
  · rw [cT,R.ht t (by omega),dG] at h
    omega
theorem Rel.bt (R:Rel E C s a w G pt) {b id:Nat} (h:0<cB s w pt b id) (t:Nat):cT s a b t=0:=by
  rcases Nat.eq_zero_or_pos (cT s a b t) with h1 | h1
  · exact h1
  · have:=R.tb h1 id;omega
theorem Rel.bb (R:Rel E C s a w G pt) {b t u:Nat} (h:0<cB s w pt b t) (hu:u≠t):cB s w pt b u=0:=by
  by_cases h1:t<C.m
  · by_cases h2:u<C.m
    · have h3:=mJ (f:=cB s w pt b) (g:=fun i=>if i=t∨i=u then 0 else cB s w pt b i) h1 h2 (Ne.symm hu)
        (fun i hi hj=>if_neg (by simp [hi,hj]))
      have h4:=R.ct b
      simp at h3
      unfold TC at h4
      omega
    · rw [cB,R.hb u (by omega)];rfl
  · rw [cB,R.hb t (by omega)] at h
    exact absurd h (by simp [fI])
theorem Rel.step (R:Rel E C s a w G pt) {s':St} {a':Act} {w':World} {G':Nat→Nat} {bJ:Nat→Nat→Option Value}
    (U V:Nat→Prop) (T:Nat→Prop)
    (hsz:a'.tmps.size=a.tmps.size) (hdf:a'.defers=[])
    (hgt:∀ t,¬ U t→get s' (2*t)=get s (2*t)∧a'.tmps.getD t undef=a.tmps.getD t undef)
    (hgb:∀ id,¬ V id→get s' (2*id+1)=get s (2*id+1)∧bJ id=pt id)
    (hE:Ext w G w' G') (hpt:∀ id st v,pt id st=some v→bJ id st=some v)
    (hT:∀ b,¬ T b→b<w.heap.size→w'.heap[b]? = w.heap[b]?∧G' b=G b)
    (hxt:∀ b,T b→∀ t,¬ U t→cT s a b t=0)
    (hxb:∀ b,T b→∀ id,¬ V id→cB s w pt b id=0)
    (hTf:∀ b,T b→C.w0.heap.size≤b∨C.X b)
    (Mg:∀ t,U t→t<E.n∧aY w' G' bJ (get s' (2*t)) (a'.tmps.getD t undef))
    (hbx:∀ id,V id→id<C.m∧oD w' G' bJ id (get s' (2*id+1))∧∀ st,aI (get s' (2*id+1))<st→bJ id st=none)
    (hct:(∀ t,¬ U t→∀ b,cT s' a' b t=cT s a b t)→(∀ id,¬ V id→∀ b,cB s' w' bJ b id=cB s w pt b id) →
      ∀ b,TC E.n C.m s' a' w' bJ b≤1∧(0<TC E.n C.m s' a' w' bJ b→b<w'.heap.size∧(C.w0.heap.size≤b∨C.X b)))
    (hgz:∀ b,w'.heap.size≤b→G' b=0) (hos:w'.os=w.os) (hout:w'.output=w.output) (htp:w'.tape=w.tape) (Mh:w.heap.size≤w'.heap.size) :
    Rel E C s' a' w' G' bJ:=by
  have old:∀ b,0<TC E.n C.m s a w pt b→b<w.heap.size:=fun b h=>(R.cb b h).1
  have ut:∀ t,¬ U t→∀ b,0<cT s a b t→w'.heap[b]? = w.heap[b]?∧G' b=G b:=by
    intro t ht b hb
    refine hT b (fun hTb=>?_) (old b (Nat.lt_of_lt_of_le hb (R.lN b t)))
    have:=hxt b hTb t ht
    omega
  have ub:∀ id,¬ V id→∀ b,0<cB s w pt b id→w'.heap[b]? = w.heap[b]?∧G' b=G b:=by
    intro id hid b hb
    refine hT b (fun hTb=>?_) (old b (Nat.lt_of_lt_of_le hb (R.gJ b id)))
    have:=hxb b hTb id hid
    omega
  have c1:∀ t,¬ U t→∀ b,cT s' a' b t=cT s a b t:=by
    intro t ht b
    obtain ⟨h1,h2⟩:=hgt t ht
    simp only [cT,h1,h2]
  have c2:∀ id,¬ V id→∀ b,cB s' w' bJ b id=cB s w pt b id:=by
    intro id hid b
    obtain ⟨h1,h2⟩:=hgb id hid
    simp only [cB,h1]
    exact xI hpt (R.bx id) (ub id hid) b
  have hc:=hct c1 c2
  refine ⟨hsz.trans R.sz,hdf,fun t=>?_,fun id=>?_,fun t ht=>?_,fun id hid=>?_,fun b=>(hc b).1,fun b=>(hc b).2,fun b hb hX=>?_,R.ex.trans hE,hgz,hos.trans R.os,hout.trans R.out,
    htp.trans R.tape,Nat.le_trans R.hs Mh,fun id st h=>?_,fun g k l h=>?_,fun v h=>hpt _ _ _ (R.pn v h)⟩
  · by_cases hU:U t
    · exact (Mg t hU).2
    · obtain ⟨h1,h2⟩:=hgt t hU
      rw [h1,h2]
      exact (R.tm t).mono hE hpt (ut t hU)
  · by_cases hV:V id
    · exact (hbx id hV).2.1
    · rw [(hgb id hV).1]
      exact (R.bx id).mono hE hpt (ub id hV)
  · by_cases hU:U t
    · have:=(Mg t hU).1;omega
    · rw [(hgt t hU).1];exact R.ht t ht
  · by_cases hV:V id
    · have:=(hbx id hV).1;omega
    · rw [(hgb id hV).1];exact R.hb id hid
  · obtain ⟨h1,h2⟩:=R.fr b hb hX
    have hnT:¬ T b:=fun h=>by rcases hTf b h with h | h;omega;exact hX h
    obtain ⟨h3,h4⟩:=hT b hnT (Nat.lt_of_lt_of_le hb R.hs)
    exact ⟨h3.trans h1,h4.trans h2⟩
  · by_cases hV:V id
    · exact (hbx id hV).2.2 st h
    · rw [(hgb id hV).1] at h
      rw [(hgb id hV).2]
      exact R.pf id st h
  · obtain ⟨h1,h2⟩:=R.gl g k l h
    refine ⟨Nat.le_trans h1 (hE.le g),fun j hj=>?_⟩
    rw [hE.cell g j (by omega)]
    exact h2 j hj
end
end Go.aW
namespace Go.aW
theorem eX (a b:Nat):Nat.beq a b=decide (a=b):=by
  cases h:Nat.beq a b with
  | true=>simp [Nat.eq_of_beq_eq_true h]
  | false=>simp [Nat.ne_of_beq_eq_false h]
theorem aF (s:St) (l m:Nat) (d:D):get ((l,d)::s) m=if m=l then d else get s m:=by
  simp only [get,eX]
  by_cases h:m=l<;>simp [h]
@[simp] theorem bV (s:St) (t u:Nat) (d:D):get ((2*t,d)::s) (2*u)=if u=t then d else get s (2*u):=by
  rw [aF]
  by_cases h:u=t
  · rw [if_pos h,if_pos (by omega)]
  · rw [if_neg h,if_neg (by omega)]
@[simp] theorem gD (s:St) (t u:Nat) (d:D):get ((2*t,d)::s) (2*u+1)=get s (2*u+1):=by
  rw [aF,if_neg (by omega)]
@[simp] theorem get_bt (s:St) (t u:Nat) (d:D):get ((2*t+1,d)::s) (2*u)=get s (2*u):=by
  rw [aF,if_neg (by omega)]
@[simp] theorem bG (s:St) (t u:Nat) (d:D):get ((2*t+1,d)::s) (2*u+1)=if u=t then d else get s (2*u+1):=by
  rw [aF]
  by_cases h:u=t
  · rw [if_pos h,if_pos (by omega)]
  · rw [if_neg h,if_neg (by omega)]
def ak:St→St→St
  | [],s=>s
  | p::r,s=>ak r (p::s)
theorem aP (a b s:St):ak (a++b) s=ak b (ak a s):=by
  induction a generalizing s with
  | nil=>rfl
  | cons p a ih=>exact ih (p::s)
theorem eY (a:Act) (t u:Nat) (v:Value) (h:t<a.tmps.size) :
    (a.put (some t) v).tmps.getD u undef=if u=t then v else a.tmps.getD u undef:=by
  simp only [Act.put,Array.getD_eq_getD_getElem?,Array.getElem?_setIfInBounds]
  by_cases hu:u=t
  · subst hu;simp [h]
  · simp [Ne.symm hu,hu]
@[simp] theorem abg (a:Act) (v:Value):a.put none v=a:=rfl
@[simp] theorem abh (a:Act) (o:Option Tmp) (v:Value):(a.put o v).tmps.size=a.tmps.size:=by
  cases o<;>simp [Act.put]
@[simp] theorem put_defers (a:Act) (o:Option Tmp) (v:Value):(a.put o v).defers=a.defers:=by
  cases o<;>simp [Act.put]
section
variable {w:World} {G:Nat→Nat} {pt:Nat→Nat→Option Value}
def mK (G:Nat→Nat) (d:D) (v:Value):Nat→Nat:=
  match d,v with
  | .sl 2 t l,.slice (some a) _ _=>fun b=>if b=a.block then l.length*t.nc else G b
  | _,_=>G
def kP (G:Nat→Nat):List D→(Nat→Value)→Nat→Nat
  | [],_=>G
  | d::r,f=>kP (mK G d (f 0)) r (fun i=>f (i+1))
theorem u7 (b:Nat) (d:D) (v:Value):dw b (bO d) v=dw b d v:=by
  cases d with
  | sl f t l=>
    cases v<;>try rfl
    rename_i a n c
    cases a<;>try rfl
    rename_i a
    simp only [bO,dw]
    by_cases h:f=2
    · subst h;simp
    · rw [show Nat.beq f 2=false by rw [eX];simp [h]];rfl
  | _=>rfl
theorem mM (b:Nat) (d:D) (v:Value):dw b (bU d) v=0:=by
  cases d with
  | sl f t l=>
    cases v<;>try rfl
    rename_i a n c
    cases a<;>rfl
  | _=>cases v<;>rfl
theorem jK (b:Nat) (d:D) (v:Value):dw b (stripL d) v=0:=by
  cases d with
  | sl f t l=>
    simp only [stripL,eX]
    by_cases h:f=0
    · subst h
      cases v<;>try rfl
      rename_i a n c
      cases a<;>rfl
    · simp only [h,decide_false,cond_false]
      cases v<;>rfl
  | _=>cases v<;>rfl
theorem oK {d:D} {v:Value} {b:Nat} (h:dw b d v=0):mK G d v b=G b:=by
  unfold mK
  split
  · rename_i t l a n c
    simp only [dw] at h
    by_cases hb:b=a.block
    · subst hb;simp at h
    · simp [hb]
  · rfl
theorem fP:∀ {ds:List D} {f:Nat→Value} {G:Nat→Nat} {b:Nat},aK b ds f=0→kP G ds f b=G b
  | [],_,_,_,_=>rfl
  | d::r,f,G,b,h=>by
    simp only [aK] at h
    simp only [kP]
    rw [fP (by omega),oK (by omega)]
theorem Mi {d:D} {v:Value} (h:bI w G pt d v) (b:Nat):G b≤mK G d v b:=by
  unfold mK
  split
  · rename_i t l a n c
    obtain ⟨a',n',c',h1,h2,h3,h4⟩:=h
    injection h1 with h1 h1' aks
    subst h1
    rcases h4 with ⟨h5,_⟩ | ⟨b',h5,h6,_⟩
    · cases h5
    · injection h5 with h5
      subst h5
      by_cases hb:b=b'
      · subst hb;simp [h6]
      · simp [hb]
  · exact Nat.le_refl _
theorem AQ {d:D} {v:Value} (h:bI w G pt d v):Ext w G w (mK G d v):=⟨fun _ _ _=>rfl,Mi h⟩
theorem bI.share {d:D} {v:Value} (h:bI w G pt d v):bI w (mK G d v) pt (bO d) v:=by
  cases d with
  | sl f t l=>
    obtain ⟨a,n,c,h1,h2,h3,h4⟩:=h
    subst h1
    simp only [bO,eX]
    by_cases hf:f=2
    · subst hf
      simp only [decide_true,cond_true]
      refine ⟨a,n,c,rfl,h2,h3,?_⟩
      rcases h4 with h4 | ⟨b,h5,h6,h7,h8,h9,h10⟩
      · exact .inl h4
      · subst h5
        refine .inr ⟨b,rfl,?_,h7,h8,?_,h10⟩
        · simp [mK]
        · refine h9.mono ⟨fun _ _ _=>rfl,fun b'=>?_⟩ fun _ _ _=>rfl
          simp only [mK]
          by_cases hb:b' = b
          · subst hb;simp [h6]
          · simp [hb]
    · simp only [hf,decide_false,cond_false]
      have:mK G (.sl f t l) (.slice a n c)=G:=by
        unfold mK
        split
        · rename_i h _ ;injection h with h;exact absurd h hf
        · rfl
      rw [this]
      exact ⟨a,n,c,rfl,h2,h3,h4⟩
  | _=>exact h
theorem aQ.share:∀ {ds:List D} {f:Nat→Value} {G:Nat→Nat},aQ w G pt ds f→(∀ b,aK b ds f≤1) →
    Ext w G w (kP G ds f)∧aQ w (kP G ds f) pt (ds.map bO) f
  | [],f,G,_,_=>⟨Ext.refl _ _,fun j hj=>by simp at hj⟩
  | d::r,f,G,h,hc=>by
    have h0:bI w G pt d (f 0):=(h 0 (by simp)).1
    have e0:=AQ h0
    have hr:aQ w G pt r (fun i=>f (i+1)):=fun j hj=>by
      have:=h (j+1) (by simpa using hj)
      simpa using this
    have hr':aQ w (mK G d (f 0)) pt r (fun i=>f (i+1)):=hr.mono e0 (fun _ _ _ h=>h) (fun _ _=>rfl) fun b hb=>
      ⟨rfl,oK (by have:=hc b;simp only [aK] at this;omega)⟩
    obtain ⟨e1,h1⟩:=aQ.share hr' fun b=>by have:=hc b;simp only [aK] at this;omega
    refine ⟨e0.trans e1,fun j hj=>?_⟩
    match j,hj with
    | 0,_=>
      simp only [List.map_cons,List.getElem_cons_zero]
      refine ⟨h0.share.mono e1 (fun _ _ _ h=>h) fun b hb=>⟨rfl,?_⟩,(h 0 (by simp)).2⟩
      rw [u7] at hb
      exact fP (by have:=hc b;simp only [aK] at this;omega)
    | j+1,hj=>
      have:=h1 j (by simpa using hj)
      simp only [List.map_cons,List.getElem_cons_succ,kP]
      exact this
theorem bI.view {d:D} {v:Value} (h:bI w G pt (bO d) v):bI w G pt (bU d) v:=by
  cases d with
  | sl f t l=>
    simp only [bO,bU,eX] at h ⊢
    have key:∀ f',f'≠2→bI w G pt (.sl f' t l) v→bI w G pt (.sl 0 t l) v:=by
      intro f' hf' h
      obtain ⟨a,n,c,h1,h2,h3,h4⟩:=h
      refine ⟨a,n,c,h1,h2,h3,?_⟩
      match f',hf',h4 with
      | 0,_,h4=>exact h4
      | 1,_,h4=>
        rcases h4 with ⟨h5,h6,h7⟩ | ⟨b,h5,h6,h7,h8,h9,h10⟩
        · subst h6;exact ⟨by simp,.inl rfl⟩
        · exact ⟨h8,.inr ⟨b,0,h5,by omega,h9⟩⟩
      | (k+3),_,h4=>exact h4.elim
    by_cases hf:f=2
    · subst hf
      simp only [decide_true,cond_true] at h
      exact key 1 (by omega) h
    · simp only [hf,decide_false,cond_false] at h
      exact key f hf h
  | _=>exact h
theorem bI.strip {d:D} {v:Value} (h:bI w G pt d v):bI w G pt (stripL d) v:=by
  cases d with
  | sl f t l=>
    simp only [stripL,eX]
    by_cases hf:f=0
    · subst hf;exact h
    · simp only [hf,decide_false,cond_false];trivial
  | _=>exact h
theorem aQ.map {ds:List D} {f:Nat→Value} {g:D→D} (h:aQ w G pt ds f) (hg:∀ d v,bI w G pt d v→bI w G pt (g d) v):aQ w G pt (ds.map g) f:=by
  intro j hj
  simp only [List.getElem_map]
  have:=h j (by simpa using hj)
  exact ⟨hg _ _ this.1,this.2⟩
theorem gV {g:D→D} (hg:∀ b d v,dw b (g d) v=0) (b:Nat):∀ (ds:List D) (f:Nat→Value),aK b (ds.map g) f=0
  | [],_=>rfl
  | d::r,f=>by simp only [List.map_cons,aK,hg,gV hg b r]
theorem kQ (b:Nat):∀ (ds:List D) (f:Nat→Value),aK b (ds.map bO) f=aK b ds f
  | [],_=>rfl
  | d::r,f=>by simp only [List.map_cons,aK,u7,kQ b r]
theorem aQ.view {ds:List D} {f:Nat→Value} (h:aQ w G pt (ds.map bO) f):aQ w G pt (ds.map bU) f:=by
  intro j hj
  have:=h j (by simpa using hj)
  simp only [List.getElem_map] at this ⊢
  exact ⟨this.1.view,this.2⟩
theorem sw (ds:List D) (h:ds.any xH=false):ds.map bO=ds:=by
  induction ds with
  | nil=>rfl
  | cons d r ih=>
    simp only [List.any_cons,Bool.or_eq_false_iff] at h
    rw [List.map_cons,ih h.2]
    congr 1
    cases d with
    | sl f t l=>simp only [xH] at h;simp [bO,h.1]
    | _=>rfl
theorem Ch (ds:List D) (h:ds.any wC=false):ds.map stripL=ds∧∀ b f,aK b ds f=0:=by
  induction ds with
  | nil=>exact ⟨rfl,fun _ _=>rfl⟩
  | cons d r ih=>
    simp only [List.any_cons,Bool.or_eq_false_iff] at h
    obtain ⟨h1,h2⟩:=ih h.2
    have hd:stripL d=d:=by
      cases d with
      | sl f t l=>
        have:Nat.beq f 0=true:=by have:=h.1;simp only [wC] at this;simpa using this
        have h0:=Nat.eq_of_beq_eq_true this
        subst h0;rfl
      | _=>rfl
    refine ⟨by rw [List.map_cons,h1,hd],fun b f=>?_⟩
    simp only [aK,h2]
    rw [←hd,jK]
def Eb (G:Nat→Nat) (d:D) (v:Value):Nat→Nat:=
  match d,v with
  | .agg cs,.agg arr=>kP G cs (aO arr)
  | d,v=>mK G d v
theorem oL {d:D} {v:Value} {b:Nat} (h:cO b d v=0):Eb G d v b=G b:=by
  unfold Eb
  split
  · exact fP h
  · rename_i h1
    cases d with
    | agg cs=>cases v<;>first | rfl | exact absurd rfl (h1 _ _ rfl)
    | gB cs=>rfl
    | fn f cs=>rfl
    | _=>exact oK (by simpa only [cO] using h)
theorem AU (b:Nat) (d:D) (v:Value):cO b (share d) v=cO b d v:=by
  cases d with
  | agg cs=>cases v<;>first | rfl | exact kQ _ _ _
  | sl f t l=>exact u7 b (.sl f t l) v
  | _=>rfl
theorem kR (b:Nat) (d:D) (v:Value) (hd:dK d=false):cO b (view d) v=0:=by
  cases d with
  | agg cs=>cases v<;>first | rfl | exact gV mM _ _ _
  | gB cs=>simp [dK] at hd
  | fn f cs=>cases v<;>rfl
  | sl f t l=>exact mM b (.sl f t l) v
  | _=>cases v<;>rfl
theorem qg (b:Nat) (d:D) (v:Value):cO b (strip d) v=0:=by
  cases d with
  | agg cs=>cases v<;>first | rfl | exact gV jK _ _ _
  | gB cs=>exact dG _ _
  | fn f cs=>cases v<;>rfl
  | sl f t l=>
    have:=jK b (.sl f t l) v
    simp only [strip,stripL] at this ⊢
    by_cases hf:Nat.beq f 0=true
    · rw [hf] at this ⊢;exact this
    · simp only [Bool.not_eq_true] at hf;rw [hf];exact dG _ _
  | _=>cases v<;>rfl
theorem aY.share {d:D} {v:Value} (h:aY w G pt d v) (hc:∀ b,cO b d v≤1) (hd:dK d=false) :
    Ext w G w (Eb G d v)∧aY w (Eb G d v) pt (aW.share d) v:=by
  cases d with
  | agg cs=>
    obtain ⟨arr,rfl,h2,h3⟩:=h
    obtain ⟨e,h4⟩:=h3.share hc
    exact ⟨e,arr,rfl,by simpa using h2,h4⟩
  | gB cs=>simp [dK] at hd
  | fn f cs=>exact ⟨Ext.refl _ _,h⟩
  | _=>
    simp only [aY] at h
    exact ⟨AQ h,h.share⟩
theorem aY.view {d:D} {v:Value} (h:aY w G pt (aW.share d) v) (hd:dK d=false):aY w G pt (aW.view d) v:=by
  cases d with
  | agg cs=>
    obtain ⟨arr,rfl,h2,h3⟩:=h
    exact ⟨arr,rfl,by simpa using h2,h3.view⟩
  | gB cs=>simp [dK] at hd
  | fn f cs=>exact h
  | sl f t l=>exact bI.view (pt:=pt) (d:=.sl f t l) h
  | _=>exact h
theorem aY.strip {d:D} {v:Value} (h:aY w G pt d v):aY w G pt (aW.strip d) v:=by
  cases d with
  | agg cs=>
    obtain ⟨arr,rfl,h2,h3⟩:=h
    exact ⟨arr,rfl,by simpa using h2,h3.map fun _ _ h=>h.strip⟩
  | gB cs=>trivial
  | fn f cs=>exact h
  | sl f t l=>
    have h':=bI.strip (pt:=pt) (d:=.sl f t l) h
    simp only [aW.strip,stripL] at h' ⊢
    by_cases hf:Nat.beq f 0=true
    · rw [hf] at h' ⊢;exact h'
    · simp only [Bool.not_eq_true] at hf;rw [hf];trivial
  | _=>exact h
end
end Go.aW
namespace Go.aW
theorem bX.move {w w':World} {G G':Nat→Nat} (hE:Ext w G w' G') :
    ∀ {t:Ty} {x:t.den} {b o b' o':Nat},bX w G t x b o →
      (∀ j,j<t.nc→w'.cell? ⟨b',o' + j,none⟩=w.cell? ⟨b,o+j,none⟩)→bX w' G' t x b' o'
  | .int k,n,b,o,b',o',h,hc=>by
    have:=hc 0 (by simp [Ty.nc])
    simp only [Nat.add_zero] at this
    simp only [bX] at h ⊢
    rw [this];exact h
  | .bool,n,b,o,b',o',h,hc=>by
    have:=hc 0 (by simp [Ty.nc])
    simp only [Nat.add_zero] at this
    simp only [bX] at h ⊢
    rw [this];exact h
  | .str,n,b,o,b',o',h,hc=>by
    have:=hc 0 (by simp [Ty.nc])
    simp only [Nat.add_zero] at this
    simp only [bX] at h ⊢
    rw [this];exact h
  | .sl t,l,b,o,b',o',h,hc=>by
    have:=hc 0 (by simp [Ty.nc])
    simp only [Nat.add_zero] at this
    have h2:bX w' G' (.sl t) l b o∨True:=.inr trivial
    simp only [bX] at h ⊢
    rw [this]
    obtain ⟨a,n,c,h1,h2,h3,h3',h4⟩:=h
    refine ⟨a,n,c,h1,h2,h3,h3',?_⟩
    rcases h4 with h4 | ⟨b1,o1,h5,h6,h7⟩
    · exact .inl h4
    · refine .inr ⟨b1,o1,h5,Nat.le_trans h6 (hE.le b1),fun i hi=>(h7 i hi).mono hE fun j hj1 hj2=>hE.cell _ _ ?_⟩
      have:(i+1)*t.nc≤n*t.nc:=Nat.mul_le_mul_right _ (by omega)
      rw [Nat.add_mul] at this
      omega
  | .unit,_,_,_,_,_,_,_=>trivial
  | .cons a c,x,b,o,b',o',h,hc=>by
    simp only [bX] at h ⊢
    simp only [Ty.nc] at hc
    refine ⟨h.1.move hE fun j hj=>hc j (by omega),h.2.move hE fun j hj=>?_⟩
    have:=hc (a.nc+j) (by omega)
    rw [Nat.add_assoc,Nat.add_assoc]
    exact this
  | .st _ c,x,b,o,b',o',h,hc=>by
    simp only [bX] at h ⊢
    exact bX.move hE h hc
  | .fO f t,x,b,o,b',o',h,hc=>by
    have:=hc 0 (by simp [Ty.nc])
    simp only [Nat.add_zero] at this
    simp only [bX] at h ⊢
    rw [this]
    obtain ⟨b1,o1,h1,h2,h3⟩:=h
    exact ⟨b1,o1,h1,Nat.le_trans h2 (hE.le b1),h3.mono hE fun j hj1 hj2=>hE.cell _ _ (by omega)⟩
theorem iJ:∀ (t:Ty) (x:t.den),(enc t x).length=t.nc
  | .int _,_=>rfl
  | .bool,_=>rfl
  | .str,_=>rfl
  | .sl _,_=>rfl
  | .unit,_=>rfl
  | .cons a b,x=>by
    show (enc a x.1++enc b x.2).length=_
    rw [List.length_append,iJ a,iJ b];rfl
  | .st _ c,x=>iJ c x
  | .fO _ _,_=>rfl
theorem nI {w:World} {G:Nat→Nat} (pt:Nat→Nat→Option Value) :
    ∀ {t:Ty} {x:t.den} {b o:Nat},bX w G t x b o →
      ∀ j (h:j<(enc t x).length),∃ v,w.cell? ⟨b,o+j,none⟩=some v∧bI w G pt (enc t x)[j] v∧∀ c,dw c (enc t x)[j] v=0
  | .int k,n,b,o,h,j,hj=>by
    have:j=0:=by simp [enc] at hj;exact hj
    subst this
    exact ⟨_,h.1,⟨rfl,h.2⟩,fun _=>rfl⟩
  | .bool,n,b,o,h,j,hj=>by
    have:j=0:=by simp [enc] at hj;exact hj
    subst this
    exact ⟨_,h,rfl,fun _=>rfl⟩
  | .str,n,b,o,h,j,hj=>by
    have:j=0:=by simp [enc] at hj;exact hj
    subst this
    obtain ⟨s,h1,h2⟩:=h
    exact ⟨_,h1,⟨s,rfl,h2⟩,fun _=>rfl⟩
  | .sl t,l,b,o,h,j,hj=>by
    have:j=0:=by simp [enc] at hj;exact hj
    subst this
    simp only [bX] at h
    obtain ⟨a,n,c,h1,h2,h3,h3',h4⟩:=h
    refine ⟨_,h1,⟨a,n,c,rfl,h2,h3,by omega,?_⟩,fun c'=>by cases a<;>rfl⟩
    subst h2
    rcases h4 with h4 | ⟨b1,o1,h5,h6,h7⟩
    · exact .inl h4
    · exact .inr ⟨b1,o1,h5,h6,h7⟩
  | .unit,_,_,_,_,j,hj=>by simp [enc] at hj
  | .cons a c,x,b,o,h,j,hj=>by
    have e:enc (.cons a c) x=enc a x.1++enc c x.2:=rfl
    simp only [bX] at h
    have hla:=iJ a x.1
    by_cases hja:j<(enc a x.1).length
    · obtain ⟨v,h1,h2,h3⟩:=nI pt h.1 j hja
      have:(enc (.cons a c) x)[j]=(enc a x.1)[j]:=by simp only [e];exact List.getElem_append_left hja
      rw [this]
      exact ⟨v,h1,h2,h3⟩
    · have hj':j - (enc a x.1).length<(enc c x.2).length:=by simp only [e,List.length_append] at hj;omega
      obtain ⟨v,h1,h2,h3⟩:=nI pt h.2 (j - (enc a x.1).length) hj'
      have:(enc (.cons a c) x)[j]=(enc c x.2)[j - (enc a x.1).length]:=by simp only [e];exact List.getElem_append_right (by omega)
      rw [this]
      refine ⟨v,?_,h2,h3⟩
      rw [←h1]
      congr 2
      omega
  | .st _ c,x,b,o,h,j,hj=>nI (t:=c) pt h j hj
  | .fO f t,x,b,o,h,j,hj=>by
    have:j=0:=by simp [enc] at hj;exact hj
    subst this
    simp only [bX] at h
    obtain ⟨b1,o1,h1,h2,h3⟩:=h
    exact ⟨_,h1,⟨b1,o1,rfl,h2,h3⟩,fun _=>rfl⟩
theorem sD {w w':World} {G G':Nat→Nat} {pt:Nat→Nat→Option Value} (hE:Ext w G w' G') :
    ∀ {t:Ty} {ds:List D} {x:t.den} {r:List D} {f:Nat→Value} {b o:Nat},dec t ds=some (x,r)→aQ w G pt (ds.map bU) f →
      (∀ j,j<t.nc→w'.cell? ⟨b,o+j,none⟩=some (f j))→bX w' G' t x b o∧r=ds.drop t.nc∧t.nc≤ds.length
  | .int k,ds,x,r,f,b,o,h,hr,hc=>by
    cases ds with
    | nil=>simp [dec] at h
    | cons d ds=>
      cases d<;>simp only [dec] at h<;>try (cases h;done)
      rename_i k' n
      by_cases hk:iO k k' = true
      · simp only [hk,cond_true,Option.some.injEq,Prod.mk.injEq] at h
        obtain ⟨rfl,rfl⟩:=h
        have hk':=dX hk
        subst hk'
        have h0:=(hr 0 (by simp)).1
        simp only [List.map_cons,List.getElem_cons_zero,bU,bI] at h0
        have c0:=hc 0 (by simp [Ty.nc])
        simp only [Nat.add_zero] at c0
        refine ⟨⟨by rw [c0,h0.1],h0.2⟩,rfl,by simp [Ty.nc]⟩
      · simp only [Bool.not_eq_true] at hk;simp [hk] at h
  | .bool,ds,x,r,f,b,o,h,hr,hc=>by
    cases ds with
    | nil=>simp [dec] at h
    | cons d ds=>
      cases d<;>simp only [dec] at h<;>try (cases h;done)
      simp only [Option.some.injEq,Prod.mk.injEq] at h
      obtain ⟨rfl,rfl⟩:=h
      have h0:=(hr 0 (by simp)).1
      simp only [List.map_cons,List.getElem_cons_zero,bU,bI] at h0
      have c0:=hc 0 (by simp [Ty.nc])
      simp only [Nat.add_zero] at c0
      exact ⟨by simp only [bX];rw [c0,h0],rfl,by simp [Ty.nc]⟩
  | .str,ds,x,r,f,b,o,h,hr,hc=>by
    cases ds with
    | nil=>simp [dec] at h
    | cons d ds=>
      cases d<;>simp only [dec] at h<;>try (cases h;done)
      simp only [Option.some.injEq,Prod.mk.injEq] at h
      obtain ⟨rfl,rfl⟩:=h
      have h0:=(hr 0 (by simp)).1
      simp only [List.map_cons,List.getElem_cons_zero,bU,bI] at h0
      have c0:=hc 0 (by simp [Ty.nc])
      simp only [Nat.add_zero] at c0
      obtain ⟨s,h1,h2⟩:=h0
      exact ⟨⟨s,by rw [c0,h1],h2⟩,rfl,by simp [Ty.nc]⟩
  | .sl t,ds,x,r,f,b,o,h,hr,hc=>by
    have c0:=hc 0 (by simp [Ty.nc])
    simp only [Nat.add_zero] at c0
    cases ds with
    | nil=>simp [dec] at h
    | cons d ds=>
      cases d<;>simp only [dec] at h<;>try (cases h;done)
      · simp only [Option.some.injEq,Prod.mk.injEq] at h
        obtain ⟨rfl,rfl⟩:=h
        have h0:=(hr 0 (by simp)).1
        simp only [List.map_cons,List.getElem_cons_zero,bU,bI] at h0
        refine ⟨?_,rfl,by simp [Ty.nc]⟩
        simp only [bX]
        exact ⟨none,0,0,by rw [c0,h0],rfl,by simp,by simp,.inl trivial⟩
      · rename_i fl t' l
        by_cases hb:t'.beq t=true
        · simp only [hb,dite_true,Option.some.injEq,Prod.mk.injEq] at h
          obtain ⟨rfl,rfl⟩:=h
          have ht:=Ty.eq_of_beq hb
          subst ht
          have h0:=(hr 0 (by simp)).1
          simp only [List.map_cons,List.getElem_cons_zero,bU,bI] at h0
          obtain ⟨a,n,c,h1,h2,h3,h4,h5⟩:=h0
          refine ⟨?_,rfl,by simp [Ty.nc]⟩
          simp only [bX]
          refine ⟨a,n,c,by rw [c0,h1],h2,h3,by omega,?_⟩
          rcases h5 with h5 | ⟨b1,o1,h5,h6,h7⟩
          · exact .inl h5
          · subst h2
            have h8:=h7.mono hE fun j hj1 hj2=>hE.cell b1 j (by omega)
            exact .inr ⟨b1,o1,h5,Nat.le_trans h6 (hE.le b1),h8⟩
        · simp [hb] at h
  | .fO f0 t,ds,x,r,f,b,o,h,hr,hc=>by
    have c0:=hc 0 (by simp [Ty.nc])
    simp only [Nat.add_zero] at c0
    cases ds with
    | nil=>simp [dec] at h
    | cons d ds=>
      cases d<;>simp only [dec] at h<;>try (cases h;done)
      rename_i f' t' y
      by_cases hb:(Ty.fO f' t').beq (.fO f0 t)=true
      · simp only [hb,dite_true,Option.some.injEq,Prod.mk.injEq] at h
        obtain ⟨rfl,rfl⟩:=h
        have ht:=Ty.eq_of_beq hb
        injection ht with e1 e2
        subst e1 e2
        have h0:=(hr 0 (by simp)).1
        simp only [List.map_cons,List.getElem_cons_zero,bU,bI] at h0
        obtain ⟨b1,o1,h1,h2,h3⟩:=h0
        refine ⟨?_,rfl,by simp [Ty.nc]⟩
        simp only [bX]
        exact ⟨b1,o1,by rw [c0,h1],Nat.le_trans h2 (hE.le b1),h3.mono hE fun j hj1 hj2=>hE.cell b1 j (by omega)⟩
      · simp [hb] at h
  | .unit,ds,x,r,f,b,o,h,hr,hc=>by
    simp only [dec,Option.some.injEq,Prod.mk.injEq] at h
    exact ⟨trivial,h.2.symm,by simp [Ty.nc]⟩
  | .cons a c,ds,x,r,f,b,o,h,hr,hc=>by
    simp only [Ty.nc] at hc
    simp only [dec] at h
    cases ha:dec a ds with
    | none=>simp [ha] at h
    | some p=>
      obtain ⟨xa,ra⟩:=p
      simp only [ha] at h
      obtain ⟨h1,h2,h3⟩:=sD hE (b:=b) (o:=o) ha hr (fun j hj=>hc j (by omega))
      cases hcc:dec c ra with
      | none=>simp [hcc] at h
      | some p=>
        obtain ⟨xc,rc⟩:=p
        simp only [hcc,Option.some.injEq,Prod.mk.injEq] at h
        obtain ⟨rfl,rfl⟩:=h
        subst h2
        obtain ⟨h4,h5,h6⟩:=sD hE (b:=b) (o:=o+a.nc) (f:=fun j=>f (a.nc+j)) hcc
          (fun j hj=>by
            have hl:a.nc+j<(ds.map bU).length:=by simp at hj ⊢;omega
            have:=hr (a.nc+j) hl
            simpa using this)
          (fun j hj=>by
            have:=hc (a.nc+j) (by omega)
            rw [Nat.add_assoc];exact this)
        refine ⟨⟨h1,h4⟩,?_,?_⟩
        · rw [h5,List.drop_drop];rfl
        · simp only [List.length_drop] at h6;simp only [Ty.nc];omega
  | .st _ c,ds,x,r,f,b,o,h,hr,hc=>sD (t:=c) hE h hr hc
end Go.aW
namespace Go.aW
section
variable {E:Env} {C:Ctx} {s:St} {a:Act} {w:World} {G:Nat→Nat} {pt:Nat→Nat→Option Value}
theorem Rel.congr {s':St} (R:Rel E C s a w G pt) (h:∀ l,get s' l=get s l):Rel E C s' a w G pt:=by
  have e1:∀ b,cT s' a b=cT s a b:=fun b=>funext fun t=>by simp only [cT,h]
  have e2:∀ b,cB s' w pt b=cB s w pt b:=fun b=>funext fun t=>by simp only [cB,h]
  refine ⟨R.sz,R.df,fun t=>by rw [h];exact R.tm t,fun id=>by rw [h];exact R.bx id,fun t ht=>by rw [h];exact R.ht t ht,fun id hid=>by rw [h];exact R.hb id hid,
    fun b=>by unfold TC;rw [e1,e2];exact R.ct b,fun b=>by unfold TC;rw [e1,e2];exact R.cb b,R.fr,R.ex,R.gz,R.os,R.out,R.tape,R.hs,fun id st hs=>R.pf id st (by rw [h] at hs;exact hs),R.gl,R.pn⟩
theorem aY.undef (v:Value):aY w G pt .undef v:=trivial
theorem Rel.abj (R:Rel E C s a w G pt) (t:Nat) (htn:t<E.n) {d:D} {v:Value} (hd:aY w G pt d v)
    (hc:∀ b,cO b d v=0):Rel E C ((2*t,d)::s) (a.put (some t) v) w G pt:=by
    have hts:t<a.tmps.size:=by rw [R.sz];exact htn
    refine R.step (fun u=>u=t) (fun _=>False) (fun _=>False) (by simp) (by simpa using R.df) (fun u hu=>?_) (fun id _=>⟨by simp,rfl⟩) (Ext.refl _ _) (fun _ _ _ h=>h)
      (fun b _ _=>⟨rfl,rfl⟩) (fun b h=>h.elim) (fun b h=>h.elim) (fun b h=>h.elim) (fun u hu=>?_) (fun id h=>h.elim) (fun c1 c2 b=>?_) R.gz rfl rfl rfl (Nat.le_refl _)
    · simp only [bV,hu,if_false]
      rw [eY a t u v hts,if_neg hu]
      exact ⟨trivial,rfl⟩
    · subst hu
      refine ⟨htn,?_⟩
      simp only [bV,if_true]
      rw [eY a u u v hts,if_pos rfl]
      exact hd
    · have e1:=bM (n:=E.n) (f:=cT s a b) (g:=cT ((2*t,d)::s) (a.put (some t) v) b) htn (fun i hi=>c1 i hi b)
      have e2:=aM (n:=C.m) (f:=cB s w pt b) (g:=cB ((2*t,d)::s) w pt b) (fun i _=>(c2 i (fun h=>h) b).symm)
      have e3:cT ((2*t,d)::s) (a.put (some t) v) b t=0:=by
        simp only [cT,bV,if_true]
        rw [eY a t t v hts,if_pos rfl]
        exact hc b
      have h1:=R.ct b
      have h2:=R.cb b
      unfold TC at *
      exact ⟨by omega,fun h=>h2 (by omega)⟩
theorem qh {o:Oper} {t:Nat} (h:o.dst=some t) (d:D):bB o d=[(2*t,d)]:=by simp [bB,h]
theorem qj {o:Oper} (h:o.dst=none) (d:D):bB o d=[]:=by simp [bB,h]
theorem Rel.wV (R:Rel E C s a w G pt) (o:Oper) (ho:∀ t,o.dst=some t→t<E.n) {d:D} {v:Value} (hd:aY w G pt d v)
    (hc:∀ b,cO b d v=0):Rel E C (ak (bB o d) s) (a.put o.dst v) w G pt:=by
  cases h:o.dst with
  | none=>rw [qj h];exact R
  | some t=>rw [qh h];exact R.abj t (ho t h) hd hc
theorem Rel.drew (R:Rel E C s a w G pt) {w':World} (hh:w'.heap=w.heap) (ho:w'.os=w.os) (hu:w'.output=w.output) (ht:w'.tape=w.tape):Rel E C s a w' G pt:=by
  refine R.step (fun _=>False) (fun _=>False) (fun _=>False) rfl R.df (fun _ _=>⟨rfl,rfl⟩) (fun _ _=>⟨rfl,rfl⟩) ⟨fun b o _=>cell_of_heap (by rw [hh]) o,fun _=>Nat.le_refl _⟩ (fun _ _ _ h=>h)
    (fun b _ _=>⟨by rw [hh],rfl⟩) (fun b h=>h.elim) (fun b h=>h.elim) (fun b h=>h.elim) (fun t h=>h.elim) (fun id h=>h.elim) (fun c1 c2 b=>?_) (fun b hb=>R.gz b (by rw [hh] at hb;exact hb)) ho hu ht (by rw [hh];exact Nat.le_refl _)
  have e1:=aM (n:=E.n) (f:=cT s a b) (g:=cT s a b) (fun _ _=>rfl)
  have e2:=aM (n:=C.m) (f:=cB s w pt b) (g:=cB s w' pt b) (fun i _=>(c2 i (fun h=>h) b).symm)
  have h1:=R.ct b
  have h2:=R.cb b
  unfold TC at *
  rw [hh]
  exact ⟨by omega,fun h=>h2 (by omega)⟩
theorem Rel.weak (R:Rel E C s a w G pt) {G':Nat→Nat} (t:Nat) {d:D} (hE:Ext w G w G')
    (hT:∀ b,cT s a b t=0→G' b=G b) (hd:aY w G' pt d (a.tmps.getD t Go.undef)) (hn:t<E.n)
    (hc:∀ b,cO b d (a.tmps.getD t Go.undef)≤cT s a b t):Rel E C ((2*t,d)::s) a w G' pt:=by
  refine R.step (fun u=>u=t) (fun _=>False) (fun b=>0<cT s a b t) rfl R.df (fun u hu=>?_) (fun id _=>⟨by simp,rfl⟩) hE (fun _ _ _ h=>h)
    (fun b hb _=>⟨rfl,hT b (by omega)⟩) (fun b hb u hu=>R.tt hb hu) (fun b hb id _=>R.tb hb id) (fun b hb=>(R.cb b (Nat.lt_of_lt_of_le hb (R.lN b t))).2) (fun u hu=>?_) (fun id h=>h.elim) (fun c1 c2 b=>?_)
    (fun b hb=>?_) rfl rfl rfl (Nat.le_refl _)
  · simp only [bV,hu,if_false];exact ⟨trivial,trivial⟩
  · subst hu;simp only [bV,if_true];exact ⟨hn,hd⟩
  · have e1:=bM (n:=E.n) (f:=cT s a b) (g:=cT ((2*t,d)::s) a b) hn (fun i hi=>c1 i hi b)
    have e2:=aM (n:=C.m) (f:=cB s w pt b) (g:=cB ((2*t,d)::s) w pt b) (fun i _=>(c2 i (fun h=>h) b).symm)
    have e3:cT ((2*t,d)::s) a b t=cO b d (a.tmps.getD t Go.undef):=by simp only [cT,bV,if_true]
    have h1:=R.ct b
    have h2:=R.cb b
    have h3:=hc b
    unfold TC at *
    exact ⟨by omega,fun h=>h2 (by omega)⟩
  · rw [hT b ?_];exact R.gz b hb
    rcases Nat.eq_zero_or_pos (cT s a b t) with h | h
    · exact h
    · have:=(R.cb b (Nat.lt_of_lt_of_le h (R.lN b t))).1;omega
theorem Rel.xK (R:Rel E C s a w G pt) (t:Nat) (hnt:dK (get s (2*t))=false) :
    ∃ G',Ext w G w G'∧Rel E C ((2*t,share (get s (2*t)))::s) a w G' pt∧aY w G' pt (share (get s (2*t))) (a.tmps.getD t Go.undef) ∧
      ∀ b,cT s a b t=0→G' b=G b:=by
  have h0:=R.tm t
  by_cases hn:t<E.n
  · obtain ⟨e,h1⟩:=h0.share (fun b=>Nat.le_trans (R.lN b t) (R.ct b)) hnt
    refine ⟨Eb G (get s (2*t)) (a.tmps.getD t Go.undef),e,R.weak t e (fun b hb=>oL hb) h1 hn (fun b=>?_),h1,fun b hb=>oL hb⟩
    rw [AU];exact Nat.le_refl _
  · have hu:=R.ht t (by omega)
    refine ⟨G,Ext.refl _ _,?_,by rw [hu];exact aY.undef _,fun _ _=>rfl⟩
    rw [hu]
    show Rel E C ((2*t,.undef)::s) a w G pt
    refine R.step (fun _=>False) (fun _=>False) (fun _=>False) rfl R.df (fun u _=>?_) (fun id _=>⟨by simp,rfl⟩) (Ext.refl _ _) (fun _ _ _ h=>h) (fun _ _ _=>⟨rfl,rfl⟩) (fun b h=>h.elim) (fun b h=>h.elim) (fun b h=>h.elim) (fun t h=>h.elim) (fun id h=>h.elim) (fun c1 c2 b=>?_) R.gz rfl rfl rfl (Nat.le_refl _)
    · simp only [bV]
      by_cases h:u=t
      · subst h;simp [hu]
      · simp [h]
    · have e1:=aM (n:=E.n) (f:=cT s a b) (g:=cT ((2*t,.undef)::s) a b) (fun i _=>(c1 i (fun h=>h) b).symm)
      have e2:=aM (n:=C.m) (f:=cB s w pt b) (g:=cB ((2*t,.undef)::s) w pt b) (fun i _=>(c2 i (fun h=>h) b).symm)
      have h1:=R.ct b
      have h2:=R.cb b
      unfold TC at *
      exact ⟨by omega,fun h=>h2 (by omega)⟩
theorem AV (v:Value):share (J8 v)=J8 v:=by
  unfold J8
  split<;>try rfl
  · rename_i k n
    cases LU k n<;>rfl
  · rename_i s
    cases Nat.ble (jq s).length iQ<;>rfl
theorem nJ {d:D} (h:jg d=false):share d=d:=by
  cases d with
  | agg cs=>simp only [share];rw [sw cs h]
  | sl f t l=>
    have h':Nat.beq f 2=false:=h
    simp [share,bO,h']
  | _=>rfl
theorem rz {d:D} (h:dJ d=false):strip d=d∧∀ b v,cO b d v=0:=by
  cases d with
  | agg cs=>
    obtain ⟨h1,h2⟩:=Ch cs h
    refine ⟨by simp only [strip];rw [h1],fun b v=>?_⟩
    cases v<;>first | rfl | exact h2 b _
  | gB cs=>simp [dJ] at h
  | sl f t l=>
    have:Nat.beq f 0=true:=by simpa [dJ,wC] using h
    have h0:=Nat.eq_of_beq_eq_true this
    subst h0
    refine ⟨rfl,fun b v=>?_⟩
    cases v<;>try rfl
    rename_i a n c
    cases a<;>rfl
  | _=>exact ⟨rfl,fun b v=>by cases v<;>rfl⟩
theorem aT (R:Rel E C s a w G pt) (x:Operand):aY w G pt (aV s x) (a.eval x):=by
  cases x with
  | tmp t=>exact R.tm t
  | global g=>rfl
  | func f=>exact (rfl:a.eval (.func f) = .func (.func f) #[] #[])
  | const v=>
    show aY w G pt (J8 v) v
    unfold J8
    split
    · rfl
    · rename_i k n
      by_cases h:LU k n=true
      · rw [h]
        simp only [LU,Bool.and_eq_true,decide_eq_true_eq] at h
        exact ⟨rfl,h⟩
      · simp only [Bool.not_eq_true] at h;rw [h];trivial
    · rename_i s
      by_cases h:Nat.ble (jq s).length iQ=true
      · rw [h];exact ⟨_,rfl,rfl,Nat.le_of_ble_eq_true h⟩
      · simp only [Bool.not_eq_true] at h;rw [h];trivial
    · rfl
    · trivial
theorem Rel.xL (R:Rel E C s a w G pt) (x:Operand) (hnt:dK (aV s x)=false) :
    ∃ G',Ext w G w G'∧Rel E C (ak (bZ s x share jg) s) a w G' pt∧aY w G' pt (view (aV s x)) (a.eval x)∧(∀ b,cO b (view (aV s x)) (a.eval x)=0) ∧
      aY w G' pt (share (aV s x)) (a.eval x):=by
  have hv:∀ b,cO b (view (aV s x)) (a.eval x)=0:=fun b=>kR b _ _ hnt
  by_cases hx:∃ t,x = .tmp t
  · obtain ⟨t,rfl⟩:=hx
    simp only [bZ,aV] at hnt hv ⊢
    cases hU:jg (get s (2*t)) with
    | true=>
      obtain ⟨G',e,h1,h2,_⟩:=R.xK t hnt
      exact ⟨G',e,h1,h2.view hnt,hv,h2⟩
    | false=>
      refine ⟨G,Ext.refl _ _,R,?_,hv,?_⟩
      · have:=R.tm t
        rw [←nJ hU] at this
        exact this.view hnt
      · rw [nJ hU];exact R.tm t
  · have h1:bZ s x share jg=[]:=by cases x<;>first | rfl | exact absurd ⟨_,rfl⟩ hx
    have h2:share (aV s x)=aV s x:=by
      cases x with
      | tmp t=>exact absurd ⟨_,rfl⟩ hx
      | const v=>
        exact AV v
      | _=>rfl
    rw [h1,h2]
    have:=aT R x
    refine ⟨G,Ext.refl _ _,R,?_,hv,this⟩
    rw [←h2] at this
    exact this.view hnt
end
end Go.aW
namespace Go.aW
theorem Ci (b:Nat) (v u:Value):cO b (J8 v) u=0:=by
  unfold J8
  split<;>try (cases u<;>rfl)
  · rename_i k n
    cases LU k n<;>cases u<;>rfl
  · rename_i s
    cases Nat.ble (jq s).length iQ<;>cases u<;>rfl
section
variable {E:Env} {C:Ctx} {s:St} {a:Act} {w:World} {G:Nat→Nat} {pt:Nat→Nat→Option Value}
theorem Rel.take (R:Rel E C s a w G pt) (x:Operand) (o:Oper) (ho:∀ t,o.dst=some t→t<E.n) {G':Nat→Nat} {d':D} {v':Value}
    (hE:Ext w G w G') (hG:∀ b,cO b (aV s x) (a.eval x)=0→G' b=G b) (hd:aY w G' pt d' v')
    (hc:∀ b,cO b d' v'≤cO b (aV s x) (a.eval x)) :
    Rel E C (ak (bZ s x strip dJ++bB o d') s) (a.put o.dst v') w G' pt:=by
  have zero:(∀ b,cO b (aV s x) (a.eval x)=0)→bZ s x strip dJ=[] →
      Rel E C (ak (bZ s x strip dJ++bB o d') s) (a.put o.dst v') w G' pt:=by
    intro h1 h2
    have hGG:G' = G:=funext fun b=>hG b (h1 b)
    subst hGG
    rw [h2,List.nil_append]
    exact R.wV o ho hd fun b=>by have:=hc b;have:=h1 b;omega
  cases x with
  | tmp tx=>
    cases hX:dJ (get s (2*tx)) with
    | false=>exact zero (fun b=>(rz hX).2 b _) (by simp [bZ,hX])
    | true=>
      have e1:bZ s (.tmp tx) strip dJ=[(2*tx,strip (get s (2*tx)))]:=by simp [bZ,hX]
      rw [e1]
      have hxn:tx<E.n:=by
        rcases Nat.lt_or_ge tx E.n with h | h
        · exact h
        · have:=R.ht tx h;rw [this] at hX;simp [dJ,wC] at hX
      simp only [aV] at hc hG
      have hc':∀ b,cO b d' v'≤cT s a b tx:=hc
      have hG':∀ b,cT s a b tx=0→G' b=G b:=hG
      -- the source alone
      have Q8:aY w G' pt (strip (get s (2*tx))) (a.tmps.getD tx Go.undef):=by
        refine aY.mono (pt:=pt) hE (fun _ _ _ h=>h) (R.tm tx).strip fun b hb=>?_
        rw [qg] at hb;omega
      cases hd0:o.dst with
      | none=>
        rw [qj hd0]
        exact R.weak tx hE hG' Q8 hxn fun b=>by rw [qg];exact Nat.zero_le _
      | some t=>
        rw [qh hd0]
        have htn:=ho t hd0
        have hts:t<a.tmps.size:=by rw [R.sz];exact htn
        show Rel E C ((2*t,d')::(2*tx,strip (get s (2*tx)))::s) (a.put (some t) v') w G' pt
        refine R.step (fun u=>u=t∨u=tx) (fun _=>False) (fun b=>0<cT s a b tx) (by simp) (by simpa using R.df) (fun u hu=>?_) (fun id _=>⟨by simp,rfl⟩) hE (fun _ _ _ h=>h)
          (fun b hb _=>⟨rfl,hG' b (by omega)⟩) (fun b hb u hu=>R.tt hb (fun h=>hu (.inr h))) (fun b hb id _=>R.tb hb id) (fun b hb=>(R.cb b (Nat.lt_of_lt_of_le hb (R.lN b tx))).2)
          (fun u hu=>?_) (fun id h=>h.elim) (fun c1 c2 b=>?_) (fun b hb=>?_) rfl rfl rfl (Nat.le_refl _)
        · have h1:u≠t:=fun h=>hu (.inl h)
          have h2:u≠tx:=fun h=>hu (.inr h)
          simp only [bV,h1,h2,if_false]
          rw [eY a t u v' hts,if_neg h1]
          exact ⟨trivial,rfl⟩
        · by_cases h1:u=t
          · subst h1
            refine ⟨htn,?_⟩
            simp only [bV,if_true]
            rw [eY a u u v' hts,if_pos rfl]
            exact hd
          · have h2:u=tx:=hu.resolve_left h1
            subst h2
            refine ⟨hxn,?_⟩
            simp only [bV,h1,if_false,if_true]
            rw [eY a t u v' hts,if_neg h1]
            exact Q8
        · have q2:=aM (n:=C.m) (f:=cB s w pt b) (g:=cB ((2*t,d')::(2*tx,strip (get s (2*tx)))::s) w pt b) (fun i _=>(c2 i (fun h=>h) b).symm)
          have q3:cT ((2*t,d')::(2*tx,strip (get s (2*tx)))::s) (a.put (some t) v') b t=cO b d' v':=by
            simp only [cT,bV,if_true]
            rw [eY a t t v' hts,if_pos rfl]
          have h1:=R.ct b
          have h2:=R.cb b
          have h3:=hc' b
          by_cases htx:tx=t
          · subst htx
            have q1:=bM (n:=E.n) (f:=cT s a b) (g:=cT ((2*tx,d')::(2*tx,strip (get s (2*tx)))::s) (a.put (some tx) v') b) htn (fun i hi=>c1 i (by simp [hi]) b)
            unfold TC at *
            exact ⟨by omega,fun h=>h2 (by omega)⟩
          · have q1:=mJ (n:=E.n) (f:=cT s a b) (g:=cT ((2*t,d')::(2*tx,strip (get s (2*tx)))::s) (a.put (some t) v') b) htn hxn (Ne.symm htx) (fun i hi hj=>c1 i (by simp [hi,hj]) b)
            have q4:cT ((2*t,d')::(2*tx,strip (get s (2*tx)))::s) (a.put (some t) v') b tx=0:=by
              simp only [cT,bV,htx,if_false,if_true]
              rw [eY a t tx v' hts,if_neg htx]
              exact qg _ _ _
            unfold TC at *
            exact ⟨by omega,fun h=>h2 (by omega)⟩
        · rw [hG' b ?_];exact R.gz b hb
          rcases Nat.eq_zero_or_pos (cT s a b tx) with h | h
          · exact h
          · have:=(R.cb b (Nat.lt_of_lt_of_le h (R.lN b tx))).1;omega
  | const v=>exact zero (fun b=>Ci b v _) rfl
  | global g=>exact zero (fun b=>rfl) rfl
  | func f=>exact zero (fun b=>rfl) rfl
end
def fC (P:Program) (E:Env) (C:Ctx) (o:Oper) (a:Act) (w:World) (s':St):Prop:=
  ∃ v w' G' bJ,((execOp a.eval o).run P w = .ok (.value v) w'∨(execOp a.eval o).run P w = .ok .skip w'∧v=Go.undef)∧Rel E C s' (a.put o.dst v) w' G' bJ
section
variable {P:Program} {E:Env} {C:Ctx} {s:St} {a:Act} {w:World} {G:Nat→Nat} {pt:Nat→Nat→Option Value} {o:Oper} {u:St}
theorem Ec (R:Rel E C s a w G pt) (ho:∀ t,o.dst=some t→t<E.n) (x:Operand) (hop:o.op = .move x)
    (h:uT E o s x=some (true,u)):fC P E C o a w (ak u s):=by
  have hrun:(execOp a.eval o).run P w = .ok (.value (a.eval x)) w:=by simp [execOp,hop]
  simp only [uT] at h
  cases hc:(Nat.beq (tag E o) 1 || dK (aV s x)) with
  | true=>
    rw [hc] at h
    simp only [cond_true,Option.some.injEq,Prod.mk.injEq,true_and] at h
    subst h
    exact ⟨_,w,G,pt,.inl hrun,R.take x o ho (Ext.refl _ _) (fun _ _=>rfl) (aT R x) (fun _=>Nat.le_refl _)⟩
  | false=>
    rw [hc] at h
    simp only [cond_false,Option.some.injEq,Prod.mk.injEq,true_and] at h
    subst h
    have hnt:dK (aV s x)=false:=by simp only [Bool.or_eq_false_iff] at hc;exact hc.2
    obtain ⟨G',e,h1,h2,h3,_⟩:=R.xL x hnt
    rw [aP]
    exact ⟨_,w,G',pt,.inl hrun,h1.wV o ho h2 h3⟩
end
end Go.aW
namespace Go.aW
section
variable {E:Env} {C:Ctx} {s:St} {a:Act} {w:World} {G:Nat→Nat} {pt:Nat→Nat→Option Value}
theorem Rel.Gu (R:Rel E C s a w G pt) (t:Nat) (hn:t<E.n) {d:D} (hd:aY w G pt d (a.tmps.getD t Go.undef)) (hc:∀ b,cO b d (a.tmps.getD t Go.undef)=0) :
    Rel E C ((2*t,d)::s) a w G pt ∧
      ∀ b,TC E.n C.m ((2*t,d)::s) a w pt b+cT s a b t=TC E.n C.m s a w pt b:=by
  refine ⟨R.weak t (Ext.refl _ _) (fun _ _=>rfl) hd hn fun b=>by rw [hc];exact Nat.zero_le _,fun b=>?_⟩
  have e1:=bM (n:=E.n) (f:=cT s a b) (g:=cT ((2*t,d)::s) a b) hn (fun i hi=>by simp only [cT,bV,hi,if_false])
  have e2:=aM (n:=C.m) (f:=cB s w pt b) (g:=cB ((2*t,d)::s) w pt b) (fun i _=>by simp only [cB,gD])
  have e3:cT ((2*t,d)::s) a b t=0:=by simp only [cT,bV,if_true];exact hc b
  unfold TC
  omega
theorem nK (R:Rel E C s a w G pt) {t:Nat} (h:dJ (get s (2*t))=true):t<E.n:=by
  rcases Nat.lt_or_ge t E.n with h1 | h1
  · exact h1
  · rw [R.ht t h1] at h;simp [dJ,wC] at h
theorem dY (R:Rel E C s a w G pt) {id:Nat} (h:get s (2*id+1)≠.undef):id<C.m:=by
  rcases Nat.lt_or_ge id C.m with h1 | h1
  · exact h1
  · exact absurd (R.hb id h1) h
theorem Rel.kS (R:Rel E C s a w G pt) (x:Operand) :
    Rel E C (ak (bZ s x strip dJ) s) a w G pt ∧
      ∀ b,TC E.n C.m (ak (bZ s x strip dJ) s) a w pt b+cO b (aV s x) (a.eval x)=TC E.n C.m s a w pt b:=by
  cases x with
  | tmp t=>
    cases hX:dJ (get s (2*t)) with
    | true=>
      have e1:bZ s (.tmp t) strip dJ=[(2*t,strip (get s (2*t)))]:=by simp [bZ,hX]
      rw [e1]
      exact R.Gu t (nK R hX) (R.tm t).strip fun b=>qg _ _ _
    | false=>
      have e1:bZ s (.tmp t) strip dJ=[]:=by simp [bZ,hX]
      rw [e1]
      exact ⟨R,fun b=>by rw [show cO b (aV s (.tmp t)) _=0 from (rz hX).2 b _];rfl⟩
  | const v=>exact ⟨R,fun b=>by rw [show cO b (aV s (.const v)) _=0 from Ci b v _];rfl⟩
  | _=>exact ⟨R,fun b=>rfl⟩
theorem Rel.held (R:Rel E C s a w G pt) (x:Operand) {b:Nat} (h:0<cO b (aV s x) (a.eval x)) :
    b<w.heap.size∧(C.w0.heap.size≤b∨C.X b):=by
  cases x with
  | tmp t=>exact R.cb b (Nat.lt_of_lt_of_le h (R.lN b t))
  | const v=>rw [show cO b (aV s (.const v)) _=0 from Ci b v _] at h;omega
  | global g=>exact absurd h (by simp [aV,cO,dw])
  | func f=>exact absurd h (by show ¬ 0<cO b (.Ai f) _;rw [show cO b (.Ai f) (a.eval (.func f))=0 from rfl];omega)
theorem Rel.put (R:Rel E C s a w G pt) (o:Oper) (ho:∀ t,o.dst=some t→t<E.n) {w':World} {G':Nat→Nat} {d':D} {v':Value}
    (T:Nat→Prop) (hE:Ext w G w' G') (hT:∀ b,¬ T b→b<w.heap.size→w'.heap[b]? = w.heap[b]?∧G' b=G b)
    (h0:∀ b,T b→TC E.n C.m s a w pt b=0∧(C.w0.heap.size≤b∨C.X b)) (hd:aY w' G' pt d' v')
    (hc:∀ b,cO b d' v'≤1∧(0<cO b d' v'→TC E.n C.m s a w pt b=0∧b<w'.heap.size∧(C.w0.heap.size≤b∨C.X b)))
    (hgz:∀ b,w'.heap.size≤b→G' b=0) (hos:w'.os=w.os) (hout:w'.output=w.output) (htp:w'.tape=w.tape) (Mh:w.heap.size≤w'.heap.size) :
    Rel E C (ak (bB o d') s) (a.put o.dst v') w' G' pt:=by
  have z1:∀ b,T b→∀ t,cT s a b t=0:=fun b hb t=>by have:=R.lN b t;have:=(h0 b hb).1;omega
  have z2:∀ b,T b→∀ id,cB s w pt b id=0:=fun b hb id=>by have:=R.gJ b id;have:=(h0 b hb).1;omega
  cases hd0:o.dst with
  | none=>
    rw [qj hd0]
    refine R.step (fun _=>False) (fun _=>False) T (by simp) (by simpa using R.df) (fun _ _=>⟨rfl,rfl⟩) (fun _ _=>⟨rfl,rfl⟩) hE (fun _ _ _ h=>h) hT (fun b hb t _=>z1 b hb t) (fun b hb id _=>z2 b hb id)
      (fun b hb=>(h0 b hb).2) (fun t h=>h.elim) (fun id h=>h.elim) (fun c1 c2 b=>?_) hgz hos hout htp Mh
    have e1:=aM (n:=E.n) (f:=cT s a b) (g:=cT s (a.put none v') b) (fun _ _=>rfl)
    have e2:=aM (n:=C.m) (f:=cB s w pt b) (g:=cB s w' pt b) (fun i _=>(c2 i (fun h=>h) b).symm)
    have h1:=R.ct b
    have h2:=R.cb b
    show TC E.n C.m s (a.put none v') w' pt b≤1∧(0<TC E.n C.m s (a.put none v') w' pt b→_)
    unfold TC at *
    exact ⟨by omega,fun h=>⟨Nat.lt_of_lt_of_le (h2 (by omega)).1 Mh,(h2 (by omega)).2⟩⟩
  | some t=>
    rw [qh hd0]
    have htn:=ho t hd0
    have hts:t<a.tmps.size:=by rw [R.sz];exact htn
    show Rel E C ((2*t,d')::s) (a.put (some t) v') w' G' pt
    refine R.step (fun u=>u=t) (fun _=>False) T (by simp) (by simpa using R.df) (fun u hu=>?_) (fun id _=>⟨by simp,rfl⟩) hE (fun _ _ _ h=>h) hT (fun b hb t _=>z1 b hb t) (fun b hb id _=>z2 b hb id)
      (fun b hb=>(h0 b hb).2) (fun u hu=>?_) (fun id h=>h.elim) (fun c1 c2 b=>?_) hgz hos hout htp Mh
    · simp only [bV,hu,if_false]
      rw [eY a t u v' hts,if_neg hu]
      exact ⟨trivial,rfl⟩
    · subst hu
      refine ⟨htn,?_⟩
      simp only [bV,if_true]
      rw [eY a u u v' hts,if_pos rfl]
      exact hd
    · have e1:=bM (n:=E.n) (f:=cT s a b) (g:=cT ((2*t,d')::s) (a.put (some t) v') b) htn (fun i hi=>c1 i hi b)
      have e2:=aM (n:=C.m) (f:=cB s w pt b) (g:=cB ((2*t,d')::s) w' pt b) (fun i _=>(c2 i (fun h=>h) b).symm)
      have e3:cT ((2*t,d')::s) (a.put (some t) v') b t=cO b d' v':=by
        simp only [cT,bV,if_true]
        rw [eY a t t v' hts,if_pos rfl]
      have h1:=R.ct b
      have h2:=R.cb b
      have h3:=hc b
      unfold TC at *
      rcases Nat.eq_zero_or_pos (cO b d' v') with h4 | h4
      · exact ⟨by omega,fun h=>⟨Nat.lt_of_lt_of_le (h2 (by omega)).1 Mh,(h2 (by omega)).2⟩⟩
      · have h5:=h3.2 h4
        exact ⟨by omega,fun _=>h5.2⟩
def aS (pt:Nat→Nat→Option Value) (id st:Nat) (v:Value):Nat→Nat→Option Value:=
  fun i j=>if i=id∧j=st then some v else pt i j
theorem Rel.vg (R:Rel E C s a w G pt) (t:Nat) (htn:t<E.n) (hm:E.n≤C.m) {w':World} {G':Nat→Nat} {dB d':D} {pv v':Value}
    (hE:Ext w G w' G') (hT:∀ b,b<w.heap.size→w'.heap[b]? = w.heap[b]?∧G' b=G b)
    (hd:aY w' G' (aS pt t (aI (get s (2*t+1))+1) pv) d' v') (hd0:∀ b,cO b d' v' = 0)
    (hB:oD w' G' (aS pt t (aI (get s (2*t+1))+1) pv) t dB) (hst:aI dB=aI (get s (2*t+1))+1)
    (hc:∀ b,fI w' (aS pt t (aI (get s (2*t+1))+1) pv) b t dB≤1∧(0<fI w' (aS pt t (aI (get s (2*t+1))+1) pv) b t dB →
      TC E.n C.m s a w pt b=0∧b<w'.heap.size∧(C.w0.heap.size≤b∨C.X b)))
    (hgz:∀ b,w'.heap.size≤b→G' b=0) (hos:w'.os=w.os) (hout:w'.output=w.output) (htp:w'.tape=w.tape) (Mh:w.heap.size≤w'.heap.size) :
    Rel E C ((2*t,d')::(2*t+1,dB)::s) (a.put (some t) v') w' G' (aS pt t (aI (get s (2*t+1))+1) pv):=by
  have hts:t<a.tmps.size:=by rw [R.sz];exact htn
  generalize aku:aI (get s (2*t+1))+1=st at *
  have hno:∀ j,st≤j→pt t j=none:=fun j hj=>R.pf t j (by omega)
  have hpt:∀ i j v,pt i j=some v→aS pt t st pv i j=some v:=by
    intro i j v h
    unfold aS
    rw [if_neg]
    · exact h
    · rintro ⟨rfl,rfl⟩
      rw [hno j (Nat.le_refl _)] at h;cases h
  refine R.step (fun u=>u=t) (fun i=>i=t) (fun _=>False) (by simp) (by simpa using R.df) (fun u hu=>?_) (fun id hid=>?_) hE hpt (fun b _ hb=>hT b hb) (fun b h=>h.elim) (fun b h=>h.elim) (fun b h=>h.elim)
    (fun u hu=>?_) (fun id hid=>?_) (fun c1 c2 b=>?_) hgz hos hout htp Mh
  · simp only [bV,get_bt,hu,if_false]
    rw [eY a t u v' hts,if_neg hu]
    exact ⟨trivial,rfl⟩
  · simp only [gD,bG,hid,if_false]
    exact ⟨trivial,funext fun j=>by simp [aS,hid]⟩
  · subst hu
    refine ⟨htn,?_⟩
    simp only [bV,if_true]
    rw [eY a u u v' hts,if_pos rfl]
    exact hd
  · subst hid
    simp only [gD,bG,if_true]
    refine ⟨by omega,hB,fun j hj=>?_⟩
    rw [hst] at hj
    unfold aS
    rw [if_neg (by omega)]
    exact hno j (by omega)
  · have e1:=bM (n:=E.n) (f:=cT s a b) (g:=cT ((2*t,d')::(2*t+1,dB)::s) (a.put (some t) v') b) htn (fun i hi=>c1 i hi b)
    have e2:=bM (n:=C.m) (f:=cB s w pt b) (g:=cB ((2*t,d')::(2*t+1,dB)::s) w' (aS pt t st pv) b) (x:=t) (by omega) (fun i hi=>c2 i hi b)
    have e3:cT ((2*t,d')::(2*t+1,dB)::s) (a.put (some t) v') b t=0:=by
      simp only [cT,bV,if_true]
      rw [eY a t t v' hts,if_pos rfl]
      exact hd0 b
    have e4:cB ((2*t,d')::(2*t+1,dB)::s) w' (aS pt t st pv) b t=fI w' (aS pt t st pv) b t dB:=by
      simp only [cB,gD,bG,if_true]
    have h1:=R.ct b
    have h2:=R.cb b
    have h3:=hc b
    unfold TC at *
    rcases Nat.eq_zero_or_pos (fI w' (aS pt t st pv) b t dB) with h4 | h4
    · exact ⟨by omega,fun h=>⟨Nat.lt_of_lt_of_le (h2 (by omega)).1 Mh,(h2 (by omega)).2⟩⟩
    · have h5:=h3.2 h4
      exact ⟨by omega,fun _=>h5.2⟩
end
section
variable {P:Program} {E:Env} {C:Ctx} {s:St} {a:Act} {w:World} {G:Nat→Nat} {pt:Nat→Nat→Option Value} {o:Oper} {u:St}
theorem rA {t:Ty} {d:D} {v:Value} (h:aY w G pt d v):aY w G pt (bS t d) v∧∀ b,cO b (bS t d) v=cO b d v:=by
  cases d with
  | jf=>
    have h':v = .slice none 0 0:=h
    subst h'
    cases t<;>try exact ⟨h,fun _=>rfl⟩
    refine ⟨⟨none,0,0,rfl,rfl,by simp,.inl ⟨rfl,rfl,rfl⟩⟩,fun _=>rfl⟩
  | _=>exact ⟨h,fun _=>rfl⟩
theorem xM {t:Ty} {d:D} (h:dK (bS t d)=false):dK d=false:=by
  cases d<;>first | rfl | exact h
theorem Kh (R:Rel E C s a w G pt) (hm:E.n≤C.m) (ho:∀ t,o.dst=some t→t<E.n) (x:Operand) (hop:o.op = .assign x)
    (h:nH E o s x=some (true,u)):fC P E C o a w (ak u s):=by
  have hrun:(execOp a.eval o).run P w = .ok (.value (a.eval x)) w:=by simp [execOp,hop]
  simp only [nH] at h
  cases hT:dK (bS (J9 E o.type) (aV s x)) with
  | true=>simp [hT] at h
  | false=>
    rw [hT] at h
    simp only [cond_false] at h
    have hrep:=aT R x
    obtain ⟨q1,q2⟩:=rA (t:=J9 E o.type) hrep
    split at h
    · -- promote
      split at h
      · rename_i f t l dst hd hdst
        cases hg:(Nat.beq f 2&&Nat.blt 0 t.nc) with
        | false=>simp [hg] at h
        | true=>
          rw [hg] at h
          simp only [cond_true,Option.some.injEq,Prod.mk.injEq,true_and] at h
          simp only [Bool.and_eq_true] at hg
          have hf:=Nat.eq_of_beq_eq_true hg.1
          subst hf
          subst h
          obtain ⟨R1,hc1⟩:=R.kS x
          have hg0:get (ak (bZ s x strip dJ) s) (2*dst+1)=get s (2*dst+1):=by
            cases x with
            | tmp t=>simp only [bZ];cases dJ (get s (2*t))<;>simp [ak]
            | _=>rfl
          rw [hd] at q1 q2
          obtain ⟨ad,n,c,hv,hn,hbd,hsl⟩:=q1
          rw [aP,←hg0]
          have key:=R1.vg dst (ho dst hdst) hm (w':=w) (G':=G) (dB:=.aU (aI (get (ak (bZ s x strip dJ) s) (2*dst+1))+1) true false t l)
            (d':=.fM dst (aI (get (ak (bZ s x strip dJ) s) (2*dst+1))+1)) (pv:=a.eval x) (v':=a.eval x) (Ext.refl _ _) (fun _ _=>⟨rfl,rfl⟩)
            (by show aS _ _ _ _ _ _=_;simp [aS]) (fun b=>by cases a.eval x<;>rfl)
            (fun _=>by
              simp only [Bool.false_eq_true,if_false]
              refine ⟨ad,n,c,?_,hn,hbd,hsl⟩
              simp [aS,hv]) rfl
            (fun b=>by
              have e:fI w (aS pt dst (aI (get (ak (bZ s x strip dJ) s) (2*dst+1))+1) (a.eval x)) b dst
                  (.aU (aI (get (ak (bZ s x strip dJ) s) (2*dst+1))+1) true false t l)=bR b (some (a.eval x)):=by
                simp [fI,aS]
              rw [e]
              have e2:bR b (some (a.eval x))=cO b (aV s x) (a.eval x):=by
                rw [←q2 b,hv]
                rcases hsl with ⟨h5,_⟩ | ⟨b',h5,_⟩
                · subst h5;simp [bR,bA,cO,dw]
                · subst h5;simp [bR,bA,cO,dw]
              rw [e2]
              have h1:=hc1 b
              have h2:=R.ct b
              refine ⟨by omega,fun h=>⟨by omega,R.held x h⟩⟩)
            R.gz rfl rfl rfl (Nat.le_refl _)
          exact ⟨_,w,G,_,.inl hrun,by rw [hdst];exact key⟩
      · cases h
    · -- keep
      simp only [Option.some.injEq,Prod.mk.injEq,true_and] at h
      subst h
      exact ⟨_,w,G,pt,.inl hrun,R.take x o ho (Ext.refl _ _) (fun _ _=>rfl) q1 (fun b=>by rw [q2];exact Nat.le_refl _)⟩
    · -- the default
      simp only [Option.some.injEq,Prod.mk.injEq,true_and] at h
      subst h
      have hc:∀ b,cO b (bS (J9 E o.type) (aV s x)) (a.eval x)≤1:=by
        intro b
        rw [q2]
        have h1:=(R.kS x).2 b
        have h2:=R.ct b
        omega
      obtain ⟨e,h1⟩:=q1.share hc hT
      exact ⟨_,w,_,pt,.inl hrun,R.take x o ho e (fun b hb=>oL (by rw [q2];exact hb)) h1 (fun b=>by rw [AU,q2];exact Nat.le_refl _)⟩
end
end Go.aW
namespace Go.aW
def ql:Ty→List Ty
  | .unit=>[]
  | .cons a b=>ql a++ql b
  | .st _ c=>ql c
  | t=>[t]
def Wd (P:Program):Nat→TypeId→Ty
  | 0,_=>.unit
  | n+1,T=>match P.underlying T with
    | some (.int k)=>.int k
    | some .bool=>.bool
    | some .string=>.str
    | some (.slice e)=>.sl (Wd P n e)
    | some (.struct fs)=>.st (((P.info? T).map (·.bytes)).getD 0) (fs.toList.foldr (fun f r=>.cons (Wd P n f.type) r) .unit)
    | some (.array len e)=>.st (((P.info? T).map (·.bytes)).getD 0) ((List.replicate len e).foldr (fun e r=>.cons (Wd P n e) r) .unit)
    | _=>.unit
def zD:Value→Ty→D
  | .int k n,_=>bif LU k n then .int k n else .undef
  | .bool b,_=>.bool b
  | .string s,_=>bif Nat.ble (jq s).length iQ then .str (jq s) else .undef
  | .slice none 0 0,.sl t=>.sl 2 t []
  | .slice none 0 0,_=>.jf
  | _,_=>.undef
def IU:List Value→List Ty→List D
  | [],_=>[]
  | v::r,[]=>zD v .unit::IU r []
  | v::r,t::ts=>zD v t::IU r ts
def Ee (k:IntKind):List Ty→Bool
  | []=>true
  | .int k'::r=>iO k k' && Ee k r
  | _::_=>false
def iP:TypeDesc→Bool
  | .struct _ | .array _ _=>true
  | _=>false
def look:List (Nat×List Nat)→Nat→Option (List Nat)
  | [],_=>none
  | (t,ks)::r,T=>bif Nat.beq T t then some ks else look r T
def Ki (P:Program) (cl:List (Nat×List Nat)) (T:TypeId):Option TI:=
  match P.info? T,P.underlying T with
  | some pi,some d=>match pi.zero with
    | some z=>
      let ty:=Wd P 12 T
      bif Nat.beq z.cells.size pi.size&&(iP d || Nat.beq pi.size 1)&&z.cells.all (·.oneCell') then
      some { size:=pi.size,bytes:=pi.bytes,agg:=iP d,ty:=ty,desc:=d,zero:=IU z.cells.toList (ql ty),
             arr:=match d,ql ty with
               | .array _ e,.int k::r=>bif Ee k r then some (.int k) else some (Wd P 11 e)
               | .array _ e,_=>some (Wd P 11 e)
               | _,_=>none
             cmp:=look cl T } else none
    | none=>none
  | _,_=>none
structure Mj (P:Program) (T:TypeId) (i:TI):Prop where
  info:∃ pi z,P.info? T=some pi∧pi.size=i.size∧pi.bytes=i.bytes∧pi.zero=some z∧z.cells.size=i.size∧i.zero.length=i.size ∧
    (∀ j,j<i.size→(aO z.cells j).oneCell' = true) ∧
    ∀ j (h:j<i.zero.length),(∀ w G pt,bI w G pt i.zero[j] (aO z.cells j))∧∀ b,dw b i.zero[j] (aO z.cells j)=0
  und:P.underlying T=some i.desc
  agg:i.agg=iP i.desc
  one:i.agg=false→i.size=1
theorem TQ (v:Value) (t:Ty):(∀ w G pt,bI w G pt (zD v t) v)∧∀ b,dw b (zD v t) v=0:=by
  cases v with
  | int k n=>
    show (∀ w G pt,bI w G pt (bif LU k n then .int k n else .undef) _)∧∀ b,dw b (bif LU k n then .int k n else .undef) _=0
    by_cases h:LU k n=true
    · rw [h]
      simp only [LU,Bool.and_eq_true,decide_eq_true_eq] at h
      exact ⟨fun _ _ _=>⟨rfl,h⟩,fun _=>rfl⟩
    · simp only [Bool.not_eq_true] at h;rw [h];exact ⟨fun _ _ _=>trivial,fun _=>rfl⟩
  | bool b=>exact ⟨fun _ _ _=>rfl,fun _=>rfl⟩
  | string s=>
    show (∀ w G pt,bI w G pt (bif Nat.ble (jq s).length iQ then .str (jq s) else .undef) _)∧∀ b,dw b (bif Nat.ble (jq s).length iQ then .str (jq s) else .undef) _=0
    by_cases h:Nat.ble (jq s).length iQ=true
    · rw [h];exact ⟨fun _ _ _=>⟨_,rfl,rfl,Nat.le_of_ble_eq_true h⟩,fun _=>rfl⟩
    · simp only [Bool.not_eq_true] at h;rw [h];exact ⟨fun _ _ _=>trivial,fun _=>rfl⟩
  | slice a n c=>
    unfold zD
    split
    · rename_i h;cases h
    · rename_i h;cases h
    · rename_i h;cases h
    · rename_i h;cases h;exact ⟨fun _ _ _=>⟨none,0,0,rfl,rfl,by simp,.inl ⟨rfl,rfl,rfl⟩⟩,fun _=>rfl⟩
    · rename_i h _;cases h;exact ⟨fun _ _ _=>rfl,fun _=>rfl⟩
    · exact ⟨fun _ _ _=>trivial,fun _=>rfl⟩
  | _=>exact ⟨fun _ _ _=>trivial,fun _=>rfl⟩
theorem Gv:∀ (vs:List Value) (ts:List Ty),(IU vs ts).length=vs.length ∧
    ∀ j (h:j<(IU vs ts).length),(∀ w G pt,bI w G pt (IU vs ts)[j] (vs.getD j undef))∧∀ b,dw b (IU vs ts)[j] (vs.getD j undef)=0
  | [],_=>⟨rfl,fun j h=>by simp [IU] at h⟩
  | v::r,[]=>by
    obtain ⟨h1,h2⟩:=Gv r []
    refine ⟨by simp [IU,h1],fun j h=>?_⟩
    match j,h with
    | 0,_=>exact TQ v .unit
    | j+1,h=>simpa [IU] using h2 j (by simpa [IU] using h)
  | v::r,t::ts=>by
    obtain ⟨h1,h2⟩:=Gv r ts
    refine ⟨by simp [IU,h1],fun j h=>?_⟩
    match j,h with
    | 0,_=>exact TQ v t
    | j+1,h=>simpa [IU] using h2 j (by simpa [IU] using h)
theorem Q9 {P:Program} {cl:List (Nat×List Nat)} {T:TypeId} {i:TI} (h:Ki P cl T=some i):Mj P T i:=by
  unfold Ki at h
  split at h
  · rename_i pi d hi hu
    split at h
    · rename_i z hz
      cases hb:(Nat.beq z.cells.size pi.size&&(iP d || Nat.beq pi.size 1)&&z.cells.all (·.oneCell')) with
      | false=>simp [hb] at h
      | true=>
        simp only [hb,cond_true,Option.some.injEq] at h
        subst h
        simp only [Bool.and_eq_true,Bool.or_eq_true] at hb
        obtain ⟨⟨h1,h2⟩,h3⟩:=hb
        have h1':=Nat.eq_of_beq_eq_true h1
        obtain ⟨q1,q2⟩:=Gv z.cells.toList (ql (Wd P 12 T))
        refine ⟨⟨pi,z,hi,rfl,rfl,hz,h1',by simp [q1,h1'],fun j hj=>?_,fun j hj=>?_⟩,hu,rfl,fun ha=>?_⟩
        · have hj':j<z.cells.size:=by rw [h1'];exact hj
          have:=Array.all_eq_true.1 h3 j hj'
          simpa [aO,Array.getD_eq_getD_getElem?,hj'] using this
        · have:=q2 j hj
          have e:aO z.cells j=z.cells.toList.getD j undef:=by simp [aO,Array.getD_eq_getD_getElem?,List.getD_eq_getElem?_getD]
          rw [e]
          exact this
        · rcases h2 with h2 | h2
          · rw [h2] at ha;cases ha
          · exact Nat.eq_of_beq_eq_true h2
    · cases h
  · cases h
end Go.aW
namespace Go.aW
theorem gU (k:IntKind) (n:Int):k.has (k.wrap n):=by
  have key:∀ m:Int,0<m→0≤n%m∧n%m<m:=fun m hm=>⟨Int.emod_nonneg _ (by omega),Int.emod_lt_of_pos _ hm⟩
  cases k<;>simp only [IntKind.has,IntKind.wrap,IntKind.min,IntKind.max,IntKind.bits,IntKind.signed]<;>simp<;>(try split)<;>omega
theorem sF {x y:Int} (hx:0≤x) (hy:0<y):x%y≤x:=by
  rw [Int.emod_def]
  have:=Int.mul_nonneg (Int.le_of_lt hy) (Int.ediv_nonneg hx (Int.le_of_lt hy))
  omega
theorem Mk {k:IntKind} {x:Int} (y:Int) (h:k.has x):k.has (x.tmod y):=by
  have h1:x.tmod y≤x∨x.tmod y≤0:=by
    rcases Int.le_total 0 x with hx | hx
    · left
      rw [Int.tmod_eq_emod_of_nonneg hx]
      rcases Int.lt_trichotomy y 0 with hy | hy | hy
      · rw [←Int.emod_neg]
        exact sF hx (by omega)
      · subst hy;simp
      · exact sF hx (by omega)
    · right
      have:=Int.neg_tmod (-x) y
      rw [Int.neg_neg] at this
      rw [this]
      have:=Int.tmod_nonneg y (show 0≤-x by omega)
      omega
  have h2:x≤x.tmod y∨0≤x.tmod y:=by
    rcases Int.le_total 0 x with hx | hx
    · right;exact Int.tmod_nonneg y hx
    · left
      have:=Int.neg_tmod (-x) y
      rw [Int.neg_neg] at this
      rw [this]
      have:(-x).tmod y≤-x:=by
        have hx':0≤-x:=by omega
        rw [Int.tmod_eq_emod_of_nonneg hx']
        rcases Int.lt_trichotomy y 0 with hy | hy | hy
        · rw [←Int.emod_neg]
          exact sF hx' (by omega)
        · subst hy;simp
        · exact sF hx' (by omega)
      omega
  have hmin:k.min≤0:=by cases k<;>simp [IntKind.min,IntKind.bits,IntKind.signed]
  have hmax:0≤k.max:=by cases k<;>simp [IntKind.max,IntKind.bits,IntKind.signed]
  unfold IntKind.has at *
  omega
theorem Ml {k:IntKind} {x:Int} (m:Nat) (h:k.has x):k.has (x.fdiv (2 ^ m)):=by
  have hp:(0:Int)<2 ^ m:=Int.pow_pos (by omega)
  rw [Int.fdiv_eq_ediv_of_nonneg _ (by omega)]
  have h1:0≤x→x / 2 ^ m≤x∧0≤x / 2 ^ m:=fun hx=>⟨Int.ediv_le_self _ hx,Int.ediv_nonneg hx (by omega)⟩
  have h2:x<0→x≤x / 2 ^ m∧x / 2 ^ m<0:=fun hx=>⟨by
    rw [Int.le_ediv_iff_mul_le hp]
    have:x*2 ^ m≤x*1:=Int.mul_le_mul_of_nonpos_left (by omega) (by omega)
    omega,Int.ediv_neg_of_neg_of_pos hx hp⟩
  have hmin:k.min≤0:=by cases k<;>simp [IntKind.min,IntKind.bits,IntKind.signed]
  have hmax:0≤k.max:=by cases k<;>simp [IntKind.max,IntKind.bits,IntKind.signed]
  unfold IntKind.has at *
  by_cases hx:x<0
  · have:=h2 hx;omega
  · have:=h1 (by omega);omega
section
variable {P:Program} {E:Env} {C:Ctx} {s:St} {a:Act} {w:World} {G:Nat→Nat} {pt:Nat→Nat→Option Value} {o:Oper} {u:St} {xT:Nat}
theorem pure_ok (R:Rel E C s a w G pt) (ho:∀ t,o.dst=some t→t<E.n) {v:Value} {d:D} (hrun:(execOp a.eval o).run P w = .ok (.value v) w)
    (hd:aY w G pt d v) (hc:∀ b,cO b d v=0):fC P E C o a w (ak (bB o d) s):=
  ⟨v,w,G,pt,.inl hrun,R.wV o ho hd hc⟩
theorem Ef (R:Rel E C s a w G pt) (ho:∀ t,o.dst=some t→t<E.n) (x:Operand) (hop:o.op = .nilCheck x)
    (h:kD o s x=some (true,u)):fC P E C o a w (ak u s):=by
  simp only [kD] at h
  cases hp:IK (aV s x) with
  | false=>simp [hp] at h
  | true=>
    rw [hp] at h
    simp only [cond_true,Option.some.injEq,Prod.mk.injEq,true_and] at h
    subst h
    have hr:=aT R x
    have hrun:(execOp a.eval o).run P w = .ok (.value (a.eval x)) w:=by
      cases hd:aV s x<;>rw [hd] at hp hr<;>simp only [IK,Bool.false_eq_true] at hp
      · obtain ⟨b,_,hv⟩:=hr;simp [execOp,hop,hv]
      · obtain ⟨b,_,hv⟩:=hr;simp [execOp,hop,hv]
      · have hv:a.eval x = .pointer _:=hr;simp [execOp,hop,hv]
      · obtain ⟨b,_,hv,_⟩:=hr;simp [execOp,hop,hv]
      · obtain ⟨arr,hv,_⟩:=hr;simp [execOp,hop,hv]
      · have hv:a.eval x = .func _ #[] #[]:=hr;simp [execOp,hop,hv]
      · obtain ⟨b,_,hv,_⟩:=hr;simp [execOp,hop,hv]
    refine pure_ok R ho hrun hr fun b=>?_
    cases hd:aV s x<;>rw [hd] at hp<;>simp only [IK,Bool.false_eq_true] at hp<;>cases a.eval x<;>rfl
theorem Kj (op:BinOp) (xT:Nat) (x y:Operand) (yT:Nat) (hop:o.op = .binOp op xT x y yT) {v:Value}
    (hg:(eqGuard op xT x y (a.eval x) (a.eval y)).run P w = .ok () w) (hb:(binOp op xT (a.eval x) (a.eval y)).run P w = .ok v w) :
    (execOp a.eval o).run P w = .ok (.value v) w:=by
  simp [execOp,hop,hg,hb]
theorem vk (op:BinOp) (xT:Nat) (x y:Operand) {p q:Value} (h:∀ cs,p≠.agg cs) (h2:p≠.nilIface):(eqGuard op xT x y p q).run P w = .ok () w:=by
  unfold eqGuard
  cases op<;>simp<;>split<;>first | rfl | exact absurd rfl h2 | exact absurd rfl (h _)
theorem Mq {op:BinOp} {k:IntKind} {x y:Int} {d:D} (hx:k.has x) (h:arith op k x y=some (true,d)) :
    ∃ v,(binOp op xT (.int k x) (.int k y)).run P w = .ok v w∧aY w G pt d v∧∀ b,cO b d v=0:=by
  cases op<;>simp only [arith,Option.some.injEq,Prod.mk.injEq,true_and,reduceCtorEq,Bool.not_eq_true',beq_eq_false_iff_ne,ne_eq] at h
  · subst h;exact ⟨.int k (k.wrap (x+y)),by simp [binOp,Op.intArith],⟨rfl,gU _ _⟩,fun _=>rfl⟩
  · subst h;exact ⟨.int k (k.wrap (x - y)),by simp [binOp,Op.intArith],⟨rfl,gU _ _⟩,fun _=>rfl⟩
  · subst h;exact ⟨.int k (k.wrap (x*y)),by simp [binOp,Op.intArith],⟨rfl,gU _ _⟩,fun _=>rfl⟩
  · obtain ⟨h0,h⟩:=h;subst h;exact ⟨.int k (k.wrap (x.tdiv y)),by simp [binOp,Op.intDiv,h0],⟨rfl,gU _ _⟩,fun _=>rfl⟩
  · obtain ⟨h0,h⟩:=h;subst h;exact ⟨.int k (x.tmod y),by simp [binOp,Op.intDiv,h0],⟨rfl,Mk _ hx⟩,fun _=>rfl⟩
  · subst h;refine ⟨.int k (k.wrap (BitVec.ofInt k.bits x &&& BitVec.ofInt k.bits y).toNat),?_,⟨rfl,gU _ _⟩,fun _=>rfl⟩;simp [binOp,Op.intBits]
  · subst h;refine ⟨.int k (k.wrap (BitVec.ofInt k.bits x ||| BitVec.ofInt k.bits y).toNat),?_,⟨rfl,gU _ _⟩,fun _=>rfl⟩;simp [binOp,Op.intBits]
  · subst h;refine ⟨.int k (k.wrap (BitVec.ofInt k.bits x ^^^ BitVec.ofInt k.bits y).toNat),?_,⟨rfl,gU _ _⟩,fun _=>rfl⟩;simp [binOp,Op.intBits]
  · subst h;refine ⟨.int k (k.wrap (BitVec.ofInt k.bits x &&& ~~~BitVec.ofInt k.bits y).toNat),?_,⟨rfl,gU _ _⟩,fun _=>rfl⟩;simp [binOp,Op.intBits]
  · subst h;exact ⟨.bool (x==y),by simp [binOp,Op.intCmp],rfl,fun _=>rfl⟩
  · subst h;exact ⟨.bool (x != y),by simp [binOp,Op.intCmp],rfl,fun _=>rfl⟩
  · subst h;exact ⟨.bool (decide (x<y)),by simp [binOp,Op.intCmp],rfl,fun _=>rfl⟩
  · subst h;exact ⟨.bool (decide (x≤y)),by simp [binOp,Op.intCmp],rfl,fun _=>rfl⟩
  · subst h;exact ⟨.bool (decide (x > y)),by simp [binOp,Op.intCmp],rfl,fun _=>rfl⟩
  · subst h;exact ⟨.bool (decide (x≥y)),by simp [binOp,Op.intCmp],rfl,fun _=>rfl⟩
theorem Kk {op:BinOp} {k k':IntKind} {x y:Int} {d:D} (hx:k.has x) (h:shifts op k x y=some (true,d)) :
    ∃ v,(binOp op xT (.int k x) (.int k' y)).run P w = .ok v w∧aY w G pt d v∧∀ b,cO b d v=0:=by
  cases op<;>simp only [shifts,Option.some.injEq,Prod.mk.injEq,reduceCtorEq,decide_eq_true_eq] at h
  · obtain ⟨h0,h⟩:=h;subst h
    exact ⟨.int k (k.wrap (x*2 ^ min y.toNat k.bits)),by simp [binOp,Op.shift,show ¬ y<0 by omega],⟨rfl,gU _ _⟩,fun _=>rfl⟩
  · obtain ⟨h0,h⟩:=h;subst h
    exact ⟨.int k (x.fdiv (2 ^ min y.toNat k.bits)),by simp [binOp,Op.shift,show ¬ y<0 by omega],⟨rfl,Ml _ hx⟩,fun _=>rfl⟩
end
end Go.aW
namespace Go.aW
def jN (P:Program) (rec:TypeId→Option (List Nat)):List Field→Nat→Nat→Option (List Nat)
  | [],off,tot=>bif Nat.beq off tot then some [] else none
  | f::r,off,tot=>bif Nat.beq f.offset off&&(f.name != "_") then
      match rec f.type with
      | some ks=>match jN P rec r (off+P.cellsOf f.type) tot with
        | some ks'=>some (ks++ks')
        | none=>none
      | none=>none
    else none
def iG (P:Program):Nat→TypeId→Option (List Nat)
  | 0,_=>none
  | n+1,T=>match P.underlying T with
    | some (.int _)=>bif Nat.beq (P.cellsOf T) 1 then some [0] else none
    | some .bool=>bif Nat.beq (P.cellsOf T) 1 then some [1] else none
    | some .string=>bif Nat.beq (P.cellsOf T) 1 then some [2] else none
    | some (.struct fs)=>bif !P.stoodInHeld T then jN P (iG P n) fs.toList 0 (P.cellsOf T) else none
    | _=>none
theorem IV {s s':ByteArray}:(s.toList==s'.toList)=(jq s==jq s'):=by
  rw [Bool.eq_iff_iff,beq_iff_eq,beq_iff_eq,ByteArray.toList_eq,ByteArray.toList_eq]
  unfold jq
  constructor
  · intro h;rw [h]
  · intro h
    have inj:∀ (a b:List UInt8),(a.map fun x=>(x.toNat:Int))=b.map (fun x=>(x.toNat:Int))→a=b:=by
      intro a
      induction a with
      | nil=>intro b h;cases b<;>simp at h ⊢
      | cons x a ih=>
        intro b h
        cases b with
        | nil=>simp at h
        | cons y b=>
          simp only [List.map_cons,List.cons.injEq] at h
          rw [ih b h.2,UInt8.toNat_inj.1 (by omega:x.toNat=y.toNat)]
    exact inj _ _ h
theorem kT:∀ {a b:List D} {r:Bool},iF a b=some r→a.length=b.length
  | [],[],_,_=>rfl
  | [],_::_,_,h=>by simp [iF] at h
  | d::a,[],_,h=>by cases d<;>simp [iF] at h
  | d::a,e::b,r,h=>by
    cases d<;>cases e<;>simp only [iF,reduceCtorEq] at h
    · cases hr:iF a b with
      | none=>simp [hr] at h
      | some q=>simp [kT hr]
    · rename_i k x k' y
      cases hk:iO k k' with
      | false=>simp [hk] at h
      | true=>
        simp only [hk,cond_true] at h
        cases hr:iF a b with
        | none=>simp [hr] at h
        | some q=>simp [kT hr]
    · cases hr:iF a b with
      | none=>simp [hr] at h
      | some q=>simp [kT hr]
theorem nL:∀ {a b:List D} (n:Nat) {r:Bool},iF a b=some r→∃ r1 r2,iF (a.take n) (b.take n)=some r1∧iF (a.drop n) (b.drop n)=some r2∧r=(r1&&r2)
  | a,b,0,r,h=>⟨true,r,by simp [iF],by simpa using h,by simp⟩
  | [],[],n+1,r,h=>⟨true,true,by simp [iF],by simp [iF],by simpa [iF] using h.symm⟩
  | [],_::_,n+1,r,h=>by simp [iF] at h
  | d::a,[],n+1,_,h=>by cases d<;>simp [iF] at h
  | d::a,e::b,n+1,r,h=>by
    cases d<;>cases e<;>simp only [iF,reduceCtorEq] at h
    · cases hr:iF a b with
      | none=>simp [hr] at h
      | some q=>
        obtain ⟨r1,r2,h1,h2,h3⟩:=nL n hr
        simp only [hr,Option.some.injEq] at h
        exact ⟨_,r2,by simp only [List.take_succ_cons,iF,h1];rfl,by simpa using h2,by rw [←h,h3,Bool.and_assoc]⟩
    · rename_i k x k' y
      cases hk:iO k k' with
      | false=>simp [hk] at h
      | true=>
        simp only [hk,cond_true] at h
        cases hr:iF a b with
        | none=>simp [hr] at h
        | some q=>
          obtain ⟨r1,r2,h1,h2,h3⟩:=nL n hr
          simp only [hr,Option.some.injEq] at h
          exact ⟨_,r2,by simp only [List.take_succ_cons,iF,h1,hk,cond_true];rfl,by simpa using h2,by rw [←h,h3,Bool.and_assoc]⟩
    · cases hr:iF a b with
      | none=>simp [hr] at h
      | some q=>
        obtain ⟨r1,r2,h1,h2,h3⟩:=nL n hr
        simp only [hr,Option.some.injEq] at h
        exact ⟨_,r2,by simp only [List.take_succ_cons,iF,h1];rfl,by simpa using h2,by rw [←h,h3,Bool.and_assoc]⟩
section
variable {P:Program} {w:World} {G:Nat→Nat} {pt:Nat→Nat→Option Value}
theorem aQ.take {ds:List D} {f:Nat→Value} (h:aQ w G pt ds f) (n:Nat):aQ w G pt (ds.take n) f:=fun j hj=>by
  have:=h j (by simp at hj;omega)
  simpa using this
theorem aQ.drop {ds:List D} {f:Nat→Value} (h:aQ w G pt ds f) (n:Nat):aQ w G pt (ds.drop n) (fun j=>f (n+j)):=fun j hj=>by
  have:=h (n+j) (by simp at hj;omega)
  simpa using this
theorem Eh {T:TypeId} (h:(P.info? T).isSome=true):(sizeOf T).run P w = .ok (P.cellsOf T) w:=by
  obtain ⟨i,hi⟩:=Option.isSome_iff_exists.1 h
  simp [sizeOf,typeInfo,hi,Program.cellsOf]
theorem mO {T:TypeId} {d:TypeDesc} (hu:P.underlying T=some d) (hd:iP d=false) (xs:Array Value) (o:Nat) (h:o<xs.size) :
    (part T xs o).run P w = .ok (aO xs o) w:=by
  have hagg:(isAgg T).run P w = .ok false w:=by
    unfold isAgg
    rw [Sem.run_bind,run_underlying hu w]
    cases d<;>simp_all [iP]
  simp [part,hagg,h,aO,Array.getD_eq_getD_getElem?]
theorem oM {T:TypeId} {d:TypeDesc} (hu:P.underlying T=some d) (hd:iP d=true) (hi:(P.info? T).isSome=true) (xs:Array Value) (o:Nat) :
    (part T xs o).run P w = .ok (.agg (xs.extract o (o+P.cellsOf T))) w:=by
  have hagg:(isAgg T).run P w = .ok true w:=by
    unfold isAgg
    rw [Sem.run_bind,run_underlying hu w]
    cases d<;>simp_all [iP]
  simp [part,hagg,Eh hi]
theorem lQ {T:TypeId} {d:TypeDesc} (h:P.underlying T=some d):(P.info? T).isSome=true:=by
  unfold Program.underlying at h
  split at h<;>simp_all
theorem sG (xs:Array Value) (o n j:Nat) (hj:j<n) (h:o+n≤xs.size):aO (xs.extract o (o+n)) j=aO xs (o+j):=by
  simp only [aO,Array.getD_eq_getD_getElem?,Array.getElem?_extract]
  rw [if_pos (by omega)]
theorem oN:∀ {a:List D} {ks:List Nat},conf a ks=true→a.length=ks.length
  | [],[],_=>rfl
  | [],_::_,h=>by simp [conf] at h
  | d::a,[],h=>by simp [conf] at h
  | d::a,k::ks,h=>by
    simp only [conf,Bool.and_eq_true] at h
    simp [oN h.2]
theorem xO:∀ {a:List D} {ks ks':List Nat},conf a (ks++ks')=true→conf (a.take ks.length) ks=true∧conf (a.drop ks.length) ks' = true
  | a,[],ks',h=>⟨by simp [conf],by simpa using h⟩
  | [],k::ks,ks',h=>by simp [conf] at h
  | d::a,k::ks,ks',h=>by
    simp only [List.cons_append,conf,Bool.and_eq_true] at h
    obtain ⟨h3,h4⟩:=xO h.2
    exact ⟨by simp [conf,h.1,h3],by simpa using h4⟩
theorem xP (n:Nat) (tot:Nat) (ih:∀ {T:TypeId} {ks:List Nat},iG P n T=some ks→ks.length=P.cellsOf T):∀ (l:List Field) (off:Nat) (ks:List Nat),jN P (iG P n) l off tot=some ks→off+ks.length=tot:=by
          intro l
          induction l with
          | nil=>
            intro off ks h
            simp only [jN] at h
            cases hoff:Nat.beq off tot with
            | false=>simp [hoff] at h
            | true=>
              simp only [hoff,cond_true,Option.some.injEq] at h
              subst h
              simpa using Nat.eq_of_beq_eq_true hoff
          | cons f l ihl=>
            intro off ks h
            simp only [jN] at h
            cases hc1:(Nat.beq f.offset off&&(f.name != "_")) with
            | false=>simp [hc1] at h
            | true=>
              simp only [hc1,cond_true] at h
              cases hr1:iG P n f.type with
              | none=>simp [hr1] at h
              | some k1=>
                simp only [hr1] at h
                cases hr2:jN P (iG P n) l (off+P.cellsOf f.type) tot with
                | none=>simp [hr2] at h
                | some k2=>
                  simp only [hr2,Option.some.injEq] at h
                  subst h
                  have:=ih hr1
                  have:=ihl _ _ hr2
                  rw [List.length_append]
                  omega
theorem qm:∀ (n:Nat) {T:TypeId} {ks:List Nat},iG P n T=some ks→ks.length=P.cellsOf T
  | 0,T,ks,h=>by simp [iG] at h
  | n+1,T,ks,h=>by
    have leaf:∀ kd,(bif Nat.beq (P.cellsOf T) 1 then some [kd] else none)=some ks→ks.length=P.cellsOf T:=by
      intro kd h
      cases hsz:Nat.beq (P.cellsOf T) 1 with
      | false=>simp [hsz] at h
      | true=>
        simp only [hsz,cond_true,Option.some.injEq] at h
        rw [Nat.eq_of_beq_eq_true hsz,←h];rfl
    simp only [iG] at h
    split at h
    · exact leaf _ h
    · exact leaf _ h
    · exact leaf _ h
    · rename_i fs hu
      cases hst:P.stoodInHeld T with
      | true=>simp [hst] at h
      | false=>
        simp only [hst,Bool.not_false,cond_true] at h
        have:=xP n _ (qm n) _ _ _ h
        omega
    · cases h
def Mr (ds:TypeDesc) (kd:Nat):Prop:=
  match ds with
  | .int _=>kd=0
  | .bool=>kd=1
  | .string=>kd=2
  | _=>False
theorem Ra {T:TypeId} {kd:Nat} {d e:D} {r:Bool} {u v:Value} {ds:TypeDesc} (hu:P.underlying T=some ds)
    (hk:Mr ds kd)
    (hc:Me d kd=true) (he:iF [d] [e]=some r) (h1:bI w G pt d u) (h2:bI w G pt e v) (n:Nat) :
    (Op.equalIn (n+1) T u v).run P w = .ok r w:=by
  cases d<;>simp only [Me,Bool.false_eq_true] at hc
  · have hc:=Nat.eq_of_beq_eq_true hc
    subst hc
    cases ds<;>simp [Mr] at hk
    cases e<;>simp only [iF,reduceCtorEq,Bool.and_true,Option.some.injEq] at he
    simp only [bI] at h1 h2
    rw [h1,h2,←he]
    exact run_equalIn_bool' w n T _ _ hu
  · have hc:=Nat.eq_of_beq_eq_true hc
    subst hc
    cases ds<;>simp [Mr] at hk
    cases e<;>simp only [iF,reduceCtorEq,Bool.and_true] at he
    rename_i k1 x _ k2 y
    simp only [bI] at h1 h2
    rw [h1.1,h2.1]
    cases hkk:iO k1 k2 with
    | false=>simp [hkk] at he
    | true=>
      simp only [hkk,cond_true,Option.some.injEq] at he
      rw [dX hkk,←he]
      exact run_equalIn_int w n T k2 _ x y hu
  · have hc:=Nat.eq_of_beq_eq_true hc
    subst hc
    cases ds<;>simp [Mr] at hk
    cases e<;>simp only [iF,reduceCtorEq,Bool.and_true,Option.some.injEq] at he
    obtain ⟨s1,h1,h1',_⟩:=h1
    obtain ⟨s2,h2,h2',_⟩:=h2
    rw [h1,h2,←he,←h1',←h2',←IV]
    exact run_equalIn_string w n T _ _ hu
theorem Ei:∀ (n:Nat) {T:TypeId} {ks:List Nat},iG P n T=some ks→∀ (k:Nat) (xs ys:Array Value) (o:Nat) {a b:List D} {r:Bool},
    conf a ks=true→iF a b=some r→o+P.cellsOf T≤xs.size→o+P.cellsOf T≤ys.size →
    aQ w G pt a (fun j=>aO xs (o+j))→aQ w G pt b (fun j=>aO ys (o+j)) →
    ∃ x y,(part T xs o).run P w = .ok x w∧(part T ys o).run P w = .ok y w∧(Op.equalIn (n+k) T x y).run P w = .ok r w
  | 0,T,ks,h,_,_,_,_,_,_,_,_,_,_,_,_,_=>by simp [iG] at h
  | n+1,T,ks,h,k,xs,ys,o,a,b,r,hcf,he,hx,hy,ha,hb=>by
    simp only [iG] at h
    rw [show n+1+k=n+k+1 by omega]
    have Ms:∀ ds kd,P.underlying T=some ds→iP ds=false→Mr ds kd →
        (bif Nat.beq (P.cellsOf T) 1 then some [kd] else none)=some ks →
        ∃ x y,(part T xs o).run P w = .ok x w∧(part T ys o).run P w = .ok y w∧(Op.equalIn (n+k+1) T x y).run P w = .ok r w:=by
      intro ds kd hu hag hkd h
      cases hsz:Nat.beq (P.cellsOf T) 1 with
      | false=>simp [hsz] at h
      | true=>
        simp only [hsz,cond_true,Option.some.injEq] at h
        have hsz:=Nat.eq_of_beq_eq_true hsz
        subst h
        refine ⟨_,_,mO hu hag xs o (by omega),mO hu hag ys o (by omega),?_⟩
        match a,b,oN hcf,kT he with
        | [d],[e],_,_=>
          simp only [conf,Bool.and_true] at hcf
          have h1:=(ha 0 (by simp)).1
          have h2:=(hb 0 (by simp)).1
          exact Ra hu hkd hcf he h1 h2 _
        | [],_,h,_=>simp at h
        | _::_::_,_,h,_=>simp at h
        | [_],[],_,h=>simp at h
        | [_],_::_::_,_,h=>simp at h
    split at h
    · rename_i kk hu;exact Ms _ 0 hu rfl rfl h
    · rename_i hu;exact Ms _ 1 hu rfl rfl h
    · rename_i hu;exact Ms _ 2 hu rfl rfl h
    · rename_i fs hu
      cases hst:P.stoodInHeld T with
      | true=>simp [hst] at h
      | false=>
        simp only [hst,Bool.not_false,cond_true] at h
        have hfo:P.fieldsOf T=fs:=by simp [Program.fieldsOf,hu]
        have px:=oM (P:=P) (w:=w) hu rfl (lQ hu) xs o
        have py:=oM (P:=P) (w:=w) hu rfl (lQ hu) ys o
        have key:∀ (l:List Field) (off:Nat) (ks:List Nat) (a b:List D) (r:Bool),jN P (iG P n) l off (P.cellsOf T)=some ks→conf a ks=true→iF a b=some r →
            aQ w G pt a (fun j=>aO xs (o+(off+j)))→aQ w G pt b (fun j=>aO ys (o+(off+j))) →
            (Op.eqFields (n+k) (xs.extract o (o+P.cellsOf T)) (ys.extract o (o+P.cellsOf T)) l).run P w = .ok r w:=by
          intro l
          induction l with
          | nil=>
            intro off ks a b r h hcf he _ _
            simp only [jN] at h
            cases hoff:Nat.beq off (P.cellsOf T) with
            | false=>simp [hoff] at h
            | true=>
              simp only [hoff,cond_true,Option.some.injEq] at h
              subst h
              have hl:=oN hcf
              obtain rfl:=List.eq_nil_of_length_eq_zero hl
              obtain rfl:=List.eq_nil_of_length_eq_zero ((kT he).symm.trans hl)
              simp only [iF,Option.some.injEq] at he
              subst he
              rfl
          | cons f l ihl=>
            intro off ks a b r h hcf he hra hrb
            simp only [jN] at h
            cases hc1:(Nat.beq f.offset off&&(f.name != "_")) with
            | false=>simp [hc1] at h
            | true=>
              simp only [hc1,cond_true] at h
              simp only [Bool.and_eq_true,bne_iff_ne,ne_eq] at hc1
              obtain ⟨hc1,hnm⟩:=hc1
              have hc1:=Nat.eq_of_beq_eq_true hc1
              cases hr1:iG P n f.type with
              | none=>simp [hr1] at h
              | some k1=>
                simp only [hr1] at h
                cases hr2:jN P (iG P n) l (off+P.cellsOf f.type) (P.cellsOf T) with
                | none=>simp [hr2] at h
                | some k2=>
                  simp only [hr2,Option.some.injEq] at h
                  subst h
                  obtain ⟨c1,c2⟩:=xO hcf
                  obtain ⟨r1,r2,e1,e2,e3⟩:=nL k1.length he
                  have hk1:=qm n hr1
                  have hk2:=xP n _ (qm n) _ _ _ hr2
                  have hab:=kT he
                  have hla:=oN hcf
                  rw [List.length_append] at hla
                  have hsx:(xs.extract o (o+P.cellsOf T)).size=P.cellsOf T:=by simp;omega
                  have hsy:(ys.extract o (o+P.cellsOf T)).size=P.cellsOf T:=by simp;omega
                  have ex:∀ j,off+j<P.cellsOf T→aO (xs.extract o (o+P.cellsOf T)) (off+j)=aO xs (o+(off+j)):=fun j hj=>sG xs o _ _ hj hx
                  have ey:∀ j,off+j<P.cellsOf T→aO (ys.extract o (o+P.cellsOf T)) (off+j)=aO ys (o+(off+j)):=fun j hj=>sG ys o _ _ hj hy
                  obtain ⟨x1,y1,p1,p2,p3⟩:=Ei n hr1 k (xs.extract o (o+P.cellsOf T)) (ys.extract o (o+P.cellsOf T)) off c1 e1 (by omega) (by omega)
                    (fun j hj=>by
                      have:=hra.take k1.length j hj
                      simp only [ex j (by simp at hj;omega)];exact this)
                    (fun j hj=>by
                      have:=hrb.take k1.length j hj
                      simp only [ey j (by simp at hj;omega)];exact this)
                  have p4:=ihl (off+P.cellsOf f.type) k2 _ _ r2 hr2 c2 e2
                    (fun j hj=>by
                      have:=hra.drop k1.length j hj
                      simp only [hk1] at this ⊢
                      simpa only [show o+(off+P.cellsOf f.type+j)=o+(off+(P.cellsOf f.type+j)) by omega] using this)
                    (fun j hj=>by
                      have:=hrb.drop k1.length j hj
                      simp only [hk1] at this ⊢
                      simpa only [show o+(off+P.cellsOf f.type+j)=o+(off+(P.cellsOf f.type+j)) by omega] using this)
                  simp only [Op.eqFields,ne_eq,hnm,not_false_eq_true,if_true,Sem.run_bind,hc1,p1,p2,p3,Result.andThen_ok]
                  cases r1 with
                  | true=>simpa [e3] using p4
                  | false=>simp [e3]
        refine ⟨_,_,px,py,?_⟩
        rw [run_equalIn_struct w (n+k) T _ _ (by rw [hfo];exact hu) hst,hfo]
        exact key fs.toList 0 ks a b r h hcf he (by simpa using ha) (by simpa using hb)
    · cases h
end
end Go.aW
namespace Go.aW
structure nM (P:Program) (E:Env):Prop where
  ti:∀ T i,E.T T=some i→Mj P T i
  cmp:∀ T i ks,E.T T=some i→i.cmp=some ks→iG P 8 T=some ks∧P.eqGuardType P.depth T=false
theorem xQ:∀ (a b:List UInt8),Op.bytesLess a b=iw (a.map fun x=>(x.toNat:Int)) (b.map fun x=>(x.toNat:Int))
  | _,[]=>by simp [Op.bytesLess,iw]
  | [],_::_=>by simp [Op.bytesLess,iw]
  | a::x,b::y=>by
    have h1:decide ((a.toNat:Int)<(b.toNat:Int))=decide (a<b):=by
      rw [decide_eq_decide,UInt8.lt_iff_toNat_lt];omega
    have h2:((a.toNat:Int)==(b.toNat:Int))=(a==b):=by
      rw [Bool.eq_iff_iff,beq_iff_eq,beq_iff_eq,←UInt8.toNat_inj];omega
    simp only [List.map_cons,Op.bytesLess,iw,h1,h2,xQ x y]
theorem jr (s:ByteArray):(jq s).length=s.size:=by simp [jq]
section
variable {P:Program} {E:Env} {C:Ctx} {s:St} {a:Act} {w:World} {G:Nat→Nat} {pt:Nat→Nat→Option Value} {o:Oper} {u:St}
theorem Mt {op:BinOp} {x y:ByteArray} {d:D} (xT:Nat) (h:Md op (jq x) (jq y)=some (true,d)) :
    ∃ v,(binOp op xT (.string x) (.string y)).run P w = .ok v w∧aY w G pt d v∧∀ b,cO b d v=0:=by
  have e1:(x.toList==y.toList)=(jq x==jq y):=IV
  have e2:Op.bytesLess x.toList y.toList=iw (jq x) (jq y):=by rw [xQ,ByteArray.toList_eq,ByteArray.toList_eq];rfl
  cases op<;>simp only [Md,Option.some.injEq,Prod.mk.injEq,true_and,reduceCtorEq] at h
  · obtain ⟨h0,h⟩:=h;subst h
    have h0:=Nat.le_of_ble_eq_true h0
    rw [jr,jr] at h0
    have h0':x.size+y.size≤9223372036854775807:=h0
    refine ⟨.string (x++y),?_,⟨_,rfl,?_,?_⟩,fun _=>rfl⟩
    · have:¬ (((x.size+y.size:Nat):Int) > IntKind.i64.max):=by rw [IntKind.max_i64];omega
      simp only [binOp,Op.stringOp]
      rw [if_neg this];rfl
    · simp [jq]
    · rw [List.length_append,jr,jr];exact h0
  · subst h;exact ⟨.bool (jq x==jq y),by simp only [binOp,Op.stringOp,e1];rfl,rfl,fun _=>rfl⟩
  · subst h;exact ⟨.bool (!(jq x==jq y)),by simp only [binOp,Op.stringOp,e1];rfl,rfl,fun _=>rfl⟩
  · subst h;exact ⟨.bool (iw (jq x) (jq y)),by simp only [binOp,Op.stringOp,e2];rfl,rfl,fun _=>rfl⟩
  · subst h;exact ⟨.bool (iw (jq x) (jq y) || jq x==jq y),by simp only [binOp,Op.stringOp,e1,e2];rfl,rfl,fun _=>rfl⟩
  · subst h;exact ⟨.bool (!(iw (jq x) (jq y) || jq x==jq y)),by simp only [binOp,Op.stringOp,e1,e2];rfl,rfl,fun _=>rfl⟩
  · subst h;exact ⟨.bool (!iw (jq x) (jq y)),by simp only [binOp,Op.stringOp,e2];rfl,rfl,fun _=>rfl⟩
theorem Wh (HP:nM P E) (R:Rel E C s a w G pt) (ho:∀ t,o.dst=some t→t<E.n) (op:BinOp) (xT:Nat) (x y:Operand) (yT:Nat) (hop:o.op = .binOp op xT x y yT)
    (h:Ke E o s op xT x y=some (true,u)):fC P E C o a w (ak u s):=by
  have hx:=aT R x
  have hy:=aT R y
  have fin:∀ (d:D) (v:Value),(eqGuard op xT x y (a.eval x) (a.eval y)).run P w = .ok () w→(binOp op xT (a.eval x) (a.eval y)).run P w = .ok v w →
      aY w G pt d v→(∀ b,cO b d v=0)→fC P E C o a w (ak (bB o d) s):=fun d v h1 h2 h3 h4=>pure_ok R ho (Kj op xT x y yT hop h1 h2) h3 h4
  simp only [Ke] at h
  split at h
  · rename_i k p k' q h1 h2
    rw [h1] at hx;rw [h2] at hy
    obtain ⟨hx1,hx2⟩:=hx
    obtain ⟨hy1,hy2⟩:=hy
    rw [hx1,hy1] at fin
    have hg:=vk (P:=P) (w:=w) op xT x y (p:=.int k p) (q:=.int k' q) (by simp) (by simp)
    cases hs:IL op with
    | true=>
      simp only [hs,cond_true] at h
      split at h
      · rename_i g d hsh
        simp only [Option.some.injEq,Prod.mk.injEq] at h
        obtain ⟨rfl,rfl⟩:=h
        obtain ⟨v,h3,h4,h5⟩:=Kk (P:=P) (w:=w) (G:=G) (pt:=pt) (xT:=xT) (k':=k') hx2 hsh
        exact fin d v hg h3 h4 h5
      · cases h
    | false=>
      simp only [hs,cond_false] at h
      cases hk:iO k k' with
      | false=>simp [hk] at h
      | true=>
        simp only [hk,cond_true] at h
        split at h
        · rename_i g d hsh
          simp only [Option.some.injEq,Prod.mk.injEq] at h
          obtain ⟨rfl,rfl⟩:=h
          have:=dX hk
          subst this
          obtain ⟨v,h3,h4,h5⟩:=Mq (P:=P) (w:=w) (G:=G) (pt:=pt) (xT:=xT) hx2 hsh
          exact fin d v hg h3 h4 h5
        · cases h
  · rename_i p q h1 h2
    rw [h1] at hx;rw [h2] at hy
    obtain ⟨x',hx1,hx2,_⟩:=hx
    obtain ⟨y',hy1,hy2,_⟩:=hy
    rw [hx1,hy1] at fin
    split at h
    · rename_i g d hst
      simp only [Option.some.injEq,Prod.mk.injEq] at h
      obtain ⟨rfl,rfl⟩:=h
      rw [←hx2,←hy2] at hst
      obtain ⟨v,h3,h4,h5⟩:=Mt (P:=P) (w:=w) (G:=G) (pt:=pt) xT hst
      exact fin d v (vk op xT x y (by simp) (by simp)) h3 h4 h5
    · cases h
  · rename_i p q h1 h2
    rw [h1] at hx;rw [h2] at hy
    have hx:a.eval x = .bool p:=hx
    have hy:a.eval y = .bool q:=hy
    rw [hx,hy] at fin
    have hg:=vk (P:=P) (w:=w) op xT x y (p:=.bool p) (q:=.bool q) (by simp) (by simp)
    split at h
    · rename_i i hi
      have ht:=(HP.ti _ _ hi).und
      split at h
      · rename_i hd
        rw [hd] at ht
        simp only [Option.some.injEq,Prod.mk.injEq,true_and] at h
        subst h
        exact fin _ (.bool (p==q)) hg (by simp [binOp,Op.equal,Op.maxDepth,run_equalIn_bool' w _ xT p q ht]) rfl (fun _=>rfl)
      · rename_i hd
        rw [hd] at ht
        simp only [Option.some.injEq,Prod.mk.injEq,true_and] at h
        subst h
        exact fin _ (.bool (!(p==q))) hg (by simp [binOp,Op.equal,Op.maxDepth,run_equalIn_bool' w _ xT p q ht]) rfl (fun _=>rfl)
      · cases h
    · cases h
  · rename_i p q h1 h2
    rw [h1] at hx;rw [h2] at hy
    obtain ⟨ax,hx1,hx2,hx3⟩:=hx
    obtain ⟨ay,hy1,hy2,hy3⟩:=hy
    rw [hx1,hy1] at fin
    cases hc:Mf E xT p with
    | false=>simp [hc] at h
    | true=>
      simp only [hc,cond_true] at h
      unfold Mf at hc
      split at hc
      · rename_i i hi
        split at hc
        · rename_i ks hks
          obtain ⟨hkb,hgd⟩:=HP.cmp _ _ _ hi hks
          simp only [Bool.and_eq_true] at hc
          have hl:=qm 8 hkb
          have hpl:=oN hc.2
          have key:∀ r,iF p q=some r→(Op.equalIn 10000 xT (.agg ax) (.agg ay)).run P w = .ok r w:=by
            intro r hr
            have hql:=kT hr
            have hT:=HP.ti _ _ hi
            have hag:iP i.desc=true:=by rw [←hT.agg];exact hc.1
            have p1:=oM (P:=P) (w:=w) hT.und hag (lQ hT.und) ax 0
            have p2:=oM (P:=P) (w:=w) hT.und hag (lQ hT.und) ay 0
            obtain ⟨x1,y1,q1,q2,q3⟩:=Ei (P:=P) (w:=w) (G:=G) (pt:=pt) 8 hkb 9992 ax ay 0 hc.2 hr (by omega) (by omega) (by simpa using hx3) (by simpa using hy3)
            rw [p1] at q1;rw [p2] at q2
            have e1:ax.extract 0 (0+P.cellsOf xT)=ax:=by rw [show 0+P.cellsOf xT=ax.size by omega];simp
            have e2:ay.extract 0 (0+P.cellsOf xT)=ay:=by rw [show 0+P.cellsOf xT=ay.size by omega];simp
            rw [e1] at q1;rw [e2] at q2
            injection q1 with q1;injection q2 with q2
            subst q1;subst q2
            exact q3
          have hg:=run_eqGuard_agg (P:=P) w op xT x y ax ay hgd
          split at h
          · rename_i r hr
            simp only [Option.some.injEq,Prod.mk.injEq,true_and] at h
            subst h
            exact fin _ (.bool r) hg (by rw [run_eql_struct,key r hr];rfl) rfl (fun _=>rfl)
          · rename_i r hr
            simp only [Option.some.injEq,Prod.mk.injEq,true_and] at h
            subst h
            exact fin _ (.bool (!r)) hg (by rw [run_neq_struct,key r hr];rfl) rfl (fun _=>rfl)
          · cases h
        · cases hc
      · cases hc
  · cases h
end
end Go.aW
namespace Go.aW
section
variable {P:Program} {E:Env} {C:Ctx} {s:St} {a:Act} {w:World} {G:Nat→Nat} {pt:Nat→Nat→Option Value} {o:Oper} {u:St}
theorem abk (R:Rel E C s a w G pt) (ho:∀ t,o.dst=some t→t<E.n) (op:UnOp) (xT:Nat) (x:Operand) (hop:o.op = .unOp op xT x)
    (h:aUn o s op x=some (true,u)):fC P E C o a w (ak u s):=by
  have hx:=aT R x
  simp only [aUn] at h
  split at h
  · rename_i b h1
    rw [h1] at hx
    have hx:a.eval x = .bool b:=hx
    simp only [Option.some.injEq,Prod.mk.injEq,true_and] at h
    subst h
    exact pure_ok R ho (v:=.bool (!b)) (by simp [execOp,hop,Op.unary,hx]) rfl (fun _=>rfl)
  · rename_i k n h1
    rw [h1] at hx
    obtain ⟨hx,_⟩:=hx
    simp only [Option.some.injEq,Prod.mk.injEq,true_and] at h
    subst h
    exact pure_ok R ho (v:=.int k (k.wrap (0 - n))) (by simp [execOp,hop,Op.unary,Op.intArith,hx]) ⟨rfl,gU _ _⟩ (fun _=>rfl)
  · rename_i k n h1
    rw [h1] at hx
    obtain ⟨hx,_⟩:=hx
    simp only [Option.some.injEq,Prod.mk.injEq,true_and] at h
    subst h
    exact pure_ok R ho (v:=.int k (k.wrap (BitVec.ofInt k.bits (if k.signed then -1 else k.max) ^^^ BitVec.ofInt k.bits n).toNat))
      (by simp only [execOp,hop,Op.unary,hx,Op.intBits];rfl) ⟨rfl,gU _ _⟩ (fun _=>rfl)
  · cases h
theorem Gw (R:Rel E C s a w G pt) (ho:∀ t,o.dst=some t→t<E.n) (x:Operand) (i:Nat) (hop:o.op = .extract x i)
    (h:mG o s x i=some (true,u)):fC P E C o a w (ak u s):=by
  simp only [mG] at h
  split at h
  · rename_i t vs h1
    split at h
    · rename_i d hd
      simp only [Option.some.injEq,Prod.mk.injEq,true_and] at h
      subst h
      have hx:=R.tm t
      have h1':get s (2*t) = .gB vs:=h1
      rw [h1'] at hx
      obtain ⟨arr,hv,hsz,hr⟩:=hx
      obtain ⟨hi,hvi⟩:=List.getElem?_eq_some_iff.1 hd
      have hia:i<arr.size:=by omega
      have hrun:(execOp a.eval o).run P w = .ok (.value (aO arr i)) w:=by
        simp [execOp,hop,Act.eval,hv,Instr.extract,hia,aO,Array.getD_eq_getD_getElem?]
      have hX:dJ d=true∨fC P E C o a w (ak ((bif dJ d then [(2*t,.gB (vs.set i .undef))] else [])++bB o d) s):=by
        cases hX:dJ d with
        | true=>exact .inl rfl
        | false=>
          right
          have QY:=hr i hi
          rw [hvi] at QY
          have hrd:aY w G pt d (aO arr i):=by
            cases d<;>first | exact QY | exact absurd QY id
          exact pure_ok R ho hrun hrd (fun b=>(rz hX).2 b _)
      rcases hX with hX | hX
      case inr=>exact hX
      rw [hX]
      simp only [cond_true,List.singleton_append]
      have htn:t<E.n:=nK R (by rw [h1'];rfl)
      have hct:∀ b,cT s a b t=mg b vs (aO arr):=fun b=>by simp only [cT,h1',hv,cO]
      -- the tuple without its component
      have hsum:∀ b,mg b (vs.set i .undef) (aO arr)+D9 b vs[i] (aO arr i)=mg b vs (aO arr):=by
        intro b
        have key:∀ (l:List D) (f:Nat→Value) (i:Nat) (h:i<l.length),mg b (l.set i .undef) f+D9 b l[i] (f i)=mg b l f:=by
          intro l
          induction l with
          | nil=>intro f i h;simp at h
          | cons d l ih=>
            intro f i h
            match i,h with
            | 0,_=>
              have:D9 b .undef (f 0)=0:=by cases f 0<;>rfl
              simp only [List.set_cons_zero,mg,this,List.getElem_cons_zero];omega
            | i+1,h=>
              have:=ih (fun j=>f (j+1)) i (by simpa using h)
              simp only [List.set_cons_succ,mg,List.getElem_cons_succ];omega
        exact key vs (aO arr) i hi
      have abl:aY w G pt (.gB (vs.set i .undef)) (a.tmps.getD t Go.undef):=by
        refine ⟨arr,hv,by simpa using hsz,fun j hj=>?_⟩
        rw [List.getElem_set]
        split
        · trivial
        · exact hr j (by simpa using hj)
      have Kl:∀ b,cO b (.gB (vs.set i .undef)) (a.tmps.getD t Go.undef)=mg b (vs.set i .undef) (aO arr):=fun b=>by rw [hv];rfl
      have R1:=R.weak t (G':=G) (d:=.gB (vs.set i .undef)) (Ext.refl _ _) (fun _ _=>rfl) abl htn (fun b=>by rw [Kl,hct];have:=hsum b;omega)
      have tc1:∀ b,TC E.n C.m ((2*t,.gB (vs.set i .undef))::s) a w pt b+D9 b vs[i] (aO arr i)=TC E.n C.m s a w pt b:=by
        intro b
        have e1:=bM (n:=E.n) (f:=cT s a b) (g:=cT ((2*t,.gB (vs.set i .undef))::s) a b) htn (fun j hj=>by simp only [cT,bV,hj,if_false])
        have e2:=aM (n:=C.m) (f:=cB s w pt b) (g:=cB ((2*t,.gB (vs.set i .undef))::s) w pt b) (fun j _=>by simp only [cB,gD])
        have e3:cT ((2*t,.gB (vs.set i .undef))::s) a b t=mg b (vs.set i .undef) (aO arr):=by
          simp only [cT,bV,if_true];exact Kl b
        have:=hsum b
        have:=hct b
        unfold TC
        omega
      have hc1:∀ b,cO b d (aO arr i)=D9 b vs[i] (aO arr i):=by
        intro b
        rw [hvi]
        have QY:=hr i hi
        rw [hvi] at QY
        cases d<;>first | (cases aO arr i<;>rfl) | exact absurd QY id
      have hrd:aY w G pt d (aO arr i):=by
        have QY:=hr i hi
        rw [hvi] at QY
        cases d<;>first | exact QY | exact absurd QY id
      show fC P E C o a w (ak (bB o d) ((2*t,.gB (vs.set i .undef))::s))
      refine ⟨_,w,G,pt,.inl hrun,R1.put o ho (fun _=>False) (Ext.refl _ _) (fun _ _ _=>⟨rfl,rfl⟩) (fun b h=>h.elim) hrd (fun b=>?_) R.gz rfl rfl rfl (Nat.le_refl _)⟩
      have h2:=tc1 b
      have h3:=R.ct b
      have h4:=R.cb b
      rw [hc1]
      exact ⟨by omega,fun h=>⟨by omega,h4 (by omega)⟩⟩
    · cases h
  · cases h
theorem Ej (HP:nM P E) {T f k:Nat} (h:xJ E T f=some k) :
    ∃ fs fd,P.underlying T=some (.struct fs)∧fs[f]? = some fd∧fd.offset=k∧∃ pi,P.info? fd.type=some pi∧0<pi.size:=by
  unfold xJ at h
  split at h
  · rename_i i hi
    split at h
    · rename_i fs hd
      split at h
      · rename_i fd hfd
        split at h
        · rename_i fi hfi
          cases hb:Nat.blt 0 fi.size with
          | false=>simp [hb] at h
          | true=>
            simp only [hb,cond_true,Option.some.injEq] at h
            obtain ⟨pi,z,h1,h2,_⟩:=(HP.ti _ _ hfi).info
            have hpos:0<fi.size:=by simpa [Nat.blt_eq] using hb
            exact ⟨fs,fd,by rw [(HP.ti _ _ hi).und,hd],by simpa using hfd,h,pi,h1,by omega⟩
        · cases h
      · cases h
    · cases h
  · cases h
theorem El {T f k:Nat} {fs:Array Field} {fd:Field} {pi:TypeInfo} (hu:P.underlying T=some (.struct fs)) (hf:fs[f]? = some fd) (hk:fd.offset=k)
    (hi:P.info? fd.type=some pi) (hp:0<pi.size) (b off:Nat) :
    (Instr.fieldAt T (.pointer (some ⟨b,off,none⟩)) f).run P w = .ok (.pointer (some ⟨b,off+k,none⟩)) w:=by
  have hne:¬ pi.size=0:=by omega
  simp [Instr.fieldAt,run_underlying hu,hf,Instr.sureAddr,fieldPlace,sizeOf,typeInfo,hi,hne,Go.Addr.add_mid,hk]
theorem Cj (HP:nM P E) (R:Rel E C s a w G pt) (ho:∀ t,o.dst=some t→t<E.n) (T:Nat) (x:Operand) (f:Nat) (hop:o.op = .fieldAddr T x f)
    (h:jI E o s T x f=some (true,u)):fC P E C o a w (ak u s):=by
  have hx:=aT R x
  simp only [jI] at h
  split at h
  · rename_i k hk
    obtain ⟨fs,fd,hu,hf,hk',pi,hi,hp⟩:=Ej HP hk
    have run:∀ b off,a.eval x = .pointer (some ⟨b,off,none⟩)→(execOp a.eval o).run P w = .ok (.value (.pointer (some ⟨b,off+k,none⟩))) w:=by
      intro b off hv
      have:=El (P:=P) (w:=w) hu hf hk' hi hp b off
      simp [execOp,hop,hv,this]
    split at h
    · rename_i id st off h1
      rw [h1] at hx
      obtain ⟨b,hb,hv⟩:=hx
      simp only [Option.some.injEq,Prod.mk.injEq,true_and] at h;subst h
      exact pure_ok R ho (run _ _ hv) ⟨b,hb,rfl⟩ (fun _=>rfl)
    · rename_i id st i off es h1
      rw [h1] at hx
      obtain ⟨b,hb,hv⟩:=hx
      simp only [Option.some.injEq,Prod.mk.injEq,true_and] at h;subst h
      exact pure_ok R ho (run _ _ hv) ⟨b,hb,by rw [Nat.add_assoc]⟩ (fun _=>rfl)
    · rename_i g off h1
      rw [h1] at hx
      have hv:a.eval x = .pointer (some ⟨g,off,none⟩):=hx
      simp only [Option.some.injEq,Prod.mk.injEq,true_and] at h;subst h
      exact pure_ok R ho (run _ _ hv) rfl (fun _=>rfl)
    · rename_i t l i off h1
      rw [h1] at hx
      obtain ⟨b,ob,hv,h2⟩:=hx
      simp only [Option.some.injEq,Prod.mk.injEq,true_and] at h;subst h
      exact pure_ok R ho (run _ _ hv) ⟨b,ob,by rw [Nat.add_assoc],h2⟩ (fun _=>rfl)
    · cases h
  · cases h
theorem oO (R:Rel E C s a w G pt) {d:D} {v:Value} (h:aY w G pt d v) {t:Ty} {l:List t.den} (hc:content s d=some ⟨t,l⟩) :
    ∃ ad n c,v = .slice ad n c∧n=l.length∧n*t.mE≤big∧n≤c∧(l=[]∨∃ b o,ad=some ⟨b,o,none⟩∧fB w G t l b o):=by
  cases d<;>simp only [content,reduceCtorEq] at hc
  · rename_i f t' l'
    simp only [Option.some.injEq,Sigma.mk.injEq] at hc
    obtain ⟨rfl,hc⟩:=hc
    have hc:=eq_of_heq hc
    subst hc
    obtain ⟨ad,n,c,h1,h2,h3,h4⟩:=h
    refine ⟨ad,n,c,h1,h2,h3,?_⟩
    match f,h4 with
    | 0,h4=>
      refine ⟨by have:=h4.1;omega,?_⟩
      rcases h4.2 with h5 | ⟨b,o,h5,h6,h7⟩
      · exact .inl h5
      · exact .inr ⟨b,o,h5,h7⟩
    | 1,h4=>
      rcases h4 with ⟨h5,h6,h7⟩ | ⟨b,h5,h6,h7,h8,h9,h10⟩
      · subst h6;subst h2;exact ⟨by simp,.inl rfl⟩
      · exact ⟨by omega,.inr ⟨b,0,h5,h9⟩⟩
    | 2,h4=>
      rcases h4 with ⟨h5,h6,h7⟩ | ⟨b,h5,h6,h7,h8,h9,h10⟩
      · subst h6;subst h2;exact ⟨by simp,.inl rfl⟩
      · exact ⟨by omega,.inr ⟨b,0,h5,h9⟩⟩
    | (k+3),h4=>exact h4.elim
  · rename_i id st
    split at hc
    · rename_i st' t' l' hb
      cases hs:Nat.beq st st' with
      | false=>simp [hs] at hc
      | true=>
        simp only [hs,cond_true,Option.some.injEq,Sigma.mk.injEq] at hc
        obtain ⟨rfl,hc⟩:=hc
        have hc:=eq_of_heq hc
        subst hc
        have hs:=Nat.eq_of_beq_eq_true hs
        subst hs
        have hB:=R.bx id
        rw [hb] at hB
        have hB:=hB rfl
        simp only [Bool.false_eq_true,if_false] at hB
        obtain ⟨ad,n,c,h1,h2,h3,h4⟩:=hB
        have hv:pt id st=some v:=h
        rw [hv] at h1
        injection h1 with h1
        refine ⟨ad,n,c,h1,h2,h3,?_⟩
        rcases h4 with ⟨h5,h6,h7⟩ | ⟨b,h5,h6,h7,h8,h9,h10⟩
        · subst h6;subst h2;exact ⟨by simp,.inl rfl⟩
        · exact ⟨by omega,.inr ⟨b,0,h5,h9⟩⟩
    · rename_i st' l' hb
      cases hs:Nat.beq st st' with
      | false=>simp [hs] at hc
      | true=>
        simp only [hs,cond_true,Option.some.injEq,Sigma.mk.injEq] at hc
        obtain ⟨rfl,hc⟩:=hc
        have hc:=eq_of_heq hc
        subst hc
        have hs:=Nat.eq_of_beq_eq_true hs
        subst hs
        have hB:=R.bx id
        rw [hb] at hB
        obtain ⟨⟨ad,n,c,h1,h2,h3,h4⟩,_⟩:=hB
        have hv:pt id st=some v:=h
        rw [hv] at h1
        injection h1 with h1
        refine ⟨ad,n,c,h1,h2,h3,?_⟩
        rcases h4 with ⟨h5,h6,h7⟩ | ⟨b,h5,h6,h7,h8,h9,h10⟩
        · subst h6;subst h2;exact ⟨by simp,.inl rfl⟩
        · exact ⟨by omega,.inr ⟨b,0,h5,h9⟩⟩
    · cases hc
end
end Go.aW
namespace Go.aW
section
variable {P:Program} {E:Env} {C:Ctx} {s:St} {a:Act} {w:World} {G:Nat→Nat} {pt:Nat→Nat→Option Value} {o:Oper} {u:St}
theorem IW (n:Nat) (h:n≤iQ):IntKind.i64.has (n:Int):=by
  unfold iQ at h
  unfold IntKind.has
  simp [IntKind.min,IntKind.max,IntKind.bits,IntKind.signed]
  omega
theorem Wi (HP:nM P E) (R:Rel E C s a w G pt) (ho:∀ t,o.dst=some t→t<E.n) (x:Operand) (T:Nat) (ts:Array TypeId) (hts:ts.toList=[T])
    (hop:o.op = .call { callee:=.builtin .len,args:=#[x],argTypes:=ts }) {n:Nat} (h:Kg E s T (aV s x)=some n) :
    fC P E C o a w (ak (bB o (.int .i64 n)) s):=by
  have hx:=aT R x
  have ae5:ts = #[T]:=by apply Array.ext';simpa using hts
  subst ae5
  have fin:∀ m:Nat,m≤iQ→(Builtin.len_ #[T] o.type #[a.eval x]).run P w = .ok (goInt m) w→fC P E C o a w (ak (bB o (.int .i64 m)) s):=by
    intro m hm hr
    refine pure_ok R ho (v:=.int .i64 m) ?_ ⟨rfl,IW m hm⟩ (fun _=>rfl)
    simp [execOp,hop,resolve,invoke,builtin,hr,goInt]
  unfold Kg at h
  split at h
  · rename_i i hi
    have hu:=(HP.ti _ _ hi).und
    split at h
    · rename_i l hd h1
      rw [h1] at hx;rw [hd] at hu
      obtain ⟨b,hv,hl,hb⟩:=hx
      simp only [Option.some.injEq] at h;subst h
      refine fin _ hb ?_
      rw [←hl,jr,hv]
      simp [Builtin.len_,run_underlying hu]
    · rename_i _ len e hd
      rw [hd] at hu
      cases hb:Nat.ble len iQ with
      | false=>simp [hb] at h
      | true=>
        simp only [hb,cond_true,Option.some.injEq] at h;subst h
        refine fin _ (Nat.le_of_ble_eq_true hb) ?_
        simp [Builtin.len_,run_underlying hu]
    · rename_i e hd h1
      rw [h1] at hx;rw [hd] at hu
      have hv:a.eval x = .slice none 0 0:=hx
      simp only [Option.some.injEq] at h;subst h
      refine fin 0 (by simp [iQ]) ?_
      rw [hv]
      simp [Builtin.len_,run_underlying hu]
    · rename_i e id st m hd h1
      rw [h1] at hx;rw [hd] at hu
      obtain ⟨hx,hm⟩:=hx
      simp only [Option.some.injEq] at h;subst h
      refine fin _ hm ?_
      rcases hx with ⟨b,c,_,hv⟩ | ⟨rfl,hv⟩<;>rw [hv]<;>simp [Builtin.len_,run_underlying hu]
    · rename_i e d hd _ _
      rw [hd] at hu
      split at h
      · rename_i t l hc
        cases hb:Nat.blt 0 t.mE with
        | false=>simp [hb] at h
        | true=>
          simp only [hb,cond_true,Option.some.injEq] at h;subst h
          obtain ⟨ad,n,c,hv,hn,hbd,_⟩:=oO R hx hc
          have hbz:0<t.mE:=by simpa [Nat.blt_eq] using hb
          have:n≤n*t.mE:=Nat.le_mul_of_pos_right _ hbz
          have hm:l.length≤iQ:=by unfold big at hbd;unfold iQ;omega
          refine fin _ hm ?_
          rw [hv,←hn]
          simp [Builtin.len_,run_underlying hu]
      · cases h
    · cases h
  · cases h
theorem Ck (lt:Int→Int→Bool) (f:Value→Value→Sem Value) (hf:∀ k x y,(f (.int k x) (.int k y)).run P w = .ok (.int k (bif lt y x then y else x)) w) (k:IntKind) :
    ∀ (xs:List Operand) (m r:Int),k.has m→(∀ x∈xs,aY w G pt (aV s x) (a.eval x))→su lt k m (xs.map (aV s))=some r →
      ((xs.map a.eval).foldlM f (.int k m)).run P w = .ok (.int k r) w∧k.has r
  | [],m,r,hm,_,h=>by
    simp only [List.map_nil,su,Option.some.injEq] at h
    subst h
    exact ⟨by simp,hm⟩
  | x::xs,m,r,hm,hx,h=>by
    have h0:=hx x (by simp)
    rw [List.map_cons] at h
    cases h1:aV s x<;>rw [h1] at h<;>simp only [su,reduceCtorEq] at h
    rename_i k' n
    cases hk:iO k k' with
    | false=>simp [hk] at h
    | true=>
      simp only [hk,cond_true] at h
      have hkk:=dX hk
      subst hkk
      rw [h1] at h0
      obtain ⟨hv,hn⟩:=h0
      have hm':k.has (bif lt n m then n else m):=by cases lt n m<;>assumption
      obtain ⟨q1,q2⟩:=Ck lt f hf k xs _ r hm' (fun y hy=>hx y (by simp [hy])) h
      refine ⟨?_,q2⟩
      simp only [List.map_cons,List.foldlM_cons,Sem.run_bind,hv,hf,Result.andThen_ok]
      exact q1
theorem AX (R:Rel E C s a w G pt) (ho:∀ t,o.dst=some t→t<E.n) (xs:Array Operand) (ts:Array TypeId) (isMax:Bool)
    (hop:o.op = .call { callee:=.builtin (bif isMax then .max else .min),args:=xs,argTypes:=ts })
    (h:Gt o s (bif isMax then (fun a b=>decide (b<a)) else (fun a b=>decide (a<b))) xs.toList=some (true,u)):fC P E C o a w (ak u s):=by
  simp only [Gt] at h
  split at h
  · rename_i k n r heq
    split at h
    · rename_i m hm
      simp only [Option.some.injEq,Prod.mk.injEq,true_and] at h
      subst h
      cases hxs:xs.toList with
      | nil=>rw [hxs] at heq;simp at heq
      | cons x rest=>
        rw [hxs] at heq
        simp only [List.map_cons,List.cons.injEq] at heq
        obtain ⟨h1,h2⟩:=heq
        have hx:=aT R x
        rw [h1] at hx
        obtain ⟨hv,hn⟩:=hx
        rw [←h2] at hm
        have hargs:(xs.map a.eval).toList=a.eval x::rest.map a.eval:=by simp [hxs]
        cases isMax with
        | false=>
          obtain ⟨q1,q2⟩:=Ck (P:=P) (w:=w) (G:=G) (pt:=pt) (s:=s) (a:=a) (fun a b=>decide (a<b)) Builtin.min2 (fun k x y=>by
            simp only [Builtin.min2,Sem.run_pure];by_cases h:y<x<;>simp [h]) k rest n m hn (fun y _=>aT R y) hm
          refine pure_ok R ho (v:=.int k m) ?_ ⟨rfl,q2⟩ (fun _=>rfl)
          simp only [execOp,hop,cond_false,resolve,invoke,builtin,Builtin.min_,hargs,hv,pure_bind,Sem.run_bind,q1,Result.andThen_ok,Sem.run_pure]
        | true=>
          obtain ⟨q1,q2⟩:=Ck (P:=P) (w:=w) (G:=G) (pt:=pt) (s:=s) (a:=a) (fun a b=>decide (b<a)) Builtin.max2 (fun k x y=>by
            simp only [Builtin.max2,Sem.run_pure];by_cases h:x<y<;>simp [h]) k rest n m hn (fun y _=>aT R y) hm
          refine pure_ok R ho (v:=.int k m) ?_ ⟨rfl,q2⟩ (fun _=>rfl)
          simp only [execOp,hop,cond_true,resolve,invoke,builtin,Builtin.max_,hargs,hv,pure_bind,Sem.run_bind,q1,Result.andThen_ok,Sem.run_pure]
    · cases h
  · cases h
theorem wD:∀ {k:IntKind} {cs:List D} {l:List Int},pY k cs=some l→l.length=cs.length∧∀ j (h:j<cs.length),cs[j] = .int k (l.getD j 0)
  | k,[],l,h=>by simp [pY] at h;subst h;exact ⟨rfl,fun j h=>by simp at h⟩
  | k,d::cs,l,h=>by
    cases d<;>simp only [pY,reduceCtorEq] at h
    rename_i k' n
    cases hk:iO k k' with
    | false=>simp [hk] at h
    | true=>
      simp only [hk,cond_true] at h
      cases hr:pY k cs with
      | none=>simp [hr] at h
      | some l'=>
        simp only [hr,Option.some.injEq] at h
        subst h
        obtain ⟨h1,h2⟩:=wD hr
        refine ⟨by simp [h1],fun j hj=>?_⟩
        match j,hj with
        | 0,_=>simp [dX hk]
        | j+1,hj=>simpa using h2 j (by simpa using hj)
theorem Mv (HP:nM P E) (R:Rel E C s a w G pt) (ho:∀ t,o.dst=some t→t<E.n) (T:Nat) (x i:Operand) (hop:o.op = .index T x i)
    (h:u6 E o s T x i=some (true,u)):fC P E C o a w (ak u s):=by
  have hx:=aT R x
  have hi:=aT R i
  simp only [u6] at h
  split at h
  · rename_i ti k n hti h2
    rw [h2] at hi
    obtain ⟨hiv,_⟩:=hi
    have hu:=(HP.ti _ _ hti).und
    split at h
    · rename_i len e cs hd h1
      rw [h1] at hx;rw [hd] at hu
      obtain ⟨arr,hv,hsz,hr⟩:=hx
      split at h
      · rename_i ei uS
        split at h
        · rename_i kk hkk
          split at h
          · rename_i l hl
            cases hb:(Nat.beq ei.size 1 && !ei.agg&&Nat.beq l.length len) with
            | false=>simp [hb] at h
            | true=>
              simp only [hb,cond_true,Option.some.injEq,Prod.mk.injEq,Bool.and_eq_true,decide_eq_true_eq] at h
              simp only [Bool.and_eq_true,Bool.not_eq_true'] at hb
              obtain ⟨⟨hb1,hb2⟩,hb3⟩:=hb
              obtain ⟨⟨hn0,hn1⟩,rfl⟩:=h
              have hb1:=Nat.eq_of_beq_eq_true hb1
              have hb3:=Nat.eq_of_beq_eq_true hb3
              obtain ⟨q1,q2⟩:=wD hl
              have Gx:=HP.ti _ _ uS
              obtain ⟨pi,z,p1,p2,_⟩:=Gx.info
              have hjl:n.toNat<cs.length:=by omega
              have hrep:=(hr n.toNat hjl).1
              rw [q2 _ hjl] at hrep
              refine pure_ok R ho (v:=aO arr n.toNat) ?_ (by rw [hrep.1];exact ⟨rfl,hrep.2⟩) (fun _=>by rw [hrep.1];rfl)
              have hp:=mO (P:=P) (w:=w) Gx.und (by rw [←Gx.agg];exact hb2) arr n.toNat (by omega)
              simp [execOp,hop,Instr.index,hiv,hv,asIntOf,run_underlying hu,hn0,hn1,sizeOf,typeInfo,p1,show pi.size=1 by omega,hp]
          · cases h
        · cases h
      · cases h
    · rename_i len e kk l hd h1
      rw [h1] at hx;rw [hd] at hu
      obtain ⟨arr,hv,hsz,hr⟩:=hx
      split at h
      · rename_i ei uS
        cases hb:(Nat.beq ei.size 1 && !ei.agg) with
        | false=>simp [hb] at h
        | true=>
          simp only [hb,cond_true,Option.some.injEq,Prod.mk.injEq,Bool.and_eq_true,decide_eq_true_eq] at h
          simp only [Bool.and_eq_true,Bool.not_eq_true'] at hb
          obtain ⟨hb1,hb2⟩:=hb
          obtain ⟨⟨⟨hn0,hn1⟩,hb3⟩,rfl⟩:=h
          have hb1:=Nat.eq_of_beq_eq_true hb1
          have hb3:=Nat.eq_of_beq_eq_true hb3
          have Gx:=HP.ti _ _ uS
          obtain ⟨pi,z,p1,p2,_⟩:=Gx.info
          have hjl:n.toNat<l.length:=by omega
          obtain ⟨e1,e2⟩:=hr n.toNat hjl
          have e3:l.getD n.toNat 0=l[n.toNat]:=by simp [hjl]
          have e1:aO arr n.toNat = .int kk l[n.toNat]:=e1
          refine pure_ok R ho (v:=aO arr n.toNat) ?_ (by rw [e1,e3];exact ⟨rfl,e2⟩) (fun _=>by rw [e1];rfl)
          have hp:=mO (P:=P) (w:=w) Gx.und (by rw [←Gx.agg];exact hb2) arr n.toNat (by omega)
          simp [execOp,hop,Instr.index,hiv,hv,asIntOf,run_underlying hu,hn0,hn1,sizeOf,typeInfo,p1,show pi.size=1 by omega,hp]
      · cases h
    · rename_i l hd h1
      rw [h1] at hx;rw [hd] at hu
      obtain ⟨b,hv,hl,hb⟩:=hx
      simp only [Option.some.injEq,Prod.mk.injEq,Bool.and_eq_true,decide_eq_true_eq] at h
      obtain ⟨⟨hn0,hn1⟩,rfl⟩:=h
      have hsz:l.length=b.size:=by rw [←hl];exact jr b
      have hlt:n.toNat<b.size:=by omega
      have e1:l.getD n.toNat 0=((b[n.toNat]'hlt).toNat:Int):=by
        rw [←hl]
        simp [jq,List.getD_eq_getElem?_getD,List.getElem?_map]
        rw [Array.getElem?_eq_getElem (by simpa using hlt)]
        rfl
      have e2:IntKind.u8.has (l.getD n.toNat 0):=by
        rw [e1]
        have:=(b[n.toNat]'hlt).toNat_lt
        unfold IntKind.has
        simp [IntKind.min,IntKind.max,IntKind.bits,IntKind.signed]
        omega
      refine pure_ok R ho (v:=.int .u8 (l.getD n.toNat 0)) ?_ ⟨rfl,e2⟩ (fun _=>rfl)
      rw [e1]
      simp [execOp,hop,Instr.index,hiv,hv,asIntOf,run_underlying hu,hn0,hlt]
    · cases h
  · cases h
end
end Go.aW