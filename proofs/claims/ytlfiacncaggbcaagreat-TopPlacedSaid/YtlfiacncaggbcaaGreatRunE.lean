/- The top statements: proved is that functions that the law reaches keep their contracts (capacities), and that runs come to an end; no conditions but those that each theorem states. -/
import Derived.Test.YtlfiacncaggbcaaGreatRunD
import Derived.Lib.SliceRun
import Derived.Deep.RegionHeld3
set_option linter.unusedVariables false
set_option linter.unusedSimpArgs false
set_option maxHeartbeats 8000000
set_option maxRecDepth 100000
namespace Go.dw.rO
open Go Go.Proofs aA
theorem acw {t:Tp} (h:wf t=true):wf (raw t).2=true:=by
 obtain ⟨l,a,⟨⟩⟩:=t;obtain ⟨h1,h2,h3⟩:=Ti.1 h;simp only at h1 h2 h3;unfold raw
 by_cases h4:a<l.length
 ·simp only [h4,decide_true,aQ]
  exact Ti.2 ⟨by simp only;omega,by simp only;omega,h3⟩
 ·simp only [h4,decide_false,bJ]
  exact h
theorem VA {t:Tp} {n:Int} (h:wf t=true):wf (next t n).2=true:=acw h
theorem afC {t:Tp} {l:List Int} (h:wf t=true):wf (pick t l).2=true:=acw h
theorem acy {t:Tp} {a b:Int} (h:wf t=true):wf (range t a b).2=true:=VA (n:=b - a+1) h
theorem getD_in {α:Type} {l:List α} {d:α} {k:Nat} (h:k<l.length):l.getD k d∈l:=gK h
def iA {α:Type} (o:Option α) (Q:α→Prop):Prop:=∃ r,o=some r∧Q r
theorem ah {α:Type} {Q:α→Prop} {r:α} (h:Q r):iA (some r) Q:=⟨r,rfl,h⟩
theorem bX {α:Type} {Q:α→Prop} {c:Bool} {a b:Option α} (h1:c=true→iA a Q) (h2:c=false→iA b Q):iA (bif c then a else b) Q:=by
 cases c with
 | true=>exact h1 rfl
 | false=>exact h2 rfl
theorem mW {α:Type} {Q:α→Prop} {c:Bool} {a:Option α} (h1:c=true) (h2:iA a Q):iA (bif c then a else none) Q:=by rw [h1];exact h2
theorem aj {α β:Type} {P:α→Prop} {Q:β→Prop} {o:Option α} {f:α→Option β} (h1:iA o P) (h2:∀ r,P r→iA (f r) Q):iA (Option.bind o f) Q:=by
 obtain ⟨r,e,h⟩:=h1;rw [e];exact h2 r h
theorem acz {α:Type} {P Q:α→Prop} {o:Option α} (h1:iA o P) (h2:∀ r,P r→Q r):iA o Q:=by
 obtain ⟨r,e,h⟩:=h1;exact ⟨r,e,h2 r h⟩
theorem vF {α:Type} {Q:α→Prop} {b:Bool} {x:α} (h1:b=true) (h2:Q x):iA (on b x) Q:=⟨x,Bj h1,h2⟩
def Step {σ ρ:Type} (I:σ→Prop) (m:σ→Nat) (s:σ) (Q:ρ→Prop):Sum σ ρ→Prop
 | .inl s'=>I s'∧m s' < m s
 | .inr r=>Q r
theorem iq {σ ρ:Type} {step:σ→Option (Sum σ ρ)} (I:σ→Prop) (m:σ→Nat) {Q:ρ→Prop} {s0:σ} (h0:I s0) (h:∀ s,I s→iA (step s) (Step I m s Q)):iA (Loop step s0) Q:=by
 have key:∀ n s,I s→m s≤n→iA (Loop step s) Q:=by
  intro n
  induction n with
  | zero=>
   intro s hs hm;obtain ⟨r,e,hr⟩:=h s hs
   cases r with
   | inl s'=>exact absurd hr.2 (by omega)
   | inr r=>exact ⟨r,by rw [dY,e],hr⟩
  | succ n ih=>
   intro s hs hm;obtain ⟨r,e,hr⟩:=h s hs
   cases r with
   | inl s'=>
    obtain ⟨r,e',hr'⟩:=ih s' hr.1 (by have:=hr.2;omega)
    exact ⟨r,by rw [dY,e];exact e',hr'⟩
   | inr r=>exact ⟨r,by rw [dY,e],hr⟩
 exact key _ s0 h0 (bT _)
theorem jc (n:Int):aR n=(n+9223372036854775808)%18446744073709551616 - 9223372036854775808:=by
 have e1:(2:Int) ^ IntKind.i64.bits=18446744073709551616:=by decide
 have e2:(2:Int) ^ (IntKind.i64.bits - 1)=9223372036854775808:=by decide
 have e3:IntKind.i64.signed=true:=rfl;simp only [IntKind.wrap,e1,e2,e3,Bool.true_and,mX]
 split<;>omega
theorem aF {α:Type} {Q:α→Prop} {p:Prop} {i:Decidable p} {a b:Option α} (h1:p→iA a Q) (h2:¬ p→iA b Q):iA (bif @decide p i then a else b) Q:=bX (fun h=>h1 (vP h)) (fun h=>h2 (of_decide_eq_false h))
theorem eH {α:Type} {Q:α→Prop} {p:Prop} {i:Decidable p} {a b:Option α} (h1:¬ p→iA a Q) (h2:p→iA b Q):iA (bif !@decide p i then a else b) Q:=by
 cases h:@decide p i with
 | true=>exact h2 (vP h)
 | false=>exact h1 (of_decide_eq_false h)
theorem aK {α:Type} {Q:α→Prop} {p q:Prop} {i:Decidable p} {j:Decidable q} {a:Option α} (h1:p) (h2:q) (h:iA a Q):iA (bif @decide p i&&@decide q j then a else none) Q:=by rw [dT h1,dT h2];exact h
theorem jF {α:Type} {Q:α→Prop} {m n:Nat} {a:Option α} (h1:m≤n) (h:iA a Q):iA (bif Nat.ble m n then a else none) Q:=by rw [Ph h1];exact h
theorem iI {α:Type} {Q:α→Prop} {m n:Nat} {a:Option α} (h1:m<n) (h:iA a Q):iA (bif Nat.blt m n then a else none) Q:=by rw [aob h1];exact h
def Cnt {σ ρ:Type} (n:Nat) (idx:σ→Int) (I:σ→Prop) (k:Nat) (Q:ρ→Prop):Sum σ ρ→Prop
 | .inl s'=>k<n∧idx s' = (k:Int)+1∧I s'
 | .inr r=>Q r
theorem bH {σ ρ:Type} {step:σ→Option (Sum σ ρ)} (n:Nat) (idx:σ→Int) (I:σ→Prop) {Q:ρ→Prop} {s0:σ} (h0:idx s0=0) (hI:I s0)
 (h:∀ s (k:Nat),idx s=(k:Int)→k≤n→I s→iA (step s) (Cnt n idx I k Q)):iA (Loop step s0) Q:=by
 refine iq (fun s=>∃ k:Nat,idx s=(k:Int)∧k≤n∧I s) (fun s=>n - (idx s).toNat) ⟨0,h0,mY _,hI⟩ ?_
 rintro s ⟨k,hk,hle,hs⟩
 refine acz (h s k hk hle hs) fun x hx=>?_
 cases x with
 | inl s'=>
  obtain ⟨h1,h2,h3⟩:=hx
  refine ⟨⟨k+1,by rw [h2];omega,by omega,h3⟩,?_⟩
  show n - (idx s').toNat<n - (idx s).toNat;rw [hk,h2];omega
 | inr r=>exact hx
theorem M0 (t:Tp) (n:Int):0≤(next t n).1∧((next t n).1<n∨(next t n).1=0):=by
 unfold next cut
 by_cases h:n<1
 ·rw [dT h];exact ⟨Int.le_refl _,.inr rfl⟩
 ·rw [dF h]
  exact ⟨Int.emod_nonneg _ (by omega),.inl (Int.emod_lt_of_pos _ (by omega))⟩
theorem qM {t:Tp} (n:Int) (h:wf t=true):iA (aA.on (wf t) (next t n)) (fun r=>wf r.2=true∧0≤r.1∧(r.1<n∨r.1=0)):=vF h ⟨VA h,M0 t n⟩
theorem M4 {t:Tp} (a b:Int) (h:wf t=true) (hs:(small a&&small b)=true) (yg:a≤b):iA (aA.on (wf t&&small a&&small b) (aA.range t a b)) (fun r=>wf r.2=true∧a≤r.1∧r.1≤b):=by
 refine vF (by rw [h];simpa using hs) ⟨acy h,?_⟩
 have:=M0 t (b - a+1);unfold aA.range;dsimp only;omega
theorem HY {t:Tp} (l:List Int) {c:Bool} (h:wf t=true) (hc:c=true) (hl:0<l.length):iA (aA.on c (pick t l)) (fun r=>wf r.2=true∧r.1∈l):=by
 refine vF hc ⟨afC h,?_⟩;have:=M0 t l.length;unfold pick
 exact getD_in (by omega)
theorem Qi (l:List Int) (x:Int):∀ y∈qJ l x,y=x∨y∈l:=by
 induction l with
 | nil=>intro y hy;exact .inl (List.mem_singleton.mp hy)
 | cons z r ih=>
  intro y hy;rw [qJ] at hy
  by_cases h1:z<x
  ·rw [bL h1,aQ] at hy
   rcases List.mem_cons.mp hy with rfl | hy
   ·exact .inr (uD ..)
   ·exact (ih y hy).imp_right (kE _)
  ·rw [d9 h1,bJ] at hy
   by_cases h2:z=x
   ·rw [bL h2,aQ] at hy;exact .inr hy
   ·rw [d9 h2,bJ] at hy
    rcases List.mem_cons.mp hy with rfl | hy
    ·exact .inl rfl
    ·exact .inr hy
theorem Qj {l:List Int} (x:Int) (h:l.Pairwise (· < ·)):(qJ l x).Pairwise (· < ·):=by
 induction l with
 | nil=>exact List.pairwise_singleton ..
 | cons z r ih=>
  obtain ⟨h1,h2⟩:=List.pairwise_cons.mp h;rw [qJ]
  by_cases c1:z<x
  ·rw [bL c1,aQ]
   refine List.pairwise_cons.mpr ⟨fun y hy=>?_,ih h2⟩
   rcases Qi r x y hy with rfl | hy
   ·exact c1
   ·exact h1 y hy
  ·rw [d9 c1,bJ]
   by_cases c2:z=x
   ·rw [bL c2,aQ];exact h
   ·rw [d9 c2,bJ]
    refine List.pairwise_cons.mpr ⟨fun y hy=>?_,h⟩
    rcases List.mem_cons.mp hy with rfl | hy
    ·omega
    ·have:=h1 y hy;omega
abbrev ids (g:To):List Int:=g.1.map fun x=>x.1
structure gQ (m:Nat) (g:To):Prop where
 pos:0<g.1.length
 len:g.1.length≤m
 rin:∀ x∈ids g,1≤x∧x≤99
 rup:(ids g).Pairwise (· < ·)
 lin:∀ l∈g.2.1,1≤l.2.2.1∧l.2.2.1≤1000∧1≤l.2.2.2.1∧l.2.2.2.1≤1000∧0≤l.2.2.2.2.1∧l.2.2.2.2.1≤1000
 lend:∀ l∈g.2.1,l.1∈ids g∧l.2.1∈ids g∧l.1<l.2.1
 lup:g.2.1.Pairwise fun a b=>a.1<b.1∨a.1=b.1∧a.2.1<b.2.1
 llen:g.2.1.length≤m*m
def Sq (n:Nat) (l:List (List Bool)):Prop:=(l.length=n∧∀ r∈l,r.length=n)∧∀ a b,(l.getD a []).getD b false=true→a<b
theorem Sq.row {n:Nat} {l:List (List Bool)} (h:Sq n l) {i:Nat} (hi:i<n):(l.getD i []).length=n:=by
 have Yv:i<l.length:=by rw [h.1.1];exact hi
 rw [show l.getD i []=l[i] from by simp [Yv]]
 exact h.1.2 _ (zG Yv)
theorem Sq.set {n:Nat} {l:List (List Bool)} (h:Sq n l) {i:Nat} {r:List Bool} (hr:r.length=n) (hb:∀ b,r.getD b false=true→i<b):Sq n (l.set i r):=
 ⟨⟨by rw [List.length_set];exact h.1.1,fun x hx=>by
   rcases List.mem_or_eq_of_mem_set hx with hx | hx
   ·exact h.1.2 x hx
   ·rw [hx];exact hr⟩,fun a b yg=>by
   by_cases hi:i<l.length
   ·rw [ny hi] at yg
    by_cases e:i=a
    ·subst e;rw [if_pos rfl] at yg;exact hb b yg
    ·rw [if_neg e] at yg;exact h.2 a b yg
   ·rw [List.set_eq_of_length_le (by omega)] at yg
    exact h.2 a b yg⟩
theorem Sq.mark {n:Nat} {l:List (List Bool)} (h:Sq n l) {i j:Nat} (hi:i<n) (qO:i<j):Sq n (l.set i ((l.getD i []).set j true)):=
 h.set (by rw [List.length_set];exact h.row hi) fun b hb=>by
  by_cases e:j=b
  ·omega
  ·rw [iW,List.getElem?_set,if_neg e,←iW] at hb
   exact h.2 i b hb
theorem Sq.same {n:Nat} {l:List (List Bool)} (h:Sq n l) {i:Nat} (hi:i<n):Sq n (l.set i (l.getD i [])):=h.set (h.row hi) fun b hb=>h.2 i b hb
def Rts (k:Nat) (id:Int) (l:List Rt):Prop:=l.length=k∧(∀ x∈l,1≤x.1∧x.1≤id)∧(l.map fun x=>x.1).Pairwise (· < ·)
theorem Rts.get {k:Nat} {id:Int} {l:List Rt} (h:Rts k id l) {i:Nat} (hi:i<k):(l.getD i (0,false,())).1∈l.map (fun x=>x.1):=
 List.mem_map.2 ⟨_,gK (by rw [h.1];exact hi),rfl⟩
theorem Rts.lt {k:Nat} {id:Int} {l:List Rt} (h:Rts k id l) {i j:Nat} (qO:i<j) (hj:j<k):(l.getD i (0,false,())).1<(l.getD j (0,false,())).1:=by
 have h1:i<l.length:=by rw [h.1];omega
 have h2:j<l.length:=by rw [h.1];omega
 have:=List.pairwise_iff_getElem.1 h.2.2 i j (by simpa using h1) (by simpa using h2) qO
 simp only [List.getElem_map] at this
 simpa [iW,h1,h2] using this
theorem awv {m:Int} (hm:m≤19) (a0:Int×Tp) (t:Tp) (hn:1≤a0.1∧a0.1≤m) (hw:wf t=true):iA (Loop (@R6 a0) (t,(0,(([],([],())),(0,()))))) (fun y=>wf y.1=true∧(∃ id,id≤5*a0.1∧Rts a0.1.toNat id y.2.1.1)∧y.2.1.2.1=[]):=by
 refine bH a0.1.toNat (fun s=>s.2.2.2.1) (fun s=>wf s.1=true∧0≤s.2.1∧s.2.1≤5*s.2.2.2.1∧Rts s.2.2.2.1.toNat s.2.1 s.2.2.1.1∧s.2.2.1.2.1=[]) rfl ⟨hw,Int.le_refl _,Int.le_refl _,⟨rfl,fun x hx=>(by cases hx),.nil⟩,rfl⟩ ?_
 rintro ⟨t,id,⟨rs,ls,⟨⟩⟩,i,⟨⟩⟩ k hk hle ⟨i1,i2,i3,i4,i5⟩;obtain rfl:i=k:=hk;have i1:wf t=true:=i1;have i2:0≤id:=i2;have i3:id≤5*(k:Int):=i3;have i4:Rts k id rs:=i4;have hrl:rs.length=k:=i4.1;have i5:ls=[]:=i5;subst i5;unfold R6
 refine aF (fun c=>aj (HY _ i1 (by rw [i1];rfl) (by simp)) fun y hy=>jF (by show (rs.length+1)*16≤140737488355328;omega) (ah ?_)) fun c=>ah ?_
 ·obtain ⟨v,t',⟨⟩⟩:=y
  have c:(k:Int)<a0.1:=c;have hv:v∈[(1:Int),1,1,2,5]:=hy.2
  have Ll:1≤v∧v≤5:=by simp at hv;omega
  have ew:aR (id+v)=id+v:=by rw [jc];omega
  have ek:aR ((k:Int)+1)=(k:Int)+1:=dn (by omega)
  refine ⟨by omega,ek,hy.1,?_,?_,⟨?_,?_,?_⟩,rfl⟩
  ·show 0≤aR (id+v);omega
  ·show aR (id+v)≤5*aR ((k:Int)+1);omega
  ·show (rs++[_]).length=(aR ((k:Int)+1)).toNat
   rw [ek,nP,zC7,hrl];omega
  ·intro x hx
   have hx:x∈rs++[_]:=hx;show 1≤x.1∧x.1≤aR (id+v)
   rcases List.mem_append.mp hx with hx | hx
   ·have h9:1≤x.1∧x.1≤id:=i4.2.1 x hx
    omega
   ·obtain rfl:=List.mem_singleton.mp hx
    show 1≤aR (id+v)∧aR (id+v)≤aR (id+v);omega
  ·show (List.map (fun x:Rt=>x.1) (rs++[(aR (id+v),true,())])).Pairwise (· < ·)
   rw [vO,List.pairwise_append]
   refine ⟨i4.2.2,List.pairwise_singleton ..,fun x hx y hy=>?_⟩
   obtain ⟨z,hz,rfl⟩:=List.mem_map.1 hx;have h9:1≤z.1∧z.1≤id:=i4.2.1 z hz;have hy:y∈[aR (id+v)]:=hy;obtain rfl:=List.mem_singleton.mp hy;omega
 ·have c:¬ (k:Int)<a0.1:=c
  obtain rfl:k=a0.1.toNat:=by omega
  exact ⟨i1,⟨id,by omega,i4⟩,rfl⟩
theorem aww {m:Int} (hm:m≤19) (a0:Int×Tp) (hn:1≤a0.1∧a0.1≤m):iA (Loop (@R7 a0) (List.replicate a0.1.toNat [],(0,()))) (fun y=>Sq a0.1.toNat y.1):=by
 refine bH a0.1.toNat (fun s=>s.2.1) (fun s=>s.1.length=a0.1.toNat∧(∀ j:Nat,(j:Int)<s.2.1→(s.1.getD j []).length=a0.1.toNat)∧∀ a b,(s.1.getD a []).getD b false=false) rfl ⟨List.length_replicate,fun j hj=>absurd (show (j:Int)<0 from hj) (by omega),fun a b=>by
  show ((List.replicate a0.1.toNat ([]:List Bool)).getD a []).getD b false=false
  have:(List.replicate a0.1.toNat ([]:List Bool)).getD a []=[]:=by
   rw [iW,List.getElem?_replicate]
   split<;>rfl
  rw [this];rfl⟩ ?_
 rintro ⟨l,i,⟨⟩⟩ k hk hle ⟨i1,i2,i3⟩;obtain rfl:i=k:=hk;have i1:l.length=a0.1.toNat:=i1
 have i2:∀ j:Nat,(j:Int)<(k:Int)→(l.getD j []).length=a0.1.toNat:=i2
 have i3:∀ a b,(l.getD a []).getD b false=false:=i3
 unfold R7;simp only [fQ,jd]
 refine aF (fun c=>mW ?_ (aK (by omega) (by omega) (iI (by omega) (ah ⟨by omega,dn (by omega),?_,fun j hj=>?_,fun a b=>?_⟩)))) fun c=>ah ⟨⟨?_,fun r hr=>?_⟩,fun a b h=>?_⟩
 ·rw [dA,dA]
  exact ⟨⟨bL (by omega),bL (by omega)⟩,bL (by omega)⟩
 ·show (l.set k _).length=_
  rw [List.length_set];exact i1
 ·have hj:(j:Int)<aR ((k:Int)+1):=hj
  rw [dn (by omega)] at hj
  show ((l.set k _).getD j []).length=_;rw [iW,List.getElem?_set]
  by_cases h:k=j
  ·subst h
   rw [if_pos rfl,if_pos (by omega)]
   simp
  ·rw [if_neg h,←iW]
   exact i2 j (by omega)
 ·show ((l.set k (List.replicate a0.1.toNat false)).getD a []).getD b false=false
  rw [ny (by omega)]
  by_cases h:k=a
  ·rw [if_pos h,iW,List.getElem?_replicate]
   split<;>rfl
  ·rw [if_neg h];exact i3 a b
 ·show l.length=_
  exact i1
 ·have hr:r∈l:=hr
  obtain ⟨j,hj,rfl⟩:=List.getElem_of_mem hr
  have:=i2 j (by have c:¬ (k:Int)<(a0.1.toNat:Int):=c;omega)
  rw [show l.getD j []=l[j] from by simp [hj]] at this
  exact this
 ·have h:(l.getD a []).getD b false=true:=h
  rw [i3] at h;cases h
theorem awx {m:Int} (hm:m≤19) (a0:Int×Tp) (l:List (List Bool)) (t:Tp) (hn:1≤a0.1∧a0.1≤m) (hw:wf t=true) (hl:Sq a0.1.toNat l):iA (Loop (@R8 a0) (1,(l,(t,())))) (fun y=>Sq a0.1.toNat y.1∧wf y.2.1=true):=by
 refine iq (fun s=>1≤s.1∧s.1≤19∧Sq a0.1.toNat s.2.1∧wf s.2.2.1=true) (fun s=>19 - s.1.toNat) ⟨Int.le_refl _,by simp,hl,hw⟩ ?_
 rintro ⟨i,l,t,⟨⟩⟩ ⟨i1,i2,i3,i4⟩;have i1:1≤i:=i1;have i2:i≤19:=i2;have i3:Sq a0.1.toNat l:=i3;have i4:wf t=true:=i4;unfold R8;simp only [fQ]
 refine aF (fun c=>aj (qM _ i4) fun y2 h2=>aj (P:=fun y=>Sq a0.1.toNat y.1∧wf y.2.1=true) (aF (fun c2=>aj (qM _ h2.1) fun y3 h3=>?_) fun c2=>ah ⟨i3,h2.1⟩) fun y hy=>ah ⟨⟨?_,?_,hy⟩,?_⟩) fun c=>ah ⟨i3,i4⟩
 ·have c:i<a0.1:=c
  have Ip:=h3.2
  have aT:y3.1.toNat<a0.1.toNat:=by omega
  have oU:=i3.row aT
  refine aK (by omega) (by omega) (iI (by rw [i3.1.1];exact aT) (aK (by omega) (by rw [oU];omega) (iI (by rw [oU];omega) (ah ⟨i3.mark aT (by omega),h3.1⟩))))
 ·show 1≤aR (i+1)
  rw [jc];omega
 ·show aR (i+1)≤19
  have c:i<a0.1:=c;rw [jc];omega
 ·show 19 - (aR (i+1)).toNat<19 - i.toNat
  have c:i<a0.1:=c;rw [jc];omega
theorem awy {m:Int} (hm:m≤19) (a0:Int×Tp) (q:Int) (l:List (List Bool)) (t:Tp) (hn:1≤a0.1∧a0.1≤m) (hq:0≤q∧q≤21) (hw:wf t=true) (hl:Sq a0.1.toNat l):iA (Loop (@R9 a0) (q,(l,(t,())))) (fun y=>Sq a0.1.toNat y.1∧wf y.2.1=true):=by
 refine iq (fun s=>0≤s.1∧s.1≤21∧Sq a0.1.toNat s.2.1∧wf s.2.2.1=true) (fun s=>s.1.toNat) ⟨hq.1,hq.2,hl,hw⟩ ?_
 rintro ⟨i,l,t,⟨⟩⟩ ⟨i1,i2,i3,i4⟩;have i1:0≤i:=i1;have i2:i≤21:=i2;have i3:Sq a0.1.toNat l:=i3;have i4:wf t=true:=i4;unfold R9;simp only [fQ]
 refine aF (fun c=>aj (qM _ i4) fun y2 h2=>aj (qM _ h2.1) fun y3 h3=>aj (P:=fun y=>Sq a0.1.toNat y.1) (eH (fun c2=>?_) fun c2=>ah i3) fun y hy=>ah ⟨⟨?_,?_,hy,h3.1⟩,?_⟩) fun c=>ah ⟨i3,i4⟩
 ·have Iq:=h2.2
  have Ip:=h3.2
  have e1:0≤(bif (decide (y3.1<y2.1)) then y3.1 else y2.1)∧(bif (decide (y3.1<y2.1)) then y3.1 else y2.1)<(bif (decide (y2.1<y3.1)) then y3.1 else y2.1)∧(bif (decide (y2.1<y3.1)) then y3.1 else y2.1)<a0.1:=by
   by_cases q1:y3.1<y2.1
   ·have q2:¬ y2.1<y3.1:=by omega
    rw [dT q1,dF q2];simp only [aQ,bJ];omega
   ·have q2:y2.1<y3.1:=by omega
    rw [dF q1,dT q2];simp only [aQ,bJ];omega
  generalize (bif (decide (y3.1<y2.1)) then y3.1 else y2.1)=p at e1
  generalize (bif (decide (y2.1<y3.1)) then y3.1 else y2.1)=q at e1
  have aT:p.toNat<a0.1.toNat:=by omega
  have oU:=i3.row aT
  refine aK (by omega) (by omega) (iI (by rw [i3.1.1];exact aT) (aK (by omega) (by rw [oU];omega) (iI (by rw [oU];omega) (ah (i3.mark aT (by omega))))))
 ·have c:i > 0:=c
  show 0≤aR (i - 1);rw [jc];omega
 ·have c:i > 0:=c
  show aR (i - 1)≤21;rw [jc];omega
 ·have c:i > 0:=c
  show (aR (i - 1)).toNat<i.toNat;rw [jc];omega
structure Lk2 (n a b:Nat) (id:Int) (l:List (List Bool)) (t:Tp) (g:To):Prop where
 sq:Sq n l
 wf:wf t=true
 rts:Rts n id g.1
 lin:∀ l∈g.2.1,1≤l.2.2.1∧l.2.2.1≤1000∧1≤l.2.2.2.1∧l.2.2.2.1≤1000∧0≤l.2.2.2.2.1∧l.2.2.2.2.1≤1000
 at_:∀ l∈g.2.1,∃ i j,i<j∧j<n∧(i<a∨i=a∧j<b)∧l.1=(g.1.getD i (0,false,())).1∧l.2.1=(g.1.getD j (0,false,())).1
 up:g.2.1.Pairwise fun a b=>a.1<b.1∨a.1=b.1∧a.2.1<b.2.1
 len:g.2.1.length≤n*a+b
theorem awz {m:Int} (hm:m≤19) (a0 a1:Int×Tp) (a2:Int×yAL×Tp×To×Unit) (k:Nat) (id:Int) (hn:1≤a0.1∧a0.1≤m) (hk:a2.1=(k:Int)) (aT:(k:Int)<a0.1) (h:Lk2 a0.1.toNat k 0 id a2.2.1 a2.2.2.1 a2.2.2.2.1) :
 iA (Loop (@Sb a0 a1 a2) (a2.2.1,(a2.2.2.1,(a2.2.2.2.1,(0,()))))) (fun y=>Lk2 a0.1.toNat (k+1) 0 id y.1 y.2.1 y.2.2.1):=by
 obtain ⟨i,l0,t0,g0,⟨⟩⟩:=a2;obtain rfl:i=k:=hk
 refine bH a0.1.toNat (fun s=>s.2.2.2.1) (fun s=>Lk2 a0.1.toNat k s.2.2.2.1.toNat id s.1 s.2.1 s.2.2.1) rfl h ?_
 rintro ⟨l,t,⟨rs,ls,⟨⟩⟩,j,⟨⟩⟩ q hq hle hL;obtain rfl:j=q:=hq;have hL:Lk2 a0.1.toNat k q id l t (rs,ls,()):=hL;have i1:=hL.sq
 have OT:k<a0.1.toNat:=by omega
 have oU:=i1.row OT;have hrl:rs.length=a0.1.toNat:=hL.rts.1;have hll:ls.length≤a0.1.toNat*k+q:=hL.len
 have eU:a0.1.toNat*k≤19*19:=Nat.mul_le_mul (by omega) (by omega)
 unfold Sb;simp only [fQ,jd]
 refine aF (fun c=>?_) fun c=>ah ⟨i1,hL.wf,hL.rts,hL.lin,fun x hx=>?_,hL.up,?_⟩
 ·have c:(q:Int)<(a0.1.toNat:Int):=c
  have eq1:aR ((q:Int)+1)=(q:Int)+1:=dn (by omega)
  have eq2:(aR ((q:Int)+1)).toNat=q+1:=by rw [eq1];omega
  refine aK (by omega) (by omega) (iI (by rw [i1.1.1];exact OT) (aK (by omega) (by rw [oU];exact c) (iI (by rw [oU];omega) (bX (fun c2=>ah ⟨by omega,eq1,?_⟩) fun c2=>?_))))
  ·show Lk2 a0.1.toNat k (aR ((q:Int)+1)).toNat id (l.set k (l.getD k [])) t (rs,ls,())
   rw [eq2]
   exact ⟨i1.same OT,hL.wf,hL.rts,hL.lin,fun x hx=>by obtain ⟨i,j,h1,h2,h3,h4⟩:=hL.at_ x hx;exact ⟨i,j,h1,h2,by omega,h4⟩,hL.up,by show ls.length≤_;omega⟩
  ·have hb:(l.getD k []).getD q false=true:=by simpa using c2
   have hkq:=i1.2 k q hb
   have hqn:q<a0.1.toNat:=by omega
   refine aK (by omega) (by rw [hrl];omega) (iI (by rw [hrl];exact OT) (aK (by omega) (by rw [hrl];exact c) (iI (by rw [hrl];omega) (aj (HY _ hL.wf (by rw [hL.wf];rfl) (by simp)) fun y4 h4=>aj (P:=fun y=>wf y.2.1=true∧y.1.1=(rs.getD k (0,false,())).1∧y.1.2.1=(rs.getD q (0,false,())).1∧(1≤y.1.2.2.1∧y.1.2.2.1≤1000∧1≤y.1.2.2.2.1∧y.1.2.2.2.1≤1000)∧y.1.2.2.2.2.1=y4.1) ?_ fun y5 h5'=>jF (by omega) (ah ⟨by omega,eq1,?_⟩)))))
   ·refine eH (fun c3=>aj (M4 _ _ h4.1 (by decide) (by decide)) fun y5 h5=>aj (HY _ h5.1 (by rw [h5.1];rfl) (by simp)) fun y6 h6=>aj (M4 _ _ h6.1 (by decide) (by decide)) fun y7 h7=>aj (HY _ h7.1 (by rw [h7.1];rfl) (by simp)) fun y8 h8=>ah ⟨h8.1,rfl,rfl,?_,rfl⟩) fun c3=>ah ⟨h4.1,rfl,rfl,by show (1:Int)≤1∧(1:Int)≤1000∧(1:Int)≤1∧(1:Int)≤1000;omega,rfl⟩
    have q5:=h5.2;have q6:=h6.2;have q7:=h7.2;have q8:=h8.2;simp only [List.mem_cons,List.not_mem_nil,or_false] at q6 q8;show 1≤y6.1∧y6.1≤1000∧1≤y8.1∧y8.1≤1000;omega
   ·obtain ⟨w5,e1,e2,e3,e4⟩:=h5'
    have q4:=h4.2;simp only [List.mem_cons,List.not_mem_nil,or_false] at q4;show Lk2 a0.1.toNat k (aR ((q:Int)+1)).toNat id (l.set k (l.getD k [])) y5.2.1 (rs,ls++[y5.1],());rw [eq2]
    refine ⟨i1.same OT,w5,hL.rts,fun x hx=>?_,fun x hx=>?_,?_,?_⟩
    ·have hx:x∈ls++[y5.1]:=hx
     rcases List.mem_append.1 hx with hx | hx
     ·exact hL.lin x hx
     ·obtain rfl:=List.mem_singleton.1 hx
      rw [e4];omega
    ·have hx:x∈ls++[y5.1]:=hx
     rcases List.mem_append.1 hx with hx | hx
     ·obtain ⟨i,j,h1,h2,h3,h4⟩:=hL.at_ x hx
      exact ⟨i,j,h1,h2,by omega,h4⟩
     ·obtain rfl:=List.mem_singleton.1 hx
      exact ⟨k,q,hkq,hqn,by omega,e1,e2⟩
    ·show (ls++[y5.1]).Pairwise _
     rw [List.pairwise_append]
     refine ⟨hL.up,List.pairwise_singleton ..,fun x hx y hy=>?_⟩
     obtain rfl:=List.mem_singleton.1 hy;obtain ⟨i,j,h1,h2,h3,h4,h5⟩:=hL.at_ x hx;rw [h4,h5,e1,e2]
     rcases h3 with h3 | ⟨h3,Ip⟩
     ·exact .inl (hL.rts.lt h3 OT)
     ·subst h3
      exact .inr ⟨rfl,hL.rts.lt Ip hqn⟩
    ·show (ls++[y5.1]).length≤_
     rw [nP,zC7];omega
 ·obtain ⟨i,j,h1,h2,h3,h4⟩:=hL.at_ x hx
  exact ⟨i,j,h1,h2,by omega,h4⟩
 ·show ls.length≤a0.1.toNat*(k+1)+0
  have c:¬ (q:Int)<(a0.1.toNat:Int):=c;rw [Nat.mul_add];omega
theorem t18 (t:Tp) (m:Nat) (hm:1≤m∧m≤19) (hw:wf t=true):iA (Kk t m) (fun r=>wf r.2=true∧gQ m r.1):=by
 obtain ⟨b0,b1,⟨⟩⟩:=t;unfold Kk r18;simp only [fQ]
 refine aj (M4 1 m hw (by unfold small;rw [dA,dA,dA];exact ⟨⟨bL (by omega),bL (by omega)⟩,bL (by omega),bL (by omega)⟩) (by omega)) fun y3 h3=>?_
 have hn:1≤y3.1∧y3.1≤m:=h3.2
 have hm':(m:Int)≤19:=by omega
 refine aj (awv hm' y3 y3.2 hn h3.1) fun y4 h4=>mW ?_ (aj (aww hm' y3 hn) fun y5 h5=>aj (awx hm' y3 y5.1 y4.1 hn h4.1 h5) fun y6 h6=>aj (qM _ h6.2) fun y7 h7=>?_)
 ·rw [dA,dA]
  exact ⟨⟨bL (by omega),bL (by first | trivial | omega)⟩,bL (by omega)⟩
 ·have h7':=h7.2
  rw [jc] at h7';obtain ⟨w4,⟨id,hid,hR⟩,e4⟩:=h4
  refine aj (awy hm' y3 y7.1 y6.1 y7.2 hn ⟨h7'.1,by omega⟩ h7.1 h6.1) fun y8 h8=>aj (qM _ h8.2) fun y9 h9=>?_
  refine aj (P:=fun y=>∃ l,Lk2 y3.1.toNat y3.1.toNat 0 id l y.1 y.2.1) ?_ fun Mi QF=>ah ?_
  ·refine bH y3.1.toNat (fun s=>s.1) (fun s=>Lk2 y3.1.toNat s.1.toNat 0 id s.2.1 s.2.2.1 s.2.2.2.1) rfl ⟨h8.1,h9.1,hR,by rw [e4];exact fun x hx=>(by cases hx),by rw [e4];exact fun x hx=>(by cases hx),by rw [e4];exact .nil,by rw [e4];exact mY _⟩ ?_
   rintro ⟨i,l,t,g,⟨⟩⟩ k hk hle hL;obtain rfl:i=k:=hk;have hL:Lk2 y3.1.toNat k 0 id l t g:=hL;unfold aaR;simp only [fQ]
   refine aF (fun c=>aj (awz hm' y3 y9 ((k:Int),(l,(t,(g,())))) k id hn rfl (by have c:(k:Int)<(y3.1.toNat:Int):=c;omega) hL) fun y hy=>ah ⟨?_,?_,?_⟩) fun c=>ah ⟨l,?_⟩
   ·have c:(k:Int)<(y3.1.toNat:Int):=c
    omega
   ·exact dn (by omega)
   ·show Lk2 y3.1.toNat (aR ((k:Int)+1)).toNat 0 id y.1 y.2.1 y.2.2.1
    have c:(k:Int)<(y3.1.toNat:Int):=c
    rw [show (aR ((k:Int)+1)).toNat=k+1 from by rw [dn (by omega)];omega]
    exact hy
   ·have c:¬ (k:Int)<(y3.1.toNat:Int):=c
    have e:k=y3.1.toNat:=by omega
    subst e;exact hL
  ·obtain ⟨l,hL⟩:=QF
   have hrl:Mi.2.1.1.length=y3.1.toNat:=hL.rts.1
   refine ⟨hL.wf,⟨by show 0<Mi.2.1.1.length;omega,by show Mi.2.1.1.length≤m;omega,fun x hx=>?_,hL.rts.2.2,hL.lin,fun x hx=>?_,hL.up,?_⟩⟩
   ·obtain ⟨z,hz,rfl⟩:=List.mem_map.1 hx
    have:=hL.rts.2.1 z hz;omega
   ·obtain ⟨i,j,h1,h2,h3,h4,h5⟩:=hL.at_ x hx
    rw [h4,h5]
    exact ⟨hL.rts.get (by omega),hL.rts.get h2,hL.rts.lt h1 h2⟩
   ·have h1:=hL.len
    have h2:y3.1.toNat*y3.1.toNat≤m*m:=Nat.mul_le_mul (by omega) (by omega)
    show Mi.2.1.2.1.length≤m*m;omega
theorem nD {n lo hi:Int}:aA.inside n lo hi=true↔lo≤n∧n≤hi:=by simp [aA.inside]
theorem Tw {l:List Rt} {x:Int}:aA.jR l x=true↔x∈l.map (fun r=>r.1):=by
 unfold aA.jR;rw [List.any_eq_true];constructor
 ·rintro ⟨r,hr,h⟩
  exact List.mem_map.2 ⟨r,hr,vP h⟩
 ·intro h
  obtain ⟨r,hr,rfl⟩:=List.mem_map.1 h;exact ⟨r,hr,bL rfl⟩
theorem gQ.chk {m:Nat} {g:To} (h:gQ m g) (hm:m≤7):lT g=0:=by
 have hl:g.2.1.length≤49:=gX h.llen (Nat.mul_le_mul hm hm);have hlen:=h.len
 have e1:(decide (24<g.1.length) || decide (60<g.2.1.length))=false:=by
  rw [d9 (by omega),d9 (by omega)];rfl
 have e2:g.1.any tH=false:=by
  rw [List.any_eq_false];intro x hx;have:=h.rin x.1 (List.mem_map.2 ⟨x,hx,rfl⟩);unfold tH;rw [nD.2 this];simp
 have e3:UU g.1=true:=by
  unfold UU;rw [List.all_eq_true];intro i hi;have hi:=List.mem_range.1 hi;refine bL ?_
  have:=List.pairwise_iff_getElem.1 h.rup i (i+1) (by simp;omega) (by simp;omega) (by omega)
  simp only [List.getElem_map] at this
  have h1:i<g.1.length:=by omega
  have h2:i+1<g.1.length:=by omega
  simpa [iW,h1,h2] using this
 have e4:g.2.1.any rR=false:=by
  rw [List.any_eq_false];intro x hx;have:=h.lin x hx;unfold rR;rw [nD.2 ⟨this.1,this.2.1⟩,nD.2 ⟨this.2.2.1,this.2.2.2.1⟩,nD.2 ⟨this.2.2.2.2.1,this.2.2.2.2.2⟩];simp
 have e5:g.2.1.any (fun l=>!aA.jR g.1 l.1 || !aA.jR g.1 l.2.1)=false:=by
  rw [List.any_eq_false];intro x hx;have:=h.lend x hx;rw [Tw.2 this.1,Tw.2 this.2.1];simp
 have e6:g.2.1.any down=false:=by
  rw [List.any_eq_false];intro x hx;have:=(h.lend x hx).2.2;unfold down
  rw [d9 (by omega)];simp
 have e7:upL g.2.1=true:=by
  unfold upL;rw [List.all_eq_true];intro i hi;have hi:=List.mem_range.1 hi
  have:=List.pairwise_iff_getElem.1 h.lup i (i+1) (by omega) (by omega) (by omega)
  have h1:i<g.2.1.length:=by omega
  have h2:i+1<g.2.1.length:=by omega
  unfold GL;simp only [iW,iw h1,iw h2,sw,Bool.or_eq_true,dA,mX];exact this
 unfold lT;rw [e1,e2,e3,e4,e5,e6,e7];rfl
theorem gQ.ok {m:Nat} {g:To} (h:gQ m g) (hm:m≤7):RZ g=true:=by
 unfold RZ;exact bL (h.chk hm)
theorem gQ.has {m:Nat} {g:To} (h:gQ m g) (hm:m≤7) {x:Int} (hx:x∈ids g):AU g x=true:=by
 unfold AU;rw [h.ok hm,Tw.2 hx];rfl
structure Bu (g:To) (d:Dm):Prop where
 root:d.1∈ids g
 rcv:∀ x∈d.2.1,x∈ids g
 up:d.2.1.Pairwise (· < ·)
 len:d.2.1.length≤3
 rate:1≤d.2.2.1∧d.2.2.1≤1000
theorem Qk (l:List Int) (x:Int):(qJ l x).length≤l.length+1:=by
 induction l with
 | nil=>exact bT _
 | cons z r ih=>
  rw [qJ]
  cases decide (z<x) with
  | true=>simp only [aQ,lD];omega
  | false=>
   cases decide (z=x) with
   | true=>simp only [bJ,aQ,lD];omega
   | false=>simp only [bJ,lD];omega
theorem t29 (t:Tp) (g:To) (n:Nat) (hn:n≤100) (hw:wf t=true) (hg:0<g.1.length):iA (Px t g n) (fun r=>wf r.2=true∧(∀ x∈r.1,x∈ids g)∧r.1.Pairwise (· < ·)∧r.1.length≤n):=by
 obtain ⟨b0,b1,⟨⟩⟩:=t;obtain ⟨rs,ls,⟨⟩⟩:=g;have hg:0<rs.length:=hg;unfold Px r29
 have en:aR ((n:Int)+1)=(n:Int)+1:=dn (by omega)
 simp only [en]
 refine aj (qM _ hw) fun y5 h5=>aj (P:=fun y=>wf y.1=true∧(∀ x∈y.2.1,x∈rs.map fun r=>r.1)∧y.2.1.Pairwise (· < ·)∧y.2.1.length≤n) ?_ fun y hy=>ah hy
 have h5':=h5.2
 refine iq (fun s=>wf s.1=true∧(∀ x∈s.2.1,x∈rs.map fun r=>r.1)∧s.2.1.Pairwise (· < ·)∧0≤s.2.2.1∧(s.2.1.length:Int)+s.2.2.1≤n) (fun s=>s.2.2.1.toNat) ⟨h5.1,fun x hx=>(by cases hx),.nil,h5'.1,by simp;omega⟩ ?_
 rintro ⟨t,out,i,⟨⟩⟩ ⟨h1,h2,h3,h4,h6⟩;have h1:wf t=true:=h1
 have h2:∀ x∈out,x∈rs.map fun r=>r.1:=h2
 have h3:out.Pairwise (· < ·):=h3
 have h4:0≤i:=h4;have h6:(out.length:Int)+i≤n:=h6;unfold aaU;simp only [fQ]
 by_cases c:i > 0
 ·rw [dT c]
  have c2:(rs.length:Int) > 0:=by omega
  simp only [aQ,qB];rw [dT c2];simp only [aQ]
  refine aj (qM _ h1) fun y3 Ip=>?_
  have q3:=Ip.2
  have aT:y3.1.toNat<rs.length:=by omega
  refine aK (by omega) (by omega) (aj (vF (bL (by omega)) (Q:=fun r=>r=(qJ out (List.getD rs y3.1.toNat (0,false,())).1,())) rfl) fun y4 LA=>ah ⟨⟨Ip.1,?_,?_,?_,?_⟩,?_⟩)
  ·subst LA
   intro x hx
   rcases Qi out _ x hx with rfl | hx
   ·exact List.mem_map.2 ⟨_,gK aT,rfl⟩
   ·exact h2 x hx
  ·subst LA;exact Qj _ h3
  ·show 0≤aR (i - 1)
   rw [jc];omega
  ·subst LA
   show ((qJ out _).length:Int)+aR (i - 1)≤n;have:=Qk out (List.getD rs y3.1.toNat (0,false,())).1;rw [jc];omega
  ·show (aR (i - 1)).toNat<i.toNat
   rw [jc];omega
 ·rw [dF c]
  simp only [bJ,qB]
  exact ah ⟨h1,h2,h3,by show out.length≤n;omega⟩
theorem t19 (t:Tp) (g:To) (n:Nat) (hn:n≤100) (hw:wf t=true) (hg:0<g.1.length):iA (Km t g n) (fun r=>wf r.2=true∧(∀ d∈r.1,Bu g d)∧r.1.length≤n):=by
 obtain ⟨b0,b1,⟨⟩⟩:=t;obtain ⟨rs,ls,⟨⟩⟩:=g;have Gq:0<rs.length:=hg;unfold Km r19
 have en:aR ((n:Int)+1)=(n:Int)+1:=dn (by omega)
 simp only [en]
 refine aj (qM _ hw) fun y5 h5=>aj (P:=fun y=>wf y.2.1=true∧(∀ d∈y.1,Bu (rs,ls,()) d)∧y.1.length≤n) ?_ fun y hy=>ah hy
 have h5':=h5.2
 refine iq (fun s=>wf s.2.2.1=true∧(∀ d∈s.2.1,Bu (rs,ls,()) d)∧0≤s.1∧(s.2.1.length:Int)+s.1≤n) (fun s=>s.1.toNat) ⟨h5.1,fun x hx=>(by cases hx),h5'.1,by simp;omega⟩ ?_
 rintro ⟨i,out,t,⟨⟩⟩ ⟨h1,h2,h4,h6⟩;have h1:wf t=true:=h1
 have h2:∀ d∈out,Bu (rs,ls,()) d:=h2
 have h4:0≤i:=h4;have h6:(out.length:Int)+i≤n:=h6;unfold aaV;simp only [fQ]
 refine aF (fun c=>aj (qM _ h1) fun y3 h3=>?_) fun c=>ah ⟨h1,h2,by show out.length≤n;omega⟩
 have c:i > 0:=c;have q3:=h3.2
 have aT:y3.1.toNat<rs.length:=by omega
 refine aK (by omega) (by omega) (aj (t29 y3.2 (rs,ls,()) 3 (by decide) h3.1 hg) fun y4 LA=>aj (HY _ LA.1 (by rw [LA.1];rfl) (by simp)) fun y5 h5=>jF (by omega) (ah ⟨⟨h5.1,fun d hd=>?_,?_,?_⟩,?_⟩))
 ·have hd:d∈out++[((List.getD rs y3.1.toNat (0,false,())).1,y4.1,y5.1,())]:=hd
  rcases List.mem_append.1 hd with hd | hd
  ·exact h2 d hd
  ·obtain rfl:=List.mem_singleton.1 hd
   have q5:=h5.2;simp only [List.mem_cons,List.not_mem_nil,or_false] at q5
   exact ⟨List.mem_map.2 ⟨_,gK aT,rfl⟩,LA.2.1,LA.2.2.1,LA.2.2.2,by show 1≤y5.1∧y5.1≤1000;omega⟩
 ·show 0≤aR (i - 1)
  rw [jc];omega
 ·show ((out++[_]).length:Int)+aR (i - 1)≤n
  rw [nP,zC7,jc];omega
 ·show (aR (i - 1)).toNat<i.toNat
  rw [jc];omega
theorem vH (x y:Hp):wQ.om x y=decide (x=y):=by
 obtain ⟨a,b,⟨⟩⟩:=x;obtain ⟨c,d,⟨⟩⟩:=y;show (decide (a=c)&&(decide (b=d)&&true))=_;rw [Bool.and_true,←Bool.decide_and,decide_eq_decide];simp
theorem get_put (m:Mp) (h k:Hp) (v:Int):Go.dw.iE wQ (.int .i64) (mp m h v) k=if h=k then some v else Go.dw.iE wQ (.int .i64) m k:=by
 unfold mp
 induction m with
 | nil=>
  simp only [Go.dw.gM,Go.dw.iE,vH]
  by_cases e:h=k
  ·rw [bL e,if_pos e];rfl
  ·rw [d9 e,if_neg e];rfl
 | cons p r ih=>
  simp only [Go.dw.gM,vH]
  by_cases e:p.1=h
  ·rw [bL e]
   simp only [aQ,Go.dw.iE,vH]
   by_cases e2:h=k
   ·rw [bL e2,if_pos e2];rfl
   ·rw [d9 e2,if_neg e2,d9 (fun e3=>e2 (by rw [←e,e3]))];rfl
  ·rw [d9 e]
   simp only [bJ,Go.dw.iE,vH];rw [ih]
   by_cases e2:p.1=k
   ·have hk:h≠k:=fun e3=>e (by rw [e2,e3])
    simp only [bL e2,aQ,if_neg hk]
   ·simp only [d9 e2,bJ]
theorem lM (m:Mp) (h k:Hp) (v:Int):mg (mp m h v) k=if h=k then v else mg m k:=by
 unfold mg;rw [get_put]
 by_cases e:h=k
 ·rw [if_pos e,if_pos e];rfl
 ·rw [if_neg e,if_neg e]
abbrev Dk (m:Mp):Prop:=(m.map fun p=>p.1).Nodup
theorem acA (m:Mp) (h:Hp) (v:Int):∀ k,k∈(mp m h v).map (fun p=>p.1)↔k=h∨k∈m.map fun p=>p.1:=by
 unfold mp
 induction m with
 | nil=>intro k;simp [Go.dw.gM]
 | cons p r ih=>
  intro k;simp only [Go.dw.gM,vH]
  by_cases e:p.1=h
  ·rw [bL e]
   simp only [aQ,jy,List.mem_cons,e];constructor
   ·rintro (h1 | h1)
    ·exact .inl h1
    ·exact .inr (.inr h1)
   ·rintro (h1 | h1 | h1)
    ·exact .inl h1
    ·exact .inl h1
    ·exact .inr h1
  ·rw [d9 e]
   simp only [bJ,jy,List.mem_cons,ih k];constructor
   ·rintro (h1 | h1 | h1)
    ·exact .inr (.inl h1)
    ·exact .inl h1
    ·exact .inr (.inr h1)
   ·rintro (h1 | h1 | h1)
    ·exact .inr (.inl h1)
    ·exact .inl h1
    ·exact .inr (.inr h1)
theorem Dk.put {m:Mp} (hm:Dk m) (h:Hp) (v:Int):Dk (mp m h v):=by
 induction m with
 | nil=>unfold mp;simp [Dk,Go.dw.gM]
 | cons p r ih=>
  obtain ⟨h1,h2⟩:=List.nodup_cons.1 hm;unfold mp;simp only [Go.dw.gM,vH]
  by_cases e:p.1=h
  ·rw [bL e]
   simp only [aQ,Dk,jy,List.nodup_cons]
   exact ⟨by rw [←e];exact h1,h2⟩
  ·rw [d9 e]
   simp only [bJ,Dk,jy,List.nodup_cons]
   refine ⟨fun hc=>?_,ih h2⟩
   rcases (acA r h v p.1).1 hc with h3 | h3
   ·exact e h3
   ·exact h1 h3
theorem M5 (m:Mp) (h:Hp) (v:Int):(mp m h v).length≤m.length+1:=by
 unfold mp
 induction m with
 | nil=>exact bT _
 | cons p r ih=>
  simp only [Go.dw.gM]
  cases wQ.om p.1 h with
  | true=>simp only [aQ,lD];omega
  | false=>simp only [bJ,lD];omega
theorem Tx {m:Mp} (hm:Dk m) {p:Hp×Int} (hp:p∈m):Go.dw.iE wQ (.int .i64) m p.1=some p.2:=by
 induction m with
 | nil=>cases hp
 | cons q r ih=>
  obtain ⟨h1,h2⟩:=List.nodup_cons.1 hm;simp only [Go.dw.iE,vH]
  rcases lC hp with rfl | hp
  ·rw [bL rfl];rfl
  ·rw [d9 (fun e=>h1 (by show q.1∈_;rw [e];exact List.mem_map.2 ⟨p,hp,rfl⟩))]
   exact ih h2 hp
theorem afD {m:Mp} {k:Hp} (h:k ∉ m.map fun p=>p.1):Go.dw.iE wQ (.int .i64) m k=none:=by
 induction m with
 | nil=>rfl
 | cons q r ih=>
  simp only [jy,List.mem_cons,not_or] at h;simp only [Go.dw.iE,vH]
  rw [d9 (fun e=>h.1 e.symm)]
  exact ih h.2
theorem ak0 (x:Ld) (l:List Ld):(GQ x l).Perm (x::l):=by
 induction l with
 | nil=>exact List.Perm.refl _
 | cons y r ih=>
  simp only [GQ]
  cases decide (IL (x.1,x.2.1,()) (y.1,y.2.1,())<0) with
  | true=>exact List.Perm.refl _
  | false=>exact (List.Perm.cons y ih).trans (List.Perm.swap x y r)
theorem acB (m:Mp):(jD m).Perm (m.map fun e=>((e.1.1,e.1.2.1,e.2,()):Ld)):=by
 unfold jD
 generalize (m.map fun e=>((e.1.1,e.1.2.1,e.2,()):Ld))=l
 induction l with
 | nil=>exact List.Perm.refl _
 | cons x r ih=>exact (ak0 x _).trans (List.Perm.cons x ih)
theorem X0 {l:List Ld} (hl:(l.map fun x=>((x.1,x.2.1,()):Hp)).Nodup) (k:Hp):mg (pz l) k=(((l.find? fun x=>decide (((x.1,x.2.1,()):Hp)=k)).map fun x=>x.2.2.1).getD 0):=by
 unfold pz
 induction l with
 | nil=>rfl
 | cons x r ih=>
  obtain ⟨h1,h2⟩:=List.nodup_cons.1 hl;simp only [List.foldr_cons];rw [lM,List.find?_cons]
  by_cases e:((x.1,x.2.1,()):Hp)=k
  ·rw [if_pos e,bL e];rfl
  ·rw [if_neg e,d9 e];exact ih h2
theorem Ql {m:Mp} (hm:Dk m) (k:Hp):mg (pz (jD m)) k=mg m k:=by
 have hp:=acB m
 have e:((m.map fun e=>((e.1.1,e.1.2.1,e.2,()):Ld)).map fun x=>((x.1,x.2.1,()):Hp))=m.map fun p=>p.1:=by
  rw [List.map_map]
  exact List.map_congr_left fun p _=>rfl
 have hn:((jD m).map fun x=>((x.1,x.2.1,()):Hp)).Nodup:=by
  have:=hp.map fun x=>((x.1,x.2.1,()):Hp)
  rw [e] at this;exact this.nodup_iff.2 hm
 rw [X0 hn]
 by_cases hk:k∈m.map fun p=>p.1
 ·obtain ⟨p,Yx,rfl⟩:=List.mem_map.1 hk
  have hx:((p.1.1,p.1.2.1,p.2,()):Ld)∈jD m:=hp.mem_iff.2 (List.mem_map.2 ⟨p,Yx,rfl⟩)
  have hg:mg m p.1=p.2:=by unfold mg;rw [Tx hm Yx];rfl
  rw [hg]
  cases hf:(jD m).find? fun x=>decide (((x.1,x.2.1,()):Hp)=p.1) with
  | none=>
   have:=List.find?_eq_none.1 hf _ hx;simp at this
  | some y=>
   have h1:=List.find?_some hf;have h2:=List.mem_of_find?_eq_some hf;obtain ⟨q,hq,rfl⟩:=List.mem_map.1 (hp.mem_iff.1 h2);have h3:q.1=p.1:=vP h1;have g1:=Tx hm hq;rw [h3,Tx hm Yx] at g1;exact (Option.some.inj g1).symm
 ·have hg:mg m k=0:=by unfold mg;rw [afD hk];rfl
  rw [hg]
  cases hf:(jD m).find? fun x=>decide (((x.1,x.2.1,()):Hp)=k) with
  | none=>rfl
  | some y=>
   exfalso;have h1:=List.find?_some hf;have h1:((y.1,y.2.1,()):Hp)=k:=vP h1;have h2:=List.mem_of_find?_eq_some hf;obtain ⟨q,hq,rfl⟩:=List.mem_map.1 (hp.mem_iff.1 h2);exact hk (List.mem_map.2 ⟨q,hq,h1⟩)
structure uy (root:Int) (L:List Hp):Prop where
 rt:1≤root∧root≤99
 BD:∀ h∈L,(1≤h.1∧h.1≤99)∧1≤h.2.1∧h.2.1≤99
 up:L.Pairwise fun x y=>Mh x y=true
 gr:∃ G,Grow root G∧L.Perm G
theorem uy.nd {root:Int} {L:List Hp} (h:uy root L):(kr root L).Nodup:=by
 obtain ⟨G,h1,h2⟩:=h.gr
 exact ((List.Perm.cons root (h2.map fun x=>x.2.1)).nodup_iff).2 h1.nodup
theorem uy.fr {root:Int} {L:List Hp} (h:uy root L):∀ x∈L,x.1∈kr root L:=by
 obtain ⟨G,h1,h2⟩:=h.gr;intro x hx
 exact ((List.Perm.cons root (h2.map fun x=>x.2.1)).mem_iff).2 (h1.froms x (h2.mem_iff.1 hx))
theorem uy.len {root:Int} {L:List Hp} (h:uy root L):L.length≤99:=by
 have:=CS 99 (L.map fun x=>x.2.1) (List.nodup_cons.1 h.nd).2 fun x hx=>by
  obtain ⟨y,hy,rfl⟩:=List.mem_map.1 hx;exact (h.BD y hy).2
 simpa using this
abbrev BM:=List (Int×Bool)
def mb (m:BM) (x:Int):Bool:=Go.dw.cZ (.int .i64) .bool m x
def mbp (m:BM) (x:Int):BM:=Go.dw.gM (.int .i64) .bool m x true
theorem zw (m:BM) (h k:Int):mb (mbp m h) k=(decide (h=k) || mb m k):=by
 unfold mb mbp Go.dw.cZ
 have key:Go.dw.iE (.int .i64) .bool (Go.dw.gM (.int .i64) .bool m h true) k=if h=k then some true else Go.dw.iE (.int .i64) .bool m k:=by
  induction m with
  | nil=>
   show (bif decide (h=k) then some true else none)=_
   by_cases e:h=k
   ·rw [if_pos e,dT e];rfl
   ·rw [if_neg e,dF e];rfl
  | cons p r ih=>
   show Go.dw.iE (.int .i64) .bool (bif decide ((p.1:Int)=h) then (h,true)::r else p::Go.dw.gM (.int .i64) .bool r h true) k=_
   by_cases e:(p.1:Int)=h
   ·rw [dT e]
    show (bif decide (h=k) then some true else Go.dw.iE (.int .i64) .bool r k)=if h=k then some true else bif decide ((p.1:Int)=k) then some p.2 else Go.dw.iE (.int .i64) .bool r k
    by_cases e2:h=k
    ·rw [if_pos e2,dT e2];rfl
    ·rw [if_neg e2,dF e2,dF (fun e3=>e2 (by rw [←e,e3]))];rfl
   ·rw [dF e]
    show (bif decide ((p.1:Int)=k) then some p.2 else Go.dw.iE (.int .i64) .bool (Go.dw.gM (.int .i64) .bool r h true) k)=if h=k then some true else bif decide ((p.1:Int)=k) then some p.2 else Go.dw.iE (.int .i64) .bool r k
    rw [ih]
    by_cases e2:(p.1:Int)=k
    ·have hk:h≠k:=fun e3=>e (by rw [e2,e3])
     rw [dT e2,if_neg hk,if_neg hk]
    ·rw [dF e2];rfl
 rw [key]
 by_cases e:h=k
 ·rw [if_pos e,dT e];rfl
 ·rw [if_neg e,dF e];rfl
theorem acD (x:Int):mb [] x=false:=rfl
theorem acE (x:Int) (h:1≤x∧x≤99):iA (nZ x) (fun r=>r=(true,())):=by
 unfold nZ aoJ
 rw [dT (show x≥1 from h.1)]
 simp only [aQ,qB];rw [dT h.2];exact ah rfl
def mJ (L:List Hp) (m:BM):Nat:=(L.filter fun h=>!mb m h.2.1).length
theorem afE {L:List Hp} {m:BM} {h:Hp} (hh:h∈L) (hf:mb m h.2.1=false):mJ L (mbp m h.2.1)<mJ L m:=by
 unfold mJ
 have e:(L.filter fun x=>!mb (mbp m h.2.1) x.2.1)=(L.filter fun x=>!mb m x.2.1).filter fun x=>!decide (h.2.1=x.2.1):=by
  rw [List.filter_filter]
  refine List.filter_congr fun x _=>?_
  rw [zw,Bool.not_or]
 rw [e]
 refine List.length_filter_lt_length_iff_exists.2 ⟨h,List.mem_filter.2 ⟨hh,by rw [hf];rfl⟩,by simp⟩
theorem aqG (L:List Hp) (m0:BM) (hlen:L.length≤1000):iA (Loop (@Ml L) (m0,(false,(0,())))) (fun y=>(∀ x,mb m0 x=true→mb y.1 x=true)∧(y.2.1=false→∀ h∈L,mb y.1 h.1=true→mb y.1 h.2.1=true)∧(y.2.1=true→mJ L y.1<mJ L m0)):=by
 refine bH L.length (fun s=>s.2.2.1) (fun s=>(∀ x,mb m0 x=true→mb s.1 x=true)∧(s.2.1=false→s.1=m0∧∀ h∈L.take s.2.2.1.toNat,mb s.1 h.1=true→mb s.1 h.2.1=true)∧(s.2.1=true→mJ L s.1<mJ L m0)) rfl ⟨fun x h=>h,fun _=>⟨rfl,fun h hh=>(by cases hh)⟩,fun h=>(by cases h)⟩ ?_
 rintro ⟨m,g,i,⟨⟩⟩ k hk hle ⟨i1,i2,i3⟩;obtain rfl:i=k:=hk
 have i1:∀ x,mb m0 x=true→mb m x=true:=i1
 have i2:g=false→m=m0∧∀ h∈L.take k,mb m h.1=true→mb m h.2.1=true:=i2
 have i3:g=true→mJ L m<mJ L m0:=i3;unfold Ml;simp only [fQ,jd]
 refine aF (fun c=>aK (by omega) c ?_) fun c=>ah ⟨i1,fun hg=>?_,i3⟩
 ·have c:(k:Int)<(L.length:Int):=c
  have gI:k<L.length:=by omega
  have eL:L.getD k (0,0,())=L[k]:=by simp [iW,gI]
  have ek:aR ((k:Int)+1)=(k:Int)+1:=dn (by omega)
  have VB:L.take (k+1)=L.take k++[L[k]]:=by rw [List.take_add_one,iw gI];rfl
  rw [eL]
  show iA (Option.bind (bif mb m L[k].1 then some (!mb m L[k].2.1,()) else some (false,())) _) _
  have CU:(aR ((k:Int)+1)).toNat=k+1:=by rw [ek];omega
  have skip:(mb m L[k].1=true→mb m L[k].2.1=true)→Cnt (ρ:=BM×Bool×Unit) L.length (fun s:BM×Bool×Int×Unit=>s.2.2.1) (fun s=>(∀ x,mb m0 x=true→mb s.1 x=true)∧(s.2.1=false→s.1=m0∧∀ h∈L.take s.2.2.1.toNat,mb s.1 h.1=true→mb s.1 h.2.1=true)∧(s.2.1=true→mJ L s.1<mJ L m0)) k (fun y=>(∀ x,mb m0 x=true→mb y.1 x=true)∧(y.2.1=false→∀ h∈L,mb y.1 h.1=true→mb y.1 h.2.1=true)∧(y.2.1=true→mJ L y.1<mJ L m0)) (.inl (m,g,aR ((k:Int)+1),())):=by
   intro hs
   refine ⟨gI,ek,i1,fun hg=>⟨(i2 hg).1,?_⟩,i3⟩
   show ∀ h∈L.take (aR ((k:Int)+1)).toNat,mb m h.1=true→mb m h.2.1=true
   rw [CU,VB];intro h hh
   rcases List.mem_append.1 hh with hh | hh
   ·exact (i2 hg).2 h hh
   ·obtain rfl:=List.mem_singleton.1 hh
    exact hs
  cases h1:mb m L[k].1 with
  | false=>
   simp only [bJ,qB]
   exact ah (skip fun h=>by rw [h1] at h;cases h)
  | true=>
   cases h2:mb m L[k].2.1 with
   | true=>
    simp only [aQ,Bool.not_true,qB,bJ]
    exact ah (skip fun _=>h2)
   | false=>
    simp only [aQ,Bool.not_false,qB]
    refine ah ⟨gI,ek,fun x hx=>?_,fun hg=>(by cases hg),fun _=>?_⟩
    ·show mb (mbp m L[k].2.1) x=true
     rw [zw,i1 x hx,Bool.or_true]
    ·show mJ L (mbp m L[k].2.1)<mJ L m0
     have h3:=afE (zG gI) h2
     cases hg:g with
     | true=>have:=i3 hg;omega
     | false=>rw [(i2 hg).1] at h3 ⊢;exact h3
 ·have c:¬ (k:Int)<(L.length:Int):=c
  have:=(i2 hg).2
  rw [List.take_of_length_le (by omega)] at this
  exact this
theorem t152 {root:Int} {L:List Hp} (h:uy root L):iA (x152 (root,L,())) (fun y=>∀ x∈L,mb y.1 x.1=true):=by
 have hlen:=h.len;unfold x152 aoK
 refine aj (P:=fun y=>mb y.1 root=true∧∀ h∈L,mb y.1 h.1=true→mb y.1 h.2.1=true) ?_ fun y hy=>ah ?_
 ·refine iq (fun s=>mb s.1 root=true∧(s.2.1=false→∀ h∈L,mb s.1 h.1=true→mb s.1 h.2.1=true)) (fun s=>2*mJ L s.1+(bif s.2.1 then 1 else 0)) ⟨?_,fun h=>(by cases h)⟩ ?_
  ·show mb (mbp [] root) root=true
   rw [zw,dT rfl];rfl
  ·rintro ⟨m,g,⟨⟩⟩ ⟨h1,h2⟩
   have h1:mb m root=true:=h1
   have h2:g=false→∀ h∈L,mb m h.1=true→mb m h.2.1=true:=h2
   unfold U3
   cases g with
   | true=>
    simp only [aQ]
    refine aj (aqG L m (by omega)) fun y hy=>ah ⟨⟨hy.1 _ h1,hy.2.1⟩,?_⟩
    cases hg:y.2.1 with
    | true=>
     have:=hy.2.2 hg
     show 2*mJ L y.1+(bif y.2.1 then 1 else 0)<2*mJ L m+1
     rw [hg];show 2*mJ L y.1+1<2*mJ L m+1;omega
    | false=>
     show 2*mJ L y.1+(bif y.2.1 then 1 else 0)<2*mJ L m+1
     rw [hg];show 2*mJ L y.1+0<2*mJ L m+1
     have:mJ L y.1≤mJ L m:=by
      unfold mJ
      have e:(L.filter fun x=>!mb y.1 x.2.1)=((L.filter fun x=>!mb m x.2.1).filter fun x=>!mb y.1 x.2.1):=by
       rw [List.filter_filter]
       refine List.filter_congr fun x _=>?_
       cases hm:mb m x.2.1 with
       | true=>rw [hy.1 _ hm];rfl
       | false=>simp
      rw [e];exact List.length_filter_le _ _
     omega
   | false=>
    simp only [bJ];exact ah ⟨h1,h2 rfl⟩
 ·obtain ⟨G,g1,g2⟩:=h.gr
  have key:∀ G',Grow root G'→(∀ x∈G',x∈L)→∀ v∈kr root G',mb y.1 v=true:=by
   intro G' DY
   induction DY with
   | nil=>intro _ v hv;obtain rfl:=List.mem_singleton.1 hv;exact hy.1
   | @cons a l hl hf ht ih=>
    intro hs v hv
    have ih:=ih fun x hx=>hs x (kE _ hx)
    simp only [kr,jy,List.mem_cons] at hv
    rcases hv with rfl | rfl | hv
    ·exact hy.1
    ·exact hy.2 a (hs a (by simp)) (ih _ hf)
    ·exact ih v (kE _ hv)
  exact fun x hx=>key G g1 (fun z hz=>g2.mem_iff.2 hz) _ (g1.froms x (g2.mem_iff.1 hx))
theorem Tz {x y:Hp} (h:Mh x y=true):¬ dz [dJ x.1 y.1,dJ x.2.1 y.2.1]≥0:=by
 have:=vP h;unfold IL at this;omega
theorem t85 {root:Int} {L:List Hp} (h:uy root L):iA (Ko (root,L,())) (fun r=>r=(0,())):=by
 have hlen:=h.len;unfold Ko r85;simp only
 refine aj (acE root h.rt) fun y2 h2=>?_
 subst h2;simp only [Bool.not_true,bJ]
 refine aj (P:=fun y=>y.1=false) ?_ fun y3 h3=>?_
 ·refine bH L.length (fun s=>s.1) (fun _=>True) rfl trivial ?_
  rintro ⟨i,⟨⟩⟩ k hk hle -;obtain rfl:i=k:=hk;unfold aa1;simp only [fQ,jd]
  refine aF (fun c=>aK (by omega) c ?_) fun c=>ah rfl
  have c:(k:Int)<(L.length:Int):=c
  have hm:L.getD k (0,0,())∈L:=gK (by omega)
  have:=h.BD _ hm
  refine aj (P:=fun y=>y=(false,())) (aj (acE _ this.1) fun y hy=>?_) fun y hy=>?_
  ·subst hy
   simp only [Bool.not_true,Bool.not_false,aQ]
   exact aj (acE _ this.2) fun y hy=>by subst hy;exact ah rfl
  ·subst hy
   exact ah ⟨by omega,dn (by omega),trivial⟩
 rw [h3];simp only [bJ]
 refine aj (P:=fun y=>y.1=false) ?_ fun y4 h4=>?_
 ·refine iq (fun s=>1≤s.1∧s.1≤100) (fun s=>100 - s.1.toNat) ⟨Int.le_refl _,by simp⟩ ?_
  rintro ⟨i,⟨⟩⟩ ⟨i1,i2⟩;have i1:1≤i:=i1;have i2:i≤100:=i2;unfold aa2;simp only [fQ]
  refine aF (fun c=>?_) fun c=>ah rfl
  have c:i<(L.length:Int):=c
  have e1:aR (i - 1)=i - 1:=by rw [jc];omega
  have e2:aR (i+1)=i+1:=by rw [jc];omega
  rw [e1,e2]
  refine aK (by omega) (by omega) (aK (by omega) (by omega) (aF (fun c2=>absurd c2 ?_) fun c2=>ah ⟨⟨by show 1≤i+1;omega,by show i+1≤100;omega⟩,by show 100 - (i+1).toNat<100 - i.toNat;omega⟩))
  have q1:(i - 1).toNat<L.length:=by omega
  have q2:i.toNat<L.length:=by omega
  have:=List.pairwise_iff_getElem.1 h.up (i - 1).toNat i.toNat q1 q2 (by omega)
  have e3:L.getD (i - 1).toNat (0,0,())=L[(i - 1).toNat]:=by rw [iW,iw q1];rfl
  have e4:L.getD i.toNat (0,0,())=L[i.toNat]:=by rw [iW,iw q2];rfl
  rw [e3,e4];exact Tz this
 rw [h4];simp only [bJ]
 refine aj (P:=fun y=>y.1=false) ?_ fun y5 h5=>?_
 ·refine bH L.length (fun s=>s.2.1) (fun s=>∀ x,mb s.1 x=true→x∈kr root (L.take s.2.1.toNat)) rfl (fun x hx=>?_) ?_
  ·have hx:mb (mbp [] root) x=true:=hx
   rw [zw,acD,Bool.or_false] at hx;rw [←vP hx];simp
  ·rintro ⟨m,i,⟨⟩⟩ k hk hle hI
   obtain rfl:i=k:=hk
   have hI:∀ x,mb m x=true→x∈kr root (L.take k):=hI
   unfold aa3;simp only [fQ,jd]
   refine aF (fun c=>aK (by omega) c ?_) fun c=>ah rfl
   have c:(k:Int)<(L.length:Int):=c
   have gI:k<L.length:=by omega
   have eL:L.getD k (0,0,())=L[k]:=by simp [iW,gI]
   have ek:aR ((k:Int)+1)=(k:Int)+1:=dn (by omega)
   have VB:L.take (k+1)=L.take k++[L[k]]:=by rw [List.take_add_one,iw gI];rfl
   have Le:mb m L[k].2.1=false:=by
    cases hb:mb m L[k].2.1 with
    | false=>rfl
    | true=>
     exfalso;have h1:=hI _ hb;have h2:=h.nd
     rw [show L=L.take k++(L[k]::L.drop (k+1)) from by rw [←List.drop_eq_getElem_cons gI,List.take_append_drop]] at h2
     simp only [kr,vO,jy] at h2 h1
     rw [show root::((L.take k).map (fun x=>x.2.1)++L[k].2.1::(L.drop (k+1)).map fun x=>x.2.1)=(root::(L.take k).map (fun x=>x.2.1))++L[k].2.1::(L.drop (k+1)).map fun x=>x.2.1 from rfl,List.nodup_append] at h2
     exact h2.2.2 _ h1 _ (uD ..) rfl
   rw [eL]
   show iA (bif mb m L[k].2.1 then _ else _) _
   rw [Le];simp only [bJ]
   refine ah ⟨by omega,ek,fun x hx=>?_⟩
   show x∈kr root (L.take (aR ((k:Int)+1)).toNat)
   rw [show (aR ((k:Int)+1)).toNat=k+1 from by rw [ek];omega,VB]
   have hx:mb (mbp m L[k].2.1) x=true:=hx;rw [zw,Bool.or_eq_true] at hx;simp only [kr,vO,jy,List.map_nil,List.mem_cons,pV,List.not_mem_nil,or_false]
   rcases hx with hx | hx
   ·exact .inr (.inr (vP hx).symm)
   ·have:=hI x hx
    simp only [kr,List.mem_cons] at this
    rcases this with h | h
    ·exact .inl h
    ·exact .inr (.inl h)
 rw [h5];simp only [bJ]
 refine aj (t152 h) fun y6 h6=>aj (P:=fun y=>y.1=false) ?_ fun y7 h7=>?_
 ·refine bH L.length (fun s=>s.1) (fun _=>True) rfl trivial ?_
  rintro ⟨i,⟨⟩⟩ k hk hle -;obtain rfl:i=k:=hk;unfold aa4;simp only [fQ,jd]
  refine aF (fun c=>aK (by omega) c ?_) fun c=>ah rfl
  have c:(k:Int)<(L.length:Int):=c
  have hm:L.getD k (0,0,())∈L:=gK (by omega)
  have:=h6 _ hm
  show iA (bif !mb y6.1 (L.getD k (0,0,())).1 then _ else _) _
  rw [this]
  exact ah ⟨by omega,dn (by omega),trivial⟩
 ·rw [h7]
  exact ah rfl
theorem t86 {root:Int} {L:List Hp} (h:uy root L):iA (Mq (root,L,())) (fun r=>r=(fF (root::L.map fun x=>x.2.1),())):=by
 have hlen:=h.len;unfold Mq r86;simp only
 refine aj (t85 h) fun y2 h2=>?_
 subst h2
 refine eH (fun c=>absurd rfl c) fun _=>?_
 refine aj (P:=fun y=>y=(root::L.map (fun x=>x.2.1),())) ?_ fun y3 h3=>by subst h3;exact ah rfl
 refine bH L.length (fun s=>s.1) (fun s=>s.2.1=root::(L.take s.1.toNat).map fun x=>x.2.1) rfl rfl ?_
 rintro ⟨i,o,⟨⟩⟩ k hk hle hI;obtain rfl:i=k:=hk
 have hI:o=root::(L.take k).map fun x=>x.2.1:=hI
 unfold abb;simp only [fQ,jd]
 refine aF (fun c=>aK (by omega) c (jF ?_ (ah ⟨by omega,dn (by omega),?_⟩))) fun c=>ah ?_
 ·have c:(k:Int)<(L.length:Int):=c
  rw [hI];simp only [lD,pJ,List.length_take];omega
 ·have c:(k:Int)<(L.length:Int):=c
  have gI:k<L.length:=by omega
  show o++[(L.getD k (0,0,())).2.1]=root::(L.take (aR ((k:Int)+1)).toNat).map fun x=>x.2.1
  rw [show (aR ((k:Int)+1)).toNat=k+1 from by rw [dn (by omega)];omega,List.take_add_one,iw gI,hI]
  simp only [iW,iw gI,sw,Option.toList_some,vO,jy,List.map_nil,List.cons_append]
 ·have c:¬ (k:Int)<(L.length:Int):=c
  rw [List.take_of_length_le (by omega)] at hI
  show (o,())=_;rw [hI]
end Go.dw.rO
namespace aA
open Go Go.dw
theorem HZ {l:List Int} {n:Int}:has l n=true↔n∈l:=by
 unfold has;rw [List.any_eq_true];constructor
 ·rintro ⟨x,hx,h⟩
  rw [←vP h];exact hx
 ·intro h
  exact ⟨n,h,bL rfl⟩
theorem r9 (x:Int) (l:List Int):(D7 x l).Perm (x::l):=by
 induction l with
 | nil=>exact List.Perm.refl _
 | cons y r ih=>
  simp only [D7]
  cases decide (x≤y) with
  | true=>exact List.Perm.refl _
  | false=>exact (List.Perm.cons y ih).trans (List.Perm.swap x y r)
theorem iV (l:List Int):(fF l).Perm l:=by
 unfold fF
 induction l with
 | nil=>exact List.Perm.refl _
 | cons x r ih=>exact (r9 x _).trans (List.Perm.cons x ih)
theorem vI (x:Int) {l:List Int} (h:l.Pairwise (·≤·)):(D7 x l).Pairwise (·≤·):=by
 induction l with
 | nil=>simp [D7]
 | cons y r ih=>
  obtain ⟨h1,h2⟩:=List.pairwise_cons.1 h;simp only [D7]
  by_cases hx:x≤y
  ·rw [bL hx]
   refine List.pairwise_cons.2 ⟨fun z hz=>?_,h⟩
   rcases lC hz with rfl | hz
   ·exact hx
   ·exact Int.le_trans hx (h1 z hz)
  ·rw [d9 hx]
   refine List.pairwise_cons.2 ⟨fun z hz=>?_,ih h2⟩
   rcases lC ((r9 x r).mem_iff.1 hz) with rfl | hz
   ·omega
   ·exact h1 z hz
theorem tQ (l:List Int):(fF l).Pairwise (·≤·):=by
 unfold fF
 induction l with
 | nil=>exact .nil
 | cons x r ih=>exact vI x ih
theorem Qm {l:List Int} (hn:l.Nodup):(fF l).Pairwise (· < ·):=by
 have h2:(fF l).Pairwise (·≠·):=(iV l).nodup_iff.2 hn
 exact ((tQ l).and h2).imp fun h=>by omega
theorem acF {l:List Int} (h:l.Pairwise (· < ·)):upI l=true:=by
 unfold upI;rw [List.all_eq_true];intro i hi;have hi:=List.mem_range.1 hi
 have h1:i<l.length:=by omega
 have h2:i+1<l.length:=by omega
 refine bL ?_
 have:=List.pairwise_iff_getElem.1 h i (i+1) h1 h2 (by omega)
 simpa [iW,h1,h2] using this
theorem VD (l:List Ar) (r:Int):∀ (out:List Int),out.Nodup→(nU l r out).Nodup:=by
 unfold nU
 induction l with
 | nil=>exact fun _ h=>h
 | cons a t ih=>
  intro out h;simp only [List.foldl_cons];apply ih
  cases hb:(decide (a.1.1=r) && !has out a.1.2.1) with
  | false=>exact h
  | true=>
   rw [dA] at hb
   have hn:a.1.2.1 ∉ out:=fun hc=>by
    have:=HZ.2 hc;rw [this] at hb;simp at hb
   show (out++[a.1.2.1]).Nodup;rw [List.nodup_append]
   refine ⟨h,by simp,fun x hx y hy=>?_⟩
   obtain rfl:=List.mem_singleton.1 hy
   exact fun e=>hn (by rw [←e];exact hx)
theorem VE (l:List Ar):∀ (f i:Nat) (o:List Int),o.Nodup→(xw l f i o).Nodup
 | 0,_,_,h=>h
 | f+1,i,o,h=>by
  simp only [xw]
  cases decide (i<o.length) with
  | true=>exact VE l f (i+1) _ (VD l _ o h)
  | false=>exact h
theorem ak1 (l:List Ar) (root:Int):(D6 l root).Pairwise (· < ·):=Qm (VE l _ 0 [root] (by simp))
theorem acG {l:List Ar} {root r:Int} {H:List Hp} (hH:∀ a∈l,a.1∈H) (hr:Bp root H r):∀ (m:List Ar) (out:List Int),(∀ a∈m,a∈l)→(∀ x∈out,Bp root H x)→∀ x∈nU m r out,Bp root H x:=by
 unfold nU;intro m
 induction m with
 | nil=>exact fun _ _ h=>h
 | cons a t ih=>
  intro out hm h;simp only [List.foldl_cons]
  apply ih _ fun x hx=>hm x (kE _ hx)
  cases hb:(decide (a.1.1=r) && !has out a.1.2.1) with
  | false=>exact h
  | true=>
   rw [dA] at hb;intro x hx;have hx:x∈out++[a.1.2.1]:=hx
   rcases List.mem_append.1 hx with hx | hx
   ·exact h x hx
   ·obtain rfl:=List.mem_singleton.1 hx
    have e:a.1.1=r:=vP hb.1
    exact .aY (hH a (hm a (by simp))) (by rw [e];exact hr)
theorem Qn {l:List Ar} {root:Int} {H:List Hp} (hH:∀ a∈l,a.1∈H):∀ (f i:Nat) (o:List Int),(∀ x∈o,Bp root H x)→∀ x∈xw l f i o,Bp root H x
 | 0,_,_,h=>h
 | f+1,i,o,h=>by
  simp only [xw]
  by_cases hi:i<o.length
  ·rw [bL hi]
   refine Qn hH f (i+1) _ (acG hH (h _ ?_) l o (fun a ha=>ha) h)
   rw [iW,iw hi];exact zG hi
  ·rw [d9 hi];exact h
theorem afF {l:List Ar} {root:Int} {H:List Hp} (hH:∀ a∈l,a.1∈H):∀ x∈D6 l root,Bp root H x:=by
 intro x hx;have hx:=(iV _).mem_iff.1 hx
 exact Qn hH _ 0 [root] (fun y hy=>by obtain rfl:=List.mem_singleton.1 hy;exact .root) x hx
theorem acH (l:List Ar) (r:Int):∀ (out:List Int),∀ x∈out,x∈nU l r out:=by
 unfold nU
 induction l with
 | nil=>exact fun _ _ h=>h
 | cons a t ih=>
  intro out x hx;simp only [List.foldl_cons];apply ih
  cases (decide (a.1.1=r) && !has out a.1.2.1) with
  | false=>exact hx
  | true=>exact List.mem_append_left _ hx
theorem Qo (l:List Ar):∀ (f i:Nat) (o:List Int),∀ x∈o,x∈xw l f i o
 | 0,_,_,_,h=>h
 | f+1,i,o,x,h=>by
  simp only [xw]
  cases decide (i<o.length) with
  | true=>exact Qo l f (i+1) _ x (acH l _ o x h)
  | false=>exact h
theorem acI (l:List Ar) (root:Int):root∈D6 l root:=(iV _).mem_iff.2 (Qo l _ 0 [root] root (by simp))
end aA
namespace Go.dw.rO
open Go Go.Proofs aA
theorem TA {α:Type} {o:Option α} {y:α} (h:iA o (fun r=>r=y)):o=some y:=by obtain ⟨r,e,rfl⟩:=h;exact e
theorem Qp:∀ l:List Lk,(l.flatMap dV).length=2*l.length
 | []=>rfl
 | x::l=>by
  rw [List.flatMap_cons,nP,Qp l,lD];show 2+_=_;omega
theorem ak2 (a0:jS) (a1:jf) (h:(decide (a1.length≤1000))=true):g74 a0 a1=some (Go.dw.rO.Cz a1,()):=by
 have hl:=vP h;refine TA ?_;unfold g74
 refine aj (P:=fun y=>y=(a1.flatMap dV,())) ?_ fun y hy=>by subst hy;exact ah rfl
 refine bH a1.length (fun s=>s.1) (fun s=>s.2.1=(a1.take s.1.toNat).flatMap dV) rfl rfl ?_
 rintro ⟨i,l,⟨⟩⟩ k hk hle hI;obtain rfl:i=k:=hk;have hI:l=(a1.take k).flatMap dV:=hI;subst hI;unfold ab0;simp only [fQ,jd]
 refine aF (fun c=>aK (by omega) c (jF ?_ (ah ⟨?_,dn (by omega),?_⟩))) fun c=>ah ?_
 ·rw [Qp,List.length_take]
  simp only [lD,List.length_nil];omega
 ·have c:(k:Int)<(a1.length:Int):=c
  omega
 ·have c:(k:Int)<(a1.length:Int):=c
  have gI:k<a1.length:=by omega
  have ek:aR ((k:Int)+1)=(k:Int)+1:=dn (by omega)
  show _=(a1.take (aR ((k:Int)+1)).toNat).flatMap dV
  rw [ek,show ((k:Int)+1).toNat=k+1 by omega,List.take_add_one,iw gI,List.flatMap_append,iW,iw gI]
  rfl
 ·have c:¬ (k:Int)<(a1.length:Int):=c
  show ((a1.take k).flatMap dV,())=(a1.flatMap dV,())
  rw [List.take_of_length_le (by omega)]
theorem KN (l:List Ar) (r:Int):∀ (out:List Int),∃ t,nU l r out=out++t∧t.length≤l.length∧∀ x∈t,x∈l.map fun a=>a.1.2.1:=by
 unfold nU
 induction l with
 | nil=>exact fun out=>⟨[],(List.append_nil _).symm,bT _,fun x hx=>by cases hx⟩
 | cons a l ih=>
  intro out;rw [List.foldl_cons]
  obtain ⟨t,h1,h2,h3⟩:=ih (bif decide (a.1.1=r) && !has out a.1.2.1 then out++[a.1.2.1] else out)
  rw [h1]
  cases decide (a.1.1=r) && !has out a.1.2.1 with
  | false=>exact ⟨t,rfl,Nat.le_succ_of_le h2,fun x hx=>kE _ (h3 x hx)⟩
  | true=>
   refine ⟨a.1.2.1::t,by show (out++[a.1.2.1])++t=_;rw [List.append_assoc];rfl,by rw [lD,lD];omega,fun x hx=>?_⟩
   rcases lC hx with rfl | hx
   ·exact uD ..
   ·exact kE _ (h3 x hx)
theorem X3 (l:List Ar) (a:Ar) (r:Int) (out:List Int):nU (l++[a]) r out=bif decide (a.1.1=r) && !has (nU l r out) a.1.2.1 then nU l r out++[a.1.2.1] else nU l r out:=by
 unfold nU;rw [List.foldl_append];rfl
theorem ak3 {m:BM} {l:List Int} {x:Int} (h:∀ y,mb m y=has l y):(Go.dw.cZ (.int .i64) .bool m x)=has l x:=h x
theorem Qq (l:List Int) (x y:Int):has (l++[x]) y=(decide (x=y) || has l y):=by
 unfold has;rw [List.any_append,Bool.or_comm];simp
theorem afG {l:List Ar} (hl:l.length≤2000) {lV:List Int} {i:Nat} {m0:BM} (hi:i<lV.length) (ho:lV.length≤2001) (hm:∀ y,mb m0 y=has lV y) :
 iA (Loop (@MN l ((i:Int),(m0,(lV,())))) (lV,(m0,(0,())))) (fun y=>∃ m,y=(nU l (lV.getD i 0) lV,(m,()))∧∀ x,mb m x=has (nU l (lV.getD i 0) lV) x):=by
 refine bH l.length (fun s=>s.2.2.1) (fun s=>s.1=nU (l.take s.2.2.1.toNat) (lV.getD i 0) lV∧∀ x,mb s.2.1 x=has s.1 x) rfl ⟨rfl,hm⟩ ?_
 rintro ⟨out,m,j,⟨⟩⟩ k hk hle ⟨i1,i2⟩;obtain rfl:j=k:=hk;have i1:out=nU (l.take k) (lV.getD i 0) lV:=i1
 have i2:∀ x,mb m x=has out x:=i2
 obtain ⟨t,h1,h2,h3⟩:=KN (l.take k) (lV.getD i 0) lV
 have h2:t.length≤2000:=by rw [List.length_take] at h2;omega
 have eo:out=lV++t:=i1.trans h1
 have hlen:out.length≤4001:=by rw [eo,nP];omega
 have ZA:i<out.length:=by rw [eo,nP];omega
 have eg:out.getD i 0=lV.getD i 0:=by
  rw [eo,iW,List.getElem?_append_left hi,←iW]
 unfold MN;simp only [fQ,jd]
 refine aF (fun c=>aK (by omega) c ?_) fun c=>ah ⟨m,?_,?_⟩
 ·have c:(k:Int)<(l.length:Int):=c
  have gI:k<l.length:=by omega
  have ek:aR ((k:Int)+1)=(k:Int)+1:=dn (by omega)
  have Lg:∀ z,l.getD k z=l[k]:=fun z=>by rw [iW,iw gI];rfl
  simp only [Lg]
  refine aj (P:=fun y=>y=(decide (l[k].1.1=lV.getD i 0) && !has out l[k].1.2.1,(out,()))) ?_ fun y hy=>?_
  ·refine aK (by omega) (by omega) (iI (by omega) (aF (fun c2=>ah ?_) fun c2=>ah ?_))
   ·rw [eg] at c2
    rw [bL c2,Bool.true_and,ak3 i2]
   ·rw [eg] at c2
    rw [d9 c2,Bool.false_and]
  ·subst hy
   have gG:nU (l.take (k+1)) (lV.getD i 0) lV=bif decide (l[k].1.1=lV.getD i 0) && !has out l[k].1.2.1 then out++[l[k].1.2.1] else out:=by
    rw [List.take_add_one,iw gI,i1];exact X3 _ _ _ _
   refine aj (P:=fun y=>∃ m',y=(m',(nU (l.take (k+1)) (lV.getD i 0) lV,()))∧∀ x,mb m' x=has (nU (l.take (k+1)) (lV.getD i 0) lV) x) ?_ fun y hy=>?_
   ·rw [gG]
    cases decide (l[k].1.1=lV.getD i 0) && !has out l[k].1.2.1 with
    | true=>
     refine jF (by show (out.length+1)*8≤_;omega) (ah ⟨_,rfl,fun x=>?_⟩)
     show mb (mbp m l[k].1.2.1) x=has (out++[l[k].1.2.1]) x;rw [zw,i2,Qq]
    | false=>exact ah ⟨_,rfl,i2⟩
   ·obtain ⟨m',rfl,h4⟩:=hy
    refine ah ⟨gI,ek,?_,h4⟩;show _=nU (l.take (aR ((k:Int)+1)).toNat) (lV.getD i 0) lV
    rw [ek,show ((k:Int)+1).toNat=k+1 by omega]
 ·have c:¬ (k:Int)<(l.length:Int):=c
  rw [List.take_of_length_le (show l.length≤k by omega)] at i1
  rw [←i1]
 ·have c:¬ (k:Int)<(l.length:Int):=c
  rw [List.take_of_length_le (show l.length≤k by omega)] at i1
  rw [←i1];exact i2
theorem VF:∀ {l k:List Int},l.Nodup→(∀ x∈l,x∈k)→l.length≤k.length
 | [],_,_,_=>mY _
 | x::l,k,hn,h=>by
  rw [List.nodup_cons] at hn;have h1:=h x (uD ..)
  have:=VF (k:=k.erase x) hn.2 fun y hy=>(List.mem_erase_of_ne (fun (e:y=x)=>hn.1 (e▸hy))).2 (h y (kE _ hy))
  rw [List.length_erase_of_mem h1] at this;have:=List.length_pos_of_mem h1;rw [lD];omega
theorem afH (a0:yBQ) (a1:Int) (h:(decide (a0.length≤2000))=true):aql a0 a1=some (aA.D6 a0 a1,()):=by
 have hl:=vP h;refine TA ?_;unfold aql
 refine aj (P:=fun y=>y=(xw a0 (a0.length+2) 0 [a1],())) ?_ fun y hy=>by subst hy;exact ah rfl
 refine iq (fun s=>∃ (f i:Nat),s.1=(i:Int)∧f+i=a0.length+2∧xw a0 f i s.2.2.1=xw a0 (a0.length+2) 0 [a1]∧s.2.2.1.Nodup∧(∀ x∈s.2.2.1,x∈a1::a0.map fun a=>a.1.2.1)∧∀ x,mb s.2.1 x=has s.2.2.1 x) (fun s=>a0.length+2 - s.1.toNat) ⟨a0.length+2,0,rfl,rfl,rfl,by show [a1].Nodup;simp,fun x hx=>by rw [List.mem_singleton.1 hx];exact uD ..,fun x=>?_⟩ ?_
 ·show mb (mbp [] a1) x=has [a1] x
  rw [zw,acD,←List.nil_append [a1],Qq];rfl
 ·rintro ⟨i,m,out,⟨⟩⟩ ⟨f,j,h1,h2,h3,h4,h5,h6⟩
  obtain rfl:i=j:=h1;have h4:out.Nodup:=h4
  have h5:∀ x∈out,x∈a1::a0.map fun a=>a.1.2.1:=h5
  have hlen:=VF h4 h5;rw [lD,pJ] at hlen;have h3:xw a0 f j out=_:=h3;unfold Vp;simp only [fQ]
  refine aF (fun c=>?_) fun c=>ah ?_
  ·have c:(j:Int)<(out.length:Int):=c
   have Om:j<out.length:=by omega
   refine aj (afG hl Om (by omega) h6) fun y hy=>?_
   obtain ⟨m',rfl,hm'⟩:=hy
   have ej:aR ((j:Int)+1)=((j+1:Nat):Int):=by
    rw [dn (by omega)]
    try rfl
   obtain ⟨t,q1,q2,q3⟩:=KN a0 (out.getD j 0) out
   refine ah ⟨⟨f - 1,j+1,ej,by omega,?_,VD _ _ _ h4,fun x hx=>?_,hm'⟩,?_⟩
   ·rw [←h3]
    obtain ⟨f',rfl⟩:∃ f',f=f' + 1:=⟨f - 1,by omega⟩
    show xw a0 f' (j+1) (nU a0 (out.getD j 0) out)=xw a0 (f' + 1) j out
    conv=>rhs;unfold xw
    rw [bL Om];rfl
   ·have hx:x∈nU a0 (out.getD j 0) out:=hx
    rw [q1] at hx
    rcases List.mem_append.1 hx with hx | hx
    ·exact h5 x hx
    ·exact kE _ (q3 x hx)
   ·show a0.length+2 - (aR ((j:Int)+1)).toNat<a0.length+2 - ((j:Int)).toNat
    rw [ej];omega
  ·have c:¬ (j:Int)<(out.length:Int):=c
   show (out,())=_;rw [←h3]
   cases f with
   | zero=>rfl
   | succ f=>
    unfold xw
    rw [d9 (show ¬ j<out.length by omega)]
    rfl
theorem M6 {l:List Int} (h:upI l=true):∀ j i,i<j→j<l.length→l.getD i 0<l.getD j 0
 | 0,i,hi,_=>by omega
 | j+1,i,hi,hj=>by
  have hs:l.getD j 0<l.getD (j+1) 0:=vP (List.all_eq_true.1 h j (List.mem_range.2 (by omega)))
  by_cases qO:i=j
  ·rw [qO];exact hs
  ·exact Int.lt_trans (M6 h j i (by omega) (by omega)) hs
theorem acJ {l:List Int} {x:Int} {i:Nat} (hi:i≤l.length) (h1:∀ k,k<i→l.getD k 0<x) (h2:∀ k,i≤k→k<l.length→x≤l.getD k 0):(l.filter fun y=>decide (y<x)).length=i:=by
 have e:l.filter (fun y=>decide (y<x))=l.take i:=by
  conv=>lhs;rw [←List.take_append_drop i l]
  rw [List.filter_append,List.filter_eq_self.2 fun y hy=>?_,List.filter_eq_nil_iff.2 fun y hy=>?_,List.append_nil]
  ·obtain ⟨k,hk,rfl⟩:=List.mem_iff_getElem.1 hy
   rw [List.length_drop] at hk
   have:=h2 (i+k) (by omega) (by omega)
   rw [iW,iw (by omega)] at this
   rw [List.getElem_drop];have this:x≤l[i+k]:=this;simp only [mX];omega
  ·obtain ⟨k,hk,rfl⟩:=List.mem_iff_getElem.1 hy
   rw [List.length_take] at hk
   have:=h1 k (by omega)
   rw [iW,iw (by omega)] at this
   rw [List.getElem_take];exact bL this
 rw [e,List.length_take];omega
theorem ak4 (a0:List Int) (a1:Int) (r0:(Ty.sl (.int .i64)).ok a0) (h:(aA.upI a0)=true):g87 a0 a1=some (aA.bsI a0 a1,()):=by
 have hl:=agY r0;refine TA ?_;unfold g87
 refine aj (P:=fun y=>∃ i:Nat,y=((i:Int),())∧i≤a0.length∧(∀ k,k<i→a0.getD k 0<a1)∧∀ k,i≤k→k<a0.length→a1≤a0.getD k 0) ?_ fun y hy=>?_
 ·refine iq (fun s=>∃ i j:Nat,s=((j:Int),((i:Int),()))∧i≤j∧j≤a0.length∧(∀ k,k<i→a0.getD k 0<a1)∧∀ k,j≤k→k<a0.length→a1≤a0.getD k 0) (fun s=>s.1.toNat - s.2.1.toNat) ⟨0,a0.length,rfl,mY _,bT _,fun k hk=>absurd hk (Nat.not_lt_zero _),fun k h1 h2=>absurd h2 (by omega)⟩ ?_
  rintro s ⟨i,j,rfl,h1,h2,h3,h4⟩
  have e1:aR ((i:Int)+(j:Int))=((i+j:Nat):Int):=by rw [jm (by omega) (by omega)];omega
  have e2:IntKind.wrap .u64 ((i+j:Nat):Int)=((i+j:Nat):Int):=wu64 (by omega) (by omega)
  have e3:(((i+j:Nat):Int)).fdiv 2=(((i+j) / 2:Nat):Int):=by
   rw [Int.fdiv_eq_ediv_of_nonneg _ (by omega)]
   omega
  have e4:aR (((i+j) / 2:Nat):Int)=(((i+j) / 2:Nat):Int):=jm (by omega) (by omega)
  have e5:aR ((((i+j) / 2:Nat):Int)+1)=(((i+j) / 2+1:Nat):Int):=by rw [jm (by omega) (by omega)];omega
  unfold ab1;simp only [e1,e2,e3,e4,e5,jd,fQ]
  refine aF (fun c=>aK (by omega) ?_ (aj (P:=fun y=>y=(decide (a0.getD ((i+j) / 2) 0<a1),())) (ah rfl) fun y hy=>?_)) fun c=>ah ⟨i,rfl,by omega,h3,fun k hk=>h4 k ?_⟩
  ·have c:(i:Int)<(j:Int):=c
   omega
  ·have c:(i:Int)<(j:Int):=c
   subst hy
   by_cases hc:a0.getD ((i+j) / 2) 0<a1
   ·rw [bL hc]
    refine ah ⟨⟨(i+j) / 2+1,j,rfl,by omega,h2,fun k hk=>?_,h4⟩,?_⟩
    ·by_cases lX:k=(i+j) / 2
     ·rw [lX];exact hc
     ·exact Int.lt_trans (M6 h ((i+j) / 2) k (by omega) (by omega)) hc
    ·show ((j:Int)).toNat - (((i+j) / 2+1:Nat):Int).toNat<((j:Int)).toNat - ((i:Int)).toNat
     omega
   ·rw [d9 hc]
    refine ah ⟨⟨i,(i+j) / 2,rfl,by omega,by omega,h3,fun k hk lX=>?_⟩,?_⟩
    ·by_cases hk3:k=(i+j) / 2
     ·rw [hk3];omega
     ·have:=M6 h k ((i+j) / 2) (by omega) lX
      omega
    ·show (((i+j) / 2:Nat):Int).toNat - ((i:Int)).toNat<((j:Int)).toNat - ((i:Int)).toNat
     omega
  ·have c:¬ (i:Int)<(j:Int):=c
   omega
 ·obtain ⟨i,rfl,h1,h2,h3⟩:=hy
  have hf:=acJ h1 h2 h3
  have aaH:(bsI a0 a1,())=((((i:Int),has a0 a1,()),()):(Int×Bool×Unit)×Unit):=by
   unfold bsI;rw [hf]
  rw [aaH];simp only [jd,fQ]
  refine aj (P:=fun y=>y=(has a0 a1,((i:Int),()))) ?_ fun y hy=>by subst hy;exact ah rfl
  refine aF (fun c=>aK (by omega) c (eH (fun c2=>aK (by omega) c (aj (P:=fun y=>y=(false,())) ?_ fun y hy=>?_)) fun c2=>ah ?_)) fun c=>ah ?_
  ·unfold ae6 aoO
   exact ah (by rw [bL rfl];rfl)
  ·subst hy
   refine bX (fun c=>by cases c) fun _=>ah ?_
   have c:(i:Int)<(a0.length:Int):=c
   have hn:has a0 a1=false:=by
    cases hh:has a0 a1 with
    | false=>rfl
    | true=>
     obtain ⟨k,hk,lX⟩:=List.mem_iff_getElem.1 (HZ.1 hh)
     have hg:a0.getD k 0=a1:=by rw [iW,iw hk];exact lX
     exfalso
     by_cases FN:k<i
     ·have:=h2 k FN;omega
     ·by_cases hke:k=i
      ·subst hke;exact c2 hg
      ·have q1:=M6 h k i (by omega) hk
       have q2:=h3 i (bT _) (by omega)
       omega
   rw [hn]
  ·have c:(i:Int)<(a0.length:Int):=c
   have hh:has a0 a1=true:=HZ.2 (by rw [←c2];exact gK (by omega))
   rw [hh]
  ·have c:¬ (i:Int)<(a0.length:Int):=c
   have hn:has a0 a1=false:=by
    cases hh:has a0 a1 with
    | false=>rfl
    | true=>
     obtain ⟨k,hk,lX⟩:=List.mem_iff_getElem.1 (HZ.1 hh)
     have hg:a0.getD k 0=a1:=by rw [iW,iw hk];exact lX
     have:=h2 k (by omega)
     omega
   rw [hn]
open Go.RowKit
theorem afI:(Tryz.prog.info? 134).map (fun i=>(i.zero,i.size,i.bytes))=some (some (.agg #[.int .i64 0,.int .i64 0,.int .i64 0,.int .i64 0]),4,32):=by kernel_rfl
def H6 (h:List Ad):List Value:=h.flatMap fun x=>[.int .i64 x.1,.int .i64 x.2.1,.int .i64 x.2.2.1,.int .i64 x.2.2.2.1]
structure vJ (w:World) (base vb:Nat) (n:Int) (v:Value) (h:List Ad):Prop where
 lt:vb<base
 le:base≤w.heap.size
 var:w.heap[vb]? = some (.cells #[.int .i64 n,v] 31 (0,0))
 row:w.ownsRow base 134 4 v h.length (H6 h)
theorem vJ.below {w w':World} {base vb:Nat} {n:Int} {v:Value} {h:List Ad} (R:vJ w base vb n v h) (hk:Below w.heap.size w w'):vJ w' base vb n v h:=by
 obtain ⟨aT,hle,hv,fP⟩:=R;refine ⟨aT,gX hle hk.size,(hk.block vb (lt_of_block hv)).trans hv,fP.1,?_⟩
 rcases fP.2 with h | ⟨g,cap,cur,e1,e2,e3,e4⟩
 ·exact .inl h
 ·exact .inr ⟨g,cap,cur,e1,e2,(hk.block g (lt_of_block e3)).trans e3,e4⟩
theorem vJ.own {w:World} {base vb:Nat} {n:Int} {v:Value} {h:List Ad} (R:vJ w base vb n v h) {g:Nat} (hg:v.ownBlock=some g):base≤g∧g<w.heap.size:=by
 rcases R.row.2 with ⟨rfl,_⟩ | ⟨g',cap,cur,rfl,e2,e3,e4⟩
 ·simp [Value.ownBlock] at hg
 ·simp only [Value.ownBlock,bn] at hg
  subst hg;exact ⟨e2,lt_of_block e3⟩
theorem wX {w:World} {b:Nat} {x v:Value} {t:TypeId} (h:w.heap[b]? = some (.cells #[x,v] t (0,0))):w.cell? ⟨b,0,none⟩=some x:=by simp [World.cell?,h]
theorem oG {w:World} {b:Nat} {x v:Value} {t:TypeId} (h:w.heap[b]? = some (.cells #[x,v] t (0,0))):w.cell? ⟨b,1,none⟩=some v:=by simp [World.cell?,h]
theorem X4 {w:World} {b:Nat} {x v:Value} {t:TypeId} (h:w.heap[b]? = some (.cells #[x,v] t (0,0))):w.frozen? ⟨b,0,none⟩=false:=by simp [World.frozen?,h]
theorem wY {w:World} {b:Nat} {x v:Value} {t:TypeId} (h:w.heap[b]? = some (.cells #[x,v] t (0,0))):w.frozen? ⟨b,1,none⟩=false:=by simp [World.frozen?,h]
theorem Bv {w:World} {b:Nat} {x v u:Value} {t:TypeId} (h:w.heap[b]? = some (.cells #[x,v] t (0,0))):(w.setCell ⟨b,1,none⟩ u).heap[b]? = some (.cells #[x,u] t (0,0)):=by
 have aT:=lt_of_block h
 have h':w.heap[b] = .cells #[x,v] t (0,0):=by simpa [Array.getElem?_eq_getElem aT] using h
 show (w.heap.modify b _)[b]? = _
 rw [Array.getElem?_eq_getElem (by simpa using aT),Array.getElem_modify_self,h']
 rfl
theorem Jl (w:World) (x y z u:Value) (t:TypeId):∀ j q,[x,y,z,u][j]? = some q→(w.alloc (.cells #[x,y,z,u] t)).cell? ((⟨w.heap.size,0,none⟩:Addr).add j)=some q:=by
 intro j q hj
 match j,hj with
 | 0,hj=>simp at hj;subst hj;simp [Addr.add]
 | 1,hj=>simp at hj;subst hj;simp [Addr.add]
 | 2,hj=>simp at hj;subst hj;simp [Addr.add]
 | 3,hj=>simp at hj;subst hj;simp [Addr.add]
theorem aqH (a b c d:Int):∀ u∈[Value.int .i64 a,Value.int .i64 b,Value.int .i64 c,Value.int .i64 d],u.oneCell' = true:=by
 intro u hu;simp only [List.mem_cons,List.not_mem_nil,or_false] at hu
 rcases hu with rfl | rfl | rfl | rfl<;>rfl
theorem DU {w:World} {base e size n:Nat} {v:Value} {xs:List Value} (h:w.ownsRow base e size v n xs):∃ p c,v = .slice p n c:=by
 rcases h.2 with ⟨h,h2⟩ | ⟨g,cap,cur,rfl,_⟩
 ·exact ⟨none,0,by rw [h,h2]⟩
 ·exact ⟨_,_,rfl⟩
theorem wZ {w:World} {base vb:Nat} {n:Int} {v:Value} {h:List Ad} (R:vJ w base vb n v h) (hn:h.length<100000) {a b c:Int} :
 Calls Tryz.prog 82 #[.int .i64 a,.int .i64 b,.int .i64 c,.pointer (some ⟨vb,0,none⟩)] w fun e w'=>
  e = .returned (.tuple #[])∧∃ v',vJ w' base vb n v' (h++[((h.length:Int),a,b,c,())])∧kD w w' vb v v':=by
 have apv:∀ k,v.ownBlock=some k→k<w.heap.size:=fun k hk=>(R.own hk).2
 obtain ⟨aT,hle,hv,fP⟩:=R;obtain ⟨i0,hi,Lr,Iu,Wq⟩:=info_parts afI;have Q5:=lt_of_block hv;obtain ⟨p0,c0,hvv⟩:=DU fP;have cV:=oG hv;have cV0:=wX hv;have fV:=wY hv
 have c2:∀ j u,[Value.int .i64 (h.length:Int),Value.int .i64 a,Value.int .i64 b,Value.int .i64 c][j]? = some u→(w.alloc (.cells #[.int .i64 (h.length:Int),.int .i64 a,.int .i64 b,.int .i64 c] 134)).cell? ((⟨w.heap.size,0,none⟩:Addr).add j)=some u:=Jl w _ _ _ _ 134
 have fC:some vb≠v.ownBlock:=by
  rcases fP.2 with ⟨rfl,_⟩ | ⟨g,cap,cur,rfl,hg,_⟩
  ·simp [Value.ownBlock]
  ·simp only [Value.ownBlock,ne_eq,bn]
   omega
 have Ll:(w.alloc (.cells #[.int .i64 (h.length:Int),.int .i64 a,.int .i64 b,.int .i64 c] 134)).heap[vb]? = some (.cells #[.int .i64 n,v] 31 (0,0)):=(heap_alloc_old w _ Q5).trans hv;subst hvv
 go_enter Tryz.func82,Tryz.ntmps82
 go_wp2_with (first
  | (at_builtin;refine wpList_append_own_at _ rfl _ _ 29 rfl base 134 i0 _ 4 32 Tryz.underlying29 hi Lr Iu Wq rfl (by decide) _ _ _ rfl (fP.alloc _) ⟨w.heap.size,0,none⟩ 1 1 [.int .i64 (h.length:Int),.int .i64 a,.int .i64 b,.int .i64 c] rfl rfl c2 (aqH _ a b c) (by unfold maxLen;omega) (by omega) (by simp;omega) ?_;intro v' w3 AV jY yh Mw;have mF:World.grownBy _ w3 (Value.slice p0 h.length c0).ownBlock:=jY;have aby:_∨_:=Mw;clear yh Mw jY;obtain ⟨p9,c9,rfl⟩:=tJ AV;have NR:=(mF.block vb (by simp;omega) fC).trans Ll;have cV3:=oG NR;have fV3:=wY NR;have A:Aside (_∧World.grownBy _ w3 (Value.slice p0 h.length c0).ownBlock∧_∧(_=(Value.slice p0 h.length c0).ownBlock∨_)):=⟨AV,mF,NR,aby⟩;clear AV mF NR aby))
 go_end0
 obtain ⟨PK,hg,NR,ajC⟩:=A.out;refine ⟨rfl,_,⟨aT,?_,Bv NR,?_⟩,?_,?_⟩
 ·have:=hg.size
  simp only [World.size_alloc] at this;simp only [World.size_setCell];omega
 ·have hl:(h++[((h.length:Int),a,b,c,())]).length=h.length+1:=by simp
  have hf:H6 (h++[((h.length:Int),a,b,c,())])=H6 h++[Value.int .i64 (h.length:Int),Value.int .i64 a,Value.int .i64 b,Value.int .i64 c]:=by simp [H6]
  rw [hl,hf]
  rcases PK.2 with ⟨h0,_⟩ | ⟨g,cap,cur,e1,e2,e3,e4⟩
  ·cases h0
  ·exact ⟨PK.1,.inr ⟨g,cap,cur,e1,e2,(Below.heap_setCell _ _ _ _ (by show g≠vb;omega)).trans e3,e4⟩⟩
 ·intro g Gq
  rcases ajC with h1 | h1
  ·exact .inl (h1.symm.trans Gq)
  ·rw [h1] at Gq
   simp only [World.size_alloc,bn] at Gq
   exact .inr (by omega)
 ·refine ⟨hg.os,hg.tape,hg.output,?_,fun k hk hX=>?_⟩
  ·have:=hg.size
   simp only [World.size_alloc] at this;simp only [World.size_setCell];omega
  ·rw [Below.heap_setCell _ _ _ _ (fun hh=>hX (.inl hh))]
   rw [hg.block k (by simp;omega) (fun hh=>hX (.inr hh.symm)),heap_alloc_old _ _ hk]
open Go.Sort Go.Shelf
theorem kS (l:List Ar):(fO l).Perm l:=lu aqa l
theorem flat_get (d:Array Ar) (j:Nat) (hj:j<d.size) (q:Nat) (hq:q<3):(flatK lU 3 d)[j*3+q]! = (lU d[j]!)[q]!:=by
 rw [get_flatK lU 3 d (j*3+q) (by omega),show (j*3+q) / 3=j by omega,show (j*3+q)%3=q by omega]
theorem ak6 {w:World} {G:Nat→Nat} {l:List Ar} {b:Nat} (hr:fA w G Ki l b 0) (hm:Room w b (l.length*3)):HoldsK lU 3 w b 0 l.toArray:=by
 intro j hj;rw [size_flatK] at hj
 have hj:j<l.length*3:=by simpa using hj
 refine ⟨?_,(hm.some (j:=0+j) (by omega)).2⟩
 have hi:j / 3<l.length:=by omega
 obtain ⟨⟨h1,h2,-⟩,h3,-⟩:=hr (j / 3) hi
 have f:=flat_get l.toArray (j / 3) (by simpa using hi) (j%3) (by omega)
 have hd:l.toArray[j / 3]! = l[j / 3]:=by
  rw [getElem!_pos l.toArray (j / 3) (by simpa using hi)]
  simp
 rw [hd,show j / 3*3+j%3=j by omega] at f
 rw [f];unfold lU
 rcases (by omega:j%3=0∨j%3=1∨j%3=2) with h | h | h
 ·rw [h,show 0+j=0+j / 3*3 by omega];exact h1.1
 ·rw [h,show 0+j=0+j / 3*3+1 by omega];exact h2.1
 ·rw [h,show 0+j=0+j / 3*3+2 by omega];exact h3.1
theorem X5 {w:World}:Calls Tryz.prog 140 #[.slice none 0 0,.func (.func 141) #[] #[]] w fun e w'=>e = .returned (.tuple #[])∧w' = w:=
 AnyF.slices_SortFunc_none (P:=Tryz.prog) (ρ:=zn) abU none 0 (.func (.func 141) #[] #[]) w
theorem X6 {dst st:Nat} {l:List (D×D)} {g:Bool} {u:St} (h:UY dst st l=some (g,u)):∃ X s2 r,l=[(.fU X s2,.aX s2 true false Ki r),(.BG 141,(l.getD 1 (.undef,.undef)).2)]∧g=true ∧
 u=[(2*X+1,.aX s2 true false Ki (fO r)),(2*dst,.undef)]:=by
 unfold UY at h;split at h
 ·rename_i X sx s2 r z
  cases hb:Nat.beq sx s2 with
  | false=>rw [hb] at h;cases h
  | true=>
   rw [hb] at h;have:=fD hb;subst this;simp only [aQ,bn,gD] at h;exact ⟨X,sx,r,rfl,h.1.symm,h.2.symm⟩
 ·cases h
theorem aqI {α β:Type} {f:α→β} {l:List α} {a b:β} (h:l.map f=[a,b]):∃ x y,l=[x,y]∧f x=a∧f y=b:=by
 match l,h with
 | [x,y],h=>simp at h;exact ⟨x,y,rfl,h⟩
 | [],h=>simp at h
 | [_],h=>simp at h
 | _::_::_::_,h=>simp at h
theorem Qr {E:Env} {C:Ctx} {s:St} {a:Act} {w:World} {G:Nat→Nat} {pt:Nat→Nat→Option Value} (R:Rel E C s a w G pt) (os:Array Obj) (o:Oper) (t:Nat) (iN:o.dst=some t) (ht:t<E.n) (v:Value) :
 Rel E C ((2*t,.undef)::s) (a.put o.dst v) (grow w os) G pt:=by
 have h:=R.put o (fun u hu=>by rw [iN] at hu;cases hu;exact ht) (w':=grow w os) (G':=G) (d':=.undef) (v':=v) (fun _=>False)
  ⟨fun b j hj=>by
   have hb:b<w.heap.size:=by
    rcases Nat.lt_or_ge b w.heap.size with h | h
    ·exact h
    ·rw [R.gz b h] at hj;exact absurd hj (by omega)
   unfold World.cell? grow;simp only
   rw [Array.getElem?_append_left hb],fun _=>bT _⟩
  (fun b _ hb=>⟨by show (w.heap++os)[b]? = _;rw [Array.getElem?_append_left hb],rfl⟩) (fun b h=>h.elim) trivial (fun b=>by
   rw [dX]
   exact ⟨mY _,fun h=>absurd h (by omega)⟩) (fun b hb=>R.gz b (by
    have:(grow w os).heap.size=w.heap.size+os.size:=by show (w.heap++os).size=_;rw [Array.size_append]
    omega)) rfl rfl rfl (by show w.heap.size≤(w.heap++os).size;rw [Array.size_append];omega)
 rw [kV iN] at h;exact h
theorem afJ:OX Tryz.prog B.glob 140 UY:=by
 intro E C o cl s a w G pt t u _ hm ht iN aY qF R hx;obtain ⟨X,s2,r,hl,-,hu⟩:=X6 hx;subst hu;obtain ⟨x0,x1,iM,e0,e1⟩:=aqI hl;have p0:aV s x0 = .fU X s2:=congrArg Prod.fst e0;have q0:Dn s (aV s x0) = .aX s2 true false Ki r:=congrArg Prod.snd e0;have p1:aV s x1 = .BG 141:=congrArg Prod.fst e1;rw [p0] at q0;have q0:get s (2*X+1) = .aX s2 true false Ki r:=q0;have r0:=aJ R x0;rw [p0] at r0;have r1:=aJ R x1;rw [p1] at r1;have r0:pt X s2=some (a.eval x0):=r0;have r1:a.eval x1 = .func (.func 141) #[] #[]:=r1;have hB:=R.bx X;rw [q0] at hB;have hB:=hB rfl;simp only [xD,if_false] at hB;obtain ⟨ad,n,c,h1,hn,oN,kW⟩:=hB
 have hv:a.eval x0 = .slice ad n c:=by rw [r0] at h1;exact Option.some.inj h1
 intro K Q hK
 have bB:=mG (a:=a) (w:=w) aY qF Tryz.func140 (by decide) (by kernel_rfl)
 unfold Oper.wp;rw [bB,Oper.upon_enter]
 have ha:cl.args.map a.eval = #[.slice ad n c,.func (.func 141) #[] #[]]:=by
  apply Array.ext';rw [Array.toList_map,iM];simp only [jy,List.map_nil,hv,r1]
 rw [ha]
 have qD:∀ {w':World} (R':Rel E C ((2*X+1,.aX s2 true false Ki (fO r))::s) a w' G pt) (n:Nat) (os:Array Obj),
  Rel E C (au [(2*X+1,.aX s2 true false Ki (fO r)),(2*t,.undef)] s) (a.put o.dst (.tuple #[])) (grow (Go.Sort.ahead w' n) os) G pt:=by
  intro w' R' n os;exact Qr (R'.world (w':=Go.Sort.ahead w' n) rfl rfl rfl rfl) os o t iN ht _
 rcases kW with ⟨h5,h6,h7⟩ | ⟨b,h5,h6,h7,h8,h9,QF⟩
 ·subst h5 h7
  have h6:r=[]:=h6;subst h6;have hn:n=0:=hn;subst hn;refine (X5).mono ?_;rintro e w' ⟨rfl,rfl⟩;have e0:fO []=[]:=(kS []).eq_nil
  have R1:Rel E C ((2*X+1,.aX s2 true false Ki (fO []))::s) a w' G pt:=by
   rw [e0]
   refine R.congr fun k=>?_
   rw [aD];split
   ·rename_i hk;rw [hk,q0]
   ·rfl
  have R2:=qD R1 0 #[]
  rw [show grow (Go.Sort.ahead w' 0) #[]=w' from by rw [grow_empty];rfl] at R2
  exact hK _ _ _ _ R2
 ·subst h5
  have hn:n=r.length:=hn;subst hn;have oN:r.length*24≤140737488355328:=oN
  have jr:Room w b (r.length*3):=by
   obtain ⟨cur,e,fr,k1,k2,k3⟩:=h7;exact ⟨cur,e,fr,k1,gX (zF _ h8) k2,k3⟩
  have hblk:bE (pt X s2)=some b:=by rw [h1];rfl
  have yj:b<w.heap.size:=by
   obtain ⟨cur,e,fr,k1,-,-⟩:=h7
   rcases Nat.lt_or_ge b w.heap.size with h | h
   ·exact h
   ·rw [Array.getElem?_eq_none h] at k1;cases k1
  refine (Ta (ak6 h9 jr) yj (by omega)).mono ?_
  rintro e w' ⟨rfl,q,os,rfl⟩;have hlen:(fO r).length=r.length:=(kS r).length_eq
  have Q5:(flatK lU 3 (fO r).toArray).toList.length=r.length*3:=by simp [hlen]
  have R1:=R.FM (t:=Ki) (l:=r) (off:=0) (vs:=(flatK lU 3 (fO r).toArray).toList) (l':=fO r) q0 hblk hlen (by
   intro i hi;have hi:i<(fO r).length:=hi
   have hd:(fO r).toArray[i]! = (fO r)[i]:=by
    rw [getElem!_pos (fO r).toArray i (by simpa using hi)]
    simp
   have eU:(flatK lU 3 (fO r).toArray).size=r.length*3:=by simp [hlen]
   have lG:(fO r)[i]∈r:=(kS r).subset (zG _);obtain ⟨k,hk,hke⟩:=List.getElem_of_mem lG;obtain ⟨⟨g1,g2,-⟩,g3,-⟩:=h9 k hk
   have gy:∀ j,j<r.length*3→(w.setCells b 0 (flatK lU 3 (fO r).toArray).toList).cell? ⟨b,0+j,none⟩=some (flatK lU 3 (fO r).toArray)[j]!:=by
    intro j hj
    rw [sI jr _ (by omega) (j:=j) (by rw [Q5];exact hj)]
    rw [getElem!_pos _ j (by rw [eU];exact hj)]
    simp
   have cc:∀ q,q<3→(w.setCells b 0 (flatK lU 3 (fO r).toArray).toList).cell? ⟨b,0+(i*3+q),none⟩=some ((lU (fO r)[i])[q]!):=by
    intro q hq;have aT:i<(fO r).length:=hi
    rw [gy (i*3+q) (by omega),flat_get (fO r).toArray i (by simpa using hi) q hq,hd]
   have c0:=cc 0 (by omega)
   have c1:=cc 1 (by omega)
   have c2:=cc 2 (by omega)
   refine ⟨⟨⟨?_,?_⟩,⟨?_,?_⟩,trivial⟩,⟨?_,?_⟩,trivial⟩
   ·show World.cell? _ ⟨b,0+i*3,none⟩=_
    rw [show 0+i*3=0+(i*3+0) by omega];exact c0
   ·have:=g1.2;rw [hke] at this;exact this
   ·show World.cell? _ ⟨b,0+i*3+1,none⟩=_
    rw [show 0+i*3+1=0+(i*3+1) by omega];exact c1
   ·have:=g2.2;rw [hke] at this;exact this
   ·show World.cell? _ ⟨b,0+i*3+2,none⟩=_
    rw [show 0+i*3+2=0+(i*3+2) by omega];exact c2
   ·have:=g3.2;rw [hke] at this;exact this)
  exact hK _ _ _ _ (qD R1 q os)
theorem awD (w:World):Calls Tryz.prog 164 #[.int .u64 0] w fun e w'=>e = .returned (.int .i64 0)∧w' = w:=by
 have h:=Any.bits_Len (SlLaysF0.n15.bits (P:=Tryz.prog) (ρ:=tL) { SL with }) 0 w (by omega) (by omega)
 refine Calls.mono h ?_;rintro e w' ⟨rfl,rfl⟩;exact ⟨rfl,rfl⟩
theorem ak7 (w:World):Calls Tryz.prog 180 #[.slice none 0 0,.int .i64 0,.int .i64 0] w fun e w'=>e = .returned (.tuple #[])∧w' = w:=by
 go_enter Tryz.func180,Tryz.ntmps180
 go_wp2
 go_loopg [6] 0 (fun _ v6 wr=>v6 = .int .i64 1∧wr=w)
 case atStart=>exact ⟨rfl,rfl⟩
 case round=>
  obtain ⟨rfl,rfl⟩:=hrel
  go_wp2
  go_end0
  exact ⟨rfl,rfl⟩
theorem ak8 (w:World):Calls Tryz.prog 163 #[.slice none 0 0,.int .i64 0,.int .i64 0,.int .i64 0] w fun e w'=>e = .returned (.tuple #[])∧w' = w:=by
 go_enter Tryz.func163,Tryz.ntmps163
 go_wp2
 go_loopg [1,2] 0 (fun _ v1 v2 wr=>v1 = .int .i64 0∧v2 = .int .i64 0∧wr=w)
 case atStart=>exact ⟨rfl,rfl,rfl⟩
 case round=>
  obtain ⟨rfl,rfl,rfl⟩:=hrel
  go_wp2_with (first
   | (go_at_call 180;refine (ak7 _).mono ?_;rintro e w1 ⟨rfl,rfl⟩))
  refine bodyPost_ret (results_none rfl _ _ _) (by rfl) ?_
  exact ⟨rfl,rfl⟩
theorem X7 {w:World}:Calls Tryz.prog 111 #[.slice none 0 0] w fun e w'=>e = .returned (.tuple #[])∧w' = w:=by
 go_enter Tryz.func111,Tryz.ntmps111
 go_wp2_with (first
  | (go_at_call 164;refine (awD _).mono ?_;rintro e w1 ⟨rfl,rfl⟩)
  | (go_at_call 163;refine (ak8 _).mono ?_;rintro e w1 ⟨rfl,rfl⟩))
 go_end0
 exact ⟨rfl,rfl⟩
theorem X8 {dst st:Nat} {l:List (D×D)} {g:Bool} {u:St} (h:UW dst st l=some (g,u)):∃ X s2 r,l=[(.fU X s2,.aX s2 true false (.int .i64) r)]∧g=true ∧
 u=[(2*X+1,.aX s2 true false (.int .i64) (fF r)),(2*dst,.undef)]:=by
 unfold UW at h;split at h
 ·rename_i X sx s2 r
  cases hb:Nat.beq sx s2 with
  | false=>rw [hb] at h;cases h
  | true=>
   rw [hb] at h;have:=fD hb;subst this;simp only [aQ,bn,gD] at h;exact ⟨X,sx,r,rfl,h.1.symm,h.2.symm⟩
 ·cases h
theorem acK {α β:Type} {f:α→β} {l:List α} {a:β} (h:l.map f=[a]):∃ x,l=[x]∧f x=a:=by
 match l,h with
 | [x],h=>
  simp only [jy,List.map_nil,List.cons.injEq,and_true] at h;exact ⟨x,rfl,h⟩
theorem r9 (x:Int) (l:List Int):(D7 x l).Perm (x::l):=by
 induction l with
 | nil=>exact List.Perm.refl _
 | cons y r ih=>
  simp only [D7]
  cases decide (x≤y) with
  | true=>exact List.Perm.refl _
  | false=>exact (List.Perm.cons y ih).trans (List.Perm.swap x y r)
theorem vI (x:Int) (l:List Int) (h:l.Pairwise (·≤·)):(D7 x l).Pairwise (·≤·):=by
 induction l with
 | nil=>simp [D7]
 | cons y r ih=>
  obtain ⟨h1,h2⟩:=List.pairwise_cons.1 h;simp only [D7]
  by_cases hx:x≤y
  ·rw [bL hx]
   refine List.pairwise_cons.2 ⟨fun z hz=>?_,h⟩
   rcases lC hz with rfl | hz
   ·exact hx
   ·have:=h1 z hz;omega
  ·rw [d9 hx]
   refine List.pairwise_cons.2 ⟨fun z hz=>?_,ih h2⟩
   rcases lC ((r9 x r).mem_iff.1 hz) with rfl | hz
   ·omega
   ·exact h1 z hz
theorem iV (l:List Int):(fF l).Perm l:=by
 induction l with
 | nil=>exact List.Perm.refl _
 | cons x r ih=>exact (r9 x _).trans (List.Perm.cons x ih)
theorem tQ (l:List Int):(fF l).Pairwise (·≤·):=by
 induction l with
 | nil=>exact List.Pairwise.nil
 | cons x r ih=>exact vI x _ ih
theorem Qs (l:List Int):(l.mergeSort fun x y=>decide (x≤y))=fF l:=by
 have h1:(l.mergeSort fun x y=>decide (x≤y)).Pairwise (·≤·):=by
  have:=List.pairwise_mergeSort (le:=fun x y:Int=>decide (x≤y)) (fun a b c h1 h2=>by simp at *;omega) (fun a b=>by simp;omega) l
  exact this.imp fun h=>by simpa using h
 exact List.Perm.eq_of_pairwise (fun a b _ _ h1 h2=>Int.le_antisymm h1 h2) h1 (tQ l) ((List.mergeSort_perm l _).trans (iV l).symm)
def encI (x:Int):List Value:=[.int .i64 x]
theorem H7 {w:World} {G:Nat→Nat} {l:List Int} {b c:Nat} (hr:fA w G (.int .i64) l b 0) (hm:Room w b (l.length*1)) (hb:b<w.heap.size) (eU:l.length<4611686018427387904) :
 Calls Tryz.prog 111 #[.slice (some ⟨b,0,none⟩) l.length c] w fun e w'=>e = .returned (.tuple #[])∧∃ n os,w' = grow (Go.Sort.ahead (w.setCells b 0 ((fF l).map (Value.int .i64))) n) os:=by
 have hH:Holds (Value.int .i64) w b 0 l.toArray:=by
  intro j hj
  have hj:j<l.length:=by simpa using hj
  refine ⟨?_,(hm.some (j:=0+j) (by omega)).2⟩
  have:=(hr j hj).1
  rw [show j*(Ty.int .i64).nc=j from Nat.mul_one j] at this
  rw [getElem!_pos l.toArray j (by simpa using hj)]
  simpa using this
 have h:=Any.slices_Sort_int (P:=Tryz.prog) (ρ:=Ho) akg b 0 c l w hH hb eU;refine Calls.mono h ?_;rintro e w' ⟨rfl,n,os,rfl⟩;refine ⟨rfl,n,os,?_⟩;rw [Qs]
 congr 1
 rw [putRow_ahead]
 congr 1
 have hlen:(fF l).length=l.length:=(iV l).length_eq
 have hfl:∀ d:List Int,(flatK encI 1 d.toArray)=(d.map (Value.int .i64)).toArray:=fun d=>by
  refine Array.ext (by rw [size_flatK];simp) fun t h1 h2=>?_
  have ht:t<d.length:=by simpa using h2
  have:=get_flatK encI 1 d.toArray t (by simpa using ht)
  rw [getElem!_pos _ t h1,show t / 1=t from Nat.div_one t,show t%1=0 from Nat.mod_one t,getElem!_pos d.toArray t (by simpa using ht)] at this
  rw [this];simp [encI]
 have hK:HoldsK encI 1 w b 0 l.toArray:=by
  intro j hj
  have K8:j<l.length:=by rw [size_flatK] at hj;simpa using hj
  obtain ⟨h1,h2⟩:=hH j (by simpa using K8)
  refine ⟨?_,h2⟩;rw [h1]
  congr 1
  show _=id (flatK encI 1 l.toArray)[j]!
  rw [hfl,getElem!_pos l.toArray j (by simpa using K8)]
  show _=(List.map (Value.int .i64) l).toArray[j]!
  rw [getElem!_pos (List.map (Value.int .i64) l).toArray j (by simpa using K8)]
  simp
 have:=Vn (enc:=encI) (k:=1) hK (d':=(fF l).toArray) (by simp [hlen])
 rw [hfl,List.toList_toArray] at this;rw [←this];unfold putRowK;rw [hfl];unfold putRow putCells
 congr 1
 funext c
 congr 1
 funext k x
 have Zw:((fF l).map (Value.int .i64)).toArray.size=(fF l).toArray.size:=by simp
 rw [Zw];split
 ·rename_i hk
  have lX:k - 0<(fF l).toArray.size:=by omega
  rw [getElem!_pos _ (k - 0) lX];show _=id _
  rw [getElem!_pos _ (k - 0) (by rw [Zw];exact lX)]
  simp
 ·rfl
theorem afK:OX Tryz.prog B.glob 111 UW:=by
 intro E C o cl s a w G pt t u _ hm ht iN aY qF R hx;obtain ⟨X,s2,r,hl,-,hu⟩:=X8 hx;subst hu;obtain ⟨x0,iM,e0⟩:=acK hl;have p0:aV s x0 = .fU X s2:=congrArg Prod.fst e0;have q0:Dn s (aV s x0) = .aX s2 true false (.int .i64) r:=congrArg Prod.snd e0;rw [p0] at q0;have q0:get s (2*X+1) = .aX s2 true false (.int .i64) r:=q0;have r0:=aJ R x0;rw [p0] at r0;have r0:pt X s2=some (a.eval x0):=r0;have hB:=R.bx X;rw [q0] at hB;have hB:=hB rfl;simp only [xD,if_false] at hB;obtain ⟨ad,n,c,h1,hn,oN,kW⟩:=hB
 have hv:a.eval x0 = .slice ad n c:=by rw [r0] at h1;exact Option.some.inj h1
 intro K Q hK
 have bB:=mG (a:=a) (w:=w) aY qF Tryz.func111 (by decide) (by kernel_rfl)
 unfold Oper.wp;rw [bB,Oper.upon_enter]
 have ha:cl.args.map a.eval = #[.slice ad n c]:=by
  apply Array.ext';rw [Array.toList_map,iM];simp only [jy,List.map_nil,hv]
 rw [ha]
 have qD:∀ {w':World} (R':Rel E C ((2*X+1,.aX s2 true false (.int .i64) (fF r))::s) a w' G pt) (n:Nat) (os:Array Obj),
  Rel E C (au [(2*X+1,.aX s2 true false (.int .i64) (fF r)),(2*t,.undef)] s) (a.put o.dst (.tuple #[])) (grow (Go.Sort.ahead w' n) os) G pt:=by
  intro w' R' n os;exact Qr (R'.world (w':=Go.Sort.ahead w' n) rfl rfl rfl rfl) os o t iN ht _
 rcases kW with ⟨h5,h6,h7⟩ | ⟨b,h5,h6,h7,h8,h9,QF⟩
 ·subst h5 h7
  have h6:r=[]:=h6;subst h6;have hn:n=0:=hn;subst hn;refine (X7).mono ?_;rintro e w' ⟨rfl,rfl⟩;have e0:fF []=[]:=(iV []).eq_nil
  have R1:Rel E C ((2*X+1,.aX s2 true false (.int .i64) (fF []))::s) a w' G pt:=by
   rw [e0]
   refine R.congr fun k=>?_
   rw [aD];split
   ·rename_i hk;rw [hk,q0]
   ·rfl
  have R2:=qD R1 0 #[]
  rw [show grow (Go.Sort.ahead w' 0) #[]=w' from by rw [grow_empty];rfl] at R2
  exact hK _ _ _ _ R2
 ·subst h5
  have hn:n=r.length:=hn;subst hn;have oN:r.length*8≤140737488355328:=oN
  have jr:Room w b (r.length*1):=by
   obtain ⟨cur,e,fr,k1,k2,k3⟩:=h7;exact ⟨cur,e,fr,k1,gX (zF _ h8) k2,k3⟩
  have hblk:bE (pt X s2)=some b:=by rw [h1];rfl
  have yj:b<w.heap.size:=by
   obtain ⟨cur,e,fr,k1,-,-⟩:=h7
   rcases Nat.lt_or_ge b w.heap.size with h | h
   ·exact h
   ·rw [Array.getElem?_eq_none h] at k1;cases k1
  refine (H7 h9 jr yj (by omega)).mono ?_
  rintro e w' ⟨rfl,q,os,rfl⟩;have hlen:(fF r).length=r.length:=(iV r).length_eq
  have Q5:((fF r).map (Value.int .i64)).length=r.length*1:=by simp [hlen]
  have R1:=R.FM (t:=(.int .i64)) (l:=r) (off:=0) (vs:=((fF r).map (Value.int .i64))) (l':=fF r) q0 hblk hlen (by
   intro i hi;have hi:i<(fF r).length:=hi;have lG:(fF r)[i]∈r:=(iV r).subset (zG _);obtain ⟨k,hk,hke⟩:=List.getElem_of_mem lG;have g1:=(h9 k hk).2
   have gy:(w.setCells b 0 ((fF r).map (Value.int .i64))).cell? ⟨b,0+i,none⟩=some (.int .i64 ((fF r)[i])):=by
    rw [sI jr _ (by omega) (j:=i) (by rw [Q5];omega)]
    simp
   refine ⟨?_,?_⟩
   ·show World.cell? _ ⟨b,0+i*1,none⟩=_
    rw [Nat.mul_one];exact gy
   ·rw [←hke];exact g1)
  exact hK _ _ _ _ (qD R1 q os)
theorem X9 {w:World} {b:Nat} {v:Value} {xs:Array Value} {t:TypeId} (h:w.heap[b]? = some (.cells (#[v]++xs) t (0,0))):w.cell? ⟨b,0,none⟩=some v:=by
 simp only [World.cell?,h];show (#[v]++xs)[0]? = some v
 rw [Array.getElem?_append_left (by simp)]
 rfl
theorem acL {w:World} {q:Int} {b c:Nat} {xs:Array Value} {t:TypeId} (hq:IntKind.i64.has q) (hb:w.heap[b]? = some (.cells (#[.int .i64 q]++xs) t (0,0))) :
 Calls Tryz.prog 111 #[.slice (some ⟨b,0,none⟩) 1 c] w fun e w'=>e = .returned (.tuple #[])∧w'.cell? ⟨b,0,none⟩=some (.int .i64 q)∧aC w w' (fun k=>k=b):=by
 have hc:=X9 hb
 have hr:fA w (fun _=>0) (.int .i64) [q] b 0:=fun i hi=>by
  have:i=0:=by simpa using hi
  subst this;exact ⟨hc,hq⟩
 have jr:Room w b ([q].length*1):=⟨_,t,(0,0),hb,by simp,by simp⟩
 have aT:=lt_of_block hb
 refine (H7 (c:=c) hr jr aT (by show 1<4611686018427387904;decide)).mono ?_
 rintro e w' ⟨rfl,n,os,rfl⟩;have e1:(fF [q]).map (Value.int .i64)=[Value.int .i64 q]:=rfl;rw [e1];obtain ⟨s1,s2,s3,s4,s5,s6⟩:=eY [Value.int .i64 q] w b 0;obtain ⟨FL,k1,k2⟩:=s2 _ t (0,0) hb
 have DR:∀ k,k<w.heap.size→(grow (Go.Sort.ahead (w.setCells b 0 [Value.int .i64 q]) n) os).heap[k]? = (w.setCells b 0 [Value.int .i64 q]).heap[k]?:=fun k hk=>by
  show ((w.setCells b 0 [Value.int .i64 q]).heap++os)[k]? = _
  rw [Array.getElem?_append_left (by rw [s3];exact hk)]
 refine ⟨rfl,?_,s4,s6,s5,?_,fun k hk fC=>(DR k hk).trans (s1 k fC)⟩
 ·have h1:=sI jr (off:=0) [Value.int .i64 q] (by simp) (j:=0) (by simp)
  have h2:(w.setCells b 0 [Value.int .i64 q]).cell? ⟨b,0,none⟩=some (.int .i64 q):=h1;simp only [World.cell?,DR b aT] at h2 ⊢;exact h2
 ·show w.heap.size≤((w.setCells b 0 [Value.int .i64 q]).heap++os).size
  rw [Array.size_append,s3];omega
structure zx (w:World) (lb lo:Nat):Prop where
 c0:w.cell? ⟨lb,lo,none⟩=some (.int .i64 1)
 c1:w.cell? ⟨lb,lo+1,none⟩=some (.int .i64 2)
 c2:w.cell? ⟨lb,lo+2,none⟩=some (.int .i64 3)
 c3:w.cell? ⟨lb,lo+3,none⟩=some (.int .i64 1)
 c4:w.cell? ⟨lb,lo+4,none⟩=some (.int .i64 2)
theorem zx.kept {w w':World} {lb lo:Nat} (h:zx w lb lo) (hB:Below w.heap.size w w'):zx w' lb lo:=
 have k:=aC.of_below hB fun _=>False
 ⟨k.cell h.c0 id,k.cell h.c1 id,k.cell h.c2 id,k.cell h.c3 id,k.cell h.c4 id⟩
theorem newest {w:World} {k:Nat} (hk:w.heap.size=k) (o:Obj):(w.alloc o).drew.heap[k]? = some o:=by
 show (w.heap.push o)[k]? = _;subst hk;simp
theorem TB {w:World} {lb lo c1:Nat} {v0:Value} (hl:zx w lb lo) {id:Int} (hid:id=1∨id=2) :
 Calls Tryz.prog 110 #[.agg #[v0,.slice (some ⟨lb,lo,none⟩) 1 c1],.int .i64 id] w fun e w'=>∃ b c,e = .returned (.slice (some ⟨b,0,none⟩) 1 c)∧w.heap.size≤b∧w'.cell? ⟨b,0,none⟩=some (.int .i64 (3 - id))∧Below w.heap.size w w':=by
 have xB:Below w.heap.size w (w.alloc (.cells #[v0,.slice (some ⟨lb,lo,none⟩) 1 c1] 28)):=(Below.refl _ _).alloc (bT _) _;obtain ⟨k0,k1,k2,k3,k4⟩:=hl.kept xB
 have hq:IntKind.i64.has (3 - id):=by rcases hid with rfl | rfl<;>constructor<;>decide
 go_enter Tryz.func110,Tryz.ntmps110
 go_wp2
 go_loopw [11,5] (fun v11 v5 wr=>(v11 = .int .i64 0∧v5 = .slice none 0 0∧wr=w.alloc (.cells #[v0,.slice (some ⟨lb,lo,none⟩) 1 c1] 28))∨(v11 = .int .i64 1∧∃ b c xs,v5 = .slice (some ⟨b,0,none⟩) 1 c∧w.heap.size≤b∧wr.heap[b]? = some (.cells (#[.int .i64 (3 - id)]++xs) 3 (0,0))∧Below w.heap.size w wr)) (fun v11 _ _=>1 - (RowKit.intOf v11).toNat)
 case atStart=>exact .inl ⟨rfl,rfl,rfl⟩
 case round=>
  rcases hrel with ⟨rfl,rfl,rfl⟩ | ⟨rfl,b,c,xs,rfl,hb,hx,hB⟩
  ·rcases hid with rfl | rfl
   ·go_wp2
    refine ⟨.inr ⟨rfl,_,_,_,rfl,by omega,newest (by simp) _,?_⟩,by decide⟩
    refine Below.drew (Below.alloc (Below.alloc (Below.alloc xB ?_ _) ?_ _) ?_ _)<;>simp only [World.size_alloc]<;>omega
   ·go_wp2
    refine ⟨.inr ⟨rfl,_,_,_,rfl,by omega,newest (by simp) _,?_⟩,by decide⟩
    refine Below.drew (Below.alloc (Below.alloc (Below.alloc xB ?_ _) ?_ _) ?_ _)<;>simp only [World.size_alloc]<;>omega
  ·have hs:=fun c=>acL (c:=c) hq hx
   go_wp2_with (first
    | (go_at_call 111;refine (hs _).mono ?_;rintro e w2 ⟨rfl,zI,hK⟩))
   go_ret
   refine ⟨b,c,rfl,hb,zI,hK.os.trans hB.os,hK.tape.trans hB.tape,hK.output.trans hB.output,gX hB.size hK.size,fun k hk=>(hK.block k (mK hk hB.size) (by omega)).trans (hB.block k hk)⟩
end Go.dw.rO
namespace Go.dw
open Go.ChangeMaps (setBlock)
section
variable {P:Program} {w:World} {b:Nat} {T k e:TypeId} {kt vt:Ty} {l:List (kt.den×vt.den)}
theorem MapAt.ak9 (h:MapAt w b kt vt l) (M:tX P k e kt vt) (ht:P.underlying T=some (.map k e)) {x:kt.den} (hx:kt.ok x) :
 ∃ Wa q l1,(Instr.mapEntry T (.map (some b)) (je kt x)).run P w = .ok (.tuple #[je vt (cZ kt vt l x),q]) Wa∧MapAt Wa b kt vt l1∧cZ kt vt l1 x=cZ kt vt l x:=by
 have h0:=h;obtain ⟨es,clock,hb,h1,h2,h3,h4,h5,hk,hv⟩:=h;have aT:b<w.heap.size:=(E5 hb).1;obtain ⟨kl,pQ⟩:=M.key x hx
 rcases M.keyed.find w pQ es.toList (fun e0 he=>by
  obtain ⟨p,hp,q⟩:=qc h1 he
  rw [q];exact M.key p.1 (h5 p hp).1) with ⟨f1,f2⟩ | ⟨j,e0,f1,f2,f3⟩
 ·have fC:∀ p∈l,p.1≠x:=fun p hp fC=>by
   obtain ⟨e0,q1,q2⟩:=ng h1 hp
   exact f2 e0 q1 (by rw [q2,fC])
  have hg:cZ kt vt l x=vt.dflt:=by simp only [cZ,EF hk fC]
  have hpw:(l++[(x,vt.dflt)]).Pairwise (fun p q=>kt.om p.1 q.1=false):=by
   refine List.pairwise_append.2 ⟨h4,by simp,fun p hp q hq=>?_⟩
   simp only [List.mem_singleton] at hq;subst hq
   cases hc:kt.om p.1 x with
   | false=>rfl
   | true=>exact absurd ((zY hk).1 hc) (fC p hp)
  refine ⟨setBlock w b (.map (es.push ⟨je kt x,je vt vt.dflt,clock⟩) (clock+1)),goInt clock,l++[(x,vt.dflt)],?_,⟨_,_,eZ aT,?_,?_,?_,hpw,?_,hk,hv⟩,?_⟩
  ·rw [hg]
   simp [Instr.mapEntry,run_underlying ht,MapKept.run_getObj_map hb,M.keyed.check w false pQ,f1,M.zero w,MapKept.run_setObj_map _ hb,Result.andThen,setBlock]
  ·rw [Array.toList_push,vO,vO,h1];rfl
  ·rw [Array.toList_push,vO,List.map_singleton]
   refine List.nodup_append.2 ⟨h2,by simp,fun a ha c hc=>?_⟩
   simp only [List.mem_singleton] at hc;obtain ⟨e0,he0,rfl⟩:=List.mem_map.1 ha;have:=h3 e0 he0;omega
  ·intro e0 he
   simp only [Array.toList_push,pV,List.mem_singleton] at he
   rcases he with he | rfl
   ·have:=h3 e0 he;omega
   ·show clock<clock+1
    omega
  ·intro p hp
   rcases List.mem_append.1 hp with hp | hp
   ·exact h5 p hp
   ·simp only [List.mem_singleton] at hp
    subst hp;exact ⟨hx,M.zok⟩
  ·rw [hg]
   have:=wD hk (j:=l.length) (p:=(x,vt.dflt)) hpw (by simp)
   simp only [cZ,this]
 ·obtain ⟨p,q1,q2,q3⟩:=iO h1 f2
  have Yx:=List.mem_of_getElem? q1
  have QZ:p.1=x:=EG hk (h5 p Yx).1 hx (by rw [←q2,f3])
  have Om:j<es.toList.length:=(List.getElem?_eq_some_iff.1 f2).1
  have hj:es[j]? = some e0:=by simpa using f2
  have hg:=wD hk h4 q1;rw [QZ] at hg
  have Lg:cZ kt vt l x=p.2:=by simp only [cZ,hg]
  have FT:(es.modify j (fun e'=>{ e' with key:=je kt x })).toList=es.toList:=by
   rw [Array.toList_modify,Go.ChangeMaps.modify_eq_set _ _ _ _ f2]
   refine List.ext_getElem? fun i=>?_
   rw [List.getElem?_set];split
   ·rename_i qO
    subst qO;simp only [Om,if_true,f2,←f3]
   ·rfl
  have hes:es.modify j (fun e'=>{ e' with key:=je kt x })=es:=Array.ext' FT
  refine ⟨setBlock w b (.map es clock),goInt e0.born,l,?_,h0.same ((eZ aT).trans hb.symm),rfl⟩;rw [Lg,←q3];simp [Instr.mapEntry,run_underlying ht,MapKept.run_getObj_map hb,M.keyed.check w false pQ,f1,hj,f3,M.keyed.stays w pQ,MapKept.run_setObj_map _ hb,Result.andThen,setBlock,hes]
end
end Go.dw
namespace Go.dw.rO
open Go Go.Proofs Go.RowKit aA
open Go.ChangeMaps (setBlock)
theorem _root_.Go.dw.MapAt.vK {w w':World} {b:Nat} {kt vt:Ty} {l:List (kt.den×vt.den)} (h:MapAt w b kt vt l) (hB:Below w.heap.size w w'):MapAt w' b kt vt l:=
 h.same (hB.block b (by obtain ⟨es,c,h1,_⟩:=h;exact (E5 h1).1))
structure zy (w:World) (hb ho:Nat) (l:List Hp):Prop where
 p0:∀ k,k<l.length→w.cell? ⟨hb,ho+k*2,none⟩=some (.int .i64 (l.getD k (0,0,())).1)
 p1:∀ k,k<l.length→w.cell? ⟨hb,ho+k*2+1,none⟩=some (.int .i64 (l.getD k (0,0,())).2.1)
theorem zy.kept {w w':World} {ab ao:Nat} {l:List Hp} (h:zy w ab ao l) {X:Nat→Prop} (hk:aC w w' X) (hX:¬ X ab):zy w' ab ao l:=
 ⟨fun k hl=>hk.cell (h.p0 k hl) hX,fun k hl=>hk.cell (h.p1 k hl) hX⟩
theorem Qt {W:World} {b:Nat} {m:Mp} (hM:MapAt W b wQ (.int .i64) m) {x y r:Int} (hx:IntKind.i64.has x) (hy:IntKind.i64.has y) :
 ∃ (Wa Wb:World) (q:Value),(Instr.mapEntry 138 (.map (some b)) (.agg #[.int .i64 x,.int .i64 y])).run Tryz.prog W = .ok (.tuple #[.int .i64 (mg m (x,y,())),q]) Wa ∧
  (Instr.lookup 138 (.map (some b)) (.agg #[.int .i64 x,.int .i64 y]) false).run Tryz.prog W = .ok (.int .i64 (mg m (x,y,()))) W ∧
  (Instr.lookup 138 (.map (some b)) (.agg #[.int .i64 x,.int .i64 y]) false).run Tryz.prog Wa = .ok (.int .i64 (mg m (x,y,()))) Wa ∧
  (Instr.entryStore 138 (.map (some b)) q (.int .i64 (aR (mg m (x,y,()) - r)))).run Tryz.prog Wa = .ok () Wb ∧
  (Instr.lookup 138 (.map (some b)) (.agg #[.int .i64 x,.int .i64 y]) false).run Tryz.prog Wb = .ok (.int .i64 (mg (mp m (x,y,()) (aR (mg m (x,y,()) - r))) (x,y,()))) Wb ∧
  MapAt Wb b wQ (.int .i64) (mp m (x,y,()) (aR (mg m (x,y,()) - r)))∧aC W Wa (fun c=>c=b)∧aC Wa Wb (fun c=>c=b):=by
 have LX:Ty.ok wQ (x,y,()):=⟨hx,hy,trivial⟩
 have hmg:∀ m:Mp,cZ wQ (.int .i64) m (x,y,())=mg m (x,y,()):=fun m=>by
  unfold cZ mg
  cases Go.dw.iE wQ (.int .i64) m (x,y,())<;>rfl
 obtain ⟨CB,c1,born,hE1,hS1⟩:=hM.entry lJ Tryz.underlying138 (x:=(x,y,())) LX;obtain ⟨Wa,q,l1,hE2,hM1,Uf⟩:=hM.ak9 lJ Tryz.underlying138 (x:=(x,y,())) LX;have aqJ:=hE1.symm.trans hE2;simp only [Result.ok.injEq,Value.tuple.injEq] at aqJ;obtain ⟨hq,hW⟩:=aqJ
 have afL:b<W.heap.size:=by
  obtain ⟨es,clock,hb,_⟩:=hM;exact (E5 hb).1
 have hWb:Wa.heap[b]? = some (.map CB c1):=by rw [←hW];exact eZ afL
 have bK:Ty.ok (.int .i64) (aR (mg m (x,y,()) - r)):=jg _ _;obtain ⟨es2,hE3,WT⟩:=hS1 Wa (aR (mg m (x,y,()) - r)) hWb bK;have l0:=(hM.lookup lJ Tryz.underlying138 (x:=(x,y,())) LX false).1;have la:=(hM1.lookup lJ Tryz.underlying138 (x:=(x,y,())) LX false).1;have lb:=(WT.lookup lJ Tryz.underlying138 (x:=(x,y,())) LX false).1;rw [Uf] at la;have e1:cZ wQ (.int .i64) m (x,y,())=mg m (x,y,()):=hmg m;have e1':cZ hpY (.int .i64) m (x,y,())=mg m (x,y,()):=hmg m;have e2:cZ hpY (.int .i64) (gM hpY (.int .i64) m (x,y,()) (aR (mg m (x,y,()) - r))) (x,y,())=mg (mp m (x,y,()) (aR (mg m (x,y,()) - r))) (x,y,()):=hmg _;rw [e1'] at hE1 l0 la;rw [e2] at lb
 refine ⟨Wa,_,goInt born,by rw [hW] at hE1;exact hE1,l0,la,hE3,lb,WT,?_,?_⟩
 ·rw [←hW];exact ⟨rfl,rfl,rfl,by simp [setBlock],fun c _ hc=>aN hc⟩
 ·exact ⟨rfl,rfl,rfl,by simp [setBlock],fun c _ hc=>aN hc⟩
theorem take_succ (m:Mp) (l:List Hp) (r:Int) (k:Nat) (hk:k<l.length):eX m (l.take (k+1)) r=GN r (eX m (l.take k) r) (l.getD k (0,0,())):=by
 unfold eX;rw [List.take_add_one,List.foldl_append,List.getD,iw hk];rfl
theorem Ya {w:World} {b:Nat} {m:Mp} (hM:MapAt w b wQ (.int .i64) m) {l:List Hp} {p:Option Addr} {hb ho c:Nat} (hl:zy w hb ho l) (fC:hb≠b) (hp:l≠[]→p=some ⟨hb,ho,none⟩) (hlen:l.length≤8796093022208)
 (ME:∀ x∈l,IntKind.i64.has x.1∧IntKind.i64.has x.2.1) {vid:Value} {r:Int} :
 Calls Tryz.prog 57 #[.map (some b),.agg #[vid,.slice p l.length c],.int .i64 r] w fun e w'=>
  e = .returned (.bool (eX m l r).2)∧MapAt w' b wQ (.int .i64) (eX m l r).1∧aC w w' (fun x=>x=b):=by
 have afL:b<w.heap.size:=by
  obtain ⟨es,clock,hb,_⟩:=hM;exact (E5 hb).1
 go_enter Tryz.func57,Tryz.ntmps57
 go_wp2
 go_loopw [7,13] (fun v7 v13 wr=>∃ k:Nat,k≤l.length∧v13 = .int .i64 k∧v7 = .bool (eX m (l.take k) r).2∧MapAt wr b wQ (.int .i64) (eX m (l.take k) r).1∧aC w wr (fun x=>x=b))
  (fun _ v13 _=>l.length - (RowKit.intOf v13).toNat)
 case atStart=>
  exact ⟨0,mY _,rfl,rfl,hM.vK ((Below.refl _ _).alloc (bT _) _),aC.of_below ((Below.refl _ _).alloc (bT _) _) _⟩
 case round=>
  obtain ⟨k,hk,rfl,rfl,hMk,hKk⟩:=hrel
  have i0:(0:Int)≤(k:Int):=by omega
  by_cases gI:(k:Int)<(l.length:Int)
  ·have aT:k<l.length:=by omega
   obtain rfl:=hp (fun h=>by rw [h] at aT;exact absurd aT (Nat.not_lt_zero _))
   have q0:=(hl.kept hKk fC).p0 k aT;have q1:=(hl.kept hKk fC).p1 k aT;have qD:=take_succ m l r k aT
   have yO:IntKind.i64.has (l.getD k (0,0,())).1∧IntKind.i64.has (l.getD k (0,0,())).2.1:=by
    rw [List.getD,iw aT];exact ME _ (zG aT)
   generalize l.getD k (0,0,())=a at q0 q1 qD yO;obtain ⟨x,y,u⟩:=a;simp only at q0 q1 yO;generalize eX m (l.take k) r=s at hMk qD;obtain ⟨m1,f1⟩:=s;simp only at hMk;have Eu:Below wr.heap.size wr (wr.alloc (.cells #[.int .i64 x,.int .i64 y] 44)).drew:=((Below.refl _ _).alloc (bT _) _).drew;have hMd:=hMk.vK Eu;obtain ⟨Wa,Wb,q,hE1,hL0,hLa,hE2,hLb,WT,SG,hK2⟩:=Qt hMd (r:=r) yO.1 yO.2;have hbr:b<wr.heap.size:=mK afL hKk.size;have g0:(wr.alloc (.cells #[.int .i64 x,.int .i64 y] 44)).cell? ⟨wr.heap.size,0,none⟩=some (.int .i64 x):=bV _ _ _ _;have g1:(wr.alloc (.cells #[.int .i64 x,.int .i64 y] 44)).cell? ⟨wr.heap.size,1,none⟩=some (.int .i64 y):=bV _ _ _ _
   have hnb:¬ wr.heap.size=b:=by omega
   have a0:=SG.cell g0 hnb;have a1:=SG.cell g1 hnb;have b0:=hK2.cell a0 hnb;have b1:=hK2.cell a1 hnb;have qD:eX m (l.take (k+1)) r=(mp m1 (x,y,()) (aR (mg m1 (x,y,()) - r)),f1&&decide (0≤mg (mp m1 (x,y,()) (aR (mg m1 (x,y,()) - r))) (x,y,()))):=qD
   have A:Aside (eX m (l.take (k+1)) r=(mp m1 (x,y,()) (aR (mg m1 (x,y,()) - r)),f1&&decide (0≤mg (mp m1 (x,y,()) (aR (mg m1 (x,y,()) - r))) (x,y,())))∧aC w wr (fun x=>x=b)∧Below wr.heap.size wr (wr.alloc (.cells #[.int .i64 x,.int .i64 y] 44)).drew∧aC (wr.alloc (.cells #[.int .i64 x,.int .i64 y] 44)).drew Wa (fun c=>c=b)∧aC Wa Wb (fun c=>c=b) ∧
    MapAt Wb b wQ (.int .i64) (mp m1 (x,y,()) (aR (mg m1 (x,y,()) - r)))):=⟨qD,hKk,Eu,SG,hK2,WT⟩
   clear qD hKk Eu SG hK2 WT hMd hMk hl hM;generalize mg m1 (x,y,())=v0 at *
   have hgy:∃ y1,y1=mg (mp m1 (x,y,()) (aR (v0 - r))) (x,y,()):=⟨_,rfl⟩
   obtain ⟨y1,hy1⟩:=hgy;rw [←hy1] at hLb;have A2:Aside (y1=mg (mp m1 (x,y,()) (aR (v0 - r))) (x,y,())):=hy1;clear hy1
   cases f1 with
   | true=>
    go_wp2
    go_region_held3 (fun w'=>w'.cell? ⟨wr.heap.size,0,none⟩=some (.int .i64 x)∧w'.cell? ⟨wr.heap.size,1,none⟩=some (.int .i64 y)) (first | go_keep | (refine ⟨?_,?_⟩<;>assumption)) (fail)
    all_goals go_wp2
    all_goals
     obtain ⟨a1,a2,a3,a4,a5,a6⟩:=A.out
     refine ⟨⟨k+1,aT,rfl,by rw [a1,A2.out];simp only [Bool.true_and],by rw [a1];exact a6,?_⟩,ji aT⟩
     exact ((a2.trans (aC.of_below a3 fun c=>c=b) fun _ _ h=>h).trans a4 fun _ _ h=>h).trans a5 fun _ _ h=>h
   | false=>
    go_wp2
    go_region_held3 (fun w'=>w'.cell? ⟨wr.heap.size,0,none⟩=some (.int .i64 x)∧w'.cell? ⟨wr.heap.size,1,none⟩=some (.int .i64 y)) (first | go_keep | (refine ⟨?_,?_⟩<;>assumption)) (fail)
    all_goals go_wp2
    all_goals
     obtain ⟨a1,a2,a3,a4,a5,a6⟩:=A.out
     refine ⟨⟨k+1,aT,rfl,by rw [a1];simp only [Bool.false_and],by rw [a1];exact a6,?_⟩,ji aT⟩
     exact ((a2.trans (aC.of_below a3 fun c=>c=b) fun _ _ h=>h).trans a4 fun _ _ h=>h).trans a5 fun _ _ h=>h
  ·have acM:k=l.length:=by omega
   subst acM;rw [List.take_length] at hMk
   have A:Aside (MapAt wr b wQ (.int .i64) (eX m l r).1∧aC w wr (fun x=>x=b)):=⟨hMk,hKk⟩
   clear hMk hKk hM hl;rw [List.take_length]
   go_wp2
   go_ret
   exact ⟨rfl,A.out.1,A.out.2⟩
end Go.dw.rO
namespace Go.dw
open Go.RowKit
section
variable {P:Program} {E:Env} {C:Ctx} {s:St} {a:Act} {w w':World} {G:Nat→Nat} {pt:Nat→Nat→Option Value}
theorem Rel.aqK (R:Rel E C s a w G pt) {id st:Nat} {kt vt:Ty} {l l':List (kt.den×vt.den)} (hb:get s (2*id+1) = .bO st kt vt l) {b:Nat} (hp:pt id st=some (.map (some b))) (hG:G b=0)
 (hB:∀ c,c<w.heap.size→c≠b→w'.heap[c]? = w.heap[c]?) (hs:w.heap.size≤w'.heap.size) (h1:w'.os=w.os) (h2:w'.output=w.output) (h3:w'.tape=w.tape) (hM':MapAt w' b kt vt l') :
 Rel E C ((2*id+1,.bO st kt vt l')::s) a w' G pt:=by
 have hid:id<C.m:=fT R (by rw [hb];simp)
 have Wh:∀ c,cB s w pt c id=dh c (pt id st):=fun c=>by simp only [cB,hb,gY]
 have xq:0<cB s w pt b id:=by rw [Wh,dh,hp];simp [bE]
 refine R.step (fun _=>False) (fun i=>i=id) (fun c=>c=b) rfl R.df (fun t _=>⟨by simp,rfl⟩) (fun i hi=>⟨by simp [hi],rfl⟩) ⟨fun c o hc=>?_,fun _=>bT _⟩ (fun _ _ _ h=>h) (fun c h1 h2=>⟨hB c h2 h1,rfl⟩)
  (fun c hc t _=>by subst hc;exact R.bt xq t) (fun c hc i hi=>by subst hc;exact R.bb xq hi) (fun c hc=>by subst hc;exact (R.cb c (mK xq (R.jq c id))).2) (fun t h=>h.elim) (fun i hi=>?_) (fun c1 c2 c=>?_)
  (fun c hc=>R.gz c (gX hs hc)) h1 h2 h3 hs
 ·by_cases h:c=b
  ·subst h;rw [hG] at hc;omega
  ·refine cell_of_heap (hB c ?_ h) o
   rcases Nat.lt_or_ge c w.heap.size with h | h
   ·exact h
   ·rw [R.gz c h] at hc;omega
 ·subst hi
  refine ⟨hid,by simp only [aW,if_true];exact ⟨b,hp,hG,hM'⟩,fun j hj=>?_⟩
  simp only [aW,if_true,aL] at hj
  exact R.pf i j (by rw [hb];exact hj)
 ·have:TC E.n C.m ((2*id+1,.bO st kt vt l')::s) a w' pt c=TC E.n C.m s a w pt c:=by
   unfold TC
   rw [aG fun i _=>c1 i (fun h=>h) c]
   congr 1
   refine aG fun i _=>?_
   by_cases hi:i=id
   ·subst hi
    simp only [cB,aW,if_true,gY,hb]
   ·exact c2 i hi c
  rw [this]
  exact ⟨R.ct c,fun h=>⟨mK (R.cb c h).1 hs,(R.cb c h).2⟩⟩
end
end Go.dw
namespace Go.dw.rO
open Go Go.Proofs Go.RowKit aA
theorem Bw {w:World} {G:Nat→Nat} {l:List Hp} {b o:Nat} (hr:fA w G GR l b o):zy w b o l∧∀ x∈l,IntKind.i64.has x.1∧IntKind.i64.has x.2.1:=by
 refine ⟨⟨fun k hk=>?_,fun k hk=>?_⟩,fun x hx=>?_⟩
 ·obtain ⟨h1,h2,-⟩:=hr k hk
  rw [List.getD,iw hk,sw];exact h1.1
 ·obtain ⟨h1,h2,-⟩:=hr k hk
  rw [List.getD,iw hk,sw];exact h2.1
 ·obtain ⟨k,hk,rfl⟩:=List.getElem_of_mem hx
  obtain ⟨h1,h2,-⟩:=hr k hk;exact ⟨h1.2,h2.2⟩
theorem acN {dst st:Nat} {l:List (D×D)} {g:Bool} {u:St} (h:ae0 dst st l=some (g,u)):∃ X s2 m d0 f hs r z1 z2,l=[(.fU X s2,.bO s2 GR (.int .i64) m),(.agg [d0,.sl f GR hs],z1),(.int .i64 r,z2)]∧g=true ∧
 u=[(2*X+1,.bO s2 GR (.int .i64) (eX m hs r).1),(2*dst,.bool (eX m hs r).2)]:=by
 unfold ae0 at h;split at h
 ·rename_i X sx s2 m d0 f hs z1 r z2
  cases hb:Nat.beq sx s2 with
  | false=>rw [hb] at h;cases h
  | true=>
   rw [hb] at h;have:=fD hb;subst this;simp only [aQ,bn,gD] at h;exact ⟨X,sx,m,d0,f,hs,r,z1,z2,rfl,h.1.symm,h.2.symm⟩
 ·cases h
theorem acO {α β:Type} {f:α→β} {l:List α} {a b c:β} (h:l.map f=[a,b,c]):∃ x y z,l=[x,y,z]∧f x=a∧f y=b∧f z=c:=by
 match l,h with
 | [x,y,z],h=>
  simp only [jy,List.map_nil,List.cons.injEq,and_true] at h;exact ⟨x,y,z,rfl,h.1,h.2.1,h.2.2⟩
theorem alc:OX Tryz.prog B.glob 57 ae0:=by
 intro E C o cl s a w G pt t u _ hm ht iN aY qF R hx;obtain ⟨X,s2,m,d0,f,hs,r,z1,z2,hl,-,hu⟩:=acN hx;subst hu;obtain ⟨x0,x1,x2,iM,e0,e1,e2⟩:=acO hl;have p0:aV s x0 = .fU X s2:=congrArg Prod.fst e0;have q0:Dn s (aV s x0) = .bO s2 GR (.int .i64) m:=congrArg Prod.snd e0;have p1:aV s x1 = .agg [d0,.sl f GR hs]:=congrArg Prod.fst e1;have p2:aV s x2 = .int .i64 r:=congrArg Prod.fst e2;rw [p0] at q0;have q0:get s (2*X+1) = .bO s2 GR (.int .i64) m:=q0;have r0:=aJ R x0;rw [p0] at r0;have r1:=aJ R x1;rw [p1] at r1;have r2:=aJ R x2;rw [p2] at r2;have r0:pt X s2=some (a.eval x0):=r0;have r2:a.eval x2 = .int .i64 r∧IntKind.i64.has r:=r2
 obtain ⟨arr,ha,eU,hr⟩:∃ arr,a.eval x1 = .agg arr∧arr.size=2∧aP w G pt [d0,.sl f GR hs] (aS arr):=r1
 have hB:=R.bx X;rw [q0] at hB;obtain ⟨b,hp,hG,hM⟩:=hB
 have hv:a.eval x0 = .map (some b):=by rw [r0] at hp;exact Option.some.inj hp
 obtain ⟨v0,v1,rfl⟩:∃ v0 v1,arr = #[v0,v1]:=by
  match arr,eU with
  | ⟨[v0,v1]⟩,_=>exact ⟨v0,v1,rfl⟩
 obtain ⟨ad,n,c,uQ,hn,oN,kW⟩:∃ a n c,v1 = .slice a n c∧n=List.length (α:=Hp) hs∧n*16≤lW∧VQ w G f GR hs a c:=(hr 1 (Nat.lt_succ_self 1)).1
 subst uQ hn
 have hlen:List.length (α:=Hp) hs≤8796093022208:=by unfold lW at oN;omega
 have Td:∃ hb ho,zy w hb ho hs∧(hs≠[]→ad=some ⟨hb,ho,none⟩)∧(∀ x:Hp,x∈hs→IntKind.i64.has x.1∧IntKind.i64.has x.2.1):=by
  by_cases h0:hs=[]
  ·subst h0
   exact ⟨0,0,⟨fun k hk=>absurd hk (by simp),fun k hk=>absurd hk (by simp)⟩,fun h=>absurd rfl h,fun x hx=>by cases hx⟩
  ·match f,kW with
   | 0,kW=>
    obtain ⟨hb,ho,rfl,_,h2⟩:=kW.2.resolve_left h0;obtain ⟨h3,h4⟩:=Bw h2
    exact ⟨hb,ho,h3,fun _=>rfl,h4⟩
   | 1,kW=>
    rcases kW with ⟨_,h1,_⟩ | ⟨hb,rfl,_,_,_,h2,_⟩
    ·exact absurd h1 h0
    ·obtain ⟨h3,h4⟩:=Bw h2
     exact ⟨hb,0,h3,fun _=>rfl,h4⟩
   | 2,kW=>
    rcases kW with ⟨_,h1,_⟩ | ⟨hb,rfl,_,_,_,h2,_⟩
    ·exact absurd h1 h0
    ·obtain ⟨h3,h4⟩:=Bw h2
     exact ⟨hb,0,h3,fun _=>rfl,h4⟩
   | 3,kW=>
    rcases kW with ⟨_,h1,_⟩ | ⟨hb,o,d,rfl,_,_,_,_,h2,_⟩
    ·exact absurd h1 h0
    ·obtain ⟨h3,h4⟩:=Bw h2
     exact ⟨hb,o,h3,fun _=>rfl,h4⟩
 obtain ⟨hb,ho,k1,k2,k3⟩:=Td
 have afM:∃ hb ho,zy w hb ho hs∧hb≠b∧(hs≠[]→ad=some ⟨hb,ho,none⟩):=by
  by_cases h0:hs=[]
  ·subst h0
   exact ⟨b+1,0,⟨fun k hk=>absurd hk (by simp),fun k hk=>absurd hk (by simp)⟩,by omega,fun h=>absurd rfl h⟩
  ·refine ⟨hb,ho,k1,?_,k2⟩
   rintro rfl;have uO:0<List.length (α:=Hp) hs:=List.length_pos_iff.2 h0;have:=k1.p0 0 uO;obtain ⟨es,clock,h1,_⟩:=hM;simp [World.cell?,h1] at this
 obtain ⟨ku,ho2,k4,k5,k6⟩:=afM;intro K Q hK
 have bB:=mG (a:=a) (w:=w) aY qF Tryz.func57 (by decide) (by kernel_rfl)
 unfold Oper.wp;rw [bB,Oper.upon_enter]
 have tT:cl.args.map a.eval = #[.map (some b),.agg #[v0,.slice ad hs.length c],.int .i64 r]:=by
  apply Array.ext';rw [Array.toList_map,iM];simp only [jy,List.map_nil,hv,ha,r2.1]
 rw [tT];refine (Ya hM k4 k5 k6 hlen k3).mono ?_;rintro e w' ⟨rfl,h1,h2⟩
 have R1:=R.aqK (kt:=GR) (vt:=.int .i64) (l':=(eX m hs r).1) q0 hp hG (fun c hc fC=>h2.block c hc fC) h2.size h2.os h2.output h2.tape h1
 have R2:=R1.amZ t ht (d:=.bool (eX m hs r).2) (v:=.bool (eX m hs r).2) rfl (fun b=>rfl)
 show K (a.put o.dst _) w';rw [iN];exact hK _ _ _ _ R2
open Go.ChangeMaps (setBlock)
section
variable {kt vt:Ty} {P:Program}
def vL (kt vt:Ty) (w:World) (r bm:Nat) (l:List (kt.den×vt.den)) (left:List (kt.den×vt.den)):Prop:=
 ∃ (es:Array MapEntry) (clock since c0:Nat) (sn:Array Nat),w.heap[r]? = some (.mapIter (some bm) since sn c0)∧w.heap[bm]? = some (.map es clock) ∧
  es.toList.map (fun e=>(e.key,e.val))=l.map (fun p=>(je kt p.1,je vt p.2))∧(es.toList.map (·.born)).Nodup∧(∀ e∈es.toList,e.born<since)∧since≤c0∧since≤clock ∧
  ((leftOf es sn).toList.map (fun e=>(e.key,e.val))=left.map (fun p=>(je kt p.1,je vt p.2)))
theorem vL.same {w w':World} {r bm:Nat} {l left:List (kt.den×vt.den)} (h:vL kt vt w r bm l left) (h1:w'.heap[r]? = w.heap[r]?) (h2:w'.heap[bm]? = w.heap[bm]?):vL kt vt w' r bm l left:=by
 obtain ⟨es,clock,since,c0,sn,a,b,c⟩:=h;exact ⟨es,clock,since,c0,sn,h1.trans a,h2.trans b,c⟩
theorem vL.start {T k e:TypeId} {w:World} {bm:Nat} {l:List (kt.den×vt.den)} (h:MapAt w bm kt vt l) (ht:P.underlying T=some (.map k e)):∃ n:Nat,
 (Instr.range T (.map (some bm))).run P w = .ok (.pointer (some ⟨w.heap.size,0,none⟩)) (w.alloc (.mapIter (some bm) n #[] n))∧vL kt vt (w.alloc (.mapIter (some bm) n #[] n)) w.heap.size bm l l:=by
 obtain ⟨es,clock,hb,h1,h2,h3,h4,h5,hk,hv⟩:=h;have aT:bm<w.heap.size:=(E5 hb).1;refine ⟨clock,run_range_map w T k e bm es clock ht hb,es,clock,clock,clock,#[],heap_alloc_new _ _,(heap_alloc_old _ _ aT).trans hb,h1,h2,h3,bT _,bT _,?_⟩
 have:leftOf es #[]=es:=by
  unfold leftOf;rw [Array.filter_eq_self];intro x _;simp
 rw [this];exact h1
theorem Qu {es:Array MapEntry} {sn:Array Nat} (hn:(es.toList.map (·.born)).Nodup) {e:MapEntry} {a c:List MapEntry} (h:(leftOf es sn).toList=a++e::c):(leftOf es (sn.push e.born)).toList=a++c:=by
 have h1:(leftOf es (sn.push e.born)).toList=(leftOf es sn).toList.filter fun x=>!(x.born==e.born):=by
  unfold leftOf;rw [Array.toList_filter,Array.toList_filter,List.filter_filter]
  refine List.filter_congr fun x _=>?_
  rw [contains_push]
  cases sn.contains x.born<;>cases (x.born==e.born)<;>rfl
 have h2:((leftOf es sn).toList.map (·.born)).Nodup:=by
  unfold leftOf;rw [Array.toList_filter];exact (List.filter_sublist.map _).nodup hn
 rw [h1,h];rw [h,vO,jy] at h2;have h3:=List.nodup_append.1 h2;have h4:=List.nodup_cons.1 h3.2.1;rw [List.filter_append,List.filter_cons];simp only [beq_self_eq_true,Bool.not_true,xD,if_false]
 congr 1
 ·refine List.filter_eq_self.2 fun x hx=>?_
  have:=h3.2.2 x.born (List.mem_map.2 ⟨x,hx,rfl⟩) e.born (by simp)
  simpa using this
 ·refine List.filter_eq_self.2 fun x hx=>?_
  have:x.born≠e.born:=fun hh=>h4.1 (by rw [←hh];exact List.mem_map.2 ⟨x,hx,rfl⟩)
  simpa using this
theorem vL.next {w:World} {r bm:Nat} {l left:List (kt.den×vt.den)} (h:vL kt vt w r bm l left) (fC:r≠bm) (ty:TypeId) :
 (left=[]∧(Instr.next (.pointer (some ⟨r,0,none⟩)) false ty).run P w = .ok (.tuple #[.bool false]) w) ∨
 ∃ p a c w',left=a++p::c∧(Instr.next (.pointer (some ⟨r,0,none⟩)) false ty).run P w = .ok (.tuple #[.bool true,je kt p.1,je vt p.2]) w' ∧
  (Instr.entry (.pointer (some ⟨r,0,none⟩))).run P w' = .ok (.tuple #[je kt p.1,je vt p.2]) w'∧aC w w' (fun b=>b=r)∧vL kt vt w' r bm l (a++c):=by
 obtain ⟨es,clock,since,c0,sn,hr,hb,h1,h2,h3,hsc,abA,KO⟩:=h;have abC:r<w.heap.size:=(E5 hr).1
 rcases run_next_at (P:=P) w ty r bm since c0 sn es clock hr hb h3 hsc with ⟨e1,e2⟩ | ⟨e,he,w1,Od,e2⟩
 ·refine .inl ⟨?_,e2⟩
  have h0:(leftOf es sn).toList=[]:=List.eq_nil_of_length_eq_zero (by simpa using e1)
  rw [h0] at KO
  simpa using KO.symm
 ·obtain ⟨a1,c1,hac⟩:=List.append_of_mem he
  have D5:=KO;rw [hac,vO,jy] at D5;obtain ⟨la,lb,hla,hma,hmb⟩:=List.map_eq_append_iff.1 D5.symm;obtain ⟨p,lc,hlb,hp,hmc⟩:=List.map_eq_cons_iff.1 hmb
  have MB:w1.heap=w.heap:=by rcases Od with rfl | rfl<;>rfl
  have QJ:e.key=je kt p.1:=(Prod.mk.inj hp).1.symm;have YB:e.val=je vt p.2:=(Prod.mk.inj hp).2.symm;have hm:=mem_left he
  refine .inr ⟨p,la,lc,_,by rw [hla,hlb],by rw [QJ,YB] at e2;exact e2,?_,?_,?_⟩
  ·have:=run_entry_at (P:=P) (setBlock w1 r (.mapIter (some bm) since (sn.push e.born) clock)) r bm since sn es clock e (eZ (by rw [MB];exact abC)) (by rw [aN (Ne.symm fC),MB];exact hb) hm.1 h2
   rw [QJ,YB] at this;exact this
  ·rcases Od with rfl | rfl<;>exact ⟨rfl,rfl,rfl,by simp [setBlock],fun b _ hbr=>aN hbr⟩
  ·refine ⟨es,clock,since,clock,sn.push e.born,eZ (by rw [MB];exact abC),by rw [aN (Ne.symm fC),MB];exact hb,h1,h2,h3,abA,abA,?_⟩
   rw [Qu h2 hac,vO,vO,hma,hmc]
end
open Go.Sort Go.Shelf
section
variable {α:Type} {enc:α→List Value} {k:Nat}
theorem rD (hk:∀ x,(enc x).length=k) (l:List α):(l.flatMap enc).length=l.length*k:=by
 induction l with
 | nil=>simp
 | cons x r ih=>rw [List.flatMap_cons,nP,ih,hk,lD,Nat.add_mul];omega
variable [Inhabited α]
theorem EU (hk:∀ x,(enc x).length=k) (h0:0<k):∀ (l:List α) (j:Nat),j<l.length*k→(l.flatMap enc)[j]? = some ((enc (l.toArray[j / k]!))[j%k]!)
 | [],j,h=>by simp at h
 | x::r,j,h=>by
  rw [List.flatMap_cons,List.getElem?_append,hk]
  by_cases hj:j<k
  ·rw [if_pos hj,Nat.div_eq_of_lt hj,Nat.mod_eq_of_lt hj]
   have e:(x::r).toArray[0]! = x:=by simp
   rw [e,iw (by rw [hk];exact hj),getElem!_pos (enc x) j (by rw [hk];exact hj)]
  ·rw [if_neg hj]
   have e1:j / k=(j - k) / k+1:=by
    rw [←Nat.sub_add_cancel (Nat.le_of_not_lt hj),Nat.add_div_right _ h0,Nat.add_sub_cancel]
   have e2:j%k=(j - k)%k:=by
    conv=>lhs;rw [←Nat.sub_add_cancel (Nat.le_of_not_lt hj)]
    rw [Nat.add_mod_right]
   have e3:(x::r).toArray[(j - k) / k+1]! = r.toArray[(j - k) / k]!:=by simp
   rw [e1,e2,e3];refine EU hk h0 r (j - k) ?_;rw [lD,Nat.add_mul] at h;omega
theorem TD (hk:∀ x,(enc x).length=k) (h0:0<k) (l:List α):(flatK enc k l.toArray).toList=l.flatMap enc:=by
 refine List.ext_getElem? fun j=>?_
 have hs:(flatK enc k l.toArray).size=l.length*k:=by rw [size_flatK];simp
 by_cases hj:j<l.length*k
 ·rw [EU hk h0 l j hj]
  have:=get_flatK enc k l.toArray j (by simpa using hj)
  rw [←this,getElem!_pos _ j (by rw [hs];exact hj)]
  simp [hs,hj]
 ·rw [List.getElem?_eq_none (by simp [hs];omega),List.getElem?_eq_none (by rw [rD hk];omega)]
theorem TF (hk:∀ x,(enc x).length=k) (h0:0<k) {W:World} {base t:Nat} {v:Value} {h:List α} (fP:W.ownsRow base t k v h.length (h.flatMap enc)) {g cap:Nat} {cur:Array Value} (hv:v = .slice (some ⟨g,0,none⟩) h.length cap)
 (hb:base≤g) (e3:W.heap[g]? = some (.cells cur t (0,0))) (e4:h.length≤cap) (e5:cap≤maxLen) (e6:cur.size=cap*k) {l:List α} (hl:l.length=h.length) (n:Nat) (os:Array Obj) :
 (grow (Go.Sort.ahead (W.setCells g 0 (flatK enc k l.toArray).toList) n) os).ownsRow base t k v l.length (l.flatMap enc)∧(∀ b,b<W.heap.size→b≠g→(grow (Go.Sort.ahead (W.setCells g 0 (flatK enc k l.toArray).toList) n) os).heap[b]? = W.heap[b]?) ∧
  Below base W (grow (Go.Sort.ahead (W.setCells g 0 (flatK enc k l.toArray).toList) n) os):=by
 have hg:=lt_of_block e3;rw [TD hk h0];obtain ⟨s1,s2,s3,s4,s5,s6⟩:=eY (l.flatMap enc) W g 0;obtain ⟨FL,k1,k2⟩:=s2 cur t (0,0) e3
 have jr:Room W g (h.length*k):=⟨cur,t,(0,0),e3,by rw [e6];exact zF _ e4,by simp⟩
 have hfl:(l.flatMap enc).length=h.length*k:=by rw [rD hk,hl]
 have DR:∀ b,b<W.heap.size→(grow (Go.Sort.ahead (W.setCells g 0 (l.flatMap enc)) n) os).heap[b]? = (W.setCells g 0 (l.flatMap enc)).heap[b]?:=fun b hb=>by
  show ((W.setCells g 0 (l.flatMap enc)).heap++os)[b]? = _
  rw [Array.getElem?_append_left (by rw [s3];exact hb)]
 have other:∀ b,b<W.heap.size→b≠g→(grow (Go.Sort.ahead (W.setCells g 0 (l.flatMap enc)) n) os).heap[b]? = W.heap[b]?:=fun b hb fC=>(DR b hb).trans (s1 b fC)
 refine ⟨⟨rD hk l,.inr ⟨g,cap,FL,by rw [hv,hl],hb,(DR g hg).trans k1,by rw [hl];exact e4,e5,by rw [k2];exact e6,?_⟩⟩,other,s4,s6,s5,?_,fun j hj=>other j (by omega) (by omega)⟩
 ·refine List.ext_getElem? fun j=>?_
  rw [hl,List.getElem?_take]
  by_cases hj:j<h.length*k
  ·rw [if_pos hj]
   have:=sI jr (off:=0) (l.flatMap enc) (by omega) (j:=j) (by omega)
   rw [Nat.zero_add] at this;simp only [World.cell?,k1] at this
   rw [Array.getElem?_toList,iw (by omega)]
   exact this
  ·rw [if_neg hj,List.getElem?_eq_none (by omega)]
 ·show W.heap.size≤((W.setCells g 0 (l.flatMap enc)).heap++os).size
  rw [Array.size_append,s3];omega
theorem Yb (hk:∀ x,(enc x).length=k) (h0:0<k) {W:World} {base t:Nat} {h:List α} {g cap:Nat} {cur:Array Value} (fP:W.ownsRow base t k (.slice (some ⟨g,0,none⟩) h.length cap) h.length (h.flatMap enc))
 (e3:W.heap[g]? = some (.cells cur t (0,0))):HoldsK enc k W g 0 h.toArray:=by
 intro j hj
 have vQ:j<h.length*k:=by rw [size_flatK] at hj;simpa using hj
 refine ⟨?_,by simp [World.frozen?,e3]⟩
 rw [Nat.zero_add,fP.cellAt j vQ,EU hk h0 h j vQ,←get_flatK enc k h.toArray j (by simpa using vQ)]
 rfl
end
theorem acP {W:World} {base:Nat} {v:Value} {h:List Io} (fP:W.ownsRow base 234 3 v h.length (h.flatMap Bd)) (hlen:h.length≤1000000) :
 Calls Tryz.prog 128 #[v,.func (.func 129) #[] #[]] W fun e w'=>e = .returned (.tuple #[])∧w'.ownsRow base 234 3 v (lK h).length ((lK h).flatMap Bd)∧Below base W w':=by
 have iY:(lK h).length=h.length:=(lu P5 h).length_eq;have ho:=fP
 rcases ho.2 with ⟨rfl,h0⟩ | ⟨g,cap,cur,rfl,e2,e3,e4,e5,e6,e7⟩
 ·have hh:h=[]:=List.length_eq_zero_iff.1 h0
  subst hh;refine (AnyF.slices_SortFunc_none (P:=Tryz.prog) (ρ:=zm) abT none 0 (.func (.func 129) #[] #[]) W).mono ?_;rintro e w' ⟨rfl,rfl⟩;have hs:lK []=[]:=List.length_eq_zero_iff.1 iY;rw [hs];exact ⟨rfl,World.ownsRow_nil _ _ _ _,Below.refl _ _⟩
 ·refine (S9 (c:=cap) (Yb (enc:=Bd) (k:=3) (fun _=>rfl) (by decide) fP e3) (lt_of_block e3) (by omega)).mono ?_
  rintro e w' ⟨rfl,n,os,rfl⟩
  obtain ⟨k1,k2,k3⟩:=TF (enc:=Bd) (k:=3) (fun _=>rfl) (by decide) fP rfl e2 e3 e4 e5 e6 iY n os
  exact ⟨rfl,k1,k3⟩
theorem afN:(Tryz.prog.info? 234).map (fun i=>(i.zero,i.size,i.bytes))=some (some (.agg #[.int .i64 0,.int .i64 0,.int .i64 0]),3,24):=by kernel_rfl
def CV (p:Hp×Int):Io:=(p.1.1,p.1.2.1,p.2,())
theorem H8 (w:World) (x y z:Value) (t:TypeId):∀ j u,[x,y,z][j]? = some u→(w.alloc (.cells #[x,y,z] t)).cell? ((⟨w.heap.size,0,none⟩:Addr).add j)=some u:=by
 intro j u hj
 match j,hj with
 | 0,hj=>simp at hj;subst hj;simp [Addr.add]
 | 1,hj=>simp at hj;subst hj;simp [Addr.add]
 | 2,hj=>simp at hj;subst hj;simp [Addr.add]
theorem aqL (a b c:Int):∀ u∈[Value.int .i64 a,Value.int .i64 b,Value.int .i64 c],u.oneCell' = true:=by
 intro u hu;simp only [List.mem_cons,List.not_mem_nil,or_false] at hu
 rcases hu with rfl | rfl | rfl<;>rfl
theorem Yc {w:World} {b:Nat} {m:Mp} (hM:MapAt w b wQ (.int .i64) m) (hlen:m.length≤1000000) :
 Calls Tryz.prog 60 #[.map (some b)] w fun e w'=>∃ v acc,e = .returned v∧acc.Perm (m.map CV)∧w'.ownsRow w.heap.size 234 3 v (lK acc).length ((lK acc).flatMap Bd)∧Below w.heap.size w w':=by
 obtain ⟨i0,hi,Lr,Iu,Wq⟩:=info_parts afN;obtain ⟨n0,hR0,hI0⟩:=vL.start (P:=Tryz.prog) hM Tryz.underlying137
 have afL:b<w.heap.size:=by
  obtain ⟨es,clock,hb,_⟩:=hM;exact (E5 hb).1
 have xB:Below w.heap.size w (w.alloc (.mapIter (some b) n0 #[] n0)):=(Below.refl _ _).alloc (bT _) _;generalize O5:w.alloc (.mapIter (some b) n0 #[] n0)=w0 at hR0 hI0 xB
 have awG:w.heap.size<w0.heap.size:=by rw [←O5];simp
 clear O5
 go_enter Tryz.func60,Tryz.ntmps60
 go_wp2
 go_loopg [3] m.length (fun k v3 wr=>∃ (acc:List Io) (left:List (Hp×Int)),left.length=k∧(acc++left.map CV).Perm (m.map CV)∧wr.ownsRow (w.heap.size+1) 234 3 v3 acc.length (acc.flatMap Bd) ∧
  vL wQ (.int .i64) wr w.heap.size b m left∧Below w.heap.size w wr∧w.heap.size<wr.heap.size)
 case atStart=>
  exact ⟨[],m,rfl,List.Perm.refl _,World.ownsRow_nil _ _ _ _,hI0,xB,awG⟩
 case round=>
  obtain ⟨acc,left,hk,iY,fP,hI,hB,eU⟩:=hrel
  rcases hI.next (P:=Tryz.prog) (by omega) 0 with ⟨rfl,bB⟩ | ⟨p,la,lc,w1,KO,bB,ajF,SG,hI1⟩
  ·have tY:acc.length≤1000000:=by
    have:=iY.length_eq;simp only [List.map_nil,List.append_nil,pJ] at this;omega
   have A:Aside (acc.Perm (m.map CV)∧Below w.heap.size w wr):=⟨by simpa using iY,hB⟩
   clear iY hB hI hM hI0 xB hR0
   go_wp2_with (first
    | (go_at_call 128;refine (acP fP tY).mono ?_;rintro e w2 ⟨rfl,ho2,ku⟩))
   go_ret
   refine ⟨_,acc,rfl,A.out.1,⟨ho2.1,?_⟩,A.out.2.trans ⟨ku.os,ku.tape,ku.output,ku.size,fun k hk=>ku.block k (by omega)⟩⟩
   rcases ho2.2 with h | ⟨g,cap,cur,e1,e2,e3⟩
   ·exact .inl h
   ·exact .inr ⟨g,cap,cur,e1,by omega,e3⟩
  ·obtain ⟨⟨x,y,⟨⟩⟩,v⟩:=p
   replace bB:(Instr.next (.pointer (some ⟨w.heap.size,0,none⟩)) false 0).run Tryz.prog wr = .ok (.tuple #[.bool true,.agg #[.int .i64 x,.int .i64 y],.int .i64 v]) w1:=bB
   replace ajF:(Instr.entry (.pointer (some ⟨w.heap.size,0,none⟩))).run Tryz.prog w1 = .ok (.tuple #[.agg #[.int .i64 x,.int .i64 y],.int .i64 v]) w1:=ajF
   have ag3:=rX fP SG (fun g hg hh=>by have:=(dO fP hg).1;omega)
   have Yt:=SG.size
   have c3:∀ j u,[Value.int .i64 x,Value.int .i64 y,Value.int .i64 v][j]? = some u→((w1.alloc (.cells #[.int .i64 x,.int .i64 y] 44)).alloc (.cells #[.int .i64 x,.int .i64 y,.int .i64 v] 234)).cell? ((⟨w1.heap.size+1,0,none⟩:Addr).add j)=some u:=by
    have:=H8 (w1.alloc (.cells #[.int .i64 x,.int .i64 y] 44)) (.int .i64 x) (.int .i64 y) (.int .i64 v) 234
    simpa using this
   have g0:(w1.alloc (.cells #[.int .i64 x,.int .i64 y] 44)).cell? ⟨w1.heap.size,0,none⟩=some (.int .i64 x):=bV _ _ _ _;have g1:(w1.alloc (.cells #[.int .i64 x,.int .i64 y] 44)).cell? ⟨w1.heap.size,1,none⟩=some (.int .i64 y):=bV _ _ _ _
   have tY:acc.length≤1000000:=by
    have:=iY.length_eq;rw [nP,pJ,pJ] at this;omega
   have A:Aside ((acc++left.map CV).Perm (m.map CV)∧Below w.heap.size w wr∧left=la++((x,y,()),v)::lc∧aC wr w1 (fun b=>b=w.heap.size)∧vL wQ (.int .i64) w1 w.heap.size b m (la++lc)∧w1.ownsRow (w.heap.size+1) 234 3 u3 acc.length (acc.flatMap Bd)):=⟨iY,hB,KO,SG,hI1,ag3⟩
   clear iY hB KO hI hI1 SG hM hI0 xB hR0 fP
   go_wp2_with (first
    | (at_builtin;refine wpList_append_own_at _ rfl _ _ 82 rfl (w.heap.size+1) 234 i0 _ 3 24 Tryz.underlying82 hi Lr Iu Wq rfl (by decide) _ _ _ rfl ((ag3.alloc _).alloc _) ⟨w1.heap.size+1,0,none⟩ 1 1 [.int .i64 x,.int .i64 y,.int .i64 v] rfl rfl c3 (aqL x y v) (by unfold maxLen;omega) (by omega) (by simp;omega) ?_;intro v' w3 AV jY yh Mw;have mF:World.grownBy _ w3 u3.ownBlock:=jY;clear yh Mw jY))
   obtain ⟨a1,a2,a3,a4,a5,a6⟩:=A.out;have awH:=mF.size;simp only [World.size_alloc] at awH
   have acQ:∀ c,c<w1.heap.size→u3.ownBlock≠some c→w3.heap[c]? = w1.heap[c]?:=fun c hc fC=>by
    rw [mF.block c (by simp;omega) (fun hh=>fC hh.symm),heap_alloc_old _ _ (by simp;omega),heap_alloc_old _ _ hc]
   have Le:∀ c,c≤w.heap.size→u3.ownBlock≠some c:=fun c hc hh=>by
    have:=(dO a6 hh).1;omega
   have ale:(acc++left.map CV).Perm ((acc++[(x,y,v,())])++(la++lc).map CV):=by
    rw [a3,vO,jy,vO,List.append_assoc];refine List.Perm.append_left acc ?_;exact List.perm_middle
   go_roundg (la++lc).length
   case measure=>rw [←hk,a3];simp
   case rel=>
    refine ⟨acc++[(x,y,v,())],la++lc,rfl,ale.symm.trans a1,?_,a5.same (acQ _ (by omega) (Le _ (bT _))) (acQ _ (by omega) (Le _ (by omega))),?_,by omega⟩
    ·rw [nP,List.flatMap_append]
     exact AV
    ·refine ⟨mF.os.trans (a4.os.trans a2.os),mF.tape.trans (a4.tape.trans a2.tape),mF.output.trans (a4.output.trans a2.output),by have:=a2.size;omega,fun c hc=>?_⟩
     rw [acQ c (by omega) (Le c (by omega)),a4.block c (by omega) (by omega)]
     exact a2.block c hc
end Go.dw.rO
namespace Go.dw
open Go.RowKit
section
variable {P:Program} {E:Env} {C:Ctx} {s:St} {a:Act} {w w':World} {G:Nat→Nat} {pt:Nat→Nat→Option Value}
theorem Rel.aqM (R:Rel E C s a w G pt) (o:Oper) (ho:∀ t,o.dst=some t→t<E.n) (hB:Below w.heap.size w w') {T:Ty} {l:List T.den} {v:Value}
 (hv:(v = .slice none 0 0∧l=[])∨∃ g cap cur e,v = .slice (some ⟨g,0,none⟩) l.length cap∧w.heap.size≤g∧w'.heap[g]? = some (.cells cur e (0,0))∧l.length≤cap∧cap*T.nc≤cur.size∧fA w' G T l g 0)
 (hb:l.length*T.xk≤lW) (Im:0<T.nc):Rel E C (au (dN o (.sl 2 T l)) s) (a.put o.dst v) w' G pt:=by
 have hE:Ext w G w' G:=⟨fun b o' h=>by
  have:b<w.heap.size:=by
   rcases Nat.lt_or_ge b w.heap.size with h1 | h1
   ·exact h1
   ·have:=R.gz b h1;omega
  exact cell_of_heap (hB.block b this) o',fun _=>bT _⟩
 refine R.put o ho (fun _=>False) hE (fun b _ hb=>⟨hB.block b hb,rfl⟩) (fun b h=>h.elim) ?_ (fun b=>?_) (fun b hb=>R.gz b (gX hB.size hb)) hB.os hB.output hB.tape hB.size
 ·rcases hv with ⟨rfl,rfl⟩ | ⟨g,cap,cur,e,rfl,h1,h2,h3,h4,h5⟩
  ·exact ⟨none,0,0,rfl,rfl,by simp,.inl ⟨rfl,rfl,rfl⟩⟩
  ·exact ⟨_,_,_,rfl,rfl,hb,.inr ⟨g,rfl,R.gz g h1,⟨cur,e,(0,0),h2,h4,by simp⟩,h3,h5,Im⟩⟩
 ·rcases hv with ⟨rfl,rfl⟩ | ⟨g,cap,cur,e,rfl,h1,h2,h3,h4,h5⟩
  ·exact ⟨mY _,fun h=>absurd h (by show ¬ 0<0;omega)⟩
  ·rw [show dP b (.sl 2 T l) (.slice (some ⟨g,0,none⟩) l.length cap)=dS b (.sl 2 T l) (.slice (some ⟨g,0,none⟩) l.length cap) from rfl]
   simp only [dS]
   by_cases h:g=b
   ·subst h
    refine ⟨by simp,fun _=>⟨?_,?_,.inl (gX R.hs h1)⟩⟩
    ·rcases Nat.eq_zero_or_pos (TC E.n C.m s a w pt g) with h0 | h0
     ·exact h0
     ·have:=(R.cb g h0).1
      omega
    ·rcases Nat.lt_or_ge g w'.heap.size with h | h
     ·exact h
     ·simp [Array.getElem?_eq_none h] at h2
   ·simp [h]
end
end Go.dw
namespace Go.dw.rO
open Go Go.Proofs Go.Sort Go.RowKit aA
def QK (x y:Io):Prop:=x.1<y.1∨x.1=y.1∧x.2.1≤y.2.1
theorem TG {x y:Io} (h:SX y x=false):QK x y:=by
 unfold SX abW at h;have:=mt (lex_lt _ _ _ _).2 (of_decide_eq_false h);unfold QK;omega
theorem Jm (l:List Io):(lK l).Pairwise QK:=by
 obtain ⟨⟨k1,-,-⟩,k3⟩:=Go.Sort.pdq_sorts SX P5 l.toArray 0 l.length (Go.Lib.bitLen l.length) true true (mY _) (by simp) (.inl rfl)
 unfold lK;generalize Go.Sort.pdq SX l.toArray 0 l.length (Go.Lib.bitLen l.length) true true=d at k1 k3
 have eU:d.size=l.length:=by simpa using k1
 refine List.pairwise_iff_getElem.2 fun i j hi hj qO=>?_
 have nR:j<d.size:=by simpa using hj
 have Yv:i<d.size:=by simpa using hi
 have:=k3 i j (mY _) qO (by omega)
 rw [getElem!_pos d i Yv,getElem!_pos d j nR] at this
 simpa using TG this
theorem KP (x:Io) (l:List Io):(GQ x l).Perm (x::l):=by
 induction l with
 | nil=>exact List.Perm.refl _
 | cons y r ih=>
  simp only [GQ]
  cases decide (IL (x.1,x.2.1,()) (y.1,y.2.1,())<0) with
  | true=>exact List.Perm.refl _
  | false=>exact (List.Perm.cons y ih).trans (List.Perm.swap x y r)
theorem Yd {x y z:Io} (h:QK x y) (k:QK y z):QK x z:=by
 unfold QK at *;omega
theorem Qv (x:Io) (l:List Io) (h:l.Pairwise QK):(GQ x l).Pairwise QK:=by
 induction l with
 | nil=>simp [GQ]
 | cons y r ih=>
  obtain ⟨h1,h2⟩:=List.pairwise_cons.1 h;simp only [GQ]
  by_cases hx:IL (x.1,x.2.1,()) (y.1,y.2.1,())<0
  ·rw [bL hx]
   have hxy:QK x y:=by
    have:=(lex_lt x.1 y.1 x.2.1 y.2.1).1 hx;unfold QK;omega
   refine List.pairwise_cons.2 ⟨fun z hz=>?_,h⟩
   rcases lC hz with rfl | hz
   ·exact hxy
   ·exact Yd hxy (h1 z hz)
  ·rw [d9 hx]
   have hyx:QK y x:=by
    have:=mt (lex_lt x.1 y.1 x.2.1 y.2.1).2 hx;unfold QK;omega
   refine List.pairwise_cons.2 ⟨fun z hz=>?_,ih h2⟩
   rcases lC ((KP x r).mem_iff.1 hz) with rfl | hz
   ·exact hyx
   ·exact h1 z hz
theorem Bz (l:List Io):(l.foldr GQ []).Perm l∧(l.foldr GQ []).Pairwise QK:=by
 induction l with
 | nil=>exact ⟨List.Perm.refl _,List.Pairwise.nil⟩
 | cons x r ih=>exact ⟨(KP x _).trans (List.Perm.cons x ih.1),Qv x _ ih.2⟩
theorem key_inj:∀ {m:Mp},m.Pairwise (fun p q=>wQ.om p.1 q.1=false)→∀ x∈m.map CV,∀ y∈m.map CV,x.1=y.1→x.2.1=y.2.1→x=y
 | [],_,x,hx,_,_,_,_=>by cases hx
 | p::r,h,x,hx,y,hy,e1,e2=>by
  obtain ⟨h1,h2⟩:=List.pairwise_cons.1 h
  have no:∀ q∈r,¬ (p.1.1=q.1.1∧p.1.2.1=q.1.2.1):=fun q hq hh=>by
   have:=h1 q hq;simp only [Ty.om,hh.1,hh.2] at this;simp at this
  rcases lC hx with rfl | hx
  ·rcases lC hy with rfl | hy
   ·rfl
   ·obtain ⟨q,hq,rfl⟩:=List.mem_map.1 hy
    exact absurd ⟨e1,e2⟩ (no q hq)
  ·rcases lC hy with rfl | hy
   ·obtain ⟨q,hq,rfl⟩:=List.mem_map.1 hx
    exact absurd ⟨e1.symm,e2.symm⟩ (no q hq)
   ·exact key_inj h2 x hx y hy e1 e2
theorem TH {m:Mp} (hm:m.Pairwise (fun p q=>wQ.om p.1 q.1=false)) {acc:List Io} (hp:acc.Perm (m.map CV)):lK acc=jD m:=by
 have iY:=lu P5 acc;have iY:(lK acc).Perm acc:=iY;obtain ⟨h1,h2⟩:=Bz (m.map CV)
 refine List.Perm.eq_of_pairwise (le:=QK) (fun a b ha hb k1 k2=>?_) (Jm acc) h2 ((iY.trans hp).trans h1.symm)
 have ha':=(iY.trans hp).mem_iff.1 ha;have nH:=h1.mem_iff.1 hb
 refine key_inj hm a ha' b nH ?_ ?_<;>(unfold QK at k1 k2;omega)
theorem acR {dst st:Nat} {l:List (D×D)} {u:St} (h:ae2 dst st l=some (true,u)):∃ X s2 m,l=[(.fU X s2,.bO s2 GR (.int .i64) m)]∧List.length (α:=Hp×Int) m≤1000000∧u=[(2*dst,.sl 2 ldX (jD m))]:=by
 unfold ae2 at h;split at h
 ·rename_i X sx s2 m
  cases hb:Nat.beq sx s2 with
  | false=>rw [hb] at h;cases h
  | true=>
   rw [hb] at h;have:=fD hb;subst this;simp only [aQ,bn,gD] at h;exact ⟨X,sx,m,rfl,Ii h.1,h.2.symm⟩
 ·cases h
theorem alf {w':World} {G:Nat→Nat} {l:List Io} {g n cap base:Nat} (fP:w'.ownsRow base 234 3 (.slice (some ⟨g,0,none⟩) n cap) l.length (l.flatMap Bd)) (hn:n=l.length)
 (hh:∀ x∈l,IntKind.i64.has x.1∧IntKind.i64.has x.2.1∧IntKind.i64.has x.2.2.1):fA w' G ldX l g 0:=by
 subst hn;intro i hi;have hi:i<l.length:=hi;obtain ⟨k1,k2,k3⟩:=hh _ (zG hi)
 have hd:(l.toArray[i]!)=l[i]:=by
  rw [getElem!_pos l.toArray i (by simpa using hi)]
  simp
 have cc:∀ q,q<3→w'.cell? ⟨g,i*3+q,none⟩=some ((Bd l[i])[q]!):=fun q hq=>by
  rw [fP.cellAt (i*3+q) (by omega),EU (enc:=Bd) (k:=3) (fun _=>rfl) (by decide) l (i*3+q) (by omega),show (i*3+q) / 3=i by omega,show (i*3+q)%3=q by omega,hd]
 refine ⟨⟨?_,k1⟩,⟨?_,k2⟩,⟨?_,k3⟩,trivial⟩
 ·show w'.cell? ⟨g,0+i*3,none⟩=_
  rw [show 0+i*3=i*3+0 by omega];exact cc 0 (by omega)
 ·show w'.cell? ⟨g,0+i*3+1,none⟩=_
  rw [show 0+i*3+1=i*3+1 by omega];exact cc 1 (by omega)
 ·show w'.cell? ⟨g,0+i*3+1+1,none⟩=_
  rw [show 0+i*3+1+1=i*3+2 by omega];exact cc 2 (by omega)
theorem alg:OX Tryz.prog B.glob 60 ae2:=by
 intro E C o cl s a w G pt t u _ hm ht iN aY qF R hx;obtain ⟨X,s2,m,hl,hlen,hu⟩:=acR hx;subst hu;obtain ⟨x0,iM,e0⟩:=acK hl;have p0:aV s x0 = .fU X s2:=congrArg Prod.fst e0;have q0:Dn s (aV s x0) = .bO s2 GR (.int .i64) m:=congrArg Prod.snd e0;rw [p0] at q0;have q0:get s (2*X+1) = .bO s2 GR (.int .i64) m:=q0;have r0:=aJ R x0;rw [p0] at r0;have r0:pt X s2=some (a.eval x0):=r0;have hB:=R.bx X;rw [q0] at hB;obtain ⟨b,hp,hG,hM⟩:=hB
 have hv:a.eval x0 = .map (some b):=by rw [r0] at hp;exact Option.some.inj hp
 have hM0:=hM;obtain ⟨es,clock,_,_,_,_,hpw,bK,_,_⟩:=hM0;intro K Q hK
 have bB:=mG (a:=a) (w:=w) aY qF Tryz.func60 (by decide) (by kernel_rfl)
 unfold Oper.wp;rw [bB,Oper.upon_enter]
 have tT:cl.args.map a.eval = #[.map (some b)]:=by
  apply Array.ext';rw [Array.toList_map,iM];simp only [jy,List.map_nil,hv]
 rw [tT];refine (Yc hM hlen).mono ?_;rintro e w' ⟨v,acc,rfl,iY,fP,Eu⟩;have hs:=TH hpw iY;rw [hs] at fP
 have tY:(jD m).length≤1000000:=by
  rw [←hs,show (lK acc).length=acc.length from (lu P5 acc).length_eq,iY.length_eq,pJ]
  exact hlen
 have hh:∀ x∈jD m,IntKind.i64.has x.1∧IntKind.i64.has x.2.1∧IntKind.i64.has x.2.2.1:=fun x hx=>by
  have hx2:=(Bz (m.map CV)).1.mem_iff.1 hx;obtain ⟨p,hp,rfl⟩:=List.mem_map.1 hx2;obtain ⟨⟨h1,h2,-⟩,h3⟩:=bK p hp;exact ⟨h1,h2,h3⟩
 have R2:=R.aqM o (fun t' Yw=>by rw [iN] at Yw;cases Yw;exact ht) Eu (T:=ldX) (l:=jD m) (v:=v) (by
  have ho:=fP
  rcases ho.2 with ⟨rfl,h0⟩ | ⟨g,cap,cur,rfl,e2,e3,e4,e5,e6,e7⟩
  ·exact .inl ⟨rfl,List.length_eq_zero_iff.1 h0⟩
  ·exact .inr ⟨g,cap,cur,234,rfl,e2,e3,e4,by rw [e6];exact bT _,alf fP rfl hh⟩) (by
  show (jD m).length*24≤lW;unfold lW
  omega) (by decide)
 rw [kV iN] at R2;exact hK _ _ _ _ R2
theorem H9 {w:World} {b1 b2 mb:Nat} {m:Mp} {r x y co:Int} (h1:w.cell? ⟨b1,0,none⟩=some (.map (some mb))) (h2:w.cell? ⟨b2,0,none⟩=some (.int .i64 r)) (hM:MapAt w mb wQ (.int .i64) m) (hx:IntKind.i64.has x) (hy:IntKind.i64.has y) :
 Calls Tryz.prog 126 #[.agg #[.int .i64 x,.int .i64 y,.int .i64 co],.pointer (some ⟨b1,0,none⟩),.pointer (some ⟨b2,0,none⟩)] w fun e w'=>
  e = .returned (.bool (decide (mg m (x,y,())<r)))∧Below w.heap.size w w':=by
 have hB:Below w.heap.size w (w.alloc (.cells #[.int .i64 x,.int .i64 y,.int .i64 co] 231)).drew:=((Below.refl _ _).alloc (bT _) _).drew;have WT:=hM.vK hB
 have hl:=(WT.lookup lJ Tryz.underlying138 (x:=(x,y,())) (show Ty.ok wQ (x,y,()) from ⟨hx,hy,trivial⟩) false).1
 have hmg:cZ hpY (.int .i64) m (x,y,())=mg m (x,y,()):=by
  unfold cZ mg
  cases Go.dw.iE wQ (.int .i64) m (x,y,())<;>rfl
 rw [hmg] at hl;have Yr:(Instr.lookup 138 (.map (some mb)) (.agg #[.int .i64 x,.int .i64 y]) false).run Tryz.prog (w.alloc (.cells #[.int .i64 x,.int .i64 y,.int .i64 co] 231)).drew = .ok (.int .i64 (mg m (x,y,()))) (w.alloc (.cells #[.int .i64 x,.int .i64 y,.int .i64 co] 231)).drew:=hl;have g0:(w.alloc (.cells #[.int .i64 x,.int .i64 y,.int .i64 co] 231)).cell? ⟨w.heap.size,0,none⟩=some (.int .i64 x):=bV _ _ _ _;have g1:(w.alloc (.cells #[.int .i64 x,.int .i64 y,.int .i64 co] 231)).cell? ⟨w.heap.size,1,none⟩=some (.int .i64 y):=bV _ _ _ _;have g3:(w.alloc (.cells #[.int .i64 x,.int .i64 y,.int .i64 co] 231)).cell? ⟨b1,0,none⟩=some (.map (some mb)):=(kept_alloc w _).cell h1 id;have g4:(w.alloc (.cells #[.int .i64 x,.int .i64 y,.int .i64 co] 231)).cell? ⟨b2,0,none⟩=some (.int .i64 r):=(kept_alloc w _).cell h2 id;have A:Aside (Below w.heap.size w (w.alloc (.cells #[.int .i64 x,.int .i64 y,.int .i64 co] 231)).drew):=hB;clear hl WT hM hB hmg;generalize mg m (x,y,())=v at *
 go_enter Tryz.func126,Tryz.ntmps126
 go_wp2
 go_region_held3 (fun w'=>w'.cell? ⟨w.heap.size,0,none⟩=some (.int .i64 x)∧w'.cell? ⟨w.heap.size,1,none⟩=some (.int .i64 y)∧w'.cell? ⟨b1,0,none⟩=some (.map (some mb))∧w'.cell? ⟨b2,0,none⟩=some (.int .i64 r)) (first | go_keep | (refine ⟨?_,?_,?_,?_⟩<;>assumption)) (fail)
 all_goals go_wp2
 all_goals go_ret
 all_goals exact ⟨rfl,A.out⟩
structure pI (w:World) (b1 b2 mb:Nat) (m:Mp) (r:Int):Prop where
 c1:w.cell? ⟨b1,0,none⟩=some (.map (some mb))
 c2:w.cell? ⟨b2,0,none⟩=some (.int .i64 r)
 mp:MapAt w mb wQ (.int .i64) m
theorem pI.below {w w':World} {b1 b2 mb:Nat} {m:Mp} {r:Int} (h:pI w b1 b2 mb m r) (hB:Below w.heap.size w w'):pI w' b1 b2 mb m r:=
 ⟨(aC.of_below hB fun _=>False).cell h.c1 id,(aC.of_below hB fun _=>False).cell h.c2 id,h.mp.vK hB⟩
def zC (m:Mp) (r:Int) (a:Ar):Bool:=decide (mg m a.1<r)
def Jo (m:Mp) (r:Int):List Ar→Nat→Int
 | [],_=>-1
 | a::l,i=>bif zC m r a then (i:Int) else Jo m r l (i+1)
theorem acS (m:Mp) (r:Int) (l:List Ar) (k:Nat) (h:k<l.length):Jo m r (l.drop k) k=bif zC m r (l.getD k zA) then (k:Int) else Jo m r (l.drop (k+1)) (k+1):=by
 rw [List.drop_eq_getElem_cons h];simp only [Jo,List.getD,iw h,sw]
theorem Below.kT {w w1 w2:World} (h:Below w.heap.size w w1) (k:Below w1.heap.size w1 w2):Below w.heap.size w w2:=
 ⟨k.os.trans h.os,k.tape.trans h.tape,k.output.trans h.output,gX h.size k.size,fun c hc=>(k.block c (mK hc h.size)).trans (h.block c hc)⟩
theorem Ia {w:World} {b1 b2 mb ab ao c:Nat} {m:Mp} {r:Int} {l:List Ar} {p:Option Addr} (hO:pI w b1 b2 mb m r) (hl:qL w ab ao l) (hp:l≠[]→p=some ⟨ab,ao,none⟩)
 (hh:∀ a∈l,IntKind.i64.has a.1.1∧IntKind.i64.has a.1.2.1) (hlen:l.length≤1000000) :
 Calls Tryz.prog 166 #[.slice p l.length c,.func (.func 126) #[] #[.pointer (some ⟨b1,0,none⟩),.pointer (some ⟨b2,0,none⟩)]] w fun e w'=>e = .returned (.int .i64 (Jo m r l 0))∧Below w.heap.size w w':=by
 go_enter Tryz.func166,Tryz.ntmps166
 go_wp2
 go_loopw [8] (fun v8 wr=>∃ k:Nat,k≤l.length∧v8 = .int .i64 k∧Jo m r (l.drop k) k=Jo m r l 0∧Below w.heap.size w wr) (fun v8 _=>l.length - (RowKit.intOf v8).toNat)
 case atStart=>exact ⟨0,mY _,rfl,rfl,Below.refl _ _⟩
 case round=>
  obtain ⟨k,hk,rfl,Ij,hB⟩:=hrel
  have i0:(0:Int)≤(k:Int):=by omega
  by_cases gI:(k:Int)<(l.length:Int)
  ·have aT:k<l.length:=by omega
   obtain rfl:=hp (fun h=>by rw [h] at aT;exact absurd aT (Nat.not_lt_zero _))
   have hlk:=hl.kept (aC.of_below hB fun _=>False) id
   have q0:=hlk.p0 k aT;have q1:=hlk.p1 k aT;have q2:=hlk.p2 k aT;rw [acS m r l k aT] at Ij
   have yO:IntKind.i64.has (l.getD k zA).1.1∧IntKind.i64.has (l.getD k zA).1.2.1:=by
    rw [List.getD,iw aT];exact hh _ (zG aT)
   generalize l.getD k zA=a at q0 q1 q2 Ij yO;obtain ⟨⟨x,y,⟨⟩⟩,co,⟨⟩⟩:=a;simp only at q0 q1 q2 yO;have hOk:=hO.below hB
   have M7:Calls Tryz.prog 126 #[.agg #[.int .i64 x,.int .i64 y,.int .i64 co],.pointer (some ⟨b1,0,none⟩),.pointer (some ⟨b2,0,none⟩)] wr fun e w'=>e = .returned (.bool (zC m r ((x,y,()),co,())))∧Below wr.heap.size wr w':=
    H9 hOk.c1 hOk.c2 hOk.mp yO.1 yO.2
   have A:Aside ((bif zC m r ((x,y,()),co,()) then (k:Int) else Jo m r (l.drop (k+1)) (k+1))=Jo m r l 0∧Below w.heap.size w wr):=⟨Ij,hB⟩
   clear Ij hB hlk hl hO hOk
   cases hb:zC m r ((x,y,()),co,()) with
   | true=>
    rw [hb] at M7 A;clear hb
    go_wp2_with (first
     | (go_at_call 126;refine M7.mono ?_;rintro e w2 ⟨rfl,yF⟩))
    go_ret
    have e1:(k:Int)=Jo m r l 0:=A.out.1
    exact ⟨by rw [←e1];rfl,Below.kT A.out.2 yF⟩
   | false=>
    rw [hb] at M7 A;clear hb
    go_wp2_with (first
     | (go_at_call 126;refine M7.mono ?_;rintro e w2 ⟨rfl,yF⟩))
    exact ⟨⟨k+1,aT,rfl,A.out.1,Below.kT A.out.2 yF⟩,ji aT⟩
  ·have acM:k=l.length:=by omega
   subst acM;rw [List.drop_length] at Ij;have A:Aside (Jo m r [] l.length=Jo m r l 0∧Below w.heap.size w wr):=⟨Ij,hB⟩;clear Ij hB hl hO
   go_wp2
   go_ret
   have e1:(-1:Int)=Jo m r l 0:=A.out.1
   exact ⟨by rw [←e1];rfl,A.out.2⟩
theorem Jp {P:Program} (w:World) (t e ty:TypeId) (z:Value) (k:Nat) (ht:P.underlying t=some (.slice e)) (hv:∀ w,(zeroValue e).run P w = .ok z w) (hz:z.cells.size=k) (h1:∀ v∈z.cells,v.oneCell' = true) (hk:0<k) (b o n c:Nat) (hn:0<n)
 (hc:∀ j,j<n*k→(w.cell? ⟨b,o+j,none⟩).isSome=true) (hf:∀ j,j<n*k→w.frozen? ⟨b,o+j,none⟩=false) :
 ∃ vs:List Value,vs.length=n*k∧(Builtin.clear_ #[t] ty #[.slice (some ⟨b,o,none⟩) n c]).run P w = .ok (.tuple #[]) (w.setCells b o vs):=by
 have hlen:(Builtin.zeroCells z.cells n).toList.length=n*k:=by
  rw [Array.length_toList,size_zeroCells,hz]
 have Q8:∀ v∈(Builtin.zeroCells z.cells n).toList,v.oneCell' = true:=by
  intro v hv
  have uO:0<z.cells.size:=by omega
  simp only [Builtin.zeroCells,Array.toList_map,List.mem_map] at hv;obtain ⟨i,-,rfl⟩:=hv;have hi:i%z.cells.size<z.cells.size:=Nat.mod_lt _ uO;rw [getElem!_pos z.cells _ hi];exact h1 _ (Array.getElem_mem hi)
 have gG:=run_storeCells_cells (P:=P) b o (Builtin.zeroCells z.cells n).toList 0 w (fun j hj=>by rw [hlen] at hj;simpa using hc j hj) (fun j hj=>by rw [hlen] at hj;simp) Q8
 simp only [Nat.add_zero] at gG
 obtain ⟨m,rfl⟩:∃ m,n=m+1:=⟨n - 1,by omega⟩
 exact ⟨_,hlen,by simp [Builtin.clear_,run_underlying ht,hv,gG]⟩
section
variable {α:Type} [Inhabited α] {enc:α→List Value} {k:Nat}
end
theorem pI.kept {w w':World} {b1 b2 mb g:Nat} {m:Mp} {r:Int} (h:pI w b1 b2 mb m r) (hK:aC w w' fun b=>b=g) (h1:b1≠g) (h2:b2≠g) (h3:mb≠g):pI w' b1 b2 mb m r:=
 ⟨hK.cell h.c1 h1,hK.cell h.c2 h2,h.mp.same (hK.block mb (by obtain ⟨es,c,q,_⟩:=h.mp;exact (E5 q).1) h3)⟩
theorem VG {m:Mp} {r:Int}:∀ {l:List Ar} {i:Nat},Jo m r l i≠-1→∃ k,k<l.length∧Jo m r l i=((i+k:Nat):Int)∧(l.take (k+1)).filter (fun a=>!zC m r a)=l.take k
 | [],_,h=>absurd rfl h
 | a::l,i,h=>by
  simp only [Jo] at h ⊢
  cases hb:zC m r a with
  | true=>exact ⟨0,by simp,by simp,by simp [hb]⟩
  | false=>
   rw [hb] at h;simp only [bJ] at h ⊢;obtain ⟨k,h1,h2,h3⟩:=VG h
   refine ⟨k+1,by simp;exact h1,by rw [h2];congr 1;omega,?_⟩
   rw [List.take_succ_cons,List.filter_cons,hb];simp only [Bool.not_false,if_true];rw [h3,List.take_succ_cons]
theorem KQ {w:World} {b1 b2 mb ab ao c:Nat} {m:Mp} {r:Int} {l:List Ar} {p:Option Addr} (hO:pI w b1 b2 mb m r) (hl:qL w ab ao l) (hp:l≠[]→p=some ⟨ab,ao,none⟩)
 (hh:∀ a∈l,IntKind.i64.has a.1.1∧IntKind.i64.has a.1.2.1) (hlen:l.length≤1000000) (Ij:Jo m r l 0 = -1) :
 Calls Tryz.prog 125 #[.slice p l.length c,.func (.func 126) #[] #[.pointer (some ⟨b1,0,none⟩),.pointer (some ⟨b2,0,none⟩)]] w fun e w'=>e = .returned (.slice p l.length c)∧Below w.heap.size w w':=by
 have acT:=Ia (c:=c) hO hl hp hh hlen;rw [Ij] at acT;clear hO hl hh Ij
 go_enter Tryz.func125,Tryz.ntmps125
 go_wp2_with (first
  | (go_at_call 166;refine acT.mono ?_;rintro e w2 ⟨rfl,yF⟩))
 go_ret
 exact ⟨rfl,yF⟩
def lN (m:Mp) (r:Int) (l:List Ar):List Ar:=l.filter fun a=>!zC m r a
structure CW (w:World) (g cap:Nat) (L:List Ar):Prop where
 len:L.length≤cap
 room:Room w g (cap*3)
 arcs:qL w g 0 L
theorem CW.lt {w:World} {g cap:Nat} {L:List Ar} (h:CW w g cap L):g<w.heap.size:=by
 obtain ⟨cur,e,fr,h1,_⟩:=h.room
 rcases Nat.lt_or_ge g w.heap.size with h | h
 ·exact h
 ·simp [Array.getElem?_eq_none h] at h1
theorem CW.kept {w w':World} {g cap:Nat} {L:List Ar} (h:CW w g cap L) {X:Nat→Prop} (K:aC w w' X) (hX:¬ X g):CW w' g cap L:=
 ⟨h.len,h.room.same (K.block g h.lt hX),h.arcs.kept K hX⟩
theorem CW.set {w:World} {g cap:Nat} {L:List Ar} (h:CW w g cap L) {i:Nat} (hi:i<L.length) (x:Ar):CW (w.setCells g (i*3) (lU x)) g cap (L.set i x):=by
 have hik:i*3+3≤cap*3:=by have:=h.len;omega
 have BD:∀ j (hj:j<3),(w.setCells g (i*3) (lU x)).cell? ⟨g,i*3+j,none⟩=some ((lU x)[j]'(by simpa [lU] using hj)):=fun j hj=>sI h.room (lU x) (by simpa [lU] using hik) (by simpa [lU] using hj)
 have sD:∀ k j,k≠i→j<3→(w.setCells g (i*3) (lU x)).cell? ⟨g,k*3+j,none⟩=w.cell? ⟨g,k*3+j,none⟩:=fun k j hk hj=>mP g (i*3) (lU x) (fun _=>by simp only [lU,lD,List.length_nil];omega)
 have hg:∀ k,k<L.length→(L.set i x).getD k zA=if i=k then x else L.getD k zA:=fun k hk=>by
  simp only [iW,List.getElem?_set]
  by_cases hj:i=k
  ·subst hj;simp [hi]
  ·simp [hj]
 refine ⟨by rw [List.length_set];exact h.len,h.room.set _ _ _,⟨fun k hk=>?_,fun k hk=>?_,fun k hk=>?_⟩⟩
 all_goals
  rw [List.length_set] at hk;rw [hg k hk]
  by_cases FN:i=k
  ·subst FN
   rw [if_pos rfl,Nat.zero_add]
   first
    | exact BD 0 (by omega)
    | exact BD 1 (by omega)
    | exact BD 2 (by omega)
  ·rw [if_neg FN,Nat.zero_add]
   first
    | exact (sD k 0 (fun e=>FN e.symm) (by omega)).trans (by have:=h.arcs.p0 k hk;rw [Nat.zero_add] at this;exact this)
    | exact (sD k 1 (fun e=>FN e.symm) (by omega)).trans (by have:=h.arcs.p1 k hk;rw [Nat.zero_add] at this;exact this)
    | exact (sD k 2 (fun e=>FN e.symm) (by omega)).trans (by have:=h.arcs.p2 k hk;rw [Nat.zero_add] at this;exact this)
structure alh (w:World) (g cap:Nat) (m:Mp) (r:Int) (l:List Ar) (i j:Nat) (L:List Ar):Prop where
 len:L.length=l.length
 hd:L.take i=lN m r (l.take j)
 tl:L.drop j=l.drop j
 lt:i<j
 le:j≤l.length
 row:CW w g cap L
theorem Ye {w:World} {b1 b2 mb g cap:Nat} {m:Mp} {r:Int} {l:List Ar} (hO:pI w b1 b2 mb m r) (fP:CW w g cap l) (Uf:b1≠g) (Zq:b2≠g) (V6:mb≠g)
 (hh:∀ a∈l,IntKind.i64.has a.1.1∧IntKind.i64.has a.1.2.1) (hlen:l.length≤1000000) (Ij:Jo m r l 0≠-1) :
 Calls Tryz.prog 125 #[.slice (some ⟨g,0,none⟩) l.length cap,.func (.func 126) #[] #[.pointer (some ⟨b1,0,none⟩),.pointer (some ⟨b2,0,none⟩)]] w fun e w'=>
  e = .returned (.slice (some ⟨g,0,none⟩) (lN m r l).length cap)∧CW w' g cap (lN m r l)∧aC w w' (fun b=>b=g):=by
 obtain ⟨i0,h1,h2,h3⟩:=VG Ij;rw [Nat.zero_add] at h2
 have acT:=Ia (c:=cap) hO fP.arcs (fun _=>rfl) hh hlen
 rw [h2] at acT
 have n1:¬ (i0:Int) = -1:=by omega
 have n2:(0:Int)≤(i0:Int):=by omega
 have n3:(i0:Int)<(l.length:Int):=by omega
 have HH:Aside (pI w b1 b2 mb m r∧CW w g cap l∧(l.take (i0+1)).filter (fun a=>!zC m r a)=l.take i0):=⟨hO,fP,h3⟩
 clear hO fP h3 Ij h2
 go_enter Tryz.func125,Tryz.ntmps125
 go_wp2_with (first
  | (go_at_call 166;refine acT.mono ?_;rintro e w2 ⟨rfl,yF⟩))
 have hgs:g<w.heap.size:=by
  obtain ⟨hO,fP,_⟩:=HH.out;exact fP.lt
 go_loopg [5,6] (l.length - (i0+1)) (fun kk v5 v6 wr=>∃ (i j:Nat) (L:List Ar),l.length - j=kk∧v5 = .int .i64 i∧v6 = .int .i64 j∧alh wr g cap m r l i j L∧pI wr b1 b2 mb m r∧aC w wr (fun b=>b=g))
 case atStart=>
  obtain ⟨hO,fP,h3⟩:=HH.out
  have hK:=aC.of_below yF fun b=>b=g
  refine ⟨i0,i0+1,l,rfl,rfl,rfl,⟨rfl,h3.symm,rfl,Nat.lt_succ_self _,h1,fP.kept (aC.of_below yF fun _=>False) id⟩,hO.below yF,hK⟩
 case round=>
  obtain ⟨i,j,L,hkk,rfl,rfl,hD,hO,hK⟩:=hrel
  have j0:(0:Int)≤(j:Int):=by omega
  by_cases Om:(j:Int)<(l.length:Int)
  ·have hj:j<l.length:=by omega
   have qO:=hD.lt;have hA:=hD.row.arcs
   have hjL:j<L.length:=by rw [hD.len];exact hj
   have q0:=hA.p0 j hjL;have q1:=hA.p1 j hjL;have q2:=hA.p2 j hjL
   have hLj:L.getD j zA=l.getD j zA:=by
    have h:=congrArg (fun x:List Ar=>x[0]?) hD.tl
    simp only [List.getElem?_drop,Nat.add_zero] at h;simp only [List.getD,h]
   rw [hLj] at q0 q1 q2
   have yO:IntKind.i64.has (l.getD j zA).1.1∧IntKind.i64.has (l.getD j zA).1.2.1:=by
    rw [List.getD,iw hj];exact hh _ (zG hj)
   have VB:lN m r (l.take (j+1))=lN m r (l.take j)++(bif zC m r (l.getD j zA) then [] else [l.getD j zA]):=by
    unfold lN;rw [List.take_add_one,List.filter_append,List.getD,iw hj]
    congr 1
    simp only [Option.toList_some,sw,List.filter_cons,List.filter_nil]
    cases zC m r l[j]<;>rfl
   generalize l.getD j zA=a at q0 q1 q2 yO VB hLj;obtain ⟨⟨x,y,⟨⟩⟩,co,⟨⟩⟩:=a;simp only at q0 q1 q2 yO;rw [Nat.zero_add] at q0 q1 q2
   have M7:∀ W,pI W b1 b2 mb m r→Calls Tryz.prog 126 #[.agg #[.int .i64 x,.int .i64 y,.int .i64 co],.pointer (some ⟨b1,0,none⟩),.pointer (some ⟨b2,0,none⟩)] W fun e w'=>e = .returned (.bool (zC m r ((x,y,()),co,())))∧Below W.heap.size W w':=
    fun W h=>H9 h.c1 h.c2 h.mp yO.1 yO.2
   have hBa:Below wr.heap.size wr (wr.alloc (.cells #[.int .i64 x,.int .i64 y,.int .i64 co] 231)):=(Below.refl _ _).alloc (bT _) _;have hOa:=hO.below hBa
   have A:Aside (alh wr g cap m r l i j L∧aC w wr (fun b=>b=g)∧pI wr b1 b2 mb m r∧lN m r (l.take (j+1))=lN m r (l.take j)++(bif zC m r ((x,y,()),co,()) then [] else [((x,y,()),co,())])∧L.getD j zA=((x,y,()),co,())∧Below wr.heap.size wr (wr.alloc (.cells #[.int .i64 x,.int .i64 y,.int .i64 co] 231))):=⟨hD,hK,hO,VB,hLj,hBa⟩
   clear hA VB hLj hD hK HH hBa
   cases hb:zC m r ((x,y,()),co,()) with
   | true=>
    rw [hb] at M7 A;clear hb
    go_wp2_with (first
     | (go_at_call 126;refine (M7 _ hOa).mono ?_;rintro e w3 ⟨rfl,TJ⟩))
    obtain ⟨a1,a2,a3,a4,a5,a6⟩:=A.out;have EW:=Below.kT a6 TJ;rw [aQ,List.append_nil] at a4
    go_roundg (l.length - (j+1))
    case measure=>omega
    case rel=>
     refine ⟨i,j+1,L,rfl,rfl,rfl,⟨a1.len,a1.hd.trans a4.symm,?_,by omega,hj,a1.row.kept (aC.of_below EW fun _=>False) id⟩,a3.below EW,a2.trans (aC.of_below EW fun b=>b=g) fun _ _ h=>h⟩
     have:=congrArg (fun x:List Ar=>x.drop 1) a1.tl
     simpa [List.drop_drop] using this
   | false=>
    rw [hb] at M7 A;clear hb
    have i0':(0:Int)≤(i:Int):=by omega
    have i1':(i:Int)<(l.length:Int):=by omega
    have facts:∀ w3,Below (wr.alloc (.cells #[.int .i64 x,.int .i64 y,.int .i64 co] 231)).heap.size (wr.alloc (.cells #[.int .i64 x,.int .i64 y,.int .i64 co] 231)) w3 →
     (w3.cell? ⟨wr.heap.size,0,none⟩=some (.int .i64 x)∧w3.cell? ⟨wr.heap.size,1,none⟩=some (.int .i64 y)∧w3.cell? ⟨wr.heap.size,2,none⟩=some (.int .i64 co)) ∧
     ((∃ u,w3.cell? ⟨g,i*3,none⟩=some u)∧(∃ u,w3.cell? ⟨g,i*3+1,none⟩=some u)∧∃ u,w3.cell? ⟨g,i*3+2,none⟩=some u) ∧
     w3.frozen? ⟨g,i*3,none⟩=false∧w3.frozen? ⟨g,i*3+1,none⟩=false∧w3.frozen? ⟨g,i*3+2,none⟩=false:=by
     intro w3 TJ;obtain ⟨a1,a2,a3,a4,a5,a6⟩:=A.out
     have Ny:=aC.of_below TJ fun _=>False
     have Ib:=a1.row.kept (aC.of_below (Below.kT a6 TJ) fun _=>False) id
     have hA3:=Ib.arcs
     have hi3:i<L.length:=by rw [a1.len];omega
     have hic:i*3+3≤cap*3:=by have:=Ib.len;omega
     have e0:=hA3.p0 i hi3;have e1:=hA3.p1 i hi3;have e2:=hA3.p2 i hi3;rw [Nat.zero_add] at e0 e1 e2;have c0:(wr.alloc (.cells #[.int .i64 x,.int .i64 y,.int .i64 co] 231)).cell? ⟨wr.heap.size,0,none⟩=some (.int .i64 x):=bV _ _ _ _;have c1:(wr.alloc (.cells #[.int .i64 x,.int .i64 y,.int .i64 co] 231)).cell? ⟨wr.heap.size,1,none⟩=some (.int .i64 y):=bV _ _ _ _;have c2:(wr.alloc (.cells #[.int .i64 x,.int .i64 y,.int .i64 co] 231)).cell? ⟨wr.heap.size,2,none⟩=some (.int .i64 co):=bV _ _ _ _
     exact ⟨⟨Ny.cell c0 id,Ny.cell c1 id,Ny.cell c2 id⟩,⟨⟨_,e0⟩,⟨_,e1⟩,⟨_,e2⟩⟩,(Ib.room.some (by omega)).2,(Ib.room.some (by omega)).2,(Ib.room.some (by omega)).2⟩
    go_wp2_with (first
     | (go_at_call 126;refine (M7 _ hOa).mono ?_;rintro e w3 ⟨rfl,TJ⟩;obtain ⟨⟨f1,f2,f3⟩,⟨⟨u1,k1⟩,⟨u2,k2⟩,u3,k3⟩,z1,z2,z3⟩:=facts w3 TJ))
    obtain ⟨a1,a2,a3,a4,a5,a6⟩:=A.out;have EW:=Below.kT a6 TJ;rw [bJ] at a4
    have Ib:=a1.row.kept (aC.of_below EW fun _=>False) id
    have hiL:i<l.length:=by omega
    have l9:=Ib.set (i:=i) (by rw [a1.len];exact hiL) ((x,y,()),co,())
    obtain ⟨s1,_,s3,s4,s5,s6⟩:=eY (lU ((x,y,()),co,())) w3 g (i*3)
    have hKs:aC w3 (w3.setCells g (i*3) (lU ((x,y,()),co,()))) (fun b=>b=g):=⟨s4,s6,s5,by rw [s3];exact bT _,fun b _ hb=>s1 b hb⟩
    have hO5:=(a3.below EW).kept hKs Uf Zq V6
    have hK5:=(a2.trans (aC.of_below EW fun b=>b=g) fun _ _ h=>h).trans hKs fun _ _ h=>h
    go_roundg (l.length - (j+1))
    case measure=>omega
    case rel=>
     refine ⟨i+1,j+1,L.set i ((x,y,()),co,()),rfl,rfl,rfl,⟨by rw [List.length_set];exact a1.len,?_,?_,by omega,hj,l9⟩,hO5,hK5⟩
     ·rw [a4,←a1.hd,List.take_set,List.take_add_one,iw (by rw [a1.len];exact hiL)]
      have qN:(L.take i).length=i:=by rw [List.length_take,a1.len];omega
      rw [Option.toList_some,List.set_append_right _ _ (by omega),qN,Nat.sub_self]
      rfl
     ·rw [List.drop_set_of_lt (by omega)]
      have:=congrArg (fun x:List Ar=>x.drop 1) a1.tl
      simpa [List.drop_drop] using this
  ·have awM:j=l.length:=by have:=hD.le;omega
   subst awM
   have i0':(0:Int)≤(i:Int):=by omega
   have ZA:i<l.length:=hD.lt
   have i1':(i:Int)≤(l.length:Int):=by omega
   have i2':(i:Int)<(l.length:Int):=by omega
   have Q9:l.length≤cap:=by have h1:=hD.row.len;rw [hD.len] at h1;exact h1
   have i3':¬ cap=i:=by omega
   have A:Aside (alh wr g cap m r l i l.length L∧aC w wr (fun b=>b=g)):=⟨hD,hK⟩
   obtain ⟨vs,Q5,awN⟩:=Jp (P:=Tryz.prog) wr 142 231 0 _ 3 Tryz.underlying142 Tryz.zeroValue231 rfl (by decide) (by decide) g (i*3) (l.length - i) (cap - i) (by omega) (fun j hj=>by
    have aT:i*3+j<L.length*3:=by rw [hD.len];rw [Nat.sub_mul] at hj;omega
    have hk:(i*3+j) / 3<L.length:=by omega
    have h3:(i*3+j)%3=0∨(i*3+j)%3=1∨(i*3+j)%3=2:=by omega
    have p0:=hD.row.arcs.p0 _ hk;have p1:=hD.row.arcs.p1 _ hk;have p2:=hD.row.arcs.p2 _ hk
    rcases h3 with h | h | h
    ·rw [show 0+(i*3+j) / 3*3=i*3+j by omega] at p0;rw [p0];rfl
    ·rw [show 0+(i*3+j) / 3*3+1=i*3+j by omega] at p1;rw [p1];rfl
    ·rw [show 0+(i*3+j) / 3*3+2=i*3+j by omega] at p2;rw [p2];rfl) (fun j hj=>(hD.row.room.some (by have:=hD.row.len;rw [hD.len] at this;rw [Nat.sub_mul] at hj;omega)).2)
   have A2:Aside (vs.length=(l.length - i)*3):=Q5;generalize hW:wr.setCells g (i*3) vs=W5 at awN;have A3:Aside (wr.setCells g (i*3) vs=W5):=hW;clear hD hK hO HH hW Q5
   go_wp2
   go_ret
   obtain ⟨a1,a2⟩:=A.out;have Q5:=A2.out
   have gI:lN m r l=L.take i:=by rw [a1.hd,List.take_length]
   have FN:(lN m r l).length=i:=by rw [gI,List.length_take,a1.len];omega
   obtain ⟨s1,s2,s3,s4,s5,s6⟩:=eY vs wr g (i*3);rw [A3.out] at s1 s2 s3 s4 s5 s6;rw [FN]
   refine ⟨rfl,?_,a2.trans ⟨s4,s6,s5,by rw [s3];exact bT _,fun b _ hb=>s1 b hb⟩ fun _ _ h=>h⟩
   have hkL:∀ k,k<i→(lN m r l).getD k zA=L.getD k zA:=fun k hk=>by
    rw [gI];simp only [iW,List.getElem?_take,if_pos hk]
   have hc:∀ k j,k<i→j<3→W5.cell? ⟨g,0+k*3+j,none⟩=wr.cell? ⟨g,0+k*3+j,none⟩:=fun k j hk hj=>by
    rw [←A3.out]
    exact mP g (i*3) vs (fun _=>.inl (by omega))
   have hLi:∀ k,k<i→k<L.length:=fun k hk=>by rw [a1.len];omega
   refine ⟨by rw [FN];omega,by rw [←A3.out];exact a1.row.room.set _ _ _,⟨fun k hk=>?_,fun k hk=>?_,fun k hk=>?_⟩⟩
   ·rw [FN] at hk;rw [hkL k hk];exact (hc k 0 hk (by omega)).trans (a1.row.arcs.p0 k (hLi k hk))
   ·rw [FN] at hk;rw [hkL k hk];exact (hc k 1 hk (by omega)).trans (a1.row.arcs.p1 k (hLi k hk))
   ·rw [FN] at hk;rw [hkL k hk];exact (hc k 2 hk (by omega)).trans (a1.row.arcs.p2 k (hLi k hk))
abbrev Nz:Ty:=.st 16 (.cons (.int .i64) (.cons .bool .unit))
abbrev KR:Ty:=.st 40 (.cons (.int .i64) (.cons (.int .i64) (.cons (.int .i64) (.cons (.int .i64) (.cons (.int .i64) .unit)))))
def Ew (base:Nat) (w:World) (ad:Option Addr) (c:Nat) (L:List Ar):Prop:=(ad=none∧L=[]∧c=0)∨∃ g,ad=some ⟨g,0,none⟩∧base≤g∧CW w g c L
theorem Qw {m:Mp} {r:Int}:∀ {l:List Ar} {i:Nat},Jo m r l i = -1→lN m r l=l
 | [],_,_=>rfl
 | a::l,i,h=>by
  simp only [Jo] at h
  cases hb:zC m r a with
  | true=>rw [hb] at h;simp only [aQ] at h;omega
  | false=>
   rw [hb] at h;simp only [bJ] at h;have:=Qw h;unfold lN at this ⊢;rw [List.filter_cons,hb];simp only [Bool.not_false,if_true];rw [this]
theorem TK {w:World} {b1 b2 mb base c:Nat} {ad:Option Addr} {m:Mp} {r:Int} {l:List Ar} (hO:pI w b1 b2 mb m r) (hl:Ew base w ad c l) (h1:b1<base) (h2:b2<base) (h3:mb<base)
 (hh:∀ a∈l,IntKind.i64.has a.1.1∧IntKind.i64.has a.1.2.1) (hlen:l.length≤1000000) (hs:w.heap.size≤base∨True) :
 Calls Tryz.prog 125 #[.slice ad l.length c,.func (.func 126) #[] #[.pointer (some ⟨b1,0,none⟩),.pointer (some ⟨b2,0,none⟩)]] w fun e w'=>
  e = .returned (.slice ad (lN m r l).length c)∧Ew base w' ad c (lN m r l)∧aC w w' (fun b=>base≤b):=by
 have nil:∀ w',Below w.heap.size w w'→Ew base w ad c l→Ew base w' ad c l:=fun w' hB h=>h.imp id fun ⟨g,e1,e2,e3⟩=>⟨g,e1,e2,e3.kept (aC.of_below hB fun _=>False) id⟩
 have hl0:=hl
 rcases hl with ⟨rfl,rfl,rfl⟩ | ⟨g,rfl,hg,hR⟩
 ·refine (KQ (ab:=0) (ao:=0) (p:=none) (c:=0) hO ⟨fun k hk=>absurd hk (by simp),fun k hk=>absurd hk (by simp),fun k hk=>absurd hk (by simp)⟩ (fun h=>absurd rfl h) hh hlen rfl).mono ?_
  rintro e w' ⟨rfl,hB⟩;exact ⟨rfl,.inl ⟨rfl,rfl,rfl⟩,aC.of_below hB _⟩
 ·by_cases Ij:Jo m r l 0 = -1
  ·refine (KQ (c:=c) hO hR.arcs (fun _=>rfl) hh hlen Ij).mono ?_
   rintro e w' ⟨rfl,hB⟩;rw [Qw Ij];exact ⟨rfl,nil w' hB hl0,aC.of_below hB _⟩
  ·refine (Ye hO hR (by omega) (by omega) (by omega) hh hlen Ij).mono ?_
   rintro e w' ⟨rfl,h4,h5⟩
   exact ⟨rfl,.inr ⟨g,rfl,hg,h4⟩,⟨h5.os,h5.tape,h5.output,h5.size,fun b hb hx=>h5.block b hb fun e=>hx (by subst e;exact hg)⟩⟩
theorem Yf {w:World} {mb:Nat} {m:Mp} {r:Int} {rv lv:Value} {l:List Ar} (hM:MapAt w mb wQ (.int .i64) m)
 (hh:∀ a∈l,IntKind.i64.has a.1.1∧IntKind.i64.has a.1.2.1) (hlen:l.length≤1000000)
 (c74:∀ W,Below w.heap.size w W→Calls Tryz.prog 74 #[.agg #[rv,lv]] W fun e W'=>∃ ad c,e = .returned (.slice ad l.length c)∧Ew W.heap.size W' ad c l∧Below W.heap.size W W') :
 Calls Tryz.prog 56 #[.map (some mb),.agg #[rv,lv],.int .i64 r] w fun e w'=>∃ ad c,e = .returned (.slice ad (lN m r l).length c)∧Ew w.heap.size w' ad c (lN m r l)∧Below w.heap.size w w':=by
 have hmb:mb<w.heap.size:=by
  obtain ⟨es,clock,h,_⟩:=hM
  rcases Nat.lt_or_ge mb w.heap.size with h2 | h2
  ·exact h2
  ·simp [Array.getElem?_eq_none h2] at h
 have xB:Below w.heap.size w (((w.alloc (.cells #[.map (some mb)] 138)).alloc (.cells #[rv,lv] 28)).alloc (.cells #[.int .i64 r] 3)):=(((Below.refl _ _).alloc (bT _) _).alloc (by simp) _).alloc (by simp;omega) _
 have awQ:=c74 _ xB;have g1:(((w.alloc (.cells #[.map (some mb)] 138)).alloc (.cells #[rv,lv] 28)).alloc (.cells #[.int .i64 r] 3)).cell? ⟨w.heap.size,0,none⟩=some (.map (some mb)):=(kept_alloc _ _).cell ((kept_alloc _ _).cell (bV _ _ _ _) id) id
 have g3:(((w.alloc (.cells #[.map (some mb)] 138)).alloc (.cells #[rv,lv] 28)).alloc (.cells #[.int .i64 r] 3)).cell? ⟨w.heap.size+2,0,none⟩=some (.int .i64 r):=by
  have:=bV (w:=(w.alloc (.cells #[.map (some mb)] 138)).alloc (.cells #[rv,lv] 28)) #[.int .i64 r] 3 (0,0) 0
  simpa using this
 have HH:Aside (MapAt w mb wQ (.int .i64) m∧(∀ a∈l,IntKind.i64.has a.1.1∧IntKind.i64.has a.1.2.1)∧Below w.heap.size w (((w.alloc (.cells #[.map (some mb)] 138)).alloc (.cells #[rv,lv] 28)).alloc (.cells #[.int .i64 r] 3))):=⟨hM,hh,xB⟩
 clear hM hh c74 xB
 go_enter Tryz.func56,Tryz.ntmps56
 go_wp2_with (first
  | (go_at_call 74;refine awQ.mono ?_;rintro e w2 ⟨ad,c,rfl,hR,yF⟩)
  | (go_at_call 125
     have hO:pI w2 w.heap.size (w.heap.size+1+1) mb m r:=⟨(aC.of_below yF fun _=>False).cell g1 id,(aC.of_below yF fun _=>False).cell g3 id,HH.out.1.vK (Below.kT HH.out.2.2 yF)⟩
     refine (TK hO hR (by simp;omega) (by simp) (by simp;omega) HH.out.2.1 hlen (.inr trivial)).mono ?_
     rintro e w3 ⟨rfl,hR3,Ny⟩))
 go_ret
 have hB:=HH.out.2.2;have eU:=hB.size
 refine ⟨ad,c,rfl,hR3.imp id fun ⟨g,e1,e2,e3⟩=>⟨g,e1,gX eU e2,e3⟩,?_⟩
 have EW:=Below.kT hB yF
 exact ⟨Ny.os.trans EW.os,Ny.tape.trans EW.tape,Ny.output.trans EW.output,gX EW.size Ny.size,fun b hb=>(Ny.block b (mK hb EW.size) (by omega)).trans (EW.block b hb)⟩
theorem acU {w:World} {G:Nat→Nat} {l:List Ar} {b o:Nat} (hr:fA w G Ki l b o):∀ a∈l,IntKind.i64.has a.1.1∧IntKind.i64.has a.1.2.1∧IntKind.i64.has a.2.1:=by
 intro a ha;obtain ⟨k,hk,rfl⟩:=List.getElem_of_mem ha;obtain ⟨⟨h1,h2,-⟩,h3,-⟩:=hr k hk;exact ⟨h1.2,h2.2,h3.2⟩
theorem TL (m:Mp) (l:List Lk) (r:Int):dR m l r=lN m r (Cz l):=rfl
abbrev Qx (W:World) (G:Nat→Nat):Prop:=∀ g k l,B.glob g=some (k,l)→l.length≤G g∧∀ j (h:j<l.length),W.cell? ⟨g,j,none⟩=some (.int k l[j])∧k.has l[j]
theorem Qx.mono {W W':World} {G:Nat→Nat} (h:Qx W G) (hE:Ext W G W' G):Qx W' G:=by
 intro g k l hg;obtain ⟨h1,h2⟩:=h g k l hg
 refine ⟨h1,fun j hj=>?_⟩
 rw [hE.cell g j (by omega)]
 exact h2 j hj
theorem r74 (H:eO Tryz.prog B 74 c74) {W:World} {G:Nat→Nat} {l1:List Rt} {l2:List Lk} {arr:Array Value} (hv:aU W G (fun _ _=>none) (.agg [.sl 0 Nz l1,.sl 0 KR l2]) (.agg arr)) (hlen:l2.length≤1000)
 (Ik:∀ b,W.heap.size≤b→G b=0) (Nk:Qx W G) :
 Calls Tryz.prog 74 #[.agg arr] W fun e W'=>∃ ad c,e = .returned (.slice ad (Cz l2).length c)∧Ew W.heap.size W' ad c (Cz l2)∧(∀ a∈Cz l2,IntKind.i64.has a.1.1∧IntKind.i64.has a.1.2.1)∧Below W.heap.size W W':=by
 refine (mo (ps:=[wS]) (rs:=.one ajq) H rfl (x:=((l1,l2,()),())) (y:=Cz l2) rfl (by show aA.on (decide (l2.length≤1000)) _=_;rw [bL hlen];rfl) (fun j hj=>?_) Ik Nk).mono ?_
 ·match j,hj with
  | 0,_=>exact hv
 ·rintro e W' ⟨vs,G',bC,rfl,R⟩
  have hs:vs.size=1:=R.sz
  match vs,hs with
  | ⟨[x0]⟩,_=>
   have t0:bF W' G' bC (.sl 2 Ki (Cz l2)) x0:=R.tm 0;obtain ⟨ad,n,c,rfl,hn,oN,kW⟩:=t0;have hn:n=(Cz l2).length:=hn;subst hn
   rcases kW with ⟨h1,h2,h3⟩ | ⟨b,h1,h2,h3,h4,h5,_⟩
   ·have h2:Cz l2=[]:=h2
    exact ⟨ad,c,rfl,.inl ⟨h1,h2,h3⟩,by rw [h2];exact fun a ha=>(by cases ha),R.yK⟩
   ·subst h1
    have hc:=R.qZ b 0
    have uO:0<cT (gH (xu [wS] (.one ajq) c74.F) (Cz l2,())) { tmps:=#[.slice (some ⟨b,0,none⟩) (Cz l2).length c],defers:=[] } b 0:=by
     show 0<dS b (.sl 2 Ki (Cz l2)) (.slice (some ⟨b,0,none⟩) (Cz l2).length c);simp [dS]
    have hb:=(R.cb b (mK uO hc)).2
    refine ⟨some ⟨b,0,none⟩,c,rfl,.inr ⟨b,rfl,hb.resolve_right id,h4,h3,P7 h5⟩,fun a ha=>?_,R.yK⟩
    have:=acU h5 a ha;exact ⟨this.1,this.2.1⟩
theorem CX {w:World} {G:Nat→Nat} {pt:Nat→Nat→Option Value} {l1:List Rt} {l2:List Lk} {v:Value} (hv:aU w G pt (.agg [.sl 0 Nz l1,.sl 0 KR l2]) v):∀ a∈Cz l2,IntKind.i64.has a.1.1∧IntKind.i64.has a.1.2.1∧IntKind.i64.has a.2.1:=by
 intro a ha;have ha:=(kS _).mem_iff.1 ha;obtain ⟨k,hk,ha⟩:=List.mem_flatMap.1 ha;obtain ⟨afP,h1,h2,h3⟩:=hv;obtain ⟨ad,n,c,_,hn,oN,YV⟩:=(h3 1 (Nat.lt_succ_self 1)).1
 have hs:l2.length≤c∧(l2=[]∨∃ b o,ad=some ⟨b,o,none⟩∧o+l2.length*KR.nc≤G b∧fA w G KR l2 b o):=YV
 rcases hs.2 with rfl | ⟨b,o,_,_,hr⟩
 ·cases hk
 ·obtain ⟨i,hi,rfl⟩:=List.getElem_of_mem hk
  obtain ⟨h4,h5,h6,h7,_⟩:=hr i hi;have ha:a∈[((l2[i].1,l2[i].2.1,()),l2[i].2.2.1,()),((l2[i].2.1,l2[i].1,()),l2[i].2.2.2.1,())]:=ha;simp only [List.mem_cons,List.not_mem_nil,or_false] at ha
  rcases ha with rfl | rfl
  ·exact ⟨h4.2,h5.2,h6.2⟩
  ·exact ⟨h5.2,h4.2,h7.2⟩
theorem KS (m:Mp) (r:Int) (l:List Ar):(lN m r l).length≤l.length:=List.length_filter_le _ _
theorem r56 (H:eO Tryz.prog B 74 c74) {w:World} {G:Nat→Nat} {mb:Nat} {m:Mp} {r:Int} {l1:List Rt} {l2:List Lk} {arr:Array Value} (hM:MapAt w mb wQ (.int .i64) m) (hv:aU w G (fun _ _=>none) (.agg [.sl 0 Nz l1,.sl 0 KR l2]) (.agg arr)) (hlen:l2.length≤1000)
 (Ik:∀ b,w.heap.size≤b→G b=0) (Nk:Qx w G) :
 Calls Tryz.prog 56 #[.map (some mb),.agg arr,.int .i64 r] w fun e w'=>∃ ad c,e = .returned (.slice ad (dR m l2 r).length c)∧Ew w.heap.size w' ad c (dR m l2 r)∧Below w.heap.size w w':=by
 have eU:arr.size=2:=by
  obtain ⟨afP,h1,h2,_⟩:=hv;cases h1;exact h2
 obtain ⟨v0,v1,rfl⟩:∃ v0 v1,arr = #[v0,v1]:=by
  match arr,eU with
  | ⟨[v0,v1]⟩,_=>exact ⟨v0,v1,rfl⟩
 have tY:(Cz l2).length≤1000000:=by
  have e:(Cz l2).length=(l2.flatMap dV).length:=(kS _).length_eq;rw [e,List.length_flatMap]
  have:(l2.map fun a=>(dV a).length).sum=2*l2.length:=by
   clear hv hlen e
   induction l2 with
   | nil=>rfl
   | cons x t ih=>simp only [jy,List.sum_cons,ih,lD];show 2+2*t.length=_;omega
  omega
 have hh:∀ a∈Cz l2,IntKind.i64.has a.1.1∧IntKind.i64.has a.1.2.1:=fun a ha=>by have:=CX hv a ha;exact ⟨this.1,this.2.1⟩
 rw [TL]
 refine Yf hM hh tY fun W hW=>?_
 have hE:=oD hW Ik
 refine (r74 H (W:=W) (G:=G) (l1:=l1) ?_ hlen (fun b hb=>Ik b (gX hW.size hb)) (Qx.mono Nk hE)).mono ?_
 ·obtain ⟨afP,h1,h2,h3⟩:=hv
  cases h1
  refine ⟨_,rfl,h2,fun j hj=>⟨(h3 j hj).1.mono hE (fun _ _ _ h=>h) fun b hb=>?_,(h3 j hj).2⟩⟩
  exfalso
  have hz:∀ (v:Value) (t:Ty) (l:List t.den),dS b (.sl 0 t l) v=0:=fun v t l=>by
   cases v with
   | slice a _ _=>cases a<;>simp [dS]
   | _=>rfl
  match j,hj with
  | 0,_=>have:0<dS b (.sl 0 Nz l1) _:=hb;rw [hz] at this;omega
  | 1,_=>have:0<dS b (.sl 0 KR l2) _:=hb;rw [hz] at this;omega
 ·rintro e W' ⟨ad,c,rfl,h1,_,h3⟩
  exact ⟨ad,c,rfl,h1,h3⟩
theorem acV {dst st:Nat} {l:List (D×D)} {u:St} (h:ae1 dst st l=some (true,u)):∃ X s2 m l1 l2 r z1 z2,l=[(.fU X s2,.bO s2 GR (.int .i64) m),(.agg [.sl 0 Nz l1,.sl 0 KR l2],z1),(.int .i64 r,z2)]∧List.length (α:=Lk) l2≤1000∧u=[(2*dst,.sl 2 Ki (dR m l2 r))]:=by
 unfold ae1 at h;split at h
 ·rename_i X sx s2 m l1 l2 z1 r z2
  cases hb:Nat.beq sx s2 with
  | false=>rw [hb] at h;cases h
  | true=>
   rw [hb] at h;have:=fD hb;subst this;simp only [aQ,bn,gD] at h;exact ⟨X,sx,m,l1,l2,r,z1,z2,rfl,Ii h.1,h.2.symm⟩
 ·cases h
theorem Ic {w:World} {G:Nat→Nat} {pt:Nat→Nat→Option Value} {l1:List Rt} {l2:List Lk} {v:Value} (h:aU w G pt (.agg [.sl 0 Nz l1,.sl 0 KR l2]) v):aU w G (fun _ _=>none) (.agg [.sl 0 Nz l1,.sl 0 KR l2]) v:=by
 obtain ⟨arr,h1,h2,h3⟩:=h
 refine ⟨arr,h1,h2,fun j hj=>⟨?_,(h3 j hj).2⟩⟩
 match j,hj with
 | 0,_=>exact (h3 0 (Nat.succ_pos 1)).1
 | 1,_=>exact (h3 1 (Nat.lt_succ_self 1)).1
theorem VH {w:World} {base g cap:Nat} {ad:Option Addr} {l:List Ar} (h:Ew base w ad cap l) (hh:∀ a∈l,IntKind.i64.has a.1.1∧IntKind.i64.has a.1.2.1∧IntKind.i64.has a.2.1) (G:Nat→Nat) (he:ad=some ⟨g,0,none⟩):fA w G Ki l g 0:=by
 rcases h with ⟨h1,_⟩ | ⟨g',h1,h2,h3⟩
 ·rw [h1] at he;cases he
 ·rw [h1] at he
  obtain rfl:g' = g:=by cases he;rfl
  intro k hk;have hk:k<l.length:=hk;obtain ⟨q0,q1,q2⟩:=hh _ (zG hk)
  have e:l.getD k zA=l[k]:=by rw [iW,iw hk];rfl
  have p0:=h3.arcs.p0 k hk;have p1:=h3.arcs.p1 k hk;have p2:=h3.arcs.p2 k hk;rw [e] at p0 p1 p2;exact ⟨⟨⟨p0,q0⟩,⟨p1,q1⟩,trivial⟩,⟨p2,q2⟩,trivial⟩
end Go.dw.rO
namespace Go.dw
open Go.RowKit
theorem Rel.ali {E:Env} {C:Ctx} {s:St} {a:Act} {w w':World} {G:Nat→Nat} {pt:Nat→Nat→Option Value} (R:Rel E C s a w G pt) (o:Oper) (ho:∀ t,o.dst=some t→t<E.n) (hB:Below w.heap.size w w') {T:Ty} {l:List T.den} {v:Value}
 (hv:(v = .slice none 0 0∧l=[])∨∃ g cap,v = .slice (some ⟨g,0,none⟩) l.length cap∧w.heap.size≤g∧l.length≤cap∧Room w' g (cap*T.nc)∧fA w' G T l g 0)
 (hb:l.length*T.xk≤lW) (Im:0<T.nc):Rel E C (au (dN o (.sl 2 T l)) s) (a.put o.dst v) w' G pt:=by
 have hE:Ext w G w' G:=⟨fun b o' h=>by
  have:b<w.heap.size:=by
   rcases Nat.lt_or_ge b w.heap.size with h1 | h1
   ·exact h1
   ·have:=R.gz b h1;omega
  exact cell_of_heap (hB.block b this) o',fun _=>bT _⟩
 refine R.put o ho (fun _=>False) hE (fun b _ hb=>⟨hB.block b hb,rfl⟩) (fun b h=>h.elim) ?_ (fun b=>?_) (fun b hb=>R.gz b (gX hB.size hb)) hB.os hB.output hB.tape hB.size
 ·rcases hv with ⟨rfl,rfl⟩ | ⟨g,cap,rfl,h1,h2,h3,h4⟩
  ·exact ⟨none,0,0,rfl,rfl,by simp,.inl ⟨rfl,rfl,rfl⟩⟩
  ·exact ⟨_,_,_,rfl,rfl,hb,.inr ⟨g,rfl,R.gz g h1,h3,h2,h4,Im⟩⟩
 ·rcases hv with ⟨rfl,rfl⟩ | ⟨g,cap,rfl,h1,h2,h3,h4⟩
  ·exact ⟨mY _,fun h=>absurd h (by show ¬ 0<0;omega)⟩
  ·rw [show dP b (.sl 2 T l) (.slice (some ⟨g,0,none⟩) l.length cap)=dS b (.sl 2 T l) (.slice (some ⟨g,0,none⟩) l.length cap) from rfl]
   simp only [dS]
   by_cases h:g=b
   ·subst h
    refine ⟨by simp,fun _=>⟨?_,?_,.inl (gX R.hs h1)⟩⟩
    ·rcases Nat.eq_zero_or_pos (TC E.n C.m s a w pt g) with h0 | h0
     ·exact h0
     ·have:=(R.cb g h0).1
      omega
    ·obtain ⟨cur,e,fr,k1,_⟩:=h3
     rcases Nat.lt_or_ge g w'.heap.size with h | h
     ·exact h
     ·simp [Array.getElem?_eq_none h] at k1
   ·simp [h]
end Go.dw
namespace Go.dw.rO
open Go Go.Proofs Go.Sort Go.RowKit aA
theorem alj (H:eO Tryz.prog B 74 c74):OX Tryz.prog B.glob 56 ae1:=by
 intro E C o cl s a w G pt t u afQ hm ht iN aY qF R hx;obtain ⟨X,s2,m,l1,l2,r,z1,z2,hl,hlen,hu⟩:=acV hx;subst hu;obtain ⟨x0,x1,x2,iM,e0,e1,e2⟩:=acO hl;have p0:aV s x0 = .fU X s2:=congrArg Prod.fst e0;have q0:Dn s (aV s x0) = .bO s2 GR (.int .i64) m:=congrArg Prod.snd e0;have p1:aV s x1 = .agg [.sl 0 Nz l1,.sl 0 KR l2]:=congrArg Prod.fst e1;have p2:aV s x2 = .int .i64 r:=congrArg Prod.fst e2;rw [p0] at q0;have q0:get s (2*X+1) = .bO s2 GR (.int .i64) m:=q0;have r0:=aJ R x0;rw [p0] at r0;have r1:=aJ R x1;rw [p1] at r1;have r2:=aJ R x2;rw [p2] at r2;have r0:pt X s2=some (a.eval x0):=r0;have r2:a.eval x2 = .int .i64 r∧IntKind.i64.has r:=r2;have r1':=Ic r1
 obtain ⟨arr,ha,eU,-⟩:∃ arr,a.eval x1 = .agg arr∧arr.size=2∧aP w G pt [.sl 0 Nz l1,.sl 0 KR l2] (aS arr):=r1
 rw [ha] at r1';have hB:=R.bx X;rw [q0] at hB;obtain ⟨b,hp,hG,hM⟩:=hB
 have hv:a.eval x0 = .map (some b):=by rw [r0] at hp;exact Option.some.inj hp
 have Nk:Qx w G:=fun g k l hg=>R.gl g k l (by rw [afQ];exact hg)
 intro K Q hK
 have bB:=mG (a:=a) (w:=w) aY qF Tryz.func56 (by decide) (by kernel_rfl)
 unfold Oper.wp;rw [bB,Oper.upon_enter]
 have tT:cl.args.map a.eval = #[.map (some b),.agg arr,.int .i64 r]:=by
  apply Array.ext';rw [Array.toList_map,iM];simp only [jy,List.map_nil,hv,ha,r2.1]
 rw [tT];refine (r56 H hM r1' hlen R.gz Nk).mono ?_;rintro e w' ⟨ad,c,rfl,hR,Eu⟩
 have lG:∀ x∈dR m l2 r,x∈Cz l2:=fun x hx=>(List.mem_filter.1 hx).1
 have hle:(dR m l2 r).length≤2000:=by
  have e1:(Cz l2).length=(l2.flatMap dV).length:=(kS _).length_eq;have e2:(dR m l2 r).length≤(Cz l2).length:=KS m r (Cz l2);rw [List.length_flatMap] at e1
  have:(List.map (fun a=>(dV a).length) (l2:List Lk)).sum=2*List.length (α:=Lk) l2:=by
   generalize (l2:List Lk)=q
   induction q with
   | nil=>rfl
   | cons x t ih=>simp only [jy,List.sum_cons,ih,lD];show 2+2*t.length=_;omega
  omega
 have hh:∀ x∈dR m l2 r,IntKind.i64.has x.1.1∧IntKind.i64.has x.1.2.1∧IntKind.i64.has x.2.1:=fun x hx=>CX r1' x (lG x hx)
 have R2:=R.ali o (fun t' Yw=>by rw [iN] at Yw;cases Yw;exact ht) Eu (T:=Ki) (l:=dR m l2 r) (v:=.slice ad (dR m l2 r).length c) (by
  have hR0:=hR
  rcases hR with ⟨rfl,h0,rfl⟩ | ⟨g,rfl,h1,h2⟩
  ·exact .inl ⟨by rw [h0];rfl,h0⟩
  ·exact .inr ⟨g,c,rfl,h1,h2.len,h2.room,VH hR0 hh G rfl⟩) (by
  show (dR m l2 r).length*24≤lW;unfold lW
  omega) (by decide)
 rw [kV iN] at R2;exact hK _ _ _ _ R2
theorem Yg {w:World} {mb:Nat} {rv lv:Value} {ro ra:Int} {ad:Option Addr} {c ib io:Nat} {re out:List Int} {L:List Ar} {V:World→Value→Prop} (hI:tK w ib io re) (hp:re≠[]→ad=some ⟨ib,io,none⟩) (hlen:re.length≤17592186044416)
 (hh:∀ x∈re,IntKind.i64.has x) (hV:∀ W W' v,V W v→Below W.heap.size W W'→V W' v)
 (c56:∀ W,Below w.heap.size w W→Calls Tryz.prog 56 #[.map (some mb),.agg #[rv,lv],.int .i64 ra] W fun e W'=>∃ ad c,e = .returned (.slice ad L.length c)∧Ew W.heap.size W' ad c L∧Below W.heap.size W W')
 (Xn:∀ (W W0:World) ad c,Below w.heap.size w W→W0.heap.size≤W.heap.size→w.heap.size≤W0.heap.size→Ew W0.heap.size W ad c L→Calls Tryz.prog 130 #[.slice ad L.length c,.int .i64 ro] W fun e W'=>∃ v,e = .returned v∧V W' v∧Below W.heap.size W W')
 (c87:∀ W v x,Below w.heap.size w W→V W v→IntKind.i64.has x→Calls Tryz.prog 87 #[v,.int .i64 x] W fun e W'=>∃ k,e = .returned (.tuple #[.int .i64 k,.bool (has out x)])∧Below W.heap.size W W') :
 Calls Tryz.prog 61 #[.agg #[rv,lv],.map (some mb),.agg #[.int .i64 ro,.slice ad re.length c,.int .i64 ra]] w fun e w'=>
  ∃ v,e = .returned (.tuple #[v,.bool (re.all fun x=>has out x)])∧V w' v∧Below w.heap.size w w':=by
 have xB:Below w.heap.size w ((w.alloc (.cells #[rv,lv] 28)).alloc (.cells #[.int .i64 ro,.slice ad re.length c,.int .i64 ra] 88)):=((Below.refl _ _).alloc (bT _) _).alloc (by simp) _
 have g0:((w.alloc (.cells #[rv,lv] 28)).alloc (.cells #[.int .i64 ro,.slice ad re.length c,.int .i64 ra] 88)).cell? ⟨w.heap.size,0,none⟩=some rv:=(kept_alloc _ _).cell (bV _ _ _ _) id;have g1:((w.alloc (.cells #[rv,lv] 28)).alloc (.cells #[.int .i64 ro,.slice ad re.length c,.int .i64 ra] 88)).cell? ⟨w.heap.size,1,none⟩=some lv:=(kept_alloc _ _).cell (bV _ _ _ _) id
 have g2:((w.alloc (.cells #[rv,lv] 28)).alloc (.cells #[.int .i64 ro,.slice ad re.length c,.int .i64 ra] 88)).cell? ⟨w.heap.size+1,0,none⟩=some (.int .i64 ro):=by
  simp
 have g3:((w.alloc (.cells #[rv,lv] 28)).alloc (.cells #[.int .i64 ro,.slice ad re.length c,.int .i64 ra] 88)).cell? ⟨w.heap.size+1,1,none⟩=some (.slice ad re.length c):=by
  simp
 have g4:((w.alloc (.cells #[rv,lv] 28)).alloc (.cells #[.int .i64 ro,.slice ad re.length c,.int .i64 ra] 88)).cell? ⟨w.heap.size+1,2,none⟩=some (.int .i64 ra):=by
  simp
 go_enter Tryz.func61,Tryz.ntmps61
 go_wp2
 generalize hW0:((w.alloc (.cells #[rv,lv] 28)).alloc (.cells #[.int .i64 ro,.slice ad re.length c,.int .i64 ra] 88))=W0 at *
 go_region_held3 (fun w'=>Below w.heap.size w w'∧w'.cell? ⟨w.heap.size,0,none⟩=some rv∧w'.cell? ⟨w.heap.size,1,none⟩=some lv∧w'.cell? ⟨w.heap.size+1,0,none⟩=some (.int .i64 ro)∧w'.cell? ⟨w.heap.size+1,1,none⟩=some (.slice ad re.length c)∧w'.cell? ⟨w.heap.size+1,2,none⟩=some (.int .i64 ra))
  (refine ⟨?_,?_,?_,?_,?_,?_⟩<;>first | assumption | exact xB.drew | go_keep)
  (first
   | (go_at_call 56
      refine (c56 W0.drew xB.drew).mono ?_;rintro e w2 ⟨ad2,cc2,rfl,hR2,yF⟩;have ku:Below w.heap.size w w2:=Below.kT xB.drew yF
      have kb2:=aC.of_below yF fun _=>False
      have h0:w2.cell? ⟨w.heap.size,0,none⟩=some rv:=kb2.cell g0 id;have h1:w2.cell? ⟨w.heap.size,1,none⟩=some lv:=kb2.cell g1 id;have h2:w2.cell? ⟨w.heap.size+1,0,none⟩=some (.int .i64 ro):=kb2.cell g2 id;have h3:w2.cell? ⟨w.heap.size+1,1,none⟩=some (.slice ad re.length c):=kb2.cell g3 id
      have h4:w2.cell? ⟨w.heap.size+1,2,none⟩=some (.int .i64 ra):=kb2.cell g4 id)
   | (go_at_call 130
      refine (Xn w2 W0.drew _ _ ku yF.size xB.drew.size hR2).mono ?_;rintro e w4 ⟨v4,rfl,hV4,EW⟩;have V7:Below w.heap.size w w4:=Below.kT ku EW
      have kb4:=aC.of_below EW fun _=>False
      have j0:w4.cell? ⟨w.heap.size,0,none⟩=some rv:=kb4.cell h0 id;have j1:w4.cell? ⟨w.heap.size,1,none⟩=some lv:=kb4.cell h1 id;have j2:w4.cell? ⟨w.heap.size+1,0,none⟩=some (.int .i64 ro):=kb4.cell h2 id;have j3:w4.cell? ⟨w.heap.size+1,1,none⟩=some (.slice ad re.length c):=kb4.cell h3 id
      have j4:w4.cell? ⟨w.heap.size+1,2,none⟩=some (.int .i64 ra):=kb4.cell h4 id))
 go_wp2
 go_loopw [24] (fun v24 wr=>∃ k:Nat,k≤re.length∧v24 = .int .i64 k∧(re.take k).all (fun x=>has out x)=true∧V wr v4∧Below w.heap.size w wr) (fun v24 _=>re.length - (RowKit.intOf v24).toNat)
 case atStart=>exact ⟨0,mY _,rfl,rfl,hV4,V7⟩
 case round=>
  obtain ⟨k,hk,rfl,oO,hVr,EX⟩:=hrel
  have i0:(0:Int)≤(k:Int):=by omega
  by_cases gI:(k:Int)<(re.length:Int)
  ·have aT:k<re.length:=by omega
   obtain rfl:=hp (fun h=>by rw [h] at aT;exact absurd aT (Nat.not_lt_zero _))
   have q0:=(aC.of_below EX fun _=>False).cell (hI.at_ k aT) id
   have yO:IntKind.i64.has (re.getD k 0):=by
    rw [List.getD,iw aT];exact hh _ (zG aT)
   have VB:(re.take (k+1)).all (fun x=>has out x)=has out (re.getD k 0):=by
    rw [List.take_add_one,iw aT,List.all_append,oO,List.getD,iw aT];simp
   have hex:has out (re.getD k 0)=false→(re.all fun x=>has out x)=false:=fun h=>by
    rw [List.all_eq_false]
    exact ⟨re.getD k 0,by rw [List.getD,iw aT];exact zG aT,by rw [h];simp⟩
   have acW:=c87 wr v4 (re.getD k 0) EX hVr yO;generalize re.getD k 0=x at q0 acW VB hex
   have A:Aside ((re.take (k+1)).all (fun x=>has out x)=has out x∧V wr v4∧Below w.heap.size w wr∧(has out x=false→(re.all fun x=>has out x)=false)):=⟨VB,hVr,EX,hex⟩
   clear VB hVr EX oO hex
   cases hb:has out x with
   | true=>
    rw [hb] at acW A;clear hb
    go_wp2_with (first
     | (go_at_call 87;refine acW.mono ?_;rintro e w5 ⟨kk,rfl,hB5⟩))
    exact ⟨⟨k+1,aT,rfl,A.out.1,hV _ _ _ A.out.2.1 hB5,Below.kT A.out.2.2.1 hB5⟩,ji aT⟩
   | false=>
    rw [hb] at acW A;clear hb
    go_wp2_with (first
     | (go_at_call 87;refine acW.mono ?_;rintro e w5 ⟨kk,rfl,hB5⟩))
    go_ret2
    refine ⟨v4,?_,hV _ _ _ A.out.2.1 hB5,Below.kT A.out.2.2.1 hB5⟩
    have hf:(re.all fun x=>has out x)=false:=by first | exact A.out.2.2.2 trivial | exact A.out.2.2.2 rfl
    rw [hf]
    first | rfl | simp
  ·have acM:k=re.length:=by omega
   subst acM;rw [List.take_length] at oO
   have A:Aside ((re.all fun x=>has out x)=true∧V wr v4∧Below w.heap.size w wr):=⟨oO,hVr,EX⟩
   clear oO hVr EX
   go_wp2
   go_ret2
   refine ⟨v4,?_,A.out.2.1,A.out.2.2⟩;rw [A.out.1]
   first | rfl | simp
def LiV (w:World) (G:Nat→Nat) (l:List Int) (W:World) (v:Value):Prop:=∃ G',(∀ b,b<w.heap.size→G' b=G b)∧Ext w G W G'∧(∀ b,W.heap.size≤b→G' b=0)∧Qx W G'∧bF W G' (fun _ _=>none) (.sl 0 (.int .i64) l) v
theorem w9 {b:Nat} {t:Ty} {l:List t.den} {v:Value}:dS b (.sl 0 t l) v=0:=by
 cases v with
 | slice a _ _=>cases a<;>simp [dS]
 | _=>rfl
theorem LiV.mono {w:World} {G:Nat→Nat} {l:List Int} {W W':World} {v:Value} (h:LiV w G l W v) (hB:Below W.heap.size W W'):LiV w G l W' v:=by
 obtain ⟨G',h1,h2,h3,h4,h5⟩:=h;have hE:=oD hB h3
 exact ⟨G',h1,h2.trans hE,fun b hb=>h3 b (gX hB.size hb),Qx.mono h4 hE,h5.mono hE (fun _ _ _ h=>h) fun b hb=>by rw [w9] at hb;omega⟩
theorem awS (H:eO Tryz.prog B 130 Xn) {w W:World} {G:Nat→Nat} {base:Nat} {ad:Option Addr} {c:Nat} {L:List Ar} {ro:Int} (Ik:∀ b,w.heap.size≤b→G b=0) (Nk:Qx w G) (hB:Below w.heap.size w W) (hb:w.heap.size≤base) (hR:Ew base W ad c L)
 (hlen:L.length≤2000) (hh:∀ a∈L,IntKind.i64.has a.1.1∧IntKind.i64.has a.1.2.1∧IntKind.i64.has a.2.1) (hro:IntKind.i64.has ro) :
 Calls Tryz.prog 130 #[.slice ad L.length c,.int .i64 ro] W fun e W'=>∃ v,e = .returned v∧LiV w G (D6 L ro) W' v∧Below W.heap.size W W':=by
 have hE:=oD hB Ik
 obtain ⟨G1,e1,e2,e3,e4⟩:∃ G1,(∀ b,b<w.heap.size→G1 b=G b)∧Ext w G W G1∧(∀ b,W.heap.size≤b→G1 b=0)∧bF W G1 (fun _ _=>none) (.sl 0 Ki L) (.slice ad L.length c):=by
  have oN:L.length*24≤lW:=by unfold lW;omega
  have hR0:=hR
  rcases hR with ⟨rfl,h2,rfl⟩ | ⟨g,rfl,h1,h2⟩
  ·exact ⟨G,fun _ _=>rfl,hE,fun b hb=>Ik b (gX hB.size hb),none,_,0,rfl,rfl,oN,by rw [h2];exact bT _,.inl h2⟩
  ·have aT:=h2.lt
   refine ⟨fun x=>if x=g then L.length*3 else G x,fun b hb=>by
    show (if b=g then _ else _)=_
    rw [if_neg (by omega)],⟨hE.cell,fun x=>?_⟩,fun b hb=>by
    show (if b=g then _ else _)=0
    rw [if_neg (by omega)];exact Ik b (by have:=hB.size;omega),some ⟨g,0,none⟩,_,c,rfl,rfl,oN,h2.len,.inr ⟨g,0,rfl,?_,VH hR0 hh _ rfl⟩⟩
   ·show G x≤if x=g then _ else _
    by_cases hx:x=g
    ·rw [hx,Ik g (by omega)];exact mY _
    ·rw [if_neg hx];exact bT _
   ·show 0+L.length*3≤if g=g then _ else _
    rw [if_pos rfl];omega
 have awU:Qx W G1:=fun g k l hg=>by
  obtain ⟨q1,q2⟩:=Nk g k l hg
  refine ⟨gX q1 (e2.le g),fun j hj=>?_⟩
  rw [e2.cell g j (by omega)]
  exact q2 j hj
 refine (mo (ps:=[lar,i]) (rs:=.one ls) H rfl (x:=(L,ro,())) (y:=D6 L ro) rfl (by show aA.on (decide (L.length≤2000)) _=_;rw [bL hlen];rfl) (fun j hj=>?_) e3 awU).mono ?_
 ·match j,hj with
  | 0,_=>exact e4
  | 1,_=>exact ⟨rfl,hro⟩
 ·rintro e W' ⟨vs,G',bC,rfl,R⟩
  have hs:vs.size=1:=R.sz
  match vs,hs with
  | ⟨[x0]⟩,_=>
   have t0:bF W' G' bC (.sl 0 (.int .i64) (D6 L ro)) x0:=R.tm 0
   refine ⟨x0,rfl,⟨G',fun b hb=>?_,e2.trans R.ex,R.gz,R.gl,t0⟩,R.yK⟩
   rw [(R.fr b (mK hb hB.size) (fun h=>h)).2]
   exact e1 b hb
theorem r87 (H:eO Tryz.prog B 87 c87) {w W:World} {G:Nat→Nat} {l:List Int} {v:Value} {x:Int} (hl:l.Pairwise (· < ·)) (hV:LiV w G l W v) (hx:IntKind.i64.has x) :
 Calls Tryz.prog 87 #[v,.int .i64 x] W fun e W'=>∃ k,e = .returned (.tuple #[.int .i64 k,.bool (has l x)])∧Below W.heap.size W W':=by
 obtain ⟨G',h1,h2,h3,h4,h5⟩:=hV
 refine (mo (ps:=[ls,i]) (rs:=.iJ [i,b]) H rfl (x:=(l,x,())) (y:=bsI l x) rfl (by show aA.on (upI l) _=_;rw [acF hl];rfl) (fun j hj=>?_) h3 h4).mono ?_
 ·match j,hj with
  | 0,_=>exact h5
  | 1,_=>exact ⟨rfl,hx⟩
 ·rintro e W' ⟨vs,G2,bC,rfl,R⟩
  have hs:vs.size=2:=R.sz
  match vs,hs with
  | ⟨[x0,x1]⟩,_=>
   have t0:x0 = .int .i64 (bsI l x).1∧_:=R.tm 0;have t1:x1 = .bool (bsI l x).2.1:=R.tm 1;refine ⟨(bsI l x).1,?_,R.yK⟩;rw [t0.1,t1];rfl
theorem acY {dst st:Nat} {l:List (D×D)} {u:St} (h:ae3 dst st l=some (true,u)):∃ X s2 m l1 l2 ro re ra z1 z2,l=[(.agg [.sl 0 Nz l1,.sl 0 KR l2],z1),(.fU X s2,.bO s2 GR (.int .i64) m),(.agg [.int .i64 ro,.sl 0 (.int .i64) re,.int .i64 ra],z2)]∧List.length (α:=Lk) l2≤1000 ∧
 u=[(2*dst,.iJ [.sl 0 (.int .i64) (D6 (dR m l2 ra) ro),.bool (re.all fun x=>has (D6 (dR m l2 ra) ro) x)])]:=by
 unfold ae3 at h;split at h
 ·rename_i l1 l2 z1 X sx s2 m ro re ra z2
  cases hb:Nat.beq sx s2 with
  | false=>rw [hb] at h;cases h
  | true=>
   rw [hb] at h;have:=fD hb;subst this;simp only [aQ,bn,gD] at h;exact ⟨X,sx,m,l1,l2,ro,re,ra,z1,z2,rfl,Ii h.1,h.2.symm⟩
 ·cases h
theorem Yh (m:Mp) (l2:List Lk) (r:Int):(dR m l2 r).length≤2*l2.length:=by
 have e1:(Cz l2).length=(l2.flatMap dV).length:=(kS _).length_eq;have e2:(dR m l2 r).length≤(Cz l2).length:=KS m r (Cz l2);rw [List.length_flatMap] at e1
 have:(List.map (fun a=>(dV a).length) l2).sum=2*l2.length:=by
  clear e1 e2
  induction l2 with
  | nil=>rfl
  | cons x t ih=>simp only [jy,List.sum_cons,ih,lD];show 2+2*t.length=_;omega
 omega
theorem alk (H74:eO Tryz.prog B 74 c74) (awV:eO Tryz.prog B 130 Xn) (H87:eO Tryz.prog B 87 c87):OX Tryz.prog B.glob 61 ae3:=by
 intro E C o cl s a w G pt t u afQ hm ht iN aY qF R hx;obtain ⟨X,s2,m,l1,l2,ro,re,ra,z1,z2,hl,hlen,hu⟩:=acY hx;subst hu;obtain ⟨x0,x1,x2,iM,e0,e1,e2⟩:=acO hl;have p0:aV s x0 = .agg [.sl 0 Nz l1,.sl 0 KR l2]:=congrArg Prod.fst e0;have p1:aV s x1 = .fU X s2:=congrArg Prod.fst e1;have q1:Dn s (aV s x1) = .bO s2 GR (.int .i64) m:=congrArg Prod.snd e1;have p2:aV s x2 = .agg [.int .i64 ro,.sl 0 (.int .i64) re,.int .i64 ra]:=congrArg Prod.fst e2;rw [p1] at q1;have q1:get s (2*X+1) = .bO s2 GR (.int .i64) m:=q1;have r0:=aJ R x0;rw [p0] at r0;have r1:=aJ R x1;rw [p1] at r1;have r2:=aJ R x2;rw [p2] at r2;have r1:pt X s2=some (a.eval x1):=r1;have r0':=Ic r0
 obtain ⟨arr,ha,eU,-⟩:∃ arr,a.eval x0 = .agg arr∧arr.size=2∧aP w G pt [.sl 0 Nz l1,.sl 0 KR l2] (aS arr):=r0
 rw [ha] at r0'
 obtain ⟨v0,v1,rfl⟩:∃ v0 v1,arr = #[v0,v1]:=by
  match arr,eU with
  | ⟨[v0,v1]⟩,_=>exact ⟨v0,v1,rfl⟩
 obtain ⟨dr,hd,hdz,hde⟩:∃ arr,a.eval x2 = .agg arr∧arr.size=3∧aP w G pt [.int .i64 ro,.sl 0 (.int .i64) re,.int .i64 ra] (aS arr):=r2
 obtain ⟨d0,d1,d2,rfl⟩:∃ d0 d1 d2,dr = #[d0,d1,d2]:=by
  match dr,hdz with
  | ⟨[d0,d1,d2]⟩,_=>exact ⟨d0,d1,d2,rfl⟩
 have f0:d0 = .int .i64 ro∧IntKind.i64.has ro:=(hde 0 (show (0:Nat)<3 by decide)).1
 have f2:d2 = .int .i64 ra∧IntKind.i64.has ra:=(hde 2 (show (2:Nat)<3 by decide)).1
 obtain ⟨ad,n,c,rfl,hn,oN,kW⟩:∃ ad n c,d1 = .slice ad n c∧n=List.length (α:=Int) re∧n*8≤lW∧VQ w G 0 (.int .i64) re ad c:=(hde 1 (show (1:Nat)<3 by decide)).1
 obtain ⟨rfl,hro⟩:=f0;obtain ⟨rfl,hra⟩:=f2;subst hn;have hB:=R.bx X;rw [q1] at hB;obtain ⟨b,hp,hG,hM⟩:=hB
 have hv:a.eval x1 = .map (some b):=by rw [r1] at hp;exact Option.some.inj hp
 have Nk:Qx w G:=fun g k l hg=>R.gl g k l (by rw [afQ];exact hg)
 obtain ⟨ib,io,hI,hpp,hhx⟩:∃ ib io,tK w ib io re∧(re≠[]→ad=some ⟨ib,io,none⟩)∧(∀ x:Int,x∈(re:List Int)→IntKind.i64.has x):=by
  rcases kW.2 with h0 | ⟨ib,io,rfl,_,hr⟩
  ·have h0:re=[]:=h0
   subst h0
   exact ⟨0,0,⟨fun k hk=>absurd hk (by simp)⟩,fun h=>absurd rfl h,fun x hx=>by cases hx⟩
  ·obtain ⟨h1,h2⟩:=P8 hr
   exact ⟨ib,io,h1,fun _=>rfl,h2⟩
 have aGo:List.length (α:=Int) re*8≤140737488355328:=oN;intro K Q hK
 have bB:=mG (a:=a) (w:=w) aY qF Tryz.func61 (by decide) (by kernel_rfl)
 unfold Oper.wp;rw [bB,Oper.upon_enter]
 have tT:cl.args.map a.eval = #[.agg #[v0,v1],.map (some b),.agg #[.int .i64 ro,.slice ad (List.length (α:=Int) re) c,.int .i64 ra]]:=by
  apply Array.ext';rw [Array.toList_map,iM];simp only [jy,List.map_nil,hv,ha,hd]
 rw [tT]
 have lG:∀ x∈dR m l2 ra,x∈Cz l2:=fun x hx=>(List.mem_filter.1 hx).1
 have hh:∀ x∈dR m l2 ra,IntKind.i64.has x.1.1∧IntKind.i64.has x.1.2.1∧IntKind.i64.has x.2.1:=fun x hx=>CX r0' x (lG x hx)
 have hol:=Yh m l2 ra
 have awW:(dR m l2 ra).length≤2000:=by omega
 refine (Yg (L:=dR m l2 ra) (out:=D6 (dR m l2 ra) ro) (V:=LiV w G (D6 (dR m l2 ra) ro)) hI hpp (by omega) hhx (fun W W' v h1 h2=>h1.mono h2) (fun W hW=>?_) (fun W W0 ad2 c2 hW h1 h2 hR=>?_) (fun W v x hW h1 h2=>r87 H87 (ak1 _ _) h1 h2)).mono ?_
 ·have hE:=oD hW R.gz
  refine r56 H74 (w:=W) (G:=G) (l1:=l1) (hM.vK hW) ?_ hlen (fun b hb=>R.gz b (gX hW.size hb)) (Qx.mono Nk hE)
  obtain ⟨afP,h1,h2,h3⟩:=r0';cases h1
  refine ⟨_,rfl,h2,fun j hj=>⟨(h3 j hj).1.mono hE (fun _ _ _ h=>h) fun b hb=>?_,(h3 j hj).2⟩⟩
  exfalso
  match j,hj with
  | 0,_=>have:0<dS b (.sl 0 Nz l1) _:=hb;rw [w9] at this;omega
  | 1,_=>have:0<dS b (.sl 0 KR l2) _:=hb;rw [w9] at this;omega
 ·exact awS awV R.gz Nk hW h2 hR awW hh hro
 ·rintro e w' ⟨v,rfl,⟨G',k1,k2,k3,k4,k5⟩,Eu⟩
  have R2:=R.put o (fun t' Yw=>by rw [iN] at Yw;cases Yw;exact ht) (d':=.iJ [.sl 0 (.int .i64) (D6 (dR m l2 ra) ro),.bool (re.all fun x=>has (D6 (dR m l2 ra) ro) x)]) (v':=.tuple #[v,.bool (re.all fun x=>has (D6 (dR m l2 ra) ro) x)])
   (fun x=>w.heap.size≤x) k2 (fun x hx QH=>⟨Eu.block x QH,k1 x QH⟩) (fun x hx=>⟨by
    rcases Nat.eq_zero_or_pos (TC E.n C.m s a w pt x) with h0 | h0
    ·exact h0
    ·have:=(R.cb x h0).1;omega,.inl (gX R.hs hx)⟩) ⟨_,rfl,rfl,fun j hj=>?_⟩ (fun x=>?_) k3 Eu.os Eu.output Eu.tape Eu.size
  ·rw [kV iN] at R2
   exact hK _ _ _ _ R2
  ·match j,hj with
   | 0,_=>exact k5
   | 1,_=>exact rfl
  ·have hz:dP x (.iJ [.sl 0 (.int .i64) (D6 (dR m l2 ra) ro),.bool (re.all fun x=>has (D6 (dR m l2 ra) ro) x)]) (.tuple #[v,.bool (re.all fun x=>has (D6 (dR m l2 ra) ro) x)])=0:=by
    show Fb x (.sl 0 (.int .i64) _) v+(Fb x (.bool _) _+0)=0;have e1:Fb x (.sl 0 (.int .i64) (D6 (dR m l2 ra) ro)) v=dS x (.sl 0 (.int .i64) (D6 (dR m l2 ra) ro)) v:=rfl;rw [e1,w9];rfl
   exact ⟨by omega,fun h=>by omega⟩
end Go.dw.rO