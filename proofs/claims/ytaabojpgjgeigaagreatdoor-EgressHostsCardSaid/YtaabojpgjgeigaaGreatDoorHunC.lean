/- Chapter 29 (egress, hosts): proved is that functions that the law reaches keep their contracts (tape, filters, bits, tables); no conditions but those that each theorem states. -/
import Derived.Test.YtaabojpgjgeigaaGreatDoorHunB
import Derived.Lib.TrailingZeros
import Derived.Sort.AssemblyPlain
set_option linter.unusedVariables false
set_option linter.unusedSimpArgs false
namespace ah
open Go Go.gI
theorem iq {α:Type} {b:Bool} {x y:α} (h:on b x=some y):b=true∧x=y:=by
 unfold on at h
 cases b with
 | false=>cases h
 | true=>exact ⟨rfl,Option.some.inj h⟩
theorem fI {α:Type} {b:Bool} {x:α} (h:b=true):on b x=some x:=by rw [h];rfl
end ah
namespace Go.gI.qJ
open Go Go.Proofs ah
set_option maxRecDepth 100000
theorem fI {α:Type} {b:Bool} {x:α} (h:b=true):on b x=some x:=by rw [h];rfl
theorem Fg {t:Tp}:wf t=true↔0≤t.2.1∧t.2.1≤t.1.length∧t.1.length≤2000:=by
 simp [wf,and_assoc]
theorem Du {n:Int}:small n=true↔-2305843009213693952≤n∧n≤2305843009213693952:=by
 simp [small]
theorem SE {t:Tp} (h:wf t=true):wf (raw t).2=true:=by
 obtain ⟨l,a,⟨⟩⟩:=t;obtain ⟨h1,h2,h3⟩:=Fg.1 h;simp only at h1 h2 h3;unfold raw
 by_cases h4:a<l.length
 ·simp only [h4,decide_true,aQ]
  exact Fg.2 ⟨by simp only;omega,by simp only;omega,h3⟩
 ·simp only [h4,decide_false,bU]
  exact h
theorem wu {t:Tp} {n:Int} (h:wf t=true):wf (next t n).2=true:=SE h
theorem wz {t:Tp} {l:List Int} (h:wf t=true):wf (pick t l).2=true:=SE h
theorem BD {x n:Int}:0≤cut x n:=by
 unfold cut
 by_cases h:n<1
 ·simp [h]
 ·simp only [h,decide_false,bU]
  exact Int.emod_nonneg x (by omega)
theorem acP {x n:Int} (h:1≤n):cut x n<n:=by
 unfold cut
 have h':¬ n<1:=by omega
 simp only [h',decide_false,bU]
 exact Int.emod_lt_of_pos x (by omega)
theorem kK {t:Tp} {n:Int} (h:1≤n):0≤(next t n).1∧(next t n).1<n:=⟨BD,acP h⟩
theorem jY {t:Tp} {a b:Int} (h:wf t=true):wf (range t a b).2=true:=wu (n:=b - a+1) h
theorem Ke {t:Tp} {n:Int}:0≤(next t n).1∧((next t n).1<n∨(next t n).1=0):=by
 by_cases h:1≤n
 ·have:=kK (t:=t) h
  exact ⟨this.1,.inl this.2⟩
 ·refine ⟨BD,.inr ?_⟩
  show cut (raw t).1 n=0;unfold cut
  have:n<1:=by omega
  simp [this]
theorem SF {t:Tp} {l:List Int} (h:l≠[]):(pick t l).1∈l:=by
 have h0:0<l.length:=List.length_pos_iff.2 h
 have:=kK (t:=t) (n:=(l.length:Int)) (by omega)
 unfold pick
 exact kX (by omega)
theorem aZ {n a b:Int}:inside n a b=true↔a≤n∧n≤b:=by simp [inside]
theorem SG {n a b:Int} (h:¬ (a≤n∧n≤b)):inside n a b=false:=by
 cases hb:inside n a b with
 | false=>rfl
 | true=>exact absurd (aZ.1 hb) h
theorem BF (l:List Int) (x:Int):l.length≤(pW l x).length∧(pW l x).length≤l.length+1:=by
 induction l with
 | nil=>simp [pW]
 | cons y r ih=>
  rw [pW]
  by_cases h1:y<x
  ·rw [fB h1,aQ]
   simp only [List.length_cons];omega
  ·rw [jM h1,bU]
   by_cases h2:y=x
   ·rw [fB h2,aQ]
    simp
   ·rw [jM h2,bU]
    simp
theorem ints {l:List Int} (h:(Ty.sl (.int .i64)).ok l):l.length≤17592186044416∧∀ x∈l,-9223372036854775808≤x∧x≤9223372036854775807:=by
 obtain ⟨h1,h2⟩:=h;have h1:l.length*8≤140737488355328:=h1
 exact ⟨by omega,fun x hx=>Es (h2 x hx)⟩
theorem acQ (a0:List Int) (a1:Int) (h:(ah.wf (a0,a1,()))=true):g69 a0 a1=some (ah.raw (a0,a1,())):=by
 obtain ⟨h1,h2,h3⟩:=Fg.1 h;simp only at h1 h2 h3;unfold g69 ah.raw
 by_cases h4:a1<a0.length
 ·have h5:¬ a1≥(a0.length:Int):=by omega
  have e1:IntKind.wrap .i64 (a1+1)=a1+1:=fU (by omega) (by omega)
  have e2:IntKind.wrap .i64 (a1+1 - 1)=a1:=by rw [show a1+1 - 1=a1 by omega];exact fU (by omega) (by omega)
  simp only [bK,e1,e2,h5,h4,h1,decide_true,decide_false,aQ,bU,Bool.and_self]
 ·have h5:a1≥(a0.length:Int):=by omega
  simp only [bK,h5,h4,decide_true,decide_false,aQ,bU]
theorem acR (a0 a1:Int) (r1:IntKind.i64.has a1):g68 a0 a1=some (ah.cut a0 a1,()):=by
 have hm:=(Es r1).2;unfold g68 ah.cut
 by_cases h:a1<1
 ·simp [h]
 ·have h0:¬ a1=0:=by omega
  have hp:0<a1:=by omega
  have e1:=Int.emod_nonneg a0 h0;have e2:=Int.emod_lt_of_pos a0 hp
  have e3:a0.tmod a1=if 0≤a0∨a1 ∣ a0 then a0%a1 else a0%a1 - a1:=by
   rw [Int.tmod_eq_emod]
   split<;>rename_i h<;>simp [h]
   omega
  by_cases h5:0≤a0∨a1 ∣ a0
  ·rw [if_pos h5] at e3
   have:¬ a0%a1<0:=by omega
   simp [h,h0,e3,this];rfl
  ·rw [if_neg h5] at e3
   have h6:a0%a1 - a1<0:=by omega
   have h7:a0%a1 - a1+a1=a0%a1:=by omega
   have h8:IntKind.wrap .i64 (a0%a1)=a0%a1:=fU (by omega) (by omega)
   simp only [h,h0,e3,h6,h7,h8,decide_true,decide_false,aQ,bU,Bool.not_false,Option.bind];rfl
theorem acS (a0:List Int) (a1 a2:Int) (h:(ah.wf (a0,a1,()))=true):g31 a0 a1 a2=some (ah.next (a0,a1,()) a2):=by
 unfold g31;rw [fI h];rfl
theorem acT (a0:List Int) (a1 a2 a3:Int) (h:(ah.wf (a0,a1,())&&ah.small a2&&ah.small a3)=true):g54 a0 a1 a2 a3=some (ah.range (a0,a1,()) a2 a3):=by
 simp only [bP] at h;have k2:=Du.1 h.1.2;have k3:=Du.1 h.2;unfold g54 ah.range;rw [fI h.1.1]
 have e1:IntKind.wrap .i64 (a3 - a2)=a3 - a2:=fU (by omega) (by omega)
 have e2:IntKind.wrap .i64 (a3 - a2+1)=a3 - a2+1:=fU (by omega) (by omega)
 have hb:=Ke (t:=(a0,a1,())) (n:=a3 - a2+1)
 have e3:IntKind.wrap .i64 (a2+(next (a0,a1,()) (a3 - a2+1)).1)=a2+(next (a0,a1,()) (a3 - a2+1)).1:=fU (by omega) (by omega)
 simp only [e1,e2,Option.bind,e3]
theorem acU (a0:List Int) (a1:Int) (a2:List Int) (h:(ah.wf (a0,a1,())&&decide (0<a2.length)&&decide (a2.length≤1000))=true):g28 a0 a1 a2=some (ah.pick (a0,a1,()) a2):=by
 simp only [bP,jH] at h;unfold g28 ah.pick;rw [fI h.1.1]
 have hb:=kK (t:=(a0,a1,())) (n:=(a2.length:Int)) (by omega)
 simp only [bK,Option.bind,hb.1,hb.2,decide_true,Bool.and_self,aQ]
theorem akm (a0:List Int):g5 a0=some (ah.tape a0,()):=by
 unfold g5 ah.tape
 by_cases h:(2000:Int)<a0.length
 ·have h2:(2000:Int)≤a0.length:=by omega
  simp [h,h2]
 ·have h2:a0.take 2000=a0:=List.take_of_length_le (by omega)
  simp [h,h2]
theorem Xr (a b:List Int) (hl:a.length≤17592186044416) (h:a.length=b.length):Loop (zm a b) ((0:Int),())=some (bif (a.zip b).any (fun p=>!decide (p.1=p.2)) then (true,(false,()),()) else (false,(false,()),())):=by
 have hz:(a.zip b).length=a.length:=by simp [h]
 refine ou (a.zip b) (0,0) _ _ _ (fun i h0 hi=>?_) ?_
 ·rw [hz] at hi
  have e1:IntKind.wrap .i64 (i+1)=i+1:=fU (by omega) (by omega)
  have c1:i<(b.length:Int):=by omega
  have hg:=QT a b i.toNat 0 0 (by omega) (by omega)
  unfold zm;simp only [hi,h0,c1,e1,hg,decide_true,aQ,Bool.and_self,bK]
  cases decide (a.getD i.toNat 0=b.getD i.toNat 0)<;>rfl
 ·unfold zm
  simp [hz]
theorem Kg (a b:List Int) (h:a.length=b.length):(a.zip b).any (fun p=>!decide (p.1=p.2)) = !decide (a=b):=by
 induction a generalizing b with
 | nil=>cases b with
  | nil=>rfl
  | cons y m=>simp at h
 | cons x l ih=>cases b with
  | nil=>simp at h
  | cons y m=>
   simp only [List.zip_cons_cons,List.any_cons,ih m (by simpa using h)]
   by_cases h1:x=y<;>by_cases h2:l=m<;>simp [h1,h2]
theorem Xt (a0 a1:List Int) (r0:(Ty.sl (.int .i64)).ok a0):ajK a0 a1=some (decide (a0=a1),()):=by
 obtain ⟨hl,_⟩:=ints r0;unfold ajK
 by_cases h:a0.length=a1.length
 ·have hc:((a0.length:Int)=(a1.length:Int)):=by omega
  rw [Xr a0 a1 hl h,Kg a0 a1 h];simp only [bK,hc,decide_true,Bool.not_true,bU,gL]
  cases decide (a0=a1)<;>rfl
 ·have hc:¬ ((a0.length:Int)=(a1.length:Int)):=by omega
  have hne:¬ a0=a1:=fun k=>h (by rw [k])
  simp [hc,hne]
theorem Xu (a0 a1 a2:Int):ajC a0 a1 a2=some (ah.inside a0 a1 a2,()):=by
 unfold ajC inside
 by_cases h1:a1≤a0<;>simp [h1,GE.ge]
theorem Xv (a0:Int) (a1:List Int) (a2:Int) (a3:List Int):aki a0 a1 a2 a3=some (ah.pR (a0,a1,()) (a2,a3,()),()):=by
 unfold aki pR
 by_cases h1:a0=a2<;>simp [h1]
theorem H7 (l:List Int) (hl:l.length≤17592186044416):Loop (vZ l) ((0:Int),())=some (bif l.any (fun s=>!inside s 1 99) then (true,(2,()),()) else (false,(0,()),())):=by
 refine ou l 0 _ _ _ (fun i h0 hi=>?_) ?_
 ·have e1:IntKind.wrap .i64 (i+1)=i+1:=fU (by omega) (by omega)
  unfold vZ;simp only [hi,h0,e1,decide_true,aQ,Bool.and_self,bK];generalize l.getD i.toNat 0=x;unfold inside
  by_cases h1:x<1
  ·have:¬ 1≤x:=by omega
   simp [h1,this]
  ·have h2:1≤x:=by omega
   by_cases h3:x > 99
   ·have:¬ x≤99:=by omega
    simp [h1,h2,h3,this]
   ·have:x≤99:=by omega
    simp [h1,h2,h3,this]
 ·unfold vZ
  simp
theorem Mg:∀ (l:List Int),(l.zip l.tail).any (fun p=>decide (p.1≥p.2)) = !Ra l
 | []=>rfl
 | [x]=>rfl
 | x::y::r=>by
  have ih:=Mg (y::r);simp only [List.tail_cons,List.zip_cons_cons,List.any_cons,Ra] at ih ⊢;rw [ih]
  by_cases h:x<y
  ·have:¬ x≥y:=by omega
   simp [h,this]
  ·have:x≥y:=by omega
   simp [h,this]
theorem H8 (l:List Int) (hl:l.length≤17592186044416):Loop (wh l) ((1:Int),())=some (bif Ra l then (false,(0,()),()) else (true,(25,()),())):=by
 have key:Loop (wh l) ((1:Int),())=some (bif ((l.drop ((1:Int).toNat - 1)).zip (l.drop (1:Int).toNat)).any (fun p=>decide (p.1≥p.2)) then (true,(25,()),()) else (false,(0,()),())):=by
  refine vJ (fun v:Int×Unit=>1≤v.1) (fun v:Int×Unit=>((l.length:Int) - v.1).toNat)
   (fun v:Int×Unit=>bif ((l.drop (v.1.toNat - 1)).zip (l.drop v.1.toNat)).any (fun p=>decide (p.1≥p.2)) then (true,(25,()),()) else (false,(0,()),())) ?_ (v:=(1,())) (by simp)
  rintro ⟨i,⟨⟩⟩ k1;simp only at k1;unfold wh
  by_cases h:i<(l.length:Int)
  ·have e1:IntKind.wrap .i64 (i+1)=i+1:=fU (by omega) (by omega)
   have e2:IntKind.wrap .i64 (i - 1)=i - 1:=fU (by omega) (by omega)
   have c1:0≤i - 1:=by omega
   have c2:i - 1<(l.length:Int):=by omega
   have c3:0≤i:=by omega
   have d1:l.drop (i.toNat - 1)=l.getD (i - 1).toNat 0::l.drop i.toNat:=by
    rw [show (i - 1).toNat=i.toNat - 1 by omega,xA l (i.toNat - 1) 0 (by omega),show i.toNat - 1+1=i.toNat by omega]
   have d2:l.drop i.toNat=l.getD i.toNat 0::l.drop (i.toNat+1):=xA l i.toNat 0 (by omega)
   simp only [h,e1,e2,c1,c2,c3,bK,decide_true,Bool.and_self,aQ]
   have d3:∀ (L:List Int) (x y:Int) (r:List Int),L=y::r→((x::L).zip L).any (fun p=>decide (p.1≥p.2))=(decide (x≥y) || (L.zip r).any (fun p=>decide (p.1≥p.2))):=by
    intro L x y r h;subst h;rfl
   rw [d1,d3 _ _ _ _ d2]
   have d4:(i+1).toNat=i.toNat+1:=by omega
   cases hc:decide (l.getD (i - 1).toNat 0≥l.getD i.toNat 0) with
   | true=>
    left
    rfl
   | false=>
    right
    refine ⟨(i+1,()),rfl,by simp only;omega,by simp only;omega,?_⟩
    simp only [d4,Nat.add_sub_cancel,Bool.false_or]
  ·left
   have hd:l.drop i.toNat=[]:=List.drop_eq_nil_of_le (by omega)
   simp only [h,hd,bK,decide_false,bU,List.zip_nil_right,List.any_nil]
 rw [key];have:(1:Int).toNat=1:=rfl;rw [this,List.drop_zero,List.drop_one,Mg]
 cases Ra l<;>rfl
theorem s36:@Me=@vZ:=rfl
theorem aqv:@Mf=@wh:=rfl
theorem Mh {α:Type} (l:List α) (p:α→Bool):l.any (fun x=>!p x) = !l.all p:=by
 induction l with
 | nil=>rfl
 | cons x r ih=>simp only [List.any_cons,List.all_cons,ih,Bool.not_and]
theorem Xw (a0:Int) (a1:List Int) (r1:(Ty.sl (.int .i64)).ok a1):ajY a0 a1=some (ah.dU (a0,a1,()),()):=by
 obtain ⟨hl,_⟩:=ints r1;unfold ajY dU;rw [H7 a1 hl,H8 a1 hl,Mh]
 by_cases h1:a0=1<;>by_cases h2:a0=2<;>cases h3:a1.all (fun s=>inside s 1 99)<;>cases h4:Ra a1<;>simp [h1,h2,h3,h4]
theorem Xx (a0:Int) (a1:List Int) (r1:(Ty.sl (.int .i64)).ok a1):aj9 a0 a1=some (ah.dU (a0,a1,()),()):=by
 obtain ⟨hl,_⟩:=ints r1;unfold aj9 dU;rw [s36,aqv,H7 a1 hl,H8 a1 hl,Mh]
 by_cases h1:a0=1<;>by_cases h2:a0=2<;>cases h3:a1.all (fun s=>inside s 1 99)<;>cases h4:Ra a1<;>simp [h1,h2,h3,h4]
theorem BG (p q:Bool):(bif p then some (q,()) else some (false,()))=some (p&&q,()):=by cases p<;>rfl
def dI (a b:Int):Bool:=decide (a=b)
theorem acV (p q:Bool):(bif !p then some (q,()) else some (true,()))=some (p || q,()):=by cases p<;>rfl
theorem gt0 (l:List Int):decide (Int.ofNat l.length > 0)=decide (0<l.length):=decide_eq_decide.2 (by simp)
theorem Xy (a0 a1 a2 a3 a4 a5 a6 a7 a8:Int) (a9:List Int):some (ah.validate (a0,a1,a2,a3,a4,a5,a6,a7,a8,a9,()),())=some (bif !inside a0 1 3 then (1:Int) else
 bif !(inside a1 1 99&&inside a2 1 99 && !dI a1 a2&&(bif dI a0 1 then inside a3 1 1000000&&inside a4 0 1000000&&dI a5 0&&dI a6 0&&dI a7 0 else
  bif dI a0 2 then inside a3 1 1000000&&inside a4 1 1000000&&inside a5 0 (a4 - 1)&&dI a6 0&&inside a7 1 99 else
  inside a3 0 1000000&&inside a4 0 1000000&&dI a5 0&&inside a6 1 1000000&&dI a7 0)) then 2 else
 bif dI a0 2 then dU (a8,a9,()) else bif !dI a8 0 || decide (0<a9.length) then 1 else 0,()):=rfl
theorem Xz (a0 a1 a2 a3 a4 a5 a6 a7 a8:Int) (a9:List Int) (r4:IntKind.i64.has a4):ajX a0 a1 a2 a3 a4 a5 a6 a7 a8 a9=some (ah.validate (a0,a1,a2,a3,a4,a5,a6,a7,a8,a9,()),()):=by
 rw [Xy];have r4:=Es r4;unfold ajX;simp only [BG,acV,gL,gt0]
 by_cases k1:a0=1
 ·subst k1
  simp only [decide_true,aQ,gL]
  change (bif !(inside a1 1 99&&(inside a2 1 99 && !dI a1 a2)&&(inside a3 1 1000000&&(inside a4 0 1000000&&(dI a5 0&&(dI a6 0&&dI a7 0))))) then some ((2:Int),()) else bif !dI a8 0 || decide (0<a9.length) then some (1,()) else some (0,()))=_
  cases inside a1 1 99 with
  | false=>rfl
  | true=>
  cases inside a2 1 99 with
  | false=>rfl
  | true=>
  cases dI a1 a2 with
  | true=>rfl
  | false=>
  cases inside a3 1 1000000 with
  | false=>rfl
  | true=>
  cases inside a4 0 1000000 with
  | false=>rfl
  | true=>
  cases dI a5 0 with
  | false=>rfl
  | true=>
  cases dI a6 0 with
  | false=>rfl
  | true=>
  cases dI a7 0 with
  | false=>rfl
  | true=>
  cases dI a8 0<;>cases decide (0<a9.length)<;>rfl
 by_cases k2:a0=2
 ·subst k2
  simp only [decide_true,aQ,bU,gL,show decide ((2:Int)=1)=false from rfl]
  change (bif !(inside a1 1 99&&(inside a2 1 99 && !dI a1 a2)&&(inside a3 1 1000000&&(inside a4 1 1000000&&(inside a5 0 (IntKind.wrap .i64 (a4 - 1))&&(dI a6 0&&inside a7 1 99))))) then some ((2:Int),()) else some (dU (a8,a9,()),()))=_
  cases inside a1 1 99 with
  | false=>rfl
  | true=>
  cases inside a2 1 99 with
  | false=>rfl
  | true=>
  cases dI a1 a2 with
  | true=>rfl
  | false=>
  cases inside a3 1 1000000 with
  | false=>rfl
  | true=>
  cases h4:inside a4 1 1000000 with
  | false=>rfl
  | true=>
   have h4:=aZ.1 h4
   rw [fU (n:=a4 - 1) (by omega) (by omega)]
   cases inside a5 0 (a4 - 1) with
   | false=>rfl
   | true=>
   cases dI a6 0 with
   | false=>rfl
   | true=>
   cases inside a7 1 99<;>rfl
 by_cases k3:a0=3
 ·subst k3
  simp only [decide_true,aQ,bU,gL,show decide ((3:Int)=1)=false from rfl,show decide ((3:Int)=2)=false from rfl]
  change (bif !(inside a1 1 99&&(inside a2 1 99 && !dI a1 a2)&&(inside a3 0 1000000&&(inside a4 0 1000000&&(dI a5 0&&(inside a6 1 1000000&&dI a7 0))))) then some ((2:Int),()) else bif !dI a8 0 || decide (0<a9.length) then some (1,()) else some (0,()))=_
  cases inside a1 1 99 with
  | false=>rfl
  | true=>
  cases inside a2 1 99 with
  | false=>rfl
  | true=>
  cases dI a1 a2 with
  | true=>rfl
  | false=>
  cases inside a3 0 1000000 with
  | false=>rfl
  | true=>
  cases inside a4 0 1000000 with
  | false=>rfl
  | true=>
  cases dI a5 0 with
  | false=>rfl
  | true=>
  cases inside a6 1 1000000 with
  | false=>rfl
  | true=>
  cases dI a7 0 with
  | false=>rfl
  | true=>
  cases dI a8 0<;>cases decide (0<a9.length)<;>rfl
 ·have i1:inside a0 1 3=false:=SG (by omega)
  simp only [k1,k2,k3,i1,decide_false,bU,Bool.not_false,aQ,gL]
def kL:List Int→Int→Nat
 | [],_=>0
 | y::r,x=>bif decide (y<x) then kL r x+1 else 0
theorem acW (l:List Int) (x:Int):kL l x≤l.length:=by
 induction l with
 | nil=>exact dQ _
 | cons y r ih=>
  unfold kL
  cases decide (y<x) with
  | true=>simp only [aQ,List.length_cons];omega
  | false=>simp
theorem SH (l:List Int) (x:Int):pW l x=bif decide (kL l x<l.length)&&decide (l.getD (kL l x) 0=x) then l else l.take (kL l x)++x::l.drop (kL l x):=by
 induction l with
 | nil=>rfl
 | cons y r ih=>
  unfold pW kL
  by_cases h:y<x
  ·simp only [h,decide_true,aQ,List.length_cons,List.getD_cons_succ,List.take_succ_cons,List.drop_succ_cons]
   rw [ih]
   by_cases h1:kL r x<r.length
   ·have:kL r x+1<r.length+1:=by omega
    simp only [h1,this,decide_true,Bool.true_and]
    by_cases h2:r.getD (kL r x) 0=x
    ·simp only [h2,decide_true,aQ]
    ·simp only [h2,decide_false,bU,List.cons_append]
   ·have:¬ kL r x+1<r.length+1:=by omega
    simp only [h1,this,decide_false,Bool.false_and,bU,List.cons_append]
  ·simp only [h,decide_false,bU,List.getD_cons_zero,List.take_zero,List.drop_zero,List.nil_append,List.length_cons]
   by_cases h2:y=x
   ·simp [h2]
   ·simp [h2]
theorem SI (l:List Int) (x:Int) (hl:l.length≤1000000):Loop (EP l x) ((0:Int),())=some ((kL l x:Int),()):=by
 have key:Loop (EP l x) ((0:Int),())=some ((0:Int)+kL (l.drop (0:Int).toNat) x,()):=by
  refine vJ (fun v:Int×Unit=>0≤v.1∧v.1≤(l.length:Int)) (fun v:Int×Unit=>((l.length:Int) - v.1).toNat) (fun v:Int×Unit=>(v.1+kL (l.drop v.1.toNat) x,())) ?_ (v:=(0,())) ⟨by simp,by simp⟩
  rintro ⟨i,⟨⟩⟩ ⟨k1,k2⟩;simp only at k1 k2;unfold EP
  by_cases h:i<(l.length:Int)
  ·have e1:IntKind.wrap .i64 (i+1)=i+1:=fU (by omega) (by omega)
   simp only [h,k1,e1,bK,decide_true,Bool.and_self,aQ,gL]
   have hd:=xA l i.toNat 0 (by omega)
   cases hc:decide (l.getD i.toNat 0<x) with
   | true=>
    right
    refine ⟨(i+1,()),rfl,⟨by simp only;omega,by simp only;omega⟩,by simp only;omega,?_⟩
    simp only [show (i+1).toNat=i.toNat+1 by omega]
    rw [hd];simp only [kL,hc,aQ]
    congr 1
    omega
   | false=>
    left
    rw [hd];simp only [kL,hc,bU,Int.natCast_zero,Int.add_zero]
  ·left
   have hd:l.drop i.toNat=[]:=List.drop_eq_nil_of_le (by omega)
   simp only [h,hd,bK,decide_false,bU,gL,kL,Int.natCast_zero,Int.add_zero]
 simpa using key
theorem acX (a0:List Int) (a1:Int) (h:(decide (a0.length≤1000000))=true):g27 a0 a1=some (ah.pW a0 a1,()):=by
 simp only [jH] at h;have hc:=acW a0 a1;unfold g27;rw [SI a0 a1 h,SH];simp only [gL,bK,dG,List.take_length,List.drop_zero,List.nil_append]
 have c0:(0:Int)≤(kL a0 a1:Int):=by omega
 have c1:(kL a0 a1:Int)≤(a0.length:Int):=by omega
 have b1:Nat.ble ((1+(a0.drop (kL a0 a1)).length)*8) 140737488355328=true:=iy (by rw [List.length_drop];omega)
 have b2:Nat.ble (((a0.take (kL a0 a1)).length+(a1::a0.drop (kL a0 a1)).length)*8) 140737488355328=true:=iy (by rw [List.length_take,List.length_cons,List.length_drop];omega)
 by_cases h1:kL a0 a1<a0.length
 ·have h1':(kL a0 a1:Int)<(a0.length:Int):=by omega
  by_cases h2:a0.getD (kL a0 a1) 0=a1
  ·simp only [h1,h1',h2,c0,decide_true,Bool.and_self,aQ,gL]
  ·simp only [h1,h1',h2,c0,c1,b1,b2,Int.le_refl,decide_true,decide_false,Bool.and_self,Bool.and_false,aQ,bU,gL]
 ·have h1':¬ (kL a0 a1:Int)<(a0.length:Int):=by omega
  simp only [h1,h1',c0,c1,b1,b2,Int.le_refl,decide_true,decide_false,Bool.and_self,Bool.false_and,aQ,bU,gL]
theorem Og (n:Int) (t:Tp) (l:List Int) (hn:0≤n) (hl:(l.length:Int)+n≤2000) (hw:wf t=true):Loop EJ (n,l,t,())=some ((srcs n.toNat t l).1,(srcs n.toNat t l).2,()):=by
 refine vJ (fun v:Int×List Int×Tp×Unit=>0≤v.1∧(v.2.1.length:Int)+v.1≤2000∧wf v.2.2.1=true) (fun v:Int×List Int×Tp×Unit=>v.1.toNat) (fun v:Int×List Int×Tp×Unit=>((srcs v.1.toNat v.2.2.1 v.2.1).1,(srcs v.1.toNat v.2.2.1 v.2.1).2,())) ?_ (v:=(n,l,t,())) ⟨hn,hl,hw⟩
 rintro ⟨n,l,t,⟨⟩⟩ ⟨k1,k2,k3⟩;simp only at k1 k2 k3;unfold EJ
 by_cases h:n > 0
 ·right
  have e1:IntKind.wrap .i64 (n - 1)=n - 1:=fU (by omega) (by omega)
  have w1:=jY (a:=1) (b:=6) k3;have w2:=jY (a:=1) (b:=20) w1;have w3:=jY (a:=1) (b:=99) w2
  have hs:srcs n.toNat t l=srcs (n - 1).toNat (pick (ah.range (ah.range (ah.range t 1 6).2 1 20).2 1 99).2 [(ah.range t 1 6).1,(ah.range (ah.range t 1 6).2 1 20).1,(ah.range (ah.range (ah.range t 1 6).2 1 20).2 1 99).1]).2 (pW l (pick (ah.range (ah.range (ah.range t 1 6).2 1 20).2 1 99).2 [(ah.range t 1 6).1,(ah.range (ah.range t 1 6).2 1 20).1,(ah.range (ah.range (ah.range t 1 6).2 1 20).2 1 99).1]).1):=by
   rw [show n.toNat=(n - 1).toNat+1 by omega];rfl
  simp only [h,decide_true,aQ,e1]
  rw [fI (by rw [k3];rfl)]
  simp only [gL]
  rw [fI (by rw [w1];rfl)]
  simp only [gL]
  rw [fI (by rw [w2];rfl)]
  simp only [gL]
  rw [fI (by rw [w3];rfl)]
  simp only [gL]
  rw [fI (by simp only [jH];omega)]
  simp only [gL]
  refine ⟨_,rfl,⟨by simp only;omega,?_,wz (l:=[(ah.range t 1 6).1,(ah.range (ah.range t 1 6).2 1 20).1,(ah.range (ah.range (ah.range t 1 6).2 1 20).2 1 99).1]) w3⟩,by simp only;omega,by rw [hs]⟩
  have:=(BF l (pick (ah.range (ah.range (ah.range t 1 6).2 1 20).2 1 99).2 [(ah.range t 1 6).1,(ah.range (ah.range t 1 6).2 1 20).1,(ah.range (ah.range (ah.range t 1 6).2 1 20).2 1 99).1]).1).2;simp only;omega
 ·left
  have:n=0:=by omega
  subst this;simp only [h,decide_false,bU];rfl
theorem XA (a0:List Int) (a1 a2:Int) (h:(ah.wf (a0,a1,())&&ah.inside a2 0 1000)=true):ajF a0 a1 a2=some (ah.sources (a0,a1,()) a2):=by
 simp only [bP] at h;have h2:=aZ.1 h.2;unfold ajF ah.sources
 have e1:IntKind.wrap .i64 (a2+1)=a2+1:=fU (by omega) (by omega)
 have hb:=kK (t:=(a0,a1,())) (n:=a2+1) (by omega)
 rw [fI h.1,e1];simp only [gL]
 rw [Og _ _ _ hb.1 (by simp;omega) (wu h.1)]
 rfl
theorem acY (a0:List Int) (a1:Int) (h:(ah.wf (a0,a1,()))=true):g65 a0 a1=some (ah.filter (a0,a1,())):=by
 unfold g65 ah.filter;dsimp only
 rw [fI (by rw [h];rfl)]
 simp only [gL];have w1:=wz (l:=[0,2,4,4,16,99]) h
 have m1:=SF (t:=(a0,a1,())) (l:=[0,2,4,4,16,99]) (by simp)
 generalize pick (a0,a1,()) [0,2,4,4,16,99]=n at *
 rw [fI (by rw [w1];rfl)]
 simp only [gL];have w2:=jY (a:=1) (b:=2) w1;generalize ah.range n.2 1 2=m at *
 have i1:inside n.1 0 1000=true:=aZ.2 (by simp at m1;omega)
 rw [fI (by rw [w2,i1];rfl)]
 rfl
theorem orI (a b:Bool):(bif a then (some (b,()):Option (Bool×Unit)) else some (false,()))=some (a&&b,()):=by cases a<;>rfl
theorem Fh {l:List Ed} (h:(Ty.sl J5).ok l):l.length≤8796093022208:=by
 have h:l.length*16≤140737488355328:=h.1;omega
theorem H9 {l:List Int} (h:(Ty.sl (.int .i64)).ok l):l.length≤17592186044416:=by
 have h:l.length*8≤140737488355328:=h.1;omega
theorem acZ (a0:Int):g96 a0=some (ah.dW a0,()):=by
 unfold g96 ah.dW
 cases decide (a0=8)<;>cases decide (a0=16)<;>cases decide (a0=32)<;>rfl
theorem XB (a0:Int):aj5 a0=some (ah.dW a0,()):=by
 unfold aj5 ah.dW
 cases decide (a0=8)<;>cases decide (a0=16)<;>cases decide (a0=32)<;>rfl
theorem ac0 (a0 a1 a2:Int):g95 a0 a1 a2=some (ah.inside a0 a1 a2,()):=by
 unfold g95 ah.inside;rw [orI];rfl
theorem XC (a0 a1 a2:Int):akj a0 a1 a2=some (ah.inside a0 a1 a2,()):=by
 unfold akj ah.inside;rw [orI];rfl
theorem Fj {α:Type} (p:α→Bool) (l:List α):decide (idx p l≥0)=l.any p:=by
 unfold idx
 cases l.any p with
 | true=>exact fB (by show (0:Int)≤((_:Nat):Int);omega)
 | false=>exact jM (by show ¬ (-1:Int)≥0;decide)
theorem oD {α:Type} (f:(Int×Unit)→Option (Sum (Int×Unit) (Bool×((Int×Unit)×Unit)))) (l:List α) (p:α→Bool) (d:α)
 (hs:∀ i:Nat,i<l.length→f ((i:Int),())=bif p (l.getD i d) then some (.inr (true,(((i:Int),()),()))) else some (.inl (((i+1:Nat):Int),())))
 (he:f ((l.length:Int),())=some (.inr (false,((0,()),())))):Option.bind (Loop f ((0:Int),())) (fun y1=>bif y1.1 then some y1.2.1 else some ((-1:Int),()))=some (idx p l,()):=by
 have key:∀ j k,k+j=l.length→(∀ i,i<k→p (l.getD i d)=false)→Option.bind (Loop f ((k:Int),())) (fun y1=>bif y1.1 then some y1.2.1 else some ((-1:Int),()))=some (idx p l,()):=by
  intro j
  induction j with
  | zero=>
   intro k hk hn
   have hk:k=l.length:=by omega
   subst hk
   have ha:l.any p=false:=by
    rw [Bool.eq_false_iff];intro h;obtain ⟨x,hx,hp⟩:=List.any_eq_true.1 h;obtain ⟨i,hi,rfl⟩:=List.getElem_of_mem hx;have:=hn i hi;rw [yP,List.getElem?_eq_getElem hi] at this;have this:p l[i]=false:=this;rw [hp] at this;cases this
   rw [aT,he];unfold idx;rw [ha];rfl
  | succ j ih=>
   intro k hk hn
   rw [aT,hs k (by omega)]
   cases hp:p (l.getD k d) with
   | true=>
    have hlt:k<l.length:=by omega
    have e:l.getD k d=l[k]:=by rw [yP,List.getElem?_eq_getElem hlt];rfl
    have ha:l.any p=true:=List.any_eq_true.2 ⟨l[k],List.getElem_mem _,by rw [←e];exact hp⟩
    have hf:l.findIdx p=k:=by
     rw [List.findIdx_eq hlt]
     refine ⟨by rw [←e];exact hp,fun i hi=>?_⟩
     have:=hn i hi
     rw [yP,List.getElem?_eq_getElem (by omega)] at this
     simpa using this
    unfold idx;rw [ha,hf];rfl
   | false=>
    refine ih (k+1) (by omega) fun i hi=>?_
    by_cases h:i=k
    ·rw [h];exact hp
    ·exact hn i (by omega)
 exact key l.length 0 (by omega) (fun i hi=>absurd hi (by omega))
theorem Fp:∀ l:List Int,repeats l=true↔∃ i j,i<j∧j<l.length∧l.getD i 0=l.getD j 0
 | []=>⟨fun h=>(by cases h),fun ⟨i,j,_,h,_⟩=>absurd h (by simp)⟩
 | x::r=>by
  rw [repeats,Bool.or_eq_true,Fp r,List.any_eq_true];constructor
  ·rintro (⟨y,hy,h⟩ | ⟨i,j,h1,h2,h3⟩)
   ·obtain ⟨j,hj,rfl⟩:=List.getElem_of_mem hy
    refine ⟨0,j+1,by omega,by simp;omega,?_⟩
    rw [List.getD_cons_succ,dV hj];exact (of_decide_eq_true h).symm
   ·exact ⟨i+1,j+1,by omega,by simp;omega,by simpa using h3⟩
  ·rintro ⟨i,j,h1,h2,h3⟩
   obtain ⟨j,rfl⟩:∃ k,j=k+1:=⟨j - 1,by omega⟩
   have hj:j<r.length:=by simpa using h2
   cases i with
   | zero=>
    left
    rw [List.getD_cons_succ,dV hj] at h3;exact ⟨r[j],List.getElem_mem _,fB h3.symm⟩
   | succ i=>exact .inr ⟨i,j,by omega,hj,by simpa using h3⟩
theorem XD (l:List Int):repeats l=(List.range l.length).any fun i=>(List.range i).any fun k=>decide (l.getD i 0=l.getD k 0):=by
 rw [Bool.eq_iff_iff,Fp];simp only [List.any_eq_true,List.mem_range,jH];constructor
 ·rintro ⟨i,j,h1,h2,h3⟩;exact ⟨j,h2,i,h1,h3.symm⟩
 ·rintro ⟨j,h2,i,h1,h3⟩;exact ⟨i,j,h1,h2,h3.symm⟩
theorem XE (a0:List Int) (r0:(Ty.sl (.int .i64)).ok a0):aju a0=some (ah.repeats a0,()):=by
 have hl:=H9 r0
 have hin:∀ i:Nat,i<a0.length→Loop (zh a0 ((i:Int),())) ((0:Int),())=some (bif (List.range i).any (fun k=>decide (a0.getD i 0=a0.getD k 0)) then (true,((true,()),())) else (false,((false,()),()))):=by
  intro i hi
  refine sP _ i (fun k=>decide (a0.getD i 0=a0.getD k 0)) _ _ (fun k hk=>?_) ?_
  ·unfold zh
   simp only [bK,dG]
   rw [dT (show (k:Int)<(i:Int) by omega),dT (show (0:Int)≤(i:Int) by omega),dT (show (i:Int)<(a0.length:Int) by omega),dT (show (0:Int)≤(k:Int) by omega),dT (show (k:Int)<(a0.length:Int) by omega),aG (by omega)]
   cases decide (a0.getD i 0=a0.getD k 0)<;>rfl
  ·unfold zh
   rw [dF (show ¬ ((i:Int),()).1<((i:Int),()).1 by simp only;omega)]
   rfl
 have hout:Loop (zi a0) ((0:Int),())=some (bif repeats a0 then (true,((true,()),())) else (false,((false,()),()))):=by
  rw [XD]
  refine sP _ a0.length _ _ _ (fun i hi=>?_) ?_
  ·unfold zi
   rw [hin i hi];simp only [bK]
   rw [dT (show (i:Int)<(a0.length:Int) by omega),aG (by omega)]
   cases (List.range i).any (fun k=>decide (a0.getD i 0=a0.getD k 0))<;>rfl
  ·unfold zi
   simp only [bK]
   rw [dF (show ¬ (a0.length:Int)<(a0.length:Int) by omega)]
   rfl
 unfold aju;rw [hout]
 cases repeats a0<;>rfl
def Kh (l:List Ed) (i:Nat):Bool:=!inside (l.getD i zE).2.1 1 256 || !inside (l.getD i zE).1 1 99 || (decide (0<i)&&decide ((l.getD i zE).2.1≤(l.getD (i - 1) zE).2.1))
theorem Ia (l:List Ed):(List.range l.length).any (Kh l) = !((l.all fun e=>inside e.2.1 1 256&&inside e.1 1 99)&&WY l):=by
 rw [Bool.eq_iff_iff,List.any_eq_true,Bool.not_eq_true',Bool.and_eq_false_iff,List.all_eq_false];unfold WY Kh;rw [List.all_eq_false];constructor
 ·rintro ⟨i,hi,h⟩
  have hi:=List.mem_range.1 hi;rw [Bool.or_eq_true,Bool.or_eq_true] at h
  rcases h with (h | h) | h
  ·refine .inl ⟨l[i],List.getElem_mem _,?_⟩
   rw [←dV (d:=zE) hi];rw [Bool.not_eq_true'] at h;rw [h,Bool.false_and];exact Bool.false_ne_true
  ·refine .inl ⟨l[i],List.getElem_mem _,?_⟩
   rw [←dV (d:=zE) hi];rw [Bool.not_eq_true'] at h;rw [h,Bool.and_false];exact Bool.false_ne_true
  ·rw [bP,jH,jH] at h
   refine .inr ⟨i - 1,List.mem_range.2 (by omega),?_⟩
   rw [show i - 1+1=i by omega,jH]
   omega
 ·rintro (⟨x,hx,h⟩ | ⟨i,hi,h⟩)
  ·obtain ⟨i,hi,rfl⟩:=List.getElem_of_mem hx
   refine ⟨i,List.mem_range.2 hi,?_⟩;rw [dV hi];rw [Bool.not_eq_true,Bool.and_eq_false_iff] at h
   rcases h with h | h<;>rw [h]<;>simp
  ·have hi:=List.mem_range.1 hi
   refine ⟨i+1,List.mem_range.2 (by omega),?_⟩
   rw [jH] at h
   rw [show i+1 - 1=i by omega,dT (show 0<i+1 by omega),dT (show (l.getD (i+1) zE).2.1≤(l.getD i zE).2.1 by omega)]
   simp
theorem SK {α:Type} (l:List α) (p q:α→Bool):l.any (fun x=>p x || q x)=(l.any p || l.any q):=by
 induction l with
 | nil=>rfl
 | cons x r ih=>simp only [List.any_cons,ih];cases p x<;>cases q x<;>simp
theorem ac1 (a0 a1:Int) (a2:List ah.Ed) (r2:(Ty.sl (J5)).ok a2):g55 a0 a1 a2=some (ah.dZ (a0,a1,a2,()),()):=by
 have hl:=Fh r2
 have hL:Loop (EO a2) ((0:Int),(([]:List Int),()))=some (bif (List.range a2.length).any (Kh a2) then (true,((false,()),(([]:List Int),()))) else (false,((false,()),((a2.map fun e=>e.1),())))):=by
  refine NQ (fun k=>((k:Int),(((a2.take k).map fun e=>e.1),()))) a2.length _ (Kh a2) _ (fun i hi=>?_) ?_
  ·have hm:((List.map (fun e:Ed=>e.1) (List.take (i+1) a2)))=(a2.take i).map (fun e:Ed=>e.1)++((a2.getD i (0,0,())).1::[]):=by
    rw [qH a2 i (0,0,()) hi,List.map_append];rfl
   rw [hm];unfold EO Kh;simp only [bK,dG]
   rw [dT (show (i:Int)<(a2.length:Int) by omega),dT (show (0:Int)≤(i:Int) by omega),aG (by omega),iy (show ((List.map (fun e:Ed=>e.1) (List.take i a2)).length+1)*8≤140737488355328 by rw [List.length_map,List.length_take];omega)]
   cases ah.inside (a2.getD i (0,0,())).2.1 1 256<;>cases ah.inside (a2.getD i (0,0,())).1 1 99<;>first | rfl | skip
   by_cases h0:0<i
   ·rw [dT (show (i:Int) > 0 by omega),dT h0,sQ h0 (by omega),dT (show (0:Int)≤((i - 1:Nat):Int) by omega),dT (show ((i - 1:Nat):Int)<(a2.length:Int) by omega)]
    simp only [dG]
    by_cases h1:(a2.getD i (0,0,())).2.1≤(a2.getD (i - 1) (0,0,())).2.1
    ·rw [dT (show (a2.getD (i - 1) (0,0,())).2.1≥(a2.getD i (0,0,())).2.1 from h1)];first | rfl | (rw [dT h1];rfl)
    ·rw [dF (show ¬ (a2.getD (i - 1) (0,0,())).2.1≥(a2.getD i (0,0,())).2.1 from h1)];first | rfl | (rw [dF h1];rfl)
   ·rw [dF (show ¬ (i:Int) > 0 by omega),dF h0];rfl
  ·unfold EO
   simp only [bK]
   rw [dF (show ¬ (a2.length:Int)<(a2.length:Int) by omega),List.take_length]
   rfl
 unfold g55 dZ;rw [hL,Ia];simp only [bK]
 by_cases q1:a1=0
 ·rw [dT q1]
  by_cases q2:a2.length=0
  ·rw [dF (show ¬ (a2.length:Int) > 0 by omega),dT q2,dF (show ¬ (a2.length:Int) > 24 by omega),dT (show a2.length≤24 by omega)]
   cases ah.inside a0 0 7<;>cases dW a1<;>cases a2.all (fun e=>ah.inside e.2.1 1 256&&ah.inside e.1 1 99)<;>cases WY a2<;>rfl
  ·rw [dT (show (a2.length:Int) > 0 by omega),dF q2]
   by_cases q3:a2.length≤24
   ·rw [dF (show ¬ (a2.length:Int) > 24 by omega),dT q3]
    cases ah.inside a0 0 7<;>cases dW a1<;>cases a2.all (fun e=>ah.inside e.2.1 1 256&&ah.inside e.1 1 99)<;>cases WY a2<;>rfl
   ·rw [dT (show (a2.length:Int) > 24 by omega),dF q3]
    cases ah.inside a0 0 7<;>cases dW a1<;>rfl
 ·rw [dF q1]
  by_cases q3:a2.length≤24
  ·rw [dF (show ¬ (a2.length:Int) > 24 by omega),dT q3]
   cases ah.inside a0 0 7<;>cases dW a1<;>cases a2.all (fun e=>ah.inside e.2.1 1 256&&ah.inside e.1 1 99)<;>cases WY a2<;>rfl
  ·rw [dT (show (a2.length:Int) > 24 by omega),dF q3]
   cases ah.inside a0 0 7<;>cases dW a1<;>rfl
theorem iB {n:Int}:dW n=true↔n=8∨n=16∨n=32∨n=64:=by
 simp [dW,or_assoc]
theorem SL (a0 a1:Int):(Option.bind (bif (!(!(dW a1))) then (some ((!(ah.inside a0 1 256)),())) else (some (true,()))) (fun (y2:(Bool×Unit))=>(bif y2.1 then (some ((0,(0,(false,()))),())) else (bif (!(decide (a1=0))) then (bif (!(decide (a1=0))) then (some (((IntKind.wrap .i64 (Int.tdiv (IntKind.wrap .i64 (a0 - 1)) a1)),((Int.tmod (IntKind.wrap .i64 (a0 - 1)) a1),(true,()))),())) else none) else none))))=some (place a0 a1,()):=by
 unfold place
 cases hv:dW a1 with
 | false=>rfl
 | true=>
  cases hi:ah.inside a0 1 256 with
  | false=>rfl
  | true=>
   have h1:=iB.1 hv;have h2:=aZ.1 hi
   have e1:IntKind.wrap .i64 (a0 - 1)=a0 - 1:=fU (by omega) (by omega)
   have e2:Int.tdiv (a0 - 1) a1=(a0 - 1) / a1:=U6 (by omega)
   have e3:Int.tmod (a0 - 1) a1=(a0 - 1)%a1:=Lg (by omega)
   have e4:IntKind.wrap .i64 ((a0 - 1) / a1)=(a0 - 1) / a1:=by
    rcases h1 with h | h | h | h<;>subst h<;>exact fU (by omega) (by omega)
   have e5:¬ a1=0:=by omega
   rw [e1,e2,e3,e4,dF e5];rfl
theorem XG (a0 a1:Int):aj3 a0 a1=some (ah.place a0 a1,()):=by
 unfold aj3;exact SL a0 a1
theorem at_eq (a0 a1 a2:Int):(Option.bind (bif (!(!(dW a2))) then (bif (!(!(ah.inside a1 0 (IntKind.wrap .i64 (a2 - 1))))) then (some ((!(ah.inside a0 0 31)),())) else (some (true,()))) else (some (true,()))) (fun (y3:(Bool×Unit))=>(bif y3.1 then (some ((0,(false,())),())) else (bif (decide ((IntKind.wrap .i64 ((IntKind.wrap .i64 ((IntKind.wrap .i64 (a0*a2))+a1))+1)) > 256)) then (some ((0,(false,())),())) else (some (((IntKind.wrap .i64 ((IntKind.wrap .i64 ((IntKind.wrap .i64 (a0*a2))+a1))+1)),(true,())),()))))))=some (at_ a0 a1 a2,()):=by
 unfold at_
 cases hv:dW a2 with
 | false=>rfl
 | true=>
  have h1:=iB.1 hv
  have e1:IntKind.wrap .i64 (a2 - 1)=a2 - 1:=fU (by omega) (by omega)
  rw [e1]
  cases hi:ah.inside a1 0 (a2 - 1) with
  | false=>rfl
  | true=>
   cases hs:ah.inside a0 0 31 with
   | false=>rfl
   | true=>
    have h2:=aZ.1 hi;have h3:=aZ.1 hs
    have hm:0≤a0*a2∧a0*a2≤1984:=by rcases h1 with h | h | h | h<;>subst h<;>omega
    have e2:IntKind.wrap .i64 (a0*a2)=a0*a2:=fU (by omega) (by omega)
    have e3:IntKind.wrap .i64 (a0*a2+a1)=a0*a2+a1:=fU (by omega) (by omega)
    have e4:IntKind.wrap .i64 (a0*a2+a1+1)=a0*a2+a1+1:=fU (by omega) (by omega)
    rw [e2,e3,e4]
    by_cases q:256<a0*a2+a1+1
    ·rw [dT q];first | rfl | (rw [dT (show a0*a2+a1+1 > 256 from q)];rfl)
    ·rw [dF q];first | rfl | (rw [dF (show ¬ a0*a2+a1+1 > 256 from q)];rfl)
theorem ac2 (a0 a1 a2:Int):g44 a0 a1 a2=some (ah.at_ a0 a1 a2,()):=by
 unfold g44;exact at_eq a0 a1 a2
theorem ac3 (a0 a1 a2:Int):g57 a0 a1 a2=some (ah.at_ a0 a1 a2,()):=by
 unfold g57;exact at_eq a0 a1 a2
theorem xJ {α β:Type} (f:β→α→β) (b:β) (l:List α) (d:α) (k:Nat) (hk:k<l.length):(l.take (k+1)).foldl f b=f ((l.take k).foldl f b) (l.getD k d):=by
 rw [qH l k d hk,List.foldl_append];rfl
section
open ah.Bt
def U (b:Int):Prop:=0≤b∧b<18446744073709551616
theorem Fq {b:Int} (h:U b):∃ m:Nat,b=m∧m<2 ^ 64:=⟨b.toNat,by have:=h.1;omega,by have:=h.2;omega⟩
theorem oF {b:Int} {k:Nat}:k∈ones b↔k<64∧tb b k=true:=by simp [ones]
theorem Ib (b:Int) (k:Nat):ZL b k≤k:=by
 unfold ZL;have:=List.length_filter_le (tb b) (List.range k)
 simpa using this
theorem ofN (n:Nat):Int.ofNat n=(n:Int):=rfl
theorem uh {x:Int} (h:IntKind.u64.has x):U x:=U5 h
theorem Ki {x:Int} (h:U x):x.toNat<2 ^ 64:=by have:=h.1;have:=h.2;omega
theorem XH {x y:Int} (hx:U x) (hy:U y):IntKind.wrap .u64 (Int.ofNat (BitVec.and (BitVec.ofInt 64 x) (BitVec.ofInt 64 y)).toNat)=((x.toNat &&& y.toNat:Nat):Int):=by
 have h:x.toNat &&& y.toNat<2 ^ 64:=Nat.and_lt_two_pow _ (Ki hy)
 rw [bvand hx.1 (by have:=hx.2;omega) hy.1 (by have:=hy.2;omega),ofN]
 exact wu64 (by omega) (by omega)
theorem bor {x y:Int} (hx:U x) (hy:U y):IntKind.wrap .u64 (Int.ofNat (BitVec.or (BitVec.ofInt 64 x) (BitVec.ofInt 64 y)).toNat)=((x.toNat ||| y.toNat:Nat):Int):=by
 have h:x.toNat ||| y.toNat<2 ^ 64:=Nat.or_lt_two_pow (Ki hx) (Ki hy)
 rw [bvor hx.1 (by have:=hx.2;omega) hy.1 (by have:=hy.2;omega),ofN]
 exact wu64 (by omega) (by omega)
theorem Z5 {x y:Int} (hx:U x) (hy:U y):IntKind.wrap .u64 (Int.ofNat (BitVec.and (BitVec.ofInt 64 x) (BitVec.not (BitVec.ofInt 64 y))).toNat)=((x.toNat &&& (18446744073709551615 - y.toNat):Nat):Int):=by
 have hy2:=Ki hy
 have h:x.toNat &&& (18446744073709551615 - y.toNat)<2 ^ 64:=Nat.and_lt_two_pow _ (by omega)
 have e:(BitVec.and (BitVec.ofInt 64 x) (BitVec.not (BitVec.ofInt 64 y))).toNat=x.toNat &&& (18446744073709551615 - y.toNat):=by
  show (BitVec.ofInt 64 x &&& ~~~ BitVec.ofInt 64 y).toNat=_
  rw [BitVec.toNat_and,BitVec.toNat_not,toNat_ofInt hx.1 (by have:=hx.2;omega),toNat_ofInt hy.1 (by have:=hy.2;omega)]
 rw [e,ofN]
 exact wu64 (by omega) (by omega)
theorem qN {n:Nat} (h:n<2 ^ 64):U (n:Int):=⟨by omega,by omega⟩
theorem SN {k:Nat} (h:k<64):U ((2:Int) ^ k):=by
 rw [jV]
 exact qN (Nat.pow_lt_pow_right (by decide) h)
theorem qO (k:Int):U (fK k):=by
 unfold fK
 by_cases h1:k<0
 ·simp [h1,U]
 ·by_cases h2:63<k
  ·simp [h2,U]
  ·rw [jM h1,jM h2]
   exact SN (by omega)
theorem XI (a0:Int):ake a0=some (ah.Bt.fK a0,()):=by
 unfold ake ah.Bt.fK;simp only [gt_iff_lt]
 by_cases h1:a0<0
 ·rw [fB h1];rfl
 ·by_cases h2:63<a0
  ·rw [jM h1,fB h2];rfl
  ·have e1:IntKind.wrap .u64 a0=a0:=wu64 (by omega) (by omega)
   have hp:=SN (k:=a0.toNat) (by omega)
   have e2:IntKind.wrap .u64 ((2:Int) ^ a0.toNat)=2 ^ a0.toNat:=wu64 hp.1 hp.2
   rw [jM h1,jM h2,e1,fB (show (0:Int)≤a0 by omega),show min a0.toNat 64=a0.toNat by omega,pow2,Int.one_mul,e2]
   rfl
theorem XJ (i:Nat):(2 ^ i - 1) ||| 2 ^ i=2 ^ (i+1) - 1:=by
 refine Nat.eq_of_testBit_eq fun j=>?_
 rw [Nat.testBit_or,Nat.testBit_two_pow_sub_one,Nat.testBit_two_pow,Nat.testBit_two_pow_sub_one]
 by_cases h1:j<i
 ·simp [h1];omega
 ·by_cases h2:i=j
  ·simp [h2]
  ·have:¬ j<i+1:=by omega
   simp [h1,h2,this]
theorem Oh (n:Nat) (hn:n≤64):Loop (pE (n:Int)) ((0:Int),(0:Int),())=some (((2 ^ n - 1:Nat):Int),()):=by
 have key:∀ k,k≤n→Loop (pE (n:Int)) (((n - k:Nat):Int),((2 ^ (n - k) - 1:Nat):Int),())=some (((2 ^ n - 1:Nat):Int),()):=by
  intro k
  induction k with
  | zero=>
   intro _
   have c:¬ ((n - 0:Nat):Int)<(n:Int):=by omega
   have hs:pE (n:Int) (((n - 0:Nat):Int),((2 ^ (n - 0) - 1:Nat):Int),())=some (.inr (((2 ^ (n - 0) - 1:Nat):Int),())):=by
    unfold pE;simp only [c,decide_false,bU]
   rw [aT,hs];rfl
  | succ k ih=>
   intro hk
   have c:((n - (k+1):Nat):Int)<(n:Int):=by omega
   have e:IntKind.wrap .i64 (((n - (k+1):Nat):Int)+1)=((n - k:Nat):Int):=by rw [fU (by omega) (by omega)];omega
   have hb:fK ((n - (k+1):Nat):Int)=((2 ^ (n - (k+1)):Nat):Int):=by
    unfold fK
    rw [jM (by omega),jM (by omega)]
    simp only [Bool.or_self,bU,dG];exact jV _
   have hlt:2 ^ (n - (k+1))<2 ^ 64:=Nat.pow_lt_pow_right (by decide) (by omega)
   have hpos:=Nat.two_pow_pos (n - (k+1))
   have hs:pE (n:Int) (((n - (k+1):Nat):Int),((2 ^ (n - (k+1)) - 1:Nat):Int),())=some (.inl (((n - k:Nat):Int),((2 ^ (n - k) - 1:Nat):Int),())):=by
    unfold pE;simp only [c,decide_true,aQ,e,hb]
    rw [bor (qN (by omega)) (qN hlt),dG,dG,XJ,show n - (k+1)+1=n - k by omega]
   rw [aT,hs]
   exact ih (by omega)
 have:=key n (dQ _);rw [Nat.sub_self] at this;exact this
theorem Ic {n:Int} (h:dW n=true):full n=((2 ^ n.toNat - 1:Nat):Int):=by
 rcases iB.1 h with rfl | rfl | rfl | rfl<;>rfl
theorem XK (a0:Int):ajN a0=some (ah.Bt.full a0,()):=by
 unfold ajN
 cases hv:dW a0 with
 | false=>unfold ah.Bt.full;rw [hv];rfl
 | true=>
  have h1:=iB.1 hv;rw [Ic hv]
  obtain ⟨n,rfl⟩:∃ n:Nat,a0=(n:Int):=⟨a0.toNat,by omega⟩
  rw [Oh n (by omega)]
  rfl
theorem U0:U 0:=⟨by decide,by decide⟩
theorem ac4 (n:Int):U (full n):=by
 cases hv:dW n with
 | false=>unfold full;rw [hv];exact U0
 | true=>rcases iB.1 hv with rfl | rfl | rfl | rfl<;>exact ⟨by decide,by decide⟩
theorem XL (k m i:Nat):(2 ^ k*(2*m+1) &&& (2 ^ k*(2*m+1) - 1)).testBit i=((2 ^ k*(2*m+1)).testBit i&&decide (i≠k)):=by
 have hp:=Nat.two_pow_pos k
 have e:2 ^ k*(2*m+1) - 1=2 ^ k*(2*m)+(2 ^ k - 1):=by
  rw [Nat.mul_add,Nat.mul_one];omega
 rw [Nat.testBit_and,e,Nat.testBit_two_pow_mul_add _ (by omega),Nat.testBit_two_pow_mul]
 by_cases h1:i<k
 ·have:¬ i≥k:=by omega
  simp [this]
 ·rw [if_neg h1]
  by_cases h2:i=k
  ·subst h2;simp
  ·obtain ⟨j,rfl⟩:∃ j,i=k+(j+1):=⟨i - k - 1,by omega⟩
   have e1:k+(j+1) - k=j+1:=by omega
   have e2:(2*m+1).testBit (j+1)=m.testBit j:=by rw [Nat.testBit_succ];congr 1;omega
   have e3:(2*m).testBit (j+1)=m.testBit j:=by rw [Nat.testBit_succ];congr 1;omega
   rw [e1,e2,e3]
   have:k+(j+1)≠k:=by omega
   simp [this]
theorem XM (k m i:Nat):(2 ^ k*(2*m+1)).testBit i=true→k≤i:=by
 rw [Nat.testBit_two_pow_mul];intro h;simp at h;exact h.1
theorem SQ (k m:Nat):(2 ^ k*(2*m+1)).testBit k=true:=by
 rw [Nat.testBit_two_pow_mul];simp
theorem BH {p q:Nat→Bool} {k:Nat} (hp:p k=true) (hlt:∀ i,i<k→p i=false) (hq:∀ i,q i=(p i&&decide (i≠k))):∀ m,k<m→(List.range m).filter p=k::(List.range m).filter q
 | 0,h=>by omega
 | m+1,h=>by
  rw [List.range_succ,List.filter_append,List.filter_append]
  by_cases hk:k=m
  ·subst hk
   have e1:(List.range k).filter p=[]:=by
    rw [List.filter_eq_nil_iff];intro i hi;rw [List.mem_range] at hi;simp [hlt i hi]
   have e2:(List.range k).filter q=[]:=by
    rw [List.filter_eq_nil_iff];intro i hi;rw [List.mem_range] at hi;simp [hq,hlt i hi]
   rw [e1,e2];simp [hp,hq]
  ·rw [BH hp hlt hq m (by omega),List.cons_append]
   congr 2
   have:m≠k:=fun h=>hk h.symm
   by_cases hm:p m=true
   ·simp [hm,hq,this]
   ·simp [hm,hq]
def clr (b:Int):Int:=ah.Bt.and b (b - 1)
theorem xK {b:Int} (hb:U b) (h:b≠0):ones b=Lib.ctz 64 b.toNat::ones (clr b)∧Lib.ctz 64 b.toNat<64:=by
 obtain ⟨n,rfl,hn⟩:=Fq hb
 have h0:0<n:=by omega
 obtain ⟨m,h1,h2⟩:=Lib.ctzFrom_spec 64 n h0 hn
 have hc:Lib.ctz 64 n=Lib.ctzFrom 64 n:=by unfold Lib.ctz;rw [if_neg (by omega)]
 simp only [dG];rw [hc];refine ⟨?_,h2⟩;unfold ones
 refine BH (k:=Lib.ctzFrom 64 n) ?_ ?_ (fun i=>?_) 64 h2
 ·show n.testBit _=true
  conv=>lhs;arg 1;rw [h1]
  exact SQ _ _
 ·intro i hi
  show n.testBit i=false
  cases hq:n.testBit i with
  | false=>rfl
  | true=>
   rw [h1] at hq;have:=XM _ _ _ hq;omega
 ·show (clr (n:Int)).toNat.testBit i=(n.testBit i&&_)
  unfold clr ah.Bt.and
  rw [dG,dG,show ((n:Int) - 1).toNat=n - 1 by omega]
  have:=XL (Lib.ctzFrom 64 n) m i;rw [←h1] at this;exact this
theorem mD (b:Int):(ones b).length≤64:=Ib b 64
theorem SS (b:Int) (i:Nat) (h:i<(ones b).length):(list b).getD i 0=(((ones b).getD i 0:Nat):Int):=by
 unfold list;rw [yP,List.getElem?_map,yP,List.getElem?_eq_getElem h];rfl
theorem mE (b:Int):(list b).length=(ones b).length:=by simp [list]
theorem akn {b:Int} (hb:U b) (h:b≠0):ah.Bt.nth b 0=((Lib.ctz 64 b.toNat:Nat):Int):=by
 obtain ⟨h1,_⟩:=xK hb h
 have hl:0<(ones b).length:=by rw [h1];simp
 unfold ah.Bt.nth
 have c:¬ (((list b).length:Nat):Int)≤0:=by rw [mE];omega
 rw [jM (show ¬ (0:Int)<0 by omega),jM c]
 show (list b).getD 0 0=_;rw [SS b 0 hl,h1];rfl
theorem XO:∀ i:Fin 64,([0,1,56,2,57,49,28,3,61,58,42,50,38,29,17,4,62,47,59,36,45,43,51,22,53,39,33,30,24,18,12,5,63,55,48,27,60,41,37,16,46,35,44,21,52,32,23,11,54,26,40,15,34,20,31,10,25,14,19,9,13,8,7,6]:List Int).getD i.val 0=((Lib.deBruijn64tab.getD i.val 0:Nat):Int):=by decide +kernel
def ako:List Int:=[0,1,56,2,57,49,28,3,61,58,42,50,38,29,17,4,62,47,59,36,45,43,51,22,53,39,33,30,24,18,12,5,63,55,48,27,60,41,37,16,46,35,44,21,52,32,23,11,54,26,40,15,34,20,31,10,25,14,19,9,13,8,7,6]
def tz (q:Int):Option (Int×Unit):=bif (decide (0≤q))&&(decide (q<64)) then (bif Nat.blt (0+(Int.toNat q)*1) 64 then some (IntKind.wrap .i64 (List.getD ako (0+(Int.toNat q)*1) 0),()) else none) else none
theorem akp {q:Nat} (h:q<64):tz (q:Int)=some (((Lib.deBruijn64tab.getD q 0:Nat):Int),()):=by
 have ht:ako.getD q 0=((Lib.deBruijn64tab.getD q 0:Nat):Int):=XO ⟨q,h⟩
 have hb:∀ i:Fin 64,Lib.deBruijn64tab.getD i.val 0<64:=by decide +kernel
 have hb:=hb ⟨q,h⟩;simp only at hb;unfold tz
 rw [fB (show (0:Int)≤(q:Int) by omega),fB (show (q:Int)<64 by omega),dG,Nat.zero_add,Nat.mul_one,kg h,ht,fU (by omega) (by omega)]
 rfl
theorem ac5 {b:Int} (hb:U b) (h0:b≠0):Int.fdiv (IntKind.wrap .u64 (IntKind.wrap .u64 (Int.ofNat (BitVec.and (BitVec.ofInt 64 b) (BitVec.ofInt 64 (IntKind.wrap .u64 (0 - b)))).toNat)*285870213051353865)) 288230376151711744=((2 ^ Lib.ctz 64 b.toNat*285870213051353865%18446744073709551616 / 288230376151711744:Nat):Int):=by
 obtain ⟨n,rfl,hn⟩:=Fq hb
 obtain ⟨q1,q2⟩:=Lib.lowest_bit 64 n (by omega) hn
 have e1:IntKind.wrap .u64 (0 - (n:Int))=((2 ^ 64 - n:Nat):Int):=by rw [ZI];omega
 rw [e1,XH hb (qN (by omega)),dG,dG,q1,ZI,Int.fdiv_eq_ediv_of_nonneg _ (by decide)]
 generalize 2 ^ Lib.ctz 64 n=q;omega
theorem Oi (a0:Int):g45 a0=bif decide (a0=0) then some (64,()) else tz (Int.fdiv (IntKind.wrap .u64 (IntKind.wrap .u64 (Int.ofNat (BitVec.and (BitVec.ofInt 64 a0) (BitVec.ofInt 64 (IntKind.wrap .u64 (0 - a0)))).toNat)*285870213051353865)) 288230376151711744):=rfl
theorem ac6 (a0:Int) (r0:IntKind.u64.has a0) (h:(!decide (a0=0))=true):g45 a0=some (ah.Bt.nth a0 0,()):=by
 have hb:=uh r0
 have h0:a0≠0:=by simpa using h
 obtain ⟨q3,q4⟩:=Lib.deBruijn64_at _ (xK hb h0).2;rw [Oi,jM h0,ac5 hb h0,akp q3,q4,akn hb h0];rfl
theorem ac7 {n:Nat} (h:n≤64):Nat.ble ((n+1)*8) 140737488355328=true:=iy (by omega)
theorem ac8 {b:Int} {k:Nat} (h:k<64):Bt.has b (k:Int)=tb b k:=by
 unfold Bt.has
 rw [fB (show (0:Int)≤(k:Int) by omega),fB (show (k:Int)<64 by omega)]
 rfl
def qP (b:Int) (k:Nat):List Int:=((List.range k).filter (tb b)).map fun (k:Nat)=>(k:Int)
theorem Kj (b:Int) (k:Nat):qP b (k+1)=qP b k++(if tb b k then [(k:Int)] else []):=by
 unfold qP;rw [List.range_succ,List.filter_append,List.map_append]
 congr 1
 by_cases h:tb b k=true<;>simp [h]
theorem Oj (b:Int) (k:Nat):(qP b k).length≤k:=by
 unfold qP;rw [List.length_map];exact Ib b k
theorem XP (a0:Int):ajy a0=some (ah.Bt.list a0,()):=by
 have key:∀ k,k≤64→Loop (vX a0) (((64 - k:Nat):Int),qP a0 (64 - k),())=some (qP a0 64,()):=by
  intro k
  induction k with
  | zero=>intro _;rw [aT];rfl
  | succ k ih=>
   intro hk
   have c:((64 - (k+1):Nat):Int)<64:=by omega
   have e:IntKind.wrap .i64 (((64 - (k+1):Nat):Int)+1)=((64 - k:Nat):Int):=by rw [fU (by omega) (by omega)];omega
   have hl:=Oj a0 (64 - (k+1))
   have hs:vX a0 (((64 - (k+1):Nat):Int),qP a0 (64 - (k+1)),())=some (.inl (((64 - k:Nat):Int),qP a0 (64 - k),())):=by
    have e2:64 - k=64 - (k+1)+1:=by omega
    unfold vX;rw [e2,Kj,←e2]
    simp only [c,decide_true,aQ,ac8 (b:=a0) (show 64 - (k+1)<64 by omega),ac7 (n:=(qP a0 (64 - (k+1))).length) (by omega),e]
    cases tb a0 (64 - (k+1))<;>simp
   rw [aT,hs]
   exact ih (by omega)
 have h:=key 64 (dQ _);unfold ajy;have h':Loop (vX a0) ((0:Int),[],())=some (qP a0 64,()):=h;rw [h'];rfl
def wa (x y:Int):Int:=IntKind.wrap .u64 (Int.ofNat (BitVec.and (BitVec.ofInt 64 x) (BitVec.ofInt 64 y)).toNat)
theorem xL {x y:Nat} (hx:x<2 ^ 64) (hy:y<2 ^ 64):wa (x:Int) (y:Int)=((x &&& y:Nat):Int):=XH (qN hx) (qN hy)
theorem fd (x d:Nat):Int.fdiv (x:Int) (d:Int)=((x / d:Nat):Int):=by
 rw [Int.fdiv_eq_ediv_of_nonneg _ (by omega),←Int.natCast_ediv]
theorem XQ {x:Int} (hx:U x) (i:Nat):IntKind.wrap .u64 (Int.ofNat (BitVec.and (BitVec.ofInt 64 (Int.fdiv x (2 ^ i))) (BitVec.ofInt 64 1)).toNat)=(((tb x i).toNat:Nat):Int):=by
 obtain ⟨n,rfl,hn⟩:=Fq hx;have h1:n / 2 ^ i<2 ^ 64:=Nat.lt_of_le_of_lt (Nat.div_le_self _ _) hn
 have e:Int.fdiv (n:Int) (2 ^ i)=((n / 2 ^ i:Nat):Int):=by rw [jV,fd]
 have a1:=xL (x:=n / 2 ^ i) (y:=1) h1 (by decide)
 simp only [Int.cast_ofNat_Int] at a1;unfold wa at a1;rw [e,a1,Nat.and_one_is_mod];unfold tb;rw [dG,Nat.testBit_eq_decide_div_mod_eq]
 by_cases h:n / 2 ^ i%2=1
 ·rw [h];rfl
 ·have:n / 2 ^ i%2=0:=by omega
  rw [this];rfl
theorem XR (a0 a1:Int) (r0:IntKind.u64.has a0):ajz a0 a1=some (ah.Bt.has a0 a1,()):=by
 have hx:=uh r0;unfold ajz ah.Bt.has;simp only [ge_iff_le]
 by_cases h1:0≤a1
 ·by_cases h2:a1<64
  ·obtain ⟨k,rfl⟩:∃ k:Nat,a1=(k:Int):=⟨a1.toNat,by omega⟩
   have e:IntKind.wrap .u64 (k:Int)=(k:Int):=wu64 (by omega) (by omega)
   rw [fB h1,fB h2,e,fB h1,dG,show min k 64=k by omega,pow2,XQ hx]
   simp only [aQ,gL,Bool.true_and]
   cases tb a0 k<;>rfl
  ·rw [fB h1,jM h2]
   rfl
 ·rw [jM h1]
  rfl
end
structure yF (t:Tb):Prop where
 r:1≤t.1∧t.1≤99
 s:0≤t.2.1∧t.2.1≤7
 l:dW t.2.2.1=true∨(t.2.2.1=0∧t.2.2.2.1=[])
 n:t.2.2.2.1.length≤256
 id:∀ x∈t.2.2.2.1,1≤x.1∧x.1≤256
 nx:∀ x∈t.2.2.2.1,∀ y∈x.2.1,1≤y∧y≤99
 m:∀ x∈t.2.2.2.1,x.2.1.length≤24
 ui:∀ x∈t.2.2.2.1,yE x.2.1=true
 uw:ZM t.2.2.2.1=true
 se:∀ x∈t.2.2.2.1,Dq t.1 x=false
theorem rX {t:Tb}:sD t=0↔yF t:=by
 unfold sD
 cases h1:(!ah.inside t.1 1 99 || !ah.inside t.2.1 0 7 || (!dW t.2.2.1 && !(decide (t.2.2.1=0)&&decide (t.2.2.2.1.length=0))) || t.2.2.2.1.any Cj) with
 | true=>
  simp only [aQ]
  refine ⟨fun h=>absurd h (by decide),fun h=>?_⟩
  have e1:=aZ.2 h.r;have e2:=aZ.2 h.s
  have e3:t.2.2.2.1.any Cj=false:=by
   rw [List.any_eq_false];intro x hx;unfold Cj;rw [aZ.2 (h.id x hx)];simp only [Bool.not_true,Bool.false_or,Bool.not_eq_true,List.any_eq_false,Bool.not_eq_false'];intro y hy;rw [aZ.2 (h.nx x hx y hy)]
  rw [e1,e2,e3] at h1
  rcases h.l with hl | ⟨hl,hl2⟩
  ·rw [hl] at h1;simp at h1
  ·rw [hl,hl2] at h1;simp at h1
 | false=>
  simp only [bU];simp only [Bool.or_eq_false_iff,Bool.not_eq_false',Bool.and_eq_false_iff,List.any_eq_false] at h1;obtain ⟨⟨⟨a1,a2⟩,a3⟩,a4⟩:=h1
  cases h2:(decide (256<t.2.2.2.1.length) || t.2.2.2.1.any (fun r=>decide (24<r.2.1.length))) with
  | true=>
   simp only [aQ]
   refine ⟨fun h=>absurd h (by decide),fun h=>?_⟩
   simp only [Bool.or_eq_true,jH,List.any_eq_true] at h2
   rcases h2 with h2 | ⟨x,hx,h2⟩
   ·have:=h.n;omega
   ·have:=h.m x hx;omega
  | false=>
   simp only [bU];simp only [Bool.or_eq_false_iff,decide_eq_false_iff_not,List.any_eq_false,jH] at h2
   cases h3:(!(t.2.2.2.1.all fun r=>yE r.2.1) || !ZM t.2.2.2.1) with
   | true=>
    simp only [aQ]
    refine ⟨fun h=>absurd h (by decide),fun h=>?_⟩
    rw [h.uw,List.all_eq_true.2 h.ui] at h3;cases h3
   | false=>
    simp only [bU];simp only [Bool.or_eq_false_iff,Bool.not_eq_false',List.all_eq_true] at h3
    cases h4:t.2.2.2.1.any (Dq t.1) with
    | true=>
     simp only [aQ]
     refine ⟨fun h=>absurd h (by decide),fun h=>?_⟩
     rw [List.any_eq_true] at h4;obtain ⟨x,hx,h4⟩:=h4;rw [h.se x hx] at h4;cases h4
    | false=>
     simp only [bU,true_iff];rw [List.any_eq_false] at h4
     have bad:∀ x∈t.2.2.2.1,Cj x=false:=fun x hx=>by simpa using a4 x hx
     refine ⟨aZ.1 a1,aZ.1 a2,?_,by omega,fun x hx=>?_,fun x hx y hy=>?_,fun x hx=>?_,h3.1,h3.2,fun x hx=>by simpa using h4 x hx⟩
     ·rcases a3 with a3 | a3
      ·exact .inl a3
      ·right
       simp only [bP,jH] at a3;exact ⟨a3.1,List.length_eq_zero_iff.1 a3.2⟩
     ·have:=bad x hx
      unfold Cj at this;simp only [Bool.or_eq_false_iff,Bool.not_eq_false'] at this;exact aZ.1 this.1
     ·have:=bad x hx
      unfold Cj at this;simp only [Bool.or_eq_false_iff,Bool.not_eq_false',List.any_eq_false] at this
      exact aZ.1 (by simpa using this.2 y hy)
     ·have:=h2.2 x hx;omega
theorem SV {t:Tb} (h:yF t) {x:Rw} (hx:x∈t.2.2.2.1) (p:Int):0≤iA x p∧iA x p≤99:=by
 unfold iA
 by_cases h0:x.2.1.length=0
 ·rw [dT h0];simp only [aQ];omega
 ·rw [dF h0]
  simp only [bU]
  have hm:=Int.emod_nonneg p (show (x.2.1.length:Int)≠0 by omega)
  have hm2:=Int.emod_lt_of_pos p (show (0:Int)<(x.2.1.length:Int) by omega)
  have:=h.nx x hx _ (kX (d:=0) (i:=(p%(x.2.1.length:Int)).toNat) (by omega))
  omega
theorem SX {n:Int} (h1:-9223372036854775808≤n) (h2:n≤9223372036854775807):IntKind.i64.has n:=⟨h1,h2⟩
theorem SY (id n:Int):0≤(place id n).2.1∧(place id n).2.1<64∧IntKind.i64.has (place id n).1:=by
 unfold place
 cases hc:(!dW n || !ah.inside id 1 256) with
 | true=>simp only [aQ];exact ⟨by decide,by decide,SX (by decide) (by decide)⟩
 | false=>
  simp only [bU];simp only [Bool.or_eq_false_iff,Bool.not_eq_false'] at hc;have h2:=aZ.1 hc.2
  rcases iB.1 hc.1 with rfl | rfl | rfl | rfl<;>exact ⟨by omega,by omega,SX (by omega) (by omega)⟩
theorem Ol (ln aK set nb:Int) (l:List Rw) (k:Nat) (hk:k<l.length):JK ln aK set nb (l.take (k+1)) =
 bif decide ((place (l.getD k zW).1 ln).1=set) && !decide (iA (l.getD k zW) aK=0)&&decide (iA (l.getD k zW) aK=nb) then Bt.or (JK ln aK set nb (l.take k)) (Bt.fK (place (l.getD k zW).1 ln).2.1) else JK ln aK set nb (l.take k):=by
 unfold JK;rw [xJ _ 0 l zW k hk]
theorem Fu {l:List Rt} (h:(Ty.sl rtT).ok l):l.length≤8796093022208:=by
 have h:l.length*16≤140737488355328:=h.1;omega
theorem S9 {l:List Lk} (h:(Ty.sl lkT).ok l):l.length≤8796093022208:=by
 have h:l.length*40≤140737488355328:=h.1;omega
theorem rY {α:Type} (b:Bool) (x y:α):(bif b then some x else some y)=some (bif b then x else y):=by cases b<;>rfl
theorem dV {α:Type} {l:List α} {d:α} {i:Nat} (h:i<l.length):l.getD i d=l[i]:=by
 rw [yP,List.getElem?_eq_getElem h];rfl
theorem XT (l:List Rt):(List.range l.length).any (fun i=>decide (0<i)&&decide ((l.getD (i - 1) zR).1≥(l.getD i zR).1)) = !upR l:=by
 unfold upR;rw [Bool.eq_iff_iff,List.any_eq_true];simp only [Bool.not_eq_true',bP,jH,List.mem_range];rw [Bool.eq_false_iff,ne_eq,List.all_eq_true];constructor
 ·rintro ⟨i,h1,h2,h3⟩ hc
  have:=of_decide_eq_true (hc (i - 1) (List.mem_range.2 (by omega)))
  rw [show i - 1+1=i by omega] at this
  omega
 ·intro hc
  refine Classical.byContradiction fun hn=>hc fun i hi=>?_
  have hi:=List.mem_range.1 hi;refine fB ?_
  refine Classical.byContradiction fun h2=>hn ⟨i+1,by omega,by omega,?_⟩
  rw [show i+1 - 1=i by omega]
  omega
theorem XU (l:List Lk):(List.range l.length).any (fun i=>decide (0<i) && !Lp (l.getD (i - 1) zL) (l.getD i zL)) = !upL l:=by
 unfold upL;rw [Bool.eq_iff_iff,List.any_eq_true];simp only [Bool.not_eq_true',bP,jH,List.mem_range];rw [Bool.eq_false_iff,ne_eq,List.all_eq_true];constructor
 ·rintro ⟨i,h1,h2,h3⟩ hc
  have:=hc (i - 1) (List.mem_range.2 (by omega))
  rw [show i - 1+1=i by omega,h3] at this
  cases this
 ·intro hc
  refine Classical.byContradiction fun hn=>hc fun i hi=>?_
  have hi:=List.mem_range.1 hi
  refine Classical.byContradiction fun h2=>hn ⟨i+1,by omega,by omega,?_⟩
  rw [show i+1 - 1=i by omega]
  exact Bool.eq_false_iff.2 h2
theorem XV (a0:Int):ajE a0=some (ah.inside a0 1 1000,()):=by
 unfold ajE ah.inside
 show (Option.bind (bif decide (1≤a0) then some (decide (a0≤1000),()) else some (false,())) fun y3=>some y3)=_
 cases decide (1≤a0)<;>rfl
theorem um {α β:Type} (f:(Int×Unit)→Option (Sum (Int×Unit) (Bool×(β×Unit)))) (l:List α) (d:α) (hit:α→Option β) (z:β)
 (hs:∀ i:Nat,i<l.length→f ((i:Int),())=some (match hit (l.getD i d) with | some v=>.inr (true,(v,())) | none=>.inl (((i+1:Nat):Int),())))
 (he:f ((l.length:Int),())=some (.inr (false,(z,())))):Loop f ((0:Int),())=some (match l.findSome? hit with | some v=>(true,(v,())) | none=>(false,(z,()))):=by
 have key:∀ j k,k+j=l.length→Loop f ((k:Int),())=some (match (l.drop k).findSome? hit with | some v=>(true,(v,())) | none=>(false,(z,()))):=by
  intro j
  induction j with
  | zero=>
   intro k hk
   have hk:k=l.length:=by omega
   subst hk;rw [aT,he,List.drop_length];rfl
  | succ j ih=>
   intro k hk
   have hlt:k<l.length:=by omega
   rw [aT,hs k hlt,List.drop_eq_getElem_cons hlt,List.findSome?_cons,dV hlt]
   cases hit l[k] with
   | some v=>rfl
   | none=>exact ih (k+1) (by omega)
 exact key l.length 0 (by omega)
theorem Ta {ρ:Type} (f:(Int×Unit)→Option (Sum (Int×Unit) ρ)) (n:Nat) (bad:Nat→Bool) (R1 R0:ρ)
 (h1:∀ i:Nat,1≤i→i<n→f ((i:Int),())=some (bif bad i then .inr R1 else .inl (((i+1:Nat):Int),())))
 (h0:∀ i:Nat,n≤i→i≤n+1→f ((i:Int),())=some (.inr R0)):Loop f ((1:Int),())=some (bif (List.range n).any (fun i=>decide (0<i)&&bad i) then R1 else R0):=by
 have key:∀ j k,k+j=n→1≤k→(∀ i,0<i→i<k→bad i=false)→Loop f ((k:Int),())=some (bif (List.range n).any (fun i=>decide (0<i)&&bad i) then R1 else R0):=by
  intro j
  induction j with
  | zero=>
   intro k hk hk1 hn
   have hk:k=n:=by omega
   subst hk
   rw [aT,h0 k (dQ _) (by omega)]
   have:(List.range k).any (fun i=>decide (0<i)&&bad i)=false:=by
    rw [Bool.eq_false_iff];intro h;obtain ⟨x,hx,hp⟩:=List.any_eq_true.1 h;simp only [bP,jH] at hp;rw [hn x hp.1 (List.mem_range.1 hx)] at hp;cases hp.2
   rw [this];rfl
  | succ j ih=>
   intro k hk hk1 hn
   rw [aT,h1 k hk1 (by omega)]
   cases hb:bad k with
   | true=>
    have:(List.range n).any (fun i=>decide (0<i)&&bad i)=true:=List.any_eq_true.2 ⟨k,List.mem_range.2 (by omega),by rw [hb,fB (show 0<k by omega)];rfl⟩
    rw [this];rfl
   | false=>
    refine ih (k+1) (by omega) (by omega) fun i hi hik=>?_
    by_cases h:i=k
    ·rw [h];exact hb
    ·exact hn i hi (by omega)
 by_cases hn:1≤n
 ·exact key (n - 1) 1 (by omega) (dQ _) (fun i h1 h2=>by omega)
 ·have:n=0:=by omega
  subst this;rw [aT]
  have:=h0 1 (by omega) (by omega)
  have this:f ((1:Int),())=_:=this;rw [this];rfl
theorem XW (a0:List ah.Rt) (a1:List ah.Lk) (a2:Int) (r0:(Ty.sl (rtT)).ok a0):aj1 a0 a1 a2=some (ah.ni a0 a2,()):=by
 have hl:=Fu r0
 have h:=um (zo a0 a2) a0 (0,false,()) (fun r=>bif decide (r.1=a2) then some (true,()) else none) (false,()) (fun i hi=>by
  unfold zo;simp only [bK,dG]
  rw [fB (show (i:Int)<(a0.length:Int) by omega),fB (show (0:Int)≤(i:Int) by omega),fU (n:=(i:Int)+1) (by omega) (by omega)]
  cases decide ((a0.getD i (0,false,())).1=a2)<;>rfl) (by
  unfold zo;simp only [bK]
  rw [jM (show ¬ (a0.length:Int)<(a0.length:Int) by omega)]
  rfl)
 unfold aj1;rw [h];clear h r0 hl
 induction a0 with
 | nil=>rfl
 | cons x r ih=>
  rw [List.findSome?_cons];show _=some ((decide (x.1=a2) || ah.ni r a2),())
  cases decide (x.1=a2) with
  | true=>rfl
  | false=>exact ih
theorem ac9 (l:List Rt) (hl:l.length≤8796093022208):Loop (Bv l) ((1:Int),())=some (bif !upR l then (true,((25,()),())) else (false,((0,()),()))):=by
 rw [←XT]
 refine Ta (Bv l) l.length _ _ _ (fun k h0 hlt=>?_) (fun i hi hi2=>?_)
 ·have e1:IntKind.wrap .i64 ((k:Int) - 1)=((k - 1:Nat):Int):=by rw [fU (by omega) (by omega)];omega
  have e2:IntKind.wrap .i64 ((k:Int)+1)=((k+1:Nat):Int):=by rw [fU (by omega) (by omega)];omega
  unfold Bv;simp only [bK,dG,e1,e2]
  rw [fB (show (k:Int)<(l.length:Int) by omega),fB (show (0:Int)≤((k - 1:Nat):Int) by omega),fB (show ((k - 1:Nat):Int)<(l.length:Int) by omega),fB (show (0:Int)≤(k:Int) by omega)]
  simp only [Bool.and_self,aQ];exact rY _ _ _
 ·unfold Bv
  simp only [bK]
  rw [jM (show ¬ (i:Int)<(l.length:Int) by omega)]
  rfl
theorem order2 (l:List Lk) (hl:l.length≤8796093022208):Loop (Bw l) ((1:Int),())=some (bif !upL l then (true,((25,()),())) else (false,((0,()),()))):=by
 rw [←XU]
 refine Ta (Bw l) l.length _ _ _ (fun k h0 hlt=>?_) (fun i hi hi2=>?_)
 ·have e1:IntKind.wrap .i64 ((k:Int) - 1)=((k - 1:Nat):Int):=by rw [fU (by omega) (by omega)];omega
  have e2:IntKind.wrap .i64 ((k:Int)+1)=((k+1:Nat):Int):=by rw [fU (by omega) (by omega)];omega
  unfold Bw;simp only [bK,dG,e1,e2]
  rw [fB (show (k:Int)<(l.length:Int) by omega),fB (show (0:Int)≤((k - 1:Nat):Int) by omega),fB (show ((k - 1:Nat):Int)<(l.length:Int) by omega),fB (show (0:Int)≤(k:Int) by omega)]
  simp only [Bool.and_self,aQ]
  have hb:∀ a b:Lk,Option.bind (bif !decide (a.1 > b.1) then (bif decide (a.1=b.1) then some (decide (a.2.1≥b.2.1),()) else some (false,())) else some (true,())) (fun y2:Bool×Unit=>bif y2.1 then some (Sum.inr (true,(((25:Int),()),()))) else some (Sum.inl (((k+1:Nat):Int),()))) =
   some (bif !Lp a b then (Sum.inr (true,(((25:Int),()),())):Sum (Int×Unit) (Bool×((Int×Unit)×Unit))) else Sum.inl (((k+1:Nat):Int),())):=by
   intro a b;unfold Lp
   by_cases h1:a.1<b.1
   ·rw [fB h1,jM (show ¬ a.1 > b.1 by omega),jM (show ¬ a.1=b.1 by omega)];rfl
   by_cases h2:a.1 > b.1
   ·rw [jM h1,fB h2,jM (show ¬ a.1=b.1 by omega)];rfl
   rw [jM h1,jM h2,fB (show a.1=b.1 by omega)]
   by_cases h3:a.2.1<b.2.1
   ·rw [fB h3,jM (show ¬ a.2.1≥b.2.1 by omega)];rfl
   ·rw [jM h3,fB (show a.2.1≥b.2.1 by omega)];rfl
  exact hb _ _
 ·unfold Bw
  simp only [bK]
  rw [jM (show ¬ (i:Int)<(l.length:Int) by omega)]
  rfl
theorem BI {α ρ:Type} (f:(Int×Unit)→Option (Sum (Int×Unit) ρ)) (l:List α) (d:α) (bad:α→Bool) (R1 R0:ρ)
 (h1:∀ i:Nat,i<l.length→f ((i:Int),())=some (bif bad (l.getD i d) then .inr R1 else .inl (((i+1:Nat):Int),())))
 (h0:f ((l.length:Int),())=some (.inr R0)):Loop f ((0:Int),())=some (bif l.any bad then R1 else R0):=
 ou l d bad R1 R0 (fun i hi hlt=>by
  obtain ⟨k,rfl⟩:∃ n:Nat,i=n:=⟨i.toNat,by omega⟩
  rw [h1 k (by omega),dG]
  rfl) h0
theorem ada (a0:List ah.Rt) (a1:List ah.Lk) (r0:(Ty.sl (rtT)).ok a0) (r1:(Ty.sl (lkT)).ok a1):g86 a0 a1=some (ah.xD (a0,a1,()),()):=by
 have h1:=Fu r0;have h2:=S9 r1
 have l0:Loop (ES a0) ((0:Int),())=some (bif a0.any Q7 then (true,((2,()),())) else (false,((0,()),()))):=by
  refine BI _ a0 (0,false,()) Q7 _ _ (fun k hk=>?_) ?_
  ·have e2:IntKind.wrap .i64 ((k:Int)+1)=((k+1:Nat):Int):=by rw [fU (by omega) (by omega)];omega
   unfold ES Q7 ah.inside;simp only [bK,dG,e2]
   rw [fB (show (k:Int)<(a0.length:Int) by omega),fB (show (0:Int)≤(k:Int) by omega)]
   simp only [Bool.and_self,aQ]
   by_cases q1:(a0.getD k (0,false,())).1<1
   ·rw [fB q1,jM (show ¬ 1≤(a0.getD k (0,false,())).1 by omega)];rfl
   by_cases q2:(a0.getD k (0,false,())).1 > 99
   ·rw [jM q1,fB q2,fB (show 1≤(a0.getD k (0,false,())).1 by omega),jM (show ¬ (a0.getD k (0,false,())).1≤99 by omega)];rfl
   ·rw [jM q1,jM q2,fB (show 1≤(a0.getD k (0,false,())).1 by omega),fB (show (a0.getD k (0,false,())).1≤99 by omega)];rfl
  ·unfold ES
   simp only [bK]
   rw [jM (show ¬ (a0.length:Int)<(a0.length:Int) by omega)]
   rfl
 have l2:Loop (ET a1) ((0:Int),())=some (bif a1.any Od then (true,((2,()),())) else (false,((0,()),()))):=by
  refine BI _ a1 (0,0,0,0,0,()) Od _ _ (fun k hk=>?_) ?_
  ·have e2:IntKind.wrap .i64 ((k:Int)+1)=((k+1:Nat):Int):=by rw [fU (by omega) (by omega)];omega
   have hb:∀ x:Lk,Od x=(!ah.inside x.2.2.1 1 1000 || !ah.inside x.2.2.2.1 1 1000 || (decide (x.2.2.2.2.1<0) || decide (x.2.2.2.2.1 > 1000))):=by
    intro x;unfold Od ah.inside
    congr 1
    by_cases q1:x.2.2.2.2.1<0
    ·rw [fB q1,jM (show ¬ 0≤x.2.2.2.2.1 by omega)];rfl
    by_cases q2:x.2.2.2.2.1 > 1000
    ·rw [jM q1,fB q2,fB (show 0≤x.2.2.2.2.1 by omega),jM (show ¬ x.2.2.2.2.1≤1000 by omega)];rfl
    ·rw [jM q1,jM q2,fB (show 0≤x.2.2.2.2.1 by omega),fB (show x.2.2.2.2.1≤1000 by omega)];rfl
   unfold ET;simp only [bK,dG,e2]
   rw [fB (show (k:Int)<(a1.length:Int) by omega),fB (show (0:Int)≤(k:Int) by omega),hb]
   cases ah.inside (a1.getD k (0,0,0,0,0,())).2.2.1 1 1000 with
   | false=>rfl
   | true=>
   cases ah.inside (a1.getD k (0,0,0,0,0,())).2.2.2.1 1 1000 with
   | false=>rfl
   | true=>
   cases decide ((a1.getD k (0,0,0,0,0,())).2.2.2.2.1<0) with
   | true=>rfl
   | false=>cases decide ((a1.getD k (0,0,0,0,0,())).2.2.2.2.1 > 1000)<;>rfl
  ·unfold ET
   simp only [bK]
   rw [jM (show ¬ (a1.length:Int)<(a1.length:Int) by omega)]
   rfl
 have l3:Loop (EU a0 a1) ((0:Int),())=some (bif a1.any (fun l=>!ah.ni a0 l.1 || !ah.ni a0 l.2.1) then (true,((4,()),())) else (false,((0,()),()))):=by
  refine BI _ a1 (0,0,0,0,0,()) _ _ _ (fun k hk=>?_) ?_
  ·have e2:IntKind.wrap .i64 ((k:Int)+1)=((k+1:Nat):Int):=by rw [fU (by omega) (by omega)];omega
   unfold EU;simp only [bK,dG,e2]
   rw [fB (show (k:Int)<(a1.length:Int) by omega),fB (show (0:Int)≤(k:Int) by omega)]
   cases ah.ni a0 (a1.getD k (0,0,0,0,0,())).1 with
   | false=>rfl
   | true=>cases ah.ni a0 (a1.getD k (0,0,0,0,0,())).2.1<;>rfl
  ·unfold EU
   simp only [bK]
   rw [jM (show ¬ (a1.length:Int)<(a1.length:Int) by omega)]
   rfl
 have l4:Loop (EW a1) ((0:Int),())=some (bif a1.any down then (true,((8,()),())) else (false,((0,()),()))):=by
  refine BI _ a1 (0,0,0,0,0,()) down _ _ (fun k hk=>?_) ?_
  ·have e2:IntKind.wrap .i64 ((k:Int)+1)=((k+1:Nat):Int):=by rw [fU (by omega) (by omega)];omega
   unfold EW;simp only [bK,dG,e2]
   rw [fB (show (k:Int)<(a1.length:Int) by omega),fB (show (0:Int)≤(k:Int) by omega)]
   simp only [Bool.and_self,aQ];exact rY _ _ _
  ·unfold EW
   simp only [bK]
   rw [jM (show ¬ (a1.length:Int)<(a1.length:Int) by omega)]
   rfl
 unfold g86 xD;rw [l0,ac9 a0 h1,l2,l3,l4,order2 a1 h2]
 have e1:decide (Int.ofNat a0.length > 24)=decide (24<a0.length):=decide_eq_decide.2 (by simp only [bK];omega)
 have e2:decide (Int.ofNat a1.length > 60)=decide (60<a1.length):=decide_eq_decide.2 (by simp only [bK];omega)
 rw [e1,e2];simp only
 cases decide (24<a0.length) with
 | true=>rfl
 | false=>
 cases decide (60<a1.length) with
 | true=>rfl
 | false=>
 simp only [Bool.not_false,aQ,gL,bU,Bool.or_self]
 cases a0.any Q7 with
 | true=>rfl
 | false=>
 cases upR a0 with
 | false=>rfl
 | true=>
 cases a1.any Od with
 | true=>rfl
 | false=>
 cases a1.any (fun l=>!ah.ni a0 l.1 || !ah.ni a0 l.2.1) with
 | true=>rfl
 | false=>
 cases a1.any down with
 | true=>rfl
 | false=>
 cases upL a1<;>rfl
theorem XY (a0:List ah.Rt) (a1:List ah.Lk) (a2:Int) (r0:(Ty.sl (rtT)).ok a0):akb a0 a1 a2=some (ah.Ey (a0,a1,()) a2,()):=by
 have hl:=Fu r0
 have h:=um (zC a0 a2) a0 (0,false,()) (fun r=>bif decide (r.1=a2) then some r.2 else none) (false,()) (fun i hi=>by
  unfold zC;simp only [bK,dG]
  rw [fB (show (i:Int)<(a0.length:Int) by omega),fB (show (0:Int)≤(i:Int) by omega),fU (n:=(i:Int)+1) (by omega) (by omega)]
  cases decide ((a0.getD i (0,false,())).1=a2)<;>rfl) (by
  unfold zC;simp only [bK]
  rw [jM (show ¬ (a0.length:Int)<(a0.length:Int) by omega)]
  rfl)
 unfold akb Ey okT;rw [h]
 have hf:∀ l:List Rt,Option.bind (some (match l.findSome? (fun r=>bif decide (r.1=a2) then some r.2 else none) with | some v=>(true,(v,())) | none=>(false,((false,()),())))) (fun y3:Bool×((Bool×Unit)×Unit)=>bif y3.1 then some y3.2.1 else some (false,()))=some (acC l a2,()):=by
  intro l
  induction l with
  | nil=>rfl
  | cons x r ih=>
   rw [List.findSome?_cons];unfold acC;rw [List.findIdx_cons]
   by_cases hx:x.1=a2
   ·simp only [fB hx,aQ]
    rfl
   ·simp only [jM hx,bU]
    exact ih
 cases decide (xD (a0,a1,())=0) with
 | false=>rfl
 | true=>
  refine Eq.trans ?_ (hf a0)
  cases a0.findSome? (fun r=>bif decide (r.1=a2) then some r.2 else none)<;>rfl
def hi (r y:Int):Int:=bif decide (r<y) then y else r
theorem XZ (a0:Int):ajQ a0=some (ah.Bt.full a0,()):=by
 unfold ajQ
 cases hv:dW a0 with
 | false=>unfold Bt.full;rw [hv];rfl
 | true=>rcases iB.1 hv with rfl | rfl | rfl | rfl<;>rfl
theorem Tc {x:Nat} (hx:x<2 ^ 64) {n:Nat} (hn:n≤64):(x &&& (18446744073709551615 - (2 ^ n - 1))=0)↔x<2 ^ n:=by
 have hle:2 ^ n≤2 ^ 64:=Nat.pow_le_pow_right (by decide) hn
 have hpos:=Nat.two_pow_pos n
 have e:18446744073709551615 - (2 ^ n - 1)=2 ^ 64 - ((2 ^ n - 1)+1):=by omega
 have hb:∀ i,(x &&& (18446744073709551615 - (2 ^ n - 1))).testBit i=(x.testBit i&&(decide (i<64) && !decide (i<n))):=fun i=>by
  rw [Nat.testBit_and,e,Nat.testBit_two_pow_sub_succ (by omega),Nat.testBit_two_pow_sub_one]
 constructor
 ·intro h
  refine Nat.lt_pow_two_of_testBit _ fun i hi=>?_
  by_cases h64:i<64
  ·have:=hb i
   rw [h] at this
   have h3:¬ i<n:=by omega
   simp [h64,h3] at this;exact this
  ·have h1:2 ^ 64≤2 ^ i:=Nat.pow_le_pow_right (by decide) (by omega)
   exact Nat.testBit_lt_two_pow (nG hx h1)
 ·intro h
  refine Nat.eq_of_testBit_eq fun i=>?_
  rw [hb,Nat.zero_testBit]
  by_cases h3:i<n
  ·simp [h3]
  ·have h1:2 ^ n≤2 ^ i:=Nat.pow_le_pow_right (by decide) (by omega)
   rw [Nat.testBit_lt_two_pow (nG h h1)];rfl
theorem Dv {x n:Int} (hx:U x) (hv:dW n=true):decide (IntKind.wrap .u64 (Int.ofNat (BitVec.and (BitVec.ofInt 64 x) (BitVec.not (BitVec.ofInt 64 (Bt.full n)))).toNat)=0)=decide (x<2 ^ n.toNat):=by
 rw [Z5 hx (ac4 n),Ic hv,dG]
 have hn:n.toNat≤64:=by rcases iB.1 hv with rfl | rfl | rfl | rfl<;>decide
 have:=Tc (Ki hx) hn
 have e:(x<2 ^ n.toNat)↔x.toNat<2 ^ n.toNat:=by
  rw [jV];have:=hx.1;generalize 2 ^ n.toNat=q;omega
 have e2:(((x.toNat &&& (18446744073709551615 - (2 ^ n.toNat - 1)):Nat):Int)=0)↔(x.toNat &&& (18446744073709551615 - (2 ^ n.toNat - 1)))=0:=by
  generalize x.toNat &&& (18446744073709551615 - (2 ^ n.toNat - 1))=q;omega
 congr 1
 exact propext (e2.trans (this.trans e.symm))
theorem X0 (a0 a1:Int) (r0:IntKind.u64.has a0):ajA a0 a1=some (ah.kJ a0 a1,()):=by
 unfold ajA ah.kJ
 cases hv:dW a1 with
 | false=>rfl
 | true=>rw [Dv (uh r0) hv];rfl
theorem X3 (a0 a1:Int) (r0:IntKind.u64.has a0):akh a0 a1=some (ah.kJ a0 a1,()):=by
 unfold akh ah.kJ
 cases hv:dW a1 with
 | false=>rfl
 | true=>rw [Dv (uh r0) hv];rfl
theorem adb (a0 a1:Int):g99 a0 a1=some (ah.inside a0 0 a1,()):=by
 unfold g99 ah.inside;simp only [BG,gL]
theorem X4 (a0 a1:Int):ajT a0 a1=some (ah.inside a0 0 a1,()):=by
 unfold ajT ah.inside;simp only [BG,gL]
theorem akq (l:List Int):decide (Int.ofNat l.length≤64)=decide (l.length≤64):=decide_eq_decide.2 (by simp;omega)
theorem ade (a0 a1 a2 a3 a4 a5 a6 a7 a8:Int) (a9:List Int):g42 a0 a1 a2 a3 a4 a5 a6 a7 a8 a9=some (ah.dz (a0,a1,a2,a3,a4,a5,a6,a7,a8,a9,()),()):=by
 unfold g42 dz;simp only [md,sd,st,ln,tl,en,ig,pr,bt,py,BG,gL,akq,Bool.and_assoc];unfold ah.inside;simp only [Bool.and_assoc];rfl
theorem adf (a0 a1 a2 a3 a4 a5 a6 a7 a8:Int) (a9:List Int):g56 a0 a1 a2 a3 a4 a5 a6 a7 a8 a9=some (ah.dz (a0,a1,a2,a3,a4,a5,a6,a7,a8,a9,()),()):=by
 unfold g56 dz;simp only [md,sd,st,ln,tl,en,ig,pr,bt,py,BG,gL,akq,Bool.and_assoc];unfold ah.inside;simp only [Bool.and_assoc];rfl
structure Fit (p:Pk):Prop where
 hm:1≤md p∧md p≤3
 hd:0≤sd p∧sd p≤7
 hs:0≤ah.st p∧ah.st p≤31
 hl:dW (ln p)=true
 hb:bt p<2 ^ (ln p).toNat
 ht:0≤tl p∧tl p≤63
 he:0≤en p∧en p≤1023
 hg:0≤ig p∧ig p≤256
 hr:0≤pr p∧pr p≤7
 hp:(py p).length≤64
theorem Dw {p:Pk}:dz p=true↔Fit p:=by
 unfold dz kJ ah.inside;simp only [bP,jH];constructor
 ·rintro ⟨⟨⟨⟨⟨⟨⟨⟨h1,h2⟩,h3⟩,h4⟩,h5⟩,h6⟩,h7⟩,h8⟩,h9⟩
  exact ⟨h1,h2,h3,h4.1,h4.2,h5,h6,h7,h8,h9⟩
 ·rintro ⟨h1,h2,h3,h4,h4',h5,h6,h7,h8,h9⟩
  exact ⟨⟨⟨⟨⟨⟨⟨⟨h1,h2⟩,h3⟩,h4,h4'⟩,h5⟩,h6⟩,h7⟩,h8⟩,h9⟩
theorem X5 (a0 a1 a2 a3 a4 a5 a6 a7 a8:Int) (a9:List Int):aj4 a0 a1 a2 a3 a4 a5 a6 a7 a8 a9=some (ah.aK (a0,a1,a2,a3,a4,a5,a6,a7,a8,a9,()),()):=by
 unfold aj4 aK
 cases h:dz (a0,a1,a2,a3,a4,a5,a6,a7,a8,a9,()) with
 | false=>rfl
 | true=>
  have h1:0≤a5:=(Dw.1 h).he.1;simp only [Bool.not_true,bU,aQ,Lg h1];rfl
theorem Fv {t:Ty} {l:List t.den} (h:(Ty.sl t).ok l) (ht:0<t.pV):l.length≤281474976710656:=by
 have h1:l.length*t.pV≤big:=h.1;have:l.length*1≤l.length*t.pV:=Nat.mul_le_mul_left _ ht
 have e:big=281474976710656∨big=140737488355328:=by unfold big;omega
 omega
theorem X6 (a0:List Int) (a1:Int) (r0:(Ty.sl (.int .i64)).ok a0):ajM a0 a1=some (ah.idx (fun y=>decide (a1=y)) a0,()):=by
 have hl:=Fv r0 (by decide)
 unfold ajM
 refine oD _ a0 (fun y=>decide (a1=y)) 0 (fun i hi=>?_) ?_
 ·unfold EK
  simp only [bK,dG]
  rw [fB (show (i:Int)<(a0.length:Int) by omega),fB (show (0:Int)≤(i:Int) by omega),fU (n:=(i:Int)+1) (by omega) (by omega)]
  cases decide (a1=a0.getD i 0)<;>rfl
 ·unfold EK
  simp only [bK]
  rw [jM (show ¬ (a0.length:Int)<(a0.length:Int) by omega)]
  rfl
theorem X7 (a0:List Int) (a1:Int):ajV a0 a1=some (a0.any fun y=>decide (a1=y),()):=by
 unfold ajV;rw [Fj]
theorem X8 (a0:List Int) (a1:Int) (r0:(Ty.sl (.int .i64)).ok a0):ajx a0 a1=some (ah.has a0 a1,()):=by
 have hl:=H9 r0
 have hL:Loop (zk a0 a1) ((0:Int),())=some (bif ah.has a0 a1 then (true,((true,()),())) else (false,((false,()),()))):=by
  refine BI _ a0 0 (fun x=>decide (x=a1)) _ _ (fun k hk=>?_) ?_
  ·unfold zk
   simp only [bK,dG]
   rw [dT (show (k:Int)<(a0.length:Int) by omega),dT (show (0:Int)≤(k:Int) by omega),aG (by omega)]
   cases decide (a0.getD k 0=a1)<;>rfl
  ·unfold zk
   simp only [bK]
   rw [dF (show ¬ (a0.length:Int)<(a0.length:Int) by omega)]
   rfl
 unfold ajx;rw [hL]
 cases ah.has a0 a1<;>rfl
theorem Td {l:List Rw} (h:(Ty.sl rwT).ok l):l.length≤4398046511104:=by
 have h:l.length*32≤140737488355328:=h.1;omega
theorem X9 (n:Nat) (key:Nat→Int):((List.range n).any fun i=>decide (0<i)&&decide (key i≤key (i - 1))) = !((List.range (n - 1)).all fun i=>decide (key i<key (i+1))):=by
 rw [Bool.eq_iff_iff,List.any_eq_true,Bool.not_eq_true',List.all_eq_false];constructor
 ·rintro ⟨i,hi,h⟩
  have hi:=List.mem_range.1 hi;simp only [bP,jH] at h
  refine ⟨i - 1,List.mem_range.2 (by omega),?_⟩
  rw [show i - 1+1=i by omega,jH]
  omega
 ·rintro ⟨i,hi,h⟩
  have hi:=List.mem_range.1 hi;rw [jH] at h
  refine ⟨i+1,List.mem_range.2 (by omega),?_⟩
  rw [Nat.add_sub_cancel,dT (show 0<i+1 by omega),Bool.true_and,jH]
  omega
def Mi (l:List Rw) (i:Nat):Bool:=!yE (l.getD i zW).2.1 || (decide (0<i)&&decide ((l.getD i zW).1≤(l.getD (i - 1) zW).1))
theorem Om (l:List Rw):(List.range l.length).any (Mi l)=(!(l.all fun r=>yE r.2.1) || !ZM l):=by
 unfold ZM
 rw [←X9 l.length fun i=>(l.getD i zW).1]
 rw [show (List.range l.length).any (Mi l)=(List.range l.length).any (fun i=>!yE (l.getD i zW).2.1 || (decide (0<i)&&decide ((l.getD i zW).1≤(l.getD (i - 1) zW).1))) from rfl,SK]
 congr 1
 rw [Bool.eq_iff_iff,List.any_eq_true,Bool.not_eq_true',List.all_eq_false];constructor
 ·rintro ⟨i,hi,h⟩
  have hi:=List.mem_range.1 hi
  refine ⟨l.getD i zW,?_,by simpa using h⟩
  rw [dV hi];exact List.getElem_mem _
 ·rintro ⟨x,hx,h⟩
  obtain ⟨i,hi,rfl⟩:=List.getElem_of_mem hx;refine ⟨i,List.mem_range.2 hi,?_⟩;rw [dV hi]
  simpa using h
theorem Ya (a0 a1 a2:Int):ajS a0 a1 a2=some (ah.inside a0 a1 a2,()):=by
 unfold ajS ah.inside;rw [orI];rfl
theorem Yb (l:List Rw) (id:Int):((List.range l.length).find? fun i=>decide ((l.getD i zW).1=id)).map (fun i=>l.getD i zW)=l.find? fun r=>decide (r.1=id):=by
 have h:l=(List.range l.length).map fun i=>l.getD i zW:=List.ext_getElem (by simp) fun i h1 h2=>by
  rw [List.getElem_map,List.getElem_range,dV h1]
 conv=>rhs;rw [h,List.find?_map]
 rfl
theorem Te (t:Tb) (id:Int):fF t id=match (List.range t.2.2.2.1.length).find? (fun i=>decide ((t.2.2.2.1.getD i zW).1=id)) with
 | some i=>(t.2.2.2.1.getD i zW,true,())
 | none=>(zW,false,()):=by
 unfold fF;rw [←Yb]
 cases (List.range t.2.2.2.1.length).find? (fun i=>decide ((t.2.2.2.1.getD i zW).1=id))<;>rfl
theorem Yc (a0 a1 a2:Int) (a3:List ah.Fl) (a4:Int) (r3:(Ty.sl (rwT)).ok a3):ajI a0 a1 a2 a3 a4=some (ah.fF (a0,a1,a2,a3,()) a4,()):=by
 have hl:=Td r3
 have hL:=xB (step:=vY a3 a4) (fun k=>(zW,((k:Int),()))) a3.length (false,((zW,(false,())),(zW,())))
  (fun k=>bif decide ((a3.getD k zW).1=a4) then some (true,((a3.getD k zW,(true,())),(zW,()))) else none) (fun k hk=>by
   unfold vY;simp only [bK,dG]
   rw [dT (show (k:Int)<(a3.length:Int) by omega),dT (show (0:Int)≤(k:Int) by omega),aG (by omega)]
   by_cases h:(a3.getD k zW).1=a4
   ·rw [dT h];rfl
   ·rw [dF h];rfl) (by
   unfold vY;simp only [bK]
   rw [dF (show ¬ (a3.length:Int)<(a3.length:Int) by omega)]
   rfl)
 rw [sO] at hL;unfold ajI;have hL:Loop (vY a3 a4) ((0,[],()),0,())=_:=hL;rw [hL,Te];simp only
 cases (List.range a3.length).find? (fun i=>decide ((a3.getD i zW).1=a4))<;>rfl
theorem Tf {a:Int} (h:0≤a) (n:Nat):Int.tmod a (n:Int)=a%(n:Int):=Int.tmod_eq_emod_of_nonneg h
theorem Yd (a0 a1 a2:Int) (a3:List ah.Fl) (a4 a5:Int) (h:(decide (0≤a5))=true):ajv a0 a1 a2 a3 a4 a5=some (ah.Bl (a0,a1,a2,a3,()) a4 a5,()):=by
 have h:=of_decide_eq_true h;unfold ajv Bl iA;simp only [bK];generalize fF (a0,a1,a2,a3,()) a4=f
 cases hf:f.2.1 with
 | false=>rfl
 | true=>
  by_cases h0:f.1.2.1.length=0
  ·rw [dT (show (f.1.2.1.length:Int)=0 by omega),dT h0]
   rfl
  ·have e1:=Int.emod_nonneg a5 (show (f.1.2.1.length:Int)≠0 by omega)
   have e2:=Int.emod_lt_of_pos a5 (show 0<(f.1.2.1.length:Int) by omega)
   simp only [Tf h]
   rw [dF (show ¬ (f.1.2.1.length:Int)=0 by omega),dF h0,dT e1,dT e2]
   rfl
theorem rZ {α:Type} (l:List α) (d:α) (p:α→Bool):(List.range l.length).any (fun j=>p (l.getD j d))=l.any p:=by
 have h:l=(List.range l.length).map fun i=>l.getD i d:=List.ext_getElem (by simp) fun i h1 h2=>by
  rw [List.getElem_map,List.getElem_range,dV h1]
 conv=>rhs;rw [h,List.any_map]
 rfl
theorem adg (r:List Int):(List.range (r.length - 1)).any (fun i=>decide (r.getD (i+1) 0≤r.getD i 0)) = !yE r:=by
 unfold yE;rw [List.not_all_eq_any_not]
 congr 1
 funext i
 by_cases h:r.getD i 0<r.getD (i+1) 0
 ·rw [dT h,dF (by omega)];rfl
 ·rw [dF h,dT (by omega)];rfl
theorem Tg (r:List Int) (id:Int):ah.has r id=r.any fun y=>decide (id=y):=by
 unfold ah.has
 congr 1
 funext y
 exact decide_eq_decide.2 ⟨fun h=>h.symm,fun h=>h.symm⟩
theorem Mj {l:List Rw} (h:(Ty.sl rwT).ok l) (k:Nat) (hk:k<l.length):(l.getD k zW).2.1.length≤17592186044416:=by
 rw [dV hk];exact H9 (h.2 _ (List.getElem_mem hk)).2.1
theorem Ye (a0 a1 a2:Int) (a3:List ah.Fl) (r3:(Ty.sl (rwT)).ok a3):aj7 a0 a1 a2 a3=some (ah.sD (a0,a1,a2,a3,()),()):=by
 have hl:=Td r3
 have hS0:∀ k,k<a3.length→Loop (zq a3 ((k:Int),())) ((0:Int),())=some (bif (a3.getD k zW).2.1.any (fun n=>!ah.inside n 1 99) then (true,((2,()),())) else (false,((0,()),()))):=by
  intro k hk;have hr:=Mj r3 k hk;rw [←rZ _ 0]
  refine sP _ (a3.getD k zW).2.1.length _ _ _ (fun i hi=>?_) ?_
  ·unfold zq
   simp only [bK,dG]
   rw [dT (show (k:Int)<(a3.length:Int) by omega),dT (show (0:Int)≤(k:Int) by omega),dT (show (i:Int)<((a3.getD k zW).2.1.length:Int) by omega),dT (show (0:Int)≤(i:Int) by omega),aG (by omega)]
   cases ah.inside ((a3.getD k zW).2.1.getD i 0) 1 99<;>rfl
  ·unfold zq
   simp only [bK,dG]
   rw [dT (show (k:Int)<(a3.length:Int) by omega),dT (show (0:Int)≤(k:Int) by omega),dF (show ¬ ((a3.getD k zW).2.1.length:Int)<((a3.getD k zW).2.1.length:Int) by omega)]
   rfl
 have hS1:Loop (zu a3) ((0:Int),())=some (bif a3.any Cj then (true,((2,()),())) else (false,((0,()),()))):=by
  rw [←rZ _ zW]
  refine sP _ a3.length _ _ _ (fun i hi=>?_) ?_
  ·unfold zu
   rw [hS0 i hi];simp only [bK,dG]
   rw [dT (show (i:Int)<(a3.length:Int) by omega),dT (show (0:Int)≤(i:Int) by omega),aG (by omega)]
   unfold Cj
   cases ah.inside (a3.getD i zW).1 1 256<;>cases (a3.getD i zW).2.1.any (fun n=>!ah.inside n 1 99)<;>rfl
  ·unfold zu
   simp only [bK]
   rw [dF (show ¬ (a3.length:Int)<(a3.length:Int) by omega)]
   rfl
 have hS2:Loop (zw a3) ((0:Int),())=some (bif a3.any (fun r=>decide (24<r.2.1.length)) then (true,((3,()),())) else (false,((0,()),()))):=by
  rw [←rZ _ zW]
  refine sP _ a3.length _ _ _ (fun i hi=>?_) ?_
  ·unfold zw
   simp only [bK,dG]
   rw [dT (show (i:Int)<(a3.length:Int) by omega),dT (show (0:Int)≤(i:Int) by omega),aG (by omega)]
   by_cases h:24<(a3.getD i zW).2.1.length
   ·rw [dT (show ((a3.getD i zW).2.1.length:Int) > 24 by omega),dT h];rfl
   ·rw [dF (show ¬ ((a3.getD i zW).2.1.length:Int) > 24 by omega),dF h];rfl
  ·unfold zw
   simp only [bK]
   rw [dF (show ¬ (a3.length:Int)<(a3.length:Int) by omega)]
   rfl
 have hS3:∀ k,k<a3.length→Loop (zx a3 ((k:Int),())) ((1:Int),())=some (bif !yE (a3.getD k zW).2.1 then (true,((25,()),())) else (false,((0,()),()))):=by
  intro k hk;have hr:=Mj r3 k hk;rw [←adg]
  refine Go.gI.QU _ (a3.getD k zW).2.1.length (fun i=>decide ((a3.getD k zW).2.1.getD i 0≤(a3.getD k zW).2.1.getD (i - 1) 0)) _ _ (fun i h1 hi=>?_) (fun i h1 hi=>?_)
  ·unfold zx
   rw [sQ (by omega) (by omega)]
   simp only [bK,dG]
   rw [dT (show (i:Int)<((a3.getD k zW).2.1.length:Int) by omega),dT (show (0:Int)≤(i:Int) by omega),dT (show ((i - 1:Nat):Int)<((a3.getD k zW).2.1.length:Int) by omega),dT (show (0:Int)≤((i - 1:Nat):Int) by omega),aG (by omega)]
   by_cases h:(a3.getD k zW).2.1.getD i 0≤(a3.getD k zW).2.1.getD (i - 1) 0
   ·rw [dT (show (a3.getD k zW).2.1.getD (i - 1) 0≥(a3.getD k zW).2.1.getD i 0 from h)];first | rfl | (rw [dT h];rfl)
   ·rw [dF (show ¬ (a3.getD k zW).2.1.getD (i - 1) 0≥(a3.getD k zW).2.1.getD i 0 from h)];first | rfl | (rw [dF h];rfl)
  ·unfold zx
   simp only [bK,dG]
   rw [dF (show ¬ (i:Int)<((a3.getD k zW).2.1.length:Int) by omega)]
   rfl
 have hS4:Loop (zy a3) ((0:Int),())=some (bif (List.range a3.length).any (Mi a3) then (true,((25,()),())) else (false,((0,()),()))):=by
  refine sP _ a3.length _ _ _ (fun i hi=>?_) ?_
  ·unfold zy Mi
   rw [hS3 i hi];simp only [bK,dG]
   rw [dT (show (i:Int)<(a3.length:Int) by omega),dT (show (0:Int)≤(i:Int) by omega),aG (by omega)]
   by_cases h0:0<i
   ·rw [dT (show (i:Int) > 0 by omega),dT h0,sQ h0 (by omega)]
    simp only [dG]
    rw [dT (show (0:Int)≤((i - 1:Nat):Int) by omega),dT (show ((i - 1:Nat):Int)<(a3.length:Int) by omega)]
    by_cases h1:(a3.getD i zW).1≤(a3.getD (i - 1) zW).1
    ·rw [dT (show (a3.getD (i - 1) zW).1≥(a3.getD i zW).1 from h1)]
     first | (cases yE (a3.getD i zW).2.1<;>rfl) | (rw [dT h1];cases yE (a3.getD i zW).2.1<;>rfl)
    ·rw [dF (show ¬ (a3.getD (i - 1) zW).1≥(a3.getD i zW).1 from h1)]
     first | (cases yE (a3.getD i zW).2.1<;>rfl) | (rw [dF h1];cases yE (a3.getD i zW).2.1<;>rfl)
   ·rw [dF (show ¬ (i:Int) > 0 by omega),dF h0]
    cases yE (a3.getD i zW).2.1<;>rfl
  ·unfold zy
   simp only [bK]
   rw [dF (show ¬ (a3.length:Int)<(a3.length:Int) by omega)]
   rfl
 have hS5:Loop (zA a0 a3) ((0:Int),())=some (bif a3.any (Dq a0) then (true,((8,()),())) else (false,((0,()),()))):=by
  rw [←rZ _ zW]
  refine sP _ a3.length _ _ _ (fun i hi=>?_) ?_
  ·unfold zA Dq
   simp only [bK,dG]
   rw [dT (show (i:Int)<(a3.length:Int) by omega),dT (show (0:Int)≤(i:Int) by omega),aG (by omega),Tg]
   by_cases h:1<(a3.getD i zW).2.1.length
   ·rw [dT (show ((a3.getD i zW).2.1.length:Int) > 1 by omega),dT h]
    cases (a3.getD i zW).2.1.any (fun y=>decide (a0=y))<;>rfl
   ·rw [dF (show ¬ ((a3.getD i zW).2.1.length:Int) > 1 by omega),dF h];rfl
  ·unfold zA
   simp only [bK]
   rw [dF (show ¬ (a3.length:Int)<(a3.length:Int) by omega)]
   rfl
 unfold aj7 sD;rw [hS1,hS2,hS4,hS5,Om];simp only [bK]
 have e1:decide ((a3.length:Int) > 0) = !decide (a3.length=0):=by
  by_cases h:a3.length=0
  ·rw [dT h,dF (by omega)];rfl
  ·rw [dF h,dT (by omega)];rfl
 have e2:decide ((a3.length:Int) > 256)=decide (256<a3.length):=decide_eq_decide.2 (by omega)
 rw [e1,e2]
 cases decide (a2=0)<;>cases decide (a3.length=0)<;>cases ah.inside a0 1 99<;>cases ah.inside a1 0 7<;>cases dW a2<;>cases a3.any Cj<;>cases decide (256<a3.length)<;>cases (a3.any fun r=>decide (24<r.2.1.length))<;>cases (a3.all fun r=>yE r.2.1)<;>cases ZM a3<;>cases a3.any (Dq a0)<;>rfl
theorem Yf {x y:Int} (hx:U x) (hy:U y):U (Bt.or x y):=qN (Nat.or_lt_two_pow (Ki hx) (Ki hy))
theorem Yg {x y:Int} (hx:U x) (hy:U y):IntKind.wrap .u64 (Int.ofNat (BitVec.or (BitVec.ofInt 64 x) (BitVec.ofInt 64 y)).toNat)=Bt.or x y:=bor hx hy
def BJ (t:Tb) (p s n:Int) (k:Nat):Int:=(List.range k).foldl (fun a k=>bif Ez t p s n k then Bt.or a (Bt.fK k) else a) 0
theorem xM (t:Tb) (p s n:Int) (k:Nat):BJ t p s n (k+1)=bif Ez t p s n k then Bt.or (BJ t p s n k) (Bt.fK k) else BJ t p s n k:=by
 unfold BJ;rw [List.range_succ,List.foldl_append];rfl
theorem Fx (t:Tb) (p s n:Int):∀ k,U (BJ t p s n k)
 | 0=>U0
 | k+1=>by
  rw [xM]
  cases Ez t p s n k with
  | true=>exact Yf (Fx t p s n k) (qO _)
  | false=>exact Fx t p s n k
theorem Yh (a0 a1 a2:Int) (a3:List ah.Fl) (a4 a5 a6:Int) (h:(decide (0≤a4)&&decide (0≤a2)&&decide (a2≤64))=true):ajt a0 a1 a2 a3 a4 a5 a6=some (ah.ow (a0,a1,a2,a3,()) a4 a5 a6,()):=by
 simp only [bP,jH] at h;obtain ⟨⟨hp,h1⟩,h2⟩:=h
 obtain ⟨n,rfl⟩:∃ n:Nat,a2=(n:Int):=⟨a2.toNat,by omega⟩
 have hL:Loop (vW a0 a1 (n:Int) a3 a4 a5 a6) ((0:Int),((0:Int),()))=some (BJ (a0,a1,(n:Int),a3,()) a4 a5 a6 n,()):=by
  refine (jW (step:=vW a0 a1 (n:Int) a3 a4 a5 a6) (fun k=>((k:Int),(BJ (a0,a1,(n:Int),a3,()) a4 a5 a6 k,()))) n _ (fun k hk=>?_) ?_ 0 (fG _))
  ·have hU:=Fx (a0,a1,(n:Int),a3,()) a4 a5 a6 k
   rw [xM];generalize BJ (a0,a1,(n:Int),a3,()) a4 a5 a6 k=a at hU ⊢;unfold vW Ez;simp only
   rw [dT (show (k:Int)<(n:Int) by omega),fI (fB hp),Yg hU (qO _),aG (by omega)]
   cases (at_ a5 (k:Int) (n:Int)).2.1 with
   | false=>rfl
   | true=>
    by_cases h0:0<a6
    ·rw [dT (show a6 > 0 from h0)]
     simp only [aQ,gL]
     cases decide (Bl (a0,a1,(n:Int),a3,()) (at_ a5 (k:Int) (n:Int)).1 a4=a6)<;>first | rfl | (rw [dT h0];rfl)
    ·rw [dF (show ¬ a6 > 0 from h0)]
     first | rfl | (rw [dF h0];rfl)
  ·unfold vW
   simp only
   rw [dF (show ¬ (n:Int)<(n:Int) by omega)]
   rfl
 unfold ajt;rw [hL];rfl
section
open ah.Bt
theorem Dx (x y:Int) (i:Nat):tb (Bt.or x y) i=(tb x i || tb y i):=by
 unfold tb Bt.or;rw [dG];exact Nat.testBit_or ..
theorem nC (x y:Int) (i:Nat):tb (Bt.and x y) i=(tb x i&&tb y i):=by
 unfold tb Bt.and;rw [dG];exact Nat.testBit_and ..
theorem zF (x:Int) {y:Int} (hy:U y) {i:Nat} (hi:i<64):tb (Bt.ny x y) i=(tb x i && !tb y i):=by
 unfold tb Bt.ny;rw [dG];have h2:y.toNat<2 ^ 64:=Ki hy
 have e:18446744073709551615 - y.toNat=2 ^ 64 - (y.toNat+1):=by omega
 rw [e];show (x.toNat &&& _).testBit i=_;rw [Nat.testBit_and,Nat.testBit_two_pow_sub_succ h2];simp [hi]
theorem jZ {k:Nat} (hk:k<64) (i:Nat):tb (fK (k:Int)) i=decide (k=i):=by
 unfold tb fK
 rw [dF (show ¬ (k:Int)<0 by omega),dF (show ¬ 63<(k:Int) by omega)]
 simp only [Bool.or_self,bU,dG]
 have e:((2:Int) ^ k).toNat=2 ^ k:=by rw [jV,dG]
 rw [e];exact Nat.testBit_two_pow ..
theorem mZ (i:Nat):tb 0 i=false:=by
 unfold tb;exact Nat.zero_testBit i
theorem xO {x y:Int} (hx:U x) (hy:U y) (h:∀ i,i<64→tb x i=tb y i):x=y:=by
 have h2:x.toNat=y.toNat:=by
  apply Nat.eq_of_testBit_eq;intro i
  by_cases hi:i<64
  ·exact h i hi
  ·have e1:x.toNat<2 ^ i:=nG (Ki hx) (Nat.pow_le_pow_right (by decide) (by omega))
   have e2:y.toNat<2 ^ i:=nG (Ki hy) (Nat.pow_le_pow_right (by decide) (by omega))
   rw [Nat.testBit_lt_two_pow e1,Nat.testBit_lt_two_pow e2]
 have:=hx.1;have:=hy.1;omega
theorem Fy {x:Int} (hx:U x) (y:Int):U (Bt.ny x y):=qN (Nat.lt_of_le_of_lt Nat.and_le_left (Ki hx))
theorem uq {x:Int} (hx:U x) (y:Int):U (Bt.and x y):=qN (Nat.lt_of_le_of_lt Nat.and_le_left (Ki hx))
theorem xP {x y:Int} (h:∀ i,i<64→tb y i=true→tb x i=true) {k:Nat} (hk:k<64) (h1:tb x k=true) (h2:tb y k=false):(ones y).length<(ones x).length:=by
 have e:ones y=(ones x).filter (tb y):=by
  unfold ones;rw [List.filter_filter]
  refine List.filter_congr fun i hi=>?_
  have:=h i (List.mem_range.1 hi)
  cases hy:tb y i with
  | false=>simp
  | true=>rw [this hy];rfl
 rw [e]
 exact List.length_filter_lt_length_iff_exists.2 ⟨k,oF.2 ⟨hk,h1⟩,by rw [h2];decide⟩
theorem BK {x:Int} (hx:U x) (h:(ones x).length=0):x=0:=by
 refine xO hx U0 fun i hi=>?_
 rw [mZ]
 cases ht:tb x i with
 | false=>rfl
 | true=>
  have:=oF.2 ⟨hi,ht⟩;rw [List.length_eq_zero_iff.1 h] at this;cases this
theorem Mk {x:Int} (hx:U x) (h:x≠0):∃ k:Nat,ah.Bt.nth x 0=(k:Int)∧k<64∧tb x k=true:=by
 obtain ⟨h1,h2⟩:=xK hx h;refine ⟨_,akn hx h,h2,?_⟩
 exact (oF.1 (by rw [h1];exact List.mem_cons_self)).2
theorem Ti {l:List Rw} (h:ZM l=true) {x:Rw} (hx:x∈l):l.find? (fun r=>decide (r.1=x.1))=some x:=by
 have hup:∀ i j,i<j→j<l.length→(l.getD i zW).1<(l.getD j zW).1:=by
  intro i j hij hj
  induction j with
  | zero=>omega
  | succ j ih=>
   have hs:(l.getD j zW).1<(l.getD (j+1) zW).1:=by
    unfold ZM at h;rw [List.all_eq_true] at h
    have:=h j (List.mem_range.2 (by omega))
    simpa using this
   by_cases hij2:i=j
   ·subst hij2;exact hs
   ·have:=ih (by omega) (by omega)
    omega
 obtain ⟨k,hk,rfl⟩:=List.getElem_of_mem hx;rw [List.find?_eq_some_iff_getElem]
 refine ⟨by simp,k,hk,rfl,fun j hj=>?_⟩
 have:=hup j k hj hk
 rw [dV (show j<l.length by omega),dV hk] at this
 simp only [Bool.not_eq_true',decide_eq_false_iff_not];omega
theorem Oo {t:Tb} {x:Rw} (hT:yF t) (hx:x∈t.2.2.2.1):fF t x.1=(x,true,()):=by
 unfold fF;rw [Ti hT.uw hx]
theorem Kk {t:Tb} {id:Int}:(fF t id).2.1=true→(fF t id).1∈t.2.2.2.1∧(fF t id).1.1=id:=by
 unfold fF
 cases h:t.2.2.2.1.find? (fun r=>decide (r.1=id)) with
 | none=>intro h;cases h
 | some r=>
  intro _;have h1:=List.find?_some h
  exact ⟨List.mem_of_find?_eq_some h,by simpa using h1⟩
theorem Fz (t:Tb) (id p:Int):Bl t id p=iA (fF t id).1 p:=by
 unfold Bl
 cases h:(fF t id).2.1 with
 | true=>rfl
 | false=>
  have:(fF t id).1=zW:=by
   unfold fF at h ⊢
   cases h2:t.2.2.2.1.find? (fun r=>decide (r.1=id)) with
   | none=>rfl
   | some r=>rw [h2] at h;cases h
  rw [this];rfl
theorem BL {t:Tb} {id p:Int} (h:iA (fF t id).1 p≠0):(fF t id).1∈t.2.2.2.1∧(fF t id).1.1=id:=by
 refine Kk ?_
 cases h2:(fF t id).2.1 with
 | true=>rfl
 | false=>
  have:=Fz t id p;unfold Bl at this;rw [h2] at this;exact absurd this.symm h
def sG (t:Tb) (aK set len:Int) (i:Nat):Int:=iA (fF t (at_ set i len).1).1 aK
theorem Yi {t:Tb} (hT:yF t) (aK set len:Int) (i:Nat):0≤sG t aK set len i∧sG t aK set len i≤99:=by
 by_cases h:sG t aK set len i=0
 ·omega
 ·exact SV hT (BL h).1 aK
theorem Ie {set len:Int} {i:Nat} (hl:dW len=true) {x:Int} (hx:1≤x) (h:(at_ set i len).1=x):(at_ set (i:Int) len).2.1=true∧x=set*len+i+1∧x≤256∧(i:Int)<len∧0≤set:=by
 unfold at_ at h ⊢;rw [hl] at h ⊢;simp only [Bool.not_true,Bool.false_or] at h ⊢
 cases hb:(!ah.inside (i:Int) 0 (len - 1) || !ah.inside set 0 31) with
 | true=>rw [hb] at h;simp only [aQ] at h;omega
 | false=>
  rw [hb] at h;simp only [bU] at h ⊢;simp only [Bool.or_eq_false_iff,Bool.not_eq_false'] at hb;have h1:=aZ.1 hb.1;have h2:=aZ.1 hb.2
  by_cases hc:256<set*len+i+1
  ·rw [dT hc] at h;simp only [aQ] at h;omega
  ·rw [dF hc] at h ⊢
   simp only [bU] at h ⊢
   exact ⟨trivial,h.symm,by omega,by omega,h2.1⟩
theorem Tj {set len:Int} {i:Nat} (hl:dW len=true) {x:Int} (hx:1≤x) (h:(at_ set i len).1=x):place x len=(set,(i:Int),true,()):=by
 obtain ⟨h1,h2,h3,h4,h5⟩:=Ie hl hx h;unfold place;rw [hl,aZ.2 ⟨hx,h3⟩];simp only [Bool.not_true,Bool.or_self,bU]
 have hp:0<len:=by have:=iB.1 hl;omega
 have e:x - 1=i+set*len:=by omega
 have e1:(x - 1) / len=set:=by
  rw [e,Int.add_mul_ediv_right _ _ (by omega),Int.ediv_eq_zero_of_lt (by omega) h4]
  omega
 have e2:(x - 1)%len=i:=by
  rw [e,Int.add_mul_emod_self_right,Int.emod_eq_of_lt (by omega) h4]
 rw [e1,e2]
theorem Ig {x len set:Int} {i:Nat} (hl:dW len=true) (hx:1≤x∧x≤256) (hs:0≤set∧set≤31) (h1:(place x len).1=set) (h2:(place x len).2.1=i):at_ set i len=(x,true,()):=by
 unfold place at h1 h2;rw [hl,aZ.2 hx] at h1 h2;simp only [Bool.not_true,Bool.or_self,bU] at h1 h2
 have hp:0<len:=by have:=iB.1 hl;omega
 have e:=Int.mul_ediv_add_emod (x - 1) len;have e2:=Int.emod_lt_of_pos (x - 1) hp;rw [h1,h2] at e;rw [h2] at e2
 have e3:set*len+i+1=x:=by rw [Int.mul_comm];omega
 unfold at_
 rw [hl,aZ.2 (show 0≤(i:Int)∧(i:Int)≤len - 1 by omega),aZ.2 hs,e3,dF (show ¬ 256<x by omega)]
 rfl
theorem Ih (len aK set nb:Int) (l:List Rw) (i:Nat):∀ k,k≤l.length →
 (tb (JK len aK set nb (l.take k)) i=true↔∃ j,j<k∧(place (l.getD j zW).1 len).1=set∧iA (l.getD j zW) aK≠0∧iA (l.getD j zW) aK=nb∧(place (l.getD j zW).1 len).2.1=(i:Int))
 | 0,_=>by
  rw [show JK len aK set nb (l.take 0)=0 from rfl,mZ]
  exact ⟨fun h=>(by cases h),fun ⟨j,h,_⟩=>(by omega)⟩
 | k+1,hk=>by
  have ih:=Ih len aK set nb l i k (by omega)
  rw [Ol _ _ _ _ _ _ (by omega)]
  have split:(∃ j,j<k+1∧(place (l.getD j zW).1 len).1=set∧iA (l.getD j zW) aK≠0∧iA (l.getD j zW) aK=nb∧(place (l.getD j zW).1 len).2.1=(i:Int)) ↔
   ((∃ j,j<k∧(place (l.getD j zW).1 len).1=set∧iA (l.getD j zW) aK≠0∧iA (l.getD j zW) aK=nb∧(place (l.getD j zW).1 len).2.1=(i:Int)) ∨
     ((place (l.getD k zW).1 len).1=set∧iA (l.getD k zW) aK≠0∧iA (l.getD k zW) aK=nb∧(place (l.getD k zW).1 len).2.1=(i:Int))):=by
   constructor
   ·rintro ⟨j,h1,h2⟩
    by_cases hj:j=k
    ·subst hj;exact .inr h2
    ·exact .inl ⟨j,by omega,h2⟩
   ·rintro (⟨j,h1,h2⟩ | h)
    ·exact ⟨j,by omega,h2⟩
    ·exact ⟨k,by omega,h⟩
  rw [split,←ih]
  cases hc:(decide ((place (l.getD k zW).1 len).1=set) && !decide (iA (l.getD k zW) aK=0)&&decide (iA (l.getD k zW) aK=nb)) with
  | false=>
   simp only [bU]
   refine ⟨fun h=>Or.inl h,fun h=>?_⟩
   rcases h with h | ⟨h1,h2,h3,_⟩
   ·exact h
   ·rw [dT h1,dF h2,dT h3] at hc
    cases hc
  | true=>
   simp only [aQ];simp only [bP,jH,Bool.not_eq_true',decide_eq_false_iff_not] at hc;obtain ⟨⟨h1,h2⟩,h3⟩:=hc;obtain ⟨p0,p1,-⟩:=SY (l.getD k zW).1 len
   obtain ⟨m,hm⟩:∃ m:Nat,(place (l.getD k zW).1 len).2.1=(m:Int):=⟨(place (l.getD k zW).1 len).2.1.toNat,by omega⟩
   rw [Dx,hm,jZ (by omega),Bool.or_eq_true,jH]
   refine or_congr Iff.rfl ⟨fun h=>⟨h1,h2,h3,by omega⟩,fun h=>by omega⟩
theorem xQ {t:Tb} (hT:yF t) (hl:dW t.2.2.1=true) {aK set nb:Int} (hp:0≤aK∧aK<8) (hs:0≤set∧set≤31) (i:Nat) :
 tb (oz t aK set nb) i=(decide (sG t aK set t.2.2.1 i=nb) && !decide (nb=0)):=by
 have hv:xE t aK set=true:=by
  unfold xE;rw [dT (rX.2 hT),dT hp.1,dT hp.2,dT hs.1,dT hs.2];rfl
 unfold oz;rw [hv];simp only [aQ];have h:=Ih t.2.2.1 aK set nb t.2.2.2.1 i t.2.2.2.1.length (dQ _);rw [List.take_length] at h;rw [Bool.eq_iff_iff,h,bP,jH,Bool.not_eq_true',decide_eq_false_iff_not];constructor
 ·rintro ⟨j,hj,h1,h2,h3,h4⟩
  have hm:t.2.2.2.1.getD j zW∈t.2.2.2.1:=kX hj;have ha:=Ig hl (hT.id _ hm) hs h1 h4;unfold sG;rw [ha,Oo hT hm]
  exact ⟨h3,by omega⟩
 ·rintro ⟨h1,h2⟩
  have hn:iA (fF t (at_ set i t.2.2.1).1).1 aK≠0:=by
   have:sG t aK set t.2.2.1 i≠0:=by omega
   exact this
  obtain ⟨hm,hid⟩:=BL hn;obtain ⟨j,hj,e⟩:=List.getElem_of_mem hm;have hx:=hT.id _ hm
  have hp:=Tj hl (by rw [hid] at hx;exact hx.1) (i:=i) (set:=set) rfl
  refine ⟨j,hj,?_⟩;rw [dV hj,e,hid,hp];exact ⟨rfl,hn,h1,rfl⟩
theorem Ii (t:Tb) (aK set nb:Int) (i:Nat):∀ k,k≤64→tb (BJ t aK set nb k) i=(decide (i<k)&&Ez t aK set nb i)
 | 0,_=>by
  rw [show BJ t aK set nb 0=0 from rfl,mZ]
  rfl
 | k+1,hk=>by
  rw [xM]
  have ih:=Ii t aK set nb i k (by omega)
  by_cases hi:i=k
  ·subst hi
   rw [dT (show i<i+1 by omega)]
   rw [dF (show ¬ i<i by omega)] at ih
   cases hh:Ez t aK set nb i with
   | true=>simp only [aQ];rw [Dx,jZ (by omega),dT rfl];simp
   | false=>simp only [bU];rw [ih];rfl
  ·have e:decide (i<k+1)=decide (i<k):=decide_eq_decide.2 (by omega)
   rw [e]
   cases hh:Ez t aK set nb k with
   | true=>simp only [aQ];rw [Dx,ih,jZ (by omega),dF (show ¬ k=i by omega),Bool.or_false]
   | false=>simp only [bU];exact ih
theorem Oq {t:Tb} (hT:yF t) (hl:dW t.2.2.1=true) {aK set nb:Int} (hp:0≤aK∧aK<8) (hs:0≤set∧set≤31) (hn:1≤nb∧nb≤99) (i:Nat) :
 tb (Q8 t aK set nb) i=decide (sG t aK set t.2.2.1 i=nb):=by
 have hlen:=iB.1 hl;unfold Q8;rw [dT (rX.2 hT),dT hp.1,dT hp.2,dT hs.1,dT hs.2,dT hn.1,dT hn.2];show tb (BJ t aK set nb t.2.2.1.toNat) i=_
 rw [Ii t aK set nb i _ (by omega)]
 unfold Ez
 rw [Fz,dT (show 0<nb by omega)]
 show (decide (i<t.2.2.1.toNat)&&((at_ set (i:Int) t.2.2.1).2.1&&(true&&decide (sG t aK set t.2.2.1 i=nb))))=_
 by_cases h:sG t aK set t.2.2.1 i=nb
 ·have hn2:iA (fF t (at_ set i t.2.2.1).1).1 aK≠0:=by
   have:sG t aK set t.2.2.1 i≠0:=by omega
   exact this
  obtain ⟨hm,hid⟩:=BL hn2;have hx:=hT.id _ hm
  obtain ⟨h1,h2,h3,h4,h5⟩:=Ie hl (by rw [hid] at hx;exact hx.1) (i:=i) (set:=set) rfl
  rw [dT h,h1,dT (show i<t.2.2.1.toNat by omega)]
  rfl
 ·rw [dF h]
  simp
theorem adh (x:Int) {y:Int} (hy:U y):U (Bt.and x y):=qN (Nat.lt_of_le_of_lt Nat.and_le_right (Ki hy))
structure qQ (t:Tb) (p:Pk):Prop where
 T:yF t
 k:dz p=true
 n:t.2.2.1=ln p
def pkB (p:Pk) (g:Int):Pk:=(md p,sd p,ah.st p,ln p,ah.tl p - 1,en p,ig p,pr p,g,py p,())
abbrev hp (t:Tb) (p:Pk) (i:Nat):Int:=sG t (aK p) (ah.st p) t.2.2.1 i
theorem lG {p:Pk}:dz p=true↔(1≤md p∧md p≤3)∧(0≤sd p∧sd p≤7)∧(0≤ah.st p∧ah.st p≤31)∧(dW (ln p)=true∧bt p<2 ^ (ln p).toNat)∧(0≤tl p∧tl p≤63)∧(0≤en p∧en p≤1023)∧(0≤ig p∧ig p≤256)∧(0≤pr p∧pr p≤7)∧(py p).length≤64:=by
 unfold dz kJ;simp only [bP,aZ,jH,and_assoc]
end
section
open ah.Bt
variable {t:Tb} {p:Pk}
theorem qQ.l (h:qQ t p):dW t.2.2.1=true:=by rw [h.n];exact (lG.1 h.k).2.2.2.1.1
theorem qQ.pl (h:qQ t p):0≤aK p∧aK p<8:=by
 unfold aK;rw [h.k];simp only [aQ];omega
theorem qQ.st (h:qQ t p):0≤ah.st p∧ah.st p≤31:=(lG.1 h.k).2.2.1
theorem qQ.tl (h:qQ t p):0≤ah.tl p∧ah.tl p≤63:=(lG.1 h.k).2.2.2.2.1
theorem adj (h:qQ t p) (k:Nat):toF t (at_ (ah.st p) k (ln p)).1 (aK p)=hp t p k:=by
 have hv:xE t (aK p) 0=true:=by
  unfold xE;rw [dT (rX.2 h.T),dT h.pl.1,dT h.pl.2];rfl
 unfold toF;rw [hv,←h.n];rfl
theorem Dy {x y:Int} (hx:U x) (hy:U y) (h:∀ i,i<64→tb x i=true→tb y i=true):x≤y:=by
 have e:x=Bt.and x y:=xO hx (adh x hy) fun i hi=>by
  rw [nC]
  cases ht:tb x i with
  | false=>rfl
  | true=>rw [h i hi ht];rfl
 rw [e];unfold Bt.and;have:=Nat.and_le_right (n:=x.toNat) (m:=y.toNat);have hy0:=hy.1
 have:((Nat.land x.toNat y.toNat:Nat):Int)≤(y.toNat:Int):=by exact_mod_cast this
 omega
structure Inv (t:Tb) (p:Pk) (s:Int×Int×Int×List Cp):Prop where
 ul:U s.1
 uo:U s.2.1
 us:U s.2.2.1
 sub:∀ i,i<64→tb s.1 i=true→tb (bt p) i=true
 loc:∀ i,i<64→tb s.2.1 i=(tb (bt p) i && !tb s.1 i&&decide (hp t p i=t.1))
 lost:∀ i,i<64→tb s.2.2.1 i=(tb (bt p) i && !tb s.1 i&&(decide (hp t p i=0) || (decide (ah.tl p=0) && !decide (hp t p i=t.1))))
 grp:∀ i j,i<64→j<64→hp t p i=hp t p j→hp t p i≠0→hp t p i≠t.1→tb (bt p) i=true→tb (bt p) j=true→tb s.1 i=tb s.1 j
 cps:∀ c∈s.2.2.2,∃ g,c=(c.1,([],pkB p g,()),())∧U g∧g≠0∧c.1≠0∧c.1≠t.1∧(∀ i,i<64→tb g i=(tb (bt p) i&&decide (hp t p i=c.1)))∧∀ i,i<64→tb g i=true→tb s.1 i=false
 all:ah.tl p≠0→∀ i,i<64→tb (bt p) i=true→tb s.1 i=false→hp t p i≠0→hp t p i≠t.1→∃ c∈s.2.2.2,c.1=hp t p i
 nd:(s.2.2.2.map fun c=>c.1).Nodup
 tt:s.2.2.2≠[]→ah.tl p≠0
theorem Ij (hU:U (bt p)):Inv t p (bt p,0,0,[]):=by
 have z:∀ i (q:Bool),tb 0 i=(tb (bt p) i && !tb (bt p) i&&q):=fun i q=>by
  rw [mZ]
  cases tb (bt p) i<;>rfl
 refine ⟨hU,U0,U0,fun i _ h=>h,fun i _=>z i _,fun i _=>z i _,fun i j _ _ _ _ _ h1 h2=>by rw [h1,h2],fun c hc=>(by cases hc),fun _ i _ h1 h2=>?_,List.nodup_nil,fun h=>absurd rfl h⟩
 simp only at h2;rw [h1] at h2;cases h2
theorem Ik (h:qQ t p) {s:Int×Int×Int×List Cp} (hI:Inv t p s) (hU:U (bt p)) (h0:s.1≠0):∃ k:Nat,k<64∧tb s.1 k=true∧ah.Bt.nth s.1 0=(k:Int) ∧
 sV t p s=(bif decide (hp t p k=0) then (Bt.ny s.1 (fK k),s.2.1,Bt.or s.2.2.1 (fK k),s.2.2.2) else
  bif decide (hp t p k=t.1) then (Bt.ny s.1 (fK k),Bt.or s.2.1 (fK k),s.2.2.1,s.2.2.2) else
  bif !decide (ah.tl p=0) then (Bt.ny s.1 (Bt.and s.1 (oz t (aK p) (ah.st p) (hp t p k))),s.2.1,s.2.2.1,s.2.2.2++[(hp t p k,([],pkB p (Bt.and s.1 (oz t (aK p) (ah.st p) (hp t p k))),()),())]) else
  (Bt.ny s.1 (Bt.and s.1 (oz t (aK p) (ah.st p) (hp t p k))),s.2.1,Bt.or s.2.2.1 (Bt.and s.1 (oz t (aK p) (ah.st p) (hp t p k))),s.2.2.2)):=by
 obtain ⟨k,e,hk,hb⟩:=Mk hI.ul h0;refine ⟨k,hk,hb,e,?_⟩;unfold sV;simp only;rw [e,adj h]
 cases hz:decide (hp t p k=0) with
 | true=>rfl
 | false=>
  simp only [bU]
  cases hr:decide (hp t p k=t.1) with
  | true=>rfl
  | false=>
   simp only [bU];have hz:=of_decide_eq_false hz
   have hmk:tb (oz t (aK p) (ah.st p) (hp t p k)) k=true:=by
    rw [xQ h.T h.l h.pl h.st,dF hz];simp
   generalize hg:Bt.and s.1 (oz t (aK p) (ah.st p) (hp t p k))=g
   have O4:U g:=by rw [←hg];exact uq hI.ul _
   have hgk:tb g k=true:=by rw [←hg,nC,hb,hmk];rfl
   have hgn:g≠0:=by
    intro hz;rw [hz,mZ] at hgk;cases hgk
   have hand:Bt.and s.1 g=g:=xO (uq hI.ul _) O4 fun i _=>by
    rw [←hg,nC,nC]
    cases tb s.1 i<;>rfl
   have hle:=Dy hI.ul hU hI.sub;obtain ⟨f1,f2,fX3,fX4,fX5,fX6,fX7,f4,f5⟩:=lG.1 h.k;have hv:dz (Q9 p s.1)=true:=lG.2 ⟨f1,f2,fX3,⟨fX4.1,Int.lt_of_le_of_lt hle fX4.2⟩,fX5,fX6,fX7,f4,f5⟩
   have em:masked (Q9 p s.1) g=bif !decide (ah.tl p=0) then (pkB p g,true,()) else (zp,false,()):=by
    unfold masked;rw [hv]
    show (bif true && !decide (ah.tl p=0) && !decide (Bt.and s.1 g=0) then ((md p,sd p,ah.st p,ln p,ah.tl p - 1,en p,ig p,pr p,Bt.and s.1 g,py p,()),true,()) else (zp,false,()))=_
    rw [hand,dF hgn]
    cases decide (ah.tl p=0)<;>rfl
   rw [em]
   cases decide (ah.tl p=0)<;>rfl
theorem Ml (h:qQ t p) {s:Int×Int×Int×List Cp} (hI:Inv t p s) (hU:U (bt p)) (h0:s.1≠0):Inv t p (sV t p s)∧(ones (sV t p s).1).length<(ones s.1).length∧(sV t p s).2.2.2.length≤s.2.2.2.length+1:=by
 obtain ⟨k,hk,hb,-,e⟩:=Ik h hI hU h0;have hbu:U (fK (k:Int)):=qO _;have hS:=hI.sub k hk hb;have hr0:=h.T.r
 by_cases hz:hp t p k=0
 ·rw [e,dT hz]
  simp only [aQ]
  have hl:∀ i,i<64→tb (Bt.ny s.1 (fK k)) i=(tb s.1 i && !decide (k=i)):=fun i hi=>by rw [zF _ hbu hi,jZ hk]
  refine ⟨⟨Fy hI.ul _,hI.uo,Yf hI.us hbu,fun i hi h1=>?_,fun i hi=>?_,fun i hi=>?_,fun i j hi hj e1 n0 nr b1 b2=>?_,fun c hc=>?_,fun ht i hi b1 b2 n0 nr=>?_,hI.nd,hI.tt⟩,?_,Nat.le_succ _⟩
  ·rw [hl i hi] at h1
   simp only [bP] at h1;exact hI.sub i hi h1.1
  ·simp only
   rw [hI.loc i hi,hl i hi]
   by_cases hki:k=i
   ·subst hki
    rw [dF (show ¬ hp t p k=t.1 by omega)]
    simp
   ·rw [dF hki];simp
  ·simp only
   rw [Dx,hI.lost i hi,hl i hi,jZ hk]
   by_cases hki:k=i
   ·subst hki
    rw [hb,hS,dT hz,dT rfl];rfl
   ·rw [dF hki];simp
  ·simp only
   rw [hl i hi,hl j hj,hI.grp i j hi hj e1 n0 nr b1 b2,dF (show ¬ k=i by intro hh;subst hh;exact n0 hz),dF (show ¬ k=j by intro hh;subst hh;exact n0 (e1.trans hz))]
  ·obtain ⟨g,q1,q2,q3,q4,q5,q6,q7⟩:=hI.cps c hc
   exact ⟨g,q1,q2,q3,q4,q5,q6,fun i hi hg=>by rw [hl i hi,q7 i hi hg];rfl⟩
  ·refine hI.all ht i hi b1 ?_ n0 nr
   rw [hl i hi,dF (show ¬ k=i by intro hh;subst hh;exact n0 hz)] at b2
   simpa using b2
  ·exact xP (k:=k) (fun i hi h1=>by rw [hl i hi] at h1;simp only [bP] at h1;exact h1.1) hk hb (by rw [hl k hk,dT rfl];simp)
 ·by_cases hr:hp t p k=t.1
  ·rw [e,dF hz,dT hr]
   simp only [aQ,bU]
   have hl:∀ i,i<64→tb (Bt.ny s.1 (fK k)) i=(tb s.1 i && !decide (k=i)):=fun i hi=>by rw [zF _ hbu hi,jZ hk]
   refine ⟨⟨Fy hI.ul _,Yf hI.uo hbu,hI.us,fun i hi h1=>?_,fun i hi=>?_,fun i hi=>?_,fun i j hi hj e1 n0 nr b1 b2=>?_,fun c hc=>?_,fun ht i hi b1 b2 n0 nr=>?_,hI.nd,hI.tt⟩,?_,Nat.le_succ _⟩
   ·rw [hl i hi] at h1
    simp only [bP] at h1;exact hI.sub i hi h1.1
   ·simp only
    rw [Dx,hI.loc i hi,hl i hi,jZ hk]
    by_cases hki:k=i
    ·subst hki
     rw [hb,hS,dT hr,dT rfl];rfl
    ·rw [dF hki];simp
   ·simp only
    rw [hI.lost i hi,hl i hi]
    by_cases hki:k=i
    ·subst hki
     rw [dF hz,dT hr];simp
    ·rw [dF hki];simp
   ·simp only
    rw [hl i hi,hl j hj,hI.grp i j hi hj e1 n0 nr b1 b2,dF (show ¬ k=i by intro hh;subst hh;exact nr hr),dF (show ¬ k=j by intro hh;subst hh;exact nr (e1.trans hr))]
   ·obtain ⟨g,q1,q2,q3,q4,q5,q6,q7⟩:=hI.cps c hc
    exact ⟨g,q1,q2,q3,q4,q5,q6,fun i hi hg=>by rw [hl i hi,q7 i hi hg];rfl⟩
   ·refine hI.all ht i hi b1 ?_ n0 nr
    rw [hl i hi,dF (show ¬ k=i by intro hh;subst hh;exact nr hr)] at b2
    simpa using b2
   ·exact xP (k:=k) (fun i hi h1=>by rw [hl i hi] at h1;simp only [bP] at h1;exact h1.1) hk hb (by rw [hl k hk,dT rfl];simp)
  ·rw [e,dF hz,dF hr]
   simp only [bU]
   have hm:∀ i,tb (oz t (aK p) (ah.st p) (hp t p k)) i=decide (hp t p i=hp t p k):=fun i=>by
    rw [xQ h.T h.l h.pl h.st,dF hz];simp
   generalize hg:Bt.and s.1 (oz t (aK p) (ah.st p) (hp t p k))=g
   have O4:U g:=by rw [←hg];exact uq hI.ul _
   have hgb:∀ i,tb g i=(tb s.1 i&&decide (hp t p i=hp t p k)):=fun i=>by rw [←hg,nC,hm]
   have hgk:tb g k=true:=by rw [hgb,hb,dT rfl];rfl
   have hgn:g≠0:=by
    intro hz;rw [hz,mZ] at hgk;cases hgk
   have hl:∀ i,i<64→tb (Bt.ny s.1 g) i=(tb s.1 i && !decide (hp t p i=hp t p k)):=fun i hi=>by
    rw [zF _ O4 hi,hgb]
    cases tb s.1 i<;>rfl
   have hgS:∀ i,i<64→tb g i=(tb (bt p) i&&decide (hp t p i=hp t p k)):=fun i hi=>by
    rw [hgb]
    by_cases hh:hp t p i=hp t p k
    ·rw [dT hh]
     cases hsb:tb (bt p) i with
     | true=>rw [hI.grp i k hi hk hh (by omega) (by omega) hsb hS,hb]
     | false=>
      cases hsl:tb s.1 i with
      | false=>rfl
      | true=>have:=hI.sub i hi hsl;rw [hsb] at this;cases this
    ·rw [dF hh];simp
   have less:(ones (Bt.ny s.1 g)).length<(ones s.1).length:=
    xP (k:=k) (fun i hi h1=>by rw [hl i hi] at h1;simp only [bP] at h1;exact h1.1) hk hb (by rw [hl k hk,dT rfl];simp)
   have sub':∀ i,i<64→tb (Bt.ny s.1 g) i=true→tb (bt p) i=true:=fun i hi h1=>by
    rw [hl i hi] at h1;simp only [bP] at h1;exact hI.sub i hi h1.1
   have loc':∀ i,i<64→tb s.2.1 i=(tb (bt p) i && !tb (Bt.ny s.1 g) i&&decide (hp t p i=t.1)):=fun i hi=>by
    rw [hI.loc i hi,hl i hi]
    by_cases hh:hp t p i=hp t p k
    ·rw [dF (show ¬ hp t p i=t.1 by omega)];simp
    ·rw [dF hh];simp
   have aks:∀ i j,i<64→j<64→hp t p i=hp t p j→hp t p i≠0→hp t p i≠t.1→tb (bt p) i=true→tb (bt p) j=true→tb (Bt.ny s.1 g) i=tb (Bt.ny s.1 g) j:=fun i j hi hj e1 n0 nr b1 b2=>by
    rw [hl i hi,hl j hj,hI.grp i j hi hj e1 n0 nr b1 b2,e1]
   have old':∀ c∈s.2.2.2,∃ g',c=(c.1,([],pkB p g',()),())∧U g'∧g'≠0∧c.1≠0∧c.1≠t.1∧(∀ i,i<64→tb g' i=(tb (bt p) i&&decide (hp t p i=c.1)))∧∀ i,i<64→tb g' i=true→tb (Bt.ny s.1 g) i=false:=fun c hc=>by
    obtain ⟨g',q1,q2,q3,q4,q5,q6,q7⟩:=hI.cps c hc
    exact ⟨g',q1,q2,q3,q4,q5,q6,fun i hi hg=>by rw [hl i hi,q7 i hi hg];rfl⟩
   by_cases ht:ah.tl p=0
   ·rw [dT ht]
    simp only [Bool.not_true,bU]
    refine ⟨⟨Fy hI.ul _,hI.uo,Yf hI.us O4,sub',loc',fun i hi=>?_,aks,old',fun h2=>absurd ht h2,hI.nd,hI.tt⟩,less,Nat.le_succ _⟩
    simp only;rw [Dx,hI.lost i hi,hgb,hl i hi,dT ht]
    by_cases hh:hp t p i=hp t p k
    ·rw [dT hh,dF (show ¬ hp t p i=0 by omega),dF (show ¬ hp t p i=t.1 by omega)]
     cases hsl:tb s.1 i with
     | true=>rw [hI.sub i hi hsl];rfl
     | false=>simp
    ·rw [dF hh];simp
   ·rw [dF ht]
    simp only [Bool.not_false,aQ]
    refine ⟨⟨Fy hI.ul _,hI.uo,hI.us,sub',loc',fun i hi=>?_,aks,fun c hc=>?_,fun _ i hi b1 b2 n0 nr=>?_,?_,fun _=>ht⟩,less,by simp⟩
    ·simp only
     rw [hI.lost i hi,hl i hi,dF ht]
     by_cases hh:hp t p i=hp t p k
     ·rw [dF (show ¬ hp t p i=0 by omega)];simp
     ·rw [dF hh];simp
    ·rcases List.mem_append.1 hc with hc | hc
     ·exact old' c hc
     ·rw [List.mem_singleton.1 hc]
      exact ⟨g,rfl,O4,hgn,hz,hr,hgS,fun i hi hg1=>by rw [zF _ O4 hi,hg1];simp⟩
    ·by_cases hh:hp t p i=hp t p k
     ·exact ⟨_,List.mem_append.2 (.inr (List.mem_singleton.2 rfl)),hh.symm⟩
     ·rw [hl i hi,dF hh] at b2
      obtain ⟨c,hc,e2⟩:=hI.all ht i hi b1 (by simpa using b2) n0 nr
      exact ⟨c,List.mem_append.2 (.inl hc),e2⟩
    ·show (List.map _ (s.2.2.2++[_])).Nodup
     rw [List.map_append]
     refine List.nodup_append.2 ⟨hI.nd,by simp,fun a ha b hb'=>?_⟩
     simp only [List.map_cons,List.map_nil,List.mem_singleton] at hb';subst hb';obtain ⟨c,hc,rfl⟩:=List.mem_map.1 ha;intro hh;obtain ⟨g',q1,q2,q3,q4,q5,q6,q7⟩:=hI.cps c hc
     have:=q7 k hk (by rw [q6 k hk,hS,dT (show hp t p k=c.1 from hh.symm)];rfl)
     rw [hb] at this;cases this
end
section
open ah.Bt
theorem akt {x y:Int} (hx:U x) (hy:U y):IntKind.wrap .u64 (Int.ofNat (BitVec.and (BitVec.ofInt 64 x) (BitVec.ofInt 64 y)).toNat)=Bt.and x y:=XH hx hy
theorem FB {x y:Int} (hx:U x) (hy:U y):IntKind.wrap .u64 (Int.ofNat (BitVec.and (BitVec.ofInt 64 x) (BitVec.not (BitVec.ofInt 64 y))).toNat)=Bt.ny x y:=Z5 hx hy
theorem Yj (a0 a1:Int):ajO a0 a1=some (ah.Bt.nth a0 a1,()):=by
 unfold ajO ah.Bt.nth;have hl:=mE a0;have ho:=mD a0
 by_cases h1:a1<0
 ·rw [dT h1];rfl
 ·rw [dF h1]
  have e:decide (a1≥Int.ofNat (list a0).length)=decide (((list a0).length:Int)≤a1):=rfl;simp only [Bool.not_false,aQ,gL];rw [e]
  by_cases h2:((list a0).length:Int)≤a1
  ·rw [dT h2];rfl
  ·rw [dF h2,dT (show (0:Int)≤a1 by omega),dT (show a1<Int.ofNat (list a0).length by simp only [bK];omega)]
   rfl
theorem Yk (a0:Int):aqo a0=some (ah.Bt.nth a0 0,()):=by
 rfl
theorem Yl (a0 a1 a2 a3 a4 a5 a6 a7 a8:Int) (a9:List Int) (bJ:Int) (r8:IntKind.u64.has a8) (r10:IntKind.u64.has bJ):ajJ a0 a1 a2 a3 a4 a5 a6 a7 a8 a9 bJ=some (ah.masked (a0,a1,a2,a3,a4,a5,a6,a7,a8,a9,()) bJ,()):=by
 unfold ajJ masked;rw [XH (uh r8) (uh r10)]
 cases h:dz (a0,a1,a2,a3,a4,a5,a6,a7,a8,a9,()) with
 | false=>rfl
 | true=>
  have ht:0≤a4∧a4≤63:=(Dw.1 h).ht;simp only [Bool.not_true,Bool.not_false,aQ,Bool.true_and,tl,bt]
  rw [fU (n:=a4 - 1) (by omega) (by omega)]
  show _=some (bif !decide (a4=0) && !decide (((a8.toNat &&& bJ.toNat:Nat):Int)=0) then _ else _,())
  by_cases h1:a4=0
  ·simp only [h1,decide_true,Bool.not_true,bU,Bool.false_and,gL,aQ]
   rfl
  ·by_cases h2:((a8.toNat &&& bJ.toNat:Nat):Int)=0
   ·simp only [h1,h2,decide_true,decide_false,Bool.not_true,Bool.not_false,bU,aQ,Bool.true_and,gL]
    rfl
   ·simp only [h1,h2,decide_false,Bool.not_false,aQ,bU,Bool.true_and,gL]
    rfl
theorem Ot {t:Tb} (hT:yF t) (hl:dW t.2.2.1=true) {aK set nb:Int} (hp:0≤aK∧aK<8) (hs:0≤set∧set≤31) (hn:1≤nb∧nb≤99) (i:Nat) :
 tb (ow t aK set nb) i=decide (sG t aK set t.2.2.1 i=nb):=by
 have h:=Oq hT hl hp hs hn i;unfold Q8 at h;rw [dT (rX.2 hT),dT hp.1,dT hp.2,dT hs.1,dT hs.2,dT hn.1,dT hn.2] at h;exact h
theorem Ym (t:Tb) (p s n:Int):U (ow t p s n):=Fx t p s n t.2.2.1.toNat
theorem Yn (a0 a1 a2:Int) (a3:List Rw) (a4 a5 a6 a7 a8 a9 bJ bS a12:Int) (dD:List Int) (h:qQ (a0,a1,a2,a3,()) (a4,a5,a6,a7,a8,a9,bJ,bS,a12,dD,())) (hU:U a12)
 (s:Int×Int×Int×List Cp) (hI:Inv (a0,a1,a2,a3,()) (a4,a5,a6,a7,a8,a9,bJ,bS,a12,dD,()) s) (h0:s.1≠0) (hl:s.2.2.2.length≤64) :
 xI a0 a1 a2 a3 a4 a5 a6 a7 a8 a9 bJ bS a12 dD (s.1,((s.2.1,(s.2.2.1,(s.2.2.2,()))),())) =
  some (.inl ((sV (a0,a1,a2,a3,()) (a4,a5,a6,a7,a8,a9,bJ,bS,a12,dD,()) s).1,(((sV (a0,a1,a2,a3,()) (a4,a5,a6,a7,a8,a9,bJ,bS,a12,dD,()) s).2.1,((sV (a0,a1,a2,a3,()) (a4,a5,a6,a7,a8,a9,bJ,bS,a12,dD,()) s).2.2.1,((sV (a0,a1,a2,a3,()) (a4,a5,a6,a7,a8,a9,bJ,bS,a12,dD,()) s).2.2.2,()))),()))):=by
 obtain ⟨k,hk,hb,e,f⟩:=Ik h hI hU h0;have hbu:U (fK (k:Int)):=qO _;have hpl:=h.pl;have hlen:=iB.1 h.l
 have hlen':0≤a2∧a2≤64:=by
  have:a2=8∨a2=16∨a2=32∨a2=64:=hlen;omega
 rw [f]
 have aqB:Bl (a0,a1,a2,a3,()) (at_ a6 (k:Int) a7).1 (aK (a4,a5,a6,a7,a8,a9,bJ,bS,a12,dD,()))=hp (a0,a1,a2,a3,()) (a4,a5,a6,a7,a8,a9,bJ,bS,a12,dD,()) k:=by
  rw [Fz];show iA (fF _ (at_ a6 (k:Int) a7).1).1 _=iA (fF _ (at_ a6 (k:Int) a2).1).1 _
  rw [show a7=a2 from h.n.symm]
 unfold xI;simp only;rw [dF h0,e,fI (fB hpl.1),aqB];simp only [Bool.not_false,aQ,gL];have hin:=Yi h.T (aK (a4,a5,a6,a7,a8,a9,bJ,bS,a12,dD,())) a6 a2 k;have hS:=hI.sub k hk hb
 by_cases hz:hp (a0,a1,a2,a3,()) (a4,a5,a6,a7,a8,a9,bJ,bS,a12,dD,()) k=0
 ·rw [dT hz]
  simp only [aQ,gL];rw [Yg hI.us hbu,FB hI.ul hbu]
 ·rw [dF hz]
  simp only [bU]
  by_cases hr:hp (a0,a1,a2,a3,()) (a4,a5,a6,a7,a8,a9,bJ,bS,a12,dD,()) k=a0
  ·have hr':hp (a0,a1,a2,a3,()) (a4,a5,a6,a7,a8,a9,bJ,bS,a12,dD,()) k=(a0,a1,a2,a3,()).1:=hr
   rw [dT hr];simp only [aQ,gL];rw [Yg hI.uo hbu,FB hI.ul hbu]
  ·have hr':¬ hp (a0,a1,a2,a3,()) (a4,a5,a6,a7,a8,a9,bJ,bS,a12,dD,()) k=(a0,a1,a2,a3,()).1:=hr
   rw [dF hr];simp only [bU]
   have hnb:1≤hp (a0,a1,a2,a3,()) (a4,a5,a6,a7,a8,a9,bJ,bS,a12,dD,()) k∧hp (a0,a1,a2,a3,()) (a4,a5,a6,a7,a8,a9,bJ,bS,a12,dD,()) k≤99:=by
    have hin':0≤hp (a0,a1,a2,a3,()) (a4,a5,a6,a7,a8,a9,bJ,bS,a12,dD,()) k∧hp (a0,a1,a2,a3,()) (a4,a5,a6,a7,a8,a9,bJ,bS,a12,dD,()) k≤99:=hin;omega
   rw [fI (show (decide ((0:Int)≤aK (a4,a5,a6,a7,a8,a9,bJ,bS,a12,dD,()))&&decide ((0:Int)≤a2)&&decide (a2≤64))=true by rw [dT hpl.1,dT hlen'.1,dT hlen'.2];rfl)]
   simp only [gL]
   have hbb:∀ i,tb (ow (a0,a1,a2,a3,()) (aK (a4,a5,a6,a7,a8,a9,bJ,bS,a12,dD,())) a6 (hp (a0,a1,a2,a3,()) (a4,a5,a6,a7,a8,a9,bJ,bS,a12,dD,()) k)) i=decide (sG (a0,a1,a2,a3,()) (aK (a4,a5,a6,a7,a8,a9,bJ,bS,a12,dD,())) a6 a2 i=hp (a0,a1,a2,a3,()) (a4,a5,a6,a7,a8,a9,bJ,bS,a12,dD,()) k):=fun i=>Ot h.T h.l hpl h.st hnb i
   have hmm:∀ i,tb (oz (a0,a1,a2,a3,()) (aK (a4,a5,a6,a7,a8,a9,bJ,bS,a12,dD,())) (ah.st (a4,a5,a6,a7,a8,a9,bJ,bS,a12,dD,())) (hp (a0,a1,a2,a3,()) (a4,a5,a6,a7,a8,a9,bJ,bS,a12,dD,()) k)) i=decide (sG (a0,a1,a2,a3,()) (aK (a4,a5,a6,a7,a8,a9,bJ,bS,a12,dD,())) a6 a2 i=hp (a0,a1,a2,a3,()) (a4,a5,a6,a7,a8,a9,bJ,bS,a12,dD,()) k):=fun i=>by
    have:=xQ h.T h.l hpl h.st (nb:=hp (a0,a1,a2,a3,()) (a4,a5,a6,a7,a8,a9,bJ,bS,a12,dD,()) k) i;rw [dF hz] at this;show _=decide (sG (a0,a1,a2,a3,()) (aK (a4,a5,a6,a7,a8,a9,bJ,bS,a12,dD,())) (ah.st (a4,a5,a6,a7,a8,a9,bJ,bS,a12,dD,())) a2 i=_)
    simpa using this
   have hkn:sG (a0,a1,a2,a3,()) (aK (a4,a5,a6,a7,a8,a9,bJ,bS,a12,dD,())) a6 a2 k=hp (a0,a1,a2,a3,()) (a4,a5,a6,a7,a8,a9,bJ,bS,a12,dD,()) k:=rfl;generalize hp (a0,a1,a2,a3,()) (a4,a5,a6,a7,a8,a9,bJ,bS,a12,dD,()) k=n at *
   have hgg:Bt.and s.1 (oz (a0,a1,a2,a3,()) (aK (a4,a5,a6,a7,a8,a9,bJ,bS,a12,dD,())) (ah.st (a4,a5,a6,a7,a8,a9,bJ,bS,a12,dD,())) n)=Bt.and s.1 (ow (a0,a1,a2,a3,()) (aK (a4,a5,a6,a7,a8,a9,bJ,bS,a12,dD,())) a6 n):=
    xO (uq hI.ul _) (uq hI.ul _) fun i hi=>by rw [nC,nC,hbb,hmm]
   rw [hgg,akt hI.ul (Ym _ _ _ _)];have O4:U (Bt.and s.1 (ow (a0,a1,a2,a3,()) (aK (a4,a5,a6,a7,a8,a9,bJ,bS,a12,dD,())) a6 n)):=uq hI.ul _
   have hgs:∀ i,i<64→tb (Bt.and s.1 (ow (a0,a1,a2,a3,()) (aK (a4,a5,a6,a7,a8,a9,bJ,bS,a12,dD,())) a6 n)) i=true→tb a12 i=true:=fun i hi hq=>by
    rw [nC,bP] at hq;exact hI.sub i hi hq.1
   have hgn:Bt.and s.1 (ow (a0,a1,a2,a3,()) (aK (a4,a5,a6,a7,a8,a9,bJ,bS,a12,dD,())) a6 n)≠0:=by
    intro hq
    have:tb (Bt.and s.1 (ow (a0,a1,a2,a3,()) (aK (a4,a5,a6,a7,a8,a9,bJ,bS,a12,dD,())) a6 n)) k=true:=by
     rw [nC,hb,hbb,hkn];simp
    rw [hq,mZ] at this;cases this
   generalize Bt.and s.1 (ow (a0,a1,a2,a3,()) (aK (a4,a5,a6,a7,a8,a9,bJ,bS,a12,dD,())) a6 n)=g at O4 hgs hgn ⊢
   have hag:Bt.and a12 g=g:=xO (uq hU _) O4 fun i hi=>by
    rw [nC]
    cases hq:tb g i with
    | false=>simp
    | true=>rw [hgs i hi hq];rfl
   have em:masked (a4,a5,a6,a7,a8,a9,bJ,bS,a12,dD,()) g=bif !decide (a8=0) then (pkB (a4,a5,a6,a7,a8,a9,bJ,bS,a12,dD,()) g,true,()) else (zp,false,()):=by
    unfold masked;rw [h.k]
    show (bif true && !decide (a8=0) && !decide (Bt.and a12 g=0) then ((a4,a5,a6,a7,a8 - 1,a9,bJ,bS,Bt.and a12 g,dD,()),true,()) else (zp,false,()))=_
    rw [hag,dF hgn]
    cases decide (a8=0)<;>rfl
   rw [em,Yg hI.us O4,iy (show (s.2.2.2.length+1)*120≤140737488355328 by omega),show ah.tl (a4,a5,a6,a7,a8,a9,bJ,bS,a12,dD,())=a8 from rfl]
   cases decide (a8=0) with
   | true=>
    simp only [Bool.not_true,bU,aQ,gL];rw [FB hI.ul O4]
    try rfl
   | false=>
    simp only [Bool.not_false,bU,aQ,gL];rw [FB hI.ul O4]
    try rfl
theorem Yo (a0 a1 a2:Int) (a3:List Rw) (a4 a5 a6 a7 a8 a9 bJ bS a12:Int) (dD:List Int) (h:qQ (a0,a1,a2,a3,()) (a4,a5,a6,a7,a8,a9,bJ,bS,a12,dD,())) (hU:U a12):∀ m
 (s:Int×Int×Int×List Cp),Inv (a0,a1,a2,a3,()) (a4,a5,a6,a7,a8,a9,bJ,bS,a12,dD,()) s→(ones s.1).length≤m→s.2.2.2.length+m≤64 →
 Loop (xI a0 a1 a2 a3 a4 a5 a6 a7 a8 a9 bJ bS a12 dD) (s.1,((s.2.1,(s.2.2.1,(s.2.2.2,()))),())) =
  some (((yL (a0,a1,a2,a3,()) (a4,a5,a6,a7,a8,a9,bJ,bS,a12,dD,()) m s).2.1,((yL (a0,a1,a2,a3,()) (a4,a5,a6,a7,a8,a9,bJ,bS,a12,dD,()) m s).2.2.1,((yL (a0,a1,a2,a3,()) (a4,a5,a6,a7,a8,a9,bJ,bS,a12,dD,()) m s).2.2.2,()))),()):=by
 have fin:∀ (s:Int×Int×Int×List Cp),s.1=0→Loop (xI a0 a1 a2 a3 a4 a5 a6 a7 a8 a9 bJ bS a12 dD) (s.1,((s.2.1,(s.2.2.1,(s.2.2.2,()))),()))=some ((s.2.1,(s.2.2.1,(s.2.2.2,()))),()):=by
  intro s hs;rw [aT];unfold xI;simp only;rw [dT hs];rfl
 intro m
 induction m with
 | zero=>
  intro s hI hm hl;exact fin s (BK hI.ul (Nat.le_zero.1 hm))
 | succ m ih=>
  intro s hI hm hl;unfold yL
  by_cases h0:s.1=0
  ·rw [dT h0];exact fin s h0
  ·rw [dF h0]
   simp only [bU];obtain ⟨i1,i2,i3⟩:=Ml h hI hU h0
   rw [aT,Yn a0 a1 a2 a3 a4 a5 a6 a7 a8 a9 bJ bS a12 dD h hU s hI h0 (by omega)]
   exact ih _ i1 (by omega) (by omega)
theorem adk (a0 a1 a2:Int) (a3:List ah.Fl) (a4 a5 a6 a7 a8 a9 bJ bS a12:Int) (dD:List Int) (Z6:IntKind.u64.has a12) (h:(decide (ah.sD (a0,a1,a2,a3,())=0)&&ah.dz (a4,a5,a6,a7,a8,a9,bJ,bS,a12,dD,())&&decide (a2=ah.ln (a4,a5,a6,a7,a8,a9,bJ,bS,a12,dD,())))=true):g93 a0 a1 a2 a3 a4 a5 a6 a7 a8 a9 bJ bS a12 dD=some (ah.sF (a0,a1,a2,a3,()) (a4,a5,a6,a7,a8,a9,bJ,bS,a12,dD,()),()):=by
 simp only [bP,jH] at h;obtain ⟨⟨c1,hk⟩,hn⟩:=h;have hF:qQ (a0,a1,a2,a3,()) (a4,a5,a6,a7,a8,a9,bJ,bS,a12,dD,()):=⟨rX.1 c1,hk,hn⟩;have hU:U a12:=uh Z6
 have hL:=Yo a0 a1 a2 a3 a4 a5 a6 a7 a8 a9 bJ bS a12 dD hF hU 64 (a12,0,0,[]) (Ij (t:=(a0,a1,a2,a3,())) (p:=(a4,a5,a6,a7,a8,a9,bJ,bS,a12,dD,())) hU) (mD _) (by simp)
 simp only at hL;unfold g93;rw [hL];rfl
end
theorem adl (a0 a1 a2 a3:Int):g98 a0 a1 a2 a3=some (decide (a0=a2),()):=by
 rfl
theorem Ou (l:List Ed) (i:Nat):(l.map fun e=>e.1).getD i 0=(l.getD i zE).1:=by
 rw [yP,yP,List.getElem?_map]
 cases l[i]?<;>rfl
def Yp (l:List Ed) (i:Nat):Bool:=(l.take i).any fun y=>decide (y.1=(l.getD i zE).1)
theorem Ox (l:List Ed):(List.range l.length).any (Yp l)=repeats (l.map fun e=>e.1):=by
 unfold Yp;rw [Bool.eq_iff_iff,Fp];simp only [List.any_eq_true,List.mem_range,jH,Ou,List.length_map];constructor
 ·rintro ⟨j,hj,y,hy,h⟩
  obtain ⟨i,hi,rfl⟩:=List.getElem_of_mem hy
  have hi2:i<j:=by rw [List.length_take] at hi;omega
  refine ⟨i,j,hi2,hj,?_⟩;rw [List.getElem_take] at h
  rw [dV (show i<l.length by omega)]
  exact h
 ·rintro ⟨i,j,h1,h2,h3⟩
  refine ⟨j,h2,(l.take j)[i]'(by rw [List.length_take];omega),List.getElem_mem _,?_⟩
  rw [List.getElem_take]
  rw [dV (show i<l.length by omega)] at h3
  exact h3
theorem adn (a0 a1:Int) (a2:List ah.Ed) (r2:(Ty.sl (J5)).ok a2):g41 a0 a1 a2=some (ah.dZ (a0,a1,a2,()),()):=by
 have hl:=Fh r2
 have hL:Loop (Fb a2) ((0:Int),())=some (bif (List.range a2.length).any (fun i=>Kh a2 i || Yp a2 i) then (true,((false,()),())) else (false,((false,()),()))):=by
  refine sP _ a2.length _ _ _ (fun i hi=>?_) ?_
  ·unfold Fb Kh
   simp only [bK,dG,List.getD_cons_zero,List.drop_zero]
   rw [dT (show (i:Int)<(a2.length:Int) by omega),dT (show (0:Int)≤(i:Int) by omega),dT (show (i:Int)≤(a2.length:Int) by omega),aG (by omega)]
   generalize hT:(List.take i a2).any (fun y2=>decide (y2.1=(a2.getD i (0,0,())).1))=t
   rw [show Yp a2 i=t from hT]
   cases ah.inside (a2.getD i (0,0,())).2.1 1 256<;>cases ah.inside (a2.getD i (0,0,())).1 1 99<;>cases t<;>first | rfl | (rw [Bool.or_true];rfl) | skip
   by_cases h0:0<i
   ·rw [dT (show (i:Int) > 0 by omega),dT h0,sQ h0 (by omega),dT (show (0:Int)≤((i - 1:Nat):Int) by omega),dT (show ((i - 1:Nat):Int)<(a2.length:Int) by omega)]
    simp only [dG]
    by_cases h1:(a2.getD i (0,0,())).2.1≤(a2.getD (i - 1) (0,0,())).2.1
    ·rw [dT (show (a2.getD (i - 1) (0,0,())).2.1≥(a2.getD i (0,0,())).2.1 from h1)];first | rfl | (rw [dT h1];rfl)
    ·rw [dF (show ¬ (a2.getD (i - 1) (0,0,())).2.1≥(a2.getD i (0,0,())).2.1 from h1)];first | rfl | (rw [dF h1];rfl)
   ·rw [dF (show ¬ (i:Int) > 0 by omega),dF h0];rfl
  ·unfold Fb
   simp only [bK]
   rw [dF (show ¬ (a2.length:Int)<(a2.length:Int) by omega)]
   rfl
 unfold g41 dZ;rw [hL,SK,Ia,Ox];simp only [bK]
 by_cases q1:a1=0
 ·rw [dT q1]
  by_cases q2:a2.length=0
  ·rw [dF (show ¬ (a2.length:Int) > 0 by omega),dT q2,dF (show ¬ (a2.length:Int) > 24 by omega),dT (show a2.length≤24 by omega)]
   cases ah.inside a0 0 7<;>cases dW a1<;>cases a2.all (fun e=>ah.inside e.2.1 1 256&&ah.inside e.1 1 99)<;>cases WY a2<;>cases repeats (a2.map fun e=>e.1)<;>rfl
  ·rw [dT (show (a2.length:Int) > 0 by omega),dF q2]
   by_cases q3:a2.length≤24
   ·rw [dF (show ¬ (a2.length:Int) > 24 by omega),dT q3]
    cases ah.inside a0 0 7<;>cases dW a1<;>cases a2.all (fun e=>ah.inside e.2.1 1 256&&ah.inside e.1 1 99)<;>cases WY a2<;>cases repeats (a2.map fun e=>e.1)<;>rfl
   ·rw [dT (show (a2.length:Int) > 24 by omega),dF q3]
    cases ah.inside a0 0 7<;>cases dW a1<;>rfl
 ·rw [dF q1]
  by_cases q3:a2.length≤24
  ·rw [dF (show ¬ (a2.length:Int) > 24 by omega),dT q3]
   cases ah.inside a0 0 7<;>cases dW a1<;>cases a2.all (fun e=>ah.inside e.2.1 1 256&&ah.inside e.1 1 99)<;>cases WY a2<;>cases repeats (a2.map fun e=>e.1)<;>rfl
  ·rw [dT (show (a2.length:Int) > 24 by omega),dF q3]
   cases ah.inside a0 0 7<;>cases dW a1<;>rfl
theorem find_range {α β:Type} (p:α→Bool) (f:α→β) (l:List α) (d:α):(List.range l.length).findSome? (fun k=>bif p (l.getD k d) then some (f (l.getD k d)) else none)=(l.find? p).map f:=by
 rw [←sO]
 have:l=(List.range l.length).map fun k=>l.getD k d:=by
  refine List.ext_getElem (by simp) fun i h1 h2=>?_
  simp [yP,h1]
 conv=>rhs;rw [this]
 rw [List.findSome?_map];rfl
theorem Oy (p:Pn) (id:Int):(Dp p id).2.1=yK p id:=by
 unfold Dp yK
 cases h:p.2.2.1.find? fun e=>decide (e.2.1=id) with
 | none=>
  rw [List.find?_eq_none] at h;symm;rw [Bool.eq_false_iff];intro hh;obtain ⟨e,he,h2⟩:=List.any_eq_true.1 hh;exact h e he h2
 | some e=>
  symm
  exact List.any_eq_true.2 ⟨e,List.mem_of_find?_eq_some h,List.find?_some (p:=fun e:Ed=>decide (e.2.1=id)) h⟩
theorem Yq (a0 a1:Int) (a2:List ah.Ed) (a3:Int) (r2:(Ty.sl (J5)).ok a2):ajZ a0 a1 a2 a3=some (ah.Dp (a0,a1,a2,()) a3,()):=by
 have hl:=Fh r2
 have hL:Loop (wm a2 a3) (((0:Int),((0:Int),())),((0:Int),()))=some (((a2.find? fun e=>decide (e.2.1=a3)).map fun e=>((true,((e,(true,())),(((0:Int),((0:Int),())),()))):Bool×(Ed×Bool×Unit)×Ed×Unit)).getD (false,((((0:Int),((0:Int),())),(false,())),((((0:Int),((0:Int),())),()))))):=by
  rw [←find_range (fun e:Ed=>decide (e.2.1=a3)) _ a2 zE]
  refine xB (step:=wm a2 a3) (fun k=>(((0:Int),((0:Int),())),((k:Int),()))) a2.length _ _ (fun k hk=>?_) ?_
  ·unfold wm
   simp only [bK,dG]
   rw [dT (show (k:Int)<(a2.length:Int) by omega),dT (show (0:Int)≤(k:Int) by omega),aG (by omega)]
   cases decide ((a2.getD k (0,0,())).2.1=a3)<;>rfl
  ·unfold wm
   simp only [bK]
   rw [dF (show ¬ (a2.length:Int)<(a2.length:Int) by omega)]
   rfl
 unfold ajZ Dp;rw [hL];simp only
 cases a2.find? fun e=>decide (e.2.1=a3)<;>rfl
theorem Yr (l:List Int):(List.range (l.length - 1)).any (fun i=>decide (l.getD (i+1) 0≤l.getD i 0)) = !yE l:=by
 unfold yE;rw [List.not_all_eq_any_not]
 congr 1
 funext i
 rw [Bool.eq_iff_iff,jH,Bool.not_eq_true',decide_eq_false_iff_not];omega
theorem aqC (a0:List Int) (hl:a0.length≤17592186044416):Loop (wo a0) ((1:Int),())=some (bif !yE a0 then (true,(([],(25,())),())) else (false,(([],(0,())),()))):=by
 rw [←Yr]
 refine QU (wo a0) a0.length (fun i=>decide (a0.getD i 0≤a0.getD (i - 1) 0)) _ _ (fun i hi1 hi2=>?_) (fun i hi1 hi2=>?_)
 ·unfold wo
  simp only [bK,dG]
  rw [sQ (by omega) (by omega),aG (by omega),dG,dT (show (i:Int)<(a0.length:Int) by omega),dT (show (0:Int)≤(i:Int) by omega),dT (show (0:Int)≤((i - 1:Nat):Int) by omega),dT (show ((i - 1:Nat):Int)<(a0.length:Int) by omega)]
  by_cases h:a0.getD i 0≤a0.getD (i - 1) 0
  ·rw [dT (show a0.getD (i - 1) 0≥a0.getD i 0 from h)];first | rfl | (rw [dT h];rfl)
  ·rw [dF (show ¬ a0.getD (i - 1) 0≥a0.getD i 0 from h)];first | rfl | (rw [dF h];rfl)
 ·unfold wo
  simp only [bK]
  rw [dF (show ¬ (i:Int)<(a0.length:Int) by omega)]
  rfl
theorem Oz (id n:Int):0≤(place id n).2.1∧(place id n).2.1≤63:=by
 unfold place
 cases hv:dW n with
 | false=>exact ⟨Int.le_refl _,show (0:Int)≤63 by omega⟩
 | true=>
  cases hi:ah.inside id 1 256 with
  | false=>exact ⟨Int.le_refl _,show (0:Int)≤63 by omega⟩
  | true=>
   have h1:=iB.1 hv;have h2:=aZ.1 hi;simp only [Bool.not_true,Bool.or_self,bU]
   rcases h1 with h | h | h | h<;>subst h<;>omega
theorem Il {n:Int} {out:List SB} {id:Int} (hu:∀ s∈out,U s.2.1):(∀ s∈fD n out id,U s.2.1)∧(fD n out id).length≤out.length+1∧0<(fD n out id).length:=by
 unfold fD;simp only
 have hu2:∀ s∈(bif decide (out.length=0) || !decide ((out.getD (out.length - 1) zS).1=(place id n).1) then out++[((place id n).1,0,())] else out),U s.2.1:=by
  cases decide (out.length=0) || !decide ((out.getD (out.length - 1) zS).1=(place id n).1) with
  | false=>exact hu
  | true=>
   intro s hs
   rcases List.mem_append.1 hs with h | h
   ·exact hu s h
   ·rw [List.mem_singleton.1 h];exact U0
 have hl:out.length≤(bif decide (out.length=0) || !decide ((out.getD (out.length - 1) zS).1=(place id n).1) then out++[((place id n).1,(0:Int),())] else out).length∧(bif decide (out.length=0) || !decide ((out.getD (out.length - 1) zS).1=(place id n).1) then out++[((place id n).1,(0:Int),())] else out).length≤out.length+1∧0<(bif decide (out.length=0) || !decide ((out.getD (out.length - 1) zS).1=(place id n).1) then out++[((place id n).1,(0:Int),())] else out).length:=by
  by_cases h0:out.length=0
  ·rw [dT h0]
   simp only [Bool.true_or,aQ,kZ,List.length_cons,List.length_nil];omega
  ·cases decide (out.length=0) || !decide ((out.getD (out.length - 1) zS).1=(place id n).1) with
   | false=>simp only [bU];omega
   | true=>simp only [aQ,kZ,List.length_cons,List.length_nil];omega
 generalize (bif decide (out.length=0) || !decide ((out.getD (out.length - 1) zS).1=(place id n).1) then out++[((place id n).1,0,())] else out)=o at hu2 hl ⊢
 refine ⟨fun s hs=>?_,by rw [List.length_set];omega,by rw [List.length_set];omega⟩
 rcases List.mem_or_eq_of_mem_set hs with h | h
 ·exact hu2 s h
 ·rw [h]
  have h1:U (o.getD (o.length - 1) zS).2.1:=hu2 _ (kX (by omega))
  exact qN (Nat.or_lt_two_pow (Ki h1) (Ki (qO _)))
theorem Tn {n:Int} (l:List Int) (k:Nat) (hk:k≤l.length):(∀ s∈(l.take k).foldl (fD n) [],U s.2.1)∧((l.take k).foldl (fD n) []).length≤k:=by
 induction k with
 | zero=>exact ⟨fun s hs=>(by cases hs),dQ _⟩
 | succ k ih=>
  obtain ⟨h1,h2⟩:=ih (by omega)
  rw [xJ (fD n) [] l 0 k (by omega)]
  have:=Il (n:=n) (id:=l.getD k 0) h1
  exact ⟨this.1,by omega⟩
theorem ado (a0:Int) (a1:List Int) (hl:a1.length≤17592186044416) (k:Nat) (hk:k<a1.length) (out:List SB) (hu:∀ s∈out,U s.2.1) (ho:out.length≤k) (hk2:k≤1000000) :
 rV a0 a1 (out,((k:Int),()))=some (.inl (fD a0 out (a1.getD k 0),(((k+1:Nat):Int),()))):=by
 have hpb:=Oz (a1.getD k 0) a0;unfold fD;unfold rV;dsimp only;generalize hkk:Int.toNat ((k:Nat):Int)=j
 obtain rfl:k=j:=by rw [←hkk,dG]
 generalize place (a1.getD k 0) a0=p at hpb ⊢;simp only [bK]
 rw [dT (show (k:Int)<(a1.length:Int) by omega),dT (show (0:Int)≤(k:Int) by omega),aG (by omega)]
 have fin:∀ o:List SB,(∀ s∈o,U s.2.1)→0<o.length→o.length≤2000000→(IntKind.wrap .i64 ((o.length:Int) - 1))=((o.length - 1:Nat):Int) ∧
  IntKind.wrap .u64 (((BitVec.or (BitVec.ofInt 64 (o.getD (o.length - 1) zS).2.1) (BitVec.ofInt 64 (Bt.fK p.2.1))).toNat:Nat):Int)=Bt.or (o.getD (o.length - 1) zS).2.1 (Bt.fK p.2.1):=by
  intro o h1 h2 h3
  exact ⟨sQ (k:=o.length) h2 (by omega),bor (h1 _ (kX (by omega))) (qO _)⟩
 obtain ⟨f1,f2⟩:=fin (out++[(p.1,0,())]) (fun s hs=>by
  rcases List.mem_append.1 hs with h | h
  ·exact hu s h
  ·rw [List.mem_singleton.1 h];exact U0) (by simp) (by simp;omega)
 by_cases h0:out.length=0
 ·rw [dT h0,dT (show (out.length:Int)=0 by omega)]
  simp only [Bool.not_true,bU,aQ,gL,Bool.true_or,Bool.and_self]
  rw [iy (show (out.length+1)*16≤140737488355328 by omega)]
  simp only [aQ,gL];simp only [bK,f1,dG]
  rw [dT (show (0:Int)≤(((out++[(p.1,(0:Int),())]).length - 1:Nat):Int) by omega),dT (show (((out++[(p.1,(0:Int),())]).length - 1:Nat):Int)<((out++[(p.1,(0:Int),())]).length:Int) by simp only [kZ,List.length_cons,List.length_nil];omega),kg (show (out++[(p.1,(0:Int),())]).length - 1<(out++[(p.1,(0:Int),())]).length by simp only [kZ,List.length_cons,List.length_nil];omega),f2]
  rfl
 ·rw [dF h0,dF (show ¬ (out.length:Int)=0 by omega)]
  obtain ⟨gX1,gX2⟩:=fin out hu (by omega) (by omega)
  simp only [Bool.not_false,aQ,Bool.false_or,Bool.and_self];simp only [bK,gX1,dG]
  rw [dT (show (0:Int)≤((out.length - 1:Nat):Int) by omega),dT (show ((out.length - 1:Nat):Int)<(out.length:Int) by omega),kg (show out.length - 1<out.length by omega)]
  simp only [aQ,gL,Bool.and_self]
  by_cases hq:(out.getD (out.length - 1) zS).1=p.1
  ·rw [dT hq]
   simp only [Bool.not_true,bU,gL];simp only [bK,gX1,dG]
   rw [dT (show (0:Int)≤((out.length - 1:Nat):Int) by omega),dT (show ((out.length - 1:Nat):Int)<(out.length:Int) by omega),kg (show out.length - 1<out.length by omega),gX2]
   rfl
  ·rw [dF hq]
   simp only [Bool.not_false,aQ]
   rw [iy (show (out.length+1)*16≤140737488355328 by omega)]
   simp only [aQ,gL];simp only [bK,f1,dG]
   rw [dT (show (0:Int)≤(((out++[(p.1,(0:Int),())]).length - 1:Nat):Int) by omega),dT (show (((out++[(p.1,(0:Int),())]).length - 1:Nat):Int)<((out++[(p.1,(0:Int),())]).length:Int) by simp only [kZ,List.length_cons,List.length_nil];omega),kg (show (out++[(p.1,(0:Int),())]).length - 1<(out++[(p.1,(0:Int),())]).length by simp only [kZ,List.length_cons,List.length_nil];omega),f2]
   rfl
theorem adp {l:List Int} (h:yE l=true):∀ j i,i<j→j<l.length→l.getD i 0<l.getD j 0:=by
 have h1:∀ i,i+1<l.length→l.getD i 0<l.getD (i+1) 0:=by
  intro i hi;unfold yE at h;rw [List.all_eq_true] at h
  exact of_decide_eq_true (h i (List.mem_range.2 (by omega)))
 intro j
 induction j with
 | zero=>intro i hi;omega
 | succ j ih=>
  intro i hi hj
  by_cases q:i=j
  ·subst q;exact h1 i hj
  ·exact Int.lt_trans (ih i (by omega) (by omega)) (h1 j hj)
theorem Mq {l:List Int} (h:yE l=true):∀ j,j<l.length→l.getD 0 0+(j:Int)≤l.getD j 0
 | 0,_=>by omega
 | j+1,hj=>by
  have:=Mq h j (by omega)
  have:=adp h (j+1) j (by omega) hj
  omega
theorem OA {p:Pn} (h:dZ p=true):∀ e∈p.2.2.1,1≤e.2.1∧e.2.1≤256:=by
 unfold dZ at h;simp only [bP] at h;intro e he;have:=List.all_eq_true.1 h.1.1.2 e he;rw [bP] at this;exact aZ.1 this.1
theorem adq {p:Pn} (h:dZ p=true) {id:Int} (hh:yK p id=true):1≤id∧id≤256:=by
 unfold yK at hh;obtain ⟨e,he,h2⟩:=List.any_eq_true.1 hh;have:=OA h e he;rw [of_decide_eq_true h2] at this;exact this
theorem Yt {p:Pn} (h:dZ p=true) {l:List Int} (hu:yE l=true) (ha:l.any (fun id=>!yK p id)=false):l.length≤256:=by
 by_cases h0:l.length=0
 ·omega
 have hin:∀ k,k<l.length→1≤l.getD k 0∧l.getD k 0≤256:=by
  intro k hk;rw [List.any_eq_false] at ha;have:=ha _ (kX (d:=0) hk)
  exact adq h (by simpa using this)
 have h1:=Mq hu (l.length - 1) (by omega)
 have h2:=hin (l.length - 1) (by omega)
 have h3:=hin 0 (by omega)
 omega
theorem Yu (a0 a1:Int) (a2:List ah.Ed) (a3:List Int) (r3:(Ty.sl (.int .i64)).ok a3):aj8 a0 a1 a2 a3=some (ah.sets (a0,a1,a2,()) a3,()):=by
 have hl:=H9 r3;unfold aj8 sets
 cases hv:dZ (a0,a1,a2,()) with
 | false=>rfl
 | true=>
  simp only [Bool.not_true,bU];rw [aqC a3 hl]
  cases hu:yE a3 with
  | false=>rfl
  | true=>
   simp only [Bool.not_true,bU,gL]
   have hE:Loop (zB a0 a1 a2 a3) ((0:Int),())=some (bif a3.any (fun id=>!yK (a0,a1,a2,()) id) then (true,((4,([],())),())) else (false,((0,([],())),()))):=by
    refine agB _ a3 0 (fun id=>!yK (a0,a1,a2,()) id) _ _ (fun k hk=>?_) ?_
    ·unfold zB
     simp only [bK,dG]
     rw [dT (show (k:Int)<(a3.length:Int) by omega),dT (show (0:Int)≤(k:Int) by omega),aG (by omega),Oy]
     cases yK (a0,a1,a2,()) (a3.getD k 0)<;>rfl
    ·unfold zB
     simp only [bK]
     rw [dF (show ¬ (a3.length:Int)<(a3.length:Int) by omega)]
     rfl
   rw [hE]
   cases ha:a3.any (fun id=>!yK (a0,a1,a2,()) id) with
   | true=>rfl
   | false=>
    have hlen:=Yt hv hu ha
    have hL:Loop (rV a1 a3) (([]:List SB),((0:Int),()))=some (a3.foldl (fD a1) [],()):=by
     have h:=jW (step:=rV a1 a3) (fun k=>((a3.take k).foldl (fD a1) [],((k:Int),()))) a3.length ((a3.foldl (fD a1) [],()):List SB×Unit) (fun k hk=>?_) ?_ 0 (fG _)
     ·exact h
     ·obtain ⟨i1,i2⟩:=Tn (n:=a1) a3 k (by omega)
      rw [xJ (fD a1) [] a3 0 k hk]
      exact ado a1 a3 hl k hk _ i1 i2 (by omega)
     ·unfold rV
      simp only [bK]
      rw [dF (show ¬ (a3.length:Int)<(a3.length:Int) by omega),List.take_length]
      rfl
    simp only [bU,gL];rw [hL];rfl
theorem Yv (a0 a1 a2 a3 a4 a5 a6 a7 a8:Int) (a9:List Int) (bJ:Int):ajw a0 a1 a2 a3 a4 a5 a6 a7 a8 a9 bJ=some (ah.only (a0,a1,a2,a3,a4,a5,a6,a7,a8,a9,()) bJ,()):=by
 unfold ajw only
 cases h:dz (a0,a1,a2,a3,a4,a5,a6,a7,a8,a9,()) with
 | false=>rfl
 | true=>
  simp only [Bool.not_true,Bool.not_false,aQ,Bool.true_and,gL,bt]
  cases Bt.has a8 bJ<;>rfl
theorem Cm {α β:Type} (f:α→β) (l:List α) (d:α) (k:Nat) (hk:k<l.length):(l.take (k+1)).map f=(l.take k).map f++[f (l.getD k d)]:=by
 rw [List.take_succ_eq_append_getElem hk,List.map_append,List.map_singleton,dV hk]
theorem Yw (a0 a1 a2:Int) (a3:List ah.Cp) (a4 a5 a6 a7 a8 a9 bJ bS a12:Int) (dD:List Int):ajs a0 a1 a2 a3 a4 a5 a6 a7 a8 a9 bJ bS a12 dD=some (ah.uf a0 (a1,a2,a3,()) (a4,a5,a6,a7,a8,a9,bJ,bS,a12,dD,()),()):=by
 have hl:(Bt.list a1).length≤64:=by rw [mE];exact mD a1
 have hL:Loop (vV a0 a1 a4 a5 a6 a7 a8 a9 bJ bS a12 dD) ((0:Int),(([]:List Dl),()))=some ((Bt.list a1).map (fun k=>((a0,only (a4,a5,a6,a7,a8,a9,bJ,bS,a12,dD,()) k,()):Dl)),()):=by
  refine (jW (step:=vV a0 a1 a4 a5 a6 a7 a8 a9 bJ bS a12 dD) (fun k=>((k:Int),(((Bt.list a1).take k).map (fun k=>((a0,only (a4,a5,a6,a7,a8,a9,bJ,bS,a12,dD,()) k,()):Dl)),()))) (Bt.list a1).length _ (fun k hk=>?_) ?_ 0 (fG _))
  ·rw [Cm _ _ 0 k hk]
   unfold vV;simp only [bK,dG]
   rw [dT (show (k:Int)<((Bt.list a1).length:Int) by omega),dT (show (0:Int)≤(k:Int) by omega),aG (by omega),iy (by rw [List.length_map,List.length_take];omega)]
   rfl
  ·unfold vV
   simp only [bK]
   rw [dF (show ¬ ((Bt.list a1).length:Int)<((Bt.list a1).length:Int) by omega),List.take_length]
   rfl
 unfold ajs;rw [hL];rfl
theorem BM {t:Tp} (h:wf t=true):∀ k,wf (jX t k).2=true∧(jX t k).1.length=k∧(jX t k).1.Perm ((List.range k).map fun (i:Nat)=>(i:Int))
 | 0=>⟨h,rfl,List.Perm.nil⟩
 | k+1=>by
  obtain ⟨h1,h2,h3⟩:=BM h k
  have hb:=kK (t:=(jX t k).2) (n:=(k:Int)+1) (by omega)
  rw [jX];generalize jX t k=s at h1 h2 h3 hb ⊢;have w:=wu (n:=(k:Int)+1) h1;generalize next s.2 ((k:Int)+1)=a at w hb ⊢;refine ⟨w,?_,?_⟩
  ·simp only [kZ,List.length_cons,List.length_take,List.length_drop]
   omega
  ·have p1:(s.1.take a.1.toNat++(k:Int)::s.1.drop a.1.toNat).Perm ((k:Int)::s.1):=by
    have:=@List.perm_middle Int (k:Int) (s.1.take a.1.toNat) (s.1.drop a.1.toNat)
    rwa [List.take_append_drop] at this
   refine p1.trans ?_;rw [List.range_succ,List.map_append];refine (List.Perm.cons _ h3).trans ?_;exact (List.perm_append_comm (l₁:=[(k:Int)])).trans (List.Perm.refl _)
theorem Mr {l:List Rc} (h:(Ty.sl uj).ok l):l.length≤2932031007402:=by
 have h:l.length*48≤140737488355328:=h.1;omega
theorem aqE {α:Type} {t:Tp} (h:wf t=true) (x:α):ah.on (wf t) x=some x:=fI h
theorem adr (a0:List Int) (a1 a2:Int) (h:(ah.wf (a0,a1,())&&ah.inside a2 0 1000)=true):g64 a0 a1 a2=some (ah.order (a0,a1,()) a2.toNat):=by
 simp only [bP,aZ] at h;obtain ⟨hw,h1,h2⟩:=h
 obtain ⟨n,rfl⟩:∃ n:Nat,a2=(n:Int):=⟨a2.toNat,by omega⟩
 have hL:Loop (Br (n:Int)) ((0:Int),(([]:List Int),((a0,(a1,())),())))=some ((jX (a0,a1,()) n).1,((jX (a0,a1,()) n).2,())):=by
  refine jW (step:=Br (n:Int)) (fun k=>((k:Int),((jX (a0,a1,()) k).1,((jX (a0,a1,()) k).2,())))) n _ (fun k hk=>?_) ?_ 0 (fG _)
  ·obtain ⟨w,hl,-⟩:=BM hw k
   rw [jX];generalize jX (a0,a1,()) k=s at w hl ⊢
   have hb:=kK (t:=s.2) (n:=(k:Int)+1) (by omega)
   unfold Br;simp only [bK,dG,List.nil_append,List.drop_zero,List.take_length]
   rw [dT (show (k:Int)<(n:Int) by omega),hl,fU (n:=(k:Int)+1) (by omega) (by omega),aqE w]
   simp only [gL]
   have e:((k+1:Nat):Int)=(k:Int)+1:=by omega
   generalize next s.2 ((k:Int)+1)=a at hb ⊢
   have l1:(List.take a.1.toNat s.1).length≤1000:=by rw [List.length_take];omega
   have l2:(List.drop a.1.toNat s.1).length≤1000:=by rw [List.length_drop];omega
   have hb2:a.1≤(k:Int):=by omega
   rw [dT hb.1,dT hb2,dT (Int.le_refl _),decide_true,iy (show (1+(List.drop a.1.toNat s.1).length)*8≤140737488355328 by omega),iy (show ((List.take a.1.toNat s.1).length+((k:Int)::List.drop a.1.toNat s.1).length)*8≤140737488355328 by rw [List.length_cons];omega),e]
   rfl
  ·unfold Br
   rw [dF (show ¬ (n:Int)<(n:Int) by omega)]
   rfl
 unfold g64;rw [hL];rfl
theorem Yx (a0:Int):akl a0=some (false,()):=by
 unfold akl;rw [fB rfl];rfl
theorem Yz (a0 a1:Int):ajU a0 a1=some (ah.gV a0 a1,()):=by
 unfold ajU gV
 cases decide (a0<a1) with
 | true=>rfl
 | false=>
  show (bif decide (a1<a0) then _ else _)=_
  cases decide (a1<a0)<;>rfl
theorem Mt (l:List Int) (i:Nat) (h:i<l.length):eH (l.drop i)=bif decide (l.getD i 0=0) then eH (l.drop (i+1)) else l.getD i 0:=by
 rw [List.drop_eq_getElem_cons h]
 have:l.getD i 0=l[i]:=by rw [yP,List.getElem?_eq_getElem h];rfl
 rw [this];rfl
theorem YB (a0:List Int) (r0:(Ty.sl (.int .i64)).ok a0):akd a0=some (ah.eH a0,()):=by
 have hlen:a0.length≤281474976710656:=by
  have h:a0.length*8≤140737488355328:=r0.1;omega
 have key:∀ j k,k+j=a0.length→∃ e,Loop (rW a0) ((k:Int),())=some e∧(bif e.1 then some e.2.1 else some ((0:Int),()))=some (eH (a0.drop k),()):=by
  intro j
  induction j with
  | zero=>
   intro k hk
   have hk:k=a0.length:=by omega
   subst hk;refine ⟨(false,((0,()),())),?_,?_⟩
   ·rw [aT]
    unfold rW;simp only [bK]
    rw [jM (show ¬ (a0.length:Int)<(a0.length:Int) by omega)]
    rfl
   ·rw [List.drop_length];rfl
  | succ j ih=>
   intro k hk
   have hs:rW a0 ((k:Int),())=bif !decide (a0.getD k 0=0) then some (.inr (true,((a0.getD k 0,()),()))) else some (.inl (((k+1:Nat):Int),())):=by
    unfold rW;simp only [bK,dG]
    rw [fB (show (k:Int)<(a0.length:Int) by omega),fB (show (0:Int)≤(k:Int) by omega),fU (n:=(k:Int)+1) (by omega) (by omega)]
    rfl
   by_cases h0:a0.getD k 0=0
   ·obtain ⟨e,h1,h2⟩:=ih (k+1) (by omega)
    refine ⟨e,?_,?_⟩
    ·rw [aT,hs,fB h0]
     exact h1
    ·rw [Mt a0 k (by omega),fB h0]
     exact h2
   ·refine ⟨(true,((a0.getD k 0,()),())),?_,?_⟩
    ·rw [aT,hs,jM h0]
     rfl
    ·rw [Mt a0 k (by omega),jM h0]
     rfl
 obtain ⟨e,h1,h2⟩:=key a0.length 0 (by omega)
 have h1:Loop (rW a0) (0,())=some e:=h1;unfold akd;rw [h1];exact h2
theorem lt_trans:∀ {s t u:List Int},bC s t=true→bC t u=true→bC s u=true
 | s,t,[],_,h2=>by cases t<;>simp [bC] at h2
 | [],t,c::u,_,_=>rfl
 | a::s,[],c::u,h1,_=>by simp [bC] at h1
 | a::s,b::t,c::u,h1,h2=>by
  simp only [bC,Bool.or_eq_true,jH,bP,beq_iff_eq] at h1 h2 ⊢
  rcases h1 with h1 | ⟨rfl,h1⟩
  ·rcases h2 with h2 | ⟨rfl,h2⟩
   ·exact .inl (by omega)
   ·exact .inl h1
  ·rcases h2 with h2 | ⟨rfl,h2⟩
   ·exact .inl h2
   ·exact .inr ⟨rfl,lt_trans h1 h2⟩
def lx (a b:Int) (p:Prop):Prop:=a<b∨(a=b∧p)
def L (a b:Rf):Prop:=lx a.1 b.1 (lx a.2.1 b.2.1 (lx a.2.2.1 b.2.2.1 (lx a.2.2.2.1 b.2.2.2.1 (bC a.2.2.2.2.1 b.2.2.2.2.1=true))))
theorem eqR (x y:Rc):(decide (x.1=y.1)&&(decide (x.2.1=y.2.1)&&(decide (x.2.2.1.1=y.2.2.1.1)&&(decide (x.2.2.1.2.1=y.2.2.1.2.1)&&((List.beq x.2.2.2.1 y.2.2.2.1)&&true)))))=decide (x=y):=by
 obtain ⟨a,b,⟨c,d,⟨⟩⟩,e,⟨⟩⟩:=x;obtain ⟨a',b',⟨c',d',⟨⟩⟩,e',⟨⟩⟩:=y;show (decide (a=a')&&(decide (b=b')&&(decide (c=c')&&(decide (d=d')&&((e==e')&&true)))))=_
 by_cases h:a=a'∧b=b'∧c=c'∧d=d'∧e=e'
 ·obtain ⟨rfl,rfl,rfl,rfl,rfl⟩:=h
  simp
 ·rw [dF (show ¬ ((a,b,(c,d,()),e,()):Rc)=(a',b',(c',d',()),e',()) from fun hh=>h (by cases hh;exact ⟨rfl,rfl,rfl,rfl,rfl⟩))]
  rw [Bool.eq_false_iff];intro hh;simp only [bP,jH,beq_iff_eq,and_true] at hh;exact h hh
theorem Tv (a b:List Rc) (h:a.length=b.length):(!(List.range a.length).any fun i=>!decide (a.getD i qc=b.getD i qc))=pU a b:=by
 unfold pU
 by_cases e:a=b
 ·subst e
  rw [dT rfl,Bool.not_eq_true',List.any_eq_false];intro i _;simp
 ·rw [dF e,Bool.not_eq_false',List.any_eq_true]
  refine Classical.byContradiction fun hn=>e (List.ext_getElem h fun i h1 h2=>?_)
  refine Classical.byContradiction fun hx=>hn ⟨i,List.mem_range.2 h1,?_⟩
  rw [dV h1,dV h2,dF hx];rfl
theorem adt (a0 a1:List ah.Rc) (r0:(Ty.sl (uj)).ok a0) (r1:(Ty.sl (uj)).ok a1):g12 a0 a1=some (ah.pU a0 a1,()):=by
 have hl0:=Mr r0;have hl1:=Mr r1;unfold g12;simp only [bK]
 by_cases h:a0.length=a1.length
 ·rw [dT (show (a0.length:Int)=(a1.length:Int) by omega)]
  have hL:Loop (EN a0 a1) ((0:Int),())=some (bif (List.range a0.length).any (fun i=>!decide (a0.getD i qc=a1.getD i qc)) then (true,((false,()),())) else (false,((false,()),()))):=by
   refine sP _ a0.length _ _ _ (fun i hi=>?_) ?_
   ·unfold EN
    simp only [bK,dG]
    rw [dT (show (i:Int)<(a0.length:Int) by omega),dT (show (0:Int)≤(i:Int) by omega),dT (show (i:Int)<(a1.length:Int) by omega),aG (by omega),eqR]
    cases decide (a0.getD i qc=a1.getD i qc)<;>rfl
   ·unfold EN
    simp only [bK]
    rw [dF (show ¬ (a0.length:Int)<(a0.length:Int) by omega)]
    rfl
  rw [hL,←Tv a0 a1 h]
  cases (List.range a0.length).any (fun i=>!decide (a0.getD i qc=a1.getD i qc))<;>rfl
 ·rw [dF (show ¬ (a0.length:Int)=(a1.length:Int) by omega)]
  unfold pU
  rw [dF (fun e=>h (by rw [e]))]
  rfl
section
open ah.Bt
def num:List Nat→Nat
 | []=>0
 | a::r=>a+256*num r
def mask (c:Nat):Nat→Nat
 | 0=>0
 | k+1=>c+256*mask c k
theorem qR {a b c d:Nat} (ha:a<256) (hc:c<256):(a+256*b) &&& (c+256*d)=(a &&& c)+256*(b &&& d):=by
 have h0:(a &&& c)<2 ^ 8:=Nat.and_lt_two_pow _ (by omega)
 refine Nat.eq_of_testBit_eq fun i=>?_
 have e:∀ x y:Nat,x+256*y=2 ^ 8*y+x:=fun x y=>by omega
 rw [e,e,e,Nat.testBit_and,Nat.testBit_two_pow_mul_add _ (by omega),Nat.testBit_two_pow_mul_add _ (by omega),Nat.testBit_two_pow_mul_add _ h0]
 by_cases hi:i<8
 ·rw [if_pos hi,if_pos hi,if_pos hi,Nat.testBit_and]
 ·rw [if_neg hi,if_neg hi,if_neg hi,Nat.testBit_and]
theorem xR:∀ (l:List Nat),(∀ a∈l,a<256)→num l<256 ^ l.length
 | [],_=>by simp [num]
 | a::r,h=>by
  have h1:=h a (List.mem_cons_self ..)
  have h2:=xR r fun x hx=>h x (oH _ hx)
  simp only [num,List.length_cons,Nat.pow_succ];omega
def p1 (a:Nat):Nat:=(a / 2 &&& 85)+(a &&& 85)
def p2 (a:Nat):Nat:=(a / 4 &&& 51)+(a &&& 51)
def p3 (a:Nat):Nat:=(a / 16+a) &&& 15
theorem f1:∀ a:Fin 256,∀ e:Fin 2,(a.val / 2+128*e.val) &&& 85=a.val / 2 &&& 85:=by decide +kernel
theorem f2:∀ a:Fin 256,∀ e:Fin 4,(a.val / 4+64*e.val) &&& 51=a.val / 4 &&& 51:=by decide +kernel
theorem f1r:∀ a:Fin 256,p1 a.val<256:=by decide +kernel
theorem f2r:∀ a:Fin 256,p2 (p1 a.val)%16≤4∧p2 (p1 a.val) / 16≤4:=by decide +kernel
theorem f3r:∀ a:Fin 256,p3 (p2 (p1 a.val))=((List.range 8).filter a.val.testBit).length:=by decide +kernel
theorem n1:∀ (l:List Nat),(∀ a∈l,a<256)→(num l / 2 &&& mask 85 l.length)+(num l &&& mask 85 l.length)=num (l.map p1)
 | [],_=>by simp [num,mask]
 | a::r,h=>by
  have h1:=h a (List.mem_cons_self ..)
  have ih:=n1 r fun x hx=>h x (oH _ hx)
  have e:(a+256*num r) / 2=(a / 2+128*(num r%2))+256*(num r / 2):=by omega
  have k:=f1 ⟨a,h1⟩ ⟨num r%2,by omega⟩
  simp only at k;simp only [num,mask,List.length_cons,List.map_cons]
  rw [e,qR (by omega) (by decide),qR h1 (by decide),k,←ih]
  unfold p1;omega
theorem n2:∀ (l:List Nat),(∀ a∈l,a<256)→(num l / 4 &&& mask 51 l.length)+(num l &&& mask 51 l.length)=num (l.map p2)
 | [],_=>by simp [num,mask]
 | a::r,h=>by
  have h1:=h a (List.mem_cons_self ..)
  have ih:=n2 r fun x hx=>h x (oH _ hx)
  have e:(a+256*num r) / 4=(a / 4+64*(num r%4))+256*(num r / 4):=by omega
  have k:=f2 ⟨a,h1⟩ ⟨num r%4,by omega⟩
  simp only at k;simp only [num,mask,List.length_cons,List.map_cons]
  rw [e,qR (by omega) (by decide),qR h1 (by decide),k,←ih]
  unfold p2;omega
theorem Z9 (x:Nat):x &&& 15=x%16:=by
 rw [show (15:Nat)=2 ^ 4 - 1 from rfl,Nat.and_two_pow_sub_one_eq_mod]
theorem OC:∀ (l:List Nat),(∀ a∈l,a%16≤4∧a / 16≤4)→num l%16≤4
 | [],_=>by simp [num]
 | a::r,h=>by
  have h1:=h a (List.mem_cons_self ..);simp only [num];omega
theorem n3:∀ (l:List Nat),(∀ a∈l,a%16≤4∧a / 16≤4)→(num l / 16+num l) &&& mask 15 l.length=num (l.map p3)
 | [],_=>by simp [num,mask]
 | a::r,h=>by
  have h1:=h a (List.mem_cons_self ..)
  have hr:∀ x∈r,x%16≤4∧x / 16≤4:=fun x hx=>h x (oH _ hx)
  have ih:=n3 r hr;have h2:=OC r hr
  have e:(a+256*num r) / 16+(a+256*num r)=(a / 16+16*(num r%16)+a)+256*(num r / 16+num r):=by omega
  simp only [num,mask,List.length_cons,List.map_cons]
  rw [e,qR (by omega) (by decide),ih]
  unfold p3;rw [Z9,Z9];omega
def OD (x:Nat):List Nat:=[x%256,x / 256%256,x / 65536%256,x / 16777216%256,x / 4294967296%256,x / 1099511627776%256,x / 281474976710656%256,x / 72057594037927936%256]
theorem Mx {x:Nat} (h:x<2 ^ 64):num (OD x)=x:=by
 simp only [num,OD];omega
theorem adv {x:Nat}:∀ a∈OD x,a<256:=by
 intro a ha;simp only [OD,List.mem_cons,List.not_mem_nil,or_false] at ha;omega
def rk (x n:Nat):Nat:=((List.range n).filter x.testBit).length
theorem adw (a b n:Nat) (ha:a<256):rk (a+256*b) (8+n)=rk a 8+rk b n:=by
 unfold rk;rw [List.range_add,List.filter_append,kZ]
 have e:a+256*b=2 ^ 8*b+a:=by omega
 have q1:(List.range 8).filter (a+256*b).testBit=(List.range 8).filter a.testBit:=by
  refine List.filter_congr fun i hi=>?_
  rw [List.mem_range] at hi
  rw [e,Nat.testBit_two_pow_mul_add _ (by omega),if_pos hi]
 have q2:((List.range n).map (fun x=>8+x)).filter (a+256*b).testBit=((List.range n).filter b.testBit).map (fun x=>8+x):=by
  rw [List.filter_map]
  refine congrArg _ (List.filter_congr fun i _=>?_)
  show (a+256*b).testBit (8+i)=b.testBit i
  rw [e,Nat.testBit_two_pow_mul_add _ (by omega),if_neg (by omega)]
  congr 1
  omega
 rw [q1,q2,List.length_map]
theorem Tw:∀ (l:List Nat),(∀ a∈l,a<256)→rk (num l) (8*l.length)=(l.map fun a=>p3 (p2 (p1 a))).sum
 | [],_=>rfl
 | a::r,h=>by
  have h1:=h a (List.mem_cons_self ..)
  have ih:=Tw r fun x hx=>h x (oH _ hx)
  have k:=f3r ⟨a,h1⟩;simp only at k;simp only [num,List.length_cons,List.map_cons,List.sum_cons]
  rw [show 8*(r.length+1)=8+8*r.length by omega,adw a _ _ h1,ih,k]
  rfl
def s1 (a:Int):Int:=IntKind.wrap .u64 (wa (Int.fdiv a 2) 6148914691236517205+wa a 6148914691236517205)
def s2 (a:Int):Int:=IntKind.wrap .u64 (wa (Int.fdiv a 4) 3689348814741910323+wa a 3689348814741910323)
def s3 (a:Int):Int:=wa (IntKind.wrap .u64 (Int.fdiv a 16+a)) 1085102592571150095
def s4 (a:Int):Int:=IntKind.wrap .u64 (a+Int.fdiv a 256)
def s5 (a:Int):Int:=IntKind.wrap .u64 (a+Int.fdiv a 65536)
def s6 (a:Int):Int:=IntKind.wrap .u64 (a+Int.fdiv a 4294967296)
def s7 (a:Int):Int:=IntKind.wrap .i64 (Int.ofNat (BitVec.and (BitVec.ofInt 64 (IntKind.wrap .i64 a)) (BitVec.ofInt 64 127)).toNat)
theorem OE (a0:Int):g43 a0=some (s7 (s6 (s5 (s4 (s3 (s2 (s1 a0)))))),()):=rfl
theorem wun {x:Int} {n:Nat} (h:x=n) (hn:n<2 ^ 64):IntKind.wrap .u64 x=(n:Int):=by
 subst h
 exact wu64 (by omega) (by omega)
theorem adx {l:List Nat} (hl:l.length=8) (h:∀ a∈l,a<256):s1 (num l:Int)=(num (l.map p1):Int):=by
 have h1:=n1 l h;have hb:=xR l h
 have hb2:=xR (l.map p1) fun a ha=>by
  obtain ⟨x,hx,rfl⟩:=List.mem_map.1 ha;exact f1r ⟨x,h x hx⟩
 rw [List.length_map] at hb2;rw [hl] at h1 hb hb2
 have hm:mask 85 8=6148914691236517205:=by decide
 have ady:(256:Nat) ^ 8=2 ^ 64:=by decide
 rw [hm] at h1;rw [ady] at hb hb2;unfold s1;have d:=fd (num l) 2;simp only [Int.cast_ofNat_Int] at d
 have a1:=xL (x:=num l / 2) (y:=6148914691236517205) (by omega) (by decide)
 have a2:=xL (x:=num l) (y:=6148914691236517205) hb (by decide)
 simp only [Int.cast_ofNat_Int] at a1 a2;rw [d,a1,a2]
 exact wun (by omega) hb2
theorem adz {l:List Nat} (hl:l.length=8) (h:∀ a∈l,a<256) (h':∀ a∈l,p2 a<256):s2 (num l:Int)=(num (l.map p2):Int):=by
 have h1:=n2 l h;have hb:=xR l h
 have hb2:=xR (l.map p2) fun a ha=>by
  obtain ⟨x,hx,rfl⟩:=List.mem_map.1 ha;exact h' x hx
 rw [List.length_map] at hb2;rw [hl] at h1 hb hb2
 have hm:mask 51 8=3689348814741910323:=by decide
 have ady:(256:Nat) ^ 8=2 ^ 64:=by decide
 rw [hm] at h1;rw [ady] at hb hb2;unfold s2;have d:=fd (num l) 4;simp only [Int.cast_ofNat_Int] at d
 have a1:=xL (x:=num l / 4) (y:=3689348814741910323) (by omega) (by decide)
 have a2:=xL (x:=num l) (y:=3689348814741910323) hb (by decide)
 simp only [Int.cast_ofNat_Int] at a1 a2;rw [d,a1,a2]
 exact wun (by omega) hb2
theorem Tx:∀ (l:List Nat),(∀ a∈l,a%16≤4∧a / 16≤4)→num l≤68*(mask 1 l.length)
 | [],_=>by simp [num]
 | a::r,h=>by
  have h1:=h a (List.mem_cons_self ..)
  have ih:=Tx r fun x hx=>h x (oH _ hx)
  simp only [num,mask,List.length_cons];omega
theorem adA {l:List Nat} (hl:l.length=8) (h:∀ a∈l,a%16≤4∧a / 16≤4):s3 (num l:Int)=(num (l.map p3):Int):=by
 have h1:=n3 l h;have hb:=Tx l h;rw [hl] at h1 hb
 have hm:mask 15 8=1085102592571150095:=by decide
 have hm1:mask 1 8=72340172838076673:=by decide
 rw [hm] at h1;rw [hm1] at hb;unfold s3;have d:=fd (num l) 16;simp only [Int.cast_ofNat_Int] at d
 have e:IntKind.wrap .u64 (((num l / 16:Nat):Int)+(num l:Int))=((num l / 16+num l:Nat):Int):=wun (by omega) (by omega)
 have a1:=xL (x:=num l / 16+num l) (y:=1085102592571150095) (by omega) (by decide)
 simp only [Int.cast_ofNat_Int] at a1;rw [d,e,a1,h1]
theorem pF {a:Nat} {r:List Nat} (h:a<256):num (a::r) / 256=num r:=by
 simp only [num];omega
theorem BN (l:List Nat) (hl:l.length=8) (h:∀ a∈l,a<256):num l<2 ^ 64:=by
 have:=xR l h;rw [hl] at this
 have e:(256:Nat) ^ 8=2 ^ 64:=by decide
 rw [e] at this;exact this
theorem MB {P:Nat→Prop} {a b c d e f g h:Nat} (ha:P a) (hb:P b) (hc:P c) (hd:P d) (he:P e) (hf:P f) (hg:P g) (hh:P h):∀ x∈[a,b,c,d,e,f,g,h],P x:=by
 intro x hx;simp only [List.mem_cons,List.not_mem_nil,or_false] at hx
 rcases hx with rfl | rfl | rfl | rfl | rfl | rfl | rfl | rfl<;>assumption
theorem BO (A d B:Nat) (h:A+A / d=B) (hB:B<2 ^ 64):IntKind.wrap .u64 ((A:Int)+Int.fdiv (A:Int) (d:Int))=(B:Int):=by
 rw [fd A d]
 exact wun (by omega) hB
theorem adB {a b c d e f g h:Nat} (ha:a≤60) (hb:b≤60) (hc:c≤60) (hd:d≤60) (he:e≤60) (hf:f≤60) (hg:g≤60) (hh:h≤60) :
 s4 (num [a,b,c,d,e,f,g,h]:Int)=(num [a+b,b+c,c+d,d+e,e+f,f+g,g+h,h]:Int):=by
 refine BO _ 256 _ ?_ (BN _ rfl (MB (P:=fun x=>x<256) (by omega) (by omega) (by omega) (by omega) (by omega) (by omega) (by omega) (by omega)))
 rw [pF (by omega)]
 simp only [num];omega
theorem adC {a b c d e f g h:Nat} (ha:a≤60) (hb:b≤60) (hc:c≤60) (hd:d≤60) (he:e≤60) (hf:f≤60) (hg:g≤60) (hh:h≤60) :
 s5 (num [a,b,c,d,e,f,g,h]:Int)=(num [a+c,b+d,c+e,d+f,e+g,f+h,g,h]:Int):=by
 refine BO _ 65536 _ ?_ (BN _ rfl (MB (P:=fun x=>x<256) (by omega) (by omega) (by omega) (by omega) (by omega) (by omega) (by omega) (by omega)))
 rw [show (65536:Nat)=256*256 from rfl,←Nat.div_div_eq_div_mul,pF (by omega),pF (by omega)]
 simp only [num];omega
theorem adD {a b c d e f g h:Nat} (ha:a≤60) (hb:b≤60) (hc:c≤60) (hd:d≤60) (he:e≤60) (hf:f≤60) (hg:g≤60) (hh:h≤60) :
 s6 (num [a,b,c,d,e,f,g,h]:Int)=(num [a+e,b+f,c+g,d+h,e,f,g,h]:Int):=by
 refine BO _ 4294967296 _ ?_ (BN _ rfl (MB (P:=fun x=>x<256) (by omega) (by omega) (by omega) (by omega) (by omega) (by omega) (by omega) (by omega)))
 rw [show (4294967296:Nat)=256*256*256*256 from rfl,←Nat.div_div_eq_div_mul,←Nat.div_div_eq_div_mul,←Nat.div_div_eq_div_mul,pF (by omega),pF (by omega),pF (by omega),pF (by omega)]
 simp only [num];omega
theorem adE {a h:Nat} {r:List Nat} (ha:a<128) (hl:num (a::r)<2 ^ 63):s7 (num (a::r):Int)=(a:Int):=by
 have hm:num (a::r)%128=a:=by simp only [num];omega
 generalize num (a::r)=F at hl hm;unfold s7
 have w1:IntKind.wrap .i64 (F:Int)=(F:Int):=fU (by omega) (by omega)
 have a1:(BitVec.and (BitVec.ofInt 64 (F:Int)) (BitVec.ofInt 64 127)).toNat=F &&& 127:=by
  rw [bvand (by omega) (by omega) (by omega) (by omega)]
  rfl
 have a2:F &&& 127=F%128:=by rw [show (127:Nat)=2 ^ 7 - 1 from rfl,Nat.and_two_pow_sub_one_eq_mod]
 rw [w1,a1,a2,ofN,hm,fU (by omega) (by omega)]
theorem MC:∀ (l:List Nat),(∀ a∈l,a≤127)→num l≤127*mask 1 l.length
 | [],_=>by simp [num]
 | a::r,h=>by
  have h1:=h a (List.mem_cons_self ..)
  have ih:=MC r fun x hx=>h x (oH _ hx)
  simp only [num,mask,List.length_cons];omega
theorem akv {c0 c1 c2 c3 c4 c5 c6 c7:Nat} (h0:c0≤8) (h1:c1≤8) (h2:c2≤8) (h3:c3≤8) (h4:c4≤8) (h5:c5≤8) (h6:c6≤8) (h7:c7≤8) :
 s7 (s6 (s5 (s4 (num [c0,c1,c2,c3,c4,c5,c6,c7]:Int))))=((c0+c1+(c2+c3)+(c4+c5+(c6+c7)):Nat):Int):=by
 rw [adB (by omega) (by omega) (by omega) (by omega) (by omega) (by omega) (by omega) (by omega),adC (by omega) (by omega) (by omega) (by omega) (by omega) (by omega) (by omega) (by omega),
  adD (by omega) (by omega) (by omega) (by omega) (by omega) (by omega) (by omega) (by omega)]
 refine adE (h:=0) (by omega) ?_
 have:=MC _ (MB (P:=fun x=>x≤127) (a:=c0+c1+(c2+c3)+(c4+c5+(c6+c7))) (b:=c1+c2+(c3+c4)+(c5+c6+c7)) (c:=c2+c3+(c4+c5)+(c6+c7)) (d:=c3+c4+(c5+c6)+c7) (e:=c4+c5+(c6+c7)) (f:=c5+c6+c7) (g:=c6+c7) (h:=c7) (by omega) (by omega) (by omega) (by omega) (by omega) (by omega) (by omega) (by omega))
 have hm:mask 1 8=72340172838076673:=by decide
 have hm':127*mask 1 8<2 ^ 63:=by rw [hm];decide
 exact Nat.lt_of_le_of_lt this hm'
theorem adF (a0:Int) (r0:IntKind.u64.has a0):g43 a0=some (ah.count a0,()):=by
 have hb:=uh r0;obtain ⟨n,rfl,hn⟩:=Fq hb;rw [OE]
 have e:(n:Int)=(num (OD n):Int):=by rw [Mx hn]
 have hlt:=adv (x:=n);have hl:(OD n).length=8:=rfl
 have m1:∀ a∈(OD n).map p1,a<256:=fun a ha=>by
  obtain ⟨x,hx,rfl⟩:=List.mem_map.1 ha;exact f1r ⟨x,hlt x hx⟩
 have m2:∀ a∈((OD n).map p1).map p2,a%16≤4∧a / 16≤4:=fun a ha=>by
  obtain ⟨x,hx,rfl⟩:=List.mem_map.1 ha;obtain ⟨y,hy,rfl⟩:=List.mem_map.1 hx;exact f2r ⟨y,hlt y hy⟩
 have m2':∀ a∈(OD n).map p1,p2 a<256:=fun a ha=>by
  have:=m2 (p2 a) (List.mem_map.2 ⟨a,ha,rfl⟩);omega
 have hc:count (n:Int)=((((OD n).map fun a=>p3 (p2 (p1 a))).sum:Nat):Int):=by
  have:=Tw (OD n) hlt;rw [Mx hn,hl] at this;rw [←this];unfold count;rw [mE];rfl
 rw [hc]
 conv=>lhs;rw [e]
 rw [adx hl hlt,adz (by simp [hl]) m1 m2',adA (by simp [hl]) m2,List.map_map,List.map_map]
 have hp:∀ x,x<256→p3 (p2 (p1 x))≤8:=by
  have:∀ x:Fin 256,p3 (p2 (p1 x.val))≤8:=by decide +kernel
  exact fun x hx=>this ⟨x,hx⟩
 have es:num ((OD n).map (p3∘p2∘p1))=num [p3 (p2 (p1 (n%256))),p3 (p2 (p1 (n / 256%256))),p3 (p2 (p1 (n / 65536%256))),p3 (p2 (p1 (n / 16777216%256))),p3 (p2 (p1 (n / 4294967296%256))),p3 (p2 (p1 (n / 1099511627776%256))),p3 (p2 (p1 (n / 281474976710656%256))),p3 (p2 (p1 (n / 72057594037927936%256)))]:=rfl;have ef:(p3∘p2)∘p1=p3∘p2∘p1:=rfl
 have sH:∀ x:Nat,x%256<256:=fun x=>Nat.mod_lt _ (by decide)
 first
  | rw [es,akv (hp _ (sH _)) (hp _ (sH _)) (hp _ (sH _)) (hp _ (sH _)) (hp _ (sH _)) (hp _ (sH _)) (hp _ (sH _)) (hp _ (sH _))]
  | rw [ef,es,akv (hp _ (sH _)) (hp _ (sH _)) (hp _ (sH _)) (hp _ (sH _)) (hp _ (sH _)) (hp _ (sH _)) (hp _ (sH _)) (hp _ (sH _))]
 congr 3
 simp only [OD,List.map_cons,List.map_nil,List.sum_cons,List.sum_nil];omega
end
section
open ah.Bt
variable {t:Tb} {p:Pk}
theorem Iq (h:qQ t p) (hU:U (bt p)):∀ m (s:Int×Int×Int×List Cp),Inv t p s→(ones s.1).length≤m→Inv t p (yL t p m s)∧(yL t p m s).1=0
 | 0,s,hI,hm=>⟨hI,BK hI.ul (Nat.le_zero.1 hm)⟩
 | m+1,s,hI,hm=>by
  unfold yL
  by_cases h0:s.1=0
  ·rw [dT h0];exact ⟨hI,h0⟩
  ·rw [dF h0]
   obtain ⟨i1,i2,i3⟩:=Ml h hI hU h0
   exact Iq h hU m _ i1 (by omega)
theorem YE (h:qQ t p) (hU:U (bt p)):Inv t p (0,(sF t p).1,(sF t p).2.1,(sF t p).2.2.1):=by
 obtain ⟨h1,h2⟩:=Iq h hU 64 (bt p,0,0,[]) (Ij hU) (mD _);have e:(yL t p 64 (bt p,0,0,[]))=(0,(sF t p).1,(sF t p).2.1,(sF t p).2.2.1):=Prod.ext h2 rfl;rw [e] at h1;exact h1
end
section
open ah.Bt
structure Done (t:Tb) (p:Pk) (o:Oc):Prop where
 uo:U o.1
 us:U o.2.1
 loc:∀ i,i<64→tb o.1 i=(tb (bt p) i&&decide (hp t p i=t.1))
 lost:∀ i,i<64→tb o.2.1 i=(tb (bt p) i&&(decide (hp t p i=0) || (decide (ah.tl p=0) && !decide (hp t p i=t.1))))
 cps:∀ c∈o.2.2.1,∃ g,c=(c.1,([],pkB p g,()),())∧U g∧g≠0∧c.1≠0∧c.1≠t.1∧∀ i,i<64→tb g i=(tb (bt p) i&&decide (hp t p i=c.1))
 all:ah.tl p≠0→∀ i,i<64→tb (bt p) i=true→hp t p i≠0→hp t p i≠t.1→∃ c∈o.2.2.1,c.1=hp t p i
 nd:(o.2.2.1.map fun c=>c.1).Nodup
 tt:o.2.2.1≠[]→ah.tl p≠0
end
theorem OG (r:Int) (o:Oc) (p:Pk):(uf r o p).length≤64:=by
 unfold uf;rw [List.length_map];have:=mE o.1;have:=mD o.1;omega
theorem jG {τ σ ε:Type} {step:τ→Option (Sum τ ε)} (enc:Nat→σ→τ) (n:Nat) (J:Nat→σ→Prop) (Q:ε→Prop)
 (h:∀ k s,k<n→J k s→(∃ e,step (enc k s)=some (.inr e)∧Q e)∨∃ s',step (enc k s)=some (.inl (enc (k+1) s'))∧J (k+1) s')
 (he:∀ s,J n s→∃ e,step (enc n s)=some (.inr e)∧Q e) (s:σ) (h0:J 0 s):∃ e,Loop step (enc 0 s)=some e∧Q e:=by
 have key:∀ j k s,k+j=n→J k s→∃ e,Loop step (enc k s)=some e∧Q e:=by
  intro j
  induction j with
  | zero=>
   intro k s hk hJ
   have:k=n:=by omega
   subst this;obtain ⟨e,h1,h2⟩:=he s hJ
   exact ⟨e,by rw [aT,h1],h2⟩
  | succ j ih=>
   intro k s hk hJ
   rcases h k s (by omega) hJ with ⟨e,h1,h2⟩ | ⟨s',h1,h2⟩
   ·exact ⟨e,by rw [aT,h1],h2⟩
   ·obtain ⟨e,h3,h4⟩:=ih (k+1) s' (by omega) h2
    exact ⟨e,by rw [aT,h1];exact h3,h4⟩
 exact key n 0 s (by omega) h0
theorem BX {k n:Nat} (h:k<n):decide ((k:Int)<Int.ofNat n)=true:=by rw [bK];exact fB (by omega)
theorem O5 {n:Nat}:decide ((n:Int)<Int.ofNat n)=false:=by rw [bK];exact jM (by omega)
theorem DC (k:Nat):decide ((0:Int)≤(k:Int))=true:=fB (by omega)
theorem ME (g:To) (r:Int) (hn:g.1.length≤100000):∃ i:Nat,HV g r=some ((i:Int),())∧(0<g.1.length→i<g.1.length):=by
 obtain ⟨e,h1,h2⟩:=jG (step:=vN g.1 r) (fun k (_:Unit)=>((k:Int),())) g.1.length (fun _ _=>True) (fun e=>e.1=true→∃ i:Nat,e.2.1=((i:Int),())∧i<g.1.length)
  (fun k s hk _=>by
   unfold vN;simp only
   rw [BX hk,DC,aG (by omega)]
   simp only [Bool.and_self,aQ]
   cases decide ((g.1.getD (Int.toNat (k:Int)) zR).1=r) with
   | true=>exact .inl ⟨_,rfl,fun _=>⟨k,rfl,hk⟩⟩
   | false=>exact .inr ⟨(),rfl,trivial⟩)
  (fun s _=>by
   unfold vN;simp only;rw [O5]
   exact ⟨_,rfl,fun h=>(by cases h)⟩) () trivial
 unfold HV ahA;have h1:Loop (vN g.1 r) ((0:Int),())=some e:=h1;rw [h1];simp only [gL]
 cases he:e.1 with
 | true=>
  obtain ⟨i,h3,h4⟩:=h2 he
  exact ⟨i,by rw [h3];rfl,fun _=>h4⟩
 | false=>exact ⟨0,rfl,fun h=>h⟩
theorem MF (g:To) (d:List Int) (r:Int) (hn:g.1.length≤100000) (hd:d.length=g.1.length):∃ v,yM g d r=some (v,()):=by
 obtain ⟨e,h1,-⟩:=jG (step:=vS g.1 d r) (fun k (_:Unit)=>((k:Int),())) g.1.length (fun _ _=>True) (fun _=>True)
  (fun k s hk _=>by
   unfold vS;simp only
   rw [BX hk,DC,aG (by omega),BX (show k<d.length by omega)]
   simp only [Bool.and_self,aQ]
   cases decide ((g.1.getD (Int.toNat (k:Int)) zR).1=r) with
   | true=>exact .inl ⟨_,rfl,trivial⟩
   | false=>exact .inr ⟨(),rfl,trivial⟩)
  (fun s _=>by
   unfold vS;simp only;rw [O5]
   exact ⟨_,rfl,trivial⟩) () trivial
 unfold yM ahD;have h1:Loop (vS g.1 d r) ((0:Int),())=some e:=h1;rw [h1];simp only [gL]
 cases e.1 with
 | true=>exact ⟨_,rfl⟩
 | false=>exact ⟨_,rfl⟩
theorem YF (l:List Int) (x:Int) (hl:l.length≤100000):∃ l',x107 l x=some (l',())∧l'.length≤l.length+1:=by
 obtain ⟨e,h1,i,hi,hil⟩:=jG (step:=vO l x) (fun k (_:Unit)=>((k:Int),())) l.length (fun _ _=>True) (fun e=>∃ i:Nat,e=((i:Int),())∧i≤l.length)
  (fun k s hk _=>by
   unfold vO;simp only
   rw [BX hk,DC,aG (by omega)]
   simp only [Bool.and_self,aQ,gL]
   cases decide (l.getD (Int.toNat (k:Int)) 0<x) with
   | true=>exact .inr ⟨(),rfl,trivial⟩
   | false=>exact .inl ⟨_,rfl,k,rfl,by omega⟩)
  (fun s _=>by
   unfold vO;simp only;rw [O5]
   exact ⟨_,rfl,l.length,rfl,dQ _⟩) () trivial
 subst hi;unfold x107 ahB;have h1:Loop (vO l x) ((0:Int),())=some ((i:Int),()):=h1;rw [h1];simp only [gL]
 have big:∀ n:Nat,n≤1000000→Nat.ble (n*8) 140737488355328=true:=fun n h=>iy (by omega)
 have tail:∃ l',(bif (true&&decide ((0:Int)≤(i:Int)))&&decide ((i:Int)≤Int.ofNat l.length) then
  (bif Nat.ble ((0+(List.drop 0 (List.take (Int.toNat (i:Int)) l)).length)*8) 140737488355328 then
   (bif Nat.ble ((([]++List.drop 0 (List.take (Int.toNat (i:Int)) l)).length+1)*8) 140737488355328 then
    (bif (decide ((0:Int)≤(i:Int))&&decide ((i:Int)≤Int.ofNat l.length))&&decide (Int.ofNat l.length≤Int.ofNat l.length) then
     (bif Nat.ble (((([]++List.drop 0 (List.take (Int.toNat (i:Int)) l))++[x]).length+(List.drop (Int.toNat (i:Int)) (List.take (Int.toNat (Int.ofNat l.length)) l)).length)*8) 140737488355328 then
      some ((([]++List.drop 0 (List.take (Int.toNat (i:Int)) l))++[x])++List.drop (Int.toNat (i:Int)) (List.take (Int.toNat (Int.ofNat l.length)) l),()) else none) else none) else none) else none) else none)=some (l',())∧l'.length≤l.length+1:=by
  have e1:decide ((i:Int)≤Int.ofNat l.length)=true:=by rw [bK];exact fB (by omega)
  rw [DC,e1,big _ (by simp;omega),big _ (by simp;omega),big _ (by simp;omega),fB (Int.le_refl (Int.ofNat l.length))]
  refine ⟨_,rfl,?_⟩;simp;omega
 by_cases h:i<l.length
 ·rw [BX h,DC]
  simp only [Bool.and_self,aQ,gL]
  cases decide (l.getD (Int.toNat (i:Int)) 0=x) with
  | true=>exact ⟨l,rfl,by omega⟩
  | false=>exact tail
 ·have:i=l.length:=by omega
  subst this;rw [O5];simp only [bU,gL];exact tail
theorem YG (g:To) (r:Int) (hn:g.1.length≤100000) (hl:g.2.1.length≤100000) (h0:0<g.1.length):∃ d,x105 g r=some (d,())∧d.length=g.1.length:=by
 have s0:∃ e,Loop (vP g.1 r) ((0:Int),(List.replicate (Int.toNat (Int.ofNat g.1.length)) (0:Int),()))=some e∧e.1.length=g.1.length:=by
  refine jG (step:=vP g.1 r) (fun k (d:List Int)=>((k:Int),(d,()))) g.1.length (fun _ d=>d.length=g.1.length) (fun e=>e.1.length=g.1.length) (fun k d hk hd=>?_) (fun d hd=>?_) _ (by simp)
  ·unfold vP
   simp only
   rw [BX (show k<d.length by omega),DC,aG (by omega),BX hk,kg (show Int.toNat (k:Int)<d.length by simp;omega)]
   simp only [Bool.and_self,aQ]
   cases decide ((g.1.getD (Int.toNat (k:Int)) zR).1=r) with
   | false=>exact .inr ⟨d.set (Int.toNat (k:Int)) 1073741824,rfl,by rw [List.length_set];exact hd⟩
   | true=>
    simp only [aQ]
    rw [BX (show k<(d.set (Int.toNat (k:Int)) 1073741824).length by rw [List.length_set];omega),kg (show Int.toNat (k:Int)<(d.set (Int.toNat (k:Int)) 1073741824).length by rw [List.length_set];simp;omega)]
    exact .inr ⟨(d.set (Int.toNat (k:Int)) 1073741824).set (Int.toNat (k:Int)) 0,rfl,by rw [List.length_set,List.length_set];exact hd⟩
  ·unfold vP
   simp only
   rw [show g.1.length=d.length from hd.symm,O5]
   exact ⟨_,rfl,rfl⟩
 have s1:∀ d:List Int,d.length=g.1.length→∃ e,Loop (vQ g.1 g.2.1) (d,((0:Int),()))=some e∧e.1.length=g.1.length:=by
  intro d hd
  refine jG (step:=vQ g.1 g.2.1) (fun k (d:List Int)=>(d,((k:Int),()))) g.2.1.length (fun _ d=>d.length=g.1.length) (fun e=>e.1.length=g.1.length) (fun k d hk hd=>?_) (fun d hd=>?_) d hd
  ·unfold vQ
   simp only;obtain ⟨a,ha,hal⟩:=ME (g.1,g.2.1,()) (g.2.1.getD (Int.toNat (k:Int)) zL).1 hn;obtain ⟨b,hb,hbl⟩:=ME (g.1,g.2.1,()) (g.2.1.getD (Int.toNat (k:Int)) zL).2.1 hn;have hal:a<g.1.length:=hal h0;have hbl:b<g.1.length:=hbl h0
   rw [BX hk,DC,aG (by omega),ha,hb]
   simp only [Bool.and_self,aQ,gL]
   have stp:∀ (d:List Int) (u v:Nat) (c:Int),d.length=g.1.length→u<g.1.length→v<g.1.length→∃ d',(bif decide (d.getD (Int.toNat (v:Int)) 0<1073741824) then
    (bif decide ((0:Int)≤(u:Int))&&decide ((u:Int)<Int.ofNat d.length) then (bif Nat.blt (Int.toNat (u:Int)) d.length then
     (bif decide ((0:Int)≤(v:Int))&&decide ((v:Int)<Int.ofNat d.length) then (bif Nat.blt (Int.toNat (v:Int)) d.length then
      (bif decide ((0:Int)≤(u:Int))&&decide ((u:Int)<Int.ofNat d.length) then (bif Nat.blt (Int.toNat (u:Int)) d.length then
       some (d.set (Int.toNat (u:Int)) (bif decide (IntKind.wrap .i64 (c+d.getD (Int.toNat (v:Int)) 0)<d.getD (Int.toNat (u:Int)) 0) then IntKind.wrap .i64 (c+d.getD (Int.toNat (v:Int)) 0) else d.getD (Int.toNat (u:Int)) 0),())
      else none) else none) else none) else none) else none) else none) else some (d,()))=some (d',())∧d'.length=g.1.length:=by
    intro d u v c hd hu hv
    rw [DC,DC,BX (show u<d.length by omega),BX (show v<d.length by omega),kg (show Int.toNat (u:Int)<d.length by simp;omega),kg (show Int.toNat (v:Int)<d.length by simp;omega)]
    cases decide (d.getD (Int.toNat (v:Int)) 0<1073741824) with
    | true=>exact ⟨_,rfl,by rw [List.length_set];exact hd⟩
    | false=>exact ⟨d,rfl,hd⟩
   obtain ⟨d1,e1,l1⟩:=stp d a b (g.2.1.getD (Int.toNat (k:Int)) zL).2.2.1 hd hal hbl;obtain ⟨d2,e2,l2⟩:=stp d1 b a (g.2.1.getD (Int.toNat (k:Int)) zL).2.2.2.1 l1 hbl hal
   rw [DC b,BX (show b<d.length by omega),kg (show Int.toNat (b:Int)<d.length by simp;omega)]
   rw [DC b,BX (show b<d.length by omega),kg (show Int.toNat (b:Int)<d.length by simp;omega)] at e1
   simp only [Bool.and_self,aQ] at e1 ⊢;rw [e1];simp only [gL]
   rw [DC a,BX (show a<d1.length by omega),kg (show Int.toNat (a:Int)<d1.length by simp;omega)]
   rw [DC b,DC a,BX (show a<d1.length by omega),kg (show Int.toNat (a:Int)<d1.length by simp;omega)] at e2
   simp only [Bool.and_self,aQ] at e2 ⊢;rw [e2];exact .inr ⟨d2,rfl,l2⟩
  ·unfold vQ
   simp only;rw [O5];exact ⟨_,rfl,hd⟩
 obtain ⟨⟨d0,⟨⟩⟩,e0,l0⟩:=s0
 have s2:∃ e,Loop (vR g.1 g.2.1) ((0:Int),(d0,()))=some e∧e.1.length=g.1.length:=by
  refine jG (step:=vR g.1 g.2.1) (fun k (d:List Int)=>((k:Int),(d,()))) g.1.length (fun _ d=>d.length=g.1.length) (fun e=>e.1.length=g.1.length) (fun k d hk hd=>?_) (fun d hd=>?_) d0 l0
  ·unfold vR
   simp only;obtain ⟨⟨d1,⟨⟩⟩,e1,l1⟩:=s1 d hd
   rw [BX (show k<d.length by omega),aG (by omega),e1]
   exact .inr ⟨d1,rfl,l1⟩
  ·unfold vR
   simp only
   rw [show g.1.length=d.length from hd.symm,O5]
   exact ⟨_,rfl,rfl⟩
 obtain ⟨⟨d3,⟨⟩⟩,e3,l3⟩:=s2;refine ⟨d3,?_,l3⟩;unfold x105 ahC
 have gX1:(decide ((0:Int)≤Int.ofNat g.1.length)&&decide (Int.ofNat g.1.length≤Int.ofNat g.1.length)&&decide (Int.ofNat g.1.length*8≤140737488355328))=true:=by
  simp only [bK]
  rw [fB (show (0:Int)≤(g.1.length:Int) by omega),fB (Int.le_refl _),fB (show (g.1.length:Int)*8≤140737488355328 by omega)]
  rfl
 rw [gX1,e0];simp only [aQ,gL];rw [e3];rfl
abbrev ids (g:To):List Int:=g.1.map fun x=>x.1
theorem YH (g:To) (r:Int):(near g r).length≤g.1.length∧∀ x∈near g r,x∈ids g:=by
 unfold near
 refine ⟨by rw [List.length_map];exact List.length_filter_le _ _,fun x hx=>?_⟩
 obtain ⟨y,hy,rfl⟩:=List.mem_map.1 hx;exact List.mem_map.2 ⟨y,(List.mem_filter.1 hy).1,rfl⟩
theorem YI (g:To) (d:List Int) (r:Int) (hn:g.1.length≤100) (hd:d.length=g.1.length):∃ l,HY g d r=some (l,())∧l.length≤g.1.length∧∀ x∈l,x∈ids g:=by
 obtain ⟨x,hx⟩:=MF g d r (by omega) hd
 have hx':yM (g.1,(g.2.1,())) d r=some (x,()):=hx;unfold HY acD;rw [hx'];simp only [gL];obtain ⟨n1,n2⟩:=YH g r
 have tail:∃ l,(Option.bind (bif !decide (x=1073741824) then some (decide (x=0),()) else some (true,())) fun y5=>bif y5.1 then some (([]:List Int),()) else Option.bind (Loop (lF g.1 g.2.1 d r (x,())) ((0:Int),(([]:List Int),(near (g.1,(g.2.1,())) r,())))) fun y6=>some y6)=some (l,())∧l.length≤g.1.length∧∀ x∈l,x∈ids g:=by
  have hL:∃ e,Loop (lF g.1 g.2.1 d r (x,())) ((0:Int),(([]:List Int),(near (g.1,(g.2.1,())) r,())))=some e∧(e.1.length≤g.1.length∧∀ x∈e.1,x∈ids g):=by
   have n1':(near (g.1,(g.2.1,())) r).length≤g.1.length:=n1
   have n2':∀ x∈near (g.1,(g.2.1,())) r,x∈ids g:=n2
   generalize near (g.1,(g.2.1,())) r=nr at n1' n2' ⊢
   refine jG (step:=lF g.1 g.2.1 d r (x,())) (fun k (out:List Int)=>((k:Int),(out,(nr,())))) nr.length (fun k out=>out.length≤k∧∀ x∈out,x∈ids g) (fun e=>e.1.length≤g.1.length∧∀ x∈e.1,x∈ids g) (fun k out hk hJ=>?_) (fun out hJ=>?_) [] ⟨dQ _,fun x hx=>(by cases hx)⟩
   ·obtain ⟨v,hv⟩:=MF g d (nr.getD (Int.toNat (k:Int)) 0) (by omega) hd
    have hv':yM (g.1,(g.2.1,())) d (nr.getD (Int.toNat (k:Int)) 0)=some (v,()):=hv;unfold lF;simp only
    rw [BX hk,DC,aG (by omega),kg (show Int.toNat (k:Int)<nr.length by simp;omega),hv']
    simp only [Bool.and_self,aQ,gL]
    have fin:∀ q:Bool,∃ s',(Option.bind (some (nr,(q,()))) fun (y6:List Int×(Bool×Unit))=>Option.bind (bif y6.2.1 then (bif decide ((0:Int)≤(k:Int))&&decide ((k:Int)<Int.ofNat y6.1.length) then (bif Nat.blt (Int.toNat (k:Int)) y6.1.length then (bif Nat.ble ((out.length+1)*8) 140737488355328 then some (out++[y6.1.getD (Int.toNat (k:Int)) 0],(y6.1,())) else none) else none) else none) else some (out,(y6.1,()))) fun y7=>some (Sum.inl (((k+1:Nat):Int),y7)))=(some (.inl (((k+1:Nat):Int),(s',(nr,())))):Option (Sum (Int×(List Int×(List Int×Unit))) (List Int×Unit)))∧(s'.length≤k+1∧∀ x∈s',x∈ids g):=by
     intro q;simp only [gL]
     rw [BX hk,DC,kg (show Int.toNat (k:Int)<nr.length by simp;omega),iy (show (out.length+1)*8≤140737488355328 by omega)]
     cases q with
     | false=>exact ⟨out,rfl,by omega,hJ.2⟩
     | true=>
      refine ⟨_,rfl,by simp;omega,fun y hy=>?_⟩
      rcases List.mem_append.1 hy with hy | hy
      ·exact hJ.2 y hy
      ·rw [List.mem_singleton.1 hy]
       exact n2' _ (kX (by simp;omega))
    right
    cases hc:decide (v<1073741824) with
    | true=>
     simp only [aQ,gL];exact fin _
    | false=>
     simp only [bU,Bool.not_false,aQ];exact fin false
   ·unfold lF
    simp only;rw [O5]
    exact ⟨_,rfl,by show out.length≤_;omega,hJ.2⟩
  obtain ⟨e,h1,h2,h3⟩:=hL;rw [h1]
  by_cases c1:x=1073741824
  ·rw [dT c1];exact ⟨[],rfl,fG _,fun x hx=>(by cases hx)⟩
  ·rw [dF c1]
   simp only [Bool.not_false,aQ,gL]
   cases decide (x=0) with
   | true=>exact ⟨[],rfl,fG _,fun x hx=>(by cases hx)⟩
   | false=>exact ⟨e.1,rfl,h2,h3⟩
 exact tail
theorem YJ (g:To) (a b:Int) (hn:g.1.length≤100) (hl:g.2.1.length≤1000):∃ l,x102 g a b=some (l,())∧l.length≤11000:=by
 have main:Bj g b=true→∃ l,(Option.bind (x105 (g.1,(g.2.1,())) b) fun y5=>Option.bind (Loop (vU g.1 g.2.1 y5) ((0:Int),(([]:List Int),([a],())))) fun y6=>some y6)=some (l,())∧l.length≤11000:=by
  intro hb
  have h0:0<g.1.length:=by
   unfold Bj ah.ni at hb;rw [bP,List.any_eq_true] at hb;obtain ⟨-,y,hy,-⟩:=hb;exact List.length_pos_iff.2 (List.ne_nil_of_mem hy)
  obtain ⟨d,hd,hdl⟩:=YG g b (by omega) (by omega) h0
  have hd':x105 (g.1,(g.2.1,())) b=some (d,()):=hd;rw [hd'];simp only [gL]
  have cap:∀ seen:List Int,seen.Nodup→(∀ x∈seen,x∈a::ids g)→seen.length≤101:=fun seen h1 h2=>by
   have:=h1.length_le_of_subset (l₂:=a::ids g) h2;simp at this;omega
  have inner:∀ (nr:List Int) (yG Kl:List Int),nr.length≤g.1.length→(∀ x∈nr,x∈ids g)→yG.Nodup→(∀ x∈yG,x∈a::ids g)→Kl.length≤20000 →
   ∃ e,Loop (vT g.1 g.2.1 (nr,())) (yG,(Kl,((0:Int),())))=some e∧(e.1.Nodup∧(∀ x∈e.1,x∈a::ids g)∧yG.length≤e.1.length∧e.2.1.length≤Kl.length+nr.length):=by
   intro nr yG Kl m1 m2 m3 m4 m5
   refine jG (step:=vT g.1 g.2.1 (nr,())) (fun k (s:List Int×List Int)=>(s.1,(s.2,((k:Int),())))) nr.length (fun k s=>s.1.Nodup∧(∀ x∈s.1,x∈a::ids g)∧yG.length≤s.1.length∧s.2.length≤Kl.length+k)
    (fun e=>e.1.Nodup∧(∀ x∈e.1,x∈a::ids g)∧yG.length≤e.1.length∧e.2.1.length≤Kl.length+nr.length) (fun k s hk hJ=>?_) (fun s hJ=>?_) (yG,Kl) ⟨m3,m4,dQ _,dQ _⟩
   ·obtain ⟨j1,j2,j3,j4⟩:=hJ
    have hc:=cap s.1 j1 j2;unfold vT;simp only
    rw [BX hk,DC,aG (by omega)]
    simp only [Bool.and_self,aQ]
    cases Ey (g.1,(g.2.1,())) (nr.getD (Int.toNat (k:Int)) 0) with
    | true=>
     obtain ⟨o,e1,e2⟩:=YF s.2 (nr.getD (Int.toNat (k:Int)) 0) (by omega)
     simp only [aQ];rw [e1]
     exact .inr ⟨(s.1,o),rfl,j1,j2,j3,by show o.length≤_;omega⟩
    | false=>
     simp only [bU]
     rw [iy (show (s.1.length+1)*8≤140737488355328 by omega)]
     cases hh:ah.has s.1 (nr.getD (Int.toNat (k:Int)) 0) with
     | true=>exact .inr ⟨s,rfl,j1,j2,j3,by omega⟩
     | false=>
      refine .inr ⟨(s.1++[nr.getD (Int.toNat (k:Int)) 0],s.2),rfl,?_,fun x hx=>?_,by simp;omega,by show s.2.length≤_;omega⟩
      ·refine List.nodup_append.2 ⟨j1,by simp,fun u hu v hv=>?_⟩
       rw [List.mem_singleton.1 hv];intro huv;unfold ah.has at hh;rw [List.any_eq_false] at hh;have:=hh u hu;simp [huv] at this
      ·rcases List.mem_append.1 hx with hx | hx
       ·exact j2 x hx
       ·rw [List.mem_singleton.1 hx]
        exact oH _ (m2 _ (kX (by simp;omega)))
   ·obtain ⟨j1,j2,j3,j4⟩:=hJ
    unfold vT;simp only;rw [O5];exact ⟨_,rfl,j1,j2,j3,j4⟩
  have outer:∃ e,Loop (vU g.1 g.2.1 (d,())) ((0:Int),(([]:List Int),([a],())))=some e∧e.1.length≤11000:=by
   refine NP (step:=vU g.1 g.2.1 (d,())) (fun v=>∃ (i:Nat) (seen out:List Int),v=((i:Int),(out,(seen,())))∧i≤seen.length∧seen.Nodup∧(∀ x∈seen,x∈a::ids g)∧out.length≤i*100) (fun v=>102 - v.1.toNat) (fun e=>e.1.length≤11000) (fun v hv=>?_) ⟨0,[a],[],rfl,by simp,by simp,by simp,by simp⟩
   obtain ⟨i,seen,out,rfl,h1,h2,h3,h4⟩:=hv;have hc:=cap seen h2 h3;unfold vU;simp only
   by_cases hlt:i<seen.length
   ·rw [BX hlt,DC,aG (by omega),kg (show Int.toNat (i:Int)<seen.length by simp;omega)]
    obtain ⟨nr,e1,e2,e3⟩:=YI g d (seen.getD (Int.toNat (i:Int)) 0) hn hdl;have e1':HY (g.1,(g.2.1,())) d (seen.getD (Int.toNat (i:Int)) 0)=some (nr,()):=e1;rw [e1'];simp only [Bool.and_self,aQ,gL]
    obtain ⟨e,f1,f2,fX3,fX4,fX5⟩:=inner nr seen out e2 e3 h2 h3 (by omega)
    rw [f1]
    refine .inr ⟨_,rfl,⟨i+1,e.1,e.2.1,rfl,by omega,f2,fX3,by omega⟩,?_⟩
    show 102 - Int.toNat ((i+1:Nat):Int)<102 - Int.toNat (i:Int);simp only [dG];omega
   ·have:i=seen.length:=by omega
    subst this;rw [O5]
    exact .inl ⟨_,rfl,by show out.length≤11000;omega⟩
  obtain ⟨e,gX1,gX2⟩:=outer;rw [gX1];exact ⟨e.1,rfl,gX2⟩
 unfold x102 ahE
 cases ha:Bj (g.1,(g.2.1,())) a with
 | false=>exact ⟨[],rfl,by simp⟩
 | true=>
  cases hb:Bj (g.1,(g.2.1,())) b with
  | false=>exact ⟨[],rfl,by simp⟩
  | true=>
   simp only [Bool.not_true,Bool.not_false,aQ,gL]
   cases decide (a=b) with
   | true=>exact ⟨[],rfl,by simp⟩
   | false=>exact main hb
def uy (t:Tb):Prop:=t.2.2.2.1.length≤1000∧∀ x∈t.2.2.2.1,x.2.1.length≤11000
theorem adG (g:To) (p:Pn) (r:Int) (hn:g.1.length≤100) (hl:g.2.1.length≤1000) (he:p.2.2.1.length≤1000):∃ t,x87 g p r=some (t,())∧uy t:=by
 have hL:∃ e,Loop (Bo g.1 g.2.1 p.2.2.1 r) ((r,(p.1,(p.2.1,(([]:List Rw),())))),((0:Int),()))=some e∧uy e.1:=by
  refine jG (step:=Bo g.1 g.2.1 p.2.2.1 r) (fun k (rows:List Rw)=>((r,(p.1,(p.2.1,(rows,())))),((k:Int),()))) p.2.2.1.length (fun k rows=>rows.length≤k∧∀ x∈rows,x.2.1.length≤11000) (fun e=>uy e.1) (fun k rows hk hJ=>?_) (fun rows hJ=>?_) [] ⟨dQ _,fun x hx=>(by cases hx)⟩
  ·unfold Bo
   simp only
   rw [BX hk,DC,aG (by omega),iy (show (rows.length+1)*32≤140737488355328 by omega)]
   simp only [Bool.and_self,aQ]
   have fin:∀ row:Rw,row.2.1.length≤11000→(rows++[row]).length≤k+1∧∀ x∈rows++[row],x.2.1.length≤11000:=fun row hr=>⟨by simp;omega,fun x hx=>by
    rcases List.mem_append.1 hx with hx | hx
    ·exact hJ.2 x hx
    ·rw [List.mem_singleton.1 hx];exact hr⟩
   right
   cases decide ((p.2.2.1.getD (Int.toNat (k:Int)) zE).1=r) with
   | true=>exact ⟨rows++[((p.2.2.1.getD (Int.toNat (k:Int)) zE).2.1,[r],())],rfl,fin _ (by simp)⟩
   | false=>
    simp only [bU]
    cases Ey (g.1,(g.2.1,())) (p.2.2.1.getD (Int.toNat (k:Int)) zE).1 with
    | false=>exact ⟨rows++[((p.2.2.1.getD (Int.toNat (k:Int)) zE).2.1,[],())],rfl,fin _ (by simp)⟩
    | true=>
     simp only [aQ];obtain ⟨l,h1,h2⟩:=YJ g r (p.2.2.1.getD (Int.toNat (k:Int)) zE).1 hn hl;have h1':x102 (g.1,(g.2.1,())) r (p.2.2.1.getD (Int.toNat (k:Int)) zE).1=some (l,()):=h1;rw [h1'];exact ⟨rows++[((p.2.2.1.getD (Int.toNat (k:Int)) zE).2.1,l,())],rfl,fin _ h2⟩
  ·unfold Bo
   simp only;rw [O5]
   exact ⟨_,rfl,by show rows.length≤1000;omega,hJ.2⟩
 obtain ⟨e,h1,h2⟩:=hL;unfold x87 r87;rw [h1];exact ⟨e.1,rfl,h2⟩
theorem Tz {g:To} (h:xD g=0):g.1.length≤24∧g.2.1.length≤60:=by
 unfold xD at h
 by_cases h1:24<g.1.length
 ·rw [dT h1] at h;exact absurd h (by simp)
 ·by_cases h2:60<g.2.1.length
  ·rw [dF h1,dT h2] at h;exact absurd h (by simp)
  ·omega
theorem Km {p:Pn} (h:dZ p=true):p.2.2.1.length≤24:=by
 unfold dZ at h;simp only [bP,jH] at h;exact h.1.1.1.2
theorem adH (g:To) (p:Pn):∃ l c,x57 g p=some ((l,c,()),())∧l.length≤100∧∀ t∈l,uy t:=by
 unfold x57 r57
 by_cases hg:xD (g.1,(g.2.1,()))=0
 ·cases hp:dZ (p.1,(p.2.1,(p.2.2.1,()))) with
  | false=>
   rw [dT hg]
   exact ⟨[],1,rfl,by simp,fun t ht=>(by cases ht)⟩
  | true=>
   rw [dT hg];simp only [Bool.not_true,Bool.not_false,aQ,bU,gL];obtain ⟨hn,hl⟩:=Tz hg;have he:=Km hp;have hn:g.1.length≤24:=hn;have hl:g.2.1.length≤60:=hl;have he:p.2.2.1.length≤24:=he
   have hL:∃ e,Loop (Bp g.1 g.2.1 p.1 p.2.1 p.2.2.1) (([]:List Tb),((0:Int),()))=some e∧(e.1.length≤100∧∀ t∈e.1,uy t):=by
    refine jG (step:=Bp g.1 g.2.1 p.1 p.2.1 p.2.2.1) (fun k (l:List Tb)=>(l,((k:Int),()))) g.1.length (fun k l=>l.length≤k∧∀ t∈l,uy t) (fun e=>e.1.length≤100∧∀ t∈e.1,uy t) (fun k l hk hJ=>?_) (fun l hJ=>?_) [] ⟨dQ _,fun x hx=>(by cases hx)⟩
    ·unfold Bp
     simp only
     rw [BX hk,DC,aG (by omega),iy (show (l.length+1)*48≤140737488355328 by omega)]
     simp only [Bool.and_self,aQ]
     right
     cases (g.1.getD (Int.toNat (k:Int)) zR).2.1 with
     | false=>exact ⟨l,rfl,by omega,hJ.2⟩
     | true=>
      simp only [aQ]
      obtain ⟨t,h1,h2⟩:=adG g p (g.1.getD (Int.toNat (k:Int)) zR).1 (by omega) (by omega) (by omega)
      have h1':x87 (g.1,(g.2.1,())) (p.1,(p.2.1,(p.2.2.1,()))) (g.1.getD (Int.toNat (k:Int)) zR).1=some (t,()):=h1;rw [h1']
      refine ⟨l++[t],rfl,by simp;omega,fun x hx=>?_⟩
      rcases List.mem_append.1 hx with hx | hx
      ·exact hJ.2 x hx
      ·rw [List.mem_singleton.1 hx];exact h2
    ·unfold Bp
     simp only;rw [O5]
     exact ⟨_,rfl,by show l.length≤100;omega,hJ.2⟩
   obtain ⟨e,h1,h2,h3⟩:=hL;rw [h1];exact ⟨e.1,0,rfl,h2,h3⟩
 ·rw [dF hg]
  exact ⟨[],1,rfl,by simp,fun t ht=>(by cases ht)⟩
theorem YK (a0:List ah.Rt) (a1:List ah.Lk) (a2:Int):akf a0 a1 a2=some (ah.Bj (a0,a1,()) a2,()):=by
 unfold akf Bj okT
 cases decide (xD (a0,a1,())=0)<;>rfl
theorem YL (a0:List ah.Rt) (a1:List ah.Lk) (a2 a3:Int) (r1:(Ty.sl (lkT)).ok a1):ajG a0 a1 a2 a3=some (ah.price a1 a2 a3,()):=by
 have hl:=S9 r1
 have h:=um (zl a1 a2 a3) a1 (0,0,0,0,0,()) (fun l=>bif decide (l.1=a2)&&decide (l.2.1=a3) then some (true,(l.2.2.1,())) else bif decide (l.2.1=a2)&&decide (l.1=a3) then some (true,(l.2.2.2.1,())) else none) (false,(0,())) (fun i hi=>by
  unfold zl;simp only [bK,dG]
  rw [fB (show (i:Int)<(a1.length:Int) by omega),fB (show (0:Int)≤(i:Int) by omega),fU (n:=(i:Int)+1) (by omega) (by omega)]
  cases decide ((a1.getD i (0,0,0,0,0,())).1=a2)<;>cases decide ((a1.getD i (0,0,0,0,0,())).2.1=a3)<;>cases decide ((a1.getD i (0,0,0,0,0,())).2.1=a2)<;>cases decide ((a1.getD i (0,0,0,0,0,())).1=a3)<;>rfl) (by
  unfold zl;simp only [bK]
  rw [jM (show ¬ (a1.length:Int)<(a1.length:Int) by omega)]
  rfl)
 unfold ajG;rw [h];clear h r1 hl
 induction a1 with
 | nil=>rfl
 | cons x r ih=>
  rw [List.findSome?_cons];unfold price
  cases h1:(decide (x.1=a2)&&decide (x.2.1=a3)) with
  | true=>rfl
  | false=>
   cases h2:(decide (x.2.1=a2)&&decide (x.1=a3)) with
   | true=>rfl
   | false=>exact ih
theorem YM (a0:List ah.Rt) (a1:List ah.Lk) (a2:Int) (r0:(Ty.sl (rtT)).ok a0):aj0 a0 a1 a2=some (ah.near (a0,a1,()) a2,()):=by
 have hl:=Fu r0
 have key:∀ j k,k+j=a0.length→∀ acc:List Int,acc.length≤k→Loop (rU a0 a1 a2) (acc,(k:Int),())=some (acc++((a0.drop k).filter (fun x=>(price a1 a2 x.1).2.1)).map (fun x=>x.1),()):=by
  intro j
  induction j with
  | zero=>
   intro k hk acc _
   have hk:k=a0.length:=by omega
   subst hk;rw [aT];unfold rU;simp only [bK]
   rw [jM (show ¬ (a0.length:Int)<(a0.length:Int) by omega),List.drop_length]
   simp
  | succ j ih=>
   intro k hk acc hacc
   have hlt:k<a0.length:=by omega
   have e2:IntKind.wrap .i64 ((k:Int)+1)=((k+1:Nat):Int):=by rw [fU (by omega) (by omega)];omega
   rw [aT,List.drop_eq_getElem_cons hlt]
   have hs:rU a0 a1 a2 (acc,(k:Int),())=some (.inl (bif (price a1 a2 a0[k].1).2.1 then acc++[a0[k].1] else acc,((k+1:Nat):Int),())):=by
    unfold rU;simp only [bK,dG,e2]
    rw [fB (show (k:Int)<(a0.length:Int) by omega),fB (show (0:Int)≤(k:Int) by omega),dV (d:=(0,false,())) hlt,show Nat.ble ((acc.length+1)*8) 140737488355328=true from Nat.ble_eq_true_of_le (by omega)]
    cases (price a1 a2 a0[k].1).2.1<;>rfl
   rw [hs,List.filter_cons]
   cases hp:(price a1 a2 a0[k].1).2.1 with
   | true=>
    simp only [aQ,if_true,List.map_cons]
    rw [ih (k+1) (by omega) _ (by rw [kZ];show acc.length+1≤_;omega),List.append_assoc]
    rfl
   | false=>
    simp only [bU]
    rw [ih (k+1) (by omega) acc (by omega)]
    rfl
 have h:=key a0.length 0 (by omega) [] (dQ _)
 have h:Loop (rU a0 a1 a2) ([],0,())=_:=h;unfold aj0;rw [h];rfl
theorem YN (a0:List Int) (a1:Int):aqu a0 a1=ah.x107 a0 a1:=by
 rfl
theorem YO (a0:List ah.Rt) (a1:List ah.Lk) (a2:Int):aqm a0 a1 a2=ah.HV (a0,a1,()) a2:=by
 rfl
theorem YP (a0:List ah.Rt) (a1:List ah.Lk) (a2:Int):aqt a0 a1 a2=ah.x105 (a0,a1,()) a2:=by
 rfl
theorem YQ (a0:List ah.Rt) (a1:List ah.Lk) (a2:List Int) (a3:Int):aqr a0 a1 a2 a3=ah.yM (a0,a1,()) a2 a3:=by
 rfl
theorem aqG (a0:List Rt) (a1:List Lk) (a2:List Int) (a3:Int) (a4:Int×Unit) (a5:Int×(List Int×(List Int×Unit))):zf a0 a1 a2 a3 a4 a5=lF a0 a1 a2 a3 a4 a5:=by
 unfold zf lF
 congr 8
 all_goals (funext y6;generalize decide (y6.1<1073741824)=c;cases c<;>rfl)
theorem YR (a0:List ah.Rt) (a1:List ah.Lk) (a2:List Int) (a3:Int):ajr a0 a1 a2 a3=ah.HY (a0,a1,()) a2 a3:=by
 unfold ajr HY acD
 rw [show @zf a0 a1 a2 a3=@lF a0 a1 a2 a3 from funext fun _=>funext fun _=>aqG _ _ _ _ _ _]
theorem YS (a0:List ah.Rt) (a1:List ah.Lk) (a2 a3:Int):aqp a0 a1 a2 a3=ah.x102 (a0,a1,()) a2 a3:=by
 rfl
theorem adI (a0:List ah.Rt) (a1:List ah.Lk) (a2 a3:Int) (a4:List ah.Ed) (a5:Int):g87 a0 a1 a2 a3 a4 a5=ah.x87 (a0,a1,()) (a2,a3,a4,()) a5:=by
 rfl
theorem adJ (a0:List ah.Rt) (a1:List ah.Lk) (a2 a3:Int) (a4:List ah.Ed):g37 a0 a1 a2 a3 a4=ah.x57 (a0,a1,()) (a2,a3,a4,()):=by
 rfl
end Go.gI.qJ