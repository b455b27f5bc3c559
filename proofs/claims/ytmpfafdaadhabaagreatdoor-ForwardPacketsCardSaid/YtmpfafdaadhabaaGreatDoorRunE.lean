/- Chapter 13 (forward): proved is that functions that the law reaches keep their contracts (masks, the map of masks, forwarding); no conditions but those that each theorem states. -/
import Derived.Test.YtmpfafdaadhabaaGreatDoorRunD
import Derived.RegionTactic
import Derived.WalkSpells
import Derived.WalkKit
import Derived.StillTactics
import Derived.StillTailTactics
import Derived.Maps.OwnOps
import Derived.Maps.Views
set_option linter.unusedVariables false
set_option linter.unusedSimpArgs false
namespace Go.aW.fF
open Go Go.Proofs ah
set_option maxRecDepth 100000
def zZ (t:Tb) (p s n:Int) (k:Nat):Int:=(List.range k).foldl (fun a k=>bif C9 t p s n k then Bt.or a (Bt.fA k) else a) 0
theorem wu (t:Tb) (p s n:Int) (k:Nat):zZ t p s n (k+1)=bif C9 t p s n k then Bt.or (zZ t p s n k) (Bt.fA k) else zZ t p s n k:=by
  unfold zZ
  rw [List.range_succ,List.foldl_append]
  rfl
theorem DN (t:Tb) (p s n:Int):∀ k,U (zZ t p s n k)
  | 0=>U0
  | k+1=>by
    rw [wu]
    cases C9 t p s n k with
    | true=>exact zY (DN t p s n k) (lI _)
    | false=>exact DN t p s n k
theorem aan (a0:Int) (a1:Int) (a2:Int) (a3:(List (Int×((List Int)×Unit)))) (a4:Int) (a5:Int) (a6:Int) (r0:IntKind.i64.has a0) (r1:IntKind.i64.has a1) (r2:IntKind.i64.has a2) (r3:(Ty.sl (qX)).ok a3) (r4:IntKind.i64.has a4) (r5:IntKind.i64.has a5) (r6:IntKind.i64.has a6) (h:(decide (0≤a4)&&decide (0≤a2)&&decide (a2≤64))=true):g77 a0 a1 a2 a3 a4 a5 a6=some (ah.nu (a0,a1,a2,a3,()) a4 a5 a6,()):=by
  simp only [Bool.and_eq_true,decide_eq_true_eq] at h
  obtain ⟨⟨hp,h1⟩,h2⟩:=h
  obtain ⟨n,rfl⟩:∃ n:Nat,a2=(n:Int):=⟨a2.toNat,by omega⟩
  have hL:Loop (zA a0 a1 (n:Int) a3 a4 a5 a6) ((0:Int),((0:Int),()))=some (zZ (a0,a1,(n:Int),a3,()) a4 a5 a6 n,()):=by
    refine (j6 (step:=zA a0 a1 (n:Int) a3 a4 a5 a6) (fun k=>((k:Int),(zZ (a0,a1,(n:Int),a3,()) a4 a5 a6 k,()))) n _ (fun k hk=>?_) ?_ 0 (Nat.zero_le _))
    · have hU:=DN (a0,a1,(n:Int),a3,()) a4 a5 a6 k
      rw [wu]
      generalize zZ (a0,a1,(n:Int),a3,()) a4 a5 a6 k=a at hU ⊢
      unfold zA C9
      simp only
      rw [dT (show (k:Int)<(n:Int) by omega),aX (decide_eq_true hp),uL hU (lI _),fE (by omega)]
      cases (at_ a5 (k:Int) (n:Int)).2.1 with
      | false=>rfl
      | true=>
        by_cases h0:0<a6
        · rw [dT (show a6 > 0 from h0)]
          simp only [cond_true,Option.bind_some]
          cases decide (zf (a0,a1,(n:Int),a3,()) (at_ a5 (k:Int) (n:Int)).1 a4=a6)<;>first | rfl | (rw [dT h0];rfl)
        · rw [dF (show ¬ a6 > 0 from h0)]
          first | rfl | (rw [dF h0];rfl)
    · unfold zA
      simp only
      rw [dF (show ¬ (n:Int)<(n:Int) by omega)]
      rfl
  unfold g77
  rw [hL]
  rfl
end Go.aW.fF
namespace Go.aW.fF
open Go Go.Proofs ah
set_option maxRecDepth 100000
end Go.aW.fF
namespace Go.aW.fF
open Go Go.Proofs ah
open ah.Bt
set_option maxRecDepth 100000
theorem acL {x y:Int} (hx:U x) (hy:U y):IntKind.wrap .u64 (((BitVec.or (BitVec.ofInt 64 x) (BitVec.ofInt 64 y)).toNat:Nat):Int)=Bt.or x y:=uL hx hy
theorem Ih (x:Int) {y:Int} (hy:U y):U (Bt.and x y):=pO (Nat.lt_of_le_of_lt Nat.and_le_right (FV hy))
theorem Ii {t:Tp} (h:wf t=true):wf (packet t 0).2=true:=
  zV (xE (bq (dA (bq (dA (dA (eP (eP (nA h)))))))))
theorem Ij (p:Pn) (s:Int×Int×Tp) (e:Ed) (h:wf s.2.2=true) (hu:U s.2.1):wf (d9 p s e).2.2=true∧U (d9 p s e).2.1∧(d9 p s e).1=s.1:=by
  unfold d9
  simp only
  cases decide ((place e.2.1 p.2.1).1=s.1) with
  | false=>exact ⟨h,hu,rfl⟩
  | true=>
    have w1:=bq (n:=4) h
    simp only [cond_true]
    cases decide (0<(next s.2.2 4).1) with
    | false=>exact ⟨w1,hu,rfl⟩
    | true=>exact ⟨w1,zY hu (lI _),rfl⟩
theorem qL (p:Pn) (l:List Ed) (s0:Int×Int×Tp) (h:wf s0.2.2=true) (hu:U s0.2.1):∀ k,k≤l.length →
    wf ((l.take k).foldl (d9 p) s0).2.2=true∧U ((l.take k).foldl (d9 p) s0).2.1∧((l.take k).foldl (d9 p) s0).1=s0.1
  | 0,_=>⟨h,hu,rfl⟩
  | k+1,hk=>by
    obtain ⟨i1,i2,i3⟩:=qL p l s0 h hu k (by omega)
    rw [jo (d9 p) s0 l zE k (by omega)]
    obtain ⟨j1,j2,j3⟩:=Ij p _ (l.getD k zE) i1 i2
    exact ⟨j1,j2,j3.trans i3⟩
theorem Qt (a2 a3 st len q4 q5 q6 q7:Int) (q9:List Int) (a4:List Ed) (hl:a4.length≤1000) (tp:Tp) (hw:wf tp=true) :
    Loop (wh a3 a4) (tp,((1,a2,st,len,q4,q5,q6,q7,0,q9,()),((0:Int),())))=some ((a4.foldl (d9 (a2,a3,a4,())) (st,0,tp)).2.2,((1,a2,st,len,q4,q5,q6,q7,(a4.foldl (d9 (a2,a3,a4,())) (st,0,tp)).2.1,q9,()),())):=by
  refine j6 (step:=wh a3 a4) (fun k=>(((a4.take k).foldl (d9 (a2,a3,a4,())) (st,0,tp)).2.2,((1,a2,st,len,q4,q5,q6,q7,((a4.take k).foldl (d9 (a2,a3,a4,())) (st,0,tp)).2.1,q9,()),((k:Int),())))) a4.length _ (fun k hk=>?_) ?_ 0 (Nat.zero_le _)
  · obtain ⟨h1,h2,h3⟩:=qL (a2,a3,a4,()) a4 (st,0,tp) hw U0 k (by omega)
    rw [jo (d9 (a2,a3,a4,())) _ a4 zE k hk]
    generalize (a4.take k).foldl (d9 (a2,a3,a4,())) (st,0,tp)=s at h1 h2 h3 ⊢
    obtain ⟨s1,s2,s3⟩:=s
    simp only at h1 h2 h3
    subst h3
    unfold wh d9
    simp only [Int.ofNat_eq_natCast,Int.toNat_natCast]
    rw [dT (show (k:Int)<(a4.length:Int) by omega),dT (show (0:Int)≤(k:Int) by omega),fE (by omega),om h1]
    simp only [Bool.and_self,cond_true]
    cases hd:decide ((place (a4.getD k zE).2.1 a3).1=s1) with
    | false=>rfl
    | true=>
      simp only [cond_true,Option.bind_some]
      have gt:decide ((next s3 4).1 > 0)=decide (0<(next s3 4).1):=rfl
      rw [gt]
      cases decide (0<(next s3 4).1) with
      | false=>rfl
      | true=>
        simp only [cond_true,Option.bind_some]
        rw [acL h2 (lI _)]
  · unfold wh
    simp only [Int.ofNat_eq_natCast,List.take_length]
    rw [dF (show ¬ (a4.length:Int)<(a4.length:Int) by omega)]
    rfl
theorem aao (a0:(List Int)) (a1:Int) (a2:Int) (a3:Int) (a4:(List (Int×(Int×Unit)))) (r0:(Ty.sl (.int .i64)).ok a0) (r1:IntKind.i64.has a1) (r2:IntKind.i64.has a2) (r3:IntKind.i64.has a3) (r4:(Ty.sl (edT)).ok a4) (h:(ah.wf (a0,a1,())&&decide (a4.length≤1000))=true):g17 a0 a1 a2 a3 a4=some (ah.oh (a0,a1,()) (a2,a3,a4,())):=by
  simp only [Bool.and_eq_true,decide_eq_true_eq] at h
  obtain ⟨hw,hl⟩:=h
  unfold g17 oh
  have w1:=Ii hw
  rw [nD hw (by decide)]
  simp only [Option.bind_some]
  generalize packet (a0,a1,()) 0=q at w1 ⊢
  obtain ⟨⟨q0,q1,q2,q3,q4,q5,q6,q7,q8,q9,⟨⟩⟩,qt⟩:=q
  simp only at w1
  obtain ⟨len,hlen⟩:∃ len,(bif decide (a3=0) then (8:Int) else a3)=len:=⟨_,rfl⟩
  have e1:(bif decide (a3=0) then some (((1:Int),a2,(0:Int),(8:Int),q4,q5,q6,q7,(0:Int),q9,()),()) else some (((1:Int),a2,(0:Int),a3,q4,q5,q6,q7,(0:Int),q9,()),()))=some (((1:Int),a2,(0:Int),len,q4,q5,q6,q7,(0:Int),q9,()),()):=by
    rw [←hlen]
    cases decide (a3=0)<;>rfl
  simp only [tl,en,ig,pr,py]
  rw [e1,hlen]
  simp only [Option.bind_some]
  have fin:∀ (tp:Tp) (st:Int),wf tp=true →
      Option.bind (Loop (wh a3 a4) (tp,((1,a2,st,len,q4,q5,q6,q7,0,q9,()),((0:Int),())))) (fun (y8:(((@List Int)×(Int×Unit))×((Int×(Int×(Int×(Int×(Int×(Int×(Int×(Int×(Int×((@List Int)×Unit))))))))))×Unit)))=>(Option.bind (@ah.on (Bool×((@List Int)×(Int×Unit))) ((@ah.wf y8.1)&&(@ah.small (6:Int))) (@ah.one y8.1 (6:Int))) (fun (y9:(Bool×((@List Int)×(Int×Unit))))=>(Option.bind (bif y9.1 then (Option.bind (@ah.on (Int×((@List Int)×(Int×Unit))) (@ah.wf y9.2) (@ah.Bt.bits y9.2 y8.2.1.2.2.2.1)) (fun (iA:(Int×((@List Int)×(Int×Unit))))=>(some ((y8.2.1.1,(y8.2.1.2.1,(y8.2.1.2.2.1,(y8.2.1.2.2.2.1,(y8.2.1.2.2.2.2.1,(y8.2.1.2.2.2.2.2.1,(y8.2.1.2.2.2.2.2.2.1,(y8.2.1.2.2.2.2.2.2.2.1,((IntKind.wrap Go.IntKind.u64 (Int.ofNat (@BitVec.toNat 64 (@BitVec.or 64 (@BitVec.ofInt 64 y8.2.1.2.2.2.2.2.2.2.2.1) (@BitVec.ofInt 64 iA.1))))),y8.2.1.2.2.2.2.2.2.2.2.2))))))))),(iA.2,()))))) else (some (y8.2.1,(y9.2,())))) (fun (iA:((Int×(Int×(Int×(Int×(Int×(Int×(Int×(Int×(Int×((@List Int)×Unit))))))))))×(((@List Int)×(Int×Unit))×Unit)))=>(some (iA.1,iA.2.1))))))) =
      some (bif (one (a4.foldl (d9 (a2,a3,a4,())) (st,0,tp)).2.2 6).1 then ((1,a2,st,len,q4,q5,q6,q7,Bt.or (a4.foldl (d9 (a2,a3,a4,())) (st,0,tp)).2.1 (Bt.bits (one (a4.foldl (d9 (a2,a3,a4,())) (st,0,tp)).2.2 6).2 len).1,q9,()),(Bt.bits (one (a4.foldl (d9 (a2,a3,a4,())) (st,0,tp)).2.2 6).2 len).2)
        else ((1,a2,st,len,q4,q5,q6,q7,(a4.foldl (d9 (a2,a3,a4,())) (st,0,tp)).2.1,q9,()),(one (a4.foldl (d9 (a2,a3,a4,())) (st,0,tp)).2.2 6).2)):=by
    intro tp st hwt
    rw [Qt a2 a3 st len q4 q5 q6 q7 q9 a4 hl tp hwt]
    obtain ⟨h1,h2,h3⟩:=qL (a2,a3,a4,()) a4 (st,0,tp) hwt U0 a4.length (Nat.le_refl _)
    rw [List.take_length] at h1 h2 h3
    generalize a4.foldl (d9 (a2,a3,a4,())) (st,0,tp)=s at h1 h2 h3 ⊢
    simp only [Option.bind_some]
    rw [nD h1 (by decide)]
    simp only [Option.bind_some]
    have w2:=one_wf (n:=6) h1
    generalize one s.2.2 6=o at w2 ⊢
    cases o.1 with
    | false=>rfl
    | true=>
      simp only [cond_true]
      rw [om w2]
      simp only [Option.bind_some]
      have hb:U (Bt.bits o.2 len).1:=Ih _ (zS _)
      rw [uL h2 hb]
  by_cases h0:0<a4.length
  · rw [dT (show (Int.ofNat a4.length) > 0 by simp only [Int.ofNat_eq_natCast];omega),dT h0,om w1]
    simp only [Option.bind_some,cond_true,Int.ofNat_eq_natCast]
    have hr:=dz (t:=qt) (n:=(a4.length:Int)) (by omega)
    rw [dT hr.1,dT hr.2]
    simp only [Bool.and_self,cond_true,Option.bind_some]
    exact fin _ _ (bq w1)
  · rw [dF (show ¬ (Int.ofNat a4.length) > 0 by simp only [Int.ofNat_eq_natCast];omega),dF h0]
    simp only [Option.bind_some,cond_false]
    exact fin _ _ w1
theorem z8 {t:Tp} {a:Int} (hw:wf t=true) (ha:1≤a∧a≤50):wf (mixed t a).2=true∧(mixed t a).1.1.length≤75:=by
  obtain ⟨w,l⟩:=DI (n:=0) hw ha
  obtain ⟨h1,h2⟩:=uJ (l:=(tX t a 0).1.1) w (tX t a 0).1.1.length
  exact ⟨h1,by show (mo _ _ _).1.length≤75;omega⟩
theorem Aa {t:Tp} {g:To} (hw:wf t=true):wf (kC t g 0).2=true∧(kC t g 0).1.2.2.1.length≤g.1.length:=by
  have w2:=nA (bq (n:=3) hw)
  have l2:=H9 (next t 3).2
  obtain ⟨w3,l3,m3⟩:=pK w2 g.1.length
  have h:=uH g (ah.length (next t 3).2).1 (by omega) (order (ah.length (next t 3).2).2 g.1.length).2 w3 (order (ah.length (next t 3).2).2 g.1.length).1 _ (Nat.le_refl _)
  rw [List.take_length] at h
  have l3':(order (ah.length (next t 3).2).2 g.1.length).1.length=g.1.length:=l3
  rw [l3'] at h
  exact ⟨h.1,h.2.2.2⟩
theorem JW {t:Tp} {p:Pn} (hw:wf t=true):wf (oh t p).2=true:=by
  unfold oh
  simp only
  have w1:=Ii hw
  generalize packet t 0=q at w1 ⊢
  have wa:wf (bif decide (0<p.2.2.1.length) then ((place (p.2.2.1.getD (next q.2 p.2.2.1.length).1.toNat zE).2.1 p.2.1).1,(next q.2 p.2.2.1.length).2) else ((0:Int),q.2)).2=true:=by
    cases decide (0<p.2.2.1.length) with
    | false=>exact w1
    | true=>exact bq (n:=(p.2.2.1.length:Int)) w1
  generalize (bif decide (0<p.2.2.1.length) then ((place (p.2.2.1.getD (next q.2 p.2.2.1.length).1.toNat zE).2.1 p.2.1).1,(next q.2 p.2.2.1.length).2) else ((0:Int),q.2))=a at wa ⊢
  obtain ⟨h1,h2,h3⟩:=qL p p.2.2.1 (a.1,0,a.2) wa U0 p.2.2.1.length (Nat.le_refl _)
  rw [List.take_length] at h1
  generalize p.2.2.1.foldl (d9 p) (a.1,0,a.2)=b at h1 ⊢
  have w2:=one_wf (n:=6) h1
  generalize one b.2.2 6=o at w2 ⊢
  cases o.1 with
  | false=>exact w2
  | true=>exact xE w2
theorem Ab {t:Tp} {g:To} (hw:wf t=true):wf (jd t g 0).2=true:=by
  unfold jd
  simp only [show decide ((0:Int)<0)=false from rfl,cond_false,Bool.false_or]
  cases decide (g.1.length=0) with
  | false=>exact bq (n:=(g.1.length:Int)) hw
  | true=>exact dA (l:=[0,1,2,7,77,-1]) hw
theorem uM (r:Int) (t:Tp) (h:wf t=true):∀ k,wf ((List.range k).foldl (oG r) ([],t)).2=true∧((List.range k).foldl (oG r) ([],t)).1.length≤k
  | 0=>⟨h,Nat.le_refl _⟩
  | k+1=>by
    obtain ⟨i1,i2⟩:=uM r t h k
    rw [List.range_succ,List.foldl_append]
    simp only [List.foldl_cons,List.foldl_nil]
    generalize (List.range k).foldl (oG r) ([],t)=s at i1 i2 ⊢
    have w2:=one_wf (n:=3) i1
    unfold oG
    generalize one s.2 3=o at w2 ⊢
    cases !decide ((k:Int)+1=r) with
    | false=>exact ⟨i1,by simp only [cond_false];omega⟩
    | true=>
      simp only [cond_true]
      cases o.1 with
      | false=>exact ⟨w2,by simp only [cond_false];omega⟩
      | true=>exact ⟨w2,by simp only [cond_true,List.length_append,List.length_cons,List.length_nil];omega⟩
theorem uN (r:Int) (l:List Ed) (t:Tp) (h:wf t=true):∀ k,k≤l.length→wf ((l.take k).foldl (jD r) ([],t)).2=true∧((l.take k).foldl (jD r) ([],t)).1.length=k
  | 0,_=>⟨h,rfl⟩
  | k+1,hk=>by
    obtain ⟨i1,i2⟩:=uN r l t h k (by omega)
    rw [jo (jD r) _ l zE k (by omega)]
    generalize (l.take k).foldl (jD r) ([],t)=s at i1 i2 ⊢
    unfold jD
    simp only
    exact ⟨one_wf (n:=5) (uM r _ i1 7).1,by simp only [List.length_append,List.length_cons,List.length_nil];omega⟩
theorem aap (r:Int) (y:Tp) (id:Int) (t:Tp) (h:wf t=true) :
    Loop (JN (r,y)) ((1:Int),((id,(([]:List Int),())),(t,())))=some ((id,(((List.range 7).foldl (oG r) ([],t)).1,())),(((List.range 7).foldl (oG r) ([],t)).2,())):=by
  refine j6 (step:=JN (r,y)) (fun k=>((k:Int)+1,((id,(((List.range k).foldl (oG r) ([],t)).1,())),(((List.range k).foldl (oG r) ([],t)).2,())))) 7 _ (fun k hk=>?_) ?_ 0 (Nat.zero_le _)
  · obtain ⟨i1,i2⟩:=uM r t h k
    rw [List.range_succ,List.foldl_append]
    simp only [List.foldl_cons,List.foldl_nil]
    generalize (List.range k).foldl (oG r) ([],t)=s at i1 i2 ⊢
    unfold JN oG
    simp only
    rw [dT (show (k:Int)+1≤7 by omega),fu (n:=(k:Int)+1+1) (by omega) (by omega),nD i1 (by decide)]
    simp only [cond_true,Option.bind_some]
    cases hd:decide ((k:Int)+1=r) with
    | true=>rfl
    | false=>
      simp only [Bool.not_false,cond_true,Option.bind_some]
      cases (one s.2 3).1 with
      | false=>rfl
      | true=>
        simp only [cond_true]
        rw [j5 (show (s.1.length+1)*8≤140737488355328 by omega)]
        rfl
  · rfl
theorem Qu (p:Pn) (pt:Tp) (r:Int) (y:Tp) (t:Tp) (hl:p.2.2.1.length≤1000) (h:wf t=true) :
    Loop (FK (p,pt) (r,y)) ((0:Int),((r,(p.1,(p.2.1,(([]:List Rw),())))),(t,()))) =
      some ((r,(p.1,(p.2.1,((p.2.2.1.foldl (jD r) ([],t)).1,())))),((p.2.2.1.foldl (jD r) ([],t)).2,())):=by
  refine j6 (step:=FK (p,pt) (r,y)) (fun k=>((k:Int),((r,(p.1,(p.2.1,(((p.2.2.1.take k).foldl (jD r) ([],t)).1,())))),(((p.2.2.1.take k).foldl (jD r) ([],t)).2,())))) p.2.2.1.length _ (fun k hk=>?_) ?_ 0 (Nat.zero_le _)
  · obtain ⟨i1,i2⟩:=uN r p.2.2.1 t h k (by omega)
    rw [jo (jD r) _ p.2.2.1 zE k hk]
    generalize (p.2.2.1.take k).foldl (jD r) ([],t)=s at i1 i2 ⊢
    unfold FK jD
    simp only [Int.ofNat_eq_natCast,Int.toNat_natCast]
    rw [dT (show (k:Int)<(p.2.2.1.length:Int) by omega),dT (show (0:Int)≤(k:Int) by omega),fE (by omega),aap r y _ s.2 i1]
    simp only [Bool.and_self,cond_true,Option.bind_some]
    obtain ⟨w1,l1⟩:=uM r s.2 i1 7
    generalize (List.range 7).foldl (oG r) ([],s.2)=n at w1 l1 ⊢
    rw [nD w1 (by decide)]
    simp only [Option.bind_some]
    generalize one n.2 5=o
    rw [j5 (show (s.1.length+1)*32≤140737488355328 by omega)]
    cases o.1<;>rfl
  · unfold FK
    simp only [Int.ofNat_eq_natCast,List.take_length]
    rw [dF (show ¬ (p.2.2.1.length:Int)<(p.2.2.1.length:Int) by omega)]
    rfl
theorem acM (a0:(List Int)) (a1:Int) (r0:(Ty.sl (.int .i64)).ok a0) (r1:IntKind.i64.has a1) (h:(ah.wf (a0,a1,()))=true):g5 a0 a1=some ((let r:=ah.tZ (a0,a1,());((r.1.1,r.1.2,()),r.2))):=by
  unfold g5 tZ
  simp only
  obtain ⟨w1,l1⟩:=z8 (a:=6) h (by omega)
  rw [aX (show (wf (a0,a1,())&&ah.inside 6 1 50)=true by rw [h];rfl)]
  simp only [Option.bind_some]
  generalize mixed (a0,a1,()) 6=g at w1 l1 ⊢
  rw [aX (show (wf g.2&&small 0&&decide (g.1.1.length≤1000))=true by rw [w1,dT (show g.1.1.length≤1000 by omega)];rfl)]
  simp only [Option.bind_some]
  obtain ⟨w2,l2⟩:=Aa (g:=g.1) w1
  generalize kC g.2 g.1 0=p at w2 l2 ⊢
  rw [aX (show (wf p.2&&decide (p.1.2.2.1.length≤1000))=true by rw [w2,dT (show p.1.2.2.1.length≤1000 by omega)];rfl)]
  simp only [Option.bind_some]
  have w3:=JW (p:=p.1) w2
  generalize oh p.2 p.1=q at w3 ⊢
  rw [JQ w3 4 (by decide) (by decide)]
  simp only [Option.bind_some]
  have w4:=dA (l:=[1,4,63,0]) w3
  generalize ah.pick q.2 [1,4,63,0]=l at w4 ⊢
  rw [aX (show (wf l.2&&small 0&&decide (g.1.1.length≤1000))=true by rw [w4,dT (show g.1.1.length≤1000 by omega)];rfl)]
  simp only [Option.bind_some]
  have w5:=Ab (g:=g.1) w4
  generalize jd l.2 g.1 0=r at w5 ⊢
  obtain ⟨p0,pt⟩:=p
  obtain ⟨r0,rt⟩:=r
  rw [Qu p0 pt r0 rt rt (by simp only at l2;omega) w5]
  simp only [Option.bind_some]
  rfl
end Go.aW.fF
namespace Go.aW.fF
open Go Go.Proofs Go.RowKit Go.Maps ah
theorem aaq:Keyed Tryz.prog 3:=int_keyed Tryz.underlying3
theorem Qv (w:World):(zeroValue 26).run Tryz.prog w = .ok (.int .u64 0) w:=by kernel_rfl
theorem pR {w w':World} (h:Below w.heap.size w w'):w.grownBy w' none:=⟨h.os,h.tape,h.output,h.size,fun i hi _=>h.block i hi⟩
theorem dn (w:World) (x:Obj):Below w.heap.size w (w.alloc x):=(Below.refl _ _).alloc (Nat.le_refl _) _
theorem bT {w w1 w2:World} {B:Nat} (h:Below B w w1) (k:Below w1.heap.size w1 w2) (hB:B≤w1.heap.size):Below B w w2:=
  ⟨k.os.trans h.os,k.tape.trans h.tape,k.output.trans h.output,Nat.le_trans h.size k.size,fun i hi=>(k.block i (by omega)).trans (h.block i hi)⟩
theorem ahU {x:Int} (h:U x):(Lit.int .u64 x).wf=true:=by
  have h1:=h.1
  have h2:=h.2
  have e1:IntKind.u64.min=0:=by decide
  have e2:IntKind.u64.max=18446744073709551615:=by decide
  simp only [Lit.wf,Bool.and_eq_true,decide_eq_true_eq,e1,e2]
  exact ⟨h1,by omega⟩
theorem wf_i64 {x:Int} (h:IntKind.i64.has x):(Lit.int .i64 x).wf=true:=by
  have h1:=(CV h).1
  have h2:=(CV h).2
  have e1:IntKind.i64.min = -9223372036854775808:=by decide
  have e2:IntKind.i64.max=9223372036854775807:=by decide
  simp only [Lit.wf,Bool.and_eq_true,decide_eq_true_eq,e1,e2]
  exact ⟨h1,h2⟩
theorem Ta {x b:Int} (hx:U x) (h0:0≤b) (h1:b<64):bits BinOp.or IntKind.u64 x (IntKind.wrap .u64 (2 ^ b.toNat))=Bt.or x (Bt.fA b):=by
  have e:Bt.fA b=2 ^ b.toNat:=by
    unfold Bt.fA
    rw [dF (show ¬ b<0 by omega),dF (show ¬ 63<b by omega)]
    rfl
  have hu:U ((2:Int) ^ b.toNat):=JR (by omega)
  rw [wu64 hu.1 hu.2,e]
  exact uL hx hu
set_option maxRecDepth 100000 in
set_option maxHeartbeats 4000000 in
theorem Lm (r s ln aD set:Int) (b o n c:Nat) (w:World) (hsm:n≤256) (hb:b<w.heap.size) (uO nx st bit:Nat→Int) (ok:Nat→Bool) (col:Int→Nat→Int)
    (A:Nat→Option Addr) (N Cp:Nat→Nat)
    (hid:∀ k,k<n→w.cell? ⟨b,o+k*2,none⟩=some (.int .i64 (uO k)))
    (hvs:∀ k,k<n→w.cell? ⟨b,o+k*2+1,none⟩=some (.slice (A k) (N k) (Cp k)))
    (h96:∀ k,k<n→∀ W,Below w.heap.size w W→Calls Tryz.prog 93 #[.int .i64 (uO k),.int .i64 ln] W fun e W'=>e = .returned (.tuple #[.int .i64 (st k),.int .i64 (bit k),.bool (ok k)])∧Below W.heap.size W W')
    (h77:∀ k,k<n→∀ W,Below w.heap.size w W→Calls Tryz.prog 66 #[.agg #[.int .i64 (uO k),.slice (A k) (N k) (Cp k)],.int .i64 aD] W fun e W'=>e = .returned (.int .i64 (nx k))∧Below W.heap.size W W')
    (hbit:∀ k,k<n→0≤bit k∧bit k<64)
    (hwf:∀ k,k<n→(Lit.int .i64 (nx k)).wf=true)
    (ahV:∀ nb,col nb 0=0) (ahW:∀ k,k<n→st k=set→nx k≠0→∀ nb,col nb (k+1)=if nx k=nb then Bt.or (col nb k) (Bt.fA (bit k)) else col nb k)
    (acN:∀ k,k<n→¬ (st k=set∧nx k≠0)→∀ nb,col nb (k+1)=col nb k) (acO:∀ nb k,U (col nb k)) :
    Calls Tryz.prog 67 #[.agg #[.int .i64 r,.int .i64 s,.int .i64 ln,.slice (some ⟨b,o,none⟩) n c],.int .i64 aD,.int .i64 set] w fun e w'=>
      ∃ M D,e = .returned (.map (some M))∧w'.ownsMap Tryz.prog 3 (plainElem Tryz.prog 26) M n D ∧
        (∀ nb:Int,D.atKey (H:=Unit) (.int .i64 nb) (.lit (.int .u64 0)) = .lit (.int .u64 (col nb n)))∧Below w.heap.size w w':=by
  have hmm:=@run_makeMap Tryz.prog
  go_enter Tryz.func67,Tryz.ntmps67
  go_wp2
  go_loopw [18] (fun i wr=>∃ (k:Nat) (D:DataW Unit),k≤n∧i = .int .i64 k∧wr.ownsMap Tryz.prog 3 (plainElem Tryz.prog 26) (w.heap.size+1) k D∧IsMap D ∧
      (∀ nb:Int,D.atKey (.int .i64 nb) (.lit (.int .u64 0)) = .lit (.int .u64 (col nb k)))∧Below w.heap.size w wr∧wr.cell? ⟨w.heap.size,2,none⟩=some (.int .i64 ln))
    (fun i _=>n - (intOf i).toNat)
  case atStart=>
    refine ⟨0,.map [],Nat.zero_le _,rfl,?_,isMap_empty,fun nb=>?_,?_,?_⟩
    · have hm:=World.ownsMap_made (w.alloc (Obj.cells #[Value.int IntKind.i64 r,Value.int IntKind.i64 s,Value.int IntKind.i64 ln,Value.slice (some { block:=b,off:=o }) n c] 25)) Tryz.prog 3 (plainElem (H:=Unit) Tryz.prog 26)
      have e:(w.alloc (Obj.cells #[Value.int IntKind.i64 r,Value.int IntKind.i64 s,Value.int IntKind.i64 ln,Value.slice (some { block:=b,off:=o }) n c] 25)).heap.size=w.heap.size+1:=Array.size_push ..
      rw [e] at hm
      exact hm
    · rw [ahV];rfl
    · exact bT (dn _ _) (dn _ _) (dn _ _).size
    · refine ((dn _ _).cell (by show w.heap.size<(Array.push _ _).size;rw [Array.size_push];omega)).trans (fJ _ _ _ _)
  case round=>
    obtain ⟨k,D,hk,rfl,hown,hmap,hat,hnx,hln⟩:=hrel
    have c0:k<n→wr.cell? ⟨b,o+k*2,none⟩=some (.int .i64 (uO k)):=fun h=>(hnx.cell hb).trans (hid k h)
    have c1:k<n→wr.cell? ⟨b,o+k*2+1,none⟩=some (.slice (A k) (N k) (Cp k)):=fun h=>(hnx.cell hb).trans (hvs k h)
    have hlt2:=hown.lt
    have hs2:wr.heap.size≤(wr.alloc (Obj.cells #[Value.int IntKind.i64 (uO k),Value.slice (A k) (N k) (Cp k)] 63)).heap.size:=(dn wr _).size
    have q2:(wr.alloc (Obj.cells #[Value.int IntKind.i64 (uO k),Value.slice (A k) (N k) (Cp k)] 63)).cell? ⟨w.heap.size,2,none⟩=some (.int .i64 ln):=((dn wr _).cell (by show w.heap.size<_;omega)).trans hln
    have hB0:Below w.heap.size w (wr.alloc (Obj.cells #[Value.int IntKind.i64 (uO k),Value.slice (A k) (N k) (Cp k)] 63)):=bT hnx (dn wr _) hnx.size
    go_wp2_with (first
      | (go_at_call 93;refine (h96 k (by assumption) _ hB0).mono ?_;rintro e w1 ⟨rfl,hB1⟩
         have p0:w1.cell? ⟨wr.heap.size,0,none⟩=some (.int .i64 (uO k)):=(hB1.cell (by simp)).trans (fJ _ _ _ _)
         have p1:w1.cell? ⟨wr.heap.size,1,none⟩=some (.slice (A k) (N k) (Cp k)):=(hB1.cell (by simp)).trans (fJ _ _ _ _)
         have hB2:=bT hB0 hB1 hB0.size)
      | (go_at_call 66;refine (h77 k (by assumption) _ hB2).mono ?_;rintro e w2 ⟨rfl,hB3⟩))
    · have hlt:k<n:=by assumption
      have hset:st k=set:=by assumption
      have hnz:nx k≠0:=by
        have hh:(nx k != 0)=true:=by assumption
        simpa using hh
      have hg:wr.grownBy w2 none:=pR (bT (bT (dn wr _) hB1 hs2) hB3 (Nat.le_trans hs2 hB1.size))
      have hown2:=hown.kept hg (by simp)
      have hown3:World.ownsMap w2.drew Tryz.prog 3 (plainElem Tryz.prog 26) (w.heap.size+1) k D:=hown2.drew
      obtain ⟨c',hrun,F3,hwc⟩:=hown3.lookup_int aaq Tryz.underlying112 Tryz.underlying26 (Qv _) (key:=.int .i64 (nx k)) (keyOf_int_mk Tryz.underlying3 (hwf k hlt))
      obtain ⟨hb0,hb1⟩:=hbit k hlt
      go_still_tail 6,(by kernel_rfl)
      have hcc:c' = col (nx k) k:=by
        have hh:=(hat (nx k)).symm.trans F3
        injection hh with hh
        injection hh with _ hh
        exact hh.symm
      subst hcc
      have hv:=Ta (acO (nx k) k) hb0 hb1
      have hUv:U (bits BinOp.or IntKind.u64 (col (nx k) k) (IntKind.wrap .u64 (2 ^ (bit k).toNat))):=by
        rw [hv]
        exact zY (acO _ _) (lI _)
      go_wp2_with (first
        | (at_mapUpdate;refine wpList_mapUpdate_own _ rfl _ _ _ 112 rfl 3 26 aaq Tryz.underlying112 _ (w.heap.size+1) k _ rfl hown3 (by unfold maxLen;omega) _ _ _ rfl rfl (keyOf_int_mk Tryz.underlying3 (hwf k hlt)) _ [] (plainElem_int Tryz.underlying26 (ahU hUv)) ?_;intro w3 acP hg3)
        | go_in)
      have hB4:Below w.heap.size w w3:=by
        have hb2:=bT hB2 hB3 hB2.size
        exact ⟨hg3.os.trans hb2.os,hg3.tape.trans hb2.tape,hg3.output.trans hb2.output,Nat.le_trans hb2.size hg3.size,fun i hi=>(hg3.block i (Nat.lt_of_lt_of_le hi hb2.size) (by simp;omega)).trans (hb2.block i hi)⟩
      refine ⟨⟨k+1,_,by omega,by simp,acP,hmap.put _ _,fun nb=>?_,hB4,?_⟩,by simp [intOf];omega⟩
      · rw [ahW k hlt hset hnz nb]
        by_cases hne:nx k=nb
        · subst hne
          rw [if_pos rfl,atKey_put_same hmap (by trivial),hv]
        · rw [if_neg hne,atKey_put_other (by intro hh;injection hh with _ hh;exact hne hh.symm),hat nb]
      · exact World.grownBy.cell hg3 (w:=w2.drew) (World.grownBy.cell hg hln (by simp)) (by simp)
    · have hlt:k<n:=by assumption
      have hnz:nx k=0:=by
        have hh:(nx k != 0)=false:=by assumption
        simpa using hh
      have hg:wr.grownBy w2 none:=pR (bT (bT (dn wr _) hB1 hs2) hB3 (Nat.le_trans hs2 hB1.size))
      have hown2:=hown.kept hg (by simp)
      refine ⟨⟨k+1,D,by omega,by simp,hown2.mono (Nat.le_succ _),hmap,fun nb=>?_,bT hB2 hB3 hB2.size,?_⟩,by simp [intOf];omega⟩
      · rw [hat nb,acN k hlt (fun h=>h.2 hnz) nb]
      · exact World.grownBy.cell hg hln (by simp)
    · have hlt:k<n:=by assumption
      have hset:¬ st k=set:=by assumption
      have hg:wr.grownBy w2 none:=pR (bT (bT (dn wr _) hB1 hs2) hB3 (Nat.le_trans hs2 hB1.size))
      have hown2:=hown.kept hg (by simp)
      refine ⟨⟨k+1,D,by omega,by simp,hown2.mono (Nat.le_succ _),hmap,fun nb=>?_,bT hB2 hB3 hB2.size,?_⟩,by simp [intOf];omega⟩
      · rw [hat nb,acN k hlt (fun h=>hset h.1) nb]
      · exact World.grownBy.cell hg hln (by simp)
    · have hkn:k=n:=by
        have hh:¬ k<n:=by assumption
        omega
      subst hkn
      go_ret
      exact ⟨_,D,rfl,hown,hat,hnx⟩
set_option maxRecDepth 100000 in
theorem Tc (r s ln aD set:Int) (a:Option Addr) (c:Nat) (w:World) :
    Calls Tryz.prog 67 #[.agg #[.int .i64 r,.int .i64 s,.int .i64 ln,.slice a 0 c],.int .i64 aD,.int .i64 set] w fun e w'=>
      ∃ M D,e = .returned (.map (some M))∧w'.ownsMap Tryz.prog 3 (plainElem Tryz.prog 26) M 0 D ∧
        (∀ nb:Int,D.atKey (H:=Unit) (.int .i64 nb) (.lit (.int .u64 0)) = .lit (.int .u64 0))∧Below w.heap.size w w':=by
  have hmm:=@run_makeMap Tryz.prog
  go_enter Tryz.func67,Tryz.ntmps67
  go_wp2
  refine wp_loop_rounds 1 ?_
  rw [rounds_succ]
  go_wp2
  go_ret
  refine ⟨_,.map [],rfl,?_,fun nb=>rfl,?_⟩
  · have hm:=World.ownsMap_made (w.alloc (Obj.cells #[Value.int IntKind.i64 r,Value.int IntKind.i64 s,Value.int IntKind.i64 ln,Value.slice a 0 c] 25)) Tryz.prog 3 (plainElem (H:=Unit) Tryz.prog 26)
    have e:(w.alloc (Obj.cells #[Value.int IntKind.i64 r,Value.int IntKind.i64 s,Value.int IntKind.i64 ln,Value.slice a 0 c] 25)).heap.size=w.heap.size+1:=Array.size_push ..
    rw [e] at hm
    exact hm
  · exact bT (dn _ _) (dn _ _) (dn _ _).size
set_option maxRecDepth 100000 in
set_option maxHeartbeats 4000000 in
theorem Lp (r s ln aD set nb:Int) (a:Option Addr) (n c:Nat) (w:World) (v:Bool) (res:Int) (hnb:(Lit.int .i64 nb).wf=true)
    (h75:∀ W,Below w.heap.size w W→Calls Tryz.prog 64 #[.agg #[.int .i64 r,.int .i64 s,.int .i64 ln,.slice a n c],.int .i64 aD,.int .i64 set] W fun e W'=>e = .returned (.bool v)∧Below W.heap.size W W')
    (h78:v=true→∀ W,Below w.heap.size w W→Calls Tryz.prog 67 #[.agg #[.int .i64 r,.int .i64 s,.int .i64 ln,.slice a n c],.int .i64 aD,.int .i64 set] W fun e W'=>
      ∃ M D,e = .returned (.map (some M))∧W'.ownsMap Tryz.prog 3 (plainElem Tryz.prog 26) M n D ∧
        D.atKey (H:=Unit) (.int .i64 nb) (.lit (.int .u64 0)) = .lit (.int .u64 res)∧Below W.heap.size W W') :
    Calls Tryz.prog 35 #[.agg #[.int .i64 r,.int .i64 s,.int .i64 ln,.slice a n c],.int .i64 aD,.int .i64 set,.int .i64 nb] w fun e w'=>
      e = .returned (.int .u64 (bif v then res else 0))∧Below w.heap.size w w':=by
  cases v with
  | false=>
    go_enter Tryz.func35,Tryz.ntmps35
    have hB0:Below w.heap.size w (w.alloc (Obj.cells #[Value.int IntKind.i64 r,Value.int IntKind.i64 s,Value.int IntKind.i64 ln,Value.slice a n c] 25)):=dn _ _
    go_wp2_with (first
      | (go_at_call 64;refine (h75 _ hB0).mono ?_;rintro e w1 ⟨rfl,hB1⟩)
      | go_in)
    all_goals go_ret
    exact ⟨rfl,bT hB0 hB1 hB0.size⟩
  | true=>
    replace h78:=h78 rfl
    go_enter Tryz.func35,Tryz.ntmps35
    have hB0:Below w.heap.size w (w.alloc (Obj.cells #[Value.int IntKind.i64 r,Value.int IntKind.i64 s,Value.int IntKind.i64 ln,Value.slice a n c] 25)):=dn _ _
    go_wp2_with (first
      | (go_at_call 64;refine (h75 _ hB0).mono ?_;rintro e w1 ⟨rfl,hB1⟩
         have hB2:=bT hB0 hB1 hB0.size
         have p0:w1.cell? ⟨w.heap.size,0,none⟩=some (.int .i64 r):=(hB1.cell (by show w.heap.size<(Array.push _ _).size;rw [Array.size_push];omega)).trans (fJ _ _ _ _)
         have p1:w1.cell? ⟨w.heap.size,1,none⟩=some (.int .i64 s):=(hB1.cell (by show w.heap.size<(Array.push _ _).size;rw [Array.size_push];omega)).trans (fJ _ _ _ _)
         have p2:w1.cell? ⟨w.heap.size,2,none⟩=some (.int .i64 ln):=(hB1.cell (by show w.heap.size<(Array.push _ _).size;rw [Array.size_push];omega)).trans (fJ _ _ _ _)
         have p3:w1.cell? ⟨w.heap.size,3,none⟩=some (.slice a n c):=(hB1.cell (by show w.heap.size<(Array.push _ _).size;rw [Array.size_push];omega)).trans (fJ _ _ _ _))
      | (go_at_call 67;refine (h78 _ hB2).mono ?_;rintro e w2 ⟨M,D,rfl,hown,hat,hB3⟩)
      | (at_lookup;refine wpList_lookup_own_int _ rfl _ _ 112 rfl 3 26 .u64 aaq Tryz.underlying112 Tryz.underlying26 (Qv _) M n _ rfl hown _ _ rfl (keyOf_int_mk Tryz.underlying3 hnb) ?_;intro c' F3 hwc)
      | go_in)
    all_goals go_ret
    have hcc:c' = res:=by
      have hh:=hat.symm.trans F3
      injection hh with hh
      injection hh with _ hh
      exact hh.symm
    subst hcc
    exact ⟨rfl,bT hB2 hB3 hB2.size⟩
end Go.aW.fF
namespace Go.aW.fF
open Go Go.Proofs Go.RowKit Go.Maps ah
structure qY (t:Tb):Prop where
  r:1≤t.1∧t.1≤99
  s:0≤t.2.1∧t.2.1≤7
  l:dI t.2.2.1=true∨(t.2.2.1=0∧t.2.2.2.1=[])
  n:t.2.2.2.1.length≤256
  id:∀ x∈t.2.2.2.1,1≤x.1∧x.1≤256
  nx:∀ x∈t.2.2.2.1,∀ y∈x.2.1,1≤y∧y≤99
  m:∀ x∈t.2.2.2.1,x.2.1.length≤24
  ui:∀ x∈t.2.2.2.1,qG x.2.1=true
  uw:P7 t.2.2.2.1=true
  se:∀ x∈t.2.2.2.1,iX t.1 x=false
theorem l7 {t:Tb}:nk t=0↔qY t:=by
  unfold nk
  cases h1:(!ah.inside t.1 1 99 || !ah.inside t.2.1 0 7 || (!dI t.2.2.1 && !(decide (t.2.2.1=0)&&decide (t.2.2.2.1.length=0))) || t.2.2.2.1.any lD) with
  | true=>
    simp only [cond_true]
    refine ⟨fun h=>absurd h (by decide),fun h=>?_⟩
    have e1:=bE.2 h.r
    have e2:=bE.2 h.s
    have e3:t.2.2.2.1.any lD=false:=by
      rw [List.any_eq_false]
      intro x hx
      unfold lD
      rw [bE.2 (h.id x hx)]
      simp only [Bool.not_true,Bool.false_or,Bool.not_eq_true,List.any_eq_false,Bool.not_eq_false']
      intro y hy
      rw [bE.2 (h.nx x hx y hy)]
    rw [e1,e2,e3] at h1
    rcases h.l with hl | ⟨hl,hl2⟩
    · rw [hl] at h1;simp at h1
    · rw [hl,hl2] at h1;simp at h1
  | false=>
    simp only [cond_false]
    simp only [Bool.or_eq_false_iff,Bool.not_eq_false',Bool.and_eq_false_iff,List.any_eq_false] at h1
    obtain ⟨⟨⟨a1,a2⟩,a3⟩,a4⟩:=h1
    cases h2:(decide (256<t.2.2.2.1.length) || t.2.2.2.1.any (fun r=>decide (24<r.2.1.length))) with
    | true=>
      simp only [cond_true]
      refine ⟨fun h=>absurd h (by decide),fun h=>?_⟩
      simp only [Bool.or_eq_true,decide_eq_true_eq,List.any_eq_true] at h2
      rcases h2 with h2 | ⟨x,hx,h2⟩
      · have:=h.n;omega
      · have:=h.m x hx;omega
    | false=>
      simp only [cond_false]
      simp only [Bool.or_eq_false_iff,decide_eq_false_iff_not,List.any_eq_false,decide_eq_true_eq] at h2
      cases h3:(!(t.2.2.2.1.all fun r=>qG r.2.1) || !P7 t.2.2.2.1) with
      | true=>
        simp only [cond_true]
        refine ⟨fun h=>absurd h (by decide),fun h=>?_⟩
        rw [h.uw,List.all_eq_true.2 h.ui] at h3
        cases h3
      | false=>
        simp only [cond_false]
        simp only [Bool.or_eq_false_iff,Bool.not_eq_false',List.all_eq_true] at h3
        cases h4:t.2.2.2.1.any (iX t.1) with
        | true=>
          simp only [cond_true]
          refine ⟨fun h=>absurd h (by decide),fun h=>?_⟩
          rw [List.any_eq_true] at h4
          obtain ⟨x,hx,h4⟩:=h4
          rw [h.se x hx] at h4
          cases h4
        | false=>
          simp only [cond_false,true_iff]
          rw [List.any_eq_false] at h4
          have bad:∀ x∈t.2.2.2.1,lD x=false:=fun x hx=>by simpa using a4 x hx
          refine ⟨bE.1 a1,bE.1 a2,?_,by omega,fun x hx=>?_,fun x hx y hy=>?_,fun x hx=>?_,h3.1,h3.2,fun x hx=>by simpa using h4 x hx⟩
          · rcases a3 with a3 | a3
            · exact .inl a3
            · right
              simp only [Bool.and_eq_true,decide_eq_true_eq] at a3
              exact ⟨a3.1,List.length_eq_zero_iff.1 a3.2⟩
          · have:=bad x hx
            unfold lD at this
            simp only [Bool.or_eq_false_iff,Bool.not_eq_false'] at this
            exact bE.1 this.1
          · have:=bad x hx
            unfold lD at this
            simp only [Bool.or_eq_false_iff,Bool.not_eq_false',List.any_eq_false] at this
            exact bE.1 (by simpa using this.2 y hy)
          · have:=h2.2 x hx;omega
theorem F4 {t:Tb} (h:qY t) {x:Rw} (hx:x∈t.2.2.2.1) (p:Int):0≤cu x p∧cu x p≤99:=by
  unfold cu
  by_cases h0:x.2.1.length=0
  · rw [dT h0];simp only [cond_true];omega
  · rw [dF h0]
    simp only [cond_false]
    have hm:=Int.emod_nonneg p (show (x.2.1.length:Int)≠0 by omega)
    have hm2:=Int.emod_lt_of_pos p (show (0:Int)<(x.2.1.length:Int) by omega)
    have:=h.nx x hx _ (iW (d:=0) (i:=(p%(x.2.1.length:Int)).toNat) (by omega))
    omega
theorem Ik {n:Int} (h1:-9223372036854775808≤n) (h2:n≤9223372036854775807):IntKind.i64.has n:=⟨h1,h2⟩
theorem Ac (id n:Int):0≤(place id n).2.1∧(place id n).2.1<64∧IntKind.i64.has (place id n).1:=by
  unfold place
  cases hc:(!dI n || !ah.inside id 1 256) with
  | true=>simp only [cond_true];exact ⟨by decide,by decide,Ik (by decide) (by decide)⟩
  | false=>
    simp only [cond_false]
    simp only [Bool.or_eq_false_iff,Bool.not_eq_false'] at hc
    have h2:=bE.1 hc.2
    rcases eT.1 hc.1 with rfl | rfl | rfl | rfl<;>exact ⟨by omega,by omega,Ik (by omega) (by omega)⟩
theorem qM (ln aD set nb:Int) (l:List Rw) (k:Nat) (hk:k<l.length):Az ln aD set nb (l.take (k+1)) =
    bif decide ((place (l.getD k zW).1 ln).1=set) && !decide (cu (l.getD k zW) aD=0)&&decide (cu (l.getD k zW) aD=nb) then Bt.or (Az ln aD set nb (l.take k)) (Bt.fA (place (l.getD k zW).1 ln).2.1) else Az ln aD set nb (l.take k):=by
  unfold Az
  rw [jo _ 0 l zW k hk]
theorem DR (ln aD set nb:Int) (l:List Rw):∀ k,U (Az ln aD set nb (l.take k))
  | 0=>U0
  | k+1=>by
    by_cases hk:k<l.length
    · rw [qM _ _ _ _ _ _ hk]
      have:=DR ln aD set nb l k
      cases (decide ((place (l.getD k zW).1 ln).1=set) && !decide (cu (l.getD k zW) aD=0)&&decide (cu (l.getD k zW) aD=nb)) with
      | true=>exact zY this (lI _)
      | false=>exact this
    · have:=DR ln aD set nb l k
      rw [List.take_of_length_le (by omega)] at this ⊢
      exact this
theorem JX (t:Tb) (p s nb:Int):U (gH t p s nb):=by
  unfold gH
  cases dS t p s with
  | true=>
    have:=DR t.2.2.1 p s nb t.2.2.2.1 t.2.2.2.1.length
    rw [List.take_length] at this
    exact this
  | false=>exact U0
def slV (v:Option Value):Option Addr×Nat×Nat:=match v with
  | some (.slice a n c)=>(a,n,c)
  | _=>(none,0,0)
theorem Ad {w W:World} {G:Nat→Nat} (hE:Ext w G W G) {t:Ty} {l:List t.den} {a:Option Addr} {c:Nat} (h:Gp w G 0 t l a c):Gp W G 0 t l a c:=by
  obtain ⟨h1,h2⟩:=h
  refine ⟨h1,h2.imp id ?_⟩
  rintro ⟨b,o,e,h3,h4⟩
  exact ⟨b,o,e,h3,h4.mono hE fun j _ hj=>hE.cell _ _ (by omega)⟩
theorem Td {w W:World} {G:Nat→Nat} {pt:Nat→Nat→Option Value} (hE:Ext w G W G) {r s ln:Int} {rows:List Rw} {a:Option Addr} {n c:Nat} (hr:IntKind.i64.has r) (hs:IntKind.i64.has s) (hl:IntKind.i64.has ln)
    (hn:n=rows.length) (hb:n*32≤big) (hsl:Gp w G 0 qX rows a c):aY W G pt (Db.con (r,s,ln,rows,())) (.agg #[.int .i64 r,.int .i64 s,.int .i64 ln,.slice a n c]):=by
  refine ⟨_,rfl,rfl,fun j hj=>?_⟩
  match j,hj with
  | 0,_=>exact ⟨⟨rfl,hr⟩,rfl⟩
  | 1,_=>exact ⟨⟨rfl,hs⟩,rfl⟩
  | 2,_=>exact ⟨⟨rfl,hl⟩,rfl⟩
  | 3,_=>exact ⟨⟨a,n,c,rfl,hn,hb,Ad hE hsl⟩,rfl⟩
theorem Te {W:World} {G:Nat→Nat} {pt:Nat→Nat→Option Value} {id:Int} {l:List Int} {a:Option Addr} {n c:Nat} (hr:IntKind.i64.has id)
    (hn:n=l.length) (hb:n*8≤big) (hsl:Gp W G 0 (.int .i64) l a c):aY W G pt (Uo.con (id,l,())) (.agg #[.int .i64 id,.slice a n c]):=by
  refine ⟨_,rfl,rfl,fun j hj=>?_⟩
  match j,hj with
  | 0,_=>exact ⟨⟨rfl,hr⟩,rfl⟩
  | 1,_=>exact ⟨⟨a,n,c,rfl,hn,hb,hsl⟩,rfl⟩
section
variable {E:Env} {W:World} {G:Nat→Nat}
def F5 (E:Env) (W:World) (G:Nat→Nat):Prop:=∀ g k l,E.glob g=some (k,l)→l.length≤G g∧∀ j (h:j<l.length),W.cell? ⟨g,j,none⟩=some (.int k l[j])∧k.has l[j]
theorem F5.mono {W':World} (h:F5 E W G) (hE:Ext W G W' G):F5 E W' G:=by
  intro g k l hg
  obtain ⟨h1,h2⟩:=h g k l hg
  refine ⟨h1,fun j hj=>?_⟩
  rw [hE.cell g j (by omega)]
  exact h2 j hj
theorem r96 (H:iL Tryz.prog E 93 c93) {id n:Int} (h1:IntKind.i64.has id) (h2:IntKind.i64.has n) (hgz:∀ b,W.heap.size≤b→G b=0) (hgl:F5 E W G) :
    Calls Tryz.prog 93 #[.int .i64 id,.int .i64 n] W fun e W'=>e = .returned (.tuple #[.int .i64 (place id n).1,.int .i64 (place id n).2.1,.bool (place id n).2.2.1])∧Below W.heap.size W W':=by
  refine (rT (ps:=[i,i]) (rs:=.gB [i,i,b]) H rfl (x:=(id,n,())) (y:=place id n) rfl rfl (fun j hj=>?_) hgz hgl).mono ?_
  · match j,hj with
    | 0,_=>exact ⟨rfl,h1⟩
    | 1,_=>exact ⟨rfl,h2⟩
  · rintro e W' ⟨vs,G',bJ,rfl,R⟩
    have hs:vs.size=3:=R.sz
    match vs,hs with
    | ⟨[x0,x1,x2]⟩,_=>
      have t0:x0 = .int .i64 (place id n).1∧_:=R.tm 0
      have t1:x1 = .int .i64 (place id n).2.1∧_:=R.tm 1
      have t2:x2 = .bool (place id n).2.2.1:=R.tm 2
      refine ⟨?_,R.HV⟩
      rw [t0.1,t1.1,t2]
      rfl
theorem r77 (H:iL Tryz.prog E 66 c66) {id p:Int} {l:List Int} {a:Option Addr} {n c:Nat} (hp:0≤p) (h1:IntKind.i64.has id) (h2:IntKind.i64.has p) (hn:n=l.length) (hb:n*8≤big) (hsl:Gp W G 0 (.int .i64) l a c)
    (hgz:∀ b,W.heap.size≤b→G b=0) (hgl:F5 E W G) :
    Calls Tryz.prog 66 #[.agg #[.int .i64 id,.slice a n c],.int .i64 p] W fun e W'=>e = .returned (.int .i64 (cu (id,l,()) p))∧Below W.heap.size W W':=by
  refine (rT (ps:=[Uo,i]) (rs:=.one i) H rfl (x:=((id,l,()),p,())) (y:=cu (id,l,()) p) rfl (by show ah.on (decide (0≤p)) _=_;rw [dT hp];rfl) (fun j hj=>?_) hgz hgl).mono ?_
  · match j,hj with
    | 0,_=>exact Te h1 hn hb hsl
    | 1,_=>exact ⟨rfl,h2⟩
  · rintro e W' ⟨vs,G',bJ,rfl,R⟩
    have hs:vs.size=1:=R.sz
    match vs,hs with
    | ⟨[x0]⟩,_=>
      have t0:x0 = .int .i64 (cu (id,l,()) p)∧_:=R.tm 0
      refine ⟨?_,R.HV⟩
      rw [t0.1]
      rfl
theorem r75 (H:iL Tryz.prog E 64 c64) {r s ln aD set:Int} {rows:List Rw} {a:Option Addr} {n c:Nat} (hr:IntKind.i64.has r) (hs:IntKind.i64.has s) (hl:IntKind.i64.has ln) (hp:IntKind.i64.has aD) (hse:IntKind.i64.has set)
    (hn:n=rows.length) (hb:n*32≤big) (hsl:Gp W G 0 qX rows a c) (hgz:∀ b,W.heap.size≤b→G b=0) (hgl:F5 E W G) :
    Calls Tryz.prog 64 #[.agg #[.int .i64 r,.int .i64 s,.int .i64 ln,.slice a n c],.int .i64 aD,.int .i64 set] W fun e W'=>e = .returned (.bool (dS (r,s,ln,rows,()) aD set))∧Below W.heap.size W W':=by
  refine (rT (ps:=[Db,i,i]) (rs:=.one Go.aW.fF.b) H rfl (x:=((r,s,ln,rows,()),aD,set,())) (y:=dS (r,s,ln,rows,()) aD set) rfl rfl (fun j hj=>?_) hgz hgl).mono ?_
  · match j,hj with
    | 0,_=>exact Td (Ext.refl _ _) hr hs hl hn hb hsl
    | 1,_=>exact ⟨rfl,hp⟩
    | 2,_=>exact ⟨rfl,hse⟩
  · rintro e W' ⟨vs,G',bJ,rfl,R⟩
    have hs:vs.size=1:=R.sz
    match vs,hs with
    | ⟨[x0]⟩,_=>
      have t0:x0 = .bool (dS (r,s,ln,rows,()) aD set):=R.tm 0
      refine ⟨?_,R.HV⟩
      rw [t0]
      rfl
end
theorem acQ {E:Env} (H75:iL Tryz.prog E 64 c64) (H77:iL Tryz.prog E 66 c66) (H96:iL Tryz.prog E 93 c93):iL Tryz.prog E 35 c35:=by
  rintro ⟨⟨⟩,⟨r,s,ln,rows,⟨⟩⟩,aD,set,nb,⟨⟩⟩ y hy C args w G pt hm eU hargs R K hK
  obtain rfl:(gH (r,s,ln,rows,()) aD set nb,())=y:=Option.some.inj hy
  obtain ⟨v0,v1,v2,v3,rfl⟩:∃ v0 v1 v2 v3,args = #[v0,v1,v2,v3]:=by
    have:args.size=4:=hargs
    match args,this with
    | ⟨[v0,v1,v2,v3]⟩,_=>exact ⟨v0,v1,v2,v3,rfl⟩
  obtain ⟨arr,hv0,hsz,hel⟩:∃ arr,v0 = .agg arr∧arr.size=4∧aQ w G pt _ (aO arr):=R.tm 0
  have t1:v1 = .int .i64 aD∧IntKind.i64.has aD:=R.tm 1
  have t2:v2 = .int .i64 set∧IntKind.i64.has set:=R.tm 2
  have t3:v3 = .int .i64 nb∧IntKind.i64.has nb:=R.tm 3
  obtain ⟨rfl,hpl⟩:=t1
  obtain ⟨rfl,hse⟩:=t2
  obtain ⟨rfl,hnb⟩:=t3
  obtain ⟨e0,e1,e2,e3,rfl⟩:∃ e0 e1 e2 e3,arr = #[e0,e1,e2,e3]:=by
    match arr,hsz with
    | ⟨[v0,v1,v2,v3]⟩,_=>exact ⟨v0,v1,v2,v3,rfl⟩
  subst hv0
  have q0:e0 = .int .i64 r∧IntKind.i64.has r:=(hel 0 (show (0:Nat)<4 by decide)).1
  have q1:e1 = .int .i64 s∧IntKind.i64.has s:=(hel 1 (show (1:Nat)<4 by decide)).1
  have q2:e2 = .int .i64 ln∧IntKind.i64.has ln:=(hel 2 (show (2:Nat)<4 by decide)).1
  obtain ⟨a,n,c,rfl,hn,hb,hsl⟩:∃ a n c,e3 = .slice a n c∧n=List.length (α:=Rw) rows∧n*32≤big∧Gp w G 0 qX rows a c:=(hel 3 (show (3:Nat)<4 by decide)).1
  obtain ⟨rfl,hr⟩:=q0
  obtain ⟨rfl,hs⟩:=q1
  obtain ⟨rfl,hl⟩:=q2
  have hgl:F5 E w G:=R.gl
  have gl':∀ {W},Below w.heap.size w W→F5 E W G:=fun h=>hgl.mono (ng h R.gz)
  have gz':∀ {W},Below w.heap.size w W→∀ b,W.heap.size≤b→G b=0:=fun h b hb=>R.gz b (Nat.le_trans h.size hb)
  have hcl:=Lp r s ln aD set nb a n c w (dS (r,s,ln,rows,()) aD set) (Az ln aD set nb rows) (wf_i64 hnb)
    (fun W hW=>r75 H75 hr hs hl hpl hse hn hb (Ad (ng hW R.gz) hsl) (gz' hW) (gl' hW)) (fun hv W hW=>?_)
  · refine hcl.mono ?_
    rintro e w' ⟨rfl,hB⟩
    have hU:=JX (r,s,ln,rows,()) aD set nb
    have R1:=R.RN (fun id=>by
      show get ((2*0,_)::(2*1,_)::(2*2,_)::(2*3,_)::[]) (2*id+1) = .undef
      simp only [get,tT (show 2*id+1≠2*0 by omega),tT (show 2*id+1≠2*1 by omega),tT (show 2*id+1≠2*2 by omega),tT (show 2*id+1≠2*3 by omega),cond_false]) hB (k:=.u64) (r:=gH (r,s,ln,rows,()) aD set nb) ⟨rfl,hU.1,by have:=hU.2;show _≤(18446744073709551615:Int);omega⟩
    exact hK #[.int .u64 (gH (r,s,ln,rows,()) aD set nb)] w' G pt R1
  · have hvv:qY (r,s,ln,rows,())∧0≤aD:=by
      unfold dS at hv
      simp only [Bool.and_eq_true,decide_eq_true_eq] at hv
      exact ⟨l7.1 hv.1.1.1.1,hv.1.1.1.2⟩
    obtain ⟨hT,hp0⟩:=hvv
    have hlen:rows.length≤256:=hT.n
    by_cases h0:rows=[]
    · subst h0
      obtain rfl:n=0:=hn
      refine (Tc r s ln aD set a c W).mono ?_
      rintro e W' ⟨M,D,rfl,h1,h2,h3⟩
      exact ⟨M,D,rfl,h1,h2 nb,h3⟩
    · obtain ⟨bb,o,rfl,ho,hE⟩:=hsl.2.resolve_left h0
      have hpos:0<rows.length:=List.length_pos_iff.2 h0
      have hnc:qX.nc=2:=rfl
      have hbw:bb<w.heap.size:=by
        rcases Nat.lt_or_ge bb w.heap.size with h | h
        · exact h
        · have:=R.gz bb h
          have ho:o+rows.length*2≤G bb:=ho
          omega
      have hWE:=ng hW R.gz
      have hEW:fB W G qX rows bb o:=hE.mono hWE fun j _ hj=>hWE.cell _ _ (by omega)
      have hrow:∀ k (hk:k<rows.length),W.cell? ⟨bb,o+k*2,none⟩=some (.int .i64 (rows.getD k zW).1)∧IntKind.i64.has (rows.getD k zW).1∧∃ a' n' c',W.cell? ⟨bb,o+k*2+1,none⟩=some (.slice a' n' c')∧n' = (rows.getD k zW).2.1.length∧n' * 8≤big∧Gp W G 0 (.int .i64) (rows.getD k zW).2.1 a' c':=by
        intro k hk
        rw [dH hk]
        obtain ⟨g1,⟨a',n',c',g2,Q5,gX4,gX5,gX6⟩,-⟩:=hEW k hk
        refine ⟨g1.1,g1.2,a',n',c',g2,Q5,gX4,by rw [←Q5];exact gX5,gX6.imp id ?_⟩
        rintro ⟨b',o',e,gX7,g4⟩
        exact ⟨b',o',e,by rw [←Q5];exact gX7,g4⟩
      have hm:∀ k,k<rows.length→rows.getD k zW∈rows:=fun k hk=>iW hk
      subst hn
      refine (Lm r s ln aD set bb o rows.length c W hlen (Nat.lt_of_lt_of_le hbw hW.size) (fun k=>(rows.getD k zW).1) (fun k=>cu (rows.getD k zW) aD) (fun k=>(place (rows.getD k zW).1 ln).1) (fun k=>(place (rows.getD k zW).1 ln).2.1)
        (fun k=>(place (rows.getD k zW).1 ln).2.2.1) (fun nb k=>Az ln aD set nb (rows.take k))
        (fun k=>(slV (W.cell? ⟨bb,o+k*2+1,none⟩)).1) (fun k=>(slV (W.cell? ⟨bb,o+k*2+1,none⟩)).2.1) (fun k=>(slV (W.cell? ⟨bb,o+k*2+1,none⟩)).2.2)
        (fun k hk=>(hrow k hk).1) (fun k hk=>?_) (fun k hk W2 hW2=>?_) (fun k hk W2 hW2=>?_) (fun k hk=>⟨(Ac _ _).1,(Ac _ _).2.1⟩) (fun k hk=>?_) (fun nb=>rfl) (fun k hk h1 h2 nb=>?_) (fun k hk h1 nb=>?_) (fun nb k=>DR ln aD set nb rows k)).mono ?_
      · obtain ⟨-,-,a',n',c',g,-⟩:=hrow k hk
        rw [g];rfl
      · have hB:=bT hW hW2 hW.size
        exact r96 H96 (hrow k hk).2.1 hl (gz' hB) (gl' hB)
      · have hB:=bT hW hW2 hW.size
        obtain ⟨-,g0,a',n',c',g,g1,g2,Q5⟩:=hrow k hk
        rw [g]
        exact r77 H77 hp0 g0 hpl g1 g2 (Ad (ng hW2 (gz' hW)) Q5) (gz' hB) (gl' hB)
      · have:=F4 hT (hm k hk) aD
        exact wf_i64 (Ik (by omega) (by omega))
      · rw [qM _ _ _ _ _ _ hk,dT h1,dF h2]
        by_cases h3:cu (rows.getD k zW) aD=nb
        · rw [dT h3,if_pos h3];rfl
        · rw [dF h3,if_neg h3];rfl
      · rw [qM _ _ _ _ _ _ hk]
        by_cases h2:(place (rows.getD k zW).1 ln).1=set
        · have h3:cu (rows.getD k zW) aD=0:=by
            by_cases h4:cu (rows.getD k zW) aD=0
            · exact h4
            · exact absurd ⟨h2,h4⟩ h1
          rw [dT h2,dT h3];rfl
        · rw [dF h2];rfl
      · rintro e W' ⟨M,D,rfl,h1,h2,h3⟩
        refine ⟨M,D,rfl,h1,?_,h3⟩
        have:=h2 nb
        rw [List.take_length] at this
        exact this
end Go.aW.fF
namespace Go.aW.fF
open Go Go.Proofs ah
open ah.Bt
set_option maxRecDepth 100000
theorem Ae (x y:Int) (i:Nat):tb (Bt.or x y) i=(tb x i || tb y i):=by
  unfold tb Bt.or
  rw [Int.toNat_natCast]
  exact Nat.testBit_or ..
theorem lJ (x y:Int) (i:Nat):tb (Bt.and x y) i=(tb x i&&tb y i):=by
  unfold tb Bt.and
  rw [Int.toNat_natCast]
  exact Nat.testBit_and ..
theorem xG (x:Int) {y:Int} (hy:U y) {i:Nat} (hi:i<64):tb (Bt.kg x y) i=(tb x i && !tb y i):=by
  unfold tb Bt.kg
  rw [Int.toNat_natCast]
  have h2:y.toNat<2 ^ 64:=FV hy
  have e:18446744073709551615 - y.toNat=2 ^ 64 - (y.toNat+1):=by omega
  rw [e]
  show (x.toNat &&& _).testBit i=_
  rw [Nat.testBit_and,Nat.testBit_two_pow_sub_succ h2]
  simp [hi]
theorem l8 {k:Nat} (hk:k<64) (i:Nat):tb (fA (k:Int)) i=decide (k=i):=by
  unfold tb fA
  rw [dF (show ¬ (k:Int)<0 by omega),dF (show ¬ 63<(k:Int) by omega)]
  simp only [Bool.or_self,cond_false,Int.toNat_natCast]
  have e:((2:Int) ^ k).toNat=2 ^ k:=by rw [pE,Int.toNat_natCast]
  rw [e]
  exact Nat.testBit_two_pow ..
theorem l9 (i:Nat):tb 0 i=false:=by
  unfold tb
  exact Nat.zero_testBit i
theorem Af {x y:Int} (hx:U x) (hy:U y) (h:∀ i,i<64→tb x i=tb y i):x=y:=by
  have h2:x.toNat=y.toNat:=by
    apply Nat.eq_of_testBit_eq
    intro i
    by_cases hi:i<64
    · exact h i hi
    · have e1:x.toNat<2 ^ i:=Nat.lt_of_lt_of_le (FV hx) (Nat.pow_le_pow_right (by decide) (by omega))
      have e2:y.toNat<2 ^ i:=Nat.lt_of_lt_of_le (FV hy) (Nat.pow_le_pow_right (by decide) (by omega))
      rw [Nat.testBit_lt_two_pow e1,Nat.testBit_lt_two_pow e2]
  have:=hx.1
  have:=hy.1
  omega
theorem DT {x:Int} (hx:U x) (y:Int):U (Bt.kg x y):=pO (Nat.lt_of_le_of_lt Nat.and_le_left (FV hx))
theorem pU {x:Int} (hx:U x) (y:Int):U (Bt.and x y):=pO (Nat.lt_of_le_of_lt Nat.and_le_left (FV hx))
theorem wz {x y:Int} (h:∀ i,i<64→tb y i=true→tb x i=true) {k:Nat} (hk:k<64) (h1:tb x k=true) (h2:tb y k=false):(ones y).length<(ones x).length:=by
  have e:ones y=(ones x).filter (tb y):=by
    unfold ones
    rw [List.filter_filter]
    refine List.filter_congr fun i hi=>?_
    have:=h i (List.mem_range.1 hi)
    cases hy:tb y i with
    | false=>simp
    | true=>rw [this hy];rfl
  rw [e]
  exact List.length_filter_lt_length_iff_exists.2 ⟨k,zQ.2 ⟨hk,h1⟩,by rw [h2];decide⟩
theorem F6 {x:Int} (hx:U x) (h:(ones x).length=0):x=0:=by
  refine Af hx U0 fun i hi=>?_
  rw [l9]
  cases ht:tb x i with
  | false=>rfl
  | true=>
    have:=zQ.2 ⟨hi,ht⟩
    rw [List.length_eq_zero_iff.1 h] at this
    cases this
theorem DU {x:Int} (hx:U x) (h:x≠0):∃ k:Nat,ah.Bt.nth x 0=(k:Int)∧k<64∧tb x k=true:=by
  obtain ⟨h1,h2⟩:=wo hx h
  refine ⟨_,acF hx h,h2,?_⟩
  exact (zQ.1 (by rw [h1];exact List.mem_cons_self)).2
theorem Qw {l:List Rw} (h:P7 l=true) {x:Rw} (hx:x∈l):l.find? (fun r=>decide (r.1=x.1))=some x:=by
  have hup:∀ i j,i<j→j<l.length→(l.getD i zW).1<(l.getD j zW).1:=by
    intro i j hij hj
    induction j with
    | zero=>omega
    | succ j ih=>
      have hs:(l.getD j zW).1<(l.getD (j+1) zW).1:=by
        unfold P7 at h
        rw [List.all_eq_true] at h
        have:=h j (List.mem_range.2 (by omega))
        simpa using this
      by_cases hij2:i=j
      · subst hij2;exact hs
      · have:=ih (by omega) (by omega)
        omega
  obtain ⟨k,hk,rfl⟩:=List.getElem_of_mem hx
  rw [List.find?_eq_some_iff_getElem]
  refine ⟨by simp,k,hk,rfl,fun j hj=>?_⟩
  have:=hup j k hj hk
  rw [dH (show j<l.length by omega),dH hk] at this
  simp only [Bool.not_eq_true',decide_eq_false_iff_not]
  omega
theorem Lr {t:Tb} {x:Rw} (hT:qY t) (hx:x∈t.2.2.2.1):dh t x.1=(x,true,()):=by
  unfold dh
  rw [Qw hT.uw hx]
theorem Il {t:Tb} {id:Int}:(dh t id).2.1=true→(dh t id).1∈t.2.2.2.1∧(dh t id).1.1=id:=by
  unfold dh
  cases h:t.2.2.2.1.find? (fun r=>decide (r.1=id)) with
  | none=>intro h;cases h
  | some r=>
    intro _
    have h1:=List.find?_some h
    exact ⟨List.mem_of_find?_eq_some h,by simpa using h1⟩
theorem DV (t:Tb) (id p:Int):zf t id p=cu (dh t id).1 p:=by
  unfold zf
  cases h:(dh t id).2.1 with
  | true=>rfl
  | false=>
    have:(dh t id).1=zW:=by
      unfold dh at h ⊢
      cases h2:t.2.2.2.1.find? (fun r=>decide (r.1=id)) with
      | none=>rfl
      | some r=>rw [h2] at h;cases h
    rw [this];rfl
theorem Ag {t:Tb} {id p:Int} (h:cu (dh t id).1 p≠0):(dh t id).1∈t.2.2.2.1∧(dh t id).1.1=id:=by
  refine Il ?_
  cases h2:(dh t id).2.1 with
  | true=>rfl
  | false=>
    have:=DV t id p
    unfold zf at this
    rw [h2] at this
    exact absurd this.symm h
def pV (t:Tb) (aD set len:Int) (i:Nat):Int:=cu (dh t (at_ set i len).1).1 aD
theorem JY {t:Tb} (hT:qY t) (aD set len:Int) (i:Nat):0≤pV t aD set len i∧pV t aD set len i≤99:=by
  by_cases h:pV t aD set len i=0
  · omega
  · exact F4 hT (Ag h).1 aD
theorem F7 {set len:Int} {i:Nat} (hl:dI len=true) {x:Int} (hx:1≤x) (h:(at_ set i len).1=x):(at_ set (i:Int) len).2.1=true∧x=set*len+i+1∧x≤256∧(i:Int)<len∧0≤set:=by
  unfold at_ at h ⊢
  rw [hl] at h ⊢
  simp only [Bool.not_true,Bool.false_or] at h ⊢
  cases hb:(!ah.inside (i:Int) 0 (len - 1) || !ah.inside set 0 31) with
  | true=>rw [hb] at h;simp only [cond_true] at h;omega
  | false=>
    rw [hb] at h
    simp only [cond_false] at h ⊢
    simp only [Bool.or_eq_false_iff,Bool.not_eq_false'] at hb
    have h1:=bE.1 hb.1
    have h2:=bE.1 hb.2
    by_cases hc:256<set*len+i+1
    · rw [dT hc] at h;simp only [cond_true] at h;omega
    · rw [dF hc] at h ⊢
      simp only [cond_false] at h ⊢
      exact ⟨trivial,h.symm,by omega,by omega,h2.1⟩
theorem Qx {set len:Int} {i:Nat} (hl:dI len=true) {x:Int} (hx:1≤x) (h:(at_ set i len).1=x):place x len=(set,(i:Int),true,()):=by
  obtain ⟨h1,h2,h3,h4,h5⟩:=F7 hl hx h
  unfold place
  rw [hl,bE.2 ⟨hx,h3⟩]
  simp only [Bool.not_true,Bool.or_self,cond_false]
  have hp:0<len:=by have:=eT.1 hl;omega
  have e:x - 1=i+set*len:=by omega
  have e1:(x - 1) / len=set:=by
    rw [e,Int.add_mul_ediv_right _ _ (by omega),Int.ediv_eq_zero_of_lt (by omega) h4]
    omega
  have e2:(x - 1)%len=i:=by
    rw [e,Int.add_mul_emod_self_right,Int.emod_eq_of_lt (by omega) h4]
  rw [e1,e2]
theorem F8 {x len set:Int} {i:Nat} (hl:dI len=true) (hx:1≤x∧x≤256) (hs:0≤set∧set≤31) (h1:(place x len).1=set) (h2:(place x len).2.1=i):at_ set i len=(x,true,()):=by
  unfold place at h1 h2
  rw [hl,bE.2 hx] at h1 h2
  simp only [Bool.not_true,Bool.or_self,cond_false] at h1 h2
  have hp:0<len:=by have:=eT.1 hl;omega
  have e:=Int.mul_ediv_add_emod (x - 1) len
  have e2:=Int.emod_lt_of_pos (x - 1) hp
  rw [h1,h2] at e
  rw [h2] at e2
  have e3:set*len+i+1=x:=by rw [Int.mul_comm];omega
  unfold at_
  rw [hl,bE.2 (show 0≤(i:Int)∧(i:Int)≤len - 1 by omega),bE.2 hs,e3,dF (show ¬ 256<x by omega)]
  rfl
theorem F9 (len aD set nb:Int) (l:List Rw) (i:Nat):∀ k,k≤l.length →
    (tb (Az len aD set nb (l.take k)) i=true↔∃ j,j<k∧(place (l.getD j zW).1 len).1=set∧cu (l.getD j zW) aD≠0∧cu (l.getD j zW) aD=nb∧(place (l.getD j zW).1 len).2.1=(i:Int))
  | 0,_=>by
    rw [show Az len aD set nb (l.take 0)=0 from rfl,l9]
    exact ⟨fun h=>(by cases h),fun ⟨j,h,_⟩=>(by omega)⟩
  | k+1,hk=>by
    have ih:=F9 len aD set nb l i k (by omega)
    rw [qM _ _ _ _ _ _ (by omega)]
    have split:(∃ j,j<k+1∧(place (l.getD j zW).1 len).1=set∧cu (l.getD j zW) aD≠0∧cu (l.getD j zW) aD=nb∧(place (l.getD j zW).1 len).2.1=(i:Int)) ↔
        ((∃ j,j<k∧(place (l.getD j zW).1 len).1=set∧cu (l.getD j zW) aD≠0∧cu (l.getD j zW) aD=nb∧(place (l.getD j zW).1 len).2.1=(i:Int)) ∨
          ((place (l.getD k zW).1 len).1=set∧cu (l.getD k zW) aD≠0∧cu (l.getD k zW) aD=nb∧(place (l.getD k zW).1 len).2.1=(i:Int))):=by
      constructor
      · rintro ⟨j,h1,h2⟩
        by_cases hj:j=k
        · subst hj;exact .inr h2
        · exact .inl ⟨j,by omega,h2⟩
      · rintro (⟨j,h1,h2⟩ | h)
        · exact ⟨j,by omega,h2⟩
        · exact ⟨k,by omega,h⟩
    rw [split,←ih]
    cases hc:(decide ((place (l.getD k zW).1 len).1=set) && !decide (cu (l.getD k zW) aD=0)&&decide (cu (l.getD k zW) aD=nb)) with
    | false=>
      simp only [cond_false]
      refine ⟨fun h=>Or.inl h,fun h=>?_⟩
      rcases h with h | ⟨h1,h2,h3,_⟩
      · exact h
      · rw [dT h1,dF h2,dT h3] at hc
        cases hc
    | true=>
      simp only [cond_true]
      simp only [Bool.and_eq_true,decide_eq_true_eq,Bool.not_eq_true',decide_eq_false_iff_not] at hc
      obtain ⟨⟨h1,h2⟩,h3⟩:=hc
      obtain ⟨p0,p1,-⟩:=Ac (l.getD k zW).1 len
      obtain ⟨m,hm⟩:∃ m:Nat,(place (l.getD k zW).1 len).2.1=(m:Int):=⟨(place (l.getD k zW).1 len).2.1.toNat,by omega⟩
      rw [Ae,hm,l8 (by omega),Bool.or_eq_true,decide_eq_true_eq]
      refine or_congr Iff.rfl ⟨fun h=>⟨h1,h2,h3,by omega⟩,fun h=>by omega⟩
theorem wB {t:Tb} (hT:qY t) (hl:dI t.2.2.1=true) {aD set nb:Int} (hp:0≤aD∧aD<8) (hs:0≤set∧set≤31) (i:Nat) :
    tb (gH t aD set nb) i=(decide (pV t aD set t.2.2.1 i=nb) && !decide (nb=0)):=by
  have hv:dS t aD set=true:=by
    unfold dS
    rw [dT (l7.2 hT),dT hp.1,dT hp.2,dT hs.1,dT hs.2]
    rfl
  unfold gH
  rw [hv]
  simp only [cond_true]
  have h:=F9 t.2.2.1 aD set nb t.2.2.2.1 i t.2.2.2.1.length (Nat.le_refl _)
  rw [List.take_length] at h
  rw [Bool.eq_iff_iff,h,Bool.and_eq_true,decide_eq_true_eq,Bool.not_eq_true',decide_eq_false_iff_not]
  constructor
  · rintro ⟨j,hj,h1,h2,h3,h4⟩
    have hm:t.2.2.2.1.getD j zW∈t.2.2.2.1:=iW hj
    have ha:=F8 hl (hT.id _ hm) hs h1 h4
    unfold pV
    rw [ha,Lr hT hm]
    exact ⟨h3,by omega⟩
  · rintro ⟨h1,h2⟩
    have hn:cu (dh t (at_ set i t.2.2.1).1).1 aD≠0:=by
      have:pV t aD set t.2.2.1 i≠0:=by omega
      exact this
    obtain ⟨hm,hid⟩:=Ag hn
    obtain ⟨j,hj,e⟩:=List.getElem_of_mem hm
    have hx:=hT.id _ hm
    have hp:=Qx hl (by rw [hid] at hx;exact hx.1) (i:=i) (set:=set) rfl
    refine ⟨j,hj,?_⟩
    rw [dH hj,e,hid,hp]
    exact ⟨rfl,hn,h1,rfl⟩
theorem Ga (t:Tb) (aD set nb:Int) (i:Nat):∀ k,k≤64→tb (zZ t aD set nb k) i=(decide (i<k)&&C9 t aD set nb i)
  | 0,_=>by
    rw [show zZ t aD set nb 0=0 from rfl,l9]
    rfl
  | k+1,hk=>by
    rw [wu]
    have ih:=Ga t aD set nb i k (by omega)
    by_cases hi:i=k
    · subst hi
      rw [dT (show i<i+1 by omega)]
      rw [dF (show ¬ i<i by omega)] at ih
      cases hh:C9 t aD set nb i with
      | true=>simp only [cond_true];rw [Ae,l8 (by omega),dT rfl];simp
      | false=>simp only [cond_false];rw [ih];rfl
    · have e:decide (i<k+1)=decide (i<k):=decide_eq_decide.2 (by omega)
      rw [e]
      cases hh:C9 t aD set nb k with
      | true=>simp only [cond_true];rw [Ae,ih,l8 (by omega),dF (show ¬ k=i by omega),Bool.or_false]
      | false=>simp only [cond_false];exact ih
theorem Ls {t:Tb} (hT:qY t) (hl:dI t.2.2.1=true) {aD set nb:Int} (hp:0≤aD∧aD<8) (hs:0≤set∧set≤31) (hn:1≤nb∧nb≤99) (i:Nat) :
    tb (P8 t aD set nb) i=decide (pV t aD set t.2.2.1 i=nb):=by
  have hlen:=eT.1 hl
  unfold P8
  rw [dT (l7.2 hT),dT hp.1,dT hp.2,dT hs.1,dT hs.2,dT hn.1,dT hn.2]
  show tb (zZ t aD set nb t.2.2.1.toNat) i=_
  rw [Ga t aD set nb i _ (by omega)]
  unfold C9
  rw [DV,dT (show 0<nb by omega)]
  show (decide (i<t.2.2.1.toNat)&&((at_ set (i:Int) t.2.2.1).2.1&&(true&&decide (pV t aD set t.2.2.1 i=nb))))=_
  by_cases h:pV t aD set t.2.2.1 i=nb
  · have hn2:cu (dh t (at_ set i t.2.2.1).1).1 aD≠0:=by
      have:pV t aD set t.2.2.1 i≠0:=by omega
      exact this
    obtain ⟨hm,hid⟩:=Ag hn2
    have hx:=hT.id _ hm
    obtain ⟨h1,h2,h3,h4,h5⟩:=F7 hl (by rw [hid] at hx;exact hx.1) (i:=i) (set:=set) rfl
    rw [dT h,h1,dT (show i<t.2.2.1.toNat by omega)]
    rfl
  · rw [dF h]
    simp
end Go.aW.fF
namespace Go.aW.fF
open Go Go.Proofs ah
open ah.Bt
set_option maxRecDepth 100000
structure nE (t:Tb) (p:Pk):Prop where
  T:qY t
  k:dx p=true
  n:t.2.2.1=ln p
def pkB (p:Pk) (g:Int):Pk:=(md p,sd p,ah.st p,ln p,ah.tl p - 1,en p,ig p,pr p,g,py p,())
abbrev hp (t:Tb) (p:Pk) (i:Nat):Int:=pV t (aD p) (ah.st p) t.2.2.1 i
theorem qN {p:Pk}:dx p=true↔(1≤md p∧md p≤3)∧(0≤sd p∧sd p≤7)∧(0≤ah.st p∧ah.st p≤31)∧(dI (ln p)=true∧bt p<2 ^ (ln p).toNat)∧(0≤tl p∧tl p≤63)∧(0≤en p∧en p≤1023)∧(0≤ig p∧ig p≤256)∧(0≤pr p∧pr p≤7)∧(py p).length≤64:=by
  unfold dx lC
  simp only [Bool.and_eq_true,bE,decide_eq_true_eq,and_assoc]
section
variable {t:Tb} {p:Pk}
theorem nE.l (h:nE t p):dI t.2.2.1=true:=by rw [h.n];exact (qN.1 h.k).2.2.2.1.1
theorem nE.pl (h:nE t p):0≤aD p∧aD p<8:=by
  unfold aD
  rw [h.k]
  simp only [cond_true]
  omega
theorem nE.st (h:nE t p):0≤ah.st p∧ah.st p≤31:=(qN.1 h.k).2.2.1
theorem nE.tl (h:nE t p):0≤ah.tl p∧ah.tl p≤63:=(qN.1 h.k).2.2.2.2.1
theorem aar (h:nE t p) (k:Nat):toF t (at_ (ah.st p) k (ln p)).1 (aD p)=hp t p k:=by
  have hv:dS t (aD p) 0=true:=by
    unfold dS
    rw [dT (l7.2 h.T),dT h.pl.1,dT h.pl.2]
    rfl
  unfold toF
  rw [hv,←h.n]
  rfl
theorem BU {x y:Int} (hx:U x) (hy:U y) (h:∀ i,i<64→tb x i=true→tb y i=true):x≤y:=by
  have e:x=Bt.and x y:=Af hx (Ih x hy) fun i hi=>by
    rw [lJ]
    cases ht:tb x i with
    | false=>rfl
    | true=>rw [h i hi ht];rfl
  rw [e]
  unfold Bt.and
  have:=Nat.and_le_right (n:=x.toNat) (m:=y.toNat)
  have hy0:=hy.1
  have:((Nat.land x.toNat y.toNat:Nat):Int)≤(y.toNat:Int):=by exact_mod_cast this
  omega
structure Inv (t:Tb) (p:Pk) (s:Int×Int×Int×List Cp):Prop where
  ul:U s.1
  uo:U s.2.1
  us:U s.2.2.1
  sub:∀ i,i<64→tb s.1 i=true→tb (bt p) i=true
  loc:∀ i,i<64→tb s.2.1 i=(tb (bt p) i && !tb s.1 i&&decide (hp t p i=t.1))
  lost:∀ i,i<64→tb s.2.2.1 i=(tb (bt p) i && !tb s.1 i&&(decide (hp t p i=0) || (decide (ah.tl p=0) && !decide (hp t p i=t.1))))
  grp:∀ i j,i<64→j<64→hp t p i=hp t p j→hp t p i≠0→hp t p i≠t.1→tb (bt p) i=true→tb (bt p) j=true→tb s.1 i=tb s.1 j
  cps:∀ c∈s.2.2.2,∃ g,c=(c.1,([],pkB p g,()),())∧U g∧g≠0∧c.1≠0∧c.1≠t.1∧(∀ i,i<64→tb g i=(tb (bt p) i&&decide (hp t p i=c.1)))∧∀ i,i<64→tb g i=true→tb s.1 i=false
  all:ah.tl p≠0→∀ i,i<64→tb (bt p) i=true→tb s.1 i=false→hp t p i≠0→hp t p i≠t.1→∃ c∈s.2.2.2,c.1=hp t p i
  nd:(s.2.2.2.map fun c=>c.1).Nodup
  tt:s.2.2.2≠[]→ah.tl p≠0
theorem Gb (hU:U (bt p)):Inv t p (bt p,0,0,[]):=by
  have z:∀ i (q:Bool),tb 0 i=(tb (bt p) i && !tb (bt p) i&&q):=fun i q=>by
    rw [l9]
    cases tb (bt p) i<;>rfl
  refine ⟨hU,U0,U0,fun i _ h=>h,fun i _=>z i _,fun i _=>z i _,fun i j _ _ _ _ _ h1 h2=>by rw [h1,h2],fun c hc=>(by cases hc),fun _ i _ h1 h2=>?_,List.nodup_nil,fun h=>absurd rfl h⟩
  simp only at h2
  rw [h1] at h2
  cases h2
theorem Gc (h:nE t p) {s:Int×Int×Int×List Cp} (hI:Inv t p s) (hU:U (bt p)) (h0:s.1≠0):∃ k:Nat,k<64∧tb s.1 k=true∧ah.Bt.nth s.1 0=(k:Int) ∧
    lF t p s=(bif decide (hp t p k=0) then (Bt.kg s.1 (fA k),s.2.1,Bt.or s.2.2.1 (fA k),s.2.2.2) else
      bif decide (hp t p k=t.1) then (Bt.kg s.1 (fA k),Bt.or s.2.1 (fA k),s.2.2.1,s.2.2.2) else
      bif !decide (ah.tl p=0) then (Bt.kg s.1 (Bt.and s.1 (gH t (aD p) (ah.st p) (hp t p k))),s.2.1,s.2.2.1,s.2.2.2++[(hp t p k,([],pkB p (Bt.and s.1 (gH t (aD p) (ah.st p) (hp t p k))),()),())]) else
      (Bt.kg s.1 (Bt.and s.1 (gH t (aD p) (ah.st p) (hp t p k))),s.2.1,Bt.or s.2.2.1 (Bt.and s.1 (gH t (aD p) (ah.st p) (hp t p k))),s.2.2.2)):=by
  obtain ⟨k,e,hk,hb⟩:=DU hI.ul h0
  refine ⟨k,hk,hb,e,?_⟩
  unfold lF
  simp only
  rw [e,aar h]
  cases hz:decide (hp t p k=0) with
  | true=>rfl
  | false=>
    simp only [cond_false]
    cases hr:decide (hp t p k=t.1) with
    | true=>rfl
    | false=>
      simp only [cond_false]
      have hz:=of_decide_eq_false hz
      have hmk:tb (gH t (aD p) (ah.st p) (hp t p k)) k=true:=by
        rw [wB h.T h.l h.pl h.st,dF hz]
        simp
      generalize hg:Bt.and s.1 (gH t (aD p) (ah.st p) (hp t p k))=g
      have Gd:U g:=by rw [←hg];exact pU hI.ul _
      have hgk:tb g k=true:=by rw [←hg,lJ,hb,hmk];rfl
      have hgn:g≠0:=by
        intro hz
        rw [hz,l9] at hgk
        cases hgk
      have hand:Bt.and s.1 g=g:=Af (pU hI.ul _) Gd fun i _=>by
        rw [←hg,lJ,lJ]
        cases tb s.1 i<;>rfl
      have hle:=BU hI.ul hU hI.sub
      obtain ⟨f1,f2,fX3,fX4,fX5,fX6,fX7,f4,f5⟩:=qN.1 h.k
      have hv:dx (FJ p s.1)=true:=qN.2 ⟨f1,f2,fX3,⟨fX4.1,Int.lt_of_le_of_lt hle fX4.2⟩,fX5,fX6,fX7,f4,f5⟩
      have em:masked (FJ p s.1) g=bif !decide (ah.tl p=0) then (pkB p g,true,()) else (zp,false,()):=by
        unfold masked
        rw [hv]
        show (bif true && !decide (ah.tl p=0) && !decide (Bt.and s.1 g=0) then ((md p,sd p,ah.st p,ln p,ah.tl p - 1,en p,ig p,pr p,Bt.and s.1 g,py p,()),true,()) else (zp,false,()))=_
        rw [hand,dF hgn]
        cases decide (ah.tl p=0)<;>rfl
      rw [em]
      cases decide (ah.tl p=0)<;>rfl
theorem JZ (h:nE t p) {s:Int×Int×Int×List Cp} (hI:Inv t p s) (hU:U (bt p)) (h0:s.1≠0):Inv t p (lF t p s)∧(ones (lF t p s).1).length<(ones s.1).length∧(lF t p s).2.2.2.length≤s.2.2.2.length+1:=by
  obtain ⟨k,hk,hb,-,e⟩:=Gc h hI hU h0
  have hbu:U (fA (k:Int)):=lI _
  have hS:=hI.sub k hk hb
  have hr0:=h.T.r
  by_cases hz:hp t p k=0
  · rw [e,dT hz]
    simp only [cond_true]
    have hl:∀ i,i<64→tb (Bt.kg s.1 (fA k)) i=(tb s.1 i && !decide (k=i)):=fun i hi=>by rw [xG _ hbu hi,l8 hk]
    refine ⟨⟨DT hI.ul _,hI.uo,zY hI.us hbu,fun i hi h1=>?_,fun i hi=>?_,fun i hi=>?_,fun i j hi hj e1 n0 nr b1 b2=>?_,fun c hc=>?_,fun ht i hi b1 b2 n0 nr=>?_,hI.nd,hI.tt⟩,?_,Nat.le_succ _⟩
    · rw [hl i hi] at h1
      simp only [Bool.and_eq_true] at h1
      exact hI.sub i hi h1.1
    · simp only
      rw [hI.loc i hi,hl i hi]
      by_cases hki:k=i
      · subst hki
        rw [dF (show ¬ hp t p k=t.1 by omega)]
        simp
      · rw [dF hki];simp
    · simp only
      rw [Ae,hI.lost i hi,hl i hi,l8 hk]
      by_cases hki:k=i
      · subst hki
        rw [hb,hS,dT hz,dT rfl];rfl
      · rw [dF hki];simp
    · simp only
      rw [hl i hi,hl j hj,hI.grp i j hi hj e1 n0 nr b1 b2,dF (show ¬ k=i by intro hh;subst hh;exact n0 hz),dF (show ¬ k=j by intro hh;subst hh;exact n0 (e1.trans hz))]
    · obtain ⟨g,q1,q2,q3,q4,q5,q6,q7⟩:=hI.cps c hc
      exact ⟨g,q1,q2,q3,q4,q5,q6,fun i hi hg=>by rw [hl i hi,q7 i hi hg];rfl⟩
    · refine hI.all ht i hi b1 ?_ n0 nr
      rw [hl i hi,dF (show ¬ k=i by intro hh;subst hh;exact n0 hz)] at b2
      simpa using b2
    · exact wz (k:=k) (fun i hi h1=>by rw [hl i hi] at h1;simp only [Bool.and_eq_true] at h1;exact h1.1) hk hb (by rw [hl k hk,dT rfl];simp)
  · by_cases hr:hp t p k=t.1
    · rw [e,dF hz,dT hr]
      simp only [cond_true,cond_false]
      have hl:∀ i,i<64→tb (Bt.kg s.1 (fA k)) i=(tb s.1 i && !decide (k=i)):=fun i hi=>by rw [xG _ hbu hi,l8 hk]
      refine ⟨⟨DT hI.ul _,zY hI.uo hbu,hI.us,fun i hi h1=>?_,fun i hi=>?_,fun i hi=>?_,fun i j hi hj e1 n0 nr b1 b2=>?_,fun c hc=>?_,fun ht i hi b1 b2 n0 nr=>?_,hI.nd,hI.tt⟩,?_,Nat.le_succ _⟩
      · rw [hl i hi] at h1
        simp only [Bool.and_eq_true] at h1
        exact hI.sub i hi h1.1
      · simp only
        rw [Ae,hI.loc i hi,hl i hi,l8 hk]
        by_cases hki:k=i
        · subst hki
          rw [hb,hS,dT hr,dT rfl];rfl
        · rw [dF hki];simp
      · simp only
        rw [hI.lost i hi,hl i hi]
        by_cases hki:k=i
        · subst hki
          rw [dF hz,dT hr]
          simp
        · rw [dF hki];simp
      · simp only
        rw [hl i hi,hl j hj,hI.grp i j hi hj e1 n0 nr b1 b2,dF (show ¬ k=i by intro hh;subst hh;exact nr hr),dF (show ¬ k=j by intro hh;subst hh;exact nr (e1.trans hr))]
      · obtain ⟨g,q1,q2,q3,q4,q5,q6,q7⟩:=hI.cps c hc
        exact ⟨g,q1,q2,q3,q4,q5,q6,fun i hi hg=>by rw [hl i hi,q7 i hi hg];rfl⟩
      · refine hI.all ht i hi b1 ?_ n0 nr
        rw [hl i hi,dF (show ¬ k=i by intro hh;subst hh;exact nr hr)] at b2
        simpa using b2
      · exact wz (k:=k) (fun i hi h1=>by rw [hl i hi] at h1;simp only [Bool.and_eq_true] at h1;exact h1.1) hk hb (by rw [hl k hk,dT rfl];simp)
    · rw [e,dF hz,dF hr]
      simp only [cond_false]
      have hm:∀ i,tb (gH t (aD p) (ah.st p) (hp t p k)) i=decide (hp t p i=hp t p k):=fun i=>by
        rw [wB h.T h.l h.pl h.st,dF hz]
        simp
      generalize hg:Bt.and s.1 (gH t (aD p) (ah.st p) (hp t p k))=g
      have Gd:U g:=by rw [←hg];exact pU hI.ul _
      have hgb:∀ i,tb g i=(tb s.1 i&&decide (hp t p i=hp t p k)):=fun i=>by rw [←hg,lJ,hm]
      have hgk:tb g k=true:=by rw [hgb,hb,dT rfl];rfl
      have hgn:g≠0:=by
        intro hz
        rw [hz,l9] at hgk
        cases hgk
      have hl:∀ i,i<64→tb (Bt.kg s.1 g) i=(tb s.1 i && !decide (hp t p i=hp t p k)):=fun i hi=>by
        rw [xG _ Gd hi,hgb]
        cases tb s.1 i<;>rfl
      have hgS:∀ i,i<64→tb g i=(tb (bt p) i&&decide (hp t p i=hp t p k)):=fun i hi=>by
        rw [hgb]
        by_cases hh:hp t p i=hp t p k
        · rw [dT hh]
          cases hsb:tb (bt p) i with
          | true=>rw [hI.grp i k hi hk hh (by omega) (by omega) hsb hS,hb]
          | false=>
            cases hsl:tb s.1 i with
            | false=>rfl
            | true=>have:=hI.sub i hi hsl;rw [hsb] at this;cases this
        · rw [dF hh];simp
      have less:(ones (Bt.kg s.1 g)).length<(ones s.1).length:=
        wz (k:=k) (fun i hi h1=>by rw [hl i hi] at h1;simp only [Bool.and_eq_true] at h1;exact h1.1) hk hb (by rw [hl k hk,dT rfl];simp)
      have sub':∀ i,i<64→tb (Bt.kg s.1 g) i=true→tb (bt p) i=true:=fun i hi h1=>by
        rw [hl i hi] at h1
        simp only [Bool.and_eq_true] at h1
        exact hI.sub i hi h1.1
      have loc':∀ i,i<64→tb s.2.1 i=(tb (bt p) i && !tb (Bt.kg s.1 g) i&&decide (hp t p i=t.1)):=fun i hi=>by
        rw [hI.loc i hi,hl i hi]
        by_cases hh:hp t p i=hp t p k
        · rw [dF (show ¬ hp t p i=t.1 by omega)];simp
        · rw [dF hh];simp
      have acS:∀ i j,i<64→j<64→hp t p i=hp t p j→hp t p i≠0→hp t p i≠t.1→tb (bt p) i=true→tb (bt p) j=true→tb (Bt.kg s.1 g) i=tb (Bt.kg s.1 g) j:=fun i j hi hj e1 n0 nr b1 b2=>by
        rw [hl i hi,hl j hj,hI.grp i j hi hj e1 n0 nr b1 b2,e1]
      have old':∀ c∈s.2.2.2,∃ g',c=(c.1,([],pkB p g',()),())∧U g'∧g'≠0∧c.1≠0∧c.1≠t.1∧(∀ i,i<64→tb g' i=(tb (bt p) i&&decide (hp t p i=c.1)))∧∀ i,i<64→tb g' i=true→tb (Bt.kg s.1 g) i=false:=fun c hc=>by
        obtain ⟨g',q1,q2,q3,q4,q5,q6,q7⟩:=hI.cps c hc
        exact ⟨g',q1,q2,q3,q4,q5,q6,fun i hi hg=>by rw [hl i hi,q7 i hi hg];rfl⟩
      by_cases ht:ah.tl p=0
      · rw [dT ht]
        simp only [Bool.not_true,cond_false]
        refine ⟨⟨DT hI.ul _,hI.uo,zY hI.us Gd,sub',loc',fun i hi=>?_,acS,old',fun h2=>absurd ht h2,hI.nd,hI.tt⟩,less,Nat.le_succ _⟩
        simp only
        rw [Ae,hI.lost i hi,hgb,hl i hi,dT ht]
        by_cases hh:hp t p i=hp t p k
        · rw [dT hh,dF (show ¬ hp t p i=0 by omega),dF (show ¬ hp t p i=t.1 by omega)]
          cases hsl:tb s.1 i with
          | true=>rw [hI.sub i hi hsl];rfl
          | false=>simp
        · rw [dF hh];simp
      · rw [dF ht]
        simp only [Bool.not_false,cond_true]
        refine ⟨⟨DT hI.ul _,hI.uo,hI.us,sub',loc',fun i hi=>?_,acS,fun c hc=>?_,fun _ i hi b1 b2 n0 nr=>?_,?_,fun _=>ht⟩,less,by simp⟩
        · simp only
          rw [hI.lost i hi,hl i hi,dF ht]
          by_cases hh:hp t p i=hp t p k
          · rw [dF (show ¬ hp t p i=0 by omega)];simp
          · rw [dF hh];simp
        · rcases List.mem_append.1 hc with hc | hc
          · exact old' c hc
          · rw [List.mem_singleton.1 hc]
            exact ⟨g,rfl,Gd,hgn,hz,hr,hgS,fun i hi hg1=>by rw [xG _ Gd hi,hg1];simp⟩
        · by_cases hh:hp t p i=hp t p k
          · exact ⟨_,List.mem_append.2 (.inr (List.mem_singleton.2 rfl)),hh.symm⟩
          · rw [hl i hi,dF hh] at b2
            obtain ⟨c,hc,e2⟩:=hI.all ht i hi b1 (by simpa using b2) n0 nr
            exact ⟨c,List.mem_append.2 (.inl hc),e2⟩
        · show (List.map _ (s.2.2.2++[_])).Nodup
          rw [List.map_append]
          refine List.nodup_append.2 ⟨hI.nd,by simp,fun a ha b hb'=>?_⟩
          simp only [List.map_cons,List.map_nil,List.mem_singleton] at hb'
          subst hb'
          obtain ⟨c,hc,rfl⟩:=List.mem_map.1 ha
          intro hh
          obtain ⟨g',q1,q2,q3,q4,q5,q6,q7⟩:=hI.cps c hc
          have:=q7 k hk (by rw [q6 k hk,hS,dT (show hp t p k=c.1 from hh.symm)];rfl)
          rw [hb] at this
          cases this
end
end Go.aW.fF
namespace Go.aW.fF
open Go Go.Proofs ah
open ah.Bt
set_option maxRecDepth 100000
theorem Ut {x y:Int} (hx:U x) (hy:U y):IntKind.wrap .u64 (Int.ofNat (BitVec.and (BitVec.ofInt 64 x) (BitVec.ofInt 64 y)).toNat)=Bt.and x y:=Lh hx hy
theorem pW {x y:Int} (hx:U x) (hy:U y):IntKind.wrap .u64 (Int.ofNat (BitVec.and (BitVec.ofInt 64 x) (BitVec.not (BitVec.ofInt 64 y))).toNat)=Bt.kg x y:=Ur hx hy
theorem ah2 {k:Nat} (hk:k<64):IntKind.wrap .u64 ((1:Int)*Int.pow (2:Int) (min (Int.toNat (k:Int)) 64))=fA (k:Int):=by
  have e:fA (k:Int)=2 ^ k:=by
    unfold fA
    rw [dF (show ¬ (k:Int)<0 by omega),dF (show ¬ 63<(k:Int) by omega)]
    rfl
  have hu:U ((2:Int) ^ k):=JR hk
  rw [e,Int.one_mul,Int.toNat_natCast,Nat.min_eq_left (by omega),pow2,wu64 hu.1 hu.2]
def Qy (t:Tb) (p:Pk) (s:Int×Int×Int×List Cp) (k to:Int):Int×Int×Int×List Cp:=
  bif decide (to=0) then (Bt.kg s.1 (Bt.fA k),s.2.1,Bt.or s.2.2.1 (Bt.fA k),s.2.2.2) else
  bif decide (to=t.1) then (Bt.kg s.1 (Bt.fA k),Bt.or s.2.1 (Bt.fA k),s.2.2.1,s.2.2.2) else
  let g:=Bt.and s.1 (gH t (aD p) (ah.st p) to)
  let q:=masked (FJ p s.1) g
  bif q.2.1 then (Bt.kg s.1 g,s.2.1,s.2.2.1,s.2.2.2++[(to,([],q.1,()),())]) else (Bt.kg s.1 g,s.2.1,Bt.or s.2.2.1 g,s.2.2.2)
theorem Lu (t:Tb) (p:Pk) (s:Int×Int×Int×List Cp):lF t p s=Qy t p s (ah.Bt.nth s.1 0) (toF t (at_ (ah.st p) (ah.Bt.nth s.1 0) (ln p)).1 (aD p)):=rfl
theorem Qz (a0 a1 a2:Int) (a3:List Rw) (a4 a5 a6 a7 a8 a9 aZ bH a12:Int) (bF:List Int) (h:nE (a0,a1,a2,a3,()) (a4,a5,a6,a7,a8,a9,aZ,bH,a12,bF,())) (hU:U a12)
    (s:Int×Int×Int×List Cp) (hI:Inv (a0,a1,a2,a3,()) (a4,a5,a6,a7,a8,a9,aZ,bH,a12,bF,()) s) (h0:s.1≠0) (hl:s.2.2.2.length≤64) :
    BO a0 a1 a2 a3 a4 a5 a6 a7 a8 a9 aZ bH a12 bF ((s.2.1,(s.2.2.1,(s.2.2.2,()))),(s.1,())) =
      some (.inl (((lF (a0,a1,a2,a3,()) (a4,a5,a6,a7,a8,a9,aZ,bH,a12,bF,()) s).2.1,((lF (a0,a1,a2,a3,()) (a4,a5,a6,a7,a8,a9,aZ,bH,a12,bF,()) s).2.2.1,((lF (a0,a1,a2,a3,()) (a4,a5,a6,a7,a8,a9,aZ,bH,a12,bF,()) s).2.2.2,()))),((lF (a0,a1,a2,a3,()) (a4,a5,a6,a7,a8,a9,aZ,bH,a12,bF,()) s).1,()))):=by
  obtain ⟨k,e,hk,hb⟩:=DU hI.ul h0
  have hbu:U (fA (k:Int)):=lI _
  have hmU:∀ nb,U (gH (a0,a1,a2,a3,()) (aD (a4,a5,a6,a7,a8,a9,aZ,bH,a12,bF,())) a6 nb):=fun nb=>JX _ _ _ _
  rw [Lu]
  unfold BO
  simp only
  rw [dF h0,e,dT (show (0:Int)≤(k:Int) by omega),ah2 hk]
  simp only [Bool.not_false,cond_true]
  generalize hto:(bif dS (a0,a1,a2,a3,()) (aD (a4,a5,a6,a7,a8,a9,aZ,bH,a12,bF,())) 0 then cu (dh (a0,a1,a2,a3,()) (at_ a6 (k:Int) a7).1).1 (aD (a4,a5,a6,a7,a8,a9,aZ,bH,a12,bF,())) else 0)=to
  rw [show toF (a0,a1,a2,a3,()) (at_ (ah.st (a4,a5,a6,a7,a8,a9,aZ,bH,a12,bF,())) (k:Int) (ln (a4,a5,a6,a7,a8,a9,aZ,bH,a12,bF,()))).1 (aD (a4,a5,a6,a7,a8,a9,aZ,bH,a12,bF,()))=to from hto]
  unfold Qy
  simp only [FJ,md,sd,ah.st,ln,ah.tl,en,ig,pr,py]
  cases decide (to=0) with
  | true=>
    simp only [cond_true]
    rw [uL hI.us hbu,pW hI.ul hbu]
  | false=>
    simp only [cond_false]
    cases decide (to=a0) with
    | true=>
      simp only [cond_true]
      rw [uL hI.uo hbu,pW hI.ul hbu]
    | false=>
      simp only [cond_false]
      rw [Ut hI.ul (hmU to)]
      have Gd:U (Bt.and s.1 (gH (a0,a1,a2,a3,()) (aD (a4,a5,a6,a7,a8,a9,aZ,bH,a12,bF,())) a6 to)):=pU hI.ul _
      generalize Bt.and s.1 (gH (a0,a1,a2,a3,()) (aD (a4,a5,a6,a7,a8,a9,aZ,bH,a12,bF,())) a6 to)=g at Gd ⊢
      generalize masked (a4,a5,a6,a7,a8,a9,aZ,bH,s.1,bF,()) g=q
      cases q.2.1 with
      | true=>
        simp only [cond_true]
        rw [j5 (show (s.2.2.2.length+1)*120≤140737488355328 by omega),pW hI.ul Gd]
        rfl
      | false=>
        simp only [cond_false,Option.bind_some]
        rw [uL hI.us Gd,pW hI.ul Gd]
theorem QA (a0 a1 a2:Int) (a3:List Rw) (a4 a5 a6 a7 a8 a9 aZ bH a12:Int) (bF:List Int) (h:nE (a0,a1,a2,a3,()) (a4,a5,a6,a7,a8,a9,aZ,bH,a12,bF,())) (hU:U a12):∀ m
    (s:Int×Int×Int×List Cp),Inv (a0,a1,a2,a3,()) (a4,a5,a6,a7,a8,a9,aZ,bH,a12,bF,()) s→(ones s.1).length≤m→s.2.2.2.length+m≤64 →
    Loop (BO a0 a1 a2 a3 a4 a5 a6 a7 a8 a9 aZ bH a12 bF) ((s.2.1,(s.2.2.1,(s.2.2.2,()))),(s.1,())) =
      some (((wX (a0,a1,a2,a3,()) (a4,a5,a6,a7,a8,a9,aZ,bH,a12,bF,()) m s).2.1,((wX (a0,a1,a2,a3,()) (a4,a5,a6,a7,a8,a9,aZ,bH,a12,bF,()) m s).2.2.1,((wX (a0,a1,a2,a3,()) (a4,a5,a6,a7,a8,a9,aZ,bH,a12,bF,()) m s).2.2.2,()))),()):=by
  have fin:∀ (s:Int×Int×Int×List Cp),s.1=0→Loop (BO a0 a1 a2 a3 a4 a5 a6 a7 a8 a9 aZ bH a12 bF) ((s.2.1,(s.2.2.1,(s.2.2.2,()))),(s.1,()))=some ((s.2.1,(s.2.2.1,(s.2.2.2,()))),()):=by
    intro s hs
    rw [aN]
    unfold BO
    simp only
    rw [dT hs]
    rfl
  intro m
  induction m with
  | zero=>
    intro s hI hm hl
    exact fin s (F6 hI.ul (Nat.le_zero.1 hm))
  | succ m ih=>
    intro s hI hm hl
    unfold wX
    by_cases h0:s.1=0
    · rw [dT h0];exact fin s h0
    · rw [dF h0]
      simp only [cond_false]
      obtain ⟨i1,i2,i3⟩:=JZ h hI hU h0
      rw [aN,Qz a0 a1 a2 a3 a4 a5 a6 a7 a8 a9 aZ bH a12 bF h hU s hI h0 (by omega)]
      exact ih _ i1 (by omega) (by omega)
theorem acT (a0:Int) (a1:Int) (a2:Int) (a3:(List (Int×((List Int)×Unit)))) (a4:Int) (a5:Int) (a6:Int) (a7:Int) (a8:Int) (a9:Int) (aZ:Int) (bH:Int) (a12:Int) (bF:(List Int)) (r0:IntKind.i64.has a0) (r1:IntKind.i64.has a1) (r2:IntKind.i64.has a2) (r3:(Ty.sl (qX)).ok a3) (r4:IntKind.i64.has a4) (r5:IntKind.i64.has a5) (r6:IntKind.i64.has a6) (r7:IntKind.i64.has a7) (r8:IntKind.i64.has a8) (r9:IntKind.i64.has a9) (Q6:IntKind.i64.has aZ) (r11:IntKind.i64.has bH) (r12:IntKind.u64.has a12) (r13:Ty.str.ok bF):g9 a0 a1 a2 a3 a4 a5 a6 a7 a8 a9 aZ bH a12 bF=some (ah.fwd (a0,a1,a2,a3,()) (a4,a5,a6,a7,a8,a9,aZ,bH,a12,bF,()),()):=by
  unfold g9
  by_cases c1:nk (a0,a1,a2,a3,())=0
  · cases hk:dx (a4,a5,a6,a7,a8,a9,aZ,bH,a12,bF,()) with
    | false=>
      rw [dT c1]
      simp only [Bool.not_true,Bool.not_false,cond_true,Option.bind_some]
      unfold fwd wY
      rw [dT c1,hk]
      rfl
    | true=>
      rw [dT c1]
      simp only [Bool.not_true,Bool.not_false,cond_true,cond_false,Option.bind_some]
      by_cases c2:a4=2
      · rw [dT c2]
        simp only [cond_true]
        unfold fwd wY
        rw [dT c1,hk,dT (show md (a4,a5,a6,a7,a8,a9,aZ,bH,a12,bF,())=2 from c2)]
        rfl
      · rw [dF c2]
        simp only [cond_false]
        have e8:∀ z:Option ((Oc×Int×Unit)×Unit),(¬ (a1=a5∧a2=a7)→z=some ((zOc,(8,())),()))→((a1=a5∧a2=a7)→z=some ((La (a0,a1,a2,a3,()) (a4,a5,a6,a7,a8,a9,aZ,bH,a12,bF,()),(0,())),())) →
            z=some (fwd (a0,a1,a2,a3,()) (a4,a5,a6,a7,a8,a9,aZ,bH,a12,bF,()),()):=by
          intro z h1 h2
          unfold fwd wY
          rw [dT c1,hk,dF (show ¬ md (a4,a5,a6,a7,a8,a9,aZ,bH,a12,bF,())=2 from c2)]
          simp only [Bool.not_true,Bool.or_self,cond_false]
          by_cases h3:a1=a5
          · by_cases h4:a2=a7
            · rw [h2 ⟨h3,h4⟩,dT (show (a0,a1,a2,a3,()).2.1=sd (a4,a5,a6,a7,a8,a9,aZ,bH,a12,bF,()) from h3),dT (show (a0,a1,a2,a3,()).2.2.1=ln (a4,a5,a6,a7,a8,a9,aZ,bH,a12,bF,()) from h4)]
              rfl
            · rw [h1 (fun hh=>h4 hh.2),dF (show ¬ (a0,a1,a2,a3,()).2.2.1=ln (a4,a5,a6,a7,a8,a9,aZ,bH,a12,bF,()) from h4)]
              simp
          · rw [h1 (fun hh=>h3 hh.1),dF (show ¬ (a0,a1,a2,a3,()).2.1=sd (a4,a5,a6,a7,a8,a9,aZ,bH,a12,bF,()) from h3)]
            simp
        refine e8 _ (fun hn=>?_) (fun hn=>?_)
        · by_cases h3:a1=a5
          · rw [dT h3,dF (show ¬ a2=a7 from fun hh=>hn ⟨h3,hh⟩)]
            rfl
          · rw [dF h3];rfl
        · rw [dT hn.1,dT hn.2]
          simp only [Bool.not_true,Bool.not_false,cond_true,cond_false,Option.bind_some]
          have hF:nE (a0,a1,a2,a3,()) (a4,a5,a6,a7,a8,a9,aZ,bH,a12,bF,()):=⟨l7.1 c1,hk,hn.2⟩
          have hU:U a12:=uh r12
          have hL:=QA a0 a1 a2 a3 a4 a5 a6 a7 a8 a9 aZ bH a12 bF hF hU 64 (a12,0,0,[]) (Gb (t:=(a0,a1,a2,a3,())) (p:=(a4,a5,a6,a7,a8,a9,aZ,bH,a12,bF,())) hU) (zU _) (by simp)
          simp only at hL
          rw [hL]
          rfl
  · rw [dF c1]
    simp only [Bool.not_false,Bool.not_true,cond_false,Option.bind_some]
    unfold fwd wY
    rw [dF c1]
    rfl
end Go.aW.fF
namespace Go.aW.fF
open Go Go.Proofs ah
open ah.Bt
set_option maxRecDepth 100000
def Up {α:Type} (f:α→Int) (d:α) (l:List α):Prop:=∀ i,i+1<l.length→f (l.getD i d)<f (l.getD (i+1) d)
theorem QB {α:Type} {f:α→Int} {d:α} {l:List α} {x:α} (h:Up f d l) (hx:∀ y∈l,f y<f x):Up f d (l++[x]):=by
  intro i hi
  rw [List.length_append,List.length_singleton] at hi
  rw [Fw,Fw,if_pos (show i<l.length by omega)]
  by_cases h1:i+1<l.length
  · rw [if_pos h1];exact h i h1
  · rw [if_neg h1,show i+1 - l.length=0 by omega]
    exact hx _ (iW (by omega))
theorem aat {l:List Rw} (h:Up (fun r=>r.1) zW l):P7 l=true:=by
  unfold P7
  rw [List.all_eq_true]
  intro i hi
  have:=List.mem_range.1 hi
  exact decide_eq_true (h i (by omega))
theorem aau {l:List Int} (h:Up (fun r=>r) 0 l):qG l=true:=by
  unfold qG
  rw [List.all_eq_true]
  intro i hi
  have:=List.mem_range.1 hi
  exact decide_eq_true (h i (by omega))
theorem Gf (l:List Rt) (t:Tp) (i:Nat):∀ k,(((mo l t k).1.getD i zR).1=(l.getD i zR).1)
  | 0=>rfl
  | k+1=>by
    have ih:=Gf l t i k
    rw [mo]
    simp only
    by_cases hk:k<(mo l t k).1.length
    · rw [NP hk]
      by_cases h:k=i
      · subst h;rw [if_pos rfl];exact ih
      · rw [if_neg h];exact ih
    · rw [List.set_eq_of_length_le (by omega)];exact ih
theorem Lx {t:Tp} (hw:wf t=true):1≤(mixed t 6).1.1.length∧(mixed t 6).1.1.length≤6∧∀ i,i<(mixed t 6).1.1.length→((mixed t 6).1.1.getD i zR).1=(i:Int)+1:=by
  have hr:=pJ (t:=t) (a:=1) (b:=6) (by omega)
  have e:(tX t 6 0).1.1=dM (range t 1 6).1.toNat:=rfl
  have hwt:=(DI (n:=0) hw (a:=6) (by omega)).1
  have hl:=(uJ (l:=(tX t 6 0).1.1) hwt (tX t 6 0).1.1.length).2
  have hlen:(mixed t 6).1.1.length=(range t 1 6).1.toNat:=by
    show (mo _ _ _).1.length=_
    rw [hl,e]
    simp [dM]
  refine ⟨by omega,by omega,fun i hi=>?_⟩
  show ((mo _ _ _).1.getD i zR).1=_
  rw [Gf,e]
  unfold dM
  rw [yX,if_pos (by omega)]
theorem Im {t:Tp} {g:To} (h1:1≤g.1.length) (h2:g.1.length≤6) (h3:∀ i,i<g.1.length→(g.1.getD i zR).1=(i:Int)+1):1≤(jd t g 0).1∧(jd t g 0).1≤6:=by
  unfold jd
  simp only [show decide ((0:Int)<0)=false from rfl,cond_false,Bool.false_or]
  rw [dF (show ¬ g.1.length=0 by omega)]
  simp only [cond_false]
  have hn:=dz (t:=t) (n:=(g.1.length:Int)) (by omega)
  rw [h3 _ (by omega)]
  omega
structure Tf (s:List Ed×Int×Tp):Prop where
  w:wf s.2.2=true
  z:0≤s.2.1
  i:∀ e∈s.1,1≤e.2.1∧e.2.1≤256∧e.2.1≤s.2.1
  u:Up (fun e=>e.2.1) zE s.1
theorem Tg {g:To} {len:Int} (hl:8≤len∧len≤64) {s:List Ed×Int×Tp} (h:Tf s) (x:Int):Tf (tY g len s x):=by
  have w1:=bq (n:=4) h.w
  unfold tY
  simp only
  generalize next s.2.2 4=c at w1 ⊢
  cases decide (c.1=0) with
  | true=>exact ⟨w1,h.z,h.i,h.u⟩
  | false=>
    simp only [cond_false]
    have w2:=dA (l:=[1,1,1,2,len - 1]) w1
    have m2:=lH c.2 (l:=[1,1,1,2,len - 1]) (by simp)
    simp only [List.mem_cons,List.not_mem_nil,or_false] at m2
    generalize ah.pick c.2 [1,1,1,2,len - 1]=q at w2 m2 ⊢
    have hz:=h.z
    by_cases hc:s.2.1+q.1≤256
    · rw [dT hc]
      simp only [cond_true]
      refine ⟨w2,by simp only;omega,fun e he=>?_,QB h.u fun y hy=>?_⟩
      · rcases List.mem_append.1 he with he | he
        · have:=h.i e he
          simp only
          omega
        · rw [List.mem_singleton.1 he]
          simp only
          omega
      · have:=h.i y hy
        simp only
        omega
    · rw [dF hc]
      simp only [cond_false]
      refine ⟨w2,by simp only;omega,fun e he=>?_,h.u⟩
      have:=h.i e he
      simp only
      omega
theorem Gg {g:To} {len:Int} (hl:8≤len∧len≤64):∀ (l:List Int) {s:List Ed×Int×Tp},Tf s→Tf (ji g len s l)
  | [],_,h=>h
  | x::r,s,h=>Gg hl r (Tg hl h x)
theorem Ti {t:Tp} {g:To} (hw:wf t=true):(0≤(kC t g 0).1.1∧(kC t g 0).1.1≤2)∧dI (kC t g 0).1.2.1=true∧(∀ e∈(kC t g 0).1.2.2.1,1≤e.2.1∧e.2.1≤256)∧Up (fun e=>e.2.1) zE (kC t g 0).1.2.2.1:=by
  have hn:=dz (t:=t) (n:=3) (by omega)
  have l2:=H9 (next t 3).2
  have w2:=nA (bq (n:=3) hw)
  have w3:=(pK w2 g.1.length).1
  have hE:=Gg (g:=g) (len:=(ah.length (next t 3).2).1) (by omega) (order (ah.length (next t 3).2).2 g.1.length).1 (s:=([],0,(order (ah.length (next t 3).2).2 g.1.length).2))
    ⟨w3,Int.le_refl _,fun e he=>(by cases he),fun i hi=>by simp at hi⟩
  refine ⟨?_,eT.2 l2,fun e he=>?_,hE.u⟩
  · show 0≤(next t 3).1∧(next t 3).1≤2
    omega
  · have:=hE.i e he
    exact ⟨this.1,this.2.1⟩
theorem Tj {r:Int} {s:List Int×Tp} {k:Nat} (h:Up (fun y=>y) 0 s.1) (hi:∀ y∈s.1,1≤y∧y≤(k:Int)∧y≠r):Up (fun y=>y) 0 (oG r s k).1∧∀ y∈(oG r s k).1,1≤y∧y≤(k:Int)+1∧y≠r:=by
  have old:∀ y∈s.1,1≤y∧y≤(k:Int)+1∧y≠r:=fun y hy=>by have:=hi y hy;exact ⟨this.1,by omega,this.2.2⟩
  unfold oG
  by_cases hr:(k:Int)+1=r
  · rw [dT hr];exact ⟨h,old⟩
  · rw [dF hr]
    simp only [Bool.not_false,cond_true]
    cases (one s.2 3).1 with
    | false=>exact ⟨h,old⟩
    | true=>
      refine ⟨QB h fun y hy=>(by have:=hi y hy;show y<(k:Int)+1;omega),fun y hy=>?_⟩
      rcases List.mem_append.1 hy with hy | hy
      · exact old y hy
      · rw [List.mem_singleton.1 hy]
        exact ⟨by omega,by omega,hr⟩
theorem Gh (r:Int) (t:Tp):∀ k,Up (fun y=>y) 0 ((List.range k).foldl (oG r) ([],t)).1∧∀ y∈((List.range k).foldl (oG r) ([],t)).1,1≤y∧y≤(k:Int)∧y≠r
  | 0=>⟨fun i hi=>by simp at hi,fun y hy=>(by cases hy)⟩
  | k+1=>by
    obtain ⟨i1,i2⟩:=Gh r t k
    rw [List.range_succ,List.foldl_append]
    exact Tj i1 i2
structure ah3 (r:Int) (x:Rw):Prop where
  nx:∀ y∈x.2.1,1≤y∧y≤99
  m:x.2.1.length≤24
  ui:qG x.2.1=true
  se:iX r x=false
theorem rows_ok {r:Int} (hr:1≤r∧r≤6) (l:List Ed) (t:Tp) (hw:wf t=true):∀ k,k≤l.length→(∀ x∈((l.take k).foldl (jD r) ([],t)).1,ah3 r x)∧((l.take k).foldl (jD r) ([],t)).1.map (fun x=>x.1)=(l.take k).map (fun e=>e.2.1)
  | 0,_=>⟨fun x hx=>(by cases hx),rfl⟩
  | k+1,hk=>by
    obtain ⟨i1,i2⟩:=rows_ok hr l t hw k (by omega)
    have w1:=(uN r l t hw k (by omega)).1
    rw [jo (jD r) _ l zE k (by omega),lu l k zE (by omega),List.map_append,←i2]
    generalize (l.take k).foldl (jD r) ([],t)=s at i1 w1 ⊢
    obtain ⟨n1,n2⟩:=Gh r s.2 7
    have n3:=(uM r s.2 w1 7).2
    unfold jD
    simp only
    generalize (List.range 7).foldl (oG r) ([],s.2)=n at n1 n2 n3 ⊢
    refine ⟨fun x hx=>?_,by rw [List.map_append];rfl⟩
    rcases List.mem_append.1 hx with hx | hx
    · exact i1 x hx
    · rw [List.mem_singleton.1 hx]
      cases (one n.2 5).1 with
      | true=>
        refine ⟨fun y hy=>?_,by simp,by rfl,?_⟩
        · simp only [cond_true,List.mem_singleton] at hy
          omega
        · unfold iX
          simp
      | false=>
        refine ⟨fun y hy=>?_,by simp only [cond_false];omega,aau n1,?_⟩
        · have:=n2 y hy
          omega
        · unfold iX
          simp only [cond_false]
          have:n.1.any (fun y=>decide (r=y))=false:=by
            rw [List.any_eq_false]
            intro y hy
            have:=n2 y hy
            simp only [decide_eq_true_eq]
            omega
          rw [this,Bool.and_false]
def Lo (len x:Int):Prop:=U x∧∀ i,i<64→tb x i=true→(i:Int)<len
theorem acU {len x:Int} (hl:dI len=true) (h:Lo len x):x<2 ^ len.toNat:=by
  have hv:=eT.1 hl
  have hle:=BU h.1 (zS len) (fun i hi hb=>by
    have:=h.2 i hi hb
    rw [uI hl]
    unfold tb
    rw [Int.toNat_natCast,Nat.testBit_two_pow_sub_one]
    exact decide_eq_true (by omega))
  have e:full len=2 ^ len.toNat - 1:=by unfold full;rw [hl];rfl
  rw [e] at hle
  omega
theorem Uu {len x y:Int} (hx:Lo len x) (hy:Lo len y):Lo len (Bt.or x y):=by
  refine ⟨zY hx.1 hy.1,fun i hi hb=>?_⟩
  rw [Ae,Bool.or_eq_true] at hb
  exact hb.elim (hx.2 i hi) (hy.2 i hi)
theorem Tk {len:Int}:Lo len 0:=⟨U0,fun i _ hb=>by rw [l9] at hb;cases hb⟩
theorem QC {id len:Int} (hl:dI len=true):Lo len (fA (place id len).2.1):=by
  have hv:=eT.1 hl
  have hp:0≤(place id len).2.1∧(place id len).2.1<len:=by
    unfold place
    cases (!dI len || !ah.inside id 1 256) with
    | true=>simp only [cond_true];omega
    | false=>exact ⟨Int.emod_nonneg _ (by omega),Int.emod_lt_of_pos _ (by omega)⟩
  obtain ⟨m,hm⟩:∃ m:Nat,(place id len).2.1=(m:Int):=⟨(place id len).2.1.toNat,by omega⟩
  refine ⟨lI _,fun i hi hb=>?_⟩
  rw [hm,l8 (by omega),decide_eq_true_eq] at hb
  omega
theorem Tn {t:Tp} {len:Int} (hl:dI len=true):Lo len (Bt.bits t len).1:=by
  refine ⟨Ih _ (zS _),fun i hi hb=>?_⟩
  unfold Bt.bits at hb
  simp only at hb
  rw [lJ,Bool.and_eq_true] at hb
  have h2:=hb.2
  rw [uI hl] at h2
  unfold tb at h2
  rw [Int.toNat_natCast,Nat.testBit_two_pow_sub_one,decide_eq_true_eq] at h2
  omega
theorem LA {id len:Int} (hl:dI len=true):0≤(place id len).1∧(place id len).1≤31:=by
  unfold place
  rw [hl]
  cases hi:ah.inside id 1 256 with
  | false=>simp only [Bool.not_true,Bool.not_false,Bool.or_true,cond_true];omega
  | true=>
    have h1:=bE.1 hi
    simp only [Bool.not_true,Bool.or_self,cond_false]
    rcases eT.1 hl with rfl | rfl | rfl | rfl<;>omega
theorem BX (p:Pn) (hl:dI p.2.1=true):∀ (l:List Ed) (s:Int×Int×Tp),Lo p.2.1 s.2.1→Lo p.2.1 (l.foldl (d9 p) s).2.1
  | [],_,h=>h
  | e::r,s,h=>by
    refine BX p hl r _ ?_
    unfold d9
    simp only
    cases decide ((place e.2.1 p.2.1).1=s.1) with
    | false=>exact h
    | true=>
      simp only [cond_true]
      cases decide (0<(next s.2.2 4).1) with
      | false=>exact h
      | true=>exact Uu h (QC hl)
theorem aav {t:Tp} (hw:wf t=true):(0≤en (packet t 0).1∧en (packet t 0).1≤1023)∧(0≤ig (packet t 0).1∧ig (packet t 0).1≤256)∧(0≤pr (packet t 0).1∧pr (packet t 0).1≤7)∧(py (packet t 0).1).length≤64:=by
  show (0≤en (pkt t).1∧en (pkt t).1≤1023)∧(0≤ig (pkt t).1∧ig (pkt t).1≤256)∧(0≤pr (pkt t).1∧pr (pkt t).1≤7)∧(py (pkt t).1).length≤64
  have w4:=dA (l:=[0,1,2,5,63]) (dA (l:=[0,0,1,2,31]) (eP (a:=0) (b:=7) (eP (a:=1) (b:=3) (nA hw))))
  generalize hh:ah.pick (ah.pick (range (range (ah.length t).2 1 3).2 0 7).2 [0,0,1,2,31]).2 [0,1,2,5,63]=h at w4
  have e1:=dz (t:=h.2) (n:=1024) (by omega)
  have e2:=lH (next h.2 1024).2 (l:=[0,1,8,255,256]) (by decide)
  have e3:=dz (t:=(ah.pick (next h.2 1024).2 [0,1,8,255,256]).2) (n:=8) (by omega)
  have w5:=xE (n:=(ah.length t).1) (bq (n:=8) (dA (l:=[0,1,8,255,256]) (bq (n:=1024) w4)))
  have e4:=zX (n:=6) w5 (by omega)
  subst hh
  refine ⟨⟨e1.1,Int.le_of_lt_add_one e1.2⟩,?_,⟨e3.1,Int.le_of_lt_add_one e3.2⟩,?_⟩
  · simp only [List.mem_cons,List.not_mem_nil,or_false] at e2
    show 0≤(ah.pick _ [0,1,8,255,256]).1∧(ah.pick _ [0,1,8,255,256]).1≤256
    omega
  · show (text _ 6).1.length≤64
    omega
theorem Tq {t:Tp} {p:Pn} (hw:wf t=true) (hl:dI p.2.1=true) (hs:0≤p.1∧p.1≤2) (x:Int) (hx:0≤x∧x≤63):dx (zh (oh t p).1 x)=true∧U (bt (zh (oh t p).1 x))∧md (zh (oh t p).1 x)=1∧sd (zh (oh t p).1 x)=p.1∧ln (zh (oh t p).1 x)=p.2.1:=by
  have hv:=eT.1 hl
  obtain ⟨q1,q2,q3,q4⟩:=aav hw
  unfold oh
  simp only
  generalize packet t 0=q at q1 q2 q3 q4 ⊢
  rw [dF (show ¬ p.2.1=0 by omega)]
  simp only [cond_false]
  have ha:0≤(bif decide (0<p.2.2.1.length) then ((place (p.2.2.1.getD (next q.2 p.2.2.1.length).1.toNat zE).2.1 p.2.1).1,(next q.2 p.2.2.1.length).2) else ((0:Int),q.2)).1 ∧
      (bif decide (0<p.2.2.1.length) then ((place (p.2.2.1.getD (next q.2 p.2.2.1.length).1.toNat zE).2.1 p.2.1).1,(next q.2 p.2.2.1.length).2) else ((0:Int),q.2)).1≤31:=by
    cases decide (0<p.2.2.1.length) with
    | false=>exact ⟨Int.le_refl _,by simp⟩
    | true=>exact LA hl
  generalize (bif decide (0<p.2.2.1.length) then ((place (p.2.2.1.getD (next q.2 p.2.2.1.length).1.toNat zE).2.1 p.2.1).1,(next q.2 p.2.2.1.length).2) else ((0:Int),q.2))=a at ha ⊢
  have hb:=BX p hl p.2.2.1 (a.1,0,a.2) Tk
  generalize p.2.2.1.foldl (d9 p) (a.1,0,a.2)=b at hb ⊢
  generalize one b.2.2 6=o
  have key:∀ y,Lo p.2.1 y→dx ((1,p.1,a.1,p.2.1,x,en q.1,ig q.1,pr q.1,y,py q.1,()):Pk)=true∧U y:=fun y hy=>
    ⟨qN.2 ⟨⟨(show (1:Int)≤1 by decide),(show (1:Int)≤3 by decide)⟩,⟨hs.1,by show p.1≤7;omega⟩,ha,⟨hl,acU hl hy⟩,hx,q1,q2,q3,q4⟩,hy.1⟩
  cases o.1 with
  | true=>
    obtain ⟨k1,k2⟩:=key _ (Uu hb (Tn (t:=o.2) hl))
    exact ⟨k1,k2,rfl,rfl,rfl⟩
  | false=>
    obtain ⟨k1,k2⟩:=key _ hb
    exact ⟨k1,k2,rfl,rfl,rfl⟩
theorem aaw {t:Tp} (hw:wf t=true):nE (tZ t).1.1 (tZ t).1.2∧U (bt (tZ t).1.2)∧wY (tZ t).1.1 (tZ t).1.2=0∧wf (tZ t).2=true:=by
  have w1:=(z8 (a:=6) hw (by omega)).1
  obtain ⟨g1,g2,Q5⟩:=Lx hw
  unfold tZ
  simp only
  generalize mixed t 6=g at w1 g1 g2 Q5 ⊢
  obtain ⟨w2,l2⟩:=Aa (g:=g.1) w1
  obtain ⟨p1,p2,p3,p4⟩:=Ti (g:=g.1) w1
  generalize kC g.2 g.1 0=p at w2 l2 p1 p2 p3 p4 ⊢
  have w3:=JW (p:=p.1) w2
  have hx:=lH (oh p.2 p.1).2 (l:=[1,4,63,0]) (by decide)
  have w4:=dA (l:=[1,4,63,0]) w3
  simp only [List.mem_cons,List.not_mem_nil,or_false] at hx
  have hq:=Tq w2 p2 p1 (ah.pick (oh p.2 p.1).2 [1,4,63,0]).1 (by omega)
  generalize zh (oh p.2 p.1).1 (ah.pick (oh p.2 p.1).2 [1,4,63,0]).1=q at hq ⊢
  generalize ah.pick (oh p.2 p.1).2 [1,4,63,0]=l at w4 hx ⊢
  have hr:=Im (t:=l.2) g1 g2 Q5
  have w5:=Ab (g:=g.1) w4
  generalize jd l.2 g.1 0=r at hr w5 ⊢
  obtain ⟨b1,b2⟩:=rows_ok hr p.1.2.2.1 r.2 w5 p.1.2.2.1.length (Nat.le_refl _)
  obtain ⟨b3,b4⟩:=uN r.1 p.1.2.2.1 r.2 w5 p.1.2.2.1.length (Nat.le_refl _)
  rw [List.take_length] at b1 b2 b3 b4
  generalize p.1.2.2.1.foldl (jD r.1) ([],r.2)=b at b1 b2 b3 b4 ⊢
  obtain ⟨q1,q2,q3,q4,q5⟩:=hq
  have ix:∀ i,i<b.1.length→(b.1.getD i zW).1=(p.1.2.2.1.getD i zE).2.1:=fun i hi=>by
    have h1:(b.1.map (fun x=>x.1)).getD i 0=(p.1.2.2.1.map (fun e=>e.2.1)).getD i 0:=by rw [b2]
    rw [List.getD_eq_getElem?_getD,List.getD_eq_getElem?_getD,List.getElem?_map,List.getElem?_map] at h1
    rw [List.getElem?_eq_getElem hi,List.getElem?_eq_getElem (show i<p.1.2.2.1.length by omega)] at h1
    rw [dH hi,dH (show i<p.1.2.2.1.length by omega)]
    simpa using h1
  have hid:∀ x∈b.1,1≤x.1∧x.1≤256:=fun x hx=>by
    obtain ⟨i,hi,rfl⟩:=List.getElem_of_mem hx
    rw [←dH (d:=zW) hi,ix i hi]
    exact p3 _ (iW (by omega))
  have hT:qY (r.1,p.1.1,p.1.2.1,b.1,()):=
    ⟨by show 1≤r.1∧r.1≤99;omega,by show 0≤p.1.1∧p.1.1≤7;omega,.inl p2,by show b.1.length≤256;omega,hid,fun x hx=>(b1 x hx).nx,fun x hx=>(b1 x hx).m,fun x hx=>(b1 x hx).ui,
      aat fun i hi=>(by have hi:i+1<b.1.length:=hi;show (b.1.getD i zW).1<(b.1.getD (i+1) zW).1;rw [ix i (by omega),ix (i+1) hi];exact p4 i (by omega)),fun x hx=>(b1 x hx).se⟩
  refine ⟨⟨hT,q1,q5.symm⟩,q2,?_,b3⟩
  unfold wY
  rw [dT (l7.2 hT),q1,q3,dT (show (r.1,p.1.1,p.1.2.1,b.1,()).2.1=sd q from q4.symm),dT (show (r.1,p.1.1,p.1.2.1,b.1,()).2.2.1=ln q from q5.symm)]
  rfl
end Go.aW.fF