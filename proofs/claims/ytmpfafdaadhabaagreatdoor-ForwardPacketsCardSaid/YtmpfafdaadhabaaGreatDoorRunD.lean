/- Chapter 13 (forward): proved is that functions that the law reaches keep their contracts (bits, topologies, packets, tables); no conditions but those that each theorem states. -/
import Derived.Test.YtmpfafdaadhabaaGreatDoorRunC
import Derived.Lib.TrailingZeros
set_option linter.unusedVariables false
set_option linter.unusedSimpArgs false
namespace Go.aW.fF
open Go Go.Proofs ah ah.Bt
set_option maxRecDepth 100000
def U (b:Int):Prop:=0≤b∧b<18446744073709551616
theorem Ia {b:Int} (h:U b):∃ m:Nat,b=m∧m<2 ^ 64:=⟨b.toNat,by have:=h.1;omega,by have:=h.2;omega⟩
theorem zQ {b:Int} {k:Nat}:k∈ones b↔k<64∧tb b k=true:=by simp [ones]
theorem FU (b:Int) (k:Nat):Ul b k≤k:=by
  unfold Ul
  have:=List.length_filter_le (tb b) (List.range k)
  simpa using this
theorem ofN (n:Nat):Int.ofNat n=(n:Int):=rfl
theorem uh {x:Int} (h:IntKind.u64.has x):U x:=RG h
theorem FV {x:Int} (h:U x):x.toNat<2 ^ 64:=by have:=h.1;have:=h.2;omega
theorem Lh {x y:Int} (hx:U x) (hy:U y):IntKind.wrap .u64 (Int.ofNat (BitVec.and (BitVec.ofInt 64 x) (BitVec.ofInt 64 y)).toNat)=((x.toNat &&& y.toNat:Nat):Int):=by
  have h:x.toNat &&& y.toNat<2 ^ 64:=Nat.and_lt_two_pow _ (FV hy)
  rw [bvand hx.1 (by have:=hx.2;omega) hy.1 (by have:=hy.2;omega),ofN]
  exact wu64 (by omega) (by omega)
theorem bor {x y:Int} (hx:U x) (hy:U y):IntKind.wrap .u64 (Int.ofNat (BitVec.or (BitVec.ofInt 64 x) (BitVec.ofInt 64 y)).toNat)=((x.toNat ||| y.toNat:Nat):Int):=by
  have h:x.toNat ||| y.toNat<2 ^ 64:=Nat.or_lt_two_pow (FV hx) (FV hy)
  rw [bvor hx.1 (by have:=hx.2;omega) hy.1 (by have:=hy.2;omega),ofN]
  exact wu64 (by omega) (by omega)
theorem ahS {x y:Int} (hx:U x) (hy:U y):IntKind.wrap .u64 (Int.ofNat (BitVec.xor (BitVec.ofInt 64 x) (BitVec.ofInt 64 y)).toNat)=((x.toNat ^^^ y.toNat:Nat):Int):=by
  have h:x.toNat ^^^ y.toNat<2 ^ 64:=Nat.xor_lt_two_pow (FV hx) (FV hy)
  rw [bvxor hx.1 (by have:=hx.2;omega) hy.1 (by have:=hy.2;omega),ofN]
  exact wu64 (by omega) (by omega)
theorem Ur {x y:Int} (hx:U x) (hy:U y):IntKind.wrap .u64 (Int.ofNat (BitVec.and (BitVec.ofInt 64 x) (BitVec.not (BitVec.ofInt 64 y))).toNat)=((x.toNat &&& (18446744073709551615 - y.toNat):Nat):Int):=by
  have hy2:=FV hy
  have h:x.toNat &&& (18446744073709551615 - y.toNat)<2 ^ 64:=Nat.and_lt_two_pow _ (by omega)
  have e:(BitVec.and (BitVec.ofInt 64 x) (BitVec.not (BitVec.ofInt 64 y))).toNat=x.toNat &&& (18446744073709551615 - y.toNat):=by
    show (BitVec.ofInt 64 x &&& ~~~ BitVec.ofInt 64 y).toNat=_
    rw [BitVec.toNat_and,BitVec.toNat_not,toNat_ofInt hx.1 (by have:=hx.2;omega),toNat_ofInt hy.1 (by have:=hy.2;omega)]
  rw [e,ofN]
  exact wu64 (by omega) (by omega)
theorem pO {n:Nat} (h:n<2 ^ 64):U (n:Int):=⟨by omega,by omega⟩
theorem JR {k:Nat} (h:k<64):U ((2:Int) ^ k):=by
  rw [pE]
  exact pO (Nat.pow_lt_pow_right (by decide) h)
theorem lI (k:Int):U (fA k):=by
  unfold fA
  by_cases h1:k<0
  · simp [h1,U]
  · by_cases h2:63<k
    · simp [h2,U]
    · rw [decide_eq_false h1,decide_eq_false h2]
      exact JR (by omega)
theorem Zp (a0:Int) (r0:IntKind.i64.has a0):g45 a0=some (ah.Bt.fA a0,()):=by
  unfold g45 ah.Bt.fA
  simp only [gt_iff_lt]
  by_cases h1:a0<0
  · rw [decide_eq_true h1];rfl
  · by_cases h2:63<a0
    · rw [decide_eq_false h1,decide_eq_true h2];rfl
    · have e1:IntKind.wrap .u64 a0=a0:=wu64 (by omega) (by omega)
      have hp:=JR (k:=a0.toNat) (by omega)
      have e2:IntKind.wrap .u64 ((2:Int) ^ a0.toNat)=2 ^ a0.toNat:=wu64 hp.1 hp.2
      rw [decide_eq_false h1,decide_eq_false h2,e1,decide_eq_true (show (0:Int)≤a0 by omega),show min a0.toNat 64=a0.toNat by omega,pow2,Int.one_mul,e2]
      rfl
theorem SA (i:Nat):(2 ^ i - 1) ||| 2 ^ i=2 ^ (i+1) - 1:=by
  refine Nat.eq_of_testBit_eq fun j=>?_
  rw [Nat.testBit_or,Nat.testBit_two_pow_sub_one,Nat.testBit_two_pow,Nat.testBit_two_pow_sub_one]
  by_cases h1:j<i
  · simp [h1];omega
  · by_cases h2:i=j
    · simp [h2]
    · have:¬ j<i+1:=by omega
      simp [h1,h2,this]
theorem Li (n:Nat) (hn:n≤64):Loop (rW (n:Int)) ((0:Int),(0:Int),())=some (((2 ^ n - 1:Nat):Int),()):=by
  have key:∀ k,k≤n→Loop (rW (n:Int)) (((n - k:Nat):Int),((2 ^ (n - k) - 1:Nat):Int),())=some (((2 ^ n - 1:Nat):Int),()):=by
    intro k
    induction k with
    | zero=>
      intro _
      have c:¬ ((n - 0:Nat):Int)<(n:Int):=by omega
      have hs:rW (n:Int) (((n - 0:Nat):Int),((2 ^ (n - 0) - 1:Nat):Int),())=some (.inr (((2 ^ (n - 0) - 1:Nat):Int),())):=by
        unfold rW
        simp only [c,decide_false,cond_false]
      rw [aN,hs]
      rfl
    | succ k ih=>
      intro hk
      have c:((n - (k+1):Nat):Int)<(n:Int):=by omega
      have e:IntKind.wrap .i64 (((n - (k+1):Nat):Int)+1)=((n - k:Nat):Int):=by rw [fu (by omega) (by omega)];omega
      have hb:fA ((n - (k+1):Nat):Int)=((2 ^ (n - (k+1)):Nat):Int):=by
        unfold fA
        rw [decide_eq_false (by omega),decide_eq_false (by omega)]
        simp only [Bool.or_self,cond_false,Int.toNat_natCast]
        exact pE _
      have hlt:2 ^ (n - (k+1))<2 ^ 64:=Nat.pow_lt_pow_right (by decide) (by omega)
      have hpos:=Nat.two_pow_pos (n - (k+1))
      have hs:rW (n:Int) (((n - (k+1):Nat):Int),((2 ^ (n - (k+1)) - 1:Nat):Int),())=some (.inl (((n - k:Nat):Int),((2 ^ (n - k) - 1:Nat):Int),())):=by
        unfold rW
        simp only [c,decide_true,cond_true,e,hb]
        rw [bor (pO (by omega)) (pO hlt),Int.toNat_natCast,Int.toNat_natCast,SA,show n - (k+1)+1=n - k by omega]
      rw [aN,hs]
      exact ih (by omega)
  have:=key n (Nat.le_refl _)
  rw [Nat.sub_self] at this
  exact this
theorem uI {n:Int} (h:dI n=true):full n=((2 ^ n.toNat - 1:Nat):Int):=by
  rcases eT.1 h with rfl | rfl | rfl | rfl<;>rfl
theorem Zq (a0:Int) (r0:IntKind.i64.has a0):g48 a0=some (ah.Bt.full a0,()):=by
  unfold g48
  cases hv:dI a0 with
  | false=>unfold ah.Bt.full;rw [hv];rfl
  | true=>
    have h1:=eT.1 hv
    rw [uI hv]
    obtain ⟨n,rfl⟩:∃ n:Nat,a0=(n:Int):=⟨a0.toNat,by omega⟩
    rw [Li n (by omega)]
    rfl
theorem U0:U 0:=⟨by decide,by decide⟩
theorem Um:U 18446744073709551615:=⟨by decide,by decide⟩
theorem zS (n:Int):U (full n):=by
  cases hv:dI n with
  | false=>unfold full;rw [hv];exact U0
  | true=>rcases eT.1 hv with rfl | rfl | rfl | rfl<;>exact ⟨by decide,by decide⟩
theorem Ib (x:Int):IntKind.wrap .u64 x=x.emod 18446744073709551616:=NM x
theorem DJ (x:Int):U (x.emod 18446744073709551616):=⟨Int.emod_nonneg x (by decide),Int.emod_lt_of_pos x (by decide)⟩
theorem acE (x:Int):U (x%18446744073709551616):=DJ x
theorem SB (t:Tp) (n:Int):U (BN t n).1:=by
  unfold BN
  simp only
  cases decide ((next (raw (raw t).2).2 6).1=0) with
  | true=>exact U0
  | false=>
    cases decide ((next (raw (raw t).2).2 6).1=1) with
    | true=>exact lI _
    | false=>
      cases decide ((next (raw (raw t).2).2 6).1=2) with
      | true=>exact Um
      | false=>exact pO (Nat.xor_lt_two_pow (FV (acE _)) (FV (DJ _)))
theorem Zr (a0:(List Int)) (a1:Int) (a2:Int) (r0:(Ty.sl (.int .i64)).ok a0) (r1:IntKind.i64.has a1) (r2:IntKind.i64.has a2) (h:(ah.wf (a0,a1,()))=true):g23 a0 a1 a2=some (ah.Bt.bits (a0,a1,()) a2):=by
  have w1:=zK h
  have w2:=zK w1
  have w3:=bq (n:=6) w2
  have hu:=SB (a0,a1,()) a2
  unfold g23 ah.Bt.bits
  rw [aX h]
  simp only [Option.bind_some]
  rw [aX w1]
  simp only [Option.bind_some]
  rw [aX w2]
  simp only [Option.bind_some]
  rw [aX w3]
  have hx:IntKind.wrap .u64 (Int.ofNat (BitVec.xor (BitVec.ofInt 64 (IntKind.wrap .u64 (IntKind.wrap .u64 (raw (a0,a1,())).1*11400714819323198485))) (BitVec.ofInt 64 (IntKind.wrap .u64 (raw (raw (a0,a1,())).2).1))).toNat)=(((Nat.xor ((raw (a0,a1,())).1.emod 18446744073709551616*11400714819323198485%18446744073709551616).toNat ((raw (raw (a0,a1,())).2).1.emod 18446744073709551616).toNat:Nat):Int)):=by
    rw [Ib (raw (a0,a1,())).1,Ib (raw (raw (a0,a1,())).2).1,Ib (_*11400714819323198485),ahS (DJ _) (DJ _)]
    rfl
  rw [hx]
  have hs:∀ v:Int,U v→IntKind.wrap .u64 (Int.ofNat (BitVec.and (BitVec.ofInt 64 v) (BitVec.ofInt 64 (full a2))).toNat)=ah.Bt.and v (full a2):=fun v hv=>Lh hv (zS a2)
  have hv:BN (a0,a1,()) a2=bif decide ((next (raw (raw (a0,a1,())).2).2 6).1=0) then (0,(next (raw (raw (a0,a1,())).2).2 6).2) else
      bif decide ((next (raw (raw (a0,a1,())).2).2 6).1=1) then (fA (next (next (raw (raw (a0,a1,())).2).2 6).2 a2).1,(next (next (raw (raw (a0,a1,())).2).2 6).2 a2).2) else
      bif decide ((next (raw (raw (a0,a1,())).2).2 6).1=2) then (18446744073709551615,(next (raw (raw (a0,a1,())).2).2 6).2) else
      ((((Nat.xor ((raw (a0,a1,())).1.emod 18446744073709551616*11400714819323198485%18446744073709551616).toNat ((raw (raw (a0,a1,())).2).1.emod 18446744073709551616).toNat:Nat):Int)),(next (raw (raw (a0,a1,())).2).2 6).2):=rfl
  rw [hv] at hu ⊢
  revert hu
  cases decide ((next (raw (raw (a0,a1,())).2).2 6).1=0) with
  | true=>intro hu;simp only [cond_true,Option.bind_some] at hu ⊢;rw [hs _ hu]
  | false=>
    cases decide ((next (raw (raw (a0,a1,())).2).2 6).1=1) with
    | true=>intro hu;simp only [cond_true,cond_false,Option.bind_some] at hu ⊢;rw [hs _ hu]
    | false=>
      cases decide ((next (raw (raw (a0,a1,())).2).2 6).1=2) with
      | true=>intro hu;simp only [cond_true,cond_false,Option.bind_some] at hu ⊢;rw [hs _ hu]
      | false=>intro hu;simp only [cond_false,Option.bind_some] at hu ⊢;rw [hs _ hu]
theorem SC (k m i:Nat):(2 ^ k*(2*m+1) &&& (2 ^ k*(2*m+1) - 1)).testBit i=((2 ^ k*(2*m+1)).testBit i&&decide (i≠k)):=by
  have hp:=Nat.two_pow_pos k
  have e:2 ^ k*(2*m+1) - 1=2 ^ k*(2*m)+(2 ^ k - 1):=by
    rw [Nat.mul_add,Nat.mul_one]
    omega
  rw [Nat.testBit_and,e,Nat.testBit_two_pow_mul_add _ (by omega),Nat.testBit_two_pow_mul]
  by_cases h1:i<k
  · have:¬ i≥k:=by omega
    simp [this]
  · rw [if_neg h1]
    by_cases h2:i=k
    · subst h2;simp
    · obtain ⟨j,rfl⟩:∃ j,i=k+(j+1):=⟨i - k - 1,by omega⟩
      have e1:k+(j+1) - k=j+1:=by omega
      have e2:(2*m+1).testBit (j+1)=m.testBit j:=by rw [Nat.testBit_succ];congr 1;omega
      have e3:(2*m).testBit (j+1)=m.testBit j:=by rw [Nat.testBit_succ];congr 1;omega
      rw [e1,e2,e3]
      have:k+(j+1)≠k:=by omega
      simp [this]
theorem SE (k m i:Nat):(2 ^ k*(2*m+1)).testBit i=true→k≤i:=by
  rw [Nat.testBit_two_pow_mul]
  intro h
  simp at h
  exact h.1
theorem Qj (k m:Nat):(2 ^ k*(2*m+1)).testBit k=true:=by
  rw [Nat.testBit_two_pow_mul]
  simp
theorem zT {p q:Nat→Bool} {k:Nat} (hp:p k=true) (hlt:∀ i,i<k→p i=false) (hq:∀ i,q i=(p i&&decide (i≠k))):∀ m,k<m→(List.range m).filter p=k::(List.range m).filter q
  | 0,h=>by omega
  | m+1,h=>by
    rw [List.range_succ,List.filter_append,List.filter_append]
    by_cases hk:k=m
    · subst hk
      have e1:(List.range k).filter p=[]:=by
        rw [List.filter_eq_nil_iff]
        intro i hi
        rw [List.mem_range] at hi
        simp [hlt i hi]
      have e2:(List.range k).filter q=[]:=by
        rw [List.filter_eq_nil_iff]
        intro i hi
        rw [List.mem_range] at hi
        simp [hq,hlt i hi]
      rw [e1,e2]
      simp [hp,hq]
    · rw [zT hp hlt hq m (by omega),List.cons_append]
      congr 2
      have:m≠k:=fun h=>hk h.symm
      by_cases hm:p m=true
      · simp [hm,hq,this]
      · simp [hm,hq]
def clr (b:Int):Int:=ah.Bt.and b (b - 1)
theorem wo {b:Int} (hb:U b) (h:b≠0):ones b=Lib.ctz 64 b.toNat::ones (clr b)∧Lib.ctz 64 b.toNat<64:=by
  obtain ⟨n,rfl,hn⟩:=Ia hb
  have h0:0<n:=by omega
  obtain ⟨m,h1,h2⟩:=Lib.ctzFrom_spec 64 n h0 hn
  have hc:Lib.ctz 64 n=Lib.ctzFrom 64 n:=by unfold Lib.ctz;rw [if_neg (by omega)]
  simp only [Int.toNat_natCast]
  rw [hc]
  refine ⟨?_,h2⟩
  unfold ones
  refine zT (k:=Lib.ctzFrom 64 n) ?_ ?_ (fun i=>?_) 64 h2
  · show n.testBit _=true
    conv=>lhs;arg 1;rw [h1]
    exact Qj _ _
  · intro i hi
    show n.testBit i=false
    cases hq:n.testBit i with
    | false=>rfl
    | true=>
      rw [h1] at hq
      have:=SE _ _ _ hq
      omega
  · show (clr (n:Int)).toNat.testBit i=(n.testBit i&&_)
    unfold clr ah.Bt.and
    rw [Int.toNat_natCast,Int.toNat_natCast,show ((n:Int) - 1).toNat=n - 1 by omega]
    have:=SC (Lib.ctzFrom 64 n) m i
    rw [←h1] at this
    exact this
theorem zU (b:Int):(ones b).length≤64:=FU b 64
theorem Qk (b:Int) (i:Nat) (h:i<(ones b).length):(list b).getD i 0=(((ones b).getD i 0:Nat):Int):=by
  unfold list
  rw [List.getD_eq_getElem?_getD,List.getElem?_map,List.getD_eq_getElem?_getD,List.getElem?_eq_getElem h]
  rfl
theorem FW (b:Int):(list b).length=(ones b).length:=by simp [list]
theorem acF {b:Int} (hb:U b) (h:b≠0):ah.Bt.nth b 0=((Lib.ctz 64 b.toNat:Nat):Int):=by
  obtain ⟨h1,_⟩:=wo hb h
  have hl:0<(ones b).length:=by rw [h1];simp
  unfold ah.Bt.nth
  have c:¬ (((list b).length:Nat):Int)≤0:=by rw [FW];omega
  rw [decide_eq_false (show ¬ (0:Int)<0 by omega),decide_eq_false c]
  show (list b).getD 0 0=_
  rw [Qk b 0 hl,h1]
  rfl
theorem SF:∀ i:Fin 64,([0,1,56,2,57,49,28,3,61,58,42,50,38,29,17,4,62,47,59,36,45,43,51,22,53,39,33,30,24,18,12,5,63,55,48,27,60,41,37,16,46,35,44,21,52,32,23,11,54,26,40,15,34,20,31,10,25,14,19,9,13,8,7,6]:List Int).getD i.val 0=((Lib.deBruijn64tab.getD i.val 0:Nat):Int):=by decide +kernel
def acG:List Int:=[0,1,56,2,57,49,28,3,61,58,42,50,38,29,17,4,62,47,59,36,45,43,51,22,53,39,33,30,24,18,12,5,63,55,48,27,60,41,37,16,46,35,44,21,52,32,23,11,54,26,40,15,34,20,31,10,25,14,19,9,13,8,7,6]
def tz (q:Int):Option (Int×Unit):=bif (decide (0≤q))&&(decide (q<64)) then (bif Nat.blt (0+(Int.toNat q)*1) 64 then some (IntKind.wrap .i64 (List.getD acG (0+(Int.toNat q)*1) 0),()) else none) else none
theorem acH {q:Nat} (h:q<64):tz (q:Int)=some (((Lib.deBruijn64tab.getD q 0:Nat):Int),()):=by
  have ht:acG.getD q 0=((Lib.deBruijn64tab.getD q 0:Nat):Int):=SF ⟨q,h⟩
  have hb:∀ i:Fin 64,Lib.deBruijn64tab.getD i.val 0<64:=by decide +kernel
  have hb:=hb ⟨q,h⟩
  simp only at hb
  unfold tz
  rw [decide_eq_true (show (0:Int)≤(q:Int) by omega),decide_eq_true (show (q:Int)<64 by omega),Int.toNat_natCast,Nat.zero_add,Nat.mul_one,l6 h,ht,fu (by omega) (by omega)]
  rfl
theorem Zt {b:Int} (hb:U b) (h0:b≠0):Int.fdiv (IntKind.wrap .u64 (IntKind.wrap .u64 (Int.ofNat (BitVec.and (BitVec.ofInt 64 b) (BitVec.ofInt 64 (IntKind.wrap .u64 (0 - b)))).toNat)*285870213051353865)) 288230376151711744=((2 ^ Lib.ctz 64 b.toNat*285870213051353865%18446744073709551616 / 288230376151711744:Nat):Int):=by
  obtain ⟨n,rfl,hn⟩:=Ia hb
  obtain ⟨q1,q2⟩:=Lib.lowest_bit 64 n (by omega) hn
  have e1:IntKind.wrap .u64 (0 - (n:Int))=((2 ^ 64 - n:Nat):Int):=by rw [NM];omega
  rw [e1,Lh hb (pO (by omega)),Int.toNat_natCast,Int.toNat_natCast,q1,NM,Int.fdiv_eq_ediv_of_nonneg _ (by decide)]
  generalize 2 ^ Lib.ctz 64 n=q
  omega
theorem Lj (a0:Int):g62 a0=bif decide (a0=0) then some (64,()) else tz (Int.fdiv (IntKind.wrap .u64 (IntKind.wrap .u64 (Int.ofNat (BitVec.and (BitVec.ofInt 64 a0) (BitVec.ofInt 64 (IntKind.wrap .u64 (0 - a0)))).toNat)*285870213051353865)) 288230376151711744):=rfl
theorem Zu (a0:Int) (r0:IntKind.u64.has a0) (h:(!decide (a0=0))=true):g62 a0=some (ah.Bt.nth a0 0,()):=by
  have hb:=uh r0
  have h0:a0≠0:=by simpa using h
  obtain ⟨q3,q4⟩:=Lib.deBruijn64_at _ (wo hb h0).2
  rw [Lj,decide_eq_false h0,Zt hb h0,acH q3,q4,acF hb h0]
  rfl
theorem Zv (a0:Int) (r0:IntKind.u64.has a0):g32 a0=some (ah.Bt.nth a0 0,()):=by
  unfold g32
  by_cases h:a0=0
  · subst h
    rfl
  · rw [decide_eq_false h]
    rfl
theorem Zw {n:Nat} (h:n≤64):Nat.ble ((n+1)*8) 140737488355328=true:=j5 (by omega)
theorem Zx {b:Int} {k:Nat} (h:k<64):Bt.has b (k:Int)=tb b k:=by
  unfold Bt.has
  rw [decide_eq_true (show (0:Int)≤(k:Int) by omega),decide_eq_true (show (k:Int)<64 by omega)]
  rfl
def pQ (b:Int) (k:Nat):List Int:=((List.range k).filter (tb b)).map fun (k:Nat)=>(k:Int)
theorem Ic (b:Int) (k:Nat):pQ b (k+1)=pQ b k++(if tb b k then [(k:Int)] else []):=by
  unfold pQ
  rw [List.range_succ,List.filter_append,List.map_append]
  congr 1
  by_cases h:tb b k=true<;>simp [h]
theorem Ll (b:Int) (k:Nat):(pQ b k).length≤k:=by
  unfold pQ
  rw [List.length_map]
  exact FU b k
theorem SG (a0:Int) (r0:IntKind.u64.has a0):YO a0=some (ah.Bt.list a0,()):=by
  have key:∀ k,k≤64→Loop (uF a0) (((64 - k:Nat):Int),pQ a0 (64 - k),())=some (pQ a0 64,()):=by
    intro k
    induction k with
    | zero=>intro _;rw [aN];rfl
    | succ k ih=>
      intro hk
      have c:((64 - (k+1):Nat):Int)<64:=by omega
      have e:IntKind.wrap .i64 (((64 - (k+1):Nat):Int)+1)=((64 - k:Nat):Int):=by rw [fu (by omega) (by omega)];omega
      have hl:=Ll a0 (64 - (k+1))
      have hs:uF a0 (((64 - (k+1):Nat):Int),pQ a0 (64 - (k+1)),())=some (.inl (((64 - k:Nat):Int),pQ a0 (64 - k),())):=by
        have e2:64 - k=64 - (k+1)+1:=by omega
        unfold uF
        rw [e2,Ic,←e2]
        simp only [c,decide_true,cond_true,Zx (b:=a0) (show 64 - (k+1)<64 by omega),Zw (n:=(pQ a0 (64 - (k+1))).length) (by omega),e]
        cases tb a0 (64 - (k+1))<;>simp
      rw [aN,hs]
      exact ih (by omega)
  have h:=key 64 (Nat.le_refl _)
  unfold YO
  have h':Loop (uF a0) ((0:Int),[],())=some (pQ a0 64,()):=h
  rw [h']
  rfl
def wa (x y:Int):Int:=IntKind.wrap .u64 (Int.ofNat (BitVec.and (BitVec.ofInt 64 x) (BitVec.ofInt 64 y)).toNat)
theorem Zy {x y:Nat} (hx:x<2 ^ 64) (hy:y<2 ^ 64):wa (x:Int) (y:Int)=((x &&& y:Nat):Int):=Lh (pO hx) (pO hy)
theorem fd (x d:Nat):Int.fdiv (x:Int) (d:Int)=((x / d:Nat):Int):=by
  rw [Int.fdiv_eq_ediv_of_nonneg _ (by omega),←Int.natCast_ediv]
theorem SH {x:Int} (hx:U x) (i:Nat):IntKind.wrap .u64 (Int.ofNat (BitVec.and (BitVec.ofInt 64 (Int.fdiv x (2 ^ i))) (BitVec.ofInt 64 1)).toNat)=(((tb x i).toNat:Nat):Int):=by
  obtain ⟨n,rfl,hn⟩:=Ia hx
  have h1:n / 2 ^ i<2 ^ 64:=Nat.lt_of_le_of_lt (Nat.div_le_self _ _) hn
  have e:Int.fdiv (n:Int) (2 ^ i)=((n / 2 ^ i:Nat):Int):=by rw [pE,fd]
  have a1:=Zy (x:=n / 2 ^ i) (y:=1) h1 (by decide)
  simp only [Int.cast_ofNat_Int] at a1
  unfold wa at a1
  rw [e,a1,Nat.and_one_is_mod]
  unfold tb
  rw [Int.toNat_natCast,Nat.testBit_eq_decide_div_mod_eq]
  by_cases h:n / 2 ^ i%2=1
  · rw [h];rfl
  · have:n / 2 ^ i%2=0:=by omega
    rw [this];rfl
theorem SI (a0:Int) (a1:Int) (r0:IntKind.u64.has a0) (r1:IntKind.i64.has a1):YP a0 a1=some (ah.Bt.has a0 a1,()):=by
  have hx:=uh r0
  unfold YP ah.Bt.has
  simp only [ge_iff_le]
  by_cases h1:0≤a1
  · by_cases h2:a1<64
    · obtain ⟨k,rfl⟩:∃ k:Nat,a1=(k:Int):=⟨a1.toNat,by omega⟩
      have e:IntKind.wrap .u64 (k:Int)=(k:Int):=wu64 (by omega) (by omega)
      rw [decide_eq_true h1,decide_eq_true h2,e,decide_eq_true h1,Int.toNat_natCast,show min k 64=k by omega,pow2,SH hx]
      simp only [cond_true,Option.bind_some,Bool.true_and]
      cases tb a0 k<;>rfl
    · rw [decide_eq_true h1,decide_eq_false h2]
      rfl
  · rw [decide_eq_false h1]
    rfl
end Go.aW.fF
namespace Go.aW.fF
open Go Go.Proofs ah
set_option maxRecDepth 100000
theorem DK {l:List Rt} (h:(Ty.sl D8).ok l):l.length≤8796093022208:=by
  have h:l.length*16≤140737488355328:=h.1
  omega
theorem Ql {l:List Lk} (h:(Ty.sl AA).ok l):l.length≤8796093022208:=by
  have h:l.length*40≤140737488355328:=h.1
  omega
theorem BP {α:Type} (b:Bool) (x y:α):(bif b then some x else some y)=some (bif b then x else y):=by cases b<;>rfl
theorem dH {α:Type} {l:List α} {d:α} {i:Nat} (h:i<l.length):l.getD i d=l[i]:=by
  rw [List.getD_eq_getElem?_getD,List.getElem?_eq_getElem h]
  rfl
theorem SK (l:List Rt):(List.range l.length).any (fun i=>decide (0<i)&&decide ((l.getD (i - 1) zR).1≥(l.getD i zR).1)) = !upR l:=by
  unfold upR
  rw [Bool.eq_iff_iff,List.any_eq_true]
  simp only [Bool.not_eq_true',Bool.and_eq_true,decide_eq_true_eq,List.mem_range]
  rw [Bool.eq_false_iff,ne_eq,List.all_eq_true]
  constructor
  · rintro ⟨i,h1,h2,h3⟩ hc
    have:=of_decide_eq_true (hc (i - 1) (List.mem_range.2 (by omega)))
    rw [show i - 1+1=i by omega] at this
    omega
  · intro hc
    refine Classical.byContradiction fun hn=>hc fun i hi=>?_
    have hi:=List.mem_range.1 hi
    refine decide_eq_true ?_
    refine Classical.byContradiction fun h2=>hn ⟨i+1,by omega,by omega,?_⟩
    rw [show i+1 - 1=i by omega]
    omega
theorem SL (l:List Lk):(List.range l.length).any (fun i=>decide (0<i) && !ku (l.getD (i - 1) zL) (l.getD i zL)) = !upL l:=by
  unfold upL
  rw [Bool.eq_iff_iff,List.any_eq_true]
  simp only [Bool.not_eq_true',Bool.and_eq_true,decide_eq_true_eq,List.mem_range]
  rw [Bool.eq_false_iff,ne_eq,List.all_eq_true]
  constructor
  · rintro ⟨i,h1,h2,h3⟩ hc
    have:=hc (i - 1) (List.mem_range.2 (by omega))
    rw [show i - 1+1=i by omega,h3] at this
    cases this
  · intro hc
    refine Classical.byContradiction fun hn=>hc fun i hi=>?_
    have hi:=List.mem_range.1 hi
    refine Classical.byContradiction fun h2=>hn ⟨i+1,by omega,by omega,?_⟩
    rw [show i+1 - 1=i by omega]
    exact Bool.eq_false_iff.2 h2
theorem Zz (a0:Int) (r0:IntKind.i64.has a0):g82 a0=some (ah.inside a0 1 1000,()):=by
  unfold g82 ah.inside
  show (Option.bind (bif decide (1≤a0) then some (decide (a0≤1000),()) else some (false,())) fun y3=>some y3)=_
  cases decide (1≤a0)<;>rfl
theorem rX {α β:Type} (f:(Int×Unit)→Option (Sum (Int×Unit) (Bool×(β×Unit)))) (l:List α) (d:α) (hit:α→Option β) (z:β)
    (hs:∀ i:Nat,i<l.length→f ((i:Int),())=some (match hit (l.getD i d) with | some v=>.inr (true,(v,())) | none=>.inl (((i+1:Nat):Int),())))
    (he:f ((l.length:Int),())=some (.inr (false,(z,())))):Loop f ((0:Int),())=some (match l.findSome? hit with | some v=>(true,(v,())) | none=>(false,(z,()))):=by
  have key:∀ j k,k+j=l.length→Loop f ((k:Int),())=some (match (l.drop k).findSome? hit with | some v=>(true,(v,())) | none=>(false,(z,()))):=by
    intro j
    induction j with
    | zero=>
      intro k hk
      have hk:k=l.length:=by omega
      subst hk
      rw [aN,he,List.drop_length]
      rfl
    | succ j ih=>
      intro k hk
      have hlt:k<l.length:=by omega
      rw [aN,hs k hlt,List.drop_eq_getElem_cons hlt,List.findSome?_cons,dH hlt]
      cases hit l[k] with
      | some v=>rfl
      | none=>exact ih (k+1) (by omega)
  exact key l.length 0 (by omega)
theorem Jv {ρ:Type} (f:(Int×Unit)→Option (Sum (Int×Unit) ρ)) (n:Nat) (bad:Nat→Bool) (R1 R0:ρ)
    (h1:∀ i:Nat,1≤i→i<n→f ((i:Int),())=some (bif bad i then .inr R1 else .inl (((i+1:Nat):Int),())))
    (h0:∀ i:Nat,n≤i→i≤n+1→f ((i:Int),())=some (.inr R0)):Loop f ((1:Int),())=some (bif (List.range n).any (fun i=>decide (0<i)&&bad i) then R1 else R0):=by
  have key:∀ j k,k+j=n→1≤k→(∀ i,0<i→i<k→bad i=false)→Loop f ((k:Int),())=some (bif (List.range n).any (fun i=>decide (0<i)&&bad i) then R1 else R0):=by
    intro j
    induction j with
    | zero=>
      intro k hk hk1 hn
      have hk:k=n:=by omega
      subst hk
      rw [aN,h0 k (Nat.le_refl _) (by omega)]
      have:(List.range k).any (fun i=>decide (0<i)&&bad i)=false:=by
        rw [Bool.eq_false_iff]
        intro h
        obtain ⟨x,hx,hp⟩:=List.any_eq_true.1 h
        simp only [Bool.and_eq_true,decide_eq_true_eq] at hp
        rw [hn x hp.1 (List.mem_range.1 hx)] at hp
        cases hp.2
      rw [this]
      rfl
    | succ j ih=>
      intro k hk hk1 hn
      rw [aN,h1 k hk1 (by omega)]
      cases hb:bad k with
      | true=>
        have:(List.range n).any (fun i=>decide (0<i)&&bad i)=true:=List.any_eq_true.2 ⟨k,List.mem_range.2 (by omega),by rw [hb,decide_eq_true (show 0<k by omega)];rfl⟩
        rw [this]
        rfl
      | false=>
        refine ih (k+1) (by omega) (by omega) fun i hi hik=>?_
        by_cases h:i=k
        · rw [h];exact hb
        · exact hn i hi (by omega)
  by_cases hn:1≤n
  · exact key (n - 1) 1 (by omega) (Nat.le_refl _) (fun i h1 h2=>by omega)
  · have:n=0:=by omega
    subst this
    rw [aN]
    have:=h0 1 (by omega) (by omega)
    have this:f ((1:Int),())=_:=this
    rw [this]
    rfl
theorem ZA (a0:(List (Int×(Bool×Unit)))) (a1:(List (Int×(Int×(Int×(Int×(Int×Unit))))))) (a2:Int) (r0:(Ty.sl (D8)).ok a0) (r1:(Ty.sl (AA)).ok a1) (r2:IntKind.i64.has a2):g83 a0 a1 a2=some (ah.gQ a0 a2,()):=by
  have hl:=DK r0
  have h:=rX (Di a0 a2) a0 (0,false,()) (fun r=>bif decide (r.1=a2) then some (true,()) else none) (false,()) (fun i hi=>by
    unfold Di
    simp only [Int.ofNat_eq_natCast,Int.toNat_natCast]
    rw [decide_eq_true (show (i:Int)<(a0.length:Int) by omega),decide_eq_true (show (0:Int)≤(i:Int) by omega),fu (n:=(i:Int)+1) (by omega) (by omega)]
    cases decide ((a0.getD i (0,false,())).1=a2)<;>rfl) (by
    unfold Di
    simp only [Int.ofNat_eq_natCast]
    rw [decide_eq_false (show ¬ (a0.length:Int)<(a0.length:Int) by omega)]
    rfl)
  unfold g83
  rw [h]
  clear h r0 hl
  induction a0 with
  | nil=>rfl
  | cons x r ih=>
    rw [List.findSome?_cons]
    show _=some ((decide (x.1=a2) || ah.gQ r a2),())
    cases decide (x.1=a2) with
    | true=>rfl
    | false=>exact ih
theorem ZB (l:List Rt) (hl:l.length≤8796093022208):Loop (zB l) ((1:Int),())=some (bif !upR l then (true,((25,()),())) else (false,((0,()),()))):=by
  rw [←SK]
  refine Jv (zB l) l.length _ _ _ (fun k h0 hlt=>?_) (fun i hi hi2=>?_)
  · have e1:IntKind.wrap .i64 ((k:Int) - 1)=((k - 1:Nat):Int):=by rw [fu (by omega) (by omega)];omega
    have e2:IntKind.wrap .i64 ((k:Int)+1)=((k+1:Nat):Int):=by rw [fu (by omega) (by omega)];omega
    unfold zB
    simp only [Int.ofNat_eq_natCast,Int.toNat_natCast,e1,e2]
    rw [decide_eq_true (show (k:Int)<(l.length:Int) by omega),decide_eq_true (show (0:Int)≤((k - 1:Nat):Int) by omega),decide_eq_true (show ((k - 1:Nat):Int)<(l.length:Int) by omega),decide_eq_true (show (0:Int)≤(k:Int) by omega)]
    simp only [Bool.and_self,cond_true]
    exact BP _ _ _
  · unfold zB
    simp only [Int.ofNat_eq_natCast]
    rw [decide_eq_false (show ¬ (i:Int)<(l.length:Int) by omega)]
    rfl
theorem order2 (l:List Lk) (hl:l.length≤8796093022208):Loop (zG l) ((1:Int),())=some (bif !upL l then (true,((25,()),())) else (false,((0,()),()))):=by
  rw [←SL]
  refine Jv (zG l) l.length _ _ _ (fun k h0 hlt=>?_) (fun i hi hi2=>?_)
  · have e1:IntKind.wrap .i64 ((k:Int) - 1)=((k - 1:Nat):Int):=by rw [fu (by omega) (by omega)];omega
    have e2:IntKind.wrap .i64 ((k:Int)+1)=((k+1:Nat):Int):=by rw [fu (by omega) (by omega)];omega
    unfold zG
    simp only [Int.ofNat_eq_natCast,Int.toNat_natCast,e1,e2]
    rw [decide_eq_true (show (k:Int)<(l.length:Int) by omega),decide_eq_true (show (0:Int)≤((k - 1:Nat):Int) by omega),decide_eq_true (show ((k - 1:Nat):Int)<(l.length:Int) by omega),decide_eq_true (show (0:Int)≤(k:Int) by omega)]
    simp only [Bool.and_self,cond_true]
    have hb:∀ a b:Lk,Option.bind (bif !decide (a.1 > b.1) then (bif decide (a.1=b.1) then some (decide (a.2.1≥b.2.1),()) else some (false,())) else some (true,())) (fun y2:Bool×Unit=>bif y2.1 then some (Sum.inr (true,(((25:Int),()),()))) else some (Sum.inl (((k+1:Nat):Int),()))) =
        some (bif !ku a b then (Sum.inr (true,(((25:Int),()),())):Sum (Int×Unit) (Bool×((Int×Unit)×Unit))) else Sum.inl (((k+1:Nat):Int),())):=by
      intro a b
      unfold ku
      by_cases h1:a.1<b.1
      · rw [decide_eq_true h1,decide_eq_false (show ¬ a.1 > b.1 by omega),decide_eq_false (show ¬ a.1=b.1 by omega)];rfl
      by_cases h2:a.1 > b.1
      · rw [decide_eq_false h1,decide_eq_true h2,decide_eq_false (show ¬ a.1=b.1 by omega)];rfl
      rw [decide_eq_false h1,decide_eq_false h2,decide_eq_true (show a.1=b.1 by omega)]
      by_cases h3:a.2.1<b.2.1
      · rw [decide_eq_true h3,decide_eq_false (show ¬ a.2.1≥b.2.1 by omega)];rfl
      · rw [decide_eq_false h3,decide_eq_true (show a.2.1≥b.2.1 by omega)];rfl
    exact hb _ _
  · unfold zG
    simp only [Int.ofNat_eq_natCast]
    rw [decide_eq_false (show ¬ (i:Int)<(l.length:Int) by omega)]
    rfl
theorem BL {α ρ:Type} (f:(Int×Unit)→Option (Sum (Int×Unit) ρ)) (l:List α) (d:α) (bad:α→Bool) (R1 R0:ρ)
    (h1:∀ i:Nat,i<l.length→f ((i:Int),())=some (bif bad (l.getD i d) then .inr R1 else .inl (((i+1:Nat):Int),())))
    (h0:f ((l.length:Int),())=some (.inr R0)):Loop f ((0:Int),())=some (bif l.any bad then R1 else R0):=
  vQ l d bad R1 R0 (fun i hi hlt=>by
    obtain ⟨k,rfl⟩:∃ n:Nat,i=n:=⟨i.toNat,by omega⟩
    rw [h1 k (by omega),Int.toNat_natCast]
    rfl) h0
theorem ZC (a0:(List (Int×(Bool×Unit)))) (a1:(List (Int×(Int×(Int×(Int×(Int×Unit))))))) (r0:(Ty.sl (D8)).ok a0) (r1:(Ty.sl (AA)).ok a1):g49 a0 a1=some (ah.wW (a0,a1,()),()):=by
  have h1:=DK r0
  have h2:=Ql r1
  have l0:Loop (Du a0) ((0:Int),())=some (bif a0.any P6 then (true,((2,()),())) else (false,((0,()),()))):=by
    refine BL _ a0 (0,false,()) P6 _ _ (fun k hk=>?_) ?_
    · have e2:IntKind.wrap .i64 ((k:Int)+1)=((k+1:Nat):Int):=by rw [fu (by omega) (by omega)];omega
      unfold Du P6 ah.inside
      simp only [Int.ofNat_eq_natCast,Int.toNat_natCast,e2]
      rw [decide_eq_true (show (k:Int)<(a0.length:Int) by omega),decide_eq_true (show (0:Int)≤(k:Int) by omega)]
      simp only [Bool.and_self,cond_true]
      by_cases q1:(a0.getD k (0,false,())).1<1
      · rw [decide_eq_true q1,decide_eq_false (show ¬ 1≤(a0.getD k (0,false,())).1 by omega)];rfl
      by_cases q2:(a0.getD k (0,false,())).1 > 99
      · rw [decide_eq_false q1,decide_eq_true q2,decide_eq_true (show 1≤(a0.getD k (0,false,())).1 by omega),decide_eq_false (show ¬ (a0.getD k (0,false,())).1≤99 by omega)];rfl
      · rw [decide_eq_false q1,decide_eq_false q2,decide_eq_true (show 1≤(a0.getD k (0,false,())).1 by omega),decide_eq_true (show (a0.getD k (0,false,())).1≤99 by omega)];rfl
    · unfold Du
      simp only [Int.ofNat_eq_natCast]
      rw [decide_eq_false (show ¬ (a0.length:Int)<(a0.length:Int) by omega)]
      rfl
  have l2:Loop (Dv a1) ((0:Int),())=some (bif a1.any K9 then (true,((2,()),())) else (false,((0,()),()))):=by
    refine BL _ a1 (0,0,0,0,0,()) K9 _ _ (fun k hk=>?_) ?_
    · have e2:IntKind.wrap .i64 ((k:Int)+1)=((k+1:Nat):Int):=by rw [fu (by omega) (by omega)];omega
      have hb:∀ x:Lk,K9 x=(!ah.inside x.2.2.1 1 1000 || !ah.inside x.2.2.2.1 1 1000 || (decide (x.2.2.2.2.1<0) || decide (x.2.2.2.2.1 > 1000))):=by
        intro x
        unfold K9 ah.inside
        congr 1
        by_cases q1:x.2.2.2.2.1<0
        · rw [decide_eq_true q1,decide_eq_false (show ¬ 0≤x.2.2.2.2.1 by omega)];rfl
        by_cases q2:x.2.2.2.2.1 > 1000
        · rw [decide_eq_false q1,decide_eq_true q2,decide_eq_true (show 0≤x.2.2.2.2.1 by omega),decide_eq_false (show ¬ x.2.2.2.2.1≤1000 by omega)];rfl
        · rw [decide_eq_false q1,decide_eq_false q2,decide_eq_true (show 0≤x.2.2.2.2.1 by omega),decide_eq_true (show x.2.2.2.2.1≤1000 by omega)];rfl
      unfold Dv
      simp only [Int.ofNat_eq_natCast,Int.toNat_natCast,e2]
      rw [decide_eq_true (show (k:Int)<(a1.length:Int) by omega),decide_eq_true (show (0:Int)≤(k:Int) by omega),hb]
      cases ah.inside (a1.getD k (0,0,0,0,0,())).2.2.1 1 1000 with
      | false=>rfl
      | true=>
      cases ah.inside (a1.getD k (0,0,0,0,0,())).2.2.2.1 1 1000 with
      | false=>rfl
      | true=>
      cases decide ((a1.getD k (0,0,0,0,0,())).2.2.2.2.1<0) with
      | true=>rfl
      | false=>cases decide ((a1.getD k (0,0,0,0,0,())).2.2.2.2.1 > 1000)<;>rfl
    · unfold Dv
      simp only [Int.ofNat_eq_natCast]
      rw [decide_eq_false (show ¬ (a1.length:Int)<(a1.length:Int) by omega)]
      rfl
  have l3:Loop (Dw a0 a1) ((0:Int),())=some (bif a1.any (fun l=>!ah.gQ a0 l.1 || !ah.gQ a0 l.2.1) then (true,((4,()),())) else (false,((0,()),()))):=by
    refine BL _ a1 (0,0,0,0,0,()) _ _ _ (fun k hk=>?_) ?_
    · have e2:IntKind.wrap .i64 ((k:Int)+1)=((k+1:Nat):Int):=by rw [fu (by omega) (by omega)];omega
      unfold Dw
      simp only [Int.ofNat_eq_natCast,Int.toNat_natCast,e2]
      rw [decide_eq_true (show (k:Int)<(a1.length:Int) by omega),decide_eq_true (show (0:Int)≤(k:Int) by omega)]
      cases ah.gQ a0 (a1.getD k (0,0,0,0,0,())).1 with
      | false=>rfl
      | true=>cases ah.gQ a0 (a1.getD k (0,0,0,0,0,())).2.1<;>rfl
    · unfold Dw
      simp only [Int.ofNat_eq_natCast]
      rw [decide_eq_false (show ¬ (a1.length:Int)<(a1.length:Int) by omega)]
      rfl
  have l4:Loop (Dx a1) ((0:Int),())=some (bif a1.any down then (true,((8,()),())) else (false,((0,()),()))):=by
    refine BL _ a1 (0,0,0,0,0,()) down _ _ (fun k hk=>?_) ?_
    · have e2:IntKind.wrap .i64 ((k:Int)+1)=((k+1:Nat):Int):=by rw [fu (by omega) (by omega)];omega
      unfold Dx
      simp only [Int.ofNat_eq_natCast,Int.toNat_natCast,e2]
      rw [decide_eq_true (show (k:Int)<(a1.length:Int) by omega),decide_eq_true (show (0:Int)≤(k:Int) by omega)]
      simp only [Bool.and_self,cond_true]
      exact BP _ _ _
    · unfold Dx
      simp only [Int.ofNat_eq_natCast]
      rw [decide_eq_false (show ¬ (a1.length:Int)<(a1.length:Int) by omega)]
      rfl
  unfold g49 wW
  rw [l0,ZB a0 h1,l2,l3,l4,order2 a1 h2]
  have e1:decide (Int.ofNat a0.length > 24)=decide (24<a0.length):=decide_eq_decide.2 (by simp only [Int.ofNat_eq_natCast];omega)
  have e2:decide (Int.ofNat a1.length > 60)=decide (60<a1.length):=decide_eq_decide.2 (by simp only [Int.ofNat_eq_natCast];omega)
  rw [e1,e2]
  simp only
  cases decide (24<a0.length) with
  | true=>rfl
  | false=>
  cases decide (60<a1.length) with
  | true=>rfl
  | false=>
  simp only [Bool.not_false,cond_true,Option.bind_some,cond_false,Bool.or_self]
  cases a0.any P6 with
  | true=>rfl
  | false=>
  cases upR a0 with
  | false=>rfl
  | true=>
  cases a1.any K9 with
  | true=>rfl
  | false=>
  cases a1.any (fun l=>!ah.gQ a0 l.1 || !ah.gQ a0 l.2.1) with
  | true=>rfl
  | false=>
  cases a1.any down with
  | true=>rfl
  | false=>
  cases upL a1<;>rfl
theorem ZE (a0:(List (Int×(Bool×Unit)))) (a1:(List (Int×(Int×(Int×(Int×(Int×Unit))))))) (a2:Int) (r0:(Ty.sl (D8)).ok a0) (r1:(Ty.sl (AA)).ok a1) (r2:IntKind.i64.has a2):g96 a0 a1 a2=some (ah.CZ (a0,a1,()) a2,()):=by
  unfold g96 CZ okT
  cases decide (wW (a0,a1,())=0)<;>rfl
theorem ZF (a0:(List (Int×(Bool×Unit)))) (a1:(List (Int×(Int×(Int×(Int×(Int×Unit))))))) (a2:Int) (r0:(Ty.sl (D8)).ok a0) (r1:(Ty.sl (AA)).ok a1) (r2:IntKind.i64.has a2):g85 a0 a1 a2=some (ah.HY (a0,a1,()) a2,()):=by
  have hl:=DK r0
  have h:=rX (Dh a0 a2) a0 (0,false,()) (fun r=>bif decide (r.1=a2) then some r.2 else none) (false,()) (fun i hi=>by
    unfold Dh
    simp only [Int.ofNat_eq_natCast,Int.toNat_natCast]
    rw [decide_eq_true (show (i:Int)<(a0.length:Int) by omega),decide_eq_true (show (0:Int)≤(i:Int) by omega),fu (n:=(i:Int)+1) (by omega) (by omega)]
    cases decide ((a0.getD i (0,false,())).1=a2)<;>rfl) (by
    unfold Dh
    simp only [Int.ofNat_eq_natCast]
    rw [decide_eq_false (show ¬ (a0.length:Int)<(a0.length:Int) by omega)]
    rfl)
  unfold g85 HY okT
  rw [h]
  have hf:∀ l:List Rt,Option.bind (some (match l.findSome? (fun r=>bif decide (r.1=a2) then some r.2 else none) with | some v=>(true,(v,())) | none=>(false,((false,()),())))) (fun y3:Bool×((Bool×Unit)×Unit)=>bif y3.1 then some y3.2.1 else some (false,()))=some (W9 l a2,()):=by
    intro l
    induction l with
    | nil=>rfl
    | cons x r ih=>
      rw [List.findSome?_cons]
      unfold W9
      rw [List.findIdx_cons]
      by_cases hx:x.1=a2
      · simp only [decide_eq_true hx,cond_true]
        rfl
      · simp only [decide_eq_false hx,cond_false]
        exact ih
  cases decide (wW (a0,a1,())=0) with
  | false=>rfl
  | true=>
    refine Eq.trans ?_ (hf a0)
    cases a0.findSome? (fun r=>bif decide (r.1=a2) then some r.2 else none)<;>rfl
theorem SN (a0:(List (Int×(Bool×Unit)))) (a1:(List (Int×(Int×(Int×(Int×(Int×Unit))))))) (a2:Int) (a3:Int) (r0:(Ty.sl (D8)).ok a0) (r1:(Ty.sl (AA)).ok a1) (r2:IntKind.i64.has a2) (r3:IntKind.i64.has a3):Yh a0 a1 a2 a3=some (ah.price a1 a2 a3,()):=by
  have hl:=Ql r1
  have h:=rX (xB a1 a2 a3) a1 (0,0,0,0,0,()) (fun l=>bif decide (l.1=a2)&&decide (l.2.1=a3) then some (true,(l.2.2.1,())) else bif decide (l.2.1=a2)&&decide (l.1=a3) then some (true,(l.2.2.2.1,())) else none) (false,(0,())) (fun i hi=>by
    unfold xB
    simp only [Int.ofNat_eq_natCast,Int.toNat_natCast]
    rw [decide_eq_true (show (i:Int)<(a1.length:Int) by omega),decide_eq_true (show (0:Int)≤(i:Int) by omega),fu (n:=(i:Int)+1) (by omega) (by omega)]
    cases decide ((a1.getD i (0,0,0,0,0,())).1=a2)<;>cases decide ((a1.getD i (0,0,0,0,0,())).2.1=a3)<;>cases decide ((a1.getD i (0,0,0,0,0,())).2.1=a2)<;>cases decide ((a1.getD i (0,0,0,0,0,())).1=a3)<;>rfl) (by
    unfold xB
    simp only [Int.ofNat_eq_natCast]
    rw [decide_eq_false (show ¬ (a1.length:Int)<(a1.length:Int) by omega)]
    rfl)
  unfold Yh
  rw [h]
  clear h r1 hl
  induction a1 with
  | nil=>rfl
  | cons x r ih=>
    rw [List.findSome?_cons]
    unfold price
    cases h1:(decide (x.1=a2)&&decide (x.2.1=a3)) with
    | true=>rfl
    | false=>
      cases h2:(decide (x.2.1=a2)&&decide (x.1=a3)) with
      | true=>rfl
      | false=>exact ih
theorem SQ (a0:(List (Int×(Bool×Unit)))) (a1:(List (Int×(Int×(Int×(Int×(Int×Unit))))))) (a2:Int) (r0:(Ty.sl (D8)).ok a0) (r1:(Ty.sl (AA)).ok a1) (r2:IntKind.i64.has a2):YI a0 a1 a2=some (ah.near (a0,a1,()) a2,()):=by
  have hl:=DK r0
  have key:∀ j k,k+j=a0.length→∀ acc:List Int,acc.length≤k→Loop (qI a0 a1 a2) (acc,(k:Int),())=some (acc++((a0.drop k).filter (fun x=>(price a1 a2 x.1).2.1)).map (fun x=>x.1),()):=by
    intro j
    induction j with
    | zero=>
      intro k hk acc _
      have hk:k=a0.length:=by omega
      subst hk
      rw [aN]
      unfold qI
      simp only [Int.ofNat_eq_natCast]
      rw [decide_eq_false (show ¬ (a0.length:Int)<(a0.length:Int) by omega),List.drop_length]
      simp
    | succ j ih=>
      intro k hk acc hacc
      have hlt:k<a0.length:=by omega
      have e2:IntKind.wrap .i64 ((k:Int)+1)=((k+1:Nat):Int):=by rw [fu (by omega) (by omega)];omega
      rw [aN,List.drop_eq_getElem_cons hlt]
      have hs:qI a0 a1 a2 (acc,(k:Int),())=some (.inl (bif (price a1 a2 a0[k].1).2.1 then acc++[a0[k].1] else acc,((k+1:Nat):Int),())):=by
        unfold qI
        simp only [Int.ofNat_eq_natCast,Int.toNat_natCast,e2]
        rw [decide_eq_true (show (k:Int)<(a0.length:Int) by omega),decide_eq_true (show (0:Int)≤(k:Int) by omega),dH (d:=(0,false,())) hlt,show Nat.ble ((acc.length+1)*8) 140737488355328=true from Nat.ble_eq_true_of_le (by omega)]
        cases (price a1 a2 a0[k].1).2.1<;>rfl
      rw [hs,List.filter_cons]
      cases hp:(price a1 a2 a0[k].1).2.1 with
      | true=>
        simp only [cond_true,if_true,List.map_cons]
        rw [ih (k+1) (by omega) _ (by rw [List.length_append];show acc.length+1≤_;omega),List.append_assoc]
        rfl
      | false=>
        simp only [cond_false]
        rw [ih (k+1) (by omega) acc (by omega)]
        rfl
  have h:=key a0.length 0 (by omega) [] (Nat.le_refl _)
  have h:Loop (qI a0 a1 a2) ([],0,())=_:=h
  unfold YI
  rw [h]
  rfl
def hi (r y:Int):Int:=bif decide (r<y) then y else r
theorem uJ {l:List Rt} {t:Tp} (h:wf t=true):∀ k,wf (mo l t k).2=true∧(mo l t k).1.length=l.length
  | 0=>⟨h,rfl⟩
  | k+1=>by
    obtain ⟨w,e⟩:=uJ (l:=l) h k
    rw [mo]
    exact ⟨one_wf (n:=3) w,by rw [List.length_set];exact e⟩
theorem Qm (l:List Rt) (t:Tp) (ht:wf t=true) (hl:l.length≤1000) (ls:List Lk×Unit):∀ j k,k+j=l.length →
    Loop vW ((k:Int),(mo l t k).2,((mo l t k).1,ls),())=some ((mo l t l.length).2,((mo l t l.length).1,ls),())
  | 0,k,hk=>by
    have hk:k=l.length:=by omega
    subst hk
    have e:=(uJ (l:=l) ht l.length).2
    rw [aN]
    unfold vW
    simp only [Int.ofNat_eq_natCast,e]
    rw [decide_eq_false (show ¬ (l.length:Int)<(l.length:Int) by omega)]
    rfl
  | j+1,k,hk=>by
    have ih:=Qm l t ht hl ls j (k+1) (by omega)
    obtain ⟨w,e⟩:=uJ (l:=l) ht k
    have e2:IntKind.wrap .i64 ((k:Int)+1)=((k+1:Nat):Int):=by rw [fu (by omega) (by omega)];omega
    have hs:vW ((k:Int),(mo l t k).2,((mo l t k).1,ls),())=some (.inl (((k+1:Nat):Int),(mo l t (k+1)).2,((mo l t (k+1)).1,ls),())):=by
      unfold vW
      simp only [Int.ofNat_eq_natCast,e,e2,Int.toNat_natCast]
      rw [decide_eq_true (show (k:Int)<(l.length:Int) by omega),nD w (by decide),decide_eq_true (show (0:Int)≤(k:Int) by omega),show Nat.blt k l.length=true from Nat.ble_eq_true_of_le (by omega)]
      rfl
    rw [aN,hs]
    exact ih
theorem ZG (a0:(List Int)) (a1:Int) (a2:Int) (r0:(Ty.sl (.int .i64)).ok a0) (r1:IntKind.i64.has a1) (r2:IntKind.i64.has a2) (h:(ah.wf (a0,a1,())&&ah.inside a2 1 50)=true):g15 a0 a1 a2=some (ah.mixed (a0,a1,()) a2):=by
  simp only [Bool.and_eq_true,bE] at h
  obtain ⟨w,l⟩:=DI (n:=0) h.1 h.2
  unfold g15 mixed
  rw [aX (show (wf (a0,a1,())&&inside a2 1 50&&small 0)=true by rw [h.1,bE.2 h.2];rfl)]
  simp only [Option.bind_some]
  generalize tX (a0,a1,()) a2 0=g at w l ⊢
  have hl:Loop vW ((0:Int),g.2,g.1,())=some ((mo g.1.1 g.2 g.1.1.length).2,((mo g.1.1 g.2 g.1.1.length).1,g.1.2),()):=Qm g.1.1 g.2 w (by omega) g.1.2 g.1.1.length 0 (by omega)
  rw [hl]
  rfl
theorem ZH (a0:(List Int)) (a1:Int) (a2:(List (Int×(Bool×Unit)))) (a3:(List (Int×(Int×(Int×(Int×(Int×Unit))))))) (a4:Int) (r0:(Ty.sl (.int .i64)).ok a0) (r1:IntKind.i64.has a1) (r2:(Ty.sl (D8)).ok a2) (r3:(Ty.sl (AA)).ok a3) (r4:IntKind.i64.has a4) (h:(ah.wf (a0,a1,())&&ah.small a4&&decide (a2.length≤1000))=true):g19 a0 a1 a2 a3 a4=some (ah.jd (a0,a1,()) (a2,a3,()) a4):=by
  simp only [Bool.and_eq_true,iq,decide_eq_true_eq] at h
  obtain ⟨⟨hw,hs⟩,hl⟩:=h
  have dl:decide ((Int.ofNat a2.length)=(0:Int))=decide (a2.length=0):=by
    by_cases hz:a2.length=0
    · rw [decide_eq_true hz];exact decide_eq_true (by rw [Int.ofNat_eq_natCast];omega)
    · rw [decide_eq_false hz];exact decide_eq_false (by rw [Int.ofNat_eq_natCast];omega)
  unfold g19 jd
  simp only
  have key:∀ o:Bool×Tp,wf o.2=true→(bif (o.1 || decide (a2.length=0)) then (Option.bind (ah.on (wf o.2&&decide (0<6)&&decide (6≤1000)) (ah.pick o.2 [0,1,2,7,77,-1])) fun y6=>some y6) else
      (Option.bind (ah.on (wf o.2) (next o.2 (Int.ofNat a2.length))) fun y6=>bif decide ((0:Int)≤y6.1)&&decide (y6.1<Int.ofNat a2.length) then some ((List.getD a2 (Int.toNat y6.1) ((0:Int),(false,()))).1,y6.2) else none)) =
      some (bif o.1 || decide (a2.length=0) then ah.pick o.2 [0,1,2,7,77,-1] else ((a2.getD (next o.2 a2.length).1.toNat zR).1,(next o.2 a2.length).2)):=by
    intro o ho
    cases hc:o.1 || decide (a2.length=0) with
    | true=>rw [aX (show (wf o.2&&decide (0<6)&&decide (6≤1000))=true by rw [ho];rfl)];rfl
    | false=>
      have hz:¬ a2.length=0:=of_decide_eq_false (Bool.or_eq_false_iff.1 hc).2
      have nb:=dz (t:=o.2) (n:=(a2.length:Int)) (by omega)
      rw [om ho]
      simp only [Option.bind_some,cond_false,Int.ofNat_eq_natCast,decide_eq_true nb.1,decide_eq_true nb.2]
      rfl
  by_cases ha:0<a4
  · rw [decide_eq_true (show a4 > 0 from ha),nD hw hs]
    simp only [Option.bind_some,cond_true,dl]
    have hk:=key (one (a0,a1,()) a4) (one_wf (n:=a4) hw)
    generalize one (a0,a1,()) a4=o at hk ⊢
    obtain ⟨b,t⟩:=o
    cases b with
    | true=>exact hk
    | false=>exact hk
  · rw [decide_eq_false (show ¬ a4 > 0 from ha)]
    simp only [Option.bind_some,cond_false,dl]
    exact key (false,(a0,a1,())) hw
end Go.aW.fF
namespace Go.aW.fF
open Go Go.Proofs ah
set_option maxRecDepth 100000
theorem acI {n:Nat} (h:n≤5000):Nat.ble ((n+1)*1) 140737488355328=true:=j5 (by omega)
theorem uK {t:Tp} (h:wf t=true):∀ k,wf (jm k t).2=true∧(jm k t).1.length=k
  | 0=>⟨h,rfl⟩
  | k+1=>⟨bq (n:=256) (uK h k).1,by rw [jm,List.length_append,(uK h k).2];rfl⟩
theorem Qn (t:Tp) (h:wf t=true) (n:Nat) (hn:n≤1000) :
    Loop zI (t,[],(n:Int),())=some ((jm n t).2,(jm n t).1,()):=by
  have key:∀ k,k≤n→Loop zI ((jm (n - k) t).2,(jm (n - k) t).1,(k:Int),())=some ((jm n t).2,(jm n t).1,()):=by
    intro k
    induction k with
    | zero=>intro _;rw [aN];rfl
    | succ k ih=>
      intro hk
      obtain ⟨w1,w2⟩:=uK h (n - (k+1))
      have c:((k+1:Nat):Int) > 0:=by omega
      have e:IntKind.wrap .i64 (((k+1:Nat):Int) - 1)=(k:Int):=by rw [fu (by omega) (by omega)];omega
      have r:=dz (t:=(jm (n - (k+1)) t).2) (n:=256) (by decide)
      have hs:zI ((jm (n - (k+1)) t).2,(jm (n - (k+1)) t).1,((k+1:Nat):Int),())=some (.inl ((jm (n - (k+1)+1) t).2,(jm (n - (k+1)+1) t).1,(k:Int),())):=by
        unfold zI
        rw [aX w1]
        simp only [c,decide_true,cond_true,Option.bind_some,e,acI (n:=(jm (n - (k+1)) t).1.length) (by omega),wu8 r.1 r.2]
        rfl
      rw [aN,hs]
      simp only
      rw [show n - (k+1)+1=n - k by omega]
      exact ih (by omega)
  have:=key n (Nat.le_refl _)
  rw [Nat.sub_self] at this
  exact this
theorem ZI (a0:(List Int)) (a1:Int) (a2:Int) (r0:(Ty.sl (.int .i64)).ok a0) (r1:IntKind.i64.has a1) (r2:IntKind.i64.has a2) (h:(ah.wf (a0,a1,())&&decide (0≤a2)&&decide (a2≤1000))=true):g24 a0 a1 a2=some (ah.text (a0,a1,()) a2):=by
  simp only [Bool.and_eq_true,decide_eq_true_eq] at h
  obtain ⟨⟨h1,h2⟩,h3⟩:=h
  have hs:small a2=true:=iq.2 (by omega)
  have h0:small 0=true:=by decide
  have hr:=pJ (t:=(a0,a1,())) (a:=0) (b:=a2) h2
  unfold g24 ah.text
  rw [aX (b:=wf (a0,a1,())&&small 0&&small a2) (by rw [h1,h0,hs];rfl)]
  simp only [Option.bind_some]
  have hw:=eP (a:=0) (b:=a2) h1
  have hc:(range (a0,a1,()) 0 a2).1=(((range (a0,a1,()) 0 a2).1.toNat:Nat):Int):=by omega
  rw [hc,Qn _ hw _ (by omega)]
  rfl
theorem ZJ (a0:Int) (r0:IntKind.i64.has a0):g91 a0=some (ah.Bt.full a0,()):=by
  unfold g91
  cases hv:dI a0 with
  | false=>unfold Bt.full;rw [hv];rfl
  | true=>rcases eT.1 hv with rfl | rfl | rfl | rfl<;>rfl
theorem Qo {x:Nat} (hx:x<2 ^ 64) {n:Nat} (hn:n≤64):(x &&& (18446744073709551615 - (2 ^ n - 1))=0)↔x<2 ^ n:=by
  have hle:2 ^ n≤2 ^ 64:=Nat.pow_le_pow_right (by decide) hn
  have hpos:=Nat.two_pow_pos n
  have e:18446744073709551615 - (2 ^ n - 1)=2 ^ 64 - ((2 ^ n - 1)+1):=by omega
  have hb:∀ i,(x &&& (18446744073709551615 - (2 ^ n - 1))).testBit i=(x.testBit i&&(decide (i<64) && !decide (i<n))):=fun i=>by
    rw [Nat.testBit_and,e,Nat.testBit_two_pow_sub_succ (by omega),Nat.testBit_two_pow_sub_one]
  constructor
  · intro h
    refine Nat.lt_pow_two_of_testBit _ fun i hi=>?_
    by_cases h64:i<64
    · have:=hb i
      rw [h] at this
      have h3:¬ i<n:=by omega
      simp [h64,h3] at this
      exact this
    · have h1:2 ^ 64≤2 ^ i:=Nat.pow_le_pow_right (by decide) (by omega)
      exact Nat.testBit_lt_two_pow (Nat.lt_of_lt_of_le hx h1)
  · intro h
    refine Nat.eq_of_testBit_eq fun i=>?_
    rw [hb,Nat.zero_testBit]
    by_cases h3:i<n
    · simp [h3]
    · have h1:2 ^ n≤2 ^ i:=Nat.pow_le_pow_right (by decide) (by omega)
      rw [Nat.testBit_lt_two_pow (Nat.lt_of_lt_of_le h h1)]
      rfl
theorem BQ {x n:Int} (hx:U x) (hv:dI n=true):decide (IntKind.wrap .u64 (Int.ofNat (BitVec.and (BitVec.ofInt 64 x) (BitVec.not (BitVec.ofInt 64 (Bt.full n)))).toNat)=0)=decide (x<2 ^ n.toNat):=by
  rw [Ur hx (zS n),uI hv,Int.toNat_natCast]
  have hn:n.toNat≤64:=by rcases eT.1 hv with rfl | rfl | rfl | rfl<;>decide
  have:=Qo (FV hx) hn
  have e:(x<2 ^ n.toNat)↔x.toNat<2 ^ n.toNat:=by
    rw [pE]
    have:=hx.1
    generalize 2 ^ n.toNat=q
    omega
  have e2:(((x.toNat &&& (18446744073709551615 - (2 ^ n.toNat - 1)):Nat):Int)=0)↔(x.toNat &&& (18446744073709551615 - (2 ^ n.toNat - 1)))=0:=by
    generalize x.toNat &&& (18446744073709551615 - (2 ^ n.toNat - 1))=q
    omega
  congr 1
  exact propext (e2.trans (this.trans e.symm))
theorem ZK (a0:Int) (a1:Int) (r0:IntKind.u64.has a0) (r1:IntKind.i64.has a1):g61 a0 a1=some (ah.lC a0 a1,()):=by
  unfold g61 ah.lC
  cases hv:dI a1 with
  | false=>rfl
  | true=>rw [BQ (uh r0) hv];rfl
theorem ZL (a0:Int) (a1:Int) (r0:IntKind.u64.has a0) (r1:IntKind.i64.has a1):g72 a0 a1=some (ah.lC a0 a1,()):=by
  unfold g72 ah.lC
  cases hv:dI a1 with
  | false=>rfl
  | true=>rw [BQ (uh r0) hv];rfl
theorem DL (p q:Bool):(bif p then some (q,()) else some (false,()))=some (p&&q,()):=by cases p<;>rfl
theorem ZM (a0:Int) (a1:Int) (r0:IntKind.i64.has a0) (r1:IntKind.i64.has a1):g60 a0 a1=some (ah.inside a0 0 a1,()):=by
  unfold g60 ah.inside
  simp only [DL,Option.bind_some]
theorem ZN (a0:Int) (a1:Int) (r0:IntKind.i64.has a0) (r1:IntKind.i64.has a1):g71 a0 a1=some (ah.inside a0 0 a1,()):=by
  unfold g71 ah.inside
  simp only [DL,Option.bind_some]
theorem acJ (l:List Int):decide (Int.ofNat l.length≤64)=decide (l.length≤64):=decide_eq_decide.2 (by simp;omega)
theorem ZO (a0:Int) (a1:Int) (a2:Int) (a3:Int) (a4:Int) (a5:Int) (a6:Int) (a7:Int) (a8:Int) (a9:(List Int)) (r0:IntKind.i64.has a0) (r1:IntKind.i64.has a1) (r2:IntKind.i64.has a2) (r3:IntKind.i64.has a3) (r4:IntKind.i64.has a4) (r5:IntKind.i64.has a5) (r6:IntKind.i64.has a6) (r7:IntKind.i64.has a7) (r8:IntKind.u64.has a8) (r9:Ty.str.ok a9):g30 a0 a1 a2 a3 a4 a5 a6 a7 a8 a9=some (ah.dx (a0,a1,a2,a3,a4,a5,a6,a7,a8,a9,()),()):=by
  unfold g30 dx
  simp only [md,sd,st,ln,tl,en,ig,pr,bt,py,DL,Option.bind_some,acJ,Bool.and_assoc]
  unfold ah.inside
  simp only [Bool.and_assoc]
  rfl
theorem ZP (a0:Int) (a1:Int) (a2:Int) (a3:Int) (a4:Int) (a5:Int) (a6:Int) (a7:Int) (a8:Int) (a9:(List Int)) (r0:IntKind.i64.has a0) (r1:IntKind.i64.has a1) (r2:IntKind.i64.has a2) (r3:IntKind.i64.has a3) (r4:IntKind.i64.has a4) (r5:IntKind.i64.has a5) (r6:IntKind.i64.has a6) (r7:IntKind.i64.has a7) (r8:IntKind.u64.has a8) (r9:Ty.str.ok a9):g38 a0 a1 a2 a3 a4 a5 a6 a7 a8 a9=some (ah.dx (a0,a1,a2,a3,a4,a5,a6,a7,a8,a9,()),()):=by
  unfold g38 dx
  simp only [md,sd,st,ln,tl,en,ig,pr,bt,py,DL,Option.bind_some,acJ,Bool.and_assoc]
  unfold ah.inside
  simp only [Bool.and_assoc]
  rfl
structure Fit (p:Pk):Prop where
  hm:1≤md p∧md p≤3
  hd:0≤sd p∧sd p≤7
  hs:0≤ah.st p∧ah.st p≤31
  hl:dI (ln p)=true
  hb:bt p<2 ^ (ln p).toNat
  ht:0≤tl p∧tl p≤63
  he:0≤en p∧en p≤1023
  hg:0≤ig p∧ig p≤256
  hr:0≤pr p∧pr p≤7
  hp:(py p).length≤64
theorem qJ {p:Pk}:dx p=true↔Fit p:=by
  unfold dx lC ah.inside
  simp only [Bool.and_eq_true,decide_eq_true_eq]
  constructor
  · rintro ⟨⟨⟨⟨⟨⟨⟨⟨h1,h2⟩,h3⟩,h4⟩,h5⟩,h6⟩,h7⟩,h8⟩,h9⟩
    exact ⟨h1,h2,h3,h4.1,h4.2,h5,h6,h7,h8,h9⟩
  · rintro ⟨h1,h2,h3,h4,h4',h5,h6,h7,h8,h9⟩
    exact ⟨⟨⟨⟨⟨⟨⟨⟨h1,h2⟩,h3⟩,h4,h4'⟩,h5⟩,h6⟩,h7⟩,h8⟩,h9⟩
theorem ZQ (a0:Int) (a1:Int) (a2:Int) (a3:Int) (a4:Int) (a5:Int) (a6:Int) (a7:Int) (a8:Int) (a9:(List Int)) (r0:IntKind.i64.has a0) (r1:IntKind.i64.has a1) (r2:IntKind.i64.has a2) (r3:IntKind.i64.has a3) (r4:IntKind.i64.has a4) (r5:IntKind.i64.has a5) (r6:IntKind.i64.has a6) (r7:IntKind.i64.has a7) (r8:IntKind.u64.has a8) (r9:Ty.str.ok a9):g31 a0 a1 a2 a3 a4 a5 a6 a7 a8 a9=some (ah.aD (a0,a1,a2,a3,a4,a5,a6,a7,a8,a9,()),()):=by
  unfold g31 aD
  cases h:dx (a0,a1,a2,a3,a4,a5,a6,a7,a8,a9,()) with
  | false=>rfl
  | true=>
    have h1:0≤a5:=(qJ.1 h).he.1
    simp only [Bool.not_true,cond_false,cond_true,CW h1]
    rfl
theorem ZR (a0:Int) (a1:Int) (a2:Int) (a3:Int) (a4:Int) (a5:Int) (a6:Int) (a7:Int) (a8:Int) (a9:(List Int)) (r0:IntKind.i64.has a0) (r1:IntKind.i64.has a1) (r2:IntKind.i64.has a2) (r3:IntKind.i64.has a3) (r4:IntKind.i64.has a4) (r5:IntKind.i64.has a5) (r6:IntKind.i64.has a6) (r7:IntKind.i64.has a7) (r8:IntKind.u64.has a8) (r9:Ty.str.ok a9):g76 a0 a1 a2 a3 a4 a5 a6 a7 a8 a9=some (ah.aD (a0,a1,a2,a3,a4,a5,a6,a7,a8,a9,()),()):=by
  unfold g76 aD
  cases h:dx (a0,a1,a2,a3,a4,a5,a6,a7,a8,a9,()) with
  | false=>rfl
  | true=>
    have h1:0≤a5:=(qJ.1 h).he.1
    simp only [Bool.not_true,cond_false,cond_true,CW h1]
    rfl
theorem Ie {a0 a1 a2 a3 a4 a5 a6 a7 a8 aZ:Int} {a9:List Int} (r8:IntKind.u64.has a8) (Q6:IntKind.u64.has aZ):g36 a0 a1 a2 a3 a4 a5 a6 a7 a8 a9 aZ=some (masked (a0,a1,a2,a3,a4,a5,a6,a7,a8,a9,()) aZ,()):=by
  unfold g36 masked
  rw [Lh (uh r8) (uh Q6)]
  cases h:dx (a0,a1,a2,a3,a4,a5,a6,a7,a8,a9,()) with
  | false=>rfl
  | true=>
    have ht:0≤a4∧a4≤63:=(qJ.1 h).ht
    simp only [Bool.not_true,Bool.not_false,cond_true,Bool.true_and,tl,bt]
    rw [fu (n:=a4 - 1) (by omega) (by omega)]
    show _=some (bif !decide (a4=0) && !decide (((a8.toNat &&& aZ.toNat:Nat):Int)=0) then _ else _,())
    by_cases h1:a4=0
    · simp only [h1,decide_true,Bool.not_true,cond_false,Bool.false_and,Option.bind_some,cond_true]
      rfl
    · by_cases h2:((a8.toNat &&& aZ.toNat:Nat):Int)=0
      · simp only [h1,h2,decide_true,decide_false,Bool.not_true,Bool.not_false,cond_false,cond_true,Bool.true_and,Option.bind_some]
        rfl
      · simp only [h1,h2,decide_false,Bool.not_false,cond_true,cond_false,Bool.true_and,Option.bind_some]
        rfl
theorem ZT (a0:Int) (a1:Int) (a2:Int) (a3:Int) (a4:Int) (a5:Int) (a6:Int) (a7:Int) (a8:Int) (a9:(List Int)) (aZ:Int) (r0:IntKind.i64.has a0) (r1:IntKind.i64.has a1) (r2:IntKind.i64.has a2) (r3:IntKind.i64.has a3) (r4:IntKind.i64.has a4) (r5:IntKind.i64.has a5) (r6:IntKind.i64.has a6) (r7:IntKind.i64.has a7) (r8:IntKind.u64.has a8) (r9:Ty.str.ok a9) (Q6:IntKind.u64.has aZ):g36 a0 a1 a2 a3 a4 a5 a6 a7 a8 a9 aZ=some (ah.masked (a0,a1,a2,a3,a4,a5,a6,a7,a8,a9,()) aZ,()):=by
  exact Ie r8 Q6
theorem xE {t:Tp} {n:Int} (h:wf t=true):wf (Bt.bits t n).2=true:=by
  have h1:=zK h
  have h2:=zK h1
  have h3:=bq (n:=6) h2
  have h4:=bq (n:=n) h3
  simp only [Bt.bits,Bt.BN]
  cases decide ((next (raw (raw t).2).2 6).1=0)<;>cases decide ((next (raw (raw t).2).2 6).1=1)<;>cases decide ((next (raw (raw t).2).2 6).1=2)<;>simp only [cond_true,cond_false]<;>assumption
theorem zV {t:Tp} {n:Int} (h:wf t=true):wf (text t n).2=true:=(uK (eP h) _).1
theorem zX {t:Tp} {n:Int} (h:wf t=true) (hn:0≤n):((text t n).1.length:Int)≤n:=by
  have h1:=pJ (t:=t) hn
  have h2:=(uK (eP (a:=0) (b:=n) h) (range t 0 n).1.toNat).2
  show ((jm (range t 0 n).1.toNat (range t 0 n).2).1.length:Int)≤n
  omega
theorem FX (x0 x1 x2 x3 x4 x5 x6 x7 x8:Int):∀ (k:Nat) (l:List Int),(64 - l.length) / 3=k →
    Loop FL ((x0,x1,x2,x3,x4,x5,x6,x7,x8,l,()),())=some ((x0,x1,x2,x3,x4,x5,x6,x7,x8,l++(List.replicate k [97,98,99]).flatten,()),())
  | 0,l,h=>by
    rw [aN]
    unfold FL
    simp only [Int.ofNat_eq_natCast]
    rw [decide_eq_false (show ¬ (l.length:Int)<62 by omega)]
    simp
  | k+1,l,h=>by
    rw [aN]
    have hs:FL ((x0,x1,x2,x3,x4,x5,x6,x7,x8,l,()),())=some (.inl ((x0,x1,x2,x3,x4,x5,x6,x7,x8,l++[97,98,99],()),())):=by
      unfold FL
      simp only [Int.ofNat_eq_natCast]
      rw [decide_eq_true (show (l.length:Int)<62 by omega),show Nat.ble (l.length+3) 9223372036854775807=true from Nat.ble_eq_true_of_le (by omega)]
      rfl
    rw [hs]
    have:=FX x0 x1 x2 x3 x4 x5 x6 x7 x8 k (l++[97,98,99]) (by simp only [List.length_append,List.length_cons,List.length_nil];omega)
    simp only
    rw [this,List.replicate_succ,List.flatten_cons,List.append_assoc]
theorem SS (l:List Int) (h:l.length≤64):(pad l).length≤64:=by
  unfold pad
  simp only [List.length_append,List.length_flatten,List.map_replicate,List.sum_replicate_nat,List.length_cons,List.length_nil]
  omega
theorem acK (a0:(List Int)) (a1:Int) (a2:Int) (r0:(Ty.sl (.int .i64)).ok a0) (r1:IntKind.i64.has a1) (r2:IntKind.i64.has a2) (h:(ah.wf (a0,a1,())&&ah.small a2)=true):g7 a0 a1 a2=some (ah.packet (a0,a1,()) a2):=by
  simp only [Bool.and_eq_true] at h
  obtain ⟨w0,hsm⟩:=h
  unfold g7 packet pkt
  simp only
  rw [aX w0]
  simp only [Option.bind_some]
  have w:wf (ah.length (a0,a1,())).2=true:=dA w0
  generalize ah.length (a0,a1,())=y3 at w ⊢
  rw [aX (show (wf y3.2&&small 1&&small 3)=true by rw [w];rfl)]
  simp only [Option.bind_some]
  replace w:=eP (a:=1) (b:=3) w
  generalize range y3.2 1 3=y4 at w ⊢
  rw [aX (show (wf y4.2&&small 0&&small 7)=true by rw [w];rfl)]
  simp only [Option.bind_some]
  replace w:=eP (a:=0) (b:=7) w
  generalize range y4.2 0 7=y5 at w ⊢
  rw [aX (show (wf y5.2&&decide (0<5)&&decide (5≤1000))=true by rw [w];rfl)]
  simp only [Option.bind_some]
  replace w:=dA (l:=[0,0,1,2,31]) w
  generalize pick y5.2 [0,0,1,2,31]=y6 at w ⊢
  rw [aX (show (wf y6.2&&decide (0<5)&&decide (5≤1000))=true by rw [w];rfl)]
  simp only [Option.bind_some]
  replace w:=dA (l:=[0,1,2,5,63]) w
  generalize pick y6.2 [0,1,2,5,63]=y7 at w ⊢
  rw [aX w]
  simp only [Option.bind_some]
  replace w:=bq (n:=1024) w
  generalize next y7.2 1024=y8 at w ⊢
  rw [aX (show (wf y8.2&&decide (0<5)&&decide (5≤1000))=true by rw [w];rfl)]
  simp only [Option.bind_some]
  replace w:=dA (l:=[0,1,8,255,256]) w
  generalize pick y8.2 [0,1,8,255,256]=y9 at w ⊢
  rw [aX w]
  simp only [Option.bind_some]
  replace w:=bq (n:=8) w
  generalize next y9.2 8=iA at w ⊢
  rw [aX w]
  simp only [Option.bind_some]
  replace w:=xE (n:=y3.1) w
  generalize Bt.bits iA.2 y3.1=dN at w ⊢
  rw [aX (show (wf dN.2&&decide ((0:Int)≤6)&&decide ((6:Int)≤1000))=true by rw [w];rfl)]
  simp only [Option.bind_some]
  have hl:=zX (n:=6) w (by decide)
  replace w:=zV (n:=6) w
  generalize text dN.2 6=oH at w hl ⊢
  simp only [gt_iff_lt]
  by_cases hp:0<a2
  rotate_left
  · simp only [hp,decide_false,cond_false,Option.bind_some]
  simp only [hp,decide_true,cond_true]
  rw [aX (show (wf oH.2&&small a2)=true by rw [w,hsm];rfl)]
  simp only [Option.bind_some]
  replace w:=one_wf (n:=a2) w
  generalize one oH.2 a2=y13 at w ⊢
  obtain ⟨b13,t13⟩:=y13
  cases b13 with
  | false=>simp only [cond_false,Option.bind_some]
  | true=>
    simp only [cond_true]
    unfold C8
    simp only
    simp only at w
    rw [aX w]
    simp only [Option.bind_some]
    replace w:=bq (n:=9) w
    generalize next t13 9=lG at w ⊢
    have ww:=je w
    rw [aX w,aX (show (wf lG.2&&decide (0<8)&&decide (8≤1000))=true by rw [w];rfl),aX (show (wf lG.2&&decide ((0:Int)≤4)&&decide ((4:Int)≤1000))=true by rw [w];rfl),FX _ _ _ _ _ _ _ _ _ _ oH.1 rfl]
    have hl4:=zX (n:=4) w (by decide)
    have aof:=SS oH.1 (by omega)
    have hpe:oH.1++(List.replicate ((64 - oH.1.length) / 3) [97,98,99]).flatten=pad oH.1:=rfl
    simp only [Option.bind_some,hpe]
    rw [show Nat.ble ((pad oH.1).length+(text lG.2 4).1.length) 9223372036854775807=true from Nat.ble_eq_true_of_le (by omega)]
    simp only [cond_true,Option.bind_some,md,sd,ah.st,ln,tl,en,ig,pr,bt,py]
    by_cases k0:lG.1=0
    · simp only [k0,decide_true,cond_true,Option.bind_some]
    by_cases k1:lG.1=1
    · simp only [k0,k1,decide_true,decide_false,cond_true,cond_false,Option.bind_some];rfl
    by_cases k2:lG.1=2
    · simp only [k0,k1,k2,decide_true,decide_false,cond_true,cond_false,Option.bind_some];rfl
    by_cases k3:lG.1=3
    · simp only [k0,k1,k2,k3,decide_true,decide_false,cond_true,cond_false,Option.bind_some];rfl
    by_cases k4:lG.1=4
    · simp only [k0,k1,k2,k3,k4,decide_true,decide_false,cond_true,cond_false,Option.bind_some];rfl
    by_cases k5:lG.1=5
    · simp only [k0,k1,k2,k3,k4,k5,decide_true,decide_false,cond_true,cond_false,Option.bind_some];rfl
    by_cases k6:lG.1=6
    · simp only [k0,k1,k2,k3,k4,k5,k6,decide_true,decide_false,cond_true,cond_false,Option.bind_some];rfl
    by_cases k7:lG.1=7
    · simp only [k0,k1,k2,k3,k4,k5,k6,k7,decide_true,decide_false,cond_true,cond_false,Option.bind_some];rfl
    simp only [k0,k1,k2,k3,k4,k5,k6,k7,decide_false,cond_false,Option.bind_some]
end Go.aW.fF
namespace Go.aW.fF
open Go Go.Proofs ah
set_option maxRecDepth 100000
theorem Ig {t:Ty} {l:List t.den} (h:(Ty.sl t).ok l) (ht:0<t.mE):l.length≤281474976710656:=by
  have h1:l.length*t.mE≤big:=h.1
  have:l.length*1≤l.length*t.mE:=Nat.mul_le_mul_left _ ht
  have e:big=281474976710656∨big=140737488355328:=by unfold big;omega
  omega
theorem ZU (a0:(List Int)) (a1:Int) (r0:(Ty.sl (.int .i64)).ok a0) (r1:IntKind.i64.has a1):g90 a0 a1=some (ah.idx (fun y=>decide (a1=y)) a0,()):=by
  have hl:=Ig r0 (by decide)
  unfold g90
  refine nC _ a0 (fun y=>decide (a1=y)) 0 (fun i hi=>?_) ?_
  · unfold H6
    simp only [Int.ofNat_eq_natCast,Int.toNat_natCast]
    rw [decide_eq_true (show (i:Int)<(a0.length:Int) by omega),decide_eq_true (show (0:Int)≤(i:Int) by omega),fu (n:=(i:Int)+1) (by omega) (by omega)]
    cases decide (a1=a0.getD i 0)<;>rfl
  · unfold H6
    simp only [Int.ofNat_eq_natCast]
    rw [decide_eq_false (show ¬ (a0.length:Int)<(a0.length:Int) by omega)]
    rfl
theorem ZV (a0:(List Int)) (a1:Int) (r0:(Ty.sl (.int .i64)).ok a0) (r1:IntKind.i64.has a1):g59 a0 a1=some (a0.any fun y=>decide (a1=y),()):=by
  unfold g59
  rw [uG]
theorem ZW (a0:(List Int)) (a1:Int) (r0:(Ty.sl (.int .i64)).ok a0) (r1:IntKind.i64.has a1):g70 a0 a1=some (ah.has a0 a1,()):=by
  have hl:=FM r0
  have hL:Loop (Dl a0 a1) ((0:Int),())=some (bif ah.has a0 a1 then (true,((true,()),())) else (false,((false,()),()))):=by
    refine BL _ a0 0 (fun x=>decide (x=a1)) _ _ (fun k hk=>?_) ?_
    · unfold Dl
      simp only [Int.ofNat_eq_natCast,Int.toNat_natCast]
      rw [dT (show (k:Int)<(a0.length:Int) by omega),dT (show (0:Int)≤(k:Int) by omega),fE (by omega)]
      cases decide (a0.getD k 0=a1)<;>rfl
    · unfold Dl
      simp only [Int.ofNat_eq_natCast]
      rw [dF (show ¬ (a0.length:Int)<(a0.length:Int) by omega)]
      rfl
  unfold g70
  rw [hL]
  cases ah.has a0 a1<;>rfl
end Go.aW.fF
namespace Go.aW.fF
open Go Go.Proofs ah
set_option maxRecDepth 100000
theorem rY {l:List Rw} (h:(Ty.sl qX).ok l):l.length≤4398046511104:=by
  have h:l.length*32≤140737488355328:=h.1
  omega
theorem JU (n:Nat) (key:Nat→Int):((List.range n).any fun i=>decide (0<i)&&decide (key i≤key (i - 1))) = !((List.range (n - 1)).all fun i=>decide (key i<key (i+1))):=by
  rw [Bool.eq_iff_iff,List.any_eq_true,Bool.not_eq_true',List.all_eq_false]
  constructor
  · rintro ⟨i,hi,h⟩
    have hi:=List.mem_range.1 hi
    simp only [Bool.and_eq_true,decide_eq_true_eq] at h
    refine ⟨i - 1,List.mem_range.2 (by omega),?_⟩
    rw [show i - 1+1=i by omega,decide_eq_true_eq]
    omega
  · rintro ⟨i,hi,h⟩
    have hi:=List.mem_range.1 hi
    rw [decide_eq_true_eq] at h
    refine ⟨i+1,List.mem_range.2 (by omega),?_⟩
    rw [Nat.add_sub_cancel,dT (show 0<i+1 by omega),Bool.true_and,decide_eq_true_eq]
    omega
theorem ZX (a0:Int) (a1:Int) (a2:Int) (r0:IntKind.i64.has a0) (r1:IntKind.i64.has a1) (r2:IntKind.i64.has a2):g52 a0 a1 a2=some (ah.inside a0 a1 a2,()):=by
  unfold g52 ah.inside
  rw [orI]
  rfl
theorem ZY (a0:Int) (r0:IntKind.i64.has a0):g89 a0=some (!ah.inside a0 1 99,()):=by
  rfl
theorem SV (a0:(List Int)) (r0:(Ty.sl (.int .i64)).ok a0):X0 a0=some (ah.idx (fun n=>!ah.inside n 1 99) a0,()):=by
  have hl:=FM r0
  unfold X0
  refine nC (xA a0) a0 (fun n=>!ah.inside n 1 99) 0 (fun i hi=>?_) ?_
  · unfold xA
    simp only [Int.ofNat_eq_natCast,Int.toNat_natCast]
    rw [dT (show (i:Int)<(a0.length:Int) by omega),dT (show (0:Int)≤(i:Int) by omega),fu (n:=(i:Int)+1) (by omega) (by omega)]
    rfl
  · unfold xA
    simp only [Int.ofNat_eq_natCast]
    rw [dF (show ¬ (a0.length:Int)<(a0.length:Int) by omega)]
    rfl
theorem Z0 (a0:(List Int)) (r0:(Ty.sl (.int .i64)).ok a0):g88 a0=some (a0.any (fun n=>!ah.inside n 1 99),()):=by
  unfold g88
  rw [uG]
theorem Z4 (a0:Int) (a1:(List Int)) (r0:IntKind.i64.has a0) (r1:(Ty.sl (.int .i64)).ok a1):g55 a0 a1=some (ah.lD (a0,a1,()),()):=by
  unfold g55 lD
  cases ah.inside a0 1 256<;>rfl
theorem Z5 (a0:Int) (a1:(List Int)) (r0:IntKind.i64.has a0) (r1:(Ty.sl (.int .i64)).ok a1):g56 a0 a1=some (decide (24<a1.length),()):=by
  unfold g56
  congr 2
  exact decide_eq_decide.2 (by simp only [Int.ofNat_eq_natCast];omega)
theorem Z6 (a0:Int) (a1:(List Int)) (a2:Int) (a3:Int) (a4:Int) (a5:(List (Int×((List Int)×Unit)))) (r0:IntKind.i64.has a0) (r1:(Ty.sl (.int .i64)).ok a1) (r2:IntKind.i64.has a2) (r3:IntKind.i64.has a3) (r4:IntKind.i64.has a4) (r5:(Ty.sl (qX)).ok a5):g58 a0 a1 a2 a3 a4 a5=some (ah.iX a2 (a0,a1,()),()):=by
  unfold g58 iX
  simp only [Int.ofNat_eq_natCast]
  by_cases h:1<a1.length
  · rw [dT (show (a1.length:Int) > 1 by omega),dT h]
    rfl
  · rw [dF (show ¬ (a1.length:Int) > 1 by omega),dF h]
    rfl
theorem Z7 (a0:(List (Int×((List Int)×Unit)))) (r0:(Ty.sl (qX)).ok a0):g87 a0=some (ah.idx ah.lD a0,()):=by
  have hl:=rY r0
  unfold g87
  refine nC (Dk a0) a0 lD zW (fun i hi=>?_) ?_
  · unfold Dk
    simp only [Int.ofNat_eq_natCast,Int.toNat_natCast]
    rw [dT (show (i:Int)<(a0.length:Int) by omega),dT (show (0:Int)≤(i:Int) by omega),fu (n:=(i:Int)+1) (by omega) (by omega)]
    rfl
  · unfold Dk
    simp only [Int.ofNat_eq_natCast]
    rw [dF (show ¬ (a0.length:Int)<(a0.length:Int) by omega)]
    rfl
theorem Z8 (a0:(List (Int×((List Int)×Unit)))) (r0:(Ty.sl (qX)).ok a0):g54 a0=some (a0.any ah.lD,()):=by
  unfold g54
  rw [uG]
theorem SX (a0:(List (Int×((List Int)×Unit)))) (r0:(Ty.sl (qX)).ok a0):XZ a0=some (ah.idx (fun r=>decide (24<r.2.1.length)) a0,()):=by
  have hl:=rY r0
  unfold XZ
  refine nC (xw a0) a0 (fun r=>decide (24<r.2.1.length)) zW (fun i hi=>?_) ?_
  · unfold xw
    simp only [Int.ofNat_eq_natCast,Int.toNat_natCast]
    rw [dT (show (i:Int)<(a0.length:Int) by omega),dT (show (0:Int)≤(i:Int) by omega),fu (n:=(i:Int)+1) (by omega) (by omega)]
    rfl
  · unfold xw
    simp only [Int.ofNat_eq_natCast]
    rw [dF (show ¬ (a0.length:Int)<(a0.length:Int) by omega)]
    rfl
theorem Qp (a0:(List (Int×((List Int)×Unit)))) (r0:(Ty.sl (qX)).ok a0):Qe a0=some (a0.any (fun r=>decide (24<r.2.1.length)),()):=by
  unfold Qe
  rw [uG]
theorem SY (a0:(List (Int×((List Int)×Unit)))) (a1:Int) (a2:Int) (a3:Int) (a4:(List (Int×((List Int)×Unit)))) (r0:(Ty.sl (qX)).ok a0) (r1:IntKind.i64.has a1) (r2:IntKind.i64.has a2) (r3:IntKind.i64.has a3) (r4:(Ty.sl (qX)).ok a4):Ym a0 a1 a2 a3 a4=some (ah.idx (ah.iX a1) a0,()):=by
  have hl:=rY r0
  unfold Ym
  refine nC (xC a0 a1) a0 (iX a1) zW (fun i hi=>?_) ?_
  · unfold xC
    simp only [Int.ofNat_eq_natCast,Int.toNat_natCast]
    rw [dT (show (i:Int)<(a0.length:Int) by omega),dT (show (0:Int)≤(i:Int) by omega),fu (n:=(i:Int)+1) (by omega) (by omega)]
    rfl
  · unfold xC
    simp only [Int.ofNat_eq_natCast]
    rw [dF (show ¬ (a0.length:Int)<(a0.length:Int) by omega)]
    rfl
theorem Qq (a0:(List (Int×((List Int)×Unit)))) (a1:Int) (a2:Int) (a3:Int) (a4:(List (Int×((List Int)×Unit)))) (r0:(Ty.sl (qX)).ok a0) (r1:IntKind.i64.has a1) (r2:IntKind.i64.has a2) (r3:IntKind.i64.has a3) (r4:(Ty.sl (qX)).ok a4):Qc a0 a1 a2 a3 a4=some (a0.any (ah.iX a1),()):=by
  unfold Qc
  rw [uG]
theorem Z9 (a0:(List Int)) (r0:(Ty.sl (.int .i64)).ok a0):g57 a0=some (ah.qG a0,()):=by
  have hl:=FM r0
  have hL:Loop (Dg a0) ((0:Int),())=some (bif (List.range a0.length).any (fun i=>decide (0<i)&&decide (a0.getD i 0≤a0.getD (i - 1) 0)) then (true,((false,()),())) else (false,((false,()),()))):=by
    refine tQ _ a0.length _ _ _ (fun i hi=>?_) ?_
    · unfold Dg
      simp only [Int.ofNat_eq_natCast,Int.toNat_natCast]
      rw [dT (show (i:Int)<(a0.length:Int) by omega),dT (show (0:Int)≤(i:Int) by omega),fE (by omega)]
      by_cases h0:0<i
      · rw [dT (show (i:Int) > 0 by omega),dT h0,Fx h0 (by omega)]
        simp only [Int.toNat_natCast]
        rw [dT (show (0:Int)≤((i - 1:Nat):Int) by omega),dT (show ((i - 1:Nat):Int)<(a0.length:Int) by omega)]
        by_cases h1:a0.getD i 0≤a0.getD (i - 1) 0
        · rw [dT (show a0.getD (i - 1) 0≥a0.getD i 0 from h1)];first | rfl | (rw [dT h1];rfl)
        · rw [dF (show ¬ a0.getD (i - 1) 0≥a0.getD i 0 from h1)];first | rfl | (rw [dF h1];rfl)
      · rw [dF (show ¬ (i:Int) > 0 by omega),dF h0];rfl
    · unfold Dg
      simp only [Int.ofNat_eq_natCast]
      rw [dF (show ¬ (a0.length:Int)<(a0.length:Int) by omega)]
      rfl
  unfold g57
  rw [hL,JU a0.length fun i=>a0.getD i 0]
  unfold qG
  cases (List.range (a0.length - 1)).all fun i=>decide (a0.getD i 0<a0.getD (i+1) 0)<;>rfl
def BR (l:List Rw) (i:Nat):Bool:=!qG (l.getD i zW).2.1 || (decide (0<i)&&decide ((l.getD i zW).1≤(l.getD (i - 1) zW).1))
theorem BS (l:List Rw):(List.range l.length).any (BR l)=(!(l.all fun r=>qG r.2.1) || !P7 l):=by
  unfold P7
  rw [←JU l.length fun i=>(l.getD i zW).1]
  rw [show (List.range l.length).any (BR l)=(List.range l.length).any (fun i=>!qG (l.getD i zW).2.1 || (decide (0<i)&&decide ((l.getD i zW).1≤(l.getD (i - 1) zW).1))) from rfl,Zf]
  congr 1
  rw [Bool.eq_iff_iff,List.any_eq_true,Bool.not_eq_true',List.all_eq_false]
  constructor
  · rintro ⟨i,hi,h⟩
    have hi:=List.mem_range.1 hi
    refine ⟨l.getD i zW,?_,by simpa using h⟩
    rw [dH hi]
    exact List.getElem_mem _
  · rintro ⟨x,hx,h⟩
    obtain ⟨i,hi,rfl⟩:=List.getElem_of_mem hx
    refine ⟨i,List.mem_range.2 hi,?_⟩
    rw [dH hi]
    simpa using h
theorem aac (a0:Int) (a1:Int) (a2:Int) (a3:(List (Int×((List Int)×Unit)))) (r0:IntKind.i64.has a0) (r1:IntKind.i64.has a1) (r2:IntKind.i64.has a2) (r3:(Ty.sl (qX)).ok a3):g29 a0 a1 a2 a3=some (ah.nk (a0,a1,a2,a3,()),()):=by
  have hl:=rY r3
  have hL:Loop (Dj a3) ((0:Int),())=some (bif (List.range a3.length).any (BR a3) then (true,((25,()),())) else (false,((0,()),()))):=by
    refine tQ _ a3.length _ _ _ (fun i hi=>?_) ?_
    · unfold Dj BR
      simp only [Int.ofNat_eq_natCast,Int.toNat_natCast]
      rw [dT (show (i:Int)<(a3.length:Int) by omega),dT (show (0:Int)≤(i:Int) by omega),fE (by omega)]
      cases qG (a3.getD i (0,[],())).2.1 with
      | false=>rfl
      | true=>
        by_cases h0:0<i
        · rw [dT (show (i:Int) > 0 by omega),dT h0,Fx h0 (by omega)]
          simp only [Int.toNat_natCast]
          rw [dT (show (0:Int)≤((i - 1:Nat):Int) by omega),dT (show ((i - 1:Nat):Int)<(a3.length:Int) by omega)]
          by_cases h1:(a3.getD i (0,[],())).1≤(a3.getD (i - 1) (0,[],())).1
          · rw [dT (show (a3.getD (i - 1) (0,[],())).1≥(a3.getD i (0,[],())).1 from h1)];first | rfl | (rw [dT h1];rfl)
          · rw [dF (show ¬ (a3.getD (i - 1) (0,[],())).1≥(a3.getD i (0,[],())).1 from h1)];first | rfl | (rw [dF h1];rfl)
        · rw [dF (show ¬ (i:Int) > 0 by omega),dF h0];rfl
    · unfold Dj
      simp only [Int.ofNat_eq_natCast]
      rw [dF (show ¬ (a3.length:Int)<(a3.length:Int) by omega)]
      rfl
  unfold g29 nk
  rw [hL,BS]
  simp only [Int.ofNat_eq_natCast]
  have e1:decide ((a3.length:Int)=0)=decide (a3.length=0):=decide_eq_decide.2 (by omega)
  have e2:decide ((a3.length:Int) > 256)=decide (256<a3.length):=decide_eq_decide.2 (by omega)
  rw [e1,e2]
  cases decide (a2=0)<;>cases decide (a3.length=0)<;>cases ah.inside a0 1 99<;>cases ah.inside a1 0 7<;>cases dI a2<;>cases a3.any lD<;>cases decide (256<a3.length)<;>cases (a3.any fun r=>decide (24<r.2.1.length))<;>cases (a3.all fun r=>qG r.2.1)<;>cases P7 a3<;>cases a3.any (iX a0)<;>rfl
end Go.aW.fF
namespace Go.aW.fF
open Go Go.Proofs ah
set_option maxRecDepth 100000
theorem aad (a0:Int) (a1:Int) (a2:Int) (r0:IntKind.i64.has a0) (r1:IntKind.i64.has a1) (r2:IntKind.i64.has a2):g68 a0 a1 a2=some (ah.inside a0 a1 a2,()):=by
  unfold g68 ah.inside
  rw [orI]
  rfl
theorem aae (a0:Int) (a1:Int) (a2:Int) (a3:(List (Int×((List Int)×Unit)))) (a4:Int) (a5:Int) (r0:IntKind.i64.has a0) (r1:IntKind.i64.has a1) (r2:IntKind.i64.has a2) (r3:(Ty.sl (qX)).ok a3) (r4:IntKind.i64.has a4) (r5:IntKind.i64.has a5):g64 a0 a1 a2 a3 a4 a5=some (ah.dS (a0,a1,a2,a3,()) a4 a5,()):=by
  unfold g64 dS
  simp only [GE.ge]
  cases decide (nk (a0,a1,a2,a3,())=0)<;>cases decide (0≤a4)<;>cases decide (a4<8)<;>cases decide (0≤a5)<;>rfl
theorem S9 (l:List Rw) (id:Int):((List.range l.length).find? fun i=>decide ((l.getD i zW).1=id)).map (fun i=>l.getD i zW)=l.find? fun r=>decide (r.1=id):=by
  have h:l=(List.range l.length).map fun i=>l.getD i zW:=List.ext_getElem (by simp) fun i h1 h2=>by
    rw [List.getElem_map,List.getElem_range,dH h1]
  conv=>rhs;rw [h,List.find?_map]
  rfl
theorem FY (t:Tb) (id:Int):dh t id=match (List.range t.2.2.2.1.length).find? (fun i=>decide ((t.2.2.2.1.getD i zW).1=id)) with
    | some i=>(t.2.2.2.1.getD i zW,true,())
    | none=>(zW,false,()):=by
  unfold dh
  rw [←S9]
  cases (List.range t.2.2.2.1.length).find? (fun i=>decide ((t.2.2.2.1.getD i zW).1=id))<;>rfl
theorem aaf (a0:Int) (a1:Int) (a2:Int) (a3:(List (Int×((List Int)×Unit)))) (a4:Int) (r0:IntKind.i64.has a0) (r1:IntKind.i64.has a1) (r2:IntKind.i64.has a2) (r3:(Ty.sl (qX)).ok a3) (r4:IntKind.i64.has a4):g95 a0 a1 a2 a3 a4=some (ah.dh (a0,a1,a2,a3,()) a4,()):=by
  have hl:=rY r3
  have hL:=vR (step:=zy a3 a4) (fun k=>(zW,((k:Int),()))) a3.length (false,((zW,(false,())),(zW,())))
    (fun k=>bif decide ((a3.getD k zW).1=a4) then some (true,((a3.getD k zW,(true,())),(zW,()))) else none) (fun k hk=>by
      unfold zy
      simp only [Int.ofNat_eq_natCast,Int.toNat_natCast]
      rw [dT (show (k:Int)<(a3.length:Int) by omega),dT (show (0:Int)≤(k:Int) by omega),fE (by omega)]
      by_cases h:(a3.getD k zW).1=a4
      · rw [dT h];rfl
      · rw [dF h];rfl) (by
      unfold zy
      simp only [Int.ofNat_eq_natCast]
      rw [dF (show ¬ (a3.length:Int)<(a3.length:Int) by omega)]
      rfl)
  rw [qU] at hL
  unfold g95
  have hL:Loop (zy a3 a4) ((0,[],()),0,())=_:=hL
  rw [hL,FY]
  simp only
  cases (List.range a3.length).find? (fun i=>decide ((a3.getD i zW).1=a4))<;>rfl
theorem aag (a0:Int) (a1:Int) (a2:Int) (a3:(List (Int×((List Int)×Unit)))) (a4:Int) (r0:IntKind.i64.has a0) (r1:IntKind.i64.has a1) (r2:IntKind.i64.has a2) (r3:(Ty.sl (qX)).ok a3) (r4:IntKind.i64.has a4):g65 a0 a1 a2 a3 a4=some (ah.dh (a0,a1,a2,a3,()) a4,()):=by
  have hl:=rY r3
  have hL:=vR (step:=zo a3 a4) (fun k=>(zW,((k:Int),()))) a3.length (false,((false,(zW,())),(zW,())))
    (fun k=>bif decide ((a3.getD k zW).1=a4) then some (true,((true,((a4,(a3.getD k zW).2),())),(zW,()))) else none) (fun k hk=>by
      unfold zo
      simp only [Int.ofNat_eq_natCast,Int.toNat_natCast]
      rw [dT (show (k:Int)<(a3.length:Int) by omega),dT (show (0:Int)≤(k:Int) by omega),fE (by omega)]
      by_cases h:(a3.getD k zW).1=a4
      · rw [dT h];rfl
      · rw [dF h];rfl) (by
      unfold zo
      simp only [Int.ofNat_eq_natCast]
      rw [dF (show ¬ (a3.length:Int)<(a3.length:Int) by omega)]
      rfl)
  rw [qU] at hL
  unfold g65
  have hL:Loop (zo a3 a4) ((0,[],()),0,())=_:=hL
  rw [hL,FY]
  simp only
  cases hf:(List.range a3.length).find? (fun i=>decide ((a3.getD i zW).1=a4)) with
  | none=>rfl
  | some i=>
    have e:=List.find?_some hf
    have e:(a3.getD i zW).1=a4:=of_decide_eq_true e
    show some (((a4,(a3.getD i zW).2),true,()),())=some ((a3.getD i zW,true,()),())
    rw [←e]
theorem FZ {a:Int} (h:0≤a) (n:Nat):Int.tmod a (n:Int)=a%(n:Int):=Int.tmod_eq_emod_of_nonneg h
theorem aah (a0:Int) (a1:(List Int)) (a2:Int) (r0:IntKind.i64.has a0) (r1:(Ty.sl (.int .i64)).ok a1) (r2:IntKind.i64.has a2) (h:(decide (0≤a2))=true):g66 a0 a1 a2=some (ah.cu (a0,a1,()) a2,()):=by
  have h:=of_decide_eq_true h
  unfold g66 cu
  simp only [Int.ofNat_eq_natCast]
  by_cases h0:a1.length=0
  · rw [dT (show (a1.length:Int)=0 by omega),dT h0]
    rfl
  · have e1:=Int.emod_nonneg a2 (show (a1.length:Int)≠0 by omega)
    have e2:=Int.emod_lt_of_pos a2 (show 0<(a1.length:Int) by omega)
    simp only [FZ h]
    rw [dF (show ¬ (a1.length:Int)=0 by omega),dF h0,dT e1,dT e2]
    rfl
theorem aai (a0:Int) (a1:Int) (a2:Int) (a3:(List (Int×((List Int)×Unit)))) (a4:Int) (a5:Int) (r0:IntKind.i64.has a0) (r1:IntKind.i64.has a1) (r2:IntKind.i64.has a2) (r3:(Ty.sl (qX)).ok a3) (r4:IntKind.i64.has a4) (r5:IntKind.i64.has a5) (h:(decide (0≤a5))=true):g75 a0 a1 a2 a3 a4 a5=some (ah.zf (a0,a1,a2,a3,()) a4 a5,()):=by
  have h:=of_decide_eq_true h
  unfold g75 zf cu
  simp only [Int.ofNat_eq_natCast]
  generalize dh (a0,a1,a2,a3,()) a4=f
  cases hf:f.2.1 with
  | false=>rfl
  | true=>
    by_cases h0:f.1.2.1.length=0
    · rw [dT (show (f.1.2.1.length:Int)=0 by omega),dT h0]
      rfl
    · have e1:=Int.emod_nonneg a5 (show (f.1.2.1.length:Int)≠0 by omega)
      have e2:=Int.emod_lt_of_pos a5 (show 0<(f.1.2.1.length:Int) by omega)
      simp only [FZ h]
      rw [dF (show ¬ (f.1.2.1.length:Int)=0 by omega),dF h0,dT e1,dT e2]
      rfl
theorem aaj (a0:Int) (a1:Int) (a2:Int) (a3:(List (Int×((List Int)×Unit)))) (a4:Int) (a5:Int) (r0:IntKind.i64.has a0) (r1:IntKind.i64.has a1) (r2:IntKind.i64.has a2) (r3:(Ty.sl (qX)).ok a3) (r4:IntKind.i64.has a4) (r5:IntKind.i64.has a5):g34 a0 a1 a2 a3 a4 a5=some (bif ah.dS (a0,a1,a2,a3,()) a5 0 then ah.cu (ah.dh (a0,a1,a2,a3,()) a4).1 a5 else 0,()):=by
  unfold g34
  cases hv:dS (a0,a1,a2,a3,()) a5 0 with
  | false=>rfl
  | true=>
    have h5:decide (0≤a5)=true:=by
      unfold dS at hv
      simp only [Bool.and_eq_true] at hv
      exact hv.1.1.1.2
    rw [aX h5]
    rfl
end Go.aW.fF
namespace Go.aW.fF
open Go Go.Proofs ah
set_option maxRecDepth 100000
theorem qK {α:Type} (l:List α) (d:α) (p:α→Bool):(List.range l.length).any (fun j=>p (l.getD j d))=l.any p:=by
  have h:l=(List.range l.length).map fun i=>l.getD i d:=List.ext_getElem (by simp) fun i h1 h2=>by
    rw [List.getElem_map,List.getElem_range,dH h1]
  conv=>rhs;rw [h,List.any_map]
  rfl
theorem aak (r:List Int):(List.range (r.length - 1)).any (fun i=>decide (r.getD (i+1) 0≤r.getD i 0)) = !qG r:=by
  unfold qG
  rw [List.not_all_eq_any_not]
  congr 1
  funext i
  by_cases h:r.getD i 0<r.getD (i+1) 0
  · rw [dT h,dF (by omega)];rfl
  · rw [dF h,dT (by omega)];rfl
theorem Qr (r:List Int) (id:Int):ah.has r id=r.any fun y=>decide (id=y):=by
  unfold ah.has
  congr 1
  funext y
  exact decide_eq_decide.2 ⟨fun h=>h.symm,fun h=>h.symm⟩
theorem JV {l:List Rw} (h:(Ty.sl qX).ok l) (k:Nat) (hk:k<l.length):(l.getD k zW).2.1.length≤17592186044416:=by
  rw [dH hk]
  exact FM (h.2 _ (List.getElem_mem hk)).2.1
theorem aal (a0:Int) (a1:Int) (a2:Int) (a3:(List (Int×((List Int)×Unit)))) (r0:IntKind.i64.has a0) (r1:IntKind.i64.has a1) (r2:IntKind.i64.has a2) (r3:(Ty.sl (qX)).ok a3):g37 a0 a1 a2 a3=some (ah.nk (a0,a1,a2,a3,()),()):=by
  have hl:=rY r3
  have hS0:∀ k,k<a3.length→Loop (Dm a3 ((k:Int),())) ((0:Int),())=some (bif (a3.getD k zW).2.1.any (fun n=>!ah.inside n 1 99) then (true,((2,()),())) else (false,((0,()),()))):=by
    intro k hk
    have hr:=JV r3 k hk
    rw [←qK _ 0]
    refine tQ _ (a3.getD k zW).2.1.length _ _ _ (fun i hi=>?_) ?_
    · unfold Dm
      simp only [Int.ofNat_eq_natCast,Int.toNat_natCast]
      rw [dT (show (k:Int)<(a3.length:Int) by omega),dT (show (0:Int)≤(k:Int) by omega),dT (show (i:Int)<((a3.getD k zW).2.1.length:Int) by omega),dT (show (0:Int)≤(i:Int) by omega),fE (by omega)]
      cases ah.inside ((a3.getD k zW).2.1.getD i 0) 1 99<;>rfl
    · unfold Dm
      simp only [Int.ofNat_eq_natCast,Int.toNat_natCast]
      rw [dT (show (k:Int)<(a3.length:Int) by omega),dT (show (0:Int)≤(k:Int) by omega),dF (show ¬ ((a3.getD k zW).2.1.length:Int)<((a3.getD k zW).2.1.length:Int) by omega)]
      rfl
  have hS1:Loop (Dn a3) ((0:Int),())=some (bif a3.any lD then (true,((2,()),())) else (false,((0,()),()))):=by
    rw [←qK _ zW]
    refine tQ _ a3.length _ _ _ (fun i hi=>?_) ?_
    · unfold Dn
      rw [hS0 i hi]
      simp only [Int.ofNat_eq_natCast,Int.toNat_natCast]
      rw [dT (show (i:Int)<(a3.length:Int) by omega),dT (show (0:Int)≤(i:Int) by omega),fE (by omega)]
      unfold lD
      cases ah.inside (a3.getD i zW).1 1 256<;>cases (a3.getD i zW).2.1.any (fun n=>!ah.inside n 1 99)<;>rfl
    · unfold Dn
      simp only [Int.ofNat_eq_natCast]
      rw [dF (show ¬ (a3.length:Int)<(a3.length:Int) by omega)]
      rfl
  have hS2:Loop (Dp a3) ((0:Int),())=some (bif a3.any (fun r=>decide (24<r.2.1.length)) then (true,((3,()),())) else (false,((0,()),()))):=by
    rw [←qK _ zW]
    refine tQ _ a3.length _ _ _ (fun i hi=>?_) ?_
    · unfold Dp
      simp only [Int.ofNat_eq_natCast,Int.toNat_natCast]
      rw [dT (show (i:Int)<(a3.length:Int) by omega),dT (show (0:Int)≤(i:Int) by omega),fE (by omega)]
      by_cases h:24<(a3.getD i zW).2.1.length
      · rw [dT (show ((a3.getD i zW).2.1.length:Int) > 24 by omega),dT h];rfl
      · rw [dF (show ¬ ((a3.getD i zW).2.1.length:Int) > 24 by omega),dF h];rfl
    · unfold Dp
      simp only [Int.ofNat_eq_natCast]
      rw [dF (show ¬ (a3.length:Int)<(a3.length:Int) by omega)]
      rfl
  have hS3:∀ k,k<a3.length→Loop (Dq a3 ((k:Int),())) ((1:Int),())=some (bif !qG (a3.getD k zW).2.1 then (true,((25,()),())) else (false,((0,()),()))):=by
    intro k hk
    have hr:=JV r3 k hk
    rw [←aak]
    refine Go.aW.Jv _ (a3.getD k zW).2.1.length (fun i=>decide ((a3.getD k zW).2.1.getD i 0≤(a3.getD k zW).2.1.getD (i - 1) 0)) _ _ (fun i h1 hi=>?_) (fun i h1 hi=>?_)
    · unfold Dq
      rw [Fx (by omega) (by omega)]
      simp only [Int.ofNat_eq_natCast,Int.toNat_natCast]
      rw [dT (show (i:Int)<((a3.getD k zW).2.1.length:Int) by omega),dT (show (0:Int)≤(i:Int) by omega),dT (show ((i - 1:Nat):Int)<((a3.getD k zW).2.1.length:Int) by omega),dT (show (0:Int)≤((i - 1:Nat):Int) by omega),fE (by omega)]
      by_cases h:(a3.getD k zW).2.1.getD i 0≤(a3.getD k zW).2.1.getD (i - 1) 0
      · rw [dT (show (a3.getD k zW).2.1.getD (i - 1) 0≥(a3.getD k zW).2.1.getD i 0 from h)];first | rfl | (rw [dT h];rfl)
      · rw [dF (show ¬ (a3.getD k zW).2.1.getD (i - 1) 0≥(a3.getD k zW).2.1.getD i 0 from h)];first | rfl | (rw [dF h];rfl)
    · unfold Dq
      simp only [Int.ofNat_eq_natCast,Int.toNat_natCast]
      rw [dF (show ¬ (i:Int)<((a3.getD k zW).2.1.length:Int) by omega)]
      rfl
  have hS4:Loop (Dr a3) ((0:Int),())=some (bif (List.range a3.length).any (BR a3) then (true,((25,()),())) else (false,((0,()),()))):=by
    refine tQ _ a3.length _ _ _ (fun i hi=>?_) ?_
    · unfold Dr BR
      rw [hS3 i hi]
      simp only [Int.ofNat_eq_natCast,Int.toNat_natCast]
      rw [dT (show (i:Int)<(a3.length:Int) by omega),dT (show (0:Int)≤(i:Int) by omega),fE (by omega)]
      by_cases h0:0<i
      · rw [dT (show (i:Int) > 0 by omega),dT h0,Fx h0 (by omega)]
        simp only [Int.toNat_natCast]
        rw [dT (show (0:Int)≤((i - 1:Nat):Int) by omega),dT (show ((i - 1:Nat):Int)<(a3.length:Int) by omega)]
        by_cases h1:(a3.getD i zW).1≤(a3.getD (i - 1) zW).1
        · rw [dT (show (a3.getD (i - 1) zW).1≥(a3.getD i zW).1 from h1)]
          first | (cases qG (a3.getD i zW).2.1<;>rfl) | (rw [dT h1];cases qG (a3.getD i zW).2.1<;>rfl)
        · rw [dF (show ¬ (a3.getD (i - 1) zW).1≥(a3.getD i zW).1 from h1)]
          first | (cases qG (a3.getD i zW).2.1<;>rfl) | (rw [dF h1];cases qG (a3.getD i zW).2.1<;>rfl)
      · rw [dF (show ¬ (i:Int) > 0 by omega),dF h0]
        cases qG (a3.getD i zW).2.1<;>rfl
    · unfold Dr
      simp only [Int.ofNat_eq_natCast]
      rw [dF (show ¬ (a3.length:Int)<(a3.length:Int) by omega)]
      rfl
  have hS5:Loop (Dt a0 a3) ((0:Int),())=some (bif a3.any (iX a0) then (true,((8,()),())) else (false,((0,()),()))):=by
    rw [←qK _ zW]
    refine tQ _ a3.length _ _ _ (fun i hi=>?_) ?_
    · unfold Dt iX
      simp only [Int.ofNat_eq_natCast,Int.toNat_natCast]
      rw [dT (show (i:Int)<(a3.length:Int) by omega),dT (show (0:Int)≤(i:Int) by omega),fE (by omega),Qr]
      by_cases h:1<(a3.getD i zW).2.1.length
      · rw [dT (show ((a3.getD i zW).2.1.length:Int) > 1 by omega),dT h]
        cases (a3.getD i zW).2.1.any (fun y=>decide (a0=y))<;>rfl
      · rw [dF (show ¬ ((a3.getD i zW).2.1.length:Int) > 1 by omega),dF h];rfl
    · unfold Dt
      simp only [Int.ofNat_eq_natCast]
      rw [dF (show ¬ (a3.length:Int)<(a3.length:Int) by omega)]
      rfl
  unfold g37 nk
  rw [hS1,hS2,hS4,hS5,BS]
  simp only [Int.ofNat_eq_natCast]
  have e1:decide ((a3.length:Int) > 0) = !decide (a3.length=0):=by
    by_cases h:a3.length=0
    · rw [dT h,dF (by omega)];rfl
    · rw [dF h,dT (by omega)];rfl
  have e2:decide ((a3.length:Int) > 256)=decide (256<a3.length):=decide_eq_decide.2 (by omega)
  rw [e1,e2]
  cases decide (a2=0)<;>cases decide (a3.length=0)<;>cases ah.inside a0 1 99<;>cases ah.inside a1 0 7<;>cases dI a2<;>cases a3.any lD<;>cases decide (256<a3.length)<;>cases (a3.any fun r=>decide (24<r.2.1.length))<;>cases (a3.all fun r=>qG r.2.1)<;>cases P7 a3<;>cases a3.any (iX a0)<;>rfl
theorem zY {x y:Int} (hx:U x) (hy:U y):U (Bt.or x y):=pO (Nat.or_lt_two_pow (FV hx) (FV hy))
theorem uL {x y:Int} (hx:U x) (hy:U y):IntKind.wrap .u64 (Int.ofNat (BitVec.or (BitVec.ofInt 64 x) (BitVec.ofInt 64 y)).toNat)=Bt.or x y:=bor hx hy
abbrev zC:Cp:=(0,([],(0,0,0,0,0,0,0,0,0,[],()),()),())
def Us (a:Int) (c:Cp):Int:=Bt.or a (bt c.2.1.2.1)
theorem Qs:∀ (l:List Cp) (a:Int),U a→(∀ c∈l,U (bt c.2.1.2.1))→U (l.foldl Us a)
  | [],_,h,_=>h
  | c::l,a,h,hc=>Qs l (Us a c) (zY h (hc c List.mem_cons_self)) (fun x hx=>hc x (List.mem_cons_of_mem _ hx))
theorem aam (a0:Int) (a1:Int) (a2:(List (Int×(((List Int)×((Int×(Int×(Int×(Int×(Int×(Int×(Int×(Int×(Int×((List Int)×Unit))))))))))×Unit))×Unit)))) (r0:IntKind.u64.has a0) (r1:IntKind.u64.has a1) (r2:(Ty.sl (cpT)).ok a2):g12 a0 a1 a2=some (ah.sP (a0,a1,a2,()),()):=by
  have hl:a2.length≤1172812402961:=by
    have h:a2.length*120≤140737488355328:=r2.1
    omega
  have hu:∀ c∈a2,U (bt c.2.1.2.1):=fun c hc=>uh (r2.2 c hc).2.1.2.1.2.2.2.2.2.2.2.2.1
  have h0:U (Bt.or a0 a1):=zY (uh r0) (uh r1)
  have hL:Loop (zn a2) (Bt.or a0 a1,((0:Int),()))=some (a2.foldl Us (Bt.or a0 a1),()):=by
    refine (j6 (step:=zn a2) (fun k=>((a2.take k).foldl Us (Bt.or a0 a1),((k:Int),()))) a2.length _ (fun k hk=>?_) ?_ 0 (Nat.zero_le _))
    · have hU:=Qs (a2.take k) _ h0 (fun c hc=>hu c (List.mem_of_mem_take hc))
      rw [List.take_succ_eq_append_getElem hk,List.foldl_append,List.foldl_cons,List.foldl_nil,←dH (d:=zC) hk]
      generalize (a2.take k).foldl Us (Bt.or a0 a1)=a at hU ⊢
      have hb:U (bt (a2.getD k zC).2.1.2.1):=by rw [dH hk];exact hu _ (List.getElem_mem hk)
      unfold zn
      simp only [Int.toNat_natCast]
      rw [dT (show (k:Int)<Int.ofNat a2.length by simp only [Int.ofNat_eq_natCast];omega),dT (show (0:Int)≤(k:Int) by omega),fE (by omega)]
      have e:=uL hU hb
      show some (Sum.inl (IntKind.wrap .u64 (Int.ofNat (BitVec.or (BitVec.ofInt 64 a) (BitVec.ofInt 64 (bt (a2.getD k zC).2.1.2.1))).toNat),((k+1:Nat):Int),()))=_
      rw [e]
      rfl
    · unfold zn
      rw [dF (show ¬ (a2.length:Int)<Int.ofNat a2.length by simp only [Int.ofNat_eq_natCast];omega),List.take_length]
      rfl
  unfold g12
  rw [uL (uh r0) (uh r1),hL]
  rfl
end Go.aW.fF