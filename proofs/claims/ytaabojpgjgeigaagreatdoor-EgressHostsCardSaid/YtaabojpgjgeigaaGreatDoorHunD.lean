/- Chapter 29 (egress, hosts): proved is that functions that the law reaches keep their contracts, and that runs come to an end (members, signals, overlays, scenes); no conditions but those that each theorem states. -/
import Derived.Test.YtaabojpgjgeigaaGreatDoorHunC
set_option linter.unusedVariables false
set_option linter.unusedSimpArgs false
namespace Go.gI.qJ
open Go Go.Proofs ah
set_option maxRecDepth 100000
theorem getD_at {α:Type} {l:List α} {d:α} {i:Nat} (h:i<l.length):l.getD i d=l[i]:=Go.gI.dV h
theorem TA {α ρ:Type} (f:(Int×Unit)→Option (Sum (Int×Unit) ρ)) (l:List α) (d:α) (bad:α→Bool) (R1:α→ρ) (R0:ρ) (hl:l.length≤9223372036854775806)
 (h:∀ i:Int,f (i,())=bif decide (i<Int.ofNat l.length) then (bif decide (0≤i)&&decide (i<Int.ofNat l.length) then (bif bad (l.getD i.toNat d) then some (.inr (R1 (l.getD i.toNat d))) else some (.inl (IntKind.wrap .i64 (i+1),()))) else none) else some (.inr R0)) :
 Loop f ((0:Int),())=some ((l.find? bad).elim R0 R1):=by
 have key:∀ j k,k+j=l.length→Loop f ((k:Int),())=some (((l.drop k).find? bad).elim R0 R1):=by
  intro j
  induction j with
  | zero=>
   intro k hk
   rw [aT,h,dF (show ¬ (k:Int)<Int.ofNat l.length by show ¬ (k:Int)<(l.length:Int);omega),List.drop_of_length_le (by omega)]
   rfl
  | succ j ih=>
   intro k hk
   have hlt:k<l.length:=by omega
   rw [aT,h,dT (show (k:Int)<Int.ofNat l.length by show (k:Int)<(l.length:Int);omega),dT (show (0:Int)≤(k:Int) by omega),dG,getD_at hlt,aG (by omega),
    List.drop_eq_getElem_cons hlt,List.find?_cons]
   cases hb:bad l[k] with
   | true=>rfl
   | false=>exact ih (k+1) (by omega)
 exact key l.length 0 (by omega)
theorem DF {α ρ:Type} (f:(Int×Unit)→Option (Sum (Int×Unit) ρ)) (l:List α) (d:α) (bad:α→Bool) (R1 R0:ρ) (hl:l.length≤9223372036854775806)
 (h:∀ i:Int,f (i,())=bif decide (i<Int.ofNat l.length) then (bif decide (0≤i)&&decide (i<Int.ofNat l.length) then (bif bad (l.getD i.toNat d) then some (.inr R1) else some (.inl (IntKind.wrap .i64 (i+1),()))) else none) else some (.inr R0)) :
 Loop f ((0:Int),())=some (bif l.any bad then R1 else R0):=by
 rw [TA f l d bad (fun _=>R1) R0 hl h]
 cases hf:l.find? bad with
 | none=>
  rw [List.find?_eq_none] at hf
  have:l.any bad=false:=by
   rw [List.any_eq_false];exact hf
  rw [this];rfl
 | some x=>
  have:l.any bad=true:=List.any_eq_true.2 ⟨x,List.mem_of_find?_eq_some hf,List.find?_some hf⟩;rw [this];rfl
theorem wD {α β:Type} (c:Bool) (x y:Option α) (f:α→Option β):Option.bind (bif c then x else y) f=bif c then Option.bind x f else Option.bind y f:=by cases c<;>rfl
theorem BP {α:Type} (c:Bool) (x y z:α):(bif c then (bif c then x else y) else z)=bif c then x else z:=by cases c<;>rfl
theorem TB {l:List Mb} (h:(Ty.sl J6).ok l):l.length≤9223372036854775806:=by
 have:=Fv h (by decide)
 omega
theorem YT (a0:List Int) (a1:Int) (r0:(Ty.sl (.int .i64)).ok a0):aj2 a0 a1=some (ah.has a0 a1,()):=by
 have hl:=H9 r0;unfold aj2
 rw [DF (Md a0 a1) a0 0 (fun x=>decide (x=a1)) (true,((true,()),())) (false,((false,()),())) (by omega) (fun i=>rfl)]
 unfold ah.has
 cases a0.any (fun x=>decide (x=a1))<;>rfl
theorem FE (a b:Bool):decide (a=b)=(a==b):=by cases a<;>cases b<;>rfl
theorem aac (a b:Int):decide (a≥b)=decide (b≤a):=rfl
theorem adK (a0:Int) (a1:List Int) (a2:Int):g53 a0 a1 a2=some (ah.iJ (a0,a1,()) a2,()):=by
 unfold g53 iJ;simp only [BP,aac]
 cases decide (dU (a0,a1,())=0) with
 | false=>rfl
 | true=>
  cases decide (1≤a2) with
  | false=>rfl
  | true=>simp only [aQ,gL,Bool.true_and,FE]
theorem akw (a:Int):decide (a > 0)=decide (1≤a):=by
 by_cases h:a > 0
 ·rw [dT h,dT (show 1≤a by omega)]
 ·rw [dF h,dF (show ¬ 1≤a by omega)]
theorem YU (a0:Int) (a1:List Int) (a2:Int):akg a0 a1 a2=some (ah.iJ (a0,a1,()) a2,()):=by
 unfold akg iJ;rw [akw]
 cases decide (dU (a0,a1,())=0) with
 | false=>rfl
 | true=>
  cases decide (1≤a2) with
  | false=>rfl
  | true=>simp only [aQ,gL,Bool.true_and,FE]
theorem YV (l:List Int) (x:Int):l.any (fun y=>decide (x=y))=ah.has l x:=by
 unfold ah.has
 congr 1
 funext y
 by_cases h:x=y
 ·rw [dT h,dT h.symm]
 ·rw [dF h,dF (fun e=>h e.symm)]
theorem YW (a0:Int) (a1:List Int) (a2:Int):akk a0 a1 a2=some (ah.has a1 a2==decide (a0=1),()):=by
 unfold akk;rw [YV,FE]
theorem YX (a0 a1 a2:Int) (a3:List Int) (a4 a5 a6:Int):ajP a0 a1 a2 a3 a4 a5 a6=some (ah.Hy (a0,a1,a2,a3,a4,()) a5 a6,()):=by
 unfold ajP Hy
 by_cases h1:a1<a5
 ·rw [dT h1];rfl
 ·rw [dF h1]
  by_cases h2:a1=a5
  ·rw [dT h2];rfl
  ·rw [dF h2];rfl
theorem YZ (a0 a1 a2:Int) (a3:List Int) (a4 a5 a6:Int):aqn a0 a1 a2 a3 a4 a5 a6=some (ah.eH [ah.gV a1 a5,ah.gV a0 a6],()):=by
 rfl
theorem Y0 (a0 a1 a2:Int):ajD a0 a1 a2=some (ah.inside a0 a1 a2,()):=by
 unfold ajD inside
 by_cases h:a0≥a1
 ·rw [dT h];rfl
 ·rw [dF h];rfl
theorem Y1 (a0 a1 a2:Int):aj6 a0 a1 a2=some (ah.inside a0 a1 a2,()):=by
 unfold aj6 inside
 by_cases h:a0≥a1
 ·rw [dT h];rfl
 ·rw [dF h];rfl
theorem adL    : g74  = some ((1,[],()),()):=by
 rfl
theorem Y2 (a0:Int) (a1:List Int):ajB a0 a1=some (ah.O1 (a0,a1,()),()):=by
 unfold ajB O1
 cases decide (a0=1) with
 | false=>rfl
 | true=>
  simp only [aQ,gL,Bool.true_and,bq,eX,and_true]
  by_cases h:a1.length=0
  ·rw [dT h,dT (show Int.ofNat a1.length=0 by rw [h];rfl)]
  ·rw [dF h,dF (show ¬ Int.ofNat a1.length=0 by show ¬ (a1.length:Int)=0;omega)]
theorem DI (a0 a1:Int):(Option.bind (bif decide (a0≥1) then (bif decide (a0≤99) then (bif decide (a1≥1) then some (decide (a1≤99),()) else some (false,())) else some (false,())) else some (false,())) (fun y2:Bool×Unit=>some y2))=some (fM (a0,a1,()),()):=by
 unfold fM inside;simp only [aac]
 cases decide (1≤a0)<;>cases decide (a0≤99)<;>cases decide (1≤a1)<;>rfl
theorem adM (a0 a1:Int):g50 a0 a1=some (ah.fM (a0,a1,()),()):=by
 exact DI a0 a1
theorem Y3 (a0 a1:Int):aqs a0 a1=some (ah.fM (a0,a1,()),()):=by
 exact DI a0 a1
theorem byte_at {l:List Int} (r:Ty.str.ok l) {i:Nat} (h:i<l.length):0≤l.getD i 0∧l.getD i 0<256:=by
 rw [getD_at h];exact r.2 _ (List.getElem_mem h)
theorem TD (a0:List Int) (r0:Ty.str.ok a0):g48 a0=some (ah.gG a0,()):=by
 unfold g48 gG
 by_cases h:a0.length<2
 ·rw [dT (show Int.ofNat a0.length<2 by show (a0.length:Int)<2;omega),dT h];rfl
 ·have b0:=byte_at r0 (i:=0) (by omega)
  have b1:=byte_at r0 (i:=1) (by omega)
  rw [dF (show ¬ Int.ofNat a0.length<2 by show ¬ (a0.length:Int)<2;omega),dF h,dT (show 0<Int.ofNat a0.length by show (0:Int)<(a0.length:Int);omega),dT (show 1<Int.ofNat a0.length by show (1:Int)<(a0.length:Int);omega),
   fU (n:=a0.getD 0 0) (by omega) (by omega),fU (n:=a0.getD 1 0) (by omega) (by omega),dT (show 2≤Int.ofNat a0.length by show (2:Int)≤(a0.length:Int);omega),dT (show Int.ofNat a0.length≤Int.ofNat a0.length from Int.le_refl _)]
  have e:(Int.ofNat a0.length).toNat=a0.length:=rfl;rw [e,List.take_length]
  cases fM (a0.getD 0 0,a0.getD 1 0,())<;>rfl
theorem adN (a0:List Int) (r0:Ty.str.ok a0):g10 a0=some (ah.gG a0,()):=by
 exact TD a0 r0
theorem aad {n:Int} (h0:1≤n) (h:n≤99):IntKind.wrap .u8 n=n:=by
 show n%256=n;omega
theorem OH {a b:Int} (h:fM (a,b,())=true):(1≤a∧a≤99)∧1≤b∧b≤99:=by
 unfold fM inside at h
 simpa using h
theorem adO (a0 a1:Int) (a2:List Int) (h:(decide (a2.length≤1000000))=true):g59 a0 a1 a2=some (ah.wrap (a0,a1,()) a2,()):=by
 have hl:a2.length≤1000000:=of_decide_eq_true h;unfold g59 ah.wrap
 cases hv:fM (a0,a1,()) with
 | false=>rfl
 | true=>
  obtain ⟨⟨h1,h2⟩,h3,h4⟩:=OH hv
  have e:IntKind.wrap .i64 (Int.ofNat a2.length+2)=(a2.length:Int)+2:=by
   rw [bK,fU (by omega) (by omega)]
  simp only [Bool.not_true,bU];rw [e,aad h1 h2,aad h3 h4]
  by_cases h:64<a2.length+2
  ·rw [dT h,dT (show (a2.length:Int)+2 > 64 by omega)];rfl
  ·rw [dF h,dF (show ¬ (a2.length:Int)+2 > 64 by omega),iy (show ([a0,a1]:List Int).length+a2.length≤9223372036854775807 by simp only [List.length_cons,List.length_nil];omega)]
   rfl
theorem TF (a b:Int) (e:Ed):((decide (a=e.1))&&((decide (b=e.2.1))&&true))=decide ((a,b,())=e):=by
 obtain ⟨c,d,⟨⟩⟩:=e
 by_cases h1:a=c
 ·by_cases h2:b=d
  ·subst h1;subst h2
   rw [dT (show (a,b,())=(a,b,()) from rfl)]
   simp
  ·rw [dF (show ¬ (a,b,())=(c,d,()) by intro h;simp only [eX] at h;exact h2 h.2.1)]
   simp [h2]
 ·rw [dF (show ¬ (a,b,())=(c,d,()) by intro h;simp only [eX] at h;exact h1 h.1)]
  simp [h1]
theorem Y5 (a0:List ah.Ed) (a1 a2:Int) (r0:(Ty.sl (J5)).ok a0):akc a0 a1 a2=some (ah.idx (fun y=>decide ((a1,a2,())=y)) a0,()):=by
 have hl:=Fv r0 (by decide)
 unfold akc
 refine oD _ a0 (fun y=>decide ((a1,a2,())=y)) (0,0,()) (fun i hi=>?_) ?_
 ·unfold Fe
  simp only [bK,dG]
  rw [dT (show (i:Int)<(a0.length:Int) by omega),dT (show (0:Int)≤(i:Int) by omega),aG (by omega)]
  have:=TF a1 a2 (a0.getD i (0,0,()));simp only [aQ,Bool.and_self];rw [this]
 ·unfold Fe
  simp only [bK]
  rw [dF (show ¬ (a0.length:Int)<(a0.length:Int) by omega)]
  rfl
theorem adP (a0:List ah.Ed) (a1 a2:Int):g46 a0 a1 a2=some (a0.any fun y=>decide ((a1,a2,())=y),()):=by
 unfold g46;rw [Fj]
theorem zG {α:Type} (c p q:Bool) (x y:α):(bif (bif c then p else q) then x else y)=bif c then (bif p then x else y) else (bif q then x else y):=by cases c<;>rfl
theorem OI (f:Fl):ah.pR f (1,[],())=O1 f:=by
 unfold ah.pR O1
 congr 1
 by_cases h:f.2.1=[]
 ·rw [dT h,dT (show f.2.1.length=0 by rw [h];rfl)]
 ·rw [dF h,dF (show ¬ f.2.1.length=0 by intro e;exact h (List.eq_nil_of_length_eq_zero e))]
theorem Y6 (a b c d:Int):decide (eH [gV a b,gV c d]≥0) = !(decide (a<b) || decide (a=b)&&decide (c<d)):=by
 unfold gV
 by_cases h1:a<b
 ·rw [dT h1];rfl
 ·rw [dF h1]
  by_cases h2:b<a
  ·rw [dT h2,dF (show ¬ a=b by omega)];rfl
  ·rw [dF h2,dT (show a=b by omega)]
   by_cases h3:c<d
   ·rw [dT h3];rfl
   ·rw [dF h3]
    by_cases h4:d<c
    ·rw [dT h4];rfl
    ·rw [dF h4];rfl
theorem Y7 (l:List Mb):((List.range (l.length - 1)).any fun i=>!Hy (Lr (l.getD i BU)) (l.getD (i+1) BU).2.1 (l.getD (i+1) BU).1) = !ZN l:=by
 unfold ZN;rw [List.not_all_eq_any_not]
theorem MG (f:(Int×Unit)→Option (Sum (Int×Unit) (Bool×(Int×Unit)×Unit))) (l:List Mb) (hl:l.length≤9223372036854775806)
 (h1:∀ i:Nat,1≤i→i<l.length→f ((i:Int),())=some (bif !Hy (Lr (l.getD (i - 1) BU)) (l.getD i BU).2.1 (l.getD i BU).1 then .inr (true,((25,()),())) else .inl (((i+1:Nat):Int),())))
 (h0:∀ i:Int,¬ i<(l.length:Int)→f (i,())=some (.inr (false,((0,()),())))) :
 Loop f ((1:Int),())=some (bif !ZN l then (true,((25,()),())) else (false,((0,()),()))):=by
 rw [←Y7]
 exact QU f l.length (fun i=>!Hy (Lr (l.getD (i - 1) BU)) (l.getD i BU).2.1 (l.getD i BU).1) _ _ h1 (fun i hi _=>h0 _ (by omega))
theorem adQ (a0:Int) (a1:List ah.Mb) (r1:(Ty.sl (J6)).ok a1):g52 a0 a1=some (ah.jw (a0,a1,()),()):=by
 have hl:=TB r1
 have L1:Loop (Ka a1) ((0:Int),())=some ((a1.find? Bn).elim (false,((0,()),())) (fun x=>(true,((dU x.2.2.1,()),())))):=
  TA (Ka a1) a1 BU Bn (fun x=>(true,((dU x.2.2.1,()),()))) _ hl (fun i=>rfl)
 have L2:Loop (Kc a1) ((0:Int),())=some (bif a1.any (fun x=>O1 x.2.2.1) then (true,((1,()),())) else (false,((0,()),()))):=by
  rw [show (fun x:Mb=>O1 x.2.2.1)=fun x=>ah.pR x.2.2.1 (1,[],()) by funext x;rw [OI]]
  exact DF (Kc a1) a1 BU _ _ _ hl (fun i=>rfl)
 have L3:Loop (EM a1) ((1:Int),())=some (bif !ZN a1 then (true,((25,()),())) else (false,((0,()),()))):=by
  refine MG _ a1 hl (fun i hi hlt=>?_) (fun i hi=>?_)
  ·unfold EM
   simp only [bK,dG]
   rw [aG (by omega),sQ (by omega) (by omega),dG,dT (show (i:Int)<(a1.length:Int) by omega),dT (show (0:Int)≤(i:Int) by omega),dT (show (0:Int)≤((i - 1:Nat):Int) by omega),dT (show ((i - 1:Nat):Int)<(a1.length:Int) by omega)]
   simp only [Bool.and_self,aQ];exact rY _ _ _
  ·unfold EM
   simp only [bK];rw [dF hi];rfl
 unfold g52 jw inside
 by_cases h0:a0<0
 ·rw [dT h0,dF (show ¬ 0≤(a0,a1,()).1 by show ¬ 0≤a0;omega)];rfl
 rw [dF h0,dT (show 0≤(a0,a1,()).1 by show 0≤a0;omega)]
 by_cases h1:a0 > 1000000
 ·rw [dT h1,dF (show ¬ (a0,a1,()).1≤1000000 by show ¬ a0≤1000000;omega)];rfl
 rw [dF h1,dT (show (a0,a1,()).1≤1000000 by show a0≤1000000;omega)]
 simp only [Bool.not_false,aQ,gL,bU,Bool.and_self,Bool.not_true]
 by_cases h2:64<a1.length
 ·rw [dT h2,dT (show Int.ofNat a1.length > 64 by show (a1.length:Int) > 64;omega)];rfl
 rw [dF h2,dF (show ¬ Int.ofNat a1.length > 64 by show ¬ (a1.length:Int) > 64;omega)]
 have L0:Loop (EL a0 a1) ((0:Int),())=some (bif a1.any (ah.yJ a0) then (true,((2,()),())) else (false,((0,()),()))):=by
  refine DF (EL a0 a1) a1 BU (ah.yJ a0) _ _ hl (fun i=>?_)
  unfold EL ah.yJ
  rw [fU (n:=a0+1000) (by omega) (by omega)]
  simp only [wD,gL,zG,aQ]
 simp only [bU];rw [L0,L1,L2,L3]
 cases a1.any (ah.yJ a0) with
 | true=>rfl
 | false=>
  simp only [bU,gL]
  cases a1.find? Bn with
  | some x=>rfl
  | none=>
   simp only [Option.elim_none,bU,gL]
   cases a1.any (fun x=>O1 x.2.2.1) with
   | true=>rfl
   | false=>
    simp only [bU,gL]
    cases ZN a1<;>rfl
theorem MH (x lo hi:Int):(!(!(ah.inside x lo hi)))=(bif !decide (x<lo) then !decide (x > hi) else false):=by
 unfold inside
 by_cases h:x<lo
 ·rw [dT h,dF (show ¬ lo≤x by omega)];rfl
 ·rw [dF h,dT (show lo≤x by omega)]
  by_cases h':x > hi
  ·rw [dT h',dF (show ¬ x≤hi by omega)];rfl
  ·rw [dF h',dT (show x≤hi by omega)];rfl
theorem MI (x lo hi:Int):(!(ah.inside x lo hi))=(bif !decide (x<lo) then decide (x > hi) else true):=by
 have:=MH x lo hi
 cases h:ah.inside x lo hi<;>rw [h] at this<;>cases h1:decide (x<lo)<;>cases h2:decide (x > hi)<;>rw [h1,h2] at this<;>simp at this<;>rfl
theorem adR (a0:Int) (a1:List ah.Mb) (r1:(Ty.sl (J6)).ok a1):g47 a0 a1=some (ah.jw (a0,a1,()),()):=by
 have hl:=TB r1
 have L1:Loop (J8 a1) ((0:Int),())=some ((a1.find? Bn).elim (false,((0,()),())) (fun x=>(true,((dU x.2.2.1,()),())))):=
  TA (J8 a1) a1 BU Bn (fun x=>(true,((dU x.2.2.1,()),()))) _ hl (fun i=>rfl)
 have L2:Loop (J9 a1) ((0:Int),())=some (bif a1.any (fun x=>O1 x.2.2.1) then (true,((1,()),())) else (false,((0,()),()))):=
  DF (J9 a1) a1 BU _ _ _ hl (fun i=>rfl)
 have L3:Loop (EI a1) ((1:Int),())=some (bif !ZN a1 then (true,((25,()),())) else (false,((0,()),()))):=by
  refine MG _ a1 hl (fun i hi hlt=>?_) (fun i hi=>?_)
  ·unfold EI
   simp only [bK,dG]
   rw [aG (by omega),sQ (by omega) (by omega),dG,dT (show (i:Int)<(a1.length:Int) by omega),dT (show (0:Int)≤(i:Int) by omega),dT (show (0:Int)≤((i - 1:Nat):Int) by omega),dT (show ((i - 1:Nat):Int)<(a1.length:Int) by omega)]
   simp only [Bool.and_self,aQ];rw [Y6];exact rY _ _ _
  ·unfold EI
   simp only [bK];rw [dF hi];rfl
 unfold g47 jw
 cases h0:ah.inside a0 0 1000000 with
 | false=>rfl
 | true=>
 simp only [Bool.not_true,bU]
 by_cases h2:64<a1.length
 ·rw [dT h2,dT (show Int.ofNat a1.length > 64 by show (a1.length:Int) > 64;omega)];rfl
 rw [dF h2,dF (show ¬ Int.ofNat a1.length > 64 by show ¬ (a1.length:Int) > 64;omega)]
 have hi:0≤a0∧a0≤1000000:=by unfold inside at h0;simpa using h0
 have L0:Loop (EH a0 a1) ((0:Int),())=some (bif a1.any (ah.yJ a0) then (true,((2,()),())) else (false,((0,()),()))):=by
  refine DF (EH a0 a1) a1 BU (ah.yJ a0) _ _ hl (fun i=>?_)
  unfold EH ah.yJ
  rw [fU (n:=a0+1000) (by omega) (by omega)]
  simp only [MH];simp only [wD,gL,zG,aQ,MI,bU]
 simp only [bU];rw [L0,L1,L2,L3]
 cases a1.any (ah.yJ a0) with
 | true=>rfl
 | false=>
  simp only [bU,gL]
  cases a1.find? Bn with
  | some x=>rfl
  | none=>
   simp only [Option.elim_none,bU,gL]
   cases a1.any (fun x=>O1 x.2.2.1) with
   | true=>rfl
   | false=>
    simp only [bU,gL]
    cases ZN a1<;>rfl
theorem kN {α:Type} {l:List α} {d:α} {k:Nat} (h:k<l.length):l.take (k+1)=l.take k++[l.getD k d]:=by
 rw [getD_at h,List.take_succ_eq_append_getElem h]
theorem TG {α β:Type} (f:(List β×Int×Unit)→Option (Sum (List β×Int×Unit) (List β×Unit))) (l:List α) (d:α) (p:α→Bool) (g:α→β)
 (hs:∀ (k:Nat) (out:List β),k<l.length→out.length≤k→f (out,((k:Int),()))=some (.inl (bif p (l.getD k d) then out++[g (l.getD k d)] else out,(((k+1:Nat):Int),()))))
 (he:∀ out,f (out,((l.length:Int),()))=some (.inr (out,()))):Loop f (([]:List β),((0:Int),()))=some ((l.filter p).map g,()):=by
 have h:=jW (step:=f) (fun k=>(((l.take k).filter p).map g,((k:Int),()))) l.length ((l.filter p).map g,()) (fun k hk=>?_) ?_ 0 (fG _)
 ·exact h
 ·rw [hs k _ hk (by rw [List.length_map];refine jQ (List.length_filter_le _ _) ?_;rw [List.length_take];omega),kN (d:=d) hk,List.filter_append,List.map_append]
  generalize l.getD k d=x
  cases hp:p x<;>simp [hp]
 ·rw [he,List.take_length]
theorem Y8 {α β:Type} (f:(Int×List β×Unit)→Option (Sum (Int×List β×Unit) (List β×Unit))) (l:List α) (d:α) (g:α→β)
 (hs:∀ (k:Nat) (out:List β),k<l.length→out.length≤k→f ((k:Int),(out,()))=some (.inl (((k+1:Nat):Int),(out++[g (l.getD k d)],()))))
 (he:∀ out,f ((l.length:Int),(out,()))=some (.inr (out,()))):Loop f ((0:Int),(([]:List β),()))=some (l.map g,()):=by
 have h:=jW (step:=f) (fun k=>((k:Int),((l.take k).map g,()))) l.length (l.map g,()) (fun k hk=>?_) ?_ 0 (fG _)
 ·exact h
 ·rw [hs k _ hk (by rw [List.length_map,List.length_take];omega),kN (d:=d) hk,List.map_append]
  rfl
 ·rw [he,List.take_length]
theorem MJ {l:List Mb} (h:(Ty.sl J6).ok l):l.length≤2513169434916:=by
 have h:l.length*56≤140737488355328:=h.1;omega
theorem OJ (m:Ms) (f:Fw):(hosts m f).length≤m.2.1.length:=by
 unfold hosts
 cases decide (jw m=0) with
 | false=>exact fG _
 | true=>
  show ((m.2.1.filter (Ls f)).map _).length≤_;rw [List.length_map];exact List.length_filter_le _ _
theorem TH (a0:Int) (a1:List ah.Mb) (a2 a3:Int) (r0:IntKind.i64.has a0) (r1:(Ty.sl (J6)).ok a1) (r2:IntKind.i64.has a2) (r3:IntKind.i64.has a3):g13 a0 a1 a2 a3=some (ah.hosts (a0,a1,()) (a2,a3,()),()):=by
 have hl:=MJ r1
 have hL:Loop (BA a1 a2 a3) (([]:List Int),((0:Int),()))=some ((a1.filter (Ls (a2,a3,()))).map (fun x=>x.1),()):=by
  refine TG _ a1 BU _ _ (fun k out hk ho=>?_) (fun out=>?_)
  ·unfold BA Ls
   simp only [bK,dG]
   rw [dT (show (k:Int)<(a1.length:Int) by omega),dT (show (0:Int)≤(k:Int) by omega),aG (by omega),iy (show (out.length+1)*8≤140737488355328 by omega)]
   cases decide ((a1.getD k BU).2.1=a3)<;>cases decide ((a1.getD k BU).1=a2)<;>cases iJ (a1.getD k BU).2.2.1 a2<;>rfl
  ·unfold BA
   simp only [bK]
   rw [dF (show ¬ (a1.length:Int)<(a1.length:Int) by omega)]
   rfl
 unfold g13 hosts;rw [hL]
 cases decide (jw (a0,a1,())=0)<;>rfl
theorem Y9 (a0:Int) (a1:List ah.Mb) (a2 a3:Int) (r0:IntKind.i64.has a0) (r1:(Ty.sl (J6)).ok a1) (r2:IntKind.i64.has a2) (r3:IntKind.i64.has a3):ajH a0 a1 a2 a3=some (ah.hosts (a0,a1,()) (a2,a3,()),()):=by
 have e:Mc=BA:=rfl;have:=TH a0 a1 a2 a3 r0 r1 r2 r3;unfold ajH;unfold g13 at this;rw [e];exact this
theorem TJ (a0:Int) (a1:List Mb) (a2 a3 a4:Int) (a5:List Int) (hl:a1.length≤2513169434916):Loop (ER a0 a1 a2 a3 a4 a5) ((0:Int),(([]:List Rc),()))=some (recs (a0,a1,()) a2 (a3,a4,()) a5,()):=by
 have hh:=OJ (a0,a1,()) (a3,a4,());have hh:(hosts (a0,a1,()) (a3,a4,())).length≤2513169434916:=jQ hh hl;unfold recs
 refine Y8 _ (hosts (a0,a1,()) (a3,a4,())) 0 _ (fun k out hk ho=>?_) (fun out=>?_)
 ·unfold ER
  simp only [bK,dG]
  rw [dT (show (k:Int)<((hosts (a0,a1,()) (a3,a4,())).length:Int) by omega),dT (show (0:Int)≤(k:Int) by omega),aG (by omega),iy (show (out.length+1)*48≤140737488355328 by omega)]
  rfl
 ·unfold ER
  simp only [bK]
  rw [dF (show ¬ ((hosts (a0,a1,()) (a3,a4,())).length:Int)<((hosts (a0,a1,()) (a3,a4,())).length:Int) by omega)]
  rfl
theorem TK (a0:Int) (a1:List ah.Mb) (a2 a3 a4:Int) (a5:List Int) (r0:IntKind.i64.has a0) (r1:(Ty.sl (J6)).ok a1) (r2:IntKind.i64.has a2) (r3:IntKind.i64.has a3) (r4:IntKind.i64.has a4) (r5:Ty.str.ok a5):g49 a0 a1 a2 a3 a4 a5=some (ah.recs (a0,a1,()) a2 (a3,a4,()) a5,()):=by
 unfold g49;rw [TJ a0 a1 a2 a3 a4 a5 (MJ r1)];rfl
theorem aae (a0 a1:Int) (a2:List ah.Ed) (a3:Int) (a4:List ah.Mb) (a5 a6 a7 a8 a9 bJ bS a12 dD iR:Int) (jg:List Int) (r0:IntKind.i64.has a0) (r1:IntKind.i64.has a1) (r2:(Ty.sl (J5)).ok a2) (r3:IntKind.i64.has a3) (r4:(Ty.sl (J6)).ok a4) (r5:IntKind.i64.has a5) (r6:IntKind.i64.has a6) (r7:IntKind.i64.has a7) (r8:IntKind.i64.has a8) (r9:IntKind.i64.has a9) (r10:IntKind.i64.has bJ) (r11:IntKind.i64.has bS) (Z6:IntKind.i64.has a12) (r13:IntKind.i64.has dD) (r14:IntKind.u64.has iR) (r15:Ty.str.ok jg):g9 a0 a1 a2 a3 a4 a5 a6 a7 a8 a9 bJ bS a12 dD iR jg=some (ah.gH (a0,a1,a2,()) (a3,a4,()) (a5,a6,a7,a8,a9,bJ,bS,a12,dD,iR,jg,()),()):=by
 unfold g9 gH
 cases decide (jw (a3,a4,())=0) with
 | false=>rfl
 | true=>
  simp only [Bool.not_true,bU]
  cases ah.accept (a0,a1,a2,()) (a5,a6,a7,a8,a9,bJ,bS,a12,dD,iR,jg,()) with
  | false=>rfl
  | true=>
   show (bif !decide ((gG jg).2.2.1=0) then _ else _)=some (bif !decide ((gG jg).2.2.1=0) then ([],(gG jg).2.2.1,()) else (recs (a3,a4,()) a5 (gG jg).1 (gG jg).2.1,0,()),())
   cases decide ((gG jg).2.2.1=0)<;>rfl
theorem TL (a0:Int) (a1:List ah.Mb) (a2 a3 a4:Int) (a5:List Int) (r0:IntKind.i64.has a0) (r1:(Ty.sl (J6)).ok a1) (r2:IntKind.i64.has a2) (r3:IntKind.i64.has a3) (r4:IntKind.i64.has a4) (r5:Ty.str.ok a5) (h:(decide (a5.length≤1000000))=true):g11 a0 a1 a2 a3 a4 a5=some (ah.je (a0,a1,()) a2 (a3,a4,()) a5,()):=by
 have hl:a5.length≤1000000:=of_decide_eq_true h;unfold g11 je
 cases decide (jw (a0,a1,())=0) with
 | false=>rfl
 | true=>
  rw [MI];simp only [fI h,Bool.not_true,bU,wD,gL,zG,aQ]
  cases decide (a2<1)<;>cases decide (a2 > 99)<;>cases decide ((ah.wrap (a3,a4,()) a5).2.1=0)<;>rfl
theorem TN {b:Int} (hU:U b) (h:ah.count b=1):b≠0:=by
 intro e;subst e
 have:ah.count 0=0:=by decide
 omega
theorem aky (a0 a1:Int) (a2:List ah.Ed) (a3 a4 a5 a6 a7 a8 a9 bJ bS a12:Int) (dD:List Int) (Z6:IntKind.u64.has a12):g8 a0 a1 a2 a3 a4 a5 a6 a7 a8 a9 bJ bS a12 dD=some (ah.accept (a0,a1,a2,()) (a3,a4,a5,a6,a7,a8,a9,bJ,bS,a12,dD,()),()):=by
 have hU:U a12:=uh Z6;unfold g8 accept
 show Option.bind (bif !!dZ (a0,a1,a2,()) then _ else _) _=some (dZ (a0,a1,a2,())&&dz (a4,a5,a6,a7,a8,a9,bJ,bS,a12,dD,())&&decide (a4=1)&&decide (a5=a0)&&decide (a7=a1)&&decide (ah.count a12=1)&&((at_ a6 (Bt.nth a12 0) a7).2.1&&a2.any fun e=>decide ((a3,(at_ a6 (Bt.nth a12 0) a7).1,())=e)),())
 cases dZ (a0,a1,a2,()) with
 | false=>rfl
 | true=>
 cases dz (a4,a5,a6,a7,a8,a9,bJ,bS,a12,dD,()) with
 | false=>rfl
 | true=>
 cases decide (a4=1) with
 | false=>rfl
 | true=>
 cases decide (a5=a0) with
 | false=>rfl
 | true=>
 cases decide (a7=a1) with
 | false=>rfl
 | true=>
 cases hc:decide (ah.count a12=1) with
 | false=>rfl
 | true=>
  simp only [Bool.not_true,Bool.not_false,aQ,bU,gL,Bool.and_self,Bool.true_and]
  rw [fI (show (!decide (a12=0))=true by rw [dF (TN hU (of_decide_eq_true hc))];rfl)]
  simp only [gL]
  cases (at_ a6 (Bt.nth a12 0) a7).2.1<;>rfl
def dS {α:Type} (o:Option α) (Q:α→Prop):Prop:=∃ r,o=some r∧Q r
theorem aj {α:Type} {Q:α→Prop} {r:α} (h:Q r):dS (some r) Q:=⟨r,rfl,h⟩
theorem au {α:Type} {Q:α→Prop} {c:Bool} {a b:Option α} (h1:c=true→dS a Q) (h2:c=false→dS b Q):dS (bif c then a else b) Q:=by
 cases c with
 | true=>exact h1 rfl
 | false=>exact h2 rfl
theorem jI {α:Type} {Q:α→Prop} {c:Bool} {a:Option α} (h1:c=true) (h2:dS a Q):dS (bif c then a else none) Q:=by rw [h1];exact h2
theorem ak {α β:Type} {P:α→Prop} {Q:β→Prop} {o:Option α} {f:α→Option β} (h1:dS o P) (h2:∀ r,P r→dS (f r) Q):dS (Option.bind o f) Q:=by
 obtain ⟨r,e,h⟩:=h1;rw [e];exact h2 r h
theorem mF {α:Type} {P Q:α→Prop} {o:Option α} (h1:dS o P) (h2:∀ r,P r→Q r):dS o Q:=by
 obtain ⟨r,e,h⟩:=h1;exact ⟨r,e,h2 r h⟩
theorem jL {α:Type} {Q:α→Prop} {b:Bool} {x:α} (h1:b=true) (h2:Q x):dS (on b x) Q:=⟨x,fI h1,h2⟩
def Step {σ ρ:Type} (I:σ→Prop) (m:σ→Nat) (s:σ) (Q:ρ→Prop):Sum σ ρ→Prop
 | .inl s'=>I s'∧m s' < m s
 | .inr r=>Q r
theorem iM {σ ρ:Type} {step:σ→Option (Sum σ ρ)} (I:σ→Prop) (m:σ→Nat) {Q:ρ→Prop} {s0:σ} (h0:I s0) (h:∀ s,I s→dS (step s) (Step I m s Q)):dS (Loop step s0) Q:=by
 have key:∀ n s,I s→m s≤n→dS (Loop step s) Q:=by
  intro n
  induction n with
  | zero=>
   intro s hs hm;obtain ⟨r,e,hr⟩:=h s hs
   cases r with
   | inl s'=>exact absurd hr.2 (by omega)
   | inr r=>exact ⟨r,by rw [aT,e],hr⟩
  | succ n ih=>
   intro s hs hm;obtain ⟨r,e,hr⟩:=h s hs
   cases r with
   | inl s'=>
    obtain ⟨r,e',hr'⟩:=ih s' hr.1 (by have:=hr.2;omega)
    exact ⟨r,by rw [aT,e];exact e',hr'⟩
   | inr r=>exact ⟨r,by rw [aT,e],hr⟩
 exact key _ s0 h0 (dQ _)
theorem bW (n:Int):IntKind.wrap .i64 n=(n+9223372036854775808)%18446744073709551616 - 9223372036854775808:=by
 have e1:(2:Int) ^ IntKind.i64.bits=18446744073709551616:=by decide
 have e2:(2:Int) ^ (IntKind.i64.bits - 1)=9223372036854775808:=by decide
 have e3:IntKind.i64.signed=true:=rfl;simp only [IntKind.wrap,e1,e2,e3,Bool.true_and,jH]
 split<;>omega
theorem aB {α:Type} {Q:α→Prop} {p:Prop} {i:Decidable p} {a b:Option α} (h1:p→dS a Q) (h2:¬ p→dS b Q):dS (bif @decide p i then a else b) Q:=au (fun h=>h1 (of_decide_eq_true h)) (fun h=>h2 (of_decide_eq_false h))
theorem bE {α:Type} {Q:α→Prop} {p:Prop} {i:Decidable p} {a b:Option α} (h1:¬ p→dS a Q) (h2:p→dS b Q):dS (bif !@decide p i then a else b) Q:=by
 cases h:@decide p i with
 | true=>exact h2 (of_decide_eq_true h)
 | false=>exact h1 (of_decide_eq_false h)
theorem aF {α:Type} {Q:α→Prop} {p q:Prop} {i:Decidable p} {j:Decidable q} {a:Option α} (h1:p) (h2:q) (h:dS a Q):dS (bif @decide p i&&@decide q j then a else none) Q:=by rw [dT h1,dT h2];exact h
theorem bF {α:Type} {Q:α→Prop} {m n:Nat} {a:Option α} (h1:m≤n) (h:dS a Q):dS (bif Nat.ble m n then a else none) Q:=by rw [iy h1];exact h
theorem bL {α:Type} {Q:α→Prop} {m n:Nat} {a:Option α} (h1:m<n) (h:dS a Q):dS (bif Nat.blt m n then a else none) Q:=by rw [kg h1];exact h
def Cnt {σ ρ:Type} (n:Nat) (idx:σ→Int) (I:σ→Prop) (k:Nat) (Q:ρ→Prop):Sum σ ρ→Prop
 | .inl s'=>k<n∧idx s' = (k:Int)+1∧I s'
 | .inr r=>Q r
theorem aJ {σ ρ:Type} {step:σ→Option (Sum σ ρ)} (n:Nat) (idx:σ→Int) (I:σ→Prop) {Q:ρ→Prop} {s0:σ} (h0:idx s0=0) (hI:I s0)
 (h:∀ s (k:Nat),idx s=(k:Int)→k≤n→I s→dS (step s) (Cnt n idx I k Q)):dS (Loop step s0) Q:=by
 refine iM (fun s=>∃ k:Nat,idx s=(k:Int)∧k≤n∧I s) (fun s=>n - (idx s).toNat) ⟨0,h0,fG _,hI⟩ ?_
 rintro s ⟨k,hk,hle,hs⟩
 refine mF (h s k hk hle hs) fun x hx=>?_
 cases x with
 | inl s'=>
  obtain ⟨h1,h2,h3⟩:=hx
  refine ⟨⟨k+1,by rw [h2];omega,by omega,h3⟩,?_⟩
  show n - (idx s').toNat<n - (idx s).toNat;rw [hk,h2];omega
 | inr r=>exact hx
theorem Iu {α:Type} {o:Option α} {P:α→Prop} (h:dS o P):dS o (fun _=>True):=mF h fun _ _=>trivial
theorem t130 (l:List It) (n:Int) (hl:l.length≤1000000000000):dS (EC l n) (fun _=>True):=by
 unfold EC acE
 refine ak (aJ (Q:=fun _=>True) l.length (fun s=>s.1) (fun _=>True) rfl trivial ?_) (fun r _=>au (fun _=>aj trivial) (fun _=>aj trivial))
 rintro ⟨i,⟨⟩⟩ k hk hle -;obtain rfl:i=k:=hk;unfold EB;simp only [bK,dG]
 refine aB (fun c=>aF (by omega) (by omega) (ak (P:=fun _=>True) ?_ fun y _=>au (fun _=>aj trivial) fun _=>ak (P:=fun _=>True) ?_ fun z _=>au (fun _=>aj trivial) fun _=>aj ⟨by omega,aG (by omega),trivial⟩)) (fun c=>aj trivial)
 ·repeat' (first | refine aF (by simp only [bW];omega) (by simp only [bW];omega) ?_ | refine aB (fun c=>?_) (fun c=>?_) | refine au (fun c=>?_) (fun c=>?_) | exact aj trivial)
 ·refine aJ k (fun s=>s.1) (fun _=>True) rfl trivial ?_
  rintro ⟨j,⟨⟩⟩ m hm hle' -;obtain rfl:j=m:=hm;unfold Lu;simp only [bK,dG]
  exact aB (fun c=>aF (by omega) (by omega) (au (fun _=>aj trivial) fun _=>aj ⟨by omega,aG (by omega),trivial⟩)) (fun _=>aj trivial)
def pY (n:Nat) (s:Sk):Prop:=s.2.2.2.1.length≤n∧s.2.2.2.2.1.length≤1000
def pG (f:Nat) (l:Li):Prop:=l.2.2.1.length≤1000∧∀ h∈l.2.2.1,h.2.2.2.1.length≤f
structure kY (n f:Nat) (o:Ov):Prop where
 s:o.1.length≤1000
 si:∀ s∈o.1,pY n s
 l:o.2.1.length≤1000
 li:∀ l∈o.2.1,pG f l
 fl:o.2.2.1.length≤f
theorem getD_in {α:Type} {l:List α} {d:α} {k:Nat} (h:k<l.length):l.getD k d∈l:=by
 rw [getD_at h];exact List.getElem_mem h
theorem TR (s:Sk) {n:Nat} (hs:pY n s) (hn:n≤1000000000000):dS (xH s) (fun _=>True):=by
 obtain ⟨a0,a1,a2,a3,a4,⟨⟩⟩:=s;obtain ⟨h3,h4⟩:=hs;have h3:a3.length≤n:=h3;have h4:a4.length≤1000:=h4;unfold xH acF;dsimp only
 refine ak (P:=fun _=>True) ?_ fun y _=>ak (P:=fun _=>True) (aJ a4.length (fun s=>s.2.1) (fun _=>True) rfl trivial ?_) fun r _=>au (fun _=>aj trivial) fun _=>aj trivial
 ·exact au (fun _=>au (fun _=>au (fun _=>ak (t130 a3 a2 (by omega)) fun y _=>au (fun _=>aj trivial) fun _=>aj trivial) fun _=>aj trivial) fun _=>aj trivial) fun _=>aj trivial
 ·rintro ⟨b,i,⟨⟩⟩ k hk hle -
  obtain rfl:i=k:=hk;unfold ED;simp only [bK,dG]
  refine aB (fun c=>aF (by omega) (by omega) (ak (P:=fun _=>True) ?_ fun y _=>aj ⟨by omega,aG (by omega),trivial⟩)) (fun c=>aj trivial)
  repeat' (first | refine aF (by simp only [bW];omega) (by simp only [bW];omega) ?_ | refine bE (fun c=>?_) (fun c=>?_) | refine au (fun c=>?_) (fun c=>?_) | exact aj trivial)
theorem t124 (l:Li) {f:Nat} (hl:pG f l) (hf:f≤1000000000000):dS (Ck l) (fun r=>r.1=0→l.2.2.1.length≤12):=by
 obtain ⟨a0,a1,a2,⟨⟩⟩:=l;obtain ⟨h2,h3⟩:=hl;have h2:a2.length≤1000:=h2
 have h3:∀ h∈a2,h.2.2.2.1.length≤f:=h3
 unfold Ck acG;simp only [bK]
 refine ak (P:=fun y=>y.1=true→a2.length≤12) ?_ fun y hy=>ak (P:=fun y=>y.1=true→a2.length≤12) (aJ a2.length (fun s=>s.2.1) (fun s=>s.1=true→a2.length≤12) rfl hy ?_) fun r hr=>?_
 ·exact au (fun _=>au (fun _=>aj fun e=>by have:=of_decide_eq_true e;omega) fun _=>aj fun e=>by cases e) fun _=>aj fun e=>by cases e
 ·rintro ⟨b,i,⟨⟩⟩ k hk hle hI
  obtain rfl:i=k:=hk;have hI:b=true→a2.length≤12:=hI;unfold EF;simp only [bK,dG]
  refine aB (fun c=>aF (by omega) (by omega) (ak (P:=fun y=>y.1=true→a2.length≤12) ?_ fun y hy=>aj ⟨by omega,aG (by omega),hy⟩)) (fun c=>aj hI)
  have hx:∀ q,dS (EC (a2.getD k (0,(0,(0,([],()))))).2.2.2.1 q) (fun _=>True):=fun q=>t130 _ _ (jQ (h3 _ (getD_in (by omega))) hf)
  refine au (fun hb=>mF (P:=fun _=>True) ?_ fun _ _ _=>hI hb) fun _=>aj fun e=>by cases e
  repeat' (first | refine aF (by simp only [bW];omega) (by simp only [bW];omega) ?_ | refine bE (fun c=>?_) (fun c=>?_) | refine au (fun c=>?_) (fun c=>?_) | refine ak (hx _) (fun y _=>?_) | exact aj trivial)
 ·cases hb:r.1 with
  | false=>exact aj fun e=>by cases e
  | true=>exact aj fun _=>hr hb
theorem uz {α:Type} (p:α→Bool) (l:List α):-1≤ah.idx p l∧ah.idx p l<(l.length:Int)∧(l.any p=true→0≤ah.idx p l):=by
 unfold ah.idx
 cases h:l.any p with
 | false=>exact ⟨by simp,by simp only [bU];omega,fun h=>by cases h⟩
 | true=>
  have:l.findIdx p<l.length:=List.findIdx_lt_length_of_exists (by simpa using h)
  exact ⟨by simp only [aQ];omega,by simp only [aQ];omega,fun _=>by simp only [aQ];omega⟩
theorem t76 (o:Ov) (r:Int) (h:o.1.length≤1000):ZO o r=some (ah.idx (fun s=>decide (s.1=r)) o.1,()):=by
 obtain ⟨a0,a1,a2,⟨⟩⟩:=o;have h:a0.length≤1000:=h;unfold ZO r76;dsimp only
 refine oD _ a0 (fun s=>decide (s.1=r)) (0,(0,(0,([],([],()))))) (fun i hi=>?_) ?_
 ·unfold JZ
  simp only [bK,dG]
  rw [dT (show (i:Int)<(a0.length:Int) by omega),dT (show (0:Int)≤(i:Int) by omega),aG (by omega)]
  rfl
 ·unfold JZ
  simp only [bK]
  rw [dF (show ¬ (a0.length:Int)<(a0.length:Int) by omega)]
  rfl
theorem akz (s:Sk) (r:Int) (h:s.2.2.2.2.1.length≤1000):RB s r=some (ah.idx (fun p=>decide (p.1=r)) s.2.2.2.2.1,()):=by
 obtain ⟨a0,a1,a2,a3,a4,⟨⟩⟩:=s;have h:a4.length≤1000:=h;unfold RB ahP;dsimp only
 refine oD _ a4 (fun p=>decide (p.1=r)) (0,(0,(0,()))) (fun i hi=>?_) ?_
 ·unfold EG
  simp only [bK,dG]
  rw [dT (show (i:Int)<(a4.length:Int) by omega),dT (show (0:Int)≤(i:Int) by omega),aG (by omega)]
  rfl
 ·unfold EG
  simp only [bK]
  rw [dF (show ¬ (a4.length:Int)<(a4.length:Int) by omega)]
  rfl
theorem t81 {n f:Nat} (o:Ov) (h:kY n f o) (hf:f≤1000000000000):x81 o=some (o,()):=by
 obtain ⟨a0,a1,a2,⟨⟩⟩:=o;have h1:a0.length≤1000:=h.s;have h2:a1.length≤1000:=h.l;have h3:a2.length≤f:=h.fl;unfold x81 r81;dsimp only
 rw [iy (by omega),iy (by omega),iy (by omega)]
 rfl
structure aqI (o:Ov):Prop where
 l:o.2.1.length=o.1.length
 s:o.1.length≤12
 p:∀ s∈o.1,s.2.2.2.2.1.length≤12
 t:∀ x∈o.2.2.1,(o.1.any fun s=>decide (s.1=x.2.2.1))=true
theorem t67 {n f:Nat} (o:Ov) (h:kY n f o) (hn:n≤1000000000000) (hf:f≤1000000000000):dS (Rp o) (fun r=>r.1=0→aqI o):=by
 obtain ⟨a0,a1,a2,⟨⟩⟩:=o;have h1:a0.length≤1000:=h.s;have h2:a1.length≤1000:=h.l;have h3:a2.length≤f:=h.fl;unfold Rp r67;dsimp only
 refine ak (P:=fun y=>y.1=false→a0.length≤12∧a1.length=a0.length) ?_ fun y hy=>au (fun _=>aj (by intro h;cases h)) fun hyf=>?_
 ·refine bE (fun c=>aj ?_) (fun c=>aj ?_)
  ·intro e
   simp only [bK] at c e
   have e:decide ((a1.length:Int)=(a0.length:Int))=true:=by simpa using e
   have e:=of_decide_eq_true e;omega
  ·intro e;cases e
 obtain ⟨k12,kl⟩:=hy hyf
 refine ak (P:=fun y=>(y.1=true→y.2.1.1=1)∧(y.1=false→y.2.2.1=a0.map (fun s=>s.1))) (aJ a0.length (fun s=>s.1) (fun s=>s.2.1=(a0.take s.1.toNat).map (fun s=>s.1)) rfl rfl ?_) fun y4 hy4=>au (fun ht=>aj fun e=>?_) fun hf4=>?_
 ·rintro ⟨i,rs,⟨⟩⟩ k hk hle hI
  obtain rfl:i=k:=hk
  have hI:rs=(a0.take k).map (fun s=>s.1):=hI
  have hrl:rs.length≤k:=by rw [hI,List.length_map,List.length_take];omega
  unfold JU;simp only [bK,dG]
  refine aB (fun c=>aF (by omega) (by omega) (ak (P:=fun _=>True) ?_ fun y _=>au (fun _=>aj ⟨fun _=>rfl,fun h=>by cases h⟩) fun _=>bF (by omega) (aj ⟨by omega,aG (by omega),?_⟩))) (fun c=>aj ⟨fun h=>(by cases h),fun _=>?_⟩)
  ·have hx:dS (xH (a0.getD k (0,(0,(0,([],([],()))))))) (fun _=>True):=TR _ (h.si _ (getD_in (l:=a0) (by omega))) hn
   refine ak hx fun y _=>?_
   repeat' (first | refine aF (by simp only [bW];omega) (by simp only [bW];omega) ?_ | refine aB (fun c=>?_) (fun c=>?_) | refine au (fun c=>?_) (fun c=>?_) | exact aj trivial)
  ·show rs++[(a0.getD k _).1]=(a0.take (IntKind.wrap .i64 ((k:Int)+1)).toNat).map (fun s=>s.1)
   rw [aG (by omega),dG,kN (d:=(0,(0,(0,([],([],())))))) (by omega),List.map_append,←hI]
   rfl
  ·show rs=_
   rw [hI,List.take_of_length_le (by omega)]
 ·have:=hy4.1 ht
  omega
 have hr:=hy4.2 hf4
 refine ak (P:=fun y=>(y.1=true→y.2.1.1=1)∧(y.1=false→y.2.2.1=a0.map (fun s=>s.1)∧∀ s∈a0,s.2.2.2.2.1.length≤12)) (aJ a0.length (fun s=>s.1) (fun s=>s.2.1=a0.map (fun s=>s.1)∧∀ j:Nat,(j:Int)<s.1→(a0.getD j (0,(0,(0,([],([],())))))).2.2.2.2.1.length≤12) rfl ⟨hr,fun j hj=>by have:(j:Int)<0:=hj;omega⟩ ?_) fun y5 hy5=>au (fun ht=>aj fun e=>?_) fun hf5=>?_
 ·rintro ⟨i,rs,⟨⟩⟩ k hk hle ⟨hI,hJ⟩
  obtain rfl:i=k:=hk
  have hI:rs=a0.map (fun s=>s.1):=hI
  have hJ:∀ j:Nat,(j:Int)<(k:Int)→(a0.getD j (0,(0,(0,([],([],())))))).2.2.2.2.1.length≤12:=hJ
  have hrl:rs.length=a0.length:=by rw [hI,List.length_map]
  unfold JX;simp only [bK,dG]
  refine aB (fun c=>aF (by omega) (by omega) (bE (fun c2=>aj ⟨fun _=>rfl,fun h=>by cases h⟩) fun c2=>?_)) (fun c=>aj ⟨fun h=>(by cases h),fun _=>⟨hI,?_⟩⟩)
  ·have c3:(a0.getD k (0,(0,(0,([],([],())))))).2.2.2.2.1.length≤12:=by
    rw [hrl,bW] at c2;omega
   refine ak (P:=fun y=>(y.1=true→y.2.1.1=1)∧(y.1=false→y.2.2.1=rs)) (aJ (a0.getD k (0,(0,(0,([],([],())))))).2.2.2.2.1.length (fun s=>s.2.1) (fun s=>s.1=rs) rfl rfl ?_) fun y hy=>au (fun ht=>aj ⟨fun _=>hy.1 ht,fun h=>by cases h⟩) fun hyf=>aF (by omega) (by omega) (ak (P:=fun _=>True) ?_ fun z _=>au (fun _=>aj ⟨fun _=>rfl,fun h=>by cases h⟩) fun _=>ak (P:=fun y=>(y.1=true→y.2.1.1=1)∧(y.1=false→y.2.2.1=rs)) (aJ (a1.getD k (0,(0,([],())))).2.2.1.length (fun s=>s.2.1) (fun s=>s.1=rs) rfl (hy.2 hyf) ?_) fun u hu=>au (fun ht=>aj ⟨fun _=>hu.1 ht,fun h=>by cases h⟩) fun huf=>aj ⟨by omega,aG (by omega),?_⟩)
   ·rintro ⟨rs',i,⟨⟩⟩ m hm hle' hI'
    obtain rfl:i=m:=hm;unfold JV;simp only [bK,dG]
    exact aB (fun c=>aF (by omega) (by omega) (au (fun _=>aj ⟨fun _=>rfl,fun h=>by cases h⟩) fun _=>aj ⟨by omega,aG (by omega),hI'⟩)) (fun c=>aj ⟨fun h=>(by cases h),fun _=>hI'⟩)
   ·have hx:dS (Ck (a1.getD k (0,(0,([],()))))) (fun _=>True):=Iu (t124 _ (h.li _ (getD_in (l:=a1) (by omega))) hf)
    refine ak hx fun y _=>?_
    repeat' (first | refine au (fun c=>?_) (fun c=>?_) | exact aj trivial)
   ·have hlen:(a1.getD k (0,(0,([],())))).2.2.1.length≤1000:=(h.li _ (getD_in (l:=a1) (by omega))).1
    rintro ⟨rs',i,⟨⟩⟩ m hm hle' hI';obtain rfl:i=m:=hm;unfold JW;simp only [bK,dG]
    exact aB (fun c=>aF (by omega) (by omega) (au (fun _=>aj ⟨fun _=>rfl,fun h=>by cases h⟩) fun _=>aj ⟨by omega,aG (by omega),hI'⟩)) (fun c=>aj ⟨fun h=>(by cases h),fun _=>hI'⟩)
   ·refine ⟨(hu.2 huf).trans hI,fun j hj=>?_⟩
    have hj:(j:Int)<IntKind.wrap .i64 ((k:Int)+1):=hj
    rw [aG (by omega)] at hj
    by_cases e:j=k
    ·rw [e];exact c3
    ·exact hJ j (by omega)
  ·intro s hs
   obtain ⟨j,hj,rfl⟩:=List.getElem_of_mem hs
   have:=hJ j (by omega)
   rw [getD_at hj] at this;exact this
 ·have:=hy5.1 ht
  omega
 obtain ⟨hr5,hp⟩:=hy5.2 hf5
 refine ak (P:=fun y=>(y.1=true→y.2.1.1=1)∧(y.1=false→∀ x∈a2,(a0.any fun s=>decide (s.1=x.2.2.1))=true)) (aJ a2.length (fun s=>s.2.1) (fun s=>s.1=a0.map (fun s=>s.1)∧∀ j:Nat,(j:Int)<s.2.1→(a0.any fun s=>decide (s.1=(a2.getD j (0,(0,(0,(0,(0,(0,(0,(0,((0,([],())),())))))))))).2.2.1))=true) rfl ⟨hr5,fun j hj=>by have:(j:Int)<0:=hj;omega⟩ ?_) fun y6 hy6=>au (fun ht=>aj fun e=>?_) fun hf6=>aj fun _=>⟨kl,k12,hp,hy6.2 hf6⟩
 ·rintro ⟨rs,i,⟨⟩⟩ k hk hle ⟨hI,hJ⟩
  obtain rfl:i=k:=hk
  have hI:rs=a0.map (fun s=>s.1):=hI
  have hJ:∀ j:Nat,(j:Int)<(k:Int)→(a0.any fun s=>decide (s.1=(a2.getD j (0,(0,(0,(0,(0,(0,(0,(0,((0,([],())),())))))))))).2.2.1))=true:=hJ
  unfold JY;simp only [bK,dG]
  refine aB (fun c=>aF (by omega) (by omega) (ak (P:=fun y=>y.2.1=rs∧(y.1=false→(a0.any fun s=>decide (s.1=(a2.getD k (0,(0,(0,(0,(0,(0,(0,(0,((0,([],())),())))))))))).2.2.1))=true)) ?_ fun y hy=>au (fun _=>aj ⟨fun _=>rfl,fun h=>by cases h⟩) fun hyf=>aj ⟨by omega,aG (by omega),hy.1.trans hI,fun j hj=>?_⟩)) (fun c=>aj ⟨fun h=>(by cases h),fun _ x hx=>?_⟩)
  ·refine au (fun _=>au (fun _=>aj ⟨rfl,fun e=>?_⟩) fun _=>aj ⟨rfl,fun e=>by cases e⟩) fun _=>aj ⟨rfl,fun e=>by cases e⟩
   have e:ah.has rs (a2.getD k (0,(0,(0,(0,(0,(0,(0,(0,((0,([],())),())))))))))).2.2.1=true:=by simpa using e
   rw [hI] at e;unfold ah.has at e;rw [List.any_map] at e;exact e
  ·have hj:(j:Int)<IntKind.wrap .i64 ((k:Int)+1):=hj
   rw [aG (by omega)] at hj
   by_cases e:j=k
   ·rw [e];exact hy.2 hyf
   ·exact hJ j (by omega)
  ·obtain ⟨j,hj,rfl⟩:=List.getElem_of_mem hx
   have:=hJ j (by omega)
   rw [getD_at hj] at this;exact this
 ·have:=hy6.1 ht
  omega
theorem akB (l:List Wa) (b:Bool):dS (Rs l b) (fun r=>r.1=0→l.length≤32):=by
 unfold Rs ahI;simp only [bK]
 refine aB (fun c=>aj fun e=>by cases e) fun c=>?_
 have c:l.length≤32:=by omega
 refine mF (P:=fun _=>True) ?_ fun _ _ _=>c
 refine ak (P:=fun _=>True) (aJ l.length (fun s=>s.1) (fun _=>True) rfl trivial ?_) fun y _=>au (fun _=>aj trivial) fun _=>ak (P:=fun _=>True) (aJ l.length (fun s=>s.1) (fun _=>True) rfl trivial ?_) fun y _=>au (fun _=>aj trivial) fun _=>ak (P:=fun _=>True) (aJ l.length (fun s=>s.1) (fun _=>True) rfl trivial ?_) fun y _=>au (fun _=>aj trivial) fun _=>ak (P:=fun _=>True) (aJ l.length (fun s=>s.1 - 1) (fun _=>True) rfl trivial ?_) fun y _=>au (fun _=>aj trivial) fun _=>aj trivial
 ·rintro ⟨i,⟨⟩⟩ k hk hle -
  obtain rfl:i=k:=hk;unfold Lx;simp only [bK,dG]
  exact aB (fun c=>aF (by omega) (by omega) (ak (P:=fun _=>True) (au (fun _=>aj trivial) fun _=>aj trivial) fun y _=>au (fun _=>aj trivial) fun _=>aj ⟨by omega,aG (by omega),trivial⟩)) (fun c=>aj trivial)
 ·rintro ⟨i,⟨⟩⟩ k hk hle -
  obtain rfl:i=k:=hk;unfold LA;simp only [bK,dG]
  exact aB (fun c=>aF (by omega) (by omega) (au (fun _=>aj trivial) fun _=>aj ⟨by omega,aG (by omega),trivial⟩)) (fun c=>aj trivial)
 ·rintro ⟨i,⟨⟩⟩ k hk hle -
  obtain rfl:i=k:=hk;unfold LB;simp only [bK,dG]
  exact aB (fun c=>aF (by omega) (by omega) (ak (P:=fun _=>True) (au (fun _=>aj trivial) fun _=>aj trivial) fun y _=>au (fun _=>aj trivial) fun _=>aj ⟨by omega,aG (by omega),trivial⟩)) (fun c=>aj trivial)
 ·rintro ⟨i,⟨⟩⟩ k hk hle -
  obtain rfl:i=(k:Int)+1:=by have:i - 1=(k:Int):=hk;omega
  unfold LD;simp only [bK]
  exact aB (fun c=>aF (by simp only [bW];omega) (by simp only [bW];omega) (aF (by omega) (by omega) (au (fun _=>aj trivial) fun _=>aj ⟨by omega,by show IntKind.wrap .i64 ((k:Int)+1+1) - 1=_;simp only [bW];omega,trivial⟩))) (fun c=>aj trivial)
theorem t77 (l:List Wa):dS (W9 l) (fun r=>r.1=0→l.length≤32):=by
 unfold W9 r77
 exact ak (akB l false) fun y hy=>aj hy
theorem TS (l:List Wa) (g:Int) (hl:l.length≤1000000000000):dS (HZ l g) (fun _=>True):=by
 unfold HZ ahJ
 refine ak (P:=fun _=>True) (aJ l.length (fun s=>s.2.1) (fun _=>True) rfl trivial ?_) fun y _=>au (fun _=>aj trivial) fun _=>aj trivial
 rintro ⟨f,i,⟨⟩⟩ k hk hle -;obtain rfl:i=k:=hk;unfold LG;simp only [bK,dG]
 exact aB (fun c=>aF (by omega) (by omega) (au (fun _=>aj trivial) fun _=>aj ⟨by omega,aG (by omega),trivial⟩)) (fun c=>aj trivial)
theorem t131 (l:List It) (g:Int) (hl:l.length≤1000000000000):dS (Rv l g) (fun _=>True):=by
 unfold Rv ahK
 refine ak (P:=fun _=>True) (aJ l.length (fun s=>s.2.1) (fun _=>True) rfl trivial ?_) fun y _=>au (fun _=>aj trivial) fun _=>aj trivial
 rintro ⟨f,i,⟨⟩⟩ k hk hle -;obtain rfl:i=k:=hk;unfold LH;simp only [bK,dG]
 exact aB (fun c=>aF (by omega) (by omega) (au (fun _=>aj trivial) fun _=>aj ⟨by omega,aG (by omega),trivial⟩)) (fun c=>aj trivial)
theorem t171 (l:List Wa) (g:Int) (hl:l.length≤1000000000000):dS (Xa l g) (fun _=>True):=by
 unfold Xa ahL
 refine ak (P:=fun _=>True) (aJ l.length (fun s=>s.1) (fun _=>True) rfl trivial ?_) fun y _=>au (fun _=>aj trivial) fun _=>aj trivial
 rintro ⟨i,⟨⟩⟩ k hk hle -;obtain rfl:i=k:=hk;unfold LJ;simp only [bK,dG]
 exact aB (fun c=>aF (by omega) (by omega) (au (fun _=>aj trivial) fun _=>aj ⟨by omega,aG (by omega),trivial⟩)) (fun c=>aj trivial)
theorem t78 (a b:List Wa):dS (x78 a b) (fun r=>r.1.1.length≤32):=by
 unfold x78 r78
 refine ak (t77 a) fun y2 h2=>bE (fun c=>aj (fG _)) fun c2=>ak (t77 b) fun y3 h3=>bE (fun c=>aj (fG _)) fun c3=>?_
 have ha:=h2 c2;have hb:=h3 c3
 refine ak (P:=fun _=>True) (aJ 99 (fun s=>s.1 - 1) (fun s=>(s.2.1.length:Int)<s.1) rfl (by decide) ?_) fun y4 _=>?_
 ·rintro ⟨i,out,⟨⟩⟩ k hk hle hI
  obtain rfl:i=(k:Int)+1:=by have:i - 1=(k:Int):=hk;omega
  have hI:(out.length:Int)<(k:Int)+1:=hI;unfold Ru
  refine aB (fun c=>ak (TS b _ (by omega)) fun y _=>ak (TS a _ (by omega)) fun z _=>ak (P:=fun o=>o.1.length≤out.length+1) (au (fun _=>bF (by show (out.length+1)*40≤140737488355328;omega) (aj (by simp))) fun _=>aj (by simp)) fun o ho=>aj ⟨by omega,by show IntKind.wrap .i64 ((k:Int)+1+1) - 1=_;simp only [bW];omega,?_⟩) fun c=>aj trivial
  show (o.1.length:Int)<IntKind.wrap .i64 ((k:Int)+1+1);simp only [bW];omega
 ·simp only [bK]
  exact aB (fun c=>aj (fG _)) fun c=>aj (by show y4.1.length≤32;omega)
theorem t79 (l:List It) (hl:l.length≤1000000000000):dS (x79 l) (fun r=>r.1.length≤99):=by
 unfold x79 r79
 refine ak (t130 l _ hl) fun y _=>au (fun _=>aj (fG _)) fun _=>ak (P:=fun o=>o.1.length≤99) (aJ 99 (fun s=>s.1 - 1) (fun s=>(s.2.1.length:Int)<s.1) rfl (by decide) ?_) fun y h=>aj h
 rintro ⟨i,out,⟨⟩⟩ k hk hle hI
 obtain rfl:i=(k:Int)+1:=by have:i - 1=(k:Int):=hk;omega
 have hI:(out.length:Int)<(k:Int)+1:=hI;unfold Rx
 refine aB (fun c=>ak (t131 l _ hl) fun z _=>ak (P:=fun o=>o.1.length≤out.length+1) (au (fun _=>bF (by show (out.length+1)*40≤140737488355328;omega) (aj (by simp))) fun _=>aj (by simp)) fun o ho=>aj ⟨by omega,by show IntKind.wrap .i64 ((k:Int)+1+1) - 1=_;simp only [bW];omega,?_⟩) fun c=>aj (by show out.length≤99;omega)
 show (o.1.length:Int)<IntKind.wrap .i64 ((k:Int)+1+1);simp only [bW];omega
theorem aqJ (a b:List Wa):dS (Xb a b) (fun r=>r.1.2.1=0→b.length≤32):=by
 unfold Xb ahM
 refine ak (t77 a) fun y2 h2=>bE (fun c=>aj fun e=>absurd e c) fun c2=>ak (akB b true) fun y3 h3=>bE (fun c=>aj fun e=>absurd e c) fun c3=>?_
 have ha:=h2 c2;have hb:=h3 c3
 refine mF (P:=fun _=>True) ?_ fun _ _ _=>hb
 refine ak (P:=fun _=>True) (aJ 99 (fun s=>s.1 - 1) (fun s=>(s.2.1.length:Int)<s.1) rfl (by decide) ?_) fun y4 _=>au (fun _=>aj trivial) fun _=>aj trivial
 rintro ⟨i,out,⟨⟩⟩ k hk hle hI
 obtain rfl:i=(k:Int)+1:=by have:i - 1=(k:Int):=hk;omega
 have hI:(out.length:Int)<(k:Int)+1:=hI;unfold LK
 refine aB (fun c=>ak (TS a _ (by omega)) fun y _=>ak (t171 b _ (by omega)) fun z _=>ak (P:=fun _=>True) (au (fun _=>ak (TS b _ (by omega)) fun _ _=>aj trivial) fun _=>aj trivial) fun v _=>ak (P:=fun o=>o.1.length≤out.length+1) (au (fun _=>bF (by show (out.length+1)*40≤140737488355328;omega) (aj (by simp))) fun _=>aj (by simp)) fun o ho=>aj ⟨by omega,by show IntKind.wrap .i64 ((k:Int)+1+1) - 1=_;simp only [bW];omega,?_⟩) fun c=>aj trivial
 show (o.1.length:Int)<IntKind.wrap .i64 ((k:Int)+1+1);simp only [bW];omega
theorem akC (l:List It) (x:ItF) (hl:l.length≤100000000000):dS (Ry l x) (fun r=>r.1.length≤l.length+1):=by
 obtain ⟨a1,a2,a3,a4,⟨⟩⟩:=x;unfold Ry ahN;dsimp only
 refine ak (P:=fun o=>o.1.length≤l.length) (aJ l.length (fun s=>s.2.1) (fun s=>(s.1.length:Int)≤s.2.1) rfl (by decide) ?_) fun y hy=>bF (by omega) (aj (by simp;omega))
 rintro ⟨out,i,⟨⟩⟩ k hk hle hI;obtain rfl:i=k:=hk;have hI:(out.length:Int)≤(k:Int):=hI;unfold LM;simp only [bK,dG]
 refine aB (fun c=>aF (by omega) (by omega) (ak (P:=fun o=>o.1.length≤out.length+1) (au (fun _=>bF (by omega) (aj (by simp))) fun _=>aj (by simp)) fun o ho=>aj ⟨by omega,aG (by omega),?_⟩)) fun c=>aj (by show out.length≤l.length;omega)
 show (o.1.length:Int)≤IntKind.wrap .i64 ((k:Int)+1)
 rw [aG (by omega)]
 omega
theorem xS (n:Nat):pY n (0,0,0,[],[],()):=⟨fG _,fG _⟩
theorem t80 (s:Sk) (c:List Wa) {n:Nat} (hs:pY n s) (hn:n≤10000000000):dS (x80 s c) (fun r=>pY (n+32) r.1.1):=by
 obtain ⟨a0,a1,a2,a3,a4,⟨⟩⟩:=s;have h3:a3.length≤n:=hs.1;have h4:a4.length≤1000:=hs.2;unfold x80 r80;dsimp only
 refine ak (TR _ hs (by omega)) fun y6 _=>au (fun _=>aj (xS _)) fun _=>ak (aqJ [] c) fun y7 h7=>bE (fun _=>aj (xS _)) fun c7=>bF (by omega) (bF (by omega) ?_)
 have hc:=h7 c7
 refine ak (P:=fun y=>pY (n+32) y.1) (aJ c.length (fun s=>s.2.1) (fun s=>(s.1.2.2.2.1.length:Int)≤n+s.2.1∧s.1.2.2.2.2.1.length≤1000) rfl ⟨by simpa using h3,by simpa using h4⟩ ?_) fun y8 h8=>au (fun _=>aj (xS _)) fun _=>aj h8
 rintro ⟨⟨b0,b1,b2,b3,b4,⟨⟩⟩,i,⟨⟩⟩ k hk hle ⟨hI,hJ⟩;obtain rfl:i=k:=hk;have hI:(b3.length:Int)≤n+(k:Int):=hI;have hJ:b4.length≤1000:=hJ;unfold Rz;simp only [bK,dG]
 refine aB (fun c=>aF (by omega) (by omega) (ak (t131 b3 _ (by omega)) fun y _=>au (fun _=>aj ⟨by omega,aG (by omega),?_,hJ⟩) fun _=>ak (akC b3 _ (by omega)) fun z hz=>aj ⟨by omega,aG (by omega),?_,hJ⟩)) fun c=>aj ⟨by show b3.length≤n+32;omega,hJ⟩
 ·show (b3.length:Int)≤n+IntKind.wrap .i64 ((k:Int)+1)
  rw [aG (by omega)];omega
 ·show (z.1.length:Int)≤n+IntKind.wrap .i64 ((k:Int)+1)
  rw [aG (by omega)];omega
theorem aqK (s:Sk) (c:List Wa) {n:Nat} (hs:pY n s) (hn:n≤10000000000):dS (Xc s c) (fun r=>pY (n+32) r.1.1):=by
 obtain ⟨a0,a1,a2,a3,a4,⟨⟩⟩:=s;have h4:a4.length≤1000:=hs.2;unfold Xc ahO;dsimp only
 refine ak (TR _ hs (by omega)) fun y6 _=>au (fun _=>aj (xS _)) fun _=>ak (t77 c) fun y7 h7=>bE (fun _=>aj (xS _)) fun c7=>au (fun _=>aj (xS _)) fun _=>?_
 have hc:=h7 c7
 refine ak (P:=fun y=>y.1.2.2.2.1.length≤32∧y.1.2.2.2.2.1.length≤0) (aJ c.length (fun s=>s.1) (fun s=>(s.2.1.2.2.2.1.length:Int)≤s.1∧s.2.1.2.2.2.2.1.length≤0) rfl ⟨by simp,by simp⟩ ?_) fun y8 h8=>ak (P:=fun y=>pY (n+32) y.1) (aJ a4.length (fun s=>s.1) (fun s=>s.2.1.2.2.2.1.length≤32∧(s.2.1.2.2.2.2.1.length:Int)≤s.1) rfl ⟨h8.1,by have:=h8.2;simpa using this⟩ ?_) fun y9 h9=>aj h9
 ·rintro ⟨i,⟨b0,b1,b2,b3,b4,⟨⟩⟩,⟨⟩⟩ k hk hle ⟨hI,hJ⟩
  obtain rfl:i=k:=hk;have hI:(b3.length:Int)≤(k:Int):=hI;unfold LP;simp only [bK,dG]
  refine aB (fun c=>aF (by omega) (by omega) (bF (by omega) (aj ⟨by omega,aG (by omega),?_,hJ⟩))) fun c=>aj ⟨by show b3.length≤32;omega,hJ⟩
  show ((b3++[_]).length:Int)≤IntKind.wrap .i64 ((k:Int)+1)
  rw [aG (by omega),kZ]
  simp;omega
 ·rintro ⟨i,⟨b0,b1,b2,b3,b4,⟨⟩⟩,⟨⟩⟩ k hk hle ⟨hI,hJ⟩
  obtain rfl:i=k:=hk;have hJ:(b4.length:Int)≤(k:Int):=hJ;have hI:b3.length≤32:=hI;unfold LQ;simp only [bK,dG]
  refine aB (fun c=>aF (by omega) (by omega) (bF (by omega) (aj ⟨by omega,aG (by omega),hI,?_⟩))) fun c=>aj ⟨by show b3.length≤n+32;omega,by show b4.length≤1000;omega⟩
  show ((b4++[_]).length:Int)≤IntKind.wrap .i64 ((k:Int)+1)
  rw [aG (by omega),kZ]
  simp;omega
theorem FI {α:Type} {Q:α→Prop} {p q r:Prop} {i:Decidable p} {j:Decidable q} {k:Decidable r} {a:Option α} (h1:p) (h2:q) (h3:r) (h:dS a Q):dS (bif @decide p i&&@decide q j&&@decide r k then a else none) Q:=by rw [dT h1,dT h2,dT h3];exact h
theorem mem_set {α:Type} {l:List α} {i:Nat} {x y:α} (h:x∈l.set i y):x∈l∨x=y:=List.mem_or_eq_of_mem_set h
theorem t82 (l:List oC) (q:List Fa) (hl:l.length≤100000000000) (hq:q.length≤1000):dS (x82 l q) (fun r=>(∀ x∈r.1.1,x∈l)∧r.1.1.length≤l.length+1000∧r.1.2.1.length≤1000):=by
 unfold x82 r82
 refine bF (by omega) (ak (P:=fun y=>(∀ x∈y.1,x∈l)∧y.1.length≤l.length+1000∧y.2.1.length≤1000) (aJ q.length (fun s=>s.2.2.1) (fun s=>(∀ x∈s.1,x∈l)∧(s.1.length:Int)≤l.length+s.2.2.1∧(s.2.1.length:Int)≤s.2.2.1) rfl ⟨fun x hx=>by simpa using hx,by simp,by simp⟩ ?_) fun y hy=>aj hy)
 rintro ⟨now,late,i,⟨⟩⟩ k hk hle ⟨h1,h2,h3⟩;obtain rfl:i=k:=hk
 have h1:∀ x∈now,x∈l:=h1
 have h2:(now.length:Int)≤l.length+(k:Int):=h2;have h3:(late.length:Int)≤(k:Int):=h3;unfold RA;dsimp only;generalize q.getD (Int.toNat (k:Int)) (0,(0,()))=fa;obtain ⟨kd,at_,⟨⟩⟩:=fa;simp only [bK]
 refine aB (fun c=>aF (by omega) (by omega) (ak (P:=fun y=>y.1=now∧(y.2.1=false→0≤at_∧at_<now.length)) ?_ ?_)) fun c=>aj ⟨h1,by show now.length≤l.length+1000;omega,by show late.length≤1000;omega⟩
 ·refine bE (fun c=>aj ⟨rfl,fun e=>?_⟩) fun c=>aj ⟨rfl,fun e=>by cases e⟩
  have:=of_decide_eq_false e;omega
 rintro ⟨y1,y2,⟨⟩⟩ ⟨e1,hy⟩;obtain rfl:y1=now:=e1;have hy:y2=false→0≤at_∧at_<(y1.length:Int):=hy
 refine au (fun _=>aj ⟨by omega,aG (by omega),h1,by show (y1.length:Int)≤l.length+IntKind.wrap .i64 ((k:Int)+1);rw [aG (by omega)];omega,by show (late.length:Int)≤IntKind.wrap .i64 ((k:Int)+1);rw [aG (by omega)];omega⟩) fun hf=>?_
 obtain ⟨h4,h5⟩:=hy hf
 obtain ⟨m,rfl⟩:∃ m:Nat,at_=(m:Int):=⟨at_.toNat,by omega⟩
 have h5:m<y1.length:=by omega
 have hr:∀ x∈y1.drop (m+1),x∈l:=fun x hx=>h1 x (List.mem_of_mem_drop hx)
 have ht:∀ x∈y1.take m,x∈l:=fun x hx=>h1 x (List.mem_of_mem_take hx)
 simp only [aG (show m≤9223372036854775806 by omega),dG]
 have e:∀ {α:Type} (z:List α),List.take (Nat.sub z.length (m+1)) (z.drop (m+1))=z.drop (m+1):=fun z=>List.take_of_length_le (by rw [List.length_drop];exact dQ _)
 rw [e]
 have hg:∀ d,y1.getD m d∈l:=fun d=>h1 _ (getD_in h5)
 refine aF (by omega) (by omega) (bL (by omega) (FI (by omega) (by omega) (by omega) (bF (by rw [List.length_drop];omega) (ak (P:=fun z=>z.1.length≤late.length+1∧z.2.1.length≤y1.length+1∧∀ x∈z.2.1,x∈l) ?_ fun z hz=>aj ⟨by omega,aG (by omega),hz.2.2,by show (z.2.1.length:Int)≤l.length+IntKind.wrap .i64 ((k:Int)+1);rw [aG (by omega)];omega,by show (z.1.length:Int)≤IntKind.wrap .i64 ((k:Int)+1);rw [aG (by omega)];omega⟩))))
 refine aB (fun _=>FI (by omega) (by omega) trivial (bF (by simp;omega) (aj ⟨by show late.length≤late.length+1;omega,by simp;omega,fun x hx=>?_⟩))) fun _=>ak (P:=fun z=>z.2.1.length≤late.length+1∧z.1.length≤y1.length+1∧∀ x∈z.1,x∈l) ?_ fun z hz=>aj ⟨hz.1,hz.2.1,hz.2.2⟩
 ·have hx:x∈y1.take m++([]++y1.drop (m+1)):=hx
  simp only [List.nil_append,qb] at hx;exact hx.elim (ht x) (hr x)
 refine aB (fun _=>FI (by omega) (by omega) trivial (bF (by simp;omega) (bF (by simp;omega) (aj ⟨by show late.length≤late.length+1;omega,by simp;omega,fun x hx=>?_⟩)))) fun _=>ak (P:=fun z=>z.1.length≤late.length+1∧z.2.1.length≤y1.length+1∧∀ x∈z.2.1,x∈l) ?_ fun z hz=>aj ⟨hz.1,hz.2.1,hz.2.2⟩
 ·simp only [List.nil_append,qb,List.mem_cons,List.not_mem_nil,or_false] at hx
  rcases hx with (hx | rfl | rfl) | hx
  ·exact ht x hx
  ·exact hg _
  ·exact hg _
  ·exact hr x hx
 refine aB (fun _=>FI (by omega) (by omega) trivial (bF (by simp;omega) (bF (by omega) (aj ⟨by simp,by simp;omega,fun x hx=>?_⟩)))) fun _=>ak (P:=fun z=>z.1.length≤y1.length∧∀ x∈z.1,x∈l) ?_ fun z hz=>aj ⟨by show late.length≤late.length+1;omega,by show z.1.length≤y1.length+1;omega,hz.2⟩
 ·have hx:x∈y1.take m++([]++y1.drop (m+1)):=hx
  simp only [List.nil_append,qb] at hx;exact hx.elim (ht x) (hr x)
 refine aB (fun _=>ak (P:=fun z=>z.1.length≤y1.length∧∀ x∈z.1,x∈l) ?_ fun z hz=>aj hz) fun _=>aj ⟨dQ _,h1⟩
 refine aB (fun c=>aF (by omega) (by omega) (bL (by omega) (aF (by omega) (by omega) (bL (by omega) (aF (by omega) (by rw [List.length_set];omega) (bL (by rw [List.length_set];omega) (aj ⟨by simp,fun x hx=>?_⟩))))))) fun _=>aj ⟨dQ _,h1⟩
 rcases mem_set hx with hx | rfl
 ·rcases mem_set hx with hx | rfl
  ·exact h1 x hx
  ·exact h1 _ (getD_in (by omega))
 ·exact hg _
theorem t83 (s:Sk) (x:Sg) {n m:Nat} (h3:s.2.2.2.1.length≤n) (h4:s.2.2.2.2.1.length≤m) (hn:n≤1000000000000) (hm:m≤1000):dS (x83 s x) (fun r=>r.1.1.2.2.2.1.length≤n∧r.1.1.2.2.2.2.1.length≤m):=by
 have hs:pY n s:=⟨h3,by omega⟩
 obtain ⟨a0,a1,a2,a3,a4,⟨⟩⟩:=s;have h3:a3.length≤n:=h3;have h4:a4.length≤m:=h4
 have ad1:=akz (a0,a1,a2,a3,a4,()) x.2.1 (by show a4.length≤1000;omega)
 unfold x83 r83;dsimp only
 have z:∀ e:Int×Unit,dS (some ((((0,0,0,[],[],()):Sk),e),())) (fun r=>r.1.1.2.2.2.1.length≤n∧r.1.1.2.2.2.2.1.length≤m):=fun e=>aj ⟨fG _,fG _⟩
 refine ak (TR _ hs hn) fun y _=>au (fun _=>z _) fun _=>au (fun _=>z _) fun _=>ak (P:=fun _=>True) (au (fun _=>aj trivial) fun _=>aj trivial) fun y _=>au (fun _=>z _) fun _=>?_
 rw [ad1];simp only [gL,List.nil_append,bK]
 have hi:=uz (fun p:Pe=>decide (p.1=x.2.1)) a4
 generalize ah.idx (fun p:Pe=>decide (p.1=x.2.1)) a4=k at hi ⊢
 refine aB (fun _=>z _) fun c=>ak (P:=fun _=>True) (au (fun _=>aj trivial) fun _=>aj trivial) fun y _=>?_
 have f:∀ {l:List Pe} {e:Int×Unit},l.length=a4.length→dS (some (((a0,(a1,(a2,(a3,(l,()))))),e),())) (fun r:(Sk×Int×Unit)×Unit=>r.1.1.2.2.2.1.length≤n∧r.1.1.2.2.2.2.1.length≤m):=fun {l} {_} he=>aj ⟨h3,(by omega:l.length≤m)⟩
 refine au (fun _=>?_) fun _=>?_
 ·refine bF (by omega) (aF (by omega) (by omega) (bL (by omega) (au (fun _=>bL (by omega) (bL (by rw [List.length_set];omega) (f (by simp)))) fun _=>bL (by omega) (au (fun _=>bL (by omega) (bL (by omega) (f (by simp)))) fun _=>f rfl))))
 ·refine bF (by omega) (aF (by omega) (by omega) (bL (by omega) (au (fun _=>bL (by omega) (bL (by rw [List.length_set];omega) (f (by simp)))) fun _=>bL (by omega) (au (fun _=>bL (by omega) (bL (by omega) (f (by simp)))) fun _=>f rfl))))
theorem t84 (l:Li) (x:Sg) {f:Nat} (hl:pG f l) (hf:f≤10000000000):dS (x84 l x) (fun r=>pG (f+1) r.1.1):=by
 obtain ⟨a0,a1,a2,⟨⟩⟩:=l
 have h3:∀ h∈a2,h.2.2.2.1.length≤f:=hl.2
 unfold x84 r84;dsimp only
 have z:∀ e:Sg×Int×Unit,dS (some ((((0,0,[],()):Li),e),())) (fun r=>pG (f+1) r.1.1):=fun e=>aj ⟨fG _,fun h hh=>by cases hh⟩
 refine ak (t124 _ hl (by omega)) fun y hy=>bE (fun _=>z _) fun c0=>?_
 have h2:a2.length≤12:=hy c0
 refine au (fun _=>z _) fun _=>ak (P:=fun _=>True) (au (fun _=>aj trivial) fun _=>aj trivial) fun y _=>au (fun _=>z _) fun _=>?_
 refine ak (P:=fun y=>y.1.2.2.2.1.length≤f) (aJ a2.length (fun s=>s.2.1) (fun s=>s.1.2.2.2.1.length≤f) rfl (fG _) ?_) fun FN h15=>?_
 ·rintro ⟨h,i,⟨⟩⟩ k hk hle hI
  obtain rfl:i=k:=hk;unfold RD;simp only [bK,dG]
  exact aB (fun c=>aF (by omega) (by omega) (ak (P:=fun y=>y.1.2.2.2.1.length≤f) (au (fun _=>aj (h3 _ (getD_in (by omega)))) fun _=>aj hI) fun y hy=>aj ⟨by omega,aG (by omega),hy⟩)) fun c=>aj hI
 refine ak (P:=fun _=>True) (au (fun _=>aj trivial) fun _=>aj trivial) fun y _=>au (fun _=>z _) fun _=>?_
 refine ak (P:=fun y=>y.1.2.2.2.1.length≤f) (au (fun _=>aj (fG _)) fun _=>aj h15) fun lC h17=>?_
 refine ak (P:=fun _=>True) (au (fun _=>au (fun _=>au (fun _=>aj trivial) fun _=>aj trivial) fun _=>aj trivial) fun _=>aj trivial) fun y _=>?_
 refine ak (P:=fun y=>y.1.2.2.2.1.length≤f+1) (au (fun _=>ak (akC _ _ (by omega)) fun v hv=>aj (by show v.1.length≤f+1;omega)) fun _=>aj (by omega)) fun RH h19=>?_
 refine ak (P:=fun y=>y.2.1.2.2.1.length≤24∧∀ h∈y.2.1.2.2.1,h.2.2.2.1.length≤f+1) (aJ a2.length (fun s=>s.2.2.1) (fun s=>(s.2.1.2.2.1.length:Int)≤2*s.2.2.1∧∀ h∈s.2.1.2.2.1,h.2.2.2.1.length≤f+1) rfl ⟨by simp,fun h hh=>by cases hh⟩ ?_) fun y20 h20=>?_
 ·rintro ⟨b,⟨b0,b1,b2,⟨⟩⟩,i,⟨⟩⟩ k hk hle ⟨hI,hJ⟩
  obtain rfl:i=k:=hk;have hI:(b2.length:Int)≤2*(k:Int):=hI
  have hJ:∀ h∈b2,h.2.2.2.1.length≤f+1:=hJ
  unfold RG;simp only [bK,dG]
  refine aB (fun c=>aF (by omega) (by omega) (ak (P:=fun _=>True) (au (fun _=>aj trivial) fun _=>aj trivial) fun y _=>ak (P:=fun y=>y.1.2.2.1.length≤b2.length+1∧∀ h∈y.1.2.2.1,h.2.2.2.1.length≤f+1) (au (fun _=>bF (by omega) (aj ⟨by simp,fun h hh=>?_⟩)) fun _=>aj ⟨by show b2.length≤b2.length+1;omega,hJ⟩) fun y hy=>ak (P:=fun y=>y.1.2.2.1.length≤b2.length+2∧∀ h∈y.1.2.2.1,h.2.2.2.1.length≤f+1) (au (fun _=>bF (by have:=hy.1;omega) (aj ⟨by have:=hy.1;show List.length (_++[_])≤b2.length+2;rw [kZ,FL];omega,fun h hh=>?_⟩)) fun _=>aj ⟨by have:=hy.1;show y.1.2.2.1.length≤b2.length+2;omega,hy.2⟩) fun v hv=>aj ⟨by omega,aG (by omega),?_,hv.2⟩)) fun c=>aj ⟨by show b2.length≤24;omega,hJ⟩
  ·have hh:h∈b2++[RH.1]:=hh
   rcases List.mem_append.1 hh with hh | hh
   ·exact hJ h hh
   ·rw [List.mem_singleton.1 hh];exact h19
  ·rcases List.mem_append.1 hh with hh | hh
   ·exact hy.2 h hh
   ·rw [List.mem_singleton.1 hh];exact jQ (h3 _ (getD_in (by omega))) (by omega)
  ·show (v.1.2.2.1.length:Int)≤2*IntKind.wrap .i64 ((k:Int)+1)
   rw [aG (by omega)]
   have:=hv.1;omega
 refine ak (P:=fun y=>pG (f+1) y.1) (au (fun _=>bF (by have:=h20.1;omega) (aj ⟨by have:=h20.1;simp;omega,fun h hh=>?_⟩)) fun _=>aj ⟨by have:=h20.1;omega,h20.2⟩) fun v hv=>aj hv
 rcases List.mem_append.1 hh with hh | hh
 ·exact h20.2 h hh
 ·rw [List.mem_singleton.1 hh];exact h19
theorem t85 (s:Sk) (r:Int) {n:Nat} (hs:pY n s) (hn:n≤100000000000):dS (x85 s r) (fun r=>r.1.1.length≤n+1):=by
 obtain ⟨a0,a1,a2,a3,a4,⟨⟩⟩:=s;have h3:a3.length≤n:=hs.1;have h4:a4.length≤1000:=hs.2;have ad1:=akz (a0,a1,a2,a3,a4,()) r h4;unfold x85 r85;dsimp only
 refine ak (TR _ hs (by omega)) fun y _=>au (fun _=>aj (fG _)) fun _=>?_
 rw [ad1];simp only [gL]
 have hi:=uz (fun p:Pe=>decide (p.1=r)) a4
 generalize ah.idx (fun p:Pe=>decide (p.1=r)) a4=j at hi ⊢
 refine aB (fun _=>aj (fG _)) fun c=>ak (P:=fun y=>y.1.length≤n+1) (aJ a3.length (fun s=>s.1) (fun s=>(s.2.2.1.length:Int)≤s.1+1) rfl (by simp) ?_) fun y hy=>aj hy
 rintro ⟨i,p,out,⟨⟩⟩ k hk hle hI;obtain rfl:i=k:=hk;have hI:(out.length:Int)≤(k:Int)+1:=hI;unfold RI;simp only [bK,dG]
 refine aB (fun c=>aF (by omega) (by omega) (aF (by omega) (by omega) (ak (P:=fun y=>y.1.length≤out.length+1) (au (fun _=>bF (by omega) (aj (by simp))) fun _=>aj (by show out.length≤out.length+1;omega)) fun y hy=>aj ⟨by omega,aG (by omega),?_⟩))) fun c=>aj (by show out.length≤n+1;omega)
 show (y.1.length:Int)≤IntKind.wrap .i64 ((k:Int)+1)+1
 rw [aG (by omega)]
 omega
theorem nD (n f:Nat):kY n f ([],[],[],()):=⟨fG _,(fun _ h=>by cases h),fG _,(fun _ h=>by cases h),fG _⟩
theorem pY.mono {n m:Nat} {s:Sk} (h:pY n s) (hm:n≤m):pY m s:=⟨jQ h.1 hm,h.2⟩
theorem pG.mono {n m:Nat} {s:Li} (h:pG n s) (hm:n≤m):pG m s:=⟨h.1,fun x hx=>jQ (h.2 x hx) hm⟩
theorem ne_of {p:Prop} {i:Decidable p} (c:(!@decide p i)=true) (e:p):False:=by
 cases i with
 | isTrue _=>cases c
 | isFalse h=>exact h e
theorem t34 (o:Ov) (r:Int) (c:List Wa) {n f:Nat} (h:kY n f o) (hn:n≤1000000000) (hf:f≤100000000000):dS (x34 o r c) (fun r=>kY (n+32) f r.1.1∧(r.1.2.1=0→r.1.1.1.length=o.1.length)):=by
 have e76:=t76 o r h.s
 have e81:=t81 o h (by omega)
 obtain ⟨a0,a1,a2,⟨⟩⟩:=o;have h1:a0.length≤1000:=h.s
 have hsi:∀ s∈a0,pY n s:=h.si
 unfold x34 r34;dsimp only
 refine ak (t67 _ h (by omega) (by omega)) fun y hy=>au (fun c=>aj ⟨nD _ _,fun e=>(ne_of c e).elim⟩) fun _=>?_
 rw [e76];simp only [gL,bK]
 have hi:=uz (fun s:Sk=>decide (s.1=r)) a0
 generalize ah.idx (fun s:Sk=>decide (s.1=r)) a0=k at hi ⊢
 refine aB (fun _=>aj ⟨nD _ _,fun e=>absurd (show (4:Int)=0 from e) (by decide)⟩) fun ck=>ak (t77 c) fun y _=>au (fun c=>aj ⟨nD _ _,fun e=>(ne_of c e).elim⟩) fun _=>?_
 have hk:=hsi _ (getD_in (d:=((0,(0,(0,([],([],()))))):Sk)) (show k.toNat<a0.length by omega))
 refine aF (by omega) (by omega) (ak (t79 _ (by have:=hk.1;omega)) fun y8 _=>ak (t78 _ _) fun y9 _=>au (fun c=>aj ⟨nD _ _,fun e=>(ne_of c e).elim⟩) fun _=>aF (by omega) (by omega) (ak (t80 _ _ hk (by omega)) fun mq h10=>au (fun c=>aj ⟨nD _ _,fun e=>(ne_of c e).elim⟩) fun _=>?_))
 rw [e81];simp only [gL]
 refine aF (by omega) (by omega) (bL (by omega) (aj ⟨⟨by simpa using h1,fun s hs=>?_,h.l,h.li,h.fl⟩,fun _=>List.length_set ..⟩))
 rcases mem_set hs with hs | rfl
 ·exact (hsi s hs).mono (by omega)
 ·exact h10
theorem t71 (o:Ov) (r:Int) (c:List Wa) {n f:Nat} (h:kY n f o) (hn:n≤1000000000) (hf:f≤100000000000):dS (x71 o r c) (fun r=>kY (n+32) f r.1.1∧(r.1.2.1=0→r.1.1.1.length=o.1.length)):=by
 have e76:=t76 o r h.s
 have e81:=t81 o h (by omega)
 obtain ⟨a0,a1,a2,⟨⟩⟩:=o;have h1:a0.length≤1000:=h.s
 have hsi:∀ s∈a0,pY n s:=h.si
 have Zt:∀ l∈a1,pG f l:=h.li
 unfold x71 r71;dsimp only
 refine ak (t67 _ h (by omega) (by omega)) fun y hy=>bE (fun c=>aj ⟨nD _ _,fun e=>absurd e c⟩) fun c0=>?_
 have hl:a1.length=a0.length:=(hy c0).l;rw [e76];simp only [gL,bK]
 have hi:=uz (fun s:Sk=>decide (s.1=r)) a0
 generalize ah.idx (fun s:Sk=>decide (s.1=r)) a0=k at hi ⊢
 refine aB (fun _=>aj ⟨nD _ _,fun e=>absurd (show (4:Int)=0 from e) (by decide)⟩) fun ck=>?_
 have hk:=hsi _ (getD_in (d:=((0,(0,(0,([],([],()))))):Sk)) (show k.toNat<a0.length by omega))
 refine aF (by omega) (by omega) (ak (aqK _ _ hk (by omega)) fun y7 h7=>au (fun c=>aj ⟨nD _ _,fun e=>(ne_of c e).elim⟩) fun _=>aF (by omega) (by omega) (au (fun _=>aj ⟨nD _ _,fun e=>absurd (show (3:Int)=0 from e) (by decide)⟩) fun _=>?_))
 rw [e81];simp only [gL]
 refine aF (by omega) (by omega) (bL (by omega) (aF (by omega) (by omega) (aF (by omega) (by omega) (bL (by omega) (aj ⟨⟨by simpa using h1,fun s hs=>?_,by have:=h.l;simpa using this,fun l hl=>?_,h.fl⟩,fun _=>List.length_set ..⟩)))))
 ·rcases mem_set hs with hs | rfl
  ·exact (hsi s hs).mono (by omega)
  ·exact h7
 ·rcases mem_set hl with hl | rfl
  ·exact Zt l hl
  ·exact ⟨fG _,fun _ h=>by cases h⟩
structure Zc (n f m:Nat) (N:Nat) (o:Ov):Prop where
 s:o.1.length=N
 si:∀ s∈o.1,s.2.2.2.1.length≤n∧s.2.2.2.2.1.length≤12
 l:o.2.1.length=N
 li:∀ l∈o.2.1,pG f l
 fl:o.2.2.1.length≤m
theorem t35 (o:Ov) (q:List Fa) {n f:Nat} (h:kY n f o) (hn:n≤1000000000) (hf:f≤3000000000) (hq:q.length≤1000):dS (x35 o q) (fun r=>kY n (2*f+144*(n+1)+4000) r.1.1∧(r.1.2.1=0→r.1.1.1.length=o.1.length)):=by
 have e81:=t81 o h (by omega)
 obtain ⟨a0,a1,a2,⟨⟩⟩:=o;have h1:a0.length≤1000:=h.s
 have hsi:∀ s∈a0,pY n s:=h.si
 have Zt:∀ l∈a1,pG f l:=h.li
 have hfl:a2.length≤f:=h.fl;unfold x35 r35;dsimp only
 refine ak (t67 _ h (by omega) (by omega)) fun y hy=>bE (fun c=>aj ⟨nD _ _,fun e=>absurd e c⟩) fun c0=>?_
 have ok:=hy c0;have hl:a1.length=a0.length:=ok.l;have h12:a0.length≤12:=ok.s
 have hp:∀ s∈a0,s.2.2.2.2.1.length≤12:=ok.p
 have ht:∀ x∈a2,(a0.any fun s=>decide (s.1=x.2.2.1))=true:=ok.t
 rw [e81];simp only [gL]
 refine ak (t82 a2 q (by omega) hq) fun y6 h6=>?_
 obtain ⟨⟨now,late,⟨⟩⟩,⟨⟩⟩:=y6;obtain ⟨g1,g2,g3⟩:=h6
 have g1:∀ x∈now,x∈a2:=g1
 have g2:now.length≤a2.length+1000:=g2;have g3:late.length≤1000:=g3
 refine ak (P:=fun y=>Zc n (2*f+1000) (f+2000) a0.length y.1) (aJ now.length (fun s=>s.2.1) (fun s=>Zc n (f+s.2.1.toNat) (1000+s.2.1.toNat) a0.length s.1) rfl ⟨rfl,fun s hs=>⟨(hsi s hs).1,hp s hs⟩,hl,Zt,by simpa using g3⟩ ?_) fun y7 h7=>?_
 ·rintro ⟨⟨b0,b1,b2,⟨⟩⟩,i,⟨⟩⟩ k hk hle hI
  obtain rfl:i=k:=hk;have i1:b0.length=a0.length:=hI.s
  have i2:∀ s∈b0,s.2.2.2.1.length≤n∧s.2.2.2.2.1.length≤12:=hI.si
  have i3:b1.length=a0.length:=hI.l
  have i4:∀ l∈b1,pG (f+k) l:=hI.li
  have i5:b2.length≤1000+k:=hI.fl
  have nx:∀ {c0:List Sk} {c1:List Li} {c2:List oC},k<now.length→c0.length=a0.length→(∀ s∈c0,s.2.2.2.1.length≤n∧s.2.2.2.2.1.length≤12)→c1.length=a0.length→(∀ l∈c1,pG (f+(k+1)) l)→c2.length≤1000+(k+1) →
   Cnt (ρ:=Ov×Unit) now.length (fun s:Ov×Int×Unit=>s.2.1) (fun s=>Zc n (f+s.2.1.toNat) (1000+s.2.1.toNat) a0.length s.1) k (fun y=>Zc n (2*f+1000) (f+2000) a0.length y.1) (.inl ((c0,(c1,(c2,()))),(IntKind.wrap .i64 ((k:Int)+1),()))):=by
   intro c0 c1 c2 j0 j1 j2 j3 j4 j5
   rw [aG (by omega)]
   refine ⟨j0,by show ((k+1:Nat):Int)=_;omega,j1,j2,j3,?_,?_⟩
   ·show ∀ l∈c1,pG (f+((k+1:Nat):Int).toNat) l
    rw [dG];exact j4
   ·show c2.length≤1000+((k+1:Nat):Int).toNat
    rw [dG];exact j5
  unfold RJ;dsimp only;generalize hxe:now.getD (Int.toNat (k:Int)) (0,(0,(0,(0,(0,(0,(0,(0,((0,([],())),())))))))))=x
  have e76:=fun r=>t76 (a0,a1,a2,()) r (by show a0.length≤1000;omega)
  rw [e76];simp only [gL,bK,dG]
  refine aB (fun c=>aF (by omega) (by omega) ?_) fun c=>aj ⟨i1,i2,i3,fun l hl=>(i4 l hl).mono (by omega),by show b2.length≤f+2000;omega⟩
  have hx:x∈now:=by rw [←hxe,dG];exact getD_in (by omega)
  have hi:=uz (fun s:Sk=>decide (s.1=x.2.2.1)) a0
  have hi3:=hi.2.2 (ht x (g1 x hx))
  generalize ah.idx (fun s:Sk=>decide (s.1=x.2.2.1)) a0=j at hi hi3 ⊢
  have hj:j.toNat<a0.length:=by omega
  refine aB (fun _=>?_) fun _=>?_
  ·have hb:=i2 _ (getD_in (d:=((0,(0,(0,([],([],()))))):Sk)) (show j.toNat<b0.length by omega))
   refine aF (by omega) (by omega) (bL (by omega) (ak (t83 _ _ hb.1 hb.2 (by omega) (by omega)) fun y6 h6=>ak (P:=fun y=>y.1.1.length=a0.length∧(∀ s∈y.1.1,s.2.2.2.1.length≤n∧s.2.2.2.2.1.length≤12)∧y.1.2=(b1,(b2,()))) (au (fun _=>aF (by omega) (by omega) (bL (by omega) (aj ⟨by show List.length (List.set _ _ _)=_;rw [List.length_set];exact i1,fun s hs=>?_,rfl⟩))) fun _=>aj ⟨i1,i2,rfl⟩) fun y7 hy7=>aj ?_))
   ·rcases mem_set hs with hs | rfl
    ·exact i2 s hs
    ·exact h6
   ·obtain ⟨⟨c0,c1⟩,⟨⟩⟩:=y7
    obtain ⟨k1,k2,k3⟩:=hy7;have k3:c1=(b1,(b2,())):=k3;subst k3
    exact nx (by omega) k1 k2 i3 (fun l hl=>(i4 l hl).mono (by omega)) (by omega)
  ·have hb:=i4 _ (getD_in (d:=((0,(0,([],()))):Li)) (show j.toNat<b1.length by omega))
   refine aF (by omega) (by omega) (bL (by omega) (ak (t84 _ _ hb (by omega)) fun y6 h6=>ak (P:=fun y=>y.1.1=b0∧y.1.2.1.length=a0.length∧(∀ l∈y.1.2.1,pG (f+(k+1)) l)∧y.1.2.2.1.length≤1000+(k+1)) (au (fun _=>aF (by omega) (by omega) (bL (by omega) (bF (by omega) (aj ⟨rfl,by show List.length (List.set _ _ _)=_;rw [List.length_set];exact i3,fun l hl=>?_,by show List.length (_++[_])≤_;rw [kZ,FL];omega⟩)))) fun _=>aj ⟨rfl,i3,fun l hl=>(i4 l hl).mono (by omega),by show b2.length≤1000+(k+1);omega⟩) fun y7 hy7=>aj ?_))
   ·rcases mem_set hl with hl | rfl
    ·exact (i4 l hl).mono (by omega)
    ·exact h6
   ·obtain ⟨⟨c0,c1,c2,⟨⟩⟩,⟨⟩⟩:=y7
    obtain ⟨k1,k2,k3,k4⟩:=hy7;have k1:c0=b0:=k1;subst k1
    exact nx (by omega) i1 i2 k2 k3 k4
 refine ak (P:=fun y=>kY n (2*f+144*(n+1)+4000) y.1∧y.1.1.length=a0.length) (aJ y7.1.1.length (fun s=>s.2.1) (fun s=>s.1.1=y7.1.1∧s.1.2.1=y7.1.2.1∧(s.1.2.2.1.length:Int)≤f+2000+s.2.1*(12*(n+1))) rfl ⟨rfl,rfl,by have:=h7.fl;simp;omega⟩ ?_) fun y8 h8=>aj ⟨h8.1,fun _=>h8.2⟩
 have hN:y7.1.1.length≤12:=by have:=h7.s;omega
 have fin:∀ {o:Ov},o.1=y7.1.1→o.2.1=y7.1.2.1→o.2.2.1.length≤2*f+144*(n+1)+4000→kY n (2*f+144*(n+1)+4000) o:=by
  intro o e1 e2 e3
  refine ⟨by rw [e1];omega,by rw [e1];exact fun s hs=>⟨(h7.si s hs).1,by have:=(h7.si s hs).2;omega⟩,by rw [e2];have:=h7.l;omega,by rw [e2];exact fun l hl=>(h7.li l hl).mono (by omega),e3⟩
 rintro ⟨⟨b0,b1,b2,⟨⟩⟩,i,⟨⟩⟩ k hk hle ⟨i1,i2,i3⟩;obtain rfl:i=k:=hk;have i3:(b2.length:Int)≤f+2000+(k:Int)*(12*(n+1)):=i3
 have kb:(k:Int)*(12*(n+1))≤12*(12*(n+1)):=Int.mul_le_mul_of_nonneg_right (by omega) (by omega)
 unfold RN;simp only [bK,dG]
 refine aB (fun c=>aF (by omega) (by omega) ?_) fun c=>aj ⟨fin i1 i2 (by show b2.length≤_;omega),(congrArg List.length i1).trans h7.s⟩
 have hs:=h7.si _ (getD_in (d:=((0,(0,(0,([],([],()))))):Sk)) (show k<y7.1.1.length by omega))
 refine ak (P:=fun y=>y.1.1=b0∧y.1.2.1=b1∧y.1.2.2.1.length≤b2.length+12*(n+1)) (aJ (y7.1.1.getD k (0,(0,(0,([],([],())))))).2.2.2.2.1.length (fun s=>s.1) (fun s=>s.2.1.1=b0∧s.2.1.2.1=b1∧(s.2.1.2.2.1.length:Int)≤b2.length+s.1*(n+1)) rfl ⟨rfl,rfl,by simp⟩ ?_) fun y hy=>aj ⟨by omega,aG (by omega),hy.1.trans i1,hy.2.1.trans i2,?_⟩
 ·rintro ⟨j,⟨c0,c1,c2,⟨⟩⟩,⟨⟩⟩ m hm hle' ⟨j1,j2,j3⟩
  obtain rfl:j=m:=hm;have j3:(c2.length:Int)≤b2.length+(m:Int)*(n+1):=j3
  have mb:(m:Int)*(n+1)≤12*(n+1):=Int.mul_le_mul_of_nonneg_right (by have:=hs.2;omega) (by omega)
  unfold RL;simp only [bK,dG]
  refine aB (fun c=>aF (by omega) (by omega) (ak (t85 _ _ ⟨hs.1,by have:=hs.2;omega⟩ (by omega)) fun y hy=>bF (by omega) (aj ⟨by omega,aG (by have:=hs.2;omega),j1,j2,?_⟩))) fun c=>aj ⟨j1,j2,by show c2.length≤_;omega⟩
  show ((c2++y.1.1).length:Int)≤b2.length+IntKind.wrap .i64 ((m:Int)+1)*(n+1)
  rw [aG (by have:=hs.2;omega),kZ]
  have e:((m+1:Nat):Int)*((n:Int)+1)=(m:Int)*(n+1)+(n+1):=by rw [Int.natCast_add,Int.add_mul];simp
  omega
 ·show (y.1.2.2.1.length:Int)≤f+2000+IntKind.wrap .i64 ((k:Int)+1)*(12*(n+1))
  rw [aG (by omega)]
  have e:((k+1:Nat):Int)*(12*((n:Int)+1))=(k:Int)*(12*(n+1))+(12*(n+1)):=by rw [Int.natCast_add,Int.add_mul];simp
  have:=hy.2.2;omega
theorem FJ (t:Tp) (n:Int):0≤(next t n).1∧((next t n).1<n∨(next t n).1=0):=by
 unfold next cut
 by_cases h:n<1
 ·rw [dT h];exact ⟨Int.le_refl _,.inr rfl⟩
 ·rw [dF h]
  exact ⟨Int.emod_nonneg _ (by omega),.inl (Int.emod_lt_of_pos _ (by omega))⟩
theorem fV {t:Tp} (n:Int) (h:wf t=true):dS (ah.on (wf t) (next t n)) (fun r=>wf r.2=true∧0≤r.1∧(r.1<n∨r.1=0)):=jL h ⟨wu h,FJ t n⟩
theorem jJ {t:Tp} (a b:Int) (h:wf t=true) (hs:(small a&&small b)=true) (hab:a≤b):dS (ah.on (wf t&&small a&&small b) (ah.range t a b)) (fun r=>wf r.2=true∧a≤r.1∧r.1≤b):=by
 refine jL (by rw [h];simpa using hs) ⟨jY h,?_⟩
 have:=FJ t (b - a+1);unfold ah.range;dsimp only;omega
theorem jf {t:Tp} (l:List Int) {c:Bool} (h:wf t=true) (hc:c=true) (hl:0<l.length):dS (ah.on c (pick t l)) (fun r=>wf r.2=true∧r.1∈l):=by
 refine jL hc ⟨wz h,?_⟩;have:=FJ t l.length;unfold pick
 exact getD_in (by omega)
theorem t36 (t:Tp) (n:Int) (h:wf t=true):dS (x36 t n) (fun r=>wf r.2=true∧r.1.length≤3):=by
 obtain ⟨a0,a1,⟨⟩⟩:=t;unfold x36 r36
 refine ak (fV 4 h) fun y3 h3=>ak (P:=fun y=>wf y.1=true∧y.2.1.length≤3) (iM (fun s=>wf s.1=true∧0≤s.2.2.1∧(s.2.1.length:Int)+s.2.2.1≤3) (fun s=>s.2.2.1.toNat) ⟨h3.1,h3.2.1,by simp;omega⟩ ?_) fun y hy=>aj ⟨hy.1,hy.2⟩
 rintro ⟨t,out,i,⟨⟩⟩ ⟨h1,h2,h3⟩;have h1:wf t=true:=h1;have h2:0≤i:=h2;have h3:(out.length:Int)+i≤3:=h3;unfold RO;dsimp only
 refine aB (fun c=>ak (jJ 0 5 h1 (by decide) (by decide)) fun y2 k2=>ak (fV _ k2.1) fun y3 k3=>bF (by omega) (aj ⟨⟨k3.1,?_,?_⟩,?_⟩)) fun c=>aj ⟨h1,by show out.length≤3;omega⟩
 ·show 0≤IntKind.wrap .i64 (i - 1);simp only [bW];omega
 ·show ((out++[_]).length:Int)+IntKind.wrap .i64 (i - 1)≤3
  simp only [bW,kZ,FL];omega
 ·show (IntKind.wrap .i64 (i - 1)).toNat<i.toNat;simp only [bW];omega
theorem t72 (t:Tp) (n:Int) (h:wf t=true) (hn:0≤n∧n≤1000):dS (x72 t n) (fun r=>wf r.2=true∧r.1.length≤1000):=by
 obtain ⟨a0,a1,⟨⟩⟩:=t;unfold x72 r72
 refine ak (P:=fun y=>wf y.1=true∧y.2.1.length≤1000) (iM (fun s=>wf s.2.1=true∧-1≤s.1∧(s.2.2.1.length:Int)+s.1≤999) (fun s=>(s.1+1).toNat) ⟨h,by simp only [bW];omega,by simp only [bW,List.length_nil];omega⟩ ?_) fun y hy=>aj ⟨hy.1,hy.2⟩
 rintro ⟨i,t,out,⟨⟩⟩ ⟨h1,h2,h3⟩;have h1:wf t=true:=h1;have h2:-1≤i:=h2;have h3:(out.length:Int)+i≤999:=h3;unfold RP;dsimp only
 refine aB (fun c=>ak (fV _ h1) fun y1 k1=>ak (P:=fun y=>wf y.1=true∧y.2.1.length≤out.length+1) (au (fun _=>ak (jf [1,1,2,3,4] k1.1 (by rw [k1.1];rfl) (by decide)) fun y2 k2=>bF (by omega) (aj ⟨k2.1,by simp⟩)) fun _=>aj ⟨k1.1,by show out.length≤out.length+1;omega⟩) fun y2 k2=>aj ⟨⟨k2.1,?_,?_⟩,?_⟩) fun c=>aj ⟨h1,by show out.length≤1000;omega⟩
 ·show -1≤IntKind.wrap .i64 (i - 1);simp only [bW];omega
 ·show (y2.2.1.length:Int)+IntKind.wrap .i64 (i - 1)≤999;simp only [bW];omega
 ·show (IntKind.wrap .i64 (i - 1)+1).toNat<(i+1).toNat;simp only [bW];omega
theorem DJ {t:Tp} (h:wf t=true):wf (filter t).2=true:=by
 have key:∀ n (t:Tp) (l:List Int),wf t=true→wf (srcs n t l).2=true:=by
  intro n
  induction n with
  | zero=>intro t l h;exact h
  | succ n ih=>intro t l h;exact ih _ _ (wz (jY (jY (jY h))))
 unfold filter sources;exact key _ _ _ (wu (jY (wz h)))
theorem t70 (t:Tp) (h:wf t=true):dS (x70 t) (fun r=>wf r.2=true∧r.1.length≤6):=by
 obtain ⟨a0,a1,⟨⟩⟩:=t;unfold x70 r70
 refine ak (P:=fun y=>wf y.2.1=true∧y.1.length≤6) (aJ 6 (fun s=>s.1 - 1) (fun s=>wf s.2.2.1=true∧(s.2.1.length:Int)<s.1) rfl ⟨h,by simp⟩ ?_) fun y hy=>aj ⟨hy.1,hy.2⟩
 rintro ⟨i,out,t,⟨⟩⟩ k hk hle ⟨h1,h2⟩
 obtain rfl:i=(k:Int)+1:=by have:i - 1=(k:Int):=hk;omega
 have h1:wf t=true:=h1;have h2:(out.length:Int)<(k:Int)+1:=h2;unfold Rk;dsimp only
 refine aB (fun c=>ak (jL h1 (DJ h1)) fun y1 k1=>ak (P:=fun y=>wf y.2.1=true) (ak (fV _ k1) fun y2 k2=>au (fun _=>au (fun _=>aj k2.1) fun _=>aj k2.1) fun _=>aj k2.1) fun y2 k2=>ak (P:=fun y=>y.1.length≤out.length+1) (au (fun _=>bF (by omega) (aj (by simp))) fun _=>aj (by show out.length≤out.length+1;omega)) fun y3 k3=>aj ⟨by omega,by show IntKind.wrap .i64 ((k:Int)+1+1) - 1=_;simp only [bW];omega,k2,?_⟩) fun c=>aj ⟨h1,by show out.length≤6;omega⟩
 show (y3.1.length:Int)<IntKind.wrap .i64 ((k:Int)+1+1);simp only [bW];omega
theorem BR {m:Ms} (h:jw m=0):m.2.1.length≤64:=by
 unfold jw at h
 cases h1:ah.inside m.1 0 1000000 with
 | false=>rw [h1] at h;cases h
 | true=>
  rw [h1] at h
  by_cases h2:64<m.2.1.length
  ·rw [dT h2] at h;cases h
  ·omega
theorem t73 (m:Ms):dS (x73 m) (fun r=>r.1.length≤64):=by
 obtain ⟨a0,a1,⟨⟩⟩:=m;unfold x73 r73
 refine ak (P:=fun y=>y.1.length≤64) (aB (fun hv=>?_) fun _=>aj (fG _)) fun y hy=>aj hy
 have hl:a1.length≤64:=BR hv
 refine ak (P:=fun y=>y.1.length≤64) (aJ a1.length (fun s=>s.2.1) (fun s=>(s.1.length:Int)≤s.2.1) rfl (by decide) ?_) fun y hy=>aj hy
 rintro ⟨out,i,⟨⟩⟩ k hk hle h2;obtain rfl:i=k:=hk;have h2:(out.length:Int)≤(k:Int):=h2;unfold RQ;simp only [bK,dG]
 refine aB (fun c=>aF (by omega) (by omega) (ak (jL (Q:=fun y=>y.1.length≤out.length+1) (fB (by omega)) (BF _ _).2) fun y2 k2=>aj ⟨by omega,aG (by omega),?_⟩)) fun c=>aj (by show out.length≤64;omega)
 show (y2.1.length:Int)≤IntKind.wrap .i64 ((k:Int)+1)
 rw [aG (by omega)]
 omega
theorem ad3 (a0 a1 a2 a3 a4 a5 a6 a7 a8 a9 bJ bS a12 dD iR jg a16 a17 yN H6 a20 a21 a22 a23 a24 a25 a26 a27 a28 a29 a30 a31 a32 a33 a34 a35 a36 a37 a38 a39 a40 a41 a42 a43 a44 a45 a46 a47 a48 a49 a50 a51 a52 a53 a54 a55 a56 a57 a58 a59 a60 a61 a62 a63 a64 a65 a66 a67 a68 a69 a70 a71 a72 a73 a74 a75 a76 a77 a78 a79 a80 ZP a82 a83 a84 a85 a86 a87 ZQ a89 ZR a91 ZT a93 ZU ZV ZW ZX ZY Z0 Oe:Bool):dS (acI a0 a1 a2 a3 a4 a5 a6 a7 a8 a9 bJ bS a12 dD iR jg a16 a17 yN H6 a20 a21 a22 a23 a24 a25 a26 a27 a28 a29 a30 a31 a32 a33 a34 a35 a36 a37 a38 a39 a40 a41 a42 a43 a44 a45 a46 a47 a48 a49 a50 a51 a52 a53 a54 a55 a56 a57 a58 a59 a60 a61 a62 a63 a64 a65 a66 a67 a68 a69 a70 a71 a72 a73 a74 a75 a76 a77 a78 a79 a80 ZP a82 a83 a84 a85 a86 a87 ZQ a89 ZR a91 ZT a93 ZU ZV ZW ZX ZY Z0 Oe) (fun r=>r.1.2.1.length≤99):=by
 unfold acI
 refine ak (P:=fun y=>y.1.2.1=[]) (au (fun _=>aj rfl) fun _=>aj rfl) fun y1 k1=>ak (P:=fun y=>y.1.2.1.length≤99) (iM (fun s=>1≤s.1∧s.1≤100∧(s.2.1.2.1.length:Int)+1≤s.1) (fun s=>(100 - s.1).toNat) ⟨Int.le_refl _,by show (1:Int)≤100;decide,by show ((y1.1.2.1.length:Nat):Int)+1≤1;rw [k1];decide⟩ ?_) fun y hy=>aj hy
 rintro ⟨i,f,⟨⟩⟩ ⟨h1,h2,h3⟩;have h1:1≤i:=h1;have h2:i≤100:=h2;have h3:(f.2.1.length:Int)+1≤i:=h3;unfold LU;dsimp only
 refine aB (fun c=>aF (by omega) (by omega) (bL (Nat.lt_of_lt_of_eq (m:=100) (by omega) rfl) (ak (P:=fun y=>y.1.2.1.length≤f.2.1.length+1) (au (fun _=>bF (by omega) (aj (by simp))) fun _=>aj (Nat.le_succ _)) fun y2 k2=>aj ⟨⟨?_,?_,?_⟩,?_⟩))) fun c=>aj (by show f.2.1.length≤99;omega)
 ·show 1≤IntKind.wrap .i64 (i+1);simp only [bW];omega
 ·show IntKind.wrap .i64 (i+1)≤100;simp only [bW];omega
 ·show (y2.1.2.1.length:Int)+1≤IntKind.wrap .i64 (i+1);simp only [bW];omega
 ·show (100 - IntKind.wrap .i64 (i+1)).toNat<(100 - i).toNat;simp only [bW];omega
theorem aqM (b0:Bar) (b1:Bool):dS (acJ b0 b1) (fun r=>r.1.2.1.length≤99):=by obtain ⟨a0,a1,a2,a3,a4,a5,a6,a7,a8,a9,bJ,bS,a12,dD,iR,jg,a16,a17,yN,H6,a20,a21,a22,a23,a24,a25,a26,a27,a28,a29,a30,a31,a32,a33,a34,a35,a36,a37,a38,a39,a40,a41,a42,a43,a44,a45,a46,a47,a48,a49,a50,a51,a52,a53,a54,a55,a56,a57,a58,a59,a60,a61,a62,a63,a64,a65,a66,a67,a68,a69,a70,a71,a72,a73,a74,a75,a76,a77,a78,a79,a80,ZP,a82,a83,a84,a85,a86,a87,ZQ,a89,ZR,a91,ZT,a93,ZU,ZV,ZW,ZX,ZY,Z0,⟨⟩⟩:=b0;exact ad3 _ _ _ _ _ _ _ _ _ _ _ _ _ _ _ _ _ _ _ _ _ _ _ _ _ _ _ _ _ _ _ _ _ _ _ _ _ _ _ _ _ _ _ _ _ _ _ _ _ _ _ _ _ _ _ _ _ _ _ _ _ _ _ _ _ _ _ _ _ _ _ _ _ _ _ _ _ _ _ _ _ _ _ _ _ _ _ _ _ _ _ _ _ _ _ _ _ _ _ _ _
theorem t127 (f g:Fl) (b:Bool):dS (Xd f g b) (fun r=>r.1.1.2.1.length≤99):=by
 obtain ⟨a0,a1,⟨⟩⟩:=f;obtain ⟨a2,a3,⟨⟩⟩:=g;unfold Xd ahR
 refine bE (fun _=>aj (fG _)) fun _=>bE (fun _=>aj (fG _)) fun _=>ak (P:=fun y=>y.1.length=100) (iM (fun s=>1≤s.1∧s.1≤101∧s.2.1.length=100) (fun s=>(101 - s.1).toNat) ⟨Int.le_refl _,by show (1:Int)≤101;decide,rfl⟩ ?_) fun y hy=>jI (by rw [hy];rfl) (ak (aqM _ _) fun y6 k6=>aj k6)
 rintro ⟨i,l,z,⟨⟩⟩ ⟨h1,h2,h3⟩;have h1:1≤i:=h1;have h2:i≤101:=h2;have h3:l.length=100:=h3;unfold LV;dsimp only
 refine aB (fun c=>ak (P:=fun _=>True) ?_ fun y6 _=>ak (P:=fun y=>y.1.length=100) (aB (fun c2=>aF (by omega) (by omega) (bL (by omega) (aj (by show (List.set _ _ _).length=100;rw [List.length_set];exact h3)))) fun _=>aj h3) fun y7 k7=>aj ⟨⟨?_,?_,k7⟩,?_⟩) fun c=>aj h3
 ·have e:dS (bif !b then bif !iJ (a0,a1,()) i then some (iJ (a2,a3,()) i,()) else some (true,()) else some (false,())) (fun _=>True):=
   au (fun _=>au (fun _=>aj trivial) fun _=>aj trivial) fun _=>aj trivial
  exact au (fun _=>au (fun _=>e) fun _=>aj trivial) fun _=>e
 ·show 1≤IntKind.wrap .i64 (i+1);simp only [bW];omega
 ·show IntKind.wrap .i64 (i+1)≤101;simp only [bW];omega
 ·show (101 - IntKind.wrap .i64 (i+1)).toNat<(101 - i).toNat;simp only [bW];omega
theorem t75 (f g:Fl):dS (x75 f g) (fun r=>r.1.1.2.1.length≤99):=by
 unfold x75 r75
 exact ak (t127 _ _ _) fun y h=>aj h
theorem t33 (m:Ms):dS (x33 m) (fun r=>r.1.1.length≤64):=by
 obtain ⟨a0,a1,⟨⟩⟩:=m;unfold x33 r33
 refine bE (fun _=>aj (fG _)) fun hv=>?_
 have hl:a1.length≤64:=BR hv
 refine ak (t73 _) fun y2 k2=>ak (P:=fun y=>y.1.length≤64) (aJ y2.1.length (fun s=>s.1) (fun s=>(s.2.1.length:Int)≤s.1) rfl (by decide) ?_) fun y3 k3=>aB (fun _=>aj (fG _)) fun _=>aj k3
 rintro ⟨i,out,⟨⟩⟩ k hk hle h2;obtain rfl:i=k:=hk;have h2:(out.length:Int)≤(k:Int):=h2;unfold RV;simp only [bK,dG]
 refine aB (fun c=>aF (by omega) (by omega) (ak (P:=fun _=>True) (aJ a1.length (fun s=>s.2.1) (fun _=>True) rfl trivial ?_) fun y3 _=>bF (by omega) (aj ⟨by omega,aG (by omega),?_⟩))) fun c=>aj (by show out.length≤64;omega)
 ·rintro ⟨f,i,⟨⟩⟩ j hj hje _
  obtain rfl:i=j:=hj;unfold RU;simp only [bK,dG]
  refine aB (fun c=>aF (by omega) (by omega) (ak (P:=fun _=>True) (aB (fun _=>ak (Iu (t75 _ _)) fun y4 _=>aj trivial) fun _=>aj trivial) fun y4 _=>aj ⟨by omega,aG (by omega),trivial⟩)) fun c=>aj trivial
 ·show ((out++[_]).length:Int)≤IntKind.wrap .i64 ((k:Int)+1)
  rw [aG (by omega)]
  simp only [kZ,FL];omega
theorem t29 (t:Tp) (h:wf t=true):dS (x29 t 4) (fun r=>wf r.2=true∧r.1.2.1.length≤4):=by
 obtain ⟨a0,a1,⟨⟩⟩:=t;unfold x29 r29;dsimp only
 refine ak (jf [0,10,500,998000] h (by rw [h];rfl) (by decide)) fun y3 k3=>ak (fV _ k3.1) fun y4 k4=>ak (P:=fun y=>wf y.2.1=true∧y.1.2.1.length≤4) (iM (fun s=>wf s.2.2.1=true∧0≤s.1∧(s.2.1.2.1.length:Int)+s.1≤4) (fun s=>s.1.toNat) ⟨k4.1,k4.2.1,?_⟩ ?_) fun y5 k5=>aj k5
 ·show ((([]:List Mb).length:Nat):Int)+y4.1≤4
  have:=k4.2.2;simp only [bW] at this;simp only [List.length_nil];omega
 rintro ⟨c,⟨b,l,⟨⟩⟩,t,⟨⟩⟩ ⟨h1,h2,h3⟩;have h1:wf t=true:=h1;have h2:0≤c:=h2;have h3:(l.length:Int)+c≤4:=h3;unfold Rj;simp only [bK,dG]
 refine aB (fun hc=>ak (jJ 1 8 h1 (by decide) (by decide)) fun y1 k1=>ak (jJ 1 4 k1.1 (by decide) (by decide)) fun y2 k2=>ak (jL k2.1 (DJ k2.1)) fun y3 k3=>ak (jf [0,1,30,1000] k3 (by rw [k3];rfl) (by decide)) fun y4 k4=>ak (P:=fun _=>True) (au (fun _=>aj trivial) fun _=>aj trivial) fun y5 _=>ak (P:=fun _=>True) (au (fun _=>aj trivial) fun _=>aj trivial) fun y6 _=>ak (P:=fun y=>y.2.1=(b,l,())∧0≤y.1∧y.1≤(l.length:Int)) (aJ l.length (fun s=>s.1) (fun s=>s.2.1=(b,l,())) rfl rfl ?_) fun y7 k7=>?_) fun _=>aj ⟨h1,by show l.length≤4;omega⟩
 ·rintro ⟨i,m,⟨⟩⟩ k hk hle hm
  obtain rfl:i=k:=hk;obtain rfl:m=(b,l,()):=hm;unfold Ri;simp only [bK,dG]
  refine ak (P:=fun y=>y.1=(b,l,())∧(y.2.1=true→k<l.length)) ?_ fun y2 k2=>au (fun c=>aj ⟨k2.2 c,aG (by omega),k2.1⟩) fun _=>aj ⟨k2.1,by show (0:Int)≤(k:Int);omega,by show (k:Int)≤_;omega⟩
  refine aB (fun c=>?_) fun _=>aj ⟨rfl,fun h=>by cases h⟩
  have hk:k<l.length:=by omega
  have q:∀ e:Bool,dS (some (((b,l,()),(e,())):Ms×Bool×Unit)) (fun y=>y.1=(b,l,())∧(y.2.1=true→k<l.length)):=fun e=>aj ⟨rfl,fun _=>hk⟩
  exact aF (by omega) (by omega) (bL hk (au (fun _=>aF (by omega) (by omega) (bL hk (au (fun _=>aF (by omega) (by omega) (bL hk (q _))) fun _=>q _))) fun _=>q _))
 ·obtain ⟨i,m,⟨⟩⟩:=y7
  obtain ⟨km,k0,kl⟩:=k7;obtain rfl:m=(b,l,()):=km;have k0:0≤i:=k0;have kl:i≤(l.length:Int):=kl;dsimp only
  refine ak (P:=fun y=>y.1=(b,l,())∧(y.2.1=true→i<(l.length:Int))) ?_ fun y8 k8=>?_
  ·refine aB (fun c=>?_) fun _=>aj ⟨rfl,fun h=>by cases h⟩
   have hk:i<(l.length:Int):=by omega
   have q:∀ e:Bool,dS (some (((b,l,()),(e,())):Ms×Bool×Unit)) (fun y=>y.1=(b,l,())∧(y.2.1=true→i<(l.length:Int))):=fun e=>aj ⟨rfl,fun _=>hk⟩
   exact aF (by omega) (by omega) (bL (by omega) (au (fun _=>aF (by omega) (by omega) (bL (by omega) (q _))) fun _=>q _))
  ·obtain ⟨m,e,⟨⟩⟩:=y8
   obtain ⟨km,ke⟩:=k8;obtain rfl:m=(b,l,()):=km;dsimp only
   have nx:∀ m:Ms,m.2.1.length≤l.length+1→Step (fun s:Int×Ms×Tp×Unit=>wf s.2.2.1=true∧0≤s.1∧(s.2.1.2.1.length:Int)+s.1≤4) (fun s=>s.1.toNat) (c,(b,l,()),t,()) (fun y:Ms×Tp×Unit=>wf y.2.1=true∧y.1.2.1.length≤4) (.inl (IntKind.wrap .i64 (c - 1),m,y4.2,())):=by
    intro m hm;refine ⟨⟨k4.1,?_,?_⟩,?_⟩
    ·show 0≤IntKind.wrap .i64 (c - 1);simp only [bW];omega
    ·show (m.2.1.length:Int)+IntKind.wrap .i64 (c - 1)≤4;simp only [bW];omega
    ·show (IntKind.wrap .i64 (c - 1)).toNat<c.toNat;simp only [bW];omega
   refine au (fun he=>?_) fun _=>?_
   ·have hk:i<(l.length:Int):=ke he
    exact aF (by omega) (by omega) (bL (by omega) (aj (nx _ (by show (List.set _ _ _).length≤_;rw [List.length_set];omega))))
   ·have e1:(List.drop i.toNat (List.take l.length l)).length≤l.length:=by simp
    have e2:(List.drop 0 (List.take i.toNat l)).length+(List.drop i.toNat (List.take l.length l)).length=l.length:=by simp;omega
    refine jI (by rw [dT k0,dT kl,dT (Int.le_refl _)];rfl) (bF (by omega) (jI (by simp [k0,kl]) (jI ?_ (aj (nx _ ?_)))))
    ·rw [Bool.true_and]
     refine iy ?_;simp only [List.length_cons,List.nil_append];omega
    ·show ((List.drop 0 (List.take i.toNat l))++_).length≤l.length+1
     simp only [kZ,List.length_cons,List.nil_append];omega
def fresh (r:Int) (ps:List Int):Sk:=(r,1,0,[],ps.map (fun p=>(p,0,0,())),())
def Kq (l:List Int) (k:Nat):List Int:=l.take k++l.drop (k+1)
structure Asc (l:List Int):Prop where
 len:l.length≤12
 inn:∀ x∈l,1≤x∧x≤99
 Ra:l.Pairwise (· < ·)
theorem Asc.lt {l:List Int} (h:Asc l) {i j:Nat} (hij:i<j) (hj:j<l.length):l.getD i 0<l.getD j 0:=by
 rw [getD_at (l:=l) (i:=i) (by omega),getD_at (l:=l) (i:=j) hj]
 exact List.pairwise_iff_getElem.mp h.Ra i j (by omega) hj hij
theorem Asc.sub {l m:List Int} (h:Asc l) (hs:m.Sublist l):Asc m:=⟨jQ hs.length_le h.len,fun x hx=>h.inn x (hs.subset hx),h.Ra.sublist hs⟩
theorem zH (l:List Int) (k:Nat):(Kq l k).Sublist l:=by
 unfold Kq;rw [←List.eraseIdx_eq_take_drop_succ];exact List.eraseIdx_sublist l k
theorem Zd {l:List Int} {k:Nat} (h:k<l.length):(Kq l k).length=l.length - 1:=by
 unfold Kq;simp;omega
theorem TT {l:List Int} (h:Asc l) {k:Nat} (hk:k<l.length):∀ x∈Kq l k,x≠l.getD k 0:=by
 intro x hx e;unfold Kq at hx
 rcases List.mem_append.mp hx with hx | hx
 ·obtain ⟨i,hi,e2⟩:=List.getElem_of_mem hx
  rw [List.length_take] at hi;rw [List.getElem_take] at e2
  have:=h.lt (i:=i) (j:=k) (by omega) hk
  rw [getD_at (l:=l) (i:=i) (by omega),e2] at this
  omega
 ·obtain ⟨i,hi,e2⟩:=List.getElem_of_mem hx
  rw [List.length_drop] at hi;rw [List.getElem_drop] at e2
  have:=h.lt (i:=k) (j:=k+1+i) (by omega) (by omega)
  rw [getD_at (l:=l) (i:=k+1+i) (by omega),e2] at this
  omega
theorem akE:dS (EC [] 0) (fun y=>y.1=true):=by
 unfold EC acE
 refine ak (P:=fun y=>y.1=false) (aJ (([]:List It).length) (fun s=>s.1) (fun _=>True) rfl trivial ?_) fun y hy=>au (fun c=>by rw [hy] at c;cases c) fun _=>aj rfl
 rintro ⟨i,⟨⟩⟩ k hk hle -;obtain rfl:i=k:=hk;unfold EB
 exact aB (fun c=>absurd c (by simp only [List.length_nil,bK];omega)) (fun _=>aj rfl)
theorem TU {ps:List Int} {k:Nat} (h:k<ps.length):(ps.map (fun p=>((p,0,0,()):Pe))).getD k (0,0,0,())=(ps.getD k 0,0,0,()):=by
 rw [getD_at (by rw [List.length_map];exact h),List.getElem_map,getD_at h]
theorem aaf {r:Int} {ps:List Int} (hr:1≤r∧r≤99) (h:Asc ps) (hne:∀ x∈ps,x≠r):dS (xH (fresh r ps)) (fun y=>y.1=0):=by
 unfold xH acF fresh;dsimp only
 have hl:(ps.map (fun p=>((p,0,0,()):Pe))).length=ps.length:=List.length_map ..
 have h12:=h.len
 refine ak (P:=fun y=>y.1=true) ?_ fun y hy=>ak (P:=fun y=>y.1=true) (aJ ps.length (fun s=>s.2.1) (fun s=>s.1=true) rfl hy ?_) fun y6 k6=>au (fun c=>by rw [k6] at c;cases c) fun _=>aj rfl
 ·refine au (fun _=>au (fun _=>au (fun _=>ak akE fun y hy=>au (fun _=>aj (fB (by simp only [hl,bK];omega))) fun c=>by rw [hy] at c;cases c) fun c=>by cases c) fun c=>by cases c) fun c=>by rw [aZ.mpr hr] at c;cases c
 ·rintro ⟨b,i,⟨⟩⟩ k hk hle hb
  obtain rfl:i=k:=hk;obtain rfl:b=true:=hb;unfold ED;simp only [bK,dG,hl]
  refine aB (fun c=>aF (by omega) (by omega) (ak (P:=fun y=>y.1=true) ?_ fun y hy=>aj ⟨by omega,aG (by omega),hy⟩)) (fun c=>aj rfl)
  have hk:k<ps.length:=by omega
  have hm:ps.getD k 0∈ps:=getD_in hk;simp only [TU hk,aZ.mpr (h.inn _ hm)]
  refine au (fun _=>bE (fun _=>au (fun _=>au (fun _=>bE (fun c2=>?_) fun _=>aj rfl) fun c=>by cases c) fun c=>by cases c) fun c=>absurd c (hne _ hm)) fun c=>by cases c
  have e:IntKind.wrap .i64 ((k:Int) - 1)=((k - 1:Nat):Int):=by rw [bW];omega
  rw [e]
  refine aF (by omega) (by omega) (aj (fB ?_))
  rw [dG,TU (by omega)]
  exact h.lt (by omega) hk
theorem t66 {r:Int} {ps:List Int} (hr:1≤r∧r≤99) (h:Asc ps) (hne:∀ x∈ps,x≠r):dS (x66 r 1 ps) (fun y=>y.1.1=fresh r ps∧y.1.2.1=0):=by
 unfold x66 r66;have h12:=h.len
 refine aB (fun c=>absurd c (by simp only [bK];omega)) fun _=>ak (P:=fun y=>y.1=fresh r ps) (aJ ps.length (fun s=>s.1) (fun s=>s.2.1=fresh r (ps.take s.1.toNat)) rfl rfl ?_) fun y3 k3=>?_
 ·rintro ⟨i,s,⟨⟩⟩ k hk hle hI
  obtain rfl:i=k:=hk;obtain rfl:s=fresh r (ps.take k):=hI;unfold Ro;simp only [bK,dG]
  refine aB (fun c=>aF (by omega) (by omega) (bF ?_ (aj ⟨by omega,aG (by omega),?_⟩))) fun c=>aj (by show fresh r _=_;rw [List.take_of_length_le (by omega)])
  ·show ((ps.take k).map _).length.succ*24≤_
   rw [List.length_map,List.length_take];omega
  ·show ((_:Int),_)=fresh r (ps.take (IntKind.wrap .i64 ((k:Int)+1)).toNat)
   rw [aG (by omega),dG,kN (d:=0) (by omega)]
   unfold fresh;rw [List.map_append];rfl
 ·rw [k3]
  exact ak (aaf hr h hne) fun y hy=>bE (fun c=>absurd hy c) fun _=>aj ⟨rfl,rfl⟩
def Iw (rs:List Int) (n:Nat):List Sk:=(List.range n).map fun j=>fresh (rs.getD j 0) (Kq rs j)
def Iy (rs:List Int):List Li:=rs.map fun r=>(r,1,[],())
theorem ng (rs:List Int) (n:Nat):(Iw rs n).length=n:=by simp [Iw]
theorem wE (rs:List Int):(Iy rs).length=rs.length:=by simp [Iy]
theorem xU (rs:List Int) {n k:Nat} (h:k<n):(Iw rs n).getD k (0,(0,(0,([],([],())))))=fresh (rs.getD k 0) (Kq rs k):=by
 rw [getD_at (by rw [ng];exact h)]
 simp [Iw]
theorem Kr {rs:List Int} {k:Nat} (h:k<rs.length):(Iy rs).getD k (0,(0,([],())))=(rs.getD k 0,1,[],()):=by
 rw [getD_at (by rw [wE];exact h),getD_at h]
 simp [Iy]
theorem akF {r:Int} (hr:1≤r∧r≤99):dS (Ck (r,1,[],())) (fun y=>y.1=0):=by
 unfold Ck acG;dsimp only
 refine ak (P:=fun y=>y.1=true) ?_ fun y hy=>ak (P:=fun y=>y.1=true) (aJ (([]:List He).length) (fun s=>s.2.1) (fun s=>s.1=true) rfl hy ?_) fun y6 k6=>au (fun c=>by rw [k6] at c;cases c) fun _=>aj rfl
 ·exact au (fun _=>au (fun _=>aj rfl) fun c=>by cases c) fun c=>by rw [aZ.mpr hr] at c;cases c
 ·rintro ⟨b,i,⟨⟩⟩ k hk hle hb
  obtain rfl:i=k:=hk;unfold EF
  exact aB (fun c=>absurd c (by simp only [List.length_nil,bK];omega)) (fun _=>aj hb)
theorem Ze {l:List Int} {x:Int} (h:x∈l):ah.has l x=true:=by
 unfold ah.has;exact List.any_eq_true.mpr ⟨x,h,fB rfl⟩
theorem aqO {rs:List Int} (h:Asc rs):dS (Rp (Iw rs rs.length,Iy rs,[],())) (fun y=>y.1=0):=by
 have h12:=h.len
 have hin:∀ {k:Nat},k<rs.length→1≤rs.getD k 0∧rs.getD k 0≤99:=fun hk=>h.inn _ (getD_in hk)
 have hf:∀ {k:Nat},k<rs.length→dS (xH ((Iw rs rs.length).getD k (0,(0,(0,([],([],()))))))) (fun y=>y.1=0):=by
  intro k hk;rw [xU rs hk];exact aaf (hin hk) (h.sub (zH _ _)) (TT h hk)
 unfold Rp r67;dsimp only
 refine ak (P:=fun y=>y.1=false) ?_ fun y hy=>au (fun c=>by rw [hy] at c;cases c) fun _=>?_
 ·refine bE (fun c=>aj ?_) (fun c=>absurd c (by simp only [ng,bK];omega))
  simp only [ng,wE,fB (Eq.refl (Int.ofNat rs.length))];rfl
 refine ak (P:=fun y=>y.1=false∧y.2.2.1=rs) (aJ rs.length (fun s=>s.1) (fun s=>s.2.1=rs.take s.1.toNat) rfl rfl ?_) fun y4 k4=>au (fun c=>by rw [k4.1] at c;cases c) fun _=>?_
 ·rintro ⟨i,q,⟨⟩⟩ k hk hle hI
  obtain rfl:i=k:=hk;obtain rfl:q=rs.take k:=hI;unfold JU;simp only [bK,dG,ng]
  refine aB (fun c=>aF (by omega) (by omega) ?_) fun c=>aj ⟨rfl,by show rs.take k=rs;rw [List.take_of_length_le (by omega)]⟩
  have hk:k<rs.length:=by omega
  refine ak (P:=fun y=>y.1=false) (ak (hf hk) fun y hy=>?_) fun y hy=>au (fun c=>by rw [hy] at c;cases c) fun _=>bF (by rw [List.length_take];omega) (aj ⟨hk,aG (by omega),?_⟩)
  ·refine au (fun _=>aB (fun c2=>?_) fun _=>aj rfl) fun c=>by rw [hy] at c;cases c
   have e:IntKind.wrap .i64 ((k:Int) - 1)=((k - 1:Nat):Int):=by rw [bW];omega
   rw [e]
   refine aF (by omega) (by omega) (aj (jM ?_))
   rw [dG,xU rs hk,xU rs (by omega)]
   have:=h.lt (i:=k - 1) (j:=k) (by omega) hk
   show ¬ (rs.getD (k - 1) 0≥rs.getD k 0);omega
  ·show rs.take k++[_]=rs.take (IntKind.wrap .i64 ((k:Int)+1)).toNat
   rw [aG (by omega),dG,kN (d:=0) hk,xU rs hk]
   rfl
 refine ak (P:=fun y=>y.1=false∧y.2.2.1=rs) (aJ rs.length (fun s=>s.1) (fun s=>s.2.1=rs) rfl k4.2 ?_) fun y5 k5=>au (fun c=>by rw [k5.1] at c;cases c) fun _=>?_
 ·rintro ⟨i,q,⟨⟩⟩ k hk hle hI
  obtain rfl:i=k:=hk;have hI:q=rs:=hI;unfold JX;simp only [bK,dG,ng,wE]
  refine aB (fun c=>aF (by omega) (by omega) ?_) fun c=>aj ⟨rfl,hI⟩
  have hk:k<rs.length:=by omega
  have e1:((Iw rs rs.length).getD k (0,(0,(0,([],([],())))))).2.2.2.2.1=(Kq rs k).map (fun p=>(p,0,0,())):=by rw [xU rs hk];rfl
  have e2:(Kq rs k).length=rs.length - 1:=Zd hk
  have e3:((Iy rs).getD k (0,(0,([],())))).2.2.1=[]:=by rw [Kr hk]
  refine bE (fun c2=>absurd ?_ c2) fun _=>?_
  ·rw [e1,List.length_map,e2,hI,bW];omega
  refine ak (P:=fun y=>y.1=false∧y.2.2.1=rs) (aJ (Kq rs k).length (fun s=>s.2.1) (fun s=>s.1=rs) rfl hI ?_) fun y3 k3=>au (fun c=>by rw [k3.1] at c;cases c) fun _=>aF (by omega) (by omega) (ak (P:=fun y=>y.1=false) ?_ fun y hy=>au (fun c=>by rw [hy] at c;cases c) fun _=>ak (P:=fun y=>y.1=false∧y.2.2.1=rs) (aJ (([]:List He).length) (fun s=>s.2.1) (fun s=>s.1=rs) rfl k3.2 ?_) fun y5 k5=>au (fun c=>by rw [k5.1] at c;cases c) fun _=>aj ⟨hk,aG (by omega),k5.2⟩)
  ·rintro ⟨q,i,⟨⟩⟩ j hj hje hq
   obtain rfl:i=j:=hj;have hq:q=rs:=hq;unfold JV;simp only [bK,dG,e1,List.length_map]
   refine aB (fun c=>aF (by omega) (by omega) ?_) fun c=>aj ⟨rfl,hq⟩
   have hj:j<(Kq rs k).length:=by omega
   rw [TU hj]
   have hm:ah.has q ((Kq rs k).getD j 0)=true:=by rw [hq];exact Ze ((zH rs k).subset (getD_in hj))
   exact au (fun c=>by rw [hm] at c;cases c) fun _=>aj ⟨hj,aG (by omega),hq⟩
  ·have hx:dS (Ck ((Iy rs).getD k (0,(0,([],()))))) (fun y=>y.1=0):=by rw [Kr hk];exact akF (hin hk)
   have e:((Iy rs).getD k (0,(0,([],())))).1=((Iw rs rs.length).getD k (0,(0,(0,([],([],())))))).1:=by rw [Kr hk,xU rs hk];rfl
   refine ak hx fun y hy=>au (fun _=>aj ?_) fun c=>by rw [hy] at c;cases c
   exact congrArg not (fB e)
  ·rintro ⟨q,i,⟨⟩⟩ j hj hje hq
   obtain rfl:i=j:=hj;unfold JW;simp only [dG,e3]
   exact aB (fun c=>absurd c (by simp only [List.length_nil,bK];omega)) fun _=>aj ⟨rfl,hq⟩
 refine ak (P:=fun y=>y.1=false) (aJ (([]:List oC).length) (fun s=>s.2.1) (fun _=>True) rfl trivial ?_) fun y6 k6=>au (fun c=>by rw [k6] at c;cases c) fun _=>aj rfl
 rintro ⟨q,i,⟨⟩⟩ j hj hje hq;obtain rfl:i=j:=hj;unfold JY
 exact aB (fun c=>absurd c (by simp only [List.length_nil,bK];omega)) fun _=>aj rfl
theorem t30 {rs:List Int} (h:Asc rs):dS (x30 rs) (fun y=>y.1=((Iw rs rs.length,Iy rs,[],()),0,())):=by
 have h12:=h.len;unfold x30 r30
 refine aB (fun c=>absurd c (by simp only [bK];omega)) fun _=>ak (P:=fun y=>y.1=false∧y.2.2.2.1=(Iw rs rs.length,Iy rs,[],())) (aJ rs.length (fun s=>s.2.2.1) (fun s=>s.2.1=(Iw rs s.2.2.1.toNat,Iy (rs.take s.2.2.1.toNat),[],())) rfl rfl ?_) fun y1 k1=>au (fun c=>by rw [k1.1] at c;cases c) fun _=>?_
 ·rintro ⟨z,o,i,⟨⟩⟩ k hk hle hI
  obtain rfl:i=k:=hk;obtain rfl:o=(Iw rs k,Iy (rs.take k),[],()):=hI;unfold Rq
  have ek:k<rs.length→IntKind.wrap .i64 ((k:Int)+1)=((k+1:Nat):Int):=fun _=>aG (by omega)
  simp only [bK,dG]
  refine aB (fun c=>aF (by omega) (by omega) (jI (by simp;omega) (bF (by simp;omega) ?_))) fun c=>aj ⟨rfl,?_⟩
  ·have hk:k<rs.length:=by omega
   rw [ek hk]
   have eo:([]++List.drop 0 (List.take k rs))++List.drop (k+1) (List.take rs.length rs)=Kq rs k:=by
    rw [List.take_length];rfl
   refine jI (by simp;omega) (bF (by simp;omega) ?_)
   rw [dG,eo]
   refine ak (t66 (h.inn _ (getD_in hk)) (h.sub (zH _ _)) (TT h hk)) fun y2 k2=>bE (fun c=>absurd k2.2 c) fun _=>bF (by rw [ng];omega) (bF (by rw [wE,List.length_take];omega) (aj ⟨hk,rfl,?_⟩))
   show _=(Iw rs (k+1),Iy (rs.take (k+1)),[],());rw [kN (d:=0) hk];unfold Iw Iy;rw [List.range_succ,List.map_append,List.map_append,k2.1];rfl
  ·obtain rfl:k=rs.length:=by omega
   show (Iw rs rs.length,Iy (rs.take rs.length),[],())=_;rw [List.take_length]
 ·rw [k1.2]
  exact ak (aqO h) fun y hy=>bE (fun c=>absurd hy c) fun _=>aj rfl
theorem kY.mono {n f n' f':Nat} {o:Ov} (h:kY n f o) (hn:n≤n') (hf:f≤f'):kY n' f' o:=
 ⟨h.s,fun s hs=>(h.si s hs).mono hn,h.l,fun l hl=>(h.li l hl).mono hf,jQ h.fl hf⟩
theorem t32 (t:Tp) (o:Ov) {n f:Nat} (hw:wf t=true) (h:kY n f o) (ho:0<o.1.length) (hn:n≤1000000000) (hf:f≤3000000000):dS (x32 t o) (fun r=>wf r.2=true∧kY (n+32) (2*f+144*(n+1)+4000) r.1∧r.1.1.length=o.1.length):=by
 obtain ⟨a0,a1,⟨⟩⟩:=t;obtain ⟨b0,b1,b2,⟨⟩⟩:=o;have ho:0<b0.length:=ho;have hfl:b2.length≤f:=h.fl;unfold x32 r32;simp only [bK]
 refine ak (fV _ hw) fun y5 k5=>aF k5.2.1 (by have:=k5.2.2;omega) (ak (fV 6 k5.1) fun y6 k6=>ak (P:=fun _=>True) (au (fun _=>aj trivial) fun _=>aj trivial) fun y7 _=>ak (P:=fun y=>wf y.1=true∧kY (n+32) (2*f+144*(n+1)+4000) y.2.1∧(y.2.2.1=0→y.2.1.1.length=b0.length)) ?_ fun y8 k8=>bE (fun _=>aj ⟨k8.1,h.mono (by omega) (by omega),rfl⟩) fun c=>aj ⟨k8.1,k8.2.1,k8.2.2 c⟩)
 refine au (fun _=>ak (t70 _ k6.1) fun y8 k8=>ak (t34 _ _ _ h hn (by omega)) fun y9 k9=>aj ⟨k8.1,k9.1.mono (by omega) (by omega),k9.2⟩) fun _=>ak (P:=fun y=>wf y.2.2.1=true∧kY (n+32) (2*f+144*(n+1)+4000) y.2.1∧(y.1=0→y.2.1.1.length=b0.length)) ?_ fun y8 k8=>aj k8
 refine au (fun _=>ak (t70 _ k6.1) fun y8 k8=>ak (t71 _ _ _ h hn (by omega)) fun y9 k9=>aj ⟨k8.1,k9.1.mono (by omega) (by omega),k9.2⟩) fun _=>ak (P:=fun y=>wf y.1=true∧kY (n+32) (2*f+144*(n+1)+4000) y.2.1∧(y.2.2.1=0→y.2.1.1.length=b0.length)) ?_ fun y8 k8=>aj k8
 refine au (fun _=>ak (t72 _ _ k6.1 ?_) fun y8 k8=>ak (t35 _ _ h hn hf k8.2) fun y9 k9=>aj ⟨k8.1,k9.1.mono (by omega) (by omega),k9.2⟩) fun _=>ak (t36 _ _ k6.1) fun y8 k8=>ak (t35 _ _ h hn hf (by have:=k8.2;omega)) fun y9 k9=>aj ⟨k8.1,k9.1.mono (by omega) (by omega),k9.2⟩
 by_cases e:(40:Int)<b2.length
 ·rw [fB e];show 0≤(40:Int)∧(40:Int)≤1000;omega
 ·rw [jM e];show 0≤(b2.length:Int)∧(b2.length:Int)≤1000;omega
theorem t26 (t:Tp) (g:To) (hw:wf t=true) (hl:g.1.length≤1000) (hr:∀ r∈g.1,1≤r.1∧r.1≤99):dS (x26 t g) (fun r=>wf r.2=true∧r.1.2.2.1.length≤g.1.length∧∀ e∈r.1.2.2.1,1≤e.1∧e.1≤99):=by
 obtain ⟨a0,a1,⟨⟩⟩:=t;obtain ⟨a2,a3,⟨⟩⟩:=g;have hl:a2.length≤1000:=hl
 have hr:∀ r∈a2,1≤r.1∧r.1≤99:=hr
 unfold x26 r26;simp only [bK,dG]
 refine ak (fV 3 hw) fun y4 k4=>ak (P:=fun y=>wf y.2=true∧y.1.length=a2.length∧y.1.Perm ((List.range a2.length).map fun (i:Nat)=>(i:Int))) (jL (by rw [k4.1,Bool.true_and];exact aZ.mpr ⟨by omega,by omega⟩) (BM k4.1 a2.length)) fun y5 k5=>?_
 obtain ⟨w5,l5,p5⟩:=k5
 have m5:∀ x∈y5.1,0≤x∧x<(a2.length:Int):=by
  intro x hx;obtain ⟨i,hi,rfl⟩:=List.mem_map.mp (p5.mem_iff.mp hx);have:=List.mem_range.mp hi;omega
 refine ak (P:=fun y=>wf y.2.1=true∧y.1.2.2.1.length≤a2.length∧∀ e∈y.1.2.2.1,1≤e.1∧e.1≤99) (aJ a2.length (fun s=>s.1) (fun s=>s.2.2.2.2.1=y5.1∧wf s.2.2.2.1=true∧(s.2.1.2.2.1.length:Int)≤s.1∧∀ e∈s.2.1.2.2.1,1≤e.1∧e.1≤99) rfl ⟨rfl,w5,by simp,fun e he=>by cases he⟩ ?_) fun y6 k6=>ak (P:=fun y=>wf y.2.1=true∧y.1.2.2.1.length≤a2.length∧∀ e∈y.1.2.2.1,1≤e.1∧e.1≤99) (au (fun _=>ak (jf [8,8,16,32,64] k6.1 (by rw [k6.1];rfl) (by decide)) fun y7 k7=>aj ⟨k7.1,k6.2⟩) fun _=>aj k6) fun y7 k7=>aj k7
 rintro ⟨i,⟨p0,p1,es,⟨⟩⟩,bit,t,ids,⟨⟩⟩ k hk hle ⟨h1,h2,h3,h4⟩;obtain rfl:i=k:=hk;obtain rfl:ids=y5.1:=h1;have h2:wf t=true:=h2;have h3:(es.length:Int)≤(k:Int):=h3
 have h4:∀ e∈es,1≤e.1∧e.1≤99:=h4
 unfold Rn;simp only [bK,dG];rw [l5]
 refine aB (fun c=>aF (by omega) (by omega) (bL (by omega) (ak (fV 4 h2) fun y3 k3=>au (fun _=>aj ⟨by omega,aG (by omega),rfl,k3.1,?_,h4⟩) fun _=>ak (jf [1,1,1,2,7,9] k3.1 (by rw [k3.1];rfl) (by decide)) fun y4 k4=>?_))) fun c=>aj ⟨h2,by show es.length≤_;omega,h4⟩
 ·show (es.length:Int)≤IntKind.wrap .i64 ((k:Int)+1);rw [aG (by omega)];omega
 ·have hx:=m5 _ (getD_in (d:=0) (show k<y5.1.length by omega))
  have hy:=hr _ (getD_in (d:=(0,(false,()))) (show (y5.1.getD k 0).toNat<a2.length by omega))
  refine aF hx.1 hx.2 (bF (by show (es.length+1)*16≤_;omega) (aj ⟨by omega,aG (by omega),rfl,k4.1,?_,fun e he=>?_⟩))
  ·show ((es++[_]).length:Int)≤IntKind.wrap .i64 ((k:Int)+1)
   rw [aG (by omega),kZ,FL];omega
  ·have he:e∈es++[_]:=he
   rcases List.mem_append.mp he with he | he
   ·exact h4 e he
   ·obtain rfl:=List.mem_singleton.mp he
    exact hy
theorem Iz (l:List Int) (x:Int):∀ y∈pW l x,y=x∨y∈l:=by
 induction l with
 | nil=>intro y hy;exact .inl (List.mem_singleton.mp hy)
 | cons z r ih=>
  intro y hy;rw [pW] at hy
  by_cases h1:z<x
  ·rw [fB h1,aQ] at hy
   rcases List.mem_cons.mp hy with rfl | hy
   ·exact .inr (List.mem_cons_self ..)
   ·exact (ih y hy).imp_right (oH _)
  ·rw [jM h1,bU] at hy
   by_cases h2:z=x
   ·rw [fB h2,aQ] at hy;exact .inr hy
   ·rw [jM h2,bU] at hy
    rcases List.mem_cons.mp hy with rfl | hy
    ·exact .inl rfl
    ·exact .inr hy
theorem TV {l:List Int} (x:Int) (h:l.Pairwise (· < ·)):(pW l x).Pairwise (· < ·):=by
 induction l with
 | nil=>exact List.pairwise_singleton ..
 | cons z r ih=>
  obtain ⟨h1,h2⟩:=List.pairwise_cons.mp h;rw [pW]
  by_cases c1:z<x
  ·rw [fB c1,aQ]
   refine List.pairwise_cons.mpr ⟨fun y hy=>?_,ih h2⟩
   rcases Iz r x y hy with rfl | hy
   ·exact c1
   ·exact h1 y hy
  ·rw [jM c1,bU]
   by_cases c2:z=x
   ·rw [fB c2,aQ];exact h
   ·rw [jM c2,bU]
    refine List.pairwise_cons.mpr ⟨fun y hy=>?_,h⟩
    rcases List.mem_cons.mp hy with rfl | hy
    ·omega
    ·have:=h1 y hy;omega
def fb:Nat→Nat
 | 0=>10
 | k+1=>2*fb k+144*(32*k+1)+4000
def p9 (k:Nat) (o:Ov):Prop:=kY (32*k) (fb k) o
theorem MK:∀ k,k≤15→fb k≤3000000000:=by
 have:∀ k,k<16→fb k≤3000000000:=by decide
 exact fun k h=>this k (by omega)
theorem aag (k:Nat):fb k≤fb (k+1):=by unfold fb;cases k<;>simp only [fb]<;>omega
theorem p9.up {k:Nat} {o:Ov} (h:p9 k o):p9 (k+1) o:=kY.mono h (by omega) (aag k)
theorem akG {k:Nat} {t:Tp} {o:Ov} (hw:wf t=true) (h:p9 k o) (hk:k≤15) (ho:0<o.1.length):dS (x32 t o) (fun r=>wf r.2=true∧p9 (k+1) r.1∧r.1.1.length=o.1.length):=
 t32 (n:=32*k) (f:=fb k) t o hw h ho (by omega) (MK k hk)
theorem akH {k:Nat} {o:Ov} (r:Int) (c:List Wa) (h:p9 k o) (hk:k≤15):dS (x34 o r c) (fun r=>p9 (k+1) r.1.1∧(r.1.2.1=0→r.1.1.1.length=o.1.length)):=
 mF (t34 (n:=32*k) (f:=fb k) o r c h (by omega) (by have:=MK k hk;omega)) fun _ q=>⟨q.1.mono (by omega) (aag k),q.2⟩
theorem akI {k:Nat} {o:Ov} (q:List Fa) (h:p9 k o) (hk:k≤15) (hq:q.length≤1000):dS (x35 o q) (fun r=>p9 (k+1) r.1.1):=
 mF (t35 (n:=32*k) (f:=fb k) o q h (by omega) (MK k hk) hq) fun _ q=>q.1.mono (by omega) (dQ _)
theorem aqP {rs:List Int} (h:Asc rs):p9 0 (Iw rs rs.length,Iy rs,[],()):=by
 have h12:=h.len
 refine ⟨by show (Iw _ _).length≤1000;rw [ng];omega,fun s hs=>?_,by show (Iy _).length≤1000;rw [wE];omega,fun l hl=>?_,fG _⟩
 ·obtain ⟨j,hj,rfl⟩:=List.mem_map.mp hs
  refine ⟨fG _,?_⟩;show ((Kq rs j).map _).length≤1000;have:=(zH rs j).length_le;rw [List.length_map];omega
 ·obtain ⟨j,hj,rfl⟩:=List.mem_map.mp hl
  exact ⟨fG _,fun _ h=>by cases h⟩
def TW (g:To):Prop:=g.1.length≤5∧∀ x∈g.1,1≤x.1∧x.1≤99
theorem t6a (y4:Pn×Tp) (h1:y4.1.2.2.1.length≤5) (h2:∀ e∈y4.1.2.2.1,1≤e.1∧e.1≤99):dS (Loop (@RX y4) ([],(0,()))) (fun y=>Asc y.1∧y.1.length≤5):=by
 refine aJ y4.1.2.2.1.length (fun s=>s.2.1) (fun s:Tp=>(s.1.length:Int)≤s.2.1∧(∀ x∈s.1,1≤x∧x≤99)∧s.1.Pairwise (· < ·)) rfl ⟨Int.le_refl _,(fun x hx=>by cases hx),List.Pairwise.nil⟩ ?_
 rintro ⟨l,i,⟨⟩⟩ k hk hle ⟨i1,i2,i3⟩;obtain rfl:i=k:=hk;have i1:(l.length:Int)≤(k:Int):=i1;unfold RX;simp only [bK,dG]
 refine aB (fun c=>aF (by omega) (by omega) (ak (P:=fun y=>y.1.length≤l.length+1∧(∀ x∈y.1,1≤x∧x≤99)∧y.1.Pairwise (· < ·)) (jL (fB (by omega)) ⟨(BF _ _).2,fun x hx=>?_,TV _ i3⟩) fun y hy=>aj ⟨by omega,aG (by omega),?_,hy.2⟩)) fun c=>aj ⟨⟨by show l.length≤12;omega,i2,i3⟩,by show l.length≤5;omega⟩
 ·rcases Iz _ _ x hx with rfl | hx
  ·exact h2 _ (getD_in (by omega))
  ·exact i2 x hx
 ·show (y.1.length:Int)≤IntKind.wrap .i64 ((k:Int)+1);rw [aG (by omega)];omega
theorem t6b (y6:Int×Tp) (y3:Ms×Tp) (sc:Sc) (h:y3.1.2.1.length≤4):dS (Loop (@RY y6 y3) (0,(sc,(y3.1,())))) (fun y=>y.1=sc∧y.2.1.2.1.length=y3.1.2.1.length):=by
 refine aJ y3.1.2.1.length (fun s=>s.1) (fun s=>s.2.1=sc∧s.2.2.1.2.1.length=y3.1.2.1.length) rfl ⟨rfl,rfl⟩ ?_
 rintro ⟨i,s,⟨b,l,⟨⟩⟩,⟨⟩⟩ k hk hle ⟨i1,i2⟩;obtain rfl:i=k:=hk;have i1:s=sc:=i1;have i2:l.length=y3.1.2.1.length:=i2;unfold RY;simp only [bK,dG,List.length_set]
 refine aB (fun c=>?_) fun c=>aj ⟨i1,i2⟩
 refine aF (by omega) (by omega) (bL (by omega) (aF (by omega) (by omega) (bL (by omega) (aF (by omega) (by omega) (bL (by omega) (aF (by omega) (by omega) (bL (by omega) (aj ⟨by omega,aG (by omega),i1,?_⟩))))))))
 show (List.set _ _ _).length=_;simp only [List.length_set];exact i2
def Cn (n:Nat) (s:Sc):Prop:=TW (s.1,s.2.1,())∧(s.2.2.2.2.1.length≤5∧∀ e∈s.2.2.2.2.1,1≤e.1∧e.1≤99)∧s.2.2.2.2.2.1.length≤n∧∀ x∈s.2.2.2.2.2.1,x.2.1.2.1.length≤4
theorem t6c (l:List Int) (y6:Int×Tp) (sc:Sc) (h5:l.length≤5) (hw:wf y6.2=true) (h:Cn 0 sc):dS (Loop (@RZ (l,()) y6) (0,(sc,(y6.2,())))) (fun y=>wf y.2.1=true∧Cn 5 y.1):=by
 refine aJ l.length (fun s=>s.1) (fun s=>wf s.2.2.1=true∧Cn s.1.toNat s.2.1) rfl ⟨hw,h⟩ ?_
 rintro ⟨i,sc,t,⟨⟩⟩ k hk hle ⟨i1,i2⟩;obtain rfl:i=k:=hk;have i1:wf t=true:=i1;have i2:Cn k sc:=i2;unfold RZ;simp only [bK,dG]
 refine aB (fun c=>aF (by omega) (by omega) (ak (t29 t i1) fun y3 k3=>ak (t6b y6 y3 sc k3.2) fun y4 k4=>?_)) fun c=>aj ⟨i1,i2.1,i2.2.1,by have:=i2.2.2.1;show sc.2.2.2.2.2.1.length≤5;omega,i2.2.2.2⟩
 obtain ⟨s4,m4,⟨⟩⟩:=y4;obtain rfl:s4=sc:=k4.1;have k4:m4.2.1.length=y3.1.2.1.length:=k4.2;have hs:=i2.2.2.1
 refine bF (by show (s4.2.2.2.2.2.1.length+1)*40≤_;omega) (aj ⟨by omega,aG (by omega),k3.1,i2.1,i2.2.1,?_,fun x hx=>?_⟩)
 ·show (s4.2.2.2.2.2.1++[_]).length≤(IntKind.wrap .i64 ((k:Int)+1)).toNat
  rw [aG (by omega),kZ,FL];omega
 ·have hx:x∈s4.2.2.2.2.2.1++[_]:=hx
  rcases List.mem_append.mp hx with hx | hx
  ·exact i2.2.2.2 x hx
  ·obtain rfl:=List.mem_singleton.mp hx
   show m4.2.1.length≤4;have:=k3.2;omega
theorem t6d (l:List Int) (t:Tp) (c:Int) (sc:Sc) (hw:wf t=true) (hc:0≤c∧c≤3) (h:Cn 5 sc) (ho:p9 0 sc.2.2.2.2.2.2) (hl:sc.2.2.2.2.2.2.1.length=l.length):dS (Loop (@R5 (l,())) (c,(sc,(t,())))) (fun y=>wf y.2.1=true∧Cn 5 y.1∧p9 3 y.1.2.2.2.2.2.2):=by
 refine iM (fun s=>wf s.2.2.1=true∧Cn 5 s.2.1∧s.2.1.2.2.2.2.2.2.1.length=l.length∧0≤s.1∧s.1≤3∧p9 (3 - s.1).toNat s.2.1.2.2.2.2.2.2) (fun s=>s.1.toNat) ⟨hw,h,hl,hc.1,hc.2,?_⟩ ?_
 ·have key:∀ n o,p9 0 o→p9 n o:=fun n=>by
   induction n with
   | zero=>exact fun _ h=>h
   | succ n ih=>exact fun o h=>(ih o h).up
  exact key _ _ ho
 rintro ⟨c,sc,t,⟨⟩⟩ ⟨i1,i2,i3,i4,i5,i6⟩;have i1:wf t=true:=i1;have i2:Cn 5 sc:=i2;have i3:sc.2.2.2.2.2.2.1.length=l.length:=i3;have i4:0≤c:=i4;have i5:c≤3:=i5;have i6:p9 (3 - c).toNat sc.2.2.2.2.2.2:=i6;unfold R5;simp only [bK,dG]
 have ek:IntKind.wrap .i64 (c - 1)=c - 1:=by rw [bW];omega
 refine aB (fun c1=>ak (P:=fun y=>wf y.2.1=true∧Cn 5 y.1∧y.1.2.2.2.2.2.2.1.length=l.length∧p9 ((3 - c).toNat+1) y.1.2.2.2.2.2.2) (aB (fun c2=>ak (akG i1 i6 (by omega) (by omega)) fun y2 k2=>aj ⟨k2.1,i2,k2.2.2.trans i3,k2.2.1⟩) fun _=>aj ⟨i1,i2,i3,i6.up⟩) fun y2 k2=>aj ⟨?_,?_⟩) fun c1=>aj ⟨i1,i2,?_⟩
 ·refine ⟨k2.1,k2.2.1,k2.2.2.1,?_,?_,?_⟩
  ·show 0≤IntKind.wrap .i64 (c - 1);omega
  ·show IntKind.wrap .i64 (c - 1)≤3;omega
  ·show p9 (3 - IntKind.wrap .i64 (c - 1)).toNat _
   rw [ek,show (3 - (c - 1)).toNat=(3 - c).toNat+1 from by omega]
   exact k2.2.2.2
 ·show (IntKind.wrap .i64 (c - 1)).toNat<c.toNat;omega
 ·obtain rfl:c=0:=by omega
  exact i6
theorem t6e (mq:Sc×Tp×Unit) (sc:Sc) (hs:mq.1.2.2.2.2.2.1.length≤5) (hw:wf mq.2.1=true) (h:Cn 5 sc) (ho:p9 3 sc.2.2.2.2.2.2):dS (Loop (@R6 mq) (mq.2.1,(sc,(0,())))) (fun y=>wf y.1=true∧Cn 5 y.2.1∧p9 8 y.2.1.2.2.2.2.2.2):=by
 refine aJ mq.1.2.2.2.2.2.1.length (fun s=>s.2.2.1) (fun s=>wf s.1=true∧Cn 5 s.2.1∧p9 (3+s.2.2.1.toNat) s.2.1.2.2.2.2.2.2) rfl ⟨hw,h,ho⟩ ?_
 rintro ⟨t,sc,i,⟨⟩⟩ k hk hle ⟨i1,i2,i3⟩;obtain rfl:i=k:=hk;have i1:wf t=true:=i1;have i2:Cn 5 sc:=i2;have i3:p9 (3+k) sc.2.2.2.2.2.2:=i3;unfold R6;simp only [bK,dG]
 refine aB (fun c=>aF (by omega) (by omega) (ak (t33 _) fun y2 k2=>ak (P:=fun y=>wf y.1=true) (au (fun _=>ak (fV 6 i1) fun y3 k3=>aj k3.1) fun _=>aj i1) fun y3 k3=>ak (P:=fun y=>Cn 5 y.1∧p9 (3+k+1) y.1.2.2.2.2.2.2) (au (fun _=>ak (akH _ _ i3 (by omega)) fun y4 k4=>ak (P:=fun y=>Cn 5 y.1∧p9 (3+k+1) y.1.2.2.2.2.2.2) (au (fun _=>aj ⟨i2,k4.1⟩) fun _=>aj ⟨i2,i3.up⟩) fun y5 k5=>aj k5) fun _=>aj ⟨i2,i3.up⟩) fun y4 k4=>aj ⟨by omega,aG (by omega),k3,k4.1,?_⟩)) fun c=>aj ⟨i1,i2,?_⟩
 ·show p9 (3+(IntKind.wrap .i64 ((k:Int)+1)).toNat) _
  rw [aG (by omega)]
  exact k4.2
 ·have key:∀ n m o,p9 m o→p9 (m+n) o:=fun n=>by
   induction n with
   | zero=>exact fun _ _ h=>h
   | succ n ih=>exact fun m o h=>(ih m o h).up
  have:=key (5 - k) _ _ i3
  rw [show 3+k+(5 - k)=8 from by omega] at this
  exact this
theorem t6f (t:Tp) (c:Int) (sc:Sc) (hw:wf t=true) (hc:0≤c∧c≤3) (h:Cn 5 sc) (ho:p9 8 sc.2.2.2.2.2.2):dS (Loop R7 (c,(sc,(t,())))) (fun y=>wf y.2.1=true∧Cn 5 y.1∧p9 11 y.1.2.2.2.2.2.2):=by
 refine iM (fun s=>wf s.2.2.1=true∧Cn 5 s.2.1∧0≤s.1∧s.1≤3∧p9 (11 - s.1).toNat s.2.1.2.2.2.2.2.2) (fun s=>s.1.toNat) ⟨hw,h,hc.1,hc.2,?_⟩ ?_
 ·have key:∀ n m o,p9 m o→p9 (m+n) o:=fun n=>by
   induction n with
   | zero=>exact fun _ _ h=>h
   | succ n ih=>exact fun m o h=>(ih m o h).up
  have:=key (3 - c).toNat _ _ ho
  rw [show 8+(3 - c).toNat=(11 - c).toNat from by omega] at this
  exact this
 rintro ⟨c,sc,t,⟨⟩⟩ ⟨i1,i2,i4,i5,i6⟩;have i1:wf t=true:=i1;have i2:Cn 5 sc:=i2;have i4:0≤c:=i4;have i5:c≤3:=i5;have i6:p9 (11 - c).toNat sc.2.2.2.2.2.2:=i6;unfold R7;simp only [bK,dG]
 have ek:IntKind.wrap .i64 (c - 1)=c - 1:=by rw [bW];omega
 refine aB (fun c1=>ak (t36 _ _ i1) fun y1 k1=>ak (akI _ i6 (by omega) (by have:=k1.2;omega)) fun y2 k2=>aj ⟨⟨k1.1,i2,?_,?_,?_⟩,?_⟩) fun c1=>aj ⟨i1,i2,?_⟩
 ·show 0≤IntKind.wrap .i64 (c - 1);omega
 ·show IntKind.wrap .i64 (c - 1)≤3;omega
 ·show p9 (11 - IntKind.wrap .i64 (c - 1)).toNat _
  rw [ek,show (11 - (c - 1)).toNat=(11 - c).toNat+1 from by omega]
  exact k2
 ·show (IntKind.wrap .i64 (c - 1)).toNat<c.toNat;omega
 ·obtain rfl:c=0:=by omega
  exact i6
theorem t6 (H25:∀ t,wf t=true→dS (x25 t 5) (fun r=>wf r.2=true∧TW r.1)) (t:Tp) (hw:wf t=true):dS (x6 t 5) (fun r=>wf r.2=true∧Cn 5 r.1∧p9 11 r.1.2.2.2.2.2.2):=by
 obtain ⟨a0,a1,⟨⟩⟩:=t;unfold x6 r6
 refine ak (H25 _ hw) fun y3 k3=>ak (t26 _ _ k3.1 (by have:=k3.2.1;omega) k3.2.2) fun y4 k4=>?_
 have e5:y4.1.2.2.1.length≤5:=by have:=k3.2.1;have:=k4.2.1;omega
 refine ak (t6a y4 e5 k4.2.2) fun y5 k5=>ak (jf [0,100] k4.1 (by rw [k4.1];rfl) (by decide)) fun y6 k6=>?_
 obtain ⟨l,⟨⟩⟩:=y5;obtain ⟨ka,k5⟩:=k5;have k5:l.length≤5:=k5
 refine ak (t6c l y6 _ k5 k6.1 ⟨k3.2,⟨e5,k4.2.2⟩,dQ _,fun x hx=>by cases hx⟩) fun y7 k7=>ak (t30 ka) fun y8 k8=>ak (fV 4 k7.1) fun y9 k9=>ak (t6d l y9.2 y9.1 _ k9.1 ⟨k9.2.1,by have:=k9.2.2;omega⟩ k7.2 ?_ ?_) fun mq k10=>ak (t6e mq mq.1 k10.2.1.2.2.1 k10.1 k10.2.1 k10.2.2) fun jP k11=>ak (fV 4 k11.1) fun pX k12=>ak (t6f pX.2 pX.1 jP.2.1 k12.1 ⟨k12.2.1,by have:=k12.2.2;omega⟩ k11.2.1 k11.2.2) fun y13 k13=>aj k13
 ·show p9 0 y8.1.1
  rw [k8];exact aqP ka
 ·show y8.1.1.1.length=l.length
  rw [k8];exact ng _ _
end Go.gI.qJ