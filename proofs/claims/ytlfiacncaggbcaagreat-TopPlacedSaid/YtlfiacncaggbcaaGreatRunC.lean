/- The top statements: proved is that functions that the law reaches keep their contracts (the solver's regions); no conditions but those that each theorem states. -/
import Derived.Test.YtlfiacncaggbcaaGreatRunB
import Derived.Great.Frames
import Derived.Great.BuildSlice
set_option linter.unusedVariables false
set_option linter.unusedSimpArgs false
set_option maxHeartbeats 16000000
set_option maxRecDepth 1000000
namespace Go.dw.rO
open Go Go.Proofs Go.RowKit aA
def nA (id:Nat):Code→Option Code
 | .region i o d=>if i=id then some (.region i o d) else none
 | .loop c=>nA id c
 | .seq a b=>(nA id a).orElse fun _=>nA id b
 | .block _ c=>nA id c
 | .scope c=>nA id c
 | .cond _ a b=>(nA id a).orElse fun _=>nA id b
 | _=>none
noncomputable def apQ (k:Nat):Code:=(nA k (Tryz.f55.body.getD .skip)).getD .skip
theorem rX {w w':World} {X:Nat→Prop} {base:Nat} {t:TypeId} {size n:Nat} {v:Value} {xs:List Value} (h:w.ownsRow base t size v n xs) (K:aC w w' X) (hX:∀ g,v.ownBlock=some g→¬ X g):w'.ownsRow base t size v n xs:=by
 refine ⟨h.1,?_⟩
 rcases h.2 with h | ⟨g,cap,cur,rfl,e2,e3,e4⟩
 ·exact .inl h
 ·exact .inr ⟨g,cap,cur,rfl,e2,(K.block g (lt_of_block e3) (hX g rfl)).trans e3,e4⟩
theorem dO {w:World} {base:Nat} {t:TypeId} {size n:Nat} {v:Value} {xs:List Value} (h:w.ownsRow base t size v n xs) {g:Nat} (hg:v.ownBlock=some g):base≤g∧g<w.heap.size∧∃ cur,w.heap[g]? = some (.cells cur t (0,0)):=by
 rcases h.2 with ⟨rfl,_⟩ | ⟨g',cap,cur,rfl,e2,e3,e4⟩
 ·simp [Value.ownBlock] at hg
 ·simp only [Value.ownBlock,bn] at hg
  subst hg;exact ⟨e2,lt_of_block e3,cur,e3⟩
structure Ch (w W:World) (base n:Nat) (t:TypeId) (v:Value) (xs:List Value) (i m b:Nat) (v':Value):Prop where
 row:i<3→W.ownsRow base t 1 v n xs
 a1:1≤i→w.heap.size≤m∧W.heap[m]? = some (.map #[] 0)
 a2:i=2→w.heap.size≤b∧W.heap[b]? = some (.cells #[.map (some m)] t (0,0))
 a3:i=3→W.ownsRow base t 1 v' (n+1) (xs++[.map (some m)])∧∀ g,v'.ownBlock=some g→v.ownBlock=some g∨w.heap.size≤g
theorem Ch.yc {w W W':World} {base n:Nat} {t:TypeId} {v:Value} {xs:List Value} {i m b:Nat} {v':Value} {X:Nat→Prop} (h:Ch w W base n t v xs i m b v') (K:aC W W' X)
 (x0:∀ g,i<3→v.ownBlock=some g→¬ X g) (x1:1≤i→¬ X m) (x2:i=2→¬ X b) (x3:∀ g,i=3→v'.ownBlock=some g→¬ X g):Ch w W' base n t v xs i m b v':=
 ⟨fun hi=>rX (h.row hi) K fun g hg=>x0 g hi hg,fun hi=>⟨(h.a1 hi).1,(K.block _ (lt_of_block (h.a1 hi).2) (x1 hi)).trans (h.a1 hi).2⟩,fun hi=>⟨(h.a2 hi).1,(K.block _ (lt_of_block (h.a2 hi).2) (x2 hi)).trans (h.a2 hi).2⟩,
  fun hi=>⟨rX (h.a3 hi).1 K fun g hg=>x3 g hi hg,(h.a3 hi).2⟩⟩
theorem Ch.alloc {w W:World} {base n:Nat} {t:TypeId} {v:Value} {xs:List Value} {i m b:Nat} {v':Value} (h:Ch w W base n t v xs i m b v') (o:Obj):Ch w (W.alloc o) base n t v xs i m b v':=
 h.yc (aC.of_below ((Below.refl _ _).alloc (bT _) o) fun _=>False) (fun _ _ _ h=>h) (fun _ h=>h) (fun _ h=>h) (fun _ _ _ h=>h)
theorem Ch.made {w W:World} {base n:Nat} {t:TypeId} {v:Value} {xs:List Value} {m b:Nat} {v':Value} (h:Ch w W base n t v xs 0 m b v') (hw:w.heap.size≤W.heap.size):Ch w (W.alloc (.map #[] 0)) base n t v xs 1 W.heap.size b v':=
 ⟨fun _=>(h.alloc _).row (by decide),fun _=>⟨hw,heap_alloc_new _ _⟩,fun h=>absurd h (by decide),fun h=>absurd h (by decide)⟩
theorem Ch.built {w W:World} {base n:Nat} {t:TypeId} {v:Value} {xs:List Value} {m b:Nat} {v':Value} (h:Ch w W base n t v xs 1 m b v') (hw:w.heap.size≤W.heap.size):Ch w (W.alloc (.cells #[.map (some m)] t)) base n t v xs 2 m W.heap.size v':=
 ⟨fun _=>(h.alloc _).row (by decide),fun _=>(h.alloc _).a1 (by decide),fun _=>⟨hw,heap_alloc_new _ _⟩,fun h=>absurd h (by decide)⟩
theorem mH {w w':World} {row:Option Nat} (h:w.grownBy w' row):aC w w' (fun b=>row=some b):=⟨h.os,h.tape,h.output,h.size,fun b hb hX=>h.block b hb fun hh=>hX hh.symm⟩
theorem Ch.appended {w W W':World} {base n:Nat} {t:TypeId} {v:Value} {xs:List Value} {m b:Nat} {v0 v':Value} (h:Ch w W base n t v xs 2 m b v0) (hw:w.heap.size≤W.heap.size) (hg:W.grownBy W' v.ownBlock)
 (ho:W'.ownsRow base t 1 v' (n+1) (xs++[.map (some m)])) (Mw:v'.ownBlock=v.ownBlock∨v'.ownBlock=some W.heap.size):Ch w W' base n t v xs 3 m b v':=by
 have K:=mH hg
 refine ⟨fun h=>absurd h (by decide),fun _=>⟨(h.a1 (by decide)).1,(K.block _ (lt_of_block (h.a1 (by decide)).2) ?_).trans (h.a1 (by decide)).2⟩,fun h=>absurd h (by decide),fun _=>⟨ho,fun g Gq=>?_⟩⟩
 ·intro hh
  obtain ⟨_,_,cur,hc⟩:=dO (h.row (by decide)) hh
  rw [(h.a1 (by decide)).2] at hc
  cases hc
 ·rcases Mw with Mw | Mw
  ·exact .inl (Mw.symm.trans Gq)
  ·rw [Mw] at Gq
   cases Gq;exact .inr hw
theorem Ch.other {w W W':World} {base n n2:Nat} {t t2:TypeId} {v v2:Value} {xs DK:List Value} {i m b:Nat} {v':Value} (h:Ch w W base n t v xs i m b v') (hg:W.grownBy W' v2.ownBlock) (h2:W.ownsRow base t2 1 v2 n2 DK)
 (ht:t≠t2) (hold:∀ g,v2.ownBlock=some g→g<w.heap.size):Ch w W' base n t v xs i m b v':=by
 have no:∀ g cur,W.heap[g]? = some (.cells cur t (0,0))→¬ v2.ownBlock=some g:=fun g cur hc hh=>by
  obtain ⟨_,_,apR,zI⟩:=dO h2 hh;rw [hc] at zI;cases zI;exact ht rfl
 refine h.yc (mH hg) (fun g hi hv=>?_) (fun hi hh=>?_) (fun hi=>no _ _ (h.a2 hi).2) (fun g hi hv=>?_)
 ·obtain ⟨_,_,cur,hc⟩:=dO (h.row hi) hv
  exact no _ _ hc
 ·obtain ⟨_,_,apR,zI⟩:=dO h2 hh
  rw [(h.a1 hi).2] at zI;cases zI
 ·obtain ⟨_,_,cur,hc⟩:=dO (h.a3 hi).1 hv
  exact no _ _ hc
theorem afa:(Tryz.prog.info? 169).map (fun i=>(i.zero,i.size,i.bytes))=some (some (.map none),1,8):=by kernel_rfl
theorem afb:(Tryz.prog.info? 222).map (fun i=>(i.zero,i.size,i.bytes))=some (some (.map none),1,8):=by kernel_rfl
theorem wT {w:World} {s:Nat} {v1 v2:Value} (h:w.cell? ⟨s,1,none⟩=some v1∧w.cell? ⟨s,2,none⟩=some v2) (o:Obj):(w.alloc o).cell? ⟨s,1,none⟩=some v1∧(w.alloc o).cell? ⟨s,2,none⟩=some v2:=
 ⟨(World.cell?_alloc_some w _ o (by rw [h.1];rfl)).trans h.1,(World.cell?_alloc_some w _ o (by rw [h.2];rfl)).trans h.2⟩
theorem Kw {w w':World} {s:Nat} {v v1 v2:Value} (h:w.cell? ⟨s,1,none⟩=some v1∧w.cell? ⟨s,2,none⟩=some v2) (hg:w.grownBy w' v.ownBlock) (hs:∀ g,v.ownBlock=some g→g≠s) :
 w'.cell? ⟨s,1,none⟩=some v1∧w'.cell? ⟨s,2,none⟩=some v2:=
 ⟨(mH hg).cell h.1 fun hh=>hs s hh rfl,(mH hg).cell h.2 fun hh=>hs s hh rfl⟩
theorem kept_alloc (w:World) (o:Obj):aC w (w.alloc o) fun _=>False:=aC.of_below ((Below.refl _ _).alloc (bT _) o) _
theorem G6 {w:World} {b:Nat} {u:Value} {t:TypeId} (h:w.heap[b]? = some (.cells #[u] t (0,0))):∀ j x,[u][j]? = some x→w.cell? ((⟨b,0,none⟩:Addr).add j)=some x:=by
 intro j x hj
 match j,hj with
 | 0,hj=>
  simp at hj;subst hj;simp [World.cell?,Addr.add,h]
theorem DL {w:World} {s:Nat} {a b c:Value} {t:TypeId} (h:w.heap[s]? = some (.cells #[a,b,c] t (0,0))):w.cell? ⟨s,1,none⟩=some b∧w.frozen? ⟨s,1,none⟩=false:=⟨by simp [World.cell?,h],by simp [World.frozen?,h]⟩
theorem DN {w:World} {s:Nat} {a b c:Value} {t:TypeId} (h:w.heap[s]? = some (.cells #[a,b,c] t (0,0))):w.cell? ⟨s,2,none⟩=some c∧w.frozen? ⟨s,2,none⟩=false:=⟨by simp [World.cell?,h],by simp [World.frozen?,h]⟩
theorem G7 {w:World} {s:Nat} {a b c:Value} {t:TypeId} (h:w.heap[s]? = some (.cells #[a,b,c] t (0,0))) (u:Value):(w.setCell ⟨s,1,none⟩ u).heap[s]? = some (.cells #[a,u,c] t (0,0)):=by
 have aT:=lt_of_block h
 have h':w.heap[s] = .cells #[a,b,c] t (0,0):=by simpa [Array.getElem?_eq_getElem aT] using h
 show (w.heap.modify s _)[s]? = _
 rw [Array.getElem?_eq_getElem (by simpa using aT),Array.getElem_modify_self,h']
 rfl
theorem SI {w:World} {s:Nat} {a b c:Value} {t:TypeId} (h:w.heap[s]? = some (.cells #[a,b,c] t (0,0))) (u:Value):(w.setCell ⟨s,2,none⟩ u).heap[s]? = some (.cells #[a,b,u] t (0,0)):=by
 have aT:=lt_of_block h
 have h':w.heap[s] = .cells #[a,b,c] t (0,0):=by simpa [Array.getElem?_eq_getElem aT] using h
 show (w.heap.modify s _)[s]? = _
 rw [Array.getElem?_eq_getElem (by simpa using aT),Array.getElem_modify_self,h']
 rfl
theorem PV (w:World) (s j:Nat) (u:Value):aC w (w.setCell ⟨s,j,none⟩ u) fun b=>b=s:=
 ⟨rfl,rfl,rfl,by simp only [World.size_setCell];exact bT _,fun b _ hb=>Below.heap_setCell _ _ _ _ hb⟩
theorem Ky {w W:World} {X:Nat→Prop} (K:aC w W X) (s:Nat) (u u':Value):aC w ((W.setCell ⟨s,1,none⟩ u).setCell ⟨s,2,none⟩ u') fun b=>b=s∨X b:=
 ((aC.mk K.os K.tape K.output K.size fun b hb hX=>K.block b hb fun h=>hX (.inr h):aC w W fun b=>b=s∨X b).trans (PV W s 1 u) fun _ _ h=>.inl h).trans (PV _ s 2 u') fun _ _ h=>.inl h
theorem Ch.sets {w W:World} {base n:Nat} {t:TypeId} {v:Value} {xs:List Value} {m b:Nat} {v':Value} (h:Ch w W base n t v xs 3 m b v') {s:Nat} {a1 a2 a3:Value} (hb:W.heap[s]? = some (.cells #[a1,a2,a3] 221 (0,0)))
 (u u':Value) (ht:t≠221):Ch w ((W.setCell ⟨s,1,none⟩ u).setCell ⟨s,2,none⟩ u') base n t v xs 3 m b v':=by
 refine h.yc (Ky (aC.refl W fun _=>False) s u u') (fun _ h=>absurd h (by decide)) (fun hi=>?_) (fun h=>absurd h (by decide)) (fun g hi hg=>?_)
 ·rintro (rfl | h)
  ·rw [(h.a1 hi).2] at hb
   cases hb
  ·exact h
 ·rintro (rfl | h)
  ·obtain ⟨_,_,cur,hc⟩:=dO (h.a3 hi).1 hg
   rw [hb] at hc;cases hc;exact ht rfl
  ·exact h
theorem Vj (m:Nat):∀ u∈[Value.map (some m)],u.oneCell' = true:=by
 intro u hu;simp only [List.mem_singleton] at hu;subst hu;rfl
theorem Ba {P:Program} {o:Oper} {a:Act} {w w':World} {K:Act→World→Prop} {Q:Exit→Act→World→Prop} {v v':Value} {p:Option Addr} {m c:Nat} (s x:Operand) (t:TypeId)
 (ho:o.op = .call { callee:=.builtin .append,args:=#[s,x],argTypes:=#[t,t] }) (hs:a.eval s=v) (hx:a.eval x = .slice p m c) (hr:(Builtin.append_ #[t,t] o.type #[v,.slice p m c]).run P w = .ok v' w')
 (h:K (a.put o.dst v') w'):Oper.wp P o a w K Q:=by
 unfold Oper.wp execOp;simp only [ho,resolve,invoke,builtin,Sem.run_bind,Sem.run_pure,Result.andThen_ok,List.map_toArray,jy,List.map_nil,hs,hx,hr];exact h
abbrev Kz (n:Nat):Edge:={ on:=n,ground:=.data }
abbrev iU (n:Nat):Edge:={ on:=n,ground:=.phase }
abbrev aj2:Oper:={ dst:=some 32,op:=Op.move (Operand.tmp 10),type:=217,pos:="arbor.go:81",after:=#[],guard:=none }
abbrev aj3:Oper:={ dst:=some 33,op:=Op.move (Operand.tmp 10),type:=217,pos:="arbor.go:81",after:=#[{ on:=18,ground:=Ground.gcOnly Departure.lateStores }],guard:=none }
abbrev aj4:Oper:={ dst:=some 34,op:=Op.move (Operand.tmp 10),type:=217,pos:="arbor.go:81",after:=#[],guard:=none }
abbrev aj5:Oper:={ dst:=some 35,op:=Op.nilCheck (Operand.tmp 34),type:=0,pos:="arbor.go:81",after:=#[Kz 2],guard:=none }
abbrev aj6:Oper:={ dst:=some 36,op:=Op.fieldAddr 221 (Operand.tmp 35) 1,type:=0,pos:="arbor.go:81",after:=#[Kz 3],guard:=none }
abbrev aj7:Oper:={ dst:=some 37,op:=Op.load 218 (Operand.tmp 36),type:=218,pos:="arbor.go:81",after:=#[Kz 4],guard:=none }
abbrev apS:Oper:={ dst:=some 38,op:=Op.makeMap 169 none,type:=169,pos:="arbor.go:81",after:=#[],guard:=none }
abbrev apT:Oper:={ dst:=some 39,op:=Op.buildSlice 218 1 #[(0,Operand.tmp 38)],type:=218,pos:="arbor.go:81",after:=#[Kz 6],guard:=none }
abbrev apU:Oper:={ dst:=some 40,op:=Op.call { callee:=Callee.builtin Builtin.append,args:=#[Operand.tmp 37,Operand.tmp 39],argTypes:=#[218,218] },type:=218,pos:="arbor.go:81",after:=#[Kz 5,Kz 7],guard:=none }
abbrev aj8:Oper:={ dst:=some 41,op:=Op.move (Operand.tmp 10),type:=217,pos:="arbor.go:81",after:=#[],guard:=none }
abbrev abF:Oper:={ dst:=some 42,op:=Op.nilCheck (Operand.tmp 41),type:=0,pos:="arbor.go:81",after:=#[Kz 9],guard:=none }
abbrev abG:Oper:={ dst:=some 43,op:=Op.fieldAddr 221 (Operand.tmp 42) 2,type:=0,pos:="arbor.go:81",after:=#[Kz 10],guard:=none }
abbrev abH:Oper:={ dst:=some 44,op:=Op.load 219 (Operand.tmp 43),type:=219,pos:="arbor.go:81",after:=#[Kz 11],guard:=none }
abbrev agQ:Oper:={ dst:=some 45,op:=Op.makeMap 222 none,type:=222,pos:="arbor.go:81",after:=#[],guard:=none }
abbrev agR:Oper:={ dst:=some 46,op:=Op.buildSlice 219 1 #[(0,Operand.tmp 45)],type:=219,pos:="arbor.go:81",after:=#[Kz 13],guard:=none }
abbrev agS:Oper:={ dst:=some 47,op:=Op.call { callee:=Callee.builtin Builtin.append,args:=#[Operand.tmp 44,Operand.tmp 46],argTypes:=#[219,219] },type:=219,pos:="arbor.go:81",after:=#[Kz 12,Kz 14,{ on:=8,ground:=Ground.chain }],guard:=none }
abbrev abI:Oper:={ dst:=some 48,op:=Op.nilCheck (Operand.tmp 32),type:=0,pos:="arbor.go:81",after:=#[Kz 0,iU 0,{ on:=1,ground:=Ground.textOnly Departure.lateStores },iU 2,iU 3,iU 4,iU 5,iU 6,iU 7,iU 8,{ on:=9,ground:=Ground.textOnly Departure.lateStores },{ on:=10,ground:=Ground.textOnly Departure.lateStoresUnsure },{ on:=11,ground:=Ground.textOnly Departure.lateStoresUnsure },iU 12,{ on:=13,ground:=Ground.textOnly Departure.lateStoresUnsure },{ on:=14,ground:=Ground.textOnly Departure.lateStoresUnsure },iU 15],guard:=none }
abbrev abJ:Oper:={ dst:=some 49,op:=Op.fieldAddr 221 (Operand.tmp 48) 1,type:=0,pos:="arbor.go:81",after:=#[Kz 16,iU 0,{ on:=1,ground:=Ground.textOnly Departure.lateStores },iU 2,iU 3,iU 4,iU 5,iU 6,iU 7,iU 8,{ on:=9,ground:=Ground.textOnly Departure.lateStores },{ on:=10,ground:=Ground.textOnly Departure.lateStoresUnsure },{ on:=11,ground:=Ground.textOnly Departure.lateStoresUnsure },iU 12,{ on:=13,ground:=Ground.textOnly Departure.lateStoresUnsure },{ on:=14,ground:=Ground.textOnly Departure.lateStoresUnsure },iU 15],guard:=none }
abbrev abK:Oper:={ dst:=none,op:=Op.store 218 (Operand.tmp 49) (Operand.tmp 40),type:=0,pos:="arbor.go:81",after:=#[Kz 17,Kz 8,{ on:=15,ground:=Ground.chain },iU 0,{ on:=1,ground:=Ground.textOnly Departure.lateStores },iU 2,iU 3,iU 4,iU 5,iU 6,iU 7,iU 8,{ on:=9,ground:=Ground.textOnly Departure.lateStores },{ on:=10,ground:=Ground.textOnly Departure.lateStoresUnsure },{ on:=11,ground:=Ground.textOnly Departure.lateStoresUnsure },iU 12,{ on:=13,ground:=Ground.textOnly Departure.lateStoresUnsure },{ on:=14,ground:=Ground.textOnly Departure.lateStoresUnsure },iU 15],guard:=none }
abbrev abL:Oper:={ dst:=some 50,op:=Op.nilCheck (Operand.tmp 33),type:=0,pos:="arbor.go:81",after:=#[Kz 1,iU 0,iU 1,iU 2,iU 3,iU 4,iU 5,iU 6,iU 7,iU 8,iU 9,iU 10,iU 11,iU 12,iU 13,iU 14,iU 15,iU 16,iU 17,iU 18],guard:=none }
abbrev abM:Oper:={ dst:=some 51,op:=Op.fieldAddr 221 (Operand.tmp 50) 2,type:=0,pos:="arbor.go:81",after:=#[Kz 19,iU 0,iU 1,iU 2,iU 3,iU 4,iU 5,iU 6,iU 7,iU 8,iU 9,iU 10,iU 11,iU 12,iU 13,iU 14,iU 15,iU 16,iU 17,iU 18],guard:=none }
abbrev abN:Oper:={ dst:=none,op:=Op.store 219 (Operand.tmp 51) (Operand.tmp 47),type:=0,pos:="arbor.go:81",after:=#[Kz 20,Kz 15,{ on:=18,ground:=Ground.chain },iU 0,iU 1,iU 2,iU 3,iU 4,iU 5,iU 6,iU 7,iU 8,iU 9,iU 10,iU 11,iU 12,iU 13,iU 14,iU 15,iU 16,iU 17,iU 18],guard:=none }
def CG:Array Oper:=#[aj2,aj3,aj4,aj5,aj6,aj7,apS,apT,apU,aj8,abF,abG,abH,agQ,agR,agS,abI,abJ,abK,abL,abM,abN]
def XU (i j:Nat):Array Bool:=#[true,true,true,true,true,true,decide (0<i),decide (1<i),decide (2<i),true,true,true,true,decide (0<j),decide (1<j),decide (2<j),false,false,false,false,false,false]
theorem xQ {P:Program} {o:Oper} {a:Act} {w:World} {K:Act→World→Prop} {Q:Exit→Act→World→Prop} (T:TypeId) (ho:o.op = .makeMap T none)
 (h:K (a.put o.dst (.map (some w.heap.size))) (w.alloc (.map #[] 0))):Oper.wp P o a w K Q:=by
 unfold Oper.wp execOp;simp only [ho,Option.map_none,Sem.run_bind,RowKit.run_makeMap,Result.andThen_ok];exact h
theorem PW {P:Program} {md:Region.Mode} {ops:Array Oper} {Q:Exit→Act→World→Prop} {S:World→Prop} {U:Nat→Bool} {f:Nat} {l l':Array Bool} {a:Act} {w:World} (h:l=l') (H:jE P md ops Q S U f l' a w):jE P md ops Q S U f l a w:=h▸H
def Fr8 (A B:List Value) (a:Act):Prop:=∃ U:List Value,U.length=20∧a=⟨(A++(U++B)).toArray,[]⟩
theorem Fr8.put {A B:List Value} {a:Act} (hA:A.length=32) (h:Fr8 A B a) {k:Nat} (h1:32≤k) (h2:k<52) (v:Value):Fr8 A B (a.put (some k) v):=by
 obtain ⟨U,hU,rfl⟩:=h
 refine ⟨U.set (k - 32) v,by simp [hU],?_⟩
 simp only [Act.put,NA]
 rw [List.set_append_right _ _ (by omega),List.set_append_left _ _ (by omega),hA]
theorem Fr8.lt {A B:List Value} {a:Act} (hA:A.length=32) (h:Fr8 A B a) {k:Nat} (h2:k<52):k<a.tmps.size:=by
 obtain ⟨U,hU,rfl⟩:=h;simp only [List.size_toArray,nP];omega
structure Half (w:World) (base n:Nat) (t:TypeId) (v:Value) (xs:List Value) (q i:Nat) (a:Act) (W:World) (m b:Nat) (v':Value):Prop where
 c:Ch w W base n t v xs i m b v'
 e:a.eval (.tmp q)=v
 f1:1≤i→a.eval (.tmp (q+1)) = .map (some m)
 f2:i=2→a.eval (.tmp (q+2)) = .slice (some ⟨b,0,none⟩) 1 1
 f3:i=3→a.eval (.tmp (q+3))=v'
section
variable {w W:World} {base n:Nat} {t t2:TypeId} {v v2:Value} {xs DK:List Value} {q i:Nat} {a:Act} {m b:Nat} {v':Value}
theorem Half.put (h:Half w base n t v xs q i a W m b v') {d:Nat} (hd:d<q∨q+3<d) (u:Value) {W':World} (c:Ch w W' base n t v xs i m b v'):Half w base n t v xs q i (a.put (some d) u) W' m b v':=
 ⟨c,(Act.eval_put_ne _ _ _ _ (by omega)).trans h.e,fun k=>(Act.eval_put_ne _ _ _ _ (by omega)).trans (h.f1 k),fun k=>(Act.eval_put_ne _ _ _ _ (by omega)).trans (h.f2 k),fun k=>(Act.eval_put_ne _ _ _ _ (by omega)).trans (h.f3 k)⟩
theorem Half.s0 (h:Half w base n t v xs q 0 a W m b v') (hs:q+1<a.tmps.size) (hw:w.heap.size≤W.heap.size):Half w base n t v xs q 1 (a.put (some (q+1)) (.map (some W.heap.size))) (W.alloc (.map #[] 0)) W.heap.size b v':=
 ⟨h.c.made hw,(Act.eval_put_ne _ _ _ _ (by omega)).trans h.e,fun _=>Act.eval_put_same _ _ _ hs,fun k=>absurd k (by decide),fun k=>absurd k (by decide)⟩
theorem Half.s1 (h:Half w base n t v xs q 1 a W m b v') (hs:q+2<a.tmps.size) (hw:w.heap.size≤W.heap.size):Half w base n t v xs q 2 (a.put (some (q+2)) (.slice (some ⟨W.heap.size,0,none⟩) 1 1)) (W.alloc (.cells #[.map (some m)] t)) m W.heap.size v':=
 ⟨h.c.built hw,(Act.eval_put_ne _ _ _ _ (by omega)).trans h.e,fun _=>(Act.eval_put_ne _ _ _ _ (by omega)).trans (h.f1 (by decide)),fun _=>Act.eval_put_same _ _ _ hs,fun k=>absurd k (by decide)⟩
theorem Half.s2 (h:Half w base n t v xs q 2 a W m b v') (hs:q+3<a.tmps.size) (hw:w.heap.size≤W.heap.size) {W':World} {u:Value} (hg:W.grownBy W' v.ownBlock) (ho:W'.ownsRow base t 1 u (n+1) (xs++[.map (some m)]))
 (Mw:u.ownBlock=v.ownBlock∨u.ownBlock=some W.heap.size):Half w base n t v xs q 3 (a.put (some (q+3)) u) W' m b u:=
 ⟨h.c.appended hw hg ho Mw,(Act.eval_put_ne _ _ _ _ (by omega)).trans h.e,fun k=>(Act.eval_put_ne _ _ _ _ (by omega)).trans (h.f1 (by decide)),fun k=>absurd k (by decide),fun _=>Act.eval_put_same _ _ _ hs⟩
end
structure St8 (s:Nat) (w:World) (base n:Nat) (v1 v2:Value) (G9 DK A B:List Value) (i j:Nat) (a:Act) (W:World) (m1 m2 b1 b2:Nat) (w1 w2:Value):Prop where
 h1:Half w base n 169 v1 G9 37 i a W m1 b1 w1
 h2:Half w base n 222 v2 DK 44 j a W m2 b2 w2
 e1:a.eval (.tmp 32) = .pointer (some ⟨s,0,none⟩)
 e2:a.eval (.tmp 33) = .pointer (some ⟨s,0,none⟩)
 ne:1≤i→1≤j→m1≠m2
 k:aC w W (fun b=>v1.ownBlock=some b∨v2.ownBlock=some b)
 fr:Fr8 A B a
def S8 (s:Nat) (v1 v2:Value) (w':World):Prop:=w'.cell? ⟨s,1,none⟩=some v1∧w'.cell? ⟨s,2,none⟩=some v2
section
variable {s:Nat} {w:World} {base n:Nat} {v1 v2:Value} {G9 DK A B:List Value} {Q:Exit→Act→World→Prop}
theorem opA (hA:A.length=32) (hle:base≤w.heap.size) (hn:n≤64) (h1s:∀ g,v1.ownBlock=some g→g≠s) (hold:∀ g,v1.ownBlock=some g→g<w.heap.size) {i j:Nat} {a:Act} {W:World} {m1 m2 b1 b2:Nat} {w1 w2:Value}
 (S:St8 s w base n v1 v2 G9 DK A B i j a W m1 m2 b1 b2 w1 w2) (hi:i<3) {K:Act→World→Prop}
 (hK:∀ a' W' m1' b1' w1',St8 s w base n v1 v2 G9 DK A B (i+1) j a' W' m1' m2 b1' b2 w1' w2→(S8 s v1 v2 W→S8 s v1 v2 W')→K a' W') :
 ∃ o,CG[6+i]? = some o∧o.guard=none∧Oper.wp Tryz.prog o a W K Q:=by
 obtain ⟨i0,hi0,Lr,Iu,Wq⟩:=info_parts afa
 have lt:∀ {k},k<52→k<a.tmps.size:=S.fr.lt hA
 have kk:=S.k.trans (kept_alloc W (.map #[] 0)) fun _ _ h=>h.elim
 match i,hi,S,hK with
 | 0,_,S,hK=>
  refine ⟨apS,rfl,rfl,xQ 169 rfl (hK _ _ _ _ _ ⟨S.h1.s0 (lt (by decide)) S.k.size,S.h2.put (.inl (by decide)) _ (S.h2.c.alloc _),(Act.eval_put_ne _ _ _ _ (by decide)).trans S.e1,(Act.eval_put_ne _ _ _ _ (by decide)).trans S.e2,
   fun _ hj=>Nat.ne_of_gt (lt_of_block (S.h2.c.a1 hj).2),kk,S.fr.put hA (by decide) (by decide) _⟩ fun h=>wT h _)⟩
 | 1,_,S,hK=>
  refine ⟨apT,rfl,rfl,wp_buildSlice 218 169 1 _ rfl #[.map (some m1)] i0 _ Tryz.underlying218 hi0 Lr (by rw [Iu];decide) (by rw [Iu];decide) ?_ (hK _ _ _ _ _ ⟨S.h1.s1 (lt (by decide)) S.k.size,S.h2.put (.inl (by decide)) _ (S.h2.c.alloc _),(Act.eval_put_ne _ _ _ _ (by decide)).trans S.e1,(Act.eval_put_ne _ _ _ _ (by decide)).trans S.e2,
   fun _=>S.ne (by decide),S.k.trans (kept_alloc W _) fun _ _ h=>h.elim,S.fr.put hA (by decide) (by decide) _⟩ fun h=>wT h _)⟩
  have e:a.eval (.tmp 38)=_:=S.h1.f1 (by decide)
  rw [Iu];simp [Instr.fill,e,Value.cells];refine Array.ext' ?_;simp [List.range_succ]
 | 2,_,S,hK=>
  obtain ⟨v',W3,bB,fP,jY,_,Mw⟩:=run_append_own_at (P:=Tryz.prog) W base 218 218 169 i0 _ 1 8 Tryz.underlying218 hi0 Lr Iu Wq rfl (by decide) v1 n G9 (S.h1.c.row (by decide)) ⟨_,0,none⟩ 1 1 [.map (some _)] rfl (G6 (S.h1.c.a2 rfl).2) (Vj _) (by unfold maxLen;omega) (by omega) (gX hle S.k.size)
  exact ⟨apU,rfl,rfl,Ba _ _ _ rfl S.h1.e (S.h1.f2 rfl) bB (hK _ _ _ _ _ ⟨S.h1.s2 (lt (by decide)) S.k.size jY fP Mw,S.h2.put (.inl (by decide)) _ (S.h2.c.other jY (S.h1.c.row (by decide)) (by decide) hold),(Act.eval_put_ne _ _ _ _ (by decide)).trans S.e1,(Act.eval_put_ne _ _ _ _ (by decide)).trans S.e2,
   fun _=>S.ne (by decide),S.k.trans (mH jY) fun b _ h=>Or.inl h,S.fr.put hA (by decide) (by decide) _⟩ fun h=>Kw h jY h1s)⟩
theorem opB (hA:A.length=32) (hle:base≤w.heap.size) (hn:n≤64) (h1s:∀ g,v2.ownBlock=some g→g≠s) (hold:∀ g,v2.ownBlock=some g→g<w.heap.size) {i j:Nat} {a:Act} {W:World} {m1 m2 b1 b2:Nat} {w1 w2:Value}
 (S:St8 s w base n v1 v2 G9 DK A B i j a W m1 m2 b1 b2 w1 w2) (hi:j<3) {K:Act→World→Prop}
 (hK:∀ a' W' m2' b2' w2',St8 s w base n v1 v2 G9 DK A B i (j+1) a' W' m1 m2' b1 b2' w1 w2'→(S8 s v1 v2 W→S8 s v1 v2 W')→K a' W') :
 ∃ o,CG[13+j]? = some o∧o.guard=none∧Oper.wp Tryz.prog o a W K Q:=by
 obtain ⟨i0,hi0,Lr,Iu,Wq⟩:=info_parts afb
 have lt:∀ {k},k<52→k<a.tmps.size:=S.fr.lt hA
 have kk:=S.k.trans (kept_alloc W (.map #[] 0)) fun _ _ h=>h.elim
 match j,hi,S,hK with
 | 0,_,S,hK=>
  refine ⟨agQ,rfl,rfl,xQ 222 rfl (hK _ _ _ _ _ ⟨S.h1.put (.inr (by decide)) _ (S.h1.c.alloc _),S.h2.s0 (lt (by decide)) S.k.size,(Act.eval_put_ne _ _ _ _ (by decide)).trans S.e1,(Act.eval_put_ne _ _ _ _ (by decide)).trans S.e2,
   fun hj _=>Nat.ne_of_lt (lt_of_block (S.h1.c.a1 hj).2),kk,S.fr.put hA (by decide) (by decide) _⟩ fun h=>wT h _)⟩
 | 1,_,S,hK=>
  refine ⟨agR,rfl,rfl,wp_buildSlice 219 222 1 _ rfl #[.map (some m2)] i0 _ Tryz.underlying219 hi0 Lr (by rw [Iu];decide) (by rw [Iu];decide) ?_ (hK _ _ _ _ _ ⟨S.h1.put (.inr (by decide)) _ (S.h1.c.alloc _),S.h2.s1 (lt (by decide)) S.k.size,(Act.eval_put_ne _ _ _ _ (by decide)).trans S.e1,(Act.eval_put_ne _ _ _ _ (by decide)).trans S.e2,
   fun h _=>S.ne h (by decide),S.k.trans (kept_alloc W _) fun _ _ h=>h.elim,S.fr.put hA (by decide) (by decide) _⟩ fun h=>wT h _)⟩
  have e:a.eval (.tmp 45)=_:=S.h2.f1 (by decide)
  rw [Iu];simp [Instr.fill,e,Value.cells];refine Array.ext' ?_;simp [List.range_succ]
 | 2,_,S,hK=>
  obtain ⟨v',W3,bB,fP,jY,_,Mw⟩:=run_append_own_at (P:=Tryz.prog) W base 219 219 222 i0 _ 1 8 Tryz.underlying219 hi0 Lr Iu Wq rfl (by decide) v2 n DK (S.h2.c.row (by decide)) ⟨_,0,none⟩ 1 1 [.map (some _)] rfl (G6 (S.h2.c.a2 rfl).2) (Vj _) (by unfold maxLen;omega) (by omega) (gX hle S.k.size)
  exact ⟨agS,rfl,rfl,Ba _ _ _ rfl S.h2.e (S.h2.f2 rfl) bB (hK _ _ _ _ _ ⟨S.h1.put (.inr (by decide)) _ (S.h1.c.other jY (S.h2.c.row (by decide)) (by decide) hold),S.h2.s2 (lt (by decide)) S.k.size jY fP Mw,(Act.eval_put_ne _ _ _ _ (by decide)).trans S.e1,(Act.eval_put_ne _ _ _ _ (by decide)).trans S.e2,
   fun h _=>S.ne h (by decide),S.k.trans (mH jY) fun b _ h=>Or.inr h,S.fr.put hA (by decide) (by decide) _⟩ fun h=>Kw h jY h1s)⟩
def G8 (s:Nat) (w:World) (base n:Nat) (v1 v2:Value) (G9 DK A B:List Value) (Q:Exit→Act→World→Prop) (i j:Nat):Prop:=
 ∀ a W m1 m2 b1 b2 w1 w2,St8 s w base n v1 v2 G9 DK A B i j a W m1 m2 b1 b2 w1 w2→jE Tryz.prog .any CG Q (S8 s v1 v2) (fun i=>decide (i<18)) (12 - i - j) (XU i j) a W
theorem CJ {f:Nat} {dx:Array Bool} {S:World→Prop} {U:Nat→Bool} {a:Act} {W:World} (fC:Region.ready .any CG dx≠[])
 (h:∀ k∈Region.ready .any CG dx,∃ o,CG[k]? = some o∧o.guard=none∧Oper.wp Tryz.prog o a W (fun a' w'=>(U k=true→S W→S w')∧jE Tryz.prog .any CG Q S U f (dx.setIfInBounds k true) a' w') Q):jE Tryz.prog .any CG Q S U (f+1) dx a W:=by
 refine ⟨fun h0=>absurd h0 fC,fun k hk=>?_⟩
 obtain ⟨o,h1,h2,h3⟩:=h k hk;unfold wpOp;rw [h1]
 have:Region.wanted o (yielded CG a.tmps)=true:=by unfold Region.wanted;rw [h2]
 simp only [this,if_true];exact .inl h3
theorem G8.all (hA:A.length=32) (hle:base≤w.heap.size) (hn:n≤64) (h1s:∀ g,v1.ownBlock=some g→g≠s) (h2s:∀ g,v2.ownBlock=some g→g≠s) (o1:∀ g,v1.ownBlock=some g→g<w.heap.size) (o2:∀ g,v2.ownBlock=some g→g<w.heap.size)
 (h:G8 s w base n v1 v2 G9 DK A B Q 3 3):G8 s w base n v1 v2 G9 DK A B Q 0 0:=by
 have two:∀ i j,i<3→j<2→Region.ready .any CG (XU i j)=[6+i,13+j]→(XU i j).setIfInBounds (6+i) true=XU (i+1) j→(XU i j).setIfInBounds (13+j) true=XU i (j+1)→12 - i - j=(11 - i - j)+1→12 - (i+1) - j=11 - i - j→12 - i - (j+1)=11 - i - j →
  G8 s w base n v1 v2 G9 DK A B Q (i+1) j→G8 s w base n v1 v2 G9 DK A B Q i (j+1)→G8 s w base n v1 v2 G9 DK A B Q i j:=by
  intro i j hi hj hr l1 l2 f0 f1 f2 g1 g2 a W m1 m2 b1 b2 w1 w2 S;rw [f0]
  refine CJ (by rw [hr];simp) fun k hk=>?_
  rw [hr] at hk
  rcases lC hk with rfl | hk
  ·exact opA hA hle hn h1s o1 S hi fun a' W' m1' b1' w1' S' hS=>⟨fun _=>hS,by rw [l1,←f1];exact g1 _ _ _ _ _ _ _ _ S'⟩
  ·obtain rfl:=List.mem_singleton.1 hk
   exact opB hA hle hn h2s o2 S (by omega) fun a' W' m1' b1' w1' S' hS=>⟨fun _=>hS,by rw [l2,←f2];exact g2 _ _ _ _ _ _ _ _ S'⟩
 have aj9:∀ i,i<3→Region.ready .any CG (XU i 2)=[6+i]→(XU i 2).setIfInBounds (6+i) true=XU (i+1) 2→12 - i - 2=(9 - i)+1→12 - (i+1) - 2=9 - i→G8 s w base n v1 v2 G9 DK A B Q (i+1) 2→G8 s w base n v1 v2 G9 DK A B Q i 2:=by
  intro i hi hr l1 f0 f1 g1 a W m1 m2 b1 b2 w1 w2 S;rw [f0]
  refine CJ (by rw [hr];simp) fun k hk=>?_
  rw [hr] at hk;obtain rfl:=List.mem_singleton.1 hk
  exact opA hA hle hn h1s o1 S hi fun a' W' m1' b1' w1' S' hS=>⟨fun _=>hS,by rw [l1,←f1];exact g1 _ _ _ _ _ _ _ _ S'⟩
 have akb:∀ j,j<3→Region.ready .any CG (XU 3 j)=[13+j]→(XU 3 j).setIfInBounds (13+j) true=XU 3 (j+1)→12 - 3 - j=(8 - j)+1→12 - 3 - (j+1)=8 - j→G8 s w base n v1 v2 G9 DK A B Q 3 (j+1)→G8 s w base n v1 v2 G9 DK A B Q 3 j:=by
  intro j hj hr l1 f0 f1 g1 a W m1 m2 b1 b2 w1 w2 S;rw [f0]
  refine CJ (by rw [hr];simp) fun k hk=>?_
  rw [hr] at hk;obtain rfl:=List.mem_singleton.1 hk
  exact opB hA hle hn h2s o2 S hj fun a' W' m1' b1' w1' S' hS=>⟨fun _=>hS,by rw [l1,←f1];exact g1 _ _ _ _ _ _ _ _ S'⟩
 have g32:=akb 2 (by decide) (by kernel_rfl) (by kernel_rfl) rfl rfl h
 have g31:=akb 1 (by decide) (by kernel_rfl) (by kernel_rfl) rfl rfl g32
 have g30:=akb 0 (by decide) (by kernel_rfl) (by kernel_rfl) rfl rfl g31
 have g22:=aj9 2 (by decide) (by kernel_rfl) (by kernel_rfl) rfl rfl g32
 have g12:=aj9 1 (by decide) (by kernel_rfl) (by kernel_rfl) rfl rfl g22
 have g02:=aj9 0 (by decide) (by kernel_rfl) (by kernel_rfl) rfl rfl g12
 have g21:=two 2 1 (by decide) (by decide) (by kernel_rfl) (by kernel_rfl) (by kernel_rfl) rfl rfl rfl g31 g22
 have g11:=two 1 1 (by decide) (by decide) (by kernel_rfl) (by kernel_rfl) (by kernel_rfl) rfl rfl rfl g21 g12
 have g01:=two 0 1 (by decide) (by decide) (by kernel_rfl) (by kernel_rfl) (by kernel_rfl) rfl rfl rfl g11 g02
 have g20:=two 2 0 (by decide) (by decide) (by kernel_rfl) (by kernel_rfl) (by kernel_rfl) rfl rfl rfl g30 g21
 have g10:=two 1 0 (by decide) (by decide) (by kernel_rfl) (by kernel_rfl) (by kernel_rfl) rfl rfl rfl g20 g11
 exact two 0 0 (by decide) (by decide) (by kernel_rfl) (by kernel_rfl) (by kernel_rfl) rfl rfl rfl g10 g01
end
theorem afd {s base n:Nat} {va v1 v2:Value} {G9 DK:List Value} {w:World} {Q:Exit→Act→World→Prop} {x0 x1 x2 x3 x4 x5 x6 x7 x8 x9 x11 Xq Xr x14 Nn Py SA Kk Km Kl Kr Kt Ku IW SC SE SF YD Px Ms U6 YE YF PE YG YH YI YJ YK YL YM YN YO Pt YP Pv YQ YR YS YT Pw Mj IU Kq U7 U8 U9 IV Mr Va x61 x62 Nr Pz Nt Xt Nu Np Xu Xv Xw Xx Xy Xz XA XB XC Vb Vd Ve Vf XD XE Nq Ko Mq XG Ns XH XI XJ XK XL XM XO XP XQ XR x99 D9 Ea Eb Ec Ed Ee Ef Eh Ei Ej El Em En Eo Ep Er Es vC Et AX AY AZ A8 yP yQ yR yS pF yU yV yX yY nZ pU rU yZ za zf zh zi:Value}
 (hb:w.heap[s]? = some (.cells #[va,v1,v2] 221 (0,0))) (r1:w.ownsRow base 169 1 v1 n G9) (r2:w.ownsRow base 222 1 v2 n DK) (Zl:s<base) (hle:base≤w.heap.size) (hn:n≤64) (hQ:∀ c a d v w,Q (.panic c) (a.put d v) w→Q (.panic c) a w)
 (xP:∀ (u32 u33 u34 u35 u36 u37 u38 u39 u40 u41 u42 u43 u44 u45 u46 u47 u48 u49 u50 u51 v1' v2':Value) (w':World) (m1 m2 b1 b2:Nat),w'.heap[s]? = some (.cells #[va,v1',v2'] 221 (0,0))→Ch w w' base n 169 v1 G9 3 m1 b1 v1'→Ch w w' base n 222 v2 DK 3 m2 b2 v2'→m1≠m2 →
  aC w w' (fun b=>b=s∨v1.ownBlock=some b∨v2.ownBlock=some b)→Q .normal ⟨List.toArray (x0::x1::x2::x3::x4::x5::x6::x7::x8::x9::.pointer (some ⟨s,0,none⟩)::x11::Xq::Xr::x14::Nn::Py::SA::Kk::Km::Kl::Kr::Kt::Ku::IW::SC::SE::SF::YD::Px::Ms::U6::u32::u33::u34::u35::u36::u37::u38::u39::u40::u41::u42::u43::u44::u45::u46::u47::u48::u49::u50::u51::Mj::IU::Kq::U7::U8::U9::IV::Mr::Va::x61::x62::Nr::Pz::Nt::Xt::Nu::Np::Xu::Xv::Xw::Xx::Xy::Xz::XA::XB::XC::Vb::Vd::Ve::Vf::XD::XE::Nq::Ko::Mq::XG::Ns::XH::XI::XJ::XK::XL::XM::XO::XP::XQ::XR::x99::D9::Ea::Eb::Ec::Ed::Ee::Ef::Eh::Ei::Ej::El::Em::En::Eo::Ep::Er::Es::vC::Et::AX::AY::AZ::A8::yP::yQ::yR::yS::pF::yU::yV::yX::yY::nZ::pU::rU::yZ::za::zf::zh::zi::[]),[]⟩ w') :
 Code.wp Tryz.prog (apQ 8) Q ⟨List.toArray (x0::x1::x2::x3::x4::x5::x6::x7::x8::x9::.pointer (some ⟨s,0,none⟩)::x11::Xq::Xr::x14::Nn::Py::SA::Kk::Km::Kl::Kr::Kt::Ku::IW::SC::SE::SF::YD::Px::Ms::U6::YE::YF::PE::YG::YH::YI::YJ::YK::YL::YM::YN::YO::Pt::YP::Pv::YQ::YR::YS::YT::Pw::Mj::IU::Kq::U7::U8::U9::IV::Mr::Va::x61::x62::Nr::Pz::Nt::Xt::Nu::Np::Xu::Xv::Xw::Xx::Xy::Xz::XA::XB::XC::Vb::Vd::Ve::Vf::XD::XE::Nq::Ko::Mq::XG::Ns::XH::XI::XJ::XK::XL::XM::XO::XP::XQ::XR::x99::D9::Ea::Eb::Ec::Ed::Ee::Ef::Eh::Ei::Ej::El::Em::En::Eo::Ep::Er::Es::vC::Et::AX::AY::AZ::A8::yP::yQ::yR::yS::pF::yU::yV::yX::yY::nZ::pU::rU::yZ::za::zf::zh::zi::[]),[]⟩ w:=by
 conv=>arg 2;whnf
 have kW:=lt_of_block hb
 have hS0:S8 s v1 v2 w.drew:=by
  have nH:w.drew.heap[s]? = some (.cells #[va,v1,v2] 221 (0,0)):=hb
  exact ⟨by simp [World.cell?,nH],by simp [World.cell?,nH]⟩
 refine PS (ops:=CG) (U:=fun i=>decide (i<18)) (S:=S8 s v1 v2) (by kernel_rfl) ?_
 show jE _ _ _ _ _ _ 22 (Array.replicate 22 false) _ _
 refine fG (i:=0) (oi:=aj2) (v:=?_) rfl (by kernel_rfl) (by kernel_rfl) (by kernel_rfl) (fun c a w h=>hQ c a _ _ w h) (Or.inl ⟨by rfl,?_⟩) ?_
 rotate_left
 ·intro w;delta aj2;go_simp;try with_reducible rfl
 try simp only [Act.put,NA,K6,K7]
 refine fG (i:=1) (oi:=aj3) (v:=?_) rfl (by kernel_rfl) (by kernel_rfl) (by kernel_rfl) (fun c a w h=>hQ c a _ _ w h) (Or.inl ⟨by rfl,?_⟩) ?_
 rotate_left
 ·intro w;delta aj3;go_simp;try with_reducible rfl
 try simp only [Act.put,NA,K6,K7]
 refine fG (i:=2) (oi:=aj4) (v:=?_) rfl (by kernel_rfl) (by kernel_rfl) (by kernel_rfl) (fun c a w h=>hQ c a _ _ w h) (Or.inl ⟨by rfl,?_⟩) ?_
 rotate_left
 ·intro w;delta aj4;go_simp;try with_reducible rfl
 try simp only [Act.put,NA,K6,K7]
 refine fG (i:=3) (oi:=aj5) (v:=?_) rfl (by kernel_rfl) (by kernel_rfl) (by kernel_rfl) (fun c a w h=>hQ c a _ _ w h) (Or.inl ⟨by rfl,?_⟩) ?_
 rotate_left
 ·intro w;delta aj5;go_simp;try with_reducible rfl
 try simp only [Act.put,NA,K6,K7]
 refine fG (i:=4) (oi:=aj6) (v:=?_) rfl (by kernel_rfl) (by kernel_rfl) (by kernel_rfl) (fun c a w h=>hQ c a _ _ w h) (Or.inl ⟨by rfl,?_⟩) ?_
 rotate_left
 ·intro w;delta aj6;go_simp;try with_reducible rfl
 try simp only [Act.put,NA,K6,K7]
 refine DJ (i:=5) (oi:=aj7) (v:=?_) rfl (by kernel_rfl) (by kernel_rfl) (by kernel_rfl) (by kernel_rfl) (fun c a w h=>hQ c a _ _ w h) (Or.inl ⟨by rfl,?_⟩) hS0 ?_
 rotate_left
 ·intro w hSw;obtain ⟨av5,av6⟩:=hSw;delta aj7;go_simp;try with_reducible rfl
 try simp only [Act.put,NA,K6,K7]
 refine fG (i:=9) (oi:=aj8) (v:=?_) rfl (by kernel_rfl) (by kernel_rfl) (by kernel_rfl) (fun c a w h=>hQ c a _ _ w h) (Or.inl ⟨by rfl,?_⟩) ?_
 rotate_left
 ·intro w;delta aj8;go_simp;try with_reducible rfl
 try simp only [Act.put,NA,K6,K7]
 refine fG (i:=10) (oi:=abF) (v:=?_) rfl (by kernel_rfl) (by kernel_rfl) (by kernel_rfl) (fun c a w h=>hQ c a _ _ w h) (Or.inl ⟨by rfl,?_⟩) ?_
 rotate_left
 ·intro w;delta abF;go_simp;try with_reducible rfl
 try simp only [Act.put,NA,K6,K7]
 refine fG (i:=11) (oi:=abG) (v:=?_) rfl (by kernel_rfl) (by kernel_rfl) (by kernel_rfl) (fun c a w h=>hQ c a _ _ w h) (Or.inl ⟨by rfl,?_⟩) ?_
 rotate_left
 ·intro w;delta abG;go_simp;try with_reducible rfl
 try simp only [Act.put,NA,K6,K7]
 refine DJ (i:=12) (oi:=abH) (v:=?_) rfl (by kernel_rfl) (by kernel_rfl) (by kernel_rfl) (by kernel_rfl) (fun c a w h=>hQ c a _ _ w h) (Or.inl ⟨by rfl,?_⟩) hS0 ?_
 rotate_left
 ·intro w hSw;obtain ⟨av5,av6⟩:=hSw;delta abH;go_simp;try with_reducible rfl
 try simp only [Act.put,NA,K6,K7]
 have h1s:∀ g,v1.ownBlock=some g→g≠s:=fun g hg=>by have:=(dO r1 hg).1;omega
 have h2s:∀ g,v2.ownBlock=some g→g≠s:=fun g hg=>by have:=(dO r2 hg).1;omega
 have g33:G8 s w base n v1 v2 G9 DK [x0,x1,x2,x3,x4,x5,x6,x7,x8,x9,.pointer (some ⟨s,0,none⟩),x11,Xq,Xr,x14,Nn,Py,SA,Kk,Km,Kl,Kr,Kt,Ku,IW,SC,SE,SF,YD,Px,Ms,U6] [Mj,IU,Kq,U7,U8,U9,IV,Mr,Va,x61,x62,Nr,Pz,Nt,Xt,Nu,Np,Xu,Xv,Xw,Xx,Xy,Xz,XA,XB,XC,Vb,Vd,Ve,Vf,XD,XE,Nq,Ko,Mq,XG,Ns,XH,XI,XJ,XK,XL,XM,XO,XP,XQ,XR,x99,D9,Ea,Eb,Ec,Ed,Ee,Ef,Eh,Ei,Ej,El,Em,En,Eo,Ep,Er,Es,vC,Et,AX,AY,AZ,A8,yP,yQ,yR,yS,pF,yU,yV,yX,yY,nZ,pU,rU,yZ,za,zf,zh,zi] Q 3 3:=by
  rintro a W m1 m2 b1 b2 w1 w2 ⟨D1,D2,e1,e2,ne,KW,U,hU,rfl⟩
  match U,hU with
  | [u32,u33,u34,u35,u36,u37,u38,u39,u40,u41,u42,u43,u44,u45,u46,u47,u48,u49,u50,u51],_=>
   have e1:u32 = .pointer (some ⟨s,0,none⟩):=e1;have e2:u33 = .pointer (some ⟨s,0,none⟩):=e2;have e3:u40=w1:=D1.f3 rfl;have e4:u47=w2:=D2.f3 rfl;have C1:=D1.c;have C2:=D2.c;clear D1 D2;subst e1 e2 e3 e4;obtain ⟨p1,c1,rfl⟩:=tJ (C1.a3 rfl).1;obtain ⟨p2,c2,rfl⟩:=tJ (C2.a3 rfl).1
   have PX:=(KW.block s kW (fun hh=>hh.elim (fun h=>h1s s h rfl) (fun h=>h2s s h rfl))).trans hb
   have A:Aside (Ch w W base n 169 v1 G9 3 _ _ (.slice p1 (n+1) c1)∧Ch w W base n 222 v2 DK 3 _ _ (.slice p2 (n+1) c2)∧_≠_∧aC w W (fun b=>v1.ownBlock=some b∨v2.ownBlock=some b)∧W.heap[s]? = some (.cells #[va,v1,v2] 221 (0,0))):=⟨C1,C2,ne (by decide) (by decide),KW,PX⟩
   obtain ⟨g1,f1⟩:=DL PX;have ap1:=G7 PX (.slice p1 (n+1) c1);obtain ⟨g2,f2⟩:=DN ap1;clear C1 C2 ne KW PX ap1;simp only [List.cons_append,List.nil_append];show jE _ _ _ _ _ _ 6 _ _ _
   refine fG (i:=16) (oi:=abI) (v:=?_) rfl (by kernel_rfl) (by kernel_rfl) (by kernel_rfl) (fun c a w h=>hQ c a _ _ w h) (Or.inl ⟨by rfl,?_⟩) ?_
   rotate_left
   ·intro w;delta abI;go_simp;try with_reducible rfl
   try simp only [Act.put,NA,K6,K7]
   refine fG (i:=17) (oi:=abJ) (v:=?_) rfl (by kernel_rfl) (by kernel_rfl) (by kernel_rfl) (fun c a w h=>hQ c a _ _ w h) (Or.inl ⟨by rfl,?_⟩) ?_
   rotate_left
   ·intro w;delta abJ;go_simp;try with_reducible rfl
   try simp only [Act.put,NA,K6,K7]
   refine G5 (i:=18) (o:=abK) (by kernel_rfl) rfl rfl (fun K hK=>?_)
   delta abK
   go_simp
   refine hK.out _ _ (fun h=>absurd h (by decide)) ?_
   clear hK K
   try simp only [Act.put,NA,K6,K7]
   refine fG (i:=19) (oi:=abL) (v:=?_) rfl (by kernel_rfl) (by kernel_rfl) (by kernel_rfl) (fun c a w h=>hQ c a _ _ w h) (Or.inl ⟨by rfl,?_⟩) ?_
   rotate_left
   ·intro w;delta abL;go_simp;try with_reducible rfl
   try simp only [Act.put,NA,K6,K7]
   refine fG (i:=20) (oi:=abM) (v:=?_) rfl (by kernel_rfl) (by kernel_rfl) (by kernel_rfl) (fun c a w h=>hQ c a _ _ w h) (Or.inl ⟨by rfl,?_⟩) ?_
   rotate_left
   ·intro w;delta abM;go_simp;try with_reducible rfl
   try simp only [Act.put,NA,K6,K7]
   refine G5 (i:=21) (o:=abN) (by kernel_rfl) rfl rfl (fun K hK=>?_)
   delta abN
   go_simp
   refine hK.out _ _ (fun h=>absurd h (by decide)) ?_
   clear hK K
   try simp only [Act.put,NA,K6,K7]
   refine PU (by kernel_rfl) ?_ _
   obtain ⟨C1,C2,fC,KW,PX⟩:=A.out
   have D1:=C1.sets PX (.slice p1 (n+1) c1) (.slice p2 (n+1) c2) (by decide)
   have D2:=C2.sets PX (.slice p1 (n+1) c1) (.slice p2 (n+1) c2) (by decide)
   exact xP _ _ _ _ _ _ _ _ _ _ _ _ _ _ _ _ _ _ _ _ _ _ _ _ _ _ _ (SI (G7 PX _) _) D1 D2 fC (Ky KW _ _ _)
 have C0:∀ t v xs,w.ownsRow base t 1 v n xs→Ch w w.drew base n t v xs 0 0 0 undef:=fun t v xs r=>⟨fun _=>r,fun h=>absurd h (by decide),fun h=>absurd h (by decide),fun h=>absurd h (by decide)⟩
 refine PW (l':=XU 0 0) (by kernel_rfl) (G8.all rfl hle hn h1s h2s (fun g hg=>(dO r1 hg).2.1) (fun g hg=>(dO r2 hg).2.1) g33 _ _ 0 0 0 0 undef undef
  ⟨⟨C0 _ _ _ r1,rfl,fun h=>absurd h (by decide),fun h=>absurd h (by decide),fun h=>absurd h (by decide)⟩,⟨C0 _ _ _ r2,rfl,fun h=>absurd h (by decide),fun h=>absurd h (by decide),fun h=>absurd h (by decide)⟩,rfl,rfl,fun h=>absurd h (by decide),aC.of_below ((Below.refl _ _).drew) _,?_⟩)
 exact ⟨[_,_,_,_,_,_,_,_,_,_,_,_,_,_,_,_,_,_,_,_],rfl,rfl⟩
open Go.ChangeMaps (setBlock)
def Bb (n:Nat) (mc:Nat→Nat):List Value:=(List.range n).map fun i=>.map (some (mc i))
structure xC (w:World) (s base:Nat) (va v1 v2:Value) (n:Nat) (mc ms:Nat→Nat) (T:List SB):Prop where
 bR:w.heap[s]? = some (.cells #[va,v1,v2] 221 (0,0))
 r1:w.ownsRow base 169 1 v1 n (Bb n mc)
 r2:w.ownsRow base 222 1 v2 n (Bb n ms)
 fc:∀ i,i<n→vD w (mc i) (.int .i64) (T.getD i zB).1
 fs:∀ i,i<n→vD w (ms i) hpY (T.getD i zB).2
 dc:∀ i j,i<n→j<n→i≠j→mc i≠mc j
 ds:∀ i j,i<n→j<n→i≠j→ms i≠ms j
 dm:∀ i j,i<n→j<n→mc i≠ms j
 low:∀ i,i<n→base≤mc i∧base≤ms i
 sb:s<base
 le:base≤w.heap.size
theorem vD.block {w:World} {b:Nat} {vt:Ty} {f:Int→Option vt.den} (h:vD w b vt f):∃ es c,w.heap[b]? = some (.map es c):=by
 obtain ⟨l,⟨es,c,h1,_⟩,_⟩:=h;exact ⟨es,c,h1⟩
theorem Vk {n i:Nat} (mc:Nat→Nat) (h:i<n):(Bb n mc)[i]? = some (.map (some (mc i))):=by simp [Bb,h]
theorem xC.sol {w:World} {s base:Nat} {va v1 v2:Value} {n:Nat} {mc ms:Nat→Nat} {T:List SB} (O:xC w s base va v1 v2 n mc ms T) (hn:0<n):∃ cb sb,v1.ownBlock=some cb∧v2.ownBlock=some sb∧nK w s cb sb n mc ms T:=by
 obtain ⟨bR,r1,r2,fc,fs,dc,ds,dm,low,sb_,le⟩:=O;have q1:=r1;have q2:=r2
 rcases q1.2 with ⟨_,h⟩ | ⟨cb,cap,cur,e1,e2,e3,e4⟩
 ·omega
 rcases q2.2 with ⟨_,h⟩ | ⟨sb,av7,apR,f1,f2,f3,f4⟩
 ·omega
 obtain ⟨g1,_⟩:=DL bR;obtain ⟨g2,_⟩:=DN bR
 refine ⟨cb,sb,by rw [e1];rfl,by rw [f1];rfl,⟨cap,by rw [g1,e1]⟩,⟨av7,by rw [g2,f1]⟩,fun i hi=>?_,fun i hi=>?_,fc,fs,dc,ds,dm,fun i hi=>?_⟩
 ·have:=r1.cells (g:=cb) (by rw [e1];rfl) i _ (Vk mc hi)
  rw [Addr.add_lit,Nat.zero_add] at this;exact this
 ·have:=r2.cells (g:=sb) (by rw [f1];rfl) i _ (Vk ms hi)
  rw [Addr.add_lit,Nat.zero_add] at this;exact this
 ·obtain ⟨es,c,hm⟩:=(fc i hi).block
  obtain ⟨es2,c2,Xc⟩:=(fs i hi).block;have:=low i hi
  refine ⟨by omega,?_,?_,by omega,?_,?_⟩<;>rintro rfl
  ·rw [e3] at hm;cases hm
  ·rw [f3] at hm;cases hm
  ·rw [e3] at Xc;cases Xc
  ·rw [f3] at Xc;cases Xc
theorem xC.back {w w':World} {s base:Nat} {va v1 v2:Value} {n cb sb:Nat} {mc ms:Nat→Nat} {T T':List SB} (O:xC w s base va v1 v2 n mc ms T) {i:Nat} (hi:i<n) (K:aC w w' fun b=>b=mc i∨b=ms i)
 (S:nK w' s cb sb n mc ms T'):xC w' s base va v1 v2 n mc ms T':=by
 have rV:=O.low i hi;have Zl:=O.sb;obtain ⟨es,c,hm⟩:=(O.fc i hi).block;obtain ⟨es2,c2,Xc⟩:=(O.fs i hi).block
 have no:∀ g cur t,w.heap[g]? = some (.cells cur t (0,0))→¬ (g=mc i∨g=ms i):=fun g cur t hc=>by
  rintro (rfl | rfl)
  ·rw [hc] at hm;cases hm
  ·rw [hc] at Xc;cases Xc
 refine ⟨(K.block s (lt_of_block O.bR) (no s _ _ O.bR)).trans O.bR,rX O.r1 K fun g hg=>?_,rX O.r2 K fun g hg=>?_,S.fc,S.fs,O.dc,O.ds,O.dm,O.low,O.sb,gX O.le K.size⟩
 ·obtain ⟨_,_,cur,hc⟩:=dO O.r1 hg
  exact no g cur _ hc
 ·obtain ⟨_,_,cur,hc⟩:=dO O.r2 hg
  exact no g cur _ hc
def SK (f:Nat→Nat) (n m:Nat):Nat→Nat:=fun i=>if i=n then m else f i
theorem gL {f:Nat→Nat} {n m i:Nat} (h:i<n):SK f n m i=f i:=if_neg (by omega)
theorem jl {f:Nat→Nat} {n m:Nat}:SK f n m n=m:=if_pos rfl
theorem He (n m:Nat) (f:Nat→Nat):Bb (n+1) (SK f n m)=Bb n f++[.map (some m)]:=by
 unfold Bb;rw [List.range_succ,vO,List.map_singleton,jl]
 congr 1
 refine List.map_congr_left fun i hi=>?_
 rw [gL (List.mem_range.1 hi)]
theorem Vl {w:World} {m:Nat} (vt:Ty) (hv:vt.fk=true) (h:w.heap[m]? = some (.map #[] 0)):vD w m vt fun _=>none:=
 ⟨[],⟨#[],0,h,rfl,List.nodup_nil,fun _ h=>by simp at h,List.Pairwise.nil,fun _ h=>by simp at h,rfl,hv⟩,fun _=>rfl⟩
theorem xC.grow {w w':World} {s base:Nat} {va v1 v2 v1' v2':Value} {n m1 m2 b1 b2:Nat} {mc ms:Nat→Nat} {T:List SB} (O:xC w s base va v1 v2 n mc ms T) (hT:T.length=n)
 (hb:w'.heap[s]? = some (.cells #[va,v1',v2'] 221 (0,0))) (C1:Ch w w' base n 169 v1 (Bb n mc) 3 m1 b1 v1') (C2:Ch w w' base n 222 v2 (Bb n ms) 3 m2 b2 v2') (fC:m1≠m2)
 (K:aC w w' fun b=>b=s∨v1.ownBlock=some b∨v2.ownBlock=some b):xC w' s base va v1' v2' (n+1) (SK mc n m1) (SK ms n m2) (T++[zB]):=by
 have no:∀ b es c,w.heap[b]? = some (.map es c)→¬ (b=s∨v1.ownBlock=some b∨v2.ownBlock=some b):=fun b es c hm=>by
  rintro (rfl | h | h)
  ·rw [O.bR] at hm;cases hm
  ·obtain ⟨_,_,cur,hc⟩:=dO O.r1 h
   rw [hc] at hm;cases hm
  ·obtain ⟨_,_,cur,hc⟩:=dO O.r2 h
   rw [hc] at hm;cases hm
 have oc:∀ i,i<n→w'.heap[mc i]? = w.heap[mc i]?∧mc i<w.heap.size:=fun i hi=>by
  obtain ⟨es,c,hm⟩:=(O.fc i hi).block;exact ⟨K.block _ (lt_of_block hm) (no _ _ _ hm),lt_of_block hm⟩
 have os:∀ i,i<n→w'.heap[ms i]? = w.heap[ms i]?∧ms i<w.heap.size:=fun i hi=>by
  obtain ⟨es,c,hm⟩:=(O.fs i hi).block;exact ⟨K.block _ (lt_of_block hm) (no _ _ _ hm),lt_of_block hm⟩
 have l1:=(C1.a1 (by decide)).1
 have l2:=(C2.a1 (by decide)).1
 have e1:=O.le
 refine ⟨hb,by rw [He];exact (C1.a3 rfl).1,by rw [He];exact (C2.a3 rfl).1,fun i hi=>?_,fun i hi=>?_,fun i j hi hj qO=>?_,fun i j hi hj qO=>?_,fun i j hi hj=>?_,fun i hi=>?_,O.sb,gX O.le K.size⟩
 ·rcases Nat.lt_succ_iff_lt_or_eq.1 hi with h | rfl
  ·rw [gL h,rW (by omega)]
   exact (O.fc i h).same (oc i h).1
  ·rw [jl,jk hT]
   exact Vl _ rfl (C1.a1 (by decide)).2
 ·rcases Nat.lt_succ_iff_lt_or_eq.1 hi with h | rfl
  ·rw [gL h,rW (by omega)]
   exact (O.fs i h).same (os i h).1
  ·rw [jl,jk hT]
   exact Vl _ rfl (C2.a1 (by decide)).2
 ·rcases Nat.lt_succ_iff_lt_or_eq.1 hi with h | rfl<;>rcases Nat.lt_succ_iff_lt_or_eq.1 hj with h' | rfl
  ·rw [gL h,gL h'];exact O.dc i j h h' qO
  ·rw [gL h,jl];have:=(oc i h).2;omega
  ·rw [gL h',jl];have:=(oc j h').2;omega
  ·exact absurd rfl qO
 ·rcases Nat.lt_succ_iff_lt_or_eq.1 hi with h | rfl<;>rcases Nat.lt_succ_iff_lt_or_eq.1 hj with h' | rfl
  ·rw [gL h,gL h'];exact O.ds i j h h' qO
  ·rw [gL h,jl];have:=(os i h).2;omega
  ·rw [gL h',jl];have:=(os j h').2;omega
  ·exact absurd rfl qO
 ·rcases Nat.lt_succ_iff_lt_or_eq.1 hi with h | rfl<;>rcases Nat.lt_succ_iff_lt_or_eq.1 hj with h' | rfl
  ·rw [gL h,gL h'];exact O.dm i j h h'
  ·rw [gL h,jl];have:=(oc i h).2;omega
  ·rw [gL h',jl];have:=(os j h').2;omega
  ·rw [jl,jl];exact fC
 ·rcases Nat.lt_succ_iff_lt_or_eq.1 hi with h | rfl
  ·rw [gL h,gL h];exact O.low i h
  ·rw [jl,jl];omega
theorem Stp.Sr {t:SB} {i:Nat} (h:Stp t i) {r v:Int} {x:Se} (hx:0≤x.1∧x.1≤99∧∃ p:Nat,x.2.1=p∧Nat.land p i=p):Stp (jo t r v x) i:=by
 unfold jo
 cases hb:nV t r v with
 | false=>exact h
 | true=>
  intro q y hy;simp only [aQ,rT] at hy
  by_cases hq:q=r
  ·subst hq
   simp only [decide_true,aQ,bn] at hy;subst hy;exact hx
  ·rw [d9 hq] at hy
   exact h q y hy
def Good (i:Nat) (t:SB):Prop:=EN t∧Stp t i
theorem abO (i:Nat):Good i zB:=by
 constructor
 ·intro r c h
  cases h
 ·intro r x h
  cases h
theorem KA (i:Nat):∃ p:Nat,(0:Int)=p∧Nat.land p i=p:=⟨0,rfl,Nat.zero_and i⟩
theorem Hg {set:Nat}:∀ (ts:List Int) (i:Nat) (t:SB),Good set t→Good set (kM set ts i t)
 | [],_,_,h=>h
 | x::r,i,t,h=>by
  simp only [kM];refine Hg r _ _ ?_
  cases decide (set=2 ^ i) with
  | false=>exact h
  | true=>exact ⟨h.1.Sr (Int.le_refl 0),h.2.Sr ⟨by decide,by decide,KA set⟩⟩
theorem KC {ts:List Int} {set:Nat}:Good set (qy ts set):=by
 unfold qy
 cases decide (Nat.land set (set - 1)=0)&&decide (0<set) with
 | false=>exact abO set
 | true=>exact Hg ts 0 _ (abO set)
theorem XV {T:List SB} {set part:Nat} {t:SB} (h:Good set t) (hp:EN (T.getD part zB)) (hq:EN (T.getD (set - part) zB)) (hl:Nat.land part set=part):Good set (dZ T set t part):=by
 have key:∀ r c,(T.getD part zB).1 r=some c→Good set (jo t r (c+eD (T.getD (set - part) zB) r) (0,(part:Int),())):=fun r c hc=>by
  have h1:=(hp r c hc).1;have h2:=(hq.at_ r).1
  exact ⟨h.1.Sr (by omega),h.2.Sr ⟨Int.le_refl 0,(by decide:(0:Int)≤99),part,rfl,hl⟩⟩
 refine ⟨fun r c hc=>?_,fun r x hx=>?_⟩
 ·simp only [dZ] at hc
  cases hf:(T.getD part zB).1 r with
  | none=>rw [hf] at hc;exact h.1 r c hc
  | some c0=>rw [hf] at hc;exact (key r c0 hf).1 r c hc
 ·simp only [dZ] at hx
  cases hf:(T.getD part zB).1 r with
  | none=>rw [hf] at hx;exact h.2 r x hx
  | some c0=>rw [hf] at hx;exact (key r c0 hf).2 r x hx
theorem zl {T:List SB} {set:Nat} (hB:∀ i,i<set→EN (T.getD i zB)):∀ (f p:Nat) (t:SB),p≤set→(0<p→p<set)→Nat.land p set=p→Good set t→Good set ((mE set f p).foldl (dZ T set) t)
 | 0,_,_,_,_,_,h=>h
 | f+1,p,t,hp,hps,hl,h=>by
  by_cases hp0:p=0
  ·simp only [mE,bL hp0,aQ,List.foldl_nil];exact h
  ·simp only [mE,d9 hp0,bJ,List.foldl_cons]
   have h0:0<p:=by omega
   have hps:=hps h0;have hle:Nat.land (p - 1) set≤p - 1:=Nat.and_le_left
   refine zl hB f _ _ (by omega) (fun _=>by omega) ?_ (XV h (hB p hps) (hB (set - p) (by omega)) hl)
   show ((p - 1) &&& set) &&& set=(p - 1) &&& set;rw [Nat.and_assoc,Nat.and_self]
theorem KD (set:Nat):Nat.land (set - 1) set≤set∧(0<Nat.land (set - 1) set→Nat.land (set - 1) set<set)∧Nat.land (Nat.land (set - 1) set) set=Nat.land (set - 1) set:=by
 have hle:Nat.land (set - 1) set≤set - 1:=Nat.and_le_left
 refine ⟨by omega,fun _=>by omega,?_⟩
 show ((set - 1) &&& set) &&& set=(set - 1) &&& set;rw [Nat.and_assoc,Nat.and_self]
theorem abP {l:List Ar} (bK:nW l=true) {i:Nat} {m:Nat}:∀ {t t':SB},Good i t→wF (fun t=>some (bif (kR l t).2 then .inl (kR l t).1 else .inr (kR l t).1)) m t=some t'→Good i t':=by
 have one:∀ t,Good i t→Good i (kR l t).1:=fun t ht=>by
  have key:∀ (l:List Ar) (s:SB×Bool),(∀ a∈l,0≤a.1.2.1∧a.1.2.1≤99∧0≤a.2.1)→Good i s.1→Good i (l.foldl kH s).1:=by
   intro l
   induction l with
   | nil=>exact fun s _ h=>h
   | cons a r ih=>
    intro s hl hs
    have ha:=hl a (by simp)
    refine ih _ (fun b hb=>hl b (by simp [hb])) ⟨PG hs.1 ha.2.2,hs.2.Sr ⟨ha.1,ha.2.1,KA i⟩⟩
  refine key l _ (fun a ha=>?_) ht
  simp only [nW,dA,List.all_eq_true,inside,mX] at bK;have:=bK.2 a ha;omega
 induction m with
 | zero=>intro t t' _ h;cases h
 | succ m ih=>
  intro t t' ht h;simp only [wF] at h;have h1:=one t ht
  cases hb:(kR l t).2 with
  | true=>rw [hb] at h;exact ih h1 h
  | false=>rw [hb] at h;cases h;exact h1
theorem abQ {l:List Ar} (bK:nW l=true) {ts:List Int} {T:List SB} {set:Nat} {t:SB} (hB:∀ i,i<set→Good i (T.getD i zB)) (h:Xm l ts T set=some t):Good set t:=by
 obtain ⟨m,hm⟩:=oC h;obtain ⟨h1,h2,h3⟩:=KD set
 exact abP bK (zl (fun i hi=>(hB i hi).1) _ _ _ h1 h2 h3 KC) hm
theorem abR {s base n9 ab ao tb Nw cap c:Nat} {p:Option Addr} {l:List Ar} {ts:List Int} {v1 v2:Value} {mc0 ms0:Nat→Nat} {Tf:List SB} {w:World} {Q0:Exit→Act→World→Prop} {x0 x1 x3 x4 x5 x6 x7 x8 x11 Xq Xr x14 Nn Py SA Kk Km Kl Kr Kt Ku IW SC SE SF Ms U6 YE YF PE YG YH YI YJ YK YL YM YN YO Pt YP Pv YQ YR YS YT Pw Mj IU Kq U7 U8 U9 IV Mr Va x61 x62 Nr Pz Nt Xt Nu Np Xu Xv Xw Xx Xy Xz XA XB XC Vb Vd Ve Vf XD XE Nq Ko Mq XG Ns XH XI XJ XK XL XM XO XP XQ XR x99 D9 Ea Eb Ec Ed Ee Ef Eh Ei Ej El Em En Eo Ep Er Es vC Et AX AY AZ A8 yP yQ yR yS pF yU yV yX yY nZ pU rU yZ za zf zh zi:Value}
 (O:xC w s base (.slice p l.length c) v1 v2 0 mc0 ms0 []) (hn9:n9≤64) (hlen:ts.length≤6) (ME:∀ x∈ts,IntKind.i64.has x) (qD:tK w tb Nw ts) (Xj:tb≠s∧tb<base)
 (hl:qL w ab ao l) (yg:ab≠s∧ab<base) (hp:l≠[]→p=some ⟨ab,ao,none⟩) (bK:nW l=true)
 (hTf:Tf.length=n9) (hQ0:∀ c a d v w,Q0 (.panic c) (a.put d v) w→Q0 (.panic c) a w) (Hl:∀ k,k<n9→Xm l ts (Tf.take k) k=some (Tf.getD k zB)) (xR:∀ k,k<n9→Good k (Tf.getD k zB))
 (xP:∀ (u11 u12 u13 u14 u15 u16 u29 u30 u31 u32 u33 u34 u35 u36 u37 u38 u39 u40 u41 u42 u43 u44 u45 u46 u47 u48 u49 u50 u51 u52 u53 u54 u55 u56 u57 u58 u59 u60 u61 u62 u63 u64 u65 u66 u67 u68 u69 u70 u71 u72 u73 u74 u75 u76 u77 u78 u79 u80 u81 u82 u83 u84 u85 u86 u87 u88 u89 u90 u91 u92 u93 u94 u95 u96 u97 u98 u99 IY IZ I4 I5 I6 I7 I8 I9 Ja Jb Jc Jd Je Jf Jg Jh Ji Jj Jk ap2 ap3 ap4 ap5 v1 v2:Value) (mc ms:Nat→Nat) (w':World),xC w' s base (.slice p l.length c) v1 v2 n9 mc ms Tf→aC w w' (fun b=>b=s∨base≤b)→Q0 (.exit 0) ⟨List.toArray (x0::x1::.slice (some ⟨tb,Nw,none⟩) ts.length cap::x3::x4::x5::x6::x7::x8::.int .i64 n9::.pointer (some ⟨s,0,none⟩)::u11::u12::u13::u14::u15::u16::SA::Kk::Km::Kl::Kr::Kt::Ku::IW::SC::SE::SF::.int .i64 n9::u29::u30::u31::u32::u33::u34::u35::u36::u37::u38::u39::u40::u41::u42::u43::u44::u45::u46::u47::u48::u49::u50::u51::u52::u53::u54::u55::u56::u57::u58::u59::u60::u61::u62::u63::u64::u65::u66::u67::u68::u69::u70::u71::u72::u73::u74::u75::u76::u77::u78::u79::u80::u81::u82::u83::u84::u85::u86::u87::u88::u89::u90::u91::u92::u93::u94::u95::u96::u97::u98::u99::IY::IZ::I4::I5::I6::I7::I8::I9::Ja::Jb::Jc::Jd::Je::Jf::Jg::Jh::Ji::Jj::Jk::ap2::ap3::ap4::ap5::yP::yQ::yR::yS::pF::yU::yV::yX::yY::nZ::pU::rU::yZ::za::zf::zh::zi::[]),[]⟩ w') :
 Code.wp Tryz.prog (Code.loop (MC 0)) Q0 ⟨List.toArray (x0::x1::.slice (some ⟨tb,Nw,none⟩) ts.length cap::x3::x4::x5::x6::x7::x8::.int .i64 n9::.pointer (some ⟨s,0,none⟩)::x11::Xq::Xr::x14::Nn::Py::SA::Kk::Km::Kl::Kr::Kt::Ku::IW::SC::SE::SF::.int .i64 n9::.int .i64 0::Ms::U6::YE::YF::PE::YG::YH::YI::YJ::YK::YL::YM::YN::YO::Pt::YP::Pv::YQ::YR::YS::YT::Pw::Mj::IU::Kq::U7::U8::U9::IV::Mr::Va::x61::x62::Nr::Pz::Nt::Xt::Nu::Np::Xu::Xv::Xw::Xx::Xy::Xz::XA::XB::XC::Vb::Vd::Ve::Vf::XD::XE::Nq::Ko::Mq::XG::Ns::XH::XI::XJ::XK::XL::XM::XO::XP::XQ::XR::x99::D9::Ea::Eb::Ec::Ed::Ee::Ef::Eh::Ei::Ej::El::Em::En::Eo::Ep::Er::Es::vC::Et::AX::AY::AZ::A8::yP::yQ::yR::yS::pF::yU::yV::yX::yY::nZ::pU::rU::yZ::za::zf::zh::zi::[]),[]⟩ w:=by
 conv=>arg 2;arg 1;whnf
 go_loopw [29] (fun v29 wr=>∃ (k:Nat) (v1 v2:Value) (mc ms:Nat→Nat),k≤n9∧v29 = .int .i64 k∧xC wr s base (.slice p l.length c) v1 v2 k mc ms (Tf.take k)∧aC w wr (fun b=>b=s∨base≤b))
  (fun v29 _=>n9 - (intOf v29).toNat)
 case atStart=>
  exact ⟨0,v1,v2,mc0,ms0,mY _,rfl,O,aC.refl _ _⟩
 case round=>
  obtain ⟨k,v1,v2,mc,ms,OT,rfl,O,KW⟩:=hrel
  by_cases FN:(k:Int)<(n9:Int)
  ·have hk:k<n9:=by omega
   have l9:k<64:=by omega
   have hT:(Tf.take k).length=k:=by rw [List.length_take];omega
   have qA:Tf.take (k+1)=Tf.take k++[Tf.getD k zB]:=by
    rw [List.take_add_one,List.getD,iw (by omega)]
    rfl
   obtain ⟨m,hm⟩:=oC (Hl k hk)
   have YU:∀ i,i<k→(Tf.take k).getD i zB=Tf.getD i zB:=fun i hi=>by simp only [List.getD,List.getElem?_take_of_lt hi]
   have hBn:∀ i,i<k→EN ((Tf.take k).getD i zB):=fun i hi=>by rw [YU i hi];exact (xR i (by omega)).1
   obtain ⟨l1,l2,l3⟩:=KD k;have Bc:EN ((mE k (k+1) (Nat.land (k - 1) k)).foldl (dZ (Tf.take k) k) (qy ts k)):=(zl hBn _ _ _ l1 l2 l3 KC).1;have hO:Aside (xC wr s base (.slice p l.length c) v1 v2 k mc ms (Tf.take k)):=O
   have hKW:Aside (aC w wr (fun b=>b=s∨base≤b)):=KW
   clear O KW;have GG:Aside (_∧_∧_∧_):=⟨hm,qA,Bc,YU⟩;clear hm qA Bc YU Hl xR
   go_wp2
   refine afd hO.out.bR hO.out.r1 hO.out.r2 hO.out.sb hO.out.le (by omega) (fun c a d v w h=>hQ0 c a d v w h) ?_
   intro u32 u33 u34 u35 u36 u37 u38 u39 u40 u41 u42 u43 u44 u45 u46 u47 u48 u49 u50 u51 v1' v2' w1 m1 m2 b1 b2 nI C1 C2 fC K1;have hx1:=hO.out.grow hT nI C1 C2 fC K1;generalize SK mc k m1=mc' at hx1;generalize SK ms k m2=ms' at hx1
   have KW1:aC w w1 (fun b=>b=s∨base≤b):=hKW.out.trans K1 fun b _ h=>by
    rcases h with h | h | h
    ·exact .inl h
    ·exact .inr (dO hO.out.r1 h).1
    ·exact .inr (dO hO.out.r2 h).1
   clear C1 C2 fC K1 nI hO hKW;have O1:Aside (xC w1 s base (.slice p l.length c) v1' v2' (k+1) mc' ms' (Tf.take k++[zB])):=hx1;clear hx1;obtain ⟨cb,sb,_,_,S1⟩:=O1.out.sol (Nat.succ_pos k);have rV:=O1.out.low k (Nat.lt_succ_self k);have Zl:=O1.out.sb
   have nsm:s≠mc' k∧s≠ms' k:=⟨by omega,by omega⟩
   have akf:ab≠mc' k∧ab≠ms' k:=⟨by omega,by omega⟩
   have awc:tb≠mc' k∧tb≠ms' k:=⟨by omega,by omega⟩
   have YV:w1.cell? ⟨s,0,none⟩=some (.slice p l.length c):=by simp [World.cell?,O1.out.bR]
   have awd:=qD.kept KW1 (fun h=>h.elim Xj.1 (fun h=>by omega))
   have A:Aside (aC w w1 (fun b=>b=s∨base≤b)∧∀ b,b<w.heap.size→(b=mc' k∨b=ms' k)→(b=s∨base≤b)):=⟨KW1,by
    rintro b _ (rfl | rfl)
    ·exact .inr rV.1
    ·exact .inr rV.2⟩
   clear KW1
   rcases Nat.eq_zero_or_pos k with Ni | Ni
   ·have Iu:(0:Int)≤(k:Int):=by omega
    have hz:bits .and .i64 (k:Int) ((k:Int) - 1)=0:=by rw [Ni];decide
    have Wq:bits .and .i64 ((k:Int) - 1) (k:Int)=((Nat.land (k - 1) k:Nat):Int):=by rw [Ni];decide
    have hz3:¬ (0:Int)<(k:Int):=by omega
    have yj:qy ts k=zB:=by unfold qy;rw [d9 (by omega:¬ 0<k),Bool.and_false];rfl
    obtain ⟨hm,qA,Bc,YU⟩:=GG.out;rw [←yj] at S1
    have K11:aC w1 w1 (fun b=>b=mc' k∨b=ms' k):=aC.refl _ _
    have GG:Aside (_∧_∧_∧_):=⟨hm,qA,Bc,YU⟩;clear hm qA Bc YU yj Ni
    go_wp2
    obtain ⟨hm,qA,Bc,YU⟩:=GG.out;refine zk (f0:=k+1) S1 hT l9 l1 l2 l3 hBn (Nat.lt_succ_of_le l1) rfl ?_;clear S1;intro u14 u15 u16 u82 u83 u84 u85 u86 u87 u88 u89 u90 u91 u92 u93 u94 u95 u96 u97 u98 u99 IY IZ I4 I5 I6 I7 I8 I9 Ja Jb Jc Jd Je Jf Jg Jh Ji Jj Jk w3 hS3 Ny
    have Vm:aC w1 w3 (fun b=>b=mc' k∨b=ms' k):=K11.trans Ny fun _ _ h=>h
    have KW3:aC w w3 (fun b=>b=s∨base≤b):=A.out.1.trans Vm A.out.2
    have FB:w3.cell? ⟨s,0,none⟩=some (.slice p l.length c):=Vm.cell YV (fun h=>h.elim (fun h=>nsm.1 h) (fun h=>nsm.2 h))
    have PY:Calls Tryz.prog 120 #[.pointer (some ⟨s,0,none⟩),.int .i64 k] w3 fun e w'=>e = .returned (.tuple #[])∧Aside (nK w' s cb sb (k+1) mc' ms' (Tf.take k++[Tf.getD k zB])∧aC w3 w' (fun b=>b=mc' k∨b=ms' k)):=by
     have h:=yN hS3 (by simp [hT]) (i:=k) (by omega) (by omega) (hl.kept KW3 (fun h=>h.elim yg.1 (fun h=>by omega))) akf hp FB bK (by rw [jk hT];exact Bc) (m:=m) (t':=Tf.getD k zB) (by rw [jk hT];exact hm)
     rw [vE hT] at h;refine h.mono ?_;rintro e w' ⟨rfl,h1,h2,_⟩;exact ⟨rfl,h1,h2⟩
    have A3:Aside (aC w1 w3 (fun b=>b=mc' k∨b=ms' k)∧aC w w3 (fun b=>b=s∨base≤b)):=⟨Vm,KW3⟩
    clear Vm KW3 FB YV hS3 Ny K11
    go_wp2_with (first
     | (go_at_call 120;refine PY.mono ?_;rintro e w4 ⟨rfl,A4⟩))
    clear PY;obtain ⟨B1,B2⟩:=A3.out;obtain ⟨D1,D2⟩:=A4.out
    have O4:=O1.out.back (Nat.lt_succ_self k) (B1.trans D2 fun _ _ h=>h) D1
    rw [←qA] at O4;refine ⟨⟨k+1,_,_,_,_,hk,rfl,O4,B2.trans D2 ?_⟩,ji hk⟩;rintro b _ (rfl | rfl)
    ·exact .inr rV.1
    ·exact .inr rV.2
   ·have Iu:(0:Int)<(k:Int):=by omega
    have Wq:bits .and .i64 ((k:Int) - 1) (k:Int)=((Nat.land (k - 1) k:Nat):Int):=PN Ni l9 l9
    have hz:bits .and .i64 (k:Int) ((k:Int) - 1)=((Nat.land k (k - 1):Nat):Int):=by
     have:=Vh l9 (k:=k) (set:=k - 1) (by omega)
     rw [←this]
     congr 1
     omega
    by_cases hq:Nat.land k (k - 1)=0
    ·have yj:qy ts k=kM k ts 0 zB:=by unfold qy;rw [bL hq,bL Ni];rfl
     rw [hq] at hz;have hz:bits .and .i64 (k:Int) ((k:Int) - 1)=0:=hz;have HH:Aside (_∧_):=⟨yj,hq⟩;clear yj hq
     go_wp2
     refine XT S1 hT l9 awd awc hlen ME ?_;obtain ⟨yj,hq⟩:=HH.out;clear S1;intro u12 u13 u63 u64 u65 u66 u67 u68 u69 u70 u71 u72 u73 u74 u75 u76 u77 w2 S2 K12;rw [←yj] at S2;obtain ⟨hm,qA,Bc,YU⟩:=GG.out;have GG:Aside (_∧_∧_∧_):=⟨hm,qA,Bc,YU⟩;clear hm qA Bc YU yj Ni hq
     go_wp2
     obtain ⟨hm,qA,Bc,YU⟩:=GG.out;refine zk (f0:=k+1) S2 hT l9 l1 l2 l3 hBn (Nat.lt_succ_of_le l1) rfl ?_;clear S2;intro u14 u15 u16 u82 u83 u84 u85 u86 u87 u88 u89 u90 u91 u92 u93 u94 u95 u96 u97 u98 u99 IY IZ I4 I5 I6 I7 I8 I9 Ja Jb Jc Jd Je Jf Jg Jh Ji Jj Jk w3 hS3 Ny
     have Vm:aC w1 w3 (fun b=>b=mc' k∨b=ms' k):=K12.trans Ny fun _ _ h=>h
     have KW3:aC w w3 (fun b=>b=s∨base≤b):=A.out.1.trans Vm A.out.2
     have FB:w3.cell? ⟨s,0,none⟩=some (.slice p l.length c):=Vm.cell YV (fun h=>h.elim (fun h=>nsm.1 h) (fun h=>nsm.2 h))
     have PY:Calls Tryz.prog 120 #[.pointer (some ⟨s,0,none⟩),.int .i64 k] w3 fun e w'=>e = .returned (.tuple #[])∧Aside (nK w' s cb sb (k+1) mc' ms' (Tf.take k++[Tf.getD k zB])∧aC w3 w' (fun b=>b=mc' k∨b=ms' k)):=by
      have h:=yN hS3 (by simp [hT]) (i:=k) (by omega) (by omega) (hl.kept KW3 (fun h=>h.elim yg.1 (fun h=>by omega))) akf hp FB bK (by rw [jk hT];exact Bc) (m:=m) (t':=Tf.getD k zB) (by rw [jk hT];exact hm)
      rw [vE hT] at h;refine h.mono ?_;rintro e w' ⟨rfl,h1,h2,_⟩;exact ⟨rfl,h1,h2⟩
     have A3:Aside (aC w1 w3 (fun b=>b=mc' k∨b=ms' k)∧aC w w3 (fun b=>b=s∨base≤b)):=⟨Vm,KW3⟩
     clear Vm KW3 FB YV hS3 Ny K12
     go_wp2_with (first
      | (go_at_call 120;refine PY.mono ?_;rintro e w4 ⟨rfl,A4⟩))
     clear PY;obtain ⟨B1,B2⟩:=A3.out;obtain ⟨D1,D2⟩:=A4.out
     have O4:=O1.out.back (Nat.lt_succ_self k) (B1.trans D2 fun _ _ h=>h) D1
     rw [←qA] at O4;refine ⟨⟨k+1,_,_,_,_,hk,rfl,O4,B2.trans D2 ?_⟩,ji hk⟩;rintro b _ (rfl | rfl)
     ·exact .inr rV.1
     ·exact .inr rV.2
    ·have yj:qy ts k=zB:=by unfold qy;rw [d9 hq];rfl
     have hq1:¬ ((Nat.land k (k - 1):Nat):Int)=0:=by omega
     rw [←yj] at S1
     have K11:aC w1 w1 (fun b=>b=mc' k∨b=ms' k):=aC.refl _ _
     generalize Nat.land k (k - 1)=q at hz hq hq1;clear yj Ni hq
     go_wp2
     obtain ⟨hm,qA,Bc,YU⟩:=GG.out;refine zk (f0:=k+1) S1 hT l9 l1 l2 l3 hBn (Nat.lt_succ_of_le l1) rfl ?_;clear S1;intro u14 u15 u16 u82 u83 u84 u85 u86 u87 u88 u89 u90 u91 u92 u93 u94 u95 u96 u97 u98 u99 IY IZ I4 I5 I6 I7 I8 I9 Ja Jb Jc Jd Je Jf Jg Jh Ji Jj Jk w3 hS3 Ny
     have Vm:aC w1 w3 (fun b=>b=mc' k∨b=ms' k):=K11.trans Ny fun _ _ h=>h
     have KW3:aC w w3 (fun b=>b=s∨base≤b):=A.out.1.trans Vm A.out.2
     have FB:w3.cell? ⟨s,0,none⟩=some (.slice p l.length c):=Vm.cell YV (fun h=>h.elim (fun h=>nsm.1 h) (fun h=>nsm.2 h))
     have PY:Calls Tryz.prog 120 #[.pointer (some ⟨s,0,none⟩),.int .i64 k] w3 fun e w'=>e = .returned (.tuple #[])∧Aside (nK w' s cb sb (k+1) mc' ms' (Tf.take k++[Tf.getD k zB])∧aC w3 w' (fun b=>b=mc' k∨b=ms' k)):=by
      have h:=yN hS3 (by simp [hT]) (i:=k) (by omega) (by omega) (hl.kept KW3 (fun h=>h.elim yg.1 (fun h=>by omega))) akf hp FB bK (by rw [jk hT];exact Bc) (m:=m) (t':=Tf.getD k zB) (by rw [jk hT];exact hm)
      rw [vE hT] at h;refine h.mono ?_;rintro e w' ⟨rfl,h1,h2,_⟩;exact ⟨rfl,h1,h2⟩
     have A3:Aside (aC w1 w3 (fun b=>b=mc' k∨b=ms' k)∧aC w w3 (fun b=>b=s∨base≤b)):=⟨Vm,KW3⟩
     clear Vm KW3 FB YV hS3 Ny K11
     go_wp2_with (first
      | (go_at_call 120;refine PY.mono ?_;rintro e w4 ⟨rfl,A4⟩))
     clear PY;obtain ⟨B1,B2⟩:=A3.out;obtain ⟨D1,D2⟩:=A4.out
     have O4:=O1.out.back (Nat.lt_succ_self k) (B1.trans D2 fun _ _ h=>h) D1
     rw [←qA] at O4;refine ⟨⟨k+1,_,_,_,_,hk,rfl,O4,B2.trans D2 ?_⟩,ji hk⟩;rintro b _ (rfl | rfl)
     ·exact .inr rV.1
     ·exact .inr rV.2
  ·have OT:k=n9:=by omega
   subst OT
   rw [List.take_of_length_le (by omega)] at O
   have A:Aside (xC wr s base (.slice p l.length c) v1 v2 k mc ms Tf∧aC w wr (fun b=>b=s∨base≤b)):=⟨O,KW⟩
   clear O KW qD hl Hl xR
   go_wp2
   exact xP _ _ _ _ _ _ _ _ _ _ _ _ _ _ _ _ _ _ _ _ _ _ _ _ _ _ _ _ _ _ _ _ _ _ _ _ _ _ _ _ _ _ _ _ _ _ _ _ _ _ _ _ _ _ _ _ _ _ _ _ _ _ _ _ _ _ _ _ _ _ _ _ _ _ _ _ _ _ _ _ _ _ _ _ _ _ _ _ _ _ _ _ _ _ _ _ _ _ _ _ _ _ _ _ _ A.out.1 A.out.2
end Go.dw.rO