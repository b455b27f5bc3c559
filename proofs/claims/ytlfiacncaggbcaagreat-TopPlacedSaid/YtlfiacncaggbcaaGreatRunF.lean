/- The top statements: proved is that functions that the law reaches keep their contracts (the engine of two routers; all functions); no conditions but those that each theorem states. -/
import Derived.Test.YtlfiacncaggbcaaGreatRunE
import Derived.RangeFuncNested
import Derived.RangeFuncBound
import Derived.RangeFuncCalls
import Derived.RangeFuncLeaves
import Derived.RangeFuncBox
import Derived.Shelf.Abstract
import Derived.Shelf.RegionOpen
import Derived.WalkKit
import Derived.OwnWalkIn
import Derived.TacticsInMore
import Derived.LoopNIn
import Derived.LoopIn
import Derived.Maps.OwnIn
set_option linter.unusedVariables false
set_option linter.unusedSimpArgs false
set_option maxHeartbeats 8000000
set_option maxRecDepth 100000
namespace Go.dw.rO
open Go Go.Proofs Go.Sort Go.RowKit aA
structure TM (w:World) (G:Nat→Nat) (g:To) (arr:Array Value):Prop where
 rp:aU w G (fun _ _=>none) (.agg [.sl 0 Nz g.1,.sl 0 KR g.2.1]) (.agg arr)
 gz:∀ b,w.heap.size≤b→G b=0
 gl:Qx w G
theorem TM.below {w w':World} {G:Nat→Nat} {g:To} {arr:Array Value} (h:TM w G g arr) (hB:Below w.heap.size w w'):TM w' G g arr:=by
 have hE:=oD hB h.gz
 refine ⟨?_,fun b hb=>h.gz b (gX hB.size hb),Qx.mono h.gl hE⟩
 obtain ⟨afP,h1,h2,h3⟩:=h.rp;cases h1
 refine ⟨_,rfl,h2,fun j hj=>⟨(h3 j hj).1.mono hE (fun _ _ _ h=>h) fun b hb=>?_,(h3 j hj).2⟩⟩
 exfalso
 match j,hj with
 | 0,_=>have:0<dS b (.sl 0 Nz g.1) _:=hb;rw [w9] at this;omega
 | 1,_=>have:0<dS b (.sl 0 KR g.2.1) _:=hb;rw [w9] at this;omega
theorem r37 (H:eO Tryz.prog B 37 c37) {w:World} {G:Nat→Nat} {g:To} {arr:Array Value} (hT:TM w G g arr):Calls Tryz.prog 37 #[.agg arr] w fun e w'=>e = .returned (.int .i64 (lT g))∧Below w.heap.size w w':=by
 refine (mo (ps:=[wS]) (rs:=.one i) H rfl (x:=(g,())) (y:=lT g) rfl rfl (fun j hj=>?_) hT.gz hT.gl).mono ?_
 ·match j,hj with
  | 0,_=>exact hT.rp
 ·rintro e W' ⟨vs,G',bC,rfl,R⟩
  have hs:vs.size=1:=R.sz
  match vs,hs with
  | ⟨[x0]⟩,_=>
   have t0:x0 = .int .i64 (lT g)∧_:=R.tm 0;refine ⟨?_,R.yK⟩;rw [t0.1];rfl
theorem r41 (H:eO Tryz.prog B 41 c41) {w:World} {G:Nat→Nat} {g:To} {arr:Array Value} (hT:TM w G g arr):Calls Tryz.prog 41 #[.agg arr] w fun e w'=>e = .returned (.bool (RZ g))∧Below w.heap.size w w':=by
 refine (mo (ps:=[wS]) (rs:=.one b) H rfl (x:=(g,())) (y:=RZ g) rfl rfl (fun j hj=>?_) hT.gz hT.gl).mono ?_
 ·match j,hj with
  | 0,_=>exact hT.rp
 ·rintro e W' ⟨vs,G',bC,rfl,R⟩
  have hs:vs.size=1:=R.sz
  match vs,hs with
  | ⟨[x0]⟩,_=>
   have t0:x0 = .bool (RZ g):=R.tm 0;refine ⟨?_,R.yK⟩;rw [t0];rfl
theorem r81 (H:eO Tryz.prog B 81 c81) {w:World} {G:Nat→Nat} {n:Int} (hn:IntKind.i64.has n) (gz:∀ b,w.heap.size≤b→G b=0) (gl:Qx w G):Calls Tryz.prog 81 #[.int .i64 n] w fun e w'=>e = .returned (.bool (rQ n))∧Below w.heap.size w w':=by
 refine (mo (ps:=[i]) (rs:=.one b) H rfl (x:=(n,())) (y:=rQ n) rfl rfl (fun j hj=>?_) gz gl).mono ?_
 ·match j,hj with
  | 0,_=>exact ⟨rfl,hn⟩
 ·rintro e W' ⟨vs,G',bC,rfl,R⟩
  have hs:vs.size=1:=R.sz
  match vs,hs with
  | ⟨[x0]⟩,_=>
   have t0:x0 = .bool (rQ n):=R.tm 0;refine ⟨?_,R.yK⟩;rw [t0];rfl
theorem KT (H41:eO Tryz.prog B 41 c41) {w:World} {G:Nat→Nat} {lb lo c1:Nat} {v0:Value} (hT:TM w G nY #[v0,.slice (some ⟨lb,lo,none⟩) 1 c1]) (hl:zx w lb lo) {r:Int} (hid:r=1∨r=2) :
 Calls Tryz.prog 83 #[.agg #[v0,.slice (some ⟨lb,lo,none⟩) 1 c1],.int .i64 r] w fun e w'=>∃ b c,e = .returned (.slice (some ⟨b,0,none⟩) 1 c)∧w.heap.size≤b∧w'.cell? ⟨b,0,none⟩=some (.int .i64 (3 - r))∧Below w.heap.size w w':=by
 have xB:Below w.heap.size w (w.alloc (.cells #[v0,.slice (some ⟨lb,lo,none⟩) 1 c1] 28)):=(Below.refl _ _).alloc (bT _) _;have h41:=r41 H41 (hT.below xB)
 rw [show RZ nY=true by decide] at h41
 have hl0:=hl.kept xB;have g0:(w.alloc (.cells #[v0,.slice (some ⟨lb,lo,none⟩) 1 c1] 28)).cell? ⟨w.heap.size,0,none⟩=some v0:=bV _ _ _ _;have g1:(w.alloc (.cells #[v0,.slice (some ⟨lb,lo,none⟩) 1 c1] 28)).cell? ⟨w.heap.size,1,none⟩=some (.slice (some ⟨lb,lo,none⟩) 1 c1):=bV _ _ _ _;clear hT
 go_enter Tryz.func83,Tryz.ntmps83
 go_wp2_with (first
  | (go_at_call 41;refine h41.mono ?_;rintro e w2 ⟨rfl,hB⟩;have q0:=(aC.of_below hB fun _=>False).cell g0 id;have q1:=(aC.of_below hB fun _=>False).cell g1 id;have D5:=hl0.kept hB)
  | (go_at_call 110;refine (TB (by assumption) hid).mono ?_;rintro e w3 ⟨b,c,rfl,Lp,hc3,TJ⟩))
 go_ret
 exact ⟨b,c,rfl,by have:=hB.size;have:=xB.size;omega,hc3,Below.kT (Below.kT xB hB) TJ⟩
def vM:List Ad:=[(0,1,3,1,()),(1,1,1,2,()),(2,2,3,2,()),(3,2,1,1,())]
structure Qy (w:World) (rb ro:Nat):Prop where
 c0:w.cell? ⟨rb,ro,none⟩=some (.int .i64 1)
 c1:w.cell? ⟨rb,ro+1,none⟩=some (.bool true)
 c2:w.cell? ⟨rb,ro+2,none⟩=some (.int .i64 2)
 c3:w.cell? ⟨rb,ro+3,none⟩=some (.bool true)
theorem Qy.kept {w w':World} {rb ro:Nat} (h:Qy w rb ro) (hB:Below w.heap.size w w'):Qy w' rb ro:=
 have k:=aC.of_below hB fun _=>False
 ⟨k.cell h.c0 id,k.cell h.c1 id,k.cell h.c2 id,k.cell h.c3 id⟩
theorem M8 {w:World} {b:Nat} {x v u:Value} {t:TypeId} (h:w.heap[b]? = some (.cells #[x,v] t (0,0))):(w.setCell ⟨b,0,none⟩ u).heap[b]? = some (.cells #[u,v] t (0,0)):=by
 have aT:=lt_of_block h
 have h':w.heap[b] = .cells #[x,v] t (0,0):=by simpa [Array.getElem?_eq_getElem aT] using h
 show (w.heap.modify b _)[b]? = _
 rw [Array.getElem?_eq_getElem (by simpa using aT),Array.getElem_modify_self,h']
 rfl
theorem aqT {w:World} {b:Nat} {tmps cs:Array Value} (h4:tmps.getD 4 undef = .pointer (some ⟨b,0,none⟩)) (hg:w.heap[b]? = some (.cells cs 31 (0,0))) (hs:cs.size=2):(results Tryz.f31 tmps).run Tryz.prog w = .ok (.tuple #[.agg cs,tmps.getD 5 undef]) w:=by
 have hl:=run_loadVar_row (P:=Tryz.prog) w b 31 31 cs (0,0) _ hg Tryz.underlying31 rfl (by rw [hs];kernel_rfl)
 have hr:Tryz.f31.results = #[.cell 4 31,.tmp 5]:=rfl
 have LA:tmps[4]?.getD undef = .pointer (some ⟨b,0,none⟩):=by simpa using h4
 simp [results,hr,LA,asAddr,hl,Sem.run_bind]
theorem VI {w:World} {k:Nat} (hk:w.heap.size=k) (o:Obj):(w.alloc o).heap[k]? = some o:=by
 show (w.heap.push o)[k]? = _;subst hk;simp
theorem KU {w w3 wr w5:World} {v v5:Value} {h:List Ad} {x p q:Value} {W4:World} {o:Obj} (hE:vJ wr (w3.heap.size+1) w3.heap.size 8 v h) (EX:Below w.heap.size w wr) (hs3:w.heap.size+2≤w3.heap.size) (hK:aC W4 wr (fun x=>w3.heap.size≤x)) (hU:kD (wr.alloc o) w5 w3.heap.size v v5)
 (y0:(wr.alloc o).cell? ⟨wr.heap.size,0,none⟩=some x) (ya:(wr.alloc o).cell? ⟨w.heap.size,0,none⟩=some p) (yb:(wr.alloc o).cell? ⟨w.heap.size,1,none⟩=some q) :
 w5.cell? ⟨wr.heap.size,0,none⟩=some x∧w5.cell? ⟨w.heap.size,0,none⟩=some p∧w5.cell? ⟨w.heap.size,1,none⟩=some q∧Below w.heap.size w w5∧aC W4 w5 (fun x=>w3.heap.size≤x):=by
 have fC:∀ k,(k<w3.heap.size∨k=wr.heap.size)→¬ (k=w3.heap.size∨v.ownBlock=some k):=fun k hk hh=>by
  have h1:=lt_of_block hE.var
  rcases hh with rfl | hh
  ·omega
  ·have:=hE.own hh
   omega
 have ka:=kept_alloc wr o
 refine ⟨hU.kept.cell y0 (fC _ (.inr rfl)),hU.kept.cell ya (fC _ (.inl (by omega))),hU.kept.cell yb (fC _ (.inl (by omega))),?_,(hK.trans ka fun _ _ h=>h.elim).trans hU.kept fun k _ hk=>?_⟩
 ·refine ⟨hU.kept.os.trans (ka.os.trans EX.os),hU.kept.tape.trans (ka.tape.trans EX.tape),hU.kept.output.trans (ka.output.trans EX.output),gX EX.size (gX ka.size hU.kept.size),fun k hk=>?_⟩
  have lX:k<wr.heap.size:=mK hk EX.size
  exact (hU.kept.block k (mK lX ka.size) (fC _ (.inl (by omega)))).trans ((ka.block k lX id).trans (EX.block k hk))
 ·rcases hk with rfl | hk
  ·exact bT _
  ·have:=(hE.own hk).1
   omega
theorem Yi (H37:eO Tryz.prog B 37 c37) (H41:eO Tryz.prog B 41 c41) (H81:eO Tryz.prog B 81 c81) {w:World} {G:Nat→Nat} {rb ro lb lo c0 c1:Nat} (hT:TM w G nY #[.slice (some ⟨rb,ro,none⟩) 2 c0,.slice (some ⟨lb,lo,none⟩) 1 c1]) (hr:Qy w rb ro) (hl:zx w lb lo) :
 Calls Tryz.prog 31 #[.agg #[.slice (some ⟨rb,ro,none⟩) 2 c0,.slice (some ⟨lb,lo,none⟩) 1 c1],.int .i64 8] w fun e w'=>∃ v,e = .returned (.tuple #[.agg #[.int .i64 8,v],.int .i64 0])∧w'.ownsRow w.heap.size 134 4 v 4 (H6 vM)∧Below w.heap.size w w':=by
 have xB:Below w.heap.size w ((w.alloc (.cells #[.slice (some ⟨rb,ro,none⟩) 2 c0,.slice (some ⟨lb,lo,none⟩) 1 c1] 28)).alloc (.cells #[.int .i64 0,.slice none 0 0] 31)):=((Below.refl _ _).alloc (bT _) _).alloc (by simp) _
 have h37:=r37 H37 (hT.below xB)
 rw [show lT nY=0 by decide] at h37
 have k0:((w.alloc (.cells #[.slice (some ⟨rb,ro,none⟩) 2 c0,.slice (some ⟨lb,lo,none⟩) 1 c1] 28)).alloc (.cells #[.int .i64 0,.slice none 0 0] 31)).cell? ⟨w.heap.size,0,none⟩=some (.slice (some ⟨rb,ro,none⟩) 2 c0):=(kept_alloc _ _).cell (bV _ _ _ _) id;have k1:((w.alloc (.cells #[.slice (some ⟨rb,ro,none⟩) 2 c0,.slice (some ⟨lb,lo,none⟩) 1 c1] 28)).alloc (.cells #[.int .i64 0,.slice none 0 0] 31)).cell? ⟨w.heap.size,1,none⟩=some (.slice (some ⟨lb,lo,none⟩) 1 c1):=(kept_alloc _ _).cell (bV _ _ _ _) id
 have g1:((w.alloc (.cells #[.slice (some ⟨rb,ro,none⟩) 2 c0,.slice (some ⟨lb,lo,none⟩) 1 c1] 28)).alloc (.cells #[.int .i64 0,.slice none 0 0] 31)).heap[w.heap.size+1]? = some (.cells #[.int .i64 0,.slice none 0 0] 31 (0,0)):=VI (by simp) _
 go_enter Tryz.func31,Tryz.ntmps31
 go_wp2_with (first
  | (go_at_call 37;refine h37.mono ?_;rintro e w2 ⟨rfl,yF⟩;have alm:=Below.kT xB yF;have a0:=(aC.of_below yF fun _=>False).cell k0 id;have a1:=(aC.of_below yF fun _=>False).cell k1 id;have h81:=r81 H81 (n:=8) (by constructor<;>decide) (hT.below alm).gz (hT.below alm).gl;rw [show rQ 8=true by decide] at h81)
  | (go_at_call 81;refine h81.mono ?_;rintro e w3 ⟨rfl,TJ⟩;have aqU:=Below.kT alm TJ;have b0:=(aC.of_below TJ fun _=>False).cell a0 id;have b1:=(aC.of_below TJ fun _=>False).cell a1 id;have d0:(w3.alloc (.cells #[.int .i64 8,.slice none 0 0] 31)).cell? ⟨w.heap.size,0,none⟩=some (.slice (some ⟨rb,ro,none⟩) 2 c0):=(kept_alloc w3 _).cell b0 id;have d1:(w3.alloc (.cells #[.int .i64 8,.slice none 0 0] 31)).cell? ⟨w.heap.size,1,none⟩=some (.slice (some ⟨lb,lo,none⟩) 1 c1):=(kept_alloc w3 _).cell b1 id))
 have EW:Below w.heap.size w (w3.alloc (.cells #[.int .i64 8,.slice none 0 0] 31)):=aqU.alloc aqU.size _
 have hs3:w.heap.size+2≤w3.heap.size:=by have h1:=yF.size;have h2:=TJ.size;simp only [World.size_alloc] at h1;omega
 go_loopw [37] (fun v37 wr=>∃ (k:Nat) (v:Value),k≤2∧v37 = .int .i64 k∧vJ wr (w3.heap.size+1) w3.heap.size 8 v (vM.take (2*k))∧aC (w3.alloc (.cells #[.int .i64 8,.slice none 0 0] 31)) wr (fun x=>w3.heap.size≤x)) (fun v37 _=>2 - (RowKit.intOf v37).toNat)
 case atStart=>exact ⟨0,.slice none 0 0,by omega,rfl,⟨by omega,by simp,VI rfl _,rfl,.inl ⟨rfl,rfl⟩⟩,aC.refl _ _⟩
 case round=>
  obtain ⟨k,v,hk,rfl,hE,hK⟩:=hrel
  have e0:=hK.cell d0 (by omega)
  have e1:=hK.cell d1 (by omega)
  have EX:Below w.heap.size w wr:=⟨hK.os.trans EW.os,hK.tape.trans EW.tape,hK.output.trans EW.output,gX EW.size hK.size,fun x hx=>(hK.block x (mK hx EW.size) (by omega)).trans (EW.block x hx)⟩
  have hTr:=hT.below EX;have hlr:=hl.kept EX;have hrr:=hr.kept EX;obtain ⟨p0,p1,p2,p3⟩:=hrr
  have hk3:k=0∨k=1∨k=2:=by omega
  rcases hk3 with rfl | rfl | rfl
  ·have hEa:=hE.below ((Below.refl wr.heap.size wr).alloc (bT _) (.cells #[.int .i64 1,.bool true] 48))
   have y0:(wr.alloc (.cells #[.int .i64 1,.bool true] 48)).cell? ⟨wr.heap.size,0,none⟩=some (.int .i64 1):=bV _ _ _ _;have ya:=(kept_alloc wr (.cells #[.int .i64 1,.bool true] 48)).cell e0 id;have yb:=(kept_alloc wr (.cells #[.int .i64 1,.bool true] 48)).cell e1 id
   have c82:=wZ hEa (by decide) (a:=1) (b:=3) (c:=1)
   go_wp2_with (first
    | (go_at_call 82;refine c82.mono ?_;rintro e w5 ⟨rfl,v5,hE5,hU5⟩;obtain ⟨z0,z1,z2,hB5,hK5⟩:=KU hE EX hs3 hK hU5 y0 ya yb;have c83:=KT H41 (hT.below hB5) (hl.kept hB5) (r:=1) (by decide))
    | (go_at_call 83;refine c83.mono ?_;rintro e w6 ⟨b6,c6,rfl,hb6,hc6,hB6⟩;have x0:=(aC.of_below hB6 fun _=>False).cell z0 id;have hE6:=hE5.below hB6;have hK6:aC (w3.alloc (.cells #[.int .i64 8,.slice none 0 0] 31)) w6 (fun x=>w3.heap.size≤x):=hK5.trans (aC.of_below hB6 fun _=>False) (fun _ _ h=>h.elim)))
   go_loopw [52] (fun v52 wq=>(v52 = .int .i64 0∧wq=w6)∨(v52 = .int .i64 1∧∃ v:Value,vJ wq (w3.heap.size+1) w3.heap.size 8 v (vM.take (2*1))∧aC (w3.alloc (.cells #[.int .i64 8,.slice none 0 0] 31)) wq (fun x=>w3.heap.size≤x))) (fun v52 _=>1 - (RowKit.intOf v52).toNat)
   case atStart=>exact .inl ⟨rfl,rfl⟩
   case round=>
    rcases hrel with ⟨rfl,rfl⟩ | ⟨rfl,v6,hE7,hK7⟩
    ·have alp:=wZ hE6 (by decide) (a:=1) (b:=1) (c:=3 - 1)
     go_wp2_with (first
      | (go_at_call 82;refine alp.mono ?_;rintro e w7 ⟨rfl,v7,hE7,hU7⟩))
     refine ⟨.inr ⟨rfl,v7,hE7,hK6.trans hU7.kept (fun x _ hx=>?_)⟩,by decide⟩
     rcases hx with rfl | hx
     ·exact bT _
     ·have:=(hE6.own hx).1
      omega
    ·go_wp2
     exact ⟨⟨1,v6,by omega,rfl,hE7,hK7⟩,by decide⟩
  ·have hEa:=hE.below ((Below.refl wr.heap.size wr).alloc (bT _) (.cells #[.int .i64 2,.bool true] 48))
   have y0:(wr.alloc (.cells #[.int .i64 2,.bool true] 48)).cell? ⟨wr.heap.size,0,none⟩=some (.int .i64 2):=bV _ _ _ _;have ya:=(kept_alloc wr (.cells #[.int .i64 2,.bool true] 48)).cell e0 id;have yb:=(kept_alloc wr (.cells #[.int .i64 2,.bool true] 48)).cell e1 id
   have c82:=wZ hEa (by decide) (a:=2) (b:=3) (c:=2)
   go_wp2_with (first
    | (go_at_call 82;refine c82.mono ?_;rintro e w5 ⟨rfl,v5,hE5,hU5⟩;obtain ⟨z0,z1,z2,hB5,hK5⟩:=KU hE EX hs3 hK hU5 y0 ya yb;have c83:=KT H41 (hT.below hB5) (hl.kept hB5) (r:=2) (by decide))
    | (go_at_call 83;refine c83.mono ?_;rintro e w6 ⟨b6,c6,rfl,hb6,hc6,hB6⟩;have x0:=(aC.of_below hB6 fun _=>False).cell z0 id;have hE6:=hE5.below hB6;have hK6:aC (w3.alloc (.cells #[.int .i64 8,.slice none 0 0] 31)) w6 (fun x=>w3.heap.size≤x):=hK5.trans (aC.of_below hB6 fun _=>False) (fun _ _ h=>h.elim)))
   go_loopw [52] (fun v52 wq=>(v52 = .int .i64 0∧wq=w6)∨(v52 = .int .i64 1∧∃ v:Value,vJ wq (w3.heap.size+1) w3.heap.size 8 v (vM.take (2*2))∧aC (w3.alloc (.cells #[.int .i64 8,.slice none 0 0] 31)) wq (fun x=>w3.heap.size≤x))) (fun v52 _=>1 - (RowKit.intOf v52).toNat)
   case atStart=>exact .inl ⟨rfl,rfl⟩
   case round=>
    rcases hrel with ⟨rfl,rfl⟩ | ⟨rfl,v6,hE7,hK7⟩
    ·have alp:=wZ hE6 (by decide) (a:=2) (b:=1) (c:=3 - 2)
     go_wp2_with (first
      | (go_at_call 82;refine alp.mono ?_;rintro e w7 ⟨rfl,v7,hE7,hU7⟩))
     refine ⟨.inr ⟨rfl,v7,hE7,hK6.trans hU7.kept (fun x _ hx=>?_)⟩,by decide⟩
     rcases hx with rfl | hx
     ·exact bT _
     ·have:=(hE6.own hx).1
      omega
    ·go_wp2
     exact ⟨⟨2,v6,by omega,rfl,hE7,hK7⟩,by decide⟩
  ·have q1:=(aC.of_below yF fun _=>False).block _ (lt_of_block g1) id
   have f1:=(aC.of_below TJ fun _=>False).block (w.heap.size+1) (by have:=yF.size;have:=lt_of_block g1;omega) id
   have f2:=(kept_alloc w3 (.cells #[.int .i64 8,.slice none 0 0] 31)).block (w.heap.size+1) (by omega) id
   have f3:=hK.block (w.heap.size+1) (by simp only [World.size_alloc];omega) (by omega)
   have hg:=f3.trans (f2.trans (f1.trans (q1.trans g1)));have s0:=wX hg;have s1:=oG hg;have t0:=X4 hg;have t1:=wY hg;have m0:=wX hE.var;have m1:=oG hE.var
   obtain ⟨p9,c9,hv9⟩:∃ p9 c9,v = .slice p9 4 c9:=DU hE.row
   subst hv9;have n1:=M8 hg (u:=.int .i64 8);have n2:=Bv n1 (u:=.slice p9 4 c9);have w1:=oG n1;have w2':=wY n1;have w3':=wX n2;have w4:=oG n2
   go_wp2
   refine bodyPost_ret (aqT rfl n2 rfl) rfl ?_;refine ⟨_,rfl,?_,?_⟩
   ·have oU:=hE.row
    rcases oU.2 with ⟨h1,h2⟩ | ⟨g,cap,cur,e1,e2,e3,e4⟩
    ·exact absurd h2 (by decide)
    ·have Uf:g≠w.heap.size+1:=by omega
     exact ⟨oU.1,.inr ⟨g,cap,cur,e1,by omega,(Below.heap_setCell _ _ _ _ (by exact Uf)).trans ((Below.heap_setCell _ _ _ _ (by exact Uf)).trans e3),e4⟩⟩
   ·refine ⟨EX.os,EX.tape,EX.output,by simp only [World.size_setCell];exact EX.size,fun k hk=>?_⟩
    rw [Below.heap_setCell _ _ _ _ (by show k≠w.heap.size+1;omega),Below.heap_setCell _ _ _ _ (by show k≠w.heap.size+1;omega)]
    exact EX.block k hk
theorem Qz (d e:D):(∀ t,2≤t→get [(0,d),(2,e)] (2*t) = .undef)∧∀ id,get [(0,d),(2,e)] (2*id+1) = .undef:=by
 refine ⟨fun t ht=>?_,fun id=>?_⟩
 ·simp only [get,qI (show 2*t≠0 by omega),qI (show 2*t≠2 by omega),bJ]
 ·simp only [get,qI (show 2*id+1≠0 by omega),qI (show 2*id+1≠2 by omega),bJ]
set_option synthInstance.maxSize 100000 in
set_option synthInstance.maxHeartbeats 400000 in
theorem TN {g:To} {n:Int} {y} (h:aaQ g n=some y):g=nY∧n=8∧y=(((8,vM,()),0,()),()):=by
 obtain ⟨h1,h2⟩:=aA.og h;rw [dA] at h1;exact ⟨vP h1.1,vP h1.2,h2.symm⟩
theorem aqW (H37:eO Tryz.prog B 37 c37) (H41:eO Tryz.prog B 41 c41) (H81:eO Tryz.prog B 81 c81):eO Tryz.prog B 31 c31:=by
 rintro ⟨⟨⟩,g,n,⟨⟩⟩ y hy C args w G pt hm gP iM R K hK;obtain ⟨rfl,rfl,rfl⟩:=TN hy
 obtain ⟨v0,v1,rfl⟩:∃ v0 v1,args = #[v0,v1]:=by
  have:args.size=2:=iM
  match args,this with
  | ⟨[v0,v1]⟩,_=>exact ⟨v0,v1,rfl⟩
 have r0:aU w G pt (.agg [.sl 0 Nz nY.1,.sl 0 KR nY.2.1]) v0:=R.tm 0;obtain ⟨uQ,-⟩:v1 = .int .i64 8∧IntKind.i64.has 8:=R.tm 1;have r0':=Ic r0
 obtain ⟨arr,rfl,eU,hr⟩:∃ arr,v0 = .agg arr∧arr.size=2∧aP w G pt [.sl 0 Nz nY.1,.sl 0 KR nY.2.1] (aS arr):=r0
 obtain ⟨u0,u1,rfl⟩:∃ u0 u1,arr = #[u0,u1]:=by
  match arr,eU with
  | ⟨[u0,u1]⟩,_=>exact ⟨u0,u1,rfl⟩
 obtain ⟨a0,n0,c0,rfl,QW,_,_,YV⟩:∃ a n c,u0 = .slice a n c∧n=2∧n*16≤lW∧VQ w G 0 Nz nY.1 a c:=(hr 0 (show (0:Nat)<2 by decide)).1
 obtain ⟨a1,n1,c1,rfl,V3,_,_,Yt⟩:∃ a n c,u1 = .slice a n c∧n=1∧n*40≤lW∧VQ w G 0 KR nY.2.1 a c:=(hr 1 (show (1:Nat)<2 by decide)).1
 subst uQ QW V3
 obtain ⟨rb,ro,rfl,_,hrr⟩:=YV.resolve_left (fun h=>by cases h)
 obtain ⟨lb,lo,rfl,_,hll⟩:=Yt.resolve_left (fun h=>by cases h)
 have aw8:Qy w rb ro:=by
  obtain ⟨⟨p0,-⟩,p1,-⟩:=hrr 0 (show (0:Nat)<2 by decide)
  obtain ⟨⟨p2,-⟩,p3,-⟩:=hrr 1 (show (1:Nat)<2 by decide)
  exact ⟨p0,p1,p2,p3⟩
 have hlk:zx w lb lo:=by
  obtain ⟨⟨p0,-⟩,⟨p1,-⟩,⟨p2,-⟩,⟨p3,-⟩,⟨p4,-⟩,-⟩:=hll 0 (show (0:Nat)<1 by decide)
  exact ⟨p0,p1,p2,p3,p4⟩
 have Nk:Qx w G:=fun g k l hg=>R.gl g k l hg
 refine (Yi H37 H41 H81 ⟨r0',R.gz,Nk⟩ aw8 hlk).mono ?_;rintro e w' ⟨v,rfl,fP,hb⟩
 obtain ⟨gb,cap,cur,rfl,e2,e3,e4,e5,e6,e7⟩:=fP.2.resolve_left fun h=>absurd h.2 (by decide)
 have hg:=lt_of_block e3
 have z0:IntKind.i64.has 0:=by constructor<;>decide
 have z1:IntKind.i64.has 1:=by constructor<;>decide
 have z2:IntKind.i64.has 2:=by constructor<;>decide
 have z3:IntKind.i64.has 3:=by constructor<;>decide
 have z8:IntKind.i64.has 8:=by constructor<;>decide
 have zS:fA w' (fun b=>if b=gb then 16 else G b) adT vM gb 0:=by
  intro i hi;have hi:i<4:=hi
  have hc:∀ j,j<16→w'.cell? ⟨gb,j,none⟩=(H6 vM)[j]?:=fun j hj=>by
   have:=fP.cellAt j (by exact hj)
   rw [this,iw (show j<(H6 vM).length from hj)]
  have hi4:i=0∨i=1∨i=2∨i=3:=by omega
  rcases hi4 with rfl | rfl | rfl | rfl
  ·exact ⟨⟨hc 0 (by decide),z0⟩,⟨hc 1 (by decide),z1⟩,⟨hc 2 (by decide),z3⟩,⟨hc 3 (by decide),z1⟩,trivial⟩
  ·exact ⟨⟨hc 4 (by decide),z1⟩,⟨hc 5 (by decide),z1⟩,⟨hc 6 (by decide),z1⟩,⟨hc 7 (by decide),z2⟩,trivial⟩
  ·exact ⟨⟨hc 8 (by decide),z2⟩,⟨hc 9 (by decide),z2⟩,⟨hc 10 (by decide),z3⟩,⟨hc 11 (by decide),z2⟩,trivial⟩
  ·exact ⟨⟨hc 12 (by decide),z3⟩,⟨hc 13 (by decide),z2⟩,⟨hc 14 (by decide),z1⟩,⟨hc 15 (by decide),z1⟩,trivial⟩
 have hR:=Rel.agV (E':=uo B c31.rs.num c31.bM) (G':=fun b=>if b=gb then 16 else G b) R hb (fun b h=>if_neg (by omega)) (fun b h=>by
  show (if b=gb then _ else _)=_
  rw [if_neg (by omega)]
  exact R.gz b (gX hb.size h)) (Qz _ _).2 (s':=gH c31 (((8,vM,()),0,()),())) (n:=2) (vs:=#[.agg #[.int .i64 8,.slice (some ⟨gb,0,none⟩) 4 cap],.int .i64 0]) rfl (fun t=>by
  match t with
  | 0=>
   refine ⟨_,rfl,rfl,fun j hj=>?_⟩
   match j,hj with
   | 0,_=>exact ⟨⟨rfl,z8⟩,rfl⟩
   | 1,_=>exact ⟨⟨_,_,cap,rfl,rfl,by decide,e4,.inr ⟨gb,0,rfl,by show 0+4*4≤if gb=gb then 16 else G gb;rw [if_pos rfl];decide,zS⟩⟩,rfl⟩
  | 1=>exact ⟨rfl,z0⟩
  | t+2=>rw [show get (gH c31 (((8,vM,()),0,()),())) (2*(t+2)) = .undef from (Qz _ _).1 (t+2) (by omega)];trivial) (fun t b=>by
  match t with
  | 0=>rfl
  | 1=>rfl
  | t+2=>rw [show get (gH c31 (((8,vM,()),0,()),())) (2*(t+2)) = .undef from (Qz _ _).1 (t+2) (by omega)];exact dX b _) (Qz _ _).2 (Qz _ _).1 rfl rfl
 exact hK _ _ _ _ hR
open Go.Shelf
open Go.ChangeMaps (setBlock)
attribute [local go_sem] Oper.semAt_some
abbrev LS:={ x:Int×Ld // IntKind.i64.has x.2.1∧IntKind.i64.has x.2.2.1∧IntKind.i64.has x.2.2.2.1 }
def VJ (x:LS):Array Value:=#[.int .i64 x.1.1,.agg #[.int .i64 x.1.2.1,.int .i64 x.1.2.2.1,.int .i64 x.1.2.2.2.1]]
def upto {α:Type} (f:Nat→α) (k:Nat):List α:=(List.range k).map f
theorem KV {α:Type} (f:Nat→α) (k:Nat):upto f (k+1)=upto f k++[f k]:=by simp [upto,List.range_succ]
theorem QA {α:Type} (f:Nat→α) (k:Nat):(upto f k).length=k:=by simp [upto]
def KB (n₀ Bs:Nat) (W W':World):Prop:=Below n₀ W W'∧W'.heap[Bs]? = W.heap[Bs]?
theorem KB.refl (n₀ Bs:Nat) (W:World):KB n₀ Bs W W:=⟨Below.refl _ _,rfl⟩
theorem KB.trans {n₀ Bs:Nat} {A B C:World} (h:KB n₀ Bs A B) (k:KB n₀ Bs B C):KB n₀ Bs A C:=⟨h.1.trans k.1,k.2.trans h.2⟩
theorem KB.box {n₀ Bs:Nat} {A B:World} (h:KB n₀ Bs A B):B.cell? ⟨Bs,0,none⟩=A.cell? ⟨Bs,0,none⟩:=cell_of_heap h.2 0
theorem afS (n:Nat) (hn:1≤n) (l Bs n₀ b off len cap:Nat) (ad:Option Addr) (ha:len=0∨ad=some ⟨b,off,none⟩) (f:Nat→LS) (hlen:len≤17592186044416) (Ui:0<len→b<n₀) (J Jx:List LS→World→Prop)
 (hY:∀ pre x W,J pre W→pre.length<len→YieldAt Fence.wide (n - 1) Tryz.prog l (VJ x) W fun e W'=>
  (e = .returned (.bool true)∧J (pre++[x]) W'∧KB n₀ Bs W W')∨(e = .returned (.bool false)∧Jx (pre++[x]) W'))
 (W:World) (hBs:W.cell? ⟨Bs,0,none⟩=some (.slice ad len cap)) (hf:∀ k,k<len→(f k).1.1=(len:Int) - 1 - k)
 (hc:∀ k,k<len→W.cell? ⟨b,off+(len - 1 - k)*3,none⟩=some (.int .i64 (f k).1.2.1)∧W.cell? ⟨b,off+(len - 1 - k)*3+1,none⟩=some (.int .i64 (f k).1.2.2.1)∧W.cell? ⟨b,off+(len - 1 - k)*3+2,none⟩=some (.int .i64 (f k).1.2.2.2.1)) (h0:J [] W) :
 CallsIn Fence.wide n Tryz.prog 168 #[.func (.yield l) #[] #[],.pointer (some ⟨Bs,0,none⟩)] W fun e W'=>(∃ v,e = .returned v) ∧
  ((∃ ys,ys=upto f len∧J ys W')∨(∃ pre,(∃ k,k≤len∧pre=upto f k)∧Jx pre W')):=by
 refine callsIn_of_wp Tryz.func168 rfl trivial ?_ rfl;simp only [Tryz.ntmps168,List.size_toArray,lD,List.length_nil,Nat.reduceAdd,Nat.reduceSub,Array.replicate_succ,Array.replicate_zero,List.push_toArray,List.append_toArray,List.nil_append,List.cons_append]
 gi_wp2
 gi_loopw [3] (fun i wr=>∃ k:Nat,k≤len∧i = .int .i64 ((len:Int) - 1 - k)∧J (upto f k) wr∧KB n₀ Bs W wr)
  (fun i _=>((RowKit.intOf i)+1).toNat)
 case atStart=>exact ⟨0,mY _,by simp,h0,KB.refl _ _ _⟩
 case round=>
  obtain ⟨k,hk,rfl,hJs,hnx⟩:=hrel
  by_cases aT:k<len
  ·obtain rfl:=ha.resolve_left (by omega)
   have hb:=Ui (by omega)
   obtain ⟨fn,tmps,assign,body,hy,hR⟩:=hY _ (f k) wr hJs (by rw [QA];exact aT)
   obtain ⟨q0,q1,q2⟩:=hc k aT;have p0:=(hnx.1.cell (p:=⟨b,_,none⟩) hb).trans q0;have p1:=(hnx.1.cell (p:=⟨b,_,none⟩) hb).trans q1;have p2:=(hnx.1.cell (p:=⟨b,_,none⟩) hb).trans q2;have pS:=hnx.box.trans hBs;have hfk:=hf k aT
   have e1:(len:Int) - 1 - k=((len - 1 - k:Nat):Int):=by omega
   rw [e1] at hfk ⊢
   have hj:len - 1 - k<len:=by omega
   have hj0:(0:Int)≤((len - 1 - k:Nat):Int):=by omega
   have K8:((len - 1 - k:Nat):Int)<(len:Int):=by omega
   have PO:((len - 1 - k:Nat):Int)=(len:Int) - 1 - k:=e1.symm;unfold VJ at hy;rw [hfk] at hy;generalize hJJ:len - 1 - k=jj at *;have A:Aside (KB n₀ Bs W wr∧k<len∧(jj:Int)=(len:Int) - 1 - k):=⟨hnx,aT,PO⟩;clear hnx aT PO e1 hJJ hc hf q0 q1 q2
   gi_wp2
   refine hR.mono ?_;rintro e W3 (⟨rfl,hJ3,hk3⟩ | ⟨rfl,aw9⟩)
   ·gi_wp2
    go_roundw
    case rel=>exact ⟨k+1,by have:=A.out;omega,by have:=A.out.2.2;simp;omega,by rw [KV];exact hJ3,A.out.1.trans hk3⟩
    case measure=>first | omega | (simp [RowKit.intOf];done) | (simp [RowKit.intOf];omega)
   ·gi_wp2
    refine bodyPost_ret (results_none rfl _ _ _) rfl ?_
    exact ⟨⟨_,rfl⟩,.inr ⟨_,⟨k+1,by have:=A.out;omega,(KV _ _).symm⟩,aw9⟩⟩
  ·obtain rfl:k=len:=by omega
   have e1:(k:Int) - 1 - k = -1:=by omega
   rw [e1]
   gi_wp2
   go_end0
   exact ⟨⟨_,rfl⟩,.inl ⟨_,rfl,hJs⟩⟩
theorem afT (n:Nat) (a:Option Addr) (len cap:Nat) (w:World) :
 CallsIn Fence.wide n Tryz.prog 131 #[.slice a len cap] w fun e w'=>e = .returned (.func (.func 168) #[] #[.pointer (some ⟨w.heap.size,0,none⟩)])∧w' = w.alloc (.cells #[.slice a len cap] 82):=by
 refine callsIn_of_wp Tryz.func131 rfl trivial ?_ rfl;simp only [Tryz.ntmps131,List.size_toArray,lD,List.length_nil,Nat.reduceAdd,Nat.reduceSub,Array.replicate_succ,Array.replicate_zero,List.push_toArray,List.append_toArray,List.nil_append,List.cons_append]
 gi_wp2
 go_ret
 exact ⟨rfl,rfl⟩
theorem uz {F:Fence} {nF:Nat} {P:Program} {w w':World} {ops:Array Oper} {rest:List Oper} {o:Oper} {a:Act} {Q:Exit→Act→World→Prop} (hg:o.guard=none) (m x v:Operand) (t:TypeId) (aY:o.op=Op.mapUpdate t m x v)
 {mv key val:Value} (hm:a.eval m=mv) (hx:a.eval x=key) (hv:a.eval v=val) (bB:(Instr.mapUpdate t mv key val).run P w = .ok () w') (hK:wpListIn F nF P ops Q rest (a.put o.dst undef) w'):wpListIn F nF P ops Q (o::rest) a w:=by
 refine wpListIn_plain hg fun K' hK'=>?_
 unfold Oper.wpIn
 refine ⟨by simp [Oper.about,aY],?_⟩
 rw [Oper.semAt_plain F _ _ (by rw [aY];intro c T9;cases T9)]
 simp [execOp,aY,hm,hx,hv,bB,Result.andThen];exact hK' _ _ hK
theorem acZ (w:World):MapAt (w.alloc (.map #[] 0)) w.heap.size wQ (.int .i64) []:=by
 refine ⟨#[],0,World.alloc_heap_new w _,rfl,.nil,fun e he=>(by simp at he),.nil,fun p hp=>(by cases hp),rfl,rfl⟩
def afU (m:Mp) (x:LS):Mp:=mp m (x.1.2.1,x.1.2.2.1,()) x.1.2.2.2.1
theorem Yj {w:World} {a:Option Addr} {len cap b off:Nat} {f:Nat→LS} (hlen:len≤17592186044416) (ha:len=0∨a=some ⟨b,off,none⟩) (Ui:0<len→b<w.heap.size) (hf:∀ k,k<len→(f k).1.1=(len:Int) - 1 - k)
 (hc:∀ k,k<len→w.cell? ⟨b,off+(len - 1 - k)*3,none⟩=some (.int .i64 (f k).1.2.1)∧w.cell? ⟨b,off+(len - 1 - k)*3+1,none⟩=some (.int .i64 (f k).1.2.2.1)∧w.cell? ⟨b,off+(len - 1 - k)*3+2,none⟩=some (.int .i64 (f k).1.2.2.2.1)) :
 CallsIn Fence.wide 3 Tryz.prog 62 #[.slice a len cap] w fun e W'=>e = .returned (.map (some w.heap.size))∧MapAt W' w.heap.size wQ (.int .i64) ((upto f len).foldl afU [])∧Below w.heap.size w W':=by
 have hmm:=@run_makeMap Tryz.prog;refine callsIn_of_wp_marks Tryz.func62 rfl trivial ?_ rfl;simp only [Tryz.ntmps62,List.size_toArray,lD,List.length_nil,Nat.reduceAdd,Nat.reduceSub,Array.replicate_succ,Array.replicate_zero,List.push_toArray,List.append_toArray,List.nil_append,List.cons_append]
 gi_wp2_with (refine ⟨trivial,?_⟩;gi_at_call 131;refine (afT _ _ _ _ _).mono ?_;rintro e w' ⟨rfl,rfl⟩)
 have hm0:=acZ w;have bS:=(Boxed.new (w.alloc (.map #[] 0)) 138 (.map (some w.heap.size))).alloc (.cells #[.slice a len cap] 82);have bN:=Boxed.new ((w.alloc (.map #[] 0)).alloc (.cells #[.map (some w.heap.size)] 138)) 82 (.slice a len cap);simp only [World.size_alloc] at bS bN
 have xB:Below w.heap.size w (((w.alloc (.map #[] 0)).alloc (.cells #[.map (some w.heap.size)] 138)).alloc (.cells #[.slice a len cap] 82)):=(((Below.refl _ w).alloc (bT _) _).alloc (by simp) _).alloc (by simp;omega) _
 generalize hWW:(((w.alloc (.map #[] 0)).alloc (.cells #[.map (some w.heap.size)] 138)).alloc (.cells #[.slice a len cap] 82))=W1 at *
 have eU:W1.heap.size=w.heap.size+1+1+1:=by rw [←hWW];simp
 refine wpIn_rangeFunc_ownH (α:=LS) rfl (by decide) (gf:=168) (lb:=#[.pointer (some ⟨w.heap.size+1+1,0,none⟩)]) rfl trivial (enters_of Tryz.func168 (by kernel_rfl) rfl) (encs:=VJ) (Kp:=KB w.heap.size (w.heap.size+1+1)) (S:=fun ys=>ys=upto f len) (Sp:=fun pre=>∃ k,k≤len∧pre=upto f k) (N:=len) (w0:=W1)
  (fun l J Jx W hW _ _ hY h0=>?seq) KB.trans ?kb (Below.refl _ _) (fun _=>rfl)
  (fun pre W=>(Boxed W (w.heap.size+1) 138 (.map (some w.heap.size))∧MapAt W w.heap.size wQ (.int .i64) (pre.foldl afU []))∧Below w.heap.size w W∧W1.heap.size≤W.heap.size)
  (fun _ _ _=>False) ?own (fun _ _ _ _ _ hs _ _=>hs) ⟨⟨bS,?m0⟩,xB,bT _⟩
  (fun x a' W=>∃ Bx,W.heap[Bx]? = some (.cells #[.int .i64 x.1.2.1,.int .i64 x.1.2.2.1,.int .i64 x.1.2.2.2.1] 234 (0,0))∧a' = { tmps:=#[.slice a len cap,undef,.map none,.pointer (some ⟨w.heap.size+1,0,none⟩),undef,.pointer (some ⟨Bx,0,none⟩),.map (some w.heap.size),.slice a len cap,.func (.func 168) #[] #[.pointer (some ⟨w.heap.size+1+1,0,none⟩)],.int .i64 x.1.1,.agg #[.int .i64 x.1.2.1,.int .i64 x.1.2.2.1,.int .i64 x.1.2.2.2.1],undef,undef,undef,undef,undef,undef,undef,undef,undef],defers:=[] })
  ?ax ?assign ?body ?done ?stop
 case seq=>
  have hBW:Below w.heap.size w W:=xB.trans (hW.mono xB.size)
  refine afS 2 (by decide) l (w.heap.size+1+1) w.heap.size b off len cap a ha f hlen Ui J Jx hY W ((hW.cell (p:=⟨w.heap.size+1+1,0,none⟩) (by rw [eU];simp)).trans bN.cell) hf (fun k hk=>?_) h0
  obtain ⟨q0,q1,q2⟩:=hc k hk
  have hb:=Ui (by omega)
  exact ⟨(hBW.cell (p:=⟨b,_,none⟩) hb).trans q0,(hBW.cell (p:=⟨b,_,none⟩) hb).trans q1,(hBW.cell (p:=⟨b,_,none⟩) hb).trans q2⟩
 case kb=>
  intro W l o o' hl h h1 h2
  refine ⟨belowK_b (w:=W1) (by omega) W l o o' hl h h1 h2,World.putObj_heap_other (by omega)⟩
 case own=>
  refine OwnFrom.and (OwnFrom.and (Own.from (boxed_own _ _ _) _) (fun s A B row hs hg hr=>?_)) (OwnFrom.and (ownFrom_below (bT _) (by omega)) (fun s A B row hs hg hr=>gX hs hg.size))
  have YV:=hs;obtain ⟨es,ck,hh,_⟩:=YV
  exact hs.same (hg.block w.heap.size (E5 hh).1 (fun e=>by have:=(hr _ e.symm).1;omega))
 case m0=>
  have xq:Below (w.alloc (.map #[] 0)).heap.size (w.alloc (.map #[] 0)) W1:=by
   rw [←hWW]
   exact ((Below.refl _ _).alloc (bT _) _).alloc (by simp) _
  exact hm0.vK xq
 case ax=>
  rintro x a' _ A B row ⟨Bx,h2,h3⟩ hg hr
  refine ⟨Bx,(hg.block Bx (E5 h2).1 (fun e=>?_)).trans h2,h3⟩
  obtain ⟨_,o,ho,hc⟩:=hr Bx e.symm;rw [h2] at ho;cases ho;cases hc
 case assign=>
  rintro l pre x W K ⟨⟨WS,hM⟩,hB,hW1⟩ hK;unfold VJ
  gi_wp2
  have hba:Below W.heap.size W (W.alloc (.cells #[.int .i64 x.1.2.1,.int .i64 x.1.2.2.1,.int .i64 x.1.2.2.2.1] 234)):=(Below.refl _ _).alloc (bT _) _
  exact hK _ _ ((KeepsOthers.alloc W _).from _) ⟨hba.mono hB.size,hba.block _ (by omega)⟩ ⟨⟨WS.alloc _,hM.vK hba⟩,hB.trans (hba.mono hB.size),gX hW1 hba.size⟩ ⟨W.heap.size,World.alloc_heap_new W _,rfl⟩
 case body=>
  rintro l pre x a' W hl hr ⟨⟨WS,hM⟩,hB,hW1⟩ ⟨Bx,hcx,rfl⟩ aT
  have c0:W.cell? ⟨Bx,0,none⟩=some (.int .i64 x.1.2.1):=by simp [World.cell?,hcx]
  have c1:W.cell? ⟨Bx,1,none⟩=some (.int .i64 x.1.2.2.1):=by simp [World.cell?,hcx]
  have c2:W.cell? ⟨Bx,2,none⟩=some (.int .i64 x.1.2.2.2.1):=by simp [World.cell?,hcx]
  have cS:=WS.cell;obtain ⟨Yy,ck',bB,hM'⟩:=hM.update lJ Tryz.underlying138 (x:=(x.1.2.1,x.1.2.2.1,())) (y:=x.1.2.2.2.1) ⟨x.2.1,x.2.2.1,trivial⟩ x.2.2.2;have aqY:(Instr.mapUpdate 138 (.map (some w.heap.size)) (.agg #[.int .i64 x.1.2.1,.int .i64 x.1.2.2.1]) (.int .i64 x.1.2.2.2.1)).run Tryz.prog W = .ok () (setBlock W w.heap.size (.map Yy ck')):=bB
  have jY:W.grownBy (setBlock W w.heap.size (.map Yy ck')) (some w.heap.size):=⟨rfl,rfl,rfl,by simp [setBlock],fun k _ hk=>aN (fun e=>hk (by rw [e]))⟩
  have A:Aside (Boxed W (w.heap.size+1) 138 (.map (some w.heap.size))∧Below w.heap.size w W∧W1.heap.size≤W.heap.size):=⟨WS,hB,hW1⟩;clear WS hB hW1 bB hcx
  gi_wp2_with (gi_at_mapUpdate;refine uz rfl _ _ _ _ rfl rfl rfl rfl aqY ?_)
  obtain ⟨WS,hB,hW1⟩:=A.out
  have ku:Below w.heap.size W (setBlock W w.heap.size (.map Yy ck')):=(Below.refl _ W).grown jY hB.size (fun k e=>by cases e;exact bT _)
  refine ⟨KeepsFrom.of_grownBy jY (fun j e=>by cases e;omega),⟨ku,aN (by omega)⟩,⟨WS.kept jY (fun e=>by have:=Option.some.inj e;omega),?_⟩,hB.trans ku,gX hW1 jY.size⟩
  rw [List.foldl_append];exact hM'
 case done=>
  rintro D ys W hD rfl ⟨⟨WS,hM⟩,hB,hW1⟩ hK;have cS:=WS.cell
  gi_wp2
  refine ⟨by simp,.inl ⟨_,_,rfl,run_takeDeferred hK,?_⟩⟩
  exact ⟨_,results_tmp rfl _ _ _,rfl,hM.same (World.putObj_heap_other (by omega)),hB.trans (belowK_b (w:=W1) (by omega) W D _ _ hD hK rfl rfl)⟩
 case stop=>
  rintro D c pre W _ _ h _;exact h.elim
abbrev ldZ:Ty:=.st 24 (.cons (.int .i64) (.cons (.int .i64) (.cons (.int .i64) .unit)))
theorem alr:IntKind.i64.has 0:=⟨by decide,by decide⟩
theorem ac0 {dst st:Nat} {l:List (D×D)} {u:St} (h:ae4 dst st l=some (true,u)):∃ f r z,l=[(.sl f ldZ r,z)]∧u=[(2*dst+1,.bO st GR (.int .i64) (pz r)),(2*dst,.fU dst st)]:=by
 unfold ae4 at h;split at h
 ·rename_i f r z
  simp only [bn,gD,true_and] at h;exact ⟨f,r,z,rfl,h.symm⟩
 ·cases h
theorem afV {w:World} {G:Nat→Nat} {l:List Ld} {b o:Nat} (hr:fA w G ldZ l b o):∀ k (h:k<l.length),(w.cell? ⟨b,o+k*3,none⟩=some (.int .i64 l[k].1)∧w.cell? ⟨b,o+k*3+1,none⟩=some (.int .i64 l[k].2.1)∧w.cell? ⟨b,o+k*3+2,none⟩=some (.int .i64 l[k].2.2.1))∧IntKind.i64.has l[k].1∧IntKind.i64.has l[k].2.1∧IntKind.i64.has l[k].2.2.1:=by
 intro k h;obtain ⟨h1,h2,h3,-⟩:=hr k h;exact ⟨⟨h1.1,h2.1,h3.1⟩,h1.2,h2.2,h3.2⟩
theorem ac1 {l:List Ld} {f:Nat→LS} (hf:∀ k,k<l.length→(f k).1.2=l.getD (l.length - 1 - k) (0,0,0,())):(upto f l.length).foldl afU []=pz l:=by
 have e:(upto f l.length).map (fun x=>x.1.2)=l.reverse:=by
  apply List.ext_getElem
  ·simp [upto]
  ·intro i h1 h2
   have hi:i<l.length:=by simpa [upto] using h1
   simp only [upto,List.getElem_map,List.getElem_range,List.getElem_reverse]
   rw [hf i hi,iW,iw (by omega)]
   rfl
 have e2:∀ (q:List LS) (m:Mp),q.foldl afU m=(q.map fun x=>x.1.2).foldl (fun m (x:Ld)=>mp m (x.1,x.2.1,()) x.2.2.1) m:=by
  intro q
  induction q with
  | nil=>exact fun m=>rfl
  | cons x r ih=>intro m;simp only [List.foldl_cons,jy];exact ih _
 rw [e2,e,List.foldl_reverse];rfl
theorem als:OX Tryz.prog B.glob 62 ae4:=by
 intro E C o cl s a w G pt t u afQ hm ht iN aY qF R hx;obtain ⟨f,r,z,hl,hu⟩:=ac0 hx;subst hu;obtain ⟨x0,iM,e0⟩:=acK hl;have p0:aV s x0 = .sl f ldZ r:=congrArg Prod.fst e0;have r0:=aJ R x0
 obtain ⟨ad,n,c,hv,hn,oN,_,Dj⟩:=uP R r0 (t:=ldZ) (l:=r) (by rw [p0];rfl)
 have oN:n*24≤140737488355328:=oN;subst hn
 obtain ⟨b,off,h1,h2⟩:∃ b off,(List.length (α:=Ld) r=0∨ad=some ⟨b,off,none⟩)∧(∀ k (h:k<List.length (α:=Ld) r),(w.cell? ⟨b,off+k*3,none⟩=some (.int .i64 (r[k]:Ld).1)∧w.cell? ⟨b,off+k*3+1,none⟩=some (.int .i64 (r[k]:Ld).2.1)∧w.cell? ⟨b,off+k*3+2,none⟩=some (.int .i64 (r[k]:Ld).2.2.1))∧IntKind.i64.has (r[k]:Ld).1∧IntKind.i64.has (r[k]:Ld).2.1∧IntKind.i64.has (r[k]:Ld).2.2.1):=by
  rcases Dj with rfl | ⟨b,off,e,hr⟩
  ·exact ⟨0,0,.inl rfl,fun k h=>absurd h (by simp)⟩
  ·exact ⟨b,off,.inr e,fun k h=>afV hr k h⟩
 let ff:Nat→LS:=fun k=>if h:k<List.length (α:=Ld) r then ⟨((List.length (α:=Ld) r:Int) - 1 - k,(r[List.length (α:=Ld) r - 1 - k]'(by omega):Ld)),(h2 (List.length (α:=Ld) r - 1 - k) (by omega)).2⟩ else ⟨(0,(0,0,0,())),alr,alr,alr⟩
 have hff:∀ k (h:k<List.length (α:=Ld) r),(ff k).1=((List.length (α:=Ld) r:Int) - 1 - k,(r[List.length (α:=Ld) r - 1 - k]'(by omega):Ld)):=fun k h=>by show (if h:_ then _ else _:LS).1=_;rw [dif_pos h]
 intro K Q hK
 have bB:=mG (a:=a) (w:=w) aY qF Tryz.func62 (by decide) (by kernel_rfl)
 unfold Oper.wp;rw [bB,Oper.upon_enter]
 have tT:cl.args.map a.eval = #[.slice ad (List.length (α:=Ld) r) c]:=by
  apply Array.ext';rw [Array.toList_map,iM];simp only [jy,List.map_nil,hv]
 rw [tT]
 have GX:=callsIn_wide.1 (Yj (w:=w) (cap:=c) (f:=ff) (len:=List.length (α:=Ld) r) (by omega) h1 (fun hp=>?_) (fun k hk=>by rw [hff k hk]) (fun k hk=>by rw [hff k hk];exact (h2 _ (by omega)).1))
 ·refine GX.mono ?_
  rintro e w' ⟨rfl,hM,Eu⟩
  rw [ac1 (fun k hk=>by rw [hff k hk,iW,iw (by omega)];rfl)] at hM
  generalize gG:aL (get s (2*t+1))+1=st at *
  have hp:bG pt t st (.map (some w.heap.size)) t st=some (.map (some w.heap.size)):=by simp [bG]
  have key:=R.xY t ht hm (w':=w') (G':=G) (dB:=.bO st GR (.int .i64) (pz r)) (d':=.fU t st) (pv:=.map (some w.heap.size)) (v':=.map (some w.heap.size))
   (oD Eu R.gz) (fun b hb=>⟨Eu.block b hb,rfl⟩) (by rw [gG];exact hp) (fun b=>rfl)
   (by rw [gG];exact ⟨w.heap.size,hp,R.gz _ (bT _),hM⟩)
   (by rw [gG];rfl)
   (fun b=>by
    rw [gG];simp only [gY,dh,hp,bE]
    by_cases hb:w.heap.size=b
    ·subst hb
     refine ⟨by simp,fun _=>⟨R.fresh,?_,.inl R.hs⟩⟩
     obtain ⟨es,ck,hh,_⟩:=hM;exact (E5 hh).1
    ·rw [if_neg (by simpa using hb)]
     exact ⟨by omega,fun h=>absurd h (by omega)⟩)
   (fun b hb=>R.gz b (gX Eu.size hb)) Eu.os Eu.output Eu.tape Eu.size
  rw [gG] at key;show K (a.put o.dst _) w';rw [iN];exact hK _ _ _ _ key
 ·have FB:=(h2 0 hp).1.1
  rcases Nat.lt_or_ge b w.heap.size with h | h
  ·exact h
  ·simp [World.cell?,Array.getElem?_eq_none h] at FB
abbrev AL (L:List (Nat×cu)):Prop:=∀ g aZ,xK L g=some aZ→dM Tryz.prog B (g%1000000) aZ
theorem gq {L:List (Nat×cu)} (hL:AL L) {f:Nat} {fn:Func} (E:Env) (hE:nS Tryz.prog E) (hg:B.glob=E.glob) (Co:Plan) {c:cu} (hf:Tryz.prog.funcs[f%1000000]? = some fn) (hck:AB E fn c=true)
 (hF:∀ x y,c.okV x→c.F x=some y→(evF (fun _ _=>Loop) E (xK L) fn Co c x).den=some y):AL ((f,c)::L):=
 gJ rfl (glue hE hg L hL Co hf hck hF) hL
theorem gr {L:List (Nat×cu)} (hL:AL L) {f:Nat} {fn:Func} (E:Env) (hE:nS Tryz.prog E) (hg:B.glob=E.glob) (Co:Plan) {c:cu} (hf:Tryz.prog.funcs[f%1000000]? = some fn) (hck:AB E fn c=true)
 (hF:∀ x,(evF (fun _ _=>Loop) E (xK L) fn Co c x).den=c.F x):AL ((f,c)::L):=
 gq hL E hE hg Co hf hck fun x y _ h=>(hF x).trans h
theorem aqZ:AL L32:=gq aep E32 (iG _ _ _) rfl aio Tryz.func32 (by kernel_rfl) (by
 rintro ⟨⟨⟩,a0,a1,⟨⟩⟩ y r h
 exact Eq.trans (by kernel_rfl) ((akn a0 a1 r.2.2.1).trans h))
theorem aq0:AL L33:=gq aqZ E33 (iG _ _ _) rfl aip Tryz.func33 (by kernel_rfl) (by
 rintro ⟨⟨a0,a1,⟨⟩⟩,⟨⟩⟩ y r h;obtain ⟨h1,h2⟩:=aA.og h;subst h2
 exact Eq.trans (by kernel_rfl) (akm a0 a1 h1))
theorem axd:AL L9:=gq aq0 E9 (iG _ _ _) rfl aoo Tryz.func9 (by kernel_rfl) (by
 rintro ⟨⟨a0,a1,⟨⟩⟩,a2,⟨⟩⟩ y r h;obtain ⟨h1,h2⟩:=aA.og h;subst h2
 exact Eq.trans (by kernel_rfl) (aqu a0 a1 a2 h1))
theorem axe:AL L6:=gq axd E6 (iG _ _ _) rfl aop Tryz.func6 (by kernel_rfl) (by
 rintro ⟨⟨⟩,a0,⟨⟩⟩ y r h
 exact Eq.trans (by kernel_rfl) ((aqv a0).trans h))
theorem aq1:AL L48:=gq axe E48 (iG _ _ _) rfl aiq Tryz.func48 (by kernel_rfl) (by
 rintro ⟨⟨a0,a1,⟨⟩⟩,a2,a3,⟨⟩⟩ y r h;obtain ⟨h1,h2⟩:=aA.og h;subst h2
 exact Eq.trans (by kernel_rfl) (ako a0 a1 a2 a3 h1))
theorem aq2:AL L49:=gq aq1 E49 (iG _ _ _) rfl air Tryz.func49 (by kernel_rfl) (by
 rintro ⟨⟨a0,a1,⟨⟩⟩,a2,⟨⟩⟩ y r h;obtain ⟨h1,h2⟩:=aA.og h;subst h2
 exact Eq.trans (by kernel_rfl) (akp a0 a1 a2 h1))
theorem aq3:AL L17:=gq aq2 E17 (iG _ _ _) rfl ais Tryz.func17 (by kernel_rfl) (by
 rintro ⟨⟨⟩,a0,a1,⟨⟩⟩ y r h
 exact Eq.trans (by kernel_rfl) ((akq a0 a1 r.2.1).trans h))
theorem aq4:AL L47:=gq aq3 E47 (iG _ _ _) rfl ait Tryz.func47 (by kernel_rfl) (by
 rintro ⟨⟨⟩,a0,a1,⟨⟩⟩ y r h;obtain ⟨h1,h2⟩:=aA.og h;subst h2
 exact Eq.trans (by kernel_rfl) (aks a0 a1 h1))
theorem aq5:AL L10:=gq aq4 E10 (iG _ _ _) rfl aiu Tryz.func10 (by kernel_rfl) (by
 rintro ⟨⟨⟩,a0,a1,⟨⟩⟩ y r h
 exact Eq.trans (by kernel_rfl) ((akC a0 a1 r.2.1).trans h))
theorem alu:AL ao2:=gq aq5 auO (iG _ _ _) rfl aeB Tryz.func139 (by kernel_rfl) (by
 rintro ⟨⟨⟩,a0,⟨⟩⟩ y r h
 exact Eq.trans (by kernel_rfl) ((afo a0).trans h))
theorem aq6:AL L73:=gq alu E73 (iG _ _ _) rfl aiv Tryz.func73 (by kernel_rfl) (by
 rintro ⟨⟨⟩,a0,a1,⟨⟩⟩ y r h
 exact Eq.trans (by kernel_rfl) ((akD a0 a1).trans h))
theorem alv:AL ao3:=gq aq6 auP (iG _ _ _) rfl aeC Tryz.func112 (by kernel_rfl) (by
 rintro ⟨⟨⟩,a0,⟨⟩⟩ y r h
 exact Eq.trans (by kernel_rfl) ((afp a0 r.2.1).trans h))
theorem ag5:AL L89:=gq alv E89 (iG _ _ _) rfl aiw Tryz.func89 (by kernel_rfl) (by
 rintro ⟨⟨⟩,a0,a1,⟨⟩⟩ y r h
 exact Eq.trans (by kernel_rfl) ((aky a0 a1).trans h))
theorem aq7:dM Tryz.prog B 81 c81:=glue (E:=E81) (iG _ _ _) rfl L89 ag5 aix Tryz.func81 (by kernel_rfl) (by
 rintro ⟨⟨⟩,a0,⟨⟩⟩ y r h
 exact Eq.trans (by kernel_rfl) ((akt a0).trans h))
theorem aq8:AL L81:=gJ rfl aq7 ag5
theorem alx:AL ao4:=gq aq8 auQ (iG _ _ _) rfl aeD Tryz.func157 (by kernel_rfl) (by
 rintro ⟨⟨⟩,a0,⟨⟩⟩ y r h
 exact Eq.trans (by kernel_rfl) ((afk a0).trans h))
theorem aq9:AL L90:=gq alx E90 (iG _ _ _) rfl aiy Tryz.func90 (by kernel_rfl) (by
 rintro ⟨⟨⟩,a0,a1,⟨⟩⟩ y r h
 exact Eq.trans (by kernel_rfl) ((akx a0 a1 r.2.1).trans h))
theorem ara:AL L35:=gq aq9 E35 (iG _ _ _) rfl aiz Tryz.func35 (by kernel_rfl) (by
 rintro ⟨⟨⟩,⟨a0,a1,a2,a3,a4,a5,a6,a7,a8,a9,⟨⟩⟩,⟨⟩⟩ y r h
 exact Eq.trans (by kernel_rfl) ((akz a0 a1 a2 a3 a4 a5 a6 a7 a8 a9).trans h))
theorem arb:AL L95:=gq ara E95 (iG _ _ _) rfl aiA Tryz.func95 (by kernel_rfl) (by
 rintro ⟨⟨⟩,a0,a1,a2,⟨⟩⟩ y r h
 exact Eq.trans (by kernel_rfl) ((akE a0 a1 a2).trans h))
theorem ard:AL L98:=gq arb E98 (iG _ _ _) rfl aiB Tryz.func98 (by kernel_rfl) (by
 rintro ⟨⟨⟩,⟨a0,a1,⟨⟩⟩,a2,⟨⟩⟩ y r h
 exact Eq.trans (by kernel_rfl) ((akF a0 a1 a2).trans h))
theorem arf:AL L45:=gq ard E45 (iG _ _ _) rfl aiC Tryz.func45 (by kernel_rfl) (by
 rintro ⟨⟨⟩,⟨a0,a1,a2,a3,a4,⟨⟩⟩,⟨a5,a6,a7,a8,a9,⟨⟩⟩,⟨⟩⟩ y r h
 exact Eq.trans (by kernel_rfl) ((akG a0 a1 a2 a3 a4 a5 a6 a7 a8 a9).trans h))
theorem arh:AL L94:=gq arf E94 (iG _ _ _) rfl aiD Tryz.func94 (by kernel_rfl) (by
 rintro ⟨⟨⟩,⟨a0,a1,⟨⟩⟩,⟨⟩⟩ y r h
 exact Eq.trans (by kernel_rfl) ((akH a0 a1).trans h))
theorem aly:AL ao5:=gq arh auR (iG _ _ _) rfl aeE Tryz.func158 (by kernel_rfl) (by
 rintro ⟨⟨⟩,a0,⟨⟩,⟨⟩⟩ y r h
 exact Eq.trans (by kernel_rfl) ((afq a0 r.2.1).trans h))
theorem ari:AL L93:=gq aly E93 (iG _ _ _) rfl aiE Tryz.func93 (by kernel_rfl) (by
 rintro ⟨⟨⟩,a0,⟨⟩,⟨⟩⟩ y r h
 exact Eq.trans (by kernel_rfl) ((akI a0).trans h))
theorem alz:AL L100:=gq ari auS (iG _ _ _) rfl aeF Tryz.func100 (by kernel_rfl) (by
 rintro ⟨⟨⟩,⟨a0,a1,a2,a3,a4,⟨⟩⟩,⟨⟩⟩ y r h
 exact Eq.trans (by kernel_rfl) ((afr a0 a1 a2 a3 a4).trans h))
theorem alA:AL ao6:=gq alz auT (iG _ _ _) rfl aeG Tryz.func159 (by kernel_rfl) (by
 rintro ⟨⟨⟩,a0,⟨⟩,⟨⟩⟩ y r h
 exact Eq.trans (by kernel_rfl) ((afs a0 r.2.1).trans h))
theorem arj:AL L99:=gq alA E99 (iG _ _ _) rfl aiF Tryz.func99 (by kernel_rfl) (by
 rintro ⟨⟨⟩,a0,⟨⟩,⟨⟩⟩ y r h
 exact Eq.trans (by kernel_rfl) ((akJ a0).trans h))
theorem ark:AL L97:=gq arj E97 (iG _ _ _) rfl aiG Tryz.func97 (by kernel_rfl) (by
 rintro ⟨⟨⟩,a0,a1,⟨⟩,⟨⟩⟩ y r h
 exact Eq.trans (by kernel_rfl) ((akN a0 a1 r.2.1).trans h))
theorem arl:AL L96:=gq ark E96 (iG _ _ _) rfl aiH Tryz.func96 (by kernel_rfl) (by
 rintro ⟨⟨⟩,a0,⟨a1,a2,⟨⟩⟩,⟨⟩⟩ y r h
 exact Eq.trans (by kernel_rfl) ((akK a0 a1 a2).trans h))
theorem alB:AL ao7:=gq arl auU (iG _ _ _) rfl aeH Tryz.func101 (by kernel_rfl) (by
 rintro ⟨⟨⟩,⟨a0,a1,a2,a3,a4,⟨⟩⟩,⟨⟨a5,a6,⟨⟩⟩,⟨⟩⟩,⟨⟩⟩ y r h
 exact Eq.trans (by kernel_rfl) ((aft a0 a1 a2 a3 a4 a5 a6).trans h))
theorem afW:AL agJ:=gq alB aoq (iG _ _ _) rfl aaK Tryz.func159 (by kernel_rfl) (by
 rintro ⟨⟨⟩,a0,⟨⟨a1,a2,⟨⟩⟩,⟨⟩⟩,⟨⟩⟩ y r h
 exact Eq.trans (by kernel_rfl) ((ab9 a0 a1 a2 r.2.1).trans h))
theorem afX:AL agK:=gq afW aor (iG _ _ _) rfl aaL Tryz.func99 (by kernel_rfl) (by
 rintro ⟨⟨⟩,a0,⟨⟨a1,a2,⟨⟩⟩,⟨⟩⟩,⟨⟩⟩ y r h
 exact Eq.trans (by kernel_rfl) ((acd a0 a1 a2).trans h))
theorem alC:AL ao8:=gq afX auV (iG _ _ _) rfl aeI Tryz.func102 (by kernel_rfl) (by
 rintro ⟨⟨⟩,⟨a0,a1,a2,a3,a4,⟨⟩⟩,⟨⟩⟩ y r h
 exact Eq.trans (by kernel_rfl) ((afu a0 a1 a2 a3 a4).trans h))
theorem afY:AL agL:=gq alC aos (iG _ _ _) rfl aaM Tryz.func159 (by kernel_rfl) (by
 rintro ⟨⟨⟩,a0,⟨⟩,⟨⟩⟩ y r h
 exact Eq.trans (by kernel_rfl) ((ace a0 r.2.1).trans h))
theorem VK:AL abv:=gq afY aot (iG _ _ _) rfl aaN Tryz.func99 (by kernel_rfl) (by
 rintro ⟨⟨⟩,a0,⟨⟩,⟨⟩⟩ y r h
 exact Eq.trans (by kernel_rfl) ((acf a0).trans h))
theorem arn:dM Tryz.prog B 37 c37:=glue (E:=E37) (iG _ _ _) rfl abv VK aiI Tryz.func37 (by kernel_rfl) (by
 rintro ⟨⟨⟩,⟨a0,a1,⟨⟩⟩,⟨⟩⟩ y r h
 exact Eq.trans (by kernel_rfl) ((akQ a0 a1 r.2.1.1 r.2.1.2.1).trans h))
theorem aro:AL L37:=gJ rfl arn VK
theorem ac2:AL ajs:=gq aro auW (iG _ _ _) rfl aeJ Tryz.func103 (by kernel_rfl) (by
 rintro ⟨⟨⟩,⟨a0,a1,⟨⟩⟩,a2,⟨⟩⟩ y r h
 exact Eq.trans (by kernel_rfl) ((afv a0 a1 a2).trans h))
theorem arp:dM Tryz.prog B 41 c41:=glue (E:=E41) (iG _ _ _) rfl ajs ac2 aiJ Tryz.func41 (by kernel_rfl) (by
 rintro ⟨⟨⟩,⟨a0,a1,⟨⟩⟩,⟨⟩⟩ y r h
 exact Eq.trans (by kernel_rfl) ((akL a0 a1).trans h))
theorem arq:AL L41:=gJ rfl arp ac2
theorem ars:AL L38:=gq arq E38 (iG _ _ _) rfl aiK Tryz.func38 (by kernel_rfl) (by
 rintro ⟨⟨⟩,⟨a0,a1,⟨⟩⟩,a2,⟨⟩⟩ y r h
 exact Eq.trans (by kernel_rfl) ((akR a0 a1 a2).trans h))
theorem alD:AL ao9:=gq ars auX (iG _ _ _) rfl aeK Tryz.func104 (by kernel_rfl) (by
 rintro ⟨⟨⟩,a0,a1,⟨⟩⟩ y r h
 exact Eq.trans (by kernel_rfl) ((afl a0 a1 r.2.1).trans h))
theorem aru:AL L39:=gq alD E39 (iG _ _ _) rfl aiL Tryz.func39 (by kernel_rfl) (by
 rintro ⟨⟨⟩,a0,a1,⟨⟩⟩ y r h
 exact Eq.trans (by kernel_rfl) ((akB a0 a1).trans h))
theorem alE:AL apa:=gq aru auY (iG _ _ _) rfl aeL Tryz.func114 (by kernel_rfl) (by
 rintro ⟨⟨⟩,a0,⟨⟩⟩ y r h
 exact Eq.trans (by kernel_rfl) ((afi a0).trans h))
theorem alF:AL apb:=gq alE auZ (iG _ _ _) rfl aeM Tryz.func115 (by kernel_rfl) (by
 rintro ⟨⟨⟩,⟨a0,a1,⟨⟩⟩,a2,⟨⟩⟩ y r h
 exact Eq.trans (by kernel_rfl) ((afj a0 a1 a2 r.2.1.1).trans h))
theorem arv:AL L50:=gq alF E50 (iG _ _ _) rfl aiM Tryz.func50 (by kernel_rfl) (by
 rintro ⟨⟨⟩,⟨a0,a1,⟨⟩⟩,⟨⟩⟩ y r h
 exact Eq.trans (by kernel_rfl) ((akw a0 a1 r.2.1.1 r.2.1.2.1).trans h))
theorem alG:AL apc:=gq arv au0 (iG _ _ _) rfl aeN Tryz.func113 (by kernel_rfl) (by
 rintro ⟨⟨⟩,⟨a0,a1,⟨⟩⟩,a2,a3,⟨⟩⟩ y r h
 exact Eq.trans (by kernel_rfl) ((afm a0 a1 a2 a3 r.2.1.2.1).trans h))
theorem alH:AL apd:=gq alG au1 (iG _ _ _) rfl aeO Tryz.func116 (by kernel_rfl) (by
 rintro ⟨⟨⟩,⟨a0,a1,⟨⟩⟩,a2,⟨⟩⟩ y r h
 exact Eq.trans (by kernel_rfl) ((afn a0 a1 a2 r.2.1.1).trans h))
theorem arw:AL L66:=gq alH E66 (iG _ _ _) rfl aiN Tryz.func66 (by kernel_rfl) (by
 rintro ⟨⟨⟩,⟨a0,a1,a2,a3,a4,a5,a6,a7,a8,a9,⟨⟩⟩,zJ,⟨⟩⟩ y r h
 exact Eq.trans (by kernel_rfl) ((akV a0 a1 a2 a3 a4 a5 a6 a7 a8 a9 zJ r.2.1.2.2.2.2.2.2.2.2.1).trans h))
theorem arx:AL L18:=gr arw E18 (iG _ _ _) rfl aiO Tryz.func18 (by kernel_rfl) fun x=>by kernel_rfl
theorem arz:AL L44:=gr arx E44 (iG _ _ _) rfl aiP Tryz.func44 (by kernel_rfl) fun x=>by kernel_rfl
theorem arA:AL L15:=gr arz E15 (iG _ _ _) rfl aiQ Tryz.func15 (by kernel_rfl) fun x=>by kernel_rfl
theorem arB:AL L46:=gr arA E46 (iG _ _ _) rfl aiR Tryz.func46 (by kernel_rfl) fun x=>by kernel_rfl
theorem arC:AL L51:=gr arB E51 (iG _ _ _) rfl aiS Tryz.func51 (by kernel_rfl) fun x=>by kernel_rfl
theorem arD:AL L52:=gr arC E52 (iG _ _ _) rfl aiT Tryz.func52 (by kernel_rfl) fun x=>by kernel_rfl
theorem arE:AL L20:=gr arD E20 (iG _ _ _) rfl aiU Tryz.func20 (by kernel_rfl) fun x=>by kernel_rfl
theorem arF:AL L29:=gr arE E29 (iG _ _ _) rfl aiV Tryz.func29 (by kernel_rfl) fun x=>by kernel_rfl
theorem arG:AL L19:=gr arF E19 (iG _ _ _) rfl aiW Tryz.func19 (by kernel_rfl) fun x=>by kernel_rfl
theorem arH:AL L16:=gr arG E16 (iG _ _ _) rfl aiX Tryz.func16 (by kernel_rfl) fun x=>by kernel_rfl
theorem alI:AL ape:=gr arH au2 (iG _ _ _) rfl aeP Tryz.func127 (by kernel_rfl) fun x=>by kernel_rfl
theorem arI:AL L68:=gr alI E68 (iG _ _ _) rfl aiY Tryz.func68 (by kernel_rfl) fun x=>by kernel_rfl
theorem alJ:AL apf:=gr arI au3 (iG _ _ _) rfl aeQ Tryz.func117 (by kernel_rfl) fun x=>by kernel_rfl
theorem arJ:AL L53:=gr alJ E53 (iG _ _ _) rfl aiZ Tryz.func53 (by kernel_rfl) fun x=>by kernel_rfl
theorem arK:AL L58:=gr arJ E58 (iG _ _ _) rfl ai0 Tryz.func58 (by kernel_rfl) fun x=>by kernel_rfl
theorem alK:AL apg:=gr arK au4 (iG _ _ _) rfl aeR Tryz.func132 (by kernel_rfl) fun x=>by kernel_rfl
theorem arL:AL L84:=gr alK E84 (iG _ _ _) rfl ai1 Tryz.func84 (by kernel_rfl) fun x=>by kernel_rfl
theorem alL:AL aph:=gr arL au5 (iG _ _ _) rfl aeS Tryz.func152 (by kernel_rfl) fun x=>by kernel_rfl
theorem arM:AL L85:=gr alL E85 (iG _ _ _) rfl ai2 Tryz.func85 (by kernel_rfl) fun x=>by kernel_rfl
theorem alM:AL apj:=gr arM au6 (iG _ _ _) rfl aeT Tryz.func133 (by kernel_rfl) fun x=>by kernel_rfl
theorem arN:AL L63:=gr alM E63 (iG _ _ _) rfl ai3 Tryz.func63 (by kernel_rfl) fun x=>by kernel_rfl
theorem alN:AL apk:=gr arN au7 (iG _ _ _) rfl aeU Tryz.func134 (by kernel_rfl) fun x=>by kernel_rfl
theorem arO:AL L64:=gr alN E64 (iG _ _ _) rfl ai4 Tryz.func64 (by kernel_rfl) fun x=>by kernel_rfl
theorem alO:AL apl:=gr arO au8 (iG _ _ _) rfl aeV Tryz.func156 (by kernel_rfl) fun x=>by kernel_rfl
theorem afZ:AL agM:=gr alO aou (iG _ _ _) rfl aaO Tryz.func155 (by kernel_rfl) fun x=>by kernel_rfl
theorem arP:AL L88:=gr afZ E88 (iG _ _ _) rfl ai5 Tryz.func88 (by kernel_rfl) fun x=>by kernel_rfl
theorem alP:AL apm:=gr arP au9 (iG _ _ _) rfl aeW Tryz.func153 (by kernel_rfl) fun x=>by kernel_rfl
theorem ac3:AL ajt:=gr alP ava (iG _ _ _) rfl aeX Tryz.func154 (by kernel_rfl) fun x=>by kernel_rfl
theorem arQ:dM Tryz.prog B 87 c87:=glue (E:=E87) (iG _ _ _) rfl ajt ac3 ai6 Tryz.func87 (by kernel_rfl) (by
 rintro ⟨⟨⟩,a0,a1,⟨⟩⟩ y r h;obtain ⟨h1,h2⟩:=aA.og h;subst h2
 exact Eq.trans (by kernel_rfl) (ak4 a0 a1 r.2.1 h1))
theorem arR:AL L87:=gJ rfl arQ ac3
theorem arS:dM Tryz.prog B 111 ao0:=⟨rfl,fun h=>(by cases h),fun x hx=>(by cases hx;exact afK),_,Tryz.func111,by kernel_rfl,by kernel_rfl⟩
theorem alQ:AL apn:=gJ rfl arS arR
theorem arU:AL L86:=gr alQ E86 (iG _ _ _) rfl ai7 Tryz.func86 (by kernel_rfl) fun x=>by kernel_rfl
theorem arV:AL L34:=gr arU E34 (iG _ _ _) rfl ai8 Tryz.func34 (by kernel_rfl) fun x=>by kernel_rfl
theorem arW:AL L11:=gr arV E11 (iG _ _ _) rfl ai9 Tryz.func11 (by kernel_rfl) fun x=>by kernel_rfl
theorem arY:AL L65:=gr arW E65 (iG _ _ _) rfl aja Tryz.func65 (by kernel_rfl) fun x=>by kernel_rfl
theorem axf:dM Tryz.prog B 77 c77:=⟨by decide,fun _=>(by rintro x y hy;cases hy),fun x h=>(by cases h),Tryz.f77,Tryz.func77,by kernel_rfl,by kernel_rfl⟩
theorem arZ:AL L77:=gJ rfl axf arY
theorem ar0:AL L67:=gr arZ E67 (iG _ _ _) rfl ajb Tryz.func67 (by kernel_rfl) fun x=>by kernel_rfl
theorem ar1:AL L24:=gr ar0 E24 (iG _ _ _) rfl ajc Tryz.func24 (by kernel_rfl) fun x=>by kernel_rfl
theorem ar2:AL L59:=gr ar1 E59 (iG _ _ _) rfl ajd Tryz.func59 (by kernel_rfl) fun x=>by kernel_rfl
theorem ar3:dM Tryz.prog B 140 ao1:=⟨rfl,fun h=>(by cases h),fun x hx=>(by cases hx;exact afJ),_,Tryz.func140,by kernel_rfl,by kernel_rfl⟩
theorem ac4:AL aju:=gJ rfl ar3 ar2
theorem alR:dM Tryz.prog B 74 c74:=glue (E:=E74) (iG _ _ _) rfl aju ac4 aje Tryz.func74 (by kernel_rfl) (by
 rintro ⟨⟨⟩,⟨a0,a1,⟨⟩⟩,⟨⟩⟩ y r h;obtain ⟨h1,h2⟩:=aA.og h;subst h2
 exact Eq.trans (by kernel_rfl) (ak2 a0 a1 h1))
theorem ar4:AL L74:=gJ rfl alR ac4
theorem ar5:AL L55:=gJ rfl awk ar4
theorem ar6:AL L30:=gr ar5 E30 (iG _ _ _) rfl ajf Tryz.func30 (by kernel_rfl) fun x=>by kernel_rfl
theorem ar7:AL L54:=gr ar6 E54 (iG _ _ _) rfl ajg Tryz.func54 (by kernel_rfl) fun x=>by kernel_rfl
theorem axg:dM Tryz.prog B 57 c57:=⟨rfl,fun h=>(by cases h),fun x hx=>(by cases hx;exact alc),_,Tryz.func57,by kernel_rfl,by kernel_rfl⟩
theorem ar8:AL L57:=gJ rfl axg ar7
theorem axh:dM Tryz.prog B 56 c56:=⟨rfl,fun h=>(by cases h),fun x hx=>(by cases hx;exact alj (alR.sem rfl)),_,Tryz.func56,by kernel_rfl,by kernel_rfl⟩
theorem ar9:AL L56:=gJ rfl axh ar8
theorem axi:dM Tryz.prog B 60 c60:=⟨rfl,fun h=>(by cases h),fun x hx=>(by cases hx;exact alg),_,Tryz.func60,by kernel_rfl,by kernel_rfl⟩
theorem ag6:AL L60:=gJ rfl axi ar9
theorem ag7:dM Tryz.prog B 130 Xn:=glue (E:=avb) (iG _ _ _) rfl L60 ag6 aeY Tryz.func130 (by kernel_rfl) (by
 rintro ⟨⟨⟩,a0,a1,⟨⟩⟩ y r h;obtain ⟨h1,h2⟩:=aA.og h;subst h2
 exact Eq.trans (by kernel_rfl) (afH a0 a1 h1))
theorem alS:AL apo:=gJ rfl ag7 ag6
theorem axj:dM Tryz.prog B 61 c61:=⟨rfl,fun h=>(by cases h),fun x hx=>(by cases hx;exact alk (alR.sem rfl) (ag7.sem rfl) (arQ.sem rfl)),_,Tryz.func61,by kernel_rfl,by kernel_rfl⟩
theorem asa:AL L61:=gJ rfl axj alS
theorem axk:dM Tryz.prog B 62 c62:=⟨rfl,fun h=>(by cases h),fun x hx=>(by cases hx;exact als),_,Tryz.func62,by kernel_rfl,by kernel_rfl⟩
theorem asb:AL L62:=gJ rfl axk asa
theorem asc:AL L21:=gr asb E21 (iG _ _ _) rfl ajh Tryz.func21 (by kernel_rfl) fun x=>by kernel_rfl
theorem ase:AL L22:=gr asc E22 (iG _ _ _) rfl aji Tryz.func22 (by kernel_rfl) fun x=>by kernel_rfl
theorem asf:AL L23:=gr ase E23 (iG _ _ _) rfl ajj Tryz.func23 (by kernel_rfl) fun x=>by kernel_rfl
theorem axl:dM Tryz.prog B 31 c31:=⟨by decide,fun _=>aqW (arn.sem rfl) (arp.sem rfl) (aq7.sem rfl),fun x h=>(by cases h),Tryz.f31,Tryz.func31,by kernel_rfl,by kernel_rfl⟩
theorem asg:AL L31:=gJ rfl axl asf
theorem axn:AL L8:=gr asg E8 (iG _ _ _) rfl aov Tryz.func8 (by kernel_rfl) fun x=>by kernel_rfl
end Go.dw.rO