/- Laws that the proofs of this seat share, part 13. -/
import Derived.Test.YtgfiffppookakaaGreatDoorG12
import Derived.Test.YtgfiffppookakaaGreatDoorShelf
set_option maxHeartbeats 4000000
namespace Go.Proofs.YtgfiffppookakaaGreatDoor
open Go Go.Jog
set_option maxRecDepth 100000

theorem uj (q:Rat):decide (q.num<0)=decide (q<0):=by
 rw [Lj];have h:(0<=q.num) ↔ (0<=q):=Of;constructor
 ·intro g;exact Rat.not_le.1 fun k=>by have:=h.2 k;omega
 ·intro g;exact Int.not_le.1 fun k=>by have:=h.1 k;grind
theorem KF {C:Mem}{x:FV}{q:Rat}(h:FrC C (.agg ⟨x.enc⟩) q):x.b=decide (q<0):=by
 obtain ⟨u,w,e,_⟩:=h;rw [<- uj];simp [FV.enc,yN] at e;exact e.1
theorem I6 {k:Nat}{q:Rat}(h:SmQ k q):SmQ k (-q):=⟨by rw [Nm,MN];exact h.1,by rw [Rat.neg_den];exact h.2⟩
theorem IY {e:Evt}(h:(-(e.turn.1:Rat))*(-(e.turn.1:Rat))+ce (rY e) (rY e)≠0):(e.turn.1:Rat)*e.turn.1+e.turn.2.1*e.turn.2.1+e.turn.2.2.1*e.turn.2.2.1+e.turn.2.2.2*e.turn.2.2.2≠0:=by
 intro g;refine h ?_;unfold ce rY;show _+(_+_+_)=_;grind
theorem Jx {l:List (Rat × Rat)}(hq:∀ k∈l,QB 1 k.1/\QB 1 k.2)(hd:∀ i,i+1<l.length->(l.getD (i+1) (0,0)).1-(l.getD i (0,0)).1=2){u:Rat}(su:SmQ 1300 u):SmQ 3000 (knV l u):=by
 have s2:=fun n=>(show SmQ 200 (l.getD n (0,0)).1/\SmQ 200 (l.getD n (0,0)).2 from ⟨ek ((m6 hq n).1.le dc_),ek ((m6 hq n).2.le dc_)⟩);unfold knV;split
 ·exact (ek (q:=0) (QB_zero.le dc_)).le dc_
 ·split
  ·exact (s2 _).2.le dc_
  ·split
   ·exact (s2 _).2.le dc_
   ·rename_i h1 h2 h3;have hle:=BN l u;have kd:(l.getD (knN l u) (0,0)).1-(l.getD (knN l u-1) (0,0)).1≠0:=by
     have:=hd (knN l u-1) om_;rw [Nu om_] at this;rw [this];decide
    unfold knI;exact ((s2 _).2.add ((SmQ.div (su.sub (s2 _).1) ((s2 _).1.sub (s2 _).1) kd).mul ((s2 _).2.sub (s2 _).2))).le dc_
def bdS (k:Nat)(q:Rat):SPc:=⟨fun v C=>∃ x:FV,v=.tuple #[.int .i64 (k:Nat),.agg ⟨x.enc⟩]/\FrC C (.agg ⟨x.enc⟩) q,fun _ _ _ hl h=>by obtain ⟨x,h1,h2⟩:=h;exact ⟨x,h1,FrC.mono h2 hl⟩⟩
theorem V3s.vc {C:Mem}{x y z:FV}{p:V3}(h:V3s C x y z p):VcC C (.agg ⟨x.enc++(y.enc++z.enc)⟩) p:=⟨x,y,z,rfl,h⟩
theorem zO (C:Mem)(hT:Tabs C)(mv:Value)(pts:List Pt)(tris:List Tri)(hm:MeshIn C mv pts tris)(hG:Good pts tris)(e:Evt)(hE:EvO pts.length e)(cs:List Value)(hc:EvM C e cs)(vp:Value)(p:V3)(hp:VcC C vp p)(hq3:Q3 2 p) :
  Pur cx.P 29 [mv,.agg ⟨cs⟩,vp] C fun u D=>UnC D u (dX pts tris e p) (gJ e (dX pts tris e p)) (js e p):=by
 have hm0:=hm;have hp0:=hp;obtain ⟨v1,v2,rfl,_⟩:=id hm.ex;obtain ⟨nm,A1,A2,A3,A4,n1,n2,n3,n4,c1,c2,c3,c4,x,q,rfl,hg⟩:=hc.gen;obtain ⟨xp,yp,zp,rfl,hp3⟩:=hp;have hkk:=hg.k;have gp:∀ D,C.le D->V3s D xp yp zp p:=fun D h=>V3s.mono hp3 h;have sp:=Q3.sm (hq3.le (show 2<=22 by decide));have hnq:=(hE.r.nr.qb dc_).le (show 1<=22 by decide);have hoq:=(hE.r.of.qb dc_).le (show 1<=22 by decide);have hlq:=(hE.r.sl.qb dc_).le (show 1<=22 by decide);have hcq:=hE.r.ct.qb dc_;have sd:SmQ 1300 (ce e.nrm p):=(hnq.sm.dot sp).le dc_;have so:SmQ 200 e.off:=ek hoq;have sv:=Jx hE.kq hE.r.ka sd;have s1:SmQ 200 (-1:Rat):=ek (m1_qb.le dc_);have sw:SmQ 200 e.width:=ek (hE.wq.le dc_);obtain ⟨⟨t1,t2,t3,t4⟩,tn⟩:=zQ hE.r;have gd:∀ D u v,VcC D u e.nrm->VcC D v p->Tabs D->Pur cx.P 71 [u,v] D fun r E=>FrC E r (ce e.nrm p):=fun D u v h1 h2 h3=>rx D h3 u v e.nrm p 200 200 h1 h2 hnq.sm sp dc_;refine Fn.it kr_ Tryz.func29 110 fun w0=>?_;refine G.rg fun R hR=>?_;refine D.aD (fun b3=>?_);refine D.aD (fun b4=>?_);refine D.aD (fun b5=>?_);refine D.ai (fun b6=>?_);refine D.e4 3 4 5 6 hR ?_;clear hR R;refine G.freeze 3 Z (fun _ _ hb3=>?_);refine G.freeze 2 Z (fun _ _ hb4=>?_);refine G.freeze 1 Z (fun _ _ hb5=>?_);refine G.rp 1 fun R hR=>?_;refine D.aa (bkT hb4 1) ?_;refine D.e5 3 4 5 6 11 hR ?_;clear hR R;refine G.z6 2 3 4 5 6 11 12 ?_;refine G.cd (fun h12=>?_) fun h12=>?_
 ·have hk:e.kd=1:=by simp at h12;omega
  obtain ⟨rfl,rfl,rfl,hb,hu,hs⟩:=hg.h1 hk;refine G.rg fun R hR=>?_;refine D.aa (bkT hb3 2) ?_;refine D.ac ?_;refine D.aa (bkT hb4 3) ?_;refine D.aa (bkT hb5 9) ?_;refine D.az (AE _ hT.m_ _ pts tris hm0.m_ hG e hE hk A1 A2 A3 _ _ c1 c2 c3 _ p hp0.m_ hq3 hb.m_ hu.m_ hs.m_) (fun v18 _ _ hq18=>?_);obtain ⟨xu,yu,zu,rfl,hu3⟩:=hq18;refine D.ae (j:=0) ?_;refine D.e1 6 hR ?_;clear hR R;refine G.aB (G.aR (.head _) U4 ?_);exact ⟨Z,xu,yu,zu,by unfold dX;rw [bW hk];rfl,by unfold js;rw [a7 om_,a7 om_,a7 om_];exact hu3⟩
 ·have k1:e.kd≠1:=fun h=>by rw [h] at h12;exact absurd h12 dc_
  refine G.z5 2 4 5 6 11 19 ?_;refine G.cd (fun h19=>?_) fun h19=>?_
  ·have hk:e.kd=2:=by simp at h19;omega
   obtain rfl:=hg.h2 hk;refine G.cB [0,1,2,3,5,7,8,9,10] [13] [(4,[]),(6,[4]),(11,[]),(12,[6,11])] [(4,[]),(6,[4]),(11,[]),(12,[6,11])] [(3,0),(5,0),(10,0)] Z kr_ (fun R hB hS=>?_);refine D.ps 3 ?_;refine D.am (fun _=>((bkT hb4 3).mono hB)) ?_;refine D.am (fun _=>((bkT hb5 9).mono hB)) ?_;refine D.ps 3 ?_;refine D.am (fun _=>((bkT hb4 1).mono hB)) ?_;refine hS [] (fun iq vq Cz=>(bn [(4,vcS e.nrm),(6,frS (ce e.nrm p)),(11,frS e.off),(12,JK (.int .i64 (sgn (ce e.nrm p-e.off))))] iq).1 vq Cz) kr_ (fun iq vq Cz Cy hl h=>(bn _ iq).2 vq Cz Cy hl h) Z ⟨?_, ?_, ?_, ?_,trivial⟩ trivial (fun R2 hB2 hR Cq hleq=>?_)
   ·intro Rq Cq Lq hleq fin;refine D.az (dH _ hT.m_ e.nrm hnq) (fun v25 _ _ hq25=>?_);exact fin _ _ _ mup (fun d hd=>by cases hd;rfl) hq25
   ·intro Rq Cq Lq hleq v25 hq25 fin;refine D.az (gd _ _ _ hq25 (gp _ mup).vc hT.m_) (fun v27 _ _ hq27=>?_);exact fin _ _ _ mup (fun d hd=>by cases hd;rfl) hq27
   ·intro Rq Cq Lq hleq fin;refine D.az (bC _ e.off hoq) (fun v32 _ _ hq32=>?_);exact fin _ _ _ mup (fun d hd=>by cases hd;rfl) hq32
   ·intro Rq Cq Lq hleq v27 hq27 v32 hq32 fin;refine D.au (kP (FrC.m_ hq27) (FrC.m_ hq32) sd so dc_) U7 fl_ (fun v33 _ _ hq33=>?_);exact fin _ _ _ mup (fun d hd=>by cases hd;rfl) hq33
   intro v25 hq25 v27 hq27 v32 hq32 v33 hq33;obtain rfl:=hq33;refine D.ac ?_;refine D.e4 4 5 6 34 hR ?_;clear hR R2 hS hB2 hB R;refine G.cd (fun h34=>?_) fun h34=>?_
   ·rw [Cm] at h34;refine G.cB [0,2,3,4] [7,8] [(1,[]),(5,[]),(6,[1,5])] [(1,[]),(5,[]),(6,[1,5])] [(0,0),(4,0)] Z kr_ (fun R hB hS=>?_);refine D.am (fun _=>((bkT hb5 9).mono hB)) ?_;refine D.ps 2 ?_;refine D.am (fun _=>((bkT hb4 3).mono hB)) ?_;refine hS [] (fun iq vq Cz=>(bn [(1,frS (-1)),(5,vcS e.slip),(6,vcS (add3 p (kC e.slip (-1))))] iq).1 vq Cz) kr_ (fun iq vq Cz Cy hl h=>(bn _ iq).2 vq Cz Cy hl h) Z ⟨?_, ?_, ?_,trivial⟩ trivial (fun R2 hB2 hR Cq hleq=>?_)
    ·intro Rq Cq Lq hleq fin;refine D.au (mP _ hT.m_ (-1) dc_) U7 fl_ (fun v36 _ _ hq36=>?_);exact fin _ _ _ mup (fun d hd=>by cases hd;rfl) hq36
    ·intro Rq Cq Lq hleq fin;refine D.az (dH _ hT.m_ e.slip hlq) (fun v40 _ _ hq40=>?_);exact fin _ _ _ mup (fun d hd=>by cases hd;rfl) hq40
    ·intro Rq Cq Lq hleq v36 hq36 v40 hq40 fin;refine D.au (ri _ _ _ _ p e.slip (-1) 200 200 200 (gp _ mup).vc (FrC.m_ hq36) hq40.m_ sp s1 hlq.sm dc_) U7 fl_ (fun v41 _ _ hq41=>?_);exact fin _ _ _ mup (fun d hd=>by cases hd;rfl) hq41
    intro v36 hq36 v40 hq40 v41 hq41;obtain ⟨xu,yu,zu,rfl,hu3⟩:=hq41;refine D.ap (unV 1 false [] xu yu zu) ?_;refine D.ae (j:=0) ?_;refine D.e1 6 hR ?_;clear hR R2 hS hB2 hB R;refine G.aB (G.aR (.head _) U4 ?_);exact ⟨Z,xu,yu,zu,by unfold dX;rw [a7 k1,bW hk,bW (bi h34)];unfold gJ;rw [a7 om_,a7 om_,a7 om_];rfl,by unfold js;rw [bW hk,bW (bi h34)];exact hu3⟩
   ·rw [Cm] at h34;refine G.rg fun R hR=>?_;refine D.aa (bkT hb5 9) ?_;refine D.ap (unV 0 false [] xp yp zp) ?_;refine D.ae (j:=0) ?_;refine D.e1 6 hR ?_;clear hR R;refine G.aB (G.aR (.head _) U4 ?_);exact ⟨Z,xp,yp,zp,by unfold dX;rw [a7 k1,bW hk,a7 (dj h34)];unfold gJ;rw [a7 om_,a7 om_,a7 om_];rfl,by unfold js;rw [bW hk,a7 (dj h34)];exact gp _ mup⟩
  ·have k2:e.kd≠2:=fun h=>by rw [h] at h19;exact absurd h19 dc_
   refine G.z5 2 4 5 6 11 45 ?_;refine G.cd (fun h45=>?_) fun h45=>?_
   ·have hk:e.kd=3:=by simp at h45;omega
    obtain ⟨rfl,rfl,hkn⟩:=hg.h3 hk;refine G.cB [0,1,2,3,4,5,7] [] [(6,[]),(8,[6]),(9,[8]),(10,[9]),(11,[10]),(12,[10]),(13,[]),(14,[11]),(15,[13,12])] [(6,[]),(8,[6]),(9,[8]),(10,[9]),(11,[10]),(12,[10]),(14,[11])] [(2,0),(5,0),(7,0)] Z kr_ (fun R hB hS=>?_);refine D.ps 2 ?_;refine D.am (fun _=>((bkT hb4 1).mono hB)) ?_;refine D.ps 2 ?_;refine D.am (fun _=>((bkT hb4 3).mono hB)) ?_;refine D.am (fun _=>((bkT hb5 9).mono hB)) ?_;refine hS [⟨13,15,12,111,[.bool false,.slice none 0 0,.slice none 0 0]⟩] (fun iq vq Cz=>(bn [(6,vcS e.nrm),(8,frS (ce e.nrm p)),(9,bdS (knN e.knots (ce e.nrm p)) (knV e.knots (ce e.nrm p))),(10,bdS (knN e.knots (ce e.nrm p)) (knV e.knots (ce e.nrm p))),(11,JK (.int .i64 (knN e.knots (ce e.nrm p):Nat))),(12,frS (knV e.knots (ce e.nrm p))),(14,JK (.int .i64 (knN e.knots (ce e.nrm p):Nat)))] iq).1 vq Cz) kr_ (fun iq vq Cz Cy hl h=>(bn _ iq).2 vq Cz Cy hl h) Z ⟨?_, ?_, ?_, ?_, ?_, ?_, ?_,trivial⟩ ⟨?_, ?_,trivial⟩ (fun R2 hB2 hR Cq hleq=>?_)
    ·intro Rq Cq Lq hleq fin;refine D.az (dH _ hT.m_ e.nrm hnq) (fun v54 _ _ hq54=>?_);exact fin _ _ _ mup (fun d hd=>by cases hd;rfl) hq54
    ·intro Rq Cq Lq hleq v54 hq54 fin;refine D.az (gd _ _ _ hq54 (gp _ mup).vc hT.m_) (fun v56 _ _ hq56=>?_);exact fin _ _ _ mup (fun d hd=>by cases hd;rfl) hq56
    ·intro Rq Cq Lq hleq v56 hq56 fin;refine D.au (Fz _ hT.m_ A4 c4 e.knots hkn.m_ hE.kq hE.r.ka hE.r.kl _ (ce e.nrm p) hq56 (sd.le dc_)) U7 fl_ (fun v57 _ _ hq57=>?_);exact fin _ _ _ mup (fun d hd=>by cases hd;rfl) hq57
    ·intro Rq Cq Lq hleq v57 hq57 fin;refine D.ac ?_;exact fin _ _ _ mup (fun d hd=>by cases hd;rfl) hq57
    ·intro Rq Cq Lq hleq v47 hq47 fin;obtain ⟨x57,rfl,hx57⟩:=hq47;refine D.ac ?_;exact fin _ _ _ mup (fun d hd=>by cases hd;rfl) Z
    ·intro Rq Cq Lq hleq v47 hq47 fin;obtain ⟨x57,rfl,hx57⟩:=hq47;refine D.ac ?_;exact fin _ _ _ mup (fun d hd=>by cases hd;rfl) (FrC.m_ hx57)
    ·intro Rq Cq Lq hleq v58 hq58 fin;obtain rfl:=hq58;refine D.ac ?_;exact fin _ _ _ mup (fun d hd=>by cases hd;rfl) Z
    ·intro Rq Cq Lq hleq fin;refine D.ai (fun bq=>?_);exact fin _ bq (fun d hd=>by cases hd;rfl)
    ·intro Rq Cq Lq bq v59 hleq hq59 fin;obtain ⟨x8,rfl⟩:=FrC.fv hq59;refine D.ae (j:=0) ?_;exact fin _
    intro v54 hq54 v56 hq56 v57 hq57 v47 hq47 v58 hq58 v59 hq59 v8 hq8 v7 hq7 _ _;obtain ⟨b8,rfl⟩:=hq8;obtain ⟨x8,rfl⟩:=FrC.fv hq59;obtain rfl:=hq7;refine D.e5 4 5 6 7 8 hR ?_;clear hR R2 hS hB2 hB R;refine G.be (L':=[.obj b8 (.cells ⟨x8.enc⟩ 111 (0,0)),.obj b6 (.cells ⟨unV 0 false [] default default default⟩ 116 (0,0))]) Z ?_;refine G.freeze 0 Z (fun _ _ hb8=>?_);refine G.cB [0,1,2,4,5,6] [9,10] [(3,[]),(7,[]),(8,[3,7])] [(3,[]),(7,[]),(8,[3,7])] [(1,0),(2,0),(6,0)] Z kr_ (fun R hB hS=>?_);refine D.ac ?_;refine D.am (fun _=>((bkT hb5 9).mono hB)) ?_;refine D.am (fun _=>((bkT hb8 3).mono hB)) ?_;refine D.ps 2 ?_;refine D.am (fun _=>((bkT hb4 3).mono hB)) ?_;refine hS [] (fun iq vq Cz=>(bn [(3,frS (-(knV e.knots (ce e.nrm p)))),(7,vcS e.slip),(8,vcS (add3 p (kC e.slip (-(knV e.knots (ce e.nrm p))))))] iq).1 vq Cz) kr_ (fun iq vq Cz Cy hl h=>(bn _ iq).2 vq Cz Cy hl h) Z ⟨?_, ?_, ?_,trivial⟩ trivial (fun R2 hB2 hR Cq hleq=>?_)
    ·intro Rq Cq Lq hleq fin;refine D.az (sJ (FrC.m_ hq59)) (fun v63 _ _ hq63=>?_);exact fin _ _ _ mup (fun d hd=>by cases hd;rfl) hq63
    ·intro Rq Cq Lq hleq fin;refine D.az (dH _ hT.m_ e.slip hlq) (fun v67 _ _ hq67=>?_);exact fin _ _ _ mup (fun d hd=>by cases hd;rfl) hq67
    ·intro Rq Cq Lq hleq v63 hq63 v67 hq67 fin;refine D.au (ri _ _ _ _ p e.slip _ 200 3000 200 (gp _ mup).vc (FrC.m_ hq63) hq67.m_ sp (I6 sv) hlq.sm dc_) U7 fl_ (fun v68 _ _ hq68=>?_);exact fin _ _ _ mup (fun d hd=>by cases hd;rfl) hq68
    intro v63 hq63 v67 hq67 v68 hq68;obtain ⟨xu,yu,zu,rfl,hu3⟩:=hq68;refine D.ap (unV (knN e.knots (ce e.nrm p):Nat) false [] xu yu zu) ?_;refine D.ae (j:=0) ?_;refine D.e1 6 hR ?_;clear hR R2 hS hB2 hB R;refine G.aB (G.aR (.head _) U4 ?_);exact ⟨Z,xu,yu,zu,by unfold dX;rw [a7 k1,a7 k2,bW hk];unfold gJ;rw [a7 om_,a7 om_,a7 om_];rfl,by unfold js;rw [a7 k2,bW hk,show (-1:Rat)*knV e.knots (ce e.nrm p)=-(knV e.knots (ce e.nrm p)) by grind];exact hu3⟩
   ·have k3:e.kd≠3:=fun h=>by rw [h] at h45;exact absurd h45 dc_
    refine G.z4 2 4 5 6 70 ?_;refine G.cd (fun h70=>?_) fun h70=>?_
    ·have hk:e.kd=4:=by simp at h70;omega
     obtain rfl:=hg.h4 hk;have mv:js e p=p:=by unfold js;rw [a7 om_,a7 om_,a7 om_]
     refine G.cB [0,1,2,3,5,7,8,9,10] [] [(4,[]),(6,[4]),(11,[]),(12,[6,11]),(13,[]),(14,[13,12])] [(4,[]),(6,[4]),(11,[]),(12,[6,11])] [(3,0),(5,0),(10,0)] Z kr_ (fun R hB hS=>?_);refine D.ps 3 ?_;refine D.am (fun _=>((bkT hb4 3).mono hB)) ?_;refine D.am (fun _=>((bkT hb5 9).mono hB)) ?_;refine D.ps 3 ?_;refine D.am (fun _=>((bkT hb4 1).mono hB)) ?_;refine hS [⟨13,14,12,111,[.bool false,.slice none 0 0,.slice none 0 0]⟩] (fun iq vq Cz=>(bn [(4,vcS e.nrm),(6,frS (ce e.nrm p)),(11,frS e.off),(12,frS (ce e.nrm p-e.off))] iq).1 vq Cz) kr_ (fun iq vq Cz Cy hl h=>(bn _ iq).2 vq Cz Cy hl h) Z ⟨?_, ?_, ?_, ?_,trivial⟩ ⟨?_, ?_,trivial⟩ (fun R2 hB2 hR Cq hleq=>?_)
     ·intro Rq Cq Lq hleq fin;refine D.az (dH _ hT.m_ e.nrm hnq) (fun v76 _ _ hq76=>?_);exact fin _ _ _ mup (fun d hd=>by cases hd;rfl) hq76
     ·intro Rq Cq Lq hleq v76 hq76 fin;refine D.az (gd _ _ _ hq76 (gp _ mup).vc hT.m_) (fun v78 _ _ hq78=>?_);exact fin _ _ _ mup (fun d hd=>by cases hd;rfl) hq78
     ·intro Rq Cq Lq hleq fin;refine D.az (bC _ e.off hoq) (fun v83 _ _ hq83=>?_);exact fin _ _ _ mup (fun d hd=>by cases hd;rfl) hq83
     ·intro Rq Cq Lq hleq v78 hq78 v83 hq83 fin;refine D.au (d7 (FrC.m_ hq78) (FrC.m_ hq83) sd so dc_) U7 fl_ (fun v84 _ _ hq84=>?_);exact fin _ _ _ mup (fun d hd=>by cases hd;rfl) hq84
     ·intro Rq Cq Lq hleq fin;refine D.ai (fun bq=>?_);exact fin _ bq (fun d hd=>by cases hd;rfl)
     ·intro Rq Cq Lq bq v84 hleq hq84 fin;obtain ⟨x9,rfl⟩:=FrC.fv hq84;refine D.ae (j:=0) ?_;exact fin _
     intro v76 hq76 v78 hq78 v83 hq83 v84 hq84 v9 hq9 _ _;obtain ⟨b9,rfl⟩:=hq9;obtain ⟨x9,rfl⟩:=FrC.fv hq84;refine D.e4 4 5 6 9 hR ?_;clear hR R2 hS hB2 hB R;refine G.be (L':=[.obj b9 (.cells ⟨x9.enc⟩ 111 (0,0)),.obj b6 (.cells ⟨unV 0 false [] default default default⟩ 116 (0,0))]) Z ?_;refine G.freeze 0 Z (fun _ _ hb9=>?_);have hx9:=KF hq84;refine G.rp 1 fun R hR=>?_;refine D.aa (bkT hb9 1) ?_;refine D.q5 1 4 5 6 9 85 hR ?_;clear hR R;refine G.cd (fun h85=>?_) fun h85=>?_
     ·rw [hx9] at h85;refine G.rg fun R hR=>?_;refine D.aa (bkT hb5 9) ?_;refine D.ap (unV 0 false [] xp yp zp) ?_;refine D.ae (j:=0) ?_;refine D.e1 6 hR ?_;clear hR R;refine G.aB (G.aR (.head _) U4 ?_);exact ⟨Z,xp,yp,zp,by unfold dX;rw [a7 k1,a7 k2,a7 k3,bW hk,bW (bi h85)];unfold gJ;rw [a7 om_,a7 om_,a7 om_];rfl,by rw [mv];exact gp _ mup⟩
     ·rw [hx9] at h85;refine G.cB [0,1,2,3] [6,7] [(4,[]),(5,[4])] [(4,[]),(5,[4])] [(0,0),(3,0)] Z kr_ (fun R hB hS=>?_);refine D.am (fun _=>((bkT hb9 3).mono hB)) ?_;refine D.ps 2 ?_;refine D.am (fun _=>((bkT hb4 1).mono hB)) ?_;refine hS [] (fun iq vq Cz=>(bn [(4,frS e.width),(5,JK (.int .i64 (sgn (ce e.nrm p-e.off-e.width))))] iq).1 vq Cz) kr_ (fun iq vq Cz Cy hl h=>(bn _ iq).2 vq Cz Cy hl h) Z ⟨?_, ?_,trivial⟩ trivial (fun R2 hB2 hR Cq hleq=>?_)
      ·intro Rq Cq Lq hleq fin;refine D.au (bC _ e.width (hE.wq.le dc_)) U7 fl_ (fun v95 _ _ hq95=>?_);exact fin _ _ _ mup (fun d hd=>by cases hd;rfl) hq95
      ·intro Rq Cq Lq hleq v95 hq95 fin;refine D.au (kP (FrC.m_ hq84) (FrC.m_ hq95) (sd.sub so) sw dc_) U7 fl_ (fun v96 _ _ hq96=>?_);exact fin _ _ _ mup (fun d hd=>by cases hd;rfl) hq96
      intro v95 hq95 v96 hq96;obtain rfl:=hq96;refine D.ps 2 ?_;refine D.e4 4 5 6 90 hR ?_;clear hR R2 hS hB2 hB R;refine G.cd (fun h90=>?_) fun h90=>?_
      ·rw [qV] at h90;refine G.rp 2 fun R hR=>?_;refine D.aa (bkT hb4 1) ?_;refine D.aa (bkT hb5 9) ?_;refine D.ap (unV 1 true e.unit xp yp zp) ?_;refine D.ae (j:=0) ?_;refine D.e1 6 hR ?_;clear hR R;refine G.aB (G.aR (.head _) U4 ?_);exact ⟨Z,xp,yp,zp,by unfold dX;rw [a7 k1,a7 k2,a7 k3,bW hk,a7 (dj h85),bW (bi h90)];unfold gJ;rw [a7 om_,a7 om_,bW ⟨hk,Z⟩];rfl,by rw [mv];exact gp _ mup⟩
      ·rw [qV] at h90;refine G.rg fun R hR=>?_;refine D.aa (bkT hb5 9) ?_;refine D.ap (unV 2 false [] xp yp zp) ?_;refine D.ae (j:=0) ?_;refine D.e1 6 hR ?_;clear hR R;refine G.aB (G.aR (.head _) U4 ?_);exact ⟨Z,xp,yp,zp,by unfold dX;rw [a7 k1,a7 k2,a7 k3,bW hk,a7 (dj h85),a7 (dj h90)];unfold gJ;rw [a7 om_,a7 om_,a7 om_];rfl,by rw [mv];exact gp _ mup⟩
    ·have k4:e.kd≠4:=fun h=>by rw [h] at h70;exact absurd h70 dc_
     have hk:e.kd=5:=by omega
     obtain ⟨rfl,rfl⟩:=hg.h5 hk;refine G.rp 1 fun R hR=>?_;refine D.aa (bkT hb4 7) ?_;refine D.aa (bkT hb5 9) ?_;refine D.az (Fm _ hT.m_ e.turn.1 e.turn.2.1 e.turn.2.2.1 e.turn.2.2.2 t1 t2 t3 t4 e.ctr hcq _ p hp0.m_ sp (IY tn)) (fun v108 _ _ hq108=>?_);obtain ⟨xu,yu,zu,rfl,hu3⟩:=hq108;refine D.ap (unV 0 false [] xu yu zu) ?_;refine D.ae (j:=0) ?_;refine D.e1 6 hR ?_;clear hR R;refine G.aB (G.aR (.head _) U4 ?_);exact ⟨Z,xu,yu,zu,by unfold dX;rw [a7 k1,a7 k2,a7 k3,a7 k4];unfold gJ;rw [a7 om_,a7 om_,a7 om_];rfl,by unfold js;rw [a7 k2,a7 k3,bW hk];exact hu3⟩

theorem JY {pts:List Pt}{tris:List Tri}{bas:Str}{e:Evt}{es:List Evt}{p:V3}{n:Int}{ns:List Int}{u:Str}(h:n≠dX pts tris e p):pC pts tris bas (e::es) p (n::ns) u=false:=a7 h
theorem If {pts:List Pt}{tris:List Tri}{bas:Str}{e:Evt}{es:List Evt}{p:V3}{n:Int}{ns:List Int}{u v:Str}(h:n=dX pts tris e p)(he:gJ e (dX pts tris e p)=some v):pC pts tris bas (e::es) p (n::ns) u=decide (ns=[]/\u=v):=by
 subst h;simp only [pC,Mb,he]
theorem JZ {pts:List Pt}{tris:List Tri}{bas:Str}{e:Evt}{es:List Evt}{p:V3}{n:Int}{ns:List Int}{u:Str}(h:n=dX pts tris e p)(he:gJ e (dX pts tris e p)=none):pC pts tris bas (e::es) p (n::ns) u=pC pts tris bas es (js e p) ns u:=by
 subst h;simp only [pC,Mb,he]
theorem Gu {path:List Int}{n:Nat}{z:Int}{u v:Str}(hz:z=(n:Nat))(h:n<=path.length):((((path.length:Nat):Int) == z) && u == v)=decide (path.drop n=[]/\u=v):=by
 rw [Mq,bL,Lg,Lg,cH,List.drop_eq_nil_iff,hz];constructor
 ·intro g;exact ⟨by omega,g.2⟩
 ·intro g;exact ⟨by omega,g.2⟩
theorem w5 (C:Mem)(hT:Tabs C)(hv:Value)(pts:List Pt)(tris:List Tri)(bas:Str)(es:List Evt)(hh:HisIn C hv pts tris bas es)(hHR:HisR pts tris bas es)(p:V3)(hp:PlR 0 p)(path:List Int)(Ap:Option Addr)(cp:Nat)(hpa:Sl C 1 (.slice Ap path.length cp) (path.map dB))(unit:Str) :
  Gives cx.P 10 [hv,vV p,.slice Ap path.length cp,aA unit] C (.bool (pC pts tris bas es.reverse p path unit)):=by
 obtain ⟨v1,v2,A,c,rfl,hm,rows,hs,hrl,hrow⟩:=hh;have hes:=hHR.l;have hq0:=(hp.qb (show 0<=3 by decide));obtain ⟨_,_,e1,hpl1,hpl2,_⟩:=id hpa;have hmx:maxLen<=9223372036854775807:=by simp [maxLen]
 simp only [aH] at hpl1;refine Fn.it kr_ Tryz.func10 75 fun w0=>?_;refine G.rg fun R hR=>?_;refine D.aD (fun b4=>?_);refine D.aD (fun b5=>?_);refine D.q4 1 2 3 4 5 hR ?_;refine G.freeze 1 Z (fun _ _ hb4=>?_);refine G.freeze 0 Z (fun _ _ hb5=>?_);refine G.rg fun R hR=>?_;refine D.aa (bkT hb5 3) ?_;refine D.au (dH _ hT.m_ p ⟨hq0.1.le dc_,hq0.2.1.le dc_,hq0.2.2.le dc_⟩) U7 fl_ (fun v13 _ _ hq13=>?_);refine D.ai (fun b9=>?_);obtain ⟨x0,y0,z0,rfl,hx0⟩:=hq13;refine D.ae (j:=0) ?_;refine D.e4 2 3 4 9 hR ?_;refine G.rp 1 fun R hR=>?_;refine D.aa (bkT hb4 1) ?_;refine D.q6 2 2 3 4 9 16 17 hR ?_;refine G.loop (fun fr C' L' μ=>∃ (i:Nat)(q:V3)(x y z:FV),(i<=es.length/\i<=path.length/\PlR i q/\V3s C' x y z q/\pC pts tris bas es.reverse p path unit=pC pts tris bas (es.reverse.drop i) q (path.drop i) unit)/\fr=[(2,[],.slice Ap path.length cp),(3,[],aA unit),(4,[],.pointer (some ⟨b4,0,none⟩)),(9,[],.pointer (some ⟨b9,0,none⟩)),(16,[],.int .i64 es.length),(17,[],.int .i64 i)]/\L'=[.obj b9 (.cells ⟨x.enc++(y.enc++z.enc)⟩ 113 (0,0))]/\μ=es.length-i) (h_6 2 3 4 9 16 17) ⟨0,p,x0,y0,z0,⟨ch _,ch _,hp,V3s.mono hx0 mup,Z⟩,Z,Z,Z⟩ (fun fr C0' L0' m _ hI=>?_);obtain ⟨i,q,x,y,z,⟨hi,hip,hpl,hxq,hacc⟩,rfl,rfl,rfl⟩:=hI;refine G.z7 1 2 3 4 9 16 17 18 ?_;refine G.cd (fun h18=>?_) fun h18=>?_
 ·have hil:i<es.length:=by have:=bi h18;omega
  obtain ⟨e,he0,hdr⟩:=Dk (es:=es) (k:=i) hil;obtain ⟨r,hr0⟩:∃ r,rows[es.length-1-i]?=some r:=⟨_,aq om_⟩;have hrM:=hrow _ r e hr0 he0;have hE:=hHR.e e (ba he0);have hq3:Q3 2 q:=hpl.qb om_;rw [hdr] at hacc;obtain ⟨g1,g2,g3⟩:=ur hE pts tris q;obtain ⟨nm,A1,A2,A3,A4,n1,n2,n3,n4,c1,c2,c3,c4,xx,qq,rfl,_⟩:=hrM.gen;refine G.z7 2 2 3 4 9 10 16 17 ?_;refine G.cut (fun fr C' L' μ=>∃ (b11:Nat)(xu yu zu:FV),(V3s C' xu yu zu (js e q))/\fr=[(2,[],.slice Ap path.length cp),(3,[],aA unit),(4,[],.pointer (some ⟨b4,0,none⟩)),(9,[],.pointer (some ⟨b9,0,none⟩)),(10,[],.int .i64 i),(11,[],.pointer (some ⟨b11,0,none⟩)),(16,[],.int .i64 es.length),(17,[],.int .i64 i)]/\L'=[.obj b11 (.cells ⟨unV (dX pts tris e q) (gJ e (dX pts tris e q)).isSome ((gJ e (dX pts tris e q)).getD []) xu yu zu⟩ 116 (0,0)),.obj b9 (.cells ⟨x.enc++(y.enc++z.enc)⟩ 113 (0,0))]) ?_ (fun fr Cr5 Lr5 μ hler5 hI=>?_)
  ·refine G.gt (.cut [0,1,2,3,4,5,6,7,8,9,10,11,12] (.alt 13 (.fin [14,15]) (.alt 14 (.fin [13,15]) .stop))) [] Z Z kr_ (fun R hB hR hH=>?_);refine D.ac ?_;refine D.aa (bkT hb4 2) ?_;refine D.ac ?_;refine D.aa (bkT hb4 1) ?_;refine D.ac ?_;refine D.aa (bkT hb4 1) ?_;refine D.ac ?_;refine D.ar _ ?_;refine D.ac ?_;refine D.ar _ ?_;refine D.ak hs.m_ U10 om_ (by rw [show ((es.length:Int)-1-(i:Int)).toNat=es.length-1-i by omega];exact hr0) fl_ (fun p30 hp30=>?_);refine D.aa hp30 ?_;refine D.af (.head _) ?_;refine D.eu hH Z ⟨?_, ?_,trivial⟩
   ·refine D.az (zO _ hT.m_ _ pts tris hm.m_ hHR.g e hE _ hrM.m_ _ q (V3s.vc (V3s.m_ hxq)) hq3) (fun v33 C33 _ hq33=>?_);refine D.ai (fun b11=>?_);obtain ⟨xu,yu,zu,rfl,hu3⟩:=hq33;refine D.ae (j:=0) ?_;refine D.e8 2 3 4 9 10 11 16 17 hR ?_;exact G.aK 0 mup (h_8 2 3 4 9 10 11 16 17) ⟨b11,xu,yu,zu,V3s.mono hu3 mup,Z,Z⟩
   ·refine D.ai (fun b11=>?_);refine D.az (zO _ hT.m_ _ pts tris hm.m_ hHR.g e hE _ hrM.m_ _ q (V3s.vc (V3s.m_ hxq)) hq3) (fun v33 C33 _ hq33=>?_);obtain ⟨xu,yu,zu,rfl,hu3⟩:=hq33;refine D.ae (j:=0) ?_;refine D.e8 2 3 4 9 10 11 16 17 hR ?_;exact G.aK 0 mup (h_8 2 3 4 9 10 11 16 17) ⟨b11,xu,yu,zu,V3s.mono hu3 mup,Z,Z⟩
  obtain ⟨b11,xu,yu,zu,hu3,rfl,rfl⟩:=hI;refine G.freeze 0 Z (fun _ _ hb11=>?_);have hge:∀ {q:Prop},(decide ((i:Int) ≥ ((path.length:Nat):Int))=false/\q)->i<path.length:=fun h=>by have:=dj h.1;omega
  have hrw:i<path.length->(path.map dB)[((i:Nat):Int).toNat]?=some (dB (path.getD i 0)):=fun h=>by rw [L5,bX,aF,aq h];rfl
  refine G.aG [0,1,2,3,4,5,6,7,8,9,10,11,12] [] Z kr_ (fun R hB hR=>?_);refine D.ps 7 ?_;refine D.index U10 (fun hg=>⟨hpa.mono mup,by omega,hrw (hge hg)⟩) fl_ Z (fun p41 hp41=>?_);refine D.aN U6 hp41 U3 ?_;refine D.ac ?_;refine D.aN U6 (fun _=>PtrTo.blockT (Mem.get hb11 mup) _ 1) U3 ?_;refine D.ac ?_;refine D.aI ?_;refine D.e9 2 3 4 9 10 11 16 17 46 hR ?_;refine G.cd (fun h46=>?_) fun h46=>?_
  ·have hres:pC pts tris bas es.reverse p path unit=false:=by
    rw [hacc];by_cases hl:i<path.length
    ·rw [K2 hl];refine JY (fun h=>?_);rw [Mp,cH,bne_iff_ne] at h46;rcases h46 with h4 | h4
     ·omega
     ·refine h4 ?_;rw [aF,aq hl];exact h
    ·rw [show path.drop i=[] from Mh om_];rfl
   refine G.z1 1 8 ?_;refine G.rf ?_;exact ⟨by rw [hres],Z⟩
  ·rw [LU,Lc,bne_eq_false_iff_eq] at h46;have hl:i<path.length:=by omega
   have hn:path[i]=dX pts tris e q:=by rw [<- h46.2,aF,aq hl];rfl
   rw [K2 hl] at hacc;refine G.rp 1 fun R hR=>?_;refine D.aa (bkT hb11 1) ?_;refine D.e9 2 3 4 9 10 11 16 17 48 hR ?_;refine G.cd (fun h48=>?_) fun h48=>?_
   ·obtain ⟨v,hv⟩:=MK.1 h48;rw [If hn hv] at hacc;refine G.rp 3 fun R hR=>?_;refine D.ar _ ?_;refine D.ps 4 ?_;refine D.aN U6 (fun _=>PtrTo.blockT (Mem.get hb11 mup) _ 1) U3 ?_;refine D.ac ?_;refine D.aw ?_;refine D.q1 1 8 hR ?_;refine G.rf ?_;refine ⟨?_,Z⟩;rw [hacc,hv];exact congrArg Value.bool (Gu om_ hl)
   ·have hv:gJ e (dX pts tris e q)=none:=by cases h:gJ e (dX pts tris e q) with
     | none=>rfl
     | some v=>rw [h] at h48;cases h48
    rw [JZ hn hv] at hacc;refine G.rp 1 fun R hR=>?_;refine D.aa (bkT hb11 9) ?_;refine D.ae (j:=0) ?_;refine D.e6 2 3 4 9 16 17 hR ?_;refine G.rg fun R hR=>?_;refine D.ar _ ?_;refine D.q6 1 2 3 4 9 16 17 hR ?_;refine G.ax (m':=es.length-(i+1)) om_ mup (h_6 2 3 4 9 16 17) ⟨i+1,js e q,xu,yu,zu,⟨hil,hl,hpl.mov hE.r,V3s.mono hu3 mup,hacc⟩,Z,Z,Z⟩
 ·have hie:i=es.length:=by have:=dj h18;omega
  rw [Mh (by rw [Ng];omega)] at hacc;refine G.rp 3 fun R hR=>?_;refine D.aa (bkT hb4 1) ?_;refine D.ps 5 ?_;refine D.aN U6 (fun _=>PtrTo.blockT (Mem.get hb4 mup) _ 1) U3 ?_;refine D.ac ?_;refine D.aw ?_;refine D.q1 1 8 hR ?_;refine G.rf ?_;refine ⟨?_,Z⟩;rw [hacc];exact congrArg Value.bool (Gu om_ hip)

theorem jN (C:Mem)(hT:Tabs C)(z:Int)(hz:z.natAbs<1000000):Gives cx.P 48 [.int .i64 z] C (aA (qtx (z:Rat))):=by
 refine Fn.it kr_ Tryz.func48 5 fun w0=>?_;refine G.z1 1 0 ?_;refine G.rp 1 fun R hR=>?_;refine D.aj (oV _ hT.m_ z 1 om_ dc_ dc_) U7 fl_ ?_;refine D.q1 1 2 hR ?_;refine G.rf ?_;exact ⟨by rw [Fg],Z⟩
theorem i6 (C:Mem)(hT:Tabs C)(a:I3)(h:a.1.natAbs<1000000/\a.2.1.natAbs<1000000/\a.2.2.natAbs<1000000):Gives cx.P 51 [.int .i64 a.1,.int .i64 a.2.1,.int .i64 a.2.2] C (vV (toV a)):=by
 refine Fn.it kr_ Tryz.func51 14 fun w0=>?_;refine G.rg fun R hR=>?_;refine D.ai (fun b6=>?_);refine D.e4 0 1 2 6 hR ?_;refine G.rp 1 fun R hR=>?_;refine D.ag (jN _ hT.m_ a.1 h.1) ?_;refine D.ac ?_;refine D.ag (jN _ hT.m_ a.2.1 h.2.1) ?_;refine D.ac ?_;refine D.ag (jN _ hT.m_ a.2.2 h.2.2) ?_;refine D.ap (nB (toV a)) ?_;refine D.ae (j:=0) ?_;refine D.e1 6 hR ?_;refine G.aB (G.aR (.head _) U4 ?_);exact ⟨Z,Z⟩
theorem rP (C:Mem)(a:V3):Gives cx.P 106 [vV a] C (.bool (decide (a=(0,0,0)))):=by
 refine Fn.it kr_ Tryz.func106 16 fun w0=>?_;refine G.rg fun R hR=>?_;refine D.aD (fun b1=>?_);refine D.q1 1 1 hR ?_;refine G.freeze 0 Z (fun _ _ hb1=>?_);refine G.rp 1 fun R hR=>?_;refine D.aa (bkT hb1 1) ?_;refine D.ps 3 ?_;refine D.aN U6 (fun _=>PtrTo.blockT (Mem.get hb1 mup) _ 1) U3 ?_;refine D.ac ?_;refine D.aw ?_;refine D.ps 2 ?_;refine D.aN U6 (fun _=>PtrTo.blockT (Mem.get hb1 mup) _ 1) U3 ?_;refine D.ac ?_;refine D.aw ?_;refine D.q1 1 2 hR ?_;refine G.rf ?_;refine ⟨?_,Z⟩;show Value.bool ((qtx a.1 == [48] && qtx a.2.1 == [48]) && qtx a.2.2 == [48])=_;rw [qz,qz,qz];congr 1;rw [Mq];simp only [bL,cH];obtain ⟨x,y,z⟩:=a;simp only [Na];exact and_assoc
theorem kH (C:Mem)(hT:Tabs C)(a b c d:Rat)(ha:QB 1 a)(hb:QB 1 b)(hc:QB 1 c)(hd:QB 1 d):Gives cx.P 163 [aA (qtx a),aA (qtx b),aA (qtx c),aA (qtx d)] C (aA (qtx (a*d-b*c))):=by
 refine Fn.it kr_ Tryz.func163 16 fun w0=>?_;refine G.z4 1 0 1 2 3 ?_;refine G.rp 2 fun R hR=>?_;refine D.aj (vX _ hT.m_ a d 1 dc_ dc_ ha hd) U7 fl_ ?_;refine D.ps 2 ?_;refine D.aj (vX _ hT.m_ b c 1 dc_ dc_ hb hc) U7 fl_ ?_;refine D.aj (Er _ hT.m_ (a*d) (b*c) 2 dc_ dc_ (dU ha hd) (dU hb hc)) U7 fl_ ?_;refine D.q1 1 8 hR ?_;refine G.rf ?_;exact ⟨Z,Z⟩
theorem yY (C:Mem)(hT:Tabs C)(a b:V3)(ha:Q3 1 a)(hb:Q3 1 b):Gives cx.P 109 [vV a,vV b] C (vV (w6 a b)):=by
 refine Fn.it kr_ Tryz.func109 33 fun w0=>?_;refine G.rg fun R hR=>?_;refine D.aD (fun b2=>?_);refine D.aD (fun b3=>?_);refine D.ai (fun b4=>?_);refine D.e3 2 3 4 hR ?_;refine G.freeze 2 Z (fun _ _ hb2=>?_);refine G.freeze 1 Z (fun _ _ hb3=>?_);refine G.aG [0,1,2,3,4,5,6,7,8,9,10,11,12,13,14,15,16,17,18,19,20,21,22,23,24,25,26,27,28] [(8,1),(17,1),(26,1)] Z kr_ (fun R hB hR=>?_);refine D.ac ?_;refine D.aa (bkT hb2 1) ?_;refine D.ac ?_;refine D.aa (bkT hb2 1) ?_;refine D.ac ?_;refine D.aa (bkT hb3 1) ?_;refine D.ac ?_;refine D.aa (bkT hb3 1) ?_;refine D.aL (fun _=>(kH _ hT.m_ a.2.1 a.2.2 b.2.1 b.2.2 ha.2.1 ha.2.2 hb.2.1 hb.2.2)) ?_;refine D.ac ?_;refine D.aa (bkT hb2 1) ?_;refine D.ac ?_;refine D.aa (bkT hb2 1) ?_;refine D.ac ?_;refine D.aa (bkT hb3 1) ?_;refine D.ac ?_;refine D.aa (bkT hb3 1) ?_;refine D.aL (fun _=>(kH _ hT.m_ a.2.2 a.1 b.2.2 b.1 ha.2.2 ha.1 hb.2.2 hb.1)) ?_;refine D.ac ?_;refine D.aa (bkT hb2 1) ?_;refine D.ac ?_;refine D.aa (bkT hb2 1) ?_;refine D.ac ?_;refine D.aa (bkT hb3 1) ?_;refine D.ac ?_;refine D.aa (bkT hb3 1) ?_;refine D.aL (fun _=>(kH _ hT.m_ a.1 a.2.1 b.1 b.2.1 ha.1 ha.2.1 hb.1 hb.2.1)) ?_;refine D.ap (nB (w6 a b)) ?_;refine D.ae (j:=0) ?_;refine D.e1 4 hR ?_;refine G.aB (G.aR (.head _) U4 ?_);exact ⟨Z,Z⟩
theorem HZ {d:Deed}(hd:DeedR d):(-128<=d.a0/\d.a0<=127)/\(-128<=d.a1/\d.a1<=127)/\(-128<=d.a2/\d.a2<=127)/\(-128<=d.b0/\d.b0<=127)/\(-128<=d.b1/\d.b1<=127)/\(-128<=d.b2/\d.b2<=127)/\(-128<=d.n/\d.n<=127) :=
 ⟨hd.a _ (.head _),hd.a _ (.tail _ (.head _)),hd.a _ (.tail _ (.tail _ (.head _))),hd.b _ (.head _),hd.b _ (.tail _ (.head _)),hd.b _ (.tail _ (.tail _ (.head _))),hd.b _ (.tail _ (.tail _ (.tail _ (.head _))))⟩
theorem I2 {a:I3}(h:a.1.natAbs<=1000/\a.2.1.natAbs<=1000/\a.2.2.natAbs<=1000):Q3 1 (toV a):=(vM h).qb dc_
theorem Bp (C:Mem)(hT:Tabs C)(d:Deed)(hd:DeedR d):Gives cx.P 47 [.agg ⟨[.int .i8 d.a0,.int .i8 d.a1,.int .i8 d.a2]⟩] C (vV (toV (rJ d))):=by
 obtain ⟨h0,h1,h2,_⟩:=HZ hd;have hr:=sy d.a0 d.a1 d.a2;refine Fn.it kr_ Tryz.func47 21 fun w0=>?_;refine G.rg fun R hR=>?_;refine D.aD (fun b1=>?_);refine D.ai (fun b2=>?_);refine D.e2 1 2 hR ?_;refine G.freeze 1 Z (fun _ _ hb1=>?_);refine G.rg fun R hR=>?_;refine D.aE (0) U9 (fun _=>⟨by decide,by decide,Z⟩) U2 ?_;refine D.aa (bkT hb1 1) ?_;refine D.bT (c:=d.a0) U8 (wrap_i64 om_ om_) fl_ ?_;refine D.dg (d.a0.tmod 3) U6 dc_ U3 ?_;refine D.aE (1) U9 (fun _=>⟨by decide,by decide,Z⟩) U2 ?_;refine D.aa (bkT hb1 1) ?_;refine D.bT (c:=d.a1) U8 (wrap_i64 om_ om_) fl_ ?_;refine D.dg (d.a1.tmod 3) U6 dc_ U3 ?_;refine D.aE (2) U9 (fun _=>⟨by decide,by decide,Z⟩) U2 ?_;refine D.aa (bkT hb1 1) ?_;refine D.bT (c:=d.a2) U8 (wrap_i64 om_ om_) fl_ ?_;refine D.dg (d.a2.tmod 3) U6 dc_ U3 ?_;refine D.aj (i6 _ hT.m_ (rm3 d.a0 d.a1 d.a2) ⟨by omega,by omega,by omega⟩) U7 fl_ ?_;refine D.ai (fun b3=>?_);refine D.ae (j:=0) ?_;refine D.e2 2 3 hR ?_;refine G.rg fun R hR=>?_;refine D.af (.head _) ?_;refine D.ag (rP _ (toV (rm3 d.a0 d.a1 d.a2))) ?_;refine D.e3 2 3 18 hR ?_;refine G.cd (fun h18=>?_) fun h18=>?_
 ·have hz:rm3 d.a0 d.a1 d.a2=(0,0,0):=jA.1 (bi h18);have en:rJ d=((rm3 d.a0 d.a1 d.a2).1,(rm3 d.a0 d.a1 d.a2).2.1,1):=bW hz;refine G.rp 1 fun R hR=>?_;refine D.ae (j:=0) ?_;refine D.e2 2 3 hR ?_;refine G.rg fun R hR=>?_;refine D.af (.head _) ?_;refine D.ae (j:=1) ?_;refine D.e1 2 hR ?_;refine G.aB (G.aR (.head _) U4 ?_);refine ⟨?_,Z⟩;rw [en];show Value.agg ⟨[aA (qtx _),aA (qtx _),aA [49]]⟩=Value.agg ⟨[aA (qtx _),aA (qtx _),aA (qtx ((1:Int):Rat))]⟩;rw [show ((1:Int):Rat)=1 from rfl,AX];rfl
 ·have hz:rm3 d.a0 d.a1 d.a2≠(0,0,0):=fun h=>dj h18 (jA.2 h);refine G.rg fun R hR=>?_;refine D.af (.head _) ?_;refine D.ae (j:=1) ?_;refine D.e1 2 hR ?_;refine G.aB (G.aR (.head _) U4 ?_);exact ⟨by unfold rJ;rw [a7 hz];rfl,Z⟩
def acL (b:I3):List I3:=[b,(1,0,0),(0,1,0)]
theorem J0 {b:I3}(hb:b.1.natAbs<=2/\b.2.1.natAbs<=2/\b.2.2.natAbs<=2)(i:Nat)(hi:i<3):((acL b).getD i (0,0,0)).1.natAbs<=2/\((acL b).getD i (0,0,0)).2.1.natAbs<=2/\((acL b).getD i (0,0,0)).2.2.natAbs<=2:=by
 match i,hi with
 | 0,_=>exact hb
 | 1,_=>exact (by decide:((1,0,0):I3).1.natAbs<=2/\((1,0,0):I3).2.1.natAbs<=2/\((1,0,0):I3).2.2.natAbs<=2)
 | 2,_=>exact (by decide:((0,1,0):I3).1.natAbs<=2/\((0,1,0):I3).2.1.natAbs<=2/\((0,1,0):I3).2.2.natAbs<=2)
theorem Ig (b:I3){i:Nat}(hi:i<3):((acL b).map fun a=>nB (toV a))[((i:Nat):Int).toNat]?=some (nB (toV ((acL b).getD i (0,0,0)))):=by
 match i,hi with
 | 0,_=>rfl
 | 1,_=>rfl
 | 2,_=>rfl
theorem JX {n b:I3}{i:Nat}(hi:i<3)(h:∀ k<i,j1 n ((acL b).getD k (0,0,0))=(0,0,0))(hz:j1 n ((acL b).getD i (0,0,0))≠(0,0,0)):zk n b=j1 n ((acL b).getD i (0,0,0)):=by
 unfold zk
 match i,hi with
 | 0,_=>exact bW hz
 | 1,_ =>
  have h0:j1 n b=(0,0,0):=h 0 dc_;rw [a7 (fun g=>g h0)];exact bW hz
 | 2,_ =>
  have h0:j1 n b=(0,0,0):=h 0 dc_;have h1:j1 n (1,0,0)=(0,0,0):=h 1 dc_;rw [a7 (fun g=>g h0),a7 (fun g=>g h1)];exact bW hz
theorem JW {n b:I3}(h:∀ k<3,j1 n ((acL b).getD k (0,0,0))=(0,0,0)):zk n b=(0,0,0):=by
 have h0:j1 n b=(0,0,0):=h 0 dc_;have h1:j1 n (1,0,0)=(0,0,0):=h 1 dc_;have h2:j1 n (0,1,0)=(0,0,0):=h 2 dc_;unfold zk;rw [a7 (fun g=>g h0),a7 (fun g=>g h1),a7 (fun g=>g h2)]
theorem tK (C:Mem)(hT:Tabs C)(n b:I3)(hn:n.1.natAbs<=2/\n.2.1.natAbs<=2/\n.2.2.natAbs<=2)(hb:b.1.natAbs<=2/\b.2.1.natAbs<=2/\b.2.2.natAbs<=2):Gives cx.P 50 [vV (toV n),vV (toV b)] C (vV (toV (zk n b))):=by
 refine Fn.it kr_ Tryz.func50 26 fun w0=>?_;refine G.rg fun R hR=>?_;refine D.aD (fun b2=>?_);refine D.aD (fun b3=>?_);refine D.ai (fun b4=>?_);refine D.e3 2 3 4 hR ?_;refine G.freeze 2 Z (fun _ _ hb2=>?_);refine G.freeze 1 Z (fun _ _ hb3=>?_);refine G.aG [0,1,2,5,3,4] [(1,1),(2,1)] Z kr_ (fun R hB hR=>?_);refine D.aa (bkT hb3 3) ?_;refine D.ay (fun _=>(i6 _ hT.m_ (1,0,0) dc_)) U9 ?_;refine D.ay (fun _=>(i6 _ hT.m_ (0,1,0) dc_)) U9 ?_;refine D.ac ?_;refine D.ah ((acL b).map fun a=>nB (toV a)) (fun p11 _ _ hs11=>?_);obtain ⟨A11,c11,rfl,_⟩:=id hs11;refine D.q5 1 2 4 11 12 13 hR ?_;refine G.loop (fun fr C' L' μ=>∃ (i:Nat),(i<=3/\∀ k<i,j1 n ((acL b).getD k (0,0,0))=(0,0,0))/\fr=[(2,[],.pointer (some ⟨b2,0,none⟩)),(4,[],.pointer (some ⟨b4,0,none⟩)),(11,[],.slice A11 3 c11),(12,[],.int .i64 3),(13,[],.int .i64 i)]/\L'=[.obj b4 (.cells ⟨zzz⟩ 44 (0,0))]/\μ=3-i) (h_5 2 4 11 12 13) ⟨0,⟨by decide,by omega⟩,Z,Z,Z⟩ (fun fr C0' L0' m _ hI=>?_);obtain ⟨i,⟨hi,hall⟩,rfl,rfl,rfl⟩:=hI;refine G.z6 1 2 4 11 12 13 14 ?_;refine G.cd (fun h14=>?_) fun h14=>?_
 ·have hil:i<3:=by have:=bi h14;omega
  have hbq:=J0 hb i hil;refine G.rg fun R hR=>?_;refine D.ak hs11.m_ U10 om_ (Ig b hil) fl_ (fun p15 hp15=>?_);refine D.aa hp15 ?_;refine D.ai (fun b6=>?_);refine D.ae (j:=0) ?_;refine D.e6 2 4 6 11 12 13 hR ?_;refine G.freeze 0 Z (fun _ _ hb6=>?_);refine G.rg fun R hR=>?_;refine D.aa (bkT hb2 3) ?_;refine D.aa (bkT hb6 3) ?_;refine D.aj (yY _ hT.m_ (toV n) (toV ((acL b).getD i (0,0,0))) (I2 ⟨by omega,by omega,by omega⟩) (I2 ⟨by omega,by omega,by omega⟩)) U7 fl_ ?_;rw [CV];refine D.ai (fun b7=>?_);refine D.ae (j:=0) ?_;refine D.e6 2 4 7 11 12 13 hR ?_;refine G.freeze 0 Z (fun _ _ hb7=>?_);refine G.rg fun R hR=>?_;refine D.aa (bkT hb7 3) ?_;refine D.ag (rP _ (toV (j1 n ((acL b).getD i (0,0,0))))) ?_;refine D.q7 1 2 4 7 11 12 13 22 hR ?_;refine G.cd (fun h22=>?_) fun h22=>?_
  ·have hz:j1 n ((acL b).getD i (0,0,0))≠(0,0,0):=fun h=>by rw [j9 (jA.2 h)] at h22;cases h22
   refine G.rg fun R hR=>?_;refine D.aa (bkT hb7 3) ?_;refine D.ae (j:=0) ?_;refine D.e1 4 hR ?_;refine G.aB (G.aR (.head _) U4 ?_);exact ⟨by rw [JX hil hall hz];rfl,Z⟩
  ·have hz:j1 n ((acL b).getD i (0,0,0))=(0,0,0):=by
    rw [Bool.not_eq_false'] at h22;exact jA.1 (bi h22)
   refine G.rg fun R hR=>?_;refine D.ar _ ?_;refine D.q5 1 2 4 11 12 13 hR ?_;refine G.ax (m':=3-(i+1)) om_ mup (h_5 2 4 11 12 13) ⟨i+1,⟨hil,fun k hk=>by
    rcases Ld k i with h | h
    ·exact hall k h
    ·obtain rfl:k=i:=by omega
     exact hz⟩,Z,Z,Z⟩
 ·have hie:i=3:=by have:=dj h14;omega
  subst hie;refine G.rg fun R hR=>?_;refine D.aj (i6 _ hT.m_ (0,0,0) dc_) U7 fl_ ?_;refine D.ae (j:=0) ?_;refine D.e1 4 hR ?_;refine G.aB (G.aR (.head _) U4 ?_);exact ⟨by rw [JW hall];rfl,Z⟩
theorem o0 (C:Mem):Pur cx.P 107 [] C fun u D=>∃ A c,u=.slice A 6 c/\Sl D 1 (.slice A 6 c) (([[65],[66],[67],[68],[69],[70]]:List Str).map bN):=by
 refine Fn.it kr_ Tryz.func107 2 fun w0=>?_;refine G.rp 1 fun R hR=>?_;refine D.bA [] trivial (hR _ _ _ Z ?_);refine G.rg fun R hR=>?_;refine D.ah (([[65],[66],[67],[68],[69],[70]]:List Str).map bN) (fun p1 _ _ hs1=>?_);refine D.q1 1 0 hR ?_;obtain ⟨A,c,rfl,_⟩:=id hs1;refine G.rf ?_;exact ⟨Z,_,_,Z,hs1⟩

instance (k:Nat) (q:Rat):Decidable (QB k q):=by unfold QB;infer_instance
instance (k:Nat) (p:Pt):Decidable (QP k p):=by unfold QP;infer_instance
instance (n:Nat) (t:Tri):Decidable (ow n t):=by unfold ow;infer_instance

def EB (m:Nat)(u v:Int)(h:Bool):List Pt:=(shP m).map fun p=>(iV (p.1+u*1) (jo h*1),iV (p.2+v*1) (jo h*1))
theorem Jl (m:Nat)(a b:Int)(h:Bool):fY m a b h=EB m (a.tmod 8) (b.tmod 8) h:=rfl
def ni (pts:List Pt)(tris:List Tri):Bool :=
 pts.all (fun p=>decide (QP 1 p)) && (decide pts.Nodup && (tris.all (fun t=>decide (ow pts.length t)) && (tris.all (fun t=>decide (0<eE (pts.getD t.1 (0,0)) (pts.getD t.2.1 (0,0)) (pts.getD t.2.2 (0,0)))) && (decide (cq tris).Nodup && (lf pts tris && pts.all fun p=>decide (KA pts tris p≠[]))))))
theorem KU:∀ i<15,∀ j<15,∀ h:Bool,ni (EB 0 ((i:Nat)-7) ((j:Nat)-7) h) (shT 0)=true:=by decide +kernel

theorem KT:∀ i<15,∀ j<15,∀ h:Bool,ni (EB 1 ((i:Nat)-7) ((j:Nat)-7) h) (shT 1)=true:=by decide +kernel

theorem KS:∀ i<15,∀ j<15,∀ h:Bool,ni (EB 2 ((i:Nat)-7) ((j:Nat)-7) h) (shT 2)=true:=by decide +kernel

theorem KR:∀ i<15,∀ j<15,∀ h:Bool,ni (EB 3 ((i:Nat)-7) ((j:Nat)-7) h) (shT 3)=true:=by decide +kernel

theorem KQ:∀ i<15,∀ j<15,∀ h:Bool,ni (EB 4 ((i:Nat)-7) ((j:Nat)-7) h) (shT 4)=true:=by decide +kernel

theorem KP:∀ i<15,∀ j<15,∀ h:Bool,ni (EB 5 ((i:Nat)-7) ((j:Nat)-7) h) (shT 5)=true:=by decide +kernel

theorem KO:∀ i<15,∀ j<15,∀ h:Bool,ni (EB 6 ((i:Nat)-7) ((j:Nat)-7) h) (shT 6)=true:=by decide +kernel

theorem KN:∀ i<15,∀ j<15,∀ h:Bool,ni (EB 7 ((i:Nat)-7) ((j:Nat)-7) h) (shT 7)=true:=by decide +kernel

theorem r4 (a:Int):∃ i:Nat,i<15/\a.tmod 8=(i:Int)-7:=by
 have h:=zW a;exact ⟨(a.tmod 8+7).toNat,by omega,by omega⟩
theorem uc (m:Nat)(hm:m<8)(a b:Int)(h:Bool):ni (fY m a b h) (shT m)=true:=by
 obtain ⟨i,hi,hie⟩:=r4 a;obtain ⟨j,hj,hje⟩:=r4 b;rw [Jl,hie,hje];rcases (by omega:m=0∨m=1∨m=2∨m=3∨m=4∨m=5∨m=6∨m=7) with rfl | rfl | rfl | rfl | rfl | rfl | rfl | rfl
 ·exact KU i hi j hj h
 ·exact KT i hi j hj h
 ·exact KS i hi j hj h
 ·exact KR i hi j hj h
 ·exact KQ i hi j hj h
 ·exact KP i hi j hj h
 ·exact KO i hi j hj h
 ·exact KN i hi j hj h
theorem G4:∀ m:Nat,m<8->shT m≠[]/\(shT m).length<=800:=by decide
theorem HG {pts:List Pt}{tris:List Tri}(h:ni pts tris=true)(h0:tris≠[])(h1:tris.length<=800)(h2:pts.length<=400):Good pts tris/\∀ p∈pts,KA pts tris p≠[]:=by
 unfold ni at h;simp only [bL,ep,cH] at h;obtain ⟨g1,g2,g3,g4,g5,g6,g7⟩:=h;exact ⟨⟨⟨g1,g2,g3,g4,g5,h1,h2⟩,h0,g6⟩,g7⟩
theorem x4 (m:Nat)(hm:m<8)(a b:Int)(h:Bool):Good (fY m a b h) (shT m)/\∀ p∈fY m a b h,KA (fY m a b h) (shT m) p≠[]:=by
 have hp:=ql m a b h;obtain ⟨h0,h1⟩:=G4 m hm;exact HG (uc m hm a b h) h0 h1 om_

def Kf (a b:Int)(h:Bool)(x y z:Int):V3:=((lk a b h x y 2).1,(lk a b h x y 2).2,iV z 2)
theorem uO {z w:Int}(hw:w=2∨w=4)(hz:z.natAbs<=250):Dn 4 1000 (iV z w):=by
 rcases hw with rfl | rfl
 ·refine ⟨z*2, ?_,by omega⟩;show mkRat z 2*((4:Nat):Rat)=_;rw [M0,Mi];show (z:Rat) / 2*4=z*2;grind
 ·refine ⟨z, ?_,by omega⟩;show mkRat z 4*((4:Nat):Rat)=_;rw [M0];show (z:Rat) / 4*4=z;grind
theorem Kx (a b:Int)(h:Bool){x y z:Int}(hx:-128<=x/\x<=127)(hy:-128<=y/\y<=127)(hz:-128<=z/\z<=127):PlR 0 (Kf a b h x y z):=by
 have hh:jo h*2=2∨jo h*2=4:=by cases h <;> simp [jo]
 have h1:=zW a;have h2:=zW b;exact ⟨uO hh om_,uO hh om_,uO (.inl Z) om_⟩
theorem Co (C:Mem)(cs:List Value)(A:Option Addr)(n c:Nat)(hcs:∃ v1 v2 v3 v4,cs=[v1,v2,v3,v4,.slice A n c]):Gives cx.P 5 [.agg ⟨cs⟩] C (.bool (decide (n<=3))):=by
 obtain ⟨v1,v2,v3,v4,rfl⟩:=hcs;refine Fn.it kr_ Tryz.func5 7 fun w0=>?_;refine G.rg fun R hR=>?_;refine D.aD (fun b1=>?_);refine D.q1 1 1 hR ?_;refine G.freeze 0 Z (fun _ _ hb1=>?_);refine G.rp 1 fun R hR=>?_;refine D.aa (bkT hb1 1) ?_;refine D.q1 3 2 hR ?_;refine G.rf ?_;exact ⟨congrArg Value.bool (by rw [Lj];omega),Z⟩
theorem yk (C:Mem)(hT:Tabs C)(kd a b:Int)(h:Bool)(w:Value)(x y z:Int)(hx:-128<=x/\x<=127)(hy:-128<=y/\y<=127)(hz:-128<=z/\z<=127):Gives cx.P 7 [.agg ⟨[.int .u8 kd,.int .i8 a,.int .i8 b,.bool h,w]⟩,.agg ⟨[.int .i8 x,.int .i8 y,.int .i8 z]⟩] C (vV (Kf a b h x y z)):=by
 refine Fn.it kr_ Tryz.func7 23 fun w0=>?_;refine G.rg fun R hR=>?_;refine D.aD (fun b2=>?_);refine D.aD (fun b3=>?_);refine D.ai (fun b4=>?_);refine D.e3 2 3 4 hR ?_;refine G.freeze 2 Z (fun _ _ hb2=>?_);refine G.freeze 1 Z (fun _ _ hb3=>?_);refine G.rp 1 fun R hR=>?_;refine D.aa (bkT hb2 4) ?_;refine D.aE (0) U9 (fun _=>⟨by decide,by decide,Z⟩) U2 ?_;refine D.aa (bkT hb3 1) ?_;refine D.aE (1) U9 (fun _=>⟨by decide,by decide,Z⟩) U2 ?_;refine D.aa (bkT hb3 1) ?_;refine D.ap [.int .i8 x,.int .i8 y] ?_;refine D.aj (wk _ hT.m_ kd a b h x y 2 dc_ dc_ hx hy) U7 fl_ ?_;refine D.ai (fun b5=>?_);refine D.ae (j:=0) ?_;refine D.e3 3 4 5 hR ?_;refine G.freeze 0 Z (fun _ _ hb5=>?_);refine G.aG [0,1,2,3,4,5,6,7,8,9] [(7,1),(6,0)] Z kr_ (fun R hB hR=>?_);refine D.ac ?_;refine D.aa (bkT hb5 1) ?_;refine D.ac ?_;refine D.aa (bkT hb5 1) ?_;refine D.aE (2) U9 (fun _=>⟨by decide,by decide,Z⟩) U2 ?_;refine D.aa (bkT hb3 1) ?_;refine D.bS (c:=z) U8 (wrap_i64 om_ om_) U2 ?_;refine D.ay (fun _=>(oV _ hT.m_ z 2 om_ dc_ dc_)) U9 ?_;refine D.ap (nB (Kf a b h x y z)) ?_;refine D.ae (j:=0) ?_;refine D.e1 4 hR ?_;refine G.aB (G.aR (.head _) U4 ?_);exact ⟨Z,Z⟩

theorem KK (d:Deed):∀ k<3,((jY d).drop (1+k)).take 1=[.int .i8 ((dA d).getD k 0)]
 | 0,_=>rfl
 | 1,_=>rfl
 | 2,_=>rfl
theorem JO (d:Deed):∀ k<4,((jY d).drop (8+k)).take 1=[.int .u8 ((dK d).getD k 0)]
 | 0,_=>rfl
 | 1,_=>rfl
 | 2,_=>rfl
 | 3,_=>rfl
theorem JP {d:Deed}(hd:DeedR d)(k:Nat):-128<=(dA d).getD k 0/\(dA d).getD k 0<=127:=by
 rw [aF];cases h:(dA d)[k]? with
 | none=>decide
 | some z=>exact hd.a z (ba h)
theorem Gx {d:Deed}(hd:DeedR d)(k:Nat):(dK d).getD k 0<256:=by
 rw [aF];cases h:(dK d)[k]? with
 | none=>decide
 | some z=>exact hd.k z (ba h)
def nam6:List Str:=[[65],[66],[67],[68],[69],[70]]
theorem Gj:∀ i<3,(nam6.map bN)[i]?=some (bN [UInt8.ofNat (65+i)])
 | 0,_=>rfl
 | 1,_=>rfl
 | 2,_=>rfl
def b0Q (d:Deed)(k:Nat):Rat:=((d.n.tmod 4:Int):Rat)+iV (((dA d).getD (k % 3) 0).tmod 3) 2
theorem HM {np:Nat}{d:Deed}{k:Nat}(h:k<np):(d8 np d 0).take (k+1)=(d8 np d 0).take k++[b0Q d k]:=by
 rw [xO,show (d8 np d 0)[k]?=some (b0Q d k) by unfold d8;rw [bX,MW h];rfl];rfl
def JV (d:Deed)(j k:Nat):Rat:=iV (((dK d).getD ((j+k) % 4) 0 % 4:Nat):Int) 2
theorem Gq {np:Nat}{d:Deed}{j k:Nat}(h:k<np):(d8 np d j)[k]?=some ((d8 np d j).getD k 0):=by
 rw [aF,aq (by rw [eg];exact h)];rfl
theorem HK {np:Nat}{d:Deed}{j k:Nat}(h:k<np):(d8 np d (j+1)).take (k+1)=(d8 np d (j+1)).take k++[(d8 np d j).getD k 0+JV d j k]:=by
 rw [xO,show (d8 np d (j+1))[k]?=some ((d8 np d j).getD k 0+JV d j k) by
  show ((d8 np d j).mapIdx _)[k]?=_;rw [NZ,Gq h];rfl]
 rfl
def unL (i j:Nat):List Str:=(List.range j).map (nmD i)
theorem Ea (i j:Nat):unL i (j+1)=unL i j++[nmD i j]:=by unfold unL;rw [MV,LC];rfl
theorem pY (i j:Nat):(unL i j).length=j:=by unfold unL;rw [aH,Oj]
theorem JH (np:Nat)(d:Deed){j k:Nat}(hj:j<=3):QB 1 ((d8 np d j).getD k 0) :=
 kO dc_ (fun q hq=>by obtain ⟨y,e,hy⟩:=nl np d j q hq;exact jS e om_) k
def txt1 (j:Nat):Str:=[UInt8.ofNat (49+j)]
theorem IS:∀ j<2,qtx (((j+2:Nat):Int):Rat)=txt1 (j+1)
 | 0,_=>by decide +kernel
 | 1,_=>by decide +kernel
theorem GQ {C D:Mem}{np j:Nat}{d:Deed}{vs:List Value}{x:Value}(hle:C.le D)(hl:vs.length=j)(h:∀ (l:Nat)(w:Value),vs[l]?=some w->Sl C 1 w ((d8 np d (l+1)).map gK))(hx:Sl D 1 x ((d8 np d (j+1)).map gK)) :
  ∀ (l:Nat)(w:Value),(vs++[x])[l]?=some w->Sl D 1 w ((d8 np d (l+1)).map gK):=by
 intro l w hw;rcases Ld l vs.length with g | g
 ·rw [LS g] at hw;exact (h l w hw).mono hle
 ·rw [LD g] at hw;have e:=(aJ.1 hw).1;obtain rfl:l=j:=by simp at e;omega
  rw [hl,OL] at hw;obtain rfl:x=w:=by simpa using hw
  exact hx
theorem uB (C:Mem)(hT:Tabs C)(mv:Value)(pts:List Pt)(tris:List Tri)(hm:MeshIn C mv pts tris)(hnp:pts.length<=6)(d:Deed)(hd:DeedR d)(i:Nat)(hi:i<3) :
  Pur cx.P 49 [mv,.agg ⟨jY d⟩,.int .i64 i] C fun u D=>∃ A1 c1 A2 c2 A3 c3,u=.agg ⟨[.slice A1 (bJ pts.length d i).base.length c1,.slice A2 (bJ pts.length d i).units.length c2,.slice A3 (bJ pts.length d i).surf.length c3]⟩ /\
   Sl D 1 (.slice A1 (bJ pts.length d i).base.length c1) ((bJ pts.length d i).base.map gK)/\Sl D 1 (.slice A2 (bJ pts.length d i).units.length c2) ((bJ pts.length d i).units.map bN)/\FldsIn D (.slice A3 (bJ pts.length d i).surf.length c3) (bJ pts.length d i).surf:=by
 obtain ⟨v1,v2,rfl,h1,h2⟩:=id hm.ex;obtain ⟨A0,c0,rfl,hq1,hq2,_⟩:=id h1;have hmx:maxLen<=9223372036854775807:=by simp [maxLen]
 simp only [aH] at h1 hq1 ⊢;obtain ⟨_,_,_,_,_,_,hn⟩:=HZ hd;have hk0:d.k0<256:=hd.k _ (.head _);refine Fn.it kr_ Tryz.func49 102 fun w0=>?_;refine G.rg fun R hR=>?_;refine D.aD (fun b3=>?_);refine D.aD (fun b4=>?_);refine D.ai (fun b6=>?_);refine D.e4 2 3 4 6 hR ?_;refine G.freeze 2 Z (fun _ _ hb3=>?_);refine G.freeze 1 Z (fun _ _ hb4=>?_);refine G.rg fun R hR=>?_;refine D.az (o0 _) (fun v14 _ _ hq14=>?_);obtain ⟨A14,c14,rfl,hs14⟩:=hq14;refine D.ac ?_;refine D.ak hs14.m_ U10 om_ (Gj i hi) fl_ (fun p16 hp16=>?_);refine D.aa hp16 ?_;refine D.bM U6 (fun _=>(by simp only [fh,J8];omega)) U2 ?_;refine D.ec [bN (nmD i 0)] U12 fl_ (fun b19=>?_);refine D.ap [.slice none 0 0,.slice (some ⟨b19,0,none⟩) 1 1,.slice none 0 0] ?_;refine D.ai (fun b7=>?_);refine D.ae (j:=0) ?_;refine D.e5 2 3 4 6 7 hR ?_;refine G.rp 1 fun R hR=>?_;refine D.aa (bkT hb3 1) ?_;refine D.q6 2 2 4 6 7 23 24 hR ?_;refine G.nilArr 42 1 ?_;refine G.perm (L':=[.obj b7 (.cells ⟨[.slice none 0 0,.slice (some ⟨b19,0,none⟩) 1 1,.slice none 0 0]⟩ 80 (0,0)),.arr (.slice none 0 0) 42 1 0 [],.arr (.slice (some ⟨b19,0,none⟩) 1 1) 9 1 1 [aA (nmD i 0)],.obj b6 (.cells ⟨[.slice none 0 0,.slice none 0 0,.slice none 0 0]⟩ 80 (0,0))]) (List.Perm.swap _ _ _) ?_;refine G.loop (fun fr C' L' μ=>∃ (k:Nat)(w:Value),(k<=pts.length)/\fr=[(2,[],.int .i64 i),(4,[],.pointer (some ⟨b4,0,none⟩)),(6,[],.pointer (some ⟨b6,0,none⟩)),(7,[],.pointer (some ⟨b7,0,none⟩)),(23,[],.int .i64 pts.length),(24,[],.int .i64 k)]/\L'=[.obj b7 (.cells ⟨[w,.slice (some ⟨b19,0,none⟩) 1 1,.slice none 0 0]⟩ 80 (0,0)),.arr w 42 1 ((d8 pts.length d 0).take k).length (((d8 pts.length d 0).take k).map gK).flatten,.arr (.slice (some ⟨b19,0,none⟩) 1 1) 9 1 1 [aA (nmD i 0)],.obj b6 (.cells ⟨[.slice none 0 0,.slice none 0 0,.slice none 0 0]⟩ 80 (0,0))]/\μ=pts.length-k) (h_6 2 4 6 7 23 24) ⟨0,_,ch _,Z,Z,Z⟩ (fun fr C0' L0' m _ hI=>?_);obtain ⟨k,w,hk,rfl,rfl,rfl⟩:=hI;refine G.z7 1 2 4 6 7 23 24 25 ?_;refine G.cd (fun h25=>?_) fun h25=>?_
 ·have hkl:k<pts.length:=by have:=bi h25;omega
  have hr:=JP hd (k % 3);have ht3:=tm3 ((dA d).getD (k % 3) 0);have ht4:=tm4 d.n;have htk:=HM (d:=d) hkl;have htl:((d8 pts.length d 0).take k).length<=6:=by rw [eB];omega
  have q1:QB 1 ((d.n.tmod 4:Int):Rat):=DG (by show _<1000000000;omega) dc_;have q2:QB 1 (iV (((dA d).getD (k % 3) 0).tmod 3) 2):=CJ dc_ om_ dc_;refine G.z7 2 2 4 6 7 8 23 24 ?_;refine G.aG [0,1,2,3,4,5,6,7,8,9,10,11,12,13,14,15,16,17,18,19] [(6,1),(14,1),(15,1),(4,0),(12,0)] Z kr_ (fun R hB hR=>?_);refine D.ac ?_;refine D.af (.head _) ?_;refine D.ac ?_;refine D.aa (bkT hb4 1) ?_;refine D.bS (c:=d.n) U8 (wrap_i64 om_ om_) U2 ?_;refine D.dg (d.n.tmod 4) U6 dc_ U3 ?_;refine D.ay (fun _=>(jN _ hT.m_ (d.n.tmod 4) om_)) U9 ?_;refine D.ac ?_;refine D.dV (k) (3) U6 om_ U2 ?_;refine D.ac ?_;refine D.aE ((1+k % 3)) U9 (fun _=>⟨by omega,by omega,(by show 1+k % 3=1+(k % 3)*1;omega)⟩) U2 ?_;refine D.j6 (PtrTo.blockT (Mem.get hb4 mup) (1+k % 3) 1) U6 (show bR _ (((jY d).drop (1+k % 3)).take 1)=some (.int .i8 ((dA d).getD (k % 3) 0)) from by rw [KK d _ om_];rfl) Z ?_;refine D.bS (c:=((dA d).getD (k % 3) 0)) U8 (wrap_i64 om_ om_) U2 ?_;refine D.dg (((dA d).getD (k % 3) 0).tmod 3) U6 dc_ U3 ?_;refine D.ay (fun _=>(oV _ hT.m_ (((dA d).getD (k % 3) 0).tmod 3) 2 om_ dc_ dc_)) U9 ?_;refine D.ay (fun _=>(qi _ hT.m_ _ _ 1 dc_ dc_ q1 q2)) U9 ?_;refine D.ah [gK (b0Q d k)] (fun p43 _ _ hs43=>?_);refine D.aQ (j:=1) U11 hs43.m_ Z (by simp only [bz,maxLen];omega) (by simp only [bz];omega) fl_ (fun A44 n44 c44=>?_);refine D.ac ?_;refine D.ae (j:=1) ?_;refine D.e6 2 4 6 7 23 24 hR ?_;refine G.rg fun R hR=>?_;refine D.ar _ ?_;refine D.q6 1 2 4 6 7 23 24 hR ?_;refine G.be (L':=[.obj b7 (.cells ⟨[.slice A44 n44 c44,.slice (some ⟨b19,0,none⟩) 1 1,.slice none 0 0]⟩ 80 (0,0)),.arr (.slice A44 n44 c44) 42 1 ((d8 pts.length d 0).take (k+1)).length (((d8 pts.length d 0).take (k+1)).map gK).flatten,.arr (.slice (some ⟨b19,0,none⟩) 1 1) 9 1 1 [aA (nmD i 0)],.obj b6 (.cells ⟨[.slice none 0 0,.slice none 0 0,.slice none 0 0]⟩ 80 (0,0))]) (by rw [htk,LC,LK,eh];rfl) ?_;refine G.ax (m':=pts.length-(k+1)) om_ mup (h_6 2 4 6 7 23 24) ⟨k+1,_,om_,Z,Z,Z⟩
 ·have hkl:k=pts.length:=by have:=dj h25;omega
  subst hkl;have hfull:(d8 pts.length d 0).take pts.length=d8 pts.length d 0:=gG (by rw [eg];exact aP _);rw [hfull];refine G.freezeArr 1 ((d8 pts.length d 0).map gK) U2 (by intro r hr;obtain ⟨y,_,rfl⟩:=j5.1 hr;rfl) (by rw [aH]) (fun Cb hgb hslb=>?_);obtain ⟨Ab,cb,rfl,_⟩:=id hslb;have hbl:((d8 pts.length d 0).map gK).length=pts.length:=by rw [aH,eg]
  rw [hbl] at hslb ⊢;refine G.rp 1 fun R hR=>?_;refine D.af (.head _) ?_;refine D.q5 1 2 4 6 7 9 hR ?_;refine G.rp 1 fun R hR=>?_;refine D.aE (8) U9 (fun _=>⟨by decide,by decide,Z⟩) U2 ?_;refine D.aa (bkT hb4 1) ?_;refine D.dV (d.k0) (3) U6 om_ U2 ?_;refine D.bT (c:=((d.k0 % 3:Nat):Int)) U8 (wrap_i64 om_ om_) fl_ ?_;refine D.q7 1 2 4 6 7 9 53 54 hR ?_;refine G.nilArr 77 1 ?_;refine G.perm (L':=[.obj b7 (.cells ⟨[.slice Ab pts.length cb,.slice (some ⟨b19,0,none⟩) 1 1,.slice none 0 0]⟩ 80 (0,0)),.arr (.slice (some ⟨b19,0,none⟩) 1 1) 9 1 1 [aA (nmD i 0)],.arr (.slice none 0 0) 77 1 0 [],.obj b6 (.cells ⟨[.slice none 0 0,.slice none 0 0,.slice none 0 0]⟩ 80 (0,0))]) ((List.Perm.swap _ _ _).trans (List.Perm.cons _ (List.Perm.swap _ _ _))) ?_;refine G.loop (fun fr C' L' μ=>∃ (j:Nat)(Al:Option Addr)(cl:Nat)(wu w3:Value)(vs:List Value),(j<=d.k0 % 3/\Sl C' 1 (.slice Al pts.length cl) ((d8 pts.length d j).map gK)/\vs.length=j/\(∀ l w,vs[l]?=some w->Sl C' 1 w ((d8 pts.length d (l+1)).map gK)))/\fr=[(2,[],.int .i64 i),(4,[],.pointer (some ⟨b4,0,none⟩)),(6,[],.pointer (some ⟨b6,0,none⟩)),(7,[],.pointer (some ⟨b7,0,none⟩)),(9,[],.slice Al pts.length cl),(53,[],.int .i64 ((d.k0 % 3:Nat):Int)),(54,[],.int .i64 j)]/\L'=[.obj b7 (.cells ⟨[.slice Ab pts.length cb,wu,w3]⟩ 80 (0,0)),.arr wu 9 1 (unL i (j+1)).length ((unL i (j+1)).map bN).flatten,.arr w3 77 1 vs.length (vs.map fun w=>[w]).flatten,.obj b6 (.cells ⟨[.slice none 0 0,.slice none 0 0,.slice none 0 0]⟩ 80 (0,0))]/\μ=d.k0 % 3-j) (h_7 2 4 6 7 9 53 54) ⟨0,Ab,cb,_,_,[],⟨ch _,hslb.mono mup,Z,fun l w h=>by simp at h⟩,Z,Z,Z⟩ (fun fr C1' L1' m _ hI=>?_);obtain ⟨j,Al,cl,wu,w3,vs,⟨hj,hsl,hvl,hvs⟩,rfl,rfl,rfl⟩:=hI;refine G.z8 1 2 4 6 7 9 53 54 55 ?_;refine G.cd (fun h55=>?_) fun h55=>?_
  ·have hjl:j<d.k0 % 3:=by have:=bi h55;omega
   refine G.z8 2 2 4 6 7 9 10 53 54 ?_;refine G.z9 1 2 4 6 7 9 10 11 53 54 ?_;refine G.tM 3 2 4 6 7 10 11 53 54 57 58 59 ?_;refine G.nilArr 42 1 ?_;refine G.loop (fun fr C' L' μ=>∃ (k:Nat)(w:Value),(k<=pts.length)/\fr=[(2,[],.int .i64 i),(4,[],.pointer (some ⟨b4,0,none⟩)),(6,[],.pointer (some ⟨b6,0,none⟩)),(7,[],.pointer (some ⟨b7,0,none⟩)),(10,[],.int .i64 j),(11,[],w),(53,[],.int .i64 ((d.k0 % 3:Nat):Int)),(54,[],.int .i64 j),(57,[],.slice Al pts.length cl),(58,[],.int .i64 pts.length),(59,[],.int .i64 k)]/\L'=[.arr w 42 1 ((d8 pts.length d (j+1)).take k).length (((d8 pts.length d (j+1)).take k).map gK).flatten,.obj b7 (.cells ⟨[.slice Ab pts.length cb,wu,w3]⟩ 80 (0,0)),.arr wu 9 1 (unL i (j+1)).length ((unL i (j+1)).map bN).flatten,.arr w3 77 1 vs.length (vs.map fun w=>[w]).flatten,.obj b6 (.cells ⟨[.slice none 0 0,.slice none 0 0,.slice none 0 0]⟩ 80 (0,0))]/\μ=pts.length-k) (h_11 2 4 6 7 10 11 53 54 57 58 59) ⟨0,_,ch _,Z,Z,Z⟩ (fun fr C2' L2' m _ hI=>?_);obtain ⟨k,w,hk,rfl,rfl,rfl⟩:=hI;refine G.FL 1 2 4 6 7 10 11 53 54 57 58 59 60 ?_;refine G.cd (fun h60=>?_) fun h60=>?_
   ·have hkl:k<pts.length:=by have:=bi h60;omega
    have hr:=Gx hd ((j+k) % 4);have htk:=HK (d:=d) (j:=j) hkl;have htl:((d8 pts.length d (j+1)).take k).length<=6:=by rw [eB];omega
    have q1:QB 1 ((d8 pts.length d j).getD k 0):=JH pts.length d om_;have q2:QB 1 (JV d j k):=CJ dc_ om_ dc_;refine G.rp 1 fun R hR=>?_;refine D.ak hsl.m_ U10 om_ (bg (Gq hkl)) fl_ (fun p62 hp62=>?_);refine D.aa hp62 ?_;refine D.zq 2 2 4 6 7 10 11 12 13 53 54 57 58 59 hR ?_;refine G.rp 4 fun R hR=>?_;refine D.ar _ ?_;refine D.dV ((j+k)) (4) U6 om_ U2 ?_;refine D.ac ?_;refine D.aE ((8+(j+k) % 4)) U9 (fun _=>⟨by omega,by omega,(by show 8+(j+k) % 4=8+((j+k) % 4)*1;omega)⟩) U2 ?_;refine D.j6 (PtrTo.blockT (Mem.get hb4 mup) (8+(j+k) % 4) 1) U6 (show bR _ (((jY d).drop (8+(j+k) % 4)).take 1)=some (.int .u8 ((dK d).getD ((j+k) % 4) 0)) from by rw [JO d _ om_];rfl) Z ?_;refine D.dV (((dK d).getD ((j+k) % 4) 0)) (4) U6 om_ U2 ?_;refine D.bT (c:=(((dK d).getD ((j+k) % 4) 0 % 4:Nat):Int)) U8 (wrap_i64 om_ om_) fl_ ?_;refine D.aj (oV _ hT.m_ (((dK d).getD ((j+k) % 4) 0 % 4:Nat):Int) 2 om_ dc_ dc_) U7 fl_ ?_;refine D.aj (qi _ hT.m_ _ (JV d j k) 1 dc_ dc_ q1 q2) U7 fl_ ?_;refine D.ah [gK ((d8 pts.length d j).getD k 0+JV d j k)] (fun p77 _ _ hs77=>?_);refine D.aQ (j:=0) U11 hs77.m_ Z (by simp only [bz,maxLen];omega) (by simp only [bz];omega) fl_ (fun A78 n78 c78=>?_);refine D.lF 1 2 4 6 7 10 11 53 54 57 58 59 hR ?_;refine G.rg fun R hR=>?_;refine D.ar _ ?_;refine D.lF 1 2 4 6 7 10 11 53 54 57 58 59 hR ?_;refine G.be (L':=[.arr (.slice A78 n78 c78) 42 1 ((d8 pts.length d (j+1)).take (k+1)).length (((d8 pts.length d (j+1)).take (k+1)).map gK).flatten,.obj b7 (.cells ⟨[.slice Ab pts.length cb,wu,w3]⟩ 80 (0,0)),.arr wu 9 1 (unL i (j+1)).length ((unL i (j+1)).map bN).flatten,.arr w3 77 1 vs.length (vs.map fun w=>[w]).flatten,.obj b6 (.cells ⟨[.slice none 0 0,.slice none 0 0,.slice none 0 0]⟩ 80 (0,0))]) (by rw [htk,LC,LK,eh];rfl) ?_;refine G.ax (m':=pts.length-(k+1)) om_ mup (h_11 2 4 6 7 10 11 53 54 57 58 59) ⟨k+1,_,om_,Z,Z,Z⟩
   ·have hkl:k=pts.length:=by have:=dj h60;omega
    subst hkl;have hfull:(d8 pts.length d (j+1)).take pts.length=d8 pts.length d (j+1):=gG (by rw [eg];exact aP _);rw [hfull];refine G.freezeArr 0 ((d8 pts.length d (j+1)).map gK) U2 (by intro r hr;obtain ⟨y,_,rfl⟩:=j5.1 hr;rfl) (by rw [aH]) (fun Cn hgn hsln=>?_);obtain ⟨An,cn,rfl,_⟩:=id hsln;have hnl:((d8 pts.length d (j+1)).map gK).length=pts.length:=by rw [aH,eg]
    rw [hnl] at hsln ⊢;refine G.be (L':=[.obj b7 (.cells ⟨[.slice Ab pts.length cb,wu,w3]⟩ 80 (0,0)),.arr wu 9 1 (unL i (j+1)).length ((unL i (j+1)).map bN).flatten,.arr w3 77 1 vs.length (vs.map fun w=>[w]).flatten,.obj b6 (.cells ⟨[.slice none 0 0,.slice none 0 0,.slice none 0 0]⟩ 80 (0,0))]) Z ?_;refine G.rp 1 fun R hR=>?_;refine D.af (.head _) ?_;refine D.ac ?_;refine D.ah [[.slice An pts.length cn]] (fun p83 _ _ hs83=>?_);refine D.aQ (j:=2) U11 hs83.m_ Z (by simp only [bz,maxLen];omega) (by simp only [bz];omega) fl_ (fun A84 n84 c84=>?_);refine D.ac ?_;refine D.ae (j:=1) ?_;refine D.e8 2 4 6 7 10 11 53 54 hR ?_;refine G.aG [0,1,3,6,7,2,4,5,8,9,10,11,12,13] [(8,1)] Z kr_ (fun R hB hR=>?_);refine D.ac ?_;refine D.af (.head _) ?_;refine D.ps 2 ?_;refine D.ar _ ?_;refine D.az (o0 _) (fun v88 _ _ hq88=>?_);obtain ⟨A88,c88,rfl,hs88⟩:=hq88;refine D.ak hs88.m_ U10 om_ (Gj i hi) fl_ (fun p90 hp90=>?_);refine D.aa hp90 ?_;refine D.ay (fun _=>(jN _ hT.m_ ((j:Int)+2) om_)) U9 ?_;rw [show ((j:Int)+2)=((j+2:Nat):Int) from rfl,IS j om_];refine D.bM U6 (fun _=>(by simp only [txt1,fh,J8];omega)) U2 ?_;refine D.ah [bN (nmD i (j+1))] (fun p96 _ _ hs96=>?_);refine D.aQ (j:=2) U11 hs96.m_ Z (by rw [pY];simp only [bz,maxLen];omega) (by rw [pY];simp only [bz];omega) fl_ (fun A97 n97 c97=>?_);refine D.ac ?_;refine D.ae (j:=1) ?_;refine D.e7 2 4 6 7 11 53 54 hR ?_;refine G.z7 2 2 4 6 7 9 53 54 ?_;refine G.rg fun R hR=>?_;refine D.ar _ ?_;refine D.q7 1 2 4 6 7 9 53 54 hR ?_;refine G.be (L':=[.obj b7 (.cells ⟨[.slice Ab pts.length cb,.slice A97 n97 c97,.slice A84 n84 c84]⟩ 80 (0,0)),.arr (.slice A97 n97 c97) 9 1 (unL i (j+1+1)).length ((unL i (j+1+1)).map bN).flatten,.arr (.slice A84 n84 c84) 77 1 (vs++[Value.slice An pts.length cn]).length ((vs++[Value.slice An pts.length cn]).map fun w=>[w]).flatten,.obj b6 (.cells ⟨[.slice none 0 0,.slice none 0 0,.slice none 0 0]⟩ 80 (0,0))]) (by rw [Ea i (j+1),LC,LC,LK,LK,eh,eh];rfl) ?_;refine G.ax (m':=d.k0 % 3-(j+1)) om_ mup (h_7 2 4 6 7 9 53 54) ⟨j+1,An,cn,_,_,vs++[.slice An pts.length cn],⟨by omega,hsln.mono mup,by rw [eh,hvl];rfl,GQ mup hvl hvs hsln.m_⟩,Z,Z,Z⟩
  ·have hjl:j=d.k0 % 3:=by have:=dj h55;omega
   refine G.freezeArr 1 ((unL i (j+1)).map bN) U2 (by intro r hr;obtain ⟨y,_,rfl⟩:=j5.1 hr;rfl) (by rw [aH]) (fun Cu hgu hslu=>?_);obtain ⟨Au,cu,rfl,_⟩:=id hslu;refine G.freezeArr 1 (vs.map fun w=>[w]) U2 (by intro r hr;obtain ⟨y,_,rfl⟩:=j5.1 hr;rfl) (by rw [aH]) (fun Cs hgs hsls=>?_);obtain ⟨A3,c3,rfl,_⟩:=id hsls;have hul:((unL i (j+1)).map bN).length=d.k0 % 3+1:=by rw [aH,pY,hjl]
   have hsl3:(vs.map fun w=>[w]).length=d.k0 % 3:=by rw [aH,hvl,hjl]
   have hb0:(bJ pts.length d i).base.length=pts.length:=eg _ d 0;have hu0:(bJ pts.length d i).units.length=d.k0 % 3+1:=pY i _;have hs0:(bJ pts.length d i).surf.length=d.k0 % 3:=by show ((List.range _).map _).length=_;rw [aH,Oj]
   have hue:(bJ pts.length d i).units=unL i (j+1):=by rw [hjl];rfl
   rw [hul] at hslu ⊢;rw [hsl3] at hsls ⊢;refine G.be (L':=[.obj b7 (.cells ⟨[.slice Ab pts.length cb,.slice Au (d.k0 % 3+1) cu,.slice A3 (d.k0 % 3) c3]⟩ 80 (0,0)),.obj b6 (.cells ⟨[.slice none 0 0,.slice none 0 0,.slice none 0 0]⟩ 80 (0,0))]) Z ?_;refine G.rg fun R hR=>?_;refine D.af (.head _) ?_;refine D.ae (j:=1) ?_;refine D.e1 6 hR ?_;refine G.aB (G.aR (.head _) U4 ?_);rw [hb0,hu0,hs0];refine ⟨Z,Ab,cb,Au,cu,A3,c3,Z,hslb.mono mup, ?_,vs,hsls.mono mup,by rw [hvl,hjl,hs0],fun l w f hw hf=>?_⟩
   ·rw [hue];exact hslu.mono mup
   ·have hf2:((List.range (d.k0 % 3)).map fun j=>d8 pts.length d (j+1))[l]?=some f:=hf;rw [bX] at hf2;obtain ⟨a,ha,rfl⟩:=MB.1 hf2;obtain ⟨hlt,h2⟩:=aJ.1 ha;rw [Oe] at h2;rw [<- h2];exact (hvs l w hw).mono mup

def nmE (i:Nat):Str:=[101,UInt8.ofNat (48+i)]
theorem Kp:∀ i<3,qtx (((i:Nat):Int):Rat)=[UInt8.ofNat (48+i)]/\cA (nmE i)=true:=by decide +kernel
def knQ (d:Deed)(k:Nat):Rat × Rat:=(((d.n.tmod 3+2*(k:Int):Int):Rat),iV ((((dK d).getD k 0 % 4:Nat):Int)-1) ((1+d.k3 % 2:Nat):Int))
def knL (d:Deed)(m:Nat):List (Rat × Rat):=(List.range m).map (knQ d)
theorem EW (d:Deed)(m:Nat):knL d (m+1)=knL d m++[knQ d m]:=by unfold knL;rw [MV,LC];rfl
theorem Hv (d:Deed)(m:Nat):(knL d m).length=m:=by unfold knL;rw [aH,Oj]
def quR:List (List Value):=quads.map fun q=>[.int .i64 q.1,.int .i64 q.2.1,.int .i64 q.2.2.1,.int .i64 q.2.2.2]
theorem Ji {k:Nat}(h:k<6):quR[k]?=some [.int .i64 (quads.getD k (0,0,0,0)).1,.int .i64 (quads.getD k (0,0,0,0)).2.1,.int .i64 (quads.getD k (0,0,0,0)).2.2.1,.int .i64 (quads.getD k (0,0,0,0)).2.2.2]:=by
 unfold quR;rw [bX,aF,aq (show k<quads.length from h)];rfl
theorem HX (C:Mem)(hT:Tabs C)(mv:Value)(pts:List Pt)(tris:List Tri)(hm:MeshIn C mv pts tris)(hnp:pts.length<=6)(d:Deed)(hd:DeedR d)(i:Nat)(hi:i<3) :
  Pur cx.P 17 [mv,.agg ⟨jY d⟩,.int .i64 i] C fun u D=>∃ cs,u=.agg ⟨cs⟩/\EvM D (bJ pts.length d i) cs:=by
 have hm0:=hm;obtain ⟨v1,v2,rfl,_⟩:=id hm.ex;obtain ⟨h0,h1,h2,h3,h4,h5,hn⟩:=HZ hd;have hkd:=hd.kd;have hk0:d.k0<256:=hd.k _ (.head _);have hk3:d.k3<256:=hd.k _ (.tail _ (.tail _ (.tail _ (.head _))));have hnr:=Bo d;have hrb:=sy d.b0 d.b1 d.b2;have ht5:=tm5 d.n;have ht3:=tm3 d.n;obtain ⟨hti,hnm⟩:=Kp i hi;refine Fn.it kr_ Tryz.func17 172 fun w0=>?_;refine G.rg fun R hR=>?_;refine D.aD (fun b3=>?_);refine D.aD (fun b4=>?_);refine D.ai (fun b6=>?_);refine D.e4 2 3 4 6 hR ?_;refine G.freeze 2 Z (fun _ _ hb3=>?_);refine G.freeze 1 Z (fun _ _ hb4=>?_);refine G.rp 1 fun R hR=>?_;refine D.aa (bkT hb4 3) ?_;refine D.ag (Bp _ hT.m_ d hd) ?_;refine D.ai (fun b7=>?_);refine D.ae (j:=0) ?_;refine D.e5 2 3 4 6 7 hR ?_;refine G.freeze 0 Z (fun _ _ hb7=>?_);refine G.aG [0,1,2,3,4,5,6,7,8] [(5,1),(3,0)] Z kr_ (fun R hB hR=>?_);refine D.aa (bkT hb7 3) ?_;refine D.ac ?_;refine D.aa (bkT hb4 1) ?_;refine D.bS (c:=d.n) U8 (wrap_i64 om_ om_) U2 ?_;refine D.dg (d.n.tmod 5) U6 dc_ U3 ?_;refine D.ay (fun _=>(jN _ hT.m_ (d.n.tmod 5) om_)) U9 ?_;refine D.ap [aA (qtx (bJ pts.length d i).nrm.1),aA (qtx (bJ pts.length d i).nrm.2.1),aA (qtx (bJ pts.length d i).nrm.2.2),aA (qtx (bJ pts.length d i).off)] ?_;refine D.ai (fun b8=>?_);refine D.ae (j:=0) ?_;refine D.e6 2 3 4 6 7 8 hR ?_;refine G.freeze 0 Z (fun _ _ hb8=>?_);refine G.aG [0,1,2,3,4,5,6,7,8,9,10] [(6,1),(3,0)] Z kr_ (fun R hB hR=>?_);refine D.ac ?_;refine D.aa (bkT hb4 1) ?_;refine D.dV (d.kd) (5) U6 om_ U2 ?_;refine D.bS (c:=((d.kd % 5:Nat):Int)) U8 (wrap_i64 om_ om_) U2 ?_;refine D.ar _ ?_;refine D.ac ?_;refine D.ay (fun _=>(jN _ hT.m_ (i:Int) om_)) U9 ?_;rw [hti];refine D.bM U6 (fun _=>(by simp only [fh,J8];omega)) U2 ?_;refine D.ap (evC (1+d.kd % 5) (nmE i) cF cS dy cT cR) ?_;refine D.ai (fun b9=>?_);refine D.ae (j:=0) ?_;refine D.e7 2 3 4 6 7 8 9 hR ?_;refine G.rp 1 fun R hR=>?_;refine D.af (.head _) ?_;refine D.e8 2 3 4 6 7 8 9 31 hR ?_;refine G.z9 2 2 3 4 6 7 8 9 31 63 ?_;refine G.cd (fun h63=>?_) fun h63=>?_
 ·have hk:1+d.kd % 5=1:=by have:=eC h63;omega
  refine G.rg fun R hR=>?_;refine D.aa (bkT hb3 2) ?_;refine D.aa (bkT hb4 12) ?_;refine D.ac ?_;refine D.az (uB _ hT.m_ _ pts tris hm0.m_ hnp d hd i hi) (fun v68 _ _ hq68=>?_);obtain ⟨A1,c1,A2,c2,A3,c3,rfl,hs1,hs2,hs3⟩:=hq68;refine D.ac ?_;refine D.ae (j:=0) ?_;refine D.e2 6 9 hR ?_;refine G.rg fun R hR=>?_;refine D.af (.head _) ?_;refine D.ae (j:=1) ?_;refine D.e1 6 hR ?_;refine G.aB (G.aR (.head _) U4 ?_);refine ⟨Z,evC (1+d.kd % 5) (nmE i) [_,_,_] cS dy cT cR,Z,nmE i,hnm,.inl ⟨hk,A1,c1,A2,c2,A3,c3,by rw [hk],hs1.mono mup,hs2.mono mup,hs3.mono mup⟩⟩
 ·have k1:1+d.kd % 5≠1:=fun h=>by rw [h] at h63;exact absurd h63 dc_
  refine G.z8 2 2 4 6 7 8 9 31 70 ?_;refine G.cd (fun h70=>?_) fun h70=>?_
  ·have hk:1+d.kd % 5=2:=by have:=eC h70;omega
   refine G.aG [0,1,2,3,4,5,6,7,8,9,10,11,12,13,14,15,16,17,18,19,20,21] [(17,1),(18,1),(5,0),(10,0),(15,0)] Z kr_ (fun R hB hR=>?_);refine D.aa (bkT hb8 4) ?_;refine D.aa (bkT hb7 3) ?_;refine D.ac ?_;refine D.aE (4) U9 (fun _=>⟨by decide,by decide,Z⟩) U2 ?_;refine D.aa (bkT hb4 1) ?_;refine D.bS (c:=d.b0) U8 (wrap_i64 om_ om_) U2 ?_;refine D.dg (d.b0.tmod 3) U6 dc_ U3 ?_;refine D.ac ?_;refine D.aE (5) U9 (fun _=>⟨by decide,by decide,Z⟩) U2 ?_;refine D.aa (bkT hb4 1) ?_;refine D.bS (c:=d.b1) U8 (wrap_i64 om_ om_) U2 ?_;refine D.dg (d.b1.tmod 3) U6 dc_ U3 ?_;refine D.ac ?_;refine D.aE (6) U9 (fun _=>⟨by decide,by decide,Z⟩) U2 ?_;refine D.aa (bkT hb4 1) ?_;refine D.bS (c:=d.b2) U8 (wrap_i64 om_ om_) U2 ?_;refine D.dg (d.b2.tmod 3) U6 dc_ U3 ?_;refine D.ay (fun _=>(i6 _ hT.m_ (rm3 d.b0 d.b1 d.b2) ⟨by omega,by omega,by omega⟩)) U9 ?_;refine D.aL (fun _=>(tK _ hT.m_ (rJ d) (rm3 d.b0 d.b1 d.b2) hnr hrb)) ?_;refine D.ap (JG (bJ pts.length d i)) ?_;refine D.ac ?_;refine D.ae (j:=0) ?_;refine D.e2 6 9 hR ?_;refine G.rg fun R hR=>?_;refine D.af (.head _) ?_;refine D.ae (j:=1) ?_;refine D.e1 6 hR ?_;refine G.aB (G.aR (.head _) U4 ?_);exact ⟨Z,evC (1+d.kd % 5) (nmE i) cF (JG (bJ pts.length d i)) dy cT cR,Z,nmE i,hnm,.inr (.inl ⟨hk,by rw [hk]⟩)⟩
  ·have k2:1+d.kd % 5≠2:=fun h=>by rw [h] at h70;exact absurd h70 dc_
   refine G.z8 2 2 4 6 7 8 9 31 93 ?_;refine G.cd (fun h93=>?_) fun h93=>?_
   ·have hk:1+d.kd % 5=3:=by have:=eC h93;omega
    refine G.aG [0,1,2,3,4,5,6,7,8,9,10,11,12,13,14,15,16,17,18,19,20,21] [(17,1),(18,1),(5,0),(10,0),(15,0)] Z kr_ (fun R hB hR=>?_);refine D.aa (bkT hb7 3) ?_;refine D.aa (bkT hb7 3) ?_;refine D.ac ?_;refine D.aE (4) U9 (fun _=>⟨by decide,by decide,Z⟩) U2 ?_;refine D.aa (bkT hb4 1) ?_;refine D.bS (c:=d.b0) U8 (wrap_i64 om_ om_) U2 ?_;refine D.dg (d.b0.tmod 3) U6 dc_ U3 ?_;refine D.ac ?_;refine D.aE (5) U9 (fun _=>⟨by decide,by decide,Z⟩) U2 ?_;refine D.aa (bkT hb4 1) ?_;refine D.bS (c:=d.b1) U8 (wrap_i64 om_ om_) U2 ?_;refine D.dg (d.b1.tmod 3) U6 dc_ U3 ?_;refine D.ac ?_;refine D.aE (6) U9 (fun _=>⟨by decide,by decide,Z⟩) U2 ?_;refine D.aa (bkT hb4 1) ?_;refine D.bS (c:=d.b2) U8 (wrap_i64 om_ om_) U2 ?_;refine D.dg (d.b2.tmod 3) U6 dc_ U3 ?_;refine D.ay (fun _=>(i6 _ hT.m_ (rm3 d.b0 d.b1 d.b2) ⟨by omega,by omega,by omega⟩)) U9 ?_;refine D.aL (fun _=>(tK _ hT.m_ (rJ d) (rm3 d.b0 d.b1 d.b2) hnr hrb)) ?_;refine D.ap (Fb (bJ pts.length d i) (.slice none 0 0)) ?_;refine D.ac ?_;refine D.ae (j:=0) ?_;refine D.e3 4 6 9 hR ?_;refine G.rp 1 fun R hR=>?_;refine D.aE (8) U9 (fun _=>⟨by decide,by decide,Z⟩) U2 ?_;refine D.aa (bkT hb4 1) ?_;refine D.dV (d.k0) (3) U6 om_ U2 ?_;refine D.bT (c:=((d.k0 % 3:Nat):Int)) U8 (wrap_i64 om_ om_) fl_ ?_;refine D.ar _ ?_;refine D.q5 1 4 6 9 121 122 hR ?_;refine G.nilArr 168 2 ?_;refine G.perm (L':=[.obj b9 (.cells ⟨evC (1+d.kd % 5) (nmE i) cF cS (Fb (bJ pts.length d i) (.slice none 0 0)) cT cR⟩ 94 (0,0)),.arr (.slice none 0 0) 168 2 0 [],.obj b6 (.cells ⟨evC 0 [] cF cS dy cT cR⟩ 94 (0,0))]) (List.Perm.swap _ _ _) ?_;refine G.loop (fun fr C' L' μ=>∃ (k:Nat)(w:Value),(k<=1+d.k0 % 3)/\fr=[(4,[],.pointer (some ⟨b4,0,none⟩)),(6,[],.pointer (some ⟨b6,0,none⟩)),(9,[],.pointer (some ⟨b9,0,none⟩)),(121,[],.int .i64 ((1+d.k0 % 3:Nat):Int)),(122,[],.int .i64 k)]/\L'=[.obj b9 (.cells ⟨evC (1+d.kd % 5) (nmE i) cF cS (Fb (bJ pts.length d i) w) cT cR⟩ 94 (0,0)),.arr w 168 2 (knL d k).length ((knL d k).map rK).flatten,.obj b6 (.cells ⟨evC 0 [] cF cS dy cT cR⟩ 94 (0,0))]/\μ=1+d.k0 % 3-k) (h_5 4 6 9 121 122) ⟨0,_,ch _,Z,Z,Z⟩ (fun fr C0' L0' m _ hI=>?_);obtain ⟨k,w,hk,rfl,rfl,rfl⟩:=hI;refine G.z6 1 4 6 9 121 122 123 ?_;refine G.cd (fun h123=>?_) fun h123=>?_
    ·have hkl:k<1+d.k0 % 3:=by have:=bi h123;omega
     have hr:=Gx hd k;have hll:=Hv d k;refine G.z6 2 4 6 9 10 121 122 ?_;refine G.aG [0,1,2,3,4,5,6,7,8,9,10,11,12,13,14,15,16,17,18,19,20,21,22,23,24,25,26,27,28,29,30] [(10,1),(24,1),(5,0),(15,0),(22,0)] Z kr_ (fun R hB hR=>?_);refine D.ps 2 ?_;refine D.af (.head _) ?_;refine D.ac ?_;refine D.aa (bkT hb4 1) ?_;refine D.bS (c:=d.n) U8 (wrap_i64 om_ om_) U2 ?_;refine D.dg (d.n.tmod 3) U6 dc_ U3 ?_;refine D.ac ?_;refine D.ar _ ?_;refine D.ar _ ?_;refine D.ay (fun _=>(jN _ hT.m_ (d.n.tmod 3+2*(k:Int)) om_)) U9 ?_;refine D.ps 2 ?_;refine D.aE ((8+k)) U9 (fun _=>⟨by omega,by omega,(by show 8+k=8+k*1;omega)⟩) U2 ?_;refine D.j6 (PtrTo.blockT (Mem.get hb4 mup) (8+k) 1) U6 (show bR _ (((jY d).drop (8+k)).take 1)=some (.int .u8 ((dK d).getD k 0)) from by rw [JO d _ om_];rfl) Z ?_;refine D.bS (c:=(((dK d).getD k 0:Nat):Int)) U8 (wrap_i64 om_ om_) U2 ?_;refine D.dV (((dK d).getD k 0)) (4) U6 om_ U2 ?_;refine D.ar _ ?_;refine D.ac ?_;refine D.aE (11) U9 (fun _=>⟨by decide,by decide,Z⟩) U2 ?_;refine D.aa (bkT hb4 1) ?_;refine D.dV (d.k3) (2) U6 om_ U2 ?_;refine D.bS (c:=((d.k3 % 2:Nat):Int)) U8 (wrap_i64 om_ om_) U2 ?_;refine D.ar _ ?_;refine D.ay (fun _=>(oV _ hT.m_ ((((dK d).getD k 0 % 4:Nat):Int)-1) ((1+d.k3 % 2:Nat):Int) om_ om_ om_)) U9 ?_;refine D.ap (rK (knQ d k)) ?_;refine D.ah [rK (knQ d k)] (fun p151 _ _ hs151=>?_);refine D.aQ (j:=1) U11 hs151.m_ Z (by simp only [bz,maxLen];omega) (by simp only [bz];omega) fl_ (fun A152 n152 c152=>?_);refine D.ps 2 ?_;refine D.ae (j:=1) ?_;refine D.e5 4 6 9 121 122 hR ?_;refine G.rg fun R hR=>?_;refine D.ar _ ?_;refine D.q5 1 4 6 9 121 122 hR ?_;refine G.be (L':=[.obj b9 (.cells ⟨evC (1+d.kd % 5) (nmE i) cF cS (Fb (bJ pts.length d i) (.slice A152 n152 c152)) cT cR⟩ 94 (0,0)),.arr (.slice A152 n152 c152) 168 2 (knL d (k+1)).length ((knL d (k+1)).map rK).flatten,.obj b6 (.cells ⟨evC 0 [] cF cS dy cT cR⟩ 94 (0,0))]) (by rw [EW,LC,LK,eh];rfl) ?_;refine G.ax (m':=1+d.k0 % 3-(k+1)) om_ mup (h_5 4 6 9 121 122) ⟨k+1,_,om_,Z,Z,Z⟩
    ·have hkl:k=1+d.k0 % 3:=by have:=dj h123;omega
     refine G.freezeArr 1 ((knL d k).map rK) U2 (by intro r hr;obtain ⟨y,_,rfl⟩:=j5.1 hr;rfl) (by rw [aH]) (fun Cu hgu hslu=>?_);obtain ⟨Au,cu,rfl,_⟩:=id hslu;have hkn:(bJ pts.length d i).knots=knL d k:=by rw [hkl];rfl
     have hk3:1+d.kd % 5=3:=by have:=eC h93;omega
     rw [aH,<- hkn] at hslu ⊢;refine G.be (L':=[.obj b9 (.cells ⟨evC (1+d.kd % 5) (nmE i) cF cS (Fb (bJ pts.length d i) (.slice Au (bJ pts.length d i).knots.length cu)) cT cR⟩ 94 (0,0)),.obj b6 (.cells ⟨evC 0 [] cF cS dy cT cR⟩ 94 (0,0))]) Z ?_;refine G.rg fun R hR=>?_;refine D.af (.head _) ?_;refine D.ae (j:=1) ?_;refine D.e1 6 hR ?_;refine G.aB (G.aR (.head _) U4 ?_);exact ⟨Z,evC (1+d.kd % 5) (nmE i) cF cS (Fb (bJ pts.length d i) (.slice Au (bJ pts.length d i).knots.length cu)) cT cR,Z,nmE i,hnm,.inr (.inr (.inl ⟨hk3,Au,cu,by rw [hk3],hslu.mono mup⟩))⟩
   ·have k3:1+d.kd % 5≠3:=fun h=>by rw [h] at h93;exact absurd h93 dc_
    refine G.z6 2 2 4 6 8 9 156 ?_;refine G.cd (fun h156=>?_) fun h156=>?_
    ·have hk:1+d.kd % 5=4:=by have:=eC h156;omega
     refine G.aG [0,1,2,3,4,5,6,7,8,9,10,11,12,13] [(7,1),(9,1),(5,0)] Z kr_ (fun R hB hR=>?_);refine D.aa (bkT hb8 4) ?_;refine D.ac ?_;refine D.aE (8) U9 (fun _=>⟨by decide,by decide,Z⟩) U2 ?_;refine D.aa (bkT hb4 1) ?_;refine D.dV (d.k0) (4) U6 om_ U2 ?_;refine D.bS (c:=((d.k0 % 4:Nat):Int)) U8 (wrap_i64 om_ om_) U2 ?_;refine D.ar _ ?_;refine D.ay (fun _=>(oV _ hT.m_ ((1+d.k0 % 4:Nat):Int) 2 om_ dc_ dc_)) U9 ?_;refine D.ac ?_;refine D.ay (fun _=>(jN _ hT.m_ (i:Int) om_)) U9 ?_;rw [hti];refine D.bM U6 (fun _=>(by simp only [fh,J8];omega)) U2 ?_;refine D.ap (JM (bJ pts.length d i)) ?_;refine D.ac ?_;refine D.ae (j:=0) ?_;refine D.e2 6 9 hR ?_;refine G.rg fun R hR=>?_;refine D.af (.head _) ?_;refine D.ae (j:=1) ?_;refine D.e1 6 hR ?_;refine G.aB (G.aR (.head _) U4 ?_);exact ⟨Z,evC (1+d.kd % 5) (nmE i) cF cS dy (JM (bJ pts.length d i)) cR,Z,nmE i,hnm,.inr (.inr (.inr (.inl ⟨hk,by rw [hk]⟩)))⟩
    ·have k4:1+d.kd % 5≠4:=fun h=>by rw [h] at h156;exact absurd h156 dc_
     have hk:1+d.kd % 5=5:=by omega
     refine G.aG [0,1,2,3,4,5,7,8,9,10,13,14,15,16,17,18,19,20,21,22,23,24,25,26,27,28,6,11,12,29,30,31] [(28,1),(16,0),(21,0),(26,0)] Z kr_ (fun R hB hR=>?_);refine D.ap ([.int .i64 1,.int .i64 0,.int .i64 0,.int .i64 1]) ?_;refine D.ap ([.int .i64 2,.int .i64 1,.int .i64 0,.int .i64 0]) ?_;refine D.ap ([.int .i64 1,.int .i64 1,.int .i64 1,.int .i64 1]) ?_;refine D.ap ([.int .i64 3,.int .i64 0,.int .i64 1,.int .i64 0]) ?_;refine D.ap ([.int .i64 0,.int .i64 1,.int .i64 0,.int .i64 0]) ?_;refine D.ap ([.int .i64 1,.int .i64 0,.int .i64 0,.int .i64 0]) ?_;refine D.ac ?_;refine D.aE (8) U9 (fun _=>⟨by decide,by decide,Z⟩) U2 ?_;refine D.aa (bkT hb4 1) ?_;refine D.dV (d.k0) (6) U6 om_ U2 ?_;refine D.ac ?_;refine D.aE (4) U9 (fun _=>⟨by decide,by decide,Z⟩) U2 ?_;refine D.aa (bkT hb4 1) ?_;refine D.bS (c:=d.b0) U8 (wrap_i64 om_ om_) U2 ?_;refine D.dg (d.b0.tmod 3) U6 dc_ U3 ?_;refine D.ac ?_;refine D.aE (5) U9 (fun _=>⟨by decide,by decide,Z⟩) U2 ?_;refine D.aa (bkT hb4 1) ?_;refine D.bS (c:=d.b1) U8 (wrap_i64 om_ om_) U2 ?_;refine D.dg (d.b1.tmod 3) U6 dc_ U3 ?_;refine D.ac ?_;refine D.aE (6) U9 (fun _=>⟨by decide,by decide,Z⟩) U2 ?_;refine D.aa (bkT hb4 1) ?_;refine D.bS (c:=d.b2) U8 (wrap_i64 om_ om_) U2 ?_;refine D.dg (d.b2.tmod 3) U6 dc_ U3 ?_;refine D.ay (fun _=>(i6 _ hT.m_ (rm3 d.b0 d.b1 d.b2) ⟨by omega,by omega,by omega⟩)) U9 ?_;refine D.ah quR (fun p38 _ _ hs38=>?_);refine D.ak hs38.m_ U10 om_ (Ji om_) fl_ (fun p43 hp43=>?_);refine D.aa hp43 ?_;refine D.ap (I4 (bJ pts.length d i)) ?_;refine D.ac ?_;refine D.ae (j:=0) ?_;refine D.e2 6 9 hR ?_;refine G.rg fun R hR=>?_;refine D.af (.head _) ?_;refine D.ae (j:=1) ?_;refine D.e1 6 hR ?_;refine G.aB (G.aR (.head _) U4 ?_);exact ⟨Z,evC (1+d.kd % 5) (nmE i) cF cS dy cT (I4 (bJ pts.length d i)),Z,nmE i,hnm,.inr (.inr (.inr (.inr ⟨hk,by rw [hk]⟩)))⟩

def kU (np:Nat)(ds:List Deed):List Evt:=ds.mapIdx fun i d=>bJ np d i
def gl:Str:=[98,97,115,101]
theorem EvM.len {C:Mem}{e:Evt}{cs:List Value}(h:EvM C e cs):cs.length=32:=by
 obtain ⟨nm,A1,A2,A3,A4,n1,n2,n3,n4,c1,c2,c3,c4,x,q,rfl,_⟩:=h.gen;rfl
theorem HN {C D:Mem}{np i:Nat}{ds:List Deed}{d:Deed}{rows:List (List Value)}{cs:List Value}(hle:C.le D)(hd:ds[i]?=some d)(hl:rows.length=i)(h:∀ (k:Nat)(r:List Value)(e:Evt),rows[k]?=some r->(kU np ds)[k]?=some e->EvM C e r)(hx:EvM D (bJ np d i) cs) :
  ∀ (k:Nat)(r:List Value)(e:Evt),(rows++[cs])[k]?=some r->(kU np ds)[k]?=some e->EvM D e r:=by
 intro k r e hr he;rcases Ld k rows.length with g | g
 ·rw [LS g] at hr;exact (h k r e hr he).mono hle
 ·rw [LD g] at hr;have e2:=(aJ.1 hr).1;obtain rfl:k=i:=by simp at e2;omega
  rw [hl,OL] at hr;obtain rfl:cs=r:=by simpa using hr
  unfold kU at he;rw [NZ,hd] at he;obtain rfl:=LJ he;exact hx
theorem BA (C:Mem)(hT:Tabs C)(kd:Nat)(a b:Int)(h:Bool)(hk:kd<256)(A:Option Addr)(c:Nat)(ds:List Deed)(hds:Sl C 12 (.slice A ds.length c) (ds.map jY))(hdr:∀ d∈ds,DeedR d)(hl3:ds.length<=3) :
  Pur cx.P 6 [.agg ⟨[.int .u8 kd,.int .i8 a,.int .i8 b,.bool h,.slice A ds.length c]⟩] C fun u D=>HisIn D u (fY (kd % 8) a b h) (shT (kd % 8)) gl (kU (fY (kd % 8) a b h).length ds):=by
 obtain ⟨_,_,he0,hc1,hc2,_⟩:=id hds;have hmx:maxLen<=9223372036854775807:=by simp [maxLen]
 have hlc:ds.length<=c:=by injection he0 with _ _ e3;rw [aH] at hc1;omega
 have hnp:=ql (kd % 8) a b h;refine Fn.it kr_ Tryz.func6 35 fun w0=>?_;refine G.rg fun R hR=>?_;refine D.aD (fun b1=>?_);refine D.ai (fun b2=>?_);refine D.e2 1 2 hR ?_;refine G.freeze 1 Z (fun _ _ hb1=>?_);refine G.rp 1 fun R hR=>?_;refine D.aa (bkT hb1 4) ?_;refine D.az (BB _ hT.m_ kd a b h hk) (fun v8 _ _ hq8=>?_);obtain ⟨v1,v2,rfl,hm1,hm2⟩:=id hq8.ex;obtain ⟨Ax,cx1,rfl,_⟩:=id hm1;obtain ⟨Ay,cy,rfl,_⟩:=id hm2;simp only [aH] at hm1 hm2 hq8 ⊢;refine D.ap [.slice Ax (fY (kd % 8) a b h).length cx1,.slice Ay (shT (kd % 8)).length cy,aA gl,.slice none 0 0] ?_;refine D.ai (fun b3=>?_);refine D.ae (j:=0) ?_;refine D.e3 1 2 3 hR ?_;refine G.rp 1 fun R hR=>?_;refine D.aa (bkT hb1 1) ?_;refine D.ac ?_;refine D.aa (bkT hb1 1) ?_;refine D.ac ?_;refine D.min (((ds.length:Nat):Int)) Z Z Z Z Z Z om_ Z Z ?_;refine D.fp 0 ds.length c U12 (fun _=>⟨.inl ⟨Z,Z⟩,.inr ⟨_,Z⟩,.inl ⟨Z,Z⟩,by omega,hlc,aP _⟩) U2 ?_;have hsv:=hds.sub (l:=0) (h:=ds.length) (m:=c) (ch _) (by rw [aH];omega) hlc (aP _);generalize (if c=0 then A else A.map (·.add (0*12)))=A16 at hsv ⊢;rw [LR,gG (by rw [aH];omega)] at hsv;refine D.q5 2 2 3 16 17 18 hR ?_;refine G.nilArr 94 32 ?_;refine G.perm (L':=[.obj b3 (.cells ⟨[.slice Ax (fY (kd % 8) a b h).length cx1,.slice Ay (shT (kd % 8)).length cy,aA gl,.slice none 0 0]⟩ 40 (0,0)),.arr (.slice none 0 0) 94 32 0 [],.obj b2 (.cells ⟨[.slice none 0 0,.slice none 0 0,aA [],.slice none 0 0]⟩ 40 (0,0))]) (List.Perm.swap _ _ _) ?_;refine G.loop (fun fr C' L' μ=>∃ (i:Nat)(w:Value)(rows:List (List Value)),(i<=ds.length/\rows.length=i/\∀ (k:Nat)(r:List Value)(e:Evt),rows[k]?=some r->(kU (fY (kd % 8) a b h).length ds)[k]?=some e->EvM C' e r)/\fr=[(2,[],.pointer (some ⟨b2,0,none⟩)),(3,[],.pointer (some ⟨b3,0,none⟩)),(16,[],.slice A16 ds.length c),(17,[],.int .i64 ds.length),(18,[],.int .i64 i)]/\L'=[.obj b3 (.cells ⟨[.slice Ax (fY (kd % 8) a b h).length cx1,.slice Ay (shT (kd % 8)).length cy,aA gl,w]⟩ 40 (0,0)),.arr w 94 32 rows.length rows.flatten,.obj b2 (.cells ⟨[.slice none 0 0,.slice none 0 0,aA [],.slice none 0 0]⟩ 40 (0,0))]/\μ=ds.length-i) (h_5 2 3 16 17 18) ⟨0,_,[],⟨ch _,Z,fun k r e hr=>by simp at hr⟩,Z,Z,Z⟩ (fun fr C0' L0' m _ hI=>?_);obtain ⟨i,w,rows,⟨hi,hrl,hrs⟩,rfl,rfl,rfl⟩:=hI;refine G.z6 1 2 3 16 17 18 19 ?_;refine G.cd (fun h19=>?_) fun h19=>?_
 ·have hil:i<ds.length:=by have:=bi h19;omega
  obtain ⟨d,hdi⟩:∃ d,ds[i]?=some d:=⟨ds[i],aq hil⟩;have hdd:=hdr d (ba hdi);refine G.rp 1 fun R hR=>?_;refine D.ak hsv.m_ U10 om_ (bg hdi) fl_ (fun p21 hp21=>?_);refine D.aa hp21 ?_;refine D.ai (fun b5=>?_);refine D.ac ?_;refine D.ae (j:=0) ?_;refine D.e7 2 3 4 5 16 17 18 hR ?_;refine G.freeze 0 Z (fun _ _ hb5=>?_);refine G.aG [0,1,2,3,4,5,6,7,8,9,10] [] Z kr_ (fun R hB hR=>?_);refine D.ac ?_;refine D.af (.head _) ?_;refine D.ac ?_;refine D.af (.head _) ?_;refine D.aa (bkT hb5 12) ?_;refine D.ac ?_;refine D.au (HX _ hT.m_ _ _ _ hq8.m_ hnp d hdd i om_) U7 fl_ (fun v29 _ _ hq29=>?_);obtain ⟨cs,rfl,hcs⟩:=hq29;obtain ⟨nm,B1,B2,B3,B4,m1,m2,m3,m4,f1,f2,f3,f4,xx,qq,rfl,_⟩:=hcs.gen;refine D.ah [(evX (bJ (fY (kd % 8) a b h).length d i).kd nm (.slice B1 m1 f1) (.slice B2 m2 f2) (.slice B3 m3 f3) (.slice B4 m4 f4) xx qq)] (fun p30 _ _ hs30=>?_);refine D.aQ (j:=1) U11 hs30.m_ Z (by simp only [bz,maxLen];omega) (by simp only [bz];omega) fl_ (fun A31 n31 c31=>?_);refine D.ac ?_;refine D.ae (j:=1) ?_;refine D.e5 2 3 16 17 18 hR ?_;refine G.rg fun R hR=>?_;refine D.ar _ ?_;refine D.q5 1 2 3 16 17 18 hR ?_;refine G.be (L':=[.obj b3 (.cells ⟨[.slice Ax (fY (kd % 8) a b h).length cx1,.slice Ay (shT (kd % 8)).length cy,aA gl,.slice A31 n31 c31]⟩ 40 (0,0)),.arr (.slice A31 n31 c31) 94 32 (rows++[(evX (bJ (fY (kd % 8) a b h).length d i).kd nm (.slice B1 m1 f1) (.slice B2 m2 f2) (.slice B3 m3 f3) (.slice B4 m4 f4) xx qq)]).length (rows++[(evX (bJ (fY (kd % 8) a b h).length d i).kd nm (.slice B1 m1 f1) (.slice B2 m2 f2) (.slice B3 m3 f3) (.slice B4 m4 f4) xx qq)]).flatten,.obj b2 (.cells ⟨[.slice none 0 0,.slice none 0 0,aA [],.slice none 0 0]⟩ 40 (0,0))]) (by rw [LK,eh];rfl) ?_;refine G.ax (m':=ds.length-(i+1)) om_ mup (h_5 2 3 16 17 18) ⟨i+1,_,rows++[_],⟨by omega,by rw [eh,hrl];rfl,HN mup hdi hrl hrs hcs.m_⟩,Z,Z,Z⟩
 ·have hil:i=ds.length:=by have:=dj h19;omega
  have hdl:(kU (fY (kd % 8) a b h).length ds).length=ds.length:=List.length_mapIdx;refine G.freezeArr 1 rows U2 (fun r hr=>?_) Z (fun Cg hg hsl3=>?_)
  ·obtain ⟨k,hkk⟩:=Ma hr;have hkl:=(aJ.1 hkk).1;exact (hrs k r _ hkk (aq om_)).len
  obtain ⟨Aw,cw,rfl,_⟩:=id hsl3;have hrd:rows.length=(kU (fY (kd % 8) a b h).length ds).length:=by omega
  rw [hrd] at hsl3 ⊢;refine G.be (L':=[.obj b3 (.cells ⟨[.slice Ax (fY (kd % 8) a b h).length cx1,.slice Ay (shT (kd % 8)).length cy,aA gl,.slice Aw (kU (fY (kd % 8) a b h).length ds).length cw]⟩ 40 (0,0)),.obj b2 (.cells ⟨[.slice none 0 0,.slice none 0 0,aA [],.slice none 0 0]⟩ 40 (0,0))]) Z ?_;refine G.rg fun R hR=>?_;refine D.af (.head _) ?_;refine D.ae (j:=1) ?_;refine D.e1 2 hR ?_;refine G.aB (G.aR (.head _) U4 ?_);exact ⟨Z,_,_,Aw,cw,Z,hq8.mono mup,rows,hsl3.mono mup,hrd,fun k r e hr he=>(hrs k r e hr he).mono mup⟩

theorem Bt (x y:Nat)(hx:x<18446744073709551616)(hy:y<18446744073709551616)(C:Mem):Gives cx.P 157 [.int .u64 x,.int .u64 y] C (.tuple #[.int .u64 ((x*y / 18446744073709551616:Nat):Int),.int .u64 ((x*y % 18446744073709551616:Nat):Int)]) :=
 Gives.ofCalls kr_ (fun w=>Any.bits_Mul Tryz.mul x y hx hy w) C

theorem jd {a:Value}{n k m:Nat}{tl:List Value}(_hn:k+m<=n)(hk:m<=k)(_htl:tl.length=n-k) :
  aM (List.replicate k a++tl) ((List.replicate k a++tl).take m) k=List.replicate (k+m) a++tl.drop m:=by
 have h1:(List.replicate k a++tl).take m=List.replicate m a:=by
  rw [List.take_append_of_le_length (by simpa using hk),List.take_replicate,Lt hk]
 have h2:(List.replicate k a++tl).take k=List.replicate k a:=by
  rw [List.take_append_of_le_length (by simp),List.take_replicate,Nat.min_self]
 have h3:(List.replicate k a++tl).drop (k+m)=tl.drop m:=by
  rw [Ow,LW,Mh (by simp),MS];congr 1;omega
 unfold aM;rw [h1,h2,LW,h3,List.replicate_append_replicate]

theorem D3 (a:Value)(n:Nat):nY [a] n=List.replicate n a:=by
 rw [dM];induction n with
 | zero=>rfl
 | succ n ih=>rw [NH,MP,ih,NH];rfl
theorem qG (n:Nat)(hn:n<18446744073709551616)(C:Mem):Gives cx.P 157 [.int .u64 (1:Int),.int .u64 n] C (.tuple #[.int .u64 0,.int .u64 n]):=by
 have h:=Bt 1 n om_ hn C;have e1:1*n / 18446744073709551616=0:=by omega
 have e2:1*n % 18446744073709551616=n:=by omega
 rw [e1,e2] at h;exact h
theorem AQ (C:Mem)(v:Value)(n:Nat)(z:Int)(hv:Sl C 1 v [[.int .i64 z]])(hn:n<=1000000):Jog.Fn cx.P 100 [v,.int .i64 n] C [] fun u _C' L'=>∃ b,u=.slice (some ⟨b,0,none⟩) n n/\L'=[.arr u 3 1 n (List.replicate n (.int .i64 z))]:=by
 have hv0:=hv;obtain ⟨A,c,rfl,_⟩:=hv0;refine Fn.it kr_ Tryz.func100 48 fun w0=>?_;refine G.z2 1 0 1 ?_;refine G.z3 2 0 1 10 ?_;refine G.cd (fun h10=>?_) fun h10=>?_
 ·simp at h10;omega
 ·refine G.rp 2 fun R hR=>?_;refine D.bT (c:=1) U8 Z fl_ ?_;refine D.ac ?_;refine D.bT (c:=(n:Int)) U8 (by rw [IntKind.wrap_u64];omega) fl_ ?_;refine D.aj (qG n om_ _) U7 fl_ ?_;refine D.q3 5 0 5 6 hR ?_;refine G.rp 5 fun R hR=>?_;refine D.aI ?_;refine D.e3 0 6 26 hR ?_;refine G.cd (fun h26=>?_) fun h26=>?_
  ·simp at h26;omega
  ·refine G.rp 1 fun R hR=>?_;refine D.bT (c:=(n:Int)) U8 (by rw [IntKind.wrap_i64];omega) fl_ ?_;refine D.bK U9 (aP _) (by show 8*n<=281474976710656;omega) (by simp only [maxLen];omega) fl_ (fun b30=>?_);refine D.q2 1 0 7 hR ?_;refine G.rp 2 fun R hR=>?_;refine D.Iw (j:=0) (q:=min 1 n) Z Z Z Z Z Z Z Z Z Z Z Z hv Z Z (by rw [eP];show 0+min 1 n*1<=n*1;omega) fl_ ?_;refine D.q2 1 7 8 hR ?_;have hst0:aM (nY [Value.int .i64 0] n) (([[Value.int .i64 z]]:List (List Value)).take (min 1 n)).flatten 0=List.replicate (min 1 n) (.int .i64 z)++List.replicate (n-min 1 n) (.int .i64 0):=by
    rw [D3];cases n with
    | zero=>rfl
    | succ n=>rw [show min 1 (n+1)=1 by omega,NH];rfl
   refine G.be (L':=[.arr (.slice (some ⟨b30,0,none⟩) n n) 3 1 n (List.replicate (min 1 n) (.int .i64 z)++List.replicate (n-min 1 n) (.int .i64 0))]) (by rw [<- hst0];rfl) ?_;refine G.loop (fun fr C' L' μ=>∃ (k:Nat),(k<=n/\min 1 n<=k)/\fr=[(7,[],.slice (some ⟨b30,0,none⟩) n n),(8,[],.int .i64 k)]/\L'=[.arr (.slice (some ⟨b30,0,none⟩) n n) 3 1 n (List.replicate k (.int .i64 z)++List.replicate (n-k) (.int .i64 0))]/\μ=n-k) (h_2 7 8) ⟨min 1 n,⟨Nat.min_le_right _ _,aP _⟩,Z,Z,Z⟩ (fun fr C0' L0' m hle0 hI=>?_);obtain ⟨k,⟨hk,hk1⟩,rfl,rfl,rfl⟩:=hI;refine G.z3 4 7 8 37 ?_;refine G.cd (fun h37=>?_) fun h37=>?_
   ·simp only [cH] at h37;have hkn:k<n:=by omega
    have hk2:1<=k:=by omega
    refine G.aG [0,1,2,3,4,5,6,7,8,9] [] Z kr_ (fun R hB hR=>?_);refine D.ps 3 ?_;refine D.fp k n n U12 (fun _=>⟨.inr ⟨_,Z⟩,.inl ⟨Z,Z⟩,.inl ⟨Z,Z⟩,hk,aP _,aP _⟩) U2 ?_;refine D.ps 2 ?_;refine D.fp 0 k n U12 (fun _=>⟨.inl ⟨Z,Z⟩,.inr ⟨_,Z⟩,.inl ⟨Z,Z⟩,ch _,hk,aP _⟩) U2 ?_;refine D.Iv (j:=0) (off:=k) (g0:=b30) (dl:=n-k) (dc:=n-k) (sl:=k-0) (sc:=n-0) (q:=min k (n-k)) Z Z Z Z Z Z Z Z (by show some (Value.slice (if n=k then some (⟨b30,0,none⟩:Addr) else (some (⟨b30,0,none⟩:Addr)).map (·.add (k*1))) (n-k) (n-k))=_;rw [a7 om_];simp [Addr.add_lit]) (by show some (Value.slice (if n=0 then some (⟨b30,0,none⟩:Addr) else (some (⟨b30,0,none⟩:Addr)).map (·.add (0*1))) (k-0) (n-0))=_;split <;> simp [Addr.add_lit]) Z Z (by simp [uo]) (by simp;omega) fl_ ?_;refine D.cf (((k+min k (n-k):Nat):Int)) U4 om_ om_ om_ U2 ?_;refine D.q2 1 7 8 hR ?_;refine G.be (L':=[.arr (.slice (some ⟨b30,0,none⟩) n n) 3 1 n (List.replicate (k+min k (n-k)) (.int .i64 z)++List.replicate (n-(k+min k (n-k))) (.int .i64 0))]) (by rw [jd (n:=n) om_ (Nat.min_le_left _ _) (by simp),List.drop_replicate,Nat.sub_sub];rfl) ?_;refine G.ax (m':=n-(k+min k (n-k))) om_ hle0 (h_2 7 8) ⟨k+min k (n-k),⟨by omega,by omega⟩,Z,Z,Z⟩
   ·simp only [Lc] at h37;have hkn:k=n:=by omega
    subst hkn;refine G.z1 2 4 ?_;refine G.aB (G.DL Z Z ?_);exact ⟨b30,Z,by simp⟩

theorem BU (C:Mem)(A:Option Addr)(c:Nat)(g:FuncId):Gives cx.P 154 [.slice A 0 c,.func (.func g) #[] #[]] C (.int .i64 (-1)):=by
 refine Fn.it kr_ Tryz.func154 19 fun w0=>?_;refine G.z2 1 0 1 ?_;refine G.z4 3 0 1 7 8 ?_;refine G.loop (fun fr C' L' μ=>∃ (k:Nat),(k=0)/\fr=[(0,[],.slice A 0 c),(1,[],.func (.func g) #[] #[]),(7,[],.int .i64 0),(8,[],.int .i64 k)]/\L'=[]/\μ=k) (h_4 0 1 7 8) ⟨0,Z,Z,Z,Z⟩ (fun fr C0' L0' m _ hI=>?_);obtain ⟨k,hk,rfl,rfl,rfl⟩:=hI;refine G.z5 1 0 1 7 8 9 ?_;refine G.cd (fun h9=>?_) fun h9=>?_
 ·subst hk;exact absurd h9 dc_
 ·refine G.z1 1 4 ?_;refine G.rf ?_;exact ⟨Z,Z⟩
theorem Ft (C:Mem)(A:Option Addr)(c:Nat)(g:FuncId):Gives cx.P 92 [.slice A 0 c,.func (.func g) #[] #[]] C (.bool false):=by
 refine Fn.it kr_ Tryz.func92 9 fun w0=>?_;refine G.z2 1 0 1 ?_;refine G.rp 2 fun R hR=>?_;refine D.ag (BU _ A c g) ?_;refine D.q1 2 4 hR ?_;refine G.rf ?_;exact ⟨Z,Z⟩
theorem BV (C:Mem)(A:Option Addr)(c:Nat)(b:Bool):Gives cx.P 105 [.slice A 0 c,.bool b] C (.int .i64 (-1)):=by
 refine Fn.it kr_ Tryz.func105 19 fun w0=>?_;refine G.z2 1 0 1 ?_;refine G.z4 3 0 1 7 8 ?_;refine G.loop (fun fr C' L' μ=>∃ (k:Nat),(k=0)/\fr=[(0,[],.slice A 0 c),(1,[],.bool b),(7,[],.int .i64 0),(8,[],.int .i64 k)]/\L'=[]/\μ=k) (h_4 0 1 7 8) ⟨0,Z,Z,Z,Z⟩ (fun fr C0' L0' m _ hI=>?_);obtain ⟨k,hk,rfl,rfl,rfl⟩:=hI;refine G.z5 1 0 1 7 8 9 ?_;refine G.cd (fun h9=>?_) fun h9=>?_
 ·subst hk;exact absurd h9 dc_
 ·refine G.z1 1 4 ?_;refine G.rf ?_;exact ⟨Z,Z⟩
theorem tt (C:Mem)(A:Option Addr)(c:Nat)(b:Bool):Gives cx.P 45 [.slice A 0 c,.bool b] C (.bool false):=by
 refine Fn.it kr_ Tryz.func45 9 fun w0=>?_;refine G.z2 1 0 1 ?_;refine G.rp 2 fun R hR=>?_;refine D.ag (BV _ A c b) ?_;refine D.q1 2 4 hR ?_;refine G.rf ?_;exact ⟨Z,Z⟩
def keyI:KeyT (.int .i64) Int where
 enc n:=.int .i64 n
 isKey _:=rfl
 same a b:=by
  simp only [Instr.sameNow];congr 1
def Jr:List Value:=[.slice none 0 0,.slice none 0 0,.slice none 0 0]
def DF (D:Mem)(p:Value):Prop:=∃ b b2,p=.pointer (some ⟨b,0,none⟩)/\D b=some (.cells ⟨[.slice none 0 0,.slice none 0 0,.slice (some ⟨b2,0,none⟩) 0 0]⟩ 156 (0,0))
theorem EC (C:Mem):Pur cx.P 39 [.agg ⟨Jr⟩] C fun u D=>∃ p,u=.tuple #[p,.bool true]/\DF D p:=by
 refine Fn.it kr_ Tryz.func39 217 fun w0=>?_;refine G.rg fun R hR=>?_;refine D.aD (fun b1=>?_);refine D.q1 2 1 hR ?_;refine G.rp 1 fun R hR=>?_;refine D.af (.head _) ?_;refine D.ps 4 ?_;refine D.af (.head _) ?_;refine D.ps 2 ?_;refine D.aI ?_;refine D.ps 2 ?_;refine D.af (.head _) ?_;refine D.ps 2 ?_;refine D.aI ?_;refine D.e2 1 26 hR ?_;refine G.cd (fun h26=>?_) fun h26=>?_
 ·exact absurd h26 dc_
 ·refine G.rp 1 fun R hR=>?_;refine D.af (.head _) ?_;refine D.ac ?_;refine D.bK U9 (aP _) dc_ dc_ fl_ (fun b30=>?_);refine D.ap [.slice none 0 0,.slice none 0 0,.slice (some ⟨b30,0,none⟩) 0 0] ?_;refine D.aD (fun b32=>?_);refine D.q2 1 1 4 hR ?_;refine G.rp 1 fun R hR=>?_;refine D.af (.tail _ (.tail _ (.head _))) ?_;refine D.q5 2 1 4 34 35 36 hR ?_;refine G.freezeArr 1 [] U2 (fun r hr=>by cases hr) Z (fun Cf hf hsd=>?_);refine G.loop (fun fr C' L' μ=>∃ (k:Nat),(k=0)/\fr=[(1,[],.pointer (some ⟨b1,0,none⟩)),(4,[],.pointer (some ⟨b32,0,none⟩)),(34,[],.slice none 0 0),(35,[],.int .i64 0),(36,[],.int .i64 k)]/\L'=[.obj b32 (.cells ⟨[.slice none 0 0,.slice none 0 0,.slice (some ⟨b30,0,none⟩) 0 0]⟩ 156 (0,0)),.obj b1 (.cells ⟨Jr⟩ 72 (0,0))]/\μ=k) (h_5 1 4 34 35 36) ⟨0,Z,Z,Z,Z⟩ (fun fr C0' L0' m _ hI=>?_);obtain ⟨k,hk,rfl,rfl,rfl⟩:=hI;refine G.z6 1 1 4 34 35 36 37 ?_;refine G.cd (fun h37=>?_) fun h37=>?_
  ·subst hk;exact absurd h37 dc_
  ·refine G.rg fun R hR=>?_;refine D.makeMap keyS Z Z Z Z fl_ (fun b71=>?_);refine D.q3 1 1 4 7 hR ?_;refine G.rp 1 fun R hR=>?_;refine D.af (.tail _ (.tail _ (.head _))) ?_;refine D.q6 2 1 4 7 73 74 75 hR ?_;refine G.loop (fun fr C' L' μ=>∃ (k:Nat),(k=0)/\fr=[(1,[],.pointer (some ⟨b1,0,none⟩)),(4,[],.pointer (some ⟨b32,0,none⟩)),(7,[],.map (some b71)),(73,[],.slice none 0 0),(74,[],.int .i64 0),(75,[],.int .i64 k)]/\L'=[.obj b71 (bf keyS.enc []),.obj b32 (.cells ⟨[.slice none 0 0,.slice none 0 0,.slice (some ⟨b30,0,none⟩) 0 0]⟩ 156 (0,0)),.obj b1 (.cells ⟨Jr⟩ 72 (0,0))]/\μ=k) (h_6 1 4 7 73 74 75) ⟨0,Z,Z,Z,Z⟩ (fun fr C1' L1' m _ hI=>?_);obtain ⟨k,hk2,rfl,rfl,rfl⟩:=hI;refine G.z7 1 1 4 7 73 74 75 76 ?_;refine G.cd (fun h76=>?_) fun h76=>?_
   ·subst hk2;exact absurd h76 dc_
   ·refine G.rp 4 fun R hR=>?_;refine D.af (.tail _ (.head _)) ?_;refine D.ag (Ft _ _ _ _) ?_;refine D.q2 3 2 3 hR ?_;refine G.freeze 1 Z (fun Cg hg hb=>?_);refine G.aB (G.dropAll (G.a8 U3 ?_));exact ⟨Z,_,Z,b32,b30,Z,hb⟩
theorem yX (C:Mem)(p:Value)(h:DF C p):Gives cx.P 40 [p] C (.bool false):=by
 obtain ⟨b,b2,rfl,hb⟩:=h;refine Fn.it kr_ Tryz.func40 123 fun w0=>?_;refine G.z1 1 0 ?_;refine G.z2 1 0 3 ?_;refine G.loop (fun fr C' L' μ=>∃ (k:Nat),(k=0)/\fr=[(0,[],.pointer (some ⟨b,0,none⟩)),(3,[],.int .i64 k)]/\L'=[]/\μ=k) (h_2 0 3) ⟨0,Z,Z,Z,Z⟩ (fun fr C0' L0' m _ hI=>?_);obtain ⟨k,hk,rfl,rfl,rfl⟩:=hI;refine G.rp 4 fun R hR=>?_;refine D.aa (PtrTo.block (Mem.get hb mup) _) ?_;refine D.q3 2 0 3 15 hR ?_;refine G.cd (fun h15=>?_) fun h15=>?_
 ·subst hk;exact absurd h15 dc_
 ·refine G.z1 1 2 ?_;refine G.rf ?_;exact ⟨Z,Z⟩
theorem CR (C:Mem)(p:Value)(h:DF C p):Pur cx.P 41 [p] C fun u _=>∃ A,u=.tuple #[.slice A 0 0,.slice none 0 0]:=by
 obtain ⟨b,b2,rfl,hb⟩:=h;refine Fn.it kr_ Tryz.func41 102 fun w0=>?_;refine G.rg fun R hR=>?_;refine D.aD (fun b1=>?_);refine D.q2 2 1 3 hR ?_;refine G.rg fun R hR=>?_;refine D.af (.head _) ?_;refine D.ps 2 ?_;refine D.aa (PtrTo.block (Mem.get hb mup) _) ?_;refine D.q5 2 1 3 15 16 17 hR ?_;refine G.loop (fun fr C' L' μ=>∃ (k:Nat),(k=0)/\fr=[(1,[],.pointer (some ⟨b1,0,none⟩)),(3,[],.slice none 0 0),(15,[],.slice (some ⟨b2,0,none⟩) 0 0),(16,[],.int .i64 0),(17,[],.int .i64 k)]/\L'=[.obj b1 (.cells ⟨[.pointer (some ⟨b,0,none⟩)]⟩ 137 (0,0))]/\μ=k) (h_5 1 3 15 16 17) ⟨0,Z,Z,Z,Z⟩ (fun fr C0' L0' m _ hI=>?_);obtain ⟨k,hk,rfl,rfl,rfl⟩:=hI;refine G.z6 1 1 3 15 16 17 18 ?_;refine G.cd (fun h18=>?_) fun h18=>?_
 ·subst hk;exact absurd h18 dc_
 ·refine G.aY [(6,3)] Z (fun R hR=>?_);refine D.ah [[.int .i64 (-1)]] (fun p33 _ _ hs33=>?_);refine D.af (.head _) ?_;refine D.ps 2 ?_;refine D.aa (PtrTo.block (Mem.get hb mup) _) ?_;refine D.ac ?_;refine D.call (AQ _ _ 0 (-1) hs33.m_ om_) Z (.inr dc_) U6 (il _) fl_ (fun v39 _ L39 _ hq39=>?_);obtain ⟨b9,rfl,rfl⟩:=hq39;refine D.q3 1 1 2 3 hR ?_;refine G.freezeArr 0 [] U2 (fun r hr=>by cases hr) Z (fun Cf hf hsd=>?_);refine G.rg fun R hR=>?_;refine D.af (.head _) ?_;refine D.ps 2 ?_;refine D.aa (PtrTo.block (Mem.get hb mup) _) ?_;refine D.q5 2 1 2 3 44 45 hR ?_;refine G.loop (fun fr C' L' μ=>∃ (k:Nat),(k=0)/\fr=[(1,[],.pointer (some ⟨b1,0,none⟩)),(2,[],.slice (some ⟨b9,0,none⟩) 0 0),(3,[],.slice none 0 0),(44,[],.int .i64 0),(45,[],.int .i64 k)]/\L'=[.obj b1 (.cells ⟨[.pointer (some ⟨b,0,none⟩)]⟩ 137 (0,0))]/\μ=k) (h_5 1 2 3 44 45) ⟨0,Z,Z,Z,Z⟩ (fun fr C1' L1' m _ hI=>?_);obtain ⟨k,hk2,rfl,rfl,rfl⟩:=hI;refine G.z6 1 1 2 3 44 45 46 ?_;refine G.cd (fun h46=>?_) fun h46=>?_
  ·subst hk2;exact absurd h46 dc_
  ·refine G.z2 4 2 3 ?_;refine G.aB (G.dropAll (G.a8 U3 ?_));exact ⟨Z,_,Z⟩
theorem Ht (C:Mem):Gives cx.P 15 [.agg ⟨Jr⟩] C (.bool true):=by
 refine Fn.it kr_ Tryz.func15 100 fun w0=>?_;refine G.rg fun R hR=>?_;refine D.aD (fun b1=>?_);refine D.q1 1 1 hR ?_;refine G.rg fun R hR=>?_;refine D.af (.head _) ?_;refine D.az (EC _) (fun v20 _ _ hq20=>?_);obtain ⟨p,rfl,hp⟩:=hq20;obtain ⟨b,b2,rfl,hb⟩:=id hp;refine D.ps 3 ?_;refine D.ai (fun b3=>?_);refine D.ae (j:=0) ?_;refine D.q3 1 1 3 4 hR ?_;refine G.rp 3 fun R hR=>?_;refine D.af (.head _) ?_;refine D.ay (fun _=>(yX _ _ (by obtain ⟨b,b2,e,hb⟩:=hp;exact ⟨b,b2,e,Mem.get hb mup⟩))) U9 ?_;refine D.aI ?_;refine D.e3 1 3 28 hR ?_;refine G.cd (fun h28=>?_) fun h28=>?_
 ·exact absurd h28 dc_
 ·refine G.rg fun R hR=>?_;refine D.af (.head _) ?_;refine D.au (CR _ _ (by obtain ⟨b,b2,e,hb⟩:=hp;exact ⟨b,b2,e,Mem.get hb mup⟩)) U7 fl_ (fun v31 _ _ hq31=>?_);obtain ⟨A9,rfl⟩:=hq31;refine D.ps 3 ?_;refine D.ai (fun b5=>?_);refine D.ai (fun b6=>?_);refine D.ae (j:=1) ?_;refine D.ae (j:=1) ?_;refine D.e4 1 3 5 6 hR ?_;refine G.rg fun R hR=>?_;refine D.ai (fun b7=>?_);refine D.e5 1 3 5 6 7 hR ?_;refine G.rp 1 fun R hR=>?_;refine D.ae (j:=0) ?_;refine D.e4 1 3 6 7 hR ?_;refine G.rg fun R hR=>?_;refine D.makeMap keyI Z Z Z Z fl_ (fun b35=>?_);refine D.FW keyI (j:=0) Z Z Z Z Z Z Z Z Z Z kr_ ?_;refine D.q5 2 1 3 6 7 8 hR ?_;refine G.rp 1 fun R hR=>?_;refine D.af (.tail _ (.tail _ (.tail _ (.tail _ (.tail _ (.head _)))))) ?_;refine D.ac ?_;refine D.bK U9 (aP _) dc_ dc_ fl_ (fun b40=>?_);refine D.q5 1 3 6 7 8 9 hR ?_;refine G.rg fun R hR=>?_;refine D.af (.tail _ (.tail _ (.tail _ (.head _)))) ?_;refine D.q7 2 3 7 8 9 41 42 43 hR ?_;refine G.dropAll ?_;refine G.loop (fun fr C' L' μ=>∃ (k:Nat),(k=0)/\fr=[(3,[],.pointer (some ⟨b3,0,none⟩)),(7,[],.pointer (some ⟨b7,0,none⟩)),(8,[],.map (some b35)),(9,[],.slice (some ⟨b40,0,none⟩) 0 0),(41,[],.slice none 0 0),(42,[],.int .i64 0),(43,[],.int .i64 k)]/\L'=[]/\μ=k) (h_7 3 7 8 9 41 42 43) ⟨0,Z,Z,Z,Z⟩ (fun fr C0' L0' m _ hI=>?_);obtain ⟨k,hk,rfl,rfl,rfl⟩:=hI;refine G.z8 1 3 7 8 9 41 42 43 44 ?_;refine G.cd (fun h44=>?_) fun h44=>?_
  ·subst hk;exact absurd h44 dc_
  ·refine G.rp 1 fun R hR=>?_;refine D.ag (tt _ _ _ _) ?_;refine D.q1 2 2 hR ?_;refine G.rf ?_;exact ⟨Z,Z⟩

def Ke:List Str->Str->Nat
 | [],_=>0
 | x::l,s=>if x=s then 0 else Ke l s+1
def atM:List Str->Nat->List (Str × Value)
 | [],_=>[]
 | s::l,i=>(s,.int .i64 i)::atM l (i+1)
theorem wC:∀ {N:List Str}{i:Nat}{s:Str},dS (atM N i) s=if s∈N then some (.int .i64 ((i+Ke N s:Nat):Int)) else none
 | [],i,s=>by simp [atM,dS]
 | x::N,i,s=>by
  simp only [atM,dS,Ke];by_cases e:x=s
  ·subst e;simp
  ·rw [a7 e,a7 e,wC];have e':¬ s=x:=fun h=>e h.symm;by_cases h:s∈N
   ·rw [bW h,bW (by simp [h])];congr 3;omega
   ·rw [a7 h,a7 (by simp [h,e'])]
theorem wA:∀ {N:List Str}{i:Nat}{s:Str},s ∉ N->fo (atM N i) s (.int .i64 ((i+N.length:Nat):Int))=atM (N++[s]) i
 | [],i,s,_=>by simp [atM,fo]
 | x::N,i,s,h=>by
  simp only [cI,not_or] at h;simp only [LM,atM,fo,a7 (Ne.symm h.1)];congr 1;rw [<- wA h.2];congr 3;simp;omega
end Go.Proofs.YtgfiffppookakaaGreatDoor
