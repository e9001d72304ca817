/- Laws that the proofs of this seat share, part 15. -/
import Derived.Test.YthnpijdjlddpmaaGreatDoorG14
import Derived.Test.YthnpijdjlddpmaaGreatDoorShelf
set_option maxHeartbeats 4000000
namespace Go.Proofs.YthnpijdjlddpmaaGreatDoor
open Go Go.Jog
set_option maxRecDepth 100000
variable {i:Nat}{l:List Int}{n:Nat}{z:Int}
def gl (B:Bk)(o:Obs):Bk:=if B.obs.length=0 then B else ⟨B.pts,B.tris,B.terr,B.col,B.obs.take (B.obs.length-1)++[o]⟩
theorem pE (S:Sht)(H:Hts)(l:List Sgt)(o:Obs):(gl (el S H l) o).col≠[]/\(gl (el S H l) o).col.length<=4/\(gl (el S H l) o).pts.length<=6/\(gl (el S H l) o).obs.length<=12:=by
 have a:=(I3 S H l).2;have h1:(el S H l).col≠[]/\(el S H l).col.length<=4:=by show colK≠[]/\colK.length<=4;decide
 have h2:(el S H l).obs.length<=6:=by
  show (sQ S l).length<=6;rw [kP];omega
 unfold gl;split
 ·exact ⟨h1.1,h1.2,a,by omega⟩
 exact ⟨h1.1,h1.2,a,by rw [Oy,OG,aV];omega⟩
theorem LQ (C:Mem)(n:Tabs C)(f:Value)(S:Sht)(H:Hts)(l:List Sgt)(p:∀ s∈l,SgtR s)(o:Obs)(q:ObsR o)(c:BookIn C f (gl (el S H l) o)):∃ z,BookZ C f (gl (el S H l) o) z:=by
 obtain ⟨i,c2,j,_⟩:=pE S H l o;have k:=(lQ (S.kd % 8) (Pd _ dc_) S.a S.b S.h).1;have d:=LR S H l p;have e:Good (gl (el S H l) o).pts (gl (el S H l) o).tris->BookR (gl (el S H l) o)->∃ z,BookZ C f (gl (el S H l) o) z:=fun g r =>
  ⟨_,c,fun D m=>kg D (n.mono m) f _ (c.mono m) g r,fun _=>i,by omega,by omega⟩
 revert c e i c2 j;unfold gl;split
 ·intro c i c2 j e;exact e k d
 intro c i c2 j e;exact e k ⟨d.terr,d.col,d.lcol,fun x h=>(OJ.1 h).elim (fun h=>d.obs x (Pw h)) fun h=>by rw [OP] at h;rw [h];exact q⟩
def wE (z:Int)(n:Nat)(l:List Int)(i:Nat):Int:=if z≠0 then z else bH (dB n l) i
theorem Mn (b:i<=l.length)(h:i=l.length∨wE z n l i≠0):wE z n l i=if z≠0 then z else J5 n l:=by
 unfold wE at *;by_cases a:z≠0
 ·rw [aI a,aI a]
 rw [aA a,aA a];rw [aA a] at h;rcases h with h | h
 ·rw [h];rfl
 exact (gQ h _ b).symm
theorem Kb (h:wE z n l i=0):z=0/\bH (dB n l) i=0:=by
 unfold wE at h;by_cases a:z≠0
 ·rw [aI a] at h;exact absurd h a
 rw [aA a] at h;exact ⟨Decidable.not_not.1 a,h⟩
theorem wT {e:Int}(h:z=0/\bH (dB n l) i=0)(a:dB n l i=e):wE z n l (i+1)=e:=by
 unfold wE;rw [aA (fun h2=>h2 h.1)];show (if bH (dB n l) i≠0 then bH (dB n l) i else dB n l i)=e;rw [aA (fun h2=>h2 h.2),a]
theorem CE (C:Mem)(N:Tabs C)(pv lv:Value)(S:Sht)(H:Hts)(l:List Sgt)(o:Obs)(f:List Int)(hP:Gt C pv S H l)(O:PlanR S H l)(t:Sl C 1 lv (f.map jF)) :
  Gives cx.P 10 [pv,.agg ⟨vS o⟩,lv] C (.bool true):=by
 obtain ⟨A,c,rfl,aw⟩:=hP;obtain ⟨Q,T,rfl,ay,aQ,_⟩:=id t;have hG:=(lQ (S.kd % 8) (Pd _ dc_) S.a S.b S.h).1;have az:(el S H l).obs.length<=6:=by
  show (sQ S l).length<=6;rw [kP];omega
 have aR:maxLen<=9223372036854775807:=by simp [maxLen]
 have aS:1000<=maxLen:=by simp [maxLen]
 obtain ⟨c1,c2,c3,U⟩:=pE S H l o;have h60:bs (gl (el S H l) o)*bp (gl (el S H l) o)<=60:=by
  have:bs (gl (el S H l) o)*bp (gl (el S H l) o)<=3*6:=P4 (by unfold bs;omega) (by unfold bp;omega);omega
 simp only [al] at t ay ⊢;refine Sc Tryz.func10 303 U3 fun w0=>?_;refine R8 fun R d=>?_;refine So U6 (fun b3=>?_);refine So U6 (fun b4=>?_);refine C4 1 [2,3,4] d Z ?_;clear d R;refine G.freeze 1 Z (fun _ _ aB=>?_);refine G.freeze 0 Z (fun _ _ p=>?_);refine R8 fun R d=>?_;refine Sg (vA _ N.m_) U7 ?_;refine R9 5 Z ?_;refine SA U8 ?_;refine R9 2 Z ?_;refine Sz U6 (fun _=>PtrTo.blockT (Mem.get p mup) _ 1) U3 ?_;refine R9 2 Z ?_;refine SA U8 ?_;refine R9 2 Z ?_;refine Sz U6 (fun _=>PtrTo.blockT (Mem.get p mup) _ 1) U3 ?_;refine R9 2 Z ?_;refine SA U8 ?_;refine R9 2 Z ?_;refine Sz U6 (fun _=>PtrTo.blockT (Mem.get p mup) _ 1) U3 ?_;refine R9 2 Z ?_;refine SA U8 ?_;refine R9 2 Z ?_;refine Sz U6 (fun _=>PtrTo.blockT (Mem.get p mup) _ 1) U3 ?_;refine R9 2 Z ?_;refine SA U8 ?_;refine R9 3 Z ?_;refine Sz U6 (fun _=>PtrTo.blockT (Mem.get p mup) _ 1) U3 ?_;refine R9 2 Z ?_;refine SA U8 ?_;refine R9 3 Z ?_;refine Sz U6 (fun _=>PtrTo.blockT (Mem.get p mup) _ 1) U3 ?_;refine R9 2 Z ?_;refine SA U8 ?_;refine R9 3 Z ?_;refine Sz U6 (fun _=>PtrTo.blockT (Mem.get p mup) _ 1) U3 ?_;refine R9 2 Z ?_;refine SA U8 ?_;refine R9 3 Z ?_;refine Sz U6 (fun _=>PtrTo.blockT (Mem.get p mup) _ 1) U3 ?_;refine R9 2 Z ?_;refine SA U8 ?_;refine R9 3 Z ?_;refine Sz U6 (fun _=>PtrTo.blockT (Mem.get p mup) _ 1) U3 ?_;refine R9 2 Z ?_;refine SA U8 ?_;refine Sa [2,3,4,96] d Z ?_;clear d R;refine R6 (fun ai=>?_) fun ai=>?_
 ·refine R8 fun R d=>?_;refine Sg (vA _ N.m_) U7 ?_;refine C4 1 [6] d Z ?_;clear d R;refine Sb U2 ?_;exact ⟨Z,Z⟩
 have aC:f.length<=4/\ObsR o:=by
  have e:(((((((((((!true) || decide ((f.length:Int) > 4)) || decide ((o.name.length:Int) > 40)) || decide ((o.upper.length:Int) > 40)) || decide ((o.lower.length:Int) > 40)) || decide ((o.depth.length:Int) > 24)) || decide ((o.x.length:Int) > 24)) || decide ((o.y.length:Int) > 24)) || decide ((o.nx.length:Int) > 24)) || decide ((o.ny.length:Int) > 24)) || decide ((o.nz.length:Int) > 24))=false:=ai;simp only [PR,OL] at e;obtain ⟨⟨⟨⟨⟨⟨⟨⟨⟨⟨_,e0⟩,e1⟩,e2⟩,e3⟩,e4⟩,e5⟩,e6⟩,e7⟩,e8⟩,e9⟩:=e;exact ⟨by omega,⟨by omega,by omega,by omega,by omega,by omega,by omega,by omega,by omega,by omega⟩⟩
 obtain ⟨aT,ho⟩:=aC;refine R8 fun R d=>?_;refine R5 (bkT aB 12) U8 ?_;refine SI (ET _ N.m_ S H _ l O.kd O.h aw.m_ O.s hG) U7 (fun aU _ _ aD=>?_);obtain ⟨v1,v2,tv,cv,ov,rfl,V,W,X,Y,g5⟩:=id aD.ex;obtain ⟨B1,d1,rfl,_⟩:=id V;obtain ⟨B2,d2,rfl,_⟩:=id W;obtain ⟨B3,d3,rfl,_⟩:=id X;obtain ⟨B4,d4,rfl,_⟩:=id Y;obtain ⟨B5,d5,rfl,aE,aW,_⟩:=id g5;obtain ⟨k,hk⟩:∃ k,(el S H l).obs.length=k:=⟨_,rfl⟩;simp only [al,hk] at V W X Y g5 aE az ⊢;refine Sq U5 (fun b7=>?_);refine Sf (j:=0) U12 ?_;refine Sa [2,4,7] d Z ?_;clear d R;refine R4 1 Z fun R d=>?_;refine Sd af U9 ?_;refine C4 2 [2,4,7,103] d Z ?_;clear d R;refine G.cut (fun fr C' I J=>∃ (w1 w2 w3 w4 w5:Value),(BookIn C' (.agg ⟨[w1,w2,w3,w4,w5]⟩) (gl (el S H l) o))/\fr=[(2,[],.slice Q f.length T),(7,[],.pointer (some ⟨b7,0,none⟩))]/\I=[.obj b7 (.cells ⟨[w1,w2,w3,w4,w5]⟩ 42 (0,0))]) ?_ (fun fr _ aX J _ K=>?_)
 ·refine R6 (fun aa=>?_) fun aa=>?_
  ·have aF:0<k:=by
    have h:decide ((k:Int) > 0)=true:=aa;have:=NM h;omega
   have aj:=Sl.sub g5 (l:=0) (h:=k-1) (m:=k-1) om_ (by rw [al];omega) om_ om_;rw [Pz] at aj;refine Ss [0,1,2,3,4,5,6,7,8,9,10,11,12,13,14,15] [(11,0)] Z kr_ (fun R v d=>?_);refine R7 U6 ?_;refine Sd af U9 ?_;refine R7 U6 ?_;refine Sd af U9 ?_;refine R7 U6 ?_;refine SH (((k-1:Nat):Int)) U4 om_ om_ om_ U2 ?_;refine R7 U6 ?_;refine Sd af U9 ?_;refine R7 U6 ?_;refine SH (((k-1:Nat):Int)) U4 om_ om_ om_ U2 ?_;refine SX 0 (k-1) (k-1) U12 (fun _=>⟨.inl ⟨Z,Z⟩,.inr ⟨_,Z⟩,.inr ⟨⟨_,Z⟩,fun h=>nomatch h⟩,by omega,by omega,by omega⟩) U2 ?_;refine S6 (fun _=>((bkT p 10).mono v)) U9 ?_;refine Sr [vS o] U12 (fun aY _ _ aG=>?_);refine TB U10 aj.m_ aG (.inr (by simp only [OG,al,aV];omega)) (by simp only [OG,al,aV];omega) (by simp only [OG,al,aV];show (min (k-1) (el S H l).obs.length+1)*152<=_;omega) fl_ (fun aZ _ _ an=>?_);obtain ⟨a0,a1,rfl,_⟩:=id an;refine R7 U6 ?_;refine Sf (j:=0) U12 ?_;refine Sa [2,7] d Z ?_;clear d v R;refine Si 0 mup (hn_ [2,7] Z) ⟨_,_,_,_,_,by
    unfold gl;rw [aA om_];refine ⟨_,_,_,_,_,Z,V.mono mup,W.mono mup,X.mono mup,Y.mono mup, ?_⟩;rw [O7,Rb,hk];exact an.mono mup,Z,Z⟩
  have aF:k=0:=by
   have h:decide ((k:Int) > 0)=false:=aa;have:=Ox h;omega
  refine Si 0 mup (hn_ [2,7] Z) ⟨_,_,_,_,_,by
   unfold gl;rw [aI om_];exact ⟨_,_,_,_,_,Z,V.mono mup,W.mono mup,X.mono mup,Y.mono mup,g5.mono mup⟩,Z,Z⟩
 obtain ⟨w1 ,w2 ,w3 ,w4 ,w5,hX,rfl,rfl⟩:=K;obtain ⟨z,F⟩:=LQ _ N.m_ _ S H l O.s o ho hX;refine G.freeze 0 Z (fun C5 aH g=>?_);obtain ⟨B,aJ⟩:∃ B,gl (el S H l) o=B:=⟨_,rfl⟩;rw [aJ] at F h60 U hX;obtain ⟨_,_,_,_,_,e5,_,_,_,_,q5⟩:=id hX;cases e5
 obtain ⟨E5,f5,rfl,_⟩:=id q5;refine R8 fun R d=>?_;refine R5 (bkT g 5) U8 ?_;refine Sg (xV _ _ B z F.m_ h60) U7 ?_;refine C4 5 [2,7,9] d Z ?_;clear d R;refine C6 2 [2,7,9,10] Z ?_;refine C6 1 [2,7,9,10,11] Z ?_;refine G.loop (fun fr C' I J=>∃ (i:Nat)(w:Int),(i<=f.length/\w=wE z B.obs.length f i)/\fr=[(2,[],.slice Q f.length T),(7,[],.pointer (some ⟨b7,0,none⟩)),(9,[],.int .i64 z),(10,[],.int .i64 w),(11,[],.int .i64 i)]/\I=[]/\J=f.length-i) (hn_ [2,7,9,10,11] Z) ⟨0,z,⟨Ow _,by unfold wE;split <;> rename_i h0 <;> first | rfl | exact Decidable.not_not.1 h0⟩,Z,Z,Z⟩ (fun fr a2 a3 m _ K=>?_)
 obtain ⟨i,w,⟨hi,hw⟩,rfl,rfl,rfl⟩:=K;refine R4 7 Z fun R d=>?_;refine Sv U8 ?_;refine Sa [2,7,9,10,11,132] d Z ?_;clear d R;refine R6 (fun ab=>?_) fun ab=>?_
 ·have aK:i<f.length/\w=0:=by
   have h:(decide ((i:Int)<f.length) && (w == 0))=true:=ab;rw [OC] at h;have:=NM h.1;exact ⟨by omega,by simpa using h.2⟩
  obtain ⟨aL,r⟩:=aK;have ac:=Kb (hw.symm.trans r);obtain ⟨q,hq⟩:∃ q,f[i]?=some q:=⟨f[i],ak aL⟩;obtain ⟨L,ao⟩:∃ L,f[i-1]?=some L:=⟨f[i-1]'om_,ak om_⟩;have ad:f.getD i 0=q:=by rw [ax,hq,Pu]
  have ap:f.getD (i-1) 0=L:=by rw [ax,ao,Pu]
  refine Ss [0,1,2,3,4,5,6,7,8,9,10,11,12,13,14] [] Z kr_ (fun R v d=>?_);refine R9 2 Z ?_;refine Sm t.m_ U10 om_ (bO hq) fl_ (fun a4 aM=>?_);refine R5 aM U8 ?_;refine R9 4 Z ?_;refine D.index U10 (fun hg=>⟨t.mono mup,by omega,bO hq⟩) fl_ Z (fun a5 aN=>?_);refine Sz U6 aN U3 ?_;refine R7 U6 ?_;refine Sz U6 (fun _=>PtrTo.blockT (Mem.get g mup) _ 1) U3 ?_;refine R9 2 Z ?_;refine SA U8 ?_;refine Sa [2,7,9,10,11,149] d Z ?_;clear d v R;refine R6 (fun ae=>?_) fun ae=>?_
  ·have M:dB B.obs.length f i=3:=by
    have h:(decide (q<0) || decide (q ≥ ((B.obs.map vS).length:Int)))=true:=ae;rw [al] at h;unfold dB;rw [ad,aI (by simp only [PX,Oz] at h;omega)]
   refine C6 1 [2,7,9,10,11] Z ?_;refine R4 1 Z fun R d=>?_;refine Se _ U7 ?_;refine C4 1 [2,7,9,10,11] d Z ?_;clear d R;refine Sj (m':=f.length-(i+1)) om_ mup (hn_ [2,7,9,10,11] Z) ⟨i+1,3,⟨by omega,(wT ac M).symm⟩,Z,Z,Z⟩
  have hc:¬ (q<0∨(B.obs.length:Int)<=q):=by
   have h:(decide (q<0) || decide (q ≥ ((B.obs.map vS).length:Int)))=false:=ae;rw [al] at h;simp only [PR,OL] at h;omega
  refine Ss [0,1,2,3,4,5,6,7,8,9,10,11,12,13] [] Z kr_ (fun R v d=>?_);refine R9 5 Z ?_;refine D.index U10 (fun hg=>⟨t.mono mup,by omega,bO hq⟩) fl_ Z (fun a6 aO=>?_);refine Sz U6 aO U3 ?_;refine R9 2 Z ?_;refine Se _ U7 ?_;refine D.index U10 (fun hg=>⟨t.mono mup,(by have h:decide ((i:Int) > 0)=true:=hg.1;have:=NM h;omega),(by have h:decide ((i:Int) > 0)=true:=hg.1;have:=NM h;rw [show ((i:Int)-1).toNat=i-1 by omega];exact bO ao)⟩) fl_ Z (fun a7 aP=>?_);refine Sz U6 aP U3 ?_;refine R7 U6 ?_;refine Sv U8 ?_;refine Sa [2,7,9,10,11,163] d Z ?_;clear d v R;refine R6 (fun ag=>?_) fun ag=>?_
  ·have M:dB B.obs.length f i=6:=by
    have h:(decide ((i:Int) > 0) && decide (q<=L))=true:=ag;unfold dB;rw [ad,ap,aA hc,aI (by simp only [OC,Oz] at h;omega)]
   refine C6 1 [2,7,9,10,11] Z ?_;refine R4 1 Z fun R d=>?_;refine Se _ U7 ?_;refine C4 1 [2,7,9,10,11] d Z ?_;clear d R;refine Sj (m':=f.length-(i+1)) om_ mup (hn_ [2,7,9,10,11] Z) ⟨i+1,6,⟨by omega,(wT ac M).symm⟩,Z,Z,Z⟩
  have M:dB B.obs.length f i=0:=by
   have h:(decide ((i:Int) > 0) && decide (q<=L))=false:=ag;unfold dB;rw [ad,ap,aA hc,aA (fun h2=>by simp only [RC,OL] at h;omega)]
  refine R4 1 Z fun R d=>?_;refine Se _ U7 ?_;refine C4 1 [2,7,9,10,11] d Z ?_;clear d R;refine Sj (m':=f.length-(i+1)) om_ mup (hn_ [2,7,9,10,11] Z) ⟨i+1,w,⟨by omega,r.trans (wT ac M).symm⟩,Z,Z,Z⟩
 have aq:w=if z≠0 then z else J5 B.obs.length f:=by
  have h:(decide ((i:Int)<f.length) && (w == 0))=false:=ab;rw [hw];refine Mn hi ?_;rw [<- hw];by_cases h1:i=f.length
  ·exact .inl h1
  have h2:decide ((i:Int)<f.length)=true:=OK om_;rw [h2,Rc] at h;exact .inr (by simpa using h)
 refine C6 2 [2,7,9,10,165] Z ?_;refine G.cut (fun fr C' I J=>∃ (u:Unit),(True)/\fr=[(2,[],.slice Q f.length T),(7,[],.pointer (some ⟨b7,0,none⟩)),(10,[],.int .i64 w)]/\I=[]) ?_ (fun fr _ a8 J _ K=>?_)
 ·refine R6 (fun ar=>?_) fun ar=>?_
  ·have ah:z≠0:=by simpa using ar
   refine R8 fun R d=>?_;refine R5 (bkT g 5) U8 ?_;refine Sg (wA _ _ B z F.m_ ah h60 U) U7 ?_;refine C4 7 [2,7,9,10,12,13,14] d Z ?_;clear d R;refine R8 fun R d=>?_;refine R5 (bkT g 5) U8 ?_;refine Sg (Mc _ _ B z F.m_ ah h60 U) U7 ?_;refine C4 5 [2,7,9,10,12,13,14,15,16] d Z ?_;clear d R;refine R8 fun R d=>?_;refine R5 (bkT g 5) U8 ?_;refine Sg (ym _ _ B z F.m_ ah h60 U) U7 ?_;refine C4 5 [2,7,9,10,12,13,14,15,16,17,18] d Z ?_;clear d R;refine R4 4 Z fun R d=>?_;refine Se _ U7 ?_;refine R9 2 Z ?_;refine Se _ U7 ?_;refine R9 3 Z ?_;refine SA U8 ?_;refine R9 4 Z ?_;refine SA U8 ?_;refine R9 4 Z ?_;refine SA U8 ?_;refine R9 4 Z ?_;refine SA U8 ?_;refine Sa [2,7,10,208] d Z ?_;clear d R;refine R6 (fun au=>?_) fun au=>?_
   ·exact absurd au am
   refine Si 0 mup (hn_ [2,7,10] Z) ⟨(),trivial,Z,Z⟩
  refine Si 0 mup (hn_ [2,7,10] Z) ⟨(),trivial,Z,Z⟩
 obtain ⟨u,_,rfl,rfl⟩:=K;refine C6 2 [2,7,10,210] Z ?_;refine R6 (fun av=>?_) fun av=>?_
 ·refine C6 1 [6] Z ?_;refine Sb U2 ?_;exact ⟨Z,Z⟩
 have r:w≠0:=by simpa using av
 have hck:∀ D:Mem,C5.le D->Gives cx.P 49 [.agg ⟨[w1,w2,w3,w4,.slice E5 (B.obs.map vS).length f5]⟩,.slice Q f.length T] D (.int .i64 w):=fun D hD=>by
  rw [aq];exact tN D _ _ B z f (F.mono (Mem.le.trans aH hD)) h60 (t.mono (Mem.le.trans mup hD)) om_ (fun h1 h2=>absurd (by rw [aq,aA (fun h3=>h3 h1)];exact h2) r)
 refine R8 fun R d=>?_;refine R5 (bkT g 5) U8 ?_;refine R7 U6 ?_;refine Sg (pO _ _ _ w r (fun E n=>hck E (Mem.le.trans mup n)) ⟨_,_,_,_,_,Z⟩) U7 ?_;refine C4 5 [2,7,10,19,20] d Z ?_;clear d R;refine R8 fun R d=>?_;refine R5 (bkT g 5) U8 ?_;refine R7 U6 ?_;refine Sg (Gs _ _ _ w r (fun E n=>hck E (Mem.le.trans mup n)) ⟨_,_,_,_,_,Z⟩) U7 ?_;refine R9 4 Z ?_;refine Sq U5 (fun a9=>?_);refine Sf (j:=0) U12 ?_;refine C4 2 [2,7,10,19,20,21,22,23] d Z ?_;clear d R;refine R8 fun R d=>?_;refine R5 (bkT g 5) U8 ?_;refine R7 U6 ?_;refine Sn ([.slice none 0 0]) U8 ?_;refine Sg (Ja _ _ _ w r (fun E n=>hck E (Mem.le.trans mup n)) ⟨_,_,_,_,_,Z⟩ _) U7 ?_;refine C4 5 [2,7,10,19,20,21,22,23,24,25] d Z ?_;clear d R;refine R8 fun R d=>?_;refine R5 (bkT g 5) U8 ?_;refine R7 U6 ?_;refine Sg (LW _ _ _ w r (fun E n=>hck E (Mem.le.trans mup n)) ⟨_,_,_,_,_,Z⟩) U7 ?_;refine C4 5 [2,7,10,19,20,21,22,23,24,25,26,27] d Z ?_;clear d R;refine R8 fun R d=>?_;refine R5 (bkT g 5) U8 ?_;refine R7 U6 ?_;refine Sg (CM _ _ _ w r (fun E n=>hck E (Mem.le.trans mup n)) ⟨_,_,_,_,_,Z⟩) U7 ?_;refine C4 7 [2,7,10,19,20,21,22,23,24,25,26,27,28,29,30] d Z ?_;clear d R;refine R4 5 Z fun R d=>?_;refine Sv U8 ?_;refine R9 3 Z ?_;refine Sv U8 ?_;refine R9 3 Z ?_;refine Sv U8 ?_;refine R9 2 Z ?_;refine Sd af U9 ?_;refine R9 3 Z ?_;refine Se _ U7 ?_;refine R9 2 Z ?_;refine Se _ U7 ?_;refine R7 U6 ?_;refine Sv U8 ?_;refine R9 4 Z ?_;refine Sv U8 ?_;refine R9 4 Z ?_;refine Sv U8 ?_;refine R9 4 Z ?_;refine Sv U8 ?_;refine R9 4 Z ?_;refine Sv U8 ?_;refine R9 4 Z ?_;refine Sv U8 ?_;refine R7 U6 ?_;refine Sz U6 (fun _=>PtrTo.blockT (Mem.get g mup) _ 5) U3 ?_;refine R7 U6 ?_;refine Sn ([.slice none 0 0]) U8 ?_;refine SF (fun _=>(pL _ _ _ w r (fun E n=>hck E (Mem.le.trans mup n)) ⟨_,_,_,_,_,Z⟩ _)) U9 ?_;refine R9 2 Z ?_;refine Sv U8 ?_;refine C4 1 [6] d Z ?_;clear d R;refine Sb U2 ?_;exact ⟨by simp,Z⟩
end Go.Proofs.YthnpijdjlddpmaaGreatDoor
