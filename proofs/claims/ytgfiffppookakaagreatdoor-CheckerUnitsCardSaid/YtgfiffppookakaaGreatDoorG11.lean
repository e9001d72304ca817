/- Laws that the proofs of this seat share, part 11. -/
import Derived.Test.YtgfiffppookakaaGreatDoorG10
import Derived.Test.YtgfiffppookakaaGreatDoorShelf
set_option maxHeartbeats 4000000
namespace Go.Proofs.YtgfiffppookakaaGreatDoor
open Go Go.Jog
set_option maxRecDepth 100000

theorem G8:qtx 2=[50]:=by decide +kernel
theorem Jj:qtx (-1)=[45,49]:=by decide +kernel
theorem Ey:qtx 1=[49]:=by decide +kernel
def mnr (a b c d:Rat):Rat:=a*d-b*c
theorem Bw {a b c d:Rat}{k:Nat}(ha:QB k a)(hb:QB k b)(hc:QB k c)(hd:QB k d):QB (4*k+1) (mnr a b c d):=(gm (dz ha hd) (dz hb hc)).le om_
theorem nI (C:Mem)(hT:Tabs C)(a b c d:Rat)(k:Nat)(hk0:0<k)(hk:k<=1000)(ha:QB k a)(hb:QB k b)(hc:QB k c)(hd:QB k d):Gives cx.P 271 [aA (qtx a),aA (qtx b),aA (qtx c),aA (qtx d)] C (aA (qtx (mnr a b c d))):=by
 refine Fn.it kr_ Tryz.func271 16 fun w0=>?_;refine G.z4 1 0 1 2 3 ?_;refine G.rp 2 fun R hR=>?_;refine D.aj (bt _ hT.m_ a d k hk0 om_ ha hd) U7 fl_ ?_;refine D.ps 2 ?_;refine D.aj (bt _ hT.m_ b c k hk0 om_ hb hc) U7 fl_ ?_;refine D.aj (bH _ hT.m_ (a*d) (b*c) (k+k) om_ om_ (dU ha hd) (dU hb hc)) U7 fl_ ?_;refine D.q1 1 8 hR ?_;refine G.rf ?_;exact ⟨Z,Z⟩
theorem B6 (C:Mem)(hT:Tabs C)(a b:V3)(k:Nat)(hk0:0<k)(hk:k<=1000)(ha:Q3 k a)(hb:Q3 k b):Gives cx.P 219 [vV a,vV b] C (vV (w6 a b)):=by
 refine Fn.it kr_ Tryz.func219 37 fun w0=>?_;refine G.rg fun R hR=>?_;refine D.aD (fun b2=>?_);refine D.aD (fun b3=>?_);refine D.ai (fun b4=>?_);refine D.e3 2 3 4 hR ?_;refine G.freeze 2 Z (fun _ _ hb2=>?_);refine G.freeze 1 Z (fun _ _ hb3=>?_);refine G.z4 1 2 3 4 5 ?_;refine G.aG [0,1,2,3,4,5,6,7,8,9,10,11,12,13,14,15,16,17,18,19,20,21,22,23,24,25,26,27,28,29,30,31] [(9,1),(19,1),(29,1)] Z kr_ (fun R hB hR=>?_);refine D.ps 2 ?_;refine D.aa (bkT hb2 1) ?_;refine D.ac ?_;refine D.aa (bkT hb2 1) ?_;refine D.ac ?_;refine D.aa (bkT hb3 1) ?_;refine D.ac ?_;refine D.aa (bkT hb3 1) ?_;refine D.aL (fun _=>(nI _ hT.m_ a.2.1 a.2.2 b.2.1 b.2.2 k hk0 hk ha.2.1 ha.2.2 hb.2.1 hb.2.2)) ?_;refine D.ps 2 ?_;refine D.aa (bkT hb2 1) ?_;refine D.ac ?_;refine D.aa (bkT hb2 1) ?_;refine D.ac ?_;refine D.aa (bkT hb3 1) ?_;refine D.ac ?_;refine D.aa (bkT hb3 1) ?_;refine D.aL (fun _=>(nI _ hT.m_ a.2.2 a.1 b.2.2 b.1 k hk0 hk ha.2.2 ha.1 hb.2.2 hb.1)) ?_;refine D.ps 2 ?_;refine D.aa (bkT hb2 1) ?_;refine D.ac ?_;refine D.aa (bkT hb2 1) ?_;refine D.ac ?_;refine D.aa (bkT hb3 1) ?_;refine D.ac ?_;refine D.aa (bkT hb3 1) ?_;refine D.aL (fun _=>(nI _ hT.m_ a.1 a.2.1 b.1 b.2.1 k hk0 hk ha.1 ha.2.1 hb.1 hb.2.1)) ?_;refine D.ap (nB (w6 a b)) ?_;refine D.ae (j:=0) ?_;refine D.e1 4 hR ?_;refine G.aB (G.aR (.head _) U4 ?_);exact ⟨Z,Z⟩
theorem D6 (C:Mem)(hT:Tabs C)(x y z:Int)(hx:x.natAbs<=9)(hy:y.natAbs<=9)(hz:z.natAbs<=9):Gives cx.P 218 [.int .i64 x,.int .i64 y,.int .i64 z] C (vV ((x:Rat),(y:Rat),(z:Rat))):=by
 refine Fn.it kr_ Tryz.func218 14 fun w0=>?_;refine G.rg fun R hR=>?_;refine D.ai (fun b6=>?_);refine D.e4 0 1 2 6 hR ?_;refine G.rp 1 fun R hR=>?_;refine D.aj (lG _ hT.m_ x om_) U7 fl_ ?_;refine D.ac ?_;refine D.aj (lG _ hT.m_ y om_) U7 fl_ ?_;refine D.ac ?_;refine D.aj (lG _ hT.m_ z om_) U7 fl_ ?_;refine D.ap (nB ((x:Rat),(y:Rat),(z:Rat))) ?_;refine D.ae (j:=0) ?_;refine D.e1 6 hR ?_;refine G.aB (G.aR (.head _) U4 ?_);exact ⟨Z,Z⟩
theorem eY {z:Int}(h:z.natAbs<=9):QB 1 (z:Rat):=DG (by show _<1000000000;omega) dc_
theorem Q3.add {k:Nat}{a b:V3}(ha:Q3 k a)(hb:Q3 k b):Q3 (k+k+1) (add3 a b):=⟨xB ha.1 hb.1,xB ha.2.1 hb.2.1,xB ha.2.2 hb.2.2⟩
theorem Q3.scl {k:Nat}{a:V3}{q:Rat}(ha:Q3 k a)(hq:QB k q):Q3 (k+k) (kC a q):=⟨dU ha.1 hq,dU ha.2.1 hq,dU ha.2.2 hq⟩
theorem Q3.crs {k:Nat}{a b:V3}(ha:Q3 k a)(hb:Q3 k b):Q3 (4*k+1) (w6 a b):=⟨Bw ha.2.1 ha.2.2 hb.2.1 hb.2.2,Bw ha.2.2 ha.1 hb.2.2 hb.1,Bw ha.1 ha.2.1 hb.1 hb.2.1⟩
theorem two_qb:QB 1 (2:Rat):=eY (z:=2) dc_
theorem m1_qb:QB 1 (-1:Rat):=eY (z:=-1) dc_
theorem zP {w:Rat}{u v:V3}(qw:QB 1 w)(qu:Q3 1 u)(hv:Q3 10 v)(hne:w*w+ce u u≠0):QB 8 (ce u u)/\QB 8 (w*w)/\QB 17 (w*w-ce u u)/\QB 17 (w*w+ce u u)/\Q3 72 (kC v (w*w-ce u u))/\QB 36 (ce u v)/\QB 36 (2*ce u v) /\
  Q3 72 (kC u (2*ce u v))/\QB 41 (2*w)/\Q3 41 (w6 u v)/\Q3 145 (kC (w6 u v) (2*w))/\QB 291 (1 / (w*w+ce u u)):=by
 have qs:QB 8 (ce u u):=(ra qu qu).le dc_;have qww:=(dU qw qw).le (show 1+1<=8 by decide);have qe:=(fA qww qs).le (show 8+8+1<=17 by decide);have qm:=(gm qww qs).le (show 8+8+1<=17 by decide);have quv:QB 35 (ce u v):=(ra qu hv).le dc_;have q2d:=(dz two_qb quv).le (show 1+35<=36 by decide);have q2w:=(dU two_qb qw).le (show 1+1<=41 by decide);have qc:=((qu.le (show 1<=10 by decide)).crs hv).le (show 4*10+1<=41 by decide);exact ⟨qs,qww,qm,qe,((hv.le (show 10<=17 by decide)).scl qm).le dc_,quv.le dc_,q2d,((qu.le (show 1<=36 by decide)).scl q2d).le dc_,q2w,qc,(qc.scl q2w).le dc_,(xA (QB_one.le (show 1<=17 by decide)) qe hne).le dc_⟩
theorem E0 (C:Mem)(hT:Tabs C)(a b c d:Int)(ha:a.natAbs<=9)(hb:b.natAbs<=9)(hc:c.natAbs<=9)(hd:d.natAbs<=9)(v:V3)(hv:Q3 10 v)(hne:(-(a:Rat))*(-(a:Rat))+ce ((b:Rat),(c:Rat),(d:Rat)) ((b:Rat),(c:Rat),(d:Rat))≠0) :
  Gives cx.P 139 [.agg ⟨[.int .i64 a,.int .i64 b,.int .i64 c,.int .i64 d]⟩,vV v,.bool true] C (vV (rI (-(a:Rat)) ((b:Rat),(c:Rat),(d:Rat)) v)):=by
 have qw:=pE (eY ha);have qu:Q3 1 ((b:Rat),(c:Rat),(d:Rat)):=⟨eY hb,eY hc,eY hd⟩;obtain ⟨qs,qww,qd,qe,qA,quv,q2d,qB,q2w,qc,qC,qk⟩:=zP qw qu hv hne;have m2:=fun D (hD:C.le D) x k h1 h2 h3 h4=>bt D (hT.mono hD) 2 x k h1 h2 h3 h4;have d1:=fun D (hD:C.le D) x k h1 h2 h3 h4 h5=>uh D (hT.mono hD) 1 x k h1 h2 h3 h4 h5;rw [G8] at m2;rw [Ey] at d1;refine Fn.it kr_ Tryz.func139 66 fun w0=>?_;refine G.rg fun R hR=>?_;refine D.aD (fun b3=>?_);refine D.aD (fun b4=>?_);refine D.ai (fun b6=>?_);refine D.e4 2 3 4 6 hR ?_;refine G.freeze 2 Z (fun _ _ hb3=>?_);refine G.freeze 1 Z (fun _ _ hb4=>?_);refine G.aG [0,1,2,3,4,5,6,7,8,9,10,11,12] [(2,1),(9,1)] Z kr_ (fun R hB hR=>?_);refine D.aE (0) U9 (fun _=>⟨by decide,by decide,Z⟩) U2 ?_;refine D.aa (bkT hb3 1) ?_;refine D.ay (fun _=>(lG _ hT.m_ a om_)) U9 ?_;refine D.aE (1) U9 (fun _=>⟨by decide,by decide,Z⟩) U2 ?_;refine D.aa (bkT hb3 1) ?_;refine D.aE (2) U9 (fun _=>⟨by decide,by decide,Z⟩) U2 ?_;refine D.aa (bkT hb3 1) ?_;refine D.aE (3) U9 (fun _=>⟨by decide,by decide,Z⟩) U2 ?_;refine D.aa (bkT hb3 1) ?_;refine D.aL (fun _=>(D6 _ hT.m_ b c d hb hc hd)) ?_;refine D.ai (fun b8=>?_);refine D.ac ?_;refine D.ae (j:=0) ?_;refine D.e5 2 4 6 7 8 hR ?_;refine G.freeze 0 Z (fun _ _ hb8=>?_);refine G.z5 1 4 6 7 8 25 ?_;refine G.cd (fun h25=>?_) fun h25=>?_
 ·refine G.rp 1 fun R hR=>?_;refine D.aj (AP _ (a:Rat) (LE (cC (eY ha) dc_) dc_)) U7 fl_ ?_;refine D.q4 1 4 6 7 8 hR ?_;refine G.rg fun R hR=>?_;refine D.aa (bkT hb8 3) ?_;refine D.aa (bkT hb8 3) ?_;refine D.aj (jn _ hT.m_ _ _ 1 1 dc_ dc_ qu qu) U7 fl_ ?_;refine D.q5 1 4 6 7 8 9 hR ?_;refine G.aG [0,1,2,3,4,5,6,7,8] [(3,1),(5,1),(6,1)] Z kr_ (fun R hB hR=>?_);refine D.aa (bkT hb4 3) ?_;refine D.ps 2 ?_;refine D.ay (fun _=>(bt _ hT.m_ _ _ 1 dc_ dc_ qw qw)) U9 ?_;refine D.ac ?_;refine D.ay (fun _=>(bH _ hT.m_ _ _ 8 dc_ dc_ qww qs)) U9 ?_;refine D.ay (fun _=>(fP _ hT.m_ v _ 17 dc_ dc_ (hv.le dc_) qd)) U9 ?_;refine D.ai (fun b10=>?_);refine D.ae (j:=0) ?_;refine D.e6 4 6 7 8 9 10 hR ?_;refine G.freeze 0 Z (fun _ _ hb10=>?_);refine G.aG [0,1,2,3,4,5,6,7] [(3,1),(4,1),(5,1)] Z kr_ (fun R hB hR=>?_);refine D.aa (bkT hb8 3) ?_;refine D.aa (bkT hb8 3) ?_;refine D.aa (bkT hb4 3) ?_;refine D.ay (fun _=>(jn _ hT.m_ _ v 1 10 dc_ dc_ qu hv)) U9 ?_;refine D.ay (fun _=>(m2 _ mup _ 36 dc_ dc_ (two_qb.le dc_) quv)) U9 ?_;refine D.ay (fun _=>(fP _ hT.m_ _ _ 36 dc_ dc_ (qu.le dc_) q2d)) U9 ?_;refine D.ai (fun b11=>?_);refine D.ae (j:=0) ?_;refine D.e7 4 6 7 8 9 10 11 hR ?_;refine G.freeze 0 Z (fun _ _ hb11=>?_);refine G.rg fun R hR=>?_;refine D.aa (bkT hb8 3) ?_;refine D.aa (bkT hb4 3) ?_;refine D.aj (B6 _ hT.m_ _ v 10 dc_ dc_ (qu.le dc_) hv) U7 fl_ ?_;refine D.ac ?_;refine D.aj (m2 _ mup _ 1 dc_ dc_ two_qb qw) U7 fl_ ?_;refine D.aj (fP _ hT.m_ _ _ 41 dc_ dc_ qc q2w) U7 fl_ ?_;refine D.ai (fun b12=>?_);refine D.ae (j:=0) ?_;refine D.e6 6 7 9 10 11 12 hR ?_;refine G.freeze 0 Z (fun _ _ hb12=>?_);refine G.rp 2 fun R hR=>?_;refine D.aj (bt _ hT.m_ _ _ 1 dc_ dc_ qw qw) U7 fl_ ?_;refine D.ac ?_;refine D.aj (dZ _ hT.m_ _ _ 8 dc_ dc_ qww qs) U7 fl_ ?_;refine D.aj (d1 _ mup _ 17 dc_ dc_ (QB_one.le dc_) qe hne) U7 fl_ ?_;refine D.q5 5 6 10 11 12 13 hR ?_;refine G.aG [0,1,2,3,4,5,6,7] [(2,1),(4,1),(6,1)] Z kr_ (fun R hB hR=>?_);refine D.aa (bkT hb10 3) ?_;refine D.aa (bkT hb11 3) ?_;refine D.ay (fun _=>(kN _ hT.m_ _ _ 72 dc_ dc_ qA qB)) U9 ?_;refine D.aa (bkT hb12 3) ?_;refine D.ay (fun _=>(kN _ hT.m_ _ _ 145 dc_ dc_ (qA.add qB) qC)) U9 ?_;refine D.ac ?_;refine D.ay (fun _=>(fP _ hT.m_ _ _ 291 dc_ dc_ ((qA.add qB).add qC) qk)) U9 ?_;refine D.ae (j:=0) ?_;refine D.e1 6 hR ?_;refine G.aB (G.aR (.head _) U4 ?_);exact ⟨Z,Z⟩
 ·exact absurd h25 dc_
theorem IX {a b c d:Int}(ha:a.natAbs<=9)(hb:b.natAbs<=9)(hc:c.natAbs<=9)(hd:d.natAbs<=9){v:V3}(hv:Q3 10 v)(hne:(-(a:Rat))*(-(a:Rat))+ce ((b:Rat),(c:Rat),(d:Rat)) ((b:Rat),(c:Rat),(d:Rat))≠0):Q3 582 (rI (-(a:Rat)) ((b:Rat),(c:Rat),(d:Rat)) v):=by
 obtain ⟨qs,qww,qd,qe,qA,quv,q2d,qB,q2w,qc,qC,qk⟩:=zP (pE (eY ha)) (u:=((b:Rat),(c:Rat),(d:Rat))) ⟨eY hb,eY hc,eY hd⟩ hv hne;exact (((qA.add qB).add qC).scl (k:=291) qk).le dc_
theorem Jy {l:List (Rat × Rat)}(hq:∀ k∈l,QB 1 k.1/\QB 1 k.2)(hd:∀ i,i+1<l.length->(l.getD (i+1) (0,0)).1-(l.getD i (0,0)).1=2){u:Rat}(hu:QB 100 u):QB 409 (knV l u):=by
 unfold knV;split
 ·exact QB_zero.le dc_
 ·split
  ·exact (m6 hq _).2.le dc_
  ·split
   ·exact (m6 hq _).2.le dc_
   ·rename_i h0 h1 h2;have hlt:=BN l u;have ka:=m6 hq (knN l u-1);have kb:=m6 hq (knN l u);have kd:(l.getD (knN l u) (0,0)).1-(l.getD (knN l u-1) (0,0)).1≠0:=by
     have:=hd (knN l u-1) om_;rw [Nu om_] at this;rw [this];decide
    have k1:=(gm hu ka.1).le (show 100+1+1<=102 by decide);have k2:=(gm kb.1 ka.1).le (show 1+1+1<=102 by decide);exact (fA ka.2 (dz (xA k1 k2 kd) (gm kb.2 ka.2))).le dc_
theorem zQ {e:Evt}(h:EvR e):(e.turn.1.natAbs<=9/\e.turn.2.1.natAbs<=9/\e.turn.2.2.1.natAbs<=9/\e.turn.2.2.2.natAbs<=9)/\(-(e.turn.1:Rat))*(-(e.turn.1:Rat))+ce (rY e) (rY e)≠0:=by
 have ht:=h.tu;unfold rY;obtain ⟨t,hte⟩:∃ t,e.turn=t:=⟨_,rfl⟩;rw [hte] at ht ⊢;clear hte;revert t;decide +kernel
theorem Hr (C:Mem)(hT:Tabs C)(np:Nat)(e:Evt)(hE:EvO np e)(cs:List Value)(hc:EvM C e cs)(p:V3)(hp:Q3 2 p) :
  Gives cx.P 67 [.agg ⟨cs⟩,vV p,.bool true] C (vV (js e p)):=by
 obtain ⟨nm,A1,A2,A3,A4,n1,n2,n3,n4,c1,c2,c3,c4,x,q,rfl,hg⟩:=hc.gen;have hkk:=hg.k;have hnq:=hE.r.nr.qb dc_;have hoq:=hE.r.of.qb dc_;have hlq:=hE.r.sl.qb dc_;have hcq:=hE.r.ct.qb dc_;have hdq:QB 11 (ce e.nrm p):=(ra hnq hp).le dc_;have hvq:=Jy hE.kq hE.r.ka (hdq.le (show 11<=100 by decide));have hwq:=(dz m1_qb hvq).le (show 1+409<=410 by decide);obtain ⟨⟨t1,t2,t3,t4⟩,tn⟩:=zQ hE.r;have s1:=fun D (hD:C.le D) a k h1 h2 h3 h4=>fP D (hT.mono hD) a (-1) k h1 h2 h3 h4;have m1:=fun D (hD:C.le D) x k h1 h2 h3 h4=>bt D (hT.mono hD) (-1) x k h1 h2 h3 h4;rw [Jj] at s1 m1;refine Fn.it kr_ Tryz.func67 75 fun w0=>?_;refine G.rg fun R hR=>?_;refine D.aD (fun b3=>?_);refine D.aD (fun b4=>?_);refine D.ai (fun b6=>?_);refine D.e4 2 3 4 6 hR ?_;clear hR R;refine G.freeze 2 Z (fun _ _ hb3=>?_);refine G.freeze 1 Z (fun _ _ hb4=>?_);refine G.z5 1 2 3 4 6 7 ?_;refine G.z6 1 2 3 4 6 7 11 ?_;refine G.cd (fun h11=>?_) fun h11=>?_
 ·refine G.z5 1 2 3 4 6 7 ?_;refine G.rp 1 fun R hR=>?_;refine D.aa (bkT hb3 1) ?_;refine D.e6 2 3 4 6 7 13 hR ?_;clear hR R;refine G.z7 2 2 3 4 6 7 13 14 ?_;refine G.cd (fun h14=>?_) fun h14=>?_
  ·have hk:e.kd=2:=by simp at h14;omega
   obtain rfl:=hg.h2 hk;refine G.aG [0,1,2,3,4,5,6,7,8,9,10,11] [(5,1),(10,1),(3,0),(4,0),(9,0)] Z kr_ (fun R hB hR=>?_);refine D.ps 3 ?_;refine D.am (fun _=>((bkT hb3 3).mono hB)) ?_;refine D.am (fun _=>((bkT hb4 3).mono hB)) ?_;refine D.ay (fun _=>(jn _ hT.m_ e.nrm p 1 2 dc_ dc_ hnq hp)) U9 ?_;refine D.ps 3 ?_;refine D.am (fun _=>((bkT hb3 1).mono hB)) ?_;refine D.ay (fun _=>(bY _ hT.m_ (ce e.nrm p) e.off 11 dc_ dc_ hdq (hoq.le dc_))) U9 ?_;refine D.ac ?_;refine D.e5 3 4 6 7 27 hR ?_;clear hR hB R;refine G.cd (fun h27=>?_) fun h27=>?_
   ·rw [rm] at h27;refine G.aG [0,1,2,3,4,5,6,7] [(5,1),(6,1)] Z kr_ (fun R hB hR=>?_);refine D.aa (bkT hb4 3) ?_;refine D.ps 2 ?_;refine D.aa (bkT hb3 3) ?_;refine D.ac ?_;refine D.ay (fun _=>(s1 _ mup e.slip 1 dc_ dc_ hlq m1_qb)) U9 ?_;refine D.ay (fun _=>(kN _ hT.m_ p _ 2 dc_ dc_ hp (hlq.scl m1_qb))) U9 ?_;refine D.ae (j:=0) ?_;refine D.e1 6 hR ?_;clear hR hB R;refine G.aB (G.aR (.head _) U4 ?_);exact ⟨by unfold js;rw [bW hk,bW (bi h27)];rfl,Z⟩
   ·rw [rm] at h27;refine G.rg fun R hR=>?_;refine D.aa (bkT hb4 3) ?_;refine D.ae (j:=0) ?_;refine D.e1 6 hR ?_;clear hR R;refine G.aB (G.aR (.head _) U4 ?_);exact ⟨by unfold js;rw [bW hk,a7 (dj h27)];rfl,Z⟩
  ·have k2:e.kd≠2:=fun h=>by rw [h] at h14;exact absurd h14 dc_
   refine G.z7 2 2 3 4 6 7 13 35 ?_;refine G.cd (fun h35=>?_) fun h35=>?_
   ·have hk:e.kd=3:=by simp at h35;omega
    obtain ⟨rfl,rfl,hkn⟩:=hg.h3 hk;refine G.aG [0,1,2,3,4,5,6,7,8,9,10,11,12,13] [(7,1),(8,1),(2,0),(5,0),(6,0)] Z kr_ (fun R hB hR=>?_);refine D.ps 2 ?_;refine D.am (fun _=>((bkT hb3 1).mono hB)) ?_;refine D.ps 2 ?_;refine D.am (fun _=>((bkT hb3 3).mono hB)) ?_;refine D.am (fun _=>((bkT hb4 3).mono hB)) ?_;refine D.ay (fun _=>(jn _ hT.m_ e.nrm p 1 2 dc_ dc_ hnq hp)) U9 ?_;refine D.ay (fun _=>(wG _ hT.m_ A4 c4 e.knots hkn.m_ hE.kq hE.r.ka hE.r.kl (ce e.nrm p) (hdq.le dc_))) U9 ?_;refine D.ps 5 ?_;refine D.e5 3 4 6 7 9 hR ?_;clear hR hB R;refine G.aG [0,1,2,3,4,5,6,7,8,9] [(6,1),(7,1),(8,1)] Z kr_ (fun R hB hR=>?_);refine D.aa (bkT hb4 3) ?_;refine D.ps 2 ?_;refine D.aa (bkT hb3 3) ?_;refine D.ps 2 ?_;refine D.ay (fun _=>(m1 _ mup _ 409 dc_ dc_ (m1_qb.le dc_) hvq)) U9 ?_;refine D.ay (fun _=>(fP _ hT.m_ e.slip _ 410 dc_ dc_ (hlq.le dc_) hwq)) U9 ?_;refine D.ay (fun _=>(kN _ hT.m_ p _ 820 dc_ dc_ (hp.le dc_) ((hlq.le (show 1<=410 by decide)).scl hwq))) U9 ?_;refine D.ae (j:=0) ?_;refine D.e1 6 hR ?_;clear hR hB R;refine G.aB (G.aR (.head _) U4 ?_);exact ⟨by unfold js;rw [a7 k2,bW hk];rfl,Z⟩
   ·have k3:e.kd≠3:=fun h=>by rw [h] at h35;exact absurd h35 dc_
    refine G.z5 2 2 3 4 6 58 ?_;refine G.cd (fun h58=>?_) fun h58=>?_
    ·have hk:e.kd=5:=by simp at h58;omega
     obtain ⟨rfl,rfl⟩:=hg.h5 hk;refine G.rp 2 fun R hR=>?_;refine D.aa (bkT hb3 3) ?_;refine D.ai (fun b10=>?_);refine D.ae (j:=0) ?_;refine D.e5 2 3 4 6 10 hR ?_;clear hR R;refine G.freeze 0 Z (fun _ _ hb10=>?_);refine G.aG [0,1,2,3,4,5,6,7,8,9,10,11] [(5,1),(6,1),(8,1),(10,1)] Z kr_ (fun R hB hR=>?_);refine D.ps 2 ?_;refine D.aa (bkT hb3 4) ?_;refine D.aa (bkT hb4 3) ?_;refine D.aa (bkT hb10 3) ?_;refine D.ay (fun _=>(s1 _ mup e.ctr 1 dc_ dc_ hcq m1_qb)) U9 ?_;refine D.ay (fun _=>(kN _ hT.m_ p _ 2 dc_ dc_ hp (hcq.scl m1_qb))) U9 ?_;refine D.ac ?_;refine D.ay (fun _=>(E0 _ hT.m_ e.turn.1 e.turn.2.1 e.turn.2.2.1 e.turn.2.2.2 t1 t2 t3 t4 _ ((hp.add (hcq.scl m1_qb)).le dc_) tn)) U9 ?_;refine D.aa (bkT hb10 3) ?_;refine D.ay (fun _=>(kN _ hT.m_ _ e.ctr 582 dc_ dc_ (IX t1 t2 t3 t4 ((hp.add (hcq.scl m1_qb)).le dc_) tn) (hcq.le dc_))) U9 ?_;refine D.ae (j:=0) ?_;refine D.e1 6 hR ?_;clear hR hB R;refine G.aB (G.aR (.head _) U4 ?_);exact ⟨by unfold js;rw [a7 k2,a7 k3,bW hk];rfl,Z⟩
    ·have k5:e.kd≠5:=fun h=>by rw [h] at h58;exact absurd h58 dc_
     refine G.rg fun R hR=>?_;refine D.aa (bkT hb4 3) ?_;refine D.ae (j:=0) ?_;refine D.e1 6 hR ?_;clear hR R;refine G.aB (G.aR (.head _) U4 ?_);exact ⟨by unfold js;rw [a7 k2,a7 k3,a7 k5];rfl,Z⟩
 ·exact absurd h11 dc_
end Go.Proofs.YtgfiffppookakaaGreatDoor
namespace Go.Jog
open Go

section
variable {P:Program} {f:FuncId} {args:List Value} {C:Mem} {L:List Ent}
theorem Fn.lendArr {g0 cap e s m:Nat}{rows:List (List Value)}{post:Value->List Ent->Prop}(hen:Enters P f=true)(hr:∀ r∈rows,r.length=s)(hm:rows.length=m)
  (h:∀ C',C.le C'->Sl C' s (.slice (some ⟨g0,0,none⟩) m cap) rows->Fn P f args C' L fun u _ L'=>post u L') :
  Fn P f args C (.arr (.slice (some ⟨g0,0,none⟩) m cap) e s m rows.flatten::L) fun u _ L''=>∃ L',L''=.arr (.slice (some ⟨g0,0,none⟩) m cap) e s m rows.flatten::L'/\post u L':=by
 subst hm;refine ⟨hen,fun w hw=>?_⟩;obtain ⟨cs,h1,h2,h3,h4,hst⟩:=(St.start hw).arrObj;have hb:C g0=none:=hst.sep.n g0 ⟨_,br ..,rfl⟩;have ha:=hst.aside;have hsl:Sl (C.set g0 (.cells ⟨cs⟩ e (0,0))) s (.slice (some ⟨g0,0,none⟩) rows.length cap) rows :=
  Sl.ofBlock (c:=cap) (Mem.set_self C g0 (.cells ⟨cs⟩ e (0,0))) hr (fun j v hj=>by
   rw [<- h2,Ly] at hj;split at hj
   ·simpa using hj
   ·cases hj) h3 h4
 refine ((h _ (Mem.le_set hb) hsl).2 w ha.sep).mono fun ex w' ⟨v,C',L',k1,k2,k3⟩=>?_;exact ⟨v,_,_,k1,(St.back hst k2).objArr h2 h1 h3 h4,L',Z,k3⟩
theorem Fn.lendRow {v:Value}{e s m:Nat}{rows:List (List Value)}{post:Value->List Ent->Prop}(hen:Enters P f=true)(hr:∀ r∈rows,r.length=s)(hm:rows.length=m)
  (h:∀ C',C.le C'->Sl C' s v rows->Fn P f args C' L fun u _ L'=>post u L') :
  Fn P f args C (.arr v e s m rows.flatten::L) fun u _ L''=>∃ L',L''=.arr v e s m rows.flatten::L'/\post u L':=by
 refine ⟨hen,fun w hw=>?_⟩;have hown:w.ownsRow 0 e s v m rows.flatten:=hw.e _ (br ..);rcases hown.2 with ⟨h1,h2⟩ | ⟨g,cap,cur,h1,_,_,h3,h4,_⟩
 ·have h0:rows=[]:=LL om_;have hc:=h C (Mem.le.refl C) (by rw [h1,h0];exact Sl.nil C s);have hs:=St.perm (St.start hw) (Lv (l₁:=[Ent.arr v e s m rows.flatten]) (l₂:=L));refine (hc.callAt hs).mono fun ex w' ⟨u,C',L',k1,_,k2,k3⟩=>?_;exact ⟨u,C',_,k1,St.perm k2 (Lv (l₁:=L') (l₂:=[Ent.arr v e s m rows.flatten])),L',Z,k3⟩
 ·subst h1;exact (Fn.lendArr (e:=e) hen hr hm h).2 w hw
end
inductive Lent where
 | obj (b:Nat) (cs:List Value) (t:TypeId)
 | arr (v:Value) (m s:Nat) (e:TypeId) (rows:List (List Value))
end Go.Jog
namespace Go.Proofs.YtgfiffppookakaaGreatDoor
open Go Go.Jog
set_option maxRecDepth 100000

theorem CE (C:Mem)(hT:Tabs C)(mv:Value)(pts:List Pt)(tris:List Tri)(hm:MeshIn C mv pts tris)(hG:Good pts tris)(e:Evt)(hE:EvO pts.length e)(cs:List Value)(hc:EvM C e cs):Gives cx.P 22 [mv,.agg ⟨cs⟩] C (.int .i64 0):=by
 have hx:∃ v1 v2,mv=.agg ⟨[v1,v2]⟩:=by obtain ⟨v1,v2,h,_⟩:=hm.ex;exact ⟨v1,v2,h⟩
 have hM:=fun D (hD:C.le D)=>fQ D (hT.mono hD) mv pts tris (hm.mono hD) hG;have hn:=(hE.r.nr.qb dc_).le (show 1<=22 by decide);have ho:=(hE.r.of.qb dc_).le (show 1<=22 by decide);have hs:=(hE.r.sl.qb dc_).le (show 1<=22 by decide);have hct:=(hE.r.ct.qb dc_).le (show 1<=22 by decide);obtain ⟨nm,hnm,h⟩:=hc;rcases h with ⟨k,h⟩ | ⟨k,rfl⟩ | ⟨k,A,c,rfl,h⟩ | ⟨k,rfl⟩ | ⟨k,rfl⟩
 ·exact yS C hT mv pts tris hm hG nm hnm e hE cs h
 ·exact yR C hT mv hx hM nm hnm e hn ho hs hE.nz hE.pp
 ·refine yQ C hT mv hx hM nm hnm e A c h hn hs hE.nz hE.pp (fun k hk=>⟨(hE.kq k hk).1.le dc_,(hE.kq k hk).2.le dc_⟩) (fun i a b ha hb=>?_) (by have:=hE.r.kl;omega);have hl:=(aJ.1 hb).1;have hd:=hE.r.ka i hl;rw [aF,aF,ha,hb] at hd;have hd2:b.1-a.1=2:=hd;grind
 ·exact yP C hT mv hx hM nm hnm e hn ho (hE.wq.le dc_) hE.nz hE.wd hE.uu.1 (by have:=hE.uu.2;omega)
 ·exact yO C hT mv hx hM nm hnm e hct hE.r.tu
theorem uW (C:Mem)(A:Option Addr)(c:Nat)(l:List Str)(hv:Sl C 1 (.slice A l.length c) (l.map bN))(hl:l.length<=9)(h0:l≠[]):Pur cx.P 62 [.slice A l.length c] C fun u D=>Sl D 1 u (l.map bN):=by
 have hA:A≠none:=fun e=>by
  obtain ⟨_,_,e1,_,_,_,hx⟩:=id hv;simp only [Value.slice.injEq] at e1;obtain ⟨a,ha,_⟩:=hx 0 _ (bg (aq (K6.2 h0)));rw [<- e1.1,e] at ha;cases ha
 refine Fn.it kr_ Tryz.func62 8 fun w0=>?_;refine G.z1 1 0 ?_;refine G.rp 1 fun R hR=>?_;refine D.Iq Z Z Z Z Z Z Z Z Z ?_;refine D.e2 0 4 hR ?_;refine G.cd (fun h4=>?_) fun h4=>?_
 ·exact absurd h4 fun h=>hA (Option.isNone_iff_eq_none.1 h)
 ·refine G.rg fun R hR=>?_;refine D.ec [] U12 fl_ (fun b5=>?_);refine D.ac ?_;refine D.aQ (j:=0) U11 hv.m_ (by simp [bN,uo,aA]) (by simp only [aH,J8,maxLen];omega) (by simp only [aH,J8];omega) fl_ (fun A7 n7 c7=>?_);refine D.q1 1 2 hR ?_;refine G.be (L':=[.arr (.slice A7 n7 c7) 9 1 l.length (l.map bN).flatten]) (by simp) ?_;refine G.freezeArr 0 (l.map bN) U2 (by intro r hr;obtain ⟨y,_,rfl⟩:=j5.1 hr;rfl) (by rw [aH]) (fun Cg hg hsl3=>?_);refine G.rf ?_;exact ⟨Z,hsl3⟩
theorem s6 (C:Mem)(np:Nat)(e:Evt)(hE:EvO np e)(cs:List Value)(hc:EvM C e cs):Pur cx.P 23 [.agg ⟨cs⟩] C fun u D=>Sl D 1 u ((pW e).map bN):=by
 obtain ⟨nm,A1,A2,A3,A4,n1,n2,n3,n4,c1,c2,c3,c4,x,q,rfl,hg⟩:=hc.gen;have hun:=hE.un;have hu2:=hE.u2;refine Fn.it kr_ Tryz.func23 17 fun w0=>?_;refine G.rg fun R hR=>?_;refine D.aD (fun b1=>?_);refine D.q1 1 1 hR ?_;refine G.freeze 0 Z (fun _ _ hb1=>?_);refine G.rp 1 fun R hR=>?_;refine D.aa (bkT hb1 1) ?_;refine D.e2 1 4 hR ?_;refine G.z3 2 1 4 5 ?_;refine G.cd (fun h5=>?_) fun h5=>?_
 ·have hk:e.kd=1:=by simp at h5;omega
  obtain ⟨rfl,rfl,rfl,_,hu,_⟩:=hg.h1 hk;refine G.rp 2 fun R hR=>?_;refine D.aa (bkT hb1 1) ?_;refine D.au (uW _ A2 c2 e.units hu.m_ om_ (fun h=>by rw [h] at hun;simp at hun)) U7 fl_ (fun v10 _ _ hq10=>?_);refine D.q1 1 2 hR ?_;refine G.rf ?_;exact ⟨Z,by unfold pW;rw [bW hk];exact hq10.mono mup⟩
 ·have k1:e.kd≠1:=fun h=>by rw [h] at h5;exact absurd h5 dc_
  refine G.z2 2 1 11 ?_;refine G.cd (fun h11=>?_) fun h11=>?_
  ·have hk:e.kd=4:=by simp at h11;omega
   obtain rfl:=hg.h4 hk;refine G.rp 2 fun R hR=>?_;refine D.aa (bkT hb1 1) ?_;refine D.ah ([e.unit].map bN) (fun p16 _ _ hs16=>?_);refine D.q1 1 2 hR ?_;refine G.rf ?_;exact ⟨Z,by unfold pW;rw [a7 k1,bW hk];exact hs16.mono mup⟩
  ·have k4:e.kd≠4:=fun h=>by rw [h] at h11;exact absurd h11 dc_
   refine G.z1 1 2 ?_;refine G.rf ?_;exact ⟨Z,by unfold pW;rw [a7 k1,a7 k4];exact Sl.nil _ 1⟩
theorem rj (C:Mem)(w:Value)(l:List Str)(x:Str)(hl:l.length<=1000000)(hx:x ∉ l):Jog.Fn cx.P 24 [w,aA x] C [.arr w 9 1 l.length (l.map bN).flatten] fun u _ L'=>u=.bool false/\L'=[.arr w 9 1 l.length (l.map bN).flatten]:=by
 refine (Fn.lendRow (post:=fun u L'=>u=.bool false/\L'=[]) kr_ (fun r hr=>by obtain ⟨y,_,rfl⟩:=j5.1 hr;rfl) (by rw [aH]) (fun D hD hs=>(ly D w l x hs hl hx).mono fun u C' L' _ h=>h)).mono ?_;rintro u C2 L' _ ⟨L1,rfl,h1,rfl⟩;exact ⟨h1,Z⟩
def EvsIn (C:Mem)(v:Value)(es:List Evt):Prop:=∃ rows:List (List Value),Sl C 32 v rows/\rows.length=es.length/\∀ (i:Nat)(r:List Value)(e:Evt),rows[i]?=some r->es[i]?=some e->EvM C e r
theorem EvsIn.mono {C D:Mem}{v:Value}{es:List Evt}(h:EvsIn C v es)(hl:C.le D):EvsIn D v es:=by
 obtain ⟨rows,h1,h2,h3⟩:=h;exact ⟨rows,h1.mono hl,h2,fun i r e a b=>(h3 i r e a b).mono hl⟩
theorem EvsIn.m_ {C D:Mem}{v:Value}{es:List Evt}(h:EvsIn C v es)(hl:C.le D:=by exact mup):EvsIn D v es:=EvsIn.mono h hl
def HisIn (C:Mem)(v:Value)(pts:List Pt)(tris:List Tri)(bas:Str)(es:List Evt):Prop:=∃ v1 v2 A c,v=.agg ⟨[v1,v2,aA bas,.slice A es.length c]⟩/\MeshIn C (.agg ⟨[v1,v2]⟩) pts tris/\EvsIn C (.slice A es.length c) es
theorem HisIn.mono {C D:Mem}{v:Value}{pts:List Pt}{tris:List Tri}{bas:Str}{es:List Evt}(h:HisIn C v pts tris bas es)(hl:C.le D):HisIn D v pts tris bas es:=by
 obtain ⟨v1,v2,A,c,h1,h2,h3⟩:=h;exact ⟨v1,v2,A,c,h1,h2.mono hl,h3.mono hl⟩
theorem HisIn.m_ {C D:Mem}{v:Value}{pts:List Pt}{tris:List Tri}{bas:Str}{es:List Evt}(h:HisIn C v pts tris bas es)(hl:C.le D:=by exact mup):HisIn D v pts tris bas es:=HisIn.mono h hl
def jD (bas:Str)(es:List Evt)(i:Nat):List Str:=bas::(es.take i).flatMap pW
structure HisR (pts:List Pt)(tris:List Tri)(bas:Str)(es:List Evt):Prop where
 g:Good pts tris
 e:∀ e∈es,EvO pts.length e
 l:es.length<=3
 b:cA bas=true/\bas.length<=32
 d:∀ i e,es[i]?=some e->∀ s∈pW e,s ∉ jD bas es i
theorem zN {np:Nat}{e:Evt}(h:EvO np e):(pW e).length<=3:=by
 have h1:=h.un;have h2:=h.u2;unfold pW;split
 ·omega
 ·split <;> simp
theorem sn {bas:Str}{es:List Evt}{i:Nat}{e:Evt}(h:es[i]?=some e):jD bas es (i+1)=jD bas es i++pW e:=by
 unfold jD;rw [xO,h];simp
theorem vR {pts:List Pt}{tris:List Tri}{bas:Str}{es:List Evt}(h:HisR pts tris bas es):∀ i,(jD bas es i).length<=1+3*i
 | 0=>by simp [jD]
 | i+1=>by
  have ih:=vR h i;cases he:es[i]? with
  | none =>
   unfold jD at *;rw [xO,he];simp only [Option.toList,LY];omega
  | some e =>
   have:=zN (h.e e (ba he));rw [sn he,eh];omega
theorem sU (C:Mem)(hT:Tabs C)(hv:Value)(pts:List Pt)(tris:List Tri)(bas:Str)(es:List Evt)(hh:HisIn C hv pts tris bas es)(hHR:HisR pts tris bas es):Gives cx.P 8 [hv] C (.int .i64 0):=by
 obtain ⟨v1,v2,A,c,rfl,hm,rows,hs,hrl,hrow⟩:=hh;have hes:=hHR.l;have hseen:=vR hHR;refine Fn.it kr_ Tryz.func8 59 fun w0=>?_;refine G.rg fun R hR=>?_;refine D.aD (fun b1=>?_);refine D.q1 1 1 hR ?_;refine G.freeze 0 Z (fun _ _ hb1=>?_);refine G.rp 1 fun R hR=>?_;refine D.aa (bkT hb1 2) ?_;refine D.ag (fQ _ hT.m_ _ pts tris hm.m_ hHR.g) ?_;refine D.q2 1 1 3 hR ?_;refine G.z3 2 1 3 14 ?_;refine G.cd (fun h14=>?_) fun h14=>?_
 ·exact absurd h14 dc_
 ·refine G.rp 1 fun R hR=>?_;refine D.aa (bkT hb1 1) ?_;refine D.aj (uD _ bas (by have:=hHR.b.2;omega)) U7 fl_ ?_;refine D.q2 2 1 16 hR ?_;refine G.cd (fun h16=>?_) fun h16=>?_
  ·rw [hHR.b.1] at h16;exact absurd h16 dc_
  ·refine G.rp 1 fun R hR=>?_;refine D.aa (bkT hb1 1) ?_;refine D.q2 3 1 21 hR ?_;refine G.cd (fun h21=>?_) fun h21=>?_
   ·rw [cH] at h21;omega
   ·refine G.rp 1 fun R hR=>?_;refine D.aa (bkT hb1 1) ?_;refine D.ec [[aA bas]] U12 fl_ (fun b28=>?_);refine D.q2 1 1 4 hR ?_;refine G.rp 1 fun R hR=>?_;refine D.aa (bkT hb1 1) ?_;refine D.q5 2 1 4 30 31 32 hR ?_;refine G.loop (fun fr C' L' μ=>∃ (i:Nat)(w:Value),(i<=es.length)/\fr=[(1,[],.pointer (some ⟨b1,0,none⟩)),(4,[],w),(30,[],.slice A es.length c),(31,[],.int .i64 es.length),(32,[],.int .i64 i)]/\L'=[.arr w 9 1 (jD bas es i).length ((jD bas es i).map bN).flatten]/\μ=es.length-i) (h_5 1 4 30 31 32) ⟨0,_,ch _,Z,Z,Z⟩ (fun fr C0' L0' m _ hI=>?_);obtain ⟨i,w,hi,rfl,rfl,rfl⟩:=hI;refine G.z6 1 1 4 30 31 32 33 ?_;refine G.cd (fun h33=>?_) fun h33=>?_
    ·have hil:i<es.length:=by have:=bi h33;omega
     obtain ⟨e,he0⟩:∃ e,es[i]?=some e:=⟨es[i],aq hil⟩;obtain ⟨r,hr0⟩:∃ r,rows[i]?=some r:=⟨rows[i],aq om_⟩;have he:=hHR.e e (ba he0);have hrM:=hrow i r e hr0 he0;have hb3:=hseen i;have hb4:=zN he;obtain ⟨nm,A1,A2,A3,A4,n1,n2,n3,n4,c1,c2,c3,c4,x,q,rfl,_⟩:=hrM.gen;refine G.rg fun R hR=>?_;refine D.ak hs.m_ U10 om_ hr0 fl_ (fun p34 hp34=>?_);refine D.aa hp34 ?_;refine D.ai (fun b6=>?_);refine D.ae (j:=0) ?_;refine D.e6 1 4 6 30 31 32 hR ?_;refine G.freeze 0 Z (fun _ _ hb6=>?_);refine G.rp 1 fun R hR=>?_;refine D.aa (bkT hb1 2) ?_;refine D.aa (bkT hb6 32) ?_;refine D.ag (CE _ hT.m_ _ pts tris hm.m_ hHR.g e he _ hrM.m_) ?_;refine D.q7 1 1 4 6 7 30 31 32 hR ?_;refine G.z8 2 1 4 6 7 30 31 32 41 ?_;refine G.cd (fun h41=>?_) fun h41=>?_
     ·exact absurd h41 dc_
     ·refine G.rg fun R hR=>?_;refine D.aa (bkT hb6 32) ?_;refine D.az (s6 _ _ e he _ hrM.m_) (fun v44 _ _ hq44=>?_);obtain ⟨AU,cU,rfl,_⟩:=id hq44;simp only [aH] at hq44 ⊢;refine D.q9 2 1 4 6 30 31 32 44 45 46 hR ?_;refine G.loop (fun fr C' L' μ=>∃ (j:Nat),(j<=(pW e).length)/\fr=[(1,[],.pointer (some ⟨b1,0,none⟩)),(4,[],w),(6,[],.pointer (some ⟨b6,0,none⟩)),(30,[],.slice A es.length c),(31,[],.int .i64 es.length),(32,[],.int .i64 i),(44,[],.slice AU (pW e).length cU),(45,[],.int .i64 (pW e).length),(46,[],.int .i64 j)]/\L'=[.arr w 9 1 (jD bas es i).length ((jD bas es i).map bN).flatten]/\μ=(pW e).length-j) (h_9 1 4 6 30 31 32 44 45 46) ⟨0,ch _,Z,Z,Z⟩ (fun fr C1' L1' m _ hI=>?_);obtain ⟨j,hj,rfl,rfl,rfl⟩:=hI;refine G.FM 1 1 4 6 30 31 32 44 45 46 47 ?_;refine G.cd (fun h47=>?_) fun h47=>?_
      ·have hjl:j<(pW e).length:=by have:=bi h47;omega
       obtain ⟨s,hs0⟩:∃ s,(pW e)[j]?=some s:=⟨(pW e)[j],aq hjl⟩;refine G.rg fun R hR=>?_;refine D.ak hq44.m_ U10 om_ (bg hs0) fl_ (fun p48 hp48=>?_);refine D.aa hp48 ?_;refine D.lc 1 1 4 6 9 30 31 32 44 45 46 hR ?_;refine G.aY [(2,3)] Z (fun R hR=>?_);refine D.ps 2 ?_;refine D.call (rj _ w (jD bas es i) s (by have:=hseen i;omega) (hHR.d i e he0 s (ba hs0))) Z (.inr dc_) U6 (il _) fl_ (fun v52 _ L52 _ hq52=>?_);obtain ⟨rfl,rfl⟩:=hq52;refine D.vv 1 4 6 30 31 32 44 45 46 52 hR ?_;refine G.cd (fun h52=>?_) fun h52=>?_
       ·exact absurd h52 dc_
       ·refine G.rg fun R hR=>?_;refine D.ar _ ?_;refine D.q9 1 1 4 6 30 31 32 44 45 46 hR ?_;refine G.ax (m':=(pW e).length-(j+1)) om_ mup (h_9 1 4 6 30 31 32 44 45 46) ⟨j+1,by omega,Z,Z,Z⟩
      ·refine G.rp 1 fun R hR=>?_;refine D.aa (bkT hb6 32) ?_;refine D.az (s6 _ _ e he _ hrM.m_) (fun v56 _ _ hq56=>?_);obtain ⟨AW,cW,rfl,_⟩:=id hq56;simp only [aH] at hq56 ⊢;refine D.append (j:=0) U11 hq56.m_ (by simp [bN,uo,aA]) (by simp only [aH,maxLen];omega) (by simp only [aH];omega) fl_ (fun v57=>?_);refine D.q5 1 1 4 30 31 32 hR ?_;refine G.rg fun R hR=>?_;refine D.ar _ ?_;refine D.q5 1 1 4 30 31 32 hR ?_;refine G.be (L':=[.arr v57 9 1 (jD bas es (i+1)).length ((jD bas es (i+1)).map bN).flatten]) (by rw [sn he0,LC,LK,eh];simp) ?_;refine G.ax (m':=es.length-(i+1)) om_ mup (h_5 1 4 30 31 32) ⟨i+1,_,by omega,Z,Z,Z⟩
    ·refine G.z1 1 2 ?_;refine G.rf ?_;exact ⟨Z,Z⟩
theorem E1 (C:Mem)(hT:Tabs C)(hv:Value)(pts:List Pt)(tris:List Tri)(bas:Str)(es:List Evt)(hh:HisIn C hv pts tris bas es)(hHR:HisR pts tris bas es)(p:V3)(hp:Q3 2 p):Gives cx.P 25 [hv,vV p] C (.int .i64 0):=by
 have hh0:=hh;obtain ⟨v1,v2,A,c,rfl,_⟩:=hh;refine Fn.it kr_ Tryz.func25 13 fun w0=>?_;refine G.rg fun R hR=>?_;refine D.aD (fun b2=>?_);refine D.aD (fun b3=>?_);refine D.q2 1 2 3 hR ?_;refine G.freeze 1 Z (fun _ _ hb2=>?_);refine G.freeze 0 Z (fun _ _ hb3=>?_);refine G.rg fun R hR=>?_;refine D.aa (bkT hb2 4) ?_;refine D.ag (sU _ hT.m_ _ pts tris bas es hh0.m_ hHR) ?_;refine D.q2 1 3 5 hR ?_;refine G.z3 2 3 5 9 ?_;refine G.cd (fun h9=>?_) fun h9=>?_
 ·exact absurd h9 dc_
 ·refine G.rg fun R hR=>?_;refine D.aa (bkT hb3 3) ?_;refine D.aj (gM _ hT.m_ p (hp.le dc_)) U7 fl_ ?_;refine D.q1 1 4 hR ?_;refine G.rf ?_;exact ⟨Z,Z⟩
end Go.Proofs.YtgfiffppookakaaGreatDoor
namespace Go.Jog
open Go

section
variable {F:Fx} {k:List KI} {fr:Fr} {C:Mem} {L:List Ent}
theorem G.DH {id:Nat}{l:List Oper}(y:Nat)(π ρ:List Nat)(ov:List (Nat × Nat)){r:Option Nat}{n:Nat}(hYW:YW F.cx.P F.W r n)(hp:fr.all (fun x=>x.2.1.isEmpty)=true)(hnd:ft l.toArray=true)
  (hB:π++y::ρ=List.range l.length)
  (hb:((π++y::ρ).all (fun i=>Nat.blt i l.length) && (!π.contains y && !ρ.contains y))=true)
  {f:Operand} {args:Array Operand} {ts:Array TypeId} {d:Nat} (hop:(dP l y).op=.call ⟨.value f,args,ts⟩) (hd:(dP l y).dst=some d)
  (h:∀ R:Rg F.n (l.map (·.dst)),C.le R.b.C0 ->
   (∀ {lp:Nat}{vs:List Value}{Lk Lo:List Ent}{Cy:Mem}{Rl:Bool->List Ent->Prop}{fr1:Fr}{C1:Mem}{L1:List Ent},YC F.cx.P lp vs Cy Lk Rl->Cy.le C1->gOn (l.map (·.dst)) fr1 (dP l y).guard=true->∀ {g:GL},gOf (l.map (·.dst)) fr1 (dP l y).guard=some g->ev fr1 g f=some (.func (.yield lp) #[] #[]) ->
    ji (ev fr1 g) args.toList=some vs->L1.Perm (Lk++Lo)->(∀ v,aO F.n (l.map (·.dst)) ((d,[],v)::fr1) d=true) ->
    (∀ b L2,Rl b L2->∀ R2:Rg F.n (l.map (·.dst)),C.le R2.b.C0->(∀ fr C L,fr.all (fun x=>x.2.1.isEmpty)=true->G F (eA 64 k) .normal fr C L->D F.cx R2 [] fr C L)->D F.cx R2 (db l ov ρ) ((d,[],.bool b)::fr1) C1 (L2++Lo)) ->
    D F.cx R [] fr1 C1 L1) ->
   D F.cx R (db l ov π) fr C L) :
  G F (.code (.region id l.toArray false)::k) .normal fr C L:=fun h0 a w ha hw=>by
 simp only [Kq];simp only [bL,OM,List.all_cons,Mu,List.contains_eq_mem,Lc] at hb;obtain ⟨⟨hbπ,hby,hbρ⟩,hyπ,hyρ⟩:=hb
 let kd:=fun i=>ovr ov i (dx (dP l i))
 let b:Bs:=⟨F.b.w0,C,F.b.L0⟩
 let Post:Act->Mem × List Ent->Prop:=fun a κ=>∀ w,b.cls κ w->Kq F k .normal a w
 let R2:Rg F.n (l.map (·.dst)):=⟨b,l.toArray,kd,Post,fun tmps=>cj l tmps,F.dd⟩
 let Mid:Act->Mem × List Ent->Prop:=fun a κ=>DY r n y F.cx.P l.toArray b.cls kle kd Post (y::ρ) a κ
 let R1:Rg F.n (l.map (·.dst)):=⟨b,l.toArray,kd,Mid,fun tmps=>cj l tmps,F.dd⟩
 have un:∀ κ w,b.cls κ w->F.b.cls κ w:=fun κ w hc=>St.unbase h0 hw.cn hc;have hR2:∀ fr C L,fr.all (fun x=>x.2.1.isEmpty)=true->G F (eA 64 k) .normal fr C L->D F.cx R2 [] fr C L:=fun fr C' L hp hG h0' _ a ha w hw=>G.bQ 64 hG (h0.trans h0') a w ⟨ha.size,ha.defers,fun s g v hg=>by
  have hm:=ep.1 hp _ (Fr.get_mem hg);simp only [MH] at hm;subst hm;exact ⟨fun _=>(ha.ent s [] v hg).1 (fun p hp=>by cases hp),fun hn=>absurd (fun p hp=>by cases hp) hn⟩⟩ (un _ _ hw)
 have hits:∀ (R:Rg F.n (l.map (·.dst)))(σ:List Nat),R.ops=l.toArray->R.kd=kd->σ.all (fun i=>Nat.blt i l.length)=true->∀ x∈db l ov σ,R.kd x.1=x.2.1/\R.ops[x.1]?=some x.2.2:=fun R σ ho hk hσ x hx=>by
  obtain ⟨h1,h2,h3⟩:=fO hx;refine ⟨by rw [hk];exact h2.symm, ?_⟩;have hlt:=ep.1 hσ x.1 h1;rw [NA] at hlt;rw [ho,LB,dR hlt,h3]
 rw [NA] at hby;have hoy:l.toArray[y]?=some (dP l y):=by rw [LB,dR hby]
 have hD:=h R1 (Mem.le.refl _) (fun {lp vs Lk Lo Cy Rl fr1 C1 L1} hY hle hg g hgo hf hargs hL hok hrest h0' _ a1 ha1=>by
  show tZ r n y F.cx.P l.toArray b.cls kle (kd y) y (DY r n y F.cx.P l.toArray b.cls kle kd Post ρ) a1 (C1,L1);unfold tZ;rw [bW rfl];intro w1 hw1;unfold wpOpIn;rw [hoy];simp only;have hwt:Region.wanted (dP l y) (yielded l.toArray a1.tmps)=true:=mj (fun tmps=>cj l tmps) ha1 hg;rw [bW hwt];refine ⟨fun _ _=>trivial, ?_⟩;have hst:=St.perm hw1 hL;have hsep:=hst.sep.front;obtain ⟨fn,tmps,assign,body,hy,hR⟩:=hY w1 (hsep.lessC hle);have hsees:∀ x u,ev fr1 g x=some u->a1.eval x=u:=fun x u hx=>bd ha1 ((fD (fun tmps=>cj l tmps) ha1 hgo).1 hwt) hx;show Oper.uponIn (Fo r) n F.cx.P (dP l y) a1 _ _ (((dP l y).semAt r a1.eval).run F.cx.P w1);rw [Oper.semAt_eq r a1.eval (dP l y) (fun c hc=>by rw [hop] at hc;cases hc),AJ hop (hsees _ _ hf) (dN hsees hargs) hy];rw [Oper.uponIn_round];refine ⟨(fun h=>(by cases h)),(ug hR).mono fun e W' ⟨bb,L2,he,hRl,hs⟩=>?_⟩;subst he;refine ⟨(C1,L2++Lo),St.call hst (St.up hsep hs), ?_⟩;have hD2:=hrest bb L2 hRl R2 (Mem.le.refl _) hR2 h0' (hits R2 ρ rfl rfl hbρ) _ (ha1.put (hok (.bool bb)) ⟨fun _=>rfl,fun hn=>absurd (fun p hp=>by cases hp) hn⟩);rw [cM] at hD2;have:=rG (r:=r) (n:=n) (y:=y) (ρ:=[]) (Post:=Post) (fun _ _ h=>h) ρ _ _ hyρ hD2;rw [LY] at this;rw [hd];exact this) (Mem.le.refl _) (hits R1 π Z Z hbπ) a (ha.enter _ hp)
 rw [cM] at hD;have hDY:=rG (r:=r) (n:=n) (y:=y) (ρ:=y::ρ) (Post:=Post) (fun _ _ h=>h) π _ _ hyπ hD;rw [hB] at hDY;refine hYW (lC (y:=y) (kd:=kd) (Post:=Post) hnd (cls:=b.cls) (le:=kle) kle.refl (St.rebase hw) ?_ (fun a κ w hP hw=>hP w hw));simpa using hDY
end
end Go.Jog
namespace Go.Proofs.YtgfiffppookakaaGreatDoor
open Go Go.Jog
set_option maxRecDepth 100000

theorem Ia (C:Mem)(v:Value)(A:Option Addr)(n c:Nat)(hv:v=.slice A n c):Pur cx.P 64 [v] C fun r C'=>∃ b,r=.func (.func 130) #[] #[.pointer (some ⟨b,0,none⟩)]/\C' b=some (.cells ⟨[v]⟩ 38 (0,0)):=by
 subst hv;refine Fn.it kr_ Tryz.func64 4 fun w0=>?_;refine G.rg fun R hR=>?_;refine D.aD (fun b1=>?_);refine D.q1 1 1 hR ?_;refine G.z1 2 2 ?_;refine G.freeze 0 Z (fun _ _ hb1=>?_);refine G.rf ?_;exact ⟨Z,_,Z,hb1⟩
def bkV (rows:List (List Value)):List (List Value):=(List.range rows.length).map fun k:Nat=>[.int .i64 ((rows.length:Int)-1-(k:Int)),.agg ⟨rows.getD (rows.length-1-k) []⟩]
theorem Dl {rows:List (List Value)}{k:Nat}(h:k<rows.length):(bkV rows)[k]?=some [.int .i64 ((rows.length:Int)-1-(k:Int)),.agg ⟨rows.getD (rows.length-1-k) []⟩]:=by
 unfold bkV;rw [bX,MW h];rfl
theorem rA {rows:List (List Value)}{k:Nat}{v:List Value}(h:(bkV rows)[k]?=some v):k<rows.length/\v=[.int .i64 ((rows.length:Int)-1-(k:Int)),.agg ⟨rows.getD (rows.length-1-k) []⟩]:=by
 have hk:k<rows.length:=by have:=(aJ.1 h).1;simpa [bkV] using this
 rw [Dl hk] at h;exact ⟨hk,(LJ h).symm⟩
theorem zh (C:Mem)(b:Nat)(A:Option Addr)(c:Nat)(rows:List (List Value))(hs:Sl C 32 (.slice A rows.length c) rows)(hb:C b=some (.cells ⟨[.slice A rows.length c]⟩ 38 (0,0)))(hlen:rows.length<=1000) :
  IterS cx.P 130 #[.pointer (some ⟨b,0,none⟩)] C (bkV rows):=by
 refine IterS.intro (lb:=[.pointer (some ⟨b,0,none⟩)]) kr_ Tryz.func130 Z 19 Z Z fun l I X L hY h0 w0=>?_;refine G.rg fun R hR=>?_;refine D.aa (bkT hb 1) ?_;refine D.ac ?_;refine D.ar _ ?_;refine D.q3 1 0 1 3 hR ?_;clear hR R;refine G.loop (fun fr C' L' μ=>∃ (k:Nat),(k<=rows.length/\I k L')/\fr=[(0,[],.func (.yield l) #[] #[]),(1,[],.pointer (some ⟨b,0,none⟩)),(3,[],.int .i64 ((rows.length:Int)-1-(k:Int)))]/\μ=rows.length-k) (h_3 0 1 3) ⟨0,⟨ch _,h0⟩,by rw [show ((rows.length:Int)-1-((0:Nat):Int))=(rows.length:Int)-1 by omega],Z⟩ (fun fr Ck Lk m _ hI=>?_);obtain ⟨k,⟨hk,hIk⟩,rfl,rfl⟩:=hI;refine G.z4 2 0 1 3 8 ?_;refine G.cd (fun h8=>?_) fun h8=>?_
 ·have hkl:k<rows.length:=by have:=bi h8;omega
  have hrow:rows[((rows.length:Int)-1-(k:Int)).toNat]?=some (rows.getD (rows.length-1-k) []):=by
   rw [show ((rows.length:Int)-1-(k:Int)).toNat=rows.length-1-k by omega,aF,aq om_];rfl
  have h32:(rows.getD (rows.length-1-k) []).length=32:=by
   obtain ⟨_,_,_,_,_,hall,_⟩:=id hs;exact hall _ (ba hrow)
  refine G.DH 6 [0,1,2,3,4,5] [7] [(6,3)] (YW.plain _) Z Z Z kr_ Z Z (fun R hB hy=>?_);refine D.ps 2 ?_;refine D.aa (bkT hb 1) ?_;refine D.ac ?_;refine D.ak hs.m_ U10 om_ hrow fl_ (fun p15 hp15=>?_);refine D.j6 hp15 U6 (show (bif Nat.beq (rows.getD (rows.length-1-k) []).length 32 then some (Value.agg ⟨rows.getD (rows.length-1-k) []⟩) else none)=some (Value.agg ⟨rows.getD (rows.length-1-k) []⟩) from by first | (rw [h32];done) | (rw [h32];rfl)) Z ?_;refine hy (hY _ _ _ (Dl hkl) hIk) mup Z Z Z Z (Lo:=[]) (by rw [LY]) fl_ (fun b L2 hb R hB hR=>?_);rw [LY];rcases hb with ⟨rfl,hI1⟩ | ⟨rfl,hX1⟩
  ·refine D.ac ?_;refine D.e4 0 1 3 18 hR ?_;clear hR hB R;refine G.cond Z (fun h18=>absurd h18 dc_) (fun _=>?_);refine G.rp 1 fun R hR=>?_;refine D.ar _ ?_;refine D.q3 1 0 1 3 hR ?_;clear hR R;refine G.ax (m':=rows.length-(k+1)) om_ mup (h_3 0 1 3) ⟨k+1,⟨by omega,hI1⟩,by rw [show ((rows.length:Int)-1-((k+1:Nat):Int))=(rows.length:Int)-1-(k:Int)-1 by omega],Z⟩
  ·refine D.ac ?_;refine D.e4 0 1 3 18 hR ?_;clear hR hB R;refine G.cond Z (fun _=>?_) (fun h18=>absurd h18 dc_);refine G.aB (G.J3 Z ?_);exact .inr ⟨_,(aJ.1 (Dl hkl)).1,hX1⟩
 ·obtain rfl:k=rows.length:=by have:=dj h8;omega
  refine G.lA Z ?_;have e:(bkV rows).length=rows.length:=by simp [bkV]
  rw [<- e] at hIk;exact .inl hIk
theorem ur {np:Nat}{e:Evt}(hE:EvO np e)(pts:List Pt)(tris:List Tri)(p:V3):-2<=dX pts tris e p/\(e.kd=1->dX pts tris e p<=e.surf.length)/\dX pts tris e p<=9:=by
 have h2:=hE.u2;have h3:=hE.r.kl;have hd:-2<=tW pts tris e.base e.surf p/\tW pts tris e.base e.surf p<=e.surf.length:=by
  unfold tW;split
  ·omega
  ·rename_i t _;have:=qo (fun f=>decide (nh pts t f (p.1,p.2.1)<=p.2.2)) e.surf;split <;> omega
 have hk:=BN e.knots (ce e.nrm p);unfold dX;split
 ·exact ⟨hd.1,fun _=>hd.2,by omega⟩
 ·split
  ·split <;> exact ⟨by decide,fun h=>by omega,by decide⟩
  ·split
   ·exact ⟨by omega,fun h=>by omega,by omega⟩
   ·split
    ·split
     ·exact ⟨by decide,fun h=>by omega,by decide⟩
     ·split <;> exact ⟨by decide,fun h=>by omega,by decide⟩
    ·exact ⟨by decide,fun h=>by omega,by decide⟩
def trC (w:Value)(u:Str)(ev:Int)(q:List Value):List Value:=[aA u,w,.int .i64 ev]++q
def zzz:List Value:=[aA [],aA [],aA []]
theorem Dk {es:List Evt}{k:Nat}(h:k<es.length):∃ e,es[es.length-1-k]?=some e/\es.reverse.drop k=e::es.reverse.drop (k+1):=by
 refine ⟨es[es.length-1-k],aq om_, ?_⟩;rw [K2 (by rw [Ng];exact h),List.getElem_reverse]
theorem yD (C:Mem)(hT:Tabs C)(hv:Value)(pts:List Pt)(tris:List Tri)(bas:Str)(es:List Evt)(hh:HisIn C hv pts tris bas es)(hHR:HisR pts tris bas es)(p:V3)(hp:PlR 0 p)(T:List Int × Str × Int × V3)(hTr:oF pts tris bas es.reverse p=T) :
  Pur cx.P 26 [hv,vV p] C fun u D=>∃ A n c,u=.agg ⟨trC (.slice A n c) T.2.1 T.2.2.1 (nB T.2.2.2)⟩/\Sl D 1 (.slice A n c) (T.1.map dB):=by
 obtain ⟨v1,v2,A,c,rfl,hm,rows,hs,hrl,hrow⟩:=hh;have hes:=hHR.l;rw [<- hrl] at hs;refine Fn.introM kr_ Tryz.func26 Z 47 Z Z (fun w0=>?_);refine G.rg fun R hR=>?_;refine D.aD (fun b2=>?_);refine D.aD (fun b3=>?_);refine D.ai (fun b4=>?_);refine D.e3 2 3 4 hR ?_;refine G.freeze 2 Z (fun _ _ hb2=>?_);refine G.rp 1 fun R hR=>?_;refine D.aa (bkT hb2 1) ?_;refine D.ap (trC (.slice none 0 0) bas (-1) zzz) ?_;refine D.ai (fun b5=>?_);refine D.ae (j:=0) ?_;refine D.e4 2 3 4 5 hR ?_;refine G.rp 1 fun R hR=>?_;refine D.aa (bkT hb2 1) ?_;refine D.az (Ia _ _ A es.length c Z) (fun v16 C16 _ hq16=>?_);obtain ⟨bk,rfl,hbk⟩:=hq16;refine D.e5 2 3 4 5 16 hR ?_;refine G.nilArr 3 1 ?_;have hit:=zh C16 bk A c rows hs.m_ (by rw [hrl];exact hbk) om_;refine G.tN (ps:=[17,18]) Z Z kr_ hit (fun v hv=>?_)
  (fun j L'=>∃ (q:V3)(Aw:Option Addr)(nw cw:Nat)(ns:List Int),oF pts tris bas es.reverse p=(ns++(oF pts tris bas (es.reverse.drop j) q).1,(oF pts tris bas (es.reverse.drop j) q).2)/\PlR j q/\ns.length=j /\
   L'=.arr (.slice Aw nw cw) 3 1 ns.length (ns.map dB).flatten::.obj b5 (.cells ⟨trC (.slice Aw nw cw) bas (-1) zzz⟩ 50 (0,0))::.obj b4 (.cells ⟨trC (.slice none 0 0) [] 0 zzz⟩ 50 (0,0))::.obj b3 (.cells ⟨nB q⟩ 44 (0,0))::[])
  (fun cd j L'=>cd=.exit 0/\∃ (A:Option Addr)(n c:Nat),L'=.obj b5 (.cells ⟨trC (.slice A n c) T.2.1 T.2.2.1 zzz⟩ 50 (0,0))::.arr (.slice A n c) 3 1 T.1.length (T.1.map dB).flatten::.obj b4 (.cells ⟨trC (.slice none 0 0) [] 0 zzz⟩ 50 (0,0))::.obj b3 (.cells ⟨nB T.2.2.2⟩ 44 (0,0))::[])
  ⟨p,_,_,_,[],rfl,hp,rfl,rfl⟩ (fun v hv=>?_)
  (fun j L' frA LA=>∃ b7,frA=[(2,[],.pointer (some ⟨b2,0,none⟩)),(3,[],.pointer (some ⟨b3,0,none⟩)),(4,[],.pointer (some ⟨b4,0,none⟩)),(5,[],.pointer (some ⟨b5,0,none⟩)),(6,[],.int .i64 ((rows.length:Int)-1-(j:Int))),(7,[],.pointer (some ⟨b7,0,none⟩))]/\LA=.obj b7 (.cells ⟨rows.getD (rows.length-1-j) []⟩ 94 (0,0))::L')
  ?_ ?_ ?_ ?_
 ·obtain ⟨j,hj⟩:=Ma hv;obtain ⟨_,rfl⟩:=rA hj;rfl
 ·obtain ⟨j,hj⟩:=Ma hv;obtain ⟨_,rfl⟩:=rA hj;rfl
 ·intro l2 j v L' W1 hI hv;obtain ⟨hjl,rfl⟩:=rA hv;obtain ⟨e,he0,_⟩:=Dk (es:=es) (k:=j) om_;obtain ⟨r,hr⟩:∃ r,rows.getD (rows.length-1-j) []=r:=⟨_,rfl⟩;have hr0:rows[es.length-1-j]?=some r:=by rw [<- hr,hrl,aF,aq om_];rfl
  have hrM:=hrow _ r e hr0 he0;obtain ⟨nm,A1,A2,A3,A4,n1,n2,n3,n4,c1,c2,c3,c4,x,q,rfl,_⟩:=hrM.gen;rw [hr];refine G.z6 1 2 3 4 5 6 18 ?_;refine G.rg fun R hR=>?_;refine D.ai (fun b7=>?_);refine D.ae (j:=0) ?_;refine D.e6 2 3 4 5 6 7 hR ?_;exact G.FR [(2,[],_),(3,[],_),(4,[],_),(5,[],_),(6,[],_),(7,[],_)] ⟨Z,Z,Z,Z,Z,Z,trivial⟩ ⟨b7,Z,Z⟩
 ·intro l2 j v L' frA LA W1 hI hv hA;obtain ⟨hjl,rfl⟩:=rA hv;obtain ⟨q,Aw,nw,cw,ns,htr,hpl,hns,rfl⟩:=hI;obtain ⟨b7,rfl,rfl⟩:=hA;obtain ⟨e,he0,hdr⟩:=Dk (es:=es) (k:=j) om_;obtain ⟨r,hr⟩:∃ r,rows.getD (rows.length-1-j) []=r:=⟨_,rfl⟩;have hr0:rows[es.length-1-j]?=some r:=by rw [<- hr,hrl,aF,aq om_];rfl
  have hrM:=hrow _ r e hr0 he0;have hE:=hHR.e e (ba he0);have hq3:Q3 2 q:=hpl.qb om_;obtain ⟨g1,g2,g3⟩:=ur hE pts tris q;obtain ⟨nm,A1,A2,A3,A4,n1,n2,n3,n4,c1,c2,c3,c4,x,qq,rfl,_⟩:=hrM.gen;rw [hr];refine G.freeze 0 Z (fun _ _ hb7=>?_);refine G.rp 1 fun R hR=>?_;refine D.aa (bkT hb2 2) ?_;refine D.aa (bkT hb7 32) ?_;refine D.af (.tail _ (.tail _ (.tail _ (.head _)))) ?_;refine D.ag (yB _ hT.m_ _ pts tris hm.m_ hHR.g e hE _ hrM.m_ q hq3) ?_;refine D.q6 1 3 4 5 6 7 8 hR ?_;refine G.rp 1 fun R hR=>?_;refine D.af (.tail _ (.head _)) ?_;refine D.ac ?_;refine D.ah [dB (dX pts tris e q)] (fun p27 _ _ hs27=>?_);refine D.aQ (j:=0) U11 hs27 Z (by simp only [bz,maxLen];omega) (by show (ns.length+1)*8<=_;omega) fl_ (fun A28 n28 c28=>?_);refine D.ac ?_;refine D.ae (j:=1) ?_;refine D.e6 3 4 5 6 7 8 hR ?_;refine G.rg fun R hR=>?_;refine D.aa (bkT hb7 32) ?_;refine D.ac ?_;refine D.ag (HP _ _ e hE _ hrM.m_ (dX pts tris e q) g1 g2 g3) ?_;refine D.q7 5 3 4 5 6 7 9 10 hR ?_;refine G.z7 1 3 4 5 6 7 9 36 ?_;rw [hdr] at htr;refine G.cd (fun h36=>?_) fun h36=>?_
  ·obtain ⟨u,hu⟩:∃ u,gJ e (dX pts tris e q)=some u:=MK.1 h36;rw [kw hu,hTr] at htr;rw [hu];refine G.rp 3 fun R hR=>?_;refine D.ae (j:=0) ?_;refine D.ac ?_;refine D.ae (j:=0) ?_;refine D.e3 3 4 5 hR ?_;refine G.exit (G.pH (G.pI Z ?_));refine G.vh (e:=.exit 0) (c:=.exit 0) (X:=fun cd L'=>cd=.exit 0/\_) Z ⟨Z,A28,n28,c28, ?_⟩;have hev:((rows.length:Int)-1-(j:Int))=(((es.reverse.drop (j+1)).length:Nat):Int):=by rw [Ni,Ng];omega
   rw [htr,<- hev];simp [LC,LK];rfl
  ·have hu:gJ e (dX pts tris e q)=none:=by
    cases h:gJ e (dX pts tris e q) with
    | none=>rfl
    | some u=>rw [h] at h36;cases h36
   rw [oE hu] at htr;refine G.rg fun R hR=>?_;refine D.aa (bkT hb7 32) ?_;refine D.af (.tail _ (.tail _ (.tail _ (.head _)))) ?_;refine D.ag (Hr _ hT.m_ _ e hE _ hrM.m_ q hq3) ?_;refine D.ae (j:=3) ?_;refine D.bA [] trivial (hR _ _ _ Z ?_);refine G.perm (L':=.arr (.slice A28 n28 c28) 3 1 (ns++[dX pts tris e q]).length ((ns++[dX pts tris e q]).map dB).flatten::.obj b5 (.cells ⟨trC (.slice A28 n28 c28) bas (-1) zzz⟩ 50 (0,0))::.obj b4 (.cells ⟨trC (.slice none 0 0) [] 0 zzz⟩ 50 (0,0))::.obj b3 (.cells ⟨nB (js e q)⟩ 44 (0,0))::[]) (by rw [LC,LK,eh];(exact pkL [2,1,1,0] Z)) ?_;exact G.DO ⟨js e q,_,_,_,ns++[dX pts tris e q],by rw [htr,LN];rfl,hpl.mov hE.r,by rw [eh,hns];rfl,Z⟩
 ·intro D0 L' hI;obtain ⟨q,Aw,nw,cw,ns,htr,hpl,hns,rfl⟩:=hI;rw [show es.reverse.drop (bkV rows).length=[] from Mh (by rw [Ng];simp [bkV];omega),hTr] at htr;have e1:T.1=ns:=by rw [htr];exact LY _
  rw [<- e1];have e2:T.2.1=bas/\T.2.2.1=-1/\T.2.2.2=q:=by rw [htr];exact ⟨rfl,rfl,rfl⟩
  refine G.freezeArr 1 (T.1.map dB) U2 (by intro r hr;obtain ⟨y,_,rfl⟩:=j5.1 hr;rfl) (by rw [aH]) (fun Cf hf hsd=>?_);refine G.rg fun R hR=>?_;refine D.af (.tail _ (.tail _ (.tail _ (.head _)))) ?_;refine D.ac ?_;refine D.ae (j:=1) ?_;refine D.e2 4 5 hR ?_;refine G.rg fun R hR=>?_;refine D.af (.head _) ?_;refine D.ae (j:=2) ?_;refine D.e1 4 hR ?_;refine G.aB ?_;refine G.perm (L':=[D0].map nJ++[.obj b4 (.cells ⟨trC (.slice Aw nw cw) bas (-1) (nB q)⟩ 50 (0,0)),.obj b5 (.cells ⟨trC (.slice Aw nw cw) bas (-1) (nB q)⟩ 50 (0,0)),.obj b3 (.cells ⟨nB q⟩ 44 (0,0))]) (pkL [2,0,0,0] Z) ?_;exact G.DJ (Ds:=[D0]) (.inl Z) (Ga (.head _) Z Z Z Z) ⟨Z,_,_,_,by rw [e2.1,e2.2.1,e2.2.2];rfl,hsd.mono mup⟩
 ·intro D0 j cd L' hj hX;obtain ⟨rfl,A,n,c,rfl⟩:=hX;refine G.bQ 64 ?_;refine G.freezeArr 2 (T.1.map dB) U2 (by intro r hr;obtain ⟨y,_,rfl⟩:=j5.1 hr;rfl) (by rw [aH]) (fun Cf hf hsd=>?_);refine G.rg fun R hR=>?_;refine D.af (.tail _ (.tail _ (.tail _ (.head _)))) ?_;refine D.ac ?_;refine D.ae (j:=1) ?_;refine D.e2 4 5 hR ?_;refine G.rg fun R hR=>?_;refine D.af (.head _) ?_;refine D.ae (j:=2) ?_;refine D.e1 4 hR ?_;refine G.aB ?_;refine G.perm (L':=[D0].map nJ++[.obj b4 (.cells ⟨trC (.slice A n c) T.2.1 T.2.2.1 (nB T.2.2.2)⟩ 50 (0,0)),.obj b5 (.cells ⟨trC (.slice A n c) T.2.1 T.2.2.1 (nB T.2.2.2)⟩ 50 (0,0)),.obj b3 (.cells ⟨nB T.2.2.2⟩ 44 (0,0))]) (pkL [2,0,0,0] Z) ?_;exact G.DJ (Ds:=[D0]) (.inl Z) (Ga (.head _) Z Z Z Z) ⟨Z,_,_,_,Z,hsd.mono mup⟩

theorem yE (C:Mem)(hT:Tabs C)(hv:Value)(pts:List Pt)(tris:List Tri)(bas:Str)(es:List Evt)(hh:HisIn C hv pts tris bas es)(hHR:HisR pts tris bas es)(p:V3)(hp:PlR 0 p)(T:List Int × Str × Int × V3)(hTr:oF pts tris bas es.reverse p=T) :
  Pur cx.P 9 [hv,vV p] C fun u D=>∃ A n c,u=.tuple #[.agg ⟨trC (.slice A n c) T.2.1 T.2.2.1 (nB T.2.2.2)⟩,.int .i64 0]/\Sl D 1 (.slice A n c) (T.1.map dB):=by
 have hh0:=hh;obtain ⟨v1,v2,A0,c0,rfl,_⟩:=id hh;obtain ⟨k,hk,hpk⟩:=F3 pts tris bas es.reverse p 0 (fun e he=>(hHR.e e (List.mem_reverse.1 he)).r) (by rw [Ng];have:=hHR.l;omega) hp;rw [hTr] at hpk;have hq:Q3 2 T.2.2.2:=hpk.qb hk;refine Fn.it kr_ Tryz.func9 24 fun w0=>?_;refine G.rg fun R hR=>?_;refine D.aD (fun b2=>?_);refine D.aD (fun b3=>?_);refine D.ai (fun b4=>?_);refine D.q3 1 2 3 4 hR ?_;refine G.freeze 2 Z (fun _ _ hb2=>?_);refine G.freeze 1 Z (fun _ _ hb3=>?_);refine G.rg fun R hR=>?_;refine D.aa (bkT hb2 4) ?_;refine D.aa (bkT hb3 3) ?_;refine D.aj (E1 _ hT.m_ _ pts tris bas es hh0.m_ hHR p (hp.qb dc_)) U7 fl_ ?_;refine D.q4 1 2 3 4 6 hR ?_;refine G.z5 2 2 3 4 6 12 ?_;refine G.cd (fun h12=>?_) fun h12=>?_
 ·exact absurd h12 dc_
 ·refine G.rg fun R hR=>?_;refine D.aa (bkT hb2 4) ?_;refine D.aa (bkT hb3 3) ?_;refine D.az (yD _ hT.m_ _ pts tris bas es hh0.m_ hHR p hp T hTr) (fun v17 _ _ hq17=>?_);obtain ⟨A,n,c,rfl,hsl⟩:=hq17;refine D.ai (fun b7=>?_);refine D.ae (j:=0) ?_;refine D.e2 4 7 hR ?_;refine G.freeze 0 Z (fun _ _ hb7=>?_);refine G.rp 1 fun R hR=>?_;refine D.aa (bkT hb7 3) ?_;refine D.aj (gM _ hT.m_ T.2.2.2 (hq.le dc_)) U7 fl_ ?_;refine D.q3 1 4 7 21 hR ?_;refine G.cd (fun h21=>?_) fun h21=>?_
  ·exact absurd h21 dc_
  ·refine G.rg fun R hR=>?_;refine D.aa (bkT hb7 6) ?_;refine D.ae (j:=0) ?_;refine D.q2 1 4 5 hR ?_;refine G.aB (G.ik (.head _) U5 ?_);exact ⟨Z,_,_,_,Z,hsl.mono mup⟩

structure RV where
 A:Option Addr
 n:Nat
 c:Nat
 s:Str
def RV.enc (r:RV):List Value:=[.slice r.A r.n r.c,aA r.s]
def RowsIn (C:Mem)(v:Value)(rows:List (List Str × Str)):Prop:=∃ rs:List RV,Sl C 2 v (rs.map RV.enc)/\rs.length=rows.length/\∀ (i:Nat)(r:RV)(row:List Str × Str),rs[i]?=some r->rows[i]?=some row->Sl C 1 (.slice r.A r.n r.c) (row.1.map ph)/\r.s=row.2
theorem RowsIn.mono {C D:Mem}{v:Value}{rows:List (List Str × Str)}(h:RowsIn C v rows)(hl:C.le D):RowsIn D v rows:=by
 obtain ⟨rs,h1,h2,h3⟩:=h;exact ⟨rs,h1.mono hl,h2,fun i r row hr hw=>⟨(h3 i r row hr hw).1.mono hl,(h3 i r row hr hw).2⟩⟩
theorem RowsIn.m_ {C D:Mem}{v:Value}{rows:List (List Str × Str)}(h:RowsIn C v rows)(hl:C.le D:=by exact mup):RowsIn D v rows:=RowsIn.mono h hl
structure SV where
 A:Option Addr
 n:Nat
 c:Nat
def SV.enc (x:SV):List Value:=[.slice x.A x.n x.c]
def FrLL (C:Mem)(xs:List SV)(fs:List (List Rat)):Prop:=xs.length=fs.length/\∀ (i:Nat)(x:SV)(f:List Rat),xs[i]?=some x->fs[i]?=some f->FrL C (.slice x.A x.n x.c) f
theorem FrLL.mono {C D:Mem}{xs:List SV}{fs:List (List Rat)}(h:FrLL C xs fs)(hl:C.le D):FrLL D xs fs:=⟨h.1,fun i x f h1 h2=>(h.2 i x f h1 h2).mono hl⟩
theorem FrLL.m_ {C D:Mem}{xs:List SV}{fs:List (List Rat)}(h:FrLL C xs fs)(hl:C.le D:=by exact mup):FrLL D xs fs:=FrLL.mono h hl
theorem FrLL.nil (C:Mem):FrLL C [] []:=⟨rfl,fun i x q h=>by simp at h⟩
theorem FrLL.snoc {C:Mem}{xs:List SV}{fs:List (List Rat)}{x:SV}{f:List Rat}(h:FrLL C xs fs)(hx:FrL C (.slice x.A x.n x.c) f):FrLL C (xs++[x]) (fs++[f]):=by
 have hl:xs.length=fs.length:=h.1;refine ⟨by simp [hl],fun i y p h1 h2=>?_⟩;rcases Ld i xs.length with hi | hi
 ·rw [LS hi] at h1;rw [LS om_] at h2;exact h.2 i y p h1 h2
 ·rw [LD hi] at h1;rw [LD om_,<- hl] at h2;cases hk:i-xs.length with
  | zero =>
   rw [hk] at h1 h2;simp at h1 h2;subst h1 h2;exact hx
  | succ k=>rw [hk] at h1;simp at h1
def yg (n:Int)(row:List Str × Str):Option (List Rat × Rat) :=
 match bj row.1,cL row.2 with
 | some f,some b=>if (f.length:Int)=n then some (f,b) else none
 | _,_=>none
def ja (n:Int):List (List Str × Str)->Option (List (List Rat × Rat))
 | []=>some []
 | s::l=>match yg n s,ja n l with
  | some q,some qs=>some (q::qs)
  | _,_=>none
theorem oL (n:Int):∀ (l:List (List Str × Str))(s:List Str × Str),ja n (l++[s])=match ja n l,yg n s with
  | some qs,some q=>some (qs++[q])
  | _,_=>none
 | [],s=>by
  simp only [MS,ja];cases yg n s <;> rfl
 | a::l,s=>by
  simp only [LM,ja,oL n l s];cases yg n a <;> cases ja n l <;> cases yg n s <;> rfl
theorem oM {n:Int}:∀ {l:List (List Str × Str)}{s:List Str × Str},s∈l->yg n s=none->ja n l=none
 | a::l,s,hs,h=>by
  simp only [ja];rcases cI.1 hs with rfl | h2
  ·rw [h]
  ·rw [oM h2 h];cases yg n a <;> rfl
def jJ (n:Int)(rows:List (List Str × Str))(d:List Str):Option (List (List Rat × Rat) × List Rat) :=
 match ja n rows,bj d with
 | some ps,some ms=>if ms.length=rows.length/\ms.any (fun q=>decide (q.num<0))=false then some (ps,ms) else none
 | _,_=>none
structure YV where
 A:Option Addr
 n:Nat
 c:Nat
 A2:Option Addr
 n2:Nat
 c2:Nat
 A3:Option Addr
 n3:Nat
 c3:Nat
def YV.enc (y:YV):List Value:=[.slice y.A y.n y.c,.slice y.A2 y.n2 y.c2,.slice y.A3 y.n3 y.c3]
def SysC (C:Mem)(y:YV)(ps:List (List Rat × Rat))(ms:List Rat):Prop:=(∃ xs:List SV,Sl C 1 (.slice y.A y.n y.c) (xs.map SV.enc)/\FrLL C xs (ps.map (·.1)))/\FrL C (.slice y.A2 y.n2 y.c2) (ps.map (·.2))/\FrL C (.slice y.A3 y.n3 y.c3) ms
abbrev sA (A:Option Addr)(n c:Nat):Value:=.slice A n c
abbrev sB (A:Option Addr)(n c:Nat):Value:=.slice A n c
def IB (d:List Str):Bool:=match bj d with
 | some ms=>ms.any fun q=>decide (q.num<0)
 | none=>false
theorem RowsF.any {C:Mem}:∀ {xs:List FV}{qs:List Rat},RowsF C xs qs->(xs.any fun x=>x.b)=qs.any fun q=>decide (q.num<0)
 | [],[],_=>rfl
 | [],_::_,h=>by have:=h.1;simp at this
 | _::_,[],h=>by have:=h.1;simp at this
 | x::xs,q::qs,h=>by
  have h1:x.b=decide (q.num<0):=by
   obtain ⟨u,w,e,_⟩:=h.2 0 x q rfl rfl;simp [FV.enc,yN] at e;exact e.1
  have h2:RowsF C xs qs:=⟨by have:=h.1;simpa using this,fun i y p hy hp=>h.2 (i+1) y p (by simpa using hy) (by simpa using hp)⟩;simp only [List.any_cons,h1,RowsF.any h2]
theorem H1 {C:Mem}{v:Value}{ms:List Rat}(h:FrL C v ms):Gives cx.P 83 [v,.func (.func 84) #[] #[]] C (.bool (ms.any fun q=>decide (q.num<0))):=by
 obtain ⟨xs,h1,h2⟩:=h;rw [<- h2.any];exact tw C v xs _ [] (fun x=>x.b) h1 (fun x _ C' _=>EM C' x)
theorem Kz {a b:Bool}(h:(!a || b)=false):a=true:=by cases a <;> simp_all
def yZ (xs:List SV)(ys:List FV)(Ad:Option Addr)(nd cd i b5 b6:Nat)(A10:Option Addr)(n10 c10:Nat)(x:FV)(A49:Option Addr)(n49 c49:Nat)(A54:Option Addr)(n54 c54:Nat):List Ent:=[.arr (sA A49 n49 c49) 123 1 (i+1) ((xs.map SV.enc).flatten++[[.slice A10 n10 c10]].flatten),.arr (sB A54 n54 c54) 111 3 (i+1) ((ys.map FV.enc).flatten++[x.enc].flatten),.obj b6 (.cells ⟨(YV.mk A49 n49 c49 A54 n54 c54 none 0 0).enc⟩ 128 (0,0)),.obj b5 (.cells ⟨[.slice Ad nd cd]⟩ 63 (0,0))]
def KL (xs:List SV)(ys:List FV)(Ad:Option Addr)(nd cd i b5 b6:Nat)(A10:Option Addr)(n10 c10:Nat)(x:FV)(A49:Option Addr)(n49 c49:Nat)(A54:Option Addr)(n54 c54:Nat):List Ent:=[.arr (sA A49 n49 c49) 123 1 (i+1) ((xs++[SV.mk A10 n10 c10]).map SV.enc).flatten,.arr (sB A54 n54 c54) 111 3 (i+1) ((ys++[x]).map FV.enc).flatten,.obj b6 (.cells ⟨(YV.mk A49 n49 c49 A54 n54 c54 none 0 0).enc⟩ 128 (0,0)),.obj b5 (.cells ⟨[.slice Ad nd cd]⟩ 63 (0,0))]
theorem fc {F:Fx}{k:List KI}{fr:Fr}{e:Exit}{C:Mem}{xs:List SV}{ys:List FV}{Ad:Option Addr}{nd cd i b5 b6:Nat}{A10:Option Addr}{n10 c10:Nat}{x:FV}{A49:Option Addr}{n49 c49:Nat}{A54:Option Addr}{n54 c54:Nat}(h:G F k e fr C (KL xs ys Ad nd cd i b5 b6 A10 n10 c10 x A49 n49 c49 A54 n54 c54)):G F k e fr C (yZ xs ys Ad nd cd i b5 b6 A10 n10 c10 x A49 n49 c49 A54 n54 c54):=by
 refine G.be (L':=KL xs ys Ad nd cd i b5 b6 A10 n10 c10 x A49 n49 c49 A54 n54 c54) (by simp [yZ,KL,SV.enc]) h
theorem Fp (C:Mem)(v:Value)(n:Int)(Ad:Option Addr)(nd cd:Nat)(rows:List (List Str × Str))(d:List Str)(hv:RowsIn C v rows)(hd:Sl C 1 (.slice Ad nd cd) (d.map ph))(hl:rows.length<=10000)(hf:∀ r∈rows,r.1.length<=1000000/\(∀ s∈r.1,s.length<1000000)/\r.2.length<1000000)(hdl:d.length<=1000000)(hds:∀ s∈d,s.length<1000000) :
  Pur cx.P 33 [v,.int .i64 n,.agg ⟨[.slice Ad nd cd]⟩] C fun u D=>∃ y:YV,u=.tuple #[.agg ⟨y.enc⟩,.bool (jJ n rows d).isSome]/\∀ ps ms,jJ n rows d=some (ps,ms)->SysC D y ps ms:=by
 obtain ⟨rs,hsv,hrl,hrs⟩:=hv;obtain ⟨A0,c0,rfl,hlx,hlx2,_⟩:=id hsv;have hmx:maxLen<=9223372036854775807:=by simp [maxLen]
 simp only [aH] at hsv hlx hlx2 ⊢;refine Fn.it kr_ Tryz.func33 82 fun w0=>?_;refine G.rg fun R hR=>?_;refine D.aD (fun b5=>?_);refine D.ai (fun b6=>?_);refine D.q4 1 0 1 5 6 hR ?_;clear hR R;refine G.z7 3 0 1 5 6 14 15 16 ?_;refine G.nilArr 111 3 ?_;refine G.nilArr 123 1 ?_;refine G.perm (L':=[.arr (sA none 0 0) 123 1 0 [],.arr (sB none 0 0) 111 3 0 [],.obj b6 (.cells ⟨(YV.mk none 0 0 none 0 0 none 0 0).enc⟩ 128 (0,0)),.obj b5 (.cells ⟨[.slice Ad nd cd]⟩ 63 (0,0))]) (pkL [0,0,0,0] Z) ?_;refine G.loop (fun fr C' L' μ=>∃ (i:Nat)(ps:List (List Rat × Rat))(xs:List SV)(ys:List FV)(A1:Option Addr)(n1 c1:Nat)(A2:Option Addr)(n2 c2:Nat),(i<=rows.length/\ja n (rows.take i)=some ps/\FrLL C' xs (ps.map (·.1))/\RowsF C' ys (ps.map (·.2))/\xs.length=i/\ys.length=i)/\fr=[(0,[],.slice A0 rs.length c0),(1,[],.int .i64 n),(5,[],.pointer (some ⟨b5,0,none⟩)),(6,[],.pointer (some ⟨b6,0,none⟩)),(14,[],.slice A0 rs.length c0),(15,[],.int .i64 rs.length),(16,[],.int .i64 i)]/\L'=[.arr (sA A1 n1 c1) 123 1 i (xs.map SV.enc).flatten,.arr (sB A2 n2 c2) 111 3 i (ys.map FV.enc).flatten,.obj b6 (.cells ⟨(YV.mk A1 n1 c1 A2 n2 c2 none 0 0).enc⟩ 128 (0,0)),.obj b5 (.cells ⟨[.slice Ad nd cd]⟩ 63 (0,0))]/\μ=rows.length-i) (h_7 0 1 5 6 14 15 16) ⟨0,[],[],[],_,_,_,_,_,_,⟨ch _,Z,FrLL.nil _,RowsF.nil _,Z,Z⟩,Z,Z,Z⟩ (fun fr C0' L0' m _ hI=>?_);obtain ⟨i,ps,xs,ys,A1,n1,c1,A2,n2,c2,⟨hi,hps,hxs,hys,hxl,hyl⟩,rfl,rfl,rfl⟩:=hI;refine G.z8 1 0 1 5 6 14 15 16 17 ?_;refine G.cd (fun h17=>?_) fun h17=>?_
 ·have hil:i<rs.length:=by simpa using h17
  obtain ⟨r,hr0⟩:∃ r,rs[i]?=some r:=⟨rs[i],aq hil⟩;obtain ⟨row,hw0⟩:∃ row,rows[i]?=some row:=⟨rows[i]'om_,aq _⟩;obtain ⟨hrf,hrb⟩:=hrs i r row hr0 hw0;have hrow:(rs.map RV.enc)[i]?=some r.enc:=by rw [bX,hr0];rfl
  have hfr:=hf row (ba hw0);have htk:rows.take (i+1)=rows.take i++[row]:=by rw [xO,hw0];rfl
  refine G.rg fun R hR=>?_;refine D.ak hsv.m_ U10 om_ hrow fl_ (fun p18 hp18=>?_);refine D.aa hp18 ?_;refine D.ai (fun b9=>?_);refine D.ae (j:=0) ?_;refine D.e8 0 1 5 6 9 14 15 16 hR ?_;clear hR R;refine G.rp 1 fun R hR=>?_;refine D.af (.head _) ?_;refine D.az (fK _ _ row.1 hrf.m_ hfr.1 hfr.2.1) (fun v23 _ _ hq23=>?_);obtain ⟨A10,n10,c10,rfl,hf10⟩:=hq23;refine D.lc 5 0 1 5 6 9 10 11 14 15 16 hR ?_;clear hR R;refine G.rp 1 fun R hR=>?_;refine D.af (.head _) ?_;refine D.au (mH _ r.s (by rw [hrb];exact hfr.2.2)) U7 fl_ (fun v29 _ _ hq29=>?_);obtain ⟨vf,rfl,hvf⟩:=hq29;obtain ⟨x,rfl⟩:=hvf.fv;rw [hrb] at hvf;refine D.ps 3 ?_;refine D.ai (fun b12=>?_);refine D.ae (j:=0) ?_;refine D.lF 1 0 1 5 6 10 11 12 13 14 15 16 hR ?_;clear hR R;refine G.rp 5 fun R hR=>?_;refine D.aI ?_;refine D.ps 5 ?_;refine D.aI ?_;refine D.vv 0 1 5 6 10 12 14 15 16 43 hR ?_;clear hR R;refine G.cd (fun h43=>?_) fun h43=>?_
  ·have hno:yg n row=none:=by
    unfold yg;cases h1:bj row.1 with
    | none=>rfl
    | some f =>
     cases h2:cL row.2 with
     | none=>rfl
     | some b =>
      have hf:=hf10 f h1;obtain ⟨A,c,e⟩:=hf.form;injection e with e1 e2 e3;simp only;rw [a7];intro hn;rw [hrb,h1,h2,e2,hn] at h43;simp at h43
   have hno2:jJ n rows d=none:=by
    unfold jJ;rw [oM (ba hw0) hno]
   refine G.rg fun R hR=>?_;refine D.ap (YV.mk none 0 0 none 0 0 none 0 0).enc ?_;refine D.ae (j:=4) ?_;refine D.q2 1 6 7 hR ?_;clear hR R;refine G.aB (G.ik (.head _) U5 ?_);exact ⟨Z,_,by rw [hno2];rfl,fun ps ms h=>by rw [hno2] at h;cases h⟩
  ·obtain ⟨f,b,h1,h2,h3⟩:∃ f b,bj row.1=some f/\cL row.2=some b/\(f.length:Int)=n:=by
    cases h1:bj row.1 with
    | none=>rw [h1] at h43;simp at h43
    | some f =>
     cases h2:cL row.2 with
     | none=>rw [hrb,h1,h2] at h43;simp at h43
     | some b =>
      refine ⟨f,b,Z,Z, ?_⟩;obtain ⟨A,c,e⟩:=(hf10 f h1).form;injection e with e1 e2 e3;rw [hrb,h1,h2,e2] at h43;simpa using h43
   have hrm:yg n row=some (f,b):=by unfold yg;rw [h1,h2];simp only;rw [bW h3]
   rw [h2] at hvf;refine G.freeze 0 Z (fun _ _ hb12=>?_);refine G.freeze 0 Z (fun _ _ hb9=>?_);refine G.cut (fun fr C' L' μ=>∃ (A7:Option Addr)(n7 c7:Nat)(A8:Option Addr)(n8 c8:Nat),(True)/\fr=[(0,[],.slice A0 rs.length c0),(1,[],.int .i64 n),(5,[],.pointer (some ⟨b5,0,none⟩)),(6,[],.pointer (some ⟨b6,0,none⟩)),(14,[],.slice A0 rs.length c0),(15,[],.int .i64 rs.length),(16,[],.int .i64 i)]/\L'=[.arr (sA A7 n7 c7) 123 1 (i+1) ((xs++[SV.mk A10 n10 c10]).map SV.enc).flatten,.arr (sB A8 n8 c8) 111 3 (i+1) ((ys++[x]).map FV.enc).flatten,.obj b6 (.cells ⟨(YV.mk A7 n7 c7 A8 n8 c8 none 0 0).enc⟩ 128 (0,0)),.obj b5 (.cells ⟨[.slice Ad nd cd]⟩ 63 (0,0))]) ?_ (fun fr Cr8 Lr8 μ hler8 hI=>?_)
   ·refine G.gt (.cut [0,1,2,5,7] (.alt 3 (.cut [] (.alt 4 (.fin [6,10,8,9,11,12,13]) (.alt 6 (.cut [] (.alt 4 (.fin [10,8,9,11,12,13]) (.alt 8 (.fin [4,10,9,11,12,13]) .stop))) (.alt 8 (.cut [] (.alt 4 (.fin [6,10,9,11,12,13]) (.alt 6 (.fin [4,10,9,11,12,13]) .stop))) .stop)))) (.alt 6 (.cut [] (.alt 3 (.cut [] (.alt 4 (.fin [10,8,9,11,12,13]) (.alt 8 (.fin [4,10,9,11,12,13]) .stop))) (.alt 8 (.fin [3,4,10,9,11,12,13]) .stop))) (.alt 8 (.cut [] (.alt 3 (.cut [] (.alt 4 (.fin [6,10,9,11,12,13]) (.alt 6 (.fin [4,10,9,11,12,13]) .stop))) (.alt 6 (.fin [3,4,10,9,11,12,13]) .stop))) .stop)))) [(7,0)] Z Z kr_ (fun R hB hR hH=>?_);refine D.ac ?_;refine D.af (.tail _ (.tail _ (.head _))) ?_;refine D.ps 2 ?_;refine D.am (fun _=>((PtrTo.block (Mem.get hb12 mup) _).mono hB)) ?_;refine D.eu hH Z ⟨?_, ?_, ?_,trivial⟩
    ·refine D.ah [[.slice A10 n10 c10]] (fun p48 C48 _ hs48=>?_);refine D.eu hH Z ⟨?_, ?_, ?_,trivial⟩
     ·refine D.aQ (j:=0) U11 hs48.m_ Z (by simp only [bz,maxLen];omega) (by show (i+1)*24<=_;omega) fl_ (fun A49 n49 c49=>?_);refine D.af (.tail _ (.tail _ (.head _))) ?_;refine D.ac ?_;refine D.ah [x.enc] (fun p53 C53 _ hs53=>?_);refine D.aQ (j:=1) U11 hs53.m_ Z (by simp only [bz,maxLen];omega) (by show (i+1)*56<=_;omega) fl_ (fun A54 n54 c54=>?_);refine D.ae (j:=2) ?_;refine D.ac ?_;refine D.ae (j:=0) ?_;refine D.e7 0 1 5 6 14 15 16 hR ?_;clear hR hB hH R;refine G.perm (L':=yZ xs ys Ad nd cd i b5 b6 A10 n10 c10 x A49 n49 c49 A54 n54 c54) (pkL [2,1,0,0] Z) ?_;refine fc ?_;exact G.aK 0 mup (h_7 0 1 5 6 14 15 16) ⟨A49,n49,c49,A54,n54,c54,trivial,Z,Z⟩
     ·refine D.af (.tail _ (.tail _ (.head _))) ?_;refine D.eu hH Z ⟨?_, ?_,trivial⟩
      ·refine D.aQ (j:=0) U11 hs48.m_ Z (by simp only [bz,maxLen];omega) (by show (i+1)*24<=_;omega) fl_ (fun A49 n49 c49=>?_);refine D.ac ?_;refine D.ah [x.enc] (fun p53 C53 _ hs53=>?_);refine D.aQ (j:=1) U11 hs53.m_ Z (by simp only [bz,maxLen];omega) (by show (i+1)*56<=_;omega) fl_ (fun A54 n54 c54=>?_);refine D.ae (j:=2) ?_;refine D.ac ?_;refine D.ae (j:=0) ?_;refine D.e7 0 1 5 6 14 15 16 hR ?_;clear hR hB hH R;refine G.perm (L':=yZ xs ys Ad nd cd i b5 b6 A10 n10 c10 x A49 n49 c49 A54 n54 c54) (pkL [2,1,0,0] Z) ?_;refine fc ?_;exact G.aK 0 mup (h_7 0 1 5 6 14 15 16) ⟨A49,n49,c49,A54,n54,c54,trivial,Z,Z⟩
      ·refine D.ah [x.enc] (fun p53 C53 _ hs53=>?_);refine D.aQ (j:=0) U11 hs48.m_ Z (by simp only [bz,maxLen];omega) (by show (i+1)*24<=_;omega) fl_ (fun A49 n49 c49=>?_);refine D.ac ?_;refine D.aQ (j:=1) U11 hs53.m_ Z (by simp only [bz,maxLen];omega) (by show (i+1)*56<=_;omega) fl_ (fun A54 n54 c54=>?_);refine D.ae (j:=2) ?_;refine D.ac ?_;refine D.ae (j:=0) ?_;refine D.e7 0 1 5 6 14 15 16 hR ?_;clear hR hB hH R;refine G.perm (L':=yZ xs ys Ad nd cd i b5 b6 A10 n10 c10 x A49 n49 c49 A54 n54 c54) (pkL [2,1,0,0] Z) ?_;refine fc ?_;exact G.aK 0 mup (h_7 0 1 5 6 14 15 16) ⟨A49,n49,c49,A54,n54,c54,trivial,Z,Z⟩
     ·refine D.ah [x.enc] (fun p53 C53 _ hs53=>?_);refine D.eu hH Z ⟨?_, ?_,trivial⟩
      ·refine D.aQ (j:=0) U11 hs48.m_ Z (by simp only [bz,maxLen];omega) (by show (i+1)*24<=_;omega) fl_ (fun A49 n49 c49=>?_);refine D.af (.tail _ (.tail _ (.head _))) ?_;refine D.ac ?_;refine D.aQ (j:=1) U11 hs53.m_ Z (by simp only [bz,maxLen];omega) (by show (i+1)*56<=_;omega) fl_ (fun A54 n54 c54=>?_);refine D.ae (j:=2) ?_;refine D.ac ?_;refine D.ae (j:=0) ?_;refine D.e7 0 1 5 6 14 15 16 hR ?_;clear hR hB hH R;refine G.perm (L':=yZ xs ys Ad nd cd i b5 b6 A10 n10 c10 x A49 n49 c49 A54 n54 c54) (pkL [2,1,0,0] Z) ?_;refine fc ?_;exact G.aK 0 mup (h_7 0 1 5 6 14 15 16) ⟨A49,n49,c49,A54,n54,c54,trivial,Z,Z⟩
      ·refine D.af (.tail _ (.tail _ (.head _))) ?_;refine D.aQ (j:=0) U11 hs48.m_ Z (by simp only [bz,maxLen];omega) (by show (i+1)*24<=_;omega) fl_ (fun A49 n49 c49=>?_);refine D.ac ?_;refine D.aQ (j:=1) U11 hs53.m_ Z (by simp only [bz,maxLen];omega) (by show (i+1)*56<=_;omega) fl_ (fun A54 n54 c54=>?_);refine D.ae (j:=2) ?_;refine D.ac ?_;refine D.ae (j:=0) ?_;refine D.e7 0 1 5 6 14 15 16 hR ?_;clear hR hB hH R;refine G.perm (L':=yZ xs ys Ad nd cd i b5 b6 A10 n10 c10 x A49 n49 c49 A54 n54 c54) (pkL [2,1,0,0] Z) ?_;refine fc ?_;exact G.aK 0 mup (h_7 0 1 5 6 14 15 16) ⟨A49,n49,c49,A54,n54,c54,trivial,Z,Z⟩
    ·refine D.af (.tail _ (.tail _ (.head _))) ?_;refine D.eu hH Z ⟨?_, ?_,trivial⟩
     ·refine D.ah [[.slice A10 n10 c10]] (fun p48 C48 _ hs48=>?_);refine D.eu hH Z ⟨?_, ?_,trivial⟩
      ·refine D.aQ (j:=0) U11 hs48.m_ Z (by simp only [bz,maxLen];omega) (by show (i+1)*24<=_;omega) fl_ (fun A49 n49 c49=>?_);refine D.ac ?_;refine D.ah [x.enc] (fun p53 C53 _ hs53=>?_);refine D.aQ (j:=1) U11 hs53.m_ Z (by simp only [bz,maxLen];omega) (by show (i+1)*56<=_;omega) fl_ (fun A54 n54 c54=>?_);refine D.ae (j:=2) ?_;refine D.ac ?_;refine D.ae (j:=0) ?_;refine D.e7 0 1 5 6 14 15 16 hR ?_;clear hR hB hH R;refine G.perm (L':=yZ xs ys Ad nd cd i b5 b6 A10 n10 c10 x A49 n49 c49 A54 n54 c54) (pkL [2,1,0,0] Z) ?_;refine fc ?_;exact G.aK 0 mup (h_7 0 1 5 6 14 15 16) ⟨A49,n49,c49,A54,n54,c54,trivial,Z,Z⟩
      ·refine D.ah [x.enc] (fun p53 C53 _ hs53=>?_);refine D.aQ (j:=0) U11 hs48.m_ Z (by simp only [bz,maxLen];omega) (by show (i+1)*24<=_;omega) fl_ (fun A49 n49 c49=>?_);refine D.ac ?_;refine D.aQ (j:=1) U11 hs53.m_ Z (by simp only [bz,maxLen];omega) (by show (i+1)*56<=_;omega) fl_ (fun A54 n54 c54=>?_);refine D.ae (j:=2) ?_;refine D.ac ?_;refine D.ae (j:=0) ?_;refine D.e7 0 1 5 6 14 15 16 hR ?_;clear hR hB hH R;refine G.perm (L':=yZ xs ys Ad nd cd i b5 b6 A10 n10 c10 x A49 n49 c49 A54 n54 c54) (pkL [2,1,0,0] Z) ?_;refine fc ?_;exact G.aK 0 mup (h_7 0 1 5 6 14 15 16) ⟨A49,n49,c49,A54,n54,c54,trivial,Z,Z⟩
     ·refine D.ah [x.enc] (fun p53 C53 _ hs53=>?_);refine D.ah [[.slice A10 n10 c10]] (fun p48 C48 _ hs48=>?_);refine D.aQ (j:=0) U11 hs48.m_ Z (by simp only [bz,maxLen];omega) (by show (i+1)*24<=_;omega) fl_ (fun A49 n49 c49=>?_);refine D.ac ?_;refine D.aQ (j:=1) U11 hs53.m_ Z (by simp only [bz,maxLen];omega) (by show (i+1)*56<=_;omega) fl_ (fun A54 n54 c54=>?_);refine D.ae (j:=2) ?_;refine D.ac ?_;refine D.ae (j:=0) ?_;refine D.e7 0 1 5 6 14 15 16 hR ?_;clear hR hB hH R;refine G.perm (L':=yZ xs ys Ad nd cd i b5 b6 A10 n10 c10 x A49 n49 c49 A54 n54 c54) (pkL [2,1,0,0] Z) ?_;refine fc ?_;exact G.aK 0 mup (h_7 0 1 5 6 14 15 16) ⟨A49,n49,c49,A54,n54,c54,trivial,Z,Z⟩
    ·refine D.ah [x.enc] (fun p53 C53 _ hs53=>?_);refine D.eu hH Z ⟨?_, ?_,trivial⟩
     ·refine D.ah [[.slice A10 n10 c10]] (fun p48 C48 _ hs48=>?_);refine D.eu hH Z ⟨?_, ?_,trivial⟩
      ·refine D.aQ (j:=0) U11 hs48.m_ Z (by simp only [bz,maxLen];omega) (by show (i+1)*24<=_;omega) fl_ (fun A49 n49 c49=>?_);refine D.af (.tail _ (.tail _ (.head _))) ?_;refine D.ac ?_;refine D.aQ (j:=1) U11 hs53.m_ Z (by simp only [bz,maxLen];omega) (by show (i+1)*56<=_;omega) fl_ (fun A54 n54 c54=>?_);refine D.ae (j:=2) ?_;refine D.ac ?_;refine D.ae (j:=0) ?_;refine D.e7 0 1 5 6 14 15 16 hR ?_;clear hR hB hH R;refine G.perm (L':=yZ xs ys Ad nd cd i b5 b6 A10 n10 c10 x A49 n49 c49 A54 n54 c54) (pkL [2,1,0,0] Z) ?_;refine fc ?_;exact G.aK 0 mup (h_7 0 1 5 6 14 15 16) ⟨A49,n49,c49,A54,n54,c54,trivial,Z,Z⟩
      ·refine D.af (.tail _ (.tail _ (.head _))) ?_;refine D.aQ (j:=0) U11 hs48.m_ Z (by simp only [bz,maxLen];omega) (by show (i+1)*24<=_;omega) fl_ (fun A49 n49 c49=>?_);refine D.ac ?_;refine D.aQ (j:=1) U11 hs53.m_ Z (by simp only [bz,maxLen];omega) (by show (i+1)*56<=_;omega) fl_ (fun A54 n54 c54=>?_);refine D.ae (j:=2) ?_;refine D.ac ?_;refine D.ae (j:=0) ?_;refine D.e7 0 1 5 6 14 15 16 hR ?_;clear hR hB hH R;refine G.perm (L':=yZ xs ys Ad nd cd i b5 b6 A10 n10 c10 x A49 n49 c49 A54 n54 c54) (pkL [2,1,0,0] Z) ?_;refine fc ?_;exact G.aK 0 mup (h_7 0 1 5 6 14 15 16) ⟨A49,n49,c49,A54,n54,c54,trivial,Z,Z⟩
     ·refine D.af (.tail _ (.tail _ (.head _))) ?_;refine D.ah [[.slice A10 n10 c10]] (fun p48 C48 _ hs48=>?_);refine D.aQ (j:=0) U11 hs48.m_ Z (by simp only [bz,maxLen];omega) (by show (i+1)*24<=_;omega) fl_ (fun A49 n49 c49=>?_);refine D.ac ?_;refine D.aQ (j:=1) U11 hs53.m_ Z (by simp only [bz,maxLen];omega) (by show (i+1)*56<=_;omega) fl_ (fun A54 n54 c54=>?_);refine D.ae (j:=2) ?_;refine D.ac ?_;refine D.ae (j:=0) ?_;refine D.e7 0 1 5 6 14 15 16 hR ?_;clear hR hB hH R;refine G.perm (L':=yZ xs ys Ad nd cd i b5 b6 A10 n10 c10 x A49 n49 c49 A54 n54 c54) (pkL [2,1,0,0] Z) ?_;refine fc ?_;exact G.aK 0 mup (h_7 0 1 5 6 14 15 16) ⟨A49,n49,c49,A54,n54,c54,trivial,Z,Z⟩
   obtain ⟨A7,n7,c7,A8,n8,c8,_,rfl,rfl⟩:=hI;refine G.rg fun R hR=>?_;refine D.ar _ ?_;refine D.q7 1 0 1 5 6 14 15 16 hR ?_;clear hR R;refine G.ax (m':=rows.length-(i+1)) om_ mup (h_7 0 1 5 6 14 15 16) ⟨i+1,ps++[(f,b)],xs++[SV.mk A10 n10 c10],ys++[x],_,_,_,_,_,_,⟨by omega,by rw [htk,oL,hps,hrm],by rw [LC];exact hxs.m_.snoc ((hf10 f h1).mono mup),by rw [LC];exact hys.m_.snoc (FrC.m_ hvf),by simp [hxl],by simp [hyl]⟩,Z,Z,Z⟩
 ·have hil:i=rows.length:=by
   have:¬ i<rs.length:=by simpa using h17
   omega
  rw [hil,cK] at hps;refine G.rp 1 fun R hR=>?_;refine D.af (.tail _ (.tail _ (.tail _ (.head _)))) ?_;refine D.az (fK _ _ d hd.m_ hdl hds) (fun v61 C61 _ hq61=>?_);obtain ⟨A3,n3,c3,rfl,hm⟩:=hq61;refine D.ps 4 ?_;refine D.ae (j:=2) ?_;refine D.q3 1 0 6 7 hR ?_;clear hR R;have hcf:∀ D,C61.le D->(bj d).isSome=true->Gives cx.P 83 [.slice A3 n3 c3,.func (.func 84) #[] #[]] D (.bool (IB d)):=fun D hle hs=>by
   obtain ⟨ms,hms⟩:=MK.1 hs;have:=H1 ((hm ms hms).mono hle);unfold IB;rw [hms];exact this
  refine G.rp 4 fun R hR=>?_;refine D.af (.head _) ?_;refine D.ps 4 ?_;refine D.aI ?_;refine D.ps 2 ?_;refine D.af (.head _) ?_;refine D.ay (fun hg=>(by exact hcf _ mup (Kz hg.1))) U9 ?_;refine D.aI ?_;refine D.e2 6 79 hR ?_;clear hR R;refine G.cd (fun h79=>?_) fun h79=>?_
  ·have hno2:jJ n rows d=none:=by
    unfold jJ;rw [hps];cases hms:bj d with
    | none=>rfl
    | some ms =>
     simp only;rw [a7];rintro ⟨e1,e2⟩;obtain ⟨A,c,e⟩:=(hm ms hms).form;injection e with e3 e4 e5;have e6:IB d=false:=by unfold IB;rw [hms];exact e2
     rw [e6,hms,e4,e1,hrl] at h79;simp at h79
   refine G.rg fun R hR=>?_;refine D.ap (YV.mk none 0 0 none 0 0 none 0 0).enc ?_;refine D.ae (j:=0) ?_;refine D.q2 1 6 7 hR ?_;clear hR R;refine G.aB (G.ik (.head _) U5 ?_);exact ⟨Z,_,by rw [hno2];rfl,fun ps ms h=>by rw [hno2] at h;cases h⟩
  ·obtain ⟨ms,hms⟩:∃ ms,bj d=some ms:=by
    cases hms:bj d with
    | none=>rw [hms] at h79;simp at h79
    | some ms=>exact ⟨ms,rfl⟩
   have hyes:jJ n rows d=some (ps,ms):=by
    unfold jJ;rw [hps,hms];simp only;obtain ⟨A,c,e⟩:=(hm ms hms).form;injection e with e3 e4 e5;have e6:IB d=(ms.any fun q=>decide (q.num<0)):=by unfold IB;rw [hms]
    rw [hms,e6,e4] at h79;rw [LU,LU] at h79;rw [bW];refine ⟨?_,h79.2⟩;have h8:=h79.1.2;simp at h8;omega
   refine G.freezeArr 1 (xs.map SV.enc) U2 (by intro r hr;obtain ⟨y,_,rfl⟩:=j5.1 hr;rfl) (by rw [aH,hxl]) (fun Cf hf hsd=>?_);refine G.freezeArr 1 (ys.map FV.enc) U2 (by intro r hr;obtain ⟨y,_,rfl⟩:=j5.1 hr;rfl) (by rw [aH,hyl]) (fun Cg hg hse=>?_);refine G.rg fun R hR=>?_;refine D.af (.head _) ?_;refine D.ae (j:=0) ?_;refine D.q2 1 6 7 hR ?_;clear hR R;refine G.aB (G.ik (.head _) U5 ?_);refine ⟨Z,⟨A1,n1,c1,A2,n2,c2,A3,n3,c3⟩,by rw [hyes];rfl,fun ps' ms' h=>?_⟩;rw [hyes] at h;cases h
   exact ⟨⟨xs,hsd.mono mup,hxs.mono mup⟩,⟨ys,hse.mono mup,hys.mono mup⟩,(hm ms hms).mono mup⟩

def nK (ps:List (List Rat × Rat))(v:Nat):List Rat:=ps.map fun p=>gQ p.1 v
def r6 (ps:List (List Rat × Rat))(ms:List Rat)(n:Nat):List Rat:=(List.range n).map fun v=>iB ms (nK ps v)
theorem Ae {ps:List (List Rat × Rat)}{ms:List Rat}{n v:Nat}(h:v<n):gQ (r6 ps ms n) v=iB ms (nK ps v):=by
 unfold gQ r6;rw [aF,bX,MW h];rfl
theorem Ce {l:List Rat}{i:Nat}(h:i<l.length):gQ l i∈l:=ba (iU h)
def zeroFV:FV:=⟨false,none,0,0,none,0,0⟩
theorem IL (n:Nat):nY [Value.bool false,.slice none 0 0,.slice none 0 0] n=((List.replicate n zeroFV).map FV.enc).flatten:=by
 rw [dM,Ob];rfl
def J1 (k:Nat)(ps:List (List Rat × Rat))(ms:List Rat):Prop:=(∀ p∈ps,(∀ q∈p.1,SmQ k q)/\SmQ k p.2)/\∀ q∈ms,SmQ k q
theorem G0 (C:Mem)(hT:Tabs C)(y:YV)(ps:List (List Rat × Rat))(ms:List Rat)(n:Nat)(hy:SysC C y ps ms)(hlen:ms.length=ps.length)(hf:∀ p∈ps,p.1.length=n)(hs:J1 200 ps ms)(hl:ps.length<=1000)(hn:n<=1000000) :
  Pur cx.P 36 [.agg ⟨y.enc⟩,.int .i64 n] C fun u D=>∃ (A:Option Addr)(c:Nat)(x:FV),u=.tuple #[.slice A n c,.agg ⟨x.enc⟩]/\FrL D (.slice A n c) (r6 ps ms n)/\FrC D (.agg ⟨x.enc⟩) (iB ms (ps.map (·.2))):=by
 obtain ⟨⟨vs,hsv,hvs⟩,hb,hm⟩:=hy;have hvl:vs.length=ps.length:=by have:=hvs.1;simpa using this
 obtain ⟨Av,cv,hve,_⟩:=id hsv;have hyn:y.n=vs.length:=by injection hve with e1 e2 e3;simpa using e2
 refine Fn.it kr_ Tryz.func36 46 fun w0=>?_;refine G.rg fun R hR=>?_;refine D.aD (fun b2=>?_);refine D.ac ?_;refine D.ai (fun b5=>?_);refine D.e3 1 2 5 hR ?_;refine G.rp 1 fun R hR=>?_;refine D.bK U9 (aP _) (by show 56*n<=281474976710656;omega) (by simp only [maxLen];omega) fl_ (fun b12=>?_);refine D.q4 1 1 2 5 6 hR ?_;refine G.z5 2 2 5 6 13 14 ?_;refine G.be (L':=[.arr (qW b12 n n) 111 3 n ((List.replicate n zeroFV).map FV.enc).flatten,.obj b5 (.cells ⟨zeroFV.enc⟩ 111 (0,0)),.obj b2 (.cells ⟨y.enc⟩ 128 (0,0))]) (by rw [<- IL];rfl) ?_;refine G.loop (fun fr C' L' μ=>∃ (v:Nat)(o:List FV),(v<=n/\o.length=n/\∀ k x,k<v->o[k]?=some x->FrC C' (.agg ⟨x.enc⟩) (iB ms (nK ps k)))/\fr=[(2,[],.pointer (some ⟨b2,0,none⟩)),(5,[],.pointer (some ⟨b5,0,none⟩)),(6,[],qW b12 n n),(13,[],.int .i64 n),(14,[],.int .i64 v)]/\L'=[.arr (qW b12 n n) 111 3 n (o.map FV.enc).flatten,.obj b5 (.cells ⟨zeroFV.enc⟩ 111 (0,0)),.obj b2 (.cells ⟨y.enc⟩ 128 (0,0))]/\μ=n-v) (h_5 2 5 6 13 14) ⟨0,List.replicate n zeroFV,⟨ch _,LW,fun k x hk=>by omega⟩,Z,Z,Z⟩ (fun fr C0' L0' m _ hI=>?_);obtain ⟨v,o,⟨hv,hol,ho⟩,rfl,rfl,rfl⟩:=hI;refine G.z6 1 2 5 6 13 14 15 ?_;refine G.cd (fun h15=>?_) fun h15=>?_
 ·have hvn:v<n:=by simpa using h15
  refine G.z6 2 2 5 6 7 13 14 ?_;refine G.z7 1 2 5 6 7 8 13 14 ?_;refine G.rp 1 fun R hR=>?_;refine D.af (.tail _ (.tail _ (.head _))) ?_;refine D.lc 2 2 5 6 7 8 13 14 18 19 20 hR ?_;refine G.nilArr 111 3 ?_;refine G.loop (fun fr C' L' μ=>∃ (i:Nat)(xs:List FV)(w:Value),(i<=ps.length/\RowsF C' xs (nK (ps.take i) v)/\xs.length=i)/\fr=[(2,[],.pointer (some ⟨b2,0,none⟩)),(5,[],.pointer (some ⟨b5,0,none⟩)),(6,[],qW b12 n n),(7,[],.int .i64 v),(8,[],w),(13,[],.int .i64 n),(14,[],.int .i64 v),(18,[],.slice y.A y.n y.c),(19,[],.int .i64 y.n),(20,[],.int .i64 i)]/\L'=[.arr w 111 3 i (xs.map FV.enc).flatten,.arr (qW b12 n n) 111 3 n (o.map FV.enc).flatten,.obj b5 (.cells ⟨zeroFV.enc⟩ 111 (0,0)),.obj b2 (.cells ⟨y.enc⟩ 128 (0,0))]/\μ=ps.length-i) (h_10 2 5 6 7 8 13 14 18 19 20) ⟨0,[],_,⟨ch _,RowsF.nil _,Z⟩,Z,Z,Z⟩ (fun fr C1' L1' m _ hI=>?_);obtain ⟨i,xs,w,⟨hi,hxs,hxl⟩,rfl,rfl,rfl⟩:=hI;refine G.tM 1 2 5 6 7 8 13 14 18 19 20 21 ?_;refine G.cd (fun h21=>?_) fun h21=>?_
  ·have hil:i<ps.length:=by
    have:(i:Int)<y.n:=by simpa using h21
    omega
   obtain ⟨p,hp⟩:∃ p,ps[i]?=some p:=⟨ps[i],aq hil⟩;obtain ⟨sv,hsv0⟩:∃ sv,vs[i]?=some sv:=⟨vs[i]'om_,aq _⟩;have hrow:(vs.map SV.enc)[i]?=some sv.enc:=by rw [bX,hsv0];rfl
   obtain ⟨zs,hzs,hzr⟩:=hvs.2 i sv p.1 hsv0 (by rw [bX,hp];rfl);have hpl:=hf p (ba hp);obtain ⟨z,hz0,hzrow,hz⟩:=hzr.get (iU (l:=p.1) (i:=v) om_);refine G.rg fun R hR=>?_;refine D.ak hsv.m_ U10 om_ hrow fl_ (fun p22 hp22=>?_);refine D.aa hp22 ?_;refine D.lF 1 2 5 6 7 8 10 13 14 18 19 20 hR ?_;refine G.rp 3 fun R hR=>?_;refine D.ak hzs.m_ U10 om_ hzrow fl_ (fun p27 hp27=>?_);refine D.aa hp27 ?_;refine D.ah [z.enc] (fun p29 _ _ hs29=>?_);refine D.append (j:=0) U11 hs29 Z (by simp only [bz,maxLen];omega) (by show (i+1)*56<=_;omega) fl_ (fun v30=>?_);refine D.lc 1 2 5 6 7 8 13 14 18 19 20 hR ?_;refine G.rg fun R hR=>?_;refine D.ar _ ?_;refine D.lc 1 2 5 6 7 8 13 14 18 19 20 hR ?_;refine G.be (L':=[.arr v30 111 3 (i+1) ((xs++[z]).map FV.enc).flatten,.arr (qW b12 n n) 111 3 n (o.map FV.enc).flatten,.obj b5 (.cells ⟨zeroFV.enc⟩ 111 (0,0)),.obj b2 (.cells ⟨y.enc⟩ 128 (0,0))]) (by simp) ?_;refine G.ax (m':=ps.length-(i+1)) om_ mup (h_10 2 5 6 7 8 13 14 18 19 20) ⟨i+1,xs++[z],v30,⟨by omega,by
    have e:nK (ps.take (i+1)) v=nK (ps.take i) v++[gQ p.1 v]:=by unfold nK;rw [xO,hp];simp
    rw [e];exact hxs.m_.snoc hz.m_,by simp [hxl]⟩,Z,Z,Z⟩
  ·have hil:i=ps.length:=by
    have:¬ (i:Int)<y.n:=by simpa using h21
    omega
   rw [hil,cK] at hxs;have hcl:(nK ps v).length=ps.length:=by unfold nK;rw [aH]
   have hcs:∀ q∈nK ps v,SmQ 200 q:=fun q hq=>by
    unfold nK at hq;obtain ⟨p,hp,rfl⟩:=j5.1 hq;exact (hs.1 p hp).1 _ (Ce (by rw [hf p hp];exact hvn))
   refine G.freezeArr 0 (xs.map FV.enc) U2 (by intro r hr;obtain ⟨y,_,rfl⟩:=j5.1 hr;rfl) (by rw [aH,hxl]) (fun Cf hff hsd=>?_);refine G.rp 3 fun R hR=>?_;refine D.af (.tail _ (.tail _ (.head _))) ?_;refine D.ac ?_;refine D.au (mu _ hT.m_ _ _ ms (nK ps v) 200 200 hm.m_ ⟨xs,hsd,hxs.mono mup⟩ om_ hs.2 hcs om_) U7 fl_ (fun v37 _ _ hq37=>?_);obtain ⟨x2,rfl⟩:=hq37.fv;refine D.bu (v*3) U10 (fun _=>⟨by omega,by omega,Z⟩) U2 ?_;refine D.bE (j:=0) U11 (by show v*3+3<=_;rw [cX Gp,hol];omega) ?_;refine D.e5 2 5 6 13 14 hR ?_;refine G.rg fun R hR=>?_;refine D.ar _ ?_;refine D.q5 1 2 5 6 13 14 hR ?_;refine G.be (L':=[.arr (qW b12 n n) 111 3 n ((o.set v x2).map FV.enc).flatten,.obj b5 (.cells ⟨zeroFV.enc⟩ 111 (0,0)),.obj b2 (.cells ⟨y.enc⟩ 128 (0,0))]) (by rw [<- bV Gp _ (by omega:v<o.length)];rfl) ?_;refine G.ax (m':=n-(v+1)) om_ mup (h_5 2 5 6 13 14) ⟨v+1,o.set v x2,⟨by omega,by simp [hol],fun k x hk hx=>by
    by_cases hkv:v=k
    ·subst hkv;rw [Nn om_] at hx;cases hx
     exact hq37.mono mup
    ·rw [ND hkv] at hx;exact (ho k x om_ hx).mono mup⟩,Z,Z,Z⟩
 ·have hvn:v=n:=by
   have:¬ v<n:=by simpa using h15
   omega
  refine G.rp 2 fun R hR=>?_;refine D.af (.tail _ (.tail _ (.head _))) ?_;refine D.ac ?_;refine D.af (.tail _ (.tail _ (.head _))) ?_;refine D.au (mu _ hT.m_ _ _ ms (ps.map (·.2)) 200 200 hm.m_ hb.m_ (by simp [hlen]) hs.2 (fun q hq=>by obtain ⟨p,hp,rfl⟩:=j5.1 hq;exact (hs.1 p hp).2) om_) U7 fl_ (fun v45 _ _ hq45=>?_);obtain ⟨x2,rfl⟩:=hq45.fv;refine D.ac ?_;refine D.ae (j:=1) ?_;refine D.e2 4 5 hR ?_;refine G.freezeArr 1 (o.map FV.enc) U2 (by intro r hr;obtain ⟨y,_,rfl⟩:=j5.1 hr;rfl) (by rw [aH,hol]) (fun Cf hff hsd=>?_);refine G.aB (G.Ik (.head _) Z Z Z Z Z ?_);refine ⟨Z,_,_,x2,Z,⟨o,hsd,by rw [hol];simp [r6],fun i x q hi hq=>?_⟩,hq45.mono mup⟩;have hin:i<n:=by rw [<- hol];exact (aJ.1 hi).1
  unfold r6 at hq;rw [bX,MW hin] at hq;cases hq
  exact (ho i x om_ hi).mono mup

def EI (rows:List (List Str × Str))(obj pt d:List Str):Bool :=
 match bj obj,bj pt,jJ (obj.length:Int) rows d with
 | some c,some x,some (ps,ms)=>decide (x.length=c.length) && ps.all (fun p=>decide (sgn (iB p.1 x-p.2)<=0)) && ((List.range c.length).all fun v=>sgn (iB ms (nK ps v)+gQ c v) == 0) && sgn (iB ms (ps.map (·.2))+iB c x) == 0
 | _,_,_=>false
theorem vU {n:Int}:∀ {l:List (List Str × Str)}{ps:List (List Rat × Rat)},ja n l=some ps->ps.length=l.length/\∀ p∈ps,(p.1.length:Int)=n/\(∀ q∈p.1,SmQ 200 q)/\SmQ 200 p.2
 | [],ps,h=>by simp only [ja,zl] at h;subst h;exact ⟨rfl,by simp⟩
 | a::l,ps,h=>by
  simp only [ja] at h;cases ha:yg n a with
  | none=>rw [ha] at h;cases h
  | some q =>
   cases hl:ja n l with
   | none=>rw [ha,hl] at h;cases h
   | some qs =>
    rw [ha,hl] at h;simp only [zl] at h;subst h;obtain ⟨h1,h2⟩:=vU hl;refine ⟨by simp [h1],fun p hp=>?_⟩;rcases cI.1 hp with rfl | hp
    ·unfold yg at ha;cases hr:bj a.1 with
     | none=>rw [hr] at ha;cases ha
     | some f =>
      cases hb:cL a.2 with
      | none=>rw [hr,hb] at ha;cases ha
      | some b =>
       rw [hr,hb] at ha;simp only at ha;split at ha
       ·cases ha
        rename_i hn;exact ⟨hn,gZ hr,qg hb⟩
       ·cases ha
    ·exact h2 p hp
theorem EL {n:Int}{rows:List (List Str × Str)}{d:List Str}{ps:List (List Rat × Rat)}{ms:List Rat}(h:jJ n rows d=some (ps,ms)):ps.length=rows.length/\ms.length=rows.length/\J1 200 ps ms/\∀ p∈ps,(p.1.length:Int)=n:=by
 unfold jJ at h;cases hr:ja n rows with
 | none=>rw [hr] at h;cases h
 | some qs =>
  cases hd:bj d with
  | none=>rw [hr,hd] at h;cases h
  | some ns =>
   rw [hr,hd] at h;simp only at h;split at h
   ·cases h
    rename_i hc;obtain ⟨h1,h2⟩:=vU hr;exact ⟨h1,hc.1,⟨fun p hp=>(h2 p hp).2,gZ hd⟩,fun p hp=>(h2 p hp).1⟩
   ·cases h
theorem oU (C:Mem)(hT:Tabs C)(v vo vp:Value)(Ad:Option Addr)(nd cd:Nat)(rows:List (List Str × Str))(obj pt d:List Str)(hv:RowsIn C v rows)(ho:Sl C 1 vo (obj.map ph))(hp:Sl C 1 vp (pt.map ph))(hd:Sl C 1 (.slice Ad nd cd) (d.map ph))(hl:rows.length<=1000)(hf:∀ r∈rows,r.1.length<=1000000/\(∀ s∈r.1,s.length<1000000)/\r.2.length<1000000)(hol:obj.length<=1000)(hos:∀ s∈obj,s.length<1000000)(hpl:pt.length<=1000000)(hps:∀ s∈pt,s.length<1000000)(hdl:d.length<=1000000)(hds:∀ s∈d,s.length<1000000) :
  Gives cx.P 14 [v,vo,vp,.agg ⟨[.slice Ad nd cd]⟩] C (.bool (EI rows obj pt d)):=by
 obtain ⟨Ao,co,rfl,hox,hox2,_⟩:=id ho;have hmx:maxLen<=9223372036854775807:=by simp [maxLen]
 simp only [aH] at ho hox hox2 ⊢;refine Fn.it kr_ Tryz.func14 105 fun w0=>?_;refine G.rg fun R hR=>?_;refine D.aD (fun b7=>?_);refine D.q4 1 0 1 2 7 hR ?_;clear hR R;refine G.rp 1 fun R hR=>?_;refine D.au (fK _ _ obj ho.m_ om_ hos) U7 fl_ (fun v22 _ _ hq22=>?_);obtain ⟨Ac,nc,cc,rfl,hc⟩:=hq22;refine D.q6 5 0 1 2 7 9 10 hR ?_;clear hR R;refine G.rp 1 fun R hR=>?_;refine D.az (fK _ _ pt hp.m_ hpl hps) (fun v27 _ _ hq27=>?_);obtain ⟨Ax,nx,cx2,rfl,hx⟩:=hq27;refine D.q7 5 0 1 7 9 10 11 12 hR ?_;clear hR R;refine G.rp 3 fun R hR=>?_;refine D.af (.head _) ?_;refine D.au (Fp _ _ (obj.length:Int) Ad nd cd rows d hv.m_ hd.m_ om_ hf hdl hds) U7 fl_ (fun v35 _ _ hq35=>?_);obtain ⟨y,rfl,hy⟩:=hq35;refine D.ps 3 ?_;refine D.ai (fun b13=>?_);refine D.ae (j:=0) ?_;refine D.q6 1 9 10 11 12 13 14 hR ?_;clear hR R;refine G.rp 5 fun R hR=>?_;refine D.aI ?_;refine D.ps 3 ?_;refine D.aI ?_;refine D.ps 6 ?_;refine D.aI ?_;refine D.e4 9 11 13 54 hR ?_;clear hR R;refine G.cd (fun h54=>?_) fun h54=>?_
 ·have hno:EI rows obj pt d=false:=by
   unfold EI;cases h1:bj obj with
   | none=>rfl
   | some cs =>
    cases h2:bj pt with
    | none=>rfl
    | some zs =>
     cases h3:jJ (obj.length:Int) rows d with
     | none=>rfl
     | some pm =>
      obtain ⟨ps,ms⟩:=pm;obtain ⟨_,_,e⟩:=(hc cs h1).form;injection e with e1 e2 e3;obtain ⟨_,_,e'⟩:=(hx zs h2).form;injection e' with e1' e2' e3';rw [h1,h2,h3,e2,e2'] at h54;have h4:¬ zs.length=cs.length:=by simpa [Int.ofNat_inj] using h54
      simp [h4]
  refine G.z1 1 8 ?_;refine G.rf ?_;exact ⟨by rw [hno],Z⟩
 ·obtain ⟨cs,zs,ps,ms,h1,h2,h3,h4⟩:∃ cs zs ps ms,bj obj=some cs/\bj pt=some zs/\jJ (obj.length:Int) rows d=some (ps,ms)/\(nx:Int)=nc:=by
   cases h1:bj obj with
   | none=>rw [h1] at h54;simp at h54
   | some cs =>
    cases h2:bj pt with
    | none=>rw [h1,h2] at h54;simp at h54
    | some zs =>
     cases h3:jJ (obj.length:Int) rows d with
     | none=>rw [h1,h2,h3] at h54;simp at h54
     | some pm =>
      obtain ⟨ps,ms⟩:=pm;refine ⟨cs,zs,ps,ms,Z,Z,Z, ?_⟩;rw [h1,h2,h3] at h54;simpa using h54
  have hcL:=hc cs h1;have hxL:=hx zs h2;obtain ⟨⟨vs,hsv,hvs⟩,hb,hm⟩:=hy ps ms h3;have hsys:=hy ps ms h3;obtain ⟨_,_,e⟩:=hcL.form;injection e with e1 e2 e3;obtain ⟨_,_,e'⟩:=hxL.form;injection e' with e1' e2' e3';subst e2 e2';have hcl:=oO h1;obtain ⟨hpsl,hmsl,hsm,hpn⟩:=EL h3;have hvl:vs.length=ps.length:=by have:=hvs.1;simpa using this
  obtain ⟨Av,cv,hve,_⟩:=id hsv;have hyn:y.n=vs.length:=by injection hve with e1 e2 e3;simpa using e2
  have hzsm:=gZ h2;have hcsm:=gZ h1;have hzc:zs.length=cs.length:=by omega
  obtain ⟨bs,hbs,hbr⟩:=hb;have hopt:EI rows obj pt d=(decide (zs.length=cs.length) && ps.all (fun p=>decide (sgn (iB p.1 zs-p.2)<=0)) && ((List.range cs.length).all fun v=>sgn (iB ms (nK ps v)+gQ cs v) == 0) && sgn (iB ms (ps.map (·.2))+iB cs zs) == 0):=by
   unfold EI;rw [h1,h2,h3]
  refine G.rp 1 fun R hR=>?_;refine D.af (.head _) ?_;refine D.q6 2 9 11 13 56 57 58 hR ?_;clear hR R;refine G.loop (fun fr C' L' μ=>∃ (i:Nat),(i<=ps.length/\∀ p∈ps.take i,sgn (iB p.1 zs-p.2)<=0)/\fr=[(9,[],.slice Ac cs.length cc),(11,[],.slice Ax zs.length cx2),(13,[],.pointer (some ⟨b13,0,none⟩)),(56,[],.slice y.A y.n y.c),(57,[],.int .i64 y.n),(58,[],.int .i64 i)]/\L'=[.obj b13 (.cells ⟨y.enc⟩ 128 (0,0)),.obj b7 (.cells ⟨[.slice Ad nd cd]⟩ 63 (0,0))]/\μ=ps.length-i) (h_6 9 11 13 56 57 58) ⟨0,⟨ch _,by simp⟩,Z,Z,Z⟩ (fun fr C0' L0' m _ hI=>?_);obtain ⟨i,⟨hi,hall⟩,rfl,rfl,rfl⟩:=hI;refine G.z7 1 9 11 13 56 57 58 59 ?_;refine G.cd (fun h59=>?_) fun h59=>?_
  ·have hil:i<ps.length:=by
    have:(i:Int)<y.n:=by simpa using h59
    omega
   obtain ⟨p,hp0⟩:∃ p,ps[i]?=some p:=⟨ps[i],aq hil⟩;have hpm:=ba hp0;obtain ⟨sv,hsv0⟩:∃ sv,vs[i]?=some sv:=⟨vs[i]'om_,aq _⟩;have hrow:(vs.map SV.enc)[i]?=some sv.enc:=by rw [bX,hsv0];rfl
   have hfL:=hvs.2 i sv p.1 hsv0 (by rw [bX,hp0];rfl);obtain ⟨bx,hb0,hbrow,hbF⟩:=hbr.get (i:=i) (q:=p.2) (by rw [bX,hp0];rfl);have hpl:p.1.length=obj.length:=by have:=hpn p hpm;omega
   have hds1:SmQ 401001 (iB p.1 zs):=(kS (hsm.1 p hpm).1 hzsm om_ _ (aP _)).le om_;refine G.rp 1 fun R hR=>?_;refine D.ak hsv.m_ U10 om_ hrow fl_ (fun p61 hp61=>?_);refine D.aa hp61 ?_;refine D.q8 2 9 11 13 15 16 56 57 58 hR ?_;clear hR R;refine G.aG [0,1,3,4,5,6,7,2,8,9] [] Z kr_ (fun R hB hR=>?_);refine D.ps 3 ?_;refine D.af (.head _) ?_;refine D.ac ?_;refine D.ak hbs.m_ U10 om_ hbrow fl_ (fun p69 hp69=>?_);refine D.aa hp69 ?_;refine D.au (mu _ hT.m_ _ _ p.1 zs 200 200 hfL.m_ hxL.m_ om_ (hsm.1 p hpm).1 hzsm om_) U7 fl_ (fun v65 _ _ hq65=>?_);refine D.au (kP hq65.m_ hbF.m_ hds1 (hsm.1 p hpm).2 om_) U7 fl_ (fun v71 _ _ hq71=>?_);obtain rfl:=hq71;refine D.ac ?_;refine D.e7 9 11 13 56 57 58 72 hR ?_;clear hR hB R;refine G.cd (fun h72=>?_) fun h72=>?_
   ·have hno:EI rows obj pt d=false:=by
     have h5:0<sgn (iB p.1 zs-p.2):=by simpa using h72
     have h6:(ps.all fun p=>decide (sgn (iB p.1 zs-p.2)<=0))=false:=by
      rw [M9];refine ⟨p,hpm, ?_⟩;simp;omega
     rw [hopt,h6];simp
    refine G.z1 1 8 ?_;refine G.rf ?_;exact ⟨by rw [hno],Z⟩
   ·have h5:sgn (iB p.1 zs-p.2)<=0:=by
     have:¬ 0<sgn (iB p.1 zs-p.2):=by simpa using h72
     omega
    refine G.rg fun R hR=>?_;refine D.ar _ ?_;refine D.q6 1 9 11 13 56 57 58 hR ?_;clear hR R;refine G.ax (m':=ps.length-(i+1)) om_ mup (h_6 9 11 13 56 57 58) ⟨i+1,⟨by omega,fun x hx=>by
     rw [xO,hp0] at hx;rcases Lh.1 hx with h6 | h6
     ·exact hall x h6
     ·simp at h6;subst h6;exact h5⟩,rfl,rfl,rfl⟩
  ·have hil:ps.length<=i:=by
    have:¬ (i:Int)<y.n:=by simpa using h59
    omega
   rw [gG hil] at hall;have hA:(ps.all fun p=>decide (sgn (iB p.1 zs-p.2)<=0))=true:=by
    rw [ep];exact fun p hp=>by simpa using hall p hp
   refine G.rg fun R hR=>?_;refine D.af (.head _) ?_;refine D.ps 2 ?_;refine D.au (G0 _ hT.m_ y ps ms cs.length (by obtain ⟨⟨vs',a1,a2⟩,a3,a4⟩:=hsys;exact ⟨⟨vs',a1.mono mup,a2.mono mup⟩,a3.mono mup,a4.mono mup⟩) om_ (fun p hp=>by have:=hpn p hp;omega) hsm om_ om_) U7 fl_ (fun v78 _ _ hq78=>?_);obtain ⟨As,c8,x8,rfl,⟨ws,hws,hwr⟩,hworth⟩:=hq78;refine D.ps 3 ?_;refine D.ai (fun b18=>?_);refine D.ac ?_;refine D.ae (j:=0) ?_;refine D.e4 9 11 17 18 hR ?_;clear hR R;refine G.z6 3 9 11 17 18 82 83 ?_;refine G.loop (fun fr C' L' μ=>∃ (i:Nat),(i<=cs.length/\∀ v,v<i->sgn (iB ms (nK ps v)+gQ cs v)=0)/\fr=[(9,[],.slice Ac cs.length cc),(11,[],.slice Ax zs.length cx2),(17,[],.slice As cs.length c8),(18,[],.pointer (some ⟨b18,0,none⟩)),(82,[],.int .i64 cs.length),(83,[],.int .i64 i)]/\L'=[.obj b18 (.cells ⟨x8.enc⟩ 111 (0,0)),.obj b13 (.cells ⟨y.enc⟩ 128 (0,0)),.obj b7 (.cells ⟨[.slice Ad nd cd]⟩ 63 (0,0))]/\μ=cs.length-i) (h_6 9 11 17 18 82 83) ⟨0,⟨ch _,fun v hv=>by omega⟩,Z,Z,Z⟩ (fun fr C1' L1' m _ hI=>?_);obtain ⟨i,⟨hj,hcol⟩,rfl,rfl,rfl⟩:=hI;refine G.z7 1 9 11 17 18 82 83 84 ?_;refine G.cd (fun h84=>?_) fun h84=>?_
   ·have hjl:i<cs.length:=by simpa using h84
    have hsl:(r6 ps ms cs.length).length=cs.length:=by simp [r6]
    obtain ⟨w1,hw0,hwrow,hwF⟩:=hwr.get (iU (l:=r6 ps ms cs.length) (i:=i) om_);rw [Ae hjl] at hwF;obtain ⟨ds,hdsS,hdr⟩:=hcL;obtain ⟨w2,hw20,hw2row,hw2F⟩:=hdr.get (iU hjl);have hcolS:∀ q∈nK ps i,SmQ 200 q:=fun q hq=>by
     unfold nK at hq;obtain ⟨p,hp,rfl⟩:=j5.1 hq;exact (hsm.1 p hp).1 _ (Ce (by have:=hpn p hp;omega))
    have hds2:SmQ 401001 (iB ms (nK ps i)):=(kS hsm.2 hcolS (by unfold nK;rw [aH];omega) _ (aP _)).le om_;refine G.z7 2 9 11 17 18 19 82 83 ?_;refine G.aG [0,1,2,3,4,5,6,7,8,9,10] [(9,1)] Z kr_ (fun R hB hR=>?_);refine D.ps 2 ?_;refine D.ak hws.m_ U10 om_ hwrow fl_ (fun p88 hp88=>?_);refine D.aa hp88 ?_;refine D.ps 2 ?_;refine D.ak hdsS.m_ U10 om_ hw2row fl_ (fun p92 hp92=>?_);refine D.aa hp92 ?_;refine D.au (eD hwF.m_ hw2F.m_ hds2 (hcsm _ (Ce hjl)) om_) U7 fl_ (fun v94 _ _ hq94=>?_);refine D.aL (fun _=>(t8 hq94)) ?_;refine D.ac ?_;refine D.e7 9 11 17 18 82 83 96 hR ?_;clear hR hB R;refine G.cd (fun h96=>?_) fun h96=>?_
    ·have hno:EI rows obj pt d=false:=by
      have h5:¬ sgn (iB ms (nK ps i)+gQ cs i)=0:=by simpa using h96
      have h6:((List.range cs.length).all fun v=>sgn (iB ms (nK ps v)+gQ cs v) == 0)=false:=by
       rw [M9];exact ⟨i,Md.2 hjl,by simpa using h5⟩
      rw [hopt,h6];simp
     refine G.z1 1 8 ?_;refine G.rf ?_;exact ⟨by rw [hno],Z⟩
    ·have h5:sgn (iB ms (nK ps i)+gQ cs i)=0:=by simpa using h96
     refine G.rg fun R hR=>?_;refine D.ar _ ?_;refine D.q6 1 9 11 17 18 82 83 hR ?_;clear hR R;refine G.ax (m':=cs.length-(i+1)) om_ mup (h_6 9 11 17 18 82 83) ⟨i+1,⟨by omega,fun v hv=>by
      by_cases hvi:v=i
      ·rw [hvi];exact h5
      ·exact hcol v om_⟩,Z,Z,Z⟩
   ·have hjl:i=cs.length:=by
     have:¬ i<cs.length:=by simpa using h84
     omega
    have hB:((List.range cs.length).all fun v=>sgn (iB ms (nK ps v)+gQ cs v) == 0)=true:=by
     rw [ep];intro v hv;have:=hcol v (by rw [hjl];exact Md.1 hv);simpa using this
    have hbss:∀ q∈ps.map (·.2),SmQ 200 q:=fun q hq=>by obtain ⟨p,hp,rfl⟩:=j5.1 hq;exact (hsm.1 p hp).2
    have hds3:SmQ 401001 (iB ms (ps.map (·.2))):=(kS hsm.2 hbss (by rw [aH];omega) _ (aP _)).le om_;have hds4:SmQ 401001 (iB cs zs):=(kS hcsm hzsm om_ _ (aP _)).le om_;refine G.aG [0,1,2,3,4,5,6,7] [(5,1)] Z kr_ (fun R hB hR=>?_);refine D.af (.head _) ?_;refine D.ps 2 ?_;refine D.au (mu _ hT.m_ _ _ cs zs 200 200 hcL.m_ hxL.m_ om_ hcsm hzsm om_) U7 fl_ (fun v101 _ _ hq101=>?_);refine D.au (eD hworth.m_ hq101.m_ hds3 hds4 om_) U7 fl_ (fun v102 _ _ hq102=>?_);refine D.aL (fun _=>(t8 hq102)) ?_;refine D.ps 2 ?_;refine D.e1 8 hR ?_;clear hR hB R;refine G.rf ?_;refine ⟨?_,Z⟩;rw [hopt,hA,hB];simp [hzc]

theorem AR {q p:Rat}(h:cL (qtx q)=some p):p=q:=by
 obtain ⟨hd,he⟩:=tp (qtx q);rw [iF] at hd he;simp only at hd he;rw [cN] at hd;have h1:(dL 47 (aZ 45 (qtx q)).1).1=aT q.num.natAbs:=(Ou hd).1.symm;have h2:(aZ 45 (qtx q)).2=decide (q.num<0):=(Ou hd).2.symm;unfold cL at h;rw [h1,h2,<- he,(aV _).2] at h;have e:ratB (decide (q.num<0)) q.num.natAbs q.den=q:=by
  unfold ratB;have e2:(if decide (q.num<0)=true then -((q.num.natAbs:Nat):Int) else ((q.num.natAbs:Nat):Int))=q.num:=by
   by_cases hn:q.num<0
   ·rw [bW (j9 hn)];omega
   ·rw [a7 (by rw [K3 hn];decide)];omega
  rw [e2,Rat.mkRat_self]
 split at h
 ·unfold jX at h;split at h
  ·rename_i hb;split at hb
   ·rename_i h1d;cases h
    rw [<- h1d,e]
   ·cases hb
  ·rename_i b hb;split at hb
   ·cases hb
   ·cases hb
    split at h
    ·cases h
     rw [(aV _).2,e]
    ·cases h
 ·cases h
end Go.Proofs.YtgfiffppookakaaGreatDoor
namespace Go.Jog
open Go

section
variable {P:Program} {ops:Array Oper} {ι:Type} {cls:ι->World->Prop} {le:ι->ι->Prop} {md:Region.Mode}

def om (n:Nat)(π rest:List Nat)(s:Nat->Bool):Array Bool:=((List.range n).map fun i=>π.contains i || (rest.contains i && s i)).toArray
def upS (s:Nat->Bool)(i:Nat):Nat->Bool:=fun j=>Nat.beq j i || s j
theorem uy {n:Nat}{π rest:List Nat}{s:Nat->Bool}{i:Nat}{d:Bool}(h:i<n):(om n π rest s).getD i d=(π.contains i || (rest.contains i && s i)):=by
 unfold om;rw [Le];simp [h]
theorem lK (s:Nat->Bool)(i:Nat):upS s i i=true:=by simp [upS]
theorem jx {s:Nat->Bool}{i j:Nat}(h:j≠i):upS s i j=s j:=by
 unfold upS;cases hb:Nat.beq j i with
 | true=>exact absurd (fB hb) h
 | false=>rfl
theorem ET {n:Nat}{π rest:List Nat}{s:Nat->Bool}{i:Nat}(hi:i∈rest):(om n π rest s).setIfInBounds i true=om n π rest (upS s i):=by
 apply Array.ext
 ·simp [om]
 ·intro j h1 h2;rw [Array.getElem_setIfInBounds (by simpa [om] using h2)];split
  ·rename_i e;subst e;simp [om,hi,lK]
  ·rename_i e;simp [om,jx (s:=s) (Ne.symm e)]
def ordB (md:Region.Mode)(ops:Array Oper):List Nat->List Nat->Bool
 | _,[]=>true
 | done,i::r=>(match ops[i]? with
  | some o=>o.after.all fun e=>!Region.binds md e || done.contains e.on
  | none=>false) && ordB md ops (i::done) r
theorem sG {listed:Array Bool}{s:Nat->Bool}:∀ {rest done:List Nat},ordB md ops done rest=true->(∃ i∈rest,s i=false)->(∀ j∈done,listed.getD j false=true)->(∀ j∈rest,s j=true->listed.getD j false=true) ->
  ∃ i∈rest,s i=false/\∃ o,ops[i]?=some o/\∀ e∈o.after,Region.binds md e=true->listed.getD e.on false=true
 | [],_,_,h,_,_=>by obtain ⟨_,h,_⟩:=h;cases h
 | i::r,done,hB,h,hd,hr=>by
  simp only [ordB,bL] at hB;cases hs:s i with
  | false =>
   refine ⟨i,br ..,hs, ?_⟩;cases ho:ops[i]? with
   | none=>rw [ho] at hB;cases hB.1
   | some o =>
    rw [ho] at hB;refine ⟨o,Z,fun e he hb=>?_⟩;have h1:=Array.all_eq_true'.1 hB.1 e he;simp only [hb,Bool.not_true,Bool.false_or,Lz] at h1;exact hd _ h1
  | true =>
   obtain ⟨j,hj,hjs⟩:=h;have hjr:j∈r:=by
    rcases cI.1 hj with rfl | h
    ·rw [hs] at hjs;cases hjs
    ·exact h
   obtain ⟨k,hk,h1,h2⟩:=sG (rest:=r) (done:=i::done) hB.2 ⟨j,hjr,hjs⟩ (fun x hx=>by
    rcases cI.1 hx with rfl | hx
    ·exact hr _ (br ..) hs
    ·exact hd x hx) (fun x hx=>hr x (Ll _ hx))
   exact ⟨k,Ll _ hk,h1,h2⟩
def Eu (md:Region.Mode)(ops:Array Oper)(n:Nat)(π rest:List Nat):Bool :=
 (π.all fun i=>Nat.blt i n) && ((rest.all fun i=>Nat.blt i n && !π.contains i) && (decide rest.Nodup && (ordB md ops π rest && (List.range n).all fun j=>π.contains j || (rest.contains j || rest.all fun i=>ej md ops n j i))))
theorem GB {s:Nat->Bool}{i:Nat}:∀ {rest:List Nat},rest.Nodup->i∈rest->s i=false->rest.countP (fun j=>!s j)=rest.countP (fun j=>!upS s i j)+1
 | [],_,h,_=>by cases h
 | a::r,hn,hi,hs=>by
  obtain ⟨h1,h2⟩:=List.nodup_cons.1 hn;rw [List.countP_cons,List.countP_cons];by_cases e:a=i
  ·subst e;have hr:r.countP (fun j=>!s j)=r.countP (fun j=>!upS s a j):=List.countP_congr fun j hj=>by rw [jx (s:=s) (i:=a) (j:=j) (fun e=>h1 (e ▸ hj))]
   rw [hs,lK,hr];simp
  ·have hir:i∈r:=by
    rcases cI.1 hi with h | h
    ·exact absurd h.symm e
    ·exact h
   rw [GB h2 hir hs,jx e];omega

theorem tX {kd:Nat->Nat}{Post:Act->ι->Prop}{π rest:List Nat}{f0:Nat}(J:(Nat->Bool)->Act->ι->Prop)(hB:Eu md ops ops.size π rest=true)
  (hstep:∀ s a κ i,J s a κ->i∈rest->s i=false->(∀ j∈rest,ej md ops ops.size i j=true->s j=true)->(∀ j∈rest,ej md ops ops.size j i=true->s j=false)->dI P ops cls le (kd i) i (J (upS s i)) a κ)
  (hend:∀ s a κ,J s a κ->(∀ i∈rest,s i=true)->Closed md ops (om ops.size π rest fun _=>true)->gw P md ops cls le kd Post f0 (om ops.size π rest fun _=>true) a κ) :
  ∀ (f:Nat)(s:Nat->Bool)(a:Act)(κ:ι),rest.countP (fun i=>!s i)=f->Closed md ops (om ops.size π rest s)->J s a κ->gw P md ops cls le kd Post (f+f0) (om ops.size π rest s) a κ:=by
 simp only [Eu,bL,ep,NA,Mu,cH,Mp,Lz,Md] at hB;obtain ⟨hπ,hr,hn,ho,ht⟩:=hB;have hpi:∀ i∈rest,π.contains i=false:=fun i hi=>(hr i hi).2;have hat:∀ (s:Nat->Bool) i,i∈rest->∀ d,(om ops.size π rest s).getD i d=s i:=fun s i hi d=>by
  rw [uy (hr i hi).1,hpi i hi,Lz.2 hi];simp
 intro f;induction f with
 | zero =>
  intro s a κ hc hcl hJ;have hall:∀ i∈rest,s i=true:=fun i hi=>by
   have:=List.countP_eq_zero.1 hc i hi;simpa using this
  have e:om ops.size π rest s=om ops.size π rest fun _=>true:=by
   unfold om;congr 1;refine List.map_congr_left fun i _=>?_;cases hci:rest.contains i with
   | false=>rfl
   | true=>rw [hall i (Lz.1 hci)]
  rw [LO,e];exact hend s a κ hJ hall (e ▸ hcl)
 | succ f ih =>
  intro s a κ hc hcl hJ;have hex:∃ i∈rest,s i=false:=by
   obtain ⟨i,hi,h⟩:=List.countP_pos_iff.1 (by rw [hc];omega:0<rest.countP (fun i=>!s i));exact ⟨i,hi,by simpa using h⟩
  rw [Nat.add_right_comm];refine ⟨fun h0=>?_,fun i hi=>?_⟩
  ·exfalso;obtain ⟨i,hi,hs,o,ho1,ho2⟩:=sG (listed:=om ops.size π rest s) (s:=s) ho hex (fun j hj=>by
    rw [uy (hπ j hj),Lz.2 hj];rfl) (fun j hj hs=>by rw [hat s j hj];exact hs)
   have:i∈Region.ready md ops (om ops.size π rest s):=mem_ready.2 ⟨by rw [hat s i hi];exact hs,o,ho1,ho2⟩;rw [h0] at this;cases this
  ·obtain ⟨hun,oi,hoi,hall⟩:=mem_ready.1 hi;have hin:i<ops.size:=(My.1 hoi).1;have hli:∀ j∈rest,ej md ops ops.size i j=true->s j=true:=fun j hj hw=>by
    have:=dF hcl ops.size i oi hoi hall hw
    rwa [hat s j hj] at this
   rw [uy hin] at hun;simp only [LU] at hun;by_cases hir:i∈rest
   ·have hsi:s i=false:=by
     have h2:=hun.2;rw [Lz.2 hir] at h2;simpa using h2
    refine dY (fun a' κ' h'=>?_) (hstep s a κ i hJ hir hsi hli (fun j hj hw=>?_))
    ·have hset:=ET (n:=ops.size) (π:=π) (s:=s) hir;rw [hset];have hc2:=GB hn hir hsi;exact ih (upS s i) a' κ' om_ (hset ▸ hcl.set hi) h'
    ·cases hsj:s j with
     | false=>rfl
     | true =>
      exfalso;cases hoj:ops[j]? with
      | none=>have:=(hr j hj).1;rw [Array.getElem?_eq_none_iff] at hoj;omega
      | some oj =>
       have:=dF hcl ops.size j oj hoj (hcl j oj hoj (by rw [hat s j hj];exact hsj)) hw;rw [hat s i hir,hsi] at this;cases this
   ·exfalso;obtain ⟨j,hj,hsj⟩:=hex;have h3:=ht i hin;rcases h3 with h3 | h3 | h3
    ·rw [Lz.2 h3] at hun;cases hun.1
    ·exact hir h3
    ·have:=hli j hj (h3 j hj);rw [hsj] at this;cases this
end
end Go.Jog
namespace Go.Jog
open Go

section
variable {P:Program} {ops:Array Oper} {ι:Type} {cls:ι->World->Prop} {le:ι->ι->Prop}
theorem zH {i:Nat}{o:Oper}(ho:ops[i]?=some o){K:Act->World->Prop}{a:Act}{w:World}(h:wpOp P ops (QN fun _ _=>False) i K a w) :
  wpOp P ops (QN fun _ _=>False) i (fun a' w'=>(∃ u,a'.tmps=(a.put o.dst u).tmps)/\K a' w') a w:=by
 unfold wpOp at *;simp only [ho] at *;split
 ·rename_i hw;simp only [hw,Mb] at h;rcases h with h | ⟨_,hl⟩
  ·refine .inl ?_;unfold Oper.wp at *;generalize (execOp a.eval o).run P w=r at *;cases r with
   | ok n w' =>
    cases n <;> simp only [Oper.upon] at h ⊢
    case value u=>exact ⟨⟨u,rfl⟩,h⟩
    case skip=>exact ⟨⟨undef,rfl⟩,h⟩
    case defer d=>exact ⟨⟨undef,by cases o.dst <;> rfl⟩,h⟩
    case enter f args =>
     refine Calls.mono h fun e w'' he=>?_;cases e with
     | returned u=>exact ⟨⟨u,rfl⟩,he⟩
     | panicked c=>exact he
     | outgrown=>exact he
    case row row args=>exact Rows.mono h fun u w'' he=>⟨⟨u,rfl⟩,he⟩
   | halt x w' =>
    cases x <;> simp only [Oper.upon] at h ⊢
    case panic u=>exact h
  ·obtain ⟨_,_,h⟩:=hl;exact h.elim
 ·rename_i hw;simp only [hw] at h;exact ⟨⟨undef,Z⟩,h⟩
theorem xX {kd i:Nat}{o:Oper}(ho:ops[i]?=some o){K:Act->ι->Prop}{a:Act}{κ:ι}(h:dI P ops cls le kd i K a κ) :
  dI P ops cls le kd i (fun a' κ'=>(∃ u,a'.tmps=(a.put o.dst u).tmps)/\K a' κ') a κ:=by
 unfold dI at *;simp only [ho] at h ⊢;split
 ·rename_i hk;simp only [hk,Mb] at h;obtain ⟨v,h1,h2⟩:=h;exact ⟨v,h1,⟨v,Z⟩,h2⟩
 ·rename_i hk;simp only [hk,LZ] at h;intro w hw;exact wpOp_mono (fun a' w' ⟨hu,κ',h1,h2,h3⟩=>⟨κ',h1,h2,hu,h3⟩) (zH ho (h w hw))
theorem oH {b:Bs}{kd i:Nat}{K:Act->Mem × List Ent->Prop}{a:Act}{C:Mem}{L L':List Ent}(hp:L.Perm L')(hK:∀ a C L L',L.Perm L'->K a (C,L')->K a (C,L))(h:dI P ops b.cls kle kd i K a (C,L')) :
  dI P ops b.cls kle kd i K a (C,L):=by
 have hle:∀ κ',kle (C,L) κ'->kle (C,L') κ':=fun κ' ⟨h1,h2⟩=>⟨h1,fun x hx=>h2 x (hp.mem_iff.2 hx)⟩;have hle':∀ κ',kle (C,L') κ'->kle (C,L) κ':=fun κ' ⟨h1,h2⟩=>⟨h1,fun x hx=>h2 x (hp.mem_iff.1 hx)⟩;unfold dI at *;cases ho:ops[i]? with
 | none=>rw [ho] at h;exact h
 | some o =>
  rw [ho] at h;simp only at h ⊢;split
  ·rename_i hk;simp only [hk,Mb] at h;obtain ⟨v,h1,h2⟩:=h;exact ⟨v,fun κ' hκ=>h1 κ' (fun e=>hle κ' (hκ e)),hK _ _ _ _ hp h2⟩
  ·rename_i hk;simp only [hk,LZ] at h;intro w hw;exact wpOp_mono (fun a' w' ⟨κ',h1,h2,h3⟩=>⟨κ',fun e=>hle' κ' (h1 e),h2,h3⟩) (h w (St.perm hw hp))
theorem DQ {b:Bs}{kd:Nat->Nat}{K:Act->Mem × List Ent->Prop}(hK:∀ a C L L',L.Perm L'->K a (C,L')->K a (C,L)):∀ (π:List Nat)(a:Act)(C:Mem)(L L':List Ent),L.Perm L'->DU P ops b.cls kle kd K π a (C,L')->DU P ops b.cls kle kd K π a (C,L)
 | [],a,C,L,L',hp,h=>hK a C L L' hp h
 | _i::π,_a,_C,_L,_L',hp,h=>oH hp (fun a C L L'=>DQ hK π a C L L') h
end

def wR (l:List Oper)(vf:Nat->Value):List Nat->Fr
 | []=>[]
 | j::r=>match (dP l j).dst with
  | some d=>(d,[],vf j)::wR l vf r
  | none=>wR l vf r
def upV (vf:Nat->Value)(i:Nat)(v:Value):Nat->Value:=fun j=>bif Nat.beq j i then v else vf j
def GN (S:Nat->Value->Mem->Prop)(vf:Nat->Value)(C:Mem):List Nat->Prop
 | []=>True
 | j::r=>S j (vf j) C/\GN S vf C r
theorem vz {S:Nat->Value->Mem->Prop}{vf:Nat->Value}{C:Mem}:∀ {r:List Nat},(∀ j∈r,S j (vf j) C)->GN S vf C r
 | [],_=>trivial
 | j::_r,h=>⟨h j (br ..),vz fun x hx=>h x (Ll _ hx)⟩
def ObS (cx:Cx)(n:Nat)(l:List Oper)(rest:List Nat)(S:Nat->Value->Mem->Prop)(Lf:(Nat->Bool)->(Nat->Value)->List Ent)(fr1:Fr)(C1:Mem)(L1:List Ent)(ov:List (Nat × Nat))(i:Nat)(deps:List Nat):Prop :=
 ∀ (R:Rg n (l.map (·.dst)))(s:Nat->Bool)(vf:Nat->Value)(C2:Mem),C1.le C2->s i=false->GN S vf C2 deps->(∀ j∈rest,ej .any l.toArray l.toArray.size i j=true->s j=true)->(∀ j∈rest,ej .any l.toArray l.toArray.size j i=true->s j=false) ->
  (∀ fr' v C3 L3,C2.le C3->(∀ d,(dP l i).dst=some d->fr'.get d=some ([],v))->S i v C3->L3.Perm (Lf (upS s i) (upV vf i v)++L1)->D cx R [] fr' C3 L3) ->
  ∃ Lx,(Lf s vf++L1).Perm Lx/\D cx R [(i,ovr ov i (dx (dP l i)),dP l i)] (wR l vf deps++fr1) C2 Lx
def xC (cx:Cx)(n:Nat)(l:List Oper)(rest:List Nat)(S:Nat->Value->Mem->Prop)(Lf:(Nat->Bool)->(Nat->Value)->List Ent)(fr1:Fr)(C1:Mem)(L1:List Ent)(ov:List (Nat × Nat)):List (Nat × List Nat)->Prop
 | []=>True
 | (i,deps)::r=>ObS cx n l rest S Lf fr1 C1 L1 ov i deps/\xC cx n l rest S Lf fr1 C1 L1 ov r
theorem pF {cx:Cx}{n:Nat}{l:List Oper}{rest:List Nat}{S:Nat->Value->Mem->Prop}{Lf:(Nat->Bool)->(Nat->Value)->List Ent}{fr1:Fr}{C1:Mem}{L1:List Ent}{ov:List (Nat × Nat)} :
  ∀ {rd:List (Nat × List Nat)},xC cx n l rest S Lf fr1 C1 L1 ov rd->∀ x∈rd,ObS cx n l rest S Lf fr1 C1 L1 ov x.1 x.2
 | [],_,_,h=>by cases h
 | (i,deps)::r,h,x,hx=>by
  rcases cI.1 hx with rfl | hx
  ·exact h.1
  ·exact pF h.2 x hx
def putB (n:Nat)(l:List Oper)(fr1:Fr)(rest:List Nat):Bool:=rest.all fun i=>match (dP l i).dst with
 | some d=>aO n (l.map (·.dst)) ((d,[],undef)::fr1) d && (fr1.get d).isNone
 | none=>true
def dstB (l:List Oper)(rest:List Nat):Bool:=rest.all fun i=>rest.all fun j=>Nat.beq i j || match (dP l i).dst,(dP l j).dst with
 | some d,some e=>!Nat.beq d e
 | _,_=>true
def depB (l:List Oper)(rest:List Nat)(rd:List (Nat × List Nat)):Bool:=rd.all fun x=>x.2.all fun j=>rest.contains j && ej .any l.toArray l.toArray.size x.1 j
theorem FrOk.cons1 {n:Nat}{ds:List (Option Nat)}{dd:List Deferred}{fr:Fr}{a:Act}{d:Nat}{v:Value}(h:FrOk n ds dd fr a)(hd:a.tmps[d]?=some v):FrOk n ds dd ((d,[],v)::fr) a :=
 ⟨h.size,h.defers,fun s g u hg=>by
  simp only [Fr.get] at hg;cases hb:Nat.beq d s with
  | true =>
   rw [hb] at hg;simp only [Mm,zl,Na] at hg;obtain ⟨rfl,rfl⟩:=hg;obtain rfl:=fB hb;exact ⟨fun _=>hd,fun hn=>absurd (fun p hp=>by cases hp) hn⟩
  | false =>
   rw [hb] at hg;exact h.ent s g u hg⟩
theorem FrOk.deps {n:Nat}{ds:List (Option Nat)}{dd:List Deferred}{fr:Fr}{a:Act}{l:List Oper}{vf:Nat->Value}(h:FrOk n ds dd fr a):∀ {r:List Nat},(∀ j∈r,∀ d,(dP l j).dst=some d->a.tmps[d]?=some (vf j))->FrOk n ds dd (wR l vf r++fr) a
 | [],_=>h
 | j::r,hr=>by
  have ih:=FrOk.deps h (r:=r) fun x hx=>hr x (Ll _ hx);unfold wR;split
  ·rename_i d hd;exact FrOk.cons1 ih (hr j (br ..) d hd)
  ·exact ih

section
variable {F:Fx} {k:List KI} {fr:Fr} {C:Mem} {L:List Ent}
def CF (_n:Nat)(l:List Oper)(π ρ:List Nat)(rd:List (Nat × List Nat))(ov:List (Nat × Nat)):Bool :=
 Region.noSelect l.toArray && (G2 .any l.toArray (fun i=>ovr ov i (dx (dP l i))) π (Array.replicate l.toArray.size false) && (Eu .any l.toArray l.toArray.size π (rd.map (·.1)) &&
 ((d6 π (Array.replicate l.toArray.size false) == om l.toArray.size π (rd.map (·.1)) fun _=>false) && (depB l (rd.map (·.1)) rd && (dstB l (rd.map (·.1)) &&
 (G2 .any l.toArray (fun i=>ovr ov i (dx (dP l i))) ρ (om l.toArray.size π (rd.map (·.1)) fun _=>true) && ((Region.ready .any l.toArray (d6 ρ (om l.toArray.size π (rd.map (·.1)) fun _=>true))).isEmpty &&
 ((π.all fun i=>Nat.blt i l.length) && ((ρ.all fun i=>Nat.blt i l.length) && Nat.beq l.toArray.size (π.length+((rd.map (·.1)).length+ρ.length)))))))))))
theorem G.Il {id:Nat}{l:List Oper}(π ρ:List Nat)(rd:List (Nat × List Nat))(ov:List (Nat × Nat))(hp:fr.all (fun x=>x.2.1.isEmpty)=true)(hB:CF F.n l π ρ rd ov=true)
  (h:∀ R:Rg F.n (l.map (·.dst)),C.le R.b.C0 ->
   (∀ {fr1:Fr}{C1:Mem}{L1:List Ent}(S:Nat->Value->Mem->Prop)(Lf:(Nat->Bool)->(Nat->Value)->List Ent),(∀ i v C C',C.le C'->S i v C->S i v C')->putB F.n l fr1 (rd.map (·.1))=true->(∀ vf,Lf (fun _=>false) vf=[]) ->
    xC F.cx F.n l (rd.map (·.1)) S Lf fr1 C1 L1 ov rd ->
    (∀ R2:Rg F.n (l.map (·.dst)),C.le R2.b.C0->(∀ fr C L,fr.all (fun x=>x.2.1.isEmpty)=true->G F (eA 64 k) .normal fr C L->D F.cx R2 [] fr C L)->∀ vf C2,C1.le C2->GN S vf C2 (rd.map (·.1)) ->
     D F.cx R2 (db l ov ρ) (wR l vf (rd.map (·.1))++fr1) C2 (Lf (fun i=>(rd.map (·.1)).contains i) vf++L1))->D F.cx R [] fr1 C1 L1) ->
   D F.cx R (db l ov π) fr C L) (hnd':F.W.nd l.toArray:=by first | exact trivial | exact rfl) :
  G F (.code (.region id l.toArray true)::k) .normal fr C L:=fun h0 a w ha hw=>by
 simp only [Kq];simp only [CF,bL] at hB;obtain ⟨hsel,hB1,hrest,hlst,hdep,hdst,hB2,hB3,hπ,hρ,hsz⟩:=hB;have hlst:=eq_of_beq hlst;have hsz:=fB hsz;obtain ⟨rest,hre⟩:∃ rest,rd.map (·.1)=rest:=⟨_,rfl⟩
 let kd:=fun i=>ovr ov i (dx (dP l i))
 let b:Bs:=⟨F.b.w0,C,F.b.L0⟩
 let Post:Act->Mem × List Ent->Prop:=fun a κ=>∀ w,b.cls κ w->Kq F k .normal a w
 let R2:Rg F.n (l.map (·.dst)):=⟨b,l.toArray,kd,Post,fun tmps=>cj l tmps,F.dd⟩
 let Mid:Act->Mem × List Ent->Prop:=fun a κ=>Closed .any l.toArray (d6 π (Array.replicate l.toArray.size false))->gw F.cx.P .any l.toArray b.cls kle kd Post (rest.length+ρ.length) (d6 π (Array.replicate l.toArray.size false)) a κ
 let R1:Rg F.n (l.map (·.dst)):=⟨b,l.toArray,kd,Mid,fun tmps=>cj l tmps,F.dd⟩
 have un:∀ κ w,b.cls κ w->F.b.cls κ w:=fun κ w hc=>St.unbase h0 hw.cn hc;have hPp:∀ a C L L',L.Perm L'->Post a (C,L')->Post a (C,L):=fun a C L L' hpm hP w hw=>hP w (St.perm hw hpm);have hR2:∀ fr C L,fr.all (fun x=>x.2.1.isEmpty)=true->G F (eA 64 k) .normal fr C L->D F.cx R2 [] fr C L:=fun fr C' L hp hG h0' _ a ha w hw=>G.bQ 64 hG (h0.trans h0') a w ⟨ha.size,ha.defers,fun s g v hg=>by
  have hm:=ep.1 hp _ (Fr.get_mem hg);simp only [MH] at hm;subst hm;exact ⟨fun _=>(ha.ent s [] v hg).1 (fun p hp=>by cases hp),fun hn=>absurd (fun p hp=>by cases hp) hn⟩⟩ (un _ _ hw)
 have hH:∀ (R:Rg F.n (l.map (·.dst))),R.ops=l.toArray->R.kd=kd->∀ i,i<l.length->R.kd i=ovr ov i (dx (dP l i))/\R.ops[i]?=some (dP l i):=fun R e1 e2 i hi=>⟨by rw [e2],by
  rw [e1,LB,dR hi]⟩
 have hrl:∀ i∈rest,i<l.length:=fun i hi=>by
  rw [hre] at hrest;simp only [Eu,bL,ep,NA] at hrest;simpa using (hrest.2.1 i hi).1
 have hD:=h R1 (Mem.le.refl _) (fun {fr1 C1 L1} S Lf hmono hput hL0 hob htail h0' _ a1 ha1 hcl=>by
  rw [hre] at hput hob htail hdst hdep hlst hrest hB2 hB3;rw [hlst] at hcl ⊢
  let J:(Nat->Bool)->Act->Mem × List Ent->Prop:=fun s a κ=>∃ vf:Nat->Value,FrOk F.n (l.map (·.dst)) F.dd fr1 a/\C1.le κ.1/\κ.2.Perm (Lf s vf++L1)/\(∀ i,s i=true->i∈rest) /\
   ∀ i∈rest,s i=true->S i (vf i) κ.1/\∀ d,(dP l i).dst=some d->a.tmps[d]?=some (vf i)
  have hJp:∀ s a C L L',L.Perm L'->J s a (C,L')->J s a (C,L):=fun s a C L L' hpm ⟨vf,g1,g2,g3,g4⟩=>⟨vf,g1,g2,hpm.trans g3,g4⟩;refine tX (md:=.any) (kd:=kd) (Post:=Post) (π:=π) (rest:=rest) (f0:=ρ.length) J hrest (fun s a κ i hJ hi hsi hdn hun=>?_) (fun s a κ hJ hall hclt=>?_) rest.length (fun _=>false) a1 (C1,L1) ?_ hcl
   ⟨fun _=>undef,ha1,Mem.le.refl _,by rw [hL0];exact il _,(fun i h=>by cases h),(fun i _ h=>by cases h)⟩
  ·obtain ⟨vf,g1,g2,g3,g4,g5⟩:=hJ;obtain ⟨deps,hmem⟩:∃ deps,(i,deps)∈rd:=by
    rw [<- hre] at hi;obtain ⟨x,hx,rfl⟩:=j5.1 hi;exact ⟨x.2,hx⟩
   have hd:=ep.1 (ep.1 hdep (i,deps) hmem);simp only [bL,Lz] at hd
   let Pi:Act->Mem × List Ent->Prop:=fun a' κ'=>a'.tmps.size=F.n/\a'.defers=F.dd/\∃ v,S i v κ'.1/\κ.1.le κ'.1/\κ'.2.Perm (Lf (upS s i) (upV vf i v)++L1)/\∀ d,(dP l i).dst=some d->a'.tmps[d]?=some v
   let Ri:Rg F.n (l.map (·.dst)):=⟨b,l.toArray,kd,Pi,fun tmps=>cj l tmps,F.dd⟩
   obtain ⟨Lx,hLx,hO⟩:=pF hob (i,deps) hmem Ri s vf κ.1 g2 hsi (vz fun j hj=>(g5 j (hd j hj).1 (hdn j (hd j hj).1 (hd j hj).2)).1) hdn hun (fun fr' v _ L3 hle hg hS hL _ _ a' ha'=>by
    refine ⟨ha'.size,ha'.defers,v,hS,hle,hL,fun d hd'=>?_⟩;exact (ha'.ent d [] v (hg d hd')).1 (fun p hp=>by cases hp))
   have hil:=hrl i hi;have hst:=hO (h0'.trans g2) (jm (π:=[i]) (ov:=ov) (hH Ri rfl rfl) (by simp [NA,hil])) a (FrOk.deps g1 fun j hj d hd'=>(g5 j (hd j hj).1 (hdn j (hd j hj).1 (hd j hj).2)).2 d hd');have hoi:l.toArray[i]?=some (dP l i):=by rw [LB,dR hil]
   have hst2:dI F.cx.P l.toArray b.cls kle (kd i) i Pi a (κ.1,Lx):=hst;have hst3:=oH (g3.trans hLx) (fun a C L L' hpm ⟨e1,e2,v,h1,h2,h3,h4⟩=>⟨e1,e2,v,h1,h2,hpm.trans h3,h4⟩) hst2;refine dY (fun a' κ' ⟨⟨u,hu⟩,e1,e2,v,h1,h2,h3,h4⟩=>?_) (xX hoi hst3);have hpi:=ep.1 hput i hi;have hkeep:∀ d',(∀ d,(dP l i).dst=some d->d≠d')->a'.tmps[d']?=a.tmps[d']?:=fun d' hd'=>by
    rw [hu];cases hdd:(dP l i).dst with
    | none=>rfl
    | some d =>
     show (a.tmps.setIfInBounds d u)[d']?=_;rw [NI (hd' d hdd)]
   refine ⟨upV vf i v, ?_,g2.trans h2,h3,fun j hj=>?_,fun j hj hsj=>?_⟩
   ·cases hdd:(dP l i).dst with
    | none =>
     rw [hdd] at hu;exact ⟨e1,e2,fun s' g u' hg=>by
      have:=g1.ent s' g u' hg;rw [show a'.tmps=a.tmps from hu];exact this⟩
    | some d =>
     rw [hdd] at hpi hu;simp only [bL,Option.isNone_iff_eq_none] at hpi;have h5:FrOk F.n (l.map (·.dst)) F.dd ((d,[],u)::fr1) (a.put (some d) u):=FrOk.put g1 hpi.1 ⟨fun _=>rfl,fun hn=>absurd (fun p hp=>by cases hp) hn⟩;refine ⟨e1,e2,fun s' g u' hg=>?_⟩;have:=h5.ent s' g u' (by
      simp only [Fr.get];cases hb:Nat.beq d s' with
      | true=>rw [<- fB hb,hpi.2] at hg;cases hg
      | false=>exact hg)
     rw [hu];exact this
   ·by_cases e:j=i
    ·subst e;exact hi
    ·rw [jx e] at hj;exact g4 j hj
   ·by_cases e:j=i
    ·subst e;have:upV vf j v j=v:=by simp [upV]
     rw [this];exact ⟨h1,h4⟩
    ·rw [jx e] at hsj;have hv:upV vf i v j=vf j:=by
      unfold upV;cases hb:Nat.beq j i with
      | true=>exact absurd (fB hb) e
      | false=>rfl
     rw [hv];obtain ⟨k1,k2⟩:=g5 j hj hsj;refine ⟨hmono _ _ _ _ h2 k1,fun d' hd'=>?_⟩;rw [hkeep d' (fun d hdd=>?_)]
     ·exact k2 d' hd'
     ·have:=ep.1 (ep.1 hdst i hi) j hj;rw [hdd,hd'] at this;simp only [Mp] at this;rcases this with h6 | h6
      ·exact absurd (fB h6).symm e
      ·intro e3;subst e3;simp at h6
  ·obtain ⟨vf,g1,g2,g3,g4,g5⟩:=hJ;have hs:s=fun i=>rest.contains i:=funext fun i=>by
    cases hc:rest.contains i with
    | true=>exact hall i (Lz.1 hc)
    | false =>
     cases hsi:s i with
     | false=>rfl
     | true=>rw [Lz.2 (g4 i hsi)] at hc;cases hc
   have hT:=htail R2 (Mem.le.refl _) hR2 vf κ.1 g2 (vz fun j hj=>(g5 j hj (hall j hj)).1) (h0'.trans g2) (jm (hH R2 rfl rfl) hρ) a (FrOk.deps g1 fun j hj d hd'=>(g5 j hj (hall j hj)).2 d hd');rw [cM,<- hs] at hT;have hT2:=DQ hPp ρ a κ.1 κ.2 _ g3 hT;have:=dm (f:=0) kle.trans hsel ρ _ a κ hclt hB2 (fun a κ _ hK=>⟨MH.1 hB3,hK⟩) hT2
   rwa [Mc] at this
  ·exact List.countP_eq_length.2 fun _ _=>rfl) (Mem.le.refl _) (jm (hH R1 Z Z) hπ) a (ha.enter _ hp)
 rw [cM] at hD;refine F.W.any F.cx.mixed hnd' ?_;have hc0:Closed .any l.toArray (Array.replicate l.toArray.size false):=fun j oj _ hl=>by
  have h6:(Array.replicate l.toArray.size false).getD j false=false:=by rw [Le,Array.getElem?_replicate];split <;> rfl
  rw [h6] at hl;cases hl
 have hU:=dm (md:=.any) (le:=kle) (f:=rest.length+ρ.length) kle.trans hsel π _ a (C,L) hc0 hB1 (fun a κ hcl hK=>hK hcl) hD;rw [<- hre,<- hsz] at hU;exact fC kle.refl (fun a κ w hP hw=>hP w hw) _ _ _ _ _ (St.rebase (St.drew hw)) hU
end
end Go.Jog
