/- Laws that the proofs of this seat share, part 6. -/
import Derived.Test.YthnpijdjlddpmaaGreatDoorG5
import Derived.Test.YthnpijdjlddpmaaGreatDoorShelf
import Derived.RangeFuncBox
import Derived.RangeFuncLeaves
import Derived.Shelf.Abstract
import Derived.WalkKit
import Derived.OwnWalkIn
import Derived.TacticsInMore
import Derived.LoopNIn
import Derived.LoopIn
import Derived.Stop.RegionWithIn
import Derived.Test.YthnpijdjlddpmaaGreatDoorProg
import Derived.Laws.IdiomRangeMap
import Derived.WideKeyRuns
set_option maxHeartbeats 4000000
namespace Go.Proofs.YthnpijdjlddpmaaGreatDoor
open Tryz
open Go Go.Jog
set_option maxRecDepth 100000
variable {a b:Rat}{k n:Nat}{q:Rat}{s t:Str}{z:Int}
theorem KQ (c:QB k a)(d:QB k b):QB (k+k+1) (a+b):=by
 rw [iO];exact gp (Nat.ne_of_gt (Oa (gk a) (gk b))) (MS (Oc _ _) (vx (dz c.1 (pk d)) (dz d.1 (pk c)))) (da (mg c.2 d.2) om_)
theorem oT (c:QB k a)(d:QB k b):QB (k+k) (a*b):=by
 rw [fP];exact gp (Nat.ne_of_gt (Oa (gk a) (gk b))) (dz c.1 d.1) (mg c.2 d.2)
theorem fk (b:QB k a):QB k (-a):=⟨by rw [OX,Oy];exact b.1,by rw [Rat.neg_den];exact b.2⟩
theorem kH (c:QB k a)(d:QB k b):QB (k+k+1) (a-b):=by
 rw [O1];exact KQ c (fk d)
theorem yK (b:QB k a)(d:a≠0):QB k a⁻¹:=by
 have c:a.num≠0:=fun e=>d (Ou.1 e);refine ⟨?_, ?_⟩
 ·rw [Rat.num_inv,Nr,Int.natAbs_sign_of_ne_zero c,Om,MT];exact b.2
 ·rw [Rat.den_inv,aC c];exact b.1
theorem kI (c:QB k a)(d:QB k b)(e:b≠0):QB (k+k) (a / b):=by
 rw [Rat.div_def];exact oT c (yK d e)
theorem KP (h:z.natAbs<B9 ^ k)(a:0<k):QB k (z:Rat):=⟨h,by
 show 1<B9 ^ k;exact MV (by decide:1<B9 ^ 1) (Mt dc_ a)⟩
theorem dm (C:Mem)(g:Tabs C)(a b:Rat)(k:Nat)(i:0<k)(y:k<=10000)(d:QB k a)(e:QB k b):Gives cx.P 92 [al (qtx a),al (qtx b)] C (al (qtx (a*b))):=by
 have z:=bE d i;have A:=bE e i;have w:=gk a;have x:=gk b;have q:0<a.den*b.den:=Oa w x;refine Ph func92 66 U3 fun w0=>C6 1 [0,1] Z<|C6 3 [0,1,15] Z<|G.cut (fun fr C' L' j=>(True)/\fr=[(0,[],al (qtx a)),(1,[],al (qtx b)),(15,[],.bool (decide (a=0∨b=0)))]/\L'=[]) ?_ (fun fr _ B j _ l=>?_)
 ·refine O9 (fun f=>?_) fun f=>?_
  ·have h0:a=0:=by rw [fw] at f;exact K5 f
   rw [fw,show decide (a=0)=decide (a=0∨b=0) by simp [h0]];refine Pj 0 (Mem.le.refl _) (hn_ [0,1,15] Z) ⟨trivial,Z,Z⟩
  ·have h0:¬ a=0:=by rw [fw] at f;exact LS f
   refine C6 3 [0,1,15] Z ?_;rw [fw,show decide (b=0)=decide (a=0∨b=0) by simp [h0]];refine Pj 0 (Mem.le.refl _) (hn_ [0,1,15] Z) ⟨trivial,Z,Z⟩
 ·obtain ⟨_,rfl,rfl⟩:=l;refine O9 (fun r=>?_) fun r=>?_
  ·have h0:=K5 r;refine C6 1 [4] Z<|Pf U2<|⟨?_,Z⟩;rw [show a*b=0 by rcases h0 with h | h <;> simp [h],qtx_zero];rfl
  ·refine C6 3 [0,1,20] Z<|O9 (fun m=>?_) fun m=>?_
   ·have h1:a=1:=by rw [Hi] at m;exact K5 m
    refine C6 2 [4] Z<|Pf U2<|⟨?_,Z⟩;rw [h1,Rat.one_mul]
   ·refine C6 3 [0,1,24] Z<|O9 (fun n=>?_) fun n=>?_
    ·have h1:b=1:=by rw [Hi] at n;exact K5 n
     refine C6 2 [4] Z<|Pf U2<|⟨?_,Z⟩;rw [h1,Rat.mul_one]
    ·refine O7 1 Z fun R c=>Pp (iL _ a om_) U7 fl_<|C4 7 [0,1,5,6,7] c Z<|C6 1 [0,1,5,6,34] Z<|G.cut (fun fr C' L' j=>(True)/\fr=[(0,[],al (qtx a)),(1,[],al (qtx b))]/\L'=[]) ?_ (fun fr _ D j _ l=>?_)
     ·refine O9 (fun s=>?_) fun s=>?_
      ·have o:zX a=true:=s;rw [aI o,aI o];have t:=li o;refine O7 1 Z fun R c=>Pp (iL _ b om_) U7 fl_<|C4 7 [0,1,5,6,8,9,10] c Z<|C6 1 [0,1,5,6,8,9,41] Z<|O9 (fun u=>?_) fun u=>?_
       ·have p:zX b=true:=u;rw [aI p,aI p];have v:=li p;have E:=Cs t.1 v.1;have F:=ui t.2 v.2;exact O7 2 Z fun R c=>Pi _ U7<|Pc 2 Z<|PN (((a.den*b.den:Nat):Int)) U4 (M1 _ _).symm om_ om_ U2<|Pp (tO _ g.m_ _ _ q om_ om_) U7 fl_<|C4 1 [4] c Z<|Pf U2<|⟨by rw [fP],Z⟩
       ·refine Pj 0 (Mem.le.refl _) (hn_ [0,1] Z) ⟨trivial,Z,Z⟩
      ·refine Pj 0 (Mem.le.refl _) (hn_ [0,1] Z) ⟨trivial,Z,Z⟩
     ·obtain ⟨_,rfl,rfl⟩:=l;exact O7 1 Z fun R c=>Pp (jD _ a om_) U7 fl_<|C4 5 [1,11,12] c Z<|O7 1 Z fun R c=>Pp (jD _ b om_) U7 fl_<|C4 5 [11,12,13,14] c Z<|O7 2 Z fun R c=>Pp (jF _ g.m_ _ _ k i om_ d.1 e.1) U7 fl_<|Pc 2 Z<|Pp (jF _ g.m_ _ _ k i om_ (pk d) (pk e)) U7 fl_<|Pp (um _ g.m_ _ _ (k+k) om_ om_ (dz d.1 e.1) (dz (pk d) (pk e)) (by rw [<- M1];omega)) U7 fl_<|C4 1 [4] c Z<|Pf U2<|⟨by rw [fP,<- M1,yp q],Z⟩
theorem dB (C:Mem)(e:Tabs C)(a b:Rat)(k:Nat)(c:0<k)(f:k<=10000)(g:QB k a)(d:QB k b):Gives cx.P 226 [al (qtx a),al (qtx b)] C (al (qtx (a-b))):=by
 have i:=bE d c;exact Ph func226 9 U3 fun w0=>C6 1 [0,1] Z<|O7 2 Z fun R h=>Pp (dT _ b om_) U7 fl_<|Pn (kX _ e.m_ a (-b) k c f g (fk d)) U7<|C4 1 [4] h Z<|Pf U2<|⟨by rw [O1],Z⟩
theorem gg (C:Mem)(n:Tabs C)(a b:Rat)(k:Nat)(g:0<k)(o:k<=10000)(p:QB k a)(f:QB k b)(h:b≠0):Gives cx.P 199 [al (qtx a),al (qtx b)] C (.tuple #[al (qtx (a / b)),.int .i64 0]):=by
 have v:=bE f g;have q:b.num≠0:=fun e=>h (Ou.1 e);obtain ⟨c,r,s,l⟩:=rG b;refine Ph func199 27 U3 fun w0=>C6 2 [0,1] Z<|C6 2 [0,1,9] Z<|O9 (fun j=>?_) fun j=>?_
 ·exfalso;rw [fw] at j;exact h (K5 j)
 ·refine O7 1 Z fun R d=>Pp (jD _ b om_) U7 fl_<|C4 5 [0,1,6,7] d Z<|O7 1 Z fun R d=>PY U8 (fun _=>⟨by omega,by rw [s];rfl⟩) U2<|C4 1 [0,6,7,17] d Z<|G.cut (fun fr C' L' t=>(True)/\fr=[(0,[],al (qtx a)),(6,[],al (txt (b.num.natAbs:Nat))),(7,[],al (txt (b⁻¹).num))]/\L'=[]) ?_ (fun fr _ w t _ u=>?_)
  ·refine O9 (fun i=>?_) fun i=>?_
   ·have m:b.num<0:=by rw [l] at i;exact K5 i
    refine O7 1 Z fun R d=>Pp (se _ b.num (by have:=bT f.1 g;omega)) U7 fl_<|Pa U6<|Pp (se _ ((b.den:Nat):Int) (by have:=bT (pk f) g;omega)) U7 fl_<|C4 2 [0,6,7] d Z ?_;rw [show -b.num=((b.num.natAbs:Nat):Int) by omega,show -((b.den:Nat):Int)=(b⁻¹).num by rw [Rat.num_inv,Int.sign_eq_neg_one_of_neg m,Int.neg_one_mul]];refine Pj 0 (Mem.le.refl _) (hn_ [0,6,7] Z) ⟨trivial,Z,Z⟩
   ·have m:¬ b.num<0:=by rw [l] at i;exact LS i
    rw [show b.num=((b.num.natAbs:Nat):Int) by omega,show ((b.den:Nat):Int)=(b⁻¹).num by rw [Rat.num_inv,Int.sign_eq_one_of_pos om_,Int.one_mul]];refine Pj 0 (Mem.le.refl _) (hn_ [0,6,7] Z) ⟨trivial,Z,Z⟩
  ·obtain ⟨_,rfl,rfl⟩:=u;rw [gc,show b.num.natAbs=(b⁻¹).den by rw [Rat.den_inv,aC q]];refine O7 3 Z fun R d=>Pp (Dx _ _ _ k g om_ (yK f h).1 (yK f h).2) U7 fl_ ?_;rw [<- nG b⁻¹];refine Pn (dm _ n.m_ a b⁻¹ k g o p (yK f h)) U7<|C4 2 [4,5] d Z<|Pl (G.dropAll (PE U3 ?_));exact ⟨by rw [Rat.div_def],Z⟩
theorem xe (C:Mem)(a:Tabs C)(z:Int)(c:z.natAbs<9000000000000000000):Gives cx.P 45 [.int .i64 z] C (al (qtx z)):=by
 exact Ph func45 5 U3 fun w0=>C6 1 [0] Z<|O7 1 Z fun R b=>Pp (yi _ a.m_ z om_ om_) U7 fl_<|C4 1 [2] b Z<|Pf U2<|⟨by rw [nH],Z⟩
theorem pow9 (k:Nat):B9 ^ k=10 ^ (9*k):=by rw [Nat.pow_mul]
theorem eO (h:cm s=true):s=txt (gW s)/\(gW s).natAbs<B9 ^ 23:=by
 have h1:=pI.1 h;refine ⟨Ek (by unfold cm at h;exact (Oj.1 h).1), ?_⟩;rw [Gy];have h2:=vI.1 h1.1;have h3:=dU h2.1.1;exact MV h3 (by rw [pow9];exact Mt dc_ om_)
theorem Hf (h:bd s=true):∃ q:Rat,s=qtx q/\QB 23 q:=by
 unfold bd at h;rw [L3,L3] at h;obtain ⟨⟨h1,h2⟩,h3⟩:=h;obtain ⟨a,b⟩:=eO h1;rcases fV 47 s with ⟨d,_,_⟩ | ⟨c,post,d,hs,_⟩
 ·rw [d] at a b;exact ⟨((gW s:Int):Rat),by rw [nH];exact a,KP b dc_⟩
 ·rw [d] at h2 h3 a b;simp only [M9] at h2 a b;obtain ⟨e,f⟩:=eO h2;unfold nC at h3;simp only [L3,LY,Nh] at h3;obtain ⟨⟨h4,_⟩,g⟩:=h3;have i:(gW post).natAbs≠0:=by omega
  refine ⟨⟨gW c,(gW post).natAbs,i,g⟩, ?_,b,f⟩;rw [nG];show s=txt (gW c)++eF (lX (gW post).natAbs);rw [iB om_,<- a,hs];show c++47::post=c++47::bP (gW post).natAbs;rw [<- gc,show (((gW post).natAbs:Nat):Int)=gW post by omega,<- e]
theorem pi (C:Mem)(b:Str)(a:cm b=true):Gives cx.P 161 [al b,al [49]] C (.int .i64 (sZ (gW b) 1)):=by
 obtain ⟨h1,h2⟩:=eO a;have h:=ot C (gW b) 1 (by have:=bT h2 dc_;omega) (by rw [show bP (1:Int).natAbs=[49] from one_dec];decide)
 rwa [<- one_val,<- h1] at h
theorem zO (C:Mem)(c:Tabs C)(a b:Str)(d:cm a=true)(e:cm b=true):Gives cx.P 208 [al a,al b] C (al (txt (Nat.gcd (gW a).natAbs (gW b).natAbs:Nat))):=by
 obtain ⟨h1,h2⟩:=eO d;obtain ⟨h3,h4⟩:=eO e;have h:=DB C c (gW a) (gW b) 23 dc_ dc_ h2 h4
 rwa [<- h1,<- h3] at h
theorem uL {b:Bool}(h:(oW b != 0)=false):b=true:=by cases b <;> first | rfl | (exact absurd h dc_)
theorem dq (C:Mem)(y:Tabs C)(s:Str)(A:s.length<=999998):Gives cx.P 140 [al s] C (.int .i64 (oW (bd s))):=by
 have u:=Ca A;obtain ⟨c,f,l⟩:∃ a b,jb 47 s=(a,b):=⟨_,_,rfl⟩;have k:bd s=(cm c && cm (f.getD [49]) && nC (gW c) f):=by
  unfold bd;rw [l]
 rw [l] at u;simp only at u;refine Ph func140 39 U3 fun w0=>C6 1 [0] Z<|O7 1 Z fun R g=>Pp (by have h:=HJ C s 47 om_;rw [l] at h;exact h) U7 fl_<|C4 7 [3,4,5] g Z<|O7 1 Z fun R g=>Pn (uv _ c) U7<|C4 1 [3,4,5,16] g Z<|O9 (fun i=>?_) fun i=>?_
 ·have j:bd s=false:=by
   rw [k];cases h1:cm c with
   | false=>rfl
   | true=>rw [h1] at i;exact absurd i dc_
  exact C6 1 [2] Z<|Pf U2<|⟨by rw [j];rfl,Z⟩
 ·have m:cm c=true:=by
   cases h1:cm c with
   | true=>rfl
   | false=>rw [h1] at i;exact absurd i dc_
  rw [m,OD] at k;obtain ⟨v,B⟩:=eO m;refine C6 2 [3,4,18] Z<|O9 (fun n=>?_) fun n=>?_
  ·have o:f=none:=by
    cases f with
    | none=>rfl
    | some b=>simp at n
   refine C6 1 [2] Z<|Pf U2<|⟨?_,Z⟩;rw [k,o];rfl
  ·obtain ⟨b,o⟩:∃ b,f=some b:=by
    cases f with
    | some b=>exact ⟨b,rfl⟩
    | none=>simp at n
   subst o;obtain ⟨d,w⟩:∃ z,gW c=z:=⟨_,rfl⟩;obtain ⟨e,x⟩:∃ z,gW b=z:=⟨_,rfl⟩;have p:bd s=(cm b && nC (gW c) (some b)):=k;unfold nC at p;simp only [w,x] at p v B;have D:(c == [48])=(d == 0):=by
    rw [v];have h:=xi d;rw [show (d == 0)=decide (d=0) by by_cases h:d=0 <;> simp [h]];exact h
   have E:(oW (cm b) != 0)=!cm b:=by cases cm b <;> rfl
   have F:decide (sZ e 1<=0)=!decide (1<e):=by
    unfold sZ;by_cases h:1<e
    ·rw [aC om_,aI h,Mc h];rfl
    ·rw [Mk h];refine Mc ?_;split <;> first | omega | (split <;> omega)
   have q:(oW (cm b) != 0 || decide (sZ (gW b) 1<=0) || (c == [48]) || !(bP ((gW c).natAbs.gcd (gW b).natAbs) == [49]))=!bd s:=by
    have G:=yx (d.natAbs.gcd e.natAbs);have H:(bP (d.natAbs.gcd e.natAbs) == [49])=(d.natAbs.gcd e.natAbs == 1):=G;rw [w,x,D,E,F,H,p];cases cm b <;> cases decide (1<e) <;> cases (d == 0) <;> cases (d.natAbs.gcd e.natAbs == 1) <;> rfl
   rw [<- gc] at q;refine C6 4 [6,7] Z<|O7 1 Z fun R g=>Pn (uv _ b) U7<|Pc 3 Z<|Pw (fun r=>(pi _ b (by exact uL (show (oW (cm b) != 0)=false/\True from r).1))) U9<|Pa U6<|PD U8<|Pc 3 Z<|PD U8<|Pc 3 Z<|Pw (fun r=>(zO _ y.m_ c b m (by exact uL (Nb.1 (Nb.1 (show (((oW (cm b) != 0) || decide (sZ (gW b) 1<=0)) || (c == [48]))=false/\True from r).1).1).1))) U9<|Pa U6<|PD U8<|Pd [38] g Z<|O9 (fun t=>?_) fun t=>?_
   ·have j:bd s=false:=by
     have h:(!bd s)=true:=q.symm.trans t;simpa using h
    exact C6 1 [2] Z<|Pf U2<|⟨by rw [j];rfl,Z⟩
   ·have j:bd s=true:=by
     have h:(!bd s)=false:=q.symm.trans t;simpa using h
    exact C6 1 [2] Z<|Pf U2<|⟨by rw [j];rfl,Z⟩
theorem xK (q:Rat):q.num<0 ↔ q<0:=by
 rw [Rat.lt_iff];simp
theorem tS (h:(bP z.natAbs).length<=200):cm (txt z)=true:=by
 refine pI.2 ?_;rw [dv];refine ⟨vI.2 ⟨(bN _).1,h⟩,fun a=>?_⟩;have h1:=K5 a;show 0<cR (bP z.natAbs);rw [(bN _).2];omega
theorem yu (z:Int):gW (txt z)=z:=by
 unfold gW;rw [dv];show sgZ (decide (z<0)) (cR (bP z.natAbs))=z;rw [(bN _).2];unfold sgZ;by_cases h:z<0
 ·rw [Mc h,aI rfl];omega
 ·rw [Mk h,aC dc_];omega
theorem bx (h:QB 22 q):bd (qtx q)=true:=by
 have h1:(bP q.num.natAbs).length<=200:=by have:=bT h.1 dc_;omega
 have h2:(bP q.den).length<=200:=by have:=bT h.2 dc_;omega
 unfold bd;rw [mF];show (cm (txt q.num) && cm ((lX q.den).getD [49]) && nC (gW (txt q.num)) (lX q.den))=true;rw [D4,yu,tS h1,<- gc,tS (by rw [MT];exact h2),OD,OD];by_cases a:q.den=1
 ·rw [sy a];rfl
 ·rw [iB a];unfold nC;show (decide (1<gW (bP q.den)) && !(q.num == 0) && (Nat.gcd q.num.natAbs (gW (bP q.den)).natAbs == 1))=true;have b:gW (bP q.den)=((q.den:Nat):Int):=by rw [<- gc,yu]
  have d:=gk q;rw [b,Mc om_,MT,show Nat.gcd q.num.natAbs q.den=1 from q.reduced];have c:q.num≠0:=by
   intro e;have h3:=q.reduced;rw [e] at h3;have h4:Nat.gcd 0 q.den=1:=h3;rw [Nat.gcd_zero_left] at h4;exact a h4
  simp [c]
theorem uM (h:QB 22 q):oW (bd (qtx q))=0:=by rw [bx h];rfl
abbrev Pt:=Rat × Rat
def hU (p:Pt):List Value:=[al (qtx p.1),al (qtx p.2)]
def ptV (p:Pt):Value:=.agg ⟨hU p⟩
def QP (k:Nat)(p:Pt):Prop:=QB k p.1/\QB k p.2
def fh (a b c:Pt):Rat:=(b.1-a.1)*(c.2-a.2)-(b.2-a.2)*(c.1-a.1)
theorem fW (b:Bool):oW b=0/\b=true∨oW b=2/\b=false:=by cases b <;> simp [oW]
def lW (s:Str):List Value:=[al s]
theorem pT (C:Mem)(h:Tabs C)(v:Value)(l:List Str)(c:Sl C 1 v (l.map lW))(j:∀ s∈l,s.length<=999998):Gives cx.P 151 [v] C (.int .i64 (oW (l.all bd))):=by
 obtain ⟨k,c0,rfl,n,w,_⟩:=id c;have x:maxLen<=9223372036854775807:=by simp [maxLen]
 simp only [ax] at c n ⊢;refine Ph func151 18 U3 fun w0=>C6 1 [0] Z<|C6 3 [6,7,8] Z<|G.loop (fun fr C' o p=>∃ (i:Nat),(i<=l.length/\(l.take i).all bd=true)/\fr=[(6,[],.slice k l.length c0),(7,[],.int .i64 l.length),(8,[],.int .i64 i)]/\o=[]/\p=l.length-i) (hn_ [6,7,8] Z) ⟨0,⟨LV _,by simp⟩,Z,Z,Z⟩ (fun fr y z m q r=>?_);obtain ⟨i,⟨A,d⟩,rfl,rfl,rfl⟩:=r;refine C6 1 [6,7,8,9] Z<|O9 (fun e=>?_) fun e=>?_
 ·have f:i<l.length:=by simpa using e
  obtain ⟨s,hs⟩:∃ s,l[i]?=some s:=⟨l[i],aj f⟩;refine Pb fun R a=>Pm c.m_ U10 om_ (by rw [LU,hs];rfl:(l.map lW)[i]?=some (lW s)) fl_ fun B t=>O8 t U8<|C4 1 [4,6,7,8] a Z<|O7 1 Z fun R a=>Pn (dq _ h.m_ s (j s (LQ hs))) U7<|C4 1 [5,6,7,8] a Z<|C6 2 [5,6,7,8,15] Z<|O9 (fun b=>?_) fun b=>?_
  ·have g:bd s=false:=by
    rcases fW (bd s) with ⟨h1,h2⟩ | ⟨h1,h2⟩
    ·rw [h1] at b;exact absurd b dc_
    ·exact h2
   refine C6 2 [2] Z<|Pf U2<|⟨?_,Z⟩;rw [g,show l.all bd=false from Ob.2 ⟨s,LQ hs,by rw [g];decide⟩]
  ·have u:bd s=true:=by
    rcases fW (bd s) with ⟨h1,h2⟩ | ⟨h1,h2⟩
    ·exact h2
    ·rw [h1] at b;exact absurd b dc_
   refine Pb fun R a=>Pi _ U7<|C4 1 [6,7,8] a Z<|Pk (m':=l.length-(i+1)) om_ q (hn_ [6,7,8] Z) ⟨i+1,⟨by omega,by rw [Mx,hs,OR,d];simp [u]⟩,Z,Z,Z⟩
 ·have f:i=l.length:=by
   have:¬ i<l.length:=by simpa using e
   omega
  refine C6 1 [2] Z<|Pf U2<|⟨?_,Z⟩;rw [f,Mb] at d;rw [d];rfl
theorem JM (a:s.length<=n)(b:t.length<=n):∀ x∈[s,t],x.length<=n:=by simp [a,b]
theorem EZ {u:Str}(a:s.length<=n)(b:t.length<=n)(c:u.length<=n):∀ x∈[s,t,u],x.length<=n:=by simp [a,b,c]
theorem gM (C:Mem)(b:Tabs C)(s t:Str)(c:s.length<=999998)(d:t.length<=999998):Gives cx.P 99 [.agg ⟨[al s,al t]⟩] C (.int .i64 (oW (bd s && bd t))):=by
 refine Ph func99 9 U3 fun w0=>Pb fun R a=>Pr U6 fun f=>C4 1 [1] a Z<|O7 1 Z fun R a=>Pe (.head _) U9<|Pa U6<|Pe (.head _) U9<|Ps [lW s,lW t] U12 fun g _ _ e=>Pn (pT _ b.m_ _ [s,t] e.m_ (JM c d)) U7<|C4 1 [2] a Z<|Pf U2<|⟨?_,Z⟩;simp
theorem pm (C:Mem)(b:Tabs C)(s t u:Str)(c:s.length<=999998)(d:t.length<=999998)(e:u.length<=999998):Gives cx.P 162 [.agg ⟨[al s,al t,al u]⟩] C (.int .i64 (oW (bd s && bd t && bd u))):=by
 refine Ph func162 11 U3 fun w0=>Pb fun R a=>Pr U6 fun g=>C4 1 [1] a Z<|O7 1 Z fun R a=>Pe (.head _) U9<|Pa U6<|Pe (.head _) U9<|Pa U6<|Pe (.head _) U9<|Ps [lW s,lW t,lW u] U12 fun h _ _ f=>Pn (pT _ b.m_ _ [s,t,u] f.m_ (EZ c d e)) U7<|C4 1 [2] a Z<|Pf U2<|⟨?_,Z⟩;simp [Bool.and_assoc]
theorem jK (C:Mem)(e:Tabs C)(a b c:Pt)(k:Nat)(g:0<k)(l:k<=1000)(d:QP k a)(h:QP k b)(i:QP k c):Gives cx.P 152 [ptV a,ptV b,ptV c] C (al (qtx (fh a b c))):=by
 have h1:=kH h.1 d.1;have h2:=kH i.2 d.2;have h3:=kH h.2 d.2;have h4:=kH i.1 d.1;exact Ph func152 32 U3 fun w0=>Pb fun R f=>Pr U6 fun m=>Pr U6 fun n=>Pr U6 fun o=>C4 1 [3,4,5] f Z<|Pv [0,1,2,3,4,5,6,7,8,9,10,11] [(4,1),(9,1),(10,1)] Z kr_ fun R j f=>Pa U6<|Pe (.tail _ (.head _)) U9<|Pa U6<|Pe (.tail _ (.tail _ (.head _))) U9<|Pw (fun _=>(dB _ e.m_ b.1 a.1 k g om_ h.1 d.1)) U9<|Pa U6<|Pe (.head _) U9<|Pa U6<|Pe (.tail _ (.tail _ (.head _))) U9<|Pw (fun _=>(dB _ e.m_ c.2 a.2 k g om_ i.2 d.2)) U9<|Pw (fun _=>(dm _ e.m_ (b.1-a.1) (c.2-a.2) (k+k+1) om_ om_ h1 h2)) U9<|C4 1 [3,4,5,7] f Z<|Pv [0,1,2,3,4,5,6,7,8,9,10,11,12,13] [(5,1),(10,1),(11,1),(12,1)] Z kr_ fun R j f=>Pc 2 Z<|Pe (.tail _ (.head _)) U9<|Pa U6<|Pe (.tail _ (.tail _ (.head _))) U9<|Pw (fun _=>(dB _ e.m_ b.2 a.2 k g om_ h.2 d.2)) U9<|Pa U6<|Pe (.head _) U9<|Pa U6<|Pe (.tail _ (.tail _ (.head _))) U9<|Pw (fun _=>(dB _ e.m_ c.1 a.1 k g om_ i.1 d.1)) U9<|Pw (fun _=>(dm _ e.m_ (b.2-a.2) (c.1-a.1) (k+k+1) om_ om_ h3 h4)) U9<|Pw (fun _=>(dB _ e.m_ ((b.1-a.1)*(c.2-a.2)) ((b.2-a.2)*(c.1-a.1)) (k+k+1+(k+k+1)) om_ om_ (oT h1 h2) (oT h3 h4))) U9<|C4 1 [6] f Z<|Pf U2<|⟨Z,Z⟩
theorem wD {a b c:Pt}(d:QP k a)(e:QP k b)(f:QP k c):QB (8*k+5) (fh a b c):=by
 have h:=kH (oT (kH e.1 d.1) (kH f.2 d.2)) (oT (kH e.2 d.2) (kH f.1 d.1));exact h.le om_
theorem mZ (C:Mem)(h:Tabs C)(a b c:Pt)(k:Nat)(i:0<k)(j:k<=1000)(e:QP k a)(f:QP k b)(g:QP k c):Gives cx.P 100 [ptV a,ptV b,ptV c] C (.int .i64 (dX (fh a b c).num)):=by
 exact Ph func100 12 U3 fun w0=>Pb fun R d=>Pr U6 fun l=>Pr U6 fun m=>Pr U6 fun n=>C4 1 [3,4,5] d Z<|Pb fun R d=>Pe (.tail _ (.tail _ (.head _))) U9<|Pe (.tail _ (.head _)) U9<|Pe (.head _) U9<|Pn (jK _ h.m_ a b c k i j e f g) U7<|Pp (fu _ (fh a b c) (by have:=bE (wD e f g) om_;omega)) U7 fl_<|C4 1 [6] d Z<|Pf U2<|⟨Z,Z⟩
theorem rB (C:Mem)(c:Tabs C)(q:Rat)(b:QB 22 q):Gives cx.P 274 [al (qtx q)] C (.tuple #[al (qtx q),.int .i64 0]):=by
 refine Ph func274 8 U3 fun w0=>C6 2 [0] Z<|O7 1 Z fun R d=>Pp (dq _ c.m_ _ (by have:=bE b dc_;omega)) U7 fl_<|C4 1 [0,6] d Z<|O9 (fun a=>?_) fun a=>?_
 ·exfalso;rw [uM b] at a;exact absurd a dc_
 ·refine C6 3 [2,3] Z<|Pl (G.dropAll (PE U3 ?_));exact ⟨Z,Z⟩
abbrev Tri:=Nat × Nat × Nat
def jI (t:Tri):List Value:=[.int .i64 (t.1:Nat),.int .i64 (t.2.1:Nat),.int .i64 (t.2.2:Nat)]
def Jh (a b c:Pt):Value:=.agg ⟨hU a++hU b++hU c⟩
theorem Aq (C:Mem)(k l:Value)(d:List Pt)(g:List Tri)(i:Nat)(t:Tri)(a b c:Pt)(e:Sl C 2 k (d.map hU))(h:Sl C 3 l (g.map jI))(m:g[i]?=some t)(n:d[t.1]?=some a)(o:d[t.2.1]?=some b)(p:d[t.2.2]?=some c) :
  Gives cx.P 156 [.agg ⟨[k,l]⟩,.int .i64 i] C (Jh a b c):=by
 obtain ⟨x,y,rfl,q,z,_⟩:=id e;obtain ⟨A2,c2,rfl,r,A,_⟩:=id h;have B:maxLen<=9223372036854775807:=by simp [maxLen]
 simp only [ax] at e h q r ⊢;have D:=(aX.1 m).1;have E:=(aX.1 n).1;have F:=(aX.1 o).1;have G:=(aX.1 p).1;refine Ph func156 30 U3 fun w0=>Pb fun R f=>Pr U6 fun H=>Pq U5 fun I=>Pd [1,2,4] f Z<|O7 1 Z fun R f=>Pe (.tail _ (.head _)) U9<|Pa U6<|Pm h.m_ U10 om_ (by rw [LU,m];rfl:(g.map jI)[i]?=some (jI t)) fl_ fun J s=>O8 s U8<|Pq U5 fun K=>Pg (j:=0) U12<|Pd [2,4,5] f Z<|Pv [0,1,2,3,4,5,6,7,8,9,10,11,12,13,14,15,16,17,18,19] [] Z kr_ fun R L f=>Pa U6<|Pe (.tail _ (.tail _ (.head _))) U9<|Py (0) U9 (fun _=>⟨by decide,by decide,Z⟩) U2<|Pe (.head _) U9<|Pm e.m_ U10 om_ (by rw [LU,n];rfl:(d.map hU)[t.1]?=some (hU a)) fl_ fun M u=>O8 u U8<|Pa U6<|Pe (.tail _ (.tail _ (.head _))) U9<|Py (1) U9 (fun _=>⟨by decide,by decide,Z⟩) U2<|Pe (.head _) U9<|Pm e.m_ U10 om_ (by rw [LU,o];rfl:(d.map hU)[t.2.1]?=some (hU b)) fl_ fun N v=>O8 v U8<|Pa U6<|Pe (.tail _ (.tail _ (.head _))) U9<|Py (2) U9 (fun _=>⟨by decide,by decide,Z⟩) U2<|Pe (.head _) U9<|Pm e.m_ U10 om_ (by rw [LU,p];rfl:(d.map hU)[t.2.2]?=some (hU c)) fl_ fun O w=>O8 w U8<|PB (hU a++hU b++hU c) U8<|Pg (j:=1) U12<|Pd [4] f Z<|Pl (PW (.head _) U4 ?_);exact ⟨Z,Z⟩
theorem Dy (C:Mem)(d:Tabs C)(a b c p:Pt)(k:Nat)(e:0<k)(f:k<=1000)(j:QP k a)(l:QP k b)(m:QP k c)(g:QP k p) :
  Gives cx.P 225 [Jh a b c,ptV p] C (.bool (decide (0<=fh a b p) && decide (0<=fh b c p) && decide (0<=fh c a p))):=by
 refine Ph func225 30 U3 fun w0=>Pb fun R i=>Pr U6 fun n=>Pr U6 fun o=>C4 1 [2,3] i Z<|Pb fun R i=>Py (0) U9 (fun _=>⟨by decide,by decide,Z⟩) U2<|Pe (.tail _ (.head _)) U9<|Py (2) U9 (fun _=>⟨by decide,by decide,Z⟩) U2<|Pe (.tail _ (.head _)) U9<|Pe (.head _) U9<|Pn (mZ _ d.m_ a b p k e f j l g) U7<|Pc 2 Z<|Py (2) U9 (fun _=>⟨by decide,by decide,Z⟩) U2<|Pe (.tail _ (.head _)) U9<|Py (4) U9 (fun _=>⟨by decide,by decide,Z⟩) U2<|Pe (.tail _ (.head _)) U9<|Pe (.head _) U9<|PH (fun _=>(mZ _ d.m_ b c p k e f l m g)) U9<|Pa U6<|Pz U8<|Pa U6<|Py (4) U9 (fun _=>⟨by decide,by decide,Z⟩) U2<|Pe (.tail _ (.head _)) U9<|Py (0) U9 (fun _=>⟨by decide,by decide,Z⟩) U2<|Pe (.tail _ (.head _)) U9<|Pe (.head _) U9<|PH (fun _=>(mZ _ d.m_ c a p k e f m j g)) U9<|Pa U6<|Pz U8<|C4 1 [4] i Z<|Pf U2<|⟨?_,Z⟩;have hs:∀ q:Rat,decide (dX q.num ≥ 0)=decide (0<=q):=fun q=>by
  rw [MH,<- Rat.num_nonneg];rcases dR q.num with h | h | h <;> omega
 rw [<- hs,<- hs,<- hs]
open Go Go.Jog Go.RowKit Go.Shelf
attribute [local go_sem] Oper.semAt_some
def H2 (zs:Nat->Int)(k:Nat):Value:=.agg #[.int .i64 (zs k),.int .i64 (zs ((k+1) % 3))]
set_option maxRecDepth 100000 in
theorem Fe (l Bs:Nat)(zs:Nat->Int)(J:Nat->World->Prop)
  (hD:∀ k W,J k W->J k W.drew)
  (hJ:∀ k W,J k W->∀ j,j<3->W.cell? ⟨Bs,j,none⟩=some (.int .i64 (zs j)))
  (hY:∀ k W,J k W->k<3->YieldAt Fence.wide 1 Tryz.prog l #[.int .i64 (k:Nat),H2 zs k] W fun e W'=>e=.returned (.bool true)/\J (k+1) W')
  (W:World) (h0:J 0 W) :
  CallsIn Fence.wide 2 Tryz.prog 265 #[.func (.yield l) #[] #[],.pointer (some ⟨Bs,0,none⟩)] W fun e W'=>(∃ v,e=.returned v)/\J 3 W':=by
 refine callsIn_of_wp func265 Z trivial ?_ Z;simp only [Tryz.ntmps265,NG,Ml,MM,Nat.reduceAdd,Nat.reduceSub,OO,OP,List.push_toArray,List.append_toArray,Nu,ND]
 gi_wp2
 gi_loopw [4] (fun i wr=>∃ k:Nat,k<=3/\i=.int .i64 k/\J k wr) (fun i _=>(3-intOf i).toNat)
 case atStart=>exact ⟨0,by omega,rfl,h0⟩
 case round =>
  obtain ⟨k,hk,rfl,hJs⟩:=hrel;by_cases hlt:k<3
  ·have hJd:=hD k wr hJs;have hcd:=hJ k _ hJd;obtain ⟨fn,tmps,assign,body,hy,hR⟩:=hY k _ hJd hlt;rcases (by omega:k=0∨k=1∨k=2) with rfl | rfl | rfl
   ·have hc0:=hcd 0 om_;have hc1:=hcd 1 om_;have hy2:Sem.run Tryz.prog (Instr.yield l #[Value.int .i64 0,Value.agg #[.int .i64 (zs 0),.int .i64 (zs 1)]]) wr.drew=.ok (.round l fn tmps assign body) wr.drew:=hy;clear hy
    gi_wp2
    gi_region_with (refine hR.mono ?_;rintro e W3 ⟨rfl,hJ3⟩)
    all_goals
     gi_wp2
     go_roundw
     case rel=>exact ⟨1,by omega,rfl,hJ3⟩
     case measure=>simp [intOf]
   ·have hc0:=hcd 1 om_;have hc1:=hcd 2 om_;have hy2:Sem.run Tryz.prog (Instr.yield l #[Value.int .i64 1,Value.agg #[.int .i64 (zs 1),.int .i64 (zs 2)]]) wr.drew=.ok (.round l fn tmps assign body) wr.drew:=hy;clear hy
    gi_wp2
    gi_region_with (refine hR.mono ?_;rintro e W3 ⟨rfl,hJ3⟩)
    all_goals
     gi_wp2
     go_roundw
     case rel=>exact ⟨2,by omega,rfl,hJ3⟩
     case measure=>simp [intOf]
   ·have hc0:=hcd 2 om_;have hc1:=hcd 0 om_;have hy2:Sem.run Tryz.prog (Instr.yield l #[Value.int .i64 2,Value.agg #[.int .i64 (zs 2),.int .i64 (zs 0)]]) wr.drew=.ok (.round l fn tmps assign body) wr.drew:=hy;clear hy
    gi_wp2
    gi_region_with (refine hR.mono ?_;rintro e W3 ⟨rfl,hJ3⟩)
    all_goals
     gi_wp2
     go_roundw
     case rel=>exact ⟨3,by omega,rfl,hJ3⟩
     case measure=>simp [intOf]
  ·obtain rfl:k=3:=by omega
   gi_wp2
   go_end0
   exact ⟨⟨_,Z⟩,hJs⟩
def Bw (t:Tri)(j:Nat):Int:=if j=0 then (t.1:Nat) else if j=1 then (t.2.1:Nat) else (t.2.2:Nat)
def tH (t:Tri):List (Value × Value):=(List.range 3).map fun k=>(.int .i64 (k:Nat),H2 (Bw t) k)
theorem kU (t:Tri):(tH t).length=3:=rfl
theorem tG {t:Tri}(h:k<3):(tH t)[k]?=some (.int .i64 (k:Nat),H2 (Bw t) k):=by
 simp [tH,h]
theorem zj (C:Mem)(b c:Nat)(t:Tri)(d:C b=some (.cells ⟨jI t⟩ c (0,0))) :
  K4 Tryz.prog 265 #[.pointer (some ⟨b,0,none⟩)] C (tH t):=by
 intro l J W hC e f h0;refine Fe l b (Bw t) J e (fun k W a j h=>?_) (fun k W a g=>f k _ W a (tG g)) W h0;have h1:=hC k W a b _ d;rcases (by omega:j=0∨j=1∨j=2) with rfl | rfl | rfl <;> simp [World.cell?,h1,jI,Bw]
theorem Ff (C:Mem)(t:Tri):Pur cx.P 227 [.agg ⟨jI t⟩] C fun r C'=>∃ b,r=.func (.func 265) #[] #[.pointer (some ⟨b,0,none⟩)]/\C' b=some (.cells ⟨jI t⟩ 108 (0,0)):=by
 exact Ph func227 4 U3 fun w0=>Pb fun R a=>Pr U6 fun d=>C4 1 [1] a Z<|C6 2 [2] Z<|G.freeze 0 Z fun e f c=>Pf U2<|⟨Z,_,Z,c⟩
end Go.Proofs.YthnpijdjlddpmaaGreatDoor
namespace Go.Jog
open Go
theorem St.arrObj {l:World}{o:Mem}{p:List Ent}{C:Mem}{L:List Ent}{w:World}{b e s m g:Nat}{i:List Value}(h:St l o p C (.arr (.slice (some ⟨b,0,none⟩) m g) e s m i::L) w) :
  ∃ cs:List Value,cs.length=g*s/\cs.take (m*s)=i/\m<=g/\g<=maxLen/\St l o p C (.obj b (.cells ⟨cs⟩ e (0,0))::L) w:=by
 have t:w.ownsRow 0 e s (.slice (some ⟨b,0,none⟩) m g) m i:=h.sep.e _ (aF ..);obtain ⟨_,u,v,q,z,A,B⟩:=cG t;have r:=MI.1 h.sep.d;have j:∀ k,(Ent.obj b (.cells ⟨q.toList⟩ e (0,0))).own k->(Ent.arr (.slice (some ⟨b,0,none⟩) m g) e s m i).own k:=fun k f=>by
  simp only [Ent.own] at f;subst f;rfl
 refine ⟨q.toList,by simpa using A,B,u,v,⟨⟨h.sep.c,fun x a=>?_,MI.2 ⟨fun y hy k f=>r.1 y hy k (j k f),r.2⟩,fun k ⟨x,a,f⟩=>?_⟩,h.ev,h.c0,h.cn,fun k ⟨x,a,f⟩=>?_⟩⟩
 ·rcases Ma.1 a with rfl | a
  ·exact z
  ·exact h.sep.e x (by simp [a])
 ·rcases Ma.1 a with rfl | a
  ·exact h.sep.n k ⟨_,aF ..,j k f⟩
  ·exact h.sep.n k ⟨x,by simp [a],f⟩
 ·rcases Ma.1 a with rfl | a
  ·exact h.ln k ⟨_,aF ..,j k f⟩
  ·exact h.ln k ⟨x,by simp [a],f⟩
end Go.Jog
namespace Go.Jog
open Go Go.MapKept
def bi (bm n:Nat)(seen:List Nat):Obj:=.mapIter (some bm) n seen.toArray n
theorem iu {b:Type}(a:b->Value):∀ (m:List (b × Value))(i j:Nat),(bq a m i)[j]?=(m[j]?).map fun p=>⟨a p.1,p.2,i+j⟩
 | [],i,j=>by simp [bq]
 | (k,v)::m,i,0=>by simp [bq]
 | (k,v)::m,i,j+1=>by
  simp only [bq,NC,iu a m (i+1) j];cases m[j]? with
  | none=>rfl
  | some p=>simp;omega
theorem kh {c:Type}{d:c->Value}{m:List (c × Value)}{e:MapEntry}(h:e∈bq d m 0):∃ p,m[e.born]?=some p/\e.key=d p.1/\e.val=p.2:=by
 obtain ⟨j,a⟩:=M2 h;rw [iu] at a;cases b:m[j]? with
 | none=>rw [b] at a;cases a
 | some p =>
  rw [b] at a;cases a
  exact ⟨p,by simpa using b,Z,Z⟩
theorem nY {a:Type}(b:a->Value)(m:List (a × Value)):((bq b m 0).map (·.born)).Nodup:=by
 have:∀ (m:List (a × Value))(i:Nat),(bq b m i).map (·.born)=List.range' i m.length:=by
  intro m;induction m with
  | nil=>intro i;rfl
  | cons p m c=>intro i;simp only [bq,Mp,c,Ml,O3]
 rw [this];exact List.nodup_range'
section
variable {cx:Cx} {n:Nat} {ds:List (Option Nat)} {R:Rg n ds} {its:List It} {fr:Fr} {C:Mem} {L:List Ent} {i k d:Nat} {o:Oper} {g:GL} {v:Value}
variable {kd:TypeDesc} {κ:Type} [DecidableEq κ] (K:KeyT kd κ)
theorem Q6 {t j l e:Nat}{x:Operand}{m:List (κ × Value)}{p:TI}(s:C e=some (aM K.enc m))(u:Nat.ble k 1=false)(y:o.dst=some d)(z:gOn ds fr o.guard=true)(A:o.op=.range t x)(f:ev fr [] x=some (.map (some e)))
  (B:cx.T.get t=some p) (E:p.k=.map j l) (F:∀ v,aO n ds ((d,[],v)::fr) d=true)
  (h:∀ b,D cx R its ((d,[],.pointer (some ⟨b,0,none⟩))::fr) C (.obj b (bi e m.length [])::L)):D cx R ((i,k,o)::its) fr C L :=
 PP (S:=fun v C' q=>C'=C/\∃ b,v=.pointer (some ⟨b,0,none⟩)/\q=.obj b (bi e m.length [])::L) u y z F (fun a hs w _ r=>by
  have G:w.heap[e]?=some (aM K.enc m):=r.sep.c _ _ s;have H:=gb cx.hT B E;have I:(execOp a.eval o).run cx.P w=.ok (.value (.pointer (some ⟨w.heap.size,0,none⟩))) (w.alloc (bi e m.length [])):=by
   have g:execOp a.eval o=(do Pure.pure (.value (<- Instr.range t (a.eval x))):Sem Next):=by unfold execOp;rw [A]
   rw [g,hs _ _ f];simp only [Sem.run_bind,run_range_map w t j l e _ _ H G,Result.andThen_ok,Sem.run_pure];rfl
  unfold Oper.wp;rw [I];exact ⟨_,C,.obj w.heap.size (bi e m.length [])::L,Z,Mem.le.refl _,fun _ x f=>by simp [f],St.alloc r _,Z,_,Z,Z⟩)
  (fun v C' q _ ⟨g,b,J,M⟩=>by subst g;subst J;subst M;exact h b)
theorem pZ {a:Type}{enc:a->Value}{m:List (a × Value)}{b:List Nat}{j:Nat}{p:a × Value}(c:m[j]?=some p)(d:j ∉ b):(⟨enc p.1,p.2,j⟩:MapEntry)∈(leftOf (bq enc m 0).toArray b.toArray).toList:=by
 unfold leftOf;simp only [Array.toList_filter,NP];refine ⟨?_, ?_⟩
 ·refine LQ (i:=j) ?_;rw [iu,c];simp
 ·simpa using d
theorem Rf {b q g:Nat}{x:Operand}{m:List (κ × Value)}{f:List Nat}(hc:C g=some (aM K.enc m))(hk:k=3)(hd:o.dst=some d)(hg:gOn ds fr o.guard=true)(aa:o.op=.next x false)(l:ev fr [] x=some (.pointer (some ⟨b,0,none⟩)))
  (hm:L[q]?=some (.obj b (bi g m.length f))) (hp:∀ v,aO n ds ((d,[],v)::fr) d=true)
  (h:∀ (r:Bool)(rest:List Value)(s:List Nat),(r=false/\s=f/\∀ j,j<m.length->j∈f)∨(r=true/\∃ j,j<m.length/\j ∉ f/\s=f++[j]) ->
   D cx R its ((d,[],.tuple ⟨.bool r::rest⟩)::fr) C (.obj b (bi g m.length s)::L.eraseIdx q)):D cx R ((i,k,o)::its) fr C L :=
 PP (S:=fun v C' N=>C'=C/\∃ (r:Bool)(rest:List Value)(s:List Nat),((r=false/\s=f/\∀ j,j<m.length->j∈f)∨(r=true/\∃ j,j<m.length/\j ∉ f/\s=f++[j]))/\v=.tuple ⟨.bool r::rest⟩/\N=.obj b (bi g m.length s)::L.eraseIdx q) (by subst hk;rfl) hd hg hp (fun a hs w _ O=>by
  have z:=St.perm O (ae hm);have A:w.heap[b]?=some (bi g m.length f):=z.sep.e _ (aF ..);have ab:w.heap[g]?=some (aM K.enc m):=O.sep.c _ _ hc;have u:execOp a.eval o=(do Pure.pure (.value (<- Instr.next (a.eval x) false 0)):Sem Next):=by unfold execOp;rw [aa];rfl
  have hold:∀ x∈(bq K.enc m 0).toArray.toList,x.born<m.length:=fun x l=>by
   obtain ⟨p,h1,_⟩:=kh (show x∈bq K.enc m 0 by simpa using l);exact (aX.1 h1).1
  have ac:∀ w:World,w.heap[b]?=some (bi g m.length f)->(getObj b).run cx.P w=.ok (bi g m.length f) w:=fun w h=>by
   simp only [getObj,Sem.run,h,bi]
  have B:(∀ j,j<m.length->j∈f)/\(Instr.next (.pointer (some ⟨b,0,none⟩)) false 0).run cx.P w=.ok (.tuple #[.bool false]) w ∨
    ∃ (j:Nat)(p:κ × Value)(w1:World),m[j]?=some p/\j ∉ f/\w1.heap=w.heap/\w1.os=w.os/\w1.tape=w.tape/\w1.output=w.output/\w.drawn<=w1.drawn /\
     (Instr.next (.pointer (some ⟨b,0,none⟩)) false 0).run cx.P w=.ok (.tuple #[.bool true,K.enc p.1,p.2]) { w1 with heap:=w1.heap.setIfInBounds b (bi g m.length (f++[j])) }:=by
   have ad:(Instr.next (.pointer (some ⟨b,0,none⟩)) false 0).run cx.P w=(do
     let Q:=(if (leftOf (bq K.enc m 0).toArray f.toArray).isEmpty then #[none] else #[])++(leftOf (bq K.enc m 0).toArray f.toArray).map some
     match Q[<- choose (.mapNext Q.size)]? with
     | some (some e) =>
      setObj b (.mapIter (some g) m.length (f.toArray.push e.born) m.length)
      Pure.pure (Value.tuple #[.bool true,e.key,e.val])
     | some none=>Pure.pure (Value.tuple #[.bool false])
     | none => stuck "Next: no such candidate" : Sem Value).run cx.P w := by
    have T:∀ x∈(leftOf (bq K.enc m 0).toArray f.toArray).toList,x.born<m.length:=fun x l=>hold x (mem_left l).1;have U:(leftOf (bq K.enc m 0).toArray f.toArray).filter (fun x=>decide (x.born<m.length))=leftOf (bq K.enc m 0).toArray f.toArray:=Array.filter_eq_self.2 (fun x l=>by simpa using T x (by simpa using l));have V:(leftOf (bq K.enc m 0).toArray f.toArray).filter (fun x=>decide (x.born ≥ m.length))=#[]:=by
     rw [Array.filter_eq_empty_iff];intro x l;have:=T x (by simpa using l);simp;omega
    unfold Instr.next;simp only [Sem.run_bind,ac w A,Result.andThen_ok,bi];have af:(getObj g).run cx.P w=.ok (.map (bq K.enc m 0).toArray m.length) w:=Go.MapKept.run_getObj_map ab;simp only [Sem.run_bind,af,Result.andThen_ok,next_test_false f.toArray (bq K.enc m 0).toArray m.length m.length hold (LP _),MC,MW];unfold leftOf at U V ⊢;simp only [U,V,Array.append_empty];refine congrArg _ (funext fun a=>funext fun w'=>?_);congr 1
   rw [ad];have W:∀ e∈(leftOf (bq K.enc m 0).toArray f.toArray).toList,∃ p,m[e.born]?=some p/\e.born ∉ f/\e.key=K.enc p.1/\e.val=p.2:=fun e E=>by
    obtain ⟨h1,h2⟩:=mem_left E;obtain ⟨p,h3,h4,h5⟩:=kh (show e∈bq K.enc m 0 by simpa using h1);exact ⟨p,h3,by simpa using h2,h4,h5⟩
   have X:(leftOf (bq K.enc m 0).toArray f.toArray)=#[]->∀ j,j<m.length->j∈f:=fun E j G=>by
    by_cases hs:j∈f
    ·exact hs
    ·have:=pZ (enc:=K.enc) (aj G) hs;rw [E] at this;cases this
   generalize leftOf (bq K.enc m 0).toArray f.toArray=F at W X ⊢;by_cases h0:F.size=0
   ·have:F=#[]:=Array.eq_empty_of_size_eq_zero h0;subst this;left;refine ⟨X Z, ?_⟩;simp [choose,Sem.run,Question.forced]
   ·right;have ag:F.isEmpty=false:=by simp [Array.isEmpty,h0]
    simp only [ag,MC,MW,Array.empty_append,Array.size_map];have ah:∃ (j:Nat)(w1:World),j<F.size/\w1.heap=w.heap/\w1.os=w.os/\w1.tape=w.tape/\w1.output=w.output/\w.drawn<=w1.drawn/\(choose (Question.mapNext F.size)).run cx.P w=.ok j w1:=by
     by_cases Y:F.size<=1
     ·exact ⟨0,w,by omega,Z,Z,Z,Z,LP _,by simp [choose,Sem.run,Question.forced,Y]⟩
     ·exact ⟨_,w.drew,MR _ om_,Z,Z,Z,Z,N4 _,by
       simp only [choose,Sem.run,Question.forced,LY,Y,MW,Question.cut];rfl⟩
    obtain ⟨j,w1,G,t,H,I,J,M,B⟩:=ah;obtain ⟨p,h1,h2,h3,h4⟩:=W F[j] (by simp);refine ⟨F[j].born,p,w1,h1,h2,t,H,I,J,M, ?_⟩;have y:(setObj b (.mapIter (some g) m.length (f.toArray.push F[j].born) m.length)).run cx.P w1=.ok () { w1 with heap:=w1.heap.setIfInBounds b (bi g m.length (f++[F[j].born])) }:=by
     have ai:w1.heap[b]?=some (bi g m.length f):=by rw [t];exact A
     simp only [setObj,Sem.run,ai,bi];simp
    simp only [B,Array.getElem?_map,Array.getElem?_eq_getElem G,Nt,Sem.run_bind,Result.andThen_ok,y,Sem.run_pure,h3,h4]
  rw [show a.eval x=.pointer (some ⟨b,0,none⟩) from hs _ _ l] at u;unfold Oper.wp;rw [u];rcases B with ⟨h1,hr⟩ | ⟨j,p,w1,h1,h2,t,H,I,J,M,hr⟩
  ·simp only [Sem.run_bind,hr,Result.andThen_ok,Sem.run_pure];exact ⟨_,C,.obj b (bi g m.length f)::L.eraseIdx q,Z,Mem.le.refl _,fun h2=>by omega,z,Z,false,[],f,.inl ⟨Z,Z,h1⟩,Z,Z⟩
  ·simp only [Sem.run_bind,hr,Result.andThen_ok,Sem.run_pure];have ak:=z.same (w':=w1) H I J t M;have y:=heap_set (o':=bi g m.length (f++[j])) (show w1.heap[b]?=_ from by rw [t];exact A);exact ⟨_,C,.obj b (bi g m.length (f++[j]))::L.eraseIdx q,Z,Mem.le.refl _,fun h2=>by omega,St.put ak y.1 y.2 (by simp) Z Z Z (LP _),Z,true,[K.enc p.1,p.2],_,
    .inr ⟨rfl,j,(aX.1 h1).1,h2,rfl⟩,rfl,rfl⟩)
  (fun v C' N _ ⟨u,r,rest,s,h1,e2,e3⟩=>by subst u;subst e2;subst e3;exact h r rest s h1)
theorem Rb {b f j:Nat}{x:Operand}{m:List (κ × Value)}{l:List Nat}{p:κ × Value}(t:C f=some (aM K.enc m))(u:m[j]?=some p)(v:Ent.obj b (bi f m.length (l++[j]))∈L)(q:k=1)(y:o.dst=some d)(z:o.op=.entry x)(A:gOf ds fr o.guard=some g)(B:ev fr g x=some (.pointer (some ⟨b,0,none⟩)))
  (E:aO n ds ((d,g,.tuple #[K.enc p.1,p.2])::fr) d=true) (F:wfG ds fr g=true)
  (h:D cx R its ((d,g,.tuple #[K.enc p.1,p.2])::fr) C L):D cx R ((i,k,o)::its) fr C L :=
 PO (by subst q;rfl) y A E F (fun _ a hs T r w s=>by
  have G:w.heap[b]?=some (bi f m.length (l++[j])):=s.sep.e _ ((r q).2 _ v);have H:w.heap[f]?=some (aM K.enc m):=s.sep.c _ _ ((r q).1 _ _ t);have I:(bq K.enc m 0).toArray.find? (·.born == j)=some ⟨K.enc p.1,p.2,j⟩:=by
   rw [<- Array.find?_toList];refine find_born ⟨K.enc p.1,p.2,j⟩ _ (by simpa using nY K.enc m) ?_;refine LQ (i:=j) ?_;simp [iu,u]
  have J:(Instr.entry (.pointer (some ⟨b,0,none⟩))).run cx.P w=.ok (.tuple #[K.enc p.1,p.2]) w:=by
   have M:(getObj f).run cx.P w=.ok (.map (bq K.enc m 0).toArray m.length) w:=Go.MapKept.run_getObj_map H;have N:(getObj b).run cx.P w=.ok (bi f m.length (l++[j])) w:=by simp only [getObj,Sem.run,G,bi]
   unfold Instr.entry;simp only [Sem.run_bind,N,Result.andThen_ok,bi];have O:(l++[j]).toArray.back?=some j:=by simp
   simp only [O,M,Sem.run_bind,Result.andThen_ok,bne_self_eq_false,MC,MW,I,Sem.run_pure]
  have Q:(execOp a.eval o).run cx.P w=.ok (.value (.tuple #[K.enc p.1,p.2])) w:=by
   have S:execOp a.eval o=(do Pure.pure (.value (<- Instr.entry (a.eval x))):Sem Next):=by unfold execOp;rw [z]
   rw [S,hs _ _ B];simp only [Sem.run_bind,J,Result.andThen_ok,Sem.run_pure]
  unfold Oper.quietAt;rw [Q];exact ⟨Z,Z⟩) h
end
end Go.Jog
namespace Go.Jog
open Go Go.MapKept
structure KeyP (P:Program)(kt:TypeId)(κ:Type)[DecidableEq κ] where
 enc:κ->Value
 check:∀ a em w,(Instr.checkKey em 10000 kt (enc a)).run P w=.ok () w
 ask:∀ x es w,(Instr.findKey kt x es).run P w=(Instr.findAsking kt x es).run P w
 same:∀ a b w,(Op.equal kt (enc a) (enc b)).run P w=.ok (decide (a=b)) w
 stays:∀ a w,(Instr.keyThatStays (enc a) (enc a)).run P w=.ok (enc a) w
section
variable {κ:Type} [DecidableEq κ] {enc:κ->Value}
theorem nX {k:κ}{v:Value}:∀ {m:List (κ × Value)}{i:Nat},js m k=none->bq enc m i++[⟨enc k,v,i+m.length⟩]=bq enc (fp m k v) i/\(fp m k v).length=m.length+1
 | [],i,_=>⟨rfl,rfl⟩
 | (d,e)::m,i,h=>by
  simp only [js] at h;split at h
  ·cases h
  ·rename_i a;have b:js m k=none:=by
    cases c:js m k with
    | none=>rfl
    | some p=>rw [c] at h;cases h
   obtain ⟨h1,h2⟩:=nX (i:=i+1) (v:=v) b;simp only [fp,aC a,bq,ND,Ml,h2];refine ⟨?_,trivial⟩;rw [<- h1];congr 3;congr 1;omega
theorem nW {k:κ}{v:Value}:∀ {m:List (κ × Value)}{i q:Nat}{u:Value},js m k=some (q,u)->(bq enc m i).modify q (fun e=>{ e with key:=enc k,val:=v })=bq enc (fp m k v) i/\(fp m k v).length=m.length/\((bq enc m i)[q]?).map (·.key)=some (enc k)
 | [],_,_,_,h=>by cases h
 | (c,d)::m,i,q,u,h=>by
  simp only [js] at h;split at h
  ·rename_i e;subst e;cases h
   simp [bq,fp]
  ·rename_i b;cases a:js m k with
   | none=>rw [a] at h;cases h
   | some p =>
    obtain ⟨f,g⟩:=p;rw [a] at h;cases h
    obtain ⟨h1,h2,h3⟩:=nW (i:=i+1) (v:=v) a;simp only [fp,aC b,bq,Ml,h2,List.modify_succ_cons,h1];exact ⟨trivial,trivial,by simpa using h3⟩
end
section
variable {P:Program} {kt:TypeId} {κ:Type} [DecidableEq κ] (K:KeyP P kt κ)
theorem xz (k:κ)(w:World):∀ (m:List (κ × Value))(i j:Nat),(Instr.findAsking kt (K.enc k) (bq K.enc m i) j).run P w=.ok ((js m k).map fun p=>(j+p.1,p.2)) w
 | [],i,j=>rfl
 | (a,v)::m,i,j=>by
  simp only [bq,Instr.findAsking,Sem.run_bind,K.same,Result.andThen_ok];by_cases h:k=a
  ·subst h;simp [js]
  ·have b:¬ a=k:=fun e=>h e.symm;simp only [h,decide_false,xz k w m (i+1) (j+1),js,aC b,MC,MW];cases js m k with
   | none=>rfl
   | some p=>simp;omega
theorem tN (k:κ)(m:List (κ × Value))(i:Nat)(w:World):(Instr.findKey kt (K.enc k) (bq K.enc m i)).run P w=.ok (js m k) w:=by
 rw [K.ask,xz K k w m i 0];cases js m k <;> simp
theorem nu {T:Tab}(c:nf P T=true){t d:Nat}{e f:TI}{a:Bool}(g:T.get t=some e)(h:e.k=.map kt d)(i:T.get d=some f){w:World}{b:Nat}{m:List (κ × Value)}(j:w.heap[b]?=some (aM K.enc m))(y:κ) :
  (Instr.lookup t (.map (some b)) (K.enc y) a).run P w=.ok (jE f.zv a (cV m y)) w:=by
 have l:=gb c g h;have h1:(getObj b).run P w=.ok (.map ⟨bq K.enc m 0⟩ m.length) w:=Go.MapKept.run_getObj_map j;have h2:=tN K y m 0 w;rw [<- nV];unfold Instr.lookup;simp only [Sem.run_bind,run_underlying l,Result.andThen_ok,h1,Sem.run_pure,K.check];rw [h2];cases js m y with
 | none=>cases a <;> simp [jE,ri c i w]
 | some p=>cases a <;> simp [jE]
end
section
variable {cx:Cx} {n:Nat} {ds:List (Option Nat)} {R:Rg n ds} {its:List It} {fr:Fr} {C:Mem} {L:List Ent} {i k d:Nat} {o:Oper} {g:GL} {v:Value}
variable {κ:Type} [DecidableEq κ]
theorem QQ {b t j l:Nat}(K:KeyP cx.P j κ){x y:Operand}{c:Bool}{m:List (κ × Value)}{f:κ}{p q:TI}(s:Ent.obj b (aM K.enc m)∈L)(r:k=1)(u:o.dst=some d)(z:o.op=.lookup t x y c)(A:gOf ds fr o.guard=some g)(B:ev fr g x=some (.map (some b)))(E:ev fr g y=some (K.enc f))
  (F:cx.T.get t=some p) (G:p.k=.map j l) (H:cx.T.get l=some q) (I:jE q.zv c (cV m f)=v) (J:aO n ds ((d,g,v)::fr) d=true) (M:wfG ds fr g=true)
  (h:D cx R its ((d,g,v)::fr) C L):D cx R ((i,k,o)::its) fr C L :=
 PO (by subst r;rfl) u A J M (fun _ a hs V N w O=>by
  have Q:w.heap[b]?=some (aM K.enc m):=O.sep.e _ ((N r).2 _ s);have S:(execOp a.eval o).run cx.P w=.ok (.value v) w:=by
   have U:execOp a.eval o=(do Pure.pure (.value (<- Instr.lookup t (a.eval x) (a.eval y) c)):Sem Next):=by unfold execOp;rw [z]
   rw [U,hs _ _ B,hs _ _ E,<- I];simp only [Sem.run_bind,nu K cx.hT F G H Q f,Result.andThen_ok,Sem.run_pure]
  unfold Oper.quietAt;rw [S];exact ⟨Z,Z⟩) h
theorem Q9 {b t j l:Nat}(K:KeyP cx.P j κ){x y:Operand}{e:Bool}{m:List (κ × Value)}{f:κ}{p q:TI}(s:GT ds fr g->C b=some (aM K.enc m))(r:k=1)(u:o.dst=some d)(z:o.op=.lookup t x y e)(A:gOf ds fr o.guard=some g)(B:ev fr g x=some (.map (some b)))(E:ev fr g y=some (K.enc f))
  (F:cx.T.get t=some p) (G:p.k=.map j l) (H:cx.T.get l=some q) (I:jE q.zv e (cV m f)=v) (J:aO n ds ((d,g,v)::fr) d=true) (M:wfG ds fr g=true)
  (h:D cx R its ((d,g,v)::fr) C L):D cx R ((i,k,o)::its) fr C L :=
 PO (by subst r;rfl) u A J M (fun N a hs W O w Q=>by
  have S:w.heap[b]?=some (aM K.enc m):=Q.sep.c _ _ ((O r).1 _ _ (s N));have U:(execOp a.eval o).run cx.P w=.ok (.value v) w:=by
   have V:execOp a.eval o=(do Pure.pure (.value (<- Instr.lookup t (a.eval x) (a.eval y) e)):Sem Next):=by unfold execOp;rw [z]
   rw [V,hs _ _ B,hs _ _ E,<- I];simp only [Sem.run_bind,nu K cx.hT F G H S f,Result.andThen_ok,Sem.run_pure]
  unfold Oper.quietAt;rw [U];exact ⟨Z,Z⟩) h
theorem QK {t f s j b:Nat}(K:KeyP cx.P f κ){x y z:Operand}{m:List (κ × Value)}{key:κ}{g:TI}(A:k=3)(B:gOn ds fr o.guard=true)(E:o.dst=none)(F:o.op=.mapUpdate t x y z)
  (G:ev fr [] x=some (.map (some b))) (H:ev fr [] y=some (K.enc key)) (I:ev fr [] z=some v) (J:L[j]?=some (.obj b (aM K.enc m)))
  (M:cx.T.get t=some g) (N:g.k=.map f s)
  (h:D cx R its fr C (.obj b (aM K.enc (fp m key v))::L.eraseIdx j)):D cx R ((i,k,o)::its) fr C L :=
 Qq (S:=fun C' L'=>C'=C/\L'=.obj b (aM K.enc (fp m key v))::L.eraseIdx j) (by subst A;rfl) B (fun a hs w _ O=>by
  have l:=St.perm O (ae J);have c:w.heap[b]?=some (aM K.enc m):=l.sep.e _ (aF ..);have Q:=gb cx.hT M N;have h1:(getObj b).run cx.P w=.ok (.map ⟨bq K.enc m 0⟩ m.length) w:=Go.MapKept.run_getObj_map c;have h2:=tN K key m 0 w;have U:(Instr.mapUpdate t (.map (some b)) (K.enc key) v).run cx.P w=.ok () { w with heap:=w.heap.setIfInBounds b (aM K.enc (fp m key v)) }:=by
   unfold Instr.mapUpdate;simp only [Sem.run_bind,run_underlying Q,Result.andThen_ok,h1,K.check];rw [h2];cases n:js m key with
   | none =>
    obtain ⟨h3,h4⟩:=nX (enc:=K.enc) (v:=v) (i:=0) n;simp only [Result.andThen_ok];rw [Go.MapKept.run_setObj_map (P:=cx.P) _ c];congr 2;simp only [aM,h4,<- h3,M6];congr 2;apply Ni;simp
   | some p =>
    obtain ⟨q,u⟩:=p;obtain ⟨h3,h4,h5⟩:=nW (enc:=K.enc) (v:=v) (i:=0) n;have V:(((⟨bq K.enc m 0⟩:Array MapEntry)[q]?).map (·.key)).getD (K.enc key)=K.enc key:=by
     show (((bq K.enc m 0).toArray[q]?).map (·.key)).getD (K.enc key)=K.enc key;rw [MQ,h5];rfl
    simp only [Result.andThen_ok,Sem.run_bind];rw [V,K.stays];simp only [Result.andThen_ok];rw [Go.MapKept.run_setObj_map (P:=cx.P) _ c];congr 2;simp only [aM,h4,<- h3];congr 2;apply Ni;simp
  have W:(execOp a.eval o).run cx.P w=.ok .skip { w with heap:=w.heap.setIfInBounds b (aM K.enc (fp m key v)) }:=by
   have d:execOp a.eval o=(do Instr.mapUpdate t (a.eval x) (a.eval y) (a.eval z);Pure.pure .skip:Sem Next):=by unfold execOp;rw [F]
   rw [d,hs _ _ G,hs _ _ H,hs _ _ I];simp only [Sem.run_bind,U,Result.andThen_ok,Sem.run_pure]
  unfold Oper.wp;rw [W];have r:=heap_set (o':=aM K.enc (fp m key v)) c;refine ⟨C,.obj b (aM K.enc (fp m key v))::L.eraseIdx j, ?_,Mem.le.refl _,fun h2=>by omega,St.put l r.1 r.2 (by simp) Z Z Z (LP _),Z,Z⟩;rw [E];rfl)
  (fun C' L' _ ⟨d,X⟩=>by subst d;subst X;exact h)
end
end Go.Jog
namespace Go.Jog
open Go Go.MapKept
section
variable {cx:Cx} {n:Nat} {ds:List (Option Nat)} {R:Rg n ds} {its:List It} {fr:Fr} {C:Mem} {L:List Ent} {i k d:Nat} {o:Oper} {g:GL} {v:Value}
variable {κ:Type} (enc:κ->Value)
theorem Ru {t j l e:Nat}{x:Operand}{m:List (κ × Value)}{p:TI}(s:C e=some (aM enc m))(u:Nat.ble k 1=false)(y:o.dst=some d)(z:gOn ds fr o.guard=true)(A:o.op=.range t x)(f:ev fr [] x=some (.map (some e)))
  (B:cx.T.get t=some p) (E:p.k=.map j l) (F:∀ v,aO n ds ((d,[],v)::fr) d=true)
  (h:∀ b,D cx R its ((d,[],.pointer (some ⟨b,0,none⟩))::fr) C (.obj b (bi e m.length [])::L)):D cx R ((i,k,o)::its) fr C L :=
 PP (S:=fun v C' q=>C'=C/\∃ b,v=.pointer (some ⟨b,0,none⟩)/\q=.obj b (bi e m.length [])::L) u y z F (fun a hs w _ r=>by
  have G:w.heap[e]?=some (aM enc m):=r.sep.c _ _ s;have H:=gb cx.hT B E;have I:(execOp a.eval o).run cx.P w=.ok (.value (.pointer (some ⟨w.heap.size,0,none⟩))) (w.alloc (bi e m.length [])):=by
   have g:execOp a.eval o=(do Pure.pure (.value (<- Instr.range t (a.eval x))):Sem Next):=by unfold execOp;rw [A]
   rw [g,hs _ _ f];simp only [Sem.run_bind,run_range_map w t j l e _ _ H G,Result.andThen_ok,Sem.run_pure];rfl
  unfold Oper.wp;rw [I];exact ⟨_,C,.obj w.heap.size (bi e m.length [])::L,Z,Mem.le.refl _,fun _ x f=>by simp [f],St.alloc r _,Z,_,Z,Z⟩)
  (fun v C' q _ ⟨g,b,J,K⟩=>by subst g;subst J;subst K;exact h b)
theorem Q8 {b q g:Nat}{x:Operand}{m:List (κ × Value)}{f:List Nat}(Y:C g=some (aM enc m))(hk:k=3)(hd:o.dst=some d)(hg:gOn ds fr o.guard=true)(aa:o.op=.next x false)(l:ev fr [] x=some (.pointer (some ⟨b,0,none⟩)))
  (hm:L[q]?=some (.obj b (bi g m.length f))) (hp:∀ v,aO n ds ((d,[],v)::fr) d=true)
  (h:∀ (r:Bool)(rest:List Value)(s:List Nat),(r=false/\s=f/\∀ j,j<m.length->j∈f)∨(r=true/\∃ j,j<m.length/\j ∉ f/\s=f++[j]) ->
   D cx R its ((d,[],.tuple ⟨.bool r::rest⟩)::fr) C (.obj b (bi g m.length s)::L.eraseIdx q)):D cx R ((i,k,o)::its) fr C L :=
 PP (S:=fun v C' M=>C'=C/\∃ (r:Bool)(rest:List Value)(s:List Nat),((r=false/\s=f/\∀ j,j<m.length->j∈f)∨(r=true/\∃ j,j<m.length/\j ∉ f/\s=f++[j]))/\v=.tuple ⟨.bool r::rest⟩/\M=.obj b (bi g m.length s)::L.eraseIdx q) (by subst hk;rfl) hd hg hp (fun a hs w _ N=>by
  have z:=St.perm N (ae hm);have A:w.heap[b]?=some (bi g m.length f):=z.sep.e _ (aF ..);have ab:w.heap[g]?=some (aM enc m):=N.sep.c _ _ Y;have u:execOp a.eval o=(do Pure.pure (.value (<- Instr.next (a.eval x) false 0)):Sem Next):=by unfold execOp;rw [aa];rfl
  have hold:∀ x∈(bq enc m 0).toArray.toList,x.born<m.length:=fun x l=>by
   obtain ⟨p,h1,_⟩:=kh (show x∈bq enc m 0 by simpa using l);exact (aX.1 h1).1
  have ac:∀ w:World,w.heap[b]?=some (bi g m.length f)->(getObj b).run cx.P w=.ok (bi g m.length f) w:=fun w h=>by
   simp only [getObj,Sem.run,h,bi]
  have B:(∀ j,j<m.length->j∈f)/\(Instr.next (.pointer (some ⟨b,0,none⟩)) false 0).run cx.P w=.ok (.tuple #[.bool false]) w ∨
    ∃ (j:Nat)(p:κ × Value)(w1:World),m[j]?=some p/\j ∉ f/\w1.heap=w.heap/\w1.os=w.os/\w1.tape=w.tape/\w1.output=w.output/\w.drawn<=w1.drawn /\
     (Instr.next (.pointer (some ⟨b,0,none⟩)) false 0).run cx.P w=.ok (.tuple #[.bool true,enc p.1,p.2]) { w1 with heap:=w1.heap.setIfInBounds b (bi g m.length (f++[j])) }:=by
   have ad:(Instr.next (.pointer (some ⟨b,0,none⟩)) false 0).run cx.P w=(do
     let O:=(if (leftOf (bq enc m 0).toArray f.toArray).isEmpty then #[none] else #[])++(leftOf (bq enc m 0).toArray f.toArray).map some
     match O[<- choose (.mapNext O.size)]? with
     | some (some e) =>
      setObj b (.mapIter (some g) m.length (f.toArray.push e.born) m.length)
      Pure.pure (Value.tuple #[.bool true,e.key,e.val])
     | some none=>Pure.pure (Value.tuple #[.bool false])
     | none => stuck "Next: no such candidate" : Sem Value).run cx.P w := by
    have Q:∀ x∈(leftOf (bq enc m 0).toArray f.toArray).toList,x.born<m.length:=fun x l=>hold x (mem_left l).1;have T:(leftOf (bq enc m 0).toArray f.toArray).filter (fun x=>decide (x.born<m.length))=leftOf (bq enc m 0).toArray f.toArray:=Array.filter_eq_self.2 (fun x l=>by simpa using Q x (by simpa using l));have U:(leftOf (bq enc m 0).toArray f.toArray).filter (fun x=>decide (x.born ≥ m.length))=#[]:=by
     rw [Array.filter_eq_empty_iff];intro x l;have:=Q x (by simpa using l);simp;omega
    unfold Instr.next;simp only [Sem.run_bind,ac w A,Result.andThen_ok,bi];have af:(getObj g).run cx.P w=.ok (.map (bq enc m 0).toArray m.length) w:=Go.MapKept.run_getObj_map ab;simp only [Sem.run_bind,af,Result.andThen_ok,next_test_false f.toArray (bq enc m 0).toArray m.length m.length hold (LP _),MC,MW];unfold leftOf at T U ⊢;simp only [T,U,Array.append_empty];refine congrArg _ (funext fun a=>funext fun w'=>?_);congr 1
   rw [ad];have V:∀ e∈(leftOf (bq enc m 0).toArray f.toArray).toList,∃ p,m[e.born]?=some p/\e.born ∉ f/\e.key=enc p.1/\e.val=p.2:=fun e E=>by
    obtain ⟨h1,h2⟩:=mem_left E;obtain ⟨p,h3,h4,h5⟩:=kh (show e∈bq enc m 0 by simpa using h1);exact ⟨p,h3,by simpa using h2,h4,h5⟩
   have W:(leftOf (bq enc m 0).toArray f.toArray)=#[]->∀ j,j<m.length->j∈f:=fun E j G=>by
    by_cases hs:j∈f
    ·exact hs
    ·have:=pZ (enc:=enc) (aj G) hs;rw [E] at this;cases this
   generalize leftOf (bq enc m 0).toArray f.toArray=F at V W ⊢;by_cases h0:F.size=0
   ·have:F=#[]:=Array.eq_empty_of_size_eq_zero h0;subst this;left;refine ⟨W Z, ?_⟩;simp [choose,Sem.run,Question.forced]
   ·right;have ag:F.isEmpty=false:=by simp [Array.isEmpty,h0]
    simp only [ag,MC,MW,Array.empty_append,Array.size_map];have ah:∃ (j:Nat)(w1:World),j<F.size/\w1.heap=w.heap/\w1.os=w.os/\w1.tape=w.tape/\w1.output=w.output/\w.drawn<=w1.drawn/\(choose (Question.mapNext F.size)).run cx.P w=.ok j w1:=by
     by_cases X:F.size<=1
     ·exact ⟨0,w,by omega,Z,Z,Z,Z,LP _,by simp [choose,Sem.run,Question.forced,X]⟩
     ·exact ⟨_,w.drew,MR _ om_,Z,Z,Z,Z,N4 _,by
       simp only [choose,Sem.run,Question.forced,LY,X,MW,Question.cut];rfl⟩
    obtain ⟨j,w1,G,t,H,I,J,K,B⟩:=ah;obtain ⟨p,h1,h2,h3,h4⟩:=V F[j] (by simp);refine ⟨F[j].born,p,w1,h1,h2,t,H,I,J,K, ?_⟩;have y:(setObj b (.mapIter (some g) m.length (f.toArray.push F[j].born) m.length)).run cx.P w1=.ok () { w1 with heap:=w1.heap.setIfInBounds b (bi g m.length (f++[F[j].born])) }:=by
     have ai:w1.heap[b]?=some (bi g m.length f):=by rw [t];exact A
     simp only [setObj,Sem.run,ai,bi];simp
    simp only [B,Array.getElem?_map,Array.getElem?_eq_getElem G,Nt,Sem.run_bind,Result.andThen_ok,y,Sem.run_pure,h3,h4]
  rw [show a.eval x=.pointer (some ⟨b,0,none⟩) from hs _ _ l] at u;unfold Oper.wp;rw [u];rcases B with ⟨h1,hr⟩ | ⟨j,p,w1,h1,h2,t,H,I,J,K,hr⟩
  ·simp only [Sem.run_bind,hr,Result.andThen_ok,Sem.run_pure];exact ⟨_,C,.obj b (bi g m.length f)::L.eraseIdx q,Z,Mem.le.refl _,fun h2=>by omega,z,Z,false,[],f,.inl ⟨Z,Z,h1⟩,Z,Z⟩
  ·simp only [Sem.run_bind,hr,Result.andThen_ok,Sem.run_pure];have ak:=z.same (w':=w1) H I J t K;have y:=heap_set (o':=bi g m.length (f++[j])) (show w1.heap[b]?=_ from by rw [t];exact A);exact ⟨_,C,.obj b (bi g m.length (f++[j]))::L.eraseIdx q,Z,Mem.le.refl _,fun h2=>by omega,St.put ak y.1 y.2 (by simp) Z Z Z (LP _),Z,true,[enc p.1,p.2],_,
    .inr ⟨rfl,j,(aX.1 h1).1,h2,rfl⟩,rfl,rfl⟩)
  (fun v C' M _ ⟨u,r,rest,s,h1,e2,e3⟩=>by subst u;subst e2;subst e3;exact h r rest s h1)
theorem Rx {b f j:Nat}{x:Operand}{m:List (κ × Value)}{l:List Nat}{p:κ × Value}(t:C f=some (aM enc m))(u:m[j]?=some p)(v:Ent.obj b (bi f m.length (l++[j]))∈L)(q:k=1)(y:o.dst=some d)(z:o.op=.entry x)(A:gOf ds fr o.guard=some g)(B:ev fr g x=some (.pointer (some ⟨b,0,none⟩)))
  (E:aO n ds ((d,g,.tuple #[enc p.1,p.2])::fr) d=true) (F:wfG ds fr g=true)
  (h:D cx R its ((d,g,.tuple #[enc p.1,p.2])::fr) C L):D cx R ((i,k,o)::its) fr C L :=
 PO (by subst q;rfl) y A E F (fun _ a hs S r w s=>by
  have G:w.heap[b]?=some (bi f m.length (l++[j])):=s.sep.e _ ((r q).2 _ v);have H:w.heap[f]?=some (aM enc m):=s.sep.c _ _ ((r q).1 _ _ t);have I:(bq enc m 0).toArray.find? (·.born == j)=some ⟨enc p.1,p.2,j⟩:=by
   rw [<- Array.find?_toList];refine find_born ⟨enc p.1,p.2,j⟩ _ (by simpa using nY enc m) ?_;refine LQ (i:=j) ?_;simp [iu,u]
  have J:(Instr.entry (.pointer (some ⟨b,0,none⟩))).run cx.P w=.ok (.tuple #[enc p.1,p.2]) w:=by
   have K:(getObj f).run cx.P w=.ok (.map (bq enc m 0).toArray m.length) w:=Go.MapKept.run_getObj_map H;have M:(getObj b).run cx.P w=.ok (bi f m.length (l++[j])) w:=by simp only [getObj,Sem.run,G,bi]
   unfold Instr.entry;simp only [Sem.run_bind,M,Result.andThen_ok,bi];have N:(l++[j]).toArray.back?=some j:=by simp
   simp only [N,K,Sem.run_bind,Result.andThen_ok,bne_self_eq_false,MC,MW,I,Sem.run_pure]
  have O:(execOp a.eval o).run cx.P w=.ok (.value (.tuple #[enc p.1,p.2])) w:=by
   have Q:execOp a.eval o=(do Pure.pure (.value (<- Instr.entry (a.eval x))):Sem Next):=by unfold execOp;rw [z]
   rw [Q,hs _ _ B];simp only [Sem.run_bind,J,Result.andThen_ok,Sem.run_pure]
  unfold Oper.quietAt;rw [O];exact ⟨Z,Z⟩) h
end
end Go.Jog
namespace Go.Jog
open Go Go.MapKept
variable {P:Program}{kt:TypeId}
def oB (p:Int × Int):Value:=.agg ⟨[.int .i64 p.1,.int .i64 p.2]⟩
theorem sK {e:TypeId}(d:P.underlying kt=some (.array 2 e))(b:P.underlying e=some (.int .i64)){i:TypeInfo}(f:P.info? e=some i)(g:i.size=1)(p:Int × Int)(a:Bool)(w:World) :
  (Instr.checkKey a 10000 kt (oB p)).run P w=.ok () w:=by
 have k:∀ z:Int,(Instr.checkKey a (9998+1) e (.int .i64 z)).run P w=.ok () w:=fun z=>run_checkKey b (by simp [IsKey]) a 9998;show (Instr.checkKey a (9999+1) kt (oB p)).run P w=_;unfold Instr.checkKey;simp only [Sem.run_bind,run_underlying d,Result.andThen_ok,oB];have c:∀ (z:Int)(xs:Array Value)(j:Nat),xs[j]?=some (.int .i64 z)->(part e xs j).run P w=.ok (.int .i64 z) w:=fun z xs j h=>by
  unfold part;simp only [Sem.run_bind,eS b rfl w,Result.andThen_ok,MC,MW,h,Sem.run_pure]
 have l:(sizeOf e).run P w=.ok 1 w:=by simp [sizeOf,typeInfo,f,g]
 have m:=c p.1 ⟨[.int .i64 p.1,.int .i64 p.2]⟩ 0 rfl;have n:=c p.2 ⟨[.int .i64 p.1,.int .i64 p.2]⟩ 1 rfl;rw [Std.Legacy.Range.forIn_eq_forIn_range'];simp [Std.Legacy.Range.size,List.range',l,m,n,k]
theorem tB {a:List Value}(h:Instr.sameBits 10000 (.agg ⟨a⟩) (.agg ⟨a⟩)=true)(w:World):(Instr.keyThatStays (.agg ⟨a⟩) (.agg ⟨a⟩)).run P w=.ok (.agg ⟨a⟩) w:=by
 simp [Instr.keyThatStays,h]
theorem xd (b:(match P.underlying kt with | some (.array _ _) | some (.struct _)=>true | _=>false)=true)(x:Value)(a:List MapEntry)(w:World):(Instr.findKey kt x a).run P w=(Instr.findAsking kt x a).run P w:=run_findKey_eq w b x a
def LF {P:Program}{kt e:TypeId}(hu:P.underlying kt=some (.array 2 e))(he:P.underlying e=some (.int .i64))(hi:(P.info? e).map (·.size)=some 1)(ht:vW P kt=true):KeyP P kt (Int × Int) where
 enc:=oB
 check p em w:=by
  obtain ⟨i,h1,h2⟩:=Option.map_eq_some_iff.1 hi;exact sK hu he h1 h2 p em w
 ask x es w:=xd (by rw [hu]) x es w
 same a b w:=by
  have h:=zo (P:=P) ht (xs:=[.int .i64 a.1,.int .i64 a.2]) (ys:=[.int .i64 b.1,.int .i64 b.2]) (by unfold LG;rw [hu];show (Nat.beq 2 2 && List.all _ (fun x=>qA (P.underlying e) x))=true;rw [he];rfl) (b:=decide (a=b)) (by
   obtain ⟨a1,a2⟩:=a;obtain ⟨b1,b2⟩:=b;simp [jn,H7];by_cases h1:a1=b1 <;> by_cases h2:a2=b2 <;> simp [h1,h2]) w
  exact h
 stays a w:=tB (by simp [Instr.sameBits]) w
def Ae (p:List UInt8 × List UInt8):Value:=.agg ⟨[al p.1,al p.2]⟩
theorem sJ   {a b : Field} (k : P.underlying kt = some (.struct #[a, b])) (d : P.underlying a.type = some .string) (e : P.underlying b.type = some .string) (l : a.name ≠ "_") (m : b.name ≠ "_") (n : a.offset = 0) (o : b.offset = 1) (p : List UInt8 × List UInt8) (c : Bool) (w : World) :
  (Instr.checkKey c 10000 kt (Ae p)).run P w=.ok () w:=by
 have g:∀ (f:Field)(s:List UInt8),P.underlying f.type=some .string->(Instr.checkKey c (9998+1) f.type (al s)).run P w=.ok () w:=fun f s h=>run_checkKey h (by simp [IsKey,al]) c 9998;have i:∀ (f:Field)(s:List UInt8)(xs:Array Value)(j:Nat),P.underlying f.type=some .string->xs[j]?=some (al s)->(part f.type xs j).run P w=.ok (al s) w:=fun f s xs j q h=>by
  unfold part;simp only [Sem.run_bind,eS q rfl w,Result.andThen_ok,MC,MW,h,Sem.run_pure]
 have r:=i a p.1 ⟨[al p.1,al p.2]⟩ 0 d rfl;have t:=i b p.2 ⟨[al p.1,al p.2]⟩ 1 e rfl;have u:=g a p.1 d;have v:=g b p.2 e;show (Instr.checkKey c (9999+1) kt (Ae p)).run P w=_;unfold Instr.checkKey;simp only [Sem.run_bind,run_underlying k,Result.andThen_ok,Ae];simp [l,m,n,o,r,t,u,v]
def LD {P : Program} {kt : TypeId} {f0 f1 : Field} (hu : P.underlying kt = some (.struct #[f0, f1])) (h0 : P.underlying f0.type = some .string) (h1 : P.underlying f1.type = some .string) (hn0 : f0.name ≠ "_") (hn1 : f1.name ≠ "_") (ho0 : f0.offset = 0) (ho1 : f1.offset = 1) (ht : qw P kt = true) : KeyP P kt (List UInt8 × List UInt8) where
 enc:=Ae
 check p em w:=sJ hu h0 h1 hn0 hn1 ho0 ho1 p em w
 ask x es w:=xd (by rw [hu]) x es w
 same a b w:=by
  have h:=nv (P:=P) ht (xs:=[al a.1,al a.2]) (ys:=[al b.1,al b.2]) (by unfold K2;rw [hu];show Gp P [f0,f1] _=true;unfold Gp;rw [h0];unfold Gp;rw [h1];rfl) (b:=decide (a=b)) (by
   obtain ⟨a1,a2⟩:=a;obtain ⟨b1,b2⟩:=b;simp [jn,H7,al];by_cases h1:a1=b1 <;> by_cases h2:a2=b2 <;> simp [h1,h2]) w
  exact h
 stays a w:=tB (by simp [Instr.sameBits,al,BF]) w
section
variable {cx:Cx} {n:Nat} {ds:List (Option Nat)} {R:Rg n ds} {its:List It} {fr:Fr} {C:Mem} {L:List Ent} {i k d:Nat} {o:Oper} {g:GL} {v:Value} {κ:Type} [DecidableEq κ]
theorem QO {t c:Nat}(K:KeyP cx.P c κ)(e:Nat.ble k 1=false)(g:o.dst=some d)(j:gOn ds fr o.guard=true)(l:o.op=.makeMap t none)(m:∀ v,aO n ds ((d,[],v)::fr) d=true)
  (h:∀ b,D cx R its ((d,[],.map (some b))::fr) C (.obj b (aM K.enc [])::L)):D cx R ((i,k,o)::its) fr C L :=
 Qp (f:=fun b=>.map (some b)) (ob:=aM K.enc []) e g j m (fun a _ w=>by
  have p:execOp a.eval o=(do Pure.pure (.value (<- Instr.makeMap t none)):Sem Next):=by unfold execOp;rw [l];rfl
  rw [p];rfl) h
end
end Go.Jog
namespace Go.Jog
open Go
section
variable {F:Fx} {k:List KI} {fr:Fr} {C:Mem} {L:List Ent}
theorem RU {d:Cx}{j:Func}{n:Nat}{f:World}{C k:Mem}{g b:List Ent}{l:Value->Mem->List Ent->Prop}{W:Cw d.P}{c:Fr}{A:Fr->List Ent->Prop}(m:Has fr c)(h:A c b) :
  G ⟨d,j,n,⟨f,C,g⟩,l,W,[],fun e a w'=>e=.normal/\∃ i b,A i b/\FrOk n [] [] i a/\St f C g C b w'⟩ [] .normal fr k b:=fun o _ _ p q =>
 ⟨rfl,c,b,h,p.weaken m.sub,St.less q (Mem.le.refl _) o⟩
end
end Go.Jog
namespace Go.Jog
open Go
section
variable {F:Fx} {k:List KI} {fr:Fr} {C:Mem} {L:List Ent}
def IAD (F:Fx)(I:List Deferred->Fr->Mem->List Ent->Nat->Prop)(C:Mem)(m:Nat)(a:Act)(w:World):Prop :=
 ∃ dd fr C' L',C.le C'/\I dd fr C' L' m/\FrOk F.n [] dd fr a/\F.b.cls (C',L') w
theorem RN {c:Code}(I:List Deferred->Fr->Mem->List Ent->Nat->Prop){m:Nat}{b:Fr}(h:Has fr b)(i:I F.dd b C L m)
  (j:∀ dd fr C' d m,C.le C'->I dd fr C' d m->G { F with dd:=dd } (gU 64 (.code c::.inv (fun a w=>∃ f,f<m/\IAD F I C f a w)::k)) .normal fr C' d):G F (.code (.loop c)::k) .normal fr C L:=fun h0 a w l n=>by
 simp only [Kq];refine pr F.W (IAD F I C) ⟨F.dd,b,C,L,Mem.le.refl _,i,l.weaken h.sub,n⟩ (fun m a w ⟨o,p,C1,L1,g,r,s,t⟩=>?_);have h1:=PL 64 (j o p C1 L1 m g r) (h0.trans g) a w s t;rw [ve] at h1;refine F.W.mono (fun e a w q=>?_) h1;cases e <;> exact q
theorem RM {b:List Deferred}{I:List Deferred->Fr->Mem->List Ent->Nat->Prop}{d:Mem}{m m':Nat}{c:Fr}(e:m'<m)(f:d.le C)(g:Has fr c)(h:I b c C L m') :
  G { F with dd:=b } (.inv (fun a w=>∃ m',m'<m/\IAD F I d m' a w)::k) .normal fr C L:=fun _ _l _n i j =>
 ⟨m',e,b,c,C,L,f,h,i.weaken g.sub,j⟩
theorem RT {g:Operand}{p0 p1:Nat}{assign body:Code}{gf:FuncId}{lb:Array Value}{vss:List (Value × Value)}(hW:F.W=Cw.plain F.cx.P)
  (hg:ev fr [] g=some (.func (.func gf) #[] lb)) (hen:Enters F.cx.P gf=true) (hseq:K4 F.cx.P gf lb C vss) (I:Nat->List Ent->Prop) (h0:I 0 L) (_hp:fr.all (fun x=>x.2.1.isEmpty)=true)
  (hok:∀ u v,(aO F.n [] ((p0,[],u)::fr) p0 && aO F.n [] ((p1,[],v)::(p0,[],u)::fr) p1)=true) (A:Nat->List Ent->Fr->List Ent->Prop)
  (hassign:∀ l j u v L' W1,I j L'->vss[j]?=some (u,v)->G ⟨F.cx,F.fn,F.n,⟨W1,C,L'⟩,F.post,Cw.round F.cx.P l 1,[],fun e a w'=>e=.normal/\∃ frA LA,A j L' frA LA/\FrOk F.n [] [] frA a/\St W1 C L' C LA w'⟩ (gU 64 [.code assign]) .normal ((p1,[],v)::(p0,[],u)::fr) C L')
  (hbody:∀ l j u v L' frA LA W1,I j L'->vss[j]?=some (u,v)->A j L' frA LA ->
   G ⟨F.cx,F.fn,F.n,⟨W1,C,LA⟩,F.post,Cw.round F.cx.P l 1,[],fun e _ w'=>e=.normal/\∃ L1,I (j+1) L1/\St W1 C LA C L1 w'⟩ (gU 64 [.code body]) .normal frA C LA)
  (hdone:∀ D L',I vss.length L'->G { F with dd:={ target:=.collected D,args:=#[] }::F.dd } (gU 64 k) .normal fr C (.obj D (.deferred (some []))::L')) :
  G F (.code (.rangeFunc g #[p0,p1] assign body)::k) .normal fr C L:=fun hle a w ha hw=>by
 simp only [Kq,hW];show (Code.rangeFunc g #[p0,p1] assign body).wp F.cx.P (Kq F k) a w;refine (wpIn_wide (n:=3)).1 (wpIn_rangeFunc fun fn _=>?_);have hga:a.eval g=.func (.func gf) #[] lb:=bC ha (fun p hp=>by cases hp) hg;obtain ⟨rec,hrec⟩:∃ rec:LoopState->Loop,rec=fun st=>{ state:=st,pending:=none,fn,tmps:=a.tmps,params:=#[p0,p1],assign,body,defers:=w.heap.size }:=⟨_,rfl⟩;obtain ⟨W1,hW1⟩:∃ W1,(w.alloc (.deferred (some []))).alloc (.loop (rec .ready))=W1:=⟨_,rfl⟩;have hS1:St F.b.w0 F.b.C0 F.b.L0 C (.obj (w.heap.size+1) (.loop (rec .ready))::.obj w.heap.size (.deferred (some []))::L) W1:=by
  have:=St.alloc (St.alloc hw (.deferred (some []))) (.loop (rec .ready));rw [World.size_alloc] at this;rw [<- hW1];exact this
 refine ⟨w.heap.size+1,[{ target:=.collected w.heap.size,args:=#[] }],W1,{ target:=.fn (.func gf) lb,args:=#[.func (.yield (w.heap.size+1)) #[] #[]] },W1,gf,
  #[.func (.yield (w.heap.size+1)) #[] #[]]++lb,W1, ?_, ?_,fun _ _=>trivial, ?_,fun _=>by decide, ?_⟩
 ·rw [<- hW1,hrec];exact run_enterLoop_outer _ _ _ _ _
 ·simp only [resolve,hga];simp [go_sem]
 ·simp [invoke,go_sem,eo hen]
 ·refine (hseq (w.heap.size+1) (fun j W=>∃ L',I j L'/\St F.b.w0 F.b.C0 F.b.L0 C (.obj (w.heap.size+1) (.loop (rec .ready))::.obj w.heap.size (.deferred (some []))::L') W) W1
   (fun j W ⟨L',_,hs⟩=>hs.sep.c) (fun j W ⟨L',hi,hs⟩=>⟨L',hi,hs.drew⟩) ?_ ⟨L,h0,hS1⟩).mono ?_
  ·rintro j ⟨u,v⟩ W ⟨L',hi,hs⟩ hj;have hl:W.heap[w.heap.size+1]?=some (.loop (rec .ready)):=hs.sep.e _ (aF ..);have hy:=run_yield (P:=F.cx.P) (args:=#[u,v]) hl (by rw [hrec];rfl);rw [hrec] at hy;have hz:(#[p0,p1].zip #[u,v]).foldl (fun tmps (x:Nat × Value)=>match x with | (t,a)=>tmps.setIfInBounds t a) a.tmps=(a.tmps.setIfInBounds p0 u).setIfInBounds p1 v:=by simp
   dsimp only at hy;rw [hz] at hy;refine ⟨fn,_,assign,body,hy,roundIn_of_wpIn trivial ?_⟩;have hfr:FrOk F.n [] [] ((p1,[],v)::(p0,[],u)::fr) { tmps:=(a.tmps.setIfInBounds p0 u).setIfInBounds p1 v,defers:=[] }:=by
    have hk:=hok u v;rw [L3] at hk;have h1:=FrOk.put (u:=u) (FrOk.mk (dd:=F.dd) ha.size ha.defers ha.ent:FrOk F.n [] F.dd fr a) hk.1 ⟨fun _=>rfl,fun hn=>absurd (fun p hp=>by cases hp) hn⟩;have h2:=FrOk.put (u:=v) h1 hk.2 ⟨fun _=>rfl,fun hn=>absurd (fun p hp=>by cases hp) hn⟩;exact ⟨h2.size,Z,h2.ent⟩
   have hA:=Qi (hassign (w.heap.size+1) j u v L' W hi hj) (Mem.le.refl _) hfr (St.start hs.drop.drop.sep);refine wpIn_mono hA (fun e a1 W2 q=>?_);obtain ⟨rfl,frA,LA,hAA,hfr1,hs1⟩:=q;have hs2a:=St.call (Lp:=L') (Lr:=[.obj (w.heap.size+1) (.loop (rec .ready)),.obj w.heap.size (.deferred (some []))]) (St.perm hs (Mm (l₁:=[_,_]))) hs1;have hs2:St F.b.w0 F.b.C0 F.b.L0 C (.obj (w.heap.size+1) (.loop (rec .ready))::.obj w.heap.size (.deferred (some []))::LA) W2:=St.perm hs2a (Mm (l₂:=[_,_]));have hl2:W2.heap[w.heap.size+1]?=some (.loop (rec .ready)):=hs2.sep.e _ (aF ..);refine ⟨_,run_beginRound hl2 (by rw [hrec]), ?_⟩;have hs3:St F.b.w0 F.b.C0 F.b.L0 C (.obj (w.heap.size+1) (.loop (rec .busy))::.obj w.heap.size (.deferred (some []))::LA) (W2.putObj (w.heap.size+1) (.loop { rec .ready with state:=.busy })):=by
    have:=St.putObj (o':=.loop { rec .ready with state:=.busy }) hs2;rw [hrec] at this ⊢;exact this
   have hB:=Qi (hbody (w.heap.size+1) j u v L' frA LA (W2.putObj (w.heap.size+1) (.loop { rec .ready with state:=.busy })) hi hj hAA) (Mem.le.refl _) hfr1 (St.start hs3.drop.drop.sep);refine wpIn_mono hB (fun e a2 W4 q=>?_);obtain ⟨rfl,L1,hi1,hs4⟩:=q;have hs5:=St.call (Lp:=LA) (Lr:=[.obj (w.heap.size+1) (.loop (rec .busy)),.obj w.heap.size (.deferred (some []))]) (St.perm hs3 (Mm (l₁:=[_,_]))) hs4;have hs6:St F.b.w0 F.b.C0 F.b.L0 C (.obj (w.heap.size+1) (.loop (rec .busy))::.obj w.heap.size (.deferred (some []))::L1) W4:=St.perm hs5 (Mm (l₂:=[_,_]));have hl4:W4.heap[w.heap.size+1]?=some (.loop (rec .busy)):=hs6.sep.e _ (aF ..);refine ⟨_,_,run_endRound none hl4,Z,L1,hi1, ?_⟩;have:=St.putObj (o':=.loop { rec .busy with state:=if (none:Option Code).isNone then .ready else .done,pending:=none }) hs6;rw [hrec] at this ⊢;exact this
  ·rintro e W2 ⟨⟨v,rfl⟩,L',hi,hs⟩;have hl:W2.heap[w.heap.size+1]?=some (.loop (rec .ready)):=hs.sep.e _ (aF ..);refine ⟨none,_,by have:=run_endLoop (P:=F.cx.P) hl (by rw [hrec];simp);rw [hrec] at this;exact this, ?_⟩;have hs2:St F.b.w0 F.b.C0 F.b.L0 C (.obj w.heap.size (.deferred (some []))::L') (W2.putObj (w.heap.size+1) (.loop { rec .ready with state:=.exhausted })):=(St.putObj hs).drop;have:=PL 64 (hdone w.heap.size L' hi) hle { a with defers:=[{ target:=.collected w.heap.size,args:=#[] }]++a.defers } _ ⟨ha.size,by rw [ha.defers];rfl,ha.ent⟩ hs2;rw [ve] at this;rw [hrec] at this;exact this
theorem BZ {c:Cx}{d:Func}{n s t b u r v:Nat}{f:Fr}{C:Mem}{L:List Ent}{g:List Deferred}{h:World}{i:Mem}{j:List Ent}{E G:TypeId}{H I:Nat × Nat}{x A:List Value}{k l:TI}{y z:Value}(J:Ent.obj b (.cells ⟨x⟩ E H)∈L)(K:Ent.obj v (.cells ⟨A⟩ G I)∈L)(M:d.results=#[.cell s t,.cell u r])
  (N:ev f [] (.tmp s)=some (.pointer (some ⟨b,0,none⟩))) (O:ev f [] (.tmp u)=some (.pointer (some ⟨v,0,none⟩))) (Q:c.T.get t=some k) (R:cQ k (x.take k.size)=some y) (S:c.T.get r=some l) (U:cQ l (A.take l.size)=some z) :
  ∀ a w,FrOk n [] g f a->St h i j C L w->(results d a.tmps).run c.P w=.ok (.tuple #[y,z]) w:=fun a w B D=>by
 have m:=bC B (fun p o=>by cases o) N;have q:=bC B (fun p o=>by cases o) O;simp only [Act.eval] at m q;have V:=dY (F:=⟨c,d,n,⟨h,i,j⟩,fun _ _ _=>True,Cw.plain c.P,g,fun _ _ _=>True⟩) Q (D.sep.e _ J) R;have W:=dY (F:=⟨c,d,n,⟨h,i,j⟩,fun _ _ _=>True,Cw.plain c.P,g,fun _ _ _=>True⟩) S (D.sep.e _ K) U;simp only [MO] at m q;simp [results,M,m,q,asAddr,V,W]
def wn (D:Nat):Deferred:={ target:=.collected D,args:=#[] }
def oI (D:Nat):Ent:=.obj D (.deferred (some []))
theorem RQ {d:Cx}{g:Func}{n:Nat}{f:List Nat}{b:Bs}{i:Value->Mem->List Ent->Prop}{v:Value}
  (m:∀ a w,FrOk n [] (f.map wn) fr a->St b.w0 b.C0 b.L0 C L w->(results g a.tmps).run d.P w=.ok v w) (h:i v C []) (o:f≠[]) :
  G ⟨d,g,n,b,i,Cw.plain d.P,f.map wn,bodyPostM Fence.wide 3 d.P g (lV b i)⟩ [] .ret fr C (f.map oI++L):=fun s a w k j=>by
 show LeavesInM _ _ _ _ _ _ a.defers _ _;have p:=k;rw [k.defers];have q:∀ (c:List Nat)(w:World),c≠[]->St b.w0 b.C0 b.L0 C (c.map oI++L) w->LeavesInM Fence.wide 3 d.P g a.tmps (lV b i) (c.map wn) .returning w:=by
  intro c;induction c with
  | nil=>exact fun _ h0=>absurd rfl h0
  | cons D c r =>
   intro w _ j;have l:w.heap[D]?=some (.deferred (some [])):=j.sep.e _ (aF ..);have hs:=(St.putObj (o':=.deferred none) j).drop;cases c with
   | nil=>exact ⟨by simp,.inl ⟨D,_,rfl,run_takeDeferred l,v,m a _ p hs,v,C,[],rfl,St.dropAll hs,h⟩⟩
   | cons E c=>exact ⟨by simp,.inl ⟨D,_,rfl,run_takeDeferred l,r _ (by simp) hs⟩⟩
 exact q f w o j
end
end Go.Jog
namespace Go.Proofs.YthnpijdjlddpmaaGreatDoor
open Tryz
open Go Go.Jog
set_option maxRecDepth 100000
def np (t:Tri)(k:Nat):Int × Int:=(Bw t k,Bw t ((k+1) % 3))
abbrev JF:=List ((Int × Int) × Value)
def AX (m:JF)(i:Nat)(t:Tri):Nat->JF
 | 0=>m
 | k+1=>fp (AX m i t k) (np t k) (.int .i64 (i:Nat))
def vo (tris:List Tri):Nat->JF
 | 0=>[]
 | n+1=>AX (vo tris n) n (tris.getD n (0,0,0)) 3
noncomputable def kI2:KeyP cx.P 183 (Int × Int):=LF rfl rfl rfl kr_
theorem CK (C:Mem)(q I:Value)(a:List Tri)(N:a≠[])(x:Sl C 3 I (a.map jI))(O:∀ i t k,a[i]?=some t->k<3->cV (AX (vo a i) i t k) (np t k)=none) :
  Pur cx.P 153 [.agg ⟨[q,I]⟩] C fun u D=>∃ b,u=.tuple #[.map (some b),.bool true]/\D b=some (aM oB (vo a a.length)):=by
 obtain ⟨A2,c2,rfl,Q,aa,_⟩:=id x;have ab:maxLen<=9223372036854775807:=by simp [maxLen]
 simp only [ax] at x Q ⊢;refine Qf kr_ func153 Z 36 Z Z fun w0=>Pb fun R c=>Pr U6 fun r=>Pq U5 fun h=>Pq U5 fun n=>Pd [1,2,3] c Z<|Pb fun R c=>QO kI2 Z Z Z Z fl_ fun f=>Pq U5 fun o=>Pg (j:=0) U12<|Pd [1,2,3,4] c Z<|O7 1 Z fun R c=>Pe (.tail _ (.tail _ (.tail _ (.tail _ (.head _))))) U9<|C4 2 [2,3,4,13,14,15] c Z<|G.perm (L':=[.obj o (.cells ⟨[.map (some f)]⟩ 242 (0,0)),.obj f (aM oB []),.obj n (.cells ⟨[.bool false]⟩ 4 (0,0)),.obj h (.cells ⟨[.map none]⟩ 242 (0,0)),.obj r (.cells ⟨[q,.slice A2 a.length c2]⟩ 36 (0,0))]) (LR _)<|RN (fun dd fr C' d S=>∃ (i:Nat)(g:List Nat),(i<=a.length/\g.length=i)/\dd=g.map wn/\fr=[(2,[],.pointer (some ⟨h,0,none⟩)),(3,[],.pointer (some ⟨n,0,none⟩)),(4,[],.pointer (some ⟨o,0,none⟩)),(13,[],.slice A2 a.length c2),(14,[],.int .i64 a.length),(15,[],.int .i64 i)]/\d=[.obj o (.cells ⟨[.map (some f)]⟩ 242 (0,0)),.obj f (aM oB (vo a i)),.obj n (.cells ⟨[.bool false]⟩ 4 (0,0)),.obj h (.cells ⟨[.map none]⟩ 242 (0,0)),.obj r (.cells ⟨[q,.slice A2 a.length c2]⟩ 36 (0,0))]++g.map oI/\S=a.length-i) (hn_ [2,3,4,13,14,15] Z) ⟨0,[],⟨LV _,Z⟩,Z,Z,Z,Z⟩ (fun dd fr ac ad m _ p=>?_);obtain ⟨i,g,⟨hi,y⟩,rfl,rfl,rfl,rfl⟩:=p;refine C6 1 [2,3,4,13,14,15,16] Z<|O9 (fun A=>?_) fun A=>?_
 ·have B:i<a.length:=by simpa using A
  obtain ⟨t,E⟩:∃ t,a[i]?=some t:=⟨a[i],aj B⟩;refine O7 1 Z fun R c=>Pm x.m_ U10 om_ (by rw [LU,E];rfl:(a.map jI)[i]?=some (jI t)) fl_ fun ae T=>O8 T U8<|Pq U5 fun F=>Pq U5 fun J=>Pg (j:=1) U12<|Pg (j:=1) U12<|Pd [2,3,4,5,6,13,14,15] c Z<|Pb fun R c=>Pe (.head _) U9<|PK (Ff _ t) U7 fun af _ _ U=>Pd [2,3,4,5,13,14,15,21] c Z ?_;obtain ⟨V,rfl,W⟩:=U;refine RT Z Z kr_ (zj _ V _ t W) (fun j d=>∃ (z:Unit),(j<=3)/\d=[.obj J (.cells ⟨jI t⟩ 108 (0,0)),.obj F (.cells ⟨[.int .i64 i]⟩ 3 (0,0)),.obj o (.cells ⟨[.map (some f)]⟩ 242 (0,0)),.obj f (aM oB (AX (vo a i) i t j)),.obj n (.cells ⟨[.bool false]⟩ 4 (0,0)),.obj h (.cells ⟨[.map none]⟩ 242 (0,0)),.obj r (.cells ⟨[q,.slice A2 a.length c2]⟩ 36 (0,0))]++g.map oI) ⟨(),LV _,Z⟩ Z (fun _ _=>rfl) (fun j d fr LA=>∃ (s:Nat),fr=[(2,[],.pointer (some ⟨h,0,none⟩)),(3,[],.pointer (some ⟨n,0,none⟩)),(4,[],.pointer (some ⟨o,0,none⟩)),(5,[],.pointer (some ⟨F,0,none⟩)),(8,[],.pointer (some ⟨s,0,none⟩))]/\LA=.obj s (.cells ⟨[.int .i64 (np t j).1,.int .i64 (np t j).2]⟩ 183 (0,0))::d) (fun l j u v d W1 p w=>?_) (fun l j u v d ag LA W1 p w X=>?_) (fun K d p=>?_)
  ·obtain ⟨z,L,rfl⟩:=p;have H:j<3:=by have:=(aX.1 w).1;rwa [kU] at this
   rw [tG H] at w;cases w
   exact Pb fun R c=>Pq U5 fun s=>Pg (j:=0) U12<|Pd [2,3,4,5,8] c Z<|RU (hn_ [2,3,4,5,8] Z) ⟨s,Z,Z⟩
  ·obtain ⟨z,L,rfl⟩:=p;obtain ⟨s,rfl,rfl⟩:=X;have H:j<3:=by have:=(aX.1 w).1;rwa [kU] at this
   refine Pb fun R c=>Pe (.tail _ (.tail _ (.tail _ (.head _)))) U9<|Pe (.head _) U9<|QQ kI2 (.tail _ (.tail _ (.tail _ (.tail _ (.head _))))) Z Z Z Z Z Z Z Z Z (congrArg (jE _ true) (O i t j E H)) Z Z<|C4 5 [2,3,4,5,8,10] c Z<|C6 1 [2,3,4,5,8,30] Z<|O9 (fun M=>?_) fun M=>?_
   ·exact absurd M dc_
   ·refine Pb fun R c=>Pe (.tail _ (.tail _ (.tail _ (.head _)))) U9<|Pe (.head _) U9<|Pe (.tail _ (.tail _ (.head _))) U9<|QK kI2 (j:=4) Z Z Z Z Z Z Z Z Z Z<|P0 [] trivial (c _ _ _ Z ?_);exact PQ 1 Z<|QD (R:=fun d=>∃ (z:Unit),((j+1)<=3)/\d=[.obj J (.cells ⟨jI t⟩ 108 (0,0)),.obj F (.cells ⟨[.int .i64 i]⟩ 3 (0,0)),.obj o (.cells ⟨[.map (some f)]⟩ 242 (0,0)),.obj f (aM oB (AX (vo a i) i t (j+1))),.obj n (.cells ⟨[.bool false]⟩ 4 (0,0)),.obj h (.cells ⟨[.map none]⟩ 242 (0,0)),.obj r (.cells ⟨[q,.slice A2 a.length c2]⟩ 36 (0,0))]++g.map oI) (List.perm_middle (l₁:=[_,_,_])).symm ⟨(),om_,Z⟩
  ·obtain ⟨z,L,rfl⟩:=p;refine Pb fun R c=>Pi _ U7<|C4 1 [2,3,4,13,14,15] c Z<|PQ 1 Z<|PQ 1 Z<|G.perm (L':=[.obj o (.cells ⟨[.map (some f)]⟩ 242 (0,0)),.obj f (aM oB (vo a (i+1))),.obj n (.cells ⟨[.bool false]⟩ 4 (0,0)),.obj h (.cells ⟨[.map none]⟩ 242 (0,0)),.obj r (.cells ⟨[q,.slice A2 a.length c2]⟩ 36 (0,0))]++(K::g).map oI) (by
    rw [show vo a (i+1)=AX (vo a i) i t (tH t).length by rw [kU,vo,ak,E];rfl];exact (List.perm_middle (l₁:=[_,_,_,_,_])).symm) ?_
   refine RM (m':=a.length-(i+1)) om_ mup (hn_ [2,3,4,13,14,15] Z) ⟨i+1,K::g,⟨by omega,by simp [y]⟩,Z,Z,Z,Z⟩
 ·have B:i=a.length:=by
   have:¬ i<a.length:=by simpa using A
   omega
  refine Pb fun R c=>Pe (.head _) U9<|Pg (j:=3) U12<|Pg (j:=3) U12<|Pd [2,3] c Z<|G.freeze 3 Z fun Cf ah Y=>G.perm (L':=g.map oI++[_,_,_,_]) (Mm (l₁:=[_,_,_,_]))<|Pl (RQ (BZ (.tail _ (.head _)) (.head _) Z Z Z Z Z Z Z) ?_ ?_)
  ·exact ⟨Z,f,Z,by rw [<- B];exact Y⟩
  ·intro e;rw [e] at y;have:=MD.2 N;simp at y;omega
def fN (s p:Nat):Value:=.agg ⟨[.int .i64 (s:Nat),.int .i64 (p:Nat)]⟩
theorem jY (C:Mem)(s p:Nat)(h:s*p<=1000000000):Gives cx.P 65 [fN s p] C (.int .i64 ((s*p:Nat):Int)):=by
 exact Ph func65 8 U3 fun w0=>Pb fun R a=>Pr U6 fun b=>C4 1 [1] a Z<|O7 1 Z fun R a=>Pe (.head _) U9<|Pa U6<|Pe (.head _) U9<|Pi _ U7<|C4 1 [2] a Z<|Pf U2<|⟨Z,Z⟩
theorem J1 (C:Mem)(s p:Nat)(i k:Int)(h:-1000000000000<=i*p/\i*p<=1000000000000)(b:-1000000000<=k/\k<=1000000000):Gives cx.P 190 [fN s p,.int .i64 i,.int .i64 k] C (.int .i64 (i*p+k)):=by
 exact Ph func190 13 U3 fun w0=>Pb fun R a=>Pr U6 fun c=>C4 1 [1,2,3] a Z<|O7 2 Z fun R a=>Pe (.head _) U9<|Pi _ U7<|Pa U6<|Pi _ U7<|C4 1 [6] a Z<|Pf U2<|⟨Z,Z⟩
end Go.Proofs.YthnpijdjlddpmaaGreatDoor
namespace Go.Jog
open Go Go.MapKept
section
variable {cx:Cx} {n:Nat} {ds:List (Option Nat)} {R:Rg n ds} {its:List It} {fr:Fr} {C:Mem} {L:List Ent} {i k d:Nat} {o:Oper} {g:GL} {v:Value}
variable {κ:Type} (enc:κ->Value)
theorem zm {P:Program}{T:Tab}(d:nf P T=true){t e f:Nat}{c:TI}(g:T.get t=some c)(h:c.k=.map e f){a:Act}{o:Oper}{x:Operand}{b:Nat}{m:List (κ × Value)}(i:o.op=.call ⟨.builtin .len,#[x],#[t]⟩)(j:a.eval x=.map (some b)){w:World}(l:w.heap[b]?=some (aM enc m)) :
  (execOp a.eval o).run P w=.ok (.value (.int .i64 (m.length:Nat))) w:=by
 have n:=gb d g h;have p:execOp a.eval o=(do let dd <- resolve a.eval ⟨.builtin .len,#[x],#[t]⟩ o.type;invoke dd.target dd.args:Sem Next):=by unfold execOp;rw [i]
 have h1:(getObj b).run P w=.ok (.map ⟨bq enc m 0⟩ m.length) w:=Go.MapKept.run_getObj_map l;have q:(Builtin.len_ #[t] o.type #[.map (some b)]).run P w=.ok (.int .i64 (m.length:Nat)) w:=by
  simp [Builtin.len_,run_underlying n,h1,lK,goInt]
 rw [p];simp only [resolve,invoke,builtin,Sem.run_bind,Sem.run_pure,Result.andThen_ok,NS,Mp,NQ,j,q]
theorem QT {b t j l:Nat}{x:Operand}{m:List (κ × Value)}{c:TI}(p:Ent.obj b (aM enc m)∈L)(f:k=1)(q:o.dst=some d)(r:o.op=.call ⟨.builtin .len,#[x],#[t]⟩)(s:gOf ds fr o.guard=some g)(u:ev fr g x=some (.map (some b)))
  (v:cx.T.get t=some c) (y:c.k=.map j l) (z:aO n ds ((d,g,.int .i64 (m.length:Nat))::fr) d=true) (A:wfG ds fr g=true)
  (h:D cx R its ((d,g,.int .i64 (m.length:Nat))::fr) C L):D cx R ((i,k,o)::its) fr C L :=
 PO (by subst f;rfl) q s z A (fun _ a hs G B w E=>by
  have F:w.heap[b]?=some (aM enc m):=E.sep.e _ ((B f).2 _ p);unfold Oper.quietAt;rw [zm enc cx.hT v y r (hs _ _ u) F];exact ⟨Z,Z⟩) h
end
end Go.Jog
namespace Go.Jog
open Go Go.MapKept
variable {C:Mem}{b:Nat}{cs:List Value}{f first:Int}{k:Nat}{out:List Int}{p q:Int}{seen:List Nat}{t:TypeId}
def keyZ:KeyT (.int .i64) Int where
 enc z:=.int .i64 z
 isKey _:=rfl
 same a b:=by
  simp only [Instr.sameNow,Ny];congr 1
section
variable {κ β:Type} [DecidableEq κ]
theorem bZ:∀ {m:List (κ × β)}{k:κ},cV m k=none ↔ k ∉ m.map (·.1)
 | [],k=>by simp [cV]
 | (a,v)::m,k=>by
  simp only [cV,Mp,Ma,not_or];by_cases h:a=k
  ·simp [h]
  ·rw [aC h,bZ (m:=m)];exact ⟨fun h2=>⟨fun e=>h e.symm,h2⟩,fun h2=>h2.2⟩
theorem iS:∀ {m:List (κ × β)}{k:κ}{v:β},cV m k=none->fp m k v=m++[(k,v)]
 | [],k,v,_=>rfl
 | (b,c)::m,k,v,h=>by
  simp only [cV] at h;split at h
  ·cases h
  ·rename_i a;simp only [fp,aC a,ND,iS h]
theorem gr:∀ {m:List (κ × β)}{k:κ}{v:β},cV m k=some v->(k,v)∈m
 | (a,b)::m,k,v,h=>by
  simp only [cV] at h;split at h
  ·rename_i e;cases h;subst e;exact aF
  ·exact LW _ (gr h)
theorem eY:∀ {m:List (κ × β)}{k:κ}{v:β},(m.map (·.1)).Nodup->(k,v)∈m->cV m k=some v
 | (b,c)::m,k,v,a,h=>by
  simp only [Mp,OS] at a;rcases Ma.1 h with h | h
  ·cases h;simp [cV]
  ·have:b≠k:=fun e=>a.1 (e ▸ NV (f:=(·.1)) h);simp only [cV,aC this];exact eY a.2 h
theorem uk {m a:List (κ × β)}(h:m.Perm a)(c:(m.map (·.1)).Nodup)(k:κ):cV m k=cV a k:=by
 have d:(a.map (·.1)).Nodup:=(h.map (·.1)).nodup_iff.1 c;cases b:cV m k with
 | some v=>exact (eY d (h.mem_iff.1 (gr b))).symm
 | none =>
  cases e:cV a k with
  | none=>rfl
  | some v=>rw [eY c (h.mem_iff.2 (gr e))] at b;cases b
end
abbrev gX:=Int × Int
def JP (s:gX):gX:=(s.2,s.1)
def jo (ks:List gX)(s:gX):Bool:=!(decide (JP s∈ks))
def rR (B:List gX):List (Int × Value):=B.map fun s=>(s.1,.int .i64 s.2)
theorem xX (B:List gX):(rR B).length=B.length:=by simp [rR]
theorem gl (B:List gX)(p:Int):cV (rR B) p=(cV B p).map (.int .i64):=yc (fun z:Int=>Value.int .i64 z) B p
theorem xW {B:List gX}(h:cV B p=none):fp (rR B) p (.int .i64 q)=rR (B++[(p,q)]):=by
 rw [iS (by rw [gl,h];rfl)];simp [rR]
def ko (B:List gX)(f:Int):Prop:=(B=[]/\f=-1)∨(0<=f/\f∈B.map (·.1)/\∀ s∈B,f<=s.1)
def DI (B:List gX):Int:=B.foldl (fun f s=>if f<0∨s.1<f then s.1 else f) (-1)
theorem om {B:List gX}(h:ko B f)(s:gX)(b:0<=s.1):ko (B++[s]) (if f<0∨s.1<f then s.1 else f):=by
 right;rcases h with ⟨rfl,rfl⟩ | ⟨h1,h2,h3⟩
 ·rw [aI (.inl dc_)];exact ⟨b,by simp,by simp⟩
 ·by_cases c:s.1<f
  ·rw [aI (.inr c)];refine ⟨b,by simp,fun t a=>?_⟩;rcases Mh.1 a with a | a
   ·have:=h3 t a;omega
   ·rw [Mn.1 a];exact Int.le_refl _
  ·rw [aC om_];refine ⟨h1,by rw [My];exact Na _ h2,fun t a=>?_⟩;rcases Mh.1 a with a | a
   ·exact h3 t a
   ·rw [Mn.1 a];omega
theorem ur {B:List gX}(h:∀ s∈B,0<=s.1):ko B (DI B):=by
 have c:∀ (a b:List gX)(f:Int),(∀ s∈a,0<=s.1)->ko b f->ko (b++a) (a.foldl (fun f s=>if f<0∨s.1<f then s.1 else f) f):=by
  intro a;induction a with
  | nil=>intro b f _ h;simpa using h
  | cons s a d =>
   intro b f h1 h2;have:=d (b++[s]) _ (fun t e=>h1 t (LW _ e)) (om h2 s (h1 s aF));simpa using this
 exact c B [] (-1) h (.inl ⟨Z,Z⟩)
theorem vQ {B d:List gX}{e:Int}(c:B.Perm d)(h:ko B f)(g:ko d e):f=e:=by
 rcases h with ⟨rfl,rfl⟩ | ⟨h1,h2,h3⟩
 ·rcases g with ⟨_,rfl⟩ | ⟨_,h5,_⟩
  ·rfl
  ·rw [<- c.nil_eq] at h5;simp at h5
 ·rcases g with ⟨rfl,_⟩ | ⟨h4,h5,i⟩
  ·rw [c.eq_nil] at h2;simp at h2
  ·obtain ⟨s,hs,rfl⟩:=L4.1 h2;obtain ⟨t,j,rfl⟩:=L4.1 h5;have a:=h3 t (c.mem_iff.2 j);have b:=i s (c.mem_iff.1 hs);omega
def gY (B:List gX)(first:Int):Nat->Int->List Int->Option (List Int)
 | 0,_,out=>some out
 | k+1,p,out=>match cV B p with
  | none=>none
  | some q=>if p=first/\out≠[] then none else gY B first k q (out++[p])
theorem pu {B a:List gX}(c:B.Perm a)(d:(B.map (·.1)).Nodup)(b:Int):∀ (k:Nat)(p:Int)(out:List Int),gY B b k p out=gY a b k p out
 | 0,_,_=>rfl
 | k+1,p,out=>by
  simp only [gY,uk c d];cases cV a p with
  | none=>rfl
  | some q=>simp only [pu c d b k]
def AY (ks:List gX):Option (List Int) :=
 if ((ks.filter (jo ks)).map (·.1)).Nodup then gY (ks.filter (jo ks)) (DI (ks.filter (jo ks))) (ks.filter (jo ks)).length (DI (ks.filter (jo ks))) [] else none
def ud (ks:List gX):List Int:=(AY ks).getD []
theorem zE {a B:List gX}{s t:gX}(b:(B++[s]).Nodup)(c:∀ x∈B++[s],x∈a.filter (jo a))(d:t∈B)(e:t.1=s.1):AY a=none:=by
 unfold AY;rw [aC];intro f;have h1:=c s (by simp);have h2:=c t (by simp [d]);have g:t≠s:=by
  rintro rfl;rw [Np] at b;exact b.2.2 t d t (by simp) Z
 have h3:=eY f (k:=s.1) (v:=s.2) h1;have h4:=eY f (k:=t.1) (v:=t.2) h2;rw [e,h3] at h4;exact g (Prod.ext e (Nc h4).symm)
theorem FS {a B:List gX}(b:B.Perm (a.filter (jo a)))(c:(B.map (·.1)).Nodup)(d:∀ s∈a,0<=s.1)(e:ko B f):AY a=gY B f B.length f []:=by
 unfold AY;rw [aI ((b.map (·.1)).nodup_iff.1 c),<- pu b c,<- b.length_eq,<- vQ b e (ur fun s hs=>d s (NP.1 hs).1)]
theorem yW {B:List gX}(h:cV B p=none∨(p=first/\out≠[])):gY B first (k+1) p out=none:=by
 simp only [gY];rcases h with h | h
 ·rw [h]
 ·cases cV B p with
  | none=>rfl
  | some q=>simp [h]
theorem yV {B:List gX}(h:cV B p=some q)(a:¬ (p=first/\out≠[])):gY B first (k+1) p out=gY B first k q (out++[p]):=by
 simp only [gY,h];rw [aC a]
def eK (ks:List gX)(seen:List Nat):List gX:=(seen.map fun j=>ks.getD j (0,0)).filter (jo ks)
theorem tL {b:Type}{d:b}{a:List b}(c:seen.Nodup)(e:∀ j∈seen,j<a.length)(f:∀ j,j<a.length->j∈seen):(seen.map fun j=>a.getD j d).Perm a:=by
 have g:seen.Perm (List.range a.length):=(List.perm_ext_iff_of_nodup c List.nodup_range).2 (fun j=>by
  rw [Me];exact ⟨fun h=>e j h,fun h=>f j h⟩)
 refine (g.map _).trans (List.Perm.of_eq ?_);refine List.ext_getElem? (fun i=>?_);rw [LU];rcases Mw i a.length with h | h
 ·rw [Mr h];simp [aj h]
 ·rw [LX (by simpa using h),LX h];rfl
theorem zk {a:List gX}{j:Nat}{s:gX}(h:a[j]?=some s):eK a (seen++[j])=eK a seen++if jo a s then [s] else []:=by
 unfold eK;rw [My,Nw];congr 1;rw [Mp,NQ,ak,h,List.filter_cons];rfl
theorem BR {a:List gX}(c:∀ j∈seen,j<a.length):∀ x∈eK a seen,x∈a.filter (jo a):=by
 intro x b;rw [eK,NP] at b;obtain ⟨j,d,rfl⟩:=L4.1 b.1;rw [NP];refine ⟨?_,b.2⟩;rw [ak,aj (c j d)];exact MP _
theorem vD {c:List gX}(f:c.Nodup):∀ {seen:List Nat},seen.Nodup->(∀ j∈seen,j<c.length)->(eK c seen).Nodup:=by
 intro seen g d;unfold eK;refine List.Pairwise.filter _ ?_;rw [List.pairwise_map];refine List.Pairwise.imp_of_mem ?_ g;intro a b h i k e;rw [ak,ak,aj (d a h),aj (d b i)] at e;exact k ((List.getElem_inj f).1 e)
theorem PtrTo.blockT {e:Nat × Nat}(h:C b=some (.cells ⟨cs⟩ t e))(d n:Nat):PtrTo C (.pointer (some ⟨b,d,none⟩)) ((cs.drop d).take n) :=
 let ⟨a,h1,h2,h3⟩:=PtrTo.block h d
 ⟨a,h1,h2,fun j v c=>h3 j v (by
  rw [Mz] at c;split at c
  ·exact c
  ·cases c)⟩
theorem bkT {D:Mem}{c:Nat × Nat}(h:C b=some (.cells ⟨cs⟩ t c))(n:Nat){a:Nat}(d:C.le D:=by (repeat (first | exact Mem.le.refl _ | assumption | (apply Mem.le.trans;rotate_left;assumption)))):PtrTo D (.pointer (some ⟨b,a,none⟩)) ((cs.drop a).take n):=PtrTo.blockT (Mem.get h d) a n
theorem oc (z:Value)(o:Option Value):jE z true o=.tuple #[o.getD z,.bool o.isSome]:=by cases o <;> rfl
section
variable {F:Fx} {k:List KI} {fr:Fr} {C:Mem} {L:List Ent}
theorem RP {e:Exit}{v:Value}{t b a:Nat}{d:List Value}(i:Ent.arr v t b a d∈L)(h:∀ A c,v=.slice A a c->d.length=a*b->a<=c->c<=maxLen->G F k e fr C L):G F k e fr C L :=
 G.form i fun j f=>by
  rcases j with ⟨h1,h2⟩ | ⟨g,c,h1,h2,h3⟩
  ·exact h none 0 (by rw [h1,h2]) f om_ (LV _)
  ·exact h _ c h1 f h2 h3
end
end Go.Jog
namespace Go.Proofs.YthnpijdjlddpmaaGreatDoor
open Tryz
open Go Go.Jog
set_option maxRecDepth 100000
theorem FU {m:JF}{s:gX}:(cV m (s.2,s.1)).isSome=!jo (m.map (·.1)) s:=by
 unfold jo JP;rw [Bool.not_not];cases h:cV m (s.2,s.1) with
 | none=>rw [bZ] at h;simp [h]
 | some v =>
  have:=NV (f:=(·.1)) (gr h);simp only [Option.isSome_some];exact (Mc this).symm
theorem FQ (C:Mem)(v1 v2:Value)(b:Nat)(m:JF)(o:C b=some (aM oB m))(hn:(m.map (·.1)).Nodup)(Q:∀ s∈m.map (·.1),0<=s.1)(ay:m.length<=1000000) :
  Pur cx.P 154 [.agg ⟨[v1,v2]⟩,.map (some b)] C fun u D=>∃ v,u=.tuple #[v,.bool (decide (ud (m.map (·.1))≠[]))]/\Sl D 1 v ((ud (m.map (·.1))).map wd):=by
 have az:maxLen<=9223372036854775807:=by simp [maxLen]
 have S:=fun s:gX=>FU (m:=m) (s:=s);obtain ⟨c,K⟩:∃ c,m.map (·.1)=c:=⟨_,rfl⟩;rw [K] at hn Q ⊢;simp only [K] at S;have ag:c.length=m.length:=by rw [<- K];simp
 refine Ph func154 93 U3 fun w0=>Pb fun R d=>Pr U6 fun b2=>C4 2 [1] d Z<|Pb fun R d=>D.makeMap keyZ Z Z Z Z fl_ fun n=>C4 1 [1,6] d Z<|C6 1 [1,6,7] Z<|O7 1 Z fun R d=>Ru kI2.enc (Mem.get o mup) Z Z Z Z Z Z Z fl_ fun F=>Pd [1,6,7,19] d Z<|PQ 2 Z<|G.loop (fun fr C' x T=>∃ (seen:List Nat)(f:Int),(seen.Nodup/\(∀ j∈seen,j<c.length)/\((eK c seen).map (·.1)).Nodup/\ko (eK c seen) f)/\fr=[(1,[],.map (some b)),(6,[],.map (some n)),(7,[],.int .i64 f),(19,[],.pointer (some ⟨F,0,none⟩))]/\x=[.obj F (bi b m.length seen),.obj n (aM keyZ.enc (rR (eK c seen)))]/\T=c.length-seen.length) (hn_ [1,6,7,19] Z) ⟨[], -1,⟨List.nodup_nil,by simp,by simp [eK],.inl ⟨Z,Z⟩⟩,Z,Z,Z⟩ (fun fr aA aB m _ U=>?_);obtain ⟨seen,f,⟨ah,ai,L,M⟩,rfl,rfl,rfl⟩:=U;refine Pb fun R d=>Q8 kI2.enc (q:=0) (Mem.get o mup) Z Z Z Z Z Z fl_ fun ak aD N al=>C4 1 [1,6,7,19,21] d Z<|O9 (fun H=>?_) fun H=>?_
 ·obtain ⟨aF,j,hj,ar,rfl⟩:ak=true/\∃ j,j<m.length/\j ∉ seen/\N=seen++[j]:=by
   rcases al with ⟨h1,_⟩ | h1
   ·rw [h1] at H;cases H
   ·exact h1
  rw [<- ag] at hj;obtain ⟨⟨s,bv⟩,hs⟩:∃ p,m[j]?=some p:=⟨m[j]'om_,aj om_⟩;have am:c[j]?=some s:=by rw [<- K,LU,hs];rfl
  have I:(seen++[j]).Nodup:=by
   rw [Np];exact ⟨ah,by simp,fun a V b o e=>by rw [Mn.1 o] at e;subst e;exact ar V⟩
  have A:∀ i∈seen++[j],i<c.length:=fun i W=>by
   rcases Mh.1 W with h | h
   ·exact ai i h
   ·rw [Mn.1 h];exact hj
  have aG:(seen++[j]).length<=c.length:=by
   have:=List.Nodup.length_le_of_subset I (l₂:=List.range c.length) (fun i W=>Me.2 (A i W));simpa using this
  have aH:(seen++[j]).length=seen.length+1:=by simp
  have g:=zk am (seen:=seen);have au:0<=s.1:=Q s (LQ am);refine Pb fun R d=>Rx kI2.enc (Mem.get o mup) hs (.head _) Z Z Z Z Z Z Z<|Pa U6<|Pq U5 fun b8=>Pg (j:=0) U12<|Pd [1,6,7,8,19] d Z<|O7 1 Z fun R d=>Py (1) U9 (fun _=>⟨by decide,by decide,Z⟩) U2<|Pe (.head _) U9<|Py (0) U9 (fun _=>⟨by decide,by decide,Z⟩) U2<|Pe (.head _) U9<|PB [.int .i64 s.2,.int .i64 s.1] U8<|Q9 kI2 (fun _=>(Mem.get o mup)) Z Z Z Z Z Z Z Z Z (oc _ (cV m (s.2,s.1))) Z Z<|C4 5 [1,6,7,8,10,19] d Z<|C6 1 [1,6,7,8,19,34] Z<|O9 (fun X=>?_) fun X=>?_
  ·have Y:jo c s=false:=by
    have h:(cV m (s.2,s.1)).isSome=true:=X;rw [S] at h;simpa using h
   rw [Y] at g;simp only [MC,MW,Mi] at g;refine PQ 0 Z<|Po (L':=[.obj F (bi b m.length (seen++[j])),.obj n (aM keyZ.enc (rR (eK c (seen++[j]))))]) (by rw [g];rfl)<|Pk (m':=c.length-(seen++[j]).length) om_ mup (hn_ [1,6,7,19] Z) ⟨seen++[j],f,⟨I,A,by rw [g];exact L,by rw [g];exact M⟩,Z,Z,Z⟩
  ·have Y:jo c s=true:=by
    have h:(cV m (s.2,s.1)).isSome=false:=X;rw [S] at h;simpa using h
   rw [Y] at g;simp only [Ny] at g;refine O7 1 Z fun R d=>Py (0) U9 (fun _=>⟨by decide,by decide,Z⟩) U2<|Pe (.head _) U9<|Qk keyZ (.tail _ (.tail _ (.head _))) Z Z Z Z Z Z Z Z kr_ Z (oc _ (cV (rR (eK c seen)) s.1)) Z Z<|C4 5 [1,6,7,8,12,19] d Z<|C6 1 [1,6,7,8,19,42] Z<|O9 (fun aa=>?_) fun aa=>?_
   ·have z:(cV (rR (eK c seen)) s.1).isSome=true:=aa;rw [gl] at z;have ab:AY c=none:=by
     cases l:cV (eK c seen) s.1 with
     | none=>rw [l] at z;cases z
     | some q=>exact zE (B:=eK c seen) (s:=s) (t:=(s.1,q)) (by rw [<- g];exact vD hn I A) (by rw [<- g];exact BR A) (gr l) rfl
    have J:ud c=[]:=by unfold ud;rw [ab];rfl
    refine C6 2 [4,5] Z<|Pl (G.dropAll (PE U3 ?_));exact ⟨Z,.slice none 0 0,by rw [J];rfl,by rw [J];exact Sl.nil _ _⟩
   ·have z:(cV (rR (eK c seen)) s.1).isSome=false:=aa;have ac:cV (eK c seen) s.1=none:=by
     rw [gl] at z;cases l:cV (eK c seen) s.1 with
     | none=>rfl
     | some q=>rw [l] at z;cases z
    have an:((eK c (seen++[j])).map (·.1)).Nodup:=by
     rw [g,My,Np];refine ⟨L,by simp,fun a V b o e=>?_⟩;rw [List.map_singleton,Mn] at o;subst o;subst e;exact (bZ.1 ac) V
    have O:=om M s au;refine O7 1 Z fun R d=>Py (0) U9 (fun _=>⟨by decide,by decide,Z⟩) U2<|Pe (.head _) U9<|Py (1) U9 (fun _=>⟨by decide,by decide,Z⟩) U2<|Pe (.head _) U9<|D.mapUpdate keyZ (j:=2) Z Z Z Z Z Z Z Z Z Z kr_<|Pd [1,6,7,8,19] d Z<|O7 3 Z fun R d=>Py (0) U9 (fun _=>⟨by decide,by decide,Z⟩) U2<|Pe (.tail _ (.head _)) U9<|Pc 2 Z<|PD U8<|Pd [1,6,7,8,19,55] d Z<|O9 (fun ad=>?_) fun ad=>?_
    ·have ae:f<0∨s.1<f:=by simpa using ad
     rw [aI ae] at O;refine Pb fun R d=>Py (0) U9 (fun _=>⟨by decide,by decide,Z⟩) U2<|Pe (.tail _ (.head _)) U9<|C4 1 [1,6,7,19] d Z<|PQ 1 Z<|G.perm (L':=[.obj F (bi b m.length (seen++[j])),.obj n (aM keyZ.enc (rR (eK c (seen++[j]))))]) (by
      rw [g,<- xW ac];exact List.Perm.swap _ _ _) ?_
     refine Pk (m':=c.length-(seen++[j]).length) om_ mup (hn_ [1,6,7,19] Z) ⟨seen++[j],s.1,⟨I,A,an,by rw [g];exact O⟩,Z,Z,Z⟩
    ·have ae:¬ (f<0∨s.1<f):=by simpa using ad
     rw [aC ae] at O;refine PQ 1 Z<|G.perm (L':=[.obj F (bi b m.length (seen++[j])),.obj n (aM keyZ.enc (rR (eK c (seen++[j]))))]) (by
      rw [g,<- xW ac];exact List.Perm.swap _ _ _) ?_
     refine Pk (m':=c.length-(seen++[j]).length) om_ mup (hn_ [1,6,7,19] Z) ⟨seen++[j],f,⟨I,A,an,by rw [g];exact O⟩,Z,Z,Z⟩
 ·obtain ⟨aJ,rfl,ao⟩:ak=false/\N=seen/\∀ j,j<m.length->j∈seen:=by
   rcases al with h1 | ⟨h1,_⟩
   ·exact h1
   ·rw [h1] at H;cases H
  rw [<- ag] at ao;have hp:(eK c N).Perm (c.filter (jo c)):=(tL ah ai ao).filter _;obtain ⟨B,g⟩:∃ B,eK c N=B:=⟨_,rfl⟩;rw [g] at hp L M;have hO:=FS hp L Q M;have aK:B.length<=c.length:=by rw [hp.length_eq];exact No _ _
  refine C6 1 [6,7,13] Z<|C6 2 [6,7,13,14] Z<|PQ 0 Z<|G.nilArr 3 1<|Po (L':=[.arr (.slice none 0 0) 3 1 0 [],.obj n (aM keyZ.enc (rR B))]) (by rw [g];rfl)<|G.loop (fun fr C' x T=>∃ (out:List Int)(w:Value)(p:Int),(out.length<=B.length/\gY B f (B.length-out.length) p out=AY c)/\fr=[(6,[],.map (some n)),(7,[],.int .i64 f),(13,[],w),(14,[],.int .i64 p)]/\x=[.arr w 3 1 out.length (out.map (Value.int .i64)),.obj n (aM keyZ.enc (rR B))]/\T=B.length-out.length) (hn_ [6,7,13,14] Z) ⟨[],_,f,⟨LV _,hO.symm⟩,Z,Z,Z⟩ (fun fr aL aN m _ U=>?_);obtain ⟨out,w,p,⟨aO,E⟩,rfl,rfl,rfl⟩:=U;refine RP (.head _) (fun Aw cw hw aP aQ aR=>?_);subst hw;refine Px [(3,1)] Z fun R d=>Pc 3 Z<|QT keyZ.enc (.tail _ (.head _)) Z Z Z Z Z Z Z Z Z<|C4 1 [6,7,13,14,63] d Z<|O9 (fun af=>?_) fun af=>?_
  ·have aS:out.length<B.length:=by
    simp only [LY,xX] at af;omega
   obtain ⟨r,hr⟩:∃ r,B.length-out.length=r+1:=⟨B.length-out.length-1,by omega⟩;rw [hr] at E;refine O7 2 Z fun R d=>Qk keyZ (.tail _ (.head _)) Z Z Z Z Z Z Z Z kr_ Z (oc _ (cV (rR B) p)) Z Z<|C4 5 [6,7,13,14,16] d Z<|O7 10 Z fun R d=>Pz U8<|PD U8<|Pd [6,7,13,14,84] d Z<|O9 (fun k=>?_) fun k=>?_
   ·have ab:AY c=none:=by
     rw [<- E];refine yW ?_;rw [gl] at k;cases l:cV B p with
     | none=>exact .inl rfl
     | some q =>
      rw [l] at k;simp only [Nt,Option.isSome_some,Bool.not_true,Bool.false_or,L3,Nh,LY] at k;exact .inr ⟨k.1,fun e=>by rw [e] at k;simp at k⟩
    have J:ud c=[]:=by unfold ud;rw [ab];rfl
    refine C6 2 [4,5] Z<|Pl (G.dropAll (PE U3 ?_));exact ⟨Z,.slice none 0 0,by rw [J];rfl,by rw [J];exact Sl.nil _ _⟩
   ·obtain ⟨q,l⟩:∃ q,cV B p=some q:=by
     rw [gl] at k;cases l:cV B p with
     | some q=>exact ⟨q,rfl⟩
     | none=>rw [l] at k;simp at k
    have av:¬ (p=f/\out≠[]):=by
     rintro ⟨e1,e2⟩;rw [gl,l] at k;have:=MD.2 e2;simp [e1] at k;exact e2 k
    rw [yV l av] at E;have aT:(out++[p]).length=out.length+1:=by simp
    refine O7 2 Z fun R d=>Ps [wd p] U12 fun aU _ _ aw=>D.append (j:=0) U11 aw Z (by simp only [aE,maxLen];omega) (by simp only [aE];omega) fl_ fun ap=>C4 1 [6,7,13,14] d Z<|O7 2 Z fun R d=>Qk keyZ (.tail _ (.head _)) Z Z Z Z Z Z Z Z kr_ Z (by rw [gl,l];rfl:jE _ false (cV (rR B) p)=.int .i64 q) Z Z<|C4 1 [6,7,13,14] d Z<|Po (L':=[.arr ap 3 1 (out++[p]).length ((out++[p]).map (Value.int .i64)),.obj n (aM keyZ.enc (rR B))]) (by simp [wd])<|Pk (m':=B.length-(out++[p]).length) om_ mup (hn_ [6,7,13,14] Z) ⟨out++[p],ap,q,⟨by omega,by rw [show B.length-(out++[p]).length=r by omega];exact E⟩,Z,Z,Z⟩
  ·have aV:B.length<=out.length:=by
    simp only [Mf,xX] at af;omega
   have aq:ud c=out:=by
    rw [show B.length-out.length=0 by omega] at E;unfold ud;rw [<- E];rfl
   refine C6 6 [4,5] Z<|Po (L':=[.arr (.slice Aw out.length cw) 3 1 out.length (out.map wd).flatten,.obj n (aM keyZ.enc (rR B))]) (by rw [show (out.map wd).flatten=out.map (Value.int .i64) from eB _ _])<|G.freezeArr 0 (out.map wd) rfl rfl (by intro r hr;obtain ⟨y,_,rfl⟩:=L4.1 hr;rfl) (by simp) fun Cg hg ax=>Pl (G.dropAll (PE U3 ?_));refine ⟨Z,_, ?_,by rw [aq];exact ax⟩;rw [aq];have:decide ((out.length:Int) > 0)=decide (out≠[]):=by
    rw [MH,<- MD];omega
   rw [<- this]
end Go.Proofs.YthnpijdjlddpmaaGreatDoor
