/- Laws that the proofs of this seat share, part 8. -/
import Derived.Test.YtfjcldheldflbaaGreatDoorG7
import Derived.Test.YtfjcldheldflbaaGreatDoorShelf
import Derived.RangeFuncBox
import Derived.RangeFuncLeaves
import Derived.Shelf.Abstract
import Derived.WalkKit
import Derived.OwnWalkIn
import Derived.TacticsInMore
import Derived.LoopNIn
import Derived.LoopIn
import Derived.Stop.RegionWithIn
import Derived.Test.YtfjcldheldflbaaGreatDoorProg
set_option maxHeartbeats 4000000
namespace Go.Proofs.YtfjcldheldflbaaGreatDoor
open Go.Proofs.Tryz
open Go Go.Jog
set_option maxRecDepth 100000
variable {C:Mem}{cyc:List Nat}{i k n:Nat}{q:Rat}{s:Str}
theorem kE {m:Nat}(h:n<B9 ^ m)(a:m<=88):n<BP ^ 200:=by
 rw[O4];rw[pow9]at h;exact Sq h (RM (n:=10) (i:=9*m) (j:=800) dc_ om_)
theorem AX (C:Mem)(s:Str)(b:9<s.length):Gives cx.P 107 [ae s] C (.tuple #[i_ 0,i_ 0,.bool false]):=by
 refine Vi func107 57 U3 fun w0=>U1 3 [0,2] U<|U1 3 [0,2,9] U<|G.cd (fun a=>?_) fun a=>?_
 ·refine U1 3 [2,3,4] U<|Vo (G.dropAll (V2 U4 ?_));exact⟨U,U⟩
 exfalso;have h:¬ (9:Int)<((s.length:Nat):Int):=Rt a;omega
theorem pi (C:Mem)(q:Rat):Gives cx.P 107 [ae (qtx q)] C (.tuple #[i_ (if (qtx q).length<=9 then q.num else 0),i_ (if (qtx q).length<=9 then ((q.den:Nat):Int) else 0),.bool (decide ((qtx q).length<=9))]):=by
 by_cases h:(qtx q).length<=9
 ·rw[aM h,aM h,RJ h];have h2:=EZ C (decide (q.num<0)) (bk q.num.natAbs) (mP q.den) (iE _) (nR _) (Df _) h;unfold MM at h2;rw[(bl _).2,mO]at h2;have e:sgZ (decide (q.num<0)) q.num.natAbs=q.num:=by
   unfold sgZ;by_cases h:q.num<0
   ·rw[RJ h,aM rfl];omega
   rw[RU h,aF dc_];omega
  rw[e]at h2;exact h2
 rw[aF h,aF h,RU h];exact AX C _ om_
theorem oM (h:(qtx q).length<=9):q.num.natAbs<1000000000/\q.den<1000000000:=by
 refine lu ?_;unfold Da MB;unfold qtx at h;rw[Ru,Ru]at h;have h2:((mP q.den).getD []).length<=(dh (mP q.den)).length:=by
  cases mP q.den with
 |none=>exact Ro _
 |some b=>simp[dh]
 rw[RJ om_,RJ om_];rfl
theorem oR (C:Mem)(q:Rat)(a:(qtx q).length<1000000):Gives cx.P 109 [ae (qtx q)] C (.tuple #[ae (txt q.num),ae (txt ((q.den:Nat):Int))]):=by
 have h:=xE C (qtx q) a
 rwa [mS,AH,<- cW]at h
theorem Ck (C:Mem)(f:Tabs C)(a b:Rat)(k:Nat)(l:0<k)(u:k<=40)(d:QB k a)(e:QB k b):Gives cx.P 49 [ae (qtx a),ae (qtx b)] C (ae (qtx (a+b))):=by
 have v:=bd d l;have w:=bd e l;have p:=eY a;have q:=eY b;have m:0<a.den*b.den:=TM p q;refine Vi func49 61 U3 fun w0=>U1 1 [0,1] U<|Va 1 U fun R c=>Vl (pi _ a) U7<|C6 7 [0,1,5,6,7] c U<|U1 1 [0,1,5,6,21] U<|G.cut (fun fr x r s=>(True)/\fr=[(0,[],ae (qtx a)),(1,[],ae (qtx b))]/\r=[]) ?_ (fun fr _ y s _ t=>?_)
 ·refine G.cd (fun n=>?_) fun n=>?_
  ·have g:=QL n;rw[aM g,aM g];have h:=oM g;refine Va 1 U fun R c=>Vl (pi _ b) U7<|C6 7 [0,1,5,6,8,9,10] c U<|U1 1 [0,1,5,6,8,9,28] U<|G.cd (fun o=>?_) fun o=>?_
   ·have i:=QL o;rw[aM i,aM i];have j:=oM i;have z:=jX h.1 j.2;have A:=jX j.1 h.2;have B:=me h.2 j.2;exact Va 2 U fun R c=>Vh _ U U6<|Ve 2 U<|Vh _ U U6<|Vh _ U U6<|Ve 2 U<|Vh (((a.den*b.den:Nat):Int)) (RW _ _).symm U6<|Vm (sZ _ f.m_ _ _ m om_ om_) U7 fl_<|C6 1 [4] c U<|Vg U2<|⟨by rw[eW],U⟩
   refine Vp 0 l_ (hn_ [0,1] U) ⟨trivial,U,U⟩
  refine Vp 0 l_ (hn_ [0,1] U) ⟨trivial,U,U⟩
 obtain⟨_,rfl,rfl⟩:=t;exact Va 1 U fun R c=>Vm (oR _ a om_) U7 fl_<|C6 5 [1,11,12] c U<|Va 1 U fun R c=>Vm (oR _ b om_) U7 fl_<|C6 5 [11,12,13,14] c U<|Va 2 U fun R c=>Vm (fU _ f.m_ _ _ (kE d.1 om_) (kE (jz e) om_)) U7 fl_<|Ve 2 U<|Vm (fU _ f.m_ _ _ (kE e.1 om_) (kE (jz d) om_)) U7 fl_<|Vm (tS _ f.m_ _ _ (kE (cD d.1 (jz e)) om_) (kE (cD e.1 (jz d)) om_)) U7 fl_<|Ve 2 U<|Vm (fU _ f.m_ _ _ (kE (jz d) om_) (kE (jz e) om_)) U7 fl_<|Vm (lk _ f.m_ _ _ (kE (Sk (TT _ _) (ul (cD d.1 (jz e)) (cD e.1 (jz d)))) om_) (kE (cD (jz d) (jz e)) om_) (by rw[<- RW];omega)) U7 fl_<|C6 1 [4] c U<|Vg U2<|⟨by rw[eW,<- RW,oW m],U⟩
theorem JZ (C:Mem)(f:Tabs C)(a b:Rat)(k:Nat)(i:0<k)(u:k<=40)(d:QB k a)(e:QB k b):Gives cx.P 153 [ae (qtx a),ae (qtx b)] C (ae (qtx (a*b))):=by
 have v:=bd d i;have w:=bd e i;have p:=eY a;have q:=eY b;have j:0<a.den*b.den:=TM p q;refine Vi func153 53 U3 fun w0=>U1 1 [0,1] U<|Va 1 U fun R c=>Vl (pi _ a) U7<|C6 7 [0,1,5,6,7] c U<|U1 1 [0,1,5,6,21] U<|G.cut (fun fr x r s=>(True)/\fr=[(0,[],ae (qtx a)),(1,[],ae (qtx b))]/\r=[]) ?_ (fun fr _ y s _ t=>?_)
 ·refine G.cd (fun l=>?_) fun l=>?_
  ·have g:=QL l;rw[aM g,aM g];have m:=oM g;refine Va 1 U fun R c=>Vl (pi _ b) U7<|C6 7 [0,1,5,6,8,9,10] c U<|U1 1 [0,1,5,6,8,9,28] U<|G.cd (fun n=>?_) fun n=>?_
   ·have h:=QL n;rw[aM h,aM h];have o:=oM h;have z:=Ct m.1 o.1;have A:=me m.2 o.2;exact Va 2 U fun R c=>Vh _ U U6<|Ve 2 U<|Vh (((a.den*b.den:Nat):Int)) (RW _ _).symm U6<|Vm (sZ _ f.m_ _ _ j om_ om_) U7 fl_<|C6 1 [4] c U<|Vg U2<|⟨by rw[eV],U⟩
   refine Vp 0 l_ (hn_ [0,1] U) ⟨trivial,U,U⟩
  refine Vp 0 l_ (hn_ [0,1] U) ⟨trivial,U,U⟩
 obtain⟨_,rfl,rfl⟩:=t;exact Va 1 U fun R c=>Vm (oR _ a om_) U7 fl_<|C6 5 [1,11,12] c U<|Va 1 U fun R c=>Vm (oR _ b om_) U7 fl_<|C6 5 [11,12,13,14] c U<|Va 2 U fun R c=>Vm (fU _ f.m_ _ _ (kE d.1 om_) (kE e.1 om_)) U7 fl_<|Ve 2 U<|Vm (fU _ f.m_ _ _ (kE (jz d) om_) (kE (jz e) om_)) U7 fl_<|Vm (lk _ f.m_ _ _ (kE (cD d.1 e.1) om_) (kE (cD (jz d) (jz e)) om_) (by rw[<- RW];omega)) U7 fl_<|C6 1 [4] c U<|Vg U2<|⟨by rw[eV,<- RW,oW j],U⟩
theorem JU (C:Mem)(e:Tabs C)(a b:Rat)(k:Nat)(c:0<k)(f:k<=40)(g:QB k a)(d:QB k b):Gives cx.P 84 [ae (qtx a),ae (qtx b)] C (ae (qtx (a-b))):=by
 have i:=bd d c;exact Vi func84 9 U3 fun w0=>U1 1 [0,1] U<|Va 2 U fun R h=>Vm (Ob _ b om_) U7 fl_<|Vl (Ck _ e.m_ a (-b) k c f g (eQ d)) U7<|C6 1 [4] h U<|Vg U2<|⟨by rw[Ux],U⟩
theorem uB (q:Rat):q.num<0 ↔ q<0:=by
 rw[Rat.lt_iff];simp
theorem Nk (a b:Rat):eH (a-b).num=nU a b:=by
 have h1:(a-b).num<0 ↔ a<b:=by rw[uB];grind
 have h2:(a-b).num=0 ↔ a=b:=by rw[T9];grind
 unfold eH nU;by_cases h:a<b
 ·rw[aM (h1.2 h),aM h]
 rw[aF (fun e=>h (h1.1 e)),aF h];by_cases h3:a=b
 ·rw[aM (h2.2 h3),aF (by rw[h3];exact Rat.lt_irrefl)]
 rw[aF (fun e=>h3 (h2.1 e)),aM (by grind)]
theorem xm (C:Mem)(e:Tabs C)(a b:Rat)(k:Nat)(f:0<k)(g:k<=40)(c:QB k a)(d:QB k b):Gives cx.P 29 [ae (qtx a),ae (qtx b)] C (i_ (nU a b)):=by
 exact Vi func29 9 U3 fun w0=>U1 1 [0,1] U<|Va 2 U fun R h=>Vl (JU _ e.m_ a b k f g c d) U7<|Vm (JH _ (a-b) (by have:=bd (kP c d) om_;omega)) U7 fl_<|C6 1 [4] h U<|Vg U2<|⟨by rw[Nk],U⟩
theorem xk {z:Int}(h:(bk z.natAbs).length<=200):bR (txt z)=true:=by
 refine nv.2 ?_;rw[dK];refine⟨uM.2 ⟨(bl _).1,h⟩,fun a=>?_⟩;have h1:=QL a;show 0<bP (bk z.natAbs);rw[(bl _).2];omega
theorem Dg (z:Int):gc (txt z)=z:=by
 unfold gc;rw[dK];show sgZ (decide (z<0)) (bP (bk z.natAbs))=z;rw[(bl _).2];unfold sgZ;by_cases h:z<0
 ·rw[RJ h,aM rfl];omega
 rw[RU h,aF dc_];omega
theorem bh (h:QB 22 q):aR (qtx q)=true:=by
 have h1:(bk q.num.natAbs).length<=200:=by have:=cj h.1 dc_;omega
 have h2:(bk q.den).length<=200:=by have:=cj h.2 dc_;omega
 unfold aR;rw[mS];show(bR (txt q.num) && bR ((mP q.den).getD [49]) && lW (gc (txt q.num)) (mP q.den))=true;rw[AH,Dg,xk h1,<- cW,xk (by rw[R7];exact h2),UF,UF];by_cases a:q.den=1
 ·rw[kh a];rfl
 rw[eM a];unfold lW;show(decide (1<gc (bk q.den)) && !(q.num == 0) && (Nat.gcd q.num.natAbs (gc (bk q.den)).natAbs == 1))=true;have b:gc (bk q.den)=((q.den:Nat):Int):=by rw[<- cW,Dg]
 have d:=eY q;rw[b,RJ om_,R7,show Nat.gcd q.num.natAbs q.den=1 from q.reduced];have c:q.num≠0:=by
  intro e;have h3:=q.reduced;rw[e]at h3;have h4:Nat.gcd 0 q.den=1:=h3;rw[Nat.gcd_zero_left]at h4;exact a h4
 simp[c]
theorem yK (h:QB 22 q):oH (aR (qtx q))=0:=by rw[bh h];rfl
abbrev Pt:=Rat × Rat
def gx (p:Pt):List Value:=[ae (qtx p.1),ae (qtx p.2)]
def ptV (p:Pt):Value:=.agg ⟨gx p⟩
def QP (k:Nat)(p:Pt):Prop:=QB k p.1/\QB k p.2
def cJ (a b c:Pt):Rat:=(b.1-a.1)*(c.2-a.2)-(b.2-a.2)*(c.1-a.1)
theorem eN (b:Bool):oH b=0/\b=true∨oH b=2/\b=false:=by cases b <;> simp[oH]
def ef (s:Str):List Value:=[ae s]
theorem sT (C:Mem)(h:Tabs C)(v:Value)(l:List Str)(c:Sl C 1 v (l.map ef))(j:∀ s∈l,s.length<=999998):Gives cx.P 132 [v] C (i_ (oH (l.all aR))):=by
 obtain⟨k,c0,rfl,n,w,_⟩:=id c;have x:=mx_
 simp only[au]at c n⊢;refine Vi func132 18 U3 fun w0=>U1 1 [0] U<|U1 3 [6,7,8] U<|G.loop (fun fr y o p=>∃ (i:Nat),(i<=l.length/\(l.take i).all aR=true)/\fr=[(6,[],.slice k l.length c0),(7,[],i_ l.length),(8,[],i_ i)]/\o=[]/\p=l.length-i) (hn_ [6,7,8] U) ⟨0,⟨Rv _,by simp⟩,U,U,U⟩ (fun fr z A m q r=>?_);obtain⟨i,⟨B,d⟩,rfl,rfl,rfl⟩:=r;refine U1 1 [6,7,8,9] U<|G.cd (fun e=>?_) fun e=>?_
 ·have f:i<l.length:=by simpa using e
  obtain⟨s,hs⟩:∃ s,l[i]?=some s:=⟨l[i],ai f⟩;refine Vd fun R a=>Vq c.m_ U10 om_ (by rw[Rr,hs];rfl:(l.map ef)[i]?=some (ef s)) fl_ fun D t=>Vb t U8<|C6 1 [4,6,7,8] a U<|Va 1 U fun R a=>Vl (dE _ h.m_ s (j s (aU hs))) U7<|C6 1 [5,6,7,8] a U<|U1 2 [5,6,7,8,15] U<|G.cd (fun b=>?_) fun b=>?_
  ·have g:aR s=false:=by
    rcases eN (aR s) with⟨h1,h2⟩|⟨h1,h2⟩
    ·rw[h1]at b;exact absurd b dc_
    exact h2
   refine U1 2 [2] U<|Vg U2<|⟨?_,U⟩;rw[g,show l.all aR=false from TU.2 ⟨s,aU hs,by rw[g];decide⟩]
  have u:aR s=true:=by
   rcases eN (aR s) with⟨h1,h2⟩|⟨h1,h2⟩
   ·exact h2
   rw[h1]at b;exact absurd b dc_
  refine Vd fun R a=>Vh _ U U6<|C6 1 [6,7,8] a U<|Vn (m':=l.length-(i+1)) om_ q (hn_ [6,7,8] U) ⟨i+1,⟨by omega,by rw[RR,hs,US,d];simp[u]⟩,U,U,U⟩
 have f:i=l.length:=by
  have:¬ i<l.length:=by simpa using e
  omega
 refine U1 1 [2] U<|Vg U2<|⟨?_,U⟩;rw[f,Rz]at d;rw[d];rfl
theorem Ps {t:Str}(a:s.length<=n)(b:t.length<=n):∀ x∈[s,t],x.length<=n:=by simp[a,b]
theorem Jr {t u:Str}(a:s.length<=n)(b:t.length<=n)(c:u.length<=n):∀ x∈[s,t,u],x.length<=n:=by simp[a,b,c]
theorem fD (C:Mem)(b:Tabs C)(s t:Str)(c:s.length<=999998)(d:t.length<=999998):Gives cx.P 66 [.agg ⟨[ae s,ae t]⟩] C (i_ (oH (aR s && aR t))):=by
 refine Vi func66 9 U3 fun w0=>Vd fun R a=>Vs U6 fun f=>C6 1 [1] a U<|Va 1 U fun R a=>Vj ag U9<|Vc U6<|Vj ag U9<|Vy [ef s,ef t] U12 fun g _ _ e=>Vl (sT _ b.m_ _ [s,t] e.m_ (Ps c d)) U7<|C6 1 [2] a U<|Vg U2<|⟨?_,U⟩;simp
theorem sh (C:Mem)(b:Tabs C)(s t u:Str)(c:s.length<=999998)(d:t.length<=999998)(e:u.length<=999998):Gives cx.P 319 [.agg ⟨[ae s,ae t,ae u]⟩] C (i_ (oH (aR s && aR t && aR u))):=by
 refine Vi func319 11 U3 fun w0=>Vd fun R a=>Vs U6 fun g=>C6 1 [1] a U<|Va 1 U fun R a=>Vj ag U9<|Vc U6<|Vj ag U9<|Vc U6<|Vj ag U9<|Vy [ef s,ef t,ef u] U12 fun h _ _ f=>Vl (sT _ b.m_ _ [s,t,u] f.m_ (Jr c d e)) U7<|C6 1 [2] a U<|Vg U2<|⟨?_,U⟩;simp[Bool.and_assoc]
theorem lE (C:Mem)(e:Tabs C)(a b c:Pt)(k:Nat)(g:0<k)(l:k<=1000)(d:QP k a)(h:QP k b)(i:QP k c):Gives cx.P 71 [ptV a,ptV b,ptV c] C (ae (qtx (cJ a b c))):=by
 have h1:=kP h.1 d.1;have h2:=kP i.2 d.2;have h3:=kP h.2 d.2;have h4:=kP i.1 d.1;exact Vi func71 32 U3 fun w0=>Vd fun R f=>Vs U6 fun m=>Vs U6 fun n=>Vs U6 fun o=>C6 1 [3,4,5] f U<|Vv [0,1,2,3,4,5,6,7,8,9,10,11] [(4,1),(9,1),(10,1)] U kr_ fun R j f=>Vc U6<|Vj af U9<|Vc U6<|Vj ac U9<|Vx (fun _=>(er _ e.m_ b.1 a.1 k g om_ h.1 d.1)) U9<|Vc U6<|Vj ag U9<|Vc U6<|Vj ac U9<|Vx (fun _=>(er _ e.m_ c.2 a.2 k g om_ i.2 d.2)) U9<|Vx (fun _=>(df _ e.m_ (b.1-a.1) (c.2-a.2) (k+k+1) om_ om_ h1 h2)) U9<|C6 1 [3,4,5,7] f U<|Vv [0,1,2,3,4,5,6,7,8,9,10,11,12,13] [(5,1),(10,1),(11,1),(12,1)] U kr_ fun R j f=>Ve 2 U<|Vj af U9<|Vc U6<|Vj ac U9<|Vx (fun _=>(er _ e.m_ b.2 a.2 k g om_ h.2 d.2)) U9<|Vc U6<|Vj ag U9<|Vc U6<|Vj ac U9<|Vx (fun _=>(er _ e.m_ c.1 a.1 k g om_ i.1 d.1)) U9<|Vx (fun _=>(df _ e.m_ (b.2-a.2) (c.1-a.1) (k+k+1) om_ om_ h3 h4)) U9<|Vx (fun _=>(er _ e.m_ ((b.1-a.1)*(c.2-a.2)) ((b.2-a.2)*(c.1-a.1)) (k+k+1+(k+k+1)) om_ om_ (rN h1 h2) (rN h3 h4))) U9<|C6 1 [6] f U<|Vg U2<|⟨U,U⟩
theorem Be {a b c:Pt}(d:QP k a)(e:QP k b)(f:QP k c):QB (8*k+5) (cJ a b c):=by
 have h:=kP (rN (kP e.1 d.1) (kP f.2 d.2)) (rN (kP e.2 d.2) (kP f.1 d.1));exact h.le om_
theorem pF (C:Mem)(h:Tabs C)(a b c:Pt)(k:Nat)(i:0<k)(j:k<=1000)(e:QP k a)(f:QP k b)(g:QP k c):Gives cx.P 129 [ptV a,ptV b,ptV c] C (i_ (eH (cJ a b c).num)):=by
 exact Vi func129 12 U3 fun w0=>Vd fun R d=>Vs U6 fun l=>Vs U6 fun m=>Vs U6 fun n=>C6 1 [3,4,5] d U<|Vd fun R d=>Vj ac U9<|Vj af U9<|Vj ag U9<|Vl (lE _ h.m_ a b c k i j e f g) U7<|Vm (gm _ (cJ a b c) (by have:=bd (Be e f g) om_;omega)) U7 fl_<|C6 1 [6] d U<|Vg U2<|⟨U,U⟩
theorem ux (C:Mem)(c:Tabs C)(q:Rat)(b:QB 22 q):Gives cx.P 72 [ae (qtx q)] C (.tuple #[ae (qtx q),i_ 0]):=by
 refine Vi func72 8 U3 fun w0=>U1 2 [0] U<|Va 1 U fun R d=>Vm (dE _ c.m_ _ (by have:=bd b dc_;omega)) U7 fl_<|C6 1 [0,6] d U<|G.cd (fun a=>?_) fun a=>?_
 ·exfalso;rw[yK b]at a;exact absurd a dc_
 refine U1 3 [2,3] U<|Vo (G.dropAll (VA U3 ?_));exact⟨U,U⟩
abbrev Tri:=Nat × Nat × Nat
def iB (t:Tri):List Value:=[.int .i64 (t.1:Nat),.int .i64 (t.2.1:Nat),.int .i64 (t.2.2:Nat)]
def OJ (a b c:Pt):Value:=.agg ⟨gx a++gx b++gx c⟩
theorem EU (C:Mem)(k l:Value)(d:List Pt)(g:List Tri)(i:Nat)(t:Tri)(a b c:Pt)(e:Sl C 2 k (d.map gx))(h:Sl C 3 l (g.map iB))(m:g[i]?=some t)(n:d[t.1]?=some a)(o:d[t.2.1]?=some b)(p:d[t.2.2]?=some c) :
  Gives cx.P 68 [.agg ⟨[k,l]⟩,i_ i] C (OJ a b c):=by
 obtain⟨x,y,rfl,q,z,_⟩:=id e;obtain⟨A2,c2,rfl,r,A,_⟩:=id h;have B:=mx_
 simp only[au]at e h q r⊢;have D:=(aJ.1 m).1;have E:=(aJ.1 n).1;have F:=(aJ.1 o).1;have G:=(aJ.1 p).1;refine Vi func68 30 U3 fun w0=>Vd fun R f=>Vs U6 fun H=>Vt U5 fun I=>Vf [1,2,4] f U<|Va 1 U fun R f=>Vj af U9<|Vc U6<|Vq h.m_ U10 om_ (by rw[Rr,m];rfl:(g.map iB)[i]?=some (iB t)) fl_ fun J s=>Vb s U8<|Vt U5 fun K=>Vk (j:=0) U12<|Vf [2,4,5] f U<|Vv [0,1,2,3,4,5,6,7,8,9,10,11,12,13,14,15,16,17,18,19] [] U kr_ fun R L f=>Vc U6<|Vj ac U9<|Vw (0) U9 k_ U2<|Vj ag U9<|Vq e.m_ U10 om_ (by rw[Rr,n];rfl:(d.map gx)[t.1]?=some (gx a)) fl_ fun M u=>Vb u U8<|Vc U6<|Vj ac U9<|Vw (1) U9 k_ U2<|Vj ag U9<|Vq e.m_ U10 om_ (by rw[Rr,o];rfl:(d.map gx)[t.2.1]?=some (gx b)) fl_ fun N v=>Vb v U8<|Vc U6<|Vj ac U9<|Vw (2) U9 k_ U2<|Vj ag U9<|Vq e.m_ U10 om_ (by rw[Rr,p];rfl:(d.map gx)[t.2.2]?=some (gx c)) fl_ fun O w=>Vb w U8<|Vu (gx a++gx b++gx c) U8<|Vk (j:=1) U12<|Vf [4] f U<|Vo (VU ag U4 ?_);exact⟨U,U⟩
theorem HC (C:Mem)(d:Tabs C)(a b c p:Pt)(k:Nat)(e:0<k)(f:k<=1000)(j:QP k a)(l:QP k b)(m:QP k c)(g:QP k p) :
  Gives cx.P 67 [OJ a b c,ptV p] C (.bool (decide (0<=cJ a b p) && decide (0<=cJ b c p) && decide (0<=cJ c a p))):=by
 refine Vi func67 30 U3 fun w0=>Vd fun R i=>Vs U6 fun n=>Vs U6 fun o=>C6 1 [2,3] i U<|Vd fun R i=>Vw (0) U9 k_ U2<|Vj af U9<|Vw (2) U9 k_ U2<|Vj af U9<|Vj ag U9<|Vl (pF _ d.m_ a b p k e f j l g) U7<|Ve 2 U<|Vw (2) U9 k_ U2<|Vj af U9<|Vw (4) U9 k_ U2<|Vj af U9<|Vj ag U9<|VK (fun _=>(pF _ d.m_ b c p k e f l m g)) U9<|Vc U6<|Vz U8<|Vc U6<|Vw (4) U9 k_ U2<|Vj af U9<|Vw (0) U9 k_ U2<|Vj af U9<|Vj ag U9<|VK (fun _=>(pF _ d.m_ c a p k e f m j g)) U9<|Vc U6<|Vz U8<|C6 1 [4] i U<|Vg U2<|⟨?_,U⟩;have hs:∀ q:Rat,decide (eH q.num ≥ 0)=decide (0<=q):=fun q=>by
  rw[Sf,<- Rat.num_nonneg];rcases eC q.num with h|h|h <;> omega
 rw[<- hs,<- hs,<- hs]
open Go Go.Jog Go.RowKit Go.Shelf
attribute [local go_sem] Oper.semAt_some
def Nh (zs:Nat->Int)(k:Nat):Value:=.agg #[.int .i64 (zs k),.int .i64 (zs ((k+1) % 3))]
set_option maxRecDepth 100000 in
theorem JJ (l Bs:Nat)(zs:Nat->Int)(J:Nat->World->Prop)
  (hD:∀ k W,J k W->J k W.drew)
  (hJ:∀ k W,J k W->∀ j,j<3->W.cell? ⟨Bs,j,none⟩=some (i_ (zs j)))
  (hY:∀ k W,J k W->k<3->YieldAt Fence.wide 1 Tryz.prog l #[i_ (k:Nat),Nh zs k] W fun e W'=>e=.returned (.bool true)/\J (k+1) W')
  (W:World) (h0:J 0 W) :
  CallsIn Fence.wide 2 Tryz.prog 263 #[.func (.yield l) #[] #[],p_ Bs] W fun e W'=>(∃ v,e=.returned v)/\J 3 W':=by
 refine callsIn_of_wp func263 U trivial ?_ U;simp only[Tryz.ntmps263,Tw,RH,R5,Nat.reduceAdd,Nat.reduceSub,UP,UQ,List.push_toArray,List.append_toArray,Tq,Tg]
 gi_wp2
 gi_loopw [4] (fun i wr=>∃ k:Nat,k<=3/\i=i_ k/\J k wr) (fun i _=>(3-intOf i).toNat)
 case atStart=>exact⟨0,by omega,rfl,h0⟩
 case round =>
  obtain⟨k,hk,rfl,hJs⟩:=hrel;by_cases hlt:k<3
  ·have hJd:=hD k wr hJs;have hcd:=hJ k _ hJd;obtain⟨fn,tmps,assign,body,hy,hR⟩:=hY k _ hJd hlt;rcases(by omega:k=0∨k=1∨k=2) with rfl|rfl|rfl
   ·have hc0:=hcd 0 om_;have hc1:=hcd 1 om_;have hy2:Sem.run Tryz.prog (Instr.yield l #[i_ 0,Value.agg #[i_ (zs 0),i_ (zs 1)]]) wr.drew=.ok (.round l fn tmps assign body) wr.drew:=hy;clear hy
    gi_wp2
    gi_region_with (refine hR.mono ?_;rintro e W3 ⟨rfl,hJ3⟩)
    all_goals
     gi_wp2
     go_roundw
     case rel=>exact⟨1,by omega,rfl,hJ3⟩
     case measure=>simp[intOf]
   ·have hc0:=hcd 1 om_;have hc1:=hcd 2 om_;have hy2:Sem.run Tryz.prog (Instr.yield l #[i_ 1,Value.agg #[i_ (zs 1),i_ (zs 2)]]) wr.drew=.ok (.round l fn tmps assign body) wr.drew:=hy;clear hy
    gi_wp2
    gi_region_with (refine hR.mono ?_;rintro e W3 ⟨rfl,hJ3⟩)
    all_goals
     gi_wp2
     go_roundw
     case rel=>exact⟨2,by omega,rfl,hJ3⟩
     case measure=>simp[intOf]
   have hc0:=hcd 2 om_;have hc1:=hcd 0 om_;have hy2:Sem.run Tryz.prog (Instr.yield l #[i_ 2,Value.agg #[i_ (zs 2),i_ (zs 0)]]) wr.drew=.ok (.round l fn tmps assign body) wr.drew:=hy;clear hy
   gi_wp2
   gi_region_with (refine hR.mono ?_;rintro e W3 ⟨rfl,hJ3⟩)
   all_goals
    gi_wp2
    go_roundw
    case rel=>exact⟨3,by omega,rfl,hJ3⟩
    case measure=>simp[intOf]
  obtain rfl:k=3:=by omega
  gi_wp2
  go_end0
  exact⟨⟨_,U⟩,hJs⟩
def Fi (t:Tri)(j:Nat):Int:=if j=0 then (t.1:Nat) else if j=1 then (t.2.1:Nat) else (t.2.2:Nat)
def wU (t:Tri):List (Value × Value):=(List.range 3).map fun k=>(.int .i64 (k:Nat),Nh (Fi t) k)
theorem ns (t:Tri):(wU t).length=3:=rfl
theorem wT {t:Tri}(h:k<3):(wU t)[k]?=some (i_ (k:Nat),Nh (Fi t) k):=by
 simp[wU,h]
theorem D3 (C:Mem)(b c:Nat)(t:Tri)(d:C b=some (.cells ⟨iB t⟩ c (0,0))) :
  QK Tryz.prog 263 #[p_ b] C (wU t):=by
 intro l J W e f g h0;refine JJ l b (Fi t) J f (fun k W a j i=>?_) (fun k W a h=>g k _ W a (wT h)) W h0;have h1:=e k W a b _ d;rcases(by omega:j=0∨j=1∨j=2) with rfl|rfl|rfl <;> simp[World.cell?,h1,iB,Fi]
theorem JK (C:Mem)(t:Tri):Pur cx.P 213 [.agg ⟨iB t⟩] C fun r a=>∃ b,r=.func (.func 263) #[] #[p_ b]/\a b=some (.cells ⟨iB t⟩ 65 (0,0)):=by
 exact Vi func213 4 U3 fun w0=>Vd fun R c=>Vs U6 fun e=>C6 1 [1] c U<|U1 2 [2] U<|G.freeze 0 U fun f g d=>Vg U2<|⟨U,_,U,d⟩
def oC (t:Tri)(k:Nat):Int × Int:=(Fi t k,Fi t ((k+1) % 3))
abbrev Pb:=List ((Int × Int) × Value)
def Fj (m:Pb)(i:Nat)(t:Tri):Nat->Pb
|0=>m
|k+1=>iO (Fj m i t k) (oC t k) (.int .i64 (i:Nat))
def xG (tris:List Tri):Nat->Pb
|0=>[]
|n+1=>Fj (xG tris n) n (tris.getD n (0,0,0)) 3
noncomputable def kI2:KeyP cx.P 163 (Int × Int):=Q9 rfl rfl rfl kr_
theorem xF (C:Mem)(q I:Value)(a:List Tri)(O:a≠[])(x:Sl C 3 I (a.map iB))(Q:∀ i t k,a[i]?=some t->k<3->dY (Fj (xG a i) i t k) (oC t k)=none) :
  Pur cx.P 145 [.agg ⟨[q,I]⟩] C fun u D=>∃ b,u=.tuple #[.map (some b),.bool true]/\D b=some (aY rk (xG a a.length)):=by
 obtain⟨A2,c2,rfl,S,ad,_⟩:=id x;have ae:=mx_
 simp only[au]at x S⊢;refine Wv kr_ func145 U 36 U U fun w0=>Vd fun R c=>Vs U6 fun r=>Vt U5 fun h=>Vt U5 fun n=>Vf [1,2,3] c U<|Vd fun R c=>WV kI2 U U U U fl_ fun f=>Vt U5 fun o=>Vk (j:=0) U12<|Vf [1,2,3,4] c U<|Va 1 U fun R c=>Vj (.tail _ aa) U9<|C6 2 [2,3,4,13,14,15] c U<|G.perm (L':=[.obj o (.cells ⟨[.map (some f)]⟩ 234 (0,0)),.obj f (aY rk []),.obj n (.cells ⟨[.bool false]⟩ 4 (0,0)),.obj h (.cells ⟨[.map none]⟩ 234 (0,0)),.obj r (.cells ⟨[q,.slice A2 a.length c2]⟩ 39 (0,0))]) (Rw _)<|XP (fun dd fr C' d T=>∃ (i:Nat)(g:List Nat),(i<=a.length/\g.length=i)/\dd=g.map Ll/\fr=[(2,[],p_ h),(3,[],p_ n),(4,[],p_ o),(13,[],.slice A2 a.length c2),(14,[],i_ a.length),(15,[],i_ i)]/\d=[.obj o (.cells ⟨[.map (some f)]⟩ 234 (0,0)),.obj f (aY rk (xG a i)),.obj n (.cells ⟨[.bool false]⟩ 4 (0,0)),.obj h (.cells ⟨[.map none]⟩ 234 (0,0)),.obj r (.cells ⟨[q,.slice A2 a.length c2]⟩ 39 (0,0))]++g.map AO/\T=a.length-i) (hn_ [2,3,4,13,14,15] U) ⟨0,[],⟨Rv _,U⟩,U,U,U,U⟩ (fun dd fr ah aj m _ p=>?_);obtain⟨i,g,⟨hi,y⟩,rfl,rfl,rfl,rfl⟩:=p;refine U1 1 [2,3,4,13,14,15,16] U<|G.cd (fun A=>?_) fun A=>?_
 ·have B:i<a.length:=by simpa using A
  obtain⟨t,E⟩:∃ t,a[i]?=some t:=⟨a[i],ai B⟩;refine Va 1 U fun R c=>Vq x.m_ U10 om_ (by rw[Rr,E];rfl:(a.map iB)[i]?=some (iB t)) fl_ fun ak V=>Vb V U8<|Vt U5 fun F=>Vt U5 fun J=>Vk (j:=1) U12<|Vk (j:=1) U12<|Vf [2,3,4,5,6,13,14,15] c U<|Vd fun R c=>Vj ag U9<|VJ (JK _ t) U7 fun al _ _ W=>Vf [2,3,4,5,13,14,15,21] c U ?_;obtain⟨X,rfl,Y⟩:=W;refine XR U U kr_ (D3 _ X _ t Y) (fun j d=>∃ (z:Unit),(j<=3)/\d=[.obj J (.cells ⟨iB t⟩ 65 (0,0)),.obj F (.cells ⟨[i_ i]⟩ 3 (0,0)),.obj o (.cells ⟨[.map (some f)]⟩ 234 (0,0)),.obj f (aY rk (Fj (xG a i) i t j)),.obj n (.cells ⟨[.bool false]⟩ 4 (0,0)),.obj h (.cells ⟨[.map none]⟩ 234 (0,0)),.obj r (.cells ⟨[q,.slice A2 a.length c2]⟩ 39 (0,0))]++g.map AO) ⟨(),Rv _,U⟩ U (fun _ _=>rfl) (fun j d fr K=>∃ (s:Nat),fr=[(2,[],p_ h),(3,[],p_ n),(4,[],p_ o),(5,[],p_ F),(8,[],p_ s)]/\K=.obj s (.cells ⟨[i_ (oC t j).1,i_ (oC t j).2]⟩ 163 (0,0))::d) (fun l j u v d Z p w=>?_) (fun l j u v d an K Z p w hA=>?_) (fun L d p=>?_)
  ·obtain⟨z,M,rfl⟩:=p;have H:j<3:=by have:=(aJ.1 w).1;rwa [ns]at this
   rw[wT H]at w;cases w
   exact Vd fun R c=>Vt U5 fun s=>Vk (j:=0) U12<|Vf [2,3,4,5,8] c U<|XS (hn_ [2,3,4,5,8] U) ⟨s,U,U⟩
  ·obtain⟨z,M,rfl⟩:=p;obtain⟨s,rfl,rfl⟩:=hA;have H:j<3:=by have:=(aJ.1 w).1;rwa [ns]at this
   refine Vd fun R c=>Vj aa U9<|Vj ag U9<|WW kI2 (.tail _ aa) U U U U U U U U U (congrArg (mj _ true) (Q i t j E H)) U U<|C6 5 [2,3,4,5,8,10] c U<|U1 1 [2,3,4,5,8,30] U<|G.cd (fun N=>?_) fun N=>?_
   ·exact absurd N dc_
   refine Vd fun R c=>Vj aa U9<|Vj ag U9<|Vj ac U9<|WO kI2 (j:=4) U U U U U U U U U U<|V9 [] trivial (c _ _ _ U ?_);exact VR 1 U<|WK (R:=fun d=>∃ (z:Unit),((j+1)<=3)/\d=[.obj J (.cells ⟨iB t⟩ 65 (0,0)),.obj F (.cells ⟨[i_ i]⟩ 3 (0,0)),.obj o (.cells ⟨[.map (some f)]⟩ 234 (0,0)),.obj f (aY rk (Fj (xG a i) i t (j+1))),.obj n (.cells ⟨[.bool false]⟩ 4 (0,0)),.obj h (.cells ⟨[.map none]⟩ 234 (0,0)),.obj r (.cells ⟨[q,.slice A2 a.length c2]⟩ 39 (0,0))]++g.map AO) (List.perm_middle (l₁:=[_,_,_])).symm ⟨(),om_,U⟩
  obtain⟨z,M,rfl⟩:=p;refine Vd fun R c=>Vh _ U U6<|C6 1 [2,3,4,13,14,15] c U<|VR 1 U<|VR 1 U<|G.perm (L':=[.obj o (.cells ⟨[.map (some f)]⟩ 234 (0,0)),.obj f (aY rk (xG a (i+1))),.obj n (.cells ⟨[.bool false]⟩ 4 (0,0)),.obj h (.cells ⟨[.map none]⟩ 234 (0,0)),.obj r (.cells ⟨[q,.slice A2 a.length c2]⟩ 39 (0,0))]++(L::g).map AO) (by
   rw[show xG a (i+1)=Fj (xG a i) i t (wU t).length by rw[ns,xG,am,E];rfl];exact(List.perm_middle (l₁:=[_,_,_,_,_])).symm) ?_
  refine XN (m':=a.length-(i+1)) om_ mup (hn_ [2,3,4,13,14,15] U) ⟨i+1,L::g,⟨by omega,by simp[y]⟩,U,U,U,U⟩
 have B:i=a.length:=by
  have:¬ i<a.length:=by simpa using A
  omega
 refine Vd fun R c=>Vj ag U9<|Vk (j:=3) U12<|Vk (j:=3) U12<|Vf [2,3] c U<|G.freeze 3 U fun Cf ao ab=>G.perm (L':=g.map AO++[_,_,_,_]) (Su (l₁:=[_,_,_,_]))<|Vo (XO (PR af ag U U U U U U U) ?_ ?_)
 ·exact⟨U,f,U,by rw[<- B];exact ab⟩
 intro e;rw[e]at y;have:=Sc.2 O;simp at y;omega
def Ma (kd a b:Int)(h:Bool):Value:=.agg ⟨[.int .u8 kd,.int .i8 a,.int .i8 b,.bool h]⟩
def dV (h:Bool):Int:=if h then 2 else 1
def dH (a b:Int)(h:Bool)(x y by':Int):Pt:=(lC (x+a.tmod 8*by') (dV h*by'),lC (y+b.tmod 8*by') (dV h*by'))
theorem zo (a:Int):-8<a.tmod 8/\a.tmod 8<8:=by
 have h:(a.tmod 8).natAbs=a.natAbs % 8:=T8 a 8;omega
theorem CC (C:Mem)(g:Tabs C)(i a b:Int)(h:Bool)(x y n:Int)(u:0<n)(v:n<=4)(w:-128<=x/\x<=127)(A:-128<=y/\y<=127) :
  Gives cx.P 116 [Ma i a b h,.agg ⟨[.int .i8 x,.int .i8 y]⟩,i_ n] C (ptV (dH a b h x y n)):=by
 have k:=zo a;have l:=zo b;have m:∀ z:Int, -8<z->z<8->-32<z*n/\z*n<32:=fun z h1 h2=>by
  rcases(by omega:n=1∨n=2∨n=3∨n=4) with e|e|e|e <;> subst e <;> omega
 have B:=m _ k.1 k.2;have D:=m _ l.1 l.2;have hh:dV h=1∨dV h=2:=by cases h <;> simp[dV]
 have E:0<dV h*n/\dV h*n<=8:=by rcases hh with e|e <;> rw[e] <;> omega
 refine Vi func116 53 U3 fun w0=>Vd fun R d=>Vs U6 fun o=>Vs U6 fun p=>Vt U5 fun q=>Vf [2,3,4,6] d U<|U1 1 [2,3,4,6,7] U<|Va 1 U fun R d=>Vj ac U9<|Vf [2,3,4,6,7,13] d U<|G.cut (fun fr F r s=>(True)/\fr=[(2,[],i_ n),(3,[],p_ o),(4,[],p_ p),(6,[],p_ q),(7,[],i_ (dV h))]/\r=[.obj q (.cells ⟨[ae [],ae []]⟩ 34 (0,0)),.obj p (.cells ⟨[.int .i8 x,.int .i8 y]⟩ 23 (0,0)),.obj o (.cells ⟨[.int .u8 i,.int .i8 a,.int .i8 b,.bool h]⟩ 25 (0,0))]) ?_ (fun fr _ H s _ t=>?_)
 ·refine G.cd (fun f=>?_) fun f=>?_
  ·have h1:h=true:=f;subst h1;refine U1 1 [2,3,4,6,7] U<|Vp 0 l_ (hn_ [2,3,4,6,7] U) ⟨trivial,U,U⟩
  have h1:h=false:=by simpa using f
  subst h1;refine Vp 0 l_ (hn_ [2,3,4,6,7] U) ⟨trivial,U,U⟩
 obtain⟨_,rfl,rfl⟩:=t;refine Vd fun R d=>Vw (0) U9 k_ U2<|Vj af U9<|VO (c:=x) U8 (wrap_i64 om_ om_) fl_<|Vc U6<|Vw (1) U9 k_ U2<|Vj ac U9<|V6 (a.tmod 8) U6 dc_ U3<|VO (c:=a.tmod 8) U8 (wrap_i64 om_ om_) fl_<|Vc U6<|Vh _ U U6<|Vh _ U U6<|Ve 2 U<|Vh _ U U6<|Vm (Gk _ g.m_ (x+a.tmod 8*n) (dV h*n) om_ om_ om_) U7 fl_<|C6 5 [2,3,4,6,7,8] d U<|Vd fun R d=>Vw (1) U9 k_ U2<|Vj af U9<|VO (c:=y) U8 (wrap_i64 om_ om_) fl_<|Vc U6<|Vw (2) U9 k_ U2<|Vj ac U9<|V6 (b.tmod 8) U6 dc_ U3<|VO (c:=b.tmod 8) U8 (wrap_i64 om_ om_) fl_<|Vc U6<|Vh _ U U6<|Vh _ U U6<|Ve 2 U<|Vh _ U U6<|Vm (Gk _ g.m_ (y+b.tmod 8*n) (dV h*n) om_ om_ om_) U7 fl_<|C6 5 [6,8,10] d U<|Va 2 U fun R d=>Vu (gx (dH a b h x y n)) U8<|Vk (j:=0) U12<|Vf [6] d U<|Vo (VU ag U4 ?_);exact⟨U,U⟩
def gk (s p:Nat):Value:=.agg ⟨[.int .i64 (s:Nat),.int .i64 (p:Nat)]⟩
theorem jd (C:Mem)(s p:Nat)(h:s*p<=1000000000):Gives cx.P 149 [gk s p] C (i_ ((s*p:Nat):Int)):=by
 exact Vi func149 8 U3 fun w0=>Vd fun R a=>Vs U6 fun b=>C6 1 [1] a U<|Va 1 U fun R a=>Vj ag U9<|Vc U6<|Vj ag U9<|Vh _ U U6<|C6 1 [2] a U<|Vg U2<|⟨U,U⟩
theorem PG (C:Mem)(s p:Nat)(i k:Int)(h:-1000000000000<=i*p/\i*p<=1000000000000)(b:-1000000000<=k/\k<=1000000000):Gives cx.P 240 [gk s p,i_ i,i_ k] C (i_ (i*p+k)):=by
 exact Vi func240 13 U3 fun w0=>Vd fun R a=>Vs U6 fun c=>C6 1 [1,2,3] a U<|Va 2 U fun R a=>Vj ag U9<|Vh _ U U6<|Vc U6<|Vh _ U U6<|C6 1 [6] a U<|Vg U2<|⟨U,U⟩
theorem CH {m:Pb}{s:fE}:(dY m (s.2,s.1)).isSome=!jB (m.map (·.1)) s:=by
 unfold jB oB;rw[Bool.not_not];cases h:dY m (s.2,s.1) with
|none=>rw[cC]at h;simp[h]
|some v =>
  have:=TA (f:=(·.1)) (gt h);simp only[Option.isSome_some];exact(RJ this).symm
theorem Km (C:Mem)(v1 v2:Value)(b:Nat)(m:Pb)(n:C b=some (aY rk m))(hn:(m.map (·.1)).Nodup)(O:∀ s∈m.map (·.1),0<=s.1)(aC:m.length<=1000000) :
  Pur cx.P 196 [.agg ⟨[v1,v2]⟩,.map (some b)] C fun u D=>∃ v,u=.tuple #[v,.bool (decide (xI (m.map (·.1))≠[]))]/\Sl D 1 v ((xI (m.map (·.1))).map nP):=by
 have aD:=mx_
 have Q:=fun s:fE=>CH (m:=m) (s:=s);obtain⟨ks,J⟩:∃ ks,m.map (·.1)=ks:=⟨_,rfl⟩;rw[J]at hn O⊢;simp only[J]at Q;have aj:ks.length=m.length:=by rw[<- J];simp
 refine Vi func196 93 U3 fun w0=>Vd fun R c=>Vs U6 fun b2=>C6 2 [1] c U<|Vd fun R c=>D.makeMap keyZ U U U U fl_ fun l=>C6 1 [1,6] c U<|U1 1 [1,6,7] U<|Va 1 U fun R c=>WQ kI2.enc (Mem.get n mup) U U U U U U U fl_ fun E=>Vf [1,6,7,19] c U<|VR 2 U<|G.loop (fun fr C' o S=>∃ (seen:List Nat)(f:Int),(seen.Nodup/\(∀ j∈seen,j<ks.length)/\((fB ks seen).map (·.1)).Nodup/\mq (fB ks seen) f)/\fr=[(1,[],.map (some b)),(6,[],.map (some l)),(7,[],i_ f),(19,[],p_ E)]/\o=[.obj E (bq b m.length seen),.obj l (aY keyZ.enc (uO (fB ks seen)))]/\S=ks.length-seen.length) (hn_ [1,6,7,19] U) ⟨[], -1,⟨List.nodup_nil,by simp,by simp[fB],.inl ⟨U,U⟩⟩,U,U,U⟩ (fun fr aE aG m _ T=>?_);obtain⟨seen,f,⟨al,am,K,L⟩,rfl,rfl,rfl⟩:=T;refine Vd fun R c=>WT kI2.enc (q:=0) (Mem.get n mup) U U U U U U fl_ fun an aH M ao=>C6 1 [1,6,7,19,21] c U<|G.cd (fun F=>?_) fun F=>?_
 ·obtain⟨aI,j,hj,aw,rfl⟩:an=true/\∃ j,j<m.length/\j ∉ seen/\M=seen++[j]:=by
   rcases ao with⟨h1,_⟩|h1
   ·rw[h1]at F;cases F
   exact h1
  rw[<- aj]at hj;obtain⟨⟨s,bv⟩,hs⟩:∃ p,m[j]?=some p:=⟨m[j]'om_,ai om_⟩;have ap:ks[j]?=some s:=by rw[<- J,Rr,hs];rfl
  have H:(seen++[j]).Nodup:=by
   rw[S1];exact⟨al,by simp,fun a V b n e=>by rw[RK.1 n]at e;subst e;exact aw V⟩
  have z:∀ i∈seen++[j],i<ks.length:=fun i W=>by
   rcases RF.1 W with h|h
   ·exact am i h
   rw[RK.1 h];exact hj
  have aJ:(seen++[j]).length<=ks.length:=by
   have:=List.Nodup.length_le_of_subset H (l₂:=List.range ks.length) (fun i W=>RL.2 (z i W));simpa using this
  have aK:(seen++[j]).length=seen.length+1:=by simp
  have d:=D7 ap (seen:=seen);have ay:0<=s.1:=O s (aU ap);refine Vd fun R c=>WR kI2.enc (Mem.get n mup) hs ag U U U U U U U<|Vc U6<|Vt U5 fun b8=>Vk (j:=0) U12<|Vf [1,6,7,8,19] c U<|Va 1 U fun R c=>Vw (1) U9 k_ U2<|Vj ag U9<|Vw (0) U9 k_ U2<|Vj ag U9<|Vu [i_ s.2,i_ s.1] U8<|WX kI2 (fun _=>(Mem.get n mup)) U U U U U U U U U (mi _ (dY m (s.2,s.1))) U U<|C6 5 [1,6,7,8,10,19] c U<|U1 1 [1,6,7,8,19,34] U<|G.cd (fun X=>?_) fun X=>?_
  ·have Y:jB ks s=false:=by
    have h:(dY m (s.2,s.1)).isSome=true:=X;rw[Q]at h;simpa using h
   rw[Y]at d;simp only[Sn,SX,RQ]at d;refine VR 0 U<|Vr (L':=[.obj E (bq b m.length (seen++[j])),.obj l (aY keyZ.enc (uO (fB ks (seen++[j]))))]) (by rw[d];rfl)<|Vn (m':=ks.length-(seen++[j]).length) om_ mup (hn_ [1,6,7,19] U) ⟨seen++[j],f,⟨H,z,by rw[d];exact K,by rw[d];exact L⟩,U,U,U⟩
  have Y:jB ks s=true:=by
   have h:(dY m (s.2,s.1)).isSome=false:=X;rw[Q]at h;simpa using h
  rw[Y]at d;simp only[Tu]at d;refine Va 1 U fun R c=>Vw (0) U9 k_ U2<|Vj ag U9<|Wq keyZ ac U U U U U U U U kr_ U (mi _ (dY (uO (fB ks seen)) s.1)) U U<|C6 5 [1,6,7,8,12,19] c U<|U1 1 [1,6,7,8,19,42] U<|G.cd (fun Z=>?_) fun Z=>?_
  ·have x:(dY (uO (fB ks seen)) s.1).isSome=true:=Z;rw[ii]at x;have aa:Fk ks=none:=by
    cases k:dY (fB ks seen) s.1 with
   |none=>rw[k]at x;cases x
   |some q=>exact En (B:=fB ks seen) (s:=s) (t:=(s.1,q)) (by rw[<- d];exact zA hn H z) (by rw[<- d];exact Gc z) (gt k) rfl
   have I:xI ks=[]:=by unfold xI;rw[aa];rfl
   refine U1 2 [4,5] U<|Vo (G.dropAll (VA U3 ?_));exact⟨U,.slice none 0 0,by rw[I];rfl,by rw[I];exact Sl.nil _ _⟩
  have x:(dY (uO (fB ks seen)) s.1).isSome=false:=Z;have ab:dY (fB ks seen) s.1=none:=by
   rw[ii]at x;cases k:dY (fB ks seen) s.1 with
  |none=>rfl
  |some q=>rw[k]at x;cases x
  have aq:((fB ks (seen++[j])).map (·.1)).Nodup:=by
   rw[d,R3,S1];refine⟨K,by simp,fun a V b n e=>?_⟩;rw[List.map_singleton,RK]at n;subst n;subst e;exact(cC.1 ab) V
  have N:=qR L s ay;refine Va 1 U fun R c=>Vw (0) U9 k_ U2<|Vj ag U9<|Vw (1) U9 k_ U2<|Vj ag U9<|D.mapUpdate keyZ (j:=2) U U U U U U U U U U kr_<|Vf [1,6,7,8,19] c U<|Va 3 U fun R c=>Vw (0) U9 k_ U2<|Vj af U9<|Ve 2 U<|VH U8<|Vf [1,6,7,8,19,55] c U<|G.cd (fun ad=>?_) fun ad=>?_
  ·have ae:f<0∨s.1<f:=by simpa using ad
   rw[aM ae]at N;refine Vd fun R c=>Vw (0) U9 k_ U2<|Vj af U9<|C6 1 [1,6,7,19] c U<|VR 1 U<|G.perm (L':=[.obj E (bq b m.length (seen++[j])),.obj l (aY keyZ.enc (uO (fB ks (seen++[j]))))]) (by
    rw[d,<- CJ ab];exact List.Perm.swap _ _ _) ?_
   refine Vn (m':=ks.length-(seen++[j]).length) om_ mup (hn_ [1,6,7,19] U) ⟨seen++[j],s.1,⟨H,z,aq,by rw[d];exact N⟩,U,U,U⟩
  have ae:¬ (f<0∨s.1<f):=by simpa using ad
  rw[aF ae]at N;refine VR 1 U<|G.perm (L':=[.obj E (bq b m.length (seen++[j])),.obj l (aY keyZ.enc (uO (fB ks (seen++[j]))))]) (by
   rw[d,<- CJ ab];exact List.Perm.swap _ _ _) ?_
  refine Vn (m':=ks.length-(seen++[j]).length) om_ mup (hn_ [1,6,7,19] U) ⟨seen++[j],f,⟨H,z,aq,by rw[d];exact N⟩,U,U,U⟩
 obtain⟨aL,rfl,ar⟩:an=false/\M=seen/\∀ j,j<m.length->j∈seen:=by
  rcases ao with h1|⟨h1,_⟩
  ·exact h1
  rw[h1]at F;cases F
 rw[<- aj]at ar;have hp:(fB ks M).Perm (ks.filter (jB ks)):=(pT al am ar).filter _;obtain⟨B,d⟩:∃ B,fB ks M=B:=⟨_,rfl⟩;rw[d]at hp K L;have hO:=Kn hp K O L;have aN:B.length<=ks.length:=by rw[hp.length_eq];exact S9 _ _
 refine U1 1 [6,7,13] U<|U1 2 [6,7,13,14] U<|VR 0 U<|G.nilArr 3 1<|Vr (L':=[.arr (.slice none 0 0) 3 1 0 [],.obj l (aY keyZ.enc (uO B))]) (by rw[d];rfl)<|G.loop (fun fr C' o S=>∃ (out:List Int)(w:Value)(p:Int),(out.length<=B.length/\iR B f (B.length-out.length) p out=Fk ks)/\fr=[(6,[],.map (some l)),(7,[],i_ f),(13,[],w),(14,[],i_ p)]/\o=[.arr w 3 1 out.length (out.map (Value.int .i64)),.obj l (aY keyZ.enc (uO B))]/\S=B.length-out.length) (hn_ [6,7,13,14] U) ⟨[],_,f,⟨Rv _,hO.symm⟩,U,U,U⟩ (fun fr aO aP m _ T=>?_);obtain⟨out,w,p,⟨aQ,A⟩,rfl,rfl,rfl⟩:=T;refine Xa ag (fun Aw cw hw aR aS aT=>?_);subst hw;refine VB [(3,1)] U fun R c=>Ve 3 U<|W0 keyZ.enc af U U U U U U U U U<|C6 1 [6,7,13,14,63] c U<|G.cd (fun ah=>?_) fun ah=>?_
 ·have aV:out.length<B.length:=by
   simp only[Ry,CK]at ah;omega
  obtain⟨r,hr⟩:∃ r,B.length-out.length=r+1:=⟨B.length-out.length-1,by omega⟩;rw[hr]at A;refine Va 2 U fun R c=>Wq keyZ af U U U U U U U U kr_ U (mi _ (dY (uO B) p)) U U<|C6 5 [6,7,13,14,16] c U<|Va 10 U fun R c=>Vz U8<|VH U8<|Vf [6,7,13,14,84] c U<|G.cd (fun g=>?_) fun g=>?_
  ·have aa:Fk ks=none:=by
    rw[<- A];refine DM ?_;rw[ii]at g;cases k:dY B p with
   |none=>exact .inl rfl
   |some q =>
     rw[k]at g;simp only[S5,Option.isSome_some,Bool.not_true,Bool.false_or,RG,S8,Ry]at g;exact .inr ⟨g.1,fun e=>by rw[e]at g;simp at g⟩
   have I:xI ks=[]:=by unfold xI;rw[aa];rfl
   refine U1 2 [4,5] U<|Vo (G.dropAll (VA U3 ?_));exact⟨U,.slice none 0 0,by rw[I];rfl,by rw[I];exact Sl.nil _ _⟩
  obtain⟨q,k⟩:∃ q,dY B p=some q:=by
   rw[ii]at g;cases k:dY B p with
  |some q=>exact⟨q,rfl⟩
  |none=>rw[k]at g;simp at g
  have az:¬ (p=f/\out≠[]):=by
   rintro ⟨e1,e2⟩;rw[ii,k]at g;have:=Sc.2 e2;simp[e1]at g;exact e2 g
  rw[DL k az]at A;have aW:(out++[p]).length=out.length+1:=by simp
  refine Va 2 U fun R c=>Vy [nP p] U12 fun aX _ _ aA=>D.append (j:=0) U11 aA U ax (by simp only[Rp];omega) fl_ fun au=>C6 1 [6,7,13,14] c U<|Va 2 U fun R c=>Wq keyZ af U U U U U U U U kr_ U (by rw[ii,k];rfl:mj _ false (dY (uO B) p)=i_ q) U U<|C6 1 [6,7,13,14] c U<|Vr (L':=[.arr au 3 1 (out++[p]).length ((out++[p]).map (Value.int .i64)),.obj l (aY keyZ.enc (uO B))]) (by simp[nP])<|Vn (m':=B.length-(out++[p]).length) om_ mup (hn_ [6,7,13,14] U) ⟨out++[p],au,q,⟨by omega,by rw[show B.length-(out++[p]).length=r by omega];exact A⟩,U,U,U⟩
 have aZ:B.length<=out.length:=by
  simp only[RZ,CK]at ah;omega
 have av:xI ks=out:=by
  rw[show B.length-out.length=0 by omega]at A;unfold xI;rw[<- A];rfl
 refine U1 6 [4,5] U<|Vr (L':=[.arr (.slice Aw out.length cw) 3 1 out.length (out.map nP).flatten,.obj l (aY keyZ.enc (uO B))]) (by rw[show(out.map nP).flatten=out.map (Value.int .i64) from eE _ _])<|G.freezeArr 0 (out.map nP) rfl rfl (by intro r hr;obtain⟨y,_,rfl⟩:=Rs.1 hr;rfl) ak fun Cg hg aB=>Vo (G.dropAll (VA U3 ?_));refine⟨U,_, ?_,by rw[av];exact aB⟩;rw[av];have:decide ((out.length:Int) > 0)=decide (out≠[]):=by
  rw[Sf,<- Sc];omega
 rw[<- this]
def sd (pts:List Pt)(cyc:List Nat)(i:Nat):Pt:=pts.getD (cyc.getD (i % cyc.length) 0) (0,0)
def upB (p q:Pt):Bool:=decide (p.2<q.2) || (decide (p.2=q.2) && decide (p.1<q.1))
def KY (pts:List Pt)(cyc:List Nat)(i:Nat):Bool:=!upB (sd pts cyc i) (sd pts cyc (i+1)) && upB (sd pts cyc (i+1)) (sd pts cyc (i+1+1))
def ya (pts:List Pt)(cyc:List Nat)(i:Nat):Bool:=decide (0<=cJ (sd pts cyc i) (sd pts cyc (i+1)) (sd pts cyc (i+2)))
def Kr (pts:List Pt)(cyc:List Nat):Bool:=(List.range cyc.length).all (ya pts cyc) && decide (((List.range cyc.length).filter (KY pts cyc)).length=1)
structure OnceC (C:Mem)(b2 b3 b5:Nat)(pts:List Pt)(cyc:List Nat):Prop where
 ex:∃ v1 v2,C b2=some (.cells ⟨[v1,v2]⟩ 39 (0,0))/\Sl C 2 v1 (pts.map gx)
 ey:∃ cv,C b3=some (.cells ⟨[cv]⟩ 57 (0,0))/\Sl C 1 cv (cyc.map aW)
 ez:C b5=some (.cells ⟨[.int .i64 (cyc.length:Nat)]⟩ 3 (0,0))
 ne:0<cyc.length
 ins:∀ z∈cyc,z<pts.length
 q:∀ p∈pts,QP 1 p
theorem OnceC.mono {C D:Mem}{b c d:Nat}{e:List Pt}{f:List Nat}(h:OnceC C b c d e f)(a:C.le D):OnceC D b c d e f:=by
 obtain⟨g,i,h1,h2⟩:=h.ex;obtain⟨j,h3,h4⟩:=h.ey;exact⟨⟨g,i,a _ _ h1,h2.mono a⟩,⟨j,a _ _ h3,h4.mono a⟩,a _ _ h.ez,h.ne,h.ins,h.q⟩
theorem OnceC.m_ {D:Mem}{a b c:Nat}{d:List Pt}(h:OnceC C a b c d cyc)(e:C.le D:=by exact mup):OnceC D a b c d cyc:=OnceC.mono h e
theorem MJ {a:List Pt}(h:0<cyc.length)(c:∀ z∈cyc,z<a.length)(i:Nat):∃ z,cyc[i % cyc.length]?=some z/\a[z]?=some (sd a cyc i):=by
 have b:=R9 i h;refine⟨cyc[i % cyc.length],ai b, ?_⟩;have d:=c _ (Sj b);simp[sd,ai b,ai d]
theorem MI {a:List Pt}(h:0<cyc.length)(b:∀ z∈cyc,z<a.length)(c:∀ p∈a,QP 1 p)(i:Nat):QP 1 (sd a cyc i):=by
 obtain⟨z,_,h2⟩:=MJ h b i;exact c _ (aU h2)
theorem qm (C:Mem)(e f c:Nat)(b:List Pt)(a:List Nat)(h:OnceC C e f c b a)(i:Nat) :
  Gives cx.P 258 [i_ i,p_ e,p_ f,p_ c] C (ptV (sd b a i)):=by
 obtain⟨q,r,g,h1⟩:=h.ex;obtain⟨s,k,h3⟩:=h.ey;have l:=h.ez;have t:=h.ne;obtain⟨z,m,n⟩:=MJ h.ne h.ins i;obtain⟨u,v,rfl,w,x,_⟩:=id h1;obtain⟨y,A,rfl,B,D,_⟩:=id h3;simp only[au]at h1 h3 g k;refine Vi func258 16 U3 fun w0=>Vd fun R d=>Vt U5 fun c=>Vf [0,1,2,3,5] d U<|Vv [0,1,2,3,4,5,6,7,8,9,10] [] U kr_ fun R E d=>Vc U6<|Vb (PtrTo.block (Mem.get g mup) _) U8<|Vb (PtrTo.block (Mem.get k mup) _) U8<|Vc U6<|Vb (PtrTo.block (Mem.get l mup) _) U8<|VW (i) (a.length) U6 om_ U2<|Vq h3.m_ U10 om_ (by rw[Rr,show((i % a.length:Nat):Int).toNat=i % a.length from U,m];rfl:(a.map aW)[((i % a.length:Nat):Int).toNat]?=some (aW z)) fl_ fun F o=>Vb o U8<|Vq h1.m_ U10 om_ (by rw[Rr,show((z:Nat):Int).toNat=z from U,n];rfl:(b.map gx)[((z:Nat):Int).toNat]?=some (gx (sd b a i))) fl_ fun G p=>Vb p U8<|Vk (j:=0) U12<|Vf [5] d U<|Vo (VU ag U4 ?_);exact⟨U,U⟩
def fn1V (b2 b3 b5:Nat):Value:=.func (.func 258) #[] #[.pointer (some ⟨b2,0,none⟩),.pointer (some ⟨b3,0,none⟩),.pointer (some ⟨b5,0,none⟩)]
theorem AR (a b:Rat):decide (nU a b > 0)=decide (b<a):=by
 unfold nU;by_cases h1:a<b
 ·have:¬ b<a:=by grind
  simp[h1,this]
 by_cases h2:b<a <;> simp[h1,h2]
theorem ON (a b:Rat):(nU a b == 0)=decide (b=a):=by
 unfold nU;by_cases h1:a<b
 ·have:¬ b=a:=by grind
  simp[h1,this]
 by_cases h2:b<a
 ·have:¬ b=a:=by grind
  simp[h1,h2,this]
 have:b=a:=by grind
 subst this;simp[h1]
theorem LX (C:Mem)(k:Tabs C)(c d e l:Nat)(a:List Pt)(b:List Nat)(h:OnceC C c d e a b)(f:C l=some (.cells ⟨[fn1V c d e]⟩ 352 (0,0)))(i:Nat)(n:i<=1000000) :
  Gives cx.P 259 [i_ i,p_ l] C (.bool (upB (sd a b i) (sd a b (i+1)))):=by
 have g:=fun i=>MI h.ne h.ins h.q i;unfold fn1V at f;refine Vi func259 34 U3 fun w0=>U1 1 [0,1] U<|Vv [0,1,2,3,4,5,6,7,8,9,10] [(3,1),(7,1),(9,1)] U kr_ fun R m j=>Vb (PtrTo.block (Mem.get f mup) _) U8<|Vc U6<|Vh _ U U6<|VK (fun _=>(qm _ c d e a b h.m_ (i+1))) U9<|Wg U12<|Vb (PtrTo.block (Mem.get f mup) _) U8<|Vc U6<|VK (fun _=>(qm _ c d e a b h.m_ i)) U9<|Wg U12<|Vx (fun _=>(fO _ k.m_ (sd a b (i+1)).2 (sd a b i).2 1 dc_ dc_ (g (i+1)).2 (g i).2)) U9<|C6 1 [0,1,4] j U<|Vv [0,1,2,3,4,5,6,7,8,9,10,11,12,13,14,15,16,17,18,19] [] U kr_ fun R m j=>Ve 6 U<|VE U6 (fun _=>PtrTo.block (Mem.get f mup) _) U3<|Vc U6<|Vh _ U U6<|VK (fun _=>(qm _ c d e a b h.m_ (i+1))) U9<|Wg U12<|VE U6 (fun _=>PtrTo.block (Mem.get f mup) _) U3<|Vc U6<|VK (fun _=>(qm _ c d e a b h.m_ i)) U9<|Wg U12<|Vx (fun _=>(fO _ k.m_ (sd a b (i+1)).1 (sd a b i).1 1 dc_ dc_ (g (i+1)).1 (g i).1)) U9<|Vc U6<|Vz U8<|VH U8<|C6 1 [3] j U<|Vg U2<|⟨?_,U⟩;rw[AR,ON,AR];rfl
theorem F6 (q:Rat):decide (eH q.num<0)=!decide (0<=q):=by
 rw[<- decide_not,Sf,<- Rat.num_nonneg];rcases eC q.num with h|h|h <;> omega
theorem NZ (C:Mem)(r:Tabs C)(s B D:Value)(b:List Pt)(a:List Nat)(I:Sl C 2 s (b.map gx))(t:Sl C 1 D (a.map aW))(J:0<a.length)(K:∀ z∈a,z<b.length)(L:∀ p∈b,QP 1 p)(X:a.length<=100000) :
  Gives cx.P 197 [.agg ⟨[s,B]⟩,D] C (.bool (Kr b a)):=by
 obtain⟨Y,Z,rfl,aa,ab,_⟩:=id t;simp only[au]at t⊢;refine Vi func197 46 U3 fun w0=>Vd fun R c=>Vs U6 fun e=>Vs U6 fun f=>C6 1 [2,3] c U<|Vd fun R c=>Vj ag U9<|Vc U6<|Vt U5 fun g=>Vk (j:=0) U12<|Vf [2,3,5] c U<|Va 1 U fun R c=>Vt U5 fun o=>Vk (j:=0) U12<|Vf [5,6] c U<|G.freeze 0 U fun _ _ h=>G.freeze 0 U fun _ _ E=>G.freeze 0 U fun _ _ M=>G.freeze 0 U (fun N _ O=>?_);have d:OnceC N e f g b a:=⟨⟨s,B,O,I.mono mup⟩,⟨_,Mem.get M mup,t.mono mup⟩,Mem.get E mup,J,K,L⟩;have u:=fun i=>MI d.ne d.ins d.q i;refine U1 2 [5,6,7] U<|U1 1 [5,6,7,8] U<|Vd fun R c=>Vb (PtrTo.block (Mem.get E mup) _) U8<|C6 1 [6,7,8,14,15] c U<|G.loop (fun fr C' Q S=>∃ (i k:Nat),(i<=a.length/\(List.range i).all (ya b a)=true/\((List.range i).filter (KY b a)).length=k)/\fr=[(6,[],p_ o),(7,[],.func (.func 259) #[] #[p_ o]),(8,[],i_ k),(14,[],i_ a.length),(15,[],i_ i)]/\Q=[]/\S=a.length-i) (hn_ [6,7,8,14,15] U) ⟨0,0,⟨Rv _,U,U⟩,U,U,U⟩ (fun fr ac ad m F T=>?_);obtain⟨i,k,⟨hi,v,l⟩,rfl,rfl,rfl⟩:=T;refine U1 1 [6,7,8,14,15,16] U<|G.cd (fun w=>?_) fun w=>?_
 ·have x:i<a.length:=by simpa using w
  have ae:k<=i:=by
   rw[<- l];exact RD (S9 _ _) ak
  refine U1 2 [6,7,8,9,14,15] U<|Vv [0,1,2,3,4,5,6,7,8,9,10,11,12] [(2,1),(6,1),(10,1),(11,1)] U kr_ fun R hB c=>Vb (PtrTo.block (Mem.get h mup) _) U8<|Vc U6<|VK (fun _=>(qm _ e f g b a d.m_ i)) U9<|Vb (PtrTo.block (Mem.get h mup) _) U8<|Vc U6<|Vh _ U U6<|VK (fun _=>(qm _ e f g b a d.m_ (i+1))) U9<|Vb (PtrTo.block (Mem.get h mup) _) U8<|Vc U6<|Vh _ U U6<|VK (fun _=>(qm _ e f g b a d.m_ (i+2))) U9<|Vx (fun _=>(pF _ r.m_ (sd b a i) (sd b a (i+1)) (sd b a (i+2)) 1 dc_ dc_ (u i) (u (i+1)) (u (i+2)))) U9<|C6 1 [6,7,8,9,14,15,30] c U<|G.cd (fun n=>?_) fun n=>?_
  ·have V:ya b a i=false:=by
    rw[F6]at n;simpa [ya] using n
   refine U1 1 [4] U<|Vg U2<|⟨?_,U⟩;have:(List.range a.length).all (ya b a)=false:=TU.2 ⟨i,RL.2 x,by rw[V];decide⟩;unfold Kr;rw[this];rfl
  have W:ya b a i=true:=by
   rw[F6]at n;simpa [ya] using n
  have H:(List.range (i+1)).all (ya b a)=true:=by rw[SC,US,v];simp[W]
  refine Va 2 U fun R c=>Vm (LX _ r.m_ e f g o b a d.m_ (Mem.get h mup) i om_) U7 fl_<|Ve 4 U<|Vh _ U U6<|Vx (fun _=>(LX _ r.m_ e f g o b a d.m_ (Mem.get h mup) (i+1) om_)) U9<|Vz U8<|Vf [6,7,8,14,15,40] c U<|G.cd (fun y=>?_) fun y=>?_
  ·have A:KY b a i=true:=y;refine Va 1 U fun R c=>Vh _ U U6<|C6 1 [6,7,8,14,15] c U<|Vd fun R c=>Vh _ U U6<|C6 1 [6,7,8,14,15] c U<|Vn (m':=a.length-(i+1)) om_ F (hn_ [6,7,8,14,15] U) ⟨i+1,k+1,⟨by omega,H,by rw[SC,S4,Ru,l];simp[A]⟩,U,U,U⟩
  have A:KY b a i=false:=y;refine Vd fun R c=>Vh _ U U6<|C6 1 [6,7,8,14,15] c U<|Vn (m':=a.length-(i+1)) om_ F (hn_ [6,7,8,14,15] U) ⟨i+1,k,⟨by omega,H,by rw[SC,S4,Ru,l];simp[A]⟩,U,U,U⟩
 have x:i=a.length:=by
  have:¬ i<a.length:=by simpa using w
  omega
 refine U1 3 [4] U<|Vg U2<|⟨?_,U⟩;rw[x]at v l;unfold Kr;rw[v,l,UF];congr 1;rw[UR,Ry];simp;omega
/-! The sides of triangles, in order. -/
def pR (t:Tri):List fE:=[oC t 0,oC t 1,oC t 2]
def bO (tris:List Tri):List fE:=tris.flatMap pR
theorem BX (t:Tri)(a:k<3):(pR t)[k]?=some (oC t k):=by
 rcases(by omega:k=0∨k=1∨k=2) with rfl|rfl|rfl <;> rfl
theorem qC (m:Pb)(i:Nat)(t:Tri):∀ k,k<=3->(m.map (·.1)++(pR t).take k).Nodup->(Fj m i t k).map (·.1)=m.map (·.1)++(pR t).take k
|0,_,_=>by simp[Fj]
|k+1,e,a=>by
  have h3:=BX t (show k<3 by omega);rw[RR,h3,SR,<- R0]at a⊢;have b:=(S1.1 a);have c:=qC m i t k om_ b.1;have d:dY (Fj m i t k) (oC t k)=none:=by
   rw[cC,c];intro h;exact b.2.2 _ h _ ak U
  rw[Fj,jZ d,R3,c];rfl
theorem pP {a:List Tri}{t:Tri}(h:a[n]?=some t):bO (a.take (n+1))=bO (a.take n)++pR t:=by
 unfold bO;rw[RR,h,List.flatMap_append];simp
theorem su {a:List Tri}(h:(bO a).Nodup)(n:Nat):(bO (a.take n)).Nodup:=by
 have:bO a=bO (a.take n)++bO (a.drop n):=by
  unfold bO;rw[<- List.flatMap_append,Sm]
 rw[this]at h;exact(S1.1 h).1
theorem fP {a:List Tri}(h:(bO a).Nodup):∀ n,n<=a.length->(xG a n).map (·.1)=bO (a.take n)
|0,_=>by simp[xG,bO]
|n+1,d=>by
  have b:a[n]?=some a[n]:=ai om_;have h1:=su h (n+1);rw[pP b]at h1⊢;have c:=fP h n om_;rw[xG,am,b];show(Fj (xG a n) n a[n] 3).map (·.1)=_;rw[qC _ _ _ 3 (Ro _) (by rw[c];exact h1),c];rfl
theorem sS {a:List Tri}(h:(bO a).Nodup)(i:Nat)(t:Tri)(k:Nat)(b:a[i]?=some t)(d:k<3):dY (Fj (xG a i) i t k) (oC t k)=none:=by
 have e:=(aJ.1 b).1;have h1:=su h (i+1);rw[pP b]at h1;have c:=fP h i om_;have h3:=BX t d;have h2:(bO (a.take i)++(pR t).take (k+1)).Nodup:=by
  refine List.Nodup.sublist (List.Sublist.append (List.Sublist.refl _) (List.take_sublist _ _)) h1
 rw[RR,h3,SR,<- R0]at h2;have h4:=S1.1 h2;rw[cC,qC _ _ _ k om_ (by rw[c];exact h4.1),c];intro h5;exact h4.2.2 _ h5 _ ak U
theorem wk {B:List fE}{d:Int}:∀ (k:Nat)(p:Int)(out r:List Int),iR B d k p out=some r->(∀ z∈out,z∈B.map (·.1))->∀ z∈r,z∈B.map (·.1)
|0,p,out,r,h,b=>by simp only[iR,Sb]at h;subst h;exact b
|k+1,p,out,r,h,b=>by
  simp only[iR]at h;cases c:dY B p with
 |none=>rw[c]at h;cases h
 |some q =>
   rw[c]at h;simp only at h;split at h
   ·cases h
   refine wk k q _ r h (fun z a=>?_);rcases RF.1 a with a|a
   ·exact b z a
   rw[RK.1 a];exact TA (f:=(·.1)) (gt c)
theorem wm {B:List fE}{b:Int}:∀ (k:Nat)(p:Int)(out r:List Int),iR B b k p out=some r->r.length=out.length+k
|0,p,out,r,h=>by simp only[iR,Sb]at h;subst h;rfl
|k+1,p,out,r,h=>by
  simp only[iR]at h;cases a:dY B p with
 |none=>rw[a]at h;cases h
 |some q =>
   rw[a]at h;simp only at h;split at h
   ·cases h
   have:=wm k q _ r h;simp at this;omega
theorem CG {c:List fE}:∀ z∈xI c,z∈c.map (·.1):=by
 intro z a;unfold xI at a;cases b:Fk c with
|none=>rw[b]at a;simp at a
|some r =>
  rw[b]at a;simp only[SG]at a;unfold Fk at b;split at b
  ·have:=wk _ _ _ _ b ak z a;obtain⟨s,hs,rfl⟩:=Rs.1 this;exact TA (f:=(·.1)) (SY.1 hs).1
  cases b
theorem Ko (a:List fE):(xI a).length<=a.length:=by
 unfold xI;cases b:Fk a with
|none=>simp
|some r =>
  unfold Fk at b;split at b
  ·have:=wm _ _ _ _ b;have h2:=S9 (jB a) a;simp at this⊢;omega
  cases b
def nW (n:Nat)(t:Tri):Prop:=t.1<n/\t.2.1<n/\t.2.2<n
theorem JL {t:Tri}(h:nW n t):∀ s∈pR t,0<=s.1/\s.1.toNat<n:=by
 obtain⟨h1,h2,h3⟩:=h;intro s hs;simp only[pR,RC,Ss,TS]at hs;rcases hs with rfl|rfl|rfl <;> simp[oC,Fi] <;> omega
theorem pQ {a:List Tri}(h:∀ t∈a,nW n t):∀ s∈bO a,0<=s.1/\s.1.toNat<n:=by
 intro s hs;obtain⟨t,b,hs⟩:=List.mem_flatMap.1 hs;exact JL (h t b) s hs
theorem nt (a:List Tri):(bO a).length=3*a.length:=by
 induction a with
|nil=>rfl
|cons t l b =>
  have:bO (t::l)=pR t++bO l:=rfl;rw[this,Ru,b];simp[pR];omega
def fX (tris:List Tri):List Nat:=(xI (bO tris)).map Int.toNat
theorem E2 {a:List Tri}(h:∀ t∈a,nW n t):∀ z∈fX a,z<n:=by
 intro z b;obtain⟨y,hy,rfl⟩:=Rs.1 b;obtain⟨s,hs,rfl⟩:=Rs.1 (CG y hy);exact(pQ h s hs).2
theorem AY {a:List Tri}(h:∀ t∈a,nW n t):(xI (bO a)).map nP=(fX a).map aW:=by
 unfold fX;rw[So];refine List.map_congr_left (fun y hy=>?_);obtain⟨s,hs,rfl⟩:=Rs.1 (CG y hy);have:=(pQ h s hs).1;show nP s.1=aW s.1.toNat;unfold nP aW;rw[Int.toNat_of_nonneg this]
/-! Sets of ints as maps. -/
def I8 (ks:List Int):List (Int × Value):=ks.map fun z=>(z,.bool true)
def Qu (ks:List Int)(z:Int):List Int:=if z∈ks then ks else ks++[z]
theorem JR (a:List Int):(I8 a).length=a.length:=by simp[I8]
theorem xS:∀ {ks:List Int}{z:Int},iO (I8 ks) z (.bool true)=I8 (Qu ks z)
|[],z=>by simp[I8,iO,Qu]
|k::ks,z=>by
  have a:=xS (ks:=ks) (z:=z);unfold I8 at a⊢;simp only[R6,iO];by_cases e:k=z
  ·subst e;simp[Qu]
  have b:¬ z=k:=fun h=>e h.symm;rw[aF e,a];unfold Qu;by_cases h:z∈ks
  ·simp[h]
  simp[h,b]
def M5 (ks:List Int)(t:Tri):Nat->List Int
|0=>ks
|k+1=>Qu (M5 ks t k) (Fi t k)
def wu (tris:List Tri):Nat->List Int
|0=>[]
|n+1=>M5 (wu tris n) (tris.getD n (0,0,0)) 3
theorem ri (t:Tri)(a:k<3):(iB t)[k]?=some (i_ (Fi t k)):=by
 rcases(by omega:k=0∨k=1∨k=2) with rfl|rfl|rfl <;> rfl
theorem E1 {a:List Tri}(h:decide (xI (bO a)≠[])=true):0<(fX a).length:=by
 unfold fX;rw[au];exact Sc.2 (QL h)
theorem IH (a:List Tri):decide (xI (bO a)≠[])=decide (fX a≠[]):=by
 rw[Sf];unfold fX;simp
def oa (pts:List Pt)(tris:List Tri):Bool:=decide (fX tris≠[]) && (decide ((wu tris tris.length).length=pts.length) && Kr pts (fX tris))
theorem ue (C:Mem)(J:Tabs C)(x y:Value)(c:List Pt)(a:List Tri)(K:a≠[])(k:Sl C 2 x (c.map gx))(g:Sl C 3 y (a.map iB))(d:(bO a).Nodup)(l:∀ t∈a,nW c.length t)(L:∀ p∈c,QP 1 p)(z:a.length<=10000) :
  Gives cx.P 130 [.agg ⟨[x,y]⟩] C (.bool (oa c a)):=by
 obtain⟨W,X,rfl,M,Y,_⟩:=id k;obtain⟨A2,c2,rfl,N,Z,_⟩:=id g;have aa:=mx_
 simp only[au]at k g M N⊢;refine Vi func130 55 U3 fun w0=>Vd fun R b=>Vs U6 fun A=>C6 1 [1] b U<|G.freeze 0 U fun _ B e=>Vd fun R b=>Vb (PtrTo.block (Mem.get e mup) _) U8<|VJ (xF _ _ _ a K g.m_ (sS d)) U7 (fun ab _ _ O=>?_);obtain⟨n,rfl,Q⟩:=O;refine C6 5 [1,3,4] b U<|U1 2 [1,3,18] U<|G.cd (fun E=>?_) fun E=>?_
 ·exact absurd E dc_
 refine Vd fun R b=>D.makeMap keyZ U U U U fl_ fun f=>C6 1 [1,3,5] b U<|Va 1 U fun R b=>Vb (PtrTo.block (Mem.get e mup) _) U8<|C6 2 [1,3,5,21,22,23] b U<|G.loop (fun fr S h o=>∃ (i:Nat),(i<=a.length)/\fr=[(1,[],p_ A),(3,[],.map (some n)),(5,[],.map (some f)),(21,[],.slice A2 a.length c2),(22,[],i_ a.length),(23,[],i_ i)]/\h=[.obj f (aY keyZ.enc (I8 (wu a i)))]/\o=a.length-i) (hn_ [1,3,5,21,22,23] U) ⟨0,Rv _,U,U,U⟩ (fun fr ac ad m _ q=>?_);obtain⟨i,hi,rfl,rfl,rfl⟩:=q;refine U1 1 [1,3,5,21,22,23,24] U<|G.cd (fun r=>?_) fun r=>?_
 ·have u:i<a.length:=by simpa using r
  obtain⟨t,F⟩:∃ t,a[i]?=some t:=⟨a[i],ai u⟩;refine Vd fun R b=>Vq g.m_ U10 om_ (by rw[Rr,F];rfl:(a.map iB)[i]?=some (iB t)) fl_ fun ae T=>Vb T U8<|Vt U5 fun b7=>Vk (j:=0) U12<|Vf [1,3,5,7,21,22,23] b U<|Vd fun R b=>Vj ag U9<|C6 1 [1,3,5,21,22,23,27,28] b U<|VR 0 U<|G.loop (fun fr S h o=>∃ (j:Nat),(j<=3)/\fr=[(1,[],p_ A),(3,[],.map (some n)),(5,[],.map (some f)),(21,[],.slice A2 a.length c2),(22,[],i_ a.length),(23,[],i_ i),(27,[],.agg ⟨iB t⟩),(28,[],i_ j)]/\h=[.obj f (aY keyZ.enc (I8 (M5 (wu a i) t j)))]/\o=3-j) (hn_ [1,3,5,21,22,23,27,28] U) ⟨0,Rv _,U,U,U⟩ (fun fr af ah m B q=>?_);obtain⟨j,hj,rfl,rfl,rfl⟩:=q;refine U1 1 [1,3,5,21,22,23,27,28,29] U<|G.cd (fun v=>?_) fun v=>?_
  ·have w:j<3:=by
    simp only[Ry]at v;omega
   refine Vd fun R b=>V3 U11 (fun _=>⟨by omega,by omega,ri t w⟩) U2<|C6 1 [1,3,5,9,21,22,23,27,28] b U<|Va 2 U fun R b=>D.mapUpdate keyZ (j:=0) U U U U U U U U U U kr_<|Vf [1,3,5,21,22,23,27,28] b U<|Vd fun R b=>Vh _ U U6<|C6 1 [1,3,5,21,22,23,27,28] b U ?_;rw[xS];refine Vn (m':=3-(j+1)) om_ B (hn_ [1,3,5,21,22,23,27,28] U) ⟨j+1,om_,U,U,U⟩
  have w:j=3:=by
   simp only[RZ]at v;omega
  subst w;refine Vd fun R b=>Vh _ U U6<|C6 1 [1,3,5,21,22,23] b U<|Vr (L':=[.obj f (aY keyZ.enc (I8 (wu a (i+1))))]) (by rw[wu,am,F];rfl)<|Vn (m':=a.length-(i+1)) om_ mup (hn_ [1,3,5,21,22,23] U) ⟨i+1,om_,U,U,U⟩
 have u:i=a.length:=by
  have:¬ i<a.length:=by simpa using r
  omega
 subst u;refine Vd fun R b=>Vb (PtrTo.block (Mem.get e mup) _) U8<|Vc U6<|VC (Km _ _ _ n (xG a a.length) (Mem.get Q mup) (by rw[fP d _ (Ro _),Rz];exact d) (by rw[fP d _ (Ro _),Rz];exact fun s hh=>(pQ l s hh).1) (by have:=congrArg List.length (fP d _ (Ro _));rw[Rz,nt,au]at this;omega)) U7 fl_ (fun aj _ _ H=>?_);rw[fP d _ (Ro _),Rz]at H;obtain⟨bv,rfl,I⟩:=H;rw[AY l]at I;refine C6 5 [1,5,10,11] b U<|VB [(3,1)] U fun R b=>Ve 3 U<|W0 keyZ.enc ag U U U U U U U U U<|Vc U6<|VE U6 (fun _=>PtrTo.block (Mem.get e mup) _) U3<|Ve 2 U<|Vz U8<|Vc U6<|VE U6 (fun _=>PtrTo.block (Mem.get e mup) _) U3<|Vc U6<|Vx (fun V=>(NZ _ J.m_ _ _ bv c (fX a) k.m_ I.m_ (by exact E1 (Up.1 (show(decide (xI (bO a)≠[]) && _)=true/\True from V).1).1) (E2 l) L (by have:=Ko (bO a);rw[nt]at this;unfold fX;rw[au];omega))) U9<|Vz U8<|C6 1 [2] b U<|Vg U2<|⟨?_,U⟩;have z:(((I8 (wu a a.length)).length:Int) == (c.length:Int))=decide ((wu a a.length).length=c.length):=by
  rw[JR,UR,S8,Ry];omega
 unfold oa;rw[<- IH,<- z,<- Bool.and_assoc]
noncomputable def kP2:KeyP cx.P 34 (Str × Str):=Q8 rfl rfl rfl dc_ dc_ rfl rfl kr_
def ptK (p:Pt):Str × Str:=(qtx p.1,qtx p.2)
theorem NL {p q:Pt}(h:ptK p=ptK q):p=q:=by
 have h1:=jg (congrArg (·.1) h);have h2:=jg (congrArg (·.2) h);exact Prod.ext h1 h2
def Ky (l:List Pt):List ((Str × Str) × Value):=l.map fun p=>(ptK p,.bool true)
theorem CP {l:List Pt}{p:Pt}(h:p ∉ l):dY (Ky l) (ptK p)=none:=by
 rw[cC];unfold Ky;rw[So];intro hm;obtain⟨q,a,b⟩:=Rs.1 hm;exact h (NL b ▸ a)
theorem Of {l:List Pt}{p:Pt}(h:p ∉ l):iO (Ky l) (ptK p) (.bool true)=Ky (l++[p]):=by
 rw[jZ (CP h)];simp[Ky]
def oZ (n:Nat)(X:Nat->Nat->Bool):Bool:=(List.range n).any fun i=>(List.range i).any fun k=>X i k
def zS (pts:List Pt)(tris:List Tri)(X:Nat->Nat->Bool):Int:=if tris=[] then 13 else if oa pts tris then 0 else if oZ tris.length X then 26 else 25
structure MeshOk (pts:List Pt)(tris:List Tri):Prop where
 q:∀ p∈pts,QP 1 p
 nd:pts.Nodup
 ins:∀ t∈tris,nW pts.length t
 pos:∀ t∈tris,0<cJ (pts.getD t.1 (0,0)) (pts.getD t.2.1 (0,0)) (pts.getD t.2.2 (0,0))
 sides:(bO tris).Nodup
 lt:tris.length<=800
 lp:pts.length<=400
theorem qj {a:List Pt}(h:i<a.length):a[i]?=some (a.getD i (0,0)):=by
 rw[am,ai h];rfl
theorem Cp {a:List Pt}(h:i<a.length):a.getD i (0,0)∈a:=aU (qj h)
def gY (t:Tri)(j:Nat):Nat:=if j=0 then t.1 else if j=1 then t.2.1 else t.2.2
theorem BK (t:Tri)(j:Nat):Fi t j=(gY t j:Nat):=by
 unfold Fi gY;split
 ·rfl
 split <;> rfl
theorem eS {t:Tri}(h:nW n t)(j:Nat):gY t j<n:=by
 obtain⟨h1,h2,h3⟩:=h;unfold gY;split
 ·exact h1
 split <;> assumption
theorem PC (q:Rat):decide (eH q.num<=0)=!decide (0<q):=by
 have h1:=uB q;have h2:q.num=0 ↔ q=0:=T9;rw[<- decide_not,Sf];have h3:¬ 0<q ↔ (q<0∨q=0):=by grind
 rw[h3,<- h1,<- h2];rcases eC q.num with h|h|h <;> omega
theorem Hg (C:Mem)(H:Tabs C)(I J:Value)(c:List Pt)(b:List Tri)(X:Nat->Nat->Bool)(r:Sl C 2 I (c.map gx))(x:Sl C 3 J (b.map iB))(d:MeshOk c b)
  (W:b≠[]->oa c b=false->∀ D:Mem,C.le D->∀ i k:Nat,i<b.length->k<i->Gives cx.P 131 [.agg ⟨[I,J]⟩,i_ i,i_ k] D (.bool (X i k))) :
  Gives cx.P 65 [.agg ⟨[I,J]⟩] C (i_ (zS c b X)):=by
 obtain⟨A1,c1,rfl,ah,az,_⟩:=id r;obtain⟨A2,c2,rfl,aj,aA,_⟩:=id x;have aB:=mx_
 have aC:=d.lt;have aD:=d.lp;simp only[au]at r x ah aj W⊢;refine Vi func65 105 U3 fun w0=>Vd fun R a=>Vs U6 fun u=>C6 1 [1] a U<|G.freeze 0 U fun _ _ f=>Va 1 U fun R a=>Vb (PtrTo.block (Mem.get f mup) _) U8<|C6 3 [1,12] a U<|G.cd (fun y=>?_) fun y=>?_
 ·have h0:b=[]:=by
   have h:((b.length:Nat):Int)=0:=by simpa using y
   exact Sd om_
  exact U1 1 [2] U<|Vg U2<|⟨by unfold zS;rw[aM h0],U⟩
 have h0:b≠[]:=by
  intro e;rw[e]at y;exact absurd y dc_
 refine Va 1 U fun R a=>Vb (PtrTo.block (Mem.get f mup) _) U8<|Ve 4 U<|VE U6 (fun _=>PtrTo.block (Mem.get f mup) _) U3<|Ve 2 U<|VH U8<|C6 1 [1,17] a U<|G.cd (fun Y=>?_) fun Y=>?_
 ·exfalso;simp only[Tp,Ry]at Y;omega
 refine Vd fun R a=>WV kP2 U U U U fl_ fun K=>C6 1 [1,3] a U<|Va 1 U fun R a=>Vb (PtrTo.block (Mem.get f mup) _) U8<|C6 2 [1,3,30,31,32] a U<|G.loop (fun fr z g l=>∃ (i:Nat),(i<=c.length)/\fr=[(1,[],p_ u),(3,[],.map (some K)),(30,[],.slice A1 c.length c1),(31,[],i_ c.length),(32,[],i_ i)]/\g=[.obj K (aY EP (Ky (c.take i)))]/\l=c.length-i) (hn_ [1,3,30,31,32] U) ⟨0,Rv _,U,U,U⟩ (fun fr aE aG m _ n=>?_);obtain⟨i,hi,rfl,rfl,rfl⟩:=n;refine U1 1 [1,3,30,31,32,33] U<|G.cd (fun Z=>?_) fun Z=>?_
 ·have o:i<c.length:=by simpa using Z
  obtain⟨p,A⟩:∃ p,c[i]?=some p:=⟨c[i],ai o⟩;have B:=d.q p (aU A);have aa:p ∉ c.take i:=by
   intro hm;obtain⟨j,v⟩:=SV hm;rw[Sg]at v;split at v
   ·rename_i aH;have h3:=(aJ.1 v);have h4:=(aJ.1 A);have:=(List.getElem_inj d.nd).1 (h3.2.trans h4.2.symm);omega
   cases v
  have ak:Ky (c.take (i+1))=Ky (c.take i++[p]):=by rw[RR,A];rfl
  refine Vd fun R a=>Vq r.m_ U10 om_ (by rw[Rr,A];rfl:(c.map gx)[i]?=some (gx p)) fl_ fun aI al=>Vb al U8<|Vt U5 fun b5=>Vk (j:=0) U12<|Vf [1,3,5,30,31,32] a U<|Vd fun R a=>Vj ag U9<|Vm (fD _ H.m_ (qtx p.1) (qtx p.2) (by have:=bd B.1 dc_;omega) (by have:=bd B.2 dc_;omega)) U7 fl_<|C6 1 [1,3,5,30,31,32,38] a U<|G.cd (fun L=>?_) fun L=>?_
  ·exfalso;rw[bh (B.1.le dc_),bh (B.2.le dc_)]at L;exact absurd L dc_
  refine Va 1 U fun R a=>Vj ag U9<|WW kP2 af U U U U U U U U U (congrArg (mj (.bool false) false) (CP aa)) U U<|Vf [1,3,5,30,31,32,41] a U<|G.cd (fun ab=>?_) fun ab=>?_
  ·exact absurd ab dc_
  refine Va 1 U fun R a=>Vj ag U9<|WO kP2 (j:=1) (key:=ptK p) U U U U U U U U U U<|Vf [1,3,30,31,32] a U<|Vd fun R a=>Vh _ U U6<|C6 1 [1,3,30,31,32] a U<|VR 1 U<|Vr (L':=[.obj K (aY EP (Ky (c.take (i+1))))]) (by rw[ak,<- Of aa];rfl)<|Vn (m':=c.length-(i+1)) om_ mup (hn_ [1,3,30,31,32] U) ⟨i+1,om_,U,U,U⟩
 refine Va 1 U fun R a=>Vb (PtrTo.block (Mem.get f mup) _) U8<|C6 2 [1,46,47,48] a U<|G.dropAll<|G.loop (fun fr z g l=>∃ (i:Nat),(i<=b.length)/\fr=[(1,[],p_ u),(46,[],.slice A2 b.length c2),(47,[],i_ b.length),(48,[],i_ i)]/\g=[]/\l=b.length-i) (hn_ [1,46,47,48] U) ⟨0,Rv _,U,U,U⟩ (fun fr aK aL m _ n=>?_);obtain⟨i,hi,rfl,rfl,rfl⟩:=n;refine U1 1 [1,46,47,48,49] U<|G.cd (fun M=>?_) fun M=>?_
 ·have o:i<b.length:=by simpa using M
  obtain⟨t,ht⟩:∃ t,b[i]?=some t:=⟨b[i],ai o⟩;have ac:=aU ht;have s:=d.ins t ac;have am:=d.pos t ac;refine Vd fun R a=>Vq x.m_ U10 om_ (by rw[Rr,ht];rfl:(b.map iB)[i]?=some (iB t)) fl_ fun aN an=>Vb an U8<|Vt U5 fun b7=>Vk (j:=0) U12<|Vf [1,7,46,47,48] a U<|Vd fun R a=>Vj ag U9<|C6 1 [1,7,46,47,48,52,53] a U<|G.loop (fun fr z g l=>∃ (j:Nat),(j<=3)/\fr=[(1,[],p_ u),(7,[],p_ b7),(46,[],.slice A2 b.length c2),(47,[],i_ b.length),(48,[],i_ i),(52,[],.agg ⟨iB t⟩),(53,[],i_ j)]/\g=[.obj b7 (.cells ⟨iB t⟩ 65 (0,0))]/\l=3-j) (hn_ [1,7,46,47,48,52,53] U) ⟨0,Rv _,U,U,U⟩ (fun fr aO aP m ao n=>?_);obtain⟨j,v,rfl,rfl,rfl⟩:=n;refine U1 1 [1,7,46,47,48,52,53,54] U<|G.cd (fun N=>?_) fun N=>?_
  ·have ap:j<3:=by
    simp only[Ry]at N;omega
   have aQ:=eS s j;refine Vd fun R a=>V3 U11 (fun _=>⟨by omega,by omega,(show(iB t)[((j:Nat):Int).toNat]?=some (i_ ((gY t j:Nat):Int)) from by rw[<- BK];exact ri t ap)⟩) U2<|C6 1 [1,7,9,46,47,48,52,53] a U<|Va 5 U fun R a=>VE U6 (fun _=>PtrTo.block (Mem.get f mup) _) U3<|Ve 2 U<|VH U8<|Vf [1,7,46,47,48,52,53,64] a U<|G.cd (fun ad=>?_) fun ad=>?_
   ·exfalso;simp only[Tp,Ry]at ad;omega
   refine Vd fun R a=>Vh _ U U6<|C6 1 [1,7,46,47,48,52,53] a U<|Vn (m':=3-(j+1)) om_ ao (hn_ [1,7,46,47,48,52,53] U) ⟨j+1,om_,U,U,U⟩
  clear N;refine Vv [0,1,2,3,4,5,6,7,8,9,10,11,12,13,14,15,16,17,18,19] [(18,1)] U kr_ fun R hB a=>Vc U6<|Vb (PtrTo.block (Mem.get f mup) _) U8<|Vw (0) U9 k_ U2<|Vj ag U9<|Vq r.m_ U10 om_ (by rw[Rr,show(((t.1:Nat):Int)).toNat=t.1 from U,qj s.1];rfl:(c.map gx)[(((t.1:Nat):Int)).toNat]?=some (gx (c.getD t.1 (0,0)))) fl_ fun aR aq=>Vb aq U8<|Vc U6<|Vb (PtrTo.block (Mem.get f mup) _) U8<|Vw (1) U9 k_ U2<|Vj ag U9<|Vq r.m_ U10 om_ (by rw[Rr,show(((t.2.1:Nat):Int)).toNat=t.2.1 from U,qj s.2.1];rfl:(c.map gx)[(((t.2.1:Nat):Int)).toNat]?=some (gx (c.getD t.2.1 (0,0)))) fl_ fun aS ar=>Vb ar U8<|Vc U6<|Vb (PtrTo.block (Mem.get f mup) _) U8<|Vw (2) U9 k_ U2<|Vj ag U9<|Vq r.m_ U10 om_ (by rw[Rr,show(((t.2.2:Nat):Int)).toNat=t.2.2 from U,qj s.2.2];rfl:(c.map gx)[(((t.2.2:Nat):Int)).toNat]?=some (gx (c.getD t.2.2 (0,0)))) fl_ fun aT av=>Vb av U8<|Vx (fun _=>(pF _ H.m_ (c.getD t.1 (0,0)) (c.getD t.2.1 (0,0)) (c.getD t.2.2 (0,0)) 1 dc_ dc_ (d.q _ (Cp s.1)) (d.q _ (Cp s.2.1)) (d.q _ (Cp s.2.2)))) U9<|C6 1 [1,46,47,48,85] a U<|G.cd (fun O=>?_) fun O=>?_
  ·exfalso;rw[PC,RJ am]at O;exact absurd O dc_
  refine Vd fun R a=>Vh _ U U6<|C6 1 [1,46,47,48] a U<|G.dropAll<|Vn (m':=b.length-(i+1)) om_ mup (hn_ [1,46,47,48] U) ⟨i+1,om_,U,U,U⟩
 clear M;refine Vd fun R a=>Vb (PtrTo.block (Mem.get f mup) _) U8<|Vm (ue _ H.m_ _ _ c b h0 r.m_ x.m_ d.sides d.ins d.q om_) U7 fl_<|Vf [1,88] a U<|G.cd (fun Q=>?_) fun Q=>?_
 ·have w:oa c b=true:=Q;exact U1 1 [2] U<|Vg U2<|⟨by unfold zS;rw[aF h0,aM w],U⟩
 have w:oa c b=false:=Q;refine Va 1 U fun R a=>Vb (PtrTo.block (Mem.get f mup) _) U8<|C6 2 [1,91,92] a U<|G.loop (fun fr z g l=>∃ (i:Nat),(i<=b.length/\oZ i X=false)/\fr=[(1,[],p_ u),(91,[],i_ b.length),(92,[],i_ i)]/\g=[]/\l=b.length-i) (hn_ [1,91,92] U) ⟨0,⟨Rv _,U⟩,U,U,U⟩ (fun fr aV aW m _ n=>?_);obtain⟨i,⟨aX,E⟩,rfl,rfl,rfl⟩:=n;refine U1 1 [1,91,92,93] U<|G.cd (fun S=>?_) fun S=>?_
 ·have o:i<b.length:=by simpa using S
  refine U1 2 [1,10,91,92] U<|U1 2 [1,10,91,92,95,96] U<|G.loop (fun fr z g l=>∃ (k:Nat),(k<=i/\(List.range k).any (fun k=>X i k)=false)/\fr=[(1,[],p_ u),(10,[],i_ i),(91,[],i_ b.length),(92,[],i_ i),(95,[],i_ i),(96,[],i_ k)]/\g=[]/\l=i-k) (hn_ [1,10,91,92,95,96] U) ⟨0,⟨Rv _,U⟩,U,U,U⟩ (fun fr aZ a0 m aw n=>?_);obtain⟨k,⟨a1,ae⟩,rfl,rfl,rfl⟩:=n;refine U1 1 [1,10,91,92,95,96,97] U<|G.cd (fun T=>?_) fun T=>?_
  ·have F:k<i:=by simpa using T
   refine U1 2 [1,10,11,91,92,95,96] U<|Vd fun R a=>Vb (PtrTo.block (Mem.get f mup) _) U8<|Ve 2 U<|Vl (W h0 w _ mup i k o F) U7<|Vf [1,10,91,92,95,96,102] a U<|G.cd (fun V=>?_) fun V=>?_
   ·have ax:X i k=true:=V;have hc:oZ b.length X=true:=TX.2 ⟨i,RL.2 o,TX.2 ⟨k,RL.2 F,ax⟩⟩;exact U1 1 [2] U<|Vg U2<|⟨by unfold zS;rw[aF h0,w,aF dc_,aM hc],U⟩
   have ay:X i k=false:=V;refine Vd fun R a=>Vh _ U U6<|C6 1 [1,10,91,92,95,96] a U<|Vn (m':=i-(k+1)) om_ aw (hn_ [1,10,91,92,95,96] U) ⟨k+1,⟨by omega,by rw[SC,List.any_append,ae];simp[ay]⟩,U,U,U⟩
  have F:k=i:=by
   have:¬ k<i:=by simpa using T
   omega
  subst F;refine Vd fun R a=>Vh _ U U6<|C6 1 [1,91,92] a U<|Vn (m':=b.length-(k+1)) om_ mup (hn_ [1,91,92] U) ⟨k+1,⟨by omega,by unfold oZ at E⊢;rw[SC,List.any_append,E];simp[ae]⟩,U,U,U⟩
 have o:i=b.length:=by
  have:¬ i<b.length:=by simpa using S
  omega
 refine U1 1 [2] U<|Vg U2<|⟨?_,U⟩;rw[o]at E;unfold zS;rw[aF h0,w,aF dc_,E];rfl
structure Good (pts:List Pt)(tris:List Tri):Prop where
 ok:MeshOk pts tris
 ne:tris≠[]
 whole:oa pts tris=true
structure MeshIn (C:Mem)(mv:Value)(pts:List Pt)(tris:List Tri):Prop where
 ex:∃ v1 v2,mv=.agg ⟨[v1,v2]⟩/\Sl C 2 v1 (pts.map gx)/\Sl C 3 v2 (tris.map iB)
theorem MeshIn.mono {C D:Mem}{a:Value}{b:List Pt}{c:List Tri}(h:MeshIn C a b c)(d:C.le D):MeshIn D a b c:=by
 obtain⟨e,f,h1,h2,h3⟩:=h.ex;exact⟨e,f,h1,h2.mono d,h3.mono d⟩
theorem MeshIn.m_ {D:Mem}{a:Value}{b:List Pt}{c:List Tri}(h:MeshIn C a b c)(d:C.le D:=by exact mup):MeshIn D a b c:=MeshIn.mono h d
def nox:Nat->Nat->Bool:=fun _ _=>false
theorem fH (C:Mem)(f:Tabs C)(d:Value)(a:List Pt)(b:List Tri)(g:MeshIn C d a b)(c:Good a b):Gives cx.P 65 [d] C (i_ 0):=by
 obtain⟨i,j,rfl,h1,h2⟩:=g.ex;have h:=Hg C f i j a b nox h1 h2 c.ok (fun _ h3=>by rw[c.whole]at h3;cases h3);have e:zS a b nox=0:=by unfold zS;rw[aF c.ne,aM c.whole]
 rwa [e]at h
def cor (pts:List Pt)(t:Tri)(j:Nat):Pt:=pts.getD (gY t j) (0,0)
def zZ (pts:List Pt)(p:Pt)(t:Tri):Bool:=decide (0<=cJ (cor pts t 0) (cor pts t 1) p) && decide (0<=cJ (cor pts t 1) (cor pts t 2) p) && decide (0<=cJ (cor pts t 2) (cor pts t 0) p)
def kC (pts:List Pt)(tris:List Tri)(p:Pt):List Nat:=(List.range tris.length).filter fun i=>zZ pts p (tris.getD i (0,0,0))
theorem ot {a:List Pt}{b:List Tri}(h:MeshOk a b){t:Tri}(c:t∈b)(j:Nat):QP 1 (cor a t j):=h.q _ (Cp (eS (h.ins t c) j))
theorem QP.le {k m:Nat}{p:Pt}(h:QP k p)(a:k<=m):QP m p:=⟨h.1.le a,h.2.le a⟩
theorem tL (C:Mem)(d:Value)(a:List Pt)(b:List Tri)(f:MeshIn C d a b)(g:MeshOk a b)(i:Nat)(t:Tri)(e:b[i]?=some t) :
  Gives cx.P 68 [d,i_ i] C (OJ (cor a t 0) (cor a t 1) (cor a t 2)):=by
 obtain⟨h,j,rfl,h1,h2⟩:=f.ex;have c:=g.ins t (aU e);exact EU C h j a b i t _ _ _ h1 h2 e (qj c.1) (qj c.2.1) (qj c.2.2)
theorem Gq {p:Pt}(h:QP k p)(a:k<=1000):(qtx p.1).length<=999998/\(qtx p.2).length<=999998:=by
 have h1:=bd (h.1.le (TL k)) om_;have h2:=bd (h.2.le (TL k)) om_;exact⟨by omega,by omega⟩
def PtR (p:Pt):Prop:=aR (qtx p.1)=true/\aR (qtx p.2)=true
theorem iJ (C:Mem)(c:Tabs C)(p:Pt)(a:QP 23 p)(b:PtR p):Gives cx.P 66 [ptV p] C (i_ 0):=by
 have h:=fD C c (qtx p.1) (qtx p.2) (Gq a dc_).1 (Gq a dc_).2;rw[b.1,b.2]at h;exact h
theorem ml (C:Mem)(f:Tabs C)(A:Value)(c:List Pt)(a:List Tri)(p:Pt)(B:MeshIn C A c a)(E:Good c a)(F:QP 23 p)(g:PtR p) :
  Pur cx.P 18 [A,ptV p] C fun u D=>∃ v,u=.tuple #[v,i_ 0]/\Sl D 1 v ((kC c a p).map aW):=by
 have d:=E.ok;have W:=d.lt;have X:=mx_
 have h:=B;obtain⟨Y,Z,rfl,h1,h2⟩:=id B.ex;obtain⟨A1,c1,rfl,aa,ab,_⟩:=id h1;obtain⟨A2,c2,rfl,ac,ad,_⟩:=id h2;simp only[au]at h1 h2 h⊢;refine Vi func18 34 U3 fun w0=>Vd fun R b=>Vs U6 fun N=>Vs U6 fun O=>C6 2 [2,3] b U<|G.freeze 1 U fun _ _ k=>G.freeze 0 U fun _ _ H=>Vd fun R b=>Vb (PtrTo.block (Mem.get k mup) _) U8<|Vl (fH _ f.m_ _ c a h.m_ E) U7<|C6 1 [2,3,6] b U<|U1 2 [2,3,6,12] U<|G.cd (fun I=>?_) fun I=>?_
 ·exact absurd I dc_
 refine Vd fun R b=>Vb (PtrTo.block (Mem.get H mup) _) U8<|Vl (iJ _ f.m_ p F g) U7<|C6 1 [2,3,16] b U<|G.cd (fun J=>?_) fun J=>?_
 ·exact absurd J dc_
 refine U1 1 [2,3,7] U<|Va 1 U fun R b=>Vb (PtrTo.block (Mem.get k mup) _) U8<|C6 2 [2,3,7,19,20] b U<|G.nilArr 3 1<|G.loop (fun fr C' K Q=>∃ (i:Nat)(out:List Nat)(w:Value),(i<=a.length/\out=(List.range i).filter (fun i=>zZ c p (a.getD i (0,0,0))))/\fr=[(2,[],p_ N),(3,[],p_ O),(7,[],w),(19,[],i_ a.length),(20,[],i_ i)]/\K=[.arr w 3 1 out.length (out.map aW).flatten]/\Q=a.length-i) (hn_ [2,3,7,19,20] U) ⟨0,[],_,⟨Rv _,U⟩,U,U,U⟩ (fun fr ae af m _ S=>?_);obtain⟨i,out,w,⟨hi,e⟩,rfl,rfl,rfl⟩:=S;refine U1 1 [2,3,7,19,20,21] U<|G.cd (fun l=>?_) fun l=>?_
 ·have n:i<a.length:=by simpa using l
  obtain⟨t,o⟩:∃ t,a[i]?=some t:=⟨a[i],ai n⟩;have q:=aU o;have L:a.getD i (0,0,0)=t:=by rw[am,o];rfl
  have ag:out.length<=i:=by
   rw[e];exact RD (S9 _ _) ak
  refine U1 2 [2,3,7,8,19,20] U<|Vv [0,1,2,3,4] [(2,1),(4,1)] U kr_ fun R hB b=>Vb (PtrTo.block (Mem.get k mup) _) U8<|Vc U6<|VK (fun _=>(tL _ _ c a h.m_ d i t o)) U9<|Vb (PtrTo.block (Mem.get H mup) _) U8<|Vx (fun _=>(HC _ f.m_ (cor c t 0) (cor c t 1) (cor c t 2) p 23 dc_ dc_ ((ot d q 0).le dc_) ((ot d q 1).le dc_) ((ot d q 2).le dc_) F)) U9<|Vf [2,3,7,8,19,20,27] b U<|G.cd (fun s=>?_) fun s=>?_
  ·have x:zZ c p t=true:=s;have z:(List.range (i+1)).filter (fun i=>zZ c p (a.getD i (0,0,0)))=out++[i]:=by rw[SC,S4,<- e,List.filter_cons,L,x];rfl
   refine Va 2 U fun R b=>Vy [aW i] U12 fun ah _ _ T=>D.append (j:=0) U11 T U ax (by simp only[Rp];omega) fl_ fun M=>C6 1 [2,3,7,19,20] b U<|Vd fun R b=>Vh _ U U6<|C6 1 [2,3,7,19,20] b U<|Vr (L':=[.arr M 3 1 (out++[i]).length ((out++[i]).map aW).flatten]) (by simp[aW])<|Vn (m':=a.length-(i+1)) om_ mup (hn_ [2,3,7,19,20] U) ⟨i+1,out++[i],M,⟨by omega,z.symm⟩,U,U,U⟩
  have x:zZ c p t=false:=s;have z:(List.range (i+1)).filter (fun i=>zZ c p (a.getD i (0,0,0)))=out:=by rw[SC,S4,<- e,List.filter_cons,L,x];simp
  refine Vd fun R b=>Vh _ U U6<|C6 1 [2,3,7,19,20] b U<|Vn (m':=a.length-(i+1)) om_ mup (hn_ [2,3,7,19,20] U) ⟨i+1,out,w,⟨by omega,z.symm⟩,U,U,U⟩
 have n:i=a.length:=by
  have:¬ i<a.length:=by simpa using l
  omega
 refine U1 3 [4,5] U<|G.freezeArr 0 (out.map aW) rfl rfl (by intro r g;obtain⟨y,_,rfl⟩:=Rs.1 g;rfl) ak fun Cg hg V=>Vo (G.dropAll (VA U3 ?_));refine⟨U,_,U, ?_⟩;rw[n]at e;unfold kC;rw[<- e];exact V
theorem rA (C:Mem)(g:Tabs C)(d:Value)(a:List Pt)(b:List Tri)(p:Pt)(e:MeshIn C d a b)(h:Good a b)(i:QP 23 p)(j:PtR p) :
  Gives cx.P 117 [d,ptV p] C (.tuple #[.bool (decide (kC a b p≠[])),i_ 0]):=by
 have k:=e;obtain⟨n,o,rfl,h1,h2⟩:=id e.ex;refine Vi func117 18 U3 fun w0=>Vd fun R c=>Vs U6 fun q=>Vs U6 fun r=>C6 2 [2,3] c U<|Vd fun R c=>Vj af U9<|Vj ag U9<|VJ (ml _ g.m_ _ a b p k.m_ h i j) U7 (fun s _ _ l=>?_);obtain⟨t,rfl,m⟩:=l;obtain⟨u,v,f,_⟩:=id m;rw[au]at f;subst f;refine C6 5 [6,7] c U<|U1 6 [4,5] U<|Vo (G.dropAll (VA U3 ?_));refine⟨?_,U⟩;have:decide (((kC a b p).length:Int) > 0)=decide (kC a b p≠[]):=by
  rw[Sf,<- Sc];omega
 rw[<- this]
theorem AS (C:Mem)(j:Tabs C)(d:Value)(c:List Pt)(b:List Tri)(i:Nat)(e:MeshIn C d c b)(k:Good c b)(l:i<b.length) :
  Gives cx.P 69 [d,i_ i] C (i_ 0):=by
 have f:=e;obtain⟨m,n,rfl,h1,h2⟩:=id e.ex;obtain⟨A2,c2,rfl,o,p,_⟩:=id h2;simp only[au]at h1 h2 f⊢;refine Vi func69 20 U3 fun w0=>Vd fun R a=>Vs U6 fun q=>C6 1 [1,2] a U<|Vd fun R a=>Vj ag U9<|Vl (fH _ j.m_ _ c b f.m_ k) U7<|C6 1 [1,2,5] a U<|U1 2 [1,2,5,9] U<|G.cd (fun g=>?_) fun g=>?_
 ·exact absurd g dc_
 refine Va 5 U fun R a=>Vj ag U9<|Ve 2 U<|VH U8<|Vf [19] a U<|G.cd (fun h=>?_) fun h=>?_
 ·exfalso;simp only[Tp,Ry]at h;omega
 exact U1 1 [4] U<|Vg U2<|⟨U,U⟩
def wgt (pts:List Pt)(t:Tri)(p:Pt)(j:Nat):Rat:=cJ p (cor pts t ((j+1) % 3)) (cor pts t ((j+2) % 3)) / cJ (cor pts t 0) (cor pts t 1) (cor pts t 2)
theorem iv {a:List Pt}{b:List Tri}(c:MeshOk a b){t:Tri}(d:t∈b):cJ (cor a t 0) (cor a t 1) (cor a t 2)≠0:=by
 have h:=c.pos t d;intro e;have f:cJ (a.getD t.1 (0,0)) (a.getD t.2.1 (0,0)) (a.getD t.2.2 (0,0))=0:=e;rw[f]at h;exact absurd h dc_
theorem wX (C:Mem)(g:Tabs C)(x:Value)(c:List Pt)(h:List Tri)(p:Pt)(i:Nat)(t:Tri)(y:MeshIn C x c h)(z:Good c h)(l:QP 23 p)(O:PtR p)(o:h[i]?=some t)(q:∀ j,QB 22 (wgt c t p j)) :
  Gives cx.P 19 [x,i_ i,ptV p] C (.tuple #[.agg ⟨[ae (qtx (wgt c t p 0)),ae (qtx (wgt c t p 1)),ae (qtx (wgt c t p 2))]⟩,i_ 0]):=by
 have r:=z.ok;have A:=aU o;have Q:=(aJ.1 o).1;have B:=y;obtain⟨v1,v2,rfl,h1,h2⟩:=id y.ex;have e:=fun j=>(ot r A j).le (show 1<=23 by decide);have s:=iv r A;have u:∀ a b,QP 23 a->QP 23 b->QB 189 (cJ p a b):=fun a b S T=>(Be l S T).le dc_;have v:QB 189 (cJ (cor c t 0) (cor c t 1) (cor c t 2)):=(Be (e 0) (e 1) (e 2)).le dc_;refine Vi func19 69 U3 fun w0=>Vd fun R d=>Vs U6 fun b3=>Vs U6 fun V=>Vt U5 fun D=>C6 1 [1,3,5,6] d U<|G.freeze 2 U fun _ _ E=>G.freeze 1 U fun _ _ n=>Vd fun R d=>Vb (PtrTo.block (Mem.get E mup) _) U8<|Vc U6<|Vl (AS _ g.m_ _ c h i B.m_ z Q) U7<|C6 1 [1,3,5,6,8] d U<|U1 2 [1,3,5,6,8,18] U<|G.cd (fun F=>?_) fun F=>?_
 ·exact absurd F dc_
 refine Vd fun R d=>Vb (PtrTo.block (Mem.get n mup) _) U8<|Vl (iJ _ g.m_ p l O) U7<|C6 1 [1,3,5,6,23] d U<|G.cd (fun H=>?_) fun H=>?_
 ·exact absurd H dc_
 refine Vd fun R d=>Vb (PtrTo.block (Mem.get E mup) _) U8<|Vc U6<|Vl (tL _ _ c h B.m_ r i t o) U7<|Vt U5 fun W=>Vk (j:=0) U12<|Vf [5,6,9] d U<|G.freeze 0 U fun _ _ f=>Vd fun R d=>Vt U5 fun I=>Vf [5,6,9,10] d U<|U1 1 [5,6,9,10,28] U<|G.loop (fun fr C' X Y=>∃ (j:Nat),(j<=3)/\fr=[(5,[],p_ V),(6,[],p_ D),(9,[],p_ W),(10,[],p_ I),(28,[],i_ j)]/\X=[.obj I (.cells ⟨(List.range 3).map fun k=>if k<j then ae (qtx (wgt c t p k)) else ae []⟩ 61 (0,0)),.obj D (.cells ⟨[ae [],ae [],ae []]⟩ 61 (0,0))]/\Y=3-j) (hn_ [5,6,9,10,28] U) ⟨0,Rv _,U,U,U⟩ (fun fr aa ab m _ Z=>?_);obtain⟨j,hj,rfl,rfl,rfl⟩:=Z;refine U1 1 [5,6,9,10,28,29] U<|G.cd (fun w=>?_) fun w=>?_
 ·have J:j<3:=by
   simp only[Ry]at w;omega
  rcases(by omega:j=0∨j=1∨j=2) with rfl|rfl|rfl
  ·refine U1 2 [5,6,9,10,11,28] U<|Vv [0,1,2,3,4,5,6,7,8,9,10,11,12,13,14,15,16,17,18,19,20,21,22,23,24,25] [(12,1),(19,1),(20,1)] U kr_ fun R K d=>Vc U6<|Vb (PtrTo.block (Mem.get n mup) _) U8<|Vc U6<|Vh _ U U6<|Wd U6 om_ om_ U2<|Vw (_) U9 k_ U2<|Vb (bkT f 2) U8<|Vc U6<|Vh _ U U6<|Wd U6 om_ om_ U2<|Vw (_) U9 k_ U2<|Vb (bkT f 2) U8<|Vx (fun _=>(lE _ g.m_ p (cor c t ((0+1) % 3)) (cor c t ((0+2) % 3)) 23 dc_ dc_ l (e _) (e _))) U9<|Vw (0) U9 k_ U2<|Vb (bkT f 2) U8<|Vw (2) U9 k_ U2<|Vb (bkT f 2) U8<|Vw (4) U9 k_ U2<|Vb (bkT f 2) U8<|Vx (fun _=>(lE _ g.m_ (cor c t 0) (cor c t 1) (cor c t 2) 23 dc_ dc_ (e 0) (e 1) (e 2))) U9<|Vx (fun _=>(ia _ g.m_ _ _ 189 dc_ dc_ (u _ _ (e _) (e _)) v s)) U9<|Ve 3 U<|Vw (_) U9 k_ U2<|Vk (j:=0) U12<|Vf [5,6,9,10,11,28] d U<|Va 1 U fun R d=>Vw (_) U9 k_ U2<|Vj ag U9<|Vl (ux _ g.m_ (wgt c t p 0) (q 0)) U7<|C6 5 [5,6,9,10,13,28] d U<|U1 2 [5,6,9,10,13,28,64] U<|G.cd (fun L=>?_) fun L=>?_
   ·exact absurd L dc_
   refine Vd fun R d=>Vh _ U U6<|C6 1 [5,6,9,10,28] d U<|Vn (m':=2) om_ mup (hn_ [5,6,9,10,28] U) ⟨1,by decide,U,U,U⟩
  ·refine U1 2 [5,6,9,10,11,28] U<|Vv [0,1,2,3,4,5,6,7,8,9,10,11,12,13,14,15,16,17,18,19,20,21,22,23,24,25] [(12,1),(19,1),(20,1)] U kr_ fun R K d=>Vc U6<|Vb (PtrTo.block (Mem.get n mup) _) U8<|Vc U6<|Vh _ U U6<|Wd U6 om_ om_ U2<|Vw (_) U9 k_ U2<|Vb (bkT f 2) U8<|Vc U6<|Vh _ U U6<|Wd U6 om_ om_ U2<|Vw (_) U9 k_ U2<|Vb (bkT f 2) U8<|Vx (fun _=>(lE _ g.m_ p (cor c t ((1+1) % 3)) (cor c t ((1+2) % 3)) 23 dc_ dc_ l (e _) (e _))) U9<|Vw (0) U9 k_ U2<|Vb (bkT f 2) U8<|Vw (2) U9 k_ U2<|Vb (bkT f 2) U8<|Vw (4) U9 k_ U2<|Vb (bkT f 2) U8<|Vx (fun _=>(lE _ g.m_ (cor c t 0) (cor c t 1) (cor c t 2) 23 dc_ dc_ (e 0) (e 1) (e 2))) U9<|Vx (fun _=>(ia _ g.m_ _ _ 189 dc_ dc_ (u _ _ (e _) (e _)) v s)) U9<|Ve 3 U<|Vw (_) U9 k_ U2<|Vk (j:=0) U12<|Vf [5,6,9,10,11,28] d U<|Va 1 U fun R d=>Vw (_) U9 k_ U2<|Vj ag U9<|Vl (ux _ g.m_ (wgt c t p 1) (q 1)) U7<|C6 5 [5,6,9,10,13,28] d U<|U1 2 [5,6,9,10,13,28,64] U<|G.cd (fun M=>?_) fun M=>?_
   ·exact absurd M dc_
   refine Vd fun R d=>Vh _ U U6<|C6 1 [5,6,9,10,28] d U<|Vn (m':=1) om_ mup (hn_ [5,6,9,10,28] U) ⟨2,by decide,U,U,U⟩
  refine U1 2 [5,6,9,10,11,28] U<|Vv [0,1,2,3,4,5,6,7,8,9,10,11,12,13,14,15,16,17,18,19,20,21,22,23,24,25] [(12,1),(19,1),(20,1)] U kr_ fun R K d=>Vc U6<|Vb (PtrTo.block (Mem.get n mup) _) U8<|Vc U6<|Vh _ U U6<|Wd U6 om_ om_ U2<|Vw (_) U9 k_ U2<|Vb (bkT f 2) U8<|Vc U6<|Vh _ U U6<|Wd U6 om_ om_ U2<|Vw (_) U9 k_ U2<|Vb (bkT f 2) U8<|Vx (fun _=>(lE _ g.m_ p (cor c t ((2+1) % 3)) (cor c t ((2+2) % 3)) 23 dc_ dc_ l (e _) (e _))) U9<|Vw (0) U9 k_ U2<|Vb (bkT f 2) U8<|Vw (2) U9 k_ U2<|Vb (bkT f 2) U8<|Vw (4) U9 k_ U2<|Vb (bkT f 2) U8<|Vx (fun _=>(lE _ g.m_ (cor c t 0) (cor c t 1) (cor c t 2) 23 dc_ dc_ (e 0) (e 1) (e 2))) U9<|Vx (fun _=>(ia _ g.m_ _ _ 189 dc_ dc_ (u _ _ (e _) (e _)) v s)) U9<|Ve 3 U<|Vw (_) U9 k_ U2<|Vk (j:=0) U12<|Vf [5,6,9,10,11,28] d U<|Va 1 U fun R d=>Vw (_) U9 k_ U2<|Vj ag U9<|Vl (ux _ g.m_ (wgt c t p 2) (q 2)) U7<|C6 5 [5,6,9,10,13,28] d U<|U1 2 [5,6,9,10,13,28,64] U<|G.cd (fun N=>?_) fun N=>?_
  ·exact absurd N dc_
  refine Vd fun R d=>Vh _ U U6<|C6 1 [5,6,9,10,28] d U<|Vn (m':=0) om_ mup (hn_ [5,6,9,10,28] U) ⟨3,by decide,U,U,U⟩
 have J:j=3:=by
  simp only[RZ]at w;omega
 subst J;refine Vd fun R d=>Vj ag U9<|Vk (j:=1) U12<|C6 1 [6,7] d U<|Vo (Wj ag U5 ?_);exact⟨U,U⟩
end Go.Proofs.YtfjcldheldflbaaGreatDoor
