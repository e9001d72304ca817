/- Laws that the proofs of this seat share, part 8. -/
import Derived.Test.YtfjcldheldflbaaGreatDoorG7
import Derived.Test.YtfjcldheldflbaaGreatDoorShelf
import Derived.RangeFuncBox
import Derived.RangeFuncLeaves
import Derived.Shelf.Abstract
import Derived.WalkKit
import Derived.OwnWalkIn
import Derived.TacticsInMore
import Derived.LoopNIn
import Derived.LoopIn
import Derived.Stop.RegionWithIn
import Derived.Test.YtfjcldheldflbaaGreatDoorProg
set_option maxHeartbeats 4000000
namespace Go.Proofs.YtfjcldheldflbaaGreatDoor
open Go.Proofs.Tryz
open Go Go.Jog
set_option maxRecDepth 100000
variable {C:Mem}{cyc:List Nat}{i k n:Nat}{q:Rat}{s:Str}
theorem kF {m:Nat}(h:n<B9 ^ m)(a:m<=88):n<BP ^ 200:=by
 rw[OP];rw[pow9]at h;exact Sb h (Rx (n:=10) (i:=9*m) (j:=800) dc_ om_)
theorem AP (C:Mem)(s:Str)(b:9<s.length):Gives cx.P 107 [af s] C (.tuple #[i_ 0,i_ 0,.bool false]):=by
 refine UU func107 57 U3 fun w0=>UM 3 [0,2] U<|UM 3 [0,2,9] U<|G.cd (fun a=>?_) fun a=>?_
 ·refine UM 3 [2,3,4] U<|U1 (G.dropAll (VG U4 ?_));exact⟨U,U⟩
 exfalso;have h:¬ (9:Int)<((s.length:Nat):Int):=Rc a;omega
theorem pi (C:Mem)(q:Rat):Gives cx.P 107 [af (qtx q)] C (.tuple #[i_ (if (qtx q).length<=9 then q.num else 0),i_ (if (qtx q).length<=9 then ((q.den:Nat):Int) else 0),.bool (decide ((qtx q).length<=9))]):=by
 by_cases h:(qtx q).length<=9
 ·rw[aJ h,aJ h,Rt h];have h2:=ES C (decide (q.num<0)) (bj q.num.natAbs) (mO q.den) (iI _) (nR _) (CZ _) h;unfold MC at h2;rw[(bB _).2,mN]at h2;have e:sgZ (decide (q.num<0)) q.num.natAbs=q.num:=by
   unfold sgZ;by_cases h:q.num<0
   ·rw[Rt h,aJ rfl];omega
   rw[RG h,aF dc_];omega
  rw[e]at h2;exact h2
 rw[aF h,aF h,RG h];exact AP C _ om_
theorem oK (h:(qtx q).length<=9):q.num.natAbs<1000000000/\q.den<1000000000:=by
 refine lu ?_;unfold CU Mq;unfold qtx at h;rw[Rf,Rf]at h;have h2:((mO q.den).getD []).length<=(dp (mO q.den)).length:=by
  cases mO q.den with
 |none=>exact Q7 _
 |some b=>simp[dp]
 rw[Rt om_,Rt om_];rfl
theorem oQ (C:Mem)(q:Rat)(a:(qtx q).length<1000000):Gives cx.P 109 [af (qtx q)] C (.tuple #[af (txt q.num),af (txt ((q.den:Nat):Int))]):=by
 have h:=xz C (qtx q) a
 rwa [mR,Aq,<- cX]at h
theorem Cc (C:Mem)(f:Tabs C)(a b:Rat)(k:Nat)(l:0<k)(u:k<=40)(d:QB k a)(e:QB k b):Gives cx.P 49 [af (qtx a),af (qtx b)] C (af (qtx (a+b))):=by
 have v:=aZ d l;have w:=aZ e l;have p:=eX a;have q:=eX b;have m:0<a.den*b.den:=Tv p q;refine UU func49 61 U3 fun w0=>UM 1 [0,1] U<|UN 1 U fun R c=>UZ (pi _ a) U7<|C6 7 [0,1,5,6,7] c U<|UM 1 [0,1,5,6,21] U<|G.cut (fun fr x r s=>(True)/\fr=[(0,[],af (qtx a)),(1,[],af (qtx b))]/\r=[]) ?_ (fun fr _ y s _ t=>?_)
 ·refine G.cd (fun n=>?_) fun n=>?_
  ·have g:=Qw n;rw[aJ g,aJ g];have h:=oK g;refine UN 1 U fun R c=>UZ (pi _ b) U7<|C6 7 [0,1,5,6,8,9,10] c U<|UM 1 [0,1,5,6,8,9,28] U<|G.cd (fun o=>?_) fun o=>?_
   ·have i:=Qw o;rw[aJ i,aJ i];have j:=oK i;have z:=jZ h.1 j.2;have A:=jZ j.1 h.2;have B:=me h.2 j.2;exact UN 2 U fun R c=>UV _ U U6<|UR 2 U<|UV _ U U6<|UV _ U U6<|UR 2 U<|UV (((a.den*b.den:Nat):Int)) (RF _ _).symm U6<|UY (sX _ f.m_ _ _ m om_ om_) U7 fl_<|C6 1 [4] c U<|UT U2<|⟨by rw[eW],U⟩
   refine Vb 0 l_ (hn_ [0,1] U) ⟨trivial,U,U⟩
  refine Vb 0 l_ (hn_ [0,1] U) ⟨trivial,U,U⟩
 obtain⟨_,rfl,rfl⟩:=t;exact UN 1 U fun R c=>UY (oQ _ a om_) U7 fl_<|C6 5 [1,11,12] c U<|UN 1 U fun R c=>UY (oQ _ b om_) U7 fl_<|C6 5 [11,12,13,14] c U<|UN 2 U fun R c=>UY (fU _ f.m_ _ _ (kF d.1 om_) (kF (jC e) om_)) U7 fl_<|UR 2 U<|UY (fU _ f.m_ _ _ (kF e.1 om_) (kF (jC d) om_)) U7 fl_<|UY (tQ _ f.m_ _ _ (kF (cD d.1 (jC e)) om_) (kF (cD e.1 (jC d)) om_)) U7 fl_<|UR 2 U<|UY (fU _ f.m_ _ _ (kF (jC d) om_) (kF (jC e) om_)) U7 fl_<|UY (lk _ f.m_ _ _ (kF (R4 (Tz _ _) (uk (cD d.1 (jC e)) (cD e.1 (jC d)))) om_) (kF (cD (jC d) (jC e)) om_) (by rw[<- RF];omega)) U7 fl_<|C6 1 [4] c U<|UT U2<|⟨by rw[eW,<- RF,oW m],U⟩
theorem JK (C:Mem)(f:Tabs C)(a b:Rat)(k:Nat)(i:0<k)(u:k<=40)(d:QB k a)(e:QB k b):Gives cx.P 153 [af (qtx a),af (qtx b)] C (af (qtx (a*b))):=by
 have v:=aZ d i;have w:=aZ e i;have p:=eX a;have q:=eX b;have j:0<a.den*b.den:=Tv p q;refine UU func153 53 U3 fun w0=>UM 1 [0,1] U<|UN 1 U fun R c=>UZ (pi _ a) U7<|C6 7 [0,1,5,6,7] c U<|UM 1 [0,1,5,6,21] U<|G.cut (fun fr x r s=>(True)/\fr=[(0,[],af (qtx a)),(1,[],af (qtx b))]/\r=[]) ?_ (fun fr _ y s _ t=>?_)
 ·refine G.cd (fun l=>?_) fun l=>?_
  ·have g:=Qw l;rw[aJ g,aJ g];have m:=oK g;refine UN 1 U fun R c=>UZ (pi _ b) U7<|C6 7 [0,1,5,6,8,9,10] c U<|UM 1 [0,1,5,6,8,9,28] U<|G.cd (fun n=>?_) fun n=>?_
   ·have h:=Qw n;rw[aJ h,aJ h];have o:=oK h;have z:=Cj m.1 o.1;have A:=me m.2 o.2;exact UN 2 U fun R c=>UV _ U U6<|UR 2 U<|UV (((a.den*b.den:Nat):Int)) (RF _ _).symm U6<|UY (sX _ f.m_ _ _ j om_ om_) U7 fl_<|C6 1 [4] c U<|UT U2<|⟨by rw[eV],U⟩
   refine Vb 0 l_ (hn_ [0,1] U) ⟨trivial,U,U⟩
  refine Vb 0 l_ (hn_ [0,1] U) ⟨trivial,U,U⟩
 obtain⟨_,rfl,rfl⟩:=t;exact UN 1 U fun R c=>UY (oQ _ a om_) U7 fl_<|C6 5 [1,11,12] c U<|UN 1 U fun R c=>UY (oQ _ b om_) U7 fl_<|C6 5 [11,12,13,14] c U<|UN 2 U fun R c=>UY (fU _ f.m_ _ _ (kF d.1 om_) (kF e.1 om_)) U7 fl_<|UR 2 U<|UY (fU _ f.m_ _ _ (kF (jC d) om_) (kF (jC e) om_)) U7 fl_<|UY (lk _ f.m_ _ _ (kF (cD d.1 e.1) om_) (kF (cD (jC d) (jC e)) om_) (by rw[<- RF];omega)) U7 fl_<|C6 1 [4] c U<|UT U2<|⟨by rw[eV,<- RF,oW j],U⟩
theorem JF (C:Mem)(e:Tabs C)(a b:Rat)(k:Nat)(c:0<k)(f:k<=40)(g:QB k a)(d:QB k b):Gives cx.P 84 [af (qtx a),af (qtx b)] C (af (qtx (a-b))):=by
 have i:=aZ d c;exact UU func84 9 U3 fun w0=>UM 1 [0,1] U<|UN 2 U fun R h=>UY (NV _ b om_) U7 fl_<|UZ (Cc _ e.m_ a (-b) k c f g (eP d)) U7<|C6 1 [4] h U<|UT U2<|⟨by rw[Uh],U⟩
theorem uA (q:Rat):q.num<0 ↔ q<0:=by
 rw[Rat.lt_iff];simp
theorem M6 (a b:Rat):eG (a-b).num=nU a b:=by
 have h1:(a-b).num<0 ↔ a<b:=by rw[uA];grind
 have h2:(a-b).num=0 ↔ a=b:=by rw[TT];grind
 unfold eG nU;by_cases h:a<b
 ·rw[aJ (h1.2 h),aJ h]
 rw[aF (fun e=>h (h1.1 e)),aF h];by_cases h3:a=b
 ·rw[aJ (h2.2 h3),aF (by rw[h3];exact Rat.lt_irrefl)]
 rw[aF (fun e=>h3 (h2.1 e)),aJ (by grind)]
theorem xj (C:Mem)(e:Tabs C)(a b:Rat)(k:Nat)(f:0<k)(g:k<=40)(c:QB k a)(d:QB k b):Gives cx.P 29 [af (qtx a),af (qtx b)] C (i_ (nU a b)):=by
 exact UU func29 9 U3 fun w0=>UM 1 [0,1] U<|UN 2 U fun R h=>UZ (JF _ e.m_ a b k f g c d) U7<|UY (Js _ (a-b) (by have:=aZ (kQ c d) om_;omega)) U7 fl_<|C6 1 [4] h U<|UT U2<|⟨by rw[M6],U⟩
theorem xg {z:Int}(h:(bj z.natAbs).length<=200):bS (txt z)=true:=by
 refine nv.2 ?_;rw[dI];refine⟨uJ.2 ⟨(bB _).1,h⟩,fun a=>?_⟩;have h1:=Qw a;show 0<bR (bj z.natAbs);rw[(bB _).2];omega
theorem Da (z:Int):gd (txt z)=z:=by
 unfold gd;rw[dI];show sgZ (decide (z<0)) (bR (bj z.natAbs))=z;rw[(bB _).2];unfold sgZ;by_cases h:z<0
 ·rw[Rt h,aJ rfl];omega
 rw[RG h,aF dc_];omega
theorem bA (h:QB 22 q):aS (qtx q)=true:=by
 have h1:(bj q.num.natAbs).length<=200:=by have:=cj h.1 dc_;omega
 have h2:(bj q.den).length<=200:=by have:=cj h.2 dc_;omega
 unfold aS;rw[mR];show(bS (txt q.num) && bS ((mO q.den).getD [49]) && lU (gd (txt q.num)) (mO q.den))=true;rw[Aq,Da,xg h1,<- cX,xg (by rw[RS];exact h2),Up,Up];by_cases a:q.den=1
 ·rw[ko a];rfl
 rw[fk a];unfold lU;show(decide (1<gd (bj q.den)) && !(q.num == 0) && (Nat.gcd q.num.natAbs (gd (bj q.den)).natAbs == 1))=true;have b:gd (bj q.den)=((q.den:Nat):Int):=by rw[<- cX,Da]
 have d:=eX q;rw[b,Rt om_,RS,show Nat.gcd q.num.natAbs q.den=1 from q.reduced];have c:q.num≠0:=by
  intro e;have h3:=q.reduced;rw[e]at h3;have h4:Nat.gcd 0 q.den=1:=h3;rw[Nat.gcd_zero_left]at h4;exact a h4
 simp[c]
theorem yE (h:QB 22 q):oG (aS (qtx q))=0:=by rw[bA h];rfl
abbrev Pt:=Rat × Rat
def gD (p:Pt):List Value:=[af (qtx p.1),af (qtx p.2)]
def ptV (p:Pt):Value:=.agg ⟨gD p⟩
def QP (k:Nat)(p:Pt):Prop:=QB k p.1/\QB k p.2
def dK (a b c:Pt):Rat:=(b.1-a.1)*(c.2-a.2)-(b.2-a.2)*(c.1-a.1)
theorem eN (b:Bool):oG b=0/\b=true∨oG b=2/\b=false:=by cases b <;> simp[oG]
def gc (s:Str):List Value:=[af s]
theorem sQ (C:Mem)(h:Tabs C)(v:Value)(l:List Str)(c:Sl C 1 v (l.map gc))(j:∀ s∈l,s.length<=999998):Gives cx.P 132 [v] C (i_ (oG (l.all aS))):=by
 obtain⟨k,c0,rfl,n,w,_⟩:=id c;have x:=mx_
 simp only[au]at c n⊢;refine UU func132 18 U3 fun w0=>UM 1 [0] U<|UM 3 [6,7,8] U<|G.loop (fun fr y o p=>∃ (i:Nat),(i<=l.length/\(l.take i).all aS=true)/\fr=[(6,[],.slice k l.length c0),(7,[],i_ l.length),(8,[],i_ i)]/\o=[]/\p=l.length-i) (hn_ [6,7,8] U) ⟨0,⟨Re _,by simp⟩,U,U,U⟩ (fun fr z A m q r=>?_);obtain⟨i,⟨B,d⟩,rfl,rfl,rfl⟩:=r;refine UM 1 [6,7,8,9] U<|G.cd (fun e=>?_) fun e=>?_
 ·have f:i<l.length:=by simpa using e
  obtain⟨s,hs⟩:∃ s,l[i]?=some s:=⟨l[i],ai f⟩;refine UQ fun R a=>Va c.m_ U10 om_ (by rw[Rb,hs];rfl:(l.map gc)[i]?=some (gc s)) fl_ fun D t=>UO t U8<|C6 1 [4,6,7,8] a U<|UN 1 U fun R a=>UZ (dD _ h.m_ s (j s (aM hs))) U7<|C6 1 [5,6,7,8] a U<|UM 2 [5,6,7,8,15] U<|G.cd (fun b=>?_) fun b=>?_
  ·have g:aS s=false:=by
    rcases eN (aS s) with⟨h1,h2⟩|⟨h1,h2⟩
    ·rw[h1]at b;exact absurd b dc_
    exact h2
   refine UM 2 [2] U<|UT U2<|⟨?_,U⟩;rw[g,show l.all aS=false from TA.2 ⟨s,aM hs,by rw[g];decide⟩]
  have u:aS s=true:=by
   rcases eN (aS s) with⟨h1,h2⟩|⟨h1,h2⟩
   ·exact h2
   rw[h1]at b;exact absurd b dc_
  refine UQ fun R a=>UV _ U U6<|C6 1 [6,7,8] a U<|U0 (m':=l.length-(i+1)) om_ q (hn_ [6,7,8] U) ⟨i+1,⟨by omega,by rw[RE,hs,UC,d];simp[u]⟩,U,U,U⟩
 have f:i=l.length:=by
  have:¬ i<l.length:=by simpa using e
  omega
 refine UM 1 [2] U<|UT U2<|⟨?_,U⟩;rw[f,Rk]at d;rw[d];rfl
theorem Pd {t:Str}(a:s.length<=n)(b:t.length<=n):∀ x∈[s,t],x.length<=n:=by simp[a,b]
theorem Jd {t u:Str}(a:s.length<=n)(b:t.length<=n)(c:u.length<=n):∀ x∈[s,t,u],x.length<=n:=by simp[a,b,c]
theorem iO (C:Mem)(b:Tabs C)(s t:Str)(c:s.length<=999998)(d:t.length<=999998):Gives cx.P 66 [.agg ⟨[af s,af t]⟩] C (i_ (oG (aS s && aS t))):=by
 refine UU func66 9 U3 fun w0=>UQ fun R a=>Vd U6 fun f=>C6 1 [1] a U<|UN 1 U fun R a=>UW ag U9<|UP U6<|UW ag U9<|Vj [gc s,gc t] U12 fun g _ _ e=>UZ (sQ _ b.m_ _ [s,t] e.m_ (Pd c d)) U7<|C6 1 [2] a U<|UT U2<|⟨?_,U⟩;simp
theorem si (C:Mem)(b:Tabs C)(s t u:Str)(c:s.length<=999998)(d:t.length<=999998)(e:u.length<=999998):Gives cx.P 319 [.agg ⟨[af s,af t,af u]⟩] C (i_ (oG (aS s && aS t && aS u))):=by
 refine UU func319 11 U3 fun w0=>UQ fun R a=>Vd U6 fun g=>C6 1 [1] a U<|UN 1 U fun R a=>UW ag U9<|UP U6<|UW ag U9<|UP U6<|UW ag U9<|Vj [gc s,gc t,gc u] U12 fun h _ _ f=>UZ (sQ _ b.m_ _ [s,t,u] f.m_ (Jd c d e)) U7<|C6 1 [2] a U<|UT U2<|⟨?_,U⟩;simp[Bool.and_assoc]
theorem lD (C:Mem)(e:Tabs C)(a b c:Pt)(k:Nat)(g:0<k)(l:k<=1000)(d:QP k a)(h:QP k b)(i:QP k c):Gives cx.P 71 [ptV a,ptV b,ptV c] C (af (qtx (dK a b c))):=by
 have h1:=kQ h.1 d.1;have h2:=kQ i.2 d.2;have h3:=kQ h.2 d.2;have h4:=kQ i.1 d.1;exact UU func71 32 U3 fun w0=>UQ fun R f=>Vd U6 fun m=>Vd U6 fun n=>Vd U6 fun o=>C6 1 [3,4,5] f U<|Vg [0,1,2,3,4,5,6,7,8,9,10,11] [(4,1),(9,1),(10,1)] U kr_ fun R j f=>UP U6<|UW ae U9<|UP U6<|UW ac U9<|Vh (fun _=>(eo _ e.m_ b.1 a.1 k g om_ h.1 d.1)) U9<|UP U6<|UW ag U9<|UP U6<|UW ac U9<|Vh (fun _=>(eo _ e.m_ c.2 a.2 k g om_ i.2 d.2)) U9<|Vh (fun _=>(cP _ e.m_ (b.1-a.1) (c.2-a.2) (k+k+1) om_ om_ h1 h2)) U9<|C6 1 [3,4,5,7] f U<|Vg [0,1,2,3,4,5,6,7,8,9,10,11,12,13] [(5,1),(10,1),(11,1),(12,1)] U kr_ fun R j f=>UR 2 U<|UW ae U9<|UP U6<|UW ac U9<|Vh (fun _=>(eo _ e.m_ b.2 a.2 k g om_ h.2 d.2)) U9<|UP U6<|UW ag U9<|UP U6<|UW ac U9<|Vh (fun _=>(eo _ e.m_ c.1 a.1 k g om_ i.1 d.1)) U9<|Vh (fun _=>(cP _ e.m_ (b.2-a.2) (c.1-a.1) (k+k+1) om_ om_ h3 h4)) U9<|Vh (fun _=>(eo _ e.m_ ((b.1-a.1)*(c.2-a.2)) ((b.2-a.2)*(c.1-a.1)) (k+k+1+(k+k+1)) om_ om_ (rO h1 h2) (rO h3 h4))) U9<|C6 1 [6] f U<|UT U2<|⟨U,U⟩
theorem AY {a b c:Pt}(d:QP k a)(e:QP k b)(f:QP k c):QB (8*k+5) (dK a b c):=by
 have h:=kQ (rO (kQ e.1 d.1) (kQ f.2 d.2)) (rO (kQ e.2 d.2) (kQ f.1 d.1));exact h.le om_
theorem pE (C:Mem)(h:Tabs C)(a b c:Pt)(k:Nat)(i:0<k)(j:k<=1000)(e:QP k a)(f:QP k b)(g:QP k c):Gives cx.P 129 [ptV a,ptV b,ptV c] C (i_ (eG (dK a b c).num)):=by
 exact UU func129 12 U3 fun w0=>UQ fun R d=>Vd U6 fun l=>Vd U6 fun m=>Vd U6 fun n=>C6 1 [3,4,5] d U<|UQ fun R d=>UW ac U9<|UW ae U9<|UW ag U9<|UZ (lD _ h.m_ a b c k i j e f g) U7<|UY (fb _ (dK a b c) (by have:=aZ (AY e f g) om_;omega)) U7 fl_<|C6 1 [6] d U<|UT U2<|⟨U,U⟩
theorem uw (C:Mem)(c:Tabs C)(q:Rat)(b:QB 22 q):Gives cx.P 72 [af (qtx q)] C (.tuple #[af (qtx q),i_ 0]):=by
 refine UU func72 8 U3 fun w0=>UM 2 [0] U<|UN 1 U fun R d=>UY (dD _ c.m_ _ (by have:=aZ b dc_;omega)) U7 fl_<|C6 1 [0,6] d U<|G.cd (fun a=>?_) fun a=>?_
 ·exfalso;rw[yE b]at a;exact absurd a dc_
 refine UM 3 [2,3] U<|U1 (G.dropAll (Vn U3 ?_));exact⟨U,U⟩
abbrev Tri:=Nat × Nat × Nat
def iF (t:Tri):List Value:=[.int .i64 (t.1:Nat),.int .i64 (t.2.1:Nat),.int .i64 (t.2.2:Nat)]
def Ow (a b c:Pt):Value:=.agg ⟨gD a++gD b++gD c⟩
theorem EM (C:Mem)(k l:Value)(d:List Pt)(g:List Tri)(i:Nat)(t:Tri)(a b c:Pt)(e:Sl C 2 k (d.map gD))(h:Sl C 3 l (g.map iF))(m:g[i]?=some t)(n:d[t.1]?=some a)(o:d[t.2.1]?=some b)(p:d[t.2.2]?=some c) :
  Gives cx.P 68 [.agg ⟨[k,l]⟩,i_ i] C (Ow a b c):=by
 obtain⟨x,y,rfl,q,z,_⟩:=id e;obtain⟨A2,c2,rfl,r,A,_⟩:=id h;have B:=mx_
 simp only[au]at e h q r⊢;have D:=(aT.1 m).1;have E:=(aT.1 n).1;have F:=(aT.1 o).1;have G:=(aT.1 p).1;refine UU func68 30 U3 fun w0=>UQ fun R f=>Vd U6 fun H=>Ve U5 fun I=>US [1,2,4] f U<|UN 1 U fun R f=>UW ae U9<|UP U6<|Va h.m_ U10 om_ (by rw[Rb,m];rfl:(g.map iF)[i]?=some (iF t)) fl_ fun J s=>UO s U8<|Ve U5 fun K=>UX (j:=0) U12<|US [2,4,5] f U<|Vg [0,1,2,3,4,5,6,7,8,9,10,11,12,13,14,15,16,17,18,19] [] U kr_ fun R L f=>UP U6<|UW ac U9<|Vi (0) U9 k_ U2<|UW ag U9<|Va e.m_ U10 om_ (by rw[Rb,n];rfl:(d.map gD)[t.1]?=some (gD a)) fl_ fun M u=>UO u U8<|UP U6<|UW ac U9<|Vi (1) U9 k_ U2<|UW ag U9<|Va e.m_ U10 om_ (by rw[Rb,o];rfl:(d.map gD)[t.2.1]?=some (gD b)) fl_ fun N v=>UO v U8<|UP U6<|UW ac U9<|Vi (2) U9 k_ U2<|UW ag U9<|Va e.m_ U10 om_ (by rw[Rb,p];rfl:(d.map gD)[t.2.2]?=some (gD c)) fl_ fun O w=>UO w U8<|Vf (gD a++gD b++gD c) U8<|UX (j:=1) U12<|US [4] f U<|U1 (VF ag U4 ?_);exact⟨U,U⟩
theorem Ht (C:Mem)(d:Tabs C)(a b c p:Pt)(k:Nat)(e:0<k)(f:k<=1000)(j:QP k a)(l:QP k b)(m:QP k c)(g:QP k p) :
  Gives cx.P 67 [Ow a b c,ptV p] C (.bool (decide (0<=dK a b p) && decide (0<=dK b c p) && decide (0<=dK c a p))):=by
 refine UU func67 30 U3 fun w0=>UQ fun R i=>Vd U6 fun n=>Vd U6 fun o=>C6 1 [2,3] i U<|UQ fun R i=>Vi (0) U9 k_ U2<|UW ae U9<|Vi (2) U9 k_ U2<|UW ae U9<|UW ag U9<|UZ (pE _ d.m_ a b p k e f j l g) U7<|UR 2 U<|Vi (2) U9 k_ U2<|UW ae U9<|Vi (4) U9 k_ U2<|UW ae U9<|UW ag U9<|Vv (fun _=>(pE _ d.m_ b c p k e f l m g)) U9<|UP U6<|Vk U8<|UP U6<|Vi (4) U9 k_ U2<|UW ae U9<|Vi (0) U9 k_ U2<|UW ae U9<|UW ag U9<|Vv (fun _=>(pE _ d.m_ c a p k e f m j g)) U9<|UP U6<|Vk U8<|C6 1 [4] i U<|UT U2<|⟨?_,U⟩;have hs:∀ q:Rat,decide (eG q.num ≥ 0)=decide (0<=q):=fun q=>by
  rw[RY,<- Rat.num_nonneg];rcases eA q.num with h|h|h <;> omega
 rw[<- hs,<- hs,<- hs]
open Go Go.Jog Go.RowKit Go.Shelf
attribute [local go_sem] Oper.semAt_some
def M4 (zs:Nat->Int)(k:Nat):Value:=.agg #[.int .i64 (zs k),.int .i64 (zs ((k+1) % 3))]
set_option maxRecDepth 100000 in
theorem Ju (l Bs:Nat)(zs:Nat->Int)(J:Nat->World->Prop)
  (hD:∀ k W,J k W->J k W.drew)
  (hJ:∀ k W,J k W->∀ j,j<3->W.cell? ⟨Bs,j,none⟩=some (i_ (zs j)))
  (hY:∀ k W,J k W->k<3->YieldAt Fence.wide 1 Tryz.prog l #[i_ (k:Nat),M4 zs k] W fun e W'=>e=.returned (.bool true)/\J (k+1) W')
  (W:World) (h0:J 0 W) :
  CallsIn Fence.wide 2 Tryz.prog 263 #[.func (.yield l) #[] #[],p_ Bs] W fun e W'=>(∃ v,e=.returned v)/\J 3 W':=by
 refine callsIn_of_wp func263 U trivial ?_ U;simp only[Tryz.ntmps263,Th,Rs,RQ,Nat.reduceAdd,Nat.reduceSub,Uz,UA,List.push_toArray,List.append_toArray,Ti,S3]
 gi_wp2
 gi_loopw [4] (fun i wr=>∃ k:Nat,k<=3/\i=i_ k/\J k wr) (fun i _=>(3-intOf i).toNat)
 case atStart=>exact⟨0,by omega,rfl,h0⟩
 case round =>
  obtain⟨k,hk,rfl,hJs⟩:=hrel;by_cases hlt:k<3
  ·have hJd:=hD k wr hJs;have hcd:=hJ k _ hJd;obtain⟨fn,tmps,assign,body,hy,hR⟩:=hY k _ hJd hlt;rcases(by omega:k=0∨k=1∨k=2) with rfl|rfl|rfl
   ·have hc0:=hcd 0 om_;have hc1:=hcd 1 om_;have hy2:Sem.run Tryz.prog (Instr.yield l #[i_ 0,Value.agg #[i_ (zs 0),i_ (zs 1)]]) wr.drew=.ok (.round l fn tmps assign body) wr.drew:=hy;clear hy
    gi_wp2
    gi_region_with (refine hR.mono ?_;rintro e W3 ⟨rfl,hJ3⟩)
    all_goals
     gi_wp2
     go_roundw
     case rel=>exact⟨1,by omega,rfl,hJ3⟩
     case measure=>simp[intOf]
   ·have hc0:=hcd 1 om_;have hc1:=hcd 2 om_;have hy2:Sem.run Tryz.prog (Instr.yield l #[i_ 1,Value.agg #[i_ (zs 1),i_ (zs 2)]]) wr.drew=.ok (.round l fn tmps assign body) wr.drew:=hy;clear hy
    gi_wp2
    gi_region_with (refine hR.mono ?_;rintro e W3 ⟨rfl,hJ3⟩)
    all_goals
     gi_wp2
     go_roundw
     case rel=>exact⟨2,by omega,rfl,hJ3⟩
     case measure=>simp[intOf]
   have hc0:=hcd 2 om_;have hc1:=hcd 0 om_;have hy2:Sem.run Tryz.prog (Instr.yield l #[i_ 2,Value.agg #[i_ (zs 2),i_ (zs 0)]]) wr.drew=.ok (.round l fn tmps assign body) wr.drew:=hy;clear hy
   gi_wp2
   gi_region_with (refine hR.mono ?_;rintro e W3 ⟨rfl,hJ3⟩)
   all_goals
    gi_wp2
    go_roundw
    case rel=>exact⟨3,by omega,rfl,hJ3⟩
    case measure=>simp[intOf]
  obtain rfl:k=3:=by omega
  gi_wp2
  go_end0
  exact⟨⟨_,U⟩,hJs⟩
def Fc (t:Tri)(j:Nat):Int:=if j=0 then (t.1:Nat) else if j=1 then (t.2.1:Nat) else (t.2.2:Nat)
def wQ (t:Tri):List (Value × Value):=(List.range 3).map fun k=>(.int .i64 (k:Nat),M4 (Fc t) k)
theorem nq (t:Tri):(wQ t).length=3:=rfl
theorem wP {t:Tri}(h:k<3):(wQ t)[k]?=some (i_ (k:Nat),M4 (Fc t) k):=by
 simp[wQ,h]
theorem DX (C:Mem)(b c:Nat)(t:Tri)(d:C b=some (.cells ⟨iF t⟩ c (0,0))) :
  Qu Tryz.prog 263 #[p_ b] C (wQ t):=by
 intro l J W e f g h0;refine Ju l b (Fc t) J f (fun k W a j i=>?_) (fun k W a h=>g k _ W a (wP h)) W h0;have h1:=e k W a b _ d;rcases(by omega:j=0∨j=1∨j=2) with rfl|rfl|rfl <;> simp[World.cell?,h1,iF,Fc]
theorem Jv (C:Mem)(t:Tri):Pur cx.P 213 [.agg ⟨iF t⟩] C fun r a=>∃ b,r=.func (.func 263) #[] #[p_ b]/\a b=some (.cells ⟨iF t⟩ 65 (0,0)):=by
 exact UU func213 4 U3 fun w0=>UQ fun R c=>Vd U6 fun e=>C6 1 [1] c U<|UM 2 [2] U<|G.freeze 0 U fun f g d=>UT U2<|⟨U,_,U,d⟩
def oD (t:Tri)(k:Nat):Int × Int:=(Fc t k,Fc t ((k+1) % 3))
abbrev OX:=List ((Int × Int) × Value)
def Fe (m:OX)(i:Nat)(t:Tri):Nat->OX
|0=>m
|k+1=>iT (Fe m i t k) (oD t k) (.int .i64 (i:Nat))
def xE (tris:List Tri):Nat->OX
|0=>[]
|n+1=>Fe (xE tris n) n (tris.getD n (0,0,0)) 3
noncomputable def kI2:KeyP cx.P 163 (Int × Int):=QW rfl rfl rfl kr_
theorem xA (C:Mem)(q I:Value)(a:List Tri)(O:a≠[])(x:Sl C 3 I (a.map iF))(Q:∀ i t k,a[i]?=some t->k<3->dZ (Fe (xE a i) i t k) (oD t k)=none) :
  Pur cx.P 145 [.agg ⟨[q,I]⟩] C fun u D=>∃ b,u=.tuple #[.map (some b),.bool true]/\D b=some (aY rn (xE a a.length)):=by
 obtain⟨A2,c2,rfl,S,ad,_⟩:=id x;have af:=mx_
 simp only[au]at x S⊢;refine We kr_ func145 U 36 U U fun w0=>UQ fun R c=>Vd U6 fun r=>Ve U5 fun h=>Ve U5 fun n=>US [1,2,3] c U<|UQ fun R c=>WG kI2 U U U U fl_ fun f=>Ve U5 fun o=>UX (j:=0) U12<|US [1,2,3,4] c U<|UN 1 U fun R c=>UW (.tail _ aa) U9<|C6 2 [2,3,4,13,14,15] c U<|G.perm (L':=[.obj o (.cells ⟨[.map (some f)]⟩ 234 (0,0)),.obj f (aY rn []),.obj n (.cells ⟨[.bool false]⟩ 4 (0,0)),.obj h (.cells ⟨[.map none]⟩ 234 (0,0)),.obj r (.cells ⟨[q,.slice A2 a.length c2]⟩ 39 (0,0))]) (Rh _)<|Xy (fun dd fr C' d T=>∃ (i:Nat)(g:List Nat),(i<=a.length/\g.length=i)/\dd=g.map K8/\fr=[(2,[],p_ h),(3,[],p_ n),(4,[],p_ o),(13,[],.slice A2 a.length c2),(14,[],i_ a.length),(15,[],i_ i)]/\d=[.obj o (.cells ⟨[.map (some f)]⟩ 234 (0,0)),.obj f (aY rn (xE a i)),.obj n (.cells ⟨[.bool false]⟩ 4 (0,0)),.obj h (.cells ⟨[.map none]⟩ 234 (0,0)),.obj r (.cells ⟨[q,.slice A2 a.length c2]⟩ 39 (0,0))]++g.map AF/\T=a.length-i) (hn_ [2,3,4,13,14,15] U) ⟨0,[],⟨Re _,U⟩,U,U,U,U⟩ (fun dd fr ah aj m _ p=>?_);obtain⟨i,g,⟨hi,y⟩,rfl,rfl,rfl,rfl⟩:=p;refine UM 1 [2,3,4,13,14,15,16] U<|G.cd (fun A=>?_) fun A=>?_
 ·have B:i<a.length:=by simpa using A
  obtain⟨t,E⟩:∃ t,a[i]?=some t:=⟨a[i],ai B⟩;refine UN 1 U fun R c=>Va x.m_ U10 om_ (by rw[Rb,E];rfl:(a.map iF)[i]?=some (iF t)) fl_ fun ak V=>UO V U8<|Ve U5 fun F=>Ve U5 fun J=>UX (j:=1) U12<|UX (j:=1) U12<|US [2,3,4,5,6,13,14,15] c U<|UQ fun R c=>UW ag U9<|Vu (Jv _ t) U7 fun al _ _ W=>US [2,3,4,5,13,14,15,21] c U ?_;obtain⟨X,rfl,Y⟩:=W;refine XC U U kr_ (DX _ X _ t Y) (fun j d=>∃ (z:Unit),(j<=3)/\d=[.obj J (.cells ⟨iF t⟩ 65 (0,0)),.obj F (.cells ⟨[i_ i]⟩ 3 (0,0)),.obj o (.cells ⟨[.map (some f)]⟩ 234 (0,0)),.obj f (aY rn (Fe (xE a i) i t j)),.obj n (.cells ⟨[.bool false]⟩ 4 (0,0)),.obj h (.cells ⟨[.map none]⟩ 234 (0,0)),.obj r (.cells ⟨[q,.slice A2 a.length c2]⟩ 39 (0,0))]++g.map AF) ⟨(),Re _,U⟩ U (fun _ _=>rfl) (fun j d fr K=>∃ (s:Nat),fr=[(2,[],p_ h),(3,[],p_ n),(4,[],p_ o),(5,[],p_ F),(8,[],p_ s)]/\K=.obj s (.cells ⟨[i_ (oD t j).1,i_ (oD t j).2]⟩ 163 (0,0))::d) (fun l j u v d Z p w=>?_) (fun l j u v d an K Z p w hA=>?_) (fun L d p=>?_)
  ·obtain⟨z,M,rfl⟩:=p;have H:j<3:=by have:=(aT.1 w).1;rwa [nq]at this
   rw[wP H]at w;cases w
   exact UQ fun R c=>Ve U5 fun s=>UX (j:=0) U12<|US [2,3,4,5,8] c U<|XD (hn_ [2,3,4,5,8] U) ⟨s,U,U⟩
  ·obtain⟨z,M,rfl⟩:=p;obtain⟨s,rfl,rfl⟩:=hA;have H:j<3:=by have:=(aT.1 w).1;rwa [nq]at this
   refine UQ fun R c=>UW aa U9<|UW ag U9<|WH kI2 (.tail _ aa) U U U U U U U U U (congrArg (mj _ true) (Q i t j E H)) U U<|C6 5 [2,3,4,5,8,10] c U<|UM 1 [2,3,4,5,8,30] U<|G.cd (fun N=>?_) fun N=>?_
   ·exact absurd N dc_
   refine UQ fun R c=>UW aa U9<|UW ag U9<|UW ac U9<|Wz kI2 (j:=4) U U U U U U U U U U<|VU [] trivial (c _ _ _ U ?_);exact VC 1 U<|Wv (R:=fun d=>∃ (z:Unit),((j+1)<=3)/\d=[.obj J (.cells ⟨iF t⟩ 65 (0,0)),.obj F (.cells ⟨[i_ i]⟩ 3 (0,0)),.obj o (.cells ⟨[.map (some f)]⟩ 234 (0,0)),.obj f (aY rn (Fe (xE a i) i t (j+1))),.obj n (.cells ⟨[.bool false]⟩ 4 (0,0)),.obj h (.cells ⟨[.map none]⟩ 234 (0,0)),.obj r (.cells ⟨[q,.slice A2 a.length c2]⟩ 39 (0,0))]++g.map AF) (List.perm_middle (l₁:=[_,_,_])).symm ⟨(),om_,U⟩
  obtain⟨z,M,rfl⟩:=p;refine UQ fun R c=>UV _ U U6<|C6 1 [2,3,4,13,14,15] c U<|VC 1 U<|VC 1 U<|G.perm (L':=[.obj o (.cells ⟨[.map (some f)]⟩ 234 (0,0)),.obj f (aY rn (xE a (i+1))),.obj n (.cells ⟨[.bool false]⟩ 4 (0,0)),.obj h (.cells ⟨[.map none]⟩ 234 (0,0)),.obj r (.cells ⟨[q,.slice A2 a.length c2]⟩ 39 (0,0))]++(L::g).map AF) (by
   rw[show xE a (i+1)=Fe (xE a i) i t (wQ t).length by rw[nq,xE,am,E];rfl];exact(List.perm_middle (l₁:=[_,_,_,_,_])).symm) ?_
  refine Xx (m':=a.length-(i+1)) om_ mup (hn_ [2,3,4,13,14,15] U) ⟨i+1,L::g,⟨by omega,by simp[y]⟩,U,U,U,U⟩
 have B:i=a.length:=by
  have:¬ i<a.length:=by simpa using A
  omega
 refine UQ fun R c=>UW ag U9<|UX (j:=3) U12<|UX (j:=3) U12<|US [2,3] c U<|G.freeze 3 U fun Cf ao ab=>G.perm (L':=g.map AF++[_,_,_,_]) (Se (l₁:=[_,_,_,_]))<|U1 (Xz (PB ae ag U U U U U U U) ?_ ?_)
 ·exact⟨U,f,U,by rw[<- B];exact ab⟩
 intro e;rw[e]at y;have:=RX.2 O;simp at y;omega
def LP (kd a b:Int)(h:Bool):Value:=.agg ⟨[.int .u8 kd,.int .i8 a,.int .i8 b,.bool h]⟩
def dX (h:Bool):Int:=if h then 2 else 1
def dG (a b:Int)(h:Bool)(x y by':Int):Pt:=(lB (x+a.tmod 8*by') (dX h*by'),lB (y+b.tmod 8*by') (dX h*by'))
theorem zh (a:Int):-8<a.tmod 8/\a.tmod 8<8:=by
 have h:(a.tmod 8).natAbs=a.natAbs % 8:=TS a 8;omega
theorem Ct (C:Mem)(g:Tabs C)(i a b:Int)(h:Bool)(x y n:Int)(u:0<n)(v:n<=4)(w:-128<=x/\x<=127)(A:-128<=y/\y<=127) :
  Gives cx.P 116 [LP i a b h,.agg ⟨[.int .i8 x,.int .i8 y]⟩,i_ n] C (ptV (dG a b h x y n)):=by
 have k:=zh a;have l:=zh b;have m:∀ z:Int, -8<z->z<8->-32<z*n/\z*n<32:=fun z h1 h2=>by
  rcases(by omega:n=1∨n=2∨n=3∨n=4) with e|e|e|e <;> subst e <;> omega
 have B:=m _ k.1 k.2;have D:=m _ l.1 l.2;have hh:dX h=1∨dX h=2:=by cases h <;> simp[dX]
 have E:0<dX h*n/\dX h*n<=8:=by rcases hh with e|e <;> rw[e] <;> omega
 refine UU func116 53 U3 fun w0=>UQ fun R d=>Vd U6 fun o=>Vd U6 fun p=>Ve U5 fun q=>US [2,3,4,6] d U<|UM 1 [2,3,4,6,7] U<|UN 1 U fun R d=>UW ac U9<|US [2,3,4,6,7,13] d U<|G.cut (fun fr F r s=>(True)/\fr=[(2,[],i_ n),(3,[],p_ o),(4,[],p_ p),(6,[],p_ q),(7,[],i_ (dX h))]/\r=[.obj q (.cells ⟨[af [],af []]⟩ 34 (0,0)),.obj p (.cells ⟨[.int .i8 x,.int .i8 y]⟩ 23 (0,0)),.obj o (.cells ⟨[.int .u8 i,.int .i8 a,.int .i8 b,.bool h]⟩ 25 (0,0))]) ?_ (fun fr _ H s _ t=>?_)
 ·refine G.cd (fun f=>?_) fun f=>?_
  ·have h1:h=true:=f;subst h1;refine UM 1 [2,3,4,6,7] U<|Vb 0 l_ (hn_ [2,3,4,6,7] U) ⟨trivial,U,U⟩
  have h1:h=false:=by simpa using f
  subst h1;refine Vb 0 l_ (hn_ [2,3,4,6,7] U) ⟨trivial,U,U⟩
 obtain⟨_,rfl,rfl⟩:=t;refine UQ fun R d=>Vi (0) U9 k_ U2<|UW ae U9<|Vz (c:=x) U8 (wrap_i64 om_ om_) fl_<|UP U6<|Vi (1) U9 k_ U2<|UW ac U9<|VR (a.tmod 8) U6 dc_ U3<|Vz (c:=a.tmod 8) U8 (wrap_i64 om_ om_) fl_<|UP U6<|UV _ U U6<|UV _ U U6<|UR 2 U<|UV _ U U6<|UY (Ge _ g.m_ (x+a.tmod 8*n) (dX h*n) om_ om_ om_) U7 fl_<|C6 5 [2,3,4,6,7,8] d U<|UQ fun R d=>Vi (1) U9 k_ U2<|UW ae U9<|Vz (c:=y) U8 (wrap_i64 om_ om_) fl_<|UP U6<|Vi (2) U9 k_ U2<|UW ac U9<|VR (b.tmod 8) U6 dc_ U3<|Vz (c:=b.tmod 8) U8 (wrap_i64 om_ om_) fl_<|UP U6<|UV _ U U6<|UV _ U U6<|UR 2 U<|UV _ U U6<|UY (Ge _ g.m_ (y+b.tmod 8*n) (dX h*n) om_ om_ om_) U7 fl_<|C6 5 [6,8,10] d U<|UN 2 U fun R d=>Vf (gD (dG a b h x y n)) U8<|UX (j:=0) U12<|US [6] d U<|U1 (VF ag U4 ?_);exact⟨U,U⟩
def gl (s p:Nat):Value:=.agg ⟨[.int .i64 (s:Nat),.int .i64 (p:Nat)]⟩
theorem ji (C:Mem)(s p:Nat)(h:s*p<=1000000000):Gives cx.P 149 [gl s p] C (i_ ((s*p:Nat):Int)):=by
 exact UU func149 8 U3 fun w0=>UQ fun R a=>Vd U6 fun b=>C6 1 [1] a U<|UN 1 U fun R a=>UW ag U9<|UP U6<|UW ag U9<|UV _ U U6<|C6 1 [2] a U<|UT U2<|⟨U,U⟩
theorem Pp (C:Mem)(s p:Nat)(i k:Int)(h:-1000000000000<=i*p/\i*p<=1000000000000)(b:-1000000000<=k/\k<=1000000000):Gives cx.P 240 [gl s p,i_ i,i_ k] C (i_ (i*p+k)):=by
 exact UU func240 13 U3 fun w0=>UQ fun R a=>Vd U6 fun c=>C6 1 [1,2,3] a U<|UN 2 U fun R a=>UW ag U9<|UV _ U U6<|UP U6<|UV _ U U6<|C6 1 [6] a U<|UT U2<|⟨U,U⟩
theorem CB {m:OX}{s:fE}:(dZ m (s.2,s.1)).isSome=!jE (m.map (·.1)) s:=by
 unfold jE oC;rw[Bool.not_not];cases h:dZ m (s.2,s.1) with
|none=>rw[cC]at h;simp[h]
|some v =>
  have:=Tl (f:=(·.1)) (gv h);simp only[Option.isSome_some];exact(Rt this).symm
theorem J7 (C:Mem)(v1 v2:Value)(b:Nat)(m:OX)(n:C b=some (aY rn m))(hn:(m.map (·.1)).Nodup)(O:∀ s∈m.map (·.1),0<=s.1)(aC:m.length<=1000000) :
  Pur cx.P 196 [.agg ⟨[v1,v2]⟩,.map (some b)] C fun u D=>∃ v,u=.tuple #[v,.bool (decide (xG (m.map (·.1))≠[]))]/\Sl D 1 v ((xG (m.map (·.1))).map nP):=by
 have aD:=mx_
 have Q:=fun s:fE=>CB (m:=m) (s:=s);obtain⟨ks,J⟩:∃ ks,m.map (·.1)=ks:=⟨_,rfl⟩;rw[J]at hn O⊢;simp only[J]at Q;have aj:ks.length=m.length:=by rw[<- J];simp
 refine UU func196 93 U3 fun w0=>UQ fun R c=>Vd U6 fun b2=>C6 2 [1] c U<|UQ fun R c=>D.makeMap keyZ U U U U fl_ fun l=>C6 1 [1,6] c U<|UM 1 [1,6,7] U<|UN 1 U fun R c=>WB kI2.enc (Mem.get n mup) U U U U U U U fl_ fun E=>US [1,6,7,19] c U<|VC 2 U<|G.loop (fun fr C' o S=>∃ (seen:List Nat)(f:Int),(seen.Nodup/\(∀ j∈seen,j<ks.length)/\((fB ks seen).map (·.1)).Nodup/\mq (fB ks seen) f)/\fr=[(1,[],.map (some b)),(6,[],.map (some l)),(7,[],i_ f),(19,[],p_ E)]/\o=[.obj E (bl b m.length seen),.obj l (aY keyZ.enc (uL (fB ks seen)))]/\S=ks.length-seen.length) (hn_ [1,6,7,19] U) ⟨[], -1,⟨List.nodup_nil,by simp,by simp[fB],.inl ⟨U,U⟩⟩,U,U,U⟩ (fun fr aE aG m _ T=>?_);obtain⟨seen,f,⟨al,am,K,L⟩,rfl,rfl,rfl⟩:=T;refine UQ fun R c=>WE kI2.enc (q:=0) (Mem.get n mup) U U U U U U fl_ fun an aH M ao=>C6 1 [1,6,7,19,21] c U<|G.cd (fun F=>?_) fun F=>?_
 ·obtain⟨aI,j,hj,aw,rfl⟩:an=true/\∃ j,j<m.length/\j ∉ seen/\M=seen++[j]:=by
   rcases ao with⟨h1,_⟩|h1
   ·rw[h1]at F;cases F
   exact h1
  rw[<- aj]at hj;obtain⟨⟨s,bv⟩,hs⟩:∃ p,m[j]?=some p:=⟨m[j]'om_,ai om_⟩;have ap:ks[j]?=some s:=by rw[<- J,Rb,hs];rfl
  have H:(seen++[j]).Nodup:=by
   rw[SJ];exact⟨al,by simp,fun a V b n e=>by rw[Rw.1 n]at e;subst e;exact aw V⟩
  have z:∀ i∈seen++[j],i<ks.length:=fun i W=>by
   rcases Rr.1 W with h|h
   ·exact am i h
   rw[Rw.1 h];exact hj
  have aK:(seen++[j]).length<=ks.length:=by
   have:=List.Nodup.length_le_of_subset H (l₂:=List.range ks.length) (fun i W=>Rv.2 (z i W));simpa using this
  have aL:(seen++[j]).length=seen.length+1:=by simp
  have d:=D1 ap (seen:=seen);have ay:0<=s.1:=O s (aM ap);refine UQ fun R c=>WC kI2.enc (Mem.get n mup) hs ag U U U U U U U<|UP U6<|Ve U5 fun b8=>UX (j:=0) U12<|US [1,6,7,8,19] c U<|UN 1 U fun R c=>Vi (1) U9 k_ U2<|UW ag U9<|Vi (0) U9 k_ U2<|UW ag U9<|Vf [i_ s.2,i_ s.1] U8<|WI kI2 (fun _=>(Mem.get n mup)) U U U U U U U U U (mi _ (dZ m (s.2,s.1))) U U<|C6 5 [1,6,7,8,10,19] c U<|UM 1 [1,6,7,8,19,34] U<|G.cd (fun X=>?_) fun X=>?_
  ·have Y:jE ks s=false:=by
    have h:(dZ m (s.2,s.1)).isSome=true:=X;rw[Q]at h;simpa using h
   rw[Y]at d;simp only[R7,SF,RC]at d;refine VC 0 U<|Vc (L':=[.obj E (bl b m.length (seen++[j])),.obj l (aY keyZ.enc (uL (fB ks (seen++[j]))))]) (by rw[d];rfl)<|U0 (m':=ks.length-(seen++[j]).length) om_ mup (hn_ [1,6,7,19] U) ⟨seen++[j],f,⟨H,z,by rw[d];exact K,by rw[d];exact L⟩,U,U,U⟩
  have Y:jE ks s=true:=by
   have h:(dZ m (s.2,s.1)).isSome=false:=X;rw[Q]at h;simpa using h
  rw[Y]at d;simp only[Tf]at d;refine UN 1 U fun R c=>Vi (0) U9 k_ U2<|UW ag U9<|V9 keyZ ac U U U U U U U U kr_ U (mi _ (dZ (uL (fB ks seen)) s.1)) U U<|C6 5 [1,6,7,8,12,19] c U<|UM 1 [1,6,7,8,19,42] U<|G.cd (fun Z=>?_) fun Z=>?_
  ·have x:(dZ (uL (fB ks seen)) s.1).isSome=true:=Z;rw[iq]at x;have aa:Ff ks=none:=by
    cases k:dZ (fB ks seen) s.1 with
   |none=>rw[k]at x;cases x
   |some q=>exact Eg (B:=fB ks seen) (s:=s) (t:=(s.1,q)) (by rw[<- d];exact zr hn H z) (by rw[<- d];exact F5 z) (gv k) rfl
   have I:xG ks=[]:=by unfold xG;rw[aa];rfl
   refine UM 2 [4,5] U<|U1 (G.dropAll (Vn U3 ?_));exact⟨U,.slice none 0 0,by rw[I];rfl,by rw[I];exact Sl.nil _ _⟩
  have x:(dZ (uL (fB ks seen)) s.1).isSome=false:=Z;have ab:dZ (fB ks seen) s.1=none:=by
   rw[iq]at x;cases k:dZ (fB ks seen) s.1 with
  |none=>rfl
  |some q=>rw[k]at x;cases x
  have aq:((fB ks (seen++[j])).map (·.1)).Nodup:=by
   rw[d,RN,SJ];refine⟨K,by simp,fun a V b n e=>?_⟩;rw[List.map_singleton,Rw]at n;subst n;subst e;exact(cC.1 ab) V
  have N:=qS L s ay;refine UN 1 U fun R c=>Vi (0) U9 k_ U2<|UW ag U9<|Vi (1) U9 k_ U2<|UW ag U9<|D.mapUpdate keyZ (j:=2) U U U U U U U U U U kr_<|US [1,6,7,8,19] c U<|UN 3 U fun R c=>Vi (0) U9 k_ U2<|UW ae U9<|UR 2 U<|Vq U8<|US [1,6,7,8,19,55] c U<|G.cd (fun ad=>?_) fun ad=>?_
  ·have af:f<0∨s.1<f:=by simpa using ad
   rw[aJ af]at N;refine UQ fun R c=>Vi (0) U9 k_ U2<|UW ae U9<|C6 1 [1,6,7,19] c U<|VC 1 U<|G.perm (L':=[.obj E (bl b m.length (seen++[j])),.obj l (aY keyZ.enc (uL (fB ks (seen++[j]))))]) (by
    rw[d,<- CD ab];exact List.Perm.swap _ _ _) ?_
   refine U0 (m':=ks.length-(seen++[j]).length) om_ mup (hn_ [1,6,7,19] U) ⟨seen++[j],s.1,⟨H,z,aq,by rw[d];exact N⟩,U,U,U⟩
  have af:¬ (f<0∨s.1<f):=by simpa using ad
  rw[aF af]at N;refine VC 1 U<|G.perm (L':=[.obj E (bl b m.length (seen++[j])),.obj l (aY keyZ.enc (uL (fB ks (seen++[j]))))]) (by
   rw[d,<- CD ab];exact List.Perm.swap _ _ _) ?_
  refine U0 (m':=ks.length-(seen++[j]).length) om_ mup (hn_ [1,6,7,19] U) ⟨seen++[j],f,⟨H,z,aq,by rw[d];exact N⟩,U,U,U⟩
 obtain⟨aN,rfl,ar⟩:an=false/\M=seen/\∀ j,j<m.length->j∈seen:=by
  rcases ao with h1|⟨h1,_⟩
  ·exact h1
  rw[h1]at F;cases F
 rw[<- aj]at ar;have hp:(fB ks M).Perm (ks.filter (jE ks)):=(pT al am ar).filter _;obtain⟨B,d⟩:∃ B,fB ks M=B:=⟨_,rfl⟩;rw[d]at hp K L;have hO:=J8 hp K O L;have aO:B.length<=ks.length:=by rw[hp.length_eq];exact SS _ _
 refine UM 1 [6,7,13] U<|UM 2 [6,7,13,14] U<|VC 0 U<|G.nilArr 3 1<|Vc (L':=[.arr (.slice none 0 0) 3 1 0 [],.obj l (aY keyZ.enc (uL B))]) (by rw[d];rfl)<|G.loop (fun fr C' o S=>∃ (out:List Int)(w:Value)(p:Int),(out.length<=B.length/\iW B f (B.length-out.length) p out=Ff ks)/\fr=[(6,[],.map (some l)),(7,[],i_ f),(13,[],w),(14,[],i_ p)]/\o=[.arr w 3 1 out.length (out.map (Value.int .i64)),.obj l (aY keyZ.enc (uL B))]/\S=B.length-out.length) (hn_ [6,7,13,14] U) ⟨[],_,f,⟨Re _,hO.symm⟩,U,U,U⟩ (fun fr aP aQ m _ T=>?_);obtain⟨out,w,p,⟨aR,A⟩,rfl,rfl,rfl⟩:=T;refine WR ag (fun Aw cw hw aS aT aU=>?_);subst hw;refine Vl [(3,1)] U fun R c=>UR 3 U<|WL keyZ.enc ae U U U U U U U U U<|C6 1 [6,7,13,14,63] c U<|G.cd (fun ah=>?_) fun ah=>?_
 ·have aV:out.length<B.length:=by
   simp only[Rj,CE]at ah;omega
  obtain⟨r,hr⟩:∃ r,B.length-out.length=r+1:=⟨B.length-out.length-1,by omega⟩;rw[hr]at A;refine UN 2 U fun R c=>V9 keyZ ae U U U U U U U U kr_ U (mi _ (dZ (uL B) p)) U U<|C6 5 [6,7,13,14,16] c U<|UN 10 U fun R c=>Vk U8<|Vq U8<|US [6,7,13,14,84] c U<|G.cd (fun g=>?_) fun g=>?_
  ·have aa:Ff ks=none:=by
    rw[<- A];refine DG ?_;rw[iq]at g;cases k:dZ B p with
   |none=>exact .inl rfl
   |some q =>
     rw[k]at g;simp only[SN,Option.isSome_some,Bool.not_true,Bool.false_or,Rq,SR,Rj]at g;exact .inr ⟨g.1,fun e=>by rw[e]at g;simp at g⟩
   have I:xG ks=[]:=by unfold xG;rw[aa];rfl
   refine UM 2 [4,5] U<|U1 (G.dropAll (Vn U3 ?_));exact⟨U,.slice none 0 0,by rw[I];rfl,by rw[I];exact Sl.nil _ _⟩
  obtain⟨q,k⟩:∃ q,dZ B p=some q:=by
   rw[iq]at g;cases k:dZ B p with
  |some q=>exact⟨q,rfl⟩
  |none=>rw[k]at g;simp at g
  have az:¬ (p=f/\out≠[]):=by
   rintro ⟨e1,e2⟩;rw[iq,k]at g;have:=RX.2 e2;simp[e1]at g;exact e2 g
  rw[DF k az]at A;have aW:(out++[p]).length=out.length+1:=by simp
  refine UN 2 U fun R c=>Vj [nP p] U12 fun aX _ _ aA=>D.append (j:=0) U11 aA U ax q_ fl_ fun au=>C6 1 [6,7,13,14] c U<|UN 2 U fun R c=>V9 keyZ ae U U U U U U U U kr_ U (by rw[iq,k];rfl:mj _ false (dZ (uL B) p)=i_ q) U U<|C6 1 [6,7,13,14] c U<|Vc (L':=[.arr au 3 1 (out++[p]).length ((out++[p]).map (Value.int .i64)),.obj l (aY keyZ.enc (uL B))]) (by simp[nP])<|U0 (m':=B.length-(out++[p]).length) om_ mup (hn_ [6,7,13,14] U) ⟨out++[p],au,q,⟨by omega,by rw[show B.length-(out++[p]).length=r by omega];exact A⟩,U,U,U⟩
 have aZ:B.length<=out.length:=by
  simp only[RJ,CE]at ah;omega
 have av:xG ks=out:=by
  rw[show B.length-out.length=0 by omega]at A;unfold xG;rw[<- A];rfl
 refine UM 6 [4,5] U<|Vc (L':=[.arr (.slice Aw out.length cw) 3 1 out.length (out.map nP).flatten,.obj l (aY keyZ.enc (uL B))]) (by rw[show(out.map nP).flatten=out.map (Value.int .i64) from eB _ _])<|G.freezeArr 0 (out.map nP) U2 e_ ak fun Cg hg aB=>U1 (G.dropAll (Vn U3 ?_));refine⟨U,_, ?_,by rw[av];exact aB⟩;rw[av];have:decide ((out.length:Int) > 0)=decide (out≠[]):=by
  rw[RY,<- RX];omega
 rw[<- this]
def se (pts:List Pt)(cyc:List Nat)(i:Nat):Pt:=pts.getD (cyc.getD (i % cyc.length) 0) (0,0)
def upB (p q:Pt):Bool:=decide (p.2<q.2) || (decide (p.2=q.2) && decide (p.1<q.1))
def KL (pts:List Pt)(cyc:List Nat)(i:Nat):Bool:=!upB (se pts cyc i) (se pts cyc (i+1)) && upB (se pts cyc (i+1)) (se pts cyc (i+1+1))
def xV (pts:List Pt)(cyc:List Nat)(i:Nat):Bool:=decide (0<=dK (se pts cyc i) (se pts cyc (i+1)) (se pts cyc (i+2)))
def Kb (pts:List Pt)(cyc:List Nat):Bool:=(List.range cyc.length).all (xV pts cyc) && decide (((List.range cyc.length).filter (KL pts cyc)).length=1)
structure OnceC (C:Mem)(b2 b3 b5:Nat)(pts:List Pt)(cyc:List Nat):Prop where
 ex:∃ v1 v2,C b2=some (.cells ⟨[v1,v2]⟩ 39 (0,0))/\Sl C 2 v1 (pts.map gD)
 ey:∃ cv,C b3=some (.cells ⟨[cv]⟩ 57 (0,0))/\Sl C 1 cv (cyc.map aW)
 ez:C b5=some (.cells ⟨[.int .i64 (cyc.length:Nat)]⟩ 3 (0,0))
 ne:0<cyc.length
 ins:∀ z∈cyc,z<pts.length
 q:∀ p∈pts,QP 1 p
theorem OnceC.mono {C D:Mem}{b c d:Nat}{e:List Pt}{f:List Nat}(h:OnceC C b c d e f)(a:C.le D):OnceC D b c d e f:=by
 obtain⟨g,i,h1,h2⟩:=h.ex;obtain⟨j,h3,h4⟩:=h.ey;exact⟨⟨g,i,a _ _ h1,h2.mono a⟩,⟨j,a _ _ h3,h4.mono a⟩,a _ _ h.ez,h.ne,h.ins,h.q⟩
theorem OnceC.m_ {D:Mem}{a b c:Nat}{d:List Pt}(h:OnceC C a b c d cyc)(e:C.le D:=by exact mup):OnceC D a b c d cyc:=OnceC.mono h e
theorem Mz {a:List Pt}(h:0<cyc.length)(c:∀ z∈cyc,z<a.length)(i:Nat):∃ z,cyc[i % cyc.length]?=some z/\a[z]?=some (se a cyc i):=by
 have b:=RU i h;refine⟨cyc[i % cyc.length],ai b, ?_⟩;have d:=c _ (R6 b);simp[se,ai b,ai d]
theorem My {a:List Pt}(h:0<cyc.length)(b:∀ z∈cyc,z<a.length)(c:∀ p∈a,QP 1 p)(i:Nat):QP 1 (se a cyc i):=by
 obtain⟨z,_,h2⟩:=Mz h b i;exact c _ (aM h2)
theorem qm (C:Mem)(e f c:Nat)(b:List Pt)(a:List Nat)(h:OnceC C e f c b a)(i:Nat) :
  Gives cx.P 258 [i_ i,p_ e,p_ f,p_ c] C (ptV (se b a i)):=by
 obtain⟨q,r,g,h1⟩:=h.ex;obtain⟨s,k,h3⟩:=h.ey;have l:=h.ez;have t:=h.ne;obtain⟨z,m,n⟩:=Mz h.ne h.ins i;obtain⟨u,v,rfl,w,x,_⟩:=id h1;obtain⟨y,A,rfl,B,D,_⟩:=id h3;simp only[au]at h1 h3 g k;refine UU func258 16 U3 fun w0=>UQ fun R d=>Ve U5 fun c=>US [0,1,2,3,5] d U<|Vg [0,1,2,3,4,5,6,7,8,9,10] [] U kr_ fun R E d=>UP U6<|UO (PtrTo.block (Mem.get g mup) _) U8<|UO (PtrTo.block (Mem.get k mup) _) U8<|UP U6<|UO (PtrTo.block (Mem.get l mup) _) U8<|VN (i) (a.length) U6 om_ U2<|Va h3.m_ U10 om_ (by rw[Rb,show((i % a.length:Nat):Int).toNat=i % a.length from U,m];rfl:(a.map aW)[((i % a.length:Nat):Int).toNat]?=some (aW z)) fl_ fun F o=>UO o U8<|Va h1.m_ U10 om_ (by rw[Rb,show((z:Nat):Int).toNat=z from U,n];rfl:(b.map gD)[((z:Nat):Int).toNat]?=some (gD (se b a i))) fl_ fun G p=>UO p U8<|UX (j:=0) U12<|US [5] d U<|U1 (VF ag U4 ?_);exact⟨U,U⟩
def fn1V (b2 b3 b5:Nat):Value:=.func (.func 258) #[] #[.pointer (some ⟨b2,0,none⟩),.pointer (some ⟨b3,0,none⟩),.pointer (some ⟨b5,0,none⟩)]
theorem AI (a b:Rat):decide (nU a b > 0)=decide (b<a):=by
 unfold nU;by_cases h1:a<b
 ·have:¬ b<a:=by grind
  simp[h1,this]
 by_cases h2:b<a <;> simp[h1,h2]
theorem OA (a b:Rat):(nU a b == 0)=decide (b=a):=by
 unfold nU;by_cases h1:a<b
 ·have:¬ b=a:=by grind
  simp[h1,this]
 by_cases h2:b<a
 ·have:¬ b=a:=by grind
  simp[h1,h2,this]
 have:b=a:=by grind
 subst this;simp[h1]
theorem LK (C:Mem)(k:Tabs C)(c d e l:Nat)(a:List Pt)(b:List Nat)(h:OnceC C c d e a b)(f:C l=some (.cells ⟨[fn1V c d e]⟩ 352 (0,0)))(i:Nat)(n:i<=1000000) :
  Gives cx.P 259 [i_ i,p_ l] C (.bool (upB (se a b i) (se a b (i+1)))):=by
 have g:=fun i=>My h.ne h.ins h.q i;unfold fn1V at f;refine UU func259 34 U3 fun w0=>UM 1 [0,1] U<|Vg [0,1,2,3,4,5,6,7,8,9,10] [(3,1),(7,1),(9,1)] U kr_ fun R m j=>UO (PtrTo.block (Mem.get f mup) _) U8<|UP U6<|UV _ U U6<|Vv (fun _=>(qm _ c d e a b h.m_ (i+1))) U9<|V3 U12<|UO (PtrTo.block (Mem.get f mup) _) U8<|UP U6<|Vv (fun _=>(qm _ c d e a b h.m_ i)) U9<|V3 U12<|Vh (fun _=>(fN _ k.m_ (se a b (i+1)).2 (se a b i).2 1 dc_ dc_ (g (i+1)).2 (g i).2)) U9<|C6 1 [0,1,4] j U<|Vg [0,1,2,3,4,5,6,7,8,9,10,11,12,13,14,15,16,17,18,19] [] U kr_ fun R m j=>UR 6 U<|Vm U6 (fun _=>PtrTo.block (Mem.get f mup) _) U3<|UP U6<|UV _ U U6<|Vv (fun _=>(qm _ c d e a b h.m_ (i+1))) U9<|V3 U12<|Vm U6 (fun _=>PtrTo.block (Mem.get f mup) _) U3<|UP U6<|Vv (fun _=>(qm _ c d e a b h.m_ i)) U9<|V3 U12<|Vh (fun _=>(fN _ k.m_ (se a b (i+1)).1 (se a b i).1 1 dc_ dc_ (g (i+1)).1 (g i).1)) U9<|UP U6<|Vk U8<|Vq U8<|C6 1 [3] j U<|UT U2<|⟨?_,U⟩;rw[AI,OA,AI];rfl
theorem FZ (q:Rat):decide (eG q.num<0)=!decide (0<=q):=by
 rw[<- decide_not,RY,<- Rat.num_nonneg];rcases eA q.num with h|h|h <;> omega
theorem NM (C:Mem)(r:Tabs C)(s B D:Value)(b:List Pt)(a:List Nat)(I:Sl C 2 s (b.map gD))(t:Sl C 1 D (a.map aW))(J:0<a.length)(K:∀ z∈a,z<b.length)(L:∀ p∈b,QP 1 p)(X:a.length<=100000) :
  Gives cx.P 197 [.agg ⟨[s,B]⟩,D] C (.bool (Kb b a)):=by
 obtain⟨Y,Z,rfl,aa,ab,_⟩:=id t;simp only[au]at t⊢;refine UU func197 46 U3 fun w0=>UQ fun R c=>Vd U6 fun e=>Vd U6 fun f=>C6 1 [2,3] c U<|UQ fun R c=>UW ag U9<|UP U6<|Ve U5 fun g=>UX (j:=0) U12<|US [2,3,5] c U<|UN 1 U fun R c=>Ve U5 fun o=>UX (j:=0) U12<|US [5,6] c U<|G.freeze 0 U fun _ _ h=>G.freeze 0 U fun _ _ E=>G.freeze 0 U fun _ _ M=>G.freeze 0 U (fun N _ O=>?_);have d:OnceC N e f g b a:=⟨⟨s,B,O,I.mono mup⟩,⟨_,Mem.get M mup,t.mono mup⟩,Mem.get E mup,J,K,L⟩;have u:=fun i=>My d.ne d.ins d.q i;refine UM 2 [5,6,7] U<|UM 1 [5,6,7,8] U<|UQ fun R c=>UO (PtrTo.block (Mem.get E mup) _) U8<|C6 1 [6,7,8,14,15] c U<|G.loop (fun fr C' Q S=>∃ (i k:Nat),(i<=a.length/\(List.range i).all (xV b a)=true/\((List.range i).filter (KL b a)).length=k)/\fr=[(6,[],p_ o),(7,[],.func (.func 259) #[] #[p_ o]),(8,[],i_ k),(14,[],i_ a.length),(15,[],i_ i)]/\Q=[]/\S=a.length-i) (hn_ [6,7,8,14,15] U) ⟨0,0,⟨Re _,U,U⟩,U,U,U⟩ (fun fr ac ad m F T=>?_);obtain⟨i,k,⟨hi,v,l⟩,rfl,rfl,rfl⟩:=T;refine UM 1 [6,7,8,14,15,16] U<|G.cd (fun w=>?_) fun w=>?_
 ·have x:i<a.length:=by simpa using w
  have ae:k<=i:=by
   rw[<- l];exact Rn (SS _ _) ak
  refine UM 2 [6,7,8,9,14,15] U<|Vg [0,1,2,3,4,5,6,7,8,9,10,11,12] [(2,1),(6,1),(10,1),(11,1)] U kr_ fun R hB c=>UO (PtrTo.block (Mem.get h mup) _) U8<|UP U6<|Vv (fun _=>(qm _ e f g b a d.m_ i)) U9<|UO (PtrTo.block (Mem.get h mup) _) U8<|UP U6<|UV _ U U6<|Vv (fun _=>(qm _ e f g b a d.m_ (i+1))) U9<|UO (PtrTo.block (Mem.get h mup) _) U8<|UP U6<|UV _ U U6<|Vv (fun _=>(qm _ e f g b a d.m_ (i+2))) U9<|Vh (fun _=>(pE _ r.m_ (se b a i) (se b a (i+1)) (se b a (i+2)) 1 dc_ dc_ (u i) (u (i+1)) (u (i+2)))) U9<|C6 1 [6,7,8,9,14,15,30] c U<|G.cd (fun n=>?_) fun n=>?_
  ·have V:xV b a i=false:=by
    rw[FZ]at n;simpa [xV] using n
   refine UM 1 [4] U<|UT U2<|⟨?_,U⟩;have:(List.range a.length).all (xV b a)=false:=TA.2 ⟨i,Rv.2 x,by rw[V];decide⟩;unfold Kb;rw[this];rfl
  have W:xV b a i=true:=by
   rw[FZ]at n;simpa [xV] using n
  have H:(List.range (i+1)).all (xV b a)=true:=by rw[Sn,UC,v];simp[W]
  refine UN 2 U fun R c=>UY (LK _ r.m_ e f g o b a d.m_ (Mem.get h mup) i om_) U7 fl_<|UR 4 U<|UV _ U U6<|Vh (fun _=>(LK _ r.m_ e f g o b a d.m_ (Mem.get h mup) (i+1) om_)) U9<|Vk U8<|US [6,7,8,14,15,40] c U<|G.cd (fun y=>?_) fun y=>?_
  ·have A:KL b a i=true:=y;refine UN 1 U fun R c=>UV _ U U6<|C6 1 [6,7,8,14,15] c U<|UQ fun R c=>UV _ U U6<|C6 1 [6,7,8,14,15] c U<|U0 (m':=a.length-(i+1)) om_ F (hn_ [6,7,8,14,15] U) ⟨i+1,k+1,⟨by omega,H,by rw[Sn,SM,Rf,l];simp[A]⟩,U,U,U⟩
  have A:KL b a i=false:=y;refine UQ fun R c=>UV _ U U6<|C6 1 [6,7,8,14,15] c U<|U0 (m':=a.length-(i+1)) om_ F (hn_ [6,7,8,14,15] U) ⟨i+1,k,⟨by omega,H,by rw[Sn,SM,Rf,l];simp[A]⟩,U,U,U⟩
 have x:i=a.length:=by
  have:¬ i<a.length:=by simpa using w
  omega
 refine UM 3 [4] U<|UT U2<|⟨?_,U⟩;rw[x]at v l;unfold Kb;rw[v,l,Up];congr 1;rw[UB,Rj];simp;omega
/-! The sides of triangles, in order. -/
def pR (t:Tri):List fE:=[oD t 0,oD t 1,oD t 2]
def bQ (tris:List Tri):List fE:=tris.flatMap pR
theorem BS (t:Tri)(a:k<3):(pR t)[k]?=some (oD t k):=by
 rcases(by omega:k=0∨k=1∨k=2) with rfl|rfl|rfl <;> rfl
theorem qD (m:OX)(i:Nat)(t:Tri):∀ k,k<=3->(m.map (·.1)++(pR t).take k).Nodup->(Fe m i t k).map (·.1)=m.map (·.1)++(pR t).take k
|0,_,_=>by simp[Fe]
|k+1,e,a=>by
  have h3:=BS t (show k<3 by omega);rw[RE,h3,SB,<- RL]at a⊢;have b:=(SJ.1 a);have c:=qD m i t k om_ b.1;have d:dZ (Fe m i t k) (oD t k)=none:=by
   rw[cC,c];intro h;exact b.2.2 _ h _ ak U
  rw[Fe,kb d,RN,c];rfl
theorem pP {a:List Tri}{t:Tri}(h:a[n]?=some t):bQ (a.take (n+1))=bQ (a.take n)++pR t:=by
 unfold bQ;rw[RE,h,List.flatMap_append];simp
theorem su {a:List Tri}(h:(bQ a).Nodup)(n:Nat):(bQ (a.take n)).Nodup:=by
 have:bQ a=bQ (a.take n)++bQ (a.drop n):=by
  unfold bQ;rw[<- List.flatMap_append,R5]
 rw[this]at h;exact(SJ.1 h).1
theorem fP {a:List Tri}(h:(bQ a).Nodup):∀ n,n<=a.length->(xE a n).map (·.1)=bQ (a.take n)
|0,_=>by simp[xE,bQ]
|n+1,d=>by
  have b:a[n]?=some a[n]:=ai om_;have h1:=su h (n+1);rw[pP b]at h1⊢;have c:=fP h n om_;rw[xE,am,b];show(Fe (xE a n) n a[n] 3).map (·.1)=_;rw[qD _ _ _ 3 (Q7 _) (by rw[c];exact h1),c];rfl
theorem sP {a:List Tri}(h:(bQ a).Nodup)(i:Nat)(t:Tri)(k:Nat)(b:a[i]?=some t)(d:k<3):dZ (Fe (xE a i) i t k) (oD t k)=none:=by
 have e:=(aT.1 b).1;have h1:=su h (i+1);rw[pP b]at h1;have c:=fP h i om_;have h3:=BS t d;have h2:(bQ (a.take i)++(pR t).take (k+1)).Nodup:=by
  refine List.Nodup.sublist (List.Sublist.append (List.Sublist.refl _) (List.take_sublist _ _)) h1
 rw[RE,h3,SB,<- RL]at h2;have h4:=SJ.1 h2;rw[cC,qD _ _ _ k om_ (by rw[c];exact h4.1),c];intro h5;exact h4.2.2 _ h5 _ ak U
theorem wh {B:List fE}{d:Int}:∀ (k:Nat)(p:Int)(out r:List Int),iW B d k p out=some r->(∀ z∈out,z∈B.map (·.1))->∀ z∈r,z∈B.map (·.1)
|0,p,out,r,h,b=>by simp only[iW,RW]at h;subst h;exact b
|k+1,p,out,r,h,b=>by
  simp only[iW]at h;cases c:dZ B p with
 |none=>rw[c]at h;cases h
 |some q =>
   rw[c]at h;simp only at h;split at h
   ·cases h
   refine wh k q _ r h (fun z a=>?_);rcases Rr.1 a with a|a
   ·exact b z a
   rw[Rw.1 a];exact Tl (f:=(·.1)) (gv c)
theorem wi {B:List fE}{b:Int}:∀ (k:Nat)(p:Int)(out r:List Int),iW B b k p out=some r->r.length=out.length+k
|0,p,out,r,h=>by simp only[iW,RW]at h;subst h;rfl
|k+1,p,out,r,h=>by
  simp only[iW]at h;cases a:dZ B p with
 |none=>rw[a]at h;cases h
 |some q =>
   rw[a]at h;simp only at h;split at h
   ·cases h
   have:=wi k q _ r h;simp at this;omega
theorem CA {c:List fE}:∀ z∈xG c,z∈c.map (·.1):=by
 intro z a;unfold xG at a;cases b:Ff c with
|none=>rw[b]at a;simp at a
|some r =>
  rw[b]at a;simp only[Sr]at a;unfold Ff at b;split at b
  ·have:=wh _ _ _ _ b ak z a;obtain⟨s,hs,rfl⟩:=Ra.1 this;exact Tl (f:=(·.1)) (SH.1 hs).1
  cases b
theorem J9 (a:List fE):(xG a).length<=a.length:=by
 unfold xG;cases b:Ff a with
|none=>simp
|some r =>
  unfold Ff at b;split at b
  ·have:=wi _ _ _ _ b;have h2:=SS (jE a) a;simp at this⊢;omega
  cases b
def nX (n:Nat)(t:Tri):Prop:=t.1<n/\t.2.1<n/\t.2.2<n
theorem Jw {t:Tri}(h:nX n t):∀ s∈pR t,0<=s.1/\s.1.toNat<n:=by
 obtain⟨h1,h2,h3⟩:=h;intro s hs;simp only[pR,Rp,Sh,TF]at hs;rcases hs with rfl|rfl|rfl <;> simp[oD,Fc] <;> omega
theorem pQ {a:List Tri}(h:∀ t∈a,nX n t):∀ s∈bQ a,0<=s.1/\s.1.toNat<n:=by
 intro s hs;obtain⟨t,b,hs⟩:=List.mem_flatMap.1 hs;exact Jw (h t b) s hs
theorem nt (a:List Tri):(bQ a).length=3*a.length:=by
 induction a with
|nil=>rfl
|cons t l b =>
  have:bQ (t::l)=pR t++bQ l:=rfl;rw[this,Rf,b];simp[pR];omega
def fW (tris:List Tri):List Nat:=(xG (bQ tris)).map Int.toNat
theorem EV {a:List Tri}(h:∀ t∈a,nX n t):∀ z∈fW a,z<n:=by
 intro z b;obtain⟨y,hy,rfl⟩:=Ra.1 b;obtain⟨s,hs,rfl⟩:=Ra.1 (CA y hy);exact(pQ h s hs).2
theorem AQ {a:List Tri}(h:∀ t∈a,nX n t):(xG (bQ a)).map nP=(fW a).map aW:=by
 unfold fW;rw[R8];refine List.map_congr_left (fun y hy=>?_);obtain⟨s,hs,rfl⟩:=Ra.1 (CA y hy);have:=(pQ h s hs).1;show nP s.1=aW s.1.toNat;unfold nP aW;rw[Int.toNat_of_nonneg this]
/-! Sets of ints as maps. -/
def IW (ks:List Int):List (Int × Value):=ks.map fun z=>(z,.bool true)
def Qf (ks:List Int)(z:Int):List Int:=if z∈ks then ks else ks++[z]
theorem JC (a:List Int):(IW a).length=a.length:=by simp[IW]
theorem xL:∀ {ks:List Int}{z:Int},iT (IW ks) z (.bool true)=IW (Qf ks z)
|[],z=>by simp[IW,iT,Qf]
|k::ks,z=>by
  have a:=xL (ks:=ks) (z:=z);unfold IW at a⊢;simp only[RR,iT];by_cases e:k=z
  ·subst e;simp[Qf]
  have b:¬ z=k:=fun h=>e h.symm;rw[aF e,a];unfold Qf;by_cases h:z∈ks
  ·simp[h]
  simp[h,b]
def MS (ks:List Int)(t:Tri):Nat->List Int
|0=>ks
|k+1=>Qf (MS ks t k) (Fc t k)
def wo (tris:List Tri):Nat->List Int
|0=>[]
|n+1=>MS (wo tris n) (tris.getD n (0,0,0)) 3
theorem rk (t:Tri)(a:k<3):(iF t)[k]?=some (i_ (Fc t k)):=by
 rcases(by omega:k=0∨k=1∨k=2) with rfl|rfl|rfl <;> rfl
theorem EU {a:List Tri}(h:decide (xG (bQ a)≠[])=true):0<(fW a).length:=by
 unfold fW;rw[au];exact RX.2 (Qw h)
theorem Iv (a:List Tri):decide (xG (bQ a)≠[])=decide (fW a≠[]):=by
 rw[RY];unfold fW;simp
def oc (pts:List Pt)(tris:List Tri):Bool:=decide (fW tris≠[]) && (decide ((wo tris tris.length).length=pts.length) && Kb pts (fW tris))
theorem ud (C:Mem)(J:Tabs C)(x y:Value)(c:List Pt)(a:List Tri)(K:a≠[])(k:Sl C 2 x (c.map gD))(g:Sl C 3 y (a.map iF))(d:(bQ a).Nodup)(l:∀ t∈a,nX c.length t)(L:∀ p∈c,QP 1 p)(z:a.length<=10000) :
  Gives cx.P 130 [.agg ⟨[x,y]⟩] C (.bool (oc c a)):=by
 obtain⟨W,X,rfl,M,Y,_⟩:=id k;obtain⟨A2,c2,rfl,N,Z,_⟩:=id g;have aa:=mx_
 simp only[au]at k g M N⊢;refine UU func130 55 U3 fun w0=>UQ fun R b=>Vd U6 fun A=>C6 1 [1] b U<|G.freeze 0 U fun _ B e=>UQ fun R b=>UO (PtrTo.block (Mem.get e mup) _) U8<|Vu (xA _ _ _ a K g.m_ (sP d)) U7 (fun ab _ _ O=>?_);obtain⟨n,rfl,Q⟩:=O;refine C6 5 [1,3,4] b U<|UM 2 [1,3,18] U<|G.cd (fun E=>?_) fun E=>?_
 ·exact absurd E dc_
 refine UQ fun R b=>D.makeMap keyZ U U U U fl_ fun f=>C6 1 [1,3,5] b U<|UN 1 U fun R b=>UO (PtrTo.block (Mem.get e mup) _) U8<|C6 2 [1,3,5,21,22,23] b U<|G.loop (fun fr S h o=>∃ (i:Nat),(i<=a.length)/\fr=[(1,[],p_ A),(3,[],.map (some n)),(5,[],.map (some f)),(21,[],.slice A2 a.length c2),(22,[],i_ a.length),(23,[],i_ i)]/\h=[.obj f (aY keyZ.enc (IW (wo a i)))]/\o=a.length-i) (hn_ [1,3,5,21,22,23] U) ⟨0,Re _,U,U,U⟩ (fun fr ac ad m _ q=>?_);obtain⟨i,hi,rfl,rfl,rfl⟩:=q;refine UM 1 [1,3,5,21,22,23,24] U<|G.cd (fun r=>?_) fun r=>?_
 ·have u:i<a.length:=by simpa using r
  obtain⟨t,F⟩:∃ t,a[i]?=some t:=⟨a[i],ai u⟩;refine UQ fun R b=>Va g.m_ U10 om_ (by rw[Rb,F];rfl:(a.map iF)[i]?=some (iF t)) fl_ fun ae T=>UO T U8<|Ve U5 fun b7=>UX (j:=0) U12<|US [1,3,5,7,21,22,23] b U<|UQ fun R b=>UW ag U9<|C6 1 [1,3,5,21,22,23,27,28] b U<|VC 0 U<|G.loop (fun fr S h o=>∃ (j:Nat),(j<=3)/\fr=[(1,[],p_ A),(3,[],.map (some n)),(5,[],.map (some f)),(21,[],.slice A2 a.length c2),(22,[],i_ a.length),(23,[],i_ i),(27,[],.agg ⟨iF t⟩),(28,[],i_ j)]/\h=[.obj f (aY keyZ.enc (IW (MS (wo a i) t j)))]/\o=3-j) (hn_ [1,3,5,21,22,23,27,28] U) ⟨0,Re _,U,U,U⟩ (fun fr af ah m B q=>?_);obtain⟨j,hj,rfl,rfl,rfl⟩:=q;refine UM 1 [1,3,5,21,22,23,27,28,29] U<|G.cd (fun v=>?_) fun v=>?_
  ·have w:j<3:=by
    simp only[Rj]at v;omega
   refine UQ fun R b=>VO U11 (fun _=>⟨by omega,by omega,rk t w⟩) U2<|C6 1 [1,3,5,9,21,22,23,27,28] b U<|UN 2 U fun R b=>D.mapUpdate keyZ (j:=0) U U U U U U U U U U kr_<|US [1,3,5,21,22,23,27,28] b U<|UQ fun R b=>UV _ U U6<|C6 1 [1,3,5,21,22,23,27,28] b U ?_;rw[xL];refine U0 (m':=3-(j+1)) om_ B (hn_ [1,3,5,21,22,23,27,28] U) ⟨j+1,om_,U,U,U⟩
  have w:j=3:=by
   simp only[RJ]at v;omega
  subst w;refine UQ fun R b=>UV _ U U6<|C6 1 [1,3,5,21,22,23] b U<|Vc (L':=[.obj f (aY keyZ.enc (IW (wo a (i+1))))]) (by rw[wo,am,F];rfl)<|U0 (m':=a.length-(i+1)) om_ mup (hn_ [1,3,5,21,22,23] U) ⟨i+1,om_,U,U,U⟩
 have u:i=a.length:=by
  have:¬ i<a.length:=by simpa using r
  omega
 subst u;refine UQ fun R b=>UO (PtrTo.block (Mem.get e mup) _) U8<|UP U6<|Vo (J7 _ _ _ n (xE a a.length) (Mem.get Q mup) (by rw[fP d _ (Q7 _),Rk];exact d) (by rw[fP d _ (Q7 _),Rk];exact fun s hh=>(pQ l s hh).1) (by have:=congrArg List.length (fP d _ (Q7 _));rw[Rk,nt,au]at this;omega)) U7 fl_ (fun aj _ _ H=>?_);rw[fP d _ (Q7 _),Rk]at H;obtain⟨bv,rfl,I⟩:=H;rw[AQ l]at I;refine C6 5 [1,5,10,11] b U<|Vl [(3,1)] U fun R b=>UR 3 U<|WL keyZ.enc ag U U U U U U U U U<|UP U6<|Vm U6 (fun _=>PtrTo.block (Mem.get e mup) _) U3<|UR 2 U<|Vk U8<|UP U6<|Vm U6 (fun _=>PtrTo.block (Mem.get e mup) _) U3<|UP U6<|Vh (fun V=>(NM _ J.m_ _ _ bv c (fW a) k.m_ I.m_ (by exact EU (Ub.1 (show(decide (xG (bQ a)≠[]) && _)=true/\True from V).1).1) (EV l) L (by have:=J9 (bQ a);rw[nt]at this;unfold fW;rw[au];omega))) U9<|Vk U8<|C6 1 [2] b U<|UT U2<|⟨?_,U⟩;have z:(((IW (wo a a.length)).length:Int) == (c.length:Int))=decide ((wo a a.length).length=c.length):=by
  rw[JC,UB,SR,Rj];omega
 unfold oc;rw[<- Iv,<- z,<- Bool.and_assoc]
noncomputable def kP2:KeyP cx.P 34 (Str × Str):=QV rfl rfl rfl dc_ dc_ rfl rfl kr_
def ptK (p:Pt):Str × Str:=(qtx p.1,qtx p.2)
theorem Nx {p q:Pt}(h:ptK p=ptK q):p=q:=by
 have h1:=gr (congrArg (·.1) h);have h2:=gr (congrArg (·.2) h);exact Prod.ext h1 h2
def Kk (l:List Pt):List ((Str × Str) × Value):=l.map fun p=>(ptK p,.bool true)
theorem CJ {l:List Pt}{p:Pt}(h:p ∉ l):dZ (Kk l) (ptK p)=none:=by
 rw[cC];unfold Kk;rw[R8];intro hm;obtain⟨q,a,b⟩:=Ra.1 hm;exact h (Nx b ▸ a)
theorem NZ {l:List Pt}{p:Pt}(h:p ∉ l):iT (Kk l) (ptK p) (.bool true)=Kk (l++[p]):=by
 rw[kb (CJ h)];simp[Kk]
def oZ (n:Nat)(X:Nat->Nat->Bool):Bool:=(List.range n).any fun i=>(List.range i).any fun k=>X i k
def zJ (pts:List Pt)(tris:List Tri)(X:Nat->Nat->Bool):Int:=if tris=[] then 13 else if oc pts tris then 0 else if oZ tris.length X then 26 else 25
structure MeshOk (pts:List Pt)(tris:List Tri):Prop where
 q:∀ p∈pts,QP 1 p
 nd:pts.Nodup
 ins:∀ t∈tris,nX pts.length t
 pos:∀ t∈tris,0<dK (pts.getD t.1 (0,0)) (pts.getD t.2.1 (0,0)) (pts.getD t.2.2 (0,0))
 sides:(bQ tris).Nodup
 lt:tris.length<=800
 lp:pts.length<=400
theorem qj {a:List Pt}(h:i<a.length):a[i]?=some (a.getD i (0,0)):=by
 rw[am,ai h];rfl
theorem Ch {a:List Pt}(h:i<a.length):a.getD i (0,0)∈a:=aM (qj h)
def ie (t:Tri)(j:Nat):Nat:=if j=0 then t.1 else if j=1 then t.2.1 else t.2.2
theorem BF (t:Tri)(j:Nat):Fc t j=(ie t j:Nat):=by
 unfold Fc ie;split
 ·rfl
 split <;> rfl
theorem eS {t:Tri}(h:nX n t)(j:Nat):ie t j<n:=by
 obtain⟨h1,h2,h3⟩:=h;unfold ie;split
 ·exact h1
 split <;> assumption
theorem Pk (q:Rat):decide (eG q.num<=0)=!decide (0<q):=by
 have h1:=uA q;have h2:q.num=0 ↔ q=0:=TT;rw[<- decide_not,RY];have h3:¬ 0<q ↔ (q<0∨q=0):=by grind
 rw[h3,<- h1,<- h2];rcases eA q.num with h|h|h <;> omega
theorem G6 (C:Mem)(H:Tabs C)(I J:Value)(c:List Pt)(b:List Tri)(X:Nat->Nat->Bool)(r:Sl C 2 I (c.map gD))(x:Sl C 3 J (b.map iF))(d:MeshOk c b)
  (W:b≠[]->oc c b=false->∀ D:Mem,C.le D->∀ i k:Nat,i<b.length->k<i->Gives cx.P 131 [.agg ⟨[I,J]⟩,i_ i,i_ k] D (.bool (X i k))) :
  Gives cx.P 65 [.agg ⟨[I,J]⟩] C (i_ (zJ c b X)):=by
 obtain⟨A1,c1,rfl,ah,az,_⟩:=id r;obtain⟨A2,c2,rfl,aj,aA,_⟩:=id x;have aB:=mx_
 have aC:=d.lt;have aD:=d.lp;simp only[au]at r x ah aj W⊢;refine UU func65 105 U3 fun w0=>UQ fun R a=>Vd U6 fun u=>C6 1 [1] a U<|G.freeze 0 U fun _ _ f=>UN 1 U fun R a=>UO (PtrTo.block (Mem.get f mup) _) U8<|C6 3 [1,12] a U<|G.cd (fun y=>?_) fun y=>?_
 ·have h0:b=[]:=by
   have h:((b.length:Nat):Int)=0:=by simpa using y
   exact RZ om_
  exact UM 1 [2] U<|UT U2<|⟨by unfold zJ;rw[aJ h0],U⟩
 have h0:b≠[]:=by
  intro e;rw[e]at y;exact absurd y dc_
 refine UN 1 U fun R a=>UO (PtrTo.block (Mem.get f mup) _) U8<|UR 4 U<|Vm U6 (fun _=>PtrTo.block (Mem.get f mup) _) U3<|UR 2 U<|Vq U8<|C6 1 [1,17] a U<|G.cd (fun Y=>?_) fun Y=>?_
 ·exfalso;simp only[SX,Rj]at Y;omega
 refine UQ fun R a=>WG kP2 U U U U fl_ fun K=>C6 1 [1,3] a U<|UN 1 U fun R a=>UO (PtrTo.block (Mem.get f mup) _) U8<|C6 2 [1,3,30,31,32] a U<|G.loop (fun fr z g l=>∃ (i:Nat),(i<=c.length)/\fr=[(1,[],p_ u),(3,[],.map (some K)),(30,[],.slice A1 c.length c1),(31,[],i_ c.length),(32,[],i_ i)]/\g=[.obj K (aY EH (Kk (c.take i)))]/\l=c.length-i) (hn_ [1,3,30,31,32] U) ⟨0,Re _,U,U,U⟩ (fun fr aE aG m _ n=>?_);obtain⟨i,hi,rfl,rfl,rfl⟩:=n;refine UM 1 [1,3,30,31,32,33] U<|G.cd (fun Z=>?_) fun Z=>?_
 ·have o:i<c.length:=by simpa using Z
  obtain⟨p,A⟩:∃ p,c[i]?=some p:=⟨c[i],ai o⟩;have B:=d.q p (aM A);have aa:p ∉ c.take i:=by
   intro hm;obtain⟨j,v⟩:=SE hm;rw[R2]at v;split at v
   ·rename_i aH;have h3:=(aT.1 v);have h4:=(aT.1 A);have:=(List.getElem_inj d.nd).1 (h3.2.trans h4.2.symm);omega
   cases v
  have ak:Kk (c.take (i+1))=Kk (c.take i++[p]):=by rw[RE,A];rfl
  refine UQ fun R a=>Va r.m_ U10 om_ (by rw[Rb,A];rfl:(c.map gD)[i]?=some (gD p)) fl_ fun aI al=>UO al U8<|Ve U5 fun b5=>UX (j:=0) U12<|US [1,3,5,30,31,32] a U<|UQ fun R a=>UW ag U9<|UY (iO _ H.m_ (qtx p.1) (qtx p.2) (by have:=aZ B.1 dc_;omega) (by have:=aZ B.2 dc_;omega)) U7 fl_<|C6 1 [1,3,5,30,31,32,38] a U<|G.cd (fun L=>?_) fun L=>?_
  ·exfalso;rw[bA (B.1.le dc_),bA (B.2.le dc_)]at L;exact absurd L dc_
  refine UN 1 U fun R a=>UW ag U9<|WH kP2 ae U U U U U U U U U (congrArg (mj (.bool false) false) (CJ aa)) U U<|US [1,3,5,30,31,32,41] a U<|G.cd (fun ab=>?_) fun ab=>?_
  ·exact absurd ab dc_
  refine UN 1 U fun R a=>UW ag U9<|Wz kP2 (j:=1) (key:=ptK p) U U U U U U U U U U<|US [1,3,30,31,32] a U<|UQ fun R a=>UV _ U U6<|C6 1 [1,3,30,31,32] a U<|VC 1 U<|Vc (L':=[.obj K (aY EH (Kk (c.take (i+1))))]) (by rw[ak,<- NZ aa];rfl)<|U0 (m':=c.length-(i+1)) om_ mup (hn_ [1,3,30,31,32] U) ⟨i+1,om_,U,U,U⟩
 refine UN 1 U fun R a=>UO (PtrTo.block (Mem.get f mup) _) U8<|C6 2 [1,46,47,48] a U<|G.dropAll<|G.loop (fun fr z g l=>∃ (i:Nat),(i<=b.length)/\fr=[(1,[],p_ u),(46,[],.slice A2 b.length c2),(47,[],i_ b.length),(48,[],i_ i)]/\g=[]/\l=b.length-i) (hn_ [1,46,47,48] U) ⟨0,Re _,U,U,U⟩ (fun fr aK aL m _ n=>?_);obtain⟨i,hi,rfl,rfl,rfl⟩:=n;refine UM 1 [1,46,47,48,49] U<|G.cd (fun M=>?_) fun M=>?_
 ·have o:i<b.length:=by simpa using M
  obtain⟨t,ht⟩:∃ t,b[i]?=some t:=⟨b[i],ai o⟩;have ac:=aM ht;have s:=d.ins t ac;have am:=d.pos t ac;refine UQ fun R a=>Va x.m_ U10 om_ (by rw[Rb,ht];rfl:(b.map iF)[i]?=some (iF t)) fl_ fun aN an=>UO an U8<|Ve U5 fun b7=>UX (j:=0) U12<|US [1,7,46,47,48] a U<|UQ fun R a=>UW ag U9<|C6 1 [1,7,46,47,48,52,53] a U<|G.loop (fun fr z g l=>∃ (j:Nat),(j<=3)/\fr=[(1,[],p_ u),(7,[],p_ b7),(46,[],.slice A2 b.length c2),(47,[],i_ b.length),(48,[],i_ i),(52,[],.agg ⟨iF t⟩),(53,[],i_ j)]/\g=[.obj b7 (.cells ⟨iF t⟩ 65 (0,0))]/\l=3-j) (hn_ [1,7,46,47,48,52,53] U) ⟨0,Re _,U,U,U⟩ (fun fr aO aP m ao n=>?_);obtain⟨j,v,rfl,rfl,rfl⟩:=n;refine UM 1 [1,7,46,47,48,52,53,54] U<|G.cd (fun N=>?_) fun N=>?_
  ·have ap:j<3:=by
    simp only[Rj]at N;omega
   have aQ:=eS s j;refine UQ fun R a=>VO U11 (fun _=>⟨by omega,by omega,(show(iF t)[((j:Nat):Int).toNat]?=some (i_ ((ie t j:Nat):Int)) from by rw[<- BF];exact rk t ap)⟩) U2<|C6 1 [1,7,9,46,47,48,52,53] a U<|UN 5 U fun R a=>Vm U6 (fun _=>PtrTo.block (Mem.get f mup) _) U3<|UR 2 U<|Vq U8<|US [1,7,46,47,48,52,53,64] a U<|G.cd (fun ad=>?_) fun ad=>?_
   ·exfalso;simp only[SX,Rj]at ad;omega
   refine UQ fun R a=>UV _ U U6<|C6 1 [1,7,46,47,48,52,53] a U<|U0 (m':=3-(j+1)) om_ ao (hn_ [1,7,46,47,48,52,53] U) ⟨j+1,om_,U,U,U⟩
  clear N;refine Vg [0,1,2,3,4,5,6,7,8,9,10,11,12,13,14,15,16,17,18,19] [(18,1)] U kr_ fun R hB a=>UP U6<|UO (PtrTo.block (Mem.get f mup) _) U8<|Vi (0) U9 k_ U2<|UW ag U9<|Va r.m_ U10 om_ (by rw[Rb,show(((t.1:Nat):Int)).toNat=t.1 from U,qj s.1];rfl:(c.map gD)[(((t.1:Nat):Int)).toNat]?=some (gD (c.getD t.1 (0,0)))) fl_ fun aR aq=>UO aq U8<|UP U6<|UO (PtrTo.block (Mem.get f mup) _) U8<|Vi (1) U9 k_ U2<|UW ag U9<|Va r.m_ U10 om_ (by rw[Rb,show(((t.2.1:Nat):Int)).toNat=t.2.1 from U,qj s.2.1];rfl:(c.map gD)[(((t.2.1:Nat):Int)).toNat]?=some (gD (c.getD t.2.1 (0,0)))) fl_ fun aS ar=>UO ar U8<|UP U6<|UO (PtrTo.block (Mem.get f mup) _) U8<|Vi (2) U9 k_ U2<|UW ag U9<|Va r.m_ U10 om_ (by rw[Rb,show(((t.2.2:Nat):Int)).toNat=t.2.2 from U,qj s.2.2];rfl:(c.map gD)[(((t.2.2:Nat):Int)).toNat]?=some (gD (c.getD t.2.2 (0,0)))) fl_ fun aU av=>UO av U8<|Vh (fun _=>(pE _ H.m_ (c.getD t.1 (0,0)) (c.getD t.2.1 (0,0)) (c.getD t.2.2 (0,0)) 1 dc_ dc_ (d.q _ (Ch s.1)) (d.q _ (Ch s.2.1)) (d.q _ (Ch s.2.2)))) U9<|C6 1 [1,46,47,48,85] a U<|G.cd (fun O=>?_) fun O=>?_
  ·exfalso;rw[Pk,Rt am]at O;exact absurd O dc_
  refine UQ fun R a=>UV _ U U6<|C6 1 [1,46,47,48] a U<|G.dropAll<|U0 (m':=b.length-(i+1)) om_ mup (hn_ [1,46,47,48] U) ⟨i+1,om_,U,U,U⟩
 clear M;refine UQ fun R a=>UO (PtrTo.block (Mem.get f mup) _) U8<|UY (ud _ H.m_ _ _ c b h0 r.m_ x.m_ d.sides d.ins d.q om_) U7 fl_<|US [1,88] a U<|G.cd (fun Q=>?_) fun Q=>?_
 ·have w:oc c b=true:=Q;exact UM 1 [2] U<|UT U2<|⟨by unfold zJ;rw[aF h0,aJ w],U⟩
 have w:oc c b=false:=Q;refine UN 1 U fun R a=>UO (PtrTo.block (Mem.get f mup) _) U8<|C6 2 [1,91,92] a U<|G.loop (fun fr z g l=>∃ (i:Nat),(i<=b.length/\oZ i X=false)/\fr=[(1,[],p_ u),(91,[],i_ b.length),(92,[],i_ i)]/\g=[]/\l=b.length-i) (hn_ [1,91,92] U) ⟨0,⟨Re _,U⟩,U,U,U⟩ (fun fr aV aW m _ n=>?_);obtain⟨i,⟨aX,E⟩,rfl,rfl,rfl⟩:=n;refine UM 1 [1,91,92,93] U<|G.cd (fun S=>?_) fun S=>?_
 ·have o:i<b.length:=by simpa using S
  refine UM 2 [1,10,91,92] U<|UM 2 [1,10,91,92,95,96] U<|G.loop (fun fr z g l=>∃ (k:Nat),(k<=i/\(List.range k).any (fun k=>X i k)=false)/\fr=[(1,[],p_ u),(10,[],i_ i),(91,[],i_ b.length),(92,[],i_ i),(95,[],i_ i),(96,[],i_ k)]/\g=[]/\l=i-k) (hn_ [1,10,91,92,95,96] U) ⟨0,⟨Re _,U⟩,U,U,U⟩ (fun fr a0 a1 m aw n=>?_);obtain⟨k,⟨a2,af⟩,rfl,rfl,rfl⟩:=n;refine UM 1 [1,10,91,92,95,96,97] U<|G.cd (fun T=>?_) fun T=>?_
  ·have F:k<i:=by simpa using T
   refine UM 2 [1,10,11,91,92,95,96] U<|UQ fun R a=>UO (PtrTo.block (Mem.get f mup) _) U8<|UR 2 U<|UZ (W h0 w _ mup i k o F) U7<|US [1,10,91,92,95,96,102] a U<|G.cd (fun V=>?_) fun V=>?_
   ·have ax:X i k=true:=V;have hc:oZ b.length X=true:=Tr.2 ⟨i,Rv.2 o,Tr.2 ⟨k,Rv.2 F,ax⟩⟩;exact UM 1 [2] U<|UT U2<|⟨by unfold zJ;rw[aF h0,w,aF dc_,aJ hc],U⟩
   have ay:X i k=false:=V;refine UQ fun R a=>UV _ U U6<|C6 1 [1,10,91,92,95,96] a U<|U0 (m':=i-(k+1)) om_ aw (hn_ [1,10,91,92,95,96] U) ⟨k+1,⟨by omega,by rw[Sn,List.any_append,af];simp[ay]⟩,U,U,U⟩
  have F:k=i:=by
   have:¬ k<i:=by simpa using T
   omega
  subst F;refine UQ fun R a=>UV _ U U6<|C6 1 [1,91,92] a U<|U0 (m':=b.length-(k+1)) om_ mup (hn_ [1,91,92] U) ⟨k+1,⟨by omega,by unfold oZ at E⊢;rw[Sn,List.any_append,E];simp[af]⟩,U,U,U⟩
 have o:i=b.length:=by
  have:¬ i<b.length:=by simpa using S
  omega
 refine UM 1 [2] U<|UT U2<|⟨?_,U⟩;rw[o]at E;unfold zJ;rw[aF h0,w,aF dc_,E];rfl
structure Good (pts:List Pt)(tris:List Tri):Prop where
 ok:MeshOk pts tris
 ne:tris≠[]
 whole:oc pts tris=true
structure MeshIn (C:Mem)(mv:Value)(pts:List Pt)(tris:List Tri):Prop where
 ex:∃ v1 v2,mv=.agg ⟨[v1,v2]⟩/\Sl C 2 v1 (pts.map gD)/\Sl C 3 v2 (tris.map iF)
theorem MeshIn.mono {C D:Mem}{a:Value}{b:List Pt}{c:List Tri}(h:MeshIn C a b c)(d:C.le D):MeshIn D a b c:=by
 obtain⟨e,f,h1,h2,h3⟩:=h.ex;exact⟨e,f,h1,h2.mono d,h3.mono d⟩
theorem MeshIn.m_ {D:Mem}{a:Value}{b:List Pt}{c:List Tri}(h:MeshIn C a b c)(d:C.le D:=by exact mup):MeshIn D a b c:=MeshIn.mono h d
def nox:Nat->Nat->Bool:=fun _ _=>false
theorem gU (C:Mem)(f:Tabs C)(d:Value)(a:List Pt)(b:List Tri)(g:MeshIn C d a b)(c:Good a b):Gives cx.P 65 [d] C (i_ 0):=by
 obtain⟨i,j,rfl,h1,h2⟩:=g.ex;have h:=G6 C f i j a b nox h1 h2 c.ok (fun _ h3=>by rw[c.whole]at h3;cases h3);have e:zJ a b nox=0:=by unfold zJ;rw[aF c.ne,aJ c.whole]
 rwa [e]at h
def cor (pts:List Pt)(t:Tri)(j:Nat):Pt:=pts.getD (ie t j) (0,0)
def zR (pts:List Pt)(p:Pt)(t:Tri):Bool:=decide (0<=dK (cor pts t 0) (cor pts t 1) p) && decide (0<=dK (cor pts t 1) (cor pts t 2) p) && decide (0<=dK (cor pts t 2) (cor pts t 0) p)
def lf (pts:List Pt)(tris:List Tri)(p:Pt):List Nat:=(List.range tris.length).filter fun i=>zR pts p (tris.getD i (0,0,0))
theorem ow {a:List Pt}{b:List Tri}(h:MeshOk a b){t:Tri}(c:t∈b)(j:Nat):QP 1 (cor a t j):=h.q _ (Ch (eS (h.ins t c) j))
theorem QP.le {k m:Nat}{p:Pt}(h:QP k p)(a:k<=m):QP m p:=⟨h.1.le a,h.2.le a⟩
theorem tJ (C:Mem)(d:Value)(a:List Pt)(b:List Tri)(f:MeshIn C d a b)(g:MeshOk a b)(i:Nat)(t:Tri)(e:b[i]?=some t) :
  Gives cx.P 68 [d,i_ i] C (Ow (cor a t 0) (cor a t 1) (cor a t 2)):=by
 obtain⟨h,j,rfl,h1,h2⟩:=f.ex;have c:=g.ins t (aM e);exact EM C h j a b i t _ _ _ h1 h2 e (qj c.1) (qj c.2.1) (qj c.2.2)
theorem Gh {p:Pt}(h:QP k p)(a:k<=1000):(qtx p.1).length<=999998/\(qtx p.2).length<=999998:=by
 have h1:=aZ (h.1.le (Tu k)) om_;have h2:=aZ (h.2.le (Tu k)) om_;exact⟨by omega,by omega⟩
def PtR (p:Pt):Prop:=aS (qtx p.1)=true/\aS (qtx p.2)=true
theorem iN (C:Mem)(c:Tabs C)(p:Pt)(a:QP 23 p)(b:PtR p):Gives cx.P 66 [ptV p] C (i_ 0):=by
 have h:=iO C c (qtx p.1) (qtx p.2) (Gh a dc_).1 (Gh a dc_).2;rw[b.1,b.2]at h;exact h
theorem ml (C:Mem)(f:Tabs C)(A:Value)(c:List Pt)(a:List Tri)(p:Pt)(B:MeshIn C A c a)(E:Good c a)(F:QP 23 p)(g:PtR p) :
  Pur cx.P 18 [A,ptV p] C fun u D=>∃ v,u=.tuple #[v,i_ 0]/\Sl D 1 v ((lf c a p).map aW):=by
 have d:=E.ok;have W:=d.lt;have X:=mx_
 have h:=B;obtain⟨Y,Z,rfl,h1,h2⟩:=id B.ex;obtain⟨A1,c1,rfl,aa,ab,_⟩:=id h1;obtain⟨A2,c2,rfl,ac,ad,_⟩:=id h2;simp only[au]at h1 h2 h⊢;refine UU func18 34 U3 fun w0=>UQ fun R b=>Vd U6 fun N=>Vd U6 fun O=>C6 2 [2,3] b U<|G.freeze 1 U fun _ _ k=>G.freeze 0 U fun _ _ H=>UQ fun R b=>UO (PtrTo.block (Mem.get k mup) _) U8<|UZ (gU _ f.m_ _ c a h.m_ E) U7<|C6 1 [2,3,6] b U<|UM 2 [2,3,6,12] U<|G.cd (fun I=>?_) fun I=>?_
 ·exact absurd I dc_
 refine UQ fun R b=>UO (PtrTo.block (Mem.get H mup) _) U8<|UZ (iN _ f.m_ p F g) U7<|C6 1 [2,3,16] b U<|G.cd (fun J=>?_) fun J=>?_
 ·exact absurd J dc_
 refine UM 1 [2,3,7] U<|UN 1 U fun R b=>UO (PtrTo.block (Mem.get k mup) _) U8<|C6 2 [2,3,7,19,20] b U<|G.nilArr 3 1<|G.loop (fun fr C' K Q=>∃ (i:Nat)(out:List Nat)(w:Value),(i<=a.length/\out=(List.range i).filter (fun i=>zR c p (a.getD i (0,0,0))))/\fr=[(2,[],p_ N),(3,[],p_ O),(7,[],w),(19,[],i_ a.length),(20,[],i_ i)]/\K=[.arr w 3 1 out.length (out.map aW).flatten]/\Q=a.length-i) (hn_ [2,3,7,19,20] U) ⟨0,[],_,⟨Re _,U⟩,U,U,U⟩ (fun fr ae af m _ S=>?_);obtain⟨i,out,w,⟨hi,e⟩,rfl,rfl,rfl⟩:=S;refine UM 1 [2,3,7,19,20,21] U<|G.cd (fun l=>?_) fun l=>?_
 ·have n:i<a.length:=by simpa using l
  obtain⟨t,o⟩:∃ t,a[i]?=some t:=⟨a[i],ai n⟩;have q:=aM o;have L:a.getD i (0,0,0)=t:=by rw[am,o];rfl
  have ag:out.length<=i:=by
   rw[e];exact Rn (SS _ _) ak
  refine UM 2 [2,3,7,8,19,20] U<|Vg [0,1,2,3,4] [(2,1),(4,1)] U kr_ fun R hB b=>UO (PtrTo.block (Mem.get k mup) _) U8<|UP U6<|Vv (fun _=>(tJ _ _ c a h.m_ d i t o)) U9<|UO (PtrTo.block (Mem.get H mup) _) U8<|Vh (fun _=>(Ht _ f.m_ (cor c t 0) (cor c t 1) (cor c t 2) p 23 dc_ dc_ ((ow d q 0).le dc_) ((ow d q 1).le dc_) ((ow d q 2).le dc_) F)) U9<|US [2,3,7,8,19,20,27] b U<|G.cd (fun s=>?_) fun s=>?_
  ·have x:zR c p t=true:=s;have z:(List.range (i+1)).filter (fun i=>zR c p (a.getD i (0,0,0)))=out++[i]:=by rw[Sn,SM,<- e,List.filter_cons,L,x];rfl
   refine UN 2 U fun R b=>Vj [aW i] U12 fun ah _ _ T=>D.append (j:=0) U11 T U ax q_ fl_ fun M=>C6 1 [2,3,7,19,20] b U<|UQ fun R b=>UV _ U U6<|C6 1 [2,3,7,19,20] b U<|Vc (L':=[.arr M 3 1 (out++[i]).length ((out++[i]).map aW).flatten]) (by simp[aW])<|U0 (m':=a.length-(i+1)) om_ mup (hn_ [2,3,7,19,20] U) ⟨i+1,out++[i],M,⟨by omega,z.symm⟩,U,U,U⟩
  have x:zR c p t=false:=s;have z:(List.range (i+1)).filter (fun i=>zR c p (a.getD i (0,0,0)))=out:=by rw[Sn,SM,<- e,List.filter_cons,L,x];simp
  refine UQ fun R b=>UV _ U U6<|C6 1 [2,3,7,19,20] b U<|U0 (m':=a.length-(i+1)) om_ mup (hn_ [2,3,7,19,20] U) ⟨i+1,out,w,⟨by omega,z.symm⟩,U,U,U⟩
 have n:i=a.length:=by
  have:¬ i<a.length:=by simpa using l
  omega
 refine UM 3 [4,5] U<|G.freezeArr 0 (out.map aW) U2 (by intro r g;obtain⟨y,_,rfl⟩:=Ra.1 g;rfl) ak fun Cg hg V=>U1 (G.dropAll (Vn U3 ?_));refine⟨U,_,U, ?_⟩;rw[n]at e;unfold lf;rw[<- e];exact V
theorem rC (C:Mem)(g:Tabs C)(d:Value)(a:List Pt)(b:List Tri)(p:Pt)(e:MeshIn C d a b)(h:Good a b)(i:QP 23 p)(j:PtR p) :
  Gives cx.P 117 [d,ptV p] C (.tuple #[.bool (decide (lf a b p≠[])),i_ 0]):=by
 have k:=e;obtain⟨n,o,rfl,h1,h2⟩:=id e.ex;refine UU func117 18 U3 fun w0=>UQ fun R c=>Vd U6 fun q=>Vd U6 fun r=>C6 2 [2,3] c U<|UQ fun R c=>UW ae U9<|UW ag U9<|Vu (ml _ g.m_ _ a b p k.m_ h i j) U7 (fun s _ _ l=>?_);obtain⟨t,rfl,m⟩:=l;obtain⟨u,v,f,_⟩:=id m;rw[au]at f;subst f;refine C6 5 [6,7] c U<|UM 6 [4,5] U<|U1 (G.dropAll (Vn U3 ?_));refine⟨?_,U⟩;have:decide (((lf a b p).length:Int) > 0)=decide (lf a b p≠[]):=by
  rw[RY,<- RX];omega
 rw[<- this]
theorem AJ (C:Mem)(j:Tabs C)(d:Value)(c:List Pt)(b:List Tri)(i:Nat)(e:MeshIn C d c b)(k:Good c b)(l:i<b.length) :
  Gives cx.P 69 [d,i_ i] C (i_ 0):=by
 have f:=e;obtain⟨m,n,rfl,h1,h2⟩:=id e.ex;obtain⟨A2,c2,rfl,o,p,_⟩:=id h2;simp only[au]at h1 h2 f⊢;refine UU func69 20 U3 fun w0=>UQ fun R a=>Vd U6 fun q=>C6 1 [1,2] a U<|UQ fun R a=>UW ag U9<|UZ (gU _ j.m_ _ c b f.m_ k) U7<|C6 1 [1,2,5] a U<|UM 2 [1,2,5,9] U<|G.cd (fun g=>?_) fun g=>?_
 ·exact absurd g dc_
 refine UN 5 U fun R a=>UW ag U9<|UR 2 U<|Vq U8<|US [19] a U<|G.cd (fun h=>?_) fun h=>?_
 ·exfalso;simp only[SX,Rj]at h;omega
 exact UM 1 [4] U<|UT U2<|⟨U,U⟩
def wgt (pts:List Pt)(t:Tri)(p:Pt)(j:Nat):Rat:=dK p (cor pts t ((j+1) % 3)) (cor pts t ((j+2) % 3)) / dK (cor pts t 0) (cor pts t 1) (cor pts t 2)
theorem kh {a:List Pt}{b:List Tri}(c:MeshOk a b){t:Tri}(d:t∈b):dK (cor a t 0) (cor a t 1) (cor a t 2)≠0:=by
 have h:=c.pos t d;intro e;have f:dK (a.getD t.1 (0,0)) (a.getD t.2.1 (0,0)) (a.getD t.2.2 (0,0))=0:=e;rw[f]at h;exact absurd h dc_
theorem wR (C:Mem)(g:Tabs C)(x:Value)(c:List Pt)(h:List Tri)(p:Pt)(i:Nat)(t:Tri)(y:MeshIn C x c h)(z:Good c h)(l:QP 23 p)(O:PtR p)(o:h[i]?=some t)(q:∀ j,QB 22 (wgt c t p j)) :
  Gives cx.P 19 [x,i_ i,ptV p] C (.tuple #[.agg ⟨[af (qtx (wgt c t p 0)),af (qtx (wgt c t p 1)),af (qtx (wgt c t p 2))]⟩,i_ 0]):=by
 have r:=z.ok;have A:=aM o;have Q:=(aT.1 o).1;have B:=y;obtain⟨v1,v2,rfl,h1,h2⟩:=id y.ex;have e:=fun j=>(ow r A j).le (show 1<=23 by decide);have s:=kh r A;have u:∀ a b,QP 23 a->QP 23 b->QB 189 (dK p a b):=fun a b S T=>(AY l S T).le dc_;have v:QB 189 (dK (cor c t 0) (cor c t 1) (cor c t 2)):=(AY (e 0) (e 1) (e 2)).le dc_;refine UU func19 69 U3 fun w0=>UQ fun R d=>Vd U6 fun b3=>Vd U6 fun V=>Ve U5 fun D=>C6 1 [1,3,5,6] d U<|G.freeze 2 U fun _ _ E=>G.freeze 1 U fun _ _ n=>UQ fun R d=>UO (PtrTo.block (Mem.get E mup) _) U8<|UP U6<|UZ (AJ _ g.m_ _ c h i B.m_ z Q) U7<|C6 1 [1,3,5,6,8] d U<|UM 2 [1,3,5,6,8,18] U<|G.cd (fun F=>?_) fun F=>?_
 ·exact absurd F dc_
 refine UQ fun R d=>UO (PtrTo.block (Mem.get n mup) _) U8<|UZ (iN _ g.m_ p l O) U7<|C6 1 [1,3,5,6,23] d U<|G.cd (fun H=>?_) fun H=>?_
 ·exact absurd H dc_
 refine UQ fun R d=>UO (PtrTo.block (Mem.get E mup) _) U8<|UP U6<|UZ (tJ _ _ c h B.m_ r i t o) U7<|Ve U5 fun W=>UX (j:=0) U12<|US [5,6,9] d U<|G.freeze 0 U fun _ _ f=>UQ fun R d=>Ve U5 fun I=>US [5,6,9,10] d U<|UM 1 [5,6,9,10,28] U<|G.loop (fun fr C' X Y=>∃ (j:Nat),(j<=3)/\fr=[(5,[],p_ V),(6,[],p_ D),(9,[],p_ W),(10,[],p_ I),(28,[],i_ j)]/\X=[.obj I (.cells ⟨(List.range 3).map fun k=>if k<j then af (qtx (wgt c t p k)) else af []⟩ 61 (0,0)),.obj D (.cells ⟨[af [],af [],af []]⟩ 61 (0,0))]/\Y=3-j) (hn_ [5,6,9,10,28] U) ⟨0,Re _,U,U,U⟩ (fun fr aa ab m _ Z=>?_);obtain⟨j,hj,rfl,rfl,rfl⟩:=Z;refine UM 1 [5,6,9,10,28,29] U<|G.cd (fun w=>?_) fun w=>?_
 ·have J:j<3:=by
   simp only[Rj]at w;omega
  rcases(by omega:j=0∨j=1∨j=2) with rfl|rfl|rfl
  ·refine UM 2 [5,6,9,10,11,28] U<|Vg [0,1,2,3,4,5,6,7,8,9,10,11,12,13,14,15,16,17,18,19,20,21,22,23,24,25] [(12,1),(19,1),(20,1)] U kr_ fun R K d=>UP U6<|UO (PtrTo.block (Mem.get n mup) _) U8<|UP U6<|UV _ U U6<|VY U6 om_ om_ U2<|Vi (_) U9 k_ U2<|UO (bkT f 2) U8<|UP U6<|UV _ U U6<|VY U6 om_ om_ U2<|Vi (_) U9 k_ U2<|UO (bkT f 2) U8<|Vh (fun _=>(lD _ g.m_ p (cor c t ((0+1) % 3)) (cor c t ((0+2) % 3)) 23 dc_ dc_ l (e _) (e _))) U9<|Vi (0) U9 k_ U2<|UO (bkT f 2) U8<|Vi (2) U9 k_ U2<|UO (bkT f 2) U8<|Vi (4) U9 k_ U2<|UO (bkT f 2) U8<|Vh (fun _=>(lD _ g.m_ (cor c t 0) (cor c t 1) (cor c t 2) 23 dc_ dc_ (e 0) (e 1) (e 2))) U9<|Vh (fun _=>(ik _ g.m_ _ _ 189 dc_ dc_ (u _ _ (e _) (e _)) v s)) U9<|UR 3 U<|Vi (_) U9 k_ U2<|UX (j:=0) U12<|US [5,6,9,10,11,28] d U<|UN 1 U fun R d=>Vi (_) U9 k_ U2<|UW ag U9<|UZ (uw _ g.m_ (wgt c t p 0) (q 0)) U7<|C6 5 [5,6,9,10,13,28] d U<|UM 2 [5,6,9,10,13,28,64] U<|G.cd (fun L=>?_) fun L=>?_
   ·exact absurd L dc_
   refine UQ fun R d=>UV _ U U6<|C6 1 [5,6,9,10,28] d U<|U0 (m':=2) om_ mup (hn_ [5,6,9,10,28] U) ⟨1,by decide,U,U,U⟩
  ·refine UM 2 [5,6,9,10,11,28] U<|Vg [0,1,2,3,4,5,6,7,8,9,10,11,12,13,14,15,16,17,18,19,20,21,22,23,24,25] [(12,1),(19,1),(20,1)] U kr_ fun R K d=>UP U6<|UO (PtrTo.block (Mem.get n mup) _) U8<|UP U6<|UV _ U U6<|VY U6 om_ om_ U2<|Vi (_) U9 k_ U2<|UO (bkT f 2) U8<|UP U6<|UV _ U U6<|VY U6 om_ om_ U2<|Vi (_) U9 k_ U2<|UO (bkT f 2) U8<|Vh (fun _=>(lD _ g.m_ p (cor c t ((1+1) % 3)) (cor c t ((1+2) % 3)) 23 dc_ dc_ l (e _) (e _))) U9<|Vi (0) U9 k_ U2<|UO (bkT f 2) U8<|Vi (2) U9 k_ U2<|UO (bkT f 2) U8<|Vi (4) U9 k_ U2<|UO (bkT f 2) U8<|Vh (fun _=>(lD _ g.m_ (cor c t 0) (cor c t 1) (cor c t 2) 23 dc_ dc_ (e 0) (e 1) (e 2))) U9<|Vh (fun _=>(ik _ g.m_ _ _ 189 dc_ dc_ (u _ _ (e _) (e _)) v s)) U9<|UR 3 U<|Vi (_) U9 k_ U2<|UX (j:=0) U12<|US [5,6,9,10,11,28] d U<|UN 1 U fun R d=>Vi (_) U9 k_ U2<|UW ag U9<|UZ (uw _ g.m_ (wgt c t p 1) (q 1)) U7<|C6 5 [5,6,9,10,13,28] d U<|UM 2 [5,6,9,10,13,28,64] U<|G.cd (fun M=>?_) fun M=>?_
   ·exact absurd M dc_
   refine UQ fun R d=>UV _ U U6<|C6 1 [5,6,9,10,28] d U<|U0 (m':=1) om_ mup (hn_ [5,6,9,10,28] U) ⟨2,by decide,U,U,U⟩
  refine UM 2 [5,6,9,10,11,28] U<|Vg [0,1,2,3,4,5,6,7,8,9,10,11,12,13,14,15,16,17,18,19,20,21,22,23,24,25] [(12,1),(19,1),(20,1)] U kr_ fun R K d=>UP U6<|UO (PtrTo.block (Mem.get n mup) _) U8<|UP U6<|UV _ U U6<|VY U6 om_ om_ U2<|Vi (_) U9 k_ U2<|UO (bkT f 2) U8<|UP U6<|UV _ U U6<|VY U6 om_ om_ U2<|Vi (_) U9 k_ U2<|UO (bkT f 2) U8<|Vh (fun _=>(lD _ g.m_ p (cor c t ((2+1) % 3)) (cor c t ((2+2) % 3)) 23 dc_ dc_ l (e _) (e _))) U9<|Vi (0) U9 k_ U2<|UO (bkT f 2) U8<|Vi (2) U9 k_ U2<|UO (bkT f 2) U8<|Vi (4) U9 k_ U2<|UO (bkT f 2) U8<|Vh (fun _=>(lD _ g.m_ (cor c t 0) (cor c t 1) (cor c t 2) 23 dc_ dc_ (e 0) (e 1) (e 2))) U9<|Vh (fun _=>(ik _ g.m_ _ _ 189 dc_ dc_ (u _ _ (e _) (e _)) v s)) U9<|UR 3 U<|Vi (_) U9 k_ U2<|UX (j:=0) U12<|US [5,6,9,10,11,28] d U<|UN 1 U fun R d=>Vi (_) U9 k_ U2<|UW ag U9<|UZ (uw _ g.m_ (wgt c t p 2) (q 2)) U7<|C6 5 [5,6,9,10,13,28] d U<|UM 2 [5,6,9,10,13,28,64] U<|G.cd (fun N=>?_) fun N=>?_
  ·exact absurd N dc_
  refine UQ fun R d=>UV _ U U6<|C6 1 [5,6,9,10,28] d U<|U0 (m':=0) om_ mup (hn_ [5,6,9,10,28] U) ⟨3,by decide,U,U,U⟩
 have J:j=3:=by
  simp only[RJ]at w;omega
 subst J;refine UQ fun R d=>UW ag U9<|UX (j:=1) U12<|C6 1 [6,7] d U<|U1 (V4 ag U5 ?_);exact⟨U,U⟩
end Go.Proofs.YtfjcldheldflbaaGreatDoor
