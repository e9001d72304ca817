/- Laws that the proofs of this seat share, part 9. -/
import Derived.Test.YtfjcldheldflbaaGreatDoorG8
import Derived.Test.YtfjcldheldflbaaGreatDoorShelf
set_option maxHeartbeats 4000000
namespace Go.Proofs.YtfjcldheldflbaaGreatDoor
open Go.Proofs.Tryz
open Go Go.Jog
set_option maxRecDepth 100000
variable {C:Mem}{a b:Rat}{bv:Value}{c:Rat}{fs:List Rat}{i k m n:Nat}{p:Pt}{pts:List Pt}{q:Rat}{t:Tri}{tris:List Tri}{z:Int}{α:Type}
theorem cq {f:α->List Value}{l:List α}{x:α}(h:l[i]?=some x):(l.map f)[i]?=some (f x):=by rw[Rr,h];rfl
def nj (n:Nat)(l:List Str):Int:=if l.length=n then oH (l.all aR) else 5
theorem yL (C:Mem)(y:Tabs C)(z v A:Value)(b:List Pt)(f:List Tri)(l:List Str)(B:MeshIn C z b f)(D:Good b f)(g:Sl C 1 v [[A]])(k:Sl C 1 A (l.map ef))(N:∀ s∈l,s.length<=999998) :
  Gives cx.P 61 [z,v] C (i_ (nj b.length l)):=by
 have E:=B;have aa:=D.ok.lp;obtain⟨v1,v2,rfl,h1,h2⟩:=id B.ex;obtain⟨A1,c1,rfl,ab,ac,_⟩:=id h1;obtain⟨F,H,rfl,ad,ae,_⟩:=id g;obtain⟨n,o,rfl,O,af,_⟩:=id k;have ag:=mx_
 simp only[au,Rp]at h1 g k E O⊢;refine Vi func61 41 U3 fun w0=>Vd fun R a=>Vs U6 fun I=>C6 1 [1,2] a U<|G.freeze 0 U fun _ _ J=>Vd fun R a=>Vb (PtrTo.block (Mem.get J mup) _) U8<|Vl (fH _ y.m_ _ b f E.m_ D) U7<|C6 1 [1,2,5] a U<|U1 2 [1,2,5,14] U<|G.cd (fun K=>?_) fun K=>?_
 ·exact absurd K dc_
 refine U1 3 [2,16,17,18] U<|G.loop (fun fr Q p q=>∃ (i:Nat),(i<=1/\(i=1->l.length=b.length/\l.all aR=true))/\fr=[(2,[],p_ I),(16,[],.slice F 1 H),(17,[],i_ 1),(18,[],i_ i)]/\p=[]/\q=1-i) (hn_ [2,16,17,18] U) ⟨0,⟨Rv _,fun h=>absurd h dc_⟩,U,U,U⟩ (fun fr ah aj m _ r=>?_);obtain⟨i,⟨hi,S⟩,rfl,rfl,rfl⟩:=r;refine U1 1 [2,16,17,18,19] U<|G.cd (fun t=>?_) fun t=>?_
 ·obtain rfl:i=0:=by
   simp only[Ry]at t;omega
  refine Vd fun R a=>Vq g.m_ U10 om_ (rfl:([[.slice n l.length o]]:List (List Value))[0]?=some [.slice n l.length o]) fl_ fun ak T=>Vb T U8<|C6 1 [2,7,16,17,18] a U<|Va 3 U fun R a=>Vb (PtrTo.block (Mem.get J mup) _) U8<|C6 2 [2,7,16,17,18,27] a U<|G.cd (fun d=>?_) fun d=>?_
  ·have V:l.length≠b.length:=by
    intro e;rw[e]at d;simp at d
   exact U1 1 [4] U<|Vg U2<|⟨by unfold nj;rw[aF V],U⟩
  have L:l.length=b.length:=by
   have h:((l.length:Nat):Int)=(b.length:Nat):=by simpa using d
   omega
  refine U1 3 [2,16,17,18,28,29,30] U<|G.loop (fun fr Q p q=>∃ (j:Nat),(j<=l.length/\(l.take j).all aR=true)/\fr=[(2,[],p_ I),(16,[],.slice F 1 H),(17,[],i_ 1),(18,[],i_ 0),(28,[],.slice n l.length o),(29,[],i_ l.length),(30,[],i_ j)]/\p=[]/\q=l.length-j) (hn_ [2,16,17,18,28,29,30] U) ⟨0,⟨Rv _,by simp⟩,U,U,U⟩ (fun fr al am m W r=>?_);obtain⟨j,⟨hj,u⟩,rfl,rfl,rfl⟩:=r;refine U1 1 [2,16,17,18,28,29,30,31] U<|G.cd (fun w=>?_) fun w=>?_
  ·have x:j<l.length:=by simpa using w
   obtain⟨s,hs⟩:∃ s,l[j]?=some s:=⟨l[j],ai x⟩;refine Vd fun R a=>Vq k.m_ U10 om_ (cq hs) fl_ fun an X=>Vb X U8<|C6 1 [2,9,16,17,18,28,29,30] a U<|Va 1 U fun R a=>Vl (dE _ y.m_ s (N s (aU hs))) U7<|C6 1 [2,10,16,17,18,28,29,30] a U<|U1 2 [2,10,16,17,18,28,29,30,37] U<|G.cd (fun c=>?_) fun c=>?_
   ·have M:aR s=false:=by
     rcases eN (aR s) with⟨h1,h2⟩|⟨h1,h2⟩
     ·rw[h1]at c;exact absurd c dc_
     exact h2
    refine U1 2 [4] U<|Vg U2<|⟨?_,U⟩;unfold nj;rw[aM L,M,show l.all aR=false from TU.2 ⟨s,aU hs,by rw[M];decide⟩]
   have Y:aR s=true:=by
    rcases eN (aR s) with⟨h1,h2⟩|⟨h1,h2⟩
    ·exact h2
    rw[h1]at c;exact absurd c dc_
   refine Vd fun R a=>Vh _ U U6<|C6 1 [2,16,17,18,28,29,30] a U<|Vn (m':=l.length-(j+1)) om_ W (hn_ [2,16,17,18,28,29,30] U) ⟨j+1,⟨by omega,by rw[RR,hs,US,u];simp[Y]⟩,U,U,U⟩
  have x:j=l.length:=by
   have:¬ j<l.length:=by simpa using w
   omega
  refine Vd fun R a=>Vh _ U U6<|C6 1 [2,16,17,18] a U<|Vn (m':=0) om_ mup (hn_ [2,16,17,18] U) ⟨1,⟨Ro _,fun _=>⟨L,by rw[x,Rz]at u;exact u⟩⟩,U,U,U⟩
 have Z:i=1:=by
  simp only[RZ]at t;omega
 refine U1 1 [4] U<|Vg U2<|⟨?_,U⟩;obtain⟨h3,h4⟩:=S Z;unfold nj;rw[aM h3,h4];rfl
theorem mG (C:Mem)(h:Tabs C)(e f:Value)(a:List Pt)(b:List Tri)(l:List Str)(g:MeshIn C e a b)(i:Good a b)(c:Sl C 1 f (l.map ef))(j:∀ s∈l,s.length<=999998) :
  Gives cx.P 217 [e,f] C (i_ (nj a.length l)):=by
 have k:=g;obtain⟨p,q,rfl,h1,h2⟩:=id g.ex;obtain⟨m,n,rfl,r,t,_⟩:=id c;simp only[au]at c⊢;exact Vi func217 9 U3 fun w0=>Vd fun R d=>Vs U6 fun u=>C6 1 [1,2] d U<|Vd fun R d=>Vj ag U9<|Vc U6<|Vy [[.slice m l.length n]] U12 fun v _ _ o=>Vl (yL _ h.m_ _ _ _ a b l k.m_ i o.m_ c.m_ j) U7<|C6 1 [4] d U<|Vg U2<|⟨U,U⟩
def dJ (q:Rat):List Value:=[ae (qtx q)]
def fz (fs:List Rat)(t:Tri)(j:Nat):Rat:=fs.getD (gY t j) 0
def AK (pts:List Pt)(fs:List Rat)(t:Tri)(j:Nat):List Value:=gx (cor pts t j)++dJ (fz fs t j)
theorem HW (h:i<fs.length):fs[i]?=some (fs.getD i 0):=by
 rw[am,ai h];rfl
theorem AD (C:Mem)(r s:Value)(b:List Pt)(l:List Tri)(c:List Rat)(z:MeshIn C r b l)(A:MeshOk b l)(e:Sl C 1 s (c.map dJ))(n:c.length=b.length)(i:Nat)(t:Tri)(o:l[i]?=some t) :
  Gives cx.P 192 [r,s,.int .i64 i] C (.agg ⟨AK b c t 0++AK b c t 1++AK b c t 2⟩):=by
 have d:=A.ins t (aU o);obtain⟨M,N,rfl,h1,h2⟩:=id z.ex;obtain⟨O,Q,rfl,B,S,_⟩:=id h1;obtain⟨A2,c2,rfl,D,T,_⟩:=id h2;obtain⟨E,F,rfl,V,W,_⟩:=id e;have X:maxLen<=9223372036854775807:=by simp[maxLen]
 simp only[au]at h1 h2 e B D⊢;have Y:=(aJ.1 o).1;refine Vi func192 32 U3 fun w0=>Vd fun R a=>Vs U6 fun H=>Vt U5 fun u=>Vf [1,2,3,6] a U<|G.freeze 1 U fun _ _ h=>Va 1 U fun R a=>Vb (PtrTo.block (Mem.get h mup) _) U8<|Vc U6<|Vq h2.m_ U10 om_ (cq o) fl_ fun Z I=>Vb I U8<|C6 1 [1,3,6,13,14] a U<|G.loop (fun fr C' J K=>∃ (j:Nat),(j<=3)/\fr=[(1,[],.slice E c.length F),(3,[],.pointer (some ⟨H,0,none⟩)),(6,[],.pointer (some ⟨u,0,none⟩)),(13,[],.agg ⟨iB t⟩),(14,[],.int .i64 j)]/\J=[.obj u (.cells ⟨(List.range 3).flatMap fun k=>if k<j then AK b c t k else [ae [],ae [],ae []]⟩ 279 (0,0))]/\K=3-j) (hn_ [1,3,6,13,14] U) ⟨0,Rv _,U,U,U⟩ (fun fr aa ab m p L=>?_);obtain⟨j,hj,rfl,rfl,rfl⟩:=L;refine U1 1 [1,3,6,13,14,15] U<|G.cd (fun q=>?_) fun q=>?_
 ·have v:j<3:=by
   simp only[Ry]at q;omega
  rcases(by omega:j=0∨j=1∨j=2) with rfl|rfl|rfl
  ·refine Va 1 U fun R a=>V3 U11 (fun _=>⟨by decide,by decide,U⟩) U2<|C6 2 [1,3,6,7,8,13,14] a U<|Vv [0,1,2,3,4,5,6,7,8,9,10,11,12] [] U kr_ fun R w a=>Ve 2 U<|Vb (PtrTo.block (Mem.get h mup) _) U8<|Vc U6<|Vq h1.m_ U10 om_ (cq (qj (eS d 0))) fl_ fun x f=>Vb f U8<|Ve 2 U<|Vq e.m_ U10 om_ (cq (HW (n ▸ eS d 0))) fl_ fun y g=>Vb g U8<|Vu (AK b c t 0) U8<|Vw (_) U9 (fun _=>⟨by decide,by decide,U⟩) U2<|Vk (j:=0) U12<|Vf [1,3,6,13,14] a U<|Vd fun R a=>Vh _ U U6<|C6 1 [1,3,6,13,14] a U<|Vn (m':=2) om_ p (hn_ [1,3,6,13,14] U) ⟨1,by decide,U,U,U⟩
  ·refine Va 1 U fun R a=>V3 U11 (fun _=>⟨by decide,by decide,U⟩) U2<|C6 2 [1,3,6,7,8,13,14] a U<|Vv [0,1,2,3,4,5,6,7,8,9,10,11,12] [] U kr_ fun R w a=>Ve 2 U<|Vb (PtrTo.block (Mem.get h mup) _) U8<|Vc U6<|Vq h1.m_ U10 om_ (cq (qj (eS d 1))) fl_ fun x f=>Vb f U8<|Ve 2 U<|Vq e.m_ U10 om_ (cq (HW (n ▸ eS d 1))) fl_ fun y g=>Vb g U8<|Vu (AK b c t 1) U8<|Vw (_) U9 (fun _=>⟨by decide,by decide,U⟩) U2<|Vk (j:=0) U12<|Vf [1,3,6,13,14] a U<|Vd fun R a=>Vh _ U U6<|C6 1 [1,3,6,13,14] a U<|Vn (m':=1) om_ p (hn_ [1,3,6,13,14] U) ⟨2,by decide,U,U,U⟩
  refine Va 1 U fun R a=>V3 U11 (fun _=>⟨by decide,by decide,U⟩) U2<|C6 2 [1,3,6,7,8,13,14] a U<|Vv [0,1,2,3,4,5,6,7,8,9,10,11,12] [] U kr_ fun R w a=>Ve 2 U<|Vb (PtrTo.block (Mem.get h mup) _) U8<|Vc U6<|Vq h1.m_ U10 om_ (cq (qj (eS d 2))) fl_ fun x f=>Vb f U8<|Ve 2 U<|Vq e.m_ U10 om_ (cq (HW (n ▸ eS d 2))) fl_ fun y g=>Vb g U8<|Vu (AK b c t 2) U8<|Vw (_) U9 (fun _=>⟨by decide,by decide,U⟩) U2<|Vk (j:=0) U12<|Vf [1,3,6,13,14] a U<|Vd fun R a=>Vh _ U U6<|C6 1 [1,3,6,13,14] a U<|Vn (m':=0) om_ p (hn_ [1,3,6,13,14] U) ⟨3,by decide,U,U,U⟩
 have v:j=3:=by
  simp only[RZ]at q;omega
 subst v;refine Vd fun R a=>Vj ag U9<|Vk (j:=0) U12<|Vf [6] a U<|Vo (VU ag U4 ?_);exact⟨U,U⟩
/-! Finer bounds. -/
theorem jD (c:QB k a)(d:QB m b):QB (k+m) (a*b):=by
 rw[eV];refine gr (Nat.mul_ne_zero a.den_nz b.den_nz) ?_ ?_
 ·rw[SK,TD];exact SQ c.1 d.1
 rw[TD];exact SQ c.2 d.2
theorem vS (c:QB k a)(d:QB m b):QB (k+m+1) (a+b):=by
 rw[eW];have e:B9 ^ (k+m+1)=B9 ^ k*B9 ^ m*B9:=by rw[SF,TD]
 have f:(a.num*b.den).natAbs<B9 ^ k*B9 ^ m:=by rw[SK,R7];exact SQ c.1 d.2
 have g:(b.num*a.den).natAbs<B9 ^ k*B9 ^ m:=by rw[SK,R7,R8];exact SQ c.2 d.1
 have h:a.den*b.den<B9 ^ k*B9 ^ m:=SQ c.2 d.2;have i:2*(B9 ^ k*B9 ^ m)<=B9 ^ k*B9 ^ m*B9:=by
  rw[R8];exact SN _ dc_
 refine gr (Nat.mul_ne_zero a.den_nz b.den_nz) ?_ ?_
 ·rw[e];have:=TT (a.num*b.den) (b.num*a.den);omega
 rw[e];omega
theorem fq (c:QB k a)(d:QB m b):QB (k+m+1) (a-b):=by
 rw[Ux];exact vS c (eQ d)
theorem QB_one:QB 1 1:=⟨by decide,by decide⟩
theorem QB_zero:QB 1 0:=⟨by decide,by decide⟩
def eD (a b c d:Rat):Rat:=a*d-b*c
theorem re (C:Mem)(e:Tabs C)(a b c d:Rat)(k:Nat)(f:0<k)(m:k<=2000)(g:QB k a)(h:QB k b)(i:QB k c)(j:QB k d):Gives cx.P 193 [ae (qtx a),ae (qtx b),ae (qtx c),ae (qtx d)] C (ae (qtx (eD a b c d))):=by
 exact Vi func193 16 U3 fun w0=>U1 1 [0,1,2,3] U<|Va 2 U fun R l=>Vm (df _ e.m_ a d k f om_ g j) U7 fl_<|Ve 2 U<|Vm (df _ e.m_ b c k f om_ h i) U7 fl_<|Vm (er _ e.m_ (a*d) (b*c) (k+k) om_ om_ (rN g j) (rN h i)) U7 fl_<|C6 1 [8] l U<|Vg U2<|⟨U,U⟩
theorem kw {d:Rat}(e:QB k a)(f:QB k b)(g:QB k c)(h:QB k d):QB (4*k+1) (eD a b c d):=(fq (jD e h) (jD f g)).le om_
def og (c0 c1 c2:Pt)(z0 z1 z2:Rat):Pt :=
 ((1 / eD (c1.1-c0.1) (c1.2-c0.2) (c2.1-c0.1) (c2.2-c0.2))*eD (z1-z0) (c1.2-c0.2) (z2-z0) (c2.2-c0.2),
 (1 / eD (c1.1-c0.1) (c1.2-c0.2) (c2.1-c0.1) (c2.2-c0.2))*eD (c1.1-c0.1) (z1-z0) (c2.1-c0.1) (z2-z0))
def dD (pts:List Pt)(fs:List Rat)(t:Tri):Pt:=og (cor pts t 0) (cor pts t 1) (cor pts t 2) (fz fs t 0) (fz fs t 1) (fz fs t 2)
theorem Ou (a:MeshOk pts tris)(b:fs.length=pts.length)(c:∀ q∈fs,QB k q)(d:t∈tris)(j:Nat):QB k (fz fs t j) :=
 c _ (aU (HW (b ▸ eS (a.ins t d) j)))
theorem wQ (d:MeshOk pts tris)(g:fs.length=pts.length)(h:∀ q∈fs,QB k q)(e:t∈tris):QP (8*k+39) (dD pts fs t):=by
 have a:=fun j=>ot d e j;have f:=fun j=>Ou d g h e j;have b:∀ i j,QB 3 ((cor pts t i).1-(cor pts t j).1):=fun i j=>(fq (a i).1 (a j).1).le dc_;have hy:∀ i j,QB 3 ((cor pts t i).2-(cor pts t j).2):=fun i j=>(fq (a i).2 (a j).2).le dc_;have c:∀ i j,QB (2*k+1) (fz fs t i-fz fs t j):=fun i j=>(fq (f i) (f j)).le om_;have hm:QB 13 (eD ((cor pts t 1).1-(cor pts t 0).1) ((cor pts t 1).2-(cor pts t 0).2) ((cor pts t 2).1-(cor pts t 0).1) ((cor pts t 2).2-(cor pts t 0).2)):=(kw (k:=3) (b 1 0) (hy 1 0) (b 2 0) (hy 2 0)).le dc_;have l:eD ((cor pts t 1).1-(cor pts t 0).1) ((cor pts t 1).2-(cor pts t 0).2) ((cor pts t 2).1-(cor pts t 0).1) ((cor pts t 2).2-(cor pts t 0).2)≠0:=iv d e;have h1:QB 26 _:=(jE (k:=13) (QB_one.le dc_) hm l).le dc_;have m:QB (4*(2*k+3)+1) (eD (fz fs t 1-fz fs t 0) ((cor pts t 1).2-(cor pts t 0).2) (fz fs t 2-fz fs t 0) ((cor pts t 2).2-(cor pts t 0).2)):=kw (k:=2*k+3) ((c 1 0).le om_) ((hy 1 0).le om_) ((c 2 0).le om_) ((hy 2 0).le om_);have n:QB (4*(2*k+3)+1) (eD ((cor pts t 1).1-(cor pts t 0).1) (fz fs t 1-fz fs t 0) ((cor pts t 2).1-(cor pts t 0).1) (fz fs t 2-fz fs t 0)):=kw (k:=2*k+3) ((b 1 0).le om_) ((c 1 0).le om_) ((b 2 0).le om_) ((c 2 0).le om_);exact⟨(jD h1 m).le om_,(jD h1 n).le om_⟩
theorem yo (C:Mem)(d:Tabs C)(r s:Value)(a:List Pt)(n:List Tri)(b:List Rat)(k:Nat)(u:0<k)(K:k<=100)(v:MeshIn C r a n)(o:MeshOk a n)(D:Sl C 1 s (b.map dJ))(w:b.length=a.length)(E:∀ q∈b,QB k q)(i:Nat)(t:Tri)(x:n[i]?=some t) :
  Gives cx.P 125 [r,s,.int .i64 i] C (ptV (dD a b t)):=by
 have p:=aU x;have F:=v;obtain⟨L,M,rfl,h1,h2⟩:=id v.ex;have e:=fun j=>ot o p j;have m:=fun j=>Ou o w E p j;have g:∀ i j,QB 3 ((cor a t i).1-(cor a t j).1):=fun i j=>(fq (e i).1 (e j).1).le dc_;have hy:∀ i j,QB 3 ((cor a t i).2-(cor a t j).2):=fun i j=>(fq (e i).2 (e j).2).le dc_;have l:∀ i j,QB (2*k+1) (fz b t i-fz b t j):=fun i j=>(fq (m i) (m j)).le om_;have y:QB 13 (eD ((cor a t 1).1-(cor a t 0).1) ((cor a t 1).2-(cor a t 0).2) ((cor a t 2).1-(cor a t 0).1) ((cor a t 2).2-(cor a t 0).2)):=(kw (k:=3) (g 1 0) (hy 1 0) (g 2 0) (hy 2 0)).le dc_;have z:eD ((cor a t 1).1-(cor a t 0).1) ((cor a t 1).2-(cor a t 0).2) ((cor a t 2).1-(cor a t 0).1) ((cor a t 2).2-(cor a t 0).2)≠0:=iv o p;have A:QB 26 (1 / eD ((cor a t 1).1-(cor a t 0).1) ((cor a t 1).2-(cor a t 0).2) ((cor a t 2).1-(cor a t 0).1) ((cor a t 2).2-(cor a t 0).2)):=(jE (k:=13) (QB_one.le dc_) y z).le dc_;have H:QB (8*k+26) (eD (fz b t 1-fz b t 0) ((cor a t 1).2-(cor a t 0).2) (fz b t 2-fz b t 0) ((cor a t 2).2-(cor a t 0).2)):=(kw (k:=2*k+3) ((l 1 0).le om_) ((hy 1 0).le om_) ((l 2 0).le om_) ((hy 2 0).le om_)).le om_;have I:QB (8*k+26) (eD ((cor a t 1).1-(cor a t 0).1) (fz b t 1-fz b t 0) ((cor a t 2).1-(cor a t 0).1) (fz b t 2-fz b t 0)):=(kw (k:=2*k+3) ((g 1 0).le om_) ((l 1 0).le om_) ((g 2 0).le om_) ((l 2 0).le om_)).le om_;refine Vi func125 98 U3 fun w0=>Vd fun R c=>Vs U6 fun N=>Vt U5 fun O=>Vf [1,2,3,6] c U<|Vd fun R c=>Vj af U9<|Ve 2 U<|Vl (AD _ _ _ a n b F.m_ o D.m_ w i t x) U7<|Vt U5 fun Q=>Vk (j:=0) U12<|Vf [6,7] c U<|G.freeze 0 U fun J _ f=>Vv [0,1,2,3,4,5,6,7,8,9,10,11,12,13,14,15,16,17,18,19] [(8,1),(17,1)] U kr_ fun R B c=>Vw (3) U9 (fun _=>⟨by decide,by decide,U⟩) U2<|Ve 2 U<|Vb (bkT f 1) U8<|Vw (0) U9 (fun _=>⟨by decide,by decide,U⟩) U2<|Ve 2 U<|Vb (bkT f 1) U8<|Vx (fun _=>(er _ d.m_ (cor a t 1).1 (cor a t 0).1 1 dc_ dc_ (e 1).1 (e 0).1)) U9<|Vw (3) U9 (fun _=>⟨by decide,by decide,U⟩) U2<|Ve 2 U<|Vb (bkT f 1) U8<|Vw (0) U9 (fun _=>⟨by decide,by decide,U⟩) U2<|Ve 2 U<|Vb (bkT f 1) U8<|Vx (fun _=>(er _ d.m_ (cor a t 1).2 (cor a t 0).2 1 dc_ dc_ (e 1).2 (e 0).2)) U9<|C6 2 [6,7,8,9] c U<|Vv [0,1,2,3,4,5,6,7,8,9,10,11,12,13,14,15,16,17,18,19] [(8,1),(17,1)] U kr_ fun R B c=>Vw (6) U9 (fun _=>⟨by decide,by decide,U⟩) U2<|Ve 2 U<|Vb (bkT f 1) U8<|Vw (0) U9 (fun _=>⟨by decide,by decide,U⟩) U2<|Ve 2 U<|Vb (bkT f 1) U8<|Vx (fun _=>(er _ d.m_ (cor a t 2).1 (cor a t 0).1 1 dc_ dc_ (e 2).1 (e 0).1)) U9<|Vw (6) U9 (fun _=>⟨by decide,by decide,U⟩) U2<|Ve 2 U<|Vb (bkT f 1) U8<|Vw (0) U9 (fun _=>⟨by decide,by decide,U⟩) U2<|Ve 2 U<|Vb (bkT f 1) U8<|Vx (fun _=>(er _ d.m_ (cor a t 2).2 (cor a t 0).2 1 dc_ dc_ (e 2).2 (e 0).2)) U9<|C6 2 [6,7,8,9,10,11] c U<|Vv [0,1,2,3,4,5,6,7,8,9,10,11,12,13,14,15] [(6,1),(13,1)] U kr_ fun R B c=>Vw (3) U9 (fun _=>⟨by decide,by decide,U⟩) U2<|Vc U6<|Vb (bkT f 1) U8<|Vw (0) U9 (fun _=>⟨by decide,by decide,U⟩) U2<|Vc U6<|Vb (bkT f 1) U8<|Vx (fun _=>(er _ d.m_ (fz b t 1) (fz b t 0) k u om_ (m 1) (m 0))) U9<|Vw (6) U9 (fun _=>⟨by decide,by decide,U⟩) U2<|Vc U6<|Vb (bkT f 1) U8<|Vw (0) U9 (fun _=>⟨by decide,by decide,U⟩) U2<|Vc U6<|Vb (bkT f 1) U8<|Vx (fun _=>(er _ d.m_ (fz b t 2) (fz b t 0) k u om_ (m 2) (m 0))) U9<|C6 2 [6,8,9,10,11,12,13] c U<|U1 1 [6,8,9,10,11,12,13,14] U<|Va 5 U fun R c=>Vm (re _ d.m_ _ _ _ _ 3 dc_ dc_ (g 1 0) (hy 1 0) (g 2 0) (hy 2 0)) U7 fl_<|Vm (by have h:=ia J d.m_ 1 _ 13 dc_ dc_ (QB_one.le dc_) y z;rw[dF]at h;exact h) U7 fl_<|C6 5 [6,8,9,10,11,12,13,14,15] c U<|Va 6 U fun R c=>Vm (re _ d.m_ (fz b t 1-fz b t 0) ((cor a t 1).2-(cor a t 0).2) (fz b t 2-fz b t 0) ((cor a t 2).2-(cor a t 0).2) (2*k+3) om_ om_ ((l 1 0).le om_) ((hy 1 0).le om_) ((l 2 0).le om_) ((hy 2 0).le om_)) U7 fl_<|Vm (df _ d.m_ _ _ (8*k+26) om_ om_ (A.le om_) H) U7 fl_<|Ve 6 U<|Vm (re _ d.m_ ((cor a t 1).1-(cor a t 0).1) (fz b t 1-fz b t 0) ((cor a t 2).1-(cor a t 0).1) (fz b t 2-fz b t 0) (2*k+3) om_ om_ ((g 1 0).le om_) ((l 1 0).le om_) ((g 2 0).le om_) ((l 2 0).le om_)) U7 fl_<|Vm (df _ d.m_ _ _ (8*k+26) om_ om_ (A.le om_) I) U7 fl_<|Vu (gx (dD a b t)) U8<|Vk (j:=0) U12<|Vf [6] c U<|Vo (VU ag U4 ?_);exact⟨U,U⟩
def FR (l:List Rat):Rat:=l.foldl (·+·) 0
theorem FQ (l:List Rat)(q:Rat):FR (l++[q])=FR l+q:=by unfold FR;rw[List.foldl_append];rfl
theorem Nq (C:Mem)(g:Tabs C)(v:Value)(l:List Rat)(k:Nat)(h:0<k)(j:k<=10000)(b:Sl C 1 v (l.map dJ))(n:∀ q∈l,QB k q)(o:∀ i,QB k (FR (l.take i))) :
  Gives cx.P 126 [v] C (ae (qtx (FR l))):=by
 obtain⟨p,c0,rfl,r,z,_⟩:=id b;have A:=mx_
 simp only[au]at b r⊢;refine Vi func126 17 U3 fun w0=>U1 1 [0] U<|U1 1 [0,3] U<|U1 3 [3,6,7,8] U<|G.loop (fun fr B t u=>∃ (i:Nat)(s:Str),(i<=l.length/\s=qtx (FR (l.take i)))/\fr=[(3,[],ae s),(6,[],.slice p l.length c0),(7,[],i_ l.length),(8,[],i_ i)]/\t=[]/\u=l.length-i) (hn_ [3,6,7,8] U) ⟨0,[48],⟨Rv _,qtx_zero.symm⟩,U,U,U⟩ (fun fr D E m w x=>?_);obtain⟨i,s,⟨F,f⟩,rfl,rfl,rfl⟩:=x;refine U1 1 [3,6,7,8,9] U<|G.cd (fun c=>?_) fun c=>?_
 ·have d:i<l.length:=by simpa using c
  obtain⟨q,e⟩:∃ q,l[i]?=some q:=⟨l[i],ai d⟩;subst f;refine Vd fun R a=>Vq b.m_ U10 om_ (cq e) fl_ fun H y=>Vb y U8<|C6 1 [3,5,6,7,8] a U<|Va 2 U fun R a=>Vl (kV _ g.m_ (FR (l.take i)) q k h j (o i) (n q (aU e))) U7<|C6 1 [3,6,7,8] a U<|Vd fun R a=>Vh _ U U6<|C6 1 [3,6,7,8] a U<|Vn (m':=l.length-(i+1)) om_ w (hn_ [3,6,7,8] U) ⟨i+1,_,⟨by omega,by rw[RR,e,SR,FQ]⟩,U,U,U⟩
 have d:i=l.length:=by
  have:¬ i<l.length:=by simpa using c
  omega
 exact U1 2 [2] U<|Vg U2<|⟨by rw[f,d,Rz],U⟩
def zO (q:Rat):Value:=if aR (qtx q) then .tuple #[ae (qtx q),.int .i64 0] else .tuple #[ae [],.int .i64 4]
theorem HX (C:Mem)(b:Tabs C)(q:Rat)(c:(qtx q).length<=999998):Gives cx.P 62 [ae (qtx q)] C (zO q):=by
 refine Vi func62 8 U3 fun w0=>U1 2 [0] U<|Va 1 U fun R d=>Vl (dE _ b.m_ _ c) U7<|C6 1 [0,6] d U<|G.cd (fun a=>?_) fun a=>?_
 ·have e:aR (qtx q)=false:=by
   rcases eN (aR (qtx q)) with⟨h1,h2⟩|⟨h1,h2⟩
   ·rw[h1]at a;exact absurd a dc_
   exact h2
  refine U1 2 [2,3] U<|Vo (G.dropAll (VA U3 ?_));exact⟨by unfold zO;rw[e];rfl,U⟩
 have f:aR (qtx q)=true:=by
  rcases eN (aR (qtx q)) with⟨h1,h2⟩|⟨h1,h2⟩
  ·exact h2
  rw[h1]at a;exact absurd a dc_
 refine U1 3 [2,3] U<|Vo (G.dropAll (VA U3 ?_));exact⟨by unfold zO;rw[f];rfl,U⟩
def onQ (pts:List Pt)(fs:List Rat)(t:Tri)(p:Pt):Rat:=FR [fz fs t 0,(dD pts fs t).1*(p.1-(cor pts t 0).1),(dD pts fs t).2*(p.2-(cor pts t 0).2)]
theorem Mp (n:k<=23)(a:MeshOk pts tris)(c:fs.length=pts.length)(d:∀ q∈fs,QB k q)(b:t∈tris)(e:QP 23 p):QB 600 (onQ pts fs t p)/\(∀ i,QB 600 (FR ([fz fs t 0,(dD pts fs t).1*(p.1-(cor pts t 0).1),(dD pts fs t).2*(p.2-(cor pts t 0).2)].take i)))/\QB 600 (fz fs t 0)/\QB 600 ((dD pts fs t).1*(p.1-(cor pts t 0).1))/\QB 600 ((dD pts fs t).2*(p.2-(cor pts t 0).2)):=by
 have hs:=wQ a c d b;have f:=ot a b 0;have g:=Ou a c d b 0;have h1:QB 248 ((dD pts fs t).1*(p.1-(cor pts t 0).1)):=(jD hs.1 (fq e.1 f.1)).le om_;have h2:QB 248 ((dD pts fs t).2*(p.2-(cor pts t 0).2)):=(jD hs.2 (fq e.2 f.2)).le om_;have h:QB 25 (0+fz fs t 0):=(vS QB_zero g).le om_;have j:QB 274 (0+fz fs t 0+(dD pts fs t).1*(p.1-(cor pts t 0).1)):=(vS h h1).le om_;have l:QB 523 (0+fz fs t 0+(dD pts fs t).1*(p.1-(cor pts t 0).1)+(dD pts fs t).2*(p.2-(cor pts t 0).2)):=(vS j h2).le om_;refine⟨l.le dc_,fun i=>?_,g.le om_,h1.le dc_,h2.le dc_⟩;rcases(by omega:i=0∨i=1∨i=2∨3<=i) with rfl|rfl|rfl|m
 ·exact QB_zero.le dc_
 ·exact h.le dc_
 ·exact j.le dc_
 rw[RN (by simpa using m)];exact l.le dc_
theorem M9 (e:QB k a)(f:QB k b)(g:QB k c):∀ q∈[a,b,c],QB k q:=by
 intro q d;simp only[RC,Ss,TS]at d;rcases d with rfl|rfl|rfl <;> assumption
theorem Q5 (C:Mem)(d:Tabs C)(u v:Value)(a:List Pt)(g:List Tri)(c:List Rat)(k:Nat)(E:0<k)(F:k<=23)(w:MeshIn C u a g)(e:MeshOk a g)(h:Sl C 1 v (c.map dJ))(l:c.length=a.length)(r:∀ q∈c,QB k q)(i:Nat)(t:Tri)(m:g[i]?=some t)(p:Pt)(f:QP 23 p) :
  Gives cx.P 63 [u,v,i_ i,ptV p] C (ae (qtx (onQ a c t p))):=by
 have n:=aU m;have x:=e.ins t n;have y:=w;have z:=h;obtain⟨Y,Z,rfl,h1,h2⟩:=id w.ex;obtain⟨A1,c1,rfl,H,aa,_⟩:=id h1;obtain⟨A2,c2,rfl,I,ab,_⟩:=id h2;obtain⟨A4,c4,rfl,ac,ad,_⟩:=id h;have af:=mx_
 simp only[au]at h1 h2 h z y H I⊢;have ag:=(aJ.1 m).1;have o:=ot e n 0;obtain⟨ah,J,K,L,M⟩:=Mp F e l r n f;have hs:=wQ e l r n;have N:QB 25 (p.1-(cor a t 0).1):=(fq f.1 o.1).le dc_;have O:QB 25 (p.2-(cor a t 0).2):=(fq f.2 o.2).le dc_;refine Vi func63 49 U3 fun w0=>Vd fun R b=>Vs U6 fun b4=>Vs U6 fun b7=>C6 1 [1,2,4,7] b U<|G.freeze 1 U fun _ _ s=>Vd fun R b=>Vb (PtrTo.block (Mem.get s mup) _) U8<|Ve 2 U<|Vm (yo _ d.m_ _ _ a g c k E om_ y.m_ e z.m_ l r i t m) U7 fl_<|Vt U5 fun b9=>Vk (j:=0) U12<|Vf [1,2,4,7,9] b U<|Va 1 U fun R b=>Vb (PtrTo.block (Mem.get s mup) _) U8<|Vc U6<|Vq h2.m_ U10 om_ (cq m) fl_ fun ai Q=>WF U9 (fun _=>Q) (fun _=>⟨by omega,om_⟩) fl_ U (fun aj S=>?_);have T:=S trivial;exact Vb T U8<|C6 1 [1,4,7,9,10] b U<|Va 1 U fun R b=>Vb (PtrTo.block (Mem.get s mup) _) U8<|Vc U6<|Vq h1.m_ U10 om_ (cq (qj x.1)) fl_ fun ak V=>Vb V U8<|Vt U5 fun al=>Vk (j:=0) U12<|Vf [1,7,9,10,11] b U<|G.freeze 0 U fun _ _ A=>G.freeze 0 U fun _ _ B=>G.freeze 0 U fun _ _ D=>Vv [0,1,2,3,4,5,6,7,8,9,10,11,12,13,14,15,16,17,18,19,20,21,22] [(10,1),(11,1),(18,1),(19,1),(21,1)] U kr_ fun R hB b=>Ve 2 U<|Vq h.m_ U10 om_ (cq (HW (l ▸ x.1))) fl_ fun am W=>Vb W U8<|Vc U6<|Vb (bkT B 1) U8<|Vc U6<|Vb (bkT D 1) U8<|Vc U6<|Vb (bkT A 1) U8<|Vx (fun _=>(er _ d.m_ p.1 (cor a t 0).1 23 dc_ dc_ f.1 (o.1.le dc_))) U9<|Vx (fun _=>(df _ d.m_ _ _ 300 dc_ dc_ (hs.1.le om_) (N.le dc_))) U9<|Vc U6<|Vb (bkT B 1) U8<|Vc U6<|Vb (bkT D 1) U8<|Vc U6<|Vb (bkT A 1) U8<|Vx (fun _=>(er _ d.m_ p.2 (cor a t 0).2 23 dc_ dc_ f.2 (o.2.le dc_))) U9<|Vx (fun _=>(df _ d.m_ _ _ 300 dc_ dc_ (hs.2.le om_) (O.le dc_))) U9<|Vy ([fz c t 0,(dD a c t).1*(p.1-(cor a t 0).1),(dD a c t).2*(p.2-(cor a t 0).2)].map dJ) U12 fun an _ _ X=>Vx (fun _=>(Nq _ d.m_ _ _ 600 dc_ dc_ X.m_ (M9 K L M) J)) U9<|C6 1 [8] b U<|Vg U2<|⟨U,U⟩
def zi (pts:List Pt)(tris:List Tri)(fs:List Rat)(p:Pt):Value:=match kC pts tris p with
|[]=>.tuple #[ae [],.int .i64 28]
|i::_=>zO (onQ pts fs (tris.getD i (0,0,0)) p)
theorem yU (h:∀ q∈fs,aR (qtx q)=true):(fs.map qtx).all aR=true:=by
 rw[RI];intro s hs;obtain⟨q,a,rfl⟩:=Rs.1 hs;exact h q a
theorem fW (a:List Rat):a.map dJ=(a.map qtx).map ef:=by rw[So];rfl
theorem xo (b:k<=100)(h:∀ q∈fs,QB k q):∀ s∈fs.map qtx,s.length<=999998:=by
 intro s hs;obtain⟨q,a,rfl⟩:=Rs.1 hs;have:=bd ((h q a).le (TL k)) om_;omega
theorem rD (C:Mem)(i:Tabs C)(c v d:Value)(b:List Pt)(f:List Tri)(a:List Rat)(j:MeshIn C c b f)(l:Good b f)(m:Sl C 1 v [[d]])(g:Sl C 1 d (a.map dJ))(n:a.length=b.length)(r:k<=23)(o:∀ q∈a,QB k q)(p:∀ q∈a,aR (qtx q)=true) :
  Gives cx.P 61 [c,v] C (i_ 0):=by
 rw[fW]at g;have h:=yL C i c v d b f (a.map qtx) j l m g (xo om_ o);have e:nj b.length (a.map qtx)=0:=by unfold nj;rw[aM (by simpa using n),yU p];rfl
 rwa [e]at h
theorem Mr (h:i∈kC pts tris p):∃ t,tris[i]?=some t/\tris.getD i (0,0,0)=t/\zZ pts p t=true:=by
 unfold kC at h;rw[SY,RL]at h;obtain⟨h1,h2⟩:=h;obtain⟨t,a⟩:∃ t,tris[i]?=some t:=⟨tris[i],ai h1⟩;have b:tris.getD i (0,0,0)=t:=by rw[am,a,SG]
 rw[b]at h2;exact⟨t,a,b,h2⟩
theorem P4 (h:QB 600 q):(qtx q).length<=999998:=RD (bd h dc_) dc_
theorem ug (C:Mem)(e:Tabs C)(x y:Value)(a:List Pt)(c:List Tri)(b:List Rat)(k:Nat)(I:0<k)(j:k<=23)(z:MeshIn C x a c)(l:Good a c)(f:Sl C 1 y (b.map dJ))(m:b.length=a.length)(n:∀ q∈b,QB k q)(J:∀ q∈b,aR (qtx q)=true)(p:Pt)(o:QP 23 p)(K:PtR p) :
  Gives cx.P 15 [x,y,ptV p] C (zi a c b p):=by
 have A:=l.ok;have s:=z;obtain⟨Y,Z,rfl,h1,h2⟩:=id z.ex;obtain⟨L,M,rfl,aa,ab,_⟩:=id f;simp only[au]at f⊢;have ac:=mx_
 refine Vi func15 40 U3 fun w0=>Vd fun R d=>Vs U6 fun b3=>Vs U6 fun b5=>C6 2 [1,3,5] d U<|G.freeze 1 U fun _ _ u=>G.freeze 0 U fun _ _ B=>Vd fun R d=>Vb (PtrTo.block (Mem.get u mup) _) U8<|Vc U6<|Vy [[.slice L b.length M]] U12 fun ad _ _ N=>Vl (rD _ e.m_ _ _ _ a c b s.m_ l N.m_ f.m_ m j n J) U7<|C6 1 [1,3,5,8] d U<|U1 2 [1,3,5,8,16] U<|G.cd (fun D=>?_) fun D=>?_
 ·exact absurd D dc_
 refine Vd fun R d=>Vb (PtrTo.block (Mem.get u mup) _) U8<|Vb (PtrTo.block (Mem.get B mup) _) U8<|VJ (ml _ e.m_ _ a c p s.m_ l o K) U7 (fun af _ _ O=>?_);obtain⟨wv,rfl,v⟩:=O;obtain⟨Aw,cw,E,_⟩:=id v;rw[au]at E;subst E;refine C6 5 [1,3,5,9,10] d U<|U1 2 [1,3,5,9,10,25] U<|G.cd (fun F=>?_) fun F=>?_
 ·exact absurd F dc_
 refine U1 3 [1,3,5,9,29] U<|G.cd (fun g=>?_) fun g=>?_
 ·have Q:kC a c p=[]:=by
   have h:(((kC a c p).length:Nat):Int)=0:=by simpa using g
   exact Sd om_
  refine U1 2 [6,7] U<|Vo (G.dropAll (VA U3 ?_));exact⟨by unfold zi;rw[Q];rfl,U⟩
 obtain⟨i,r,w⟩:∃ i r,kC a c p=i::r:=by
  cases S:kC a c p with
 |nil=>rw[S]at g;exact absurd g dc_
 |cons i r=>exact⟨i,r,rfl⟩
 obtain⟨t,H,T,_⟩:=Mr (pts:=a) (tris:=c) (p:=p) (i:=i) (by rw[w];simp);have V:=Mp j A m n (aU H) o;have W:zi a c b p=zO (onQ a b t p):=by unfold zi;rw[w];show zO (onQ a b (c.getD i (0,0,0)) p)=_;rw[T]
 rw[w]at v⊢;refine Vv [0,1,2,3,4,5,6,7,8,9,10,11] [(6,1),(7,1)] U kr_ fun R hB d=>Vb (PtrTo.block (Mem.get u mup) _) U8<|Ve 2 U<|Vq v.m_ U10 om_ (rfl:(List.map aW (i::r))[0]?=some (aW i)) fl_ fun ag X=>Vb X U8<|Vb (PtrTo.block (Mem.get B mup) _) U8<|VK (fun _=>(Q5 _ e.m_ _ _ a c b k I j s.m_ A f.m_ m n i t H p o)) U9<|VK (fun _=>(HX _ e.m_ _ (P4 V.1))) U9 ?_;rw[show zO (onQ a b t p)=.tuple #[if aR (qtx (onQ a b t p)) then ae (qtx (onQ a b t p)) else ae [],i_ (if aR (qtx (onQ a b t p)) then 0 else 4)] by unfold zO;split <;> rfl];refine C6 4 [6,7] d U<|Vo (G.dropAll (VA U3 ?_));refine⟨?_,U⟩;rw[W];unfold zO;split <;> rfl
theorem PZ (h:QP 22 p):PtR p:=⟨bh h.1,bh h.2⟩
theorem ur (C:Mem)(f:Tabs C)(l m:Value)(c:List Pt)(d:List Tri)(b:List Rat)(k:Nat)(z:0<k)(A:k<=23)(n:MeshIn C l c d)(o:Good c d)(e:Sl C 1 m (b.map dJ))(p:b.length=c.length)(r:∀ q∈b,QB k q)(B:∀ q∈b,aR (qtx q)=true)(i:Nat)(t:Tri)(s:d[i]?=some t)(u:QP 22 (dD c b t)) :
  Gives cx.P 293 [l,m,i_ i] C (.tuple #[ptV (dD c b t),i_ 0]):=by
 have D:=o.ok;have g:=n;have I:=(aJ.1 s).1;obtain⟨J,K,rfl,h1,h2⟩:=id n.ex;obtain⟨A2,c2,rfl,L,M,_⟩:=id h2;obtain⟨E,F,rfl,N,O,_⟩:=id e;simp only[au]at e h2 g⊢;have Q:=mx_
 refine Vi func293 37 U3 fun w0=>Vd fun R a=>Vs U6 fun S=>Vt U5 fun T=>C6 1 [1,2,3,6] a U<|G.freeze 1 U fun _ _ h=>Vd fun R a=>Vb (PtrTo.block (Mem.get h mup) _) U8<|Vc U6<|Vy [[.slice E b.length F]] U12 fun V _ _ H=>Vl (rD _ f.m_ _ _ _ c d b g.m_ o H.m_ e.m_ p A r B) U7<|C6 1 [1,2,3,6,8] a U<|U1 2 [1,2,3,6,8,15] U<|G.cd (fun v=>?_) fun v=>?_
 ·exact absurd v dc_
 refine Va 5 U fun R a=>VE U6 (fun _=>PtrTo.block (Mem.get h mup) _) U3<|Ve 2 U<|VH U8<|Vf [1,2,3,6,26] a U<|G.cd (fun w=>?_) fun w=>?_
 ·exfalso;simp only[Tp,Ry]at w;omega
 refine Vd fun R a=>Vb (PtrTo.block (Mem.get h mup) _) U8<|Ve 2 U<|Vm (yo _ f.m_ _ _ c d b k z om_ g.m_ D e.m_ p r i t s) U7 fl_<|Vt U5 fun W=>Vk (j:=0) U12<|Vf [6,9] a U<|G.freeze 0 U fun _ _ x=>Vd fun R a=>Vb (PtrTo.block (Mem.get x mup) _) U8<|Vm (iJ _ f.m_ _ (u.le dc_) (PZ u)) U7 fl_<|C6 1 [6,9,34] a U<|G.cd (fun y=>?_) fun y=>?_
 ·exact absurd y dc_
 refine Vd fun R a=>Vb (PtrTo.block (Mem.get x mup) _) U8<|Vk (j:=0) U12<|C6 1 [6,7] a U<|Vo (Wj ag U5 ?_);exact⟨U,U⟩
def jt {α:Type}(p:α->Bool):List α->Nat->Int
|[],_=>-1
|x::l,k=>if p x then (k:Nat) else jt p l (k+1)
theorem oV {a:Type}{p:a->Bool}:∀ {l:List a}{i k:Nat}{x:a},l[i]?=some x->p x=true->(∀ y∈l.take i,p y=false)->jt p l k=((k+i:Nat):Int)
|y::l,0,k,x,h,b,_=>by
  simp only[List.getElem?_cons_zero,Sb]at h;subst h;simp[jt,b]
|y::l,i+1,k,x,h,b,c=>by
  simp only[Tb]at h;have hy:p y=false:=c y ak;have:=oV (k:=k+1) h b (fun z d=>c z (by simp[d]));simp only[jt,hy,Sn,SX,this];omega
theorem mC {a:Type}{p:a->Bool}:∀ {l:List a}{k:Nat},(∀ y∈l,p y=false)->jt p l k=-1
|[],_,_=>rfl
|y::l,k,h=>by
  simp only[jt,h y Rq,Sn,SX];exact mC fun z b=>h z (RB _ b)
theorem nK (p:α->Bool)(l:List α):(jt p l 0=-1/\∀ y∈l,p y=false)∨∃ (i:Nat)(x:α),jt p l 0=(i:Nat)/\l[i]?=some x/\p x=true/\∀ y∈l.take i,p y=false:=by
 by_cases h:∀ y∈l,p y=false
 ·exact .inl ⟨mC h,h⟩
 right;have d:∀ (l:List α),(¬ ∀ y∈l,p y=false)->∃ (i:Nat)(x:α),l[i]?=some x/\p x=true/\∀ y∈l.take i,p y=false:=by
  intro l;induction l with
 |nil=>intro h;exact absurd (fun y hy=>(by cases hy)) h
 |cons a l e =>
   intro h;by_cases b:p a=true
   ·exact⟨0,a,U,b,by simp⟩
   have c:p a=false:=by simpa using b
   obtain⟨i,x,h1,h2,h3⟩:=e (fun h2=>h (fun y hy=>by
    rcases RC.1 hy with rfl|hy
    ·exact c
    exact h2 y hy))
   refine⟨i+1,x,by simpa using h1,h2,fun y hy=>?_⟩;rw[List.take_succ_cons]at hy;rcases RC.1 hy with rfl|hy
   ·exact c
   exact h3 y hy
 obtain⟨i,x,h1,h2,h3⟩:=d l h;exact⟨i,x,by rw[oV h1 h2 h3,SP],h1,h2,h3⟩
structure Lay where
 unit:Str
 min:Rat
 max:Option Rat
def wa:Option Rat->Str
|none=>[]
|some q=>qtx q
def vu (x:Lay):List Value:=[ae x.unit,ae (qtx x.min),ae (wa x.max)]
def isU (u:Str)(x:Lay):Bool:=decide (x.unit=u)
def Pc (x:Lay):Prop:=QB 22 x.min/\(∀ q,x.max=some q->QB 22 q)/\x.unit.length<=999998
theorem qE (m:Option Rat):(!((⟨(wa m).toArray⟩:ByteArray).data.toList == (⟨#[]⟩:ByteArray).data.toList))=m.isSome:=by
 cases m with
|none=>rfl
|some q =>
  have:=sM q;show(!(qtx q == []))=true;cases h:qtx q with
 |nil=>rw[h]at this;simp at this
 |cons a l=>rfl
theorem mA (C:Mem)(v:Value)(l:List Lay)(g:Nat)(d:List Value)(a:Lay->Bool)(e:Sl C 3 v (l.map vu))(_A:Jog.Enters cx.P g=true)
  (n:∀ x∈l,∀ D:Mem,C.le D->Gives cx.P g (.agg ⟨vu x⟩::d) D (.bool (a x))) :
  Gives cx.P 317 [v,.func (.func g) #[] ⟨d⟩] C (i_ (jt a l 0)):=by
 obtain⟨o,c0,rfl,p,B,_⟩:=id e;have E:=mx_
 simp only[au]at e p⊢;refine Vi func317 19 U3 fun w0=>U1 1 [0,1] U<|U1 3 [0,1,7,8] U<|G.loop (fun fr F q r=>∃ (i:Nat),(i<=l.length/\∀ y∈l.take i,a y=false)/\fr=[(0,[],.slice o l.length c0),(1,[],.func (.func g) #[] ⟨d⟩),(7,[],i_ l.length),(8,[],i_ i)]/\q=[]/\r=l.length-i) (hn_ [0,1,7,8] U) ⟨0,⟨Rv _,by simp⟩,U,U,U⟩ (fun fr H I m s t=>?_);obtain⟨i,⟨J,b⟩,rfl,rfl,rfl⟩:=t;refine U1 1 [0,1,7,8,9] U<|G.cd (fun f=>?_) fun f=>?_
 ·have h:i<l.length:=by simpa using f
  obtain⟨x,c⟩:∃ x,l[i]?=some x:=⟨l[i],ai h⟩;refine U1 2 [0,1,5,7,8] U<|Va 3 U fun R j=>Vq e.m_ U10 om_ (cq c) fl_ fun K u=>Vb u U8<|Vl (n x (aU c) _ mup) U7<|Vf [0,1,5,7,8,16] j U<|G.cd (fun k=>?_) fun k=>?_
  ·have w:a x=true:=k;exact U1 2 [4] U<|Vg U2<|⟨by rw[oV c w b,SP],U⟩
  have z:a x=false:=k;refine Vd fun R j=>Vh _ U U6<|C6 1 [0,1,7,8] j U<|Vn (m':=l.length-(i+1)) om_ s (hn_ [0,1,7,8] U) ⟨i+1,⟨by omega,fun y hy=>by
   rw[RR,c]at hy;rcases RF.1 hy with hy|hy
   ·exact b y hy
   simp only[SR,RK]at hy;subst hy;exact z⟩,U,U,U⟩
 have h:i=l.length:=by
  have:¬ i<l.length:=by simpa using f
  omega
 exact U1 1 [4] U<|Vg U2<|⟨by rw[h,Rz]at b;rw[mC b],U⟩
theorem Jy (a b:Str):((⟨a.toArray⟩:ByteArray).data.toList == (⟨b.toArray⟩:ByteArray).data.toList)=decide (a=b):=by
 show(a == b)=_;by_cases h:a=b <;> simp[h]
theorem Iv (C:Mem)(b:Nat)(u:Str)(x:Lay)(c:C b=some (.cells ⟨[ae u]⟩ 9 (0,0))):Gives cx.P 318 [.agg ⟨vu x⟩,p_ b] C (.bool (isU u x)):=by
 exact Vi func318 8 U3 fun w0=>Vd fun R a=>Vs U6 fun d=>C6 1 [1,2] a U<|Va 1 U fun R a=>Vj ag U9<|Vb (PtrTo.block (Mem.get c mup) _) U8<|C6 2 [3] a U<|Vg U2<|⟨by unfold isU;rw[<- Jy],U⟩
theorem Ba (C:Mem)(b:Nat)(u:Str)(x:Lay)(c:C b=some (.cells ⟨[ae u]⟩ 9 (0,0))):Gives cx.P 320 [.agg ⟨vu x⟩,p_ b] C (.bool (isU u x)):=by
 exact Vi func320 8 U3 fun w0=>Vd fun R a=>Vs U6 fun d=>C6 1 [1,2] a U<|Va 1 U fun R a=>Vj ag U9<|Vb (PtrTo.block (Mem.get c mup) _) U8<|C6 2 [3] a U<|Vg U2<|⟨by unfold isU;rw[<- Jy],U⟩
theorem Dn (C:Mem)(v:Value)(l:List Lay)(u:Str)(c:Sl C 3 v (l.map vu)):Gives cx.P 286 [v,ae u] C (i_ (jt (isU u) l 0)):=by
 exact Vi func286 8 U3 fun w0=>Vd fun R a=>Vs U6 fun b=>C6 1 [0,3] a U<|G.freeze 0 U fun _ _ d=>Va 2 U fun R a=>Vl (mA _ _ l 318 [p_ b] (isU u) c.m_ U (fun x _ D e=>Iv D b u x (e _ _ (Mem.get d mup)))) U7<|C6 1 [4] a U<|Vg U2<|⟨U,U⟩
theorem ku (C:Mem)(v:Value)(l:List Lay)(u:Str)(c:Sl C 3 v (l.map vu)):Gives cx.P 288 [v,ae u] C (i_ (jt (isU u) l 0)):=by
 exact Vi func288 8 U3 fun w0=>Vd fun R a=>Vs U6 fun b=>C6 1 [0,3] a U<|G.freeze 0 U fun _ _ d=>Va 2 U fun R a=>Vl (mA _ _ l 320 [p_ b] (isU u) c.m_ U (fun x _ D e=>Ba D b u x (e _ _ (Mem.get d mup)))) U7<|C6 1 [4] a U<|Vg U2<|⟨U,U⟩
theorem uA (h:QB 22 q):(qtx q).length<=999998:=RD (bd h dc_) dc_
theorem Eh (h:QB 22 q):(qtx q).length<=1000000:=RD (bd h dc_) dc_
theorem KK (C:Mem)(d:Tabs C)(x:Lay)(e:Pc x):Gives cx.P 284 [.agg ⟨vu x⟩] C (i_ 0):=by
 obtain⟨u,f,c⟩:=x;obtain⟨h1,h2,h3⟩:=e;simp only at h1 h2 h3;clear h3;have g:(wa c).length<=999998:=by
  cases c with
 |none=>decide
 |some q=>exact uA (h2 q rfl)
 refine Vi func284 17 U3 fun w0=>Vd fun R a=>Vs U6 fun h=>C6 1 [1] a U<|Va 1 U fun R a=>Vj ag U9<|Vl (dE _ d.m_ (qtx f) (uA h1)) U7<|C6 2 [1,3] a U<|G.cd (fun h3=>?_) fun h3=>?_
 ·exfalso;rw[yK h1]at h3;exact absurd h3 dc_
 refine Va 1 U fun R a=>Vj ag U9<|Ve 3 U<|Vj ag U9<|VK (fun _=>(dE _ d.m_ (wa c) g)) U9<|Vc U6<|Vz U8<|C6 1 [3] a U<|G.cd (fun b=>?_) fun b=>?_
 ·exfalso;simp only[]at b;cases c with
 |none=>exact absurd b dc_
 |some q =>
   rw[show wa (some q)=qtx q from rfl,yK (h2 q rfl)]at b;simp at b
 exact U1 1 [2] U<|Vg U2<|⟨U,U⟩
def Hs (x:Lay):Bool:=match x.max with
|none=>false
|some m=>decide (m<x.min)
def Mv (pre:List Lay)(x:Lay):Int:=if cY x.unit=false then 8 else if 0<=jt (isU x.unit) pre 0 then 9 else if x.min<0 then 3 else if Hs x then 6 else 0
def EW (l:List Lay):Nat->Int
|0=>0
|n+1=>if EW l n≠0 then EW l n else Mv (l.take n) (l.getD n ⟨[],0,none⟩)
def sf (l:List Lay):Int:=if l=[] then 13 else if 60<l.length then 4 else EW l l.length
theorem yG {l:List Lay}{n:Nat}(h:EW l n≠0):∀ m,n<=m->EW l m=EW l n
|0,hm=>by rw[show n=0 by omega]
|m+1,hm=>by
  rcases RS m n with h1|h1
  ·rw[show n=m+1 by omega]
  have a:=yG h m h1;simp only[EW,a];rw[aM h]
theorem Mu {l:List Lay}{x:Lay}(h:l[i]?=some x):l.getD i ⟨[],0,none⟩=x:=by rw[am,h,SG]
theorem Dm {l:List Lay}{x:Lay}(a:EW l i=0)(b:l[i]?=some x):EW l (i+1)=Mv (l.take i) x:=by
 simp only[EW,a];rw[aF dc_,Mu b]
theorem vF {l:List Lay}{x:Lay}(d:EW l i=0)(a:l[i]?=some x)(b:Mv (l.take i) x=z)(f:z≠0)(g:¬ 60<l.length):sf l=z:=by
 have c:=(aJ.1 a).1;have h1:=Dm d a;unfold sf;rw[aF (fun e=>by rw[e]at c;simp at c),aF g,yG (n:=i+1) (by rw[h1,b];exact f) l.length om_,h1,b]
theorem OL (C:Mem)(c:Tabs C)(a:Option Rat)(b:Rat)(d:QB 22 b)(e:∀ q,a=some q->QB 22 q)(h:(!((⟨(wa a).toArray⟩:ByteArray).data.toList == (⟨#[]⟩:ByteArray).data.toList))=true) :
  Gives cx.P 218 [ae (wa a),ae (qtx b)] C (i_ (nU (a.getD 0) b)):=by
 rw[qE]at h;cases a with
|none=>cases h
|some q=>exact fO C c q b 22 dc_ dc_ (e q rfl) d
theorem CS (x:Lay):(x.max.isSome && decide (nU (x.max.getD 0) x.min<0))=Hs x:=by
 unfold Hs;cases x.max with
|none=>rfl
|some q =>
  show(true && decide (nU q x.min<0))=decide (q<x.min);unfold nU;by_cases h:q<x.min
  ·simp[h]
  rw[aF h,RU h];split <;> rfl
theorem uQ (q:Rat):decide (eH q.num<0)=decide (q<0):=by
 rw[Sf,<- uB];rcases eC q.num with h|h|h <;> omega
theorem rB (C:Mem)(y:Tabs C)(v:Value)(l:List Lay)(k:Sl C 3 v (l.map vu))(F:∀ x∈l,Pc x)(S:l.length<=1000000):Gives cx.P 238 [v] C (i_ (sf l)):=by
 obtain⟨A,c0,rfl,H,T,_⟩:=id k;have V:=mx_
 simp only[au]at k H⊢;refine Vi func238 57 U3 fun w0=>U1 1 [0] U<|U1 4 [0,6] U<|G.cd (fun n=>?_) fun n=>?_
 ·have h0:l=[]:=by
   have h:((l.length:Nat):Int)=0:=by simpa using n
   exact Sd om_
  exact U1 1 [2] U<|Vg U2<|⟨by rw[h0];rfl,U⟩
 have h0:l≠[]:=by
  intro e;rw[e]at n;exact absurd n dc_
 refine U1 4 [0,10] U<|G.cd (fun o=>?_) fun o=>?_
 ·have h60:60<l.length:=by
   simp only[Ry]at o;omega
  exact U1 1 [2] U<|Vg U2<|⟨by unfold sf;rw[aF h0,aM h60],U⟩
 have h60:¬ 60<l.length:=by
  simp only[RZ]at o;omega
 refine U1 3 [0,14,15,16] U<|G.loop (fun fr W I J=>∃ (i:Nat),(i<=l.length/\EW l i=0)/\fr=[(0,[],.slice A l.length c0),(14,[],.slice A l.length c0),(15,[],i_ l.length),(16,[],i_ i)]/\I=[]/\J=l.length-i) (hn_ [0,14,15,16] U) ⟨0,⟨Rv _,U⟩,U,U,U⟩ (fun fr X Y m K L=>?_);obtain⟨i,⟨Z,b⟩,rfl,rfl,rfl⟩:=L;refine U1 1 [0,14,15,16,17] U<|G.cd (fun p=>?_) fun p=>?_
 ·have q:i<l.length:=by simpa using p
  obtain⟨x,c⟩:∃ x,l[i]?=some x:=⟨l[i],ai q⟩;obtain⟨r,B,M⟩:=F x (aU c);have D:=Sl.sub k (l:=0) (h:=i) (m:=c0) (Rv _) ap om_ (Ro _);rw[SE,<- TG]at D;refine Va 1 U fun R a=>Vq k.m_ U10 om_ (cq c) fl_ fun aa N=>Vb N U8<|Vt U5 fun b4=>Vc U6<|Vk (j:=0) U12<|Vf [0,3,4,14,15,16] a U<|Vd fun R a=>Vj ag U9<|Vl (KK _ y.m_ x ⟨r,B,M⟩) U7<|C6 1 [0,3,4,5,14,15,16] a U<|U1 2 [0,3,4,5,14,15,16,24] U<|G.cd (fun E=>?_) fun E=>?_
  ·exact absurd E dc_
  refine Va 1 U fun R a=>Vj ag U9<|Vm (ir _ x.unit om_) U7 fl_<|C6 2 [0,3,4,14,15,16,26] a U<|G.cd (fun s=>?_) fun s=>?_
  ·have d:cY x.unit=false:=by simpa using s
   exact U1 1 [2] U<|Vg U2<|⟨by rw[vF (z:=8) b c (by unfold Mv;rw[aM d]) dc_ h60],U⟩
  have d:¬ cY x.unit=false:=by
   have h:cY x.unit=true:=by simpa using s
   rw[h];decide
  refine Vv [0,1,2,3,4,5,6,7] [(5,1)] U kr_ fun R hB a=>Ve 2 U<|VV 0 i c0 U12 (fun _=>⟨.inl ⟨U,U⟩,.inr ⟨_,U⟩,.inl ⟨U,U⟩,by omega,by omega,by omega⟩) U2<|Vc U6<|Vj ag U9<|VK (fun _=>(Dn _ _ (l.take i) x.unit D.m_)) U9<|C6 2 [0,4,14,15,16,31] a U<|G.cd (fun t=>?_) fun t=>?_
  ·have f:0<=jt (isU x.unit) (l.take i) 0:=by simpa using t
   exact U1 1 [2] U<|Vg U2<|⟨by rw[vF (z:=9) b c (by unfold Mv;rw[aF d,aM f]) dc_ h60],U⟩
  have f:¬ 0<=jt (isU x.unit) (l.take i) 0:=by simpa using t
  refine Va 1 U fun R a=>Vj ag U9<|Vl (gm _ x.min (Eh r)) U7<|C6 2 [0,4,14,15,16,39] a U<|G.cd (fun g=>?_) fun g=>?_
  ·have hs:x.min<0:=by
    rw[uQ]at g;exact QL g
   exact U1 1 [2] U<|Vg U2<|⟨by rw[vF (z:=3) b c (by unfold Mv;rw[aF d,aF f,aM hs]) dc_ h60],U⟩
  have hs:¬ x.min<0:=by
   rw[uQ]at g;exact Rt g
  refine Va 1 U fun R a=>Vj ag U9<|Ve 3 U<|Vj ag U9<|Vc U6<|Vj ag U9<|Vx (fun O=>(OL _ y.m_ x.max x.min r B (by exact O.1))) U9<|Vc U6<|Vz U8<|C6 1 [0,14,15,16,44] a U<|G.cd (fun u=>?_) fun u=>?_
  ·have w:Hs x=true:=by
    rw[<- CS,<- qE];exact u
   exact U1 1 [2] U<|Vg U2<|⟨by rw[vF (z:=6) b c (by unfold Mv;rw[aF d,aF f,aF hs,aM w]) dc_ h60],U⟩
  have w:Hs x=false:=by
   rw[<- CS,<- qE];exact u
  have Q:EW l (i+1)=0:=by rw[Dm b c];unfold Mv;rw[aF d,aF f,aF hs,w];rfl
  refine Vd fun R a=>Vh _ U U6<|C6 1 [0,14,15,16] a U<|G.dropAll<|Vn (m':=l.length-(i+1)) om_ K (hn_ [0,14,15,16] U) ⟨i+1,⟨by omega,Q⟩,U,U,U⟩
 have q:i=l.length:=by
  have:¬ i<l.length:=by simpa using p
  omega
 refine U1 1 [2] U<|Vg U2<|⟨?_,U⟩;rw[q]at b;unfold sf;rw[aF h0,aF h60,b]
theorem AP (C:Mem)(f:Tabs C)(v:Value)(l:List Lay)(u:Str)(c:Sl C 3 v (l.map vu))(g:∀ x∈l,Pc x)(a:sf l=0)(i:Nat)(j:jt (isU u) l 0=(i:Nat)):Gives cx.P 247 [v,ae u] C (.tuple #[i_ (i:Nat),.bool true,i_ 0]):=by
 have k:l.length<=1000000:=by
  unfold sf at a;split at a
  ·cases a
  split at a
  ·cases a
  omega
 refine Vi func247 20 U3 fun w0=>U1 3 [0,1] U<|Va 1 U fun R b=>Vm (by have h:=rB _ f.m_ v l c.m_ g k;rw[a]at h;exact h) U7 fl_<|C6 1 [0,1,7] b U<|U1 2 [0,1,7,12] U<|G.cd (fun d=>?_) fun d=>?_
 ·exact absurd d dc_
 refine Va 2 U fun R b=>Vm (by have h:=Dn _ v l u c.m_;rw[j]at h;exact h) U7 fl_<|C6 1 [8] b U<|U1 2 [8,18] U<|G.cd (fun e=>?_) fun e=>?_
 ·refine U1 4 [4,5,6] U<|Vo (G.dropAll (V2 U4 ?_));exact⟨U,U⟩
 exfalso;simp only[RZ]at e;omega
structure Obs where
 kind:Int
 name:Str
 x:Str
 y:Str
 depth:Str
 upper:Str
 lower:Str
 nx:Str
 ny:Str
 nz:Str
def sb (o:Obs):List Value:=[.int .i64 o.kind,ae o.name,ae o.x,ae o.y,ae o.depth,ae o.upper,ae o.lower,ae o.nx,ae o.ny,ae o.nz]
structure ObsR (o:Obs):Prop where
 name:o.name.length<=999998
 x:o.x.length<=999998
 y:o.y.length<=999998
 depth:o.depth.length<=999998
 upper:o.upper.length<=999998
 lower:o.lower.length<=999998
 nx:o.nx.length<=999998
 ny:o.ny.length<=999998
 nz:o.nz.length<=999998
def lf (o:Obs):Bool:=(!cY o.name || !cY o.upper) || ((!(o.kind == 1)) && !cY o.lower)
def ma (o:Obs):Bool:=(!(aR o.x && aR o.y) || ((o.kind == 2) && !aR o.depth)) || ((o.kind == 3) && !(aR o.nx && aR o.ny && aR o.nz))
def lm (o:Obs):Bool:=(((o.kind == 1) && !(o.lower == [])) || ((!(o.kind == 2)) && !(o.depth == []))) || ((!(o.kind == 3)) && !(decide (o.nx=[]/\o.ny=[]/\o.nz=[])))
def dZ (o:Obs):Int:=if o.kind<1∨3<o.kind then 12 else if lf o then 8 else if ma o then 2 else if lm o then 7 else 0
theorem nil3 (a b c:Str):(!((a == []) && ((b == []) && ((c == []) && true))))=!decide (a=[]/\b=[]/\c=[]):=by
 cases a <;> cases b <;> cases c <;> rfl
theorem IB (b:Bool):(oH b != 0)=!b:=by cases b <;> rfl
theorem JN (C:Mem)(h:Tabs C)(o:Obs)(b:ObsR o):Gives cx.P 287 [.agg ⟨sb o⟩] C (i_ (dZ o)):=by
 have h1:=b.name;have h2:=b.upper;have h3:=b.lower;refine Vi func287 87 U3 fun w0=>Vd fun R c=>Vs U6 fun m=>C6 1 [1] c U<|G.freeze 0 U fun _ _ a=>Va 1 U fun R c=>Vb (bkT a 1) U8<|Ve 3 U<|VE U6 (fun _=>PtrTo.blockT (Mem.get a mup) _ 1) U3<|Vc U6<|VH U8<|Vf [1,10] c U<|G.cd (fun i=>?_) fun i=>?_
 ·have d:o.kind<1∨3<o.kind:=by simpa using i
  exact U1 1 [2] U<|Vg U2<|⟨by unfold dZ;rw[aM d],U⟩
 have d:¬ (o.kind<1∨3<o.kind):=by simpa using i
 refine Va 1 U fun R c=>Vb (bkT a 1) U8<|Vm (ir _ o.name om_) U7 fl_<|Ve 3 U<|VE U6 (fun _=>PtrTo.blockT (Mem.get a mup) _ 1) U3<|Vx (fun _=>(ir _ o.upper om_)) U9<|Vc U6<|VH U8<|Ve 2 U<|VE U6 (fun _=>PtrTo.blockT (Mem.get a mup) _ 1) U3<|Ve 3 U<|VE U6 (fun _=>PtrTo.blockT (Mem.get a mup) _ 1) U3<|Vx (fun _=>(ir _ o.lower om_)) U9<|Vc U6<|Vz U8<|VH U8<|Vf [1,31] c U<|G.cd (fun j=>?_) fun j=>?_
 ·have e:lf o=true:=j;exact U1 1 [2] U<|Vg U2<|⟨by unfold dZ;rw[aF d,aM e],U⟩
 have e:¬ lf o=true:=by rw[show lf o=false from j];decide
 refine Va 1 U fun R c=>Vb (bkT a 2) U8<|Vl (fD _ h.m_ o.x o.y b.x b.y) U7<|Ve 3 U<|VE U6 (fun _=>PtrTo.blockT (Mem.get a mup) _ 1) U3<|Ve 3 U<|VE U6 (fun _=>PtrTo.blockT (Mem.get a mup) _ 1) U3<|VK (fun _=>(dE _ h.m_ o.depth b.depth)) U9<|Vc U6<|Vz U8<|VH U8<|Ve 2 U<|VE U6 (fun _=>PtrTo.blockT (Mem.get a mup) _ 1) U3<|Ve 3 U<|VE U6 (fun _=>PtrTo.blockT (Mem.get a mup) _ 3) U3<|VK (fun _=>(sh _ h.m_ o.nx o.ny o.nz b.nx b.ny b.nz)) U9<|Vc U6<|Vz U8<|VH U8<|Vf [1,57] c U<|G.cd (fun f=>?_) fun f=>?_
 ·have g:ma o=true:=by
   simp only[IB]at f;exact f
  exact U1 1 [2] U<|Vg U2<|⟨by unfold dZ;rw[aF d,aF e,aM g],U⟩
 have g:¬ ma o=true:=by
  simp only[IB]at f;rw[show ma o=false from f];decide
 refine Va 1 U fun R c=>Vb (bkT a 1) U8<|Ve 3 U<|VE U6 (fun _=>PtrTo.blockT (Mem.get a mup) _ 1) U3<|Vc U6<|Vz U8<|Ve 2 U<|VE U6 (fun _=>PtrTo.blockT (Mem.get a mup) _ 1) U3<|Ve 3 U<|VE U6 (fun _=>PtrTo.blockT (Mem.get a mup) _ 1) U3<|Vc U6<|Vz U8<|VH U8<|Ve 2 U<|VE U6 (fun _=>PtrTo.blockT (Mem.get a mup) _ 1) U3<|Ve 3 U<|VE U6 (fun _=>PtrTo.blockT (Mem.get a mup) _ 3) U3<|Vu [ae [],ae [],ae []] U8<|Xx (!decide (o.nx=[]/\o.ny=[]/\o.nz=[])) kr_ U U U U U U U U (fun _=>(nil3 o.nx o.ny o.nz)) U U<|Vz U8<|VH U8<|Vf [86] c U<|G.cd (fun k=>?_) fun k=>?_
 ·have l:lm o=true:=k;exact U1 1 [2] U<|Vg U2<|⟨by unfold dZ;rw[aF d,aF e,aF g,aM l],U⟩
 have l:¬ lm o=true:=by rw[show lm o=false from k];decide
 exact U1 1 [2] U<|Vg U2<|⟨by unfold dZ;rw[aF d,aF e,aF g,aF l],U⟩
noncomputable def dm (s:Str):Rat:=if h:aR s=true then (Ci h).choose else 0
theorem dy {s:Str}(h:aR s=true):s=qtx (dm s)/\QB 23 (dm s):=by
 unfold dm;rw[dif_pos h];exact(Ci h).choose_spec
theorem cR (h:aR (qtx q)=true):dm (qtx q)=q:=(jg (dy h).1).symm
noncomputable def ptO (o:Obs):Pt:=(dm o.x,dm o.y)
noncomputable def Lj (pts:List Pt)(tris:List Tri)(o:Obs):Bool:=decide (kC pts tris (ptO o)≠[])
def LY (col:List Lay)(o:Obs):Bool:=decide (jt (isU o.upper) col 0<0) || ((!(o.kind == 1)) && decide (jt (isU o.lower) col 0<0))
def ordB (col:List Lay)(o:Obs):Bool:=(!(o.kind == 1)) && decide (jt (isU o.upper) col 0<=jt (isU o.lower) col 0)
noncomputable def depB (o:Obs):Bool:=(o.kind == 2) && decide (dm o.depth<0)
def Jd (o:Obs):Bool:=(o.kind == 3) && decide (o.nz=[48])
noncomputable def ig (pts:List Pt)(tris:List Tri)(col:List Lay)(o:Obs):Int :=
 if dZ o≠0 then dZ o else if Lj pts tris o=false then 28 else if LY col o then 10 else if ordB col o then 6 else if depB o then 3 else if Jd o then 17 else 0
theorem sD {o:Obs}(h:dZ o=0):aR o.x=true/\aR o.y=true/\(o.kind=2->aR o.depth=true):=by
 unfold dZ at h;split at h
 ·cases h
 split at h
 ·cases h
 split at h
 ·cases h
 rename_i b;have a:ma o=false:=by simpa using b
 unfold ma at a;rw[Tf,Tf]at a;obtain⟨⟨h1,h2⟩,_⟩:=a;have h3:(aR o.x && aR o.y)=true:=by simpa using h1
 rw[RG]at h3;refine⟨h3.1,h3.2,fun c=>?_⟩;rw[c]at h2;simpa using h2
theorem P0 {o:Obs}(h:dZ o=0):ptV (ptO o)=.agg ⟨[ae o.x,ae o.y]⟩/\QP 23 (ptO o)/\PtR (ptO o):=by
 obtain⟨h1,h2,_⟩:=sD h;obtain⟨a,c⟩:=dy h1;obtain⟨b,d⟩:=dy h2;refine⟨?_,⟨c,d⟩, ?_, ?_⟩
 ·unfold ptV gx ptO;rw[<- a,<- b]
 ·unfold ptO;rw[<- a];exact h1
 unfold ptO;rw[<- b];exact h2
theorem dU {k:Int}(h:(k == z)=true):k=z:=by simpa using h
theorem JG (C:Mem)(s:Str)(h:aR s=true)(a:s.length<=999998):Gives cx.P 94 [ae s] C (i_ (eH (dm s).num)):=by
 have e:=(dy h).1;have h2:=gm C (dm s) (by have:=a;exact RD (bd (dy h).2 dc_) dc_)
 rwa [<- e]at h2
theorem NW (C:Mem)(u:Tabs C)(v w:Value)(d:List Pt)(f:List Tri)(b:List Lay)(o:Obs)(x:MeshIn C v d f)(A:Good d f)(y:Sl C 3 w (b.map vu))(z:ObsR o) :
  Gives cx.P 239 [v,w,.agg ⟨sb o⟩] C (i_ (ig d f b o)):=by
 have B:=x;obtain⟨L,M,rfl,h1,h2⟩:=id x.ex;refine Vi func239 79 U3 fun w0=>Vd fun R a=>Vs U6 fun N=>Vs U6 fun O=>C6 1 [1,3,5] a U<|G.freeze 1 U fun _ _ D=>G.freeze 0 U fun E _ c=>Vd fun R a=>Vb (bkT c 10) U8<|Vl (JN _ u.m_ o z) U7<|C6 1 [1,3,5,7] a U<|U1 2 [1,3,5,7,15] U<|G.cd (fun m=>?_) fun m=>?_
 ·have hs:dZ o≠0:=by
   intro e;rw[e]at m;exact absurd m dc_
  exact U1 2 [6] U<|Vg U2<|⟨by unfold ig;rw[aM hs],U⟩
 have hs:dZ o=0:=by simpa using m
 have i:¬ dZ o≠0:=fun h=>h hs;obtain⟨F,H,I⟩:=P0 hs;have J:=(sD hs).2.2;refine Vd fun R a=>Vb (PtrTo.block (Mem.get D mup) _) U8<|Vc U6<|Vb (bkT c 2) U8<|Vm (by have h:=rA E u.m_ _ d f (ptO o) B.m_ A H I;rw[F]at h;exact h) U7 fl_<|C6 5 [1,5,8,9] a U<|Va 5 U fun R a=>VH U8<|Vf [1,5,29] a U<|G.cd (fun p=>?_) fun p=>?_
 ·have g:Lj d f o=false:=by
   have h:(!Lj d f o)=true:=p;simpa using h
  exact U1 1 [6] U<|Vg U2<|⟨by unfold ig;rw[aF i,aM g],U⟩
 have g:¬ Lj d f o=false:=by
  have h:(!Lj d f o)=false:=p;have h2:Lj d f o=true:=by simpa using h
  rw[h2];decide
 refine Vv [0,1,2,3,4,5,6,7,8,9] [(3,1),(7,1)] U kr_ fun R Q a=>Ve 2 U<|Vb (bkT c 1) U8<|VK (fun _=>(ku _ _ b o.upper y.m_)) U9<|Ve 2 U<|Vb (bkT c 1) U8<|VK (fun _=>(ku _ _ b o.lower y.m_)) U9<|C6 2 [5,10,11] a U<|Va 4 U fun R a=>VE U6 (fun _=>PtrTo.blockT (Mem.get c mup) _ 1) U3<|Ve 4 U<|Vz U8<|VH U8<|C6 1 [5,10,11,38] a U<|G.cd (fun q=>?_) fun q=>?_
 ·have j:LY b o=true:=q;exact U1 1 [6] U<|Vg U2<|⟨by unfold ig;rw[aF i,aF g,aM j],U⟩
 have j:¬ LY b o=true:=by rw[show LY b o=false from q];decide
 refine Va 1 U fun R a=>Vb (bkT c 1) U8<|Ve 5 U<|Vz U8<|C6 1 [5,50] a U<|G.cd (fun r=>?_) fun r=>?_
 ·have k:ordB b o=true:=r;exact U1 1 [6] U<|Vg U2<|⟨by unfold ig;rw[aF i,aF g,aF j,aM k],U⟩
 have k:¬ ordB b o=true:=by rw[show ordB b o=false from r];decide
 refine Va 1 U fun R a=>Vb (bkT c 1) U8<|Ve 3 U<|VE U6 (fun _=>PtrTo.blockT (Mem.get c mup) _ 1) U3<|Vx (fun K=>(JG _ o.depth (J (by exact dU K.1)) z.depth)) U9<|Vc U6<|Vz U8<|C6 1 [5,59] a U<|G.cd (fun l=>?_) fun l=>?_
 ·have n:depB o=true:=by
   rw[uQ]at l;exact l
  exact U1 1 [6] U<|Vg U2<|⟨by unfold ig;rw[aF i,aF g,aF j,aF k,aM n],U⟩
 have n:¬ depB o=true:=by
  rw[uQ]at l;rw[show depB o=false from l];decide
 refine Va 1 U fun R a=>Vb (bkT c 1) U8<|Ve 4 U<|VE U6 (fun _=>PtrTo.blockT (Mem.get c mup) _ 1) U3<|Vc U6<|Vz U8<|C6 1 [69] a U<|G.cd (fun s=>?_) fun s=>?_
 ·have t:Jd o=true:=by
   unfold Jd;rw[<- Jy];exact s
  exact U1 1 [6] U<|Vg U2<|⟨by unfold ig;rw[aF i,aF g,aF j,aF k,aF n,aM t],U⟩
 have t:¬ Jd o=true:=by
  unfold Jd;rw[<- Jy];intro h;rw[show((o.kind == 3) && ((⟨o.nz.toArray⟩:ByteArray).data.toList == (⟨([48]:Str).toArray⟩:ByteArray).data.toList))=false from s]at h;cases h
 exact U1 1 [6] U<|Vg U2<|⟨by unfold ig;rw[aF i,aF g,aF j,aF k,aF n,aF t],U⟩
structure Bk where
 pts:List Pt
 tris:List Tri
 terr:List Str
 col:List Lay
 obs:List Obs
structure BookIn (C:Mem)(bv:Value)(B:Bk):Prop where
 ex:∃ v1 v2 tv cv ov,bv=.agg ⟨[v1,v2,tv,cv,ov]⟩/\Sl C 2 v1 (B.pts.map gx)/\Sl C 3 v2 (B.tris.map iB)/\Sl C 1 tv (B.terr.map ef)/\Sl C 3 cv (B.col.map vu)/\Sl C 10 ov (B.obs.map sb)
theorem BookIn.mono {C D:Mem}{b:Value}{B:Bk}(h:BookIn C b B)(a:C.le D):BookIn D b B:=by
 obtain⟨c,d,e,f,g,h1,h2,h3,h4,h5,i⟩:=h.ex;exact⟨c,d,e,f,g,h1,h2.mono a,h3.mono a,h4.mono a,h5.mono a,i.mono a⟩
theorem BookIn.m_ {D:Mem}{B:Bk}(h:BookIn C bv B)(a:C.le D:=by exact mup):BookIn D bv B:=BookIn.mono h a
structure BookR (B:Bk):Prop where
 terr:∀ s∈B.terr,s.length<=999998
 col:∀ x∈B.col,Pc x
 lcol:B.col.length<=1000000
 obs:∀ o∈B.obs,ObsR o
noncomputable def obZ (B:Bk)(pre:List Obs)(o:Obs):Int:=if ig B.pts B.tris B.col o≠0 then ig B.pts B.tris B.col o else if o.name∈pre.map Obs.name then 9 else 0
def Ku:Obs:=⟨0,[],[],[],[],[],[],[],[],[]⟩
noncomputable def wc (B:Bk):Nat->Int
|0=>0
|n+1=>if wc B n≠0 then wc B n else obZ B (B.obs.take n) (B.obs.getD n Ku)
noncomputable def iK (B:Bk):Int:=if nj B.pts.length B.terr≠0 then nj B.pts.length B.terr else if sf B.col≠0 then sf B.col else if 100<B.obs.length then 4 else wc B B.obs.length
theorem xL {B:Bk}{n:Nat}(h:wc B n≠0):∀ m,n<=m->wc B m=wc B n
|0,hm=>by rw[show n=0 by omega]
|m+1,hm=>by
  rcases RS m n with h1|h1
  ·rw[show n=m+1 by omega]
  have a:=xL h m h1;simp only[wc,a];rw[aM h]
theorem Mq {l:List Obs}{x:Obs}(h:l[i]?=some x):l.getD i Ku=x:=by rw[am,h,SG]
theorem uN {B:Bk}{x:Obs}(a:wc B i=0)(b:B.obs[i]?=some x):wc B (i+1)=obZ B (B.obs.take i) x:=by
 simp only[wc,a];rw[aF dc_,Mq b]
theorem GY {B:Bk}{x:Obs}(c:wc B i=0)(a:B.obs[i]?=some x)(b:obZ B (B.obs.take i) x=z)(d:z≠0):wc B B.obs.length=z:=by
 have e:=(aJ.1 a).1;have h1:=uN c a;rw[xL (n:=i+1) (by rw[h1,b];exact d) B.obs.length om_,h1,b]
def Hd (l:List Obs):List (Str × Value):=l.map fun o=>(o.name,.bool true)
theorem Hc (l:List Obs)(s:Str):mj (.bool false) false (dY (Hd l) s)=.bool (decide (s∈l.map Obs.name)):=by
 have a:(Hd l).map (·.1)=l.map Obs.name:=by unfold Hd;rw[So];rfl
 cases h:dY (Hd l) s with
|none =>
  have h1:=cC.1 h;rw[a]at h1;rw[RU h1];rfl
|some v =>
  have h1:=gt h;have h2:=TA (f:=(·.1)) h1;rw[a]at h2;obtain⟨o,_,b⟩:=Rs.1 h1;cases b
  rw[RJ h2];rfl
theorem Kz {l:List Obs}{o:Obs}(h:o.name ∉ l.map Obs.name):iO (Hd l) o.name (.bool true)=Hd (l++[o]):=by
 have a:(Hd l).map (·.1)=l.map Obs.name:=by unfold Hd;rw[So];rfl
 rw[jZ (by rw[cC,a];exact h)];simp[Hd]
theorem rE (C:Mem)(n:Tabs C)(F:Value)(B:Bk)(L:BookIn C F B)(t:Good B.pts B.tris)(o:BookR B) :
  Gives cx.P 181 [F] C (i_ (iK B)):=by
 obtain⟨H,I,Z,cv,ov,rfl,h1,h2,h3,h4,h5⟩:=id L.ex;obtain⟨M,N,rfl,O,aa,_⟩:=id h5;have ab:=mx_
 simp only[au]at h5 O⊢;have hm:MeshIn C (.agg ⟨[H,I]⟩) B.pts B.tris:=⟨H,I,rfl,h1,h2⟩;refine Vi func181 59 U3 fun w0=>Vd fun R a=>Vs U6 fun Q=>C6 1 [1] a U<|G.freeze 0 U fun _ _ b=>Va 1 U fun R a=>Vb (bkT b 2) U8<|Vl (fH _ n.m_ _ B.pts B.tris hm.m_ t) U7<|C6 1 [1,3] a U<|U1 2 [1,3,14] U<|G.cd (fun J=>?_) fun J=>?_
 ·exact absurd J dc_
 refine Va 1 U fun R a=>Vb (bkT b 2) U8<|Vc U6<|Vb (bkT b 1) U8<|Vl (mG _ n.m_ _ _ B.pts B.tris B.terr hm.m_ t h3.m_ o.terr) U7<|C6 1 [1,4] a U<|U1 2 [1,4,22] U<|G.cd (fun p=>?_) fun p=>?_
 ·have c:nj B.pts.length B.terr≠0:=by
   intro e;rw[e]at p;exact absurd p dc_
  exact U1 2 [2] U<|Vg U2<|⟨by unfold iK;rw[aM c],U⟩
 have c:¬ nj B.pts.length B.terr≠0:=by
  have h:nj B.pts.length B.terr=0:=by simpa using p
  exact fun h2=>h2 h
 refine Va 1 U fun R a=>Vb (bkT b 1) U8<|Vl (rB _ n.m_ _ B.col h4.m_ o.col o.lcol) U7<|C6 1 [1,5] a U<|U1 2 [1,5,28] U<|G.cd (fun q=>?_) fun q=>?_
 ·have d:sf B.col≠0:=by
   intro e;rw[e]at q;exact absurd q dc_
  exact U1 2 [2] U<|Vg U2<|⟨by unfold iK;rw[aF c,aM d],U⟩
 have d:¬ sf B.col≠0:=by
  have h:sf B.col=0:=by simpa using q
  exact fun h2=>h2 h
 refine Va 1 U fun R a=>Vb (bkT b 1) U8<|C6 2 [1,33] a U<|G.cd (fun u=>?_) fun u=>?_
 ·have g:100<B.obs.length:=by
   simp only[Ry]at u;omega
  exact U1 1 [2] U<|Vg U2<|⟨by unfold iK;rw[aF c,aF d,aM g],U⟩
 have g:¬ 100<B.obs.length:=by
  simp only[RZ]at u;omega
 refine Vd fun R a=>D.makeMap keyS U U U U fl_ fun v=>C6 1 [1,6] a U<|Va 1 U fun R a=>Vb (bkT b 1) U8<|C6 2 [1,6,36,37,38] a U<|G.loop (fun fr C' K S=>∃ (i:Nat),(i<=B.obs.length/\wc B i=0)/\fr=[(1,[],p_ Q),(6,[],.map (some v)),(36,[],.slice M B.obs.length N),(37,[],i_ B.obs.length),(38,[],i_ i)]/\K=[.obj v (aY keyS.enc (Hd (B.obs.take i)))]/\S=B.obs.length-i) (hn_ [1,6,36,37,38] U) ⟨0,⟨Rv _,U⟩,U,U,U⟩ (fun fr ac ad m _ T=>?_);obtain⟨i,⟨hi,k⟩,rfl,rfl,rfl⟩:=T;refine U1 1 [1,6,36,37,38,39] U<|G.cd (fun w=>?_) fun w=>?_
 ·have y:i<B.obs.length:=by simpa using w
  obtain⟨x,f⟩:∃ x,B.obs[i]?=some x:=⟨B.obs[i],ai y⟩;have V:=o.obs x (aU f);have W:B.obs.take (i+1)=B.obs.take i++[x]:=by rw[RR,f];rfl
  refine Vd fun R a=>Vq h5.m_ U10 om_ (cq f) fl_ fun ae X=>Vb X U8<|Vt U5 fun b8=>Vk (j:=0) U12<|Vf [1,6,8,36,37,38] a U<|Va 1 U fun R a=>Vb (bkT b 2) U8<|Vc U6<|Vb (bkT b 1) U8<|Vj ag U9<|Vl (NW _ n.m_ _ _ B.pts B.tris B.col x hm.m_ t h4.m_ V) U7<|C6 1 [1,6,8,9,36,37,38] a U<|U1 2 [1,6,8,9,36,37,38,49] U<|G.cd (fun r=>?_) fun r=>?_
  ·have l:ig B.pts B.tris B.col x≠0:=by
    intro e;rw[e]at r;exact absurd r dc_
   have A:=GY k f (z:=ig B.pts B.tris B.col x) (by unfold obZ;rw[aM l]) l;exact U1 2 [2] U<|Vg U2<|⟨by unfold iK;rw[aF c,aF d,aF g,A],U⟩
  have l:¬ ig B.pts B.tris B.col x≠0:=by
   have h:ig B.pts B.tris B.col x=0:=by simpa using r
   exact fun h2=>h2 h
  refine Va 2 U fun R a=>Vj ag U9<|Wq keyS af U U U U U U U U kr_ U (Hc (B.obs.take i) x.name) U U<|Vf [1,6,8,36,37,38,54] a U<|G.cd (fun E=>?_) fun E=>?_
  ·have s:x.name∈(B.obs.take i).map Obs.name:=QL E;have A:=GY k f (z:=9) (by unfold obZ;rw[aF l,aM s]) dc_;exact U1 1 [2] U<|Vg U2<|⟨by unfold iK;rw[aF c,aF d,aF g,A],U⟩
  have s:x.name ∉ (B.obs.take i).map Obs.name:=Rt E;have Y:wc B (i+1)=0:=by rw[uN k f];unfold obZ;rw[aF l,aF s]
  refine Va 2 U fun R a=>Vj ag U9<|D.mapUpdate keyS (j:=1) U U U U U U U U U U kr_<|Vf [1,6,36,37,38] a U<|Vd fun R a=>Vh _ U U6<|C6 1 [1,6,36,37,38] a U<|VR 1 U<|Vr (L':=[.obj v (aY keyS.enc (Hd (B.obs.take (i+1))))]) (by rw[W,<- Kz s];rfl)<|Vn (m':=B.obs.length-(i+1)) om_ mup (hn_ [1,6,36,37,38] U) ⟨i+1,⟨by omega,Y⟩,U,U,U⟩
 have y:i=B.obs.length:=by
  have:¬ i<B.obs.length:=by simpa using w
  omega
 refine U1 1 [2] U<|Vg U2<|⟨?_,U⟩;rw[y]at k;unfold iK;rw[aF c,aF d,aF g,k]
theorem mT (C:Mem)(g:Tabs C)(b:Value)(B:Bk)(c:BookIn C b B)(j:Good B.pts B.tris)(k:BookR B)(l:iK B=0)(i:Nat)(n:i<B.obs.length) :
  Gives cx.P 289 [b,i_ i] C (i_ 0):=by
 have d:=c;obtain⟨o,p,q,r,s,rfl,h1,h2,h3,h4,h5⟩:=id c.ex;obtain⟨t,u,rfl,m,v,_⟩:=id h5;have w:=mx_
 simp only[au]at h5 m d⊢;refine Vi func289 20 U3 fun w0=>Vd fun R a=>Vs U6 fun x=>C6 1 [1,2] a U<|Vd fun R a=>Vj ag U9<|Vm (by have h:=rE _ g.m_ _ B d.m_ j k;rw[l]at h;exact h) U7 fl_<|C6 1 [1,2,5] a U<|U1 2 [1,2,5,9] U<|G.cd (fun e=>?_) fun e=>?_
 ·exact absurd e dc_
 refine Va 5 U fun R a=>Vj ag U9<|Ve 2 U<|VH U8<|Vf [19] a U<|G.cd (fun f=>?_) fun f=>?_
 ·exfalso;simp only[Tp,Ry]at f;omega
 exact U1 1 [4] U<|Vg U2<|⟨U,U⟩
noncomputable def lH (o:Obs)(z:Rat):Rat:=if o.kind=2 then z-dm o.depth else z
structure ObsAt (o:Obs)(p:Pt):Prop where
 x:o.x=qtx p.1
 y:o.y=qtx p.2
 q:QP 23 p
 r:PtR p
 d:o.kind=2->aR o.depth=true
theorem xM {o:Obs}(h:ObsAt o p):(.agg ⟨[ae o.x,ae o.y]⟩:Value)=ptV p:=by unfold ptV gx;rw[h.x,h.y]
structure Terr (B:Bk)(fs:List Rat):Prop where
 e:B.terr=fs.map qtx
 l:fs.length=B.pts.length
 q:∀ q∈fs,QB 22 q
theorem LZ {B:Bk}(h:Terr B fs):∀ q∈fs,aR (qtx q)=true:=fun q a=>bh (h.q q a)
theorem HL (C:Mem)(k:Tabs C)(m:Value)(B:Bk)(i:List Rat)(o:Obs)(p:Pt)(z:Rat)(v:BookIn C m B)(w:Good B.pts B.tris)(b:Terr B i)(c:ObsAt o p)(x:zi B.pts B.tris i p=.tuple #[ae (qtx z),i_ 0])(y:QB 22 z) :
  Gives cx.P 290 [m,.agg ⟨sb o⟩] C (.tuple #[ae (qtx (lH o z)),i_ 0]):=by
 obtain⟨n,s,E,F,H,rfl,h1,h2,h3,h4,h5⟩:=id v.ex;have hm:MeshIn C (.agg ⟨[n,s]⟩) B.pts B.tris:=⟨n,s,rfl,h1,h2⟩;rw[b.e,<- fW]at h3;refine Vi func290 31 U3 fun w0=>Vd fun R a=>Vs U6 fun I=>Vs U6 fun J=>C6 2 [2,3] a U<|G.freeze 1 U fun _ _ t=>G.freeze 0 U fun u _ j=>Va 1 U fun R a=>Vb (bkT t 2) U8<|Vc U6<|Vb (bkT t 1) U8<|Vc U6<|Vb (bkT j 2) U8<|Vm (by have h:=ug u k.m_ _ _ B.pts B.tris i 22 dc_ dc_ hm.m_ w h3.m_ b.l b.q (LZ b) p c.q c.r;rw[x,<- xM c]at h;exact h) U7 fl_<|C6 5 [3,6,7] a U<|Va 4 U fun R a=>VE U6 (fun _=>PtrTo.blockT (Mem.get j mup) _ 1) U3<|Vc U6<|Vz U8<|Vf [3,6,7,24] a U<|G.cd (fun f=>?_) fun f=>?_
 ·have g:o.kind=2:=dU (Up.1 f).2;obtain⟨A,D⟩:=dy (c.d g);refine Va 2 U fun R a=>Vb (bkT j 1) U8<|Vm (by have h:=er u k.m_ z (dm o.depth) 23 dc_ dc_ (y.le dc_) D;rw[<- A]at h;exact h) U7 fl_<|C6 1 [6,7] a U<|U1 4 [4,5] U<|Vo (G.dropAll (VA U3 ?_));exact⟨by unfold lH;rw[aM g],U⟩
 have g:¬ o.kind=2:=by
  intro e;rw[show((((0:Int) == 0) && (o.kind == 2))=true) by rw[e];rfl]at f;cases f
 refine U1 4 [4,5] U<|Vo (G.dropAll (VA U3 ?_));exact⟨by unfold lH;rw[aF g],U⟩
theorem EF (C:Mem)(c:Tabs C)(h:Value)(B:Bk)(d:List Rat)(i:Nat)(o:Obs)(p:Pt)(z:Rat)(b:BookIn C h B)(j:Good B.pts B.tris)(q:BookR B)(r:iK B=0)(s:Terr B d)(k:B.obs[i]?=some o)(t:ObsAt o p)(u:zi B.pts B.tris d p=.tuple #[ae (qtx z),i_ 0])(v:QB 22 z)(l:QB 22 (lH o z)) :
  Gives cx.P 243 [h,i_ i] C (.tuple #[ae (qtx (lH o z)),i_ 0]):=by
 have e:=b;have w:=(aJ.1 k).1;obtain⟨A,D,E,F,H,rfl,h1,h2,h3,h4,h5⟩:=id b.ex;obtain⟨I,J,rfl,x,K,_⟩:=id h5;have L:=mx_
 simp only[au]at h5 x e⊢;refine Vi func243 36 U3 fun w0=>?_;refine Vd fun R a=>?_;refine Vs U6 (fun M=>?_);refine C6 2 [1,2] a U ?_;clear a R;refine G.freeze 0 U (fun _ _ f=>?_);refine Vd fun R a=>?_;refine Vb (bkT f 5) U8 ?_;refine Vc U6 ?_;refine Vl (mT _ c.m_ _ B e.m_ j q r i w) U7 ?_;refine C6 1 [1,2,6] a U ?_;clear a R;refine U1 2 [1,2,6,13] U ?_;refine G.cd (fun m=>?_) fun m=>?_
 ·exact absurd m dc_
 refine Vv [0,1,2,3,4,5,6,7,8,9,10,11] [(6,1)] U kr_ (fun R b a=>?_);refine Vb (bkT f 5) U8 ?_;refine Vc U6 ?_;refine Vb (bkT f 1) U8 ?_;refine Vc U6 ?_;refine Vq h5.m_ U10 om_ (cq k) fl_ (fun N y=>?_);refine Vb y U8 ?_;refine VK (fun _=>(HL _ c.m_ _ B d o p z e.m_ j s t u v)) U9 ?_;refine Ve 5 U ?_;refine Vf [7,8] a U ?_;clear a b R;refine Va 4 U fun R a=>?_;refine VK (fun _=>(dE _ c.m_ _ (uA l))) U9 ?_;refine Vc U6 ?_;refine Vz U8 ?_;refine Vf [7,8,31] a U ?_;clear a R;refine G.cd (fun g=>?_) fun g=>?_
 ·exfalso;rw[yK l]at g;exact absurd g dc_
 refine U1 2 [7,8,33] U ?_;refine G.cd (fun n=>?_) fun n=>?_
 ·exact absurd n dc_
 refine U1 3 [4,5] U ?_;refine Vo (G.dropAll (VA U3 ?_));exact⟨U,U⟩
def wJ (lo hi:Int)(n:Nat):List Nat:=(List.range n).filter fun k:Nat=>decide (lo<=(k:Int)/\(k:Int)<hi)
def FO (col:List Lay)(o:Obs):Int:=if o.kind=1 then jt (isU o.upper) col 0-1 else jt (isU o.lower) col 0
def FP (col:List Lay)(o:Obs):Int:=if o.kind=1 then jt (isU o.upper) col 0+1 else jt (isU o.upper) col 0
def cG (col:List Lay)(o:Obs):List Nat:=wJ (FO col o) (FP col o) (col.length-1)
theorem Jv {a b:Int}(j:max a 0<=(i:Int))(l:(i:Int)<=max (max a 0) (min b n))(o:min b (n:Int)<=(i:Int)):(List.range i).filter (fun k:Nat=>decide (a<=(k:Int)))=wJ a b n:=by
 unfold wJ;have hs:∀ m:Nat,(List.range (i+m)).filter (fun k:Nat=>decide (a<=(k:Int)/\(k:Int)<b/\k<n))=(List.range i).filter (fun k:Nat=>decide (a<=(k:Int)/\(k:Int)<b/\k<n)):=by
  intro m;induction m with
 |zero=>rfl
 |succ m c =>
   rw[show i+(m+1)=i+m+1 by omega,SC,S4,c,List.filter_cons];rw[aF (by simp only[Ry];omega)];simp
 have f:(List.range i).filter (fun k:Nat=>decide (a<=(k:Int)))=(List.range i).filter (fun k:Nat=>decide (a<=(k:Int)/\(k:Int)<b/\k<n)):=by
  refine List.filter_congr (fun k d=>?_);rw[RL]at d;rw[Sf];omega
 have g:(List.range n).filter (fun k:Nat=>decide (a<=(k:Int)/\(k:Int)<b))=(List.range n).filter (fun k:Nat=>decide (a<=(k:Int)/\(k:Int)<b/\k<n)):=by
  refine List.filter_congr (fun k d=>?_);rw[RL]at d;rw[Sf];omega
 rw[f,g];rcases Nat.le_total i n with e|e
 ·obtain⟨m,rfl⟩:=Nat.exists_eq_add_of_le e;exact(hs m).symm
 have h:∀ m:Nat,(List.range (n+m)).filter (fun k:Nat=>decide (a<=(k:Int)/\(k:Int)<b/\k<n))=(List.range n).filter (fun k:Nat=>decide (a<=(k:Int)/\(k:Int)<b/\k<n)):=by
  intro m;induction m with
 |zero=>rfl
 |succ m c =>
   rw[show n+(m+1)=n+m+1 by omega,SC,S4,c,List.filter_cons];rw[aF (by simp only[Ry];omega)];simp
 obtain⟨m,rfl⟩:=Nat.exists_eq_add_of_le e;exact h m
theorem tg (p:α->Bool)(l:List α):-1<=jt p l 0/\jt p l 0<=(l.length:Int):=by
 rcases nK p l with⟨h,_⟩|⟨i,x,h,h2,_⟩
 ·omega
 have:=(aJ.1 h2).1;omega
theorem zp (C:Mem)(_ac:Tabs C)(F:Value)(B:Bk)(o:Obs)(q:BookIn C F B)(ad:B.col.length<=1000)(M:B.col≠[]) :
  Pur cx.P 291 [F,.agg ⟨sb o⟩] C fun u D=>Sl D 1 u ((cG B.col o).map aW):=by
 obtain⟨v1,v2,tv,cv,ov,rfl,h1,h2,h3,h4,h5⟩:=id q.ex;obtain⟨A4,c4,rfl,N,ae,_⟩:=id h4;have af:=mx_
 have ag:=Sc.2 M;have O:=tg (isU o.lower) B.col;have Q:=tg (isU o.upper) B.col;obtain⟨lw,H⟩:∃ z,jt (isU o.lower) B.col 0=z:=⟨_,rfl⟩;obtain⟨up,I⟩:∃ z,jt (isU o.upper) B.col 0=z:=⟨_,rfl⟩;obtain⟨lo,b⟩:∃ z,FO B.col o=z:=⟨_,rfl⟩;obtain⟨c,d⟩:∃ z,FP B.col o=z:=⟨_,rfl⟩;obtain⟨n,S⟩:∃ n,B.col.length-1=n:=⟨_,rfl⟩;unfold cG;rw[b,d,S];unfold FO at b;unfold FP at d;rw[H]at O b;rw[I]at Q b d;simp only[au]at h4 N⊢;have ah:-2<=lo/\lo<=1000:=by rw[<- b];split <;> omega
 have ai:-2<=c/\c<=1001:=by rw[<- d];split <;> omega
 refine Vi func291 43 U3 fun w0=>?_;refine Vd fun R a=>?_;refine Vs U6 (fun J=>?_);refine Vs U6 (fun b3=>?_);refine C6 1 [2,3] a U ?_;clear a R;refine G.freeze 1 U (fun _ _ s=>?_);refine G.freeze 0 U (fun K _ t=>?_);refine Vv [0,1,2,3,4,5,6,7,8,9,10,11] [(4,1),(9,1)] U kr_ (fun R q a=>?_);refine Vc U6 ?_;refine Vb (bkT s 1) U8 ?_;refine Vc U6 ?_;refine Vb (bkT t 1) U8 ?_;refine Vx (fun _=>(by have h:=ku K _ B.col o.lower h4.m_;rw[H]at h;exact h)) U9 ?_;refine Vc U6 ?_;refine Vb (bkT s 1) U8 ?_;refine Vc U6 ?_;refine Vb (bkT t 1) U8 ?_;refine Vx (fun _=>(by have h:=ku K _ B.col o.upper h4.m_;rw[I]at h;exact h)) U9 ?_;refine Ve 2 U ?_;refine Vf [2,3,5,6] a U ?_;clear a q R;refine Va 1 U fun R a=>?_;refine Vb (bkT t 1) U8 ?_;refine C6 1 [2,5,6,21] a U ?_;clear a R;refine G.cut (fun fr T g v=>(True)/\fr=[(2,[],p_ J),(5,[],i_ lo),(6,[],i_ c)]/\g=[]) ?_ (fun fr _ aj v _ x=>?_)
 ·refine G.cd (fun l=>?_) fun l=>?_
  ·have f:o.kind=1:=dU l;rw[aM f]at b d;subst b d;refine Va 1 U fun R a=>?_;refine Vh _ U U6 ?_;refine Vc U6 ?_;refine Vh _ U U6 ?_;refine C6 2 [2,5,6] a U ?_;clear a R;refine Vp 0 l_ (hn_ [2,5,6] U) ⟨trivial,U,U⟩
  have f:¬ o.kind=1:=by
   intro e;rw[show((o.kind == 1)=true) by rw[e];rfl]at l;cases l
  rw[aF f]at b d;subst b d;refine Vp 0 l_ (hn_ [2,5,6] U) ⟨trivial,U,U⟩
 obtain⟨_,rfl,rfl⟩:=x;refine U1 1 [2,5,6,7] U ?_;obtain⟨p,V⟩:∃ p:Nat,max lo 0=(p:Int):=⟨(max lo 0).toNat,by omega⟩;refine Va 1 U fun R a=>?_;refine D.max (((p:Nat):Int)) U6 V U2 ?_;refine C6 1 [2,6,7,8] a U ?_;clear a R;refine G.nilArr 3 1 ?_;refine G.loop (fun fr T g v=>∃ (i:Nat)(out:List Nat)(w:Value),(max lo 0<=(i:Int)/\(i:Int)<=max (max lo 0) (min c n)/\out=(List.range i).filter (fun k:Nat=>decide (lo<=(k:Int))))/\fr=[(2,[],p_ J),(6,[],i_ c),(7,[],w),(8,[],i_ i)]/\g=[.arr w 3 1 out.length (out.map aW).flatten]/\v=2000-i) (hn_ [2,6,7,8] U) ⟨p,[],_,⟨by omega,by omega,by
  symm;rw[List.filter_eq_nil_iff];intro k f;rw[RL]at f;simp only[Ry];omega⟩,rfl,rfl,rfl⟩ (fun fr al am m _ x=>?_)
 obtain⟨i,out,w,⟨W,X,A⟩,rfl,rfl,rfl⟩:=x;refine Va 3 U fun R a=>?_;refine Vb (bkT s 1) U8 ?_;refine Vc U6 ?_;refine Vh _ U U6 ?_;refine D.min ((min c (n:Int))) U6 om_ U2 ?_;refine C6 1 [2,6,7,8,35] a U ?_;clear a R;refine G.cd (fun E=>?_) fun E=>?_
 ·have an:(i:Int)<min c (n:Int):=QL E;have ao:out.length<=i:=by
   rw[A];exact RD (S9 _ _) ak
  have Y:(List.range (i+1)).filter (fun k:Nat=>decide (lo<=(k:Int)))=out++[i]:=by
   rw[SC,S4,<- A,List.filter_cons,aM (by simp only[Ry];omega)];rfl
  refine Va 2 U fun R a=>?_;refine Vy [aW i] U12 (fun ap _ _ Z=>?_);refine D.append (j:=0) U11 Z U ax (by simp only[Rp];omega) fl_ (fun L=>?_);refine C6 1 [2,6,7,8] a U ?_;clear a R;refine Va 1 U fun R a=>?_;refine Vh _ U U6 ?_;refine C6 1 [2,6,7,8] a U ?_;clear a R;refine Vr (L':=[.arr L 3 1 (out++[i]).length ((out++[i]).map aW).flatten]) (by simp[aW]) ?_;refine Vn (m':=2000-(i+1)) om_ mup (hn_ [2,6,7,8] U) ⟨i+1,out++[i],L,⟨by omega,by omega,Y.symm⟩,U,U,U⟩
 have aa:min c (n:Int)<=(i:Int):=by
  have:=Rt E;omega
 refine U1 2 [4] U ?_;refine G.freezeArr 0 (out.map aW) rfl rfl (by intro r hr;obtain⟨y,_,rfl⟩:=Rs.1 hr;rfl) ak (fun Cg hg ab=>?_);refine Vg U2 ?_;exact⟨U,by rw[<- Jv W X aa,<- A];exact ab⟩
theorem wG (C:Mem)(j:Tabs C)(k:Value)(B:Bk)(i:Nat)(o:Obs)(d:BookIn C k B)(p:Good B.pts B.tris)(q:BookR B)(a:iK B=0)(l:B.obs[i]?=some o) :
  Pur cx.P 244 [k,i_ i] C fun u D=>∃ v,u=.tuple #[v,i_ 0]/\Sl D 1 v ((cG B.col o).map aW):=by
 have f:=d;have r:=(aJ.1 l).1;have b:sf B.col=0:=by
  unfold iK at a;split at a
  ·rename_i h;exact absurd a h
  split at a
  ·rename_i h;exact absurd a h
  rename_i h;exact RT h
 have m:B.col≠[]:=by
  intro e;rw[e]at b;exact absurd b dc_
 have s:B.col.length<=1000:=by
  unfold sf at b;rw[aF m]at b;split at b
  ·exact absurd b dc_
  omega
 obtain⟨y,z,A,E,F,rfl,h1,h2,h3,h4,h5⟩:=id d.ex;obtain⟨H,I,rfl,t,J,_⟩:=id h5;have K:=mx_
 simp only[au]at h5 t f⊢;refine Vi func244 20 U3 fun w0=>Vd fun R c=>Vs U6 fun L=>C6 2 [1,2] c U<|G.freeze 0 U fun _ _ g=>Vd fun R c=>Vb (bkT g 5) U8<|Vc U6<|Vl (mT _ j.m_ _ B f.m_ p q a i r) U7<|C6 1 [1,2,6] c U<|U1 2 [1,2,6,11] U<|G.cd (fun n=>?_) fun n=>?_
 ·exact absurd n dc_
 refine Vv [0,1,2,3,4,5,6,7,8] [] U kr_ fun R d c=>Vb (bkT g 5) U8<|Vc U6<|Vb (bkT g 1) U8<|Vc U6<|Vq h5.m_ U10 om_ (cq l) fl_ fun M w=>Vb w U8<|VJ (zp _ j.m_ _ B o f.m_ s m) U7 fun N _ _ x=>Ve 2 U<|Vf [4,5] c U ?_;clear c d R;refine Vo (G.dropAll (VA U3 ?_));exact⟨U,_,U,x⟩
theorem G5 (x y:Nat)(a:x<18446744073709551616)(b:y<18446744073709551616)(C:Mem):Gives cx.P 128 [.int .u64 x,.int .u64 y] C (.tuple #[.int .u64 ((x*y / 18446744073709551616:Nat):Int),.int .u64 ((x*y % 18446744073709551616:Nat):Int)]) :=
 Gives.ofCalls kr_ (fun w=>Any.bits_Mul Tryz.mul x y a b w) C
theorem fN {a:Value}{b:List Value}(_d:k+m<=n)(c:m<=k)(_e:b.length=n-k) :
  aE (List.replicate k a++b) ((List.replicate k a++b).take m) k=List.replicate (k+m) a++b.drop m:=by
 have h1:(List.replicate k a++b).take m=List.replicate m a:=by
  rw[List.take_append_of_le_length (by simpa using c),List.take_replicate,Sp c]
 have h2:(List.replicate k a++b).take k=List.replicate k a:=by
  rw[List.take_append_of_le_length ak,List.take_replicate,Nat.min_self]
 have h3:(List.replicate k a++b).drop (k+m)=b.drop m:=by
  rw[TY,RX,S3 ak,Tq];congr 1;omega
 unfold aE;rw[h1,h2,RX,h3,List.replicate_append_replicate]
theorem Br (a:Value)(n:Nat):kQ [a] n=List.replicate n a:=by
 rw[fe];induction n with
|zero=>rfl
|succ n b=>rw[SB,SH,b,SB];rfl
theorem mf (n:Nat)(a:n<18446744073709551616)(C:Mem):Gives cx.P 128 [.int .u64 (1:Int),.int .u64 n] C (.tuple #[.int .u64 0,.int .u64 n]):=by
 have h:=G5 1 n om_ a C;have b:1*n / 18446744073709551616=0:=by omega
 have c:1*n % 18446744073709551616=n:=by omega
 rw[b,c]at h;exact h
theorem nB (C:Mem)(v:Value)(n:Nat)(s:Str)(g:Sl C 1 v [[ae s]])(y:n<=1000000):Jog.Fn cx.P 64 [v,i_ n] C [] fun u _z e=>∃ b,u=s_ b n n/\e=[.arr u 32 1 n (List.replicate n (ae s))]:=by
 have p:=g;obtain⟨A,c,rfl,_⟩:=p;refine Vi func64 48 U3 fun w0=>U1 1 [0,1] U<|U1 2 [0,1,10] U<|G.cd (fun h=>?_) fun h=>?_
 ·simp at h;omega
 refine Va 2 U fun R d=>VO (c:=1) U8 U fl_<|Vc U6<|VO (c:=(n:Int)) U8 g_ fl_<|Vm (mf n om_ _) U7 fl_<|C6 5 [0,5,6] d U<|Va 5 U fun R d=>VH U8<|Vf [0,6,26] d U<|G.cd (fun i=>?_) fun i=>?_
 ·simp at i;omega
 refine Va 1 U fun R d=>VO (c:=(n:Int)) U8 f_ fl_<|V5 U9 (Ro _) (by show 16*n<=281474976710656;omega) y_ fl_ fun a=>C6 1 [0,7] d U<|Va 2 U fun R d=>WE (j:=0) (q:=min 1 n) U12 g U2 (by rw[cV];show 0+min 1 n*1<=n*1;omega) fl_<|C6 1 [7,8] d U ?_;have r:aE (kQ [ae []] n) (([[ae s]]:List (List Value)).take (min 1 n)).flatten 0=List.replicate (min 1 n) (ae s)++List.replicate (n-min 1 n) (ae []):=by
  rw[Br];cases n with
 |zero=>rfl
 |succ n=>rw[show min 1 (n+1)=1 by omega,SB];rfl
 refine Vr (L':=[.arr (s_ a n n) 32 1 n (List.replicate (min 1 n) (ae s)++List.replicate (n-min 1 n) (ae []))]) (by rw[<- r];rfl)<|G.loop (fun fr B e t=>∃ (k:Nat),(k<=n/\min 1 n<=k)/\fr=[(7,[],s_ a n n),(8,[],i_ k)]/\e=[.arr (s_ a n n) 32 1 n (List.replicate k (ae s)++List.replicate (n-k) (ae []))]/\t=n-k) (hn_ [7,8] U) ⟨min 1 n,⟨Nat.min_le_right _ _,Ro _⟩,U,U,U⟩ (fun fr D E m w x=>?_);obtain⟨k,⟨l,F⟩,rfl,rfl,rfl⟩:=x;refine U1 4 [7,8,37] U<|G.cd (fun f=>?_) fun f=>?_
 ·simp only[Ry]at f;have o:k<n:=by omega
  have H:1<=k:=by omega
  refine Vv [0,1,2,3,4,5,6,7,8,9] [] U kr_ fun R I d=>Ve 3 U<|VV k n n U12 (fun _=>⟨.inr ⟨_,U⟩,.inl ⟨U,U⟩,.inl ⟨U,U⟩,l,Ro _,Ro _⟩) U2<|Ve 2 U<|VV 0 k n U12 (fun _=>⟨.inl ⟨U,U⟩,.inr ⟨_,U⟩,.inl ⟨U,U⟩,Rv _,l,Ro _⟩) U2 ?_;refine WD (j:=0) (off:=k) (g0:=a) (dl:=n-k) (dc:=n-k) (sl:=k-0) (sc:=n-0) (q:=min k (n-k)) U8 (by show some (Value.slice (if n=k then some (⟨a,0,none⟩:Addr) else (some (⟨a,0,none⟩:Addr)).map (·.add (k*1))) (n-k) (n-k))=_;rw[aF om_];simp[Addr.add_lit]) (by show some (Value.slice (if n=0 then some (⟨a,0,none⟩:Addr) else (some (⟨a,0,none⟩:Addr)).map (·.add (0*1))) (k-0) (n-0))=_;split <;> simp[Addr.add_lit]) U2 (by simp[lG,ae]) ap fl_ ?_;refine VI (((k+min k (n-k):Nat):Int)) U4 om_ om_ om_ U2<|C6 1 [7,8] d U<|Vr (L':=[.arr (s_ a n n) 32 1 n (List.replicate (k+min k (n-k)) (ae s)++List.replicate (n-(k+min k (n-k))) (ae []))]) (by rw[fN (n:=n) om_ (Nat.min_le_left _ _) ak,List.drop_replicate,Nat.sub_sub];rfl)<|Vn (m':=n-(k+min k (n-k))) om_ w (hn_ [7,8] U) ⟨k+min k (n-k),⟨by omega,by omega⟩,U,U,U⟩
 simp only[RZ]at f;have o:k=n:=by omega
 subst o;refine U1 2 [4] U<|Vo (VM U U ?_);exact⟨a,U,by simp⟩
theorem nC (C:Mem)(v:Value)(n:Nat)(s:Str)(g:Sl C 1 v [[ae s]])(y:n<=1000000):Jog.Fn cx.P 292 [v,i_ n] C [] fun u _z e=>∃ b,u=s_ b n n/\e=[.arr u 32 1 n (List.replicate n (ae s))]:=by
 have p:=g;obtain⟨A,c,rfl,_⟩:=p;refine Vi func292 48 U3 fun w0=>U1 1 [0,1] U<|U1 2 [0,1,10] U<|G.cd (fun h=>?_) fun h=>?_
 ·simp at h;omega
 refine Va 2 U fun R d=>VO (c:=1) U8 U fl_<|Vc U6<|VO (c:=(n:Int)) U8 g_ fl_<|Vm (mf n om_ _) U7 fl_<|C6 5 [0,5,6] d U<|Va 5 U fun R d=>VH U8<|Vf [0,6,26] d U<|G.cd (fun i=>?_) fun i=>?_
 ·simp at i;omega
 refine Va 1 U fun R d=>VO (c:=(n:Int)) U8 f_ fl_<|V5 U9 (Ro _) (by show 16*n<=281474976710656;omega) y_ fl_ fun a=>C6 1 [0,7] d U<|Va 2 U fun R d=>WE (j:=0) (q:=min 1 n) U12 g U2 (by rw[cV];show 0+min 1 n*1<=n*1;omega) fl_<|C6 1 [7,8] d U ?_;have r:aE (kQ [ae []] n) (([[ae s]]:List (List Value)).take (min 1 n)).flatten 0=List.replicate (min 1 n) (ae s)++List.replicate (n-min 1 n) (ae []):=by
  rw[Br];cases n with
 |zero=>rfl
 |succ n=>rw[show min 1 (n+1)=1 by omega,SB];rfl
 refine Vr (L':=[.arr (s_ a n n) 32 1 n (List.replicate (min 1 n) (ae s)++List.replicate (n-min 1 n) (ae []))]) (by rw[<- r];rfl)<|G.loop (fun fr B e t=>∃ (k:Nat),(k<=n/\min 1 n<=k)/\fr=[(7,[],s_ a n n),(8,[],i_ k)]/\e=[.arr (s_ a n n) 32 1 n (List.replicate k (ae s)++List.replicate (n-k) (ae []))]/\t=n-k) (hn_ [7,8] U) ⟨min 1 n,⟨Nat.min_le_right _ _,Ro _⟩,U,U,U⟩ (fun fr D E m w x=>?_);obtain⟨k,⟨l,F⟩,rfl,rfl,rfl⟩:=x;refine U1 4 [7,8,37] U<|G.cd (fun f=>?_) fun f=>?_
 ·simp only[Ry]at f;have o:k<n:=by omega
  have H:1<=k:=by omega
  refine Vv [0,1,2,3,4,5,6,7,8,9] [] U kr_ fun R I d=>Ve 3 U<|VV k n n U12 (fun _=>⟨.inr ⟨_,U⟩,.inl ⟨U,U⟩,.inl ⟨U,U⟩,l,Ro _,Ro _⟩) U2<|Ve 2 U<|VV 0 k n U12 (fun _=>⟨.inl ⟨U,U⟩,.inr ⟨_,U⟩,.inl ⟨U,U⟩,Rv _,l,Ro _⟩) U2 ?_;refine WD (j:=0) (off:=k) (g0:=a) (dl:=n-k) (dc:=n-k) (sl:=k-0) (sc:=n-0) (q:=min k (n-k)) U8 (by show some (Value.slice (if n=k then some (⟨a,0,none⟩:Addr) else (some (⟨a,0,none⟩:Addr)).map (·.add (k*1))) (n-k) (n-k))=_;rw[aF om_];simp[Addr.add_lit]) (by show some (Value.slice (if n=0 then some (⟨a,0,none⟩:Addr) else (some (⟨a,0,none⟩:Addr)).map (·.add (0*1))) (k-0) (n-0))=_;split <;> simp[Addr.add_lit]) U2 (by simp[lG,ae]) ap fl_ ?_;refine VI (((k+min k (n-k):Nat):Int)) U4 om_ om_ om_ U2<|C6 1 [7,8] d U<|Vr (L':=[.arr (s_ a n n) 32 1 n (List.replicate (k+min k (n-k)) (ae s)++List.replicate (n-(k+min k (n-k))) (ae []))]) (by rw[fN (n:=n) om_ (Nat.min_le_left _ _) ak,List.drop_replicate,Nat.sub_sub];rfl)<|Vn (m':=n-(k+min k (n-k))) om_ w (hn_ [7,8] U) ⟨k+min k (n-k),⟨by omega,by omega⟩,U,U,U⟩
 simp only[RZ]at f;have o:k=n:=by omega
 subst o;refine U1 2 [4] U<|Vo (VM U U ?_);exact⟨a,U,by simp⟩
theorem gg (C:Mem)(s p:Nat)(h:s*p<=100000):Jog.Fn cx.P 241 [gk s p] C [] fun u _f c=>∃ b,u=s_ b (s*p:Nat) (s*p:Nat)/\c=[.arr u 32 1 (s*p) (List.replicate (s*p) (ae [48]))]:=by
 refine Vi func241 7 U3 fun w0=>Vd fun R a=>Vs U6 fun g=>C6 1 [1] a U<|VB [(3,3)] U fun R a=>Vy [[ae [48]]] U12 fun i _ _ d=>Vj ag U9<|Vm (jd _ s p om_) U7 fl_<|D.call (nB _ _ (s*p) [48] d.m_ om_) U (.inr dc_) U6 (Rw _) fl_ fun j _ k _ e=>C6 1 [2] a U ?_;obtain⟨b,rfl,rfl⟩:=e;refine VR 1 U<|Vo (VM U U ?_);exact⟨b,U,U⟩
def ofE (z:Int)(s p:Nat):Int:=if z≠0 then z else if 60<s*p then 4 else 0
def ofS (e:Int)(s p:Nat):Value:=if e=0 then gk s p else gk 0 0
structure BookZ (C:Mem)(bv:Value)(B:Bk)(z:Int):Prop where
 i:BookIn C bv B
 ch:∀ D:Mem,C.le D->Gives cx.P 181 [bv] D (.int .i64 z)
 ne:z=0->B.col≠[]
 lc:B.col.length<=1000
 lp:B.pts.length<=400
theorem BookZ.mono {C D:Mem}{a:Value}{B:Bk}{z:Int}(h:BookZ C a B z)(c:C.le D):BookZ D a B z:=⟨h.i.mono c,fun E d=>h.ch E (fun b o e=>d b o (c b o e)),h.ne,h.lc,h.lp⟩
theorem BookZ.m_ {D:Mem}{B:Bk}(h:BookZ C bv B z)(a:C.le D:=by exact mup):BookZ D bv B z:=BookZ.mono h a
def bs (B:Bk):Nat:=B.col.length-1
def bp (B:Bk):Nat:=B.pts.length
theorem Py {B:Bk}(h:BookZ C bv B z):bs B*bp B<=400000:=by
 have h1:=h.lc;have h2:=h.lp;have:bs B*bp B<=1000*400:=SJ (by unfold bs;omega) (by unfold bp;omega);omega
theorem P6 (C:Mem)(l:Value)(B:Bk)(z:Int)(c:BookZ C l B z):Gives cx.P 113 [l] C (.tuple #[ofS (ofE z (bs B) (bp B)) (bs B) (bp B),i_ (ofE z (bs B) (bp B))]):=by
 obtain⟨n,o,p,q,r,rfl,h1,h2,h3,h4,h5⟩:=id c.i.ex;obtain⟨s,t,rfl,u,v,_⟩:=id h1;obtain⟨w,x,rfl,y,A,_⟩:=id h4;have D:=Py c;have E:=c.lc;have m:=c.ch;have F:=mx_
 simp only[au]at m⊢;refine Vi func113 26 U3 fun w0=>Vd fun R a=>Vs U6 fun H=>Vt U5 fun I=>C6 1 [1,2] a U<|G.freeze 1 U fun _ _ g=>Vd fun R a=>Vb (bkT g 5) U8<|Vl (m _ mup) U7<|C6 1 [1,2,4] a U<|U1 2 [1,2,4,9] U<|G.cd (fun f=>?_) fun f=>?_
 ·have b:z≠0:=by
   intro e;rw[e]at f;exact absurd f dc_
  have d:ofE z (bs B) (bp B)=z:=by unfold ofE;rw[aM b]
  refine Vd fun R a=>Vu [i_ 0,i_ 0] U8<|Vc U6<|Vk (j:=0) U12<|C6 1 [2,3] a U<|Vo (Wj ag U5 ?_);exact⟨by rw[d];unfold ofS;rw[aF b];rfl,U⟩
 have b:z=0:=by simpa using f
 have J:=Sc.2 (c.ne b);have K:bs B+1=B.col.length:=by unfold bs;omega
 refine Va 1 U fun R a=>Vb (bkT g 1) U8<|Vc U6<|VI (((bs B:Nat):Int)) U4 om_ om_ om_ U2<|Ve 2 U<|Vb (bkT g 1) U8<|Vc U6<|Vu [i_ (bs B:Nat),i_ (bp B:Nat)] U8<|Vt U5 fun L=>Vk (j:=0) U12<|Vf [2,5] a U<|Vd fun R a=>Vj ag U9<|Vm (jd _ (bs B) (bp B) om_) U7 fl_<|C6 1 [2,5,23] a U<|G.cd (fun h=>?_) fun h=>?_
 ·have k:60<bs B*bp B:=by
   have:=QL h;omega
  have d:ofE z (bs B) (bp B)=4:=by unfold ofE;rw[b,aF dc_,aM k]
  refine Vd fun R a=>Vu [i_ 0,i_ 0] U8<|Vk (j:=1) U12<|C6 1 [2,3] a U<|Vo (Wj ag U5 ?_);exact⟨by rw[d];rfl,U⟩
 have k:¬ 60<bs B*bp B:=by
  have:=Rt h;omega
 have d:ofE z (bs B) (bp B)=0:=by unfold ofE;rw[b,aF dc_,aF k]
 refine Vd fun R a=>Vj ag U9<|Vk (j:=1) U12<|C6 1 [2,3] a U<|Vo (Wj ag U5 ?_);exact⟨by rw[d];rfl,U⟩
theorem Lh (C:Mem)(c:Value)(B:Bk)(z:Int)(b:BookZ C c B z):Gives cx.P 92 [c] C (.tuple #[i_ (if ofE z (bs B) (bp B)=0 then ((bs B*bp B:Nat):Int) else 0),i_ (ofE z (bs B) (bp B))]):=by
 have s:=Py b;have g:=b;obtain⟨k,l,m,n,o,rfl,h1,h2,h3,h4,h5⟩:=id b.i.ex;obtain⟨e,d⟩:∃ e,ofE z (bs B) (bp B)=e:=⟨_,rfl⟩;have f:∀ D:Mem,C.le D->Gives cx.P 113 [.agg ⟨[k,l,m,n,o]⟩] D (.tuple #[ofS e (bs B) (bp B),i_ e]):=fun D p=>by have h:=P6 D _ B z (g.mono p);rwa [d]at h
 rw[d];have q:ofS e (bs B) (bp B)=.agg ⟨[i_ (if e=0 then ((bs B:Nat):Int) else 0),i_ (if e=0 then ((bp B:Nat):Int) else 0)]⟩:=by unfold ofS gk;split <;> rfl
 have r:∀ D:Mem,Gives cx.P 149 [.agg ⟨[i_ (if e=0 then ((bs B:Nat):Int) else 0),i_ (if e=0 then ((bp B:Nat):Int) else 0)]⟩] D (i_ (if e=0 then ((bs B*bp B:Nat):Int) else 0)):=fun D=>by
  by_cases h:e=0
  ·rw[aM h,aM h,aM h];exact jd D (bs B) (bp B) om_
  rw[aF h,aF h,aF h];exact jd D 0 0 om_
 rw[q]at f;refine Vi func92 14 U3 fun w0=>Vd fun R a=>Vs U6 fun t=>C6 2 [1] a U<|Vd fun R a=>Vj ag U9<|Vl (f _ mup) U7<|Ve 3 U<|Vt U5 fun u=>Vk (j:=0) U12<|C6 1 [4,5] a U<|Vd fun R a=>Vj ag U9<|Vl (r _) U7<|C6 3 [2,3] a U<|Vo (G.dropAll (VA U3 ?_));exact⟨U,U⟩
theorem N3 (C:Mem)(a:Value)(B:Bk)(b:BookZ C a B 0)(c:bs B*bp B<=60):Gives cx.P 113 [a] C (.tuple #[gk (bs B) (bp B),i_ 0]):=by
 have h:=P6 C a B 0 b;have e:ofE 0 (bs B) (bp B)=0:=by unfold ofE;rw[aF dc_,aF om_]
 rw[e]at h;exact h
def sJ (n:Nat)(done:List (Nat × Rat)):List Rat:=(List.range n).map fun j=>(dY done j).getD 0
def lI (n:Nat)(done:List (Nat × Rat)):List Value:=(sJ n done).map fun q=>ae (qtx q)
theorem mI (n:Nat):List.replicate n (ae [48])=lI n []:=by
 unfold lI sJ;rw[So];symm;rw[List.eq_replicate_iff];refine⟨by simp,fun v a=>?_⟩;obtain⟨j,_,rfl⟩:=Rs.1 a;show ae (qtx 0)=_;rw[qtx_zero]
theorem mJ (n:Nat)(a:List (Nat × Rat)):(lI n a).length=n:=by simp[lI,sJ]
theorem fI {a:Nat}(b:List (Nat × Rat))(q:Rat)(h:a<n):aE (lI n b) [ae (qtx q)] a=lI n ((a,q)::b):=by
 have g:=mJ n b;unfold aE;refine List.ext_getElem? (fun j=>?_);have f:∀ (d:List (Nat × Rat)),(lI n d)[j]?=if j<n then some (ae (qtx ((dY d j).getD 0))) else none:=fun d=>by
  unfold lI sJ;rw[So,Rr];split
  ·rename_i c;rw[RY c];rfl
  rename_i c;rw[Rx (by simpa using Nat.le_of_not_lt c)];rfl
 rw[f ((a,q)::b)];have e:((lI n b).take a).length=a:=by rw[RE,g];omega
 rcases Nat.lt_trichotomy j a with c|rfl|c
 ·rw[R0,Se (by rw[e];exact c),Sg,aM c,f b,aM om_,aM om_];simp only[dY];rw[aF om_]
 ·rw[R0,RV (by rw[e];exact Ro _),e,TO,aM h];simp[dY]
 rw[RV (by rw[Ru,e];simp;omega),Ru,e,List.getElem?_drop];rw[show a+[ae (qtx q)].length+(j-(a+[ae (qtx q)].length))=j by simp;omega,f b];split
 ·simp only[dY];rw[aF om_]
 rfl
theorem xh {d a:List (Nat × Rat)}(h:d.Perm a)(b:(d.map (·.1)).Nodup):sJ n d=sJ n a:=by
 unfold sJ;refine List.map_congr_left (fun j _=>?_);rw[xU h b]
def eO (fm:List (Nat × Rat)):List (Int × Value):=fm.map fun x=>(((x.1:Nat):Int),ae (qtx x.2))
def I9 (p surface:Nat)(sign:Rat)(x:Nat × Rat):Nat × Rat:=(surface*p+x.1,sign*x.2)
theorem nG:QB 1 (-1:Rat):=eQ QB_one
theorem zC (C:Mem)(s p a k:Nat)(h:a*p+k<=1000000):Gives cx.P 240 [gk s p,i_ (a:Nat),i_ (k:Nat)] C (i_ ((a*p+k:Nat):Int)):=by
 have e:((a:Nat):Int)*(p:Nat)=((a*p:Nat):Int):=(RW _ _).symm;have h2:=PG C s p (a:Nat) (k:Nat) (by rw[e];omega) om_;rw[e,<- T6]at h2;exact h2
def JW (s p surface:Nat)(fm:List (Nat × Rat))(sign:Rat):List Rat:=sJ (s*p) (fm.map (I9 p surface sign))
theorem PO (C:Mem)(J:Tabs C)(s p f b:Nat)(c:List (Nat × Rat))(g o:Rat)(k:Nat)(K:0<k)(hk:k<=1000)(ab:s*p<=100000)(hs:f<s)(A:C b=some (aY keyZ.enc (eO c)))(ac:(c.map (·.1)).Nodup)(ad:∀ x∈c,x.1<p)(af:∀ x∈c,QB k x.2)(L:QB k g)(ah:QB k o) :
  Pur cx.P 246 [gk s p,i_ f,.map (some b),ae (qtx g),ae (qtx o)] C fun u D=>∃ v,u=.agg ⟨[v,ae (qtx (g*o))]⟩/\Sl D 1 v ((JW s p f c g).map dJ):=by
 have aw:=mx_
 have M:(eO c).length=c.length:=by simp[eO]
 have ax:f*p+p<=s*p:=by
  rw[<- Nat.succ_mul];exact Sa _ hs
 have ay:=(c.map (·.1)).length;refine Vi func246 38 U3 fun w0=>Vd fun R l=>Vs U6 fun b5=>Vt U5 fun z=>Vf [1,2,3,4,5,10] l U<|G.freeze 1 U fun _ _ N=>VB [(1,3)] U fun R l=>Vb (bkT N 2) U8<|D.call (gg _ s p ab) U (.inr dc_) U6 (Rw _) fl_ (fun az _ aA _ aj=>?_);obtain⟨bz,rfl,rfl⟩:=aj;refine Ve 2 U<|Vm (df _ J.m_ g o k K om_ L ah) U7 fl_<|Vu [s_ bz (s*p:Nat) (s*p:Nat),ae (qtx (g*o))] U8<|Vt U5 fun ak=>Vk (j:=0) U12<|Vf [1,2,3,5,10,11] l U<|G.freeze 0 U fun _ _ O=>Vr (L':=[.arr (s_ bz (s*p) (s*p)) 32 1 (s*p) (lI (s*p) []),.obj z (.cells ⟨[.slice none 0 0,ae []]⟩ 140 (0,0))]) (by rw[mI];rfl)<|Va 1 U fun R l=>Xm keyZ (Mem.get A mup) U U U U U U U fl_ fun E=>Vf [1,3,5,10,11,21] l U<|G.loop (fun fr C' B μ=>∃ (seen:List Nat),(seen.Nodup/\(∀ j∈seen,j<c.length))/\fr=[(1,[],i_ f),(3,[],ae (qtx g)),(5,[],p_ b5),(10,[],p_ z),(11,[],p_ ak),(21,[],p_ E)]/\B=[.obj E (bq b (eO c).length seen),.arr (s_ bz (s*p) (s*p)) 32 1 (s*p) (lI (s*p) (seen.reverse.map fun i=>I9 p f g (c.getD i (0,0)))),.obj z (.cells ⟨[.slice none 0 0,ae []]⟩ 140 (0,0))]/\μ=c.length-seen.length) (hn_ [1,3,5,10,11,21] U) ⟨[],⟨List.nodup_nil,by simp⟩,U,U,U⟩ (fun fr aB aC m _ hI=>?_);obtain⟨seen,⟨Q,S⟩,rfl,rfl,rfl⟩:=hI;refine Vd fun R l=>Xs keyZ (q:=0) (Mem.get A mup) U U U U U U fl_ fun T aD t V=>C6 1 [1,3,5,10,11,21,23] l U<|G.cd (fun w=>?_) fun w=>?_
 ·obtain⟨aE,j,F,al,rfl⟩:T=true/\∃ j,j<(eO c).length/\j ∉ seen/\t=seen++[j]:=by
   rcases V with⟨h1,_⟩|h1
   ·rw[h1]at w;cases w
   exact h1
  rw[M]at F;obtain⟨⟨n,q⟩,H⟩:∃ x,c[j]?=some x:=⟨c[j],ai F⟩;have W:=aU H;have aF:n<p:=ad _ W;have an:QB k q:=af _ W;have ao:(eO c)[j]?=some (((n:Nat):Int),ae (qtx q)):=by unfold eO;rw[Rr,H];rfl
  have ap:c.getD j (0,0)=(n,q):=by rw[am,H];rfl
  have X:(seen++[j]).Nodup:=by
   rw[S1];exact⟨Q,by simp,fun a ha b hb e=>by rw[RK.1 hb]at e;subst e;exact al ha⟩
  have Y:∀ i∈seen++[j],i<c.length:=fun i I=>by
   rcases RF.1 I with h|h
   ·exact S i h
   rw[RK.1 h];exact F
  have aG:(seen++[j]).length<=c.length:=by
   have:=List.Nodup.length_le_of_subset X (l₂:=List.range c.length) (fun i I=>RL.2 (Y i I));simpa using this
  have aH:(seen++[j]).length=seen.length+1:=by simp
  have aq:f*p+n<s*p:=by omega
  refine Vd fun R l=>Xp keyZ (Mem.get A mup) ao ag U U U U U U U<|C6 4 [1,3,5,10,11,12,13,21] l U<|Vv [0,1,2,3,4,5,6,7,8,9,10] [(5,1),(8,1)] U kr_ fun R hB l=>Vc U6<|Vb (bkT O 1) U8<|Vb (bkT N 2) U8<|Ve 2 U<|Vx (fun _=>(zC _ s p f n om_)) U9<|Ve 2 U<|Vx (fun _=>(df _ J.m_ g q k K om_ L an)) U9<|VD ((f*p+n)) U10 (fun _=>⟨by omega,by omega,(SL _).symm⟩) U2<|VG (j:=1) U11 (by rw[mJ];simp;omega)<|Vf [1,3,5,10,11,21] l U<|G.perm (L':=[.obj E (bq b (eO c).length (seen++[j])),.arr (s_ bz (s*p) (s*p)) 32 1 (s*p) (lI (s*p) ((seen++[j]).reverse.map fun i=>I9 p f g (c.getD i (0,0)))),.obj z (.cells ⟨[.slice none 0 0,ae []]⟩ 140 (0,0))]) (by
   rw[List.reverse_append,List.reverse_singleton,List.singleton_append,R6,ap];unfold I9;rw[<- fI _ _ aq];exact List.Perm.swap _ _ _) ?_
  refine Vn (m':=c.length-(seen++[j]).length) om_ mup (hn_ [1,3,5,10,11,21] U) ⟨seen++[j],⟨X,Y⟩,U,U,U⟩
 obtain⟨aI,rfl,Z⟩:T=false/\t=seen/\∀ j,j<(eO c).length->j∈seen:=by
  rcases V with h1|⟨h1,_⟩
  ·exact h1
  rw[h1]at w;cases w
 rw[M]at Z;have aa:(t.reverse.map fun i=>I9 p f g (c.getD i (0,0))).Perm (c.map (I9 p f g)):=by
  have h1:=(pT (d:=((0:Nat),(0:Rat))) Q S Z).map (I9 p f g);rw[So]at h1;exact((List.reverse_perm t).map _).trans h1
 have ar:((c.map (I9 p f g)).map (·.1)).Nodup:=by
  rw[So];have e:((·.1) ∘ I9 p f g:Nat × Rat->Nat)=(fun k=>f*p+k) ∘ (·.1):=rfl;rw[e,<- So];rw[List.Nodup,List.pairwise_map];exact ac.imp (fun {a b} h=>by omega)
 have au:lI (s*p) (t.reverse.map fun i=>I9 p f g (c.getD i (0,0)))=((JW s p f c g).map dJ).flatten:=by
  unfold JW lI;rw[xh aa ((aa.map (·.1)).nodup_iff.2 ar)];exact(eE (fun q=>ae (qtx q)) _).symm
 refine VR 0 U<|G.freezeArr 0 ((JW s p f c g).map dJ) rfl au (by intro r hr;obtain⟨y,_,rfl⟩:=Rs.1 hr;rfl) (by simp[JW,sJ]) fun Cg hg av=>Vd fun R l=>Vb (bkT O 2) U8<|Vk (j:=0) U12<|Vf [10] l U<|Vo (VU ag U4 ?_);exact⟨U,_,U,av⟩
end Go.Proofs.YtfjcldheldflbaaGreatDoor
