import Derived.Test.YtfjcldheldflbaaGreatDoorG8
set_option maxHeartbeats 4000000
namespace Go.Proofs.YtfjcldheldflbaaGreatDoor
open Go.Proofs.Tryz
open Go Go.Jog
set_option maxRecDepth 100000
variable {C:Mem}{a b:Rat}{bv:Value}{c:Rat}{fs:List Rat}{i k m n:Nat}{p:Pt}{pts:List Pt}{q:Rat}{t:Tri}{tris:List Tri}{z:Int}{α:Type}
theorem cI {f:α->List Value}{l:List α}{x:α}(h:l[i]?=some x):(l.map f)[i]?=some (f x):=by rw[Sh,h];rfl
def oB (n:Nat)(l:List Str):Int:=if l.length=n then oc (l.all aS) else 5
theorem yZ (C:Mem)(y:Tabs C)(z v A:Value)(b:List Pt)(f:List Tri)(l:List Str)(B:MeshIn C z b f)(D:Good b f)(g:Sl C 1 v [[A]])(k:Sl C 1 A (l.map dC))(N:∀s∈l,s.length<=999998) :
  Gives cx.P 61 [z,v] C (i_ (oB b.length l)):=by
 have E:=B;have aa:=D.ok.lp;obtain⟨v1,v2,rfl,h1,h2⟩:=id B.ex;obtain⟨A1,c1,rfl,ab,ac,_⟩:=id h1;obtain⟨F,H,rfl,ad,ae,_⟩:=id g;obtain⟨n,o,rfl,O,af,_⟩:=id k;have ag:=mx_
 simp only[au,Sk]at h1 g k E O⊢;refine V7 func61 41 U3 λw0=>V3 λR a=>Wi U6 λI=>C6 1 [1,2] a U<|G.freeze 0 U λ_ _ J=>V3 λR a=>V1 (PtrTo.block (Mem.get J mup) _) U8<|Wb (ic _ y.m_ _ b f E.m_ D) U7<|C6 1 [1,2,5] a U<|U0 2 [1,2,5,14] U<|G.cd (λK=>?_) λK=>?_
 .exact absurd K dc_
 refine U0 3 [2,16,17,18] U<|G.loop (λfr Q p q=>∃(i:Nat),(i<=1/\(i=1->l.length=b.length/\l.all aS=true))/\fr=[(2,[],p_ I),(16,[],.slice F 1 H),(17,[],i_ 1),(18,[],i_ i)]/\p=[]/\q=1-i) (hn_ [2,16,17,18] U) ⟨0,⟨Sm _,λh=>absurd h dc_⟩,U,U,U⟩ (λfr ai aj m _ r=>?_);obtain⟨i,⟨hi,S⟩,rfl,rfl,rfl⟩:=r;refine U0 1 [2,16,17,18,19] U<|G.cd (λt=>?_) λt=>?_
 .obtain rfl:i=0:=by
   simp only[Sr]at t;omega
  refine V3 λR a=>Wf g.m_ U10 om_ (rfl:([[.slice n l.length o]]:List (List Value))[0]?=some [.slice n l.length o]) fl_ λak T=>V1 T U8<|C6 1 [2,7,16,17,18] a U<|U1 3 U λR a=>V1 (PtrTo.block (Mem.get J mup) _) U8<|C6 2 [2,7,16,17,18,27] a U<|G.cd (λd=>?_) λd=>?_
  .have V:l.length≠b.length:=by
    intro e;rw[e]at d;simp at d
   exact U0 1 [4] U<|V6 U2<|⟨by unfold oB;rw[aF V],U⟩
  have L:l.length=b.length:=by
   have h:((l.length:Nat):Int)=(b.length:Nat):=by simpa using d
   omega
  refine U0 3 [2,16,17,18,28,29,30] U<|G.loop (λfr Q p q=>∃(j:Nat),(j<=l.length/\(l.take j).all aS=true)/\fr=[(2,[],p_ I),(16,[],.slice F 1 H),(17,[],i_ 1),(18,[],i_ 0),(28,[],.slice n l.length o),(29,[],i_ l.length),(30,[],i_ j)]/\p=[]/\q=l.length-j) (hn_ [2,16,17,18,28,29,30] U) ⟨0,⟨Sm _,by simp⟩,U,U,U⟩ (λfr al am m W r=>?_);obtain⟨j,⟨hj,u⟩,rfl,rfl,rfl⟩:=r;refine U0 1 [2,16,17,18,28,29,30,31] U<|G.cd (λw=>?_) λw=>?_
  .have x:j<l.length:=by simpa using w
   obtain⟨s,hs⟩:∃s,l[j]?=some s:=⟨l[j],ah x⟩;refine V3 λR a=>Wf k.m_ U10 om_ (cI hs) fl_ λan X=>V1 X U8<|C6 1 [2,9,16,17,18,28,29,30] a U<|U1 1 U λR a=>Wb (dB _ y.m_ s (N s (aJ hs))) U7<|C6 1 [2,10,16,17,18,28,29,30] a U<|U0 2 [2,10,16,17,18,28,29,30,37] U<|G.cd (λc=>?_) λc=>?_
   .have M:aS s=false:=by
     rcases eN (aS s) with⟨h1,h2⟩|⟨h1,h2⟩
     .rw[h1]at c;exact absurd c dc_
     exact h2
    refine U0 2 [4] U<|V6 U2<|⟨?_,U⟩;unfold oB;rw[aK L,M,show l.all aS=false from UJ.2 ⟨s,aJ hs,by rw[M];decide⟩]
   have Y:aS s=true:=by
    rcases eN (aS s) with⟨h1,h2⟩|⟨h1,h2⟩
    .exact h2
    rw[h1]at c;exact absurd c dc_
   refine V3 λR a=>V8 _ U U6<|C6 1 [2,16,17,18,28,29,30] a U<|We (m':=l.length-(j+1)) om_ W (hn_ [2,16,17,18,28,29,30] U) ⟨j+1,⟨by omega,by rw[SH,hs,VU,u];simp[Y]⟩,U,U,U⟩
  have x:j=l.length:=by
   have:¬ j<l.length:=by simpa using w
   omega
  refine V3 λR a=>V8 _ U U6<|C6 1 [2,16,17,18] a U<|We (m':=0) om_ mup (hn_ [2,16,17,18] U) ⟨1,⟨Sg _,λ_=>⟨L,by rw[x,Ss]at u;exact u⟩⟩,U,U,U⟩
 have Z:i=1:=by
  simp only[SS]at t;omega
 refine U0 1 [4] U<|V6 U2<|⟨?_,U⟩;obtain⟨h3,h4⟩:=S Z;unfold oB;rw[aK h3,h4];rfl
theorem mM (C:Mem)(h:Tabs C)(e f:Value)(a:List Pt)(b:List Tri)(l:List Str)(g:MeshIn C e a b)(i:Good a b)(c:Sl C 1 f (l.map dC))(j:∀s∈l,s.length<=999998) :
  Gives cx.P 217 [e,f] C (i_ (oB a.length l)):=by
 have k:=g;obtain⟨p,q,rfl,h1,h2⟩:=id g.ex;obtain⟨m,n,rfl,r,t,_⟩:=id c;simp only[au]at c⊢;exact V7 func217 9 U3 λw0=>V3 λR d=>Wi U6 λu=>C6 1 [1,2] d U<|V3 λR d=>V9 ag U9<|V2 U6<|Wq [[.slice m l.length n]] U12 λv _ _ o=>Wb (yZ _ h.m_ _ _ _ a b l k.m_ i o.m_ c.m_ j) U7<|C6 1 [4] d U<|V6 U2<|⟨U,U⟩
def eH (q:Rat):List Value:=[ae (qtx q)]
def fz (fs:List Rat)(t:Tri)(j:Nat):Rat:=fs.getD (pR t j) 0
def Be (pts:List Pt)(fs:List Rat)(t:Tri)(j:Nat):List Value:=gK (cor pts t j)++eH (fz fs t j)
theorem IG (h:i<fs.length):fs[i]?=some (fs.getD i 0):=by
 rw[ak,ah h];rfl
theorem AV (C:Mem)(r s:Value)(b:List Pt)(l:List Tri)(c:List Rat)(z:MeshIn C r b l)(A:MeshOk b l)(e:Sl C 1 s (c.map eH))(n:c.length=b.length)(i:Nat)(t:Tri)(o:l[i]?=some t) :
  Gives cx.P 192 [r,s,.int .i64 i] C (.agg ⟨Be b c t 0++Be b c t 1++Be b c t 2⟩):=by
 have d:=A.ins t (aJ o);obtain⟨M,N,rfl,h1,h2⟩:=id z.ex;obtain⟨O,Q,rfl,B,S,_⟩:=id h1;obtain⟨A2,c2,rfl,D,T,_⟩:=id h2;obtain⟨E,F,rfl,V,W,_⟩:=id e;have X:maxLen<=9223372036854775807:=by simp[maxLen]
 simp only[au]at h1 h2 e B D⊢;have Y:=(aT.1 o).1;refine V7 func192 32 U3 λw0=>V3 λR a=>Wi U6 λH=>Wg U5 λu=>V5 [1,2,3,6] a U<|G.freeze 1 U λ_ _ h=>U1 1 U λR a=>V1 (PtrTo.block (Mem.get h mup) _) U8<|V2 U6<|Wf h2.m_ U10 om_ (cI o) fl_ λZ I=>V1 I U8<|C6 1 [1,3,6,13,14] a U<|G.loop (λfr C' J K=>∃(j:Nat),(j<=3)/\fr=[(1,[],.slice E c.length F),(3,[],.pointer (some ⟨H,0,none⟩)),(6,[],.pointer (some ⟨u,0,none⟩)),(13,[],.agg ⟨jG t⟩),(14,[],.int .i64 j)]/\J=[.obj u (.cells ⟨(List.range 3).flatMap λk=>if k<j then Be b c t k else [ae [],ae [],ae []]⟩ 279 (0,0))]/\K=3-j) (hn_ [1,3,6,13,14] U) ⟨0,Sm _,U,U,U⟩ (λfr aa ab m p L=>?_);obtain⟨j,hj,rfl,rfl,rfl⟩:=L;refine U0 1 [1,3,6,13,14,15] U<|G.cd (λq=>?_) λq=>?_
 .have v:j<3:=by
   simp only[Sr]at q;omega
  rcases(by omega:j=0∨j=1∨j=2) with rfl|rfl|rfl
  .refine U1 1 U λR a=>W7 U11 (λ_=>⟨by decide,by decide,U⟩) U2<|C6 2 [1,3,6,7,8,13,14] a U<|Wn [0,1,2,3,4,5,6,7,8,9,10,11,12] [] U kr_ λR w a=>V4 2 U<|V1 (PtrTo.block (Mem.get h mup) _) U8<|V2 U6<|Wf h1.m_ U10 om_ (cI (qH (fK d 0))) fl_ λx f=>V1 f U8<|V4 2 U<|Wf e.m_ U10 om_ (cI (IG (n ▸ fK d 0))) fl_ λy g=>V1 g U8<|Wm (Be b c t 0) U8<|Wp (_) U9 (λ_=>⟨by decide,by decide,U⟩) U2<|Wa (j:=0) U12<|V5 [1,3,6,13,14] a U<|V3 λR a=>V8 _ U U6<|C6 1 [1,3,6,13,14] a U<|We (m':=2) om_ p (hn_ [1,3,6,13,14] U) ⟨1,by decide,U,U,U⟩
  .refine U1 1 U λR a=>W7 U11 (λ_=>⟨by decide,by decide,U⟩) U2<|C6 2 [1,3,6,7,8,13,14] a U<|Wn [0,1,2,3,4,5,6,7,8,9,10,11,12] [] U kr_ λR w a=>V4 2 U<|V1 (PtrTo.block (Mem.get h mup) _) U8<|V2 U6<|Wf h1.m_ U10 om_ (cI (qH (fK d 1))) fl_ λx f=>V1 f U8<|V4 2 U<|Wf e.m_ U10 om_ (cI (IG (n ▸ fK d 1))) fl_ λy g=>V1 g U8<|Wm (Be b c t 1) U8<|Wp (_) U9 (λ_=>⟨by decide,by decide,U⟩) U2<|Wa (j:=0) U12<|V5 [1,3,6,13,14] a U<|V3 λR a=>V8 _ U U6<|C6 1 [1,3,6,13,14] a U<|We (m':=1) om_ p (hn_ [1,3,6,13,14] U) ⟨2,by decide,U,U,U⟩
  refine U1 1 U λR a=>W7 U11 (λ_=>⟨by decide,by decide,U⟩) U2<|C6 2 [1,3,6,7,8,13,14] a U<|Wn [0,1,2,3,4,5,6,7,8,9,10,11,12] [] U kr_ λR w a=>V4 2 U<|V1 (PtrTo.block (Mem.get h mup) _) U8<|V2 U6<|Wf h1.m_ U10 om_ (cI (qH (fK d 2))) fl_ λx f=>V1 f U8<|V4 2 U<|Wf e.m_ U10 om_ (cI (IG (n ▸ fK d 2))) fl_ λy g=>V1 g U8<|Wm (Be b c t 2) U8<|Wp (_) U9 (λ_=>⟨by decide,by decide,U⟩) U2<|Wa (j:=0) U12<|V5 [1,3,6,13,14] a U<|V3 λR a=>V8 _ U U6<|C6 1 [1,3,6,13,14] a U<|We (m':=0) om_ p (hn_ [1,3,6,13,14] U) ⟨3,by decide,U,U,U⟩
 have v:j=3:=by
  simp only[SS]at q;omega
 subst v;refine V3 λR a=>V9 ag U9<|Wa (j:=0) U12<|V5 [6] a U<|Wd (WO ag U4 ?_);exact⟨U,U⟩
theorem jM (c:QB k a)(d:QB m b):QB (k+m) (a*b):=by
 rw[eY];refine gA (Nat.mul_ne_zero a.den_nz b.den_nz) ?_ ?_
 .rw[TF,Uw];exact TL c.1 d.1
 rw[Uw];exact TL c.2 d.2
theorem wk (c:QB k a)(d:QB m b):QB (k+m+1) (a+b):=by
 rw[eZ];have e:B9 ^ (k+m+1)=B9 ^ k*B9 ^ m*B9:=by rw[TB,Uw]
 have f:(a.num*b.den).natAbs<B9 ^ k*B9 ^ m:=by rw[TF,S4];exact TL c.1 d.2
 have g:(b.num*a.den).natAbs<B9 ^ k*B9 ^ m:=by rw[TF,S4,S3];exact TL c.2 d.1
 have h:a.den*b.den<B9 ^ k*B9 ^ m:=TL c.2 d.2;have i:2*(B9 ^ k*B9 ^ m)<=B9 ^ k*B9 ^ m*B9:=by
  rw[S3];exact TJ _ dc_
 refine gA (Nat.mul_ne_zero a.den_nz b.den_nz) ?_ ?_
 .rw[e];have:=UI (a.num*b.den) (b.num*a.den);omega
 rw[e];omega
theorem fu (c:QB k a)(d:QB m b):QB (k+m+1) (a-b):=by
 rw[Vv];exact wk c (eO d)
theorem QB_one:QB 1 1:=⟨by decide,by decide⟩
theorem QB_zero:QB 1 0:=⟨by decide,by decide⟩
def eK (a b c d:Rat):Rat:=a*d-b*c
theorem rA (C:Mem)(e:Tabs C)(a b c d:Rat)(k:Nat)(f:0<k)(m:k<=2000)(g:QB k a)(h:QB k b)(i:QB k c)(j:QB k d):Gives cx.P 193 [ae (qtx a),ae (qtx b),ae (qtx c),ae (qtx d)] C (ae (qtx (eK a b c d))):=by
 exact V7 func193 16 U3 λw0=>U0 1 [0,1,2,3] U<|U1 2 U λR l=>Wc (cX _ e.m_ a d k f om_ g j) U7 fl_<|V4 2 U<|Wc (cX _ e.m_ b c k f om_ h i) U7 fl_<|Wc (dY _ e.m_ (a*d) (b*c) (k+k) om_ om_ (sa g j) (sa h i)) U7 fl_<|C6 1 [8] l U<|V6 U2<|⟨U,U⟩
theorem kD {d:Rat}(e:QB k a)(f:QB k b)(g:QB k c)(h:QB k d):QB (4*k+1) (eK a b c d):=(fu (jM e h) (jM f g)).le om_
def qe (c0 c1 c2:Pt)(z0 z1 z2:Rat):Pt :=
 ((1 / eK (c1.1-c0.1) (c1.2-c0.2) (c2.1-c0.1) (c2.2-c0.2))*eK (z1-z0) (c1.2-c0.2) (z2-z0) (c2.2-c0.2),
 (1 / eK (c1.1-c0.1) (c1.2-c0.2) (c2.1-c0.1) (c2.2-c0.2))*eK (c1.1-c0.1) (z1-z0) (c2.1-c0.1) (z2-z0))
def dW (pts:List Pt)(fs:List Rat)(t:Tri):Pt:=qe (cor pts t 0) (cor pts t 1) (cor pts t 2) (fz fs t 0) (fz fs t 1) (fz fs t 2)
theorem Pb (a:MeshOk pts tris)(b:fs.length=pts.length)(c:∀q∈fs,QB k q)(d:t∈tris)(j:Nat):QB k (fz fs t j) :=
 c _ (aJ (IG (b ▸ fK (a.ins t d) j)))
theorem xk (d:MeshOk pts tris)(g:fs.length=pts.length)(h:∀q∈fs,QB k q)(e:t∈tris):QP (8*k+39) (dW pts fs t):=by
 have a:=λj=>oC d e j;have f:=λj=>Pb d g h e j;have b:∀i j,QB 3 ((cor pts t i).1-(cor pts t j).1):=λi j=>(fu (a i).1 (a j).1).le dc_;have hy:∀i j,QB 3 ((cor pts t i).2-(cor pts t j).2):=λi j=>(fu (a i).2 (a j).2).le dc_;have c:∀i j,QB (2*k+1) (fz fs t i-fz fs t j):=λi j=>(fu (f i) (f j)).le om_;have hm:QB 13 (eK ((cor pts t 1).1-(cor pts t 0).1) ((cor pts t 1).2-(cor pts t 0).2) ((cor pts t 2).1-(cor pts t 0).1) ((cor pts t 2).2-(cor pts t 0).2)):=(kD (k:=3) (b 1 0) (hy 1 0) (b 2 0) (hy 2 0)).le dc_;have l:eK ((cor pts t 1).1-(cor pts t 0).1) ((cor pts t 1).2-(cor pts t 0).2) ((cor pts t 2).1-(cor pts t 0).1) ((cor pts t 2).2-(cor pts t 0).2)≠0:=kp d e;have h1:QB 26 _:=(jN (k:=13) (QB_one.le dc_) hm l).le dc_;have m:QB (4*(2*k+3)+1) (eK (fz fs t 1-fz fs t 0) ((cor pts t 1).2-(cor pts t 0).2) (fz fs t 2-fz fs t 0) ((cor pts t 2).2-(cor pts t 0).2)):=kD (k:=2*k+3) ((c 1 0).le om_) ((hy 1 0).le om_) ((c 2 0).le om_) ((hy 2 0).le om_);have n:QB (4*(2*k+3)+1) (eK ((cor pts t 1).1-(cor pts t 0).1) (fz fs t 1-fz fs t 0) ((cor pts t 2).1-(cor pts t 0).1) (fz fs t 2-fz fs t 0)):=kD (k:=2*k+3) ((b 1 0).le om_) ((c 1 0).le om_) ((b 2 0).le om_) ((c 2 0).le om_);exact⟨(jM h1 m).le om_,(jM h1 n).le om_⟩
theorem yE (C:Mem)(d:Tabs C)(r s:Value)(a:List Pt)(n:List Tri)(b:List Rat)(k:Nat)(u:0<k)(K:k<=100)(v:MeshIn C r a n)(o:MeshOk a n)(D:Sl C 1 s (b.map eH))(w:b.length=a.length)(E:∀q∈b,QB k q)(i:Nat)(t:Tri)(x:n[i]?=some t) :
  Gives cx.P 125 [r,s,.int .i64 i] C (ptV (dW a b t)):=by
 have p:=aJ x;have F:=v;obtain⟨L,M,rfl,h1,h2⟩:=id v.ex;have e:=λj=>oC o p j;have m:=λj=>Pb o w E p j;have g:∀i j,QB 3 ((cor a t i).1-(cor a t j).1):=λi j=>(fu (e i).1 (e j).1).le dc_;have hy:∀i j,QB 3 ((cor a t i).2-(cor a t j).2):=λi j=>(fu (e i).2 (e j).2).le dc_;have l:∀i j,QB (2*k+1) (fz b t i-fz b t j):=λi j=>(fu (m i) (m j)).le om_;have y:QB 13 (eK ((cor a t 1).1-(cor a t 0).1) ((cor a t 1).2-(cor a t 0).2) ((cor a t 2).1-(cor a t 0).1) ((cor a t 2).2-(cor a t 0).2)):=(kD (k:=3) (g 1 0) (hy 1 0) (g 2 0) (hy 2 0)).le dc_;have z:eK ((cor a t 1).1-(cor a t 0).1) ((cor a t 1).2-(cor a t 0).2) ((cor a t 2).1-(cor a t 0).1) ((cor a t 2).2-(cor a t 0).2)≠0:=kp o p;have A:QB 26 (1 / eK ((cor a t 1).1-(cor a t 0).1) ((cor a t 1).2-(cor a t 0).2) ((cor a t 2).1-(cor a t 0).1) ((cor a t 2).2-(cor a t 0).2)):=(jN (k:=13) (QB_one.le dc_) y z).le dc_;have H:QB (8*k+26) (eK (fz b t 1-fz b t 0) ((cor a t 1).2-(cor a t 0).2) (fz b t 2-fz b t 0) ((cor a t 2).2-(cor a t 0).2)):=(kD (k:=2*k+3) ((l 1 0).le om_) ((hy 1 0).le om_) ((l 2 0).le om_) ((hy 2 0).le om_)).le om_;have I:QB (8*k+26) (eK ((cor a t 1).1-(cor a t 0).1) (fz b t 1-fz b t 0) ((cor a t 2).1-(cor a t 0).1) (fz b t 2-fz b t 0)):=(kD (k:=2*k+3) ((g 1 0).le om_) ((l 1 0).le om_) ((g 2 0).le om_) ((l 2 0).le om_)).le om_;refine V7 func125 98 U3 λw0=>V3 λR c=>Wi U6 λN=>Wg U5 λO=>V5 [1,2,3,6] c U<|V3 λR c=>V9 af U9<|V4 2 U<|Wb (AV _ _ _ a n b F.m_ o D.m_ w i t x) U7<|Wg U5 λQ=>Wa (j:=0) U12<|V5 [6,7] c U<|G.freeze 0 U λJ _ f=>Wn [0,1,2,3,4,5,6,7,8,9,10,11,12,13,14,15,16,17,18,19] [(8,1),(17,1)] U kr_ λR B c=>Wp (3) U9 (λ_=>⟨by decide,by decide,U⟩) U2<|V4 2 U<|V1 (bkT f 1) U8<|Wp (0) U9 (λ_=>⟨by decide,by decide,U⟩) U2<|V4 2 U<|V1 (bkT f 1) U8<|Wo (λ_=>(dY _ d.m_ (cor a t 1).1 (cor a t 0).1 1 dc_ dc_ (e 1).1 (e 0).1)) U9<|Wp (3) U9 (λ_=>⟨by decide,by decide,U⟩) U2<|V4 2 U<|V1 (bkT f 1) U8<|Wp (0) U9 (λ_=>⟨by decide,by decide,U⟩) U2<|V4 2 U<|V1 (bkT f 1) U8<|Wo (λ_=>(dY _ d.m_ (cor a t 1).2 (cor a t 0).2 1 dc_ dc_ (e 1).2 (e 0).2)) U9<|C6 2 [6,7,8,9] c U<|Wn [0,1,2,3,4,5,6,7,8,9,10,11,12,13,14,15,16,17,18,19] [(8,1),(17,1)] U kr_ λR B c=>Wp (6) U9 (λ_=>⟨by decide,by decide,U⟩) U2<|V4 2 U<|V1 (bkT f 1) U8<|Wp (0) U9 (λ_=>⟨by decide,by decide,U⟩) U2<|V4 2 U<|V1 (bkT f 1) U8<|Wo (λ_=>(dY _ d.m_ (cor a t 2).1 (cor a t 0).1 1 dc_ dc_ (e 2).1 (e 0).1)) U9<|Wp (6) U9 (λ_=>⟨by decide,by decide,U⟩) U2<|V4 2 U<|V1 (bkT f 1) U8<|Wp (0) U9 (λ_=>⟨by decide,by decide,U⟩) U2<|V4 2 U<|V1 (bkT f 1) U8<|Wo (λ_=>(dY _ d.m_ (cor a t 2).2 (cor a t 0).2 1 dc_ dc_ (e 2).2 (e 0).2)) U9<|C6 2 [6,7,8,9,10,11] c U<|Wn [0,1,2,3,4,5,6,7,8,9,10,11,12,13,14,15] [(6,1),(13,1)] U kr_ λR B c=>Wp (3) U9 (λ_=>⟨by decide,by decide,U⟩) U2<|V2 U6<|V1 (bkT f 1) U8<|Wp (0) U9 (λ_=>⟨by decide,by decide,U⟩) U2<|V2 U6<|V1 (bkT f 1) U8<|Wo (λ_=>(dY _ d.m_ (fz b t 1) (fz b t 0) k u om_ (m 1) (m 0))) U9<|Wp (6) U9 (λ_=>⟨by decide,by decide,U⟩) U2<|V2 U6<|V1 (bkT f 1) U8<|Wp (0) U9 (λ_=>⟨by decide,by decide,U⟩) U2<|V2 U6<|V1 (bkT f 1) U8<|Wo (λ_=>(dY _ d.m_ (fz b t 2) (fz b t 0) k u om_ (m 2) (m 0))) U9<|C6 2 [6,8,9,10,11,12,13] c U<|U0 1 [6,8,9,10,11,12,13,14] U<|U1 5 U λR c=>Wc (rA _ d.m_ _ _ _ _ 3 dc_ dc_ (g 1 0) (hy 1 0) (g 2 0) (hy 2 0)) U7 fl_<|Wc (by have h:=iu J d.m_ 1 _ 13 dc_ dc_ (QB_one.le dc_) y z;rw[fR]at h;exact h) U7 fl_<|C6 5 [6,8,9,10,11,12,13,14,15] c U<|U1 6 U λR c=>Wc (rA _ d.m_ (fz b t 1-fz b t 0) ((cor a t 1).2-(cor a t 0).2) (fz b t 2-fz b t 0) ((cor a t 2).2-(cor a t 0).2) (2*k+3) om_ om_ ((l 1 0).le om_) ((hy 1 0).le om_) ((l 2 0).le om_) ((hy 2 0).le om_)) U7 fl_<|Wc (cX _ d.m_ _ _ (8*k+26) om_ om_ (A.le om_) H) U7 fl_<|V4 6 U<|Wc (rA _ d.m_ ((cor a t 1).1-(cor a t 0).1) (fz b t 1-fz b t 0) ((cor a t 2).1-(cor a t 0).1) (fz b t 2-fz b t 0) (2*k+3) om_ om_ ((g 1 0).le om_) ((l 1 0).le om_) ((g 2 0).le om_) ((l 2 0).le om_)) U7 fl_<|Wc (cX _ d.m_ _ _ (8*k+26) om_ om_ (A.le om_) I) U7 fl_<|Wm (gK (dW a b t)) U8<|Wa (j:=0) U12<|V5 [6] c U<|Wd (WO ag U4 ?_);exact⟨U,U⟩
def JN (l:List Rat):Rat:=l.foldl (·+·) 0
theorem Gy (l:List Rat)(q:Rat):JN (l++[q])=JN l+q:=by unfold JN;rw[List.foldl_append];rfl
theorem N4 (C:Mem)(g:Tabs C)(v:Value)(l:List Rat)(k:Nat)(h:0<k)(j:k<=10000)(b:Sl C 1 v (l.map eH))(n:∀q∈l,QB k q)(o:∀i,QB k (JN (l.take i))) :
  Gives cx.P 126 [v] C (ae (qtx (JN l))):=by
 obtain⟨p,c0,rfl,r,z,_⟩:=id b;have A:=mx_
 simp only[au]at b r⊢;refine V7 func126 17 U3 λw0=>U0 1 [0] U<|U0 1 [0,3] U<|U0 3 [3,6,7,8] U<|G.loop (λfr B t u=>∃(i:Nat)(s:Str),(i<=l.length/\s=qtx (JN (l.take i)))/\fr=[(3,[],ae s),(6,[],.slice p l.length c0),(7,[],i_ l.length),(8,[],i_ i)]/\t=[]/\u=l.length-i) (hn_ [3,6,7,8] U) ⟨0,[48],⟨Sm _,qtx_zero.symm⟩,U,U,U⟩ (λfr D E m w x=>?_);obtain⟨i,s,⟨F,f⟩,rfl,rfl,rfl⟩:=x;refine U0 1 [3,6,7,8,9] U<|G.cd (λc=>?_) λc=>?_
 .have d:i<l.length:=by simpa using c
  obtain⟨q,e⟩:∃q,l[i]?=some q:=⟨l[i],ah d⟩;subst f;refine V3 λR a=>Wf b.m_ U10 om_ (cI e) fl_ λH y=>V1 y U8<|C6 1 [3,5,6,7,8] a U<|U1 2 U λR a=>Wb (fQ _ g.m_ (JN (l.take i)) q k h j (o i) (n q (aJ e))) U7<|C6 1 [3,6,7,8] a U<|V3 λR a=>V8 _ U U6<|C6 1 [3,6,7,8] a U<|We (m':=l.length-(i+1)) om_ w (hn_ [3,6,7,8] U) ⟨i+1,_,⟨by omega,by rw[SH,e,TE,Gy]⟩,U,U,U⟩
 have d:i=l.length:=by
  have:¬ i<l.length:=by simpa using c
  omega
 exact U0 2 [2] U<|V6 U2<|⟨by rw[f,d,Ss],U⟩
def E0 (q:Rat):Value:=if aS (qtx q) then .tuple #[ae (qtx q),.int .i64 0] else .tuple #[ae [],.int .i64 4]
theorem II (C:Mem)(b:Tabs C)(q:Rat)(c:(qtx q).length<=999998):Gives cx.P 62 [ae (qtx q)] C (E0 q):=by
 refine V7 func62 8 U3 λw0=>U0 2 [0] U<|U1 1 U λR d=>Wb (dB _ b.m_ _ c) U7<|C6 1 [0,6] d U<|G.cd (λa=>?_) λa=>?_
 .have e:aS (qtx q)=false:=by
   rcases eN (aS (qtx q)) with⟨h1,h2⟩|⟨h1,h2⟩
   .rw[h1]at a;exact absurd a dc_
   exact h2
  refine U0 2 [2,3] U<|Wd (G.dropAll (Wu U3 ?_));exact⟨by unfold E0;rw[e];rfl,U⟩
 have f:aS (qtx q)=true:=by
  rcases eN (aS (qtx q)) with⟨h1,h2⟩|⟨h1,h2⟩
  .exact h2
  rw[h1]at a;exact absurd a dc_
 refine U0 3 [2,3] U<|Wd (G.dropAll (Wu U3 ?_));exact⟨by unfold E0;rw[f];rfl,U⟩
def onQ (pts:List Pt)(fs:List Rat)(t:Tri)(p:Pt):Rat:=JN [fz fs t 0,(dW pts fs t).1*(p.1-(cor pts t 0).1),(dW pts fs t).2*(p.2-(cor pts t 0).2)]
theorem MZ (n:k<=23)(a:MeshOk pts tris)(c:fs.length=pts.length)(d:∀q∈fs,QB k q)(b:t∈tris)(e:QP 23 p):QB 600 (onQ pts fs t p)/\(∀i,QB 600 (JN ([fz fs t 0,(dW pts fs t).1*(p.1-(cor pts t 0).1),(dW pts fs t).2*(p.2-(cor pts t 0).2)].take i)))/\QB 600 (fz fs t 0)/\QB 600 ((dW pts fs t).1*(p.1-(cor pts t 0).1))/\QB 600 ((dW pts fs t).2*(p.2-(cor pts t 0).2)):=by
 have hs:=xk a c d b;have f:=oC a b 0;have g:=Pb a c d b 0;have h1:QB 248 ((dW pts fs t).1*(p.1-(cor pts t 0).1)):=(jM hs.1 (fu e.1 f.1)).le om_;have h2:QB 248 ((dW pts fs t).2*(p.2-(cor pts t 0).2)):=(jM hs.2 (fu e.2 f.2)).le om_;have h:QB 25 (0+fz fs t 0):=(wk QB_zero g).le om_;have j:QB 274 (0+fz fs t 0+(dW pts fs t).1*(p.1-(cor pts t 0).1)):=(wk h h1).le om_;have l:QB 523 (0+fz fs t 0+(dW pts fs t).1*(p.1-(cor pts t 0).1)+(dW pts fs t).2*(p.2-(cor pts t 0).2)):=(wk j h2).le om_;refine⟨l.le dc_,λi=>?_,g.le om_,h1.le dc_,h2.le dc_⟩;rcases(by omega:i=0∨i=1∨i=2∨3<=i) with rfl|rfl|rfl|m
 .exact QB_zero.le dc_
 .exact h.le dc_
 .exact j.le dc_
 rw[SL (by simpa using m)];exact l.le dc_
theorem NM (e:QB k a)(f:QB k b)(g:QB k c):∀q∈[a,b,c],QB k q:=by
 intro q d;simp only[Sw,Tp,UG]at d;rcases d with rfl|rfl|rfl <;> assumption
theorem R0 (C:Mem)(d:Tabs C)(u v:Value)(a:List Pt)(g:List Tri)(c:List Rat)(k:Nat)(E:0<k)(F:k<=23)(w:MeshIn C u a g)(e:MeshOk a g)(h:Sl C 1 v (c.map eH))(l:c.length=a.length)(r:∀q∈c,QB k q)(i:Nat)(t:Tri)(m:g[i]?=some t)(p:Pt)(f:QP 23 p) :
  Gives cx.P 63 [u,v,i_ i,ptV p] C (ae (qtx (onQ a c t p))):=by
 have n:=aJ m;have x:=e.ins t n;have y:=w;have z:=h;obtain⟨Y,Z,rfl,h1,h2⟩:=id w.ex;obtain⟨A1,c1,rfl,H,aa,_⟩:=id h1;obtain⟨A2,c2,rfl,I,ab,_⟩:=id h2;obtain⟨A4,c4,rfl,ac,ad,_⟩:=id h;have af:=mx_
 simp only[au]at h1 h2 h z y H I⊢;have ag:=(aT.1 m).1;have o:=oC e n 0;obtain⟨ah,J,K,L,M⟩:=MZ F e l r n f;have hs:=xk e l r n;have N:QB 25 (p.1-(cor a t 0).1):=(fu f.1 o.1).le dc_;have O:QB 25 (p.2-(cor a t 0).2):=(fu f.2 o.2).le dc_;refine V7 func63 49 U3 λw0=>V3 λR b=>Wi U6 λb4=>Wi U6 λb7=>C6 1 [1,2,4,7] b U<|G.freeze 1 U λ_ _ s=>V3 λR b=>V1 (PtrTo.block (Mem.get s mup) _) U8<|V4 2 U<|Wc (yE _ d.m_ _ _ a g c k E om_ y.m_ e z.m_ l r i t m) U7 fl_<|Wg U5 λb9=>Wa (j:=0) U12<|V5 [1,2,4,7,9] b U<|U1 1 U λR b=>V1 (PtrTo.block (Mem.get s mup) _) U8<|V2 U6<|Wf h2.m_ U10 om_ (cI m) fl_ λai Q=>XC U9 (λ_=>Q) (λ_=>⟨by omega,om_⟩) fl_ U (λaj S=>?_);have T:=S trivial;exact V1 T U8<|C6 1 [1,4,7,9,10] b U<|U1 1 U λR b=>V1 (PtrTo.block (Mem.get s mup) _) U8<|V2 U6<|Wf h1.m_ U10 om_ (cI (qH x.1)) fl_ λak V=>V1 V U8<|Wg U5 λal=>Wa (j:=0) U12<|V5 [1,7,9,10,11] b U<|G.freeze 0 U λ_ _ A=>G.freeze 0 U λ_ _ B=>G.freeze 0 U λ_ _ D=>Wn [0,1,2,3,4,5,6,7,8,9,10,11,12,13,14,15,16,17,18,19,20,21,22] [(10,1),(11,1),(18,1),(19,1),(21,1)] U kr_ λR hB b=>V4 2 U<|Wf h.m_ U10 om_ (cI (IG (l ▸ x.1))) fl_ λam W=>V1 W U8<|V2 U6<|V1 (bkT B 1) U8<|V2 U6<|V1 (bkT D 1) U8<|V2 U6<|V1 (bkT A 1) U8<|Wo (λ_=>(dY _ d.m_ p.1 (cor a t 0).1 23 dc_ dc_ f.1 (o.1.le dc_))) U9<|Wo (λ_=>(cX _ d.m_ _ _ 300 dc_ dc_ (hs.1.le om_) (N.le dc_))) U9<|V2 U6<|V1 (bkT B 1) U8<|V2 U6<|V1 (bkT D 1) U8<|V2 U6<|V1 (bkT A 1) U8<|Wo (λ_=>(dY _ d.m_ p.2 (cor a t 0).2 23 dc_ dc_ f.2 (o.2.le dc_))) U9<|Wo (λ_=>(cX _ d.m_ _ _ 300 dc_ dc_ (hs.2.le om_) (O.le dc_))) U9<|Wq ([fz c t 0,(dW a c t).1*(p.1-(cor a t 0).1),(dW a c t).2*(p.2-(cor a t 0).2)].map eH) U12 λan _ _ X=>Wo (λ_=>(N4 _ d.m_ _ _ 600 dc_ dc_ X.m_ (NM K L M) J)) U9<|C6 1 [8] b U<|V6 U2<|⟨U,U⟩
def FY (pts:List Pt)(tris:List Tri)(fs:List Rat)(p:Pt):Value:=match lj pts tris p with
|[]=>.tuple #[ae [],.int .i64 28]
|i::_=>E0 (onQ pts fs (tris.getD i (0,0,0)) p)
theorem zm (h:∀q∈fs,aS (qtx q)=true):(fs.map qtx).all aS=true:=by
 rw[SA];intro s hs;obtain⟨q,a,rfl⟩:=Sn.1 hs;exact h q a
theorem nT (a:List Rat):a.map eH=(a.map qtx).map dC:=by rw[Th];rfl
theorem xM (b:k<=100)(h:∀q∈fs,QB k q):∀s∈fs.map qtx,s.length<=999998:=by
 intro s hs;obtain⟨q,a,rfl⟩:=Sn.1 hs;have:=aV ((h q a).le (UA k)) om_;omega
theorem yY (C:Mem)(i:Tabs C)(c v d:Value)(b:List Pt)(f:List Tri)(a:List Rat)(j:MeshIn C c b f)(l:Good b f)(m:Sl C 1 v [[d]])(g:Sl C 1 d (a.map eH))(n:a.length=b.length)(r:k<=23)(o:∀q∈a,QB k q)(p:∀q∈a,aS (qtx q)=true) :
  Gives cx.P 61 [c,v] C (i_ 0):=by
 rw[nT]at g;have h:=yZ C i c v d b f (a.map qtx) j l m g (xM om_ o);have e:oB b.length (a.map qtx)=0:=by unfold oB;rw[aK (by simpa using n),zm p];rfl
 rwa [e]at h
theorem QX (h:i∈lj pts tris p):∃t,tris[i]?=some t/\tris.getD i (0,0,0)=t/\AH pts p t=true:=by
 unfold lj at h;rw[TP,SE]at h;obtain⟨h1,h2⟩:=h;obtain⟨t,ht⟩:∃t,tris[i]?=some t:=⟨tris[i],ah h1⟩;have hd:tris.getD i (0,0,0)=t:=by rw[ak,ht,TD]
 rw[hd]at h2;exact⟨t,ht,hd,h2⟩
theorem QO (h:QB 600 q):(qtx q).length<=999998:=Su (aV h dc_) dc_
theorem BY (C:Mem)(e:Tabs C)(x y:Value)(a:List Pt)(c:List Tri)(b:List Rat)(k:Nat)(H:0<k)(j:k<=23)(z:MeshIn C x a c)(l:Good a c)(f:Sl C 1 y (b.map eH))(m:b.length=a.length)(n:∀q∈b,QB k q)(I:∀q∈b,aS (qtx q)=true)(p:Pt)(o:QP 23 p)(J:PtR p) :
  Gives cx.P 15 [x,y,ptV p] C (FY a c b p):=by
 have A:=l.ok;have s:=z;obtain⟨X,Y,rfl,h1,h2⟩:=id z.ex;obtain⟨K,L,rfl,Z,aa,_⟩:=id f;simp only[au]at f⊢;have ab:=mx_
 refine V7 func15 40 U3 λw0=>V3 λR d=>Wi U6 λb3=>Wi U6 λb5=>C6 2 [1,3,5] d U<|G.freeze 1 U λ_ _ u=>G.freeze 0 U λ_ _ B=>V3 λR d=>V1 (PtrTo.block (Mem.get u mup) _) U8<|V2 U6<|Wq [[.slice K b.length L]] U12 λac _ _ M=>Wb (yY _ e.m_ _ _ _ a c b s.m_ l M.m_ f.m_ m j n I) U7<|C6 1 [1,3,5,8] d U<|U0 2 [1,3,5,8,16] U<|G.cd (λD=>?_) λD=>?_
 .exact absurd D dc_
 refine V3 λR d=>V1 (PtrTo.block (Mem.get u mup) _) U8<|V1 (PtrTo.block (Mem.get B mup) _) U8<|Wz (mB _ e.m_ _ a c p s.m_ l o J) U7 (λad _ _ N=>?_);obtain⟨wv,rfl,v⟩:=N;obtain⟨Aw,cw,E,_⟩:=id v;rw[au]at E;subst E;refine C6 5 [1,3,5,9,10] d U<|U0 2 [1,3,5,9,10,25] U<|G.cd (λF=>?_) λF=>?_
 .exact absurd F dc_
 refine U0 3 [1,3,5,9,29] U<|G.cd (λg=>?_) λg=>?_
 .have O:lj a c p=[]:=by
   have h:(((lj a c p).length:Nat):Int)=0:=by simpa using g
   exact S9 om_
  refine U0 2 [6,7] U<|Wd (G.dropAll (Wu U3 ?_));exact⟨by unfold FY;rw[O];rfl,U⟩
 obtain⟨i,r,w⟩:∃i r,lj a c p=i::r:=by
  cases Q:lj a c p with
 |nil=>rw[Q]at g;exact absurd g dc_
 |cons i r=>exact⟨i,r,rfl⟩
 obtain⟨t,ht,S,_⟩:=QX (pts:=a) (tris:=c) (p:=p) (i:=i) (by rw[w];simp);have T:=MZ j A m n (aJ ht) o;have V:FY a c b p=E0 (onQ a b t p):=by unfold FY;rw[w];show E0 (onQ a b (c.getD i (0,0,0)) p)=_;rw[S]
 rw[w]at v⊢;refine Wn [0,1,2,3,4,5,6,7,8,9,10,11] [(6,1),(7,1)] U kr_ λR hB d=>V1 (PtrTo.block (Mem.get u mup) _) U8<|V4 2 U<|Wf v.m_ U10 om_ (rfl:(List.map aW (i::r))[0]?=some (aW i)) fl_ λaf W=>V1 W U8<|V1 (PtrTo.block (Mem.get B mup) _) U8<|WC (λ_=>(R0 _ e.m_ _ _ a c b k H j s.m_ A f.m_ m n i t ht p o)) U9<|WC (λ_=>(II _ e.m_ _ (QO T.1))) U9 ?_;rw[show E0 (onQ a b t p)=.tuple #[if aS (qtx (onQ a b t p)) then ae (qtx (onQ a b t p)) else ae [],i_ (if aS (qtx (onQ a b t p)) then 0 else 4)] by unfold E0;split <;> rfl];refine C6 4 [6,7] d U<|Wd (G.dropAll (Wu U3 ?_));refine⟨?_,U⟩;rw[V];unfold E0;split <;> rfl
theorem QK (h:QP 22 p):PtR p:=⟨bx h.1,bx h.2⟩
theorem Ki (C:Mem)(f:Tabs C)(l m:Value)(c:List Pt)(d:List Tri)(b:List Rat)(k:Nat)(z:0<k)(A:k<=23)(n:MeshIn C l c d)(o:Good c d)(e:Sl C 1 m (b.map eH))(p:b.length=c.length)(r:∀q∈b,QB k q)(B:∀q∈b,aS (qtx q)=true)(i:Nat)(t:Tri)(s:d[i]?=some t)(u:QP 22 (dW c b t)) :
  Gives cx.P 293 [l,m,i_ i] C (.tuple #[ptV (dW c b t),i_ 0]):=by
 have D:=o.ok;have g:=n;have I:=(aT.1 s).1;obtain⟨J,K,rfl,h1,h2⟩:=id n.ex;obtain⟨A2,c2,rfl,L,M,_⟩:=id h2;obtain⟨E,F,rfl,N,O,_⟩:=id e;simp only[au]at e h2 g⊢;have Q:=mx_
 refine V7 func293 37 U3 λw0=>V3 λR a=>Wi U6 λS=>Wg U5 λT=>C6 1 [1,2,3,6] a U<|G.freeze 1 U λ_ _ h=>V3 λR a=>V1 (PtrTo.block (Mem.get h mup) _) U8<|V2 U6<|Wq [[.slice E b.length F]] U12 λV _ _ H=>Wb (yY _ f.m_ _ _ _ c d b g.m_ o H.m_ e.m_ p A r B) U7<|C6 1 [1,2,3,6,8] a U<|U0 2 [1,2,3,6,8,15] U<|G.cd (λv=>?_) λv=>?_
 .exact absurd v dc_
 refine U1 5 U λR a=>Wv U6 (λ_=>PtrTo.block (Mem.get h mup) _) U3<|V4 2 U<|Wy U8<|V5 [1,2,3,6,26] a U<|G.cd (λw=>?_) λw=>?_
 .exfalso;simp only[Uh,Sr]at w;omega
 refine V3 λR a=>V1 (PtrTo.block (Mem.get h mup) _) U8<|V4 2 U<|Wc (yE _ f.m_ _ _ c d b k z om_ g.m_ D e.m_ p r i t s) U7 fl_<|Wg U5 λW=>Wa (j:=0) U12<|V5 [6,9] a U<|G.freeze 0 U λ_ _ x=>V3 λR a=>V1 (PtrTo.block (Mem.get x mup) _) U8<|Wc (iT _ f.m_ _ (u.le dc_) (QK u)) U7 fl_<|C6 1 [6,9,34] a U<|G.cd (λy=>?_) λy=>?_
 .exact absurd y dc_
 refine V3 λR a=>V1 (PtrTo.block (Mem.get x mup) _) U8<|Wa (j:=0) U12<|C6 1 [6,7] a U<|Wd (Xf ag U5 ?_);exact⟨U,U⟩
def ib {α:Type}(p:α->Bool):List α->Nat->Int
|[],_=>-1
|x::l,k=>if p x then (k:Nat) else ib p l (k+1)
theorem mI {a:Type}{p:a->Bool}:∀{l:List a}{i k:Nat}{x:a},l[i]?=some x->p x=true->(∀y∈l.take i,p y=false)->ib p l k=((k+i:Nat):Int)
|y::l,0,k,x,h,hp,_=>by
  simp only[List.getElem?_cons_zero,S6]at h;subst h;simp[ib,hp]
|y::l,i+1,k,x,h,hp,b=>by
  simp only[T7]at h;have hy:p y=false:=b y al;have:=mI (k:=k+1) h hp (λz c=>b z (by simp[c]));simp only[ib,hy,Tg,TS,this];omega
theorem jA {a:Type}{p:a->Bool}:∀{l:List a}{k:Nat},(∀y∈l,p y=false)->ib p l k=-1
|[],_,_=>rfl
|y::l,k,h=>by
  simp only[ib,h y Sj,Tg,TS];exact jA λz b=>h z (Sv _ b)
theorem ia (p:α->Bool)(l:List α):(ib p l 0=-1/\∀y∈l,p y=false)∨∃(i:Nat)(x:α),ib p l 0=(i:Nat)/\l[i]?=some x/\p x=true/\∀y∈l.take i,p y=false:=by
 by_cases h:∀y∈l,p y=false
 .exact .inl ⟨jA h,h⟩
 right;have d:∀(l:List α),(¬ ∀y∈l,p y=false)->∃(i:Nat)(x:α),l[i]?=some x/\p x=true/\∀y∈l.take i,p y=false:=by
  intro l;induction l with
 |nil=>intro h;exact absurd (λy hy=>(by cases hy)) h
 |cons a l e =>
   intro h;by_cases b:p a=true
   .exact⟨0,a,U,b,by simp⟩
   have c:p a=false:=by simpa using b
   obtain⟨i,x,h1,h2,h3⟩:=e (λh2=>h (λy hy=>by
    rcases Sw.1 hy with rfl|hy
    .exact c
    exact h2 y hy))
   refine⟨i+1,x,by simpa using h1,h2,λy hy=>?_⟩;rw[List.take_succ_cons]at hy;rcases Sw.1 hy with rfl|hy
   .exact c
   exact h3 y hy
 obtain⟨i,x,h1,h2,h3⟩:=d l h;exact⟨i,x,by rw[mI h1 h2 h3,Tw],h1,h2,h3⟩
structure Lay where
 unit:Str
 min:Rat
 max:Option Rat
def EZ:Option Rat->Str
|none=>[]
|some q=>qtx q
def pi (x:Lay):List Value:=[ae x.unit,ae (qtx x.min),ae (EZ x.max)]
def isU (u:Str)(x:Lay):Bool:=decide (x.unit=u)
def P0 (x:Lay):Prop:=QB 22 x.min/\(∀q,x.max=some q->QB 22 q)/\x.unit.length<=999998
theorem qR (m:Option Rat):(!((⟨(EZ m).toArray⟩:ByteArray).data.toList == (⟨#[]⟩:ByteArray).data.toList))=m.isSome:=by
 cases m with
|none=>rfl
|some q =>
  have:=tj q;show(!(qtx q == []))=true;cases h:qtx q with
 |nil=>rw[h]at this;simp at this
 |cons a l=>rfl
theorem mG (C:Mem)(v:Value)(l:List Lay)(g:Nat)(d:List Value)(a:Lay->Bool)(e:Sl C 3 v (l.map pi))(_A:Jog.Enters cx.P g=true)
  (n:∀x∈l,∀D:Mem,C.le D->Gives cx.P g (.agg ⟨pi x⟩::d) D (.bool (a x))) :
  Gives cx.P 317 [v,.func (.func g) #[] ⟨d⟩] C (i_ (ib a l 0)):=by
 obtain⟨o,c0,rfl,p,B,_⟩:=id e;have E:=mx_
 simp only[au]at e p⊢;refine V7 func317 19 U3 λw0=>U0 1 [0,1] U<|U0 3 [0,1,7,8] U<|G.loop (λfr F q r=>∃(i:Nat),(i<=l.length/\∀y∈l.take i,a y=false)/\fr=[(0,[],.slice o l.length c0),(1,[],.func (.func g) #[] ⟨d⟩),(7,[],i_ l.length),(8,[],i_ i)]/\q=[]/\r=l.length-i) (hn_ [0,1,7,8] U) ⟨0,⟨Sm _,by simp⟩,U,U,U⟩ (λfr H I m s t=>?_);obtain⟨i,⟨J,b⟩,rfl,rfl,rfl⟩:=t;refine U0 1 [0,1,7,8,9] U<|G.cd (λf=>?_) λf=>?_
 .have h:i<l.length:=by simpa using f
  obtain⟨x,c⟩:∃x,l[i]?=some x:=⟨l[i],ah h⟩;refine U0 2 [0,1,5,7,8] U<|U1 3 U λR j=>Wf e.m_ U10 om_ (cI c) fl_ λK u=>V1 u U8<|Wb (n x (aJ c) _ mup) U7<|V5 [0,1,5,7,8,16] j U<|G.cd (λk=>?_) λk=>?_
  .have w:a x=true:=k;exact U0 2 [4] U<|V6 U2<|⟨by rw[mI c w b,Tw],U⟩
  have z:a x=false:=k;refine V3 λR j=>V8 _ U U6<|C6 1 [0,1,7,8] j U<|We (m':=l.length-(i+1)) om_ s (hn_ [0,1,7,8] U) ⟨i+1,⟨by omega,λy hy=>by
   rw[SH,c]at hy;rcases Sx.1 hy with hy|hy
   .exact b y hy
   simp only[TE,SD]at hy;subst hy;exact z⟩,U,U,U⟩
 have h:i=l.length:=by
  have:¬ i<l.length:=by simpa using f
  omega
 exact U0 1 [4] U<|V6 U2<|⟨by rw[h,Ss]at b;rw[jA b],U⟩
theorem Kb (a b:Str):((⟨a.toArray⟩:ByteArray).data.toList == (⟨b.toArray⟩:ByteArray).data.toList)=decide (a=b):=by
 show(a == b)=_;by_cases h:a=b <;> simp[h]
theorem Jb (C:Mem)(b:Nat)(u:Str)(x:Lay)(c:C b=some (.cells ⟨[ae u]⟩ 9 (0,0))):Gives cx.P 318 [.agg ⟨pi x⟩,p_ b] C (.bool (isU u x)):=by
 exact V7 func318 8 U3 λw0=>V3 λR a=>Wi U6 λd=>C6 1 [1,2] a U<|U1 1 U λR a=>V9 ag U9<|V1 (PtrTo.block (Mem.get c mup) _) U8<|C6 2 [3] a U<|V6 U2<|⟨by unfold isU;rw[<- Kb],U⟩
theorem Bw (C:Mem)(b:Nat)(u:Str)(x:Lay)(c:C b=some (.cells ⟨[ae u]⟩ 9 (0,0))):Gives cx.P 320 [.agg ⟨pi x⟩,p_ b] C (.bool (isU u x)):=by
 exact V7 func320 8 U3 λw0=>V3 λR a=>Wi U6 λd=>C6 1 [1,2] a U<|U1 1 U λR a=>V9 ag U9<|V1 (PtrTo.block (Mem.get c mup) _) U8<|C6 2 [3] a U<|V6 U2<|⟨by unfold isU;rw[<- Kb],U⟩
theorem DW (C:Mem)(v:Value)(l:List Lay)(u:Str)(c:Sl C 3 v (l.map pi)):Gives cx.P 286 [v,ae u] C (i_ (ib (isU u) l 0)):=by
 exact V7 func286 8 U3 λw0=>V3 λR a=>Wi U6 λb=>C6 1 [0,3] a U<|G.freeze 0 U λ_ _ d=>U1 2 U λR a=>Wb (mG _ _ l 318 [p_ b] (isU u) c.m_ U (λx _ D e=>Jb D b u x (e _ _ (Mem.get d mup)))) U7<|C6 1 [4] a U<|V6 U2<|⟨U,U⟩
theorem kC (C:Mem)(v:Value)(l:List Lay)(u:Str)(c:Sl C 3 v (l.map pi)):Gives cx.P 288 [v,ae u] C (i_ (ib (isU u) l 0)):=by
 exact V7 func288 8 U3 λw0=>V3 λR a=>Wi U6 λb=>C6 1 [0,3] a U<|G.freeze 0 U λ_ _ d=>U1 2 U λR a=>Wb (mG _ _ l 320 [p_ b] (isU u) c.m_ U (λx _ D e=>Bw D b u x (e _ _ (Mem.get d mup)))) U7<|C6 1 [4] a U<|V6 U2<|⟨U,U⟩
theorem uP (h:QB 22 q):(qtx q).length<=999998:=Su (aV h dc_) dc_
theorem Oq (h:QB 22 q):(qtx q).length<=1000000:=Su (aV h dc_) dc_
theorem Lm (C:Mem)(d:Tabs C)(x:Lay)(e:P0 x):Gives cx.P 284 [.agg ⟨pi x⟩] C (i_ 0):=by
 obtain⟨u,f,c⟩:=x;obtain⟨h1,h2,h3⟩:=e;simp only at h1 h2 h3;clear h3;have g:(EZ c).length<=999998:=by
  cases c with
 |none=>decide
 |some q=>exact uP (h2 q rfl)
 refine V7 func284 17 U3 λw0=>V3 λR a=>Wi U6 λh=>C6 1 [1] a U<|U1 1 U λR a=>V9 ag U9<|Wb (dB _ d.m_ (qtx f) (uP h1)) U7<|C6 2 [1,3] a U<|G.cd (λh3=>?_) λh3=>?_
 .exfalso;rw[yX h1]at h3;exact absurd h3 dc_
 refine U1 1 U λR a=>V9 ag U9<|V4 3 U<|V9 ag U9<|WC (λ_=>(dB _ d.m_ (EZ c) g)) U9<|V2 U6<|Wr U8<|C6 1 [3] a U<|G.cd (λb=>?_) λb=>?_
 .exfalso;simp only[]at b;cases c with
 |none=>exact absurd b dc_
 |some q =>
   rw[show EZ (some q)=qtx q from rfl,yX (h2 q rfl)]at b;simp at b
 exact U0 1 [2] U<|V6 U2<|⟨U,U⟩
def H7 (x:Lay):Bool:=match x.max with
|none=>false
|some m=>decide (m<x.min)
def M5 (pre:List Lay)(x:Lay):Int:=if dh x.unit=false then 8 else if 0<=ib (isU x.unit) pre 0 then 9 else if x.min<0 then 3 else if H7 x then 6 else 0
def FC (l:List Lay):Nat->Int
|0=>0
|n+1=>if FC l n≠0 then FC l n else M5 (l.take n) (l.getD n ⟨[],0,none⟩)
def sH (l:List Lay):Int:=if l=[] then 13 else if 60<l.length then 4 else FC l l.length
theorem yT {l:List Lay}{n:Nat}(h:FC l n≠0):∀m,n<=m->FC l m=FC l n
|0,hm=>by rw[show n=0 by omega]
|m+1,hm=>by
  rcases SP m n with h1|h1
  .rw[show n=m+1 by omega]
  have a:=yT h m h1;simp only[FC,a];rw[aK h]
theorem M4 {l:List Lay}{x:Lay}(h:l[i]?=some x):l.getD i ⟨[],0,none⟩=x:=by rw[ak,h,TD]
theorem DV {l:List Lay}{x:Lay}(a:FC l i=0)(b:l[i]?=some x):FC l (i+1)=M5 (l.take i) x:=by
 simp only[FC,a];rw[aF dc_,M4 b]
theorem vV {l:List Lay}{x:Lay}(d:FC l i=0)(a:l[i]?=some x)(b:M5 (l.take i) x=z)(f:z≠0)(g:¬ 60<l.length):sH l=z:=by
 have c:=(aT.1 a).1;have h1:=DV d a;unfold sH;rw[aF (λe=>by rw[e]at c;simp at c),aF g,yT (n:=i+1) (by rw[h1,b];exact f) l.length om_,h1,b]
theorem Pw (C:Mem)(c:Tabs C)(a:Option Rat)(b:Rat)(d:QB 22 b)(e:∀q,a=some q->QB 22 q)(h:(!((⟨(EZ a).toArray⟩:ByteArray).data.toList == (⟨#[]⟩:ByteArray).data.toList))=true) :
  Gives cx.P 218 [ae (EZ a),ae (qtx b)] C (i_ (nZ (a.getD 0) b)):=by
 rw[qR]at h;cases a with
|none=>cases h
|some q=>exact fP C c q b 22 dc_ dc_ (e q rfl) d
theorem Dv (x:Lay):(x.max.isSome && decide (nZ (x.max.getD 0) x.min<0))=H7 x:=by
 unfold H7;cases x.max with
|none=>rfl
|some q =>
  show(true && decide (nZ q x.min<0))=decide (q<x.min);unfold nZ;by_cases h:q<x.min
  .simp[h]
  rw[aF h,SM h];split <;> rfl
theorem vg (q:Rat):decide (er q.num<0)=decide (q<0):=by
 rw[S8,<- uQ];rcases eD q.num with h|h|h <;> omega
theorem rP (C:Mem)(w:Tabs C)(v:Value)(l:List Lay)(g:Sl C 3 v (l.map pi))(E:∀x∈l,P0 x)(Q:l.length<=1000000):Gives cx.P 238 [v] C (i_ (sH l)):=by
 obtain⟨y,c0,rfl,F,S,_⟩:=id g;have T:=mx_
 simp only[au]at g F⊢;refine V7 func238 57 U3 λw0=>U0 1 [0] U<|U0 4 [0,6] U<|G.cd (λk=>?_) λk=>?_
 .have h0:l=[]:=by
   have h:((l.length:Nat):Int)=0:=by simpa using k
   exact S9 om_
  exact U0 1 [2] U<|V6 U2<|⟨by rw[h0];rfl,U⟩
 have h0:l≠[]:=by
  intro e;rw[e]at k;exact absurd k dc_
 refine U0 4 [0,10] U<|G.cd (λn=>?_) λn=>?_
 .have h60:60<l.length:=by
   simp only[Sr]at n;omega
  exact U0 1 [2] U<|V6 U2<|⟨by unfold sH;rw[aF h0,aK h60],U⟩
 have h60:¬ 60<l.length:=by
  simp only[SS]at n;omega
 refine U0 3 [0,14,15,16] U<|G.loop (λfr V H I=>∃(i:Nat),(i<=l.length/\FC l i=0)/\fr=[(0,[],.slice y l.length c0),(14,[],.slice y l.length c0),(15,[],i_ l.length),(16,[],i_ i)]/\H=[]/\I=l.length-i) (hn_ [0,14,15,16] U) ⟨0,⟨Sm _,U⟩,U,U,U⟩ (λfr W X m J K=>?_);obtain⟨i,⟨Y,b⟩,rfl,rfl,rfl⟩:=K;refine U0 1 [0,14,15,16,17] U<|G.cd (λo=>?_) λo=>?_
 .have p:i<l.length:=by simpa using o
  obtain⟨x,c⟩:∃x,l[i]?=some x:=⟨l[i],ah p⟩;obtain⟨q,A,L⟩:=E x (aJ c);have B:=Sl.sub g (l:=0) (h:=i) (m:=c0) (Sm _) am om_ (Sg _);rw[Tt,<- Us]at B;refine U1 1 U λR a=>Wf g.m_ U10 om_ (cI c) fl_ λZ M=>V1 M U8<|Wg U5 λb4=>V2 U6<|Wa (j:=0) U12<|V5 [0,3,4,14,15,16] a U<|V3 λR a=>V9 ag U9<|Wb (Lm _ w.m_ x ⟨q,A,L⟩) U7<|C6 1 [0,3,4,5,14,15,16] a U<|U0 2 [0,3,4,5,14,15,16,24] U<|G.cd (λD=>?_) λD=>?_
  .exact absurd D dc_
  refine U1 1 U λR a=>V9 ag U9<|Wc (iG _ x.unit om_) U7 fl_<|C6 2 [0,3,4,14,15,16,26] a U<|G.cd (λr=>?_) λr=>?_
  .have d:dh x.unit=false:=by simpa using r
   exact U0 1 [2] U<|V6 U2<|⟨by rw[vV (z:=8) b c (by unfold M5;rw[aK d]) dc_ h60],U⟩
  have d:¬ dh x.unit=false:=by
   have h:dh x.unit=true:=by simpa using r
   rw[h];decide
  refine Wn [0,1,2,3,4,5,6,7] [(5,1)] U kr_ λR hB a=>V4 2 U<|WN 0 i c0 U12 (λ_=>⟨.inl ⟨U,U⟩,.inr ⟨_,U⟩,.inl ⟨U,U⟩,by omega,by omega,by omega⟩) U2<|V2 U6<|V9 ag U9<|WC (λ_=>(DW _ _ (l.take i) x.unit B.m_)) U9<|C6 2 [0,4,14,15,16,31] a U<|G.cd (λs=>?_) λs=>?_
  .have hd:0<=ib (isU x.unit) (l.take i) 0:=by simpa using s
   exact U0 1 [2] U<|V6 U2<|⟨by rw[vV (z:=9) b c (by unfold M5;rw[aF d,aK hd]) dc_ h60],U⟩
  have hd:¬ 0<=ib (isU x.unit) (l.take i) 0:=by simpa using s
  refine U1 1 U λR a=>V9 ag U9<|Wb (fD _ x.min (Oq q)) U7<|C6 2 [0,4,14,15,16,39] a U<|G.cd (λf=>?_) λf=>?_
  .have hs:x.min<0:=by
    rw[vg]at f;exact RD f
   exact U0 1 [2] U<|V6 U2<|⟨by rw[vV (z:=3) b c (by unfold M5;rw[aF d,aF hd,aK hs]) dc_ h60],U⟩
  have hs:¬ x.min<0:=by
   rw[vg]at f;exact Si f
  refine U1 1 U λR a=>V9 ag U9<|V4 3 U<|V9 ag U9<|V2 U6<|V9 ag U9<|Wo (λN=>(Pw _ w.m_ x.max x.min q A (by exact N.1))) U9<|V2 U6<|Wr U8<|C6 1 [0,14,15,16,44] a U<|G.cd (λt=>?_) λt=>?_
  .have u:H7 x=true:=by
    rw[<- Dv,<- qR];exact t
   exact U0 1 [2] U<|V6 U2<|⟨by rw[vV (z:=6) b c (by unfold M5;rw[aF d,aF hd,aF hs,aK u]) dc_ h60],U⟩
  have u:H7 x=false:=by
   rw[<- Dv,<- qR];exact t
  have O:FC l (i+1)=0:=by rw[DV b c];unfold M5;rw[aF d,aF hd,aF hs,u];rfl
  refine V3 λR a=>V8 _ U U6<|C6 1 [0,14,15,16] a U<|G.dropAll<|We (m':=l.length-(i+1)) om_ J (hn_ [0,14,15,16] U) ⟨i+1,⟨by omega,O⟩,U,U,U⟩
 have p:i=l.length:=by
  have:¬ i<l.length:=by simpa using o
  omega
 refine U0 1 [2] U<|V6 U2<|⟨?_,U⟩;rw[p]at b;unfold sH;rw[aF h0,aF h60,b]
theorem Bj (C:Mem)(f:Tabs C)(v:Value)(l:List Lay)(u:Str)(c:Sl C 3 v (l.map pi))(g:∀x∈l,P0 x)(a:sH l=0)(i:Nat)(j:ib (isU u) l 0=(i:Nat)):Gives cx.P 247 [v,ae u] C (.tuple #[i_ (i:Nat),.bool true,i_ 0]):=by
 have k:l.length<=1000000:=by
  unfold sH at a;split at a
  .cases a
  split at a
  .cases a
  omega
 refine V7 func247 20 U3 λw0=>U0 3 [0,1] U<|U1 1 U λR b=>Wc (by have h:=rP _ f.m_ v l c.m_ g k;rw[a]at h;exact h) U7 fl_<|C6 1 [0,1,7] b U<|U0 2 [0,1,7,12] U<|G.cd (λd=>?_) λd=>?_
 .exact absurd d dc_
 refine U1 2 U λR b=>Wc (by have h:=DW _ v l u c.m_;rw[j]at h;exact h) U7 fl_<|C6 1 [8] b U<|U0 2 [8,18] U<|G.cd (λe=>?_) λe=>?_
 .refine U0 4 [4,5,6] U<|Wd (G.dropAll (WP U4 ?_));exact⟨U,U⟩
 exfalso;simp only[SS]at e;omega
structure Obs where
 kind:Int
 name:Str
 x:Str
 y:Str
 depth:Str
 upper:Str
 lower:Str
 nx:Str
 ny:Str
 nz:Str
def gD (o:Obs):List Value:=[.int .i64 o.kind,ae o.name,ae o.x,ae o.y,ae o.depth,ae o.upper,ae o.lower,ae o.nx,ae o.ny,ae o.nz]
structure ObsR (o:Obs):Prop where
 name:o.name.length<=999998
 x:o.x.length<=999998
 y:o.y.length<=999998
 depth:o.depth.length<=999998
 upper:o.upper.length<=999998
 lower:o.lower.length<=999998
 nx:o.nx.length<=999998
 ny:o.ny.length<=999998
 nz:o.nz.length<=999998
def lg (o:Obs):Bool:=(!dh o.name || !dh o.upper) || ((!(o.kind == 1)) && !dh o.lower)
def mi (o:Obs):Bool:=(!(aS o.x && aS o.y) || ((o.kind == 2) && !aS o.depth)) || ((o.kind == 3) && !(aS o.nx && aS o.ny && aS o.nz))
def lA (o:Obs):Bool:=(((o.kind == 1) && !(o.lower == [])) || ((!(o.kind == 2)) && !(o.depth == []))) || ((!(o.kind == 3)) && !(decide (o.nx=[]/\o.ny=[]/\o.nz=[])))
def eg (o:Obs):Int:=if o.kind<1∨3<o.kind then 12 else if lg o then 8 else if mi o then 2 else if lA o then 7 else 0
theorem nil3 (a b c:Str):(!((a == []) && ((b == []) && ((c == []) && true))))=!decide (a=[]/\b=[]/\c=[]):=by
 cases a <;> cases b <;> cases c <;> rfl
theorem Jg (b:Bool):(oc b != 0)=!b:=by cases b <;> rfl
theorem Kr (C:Mem)(h:Tabs C)(o:Obs)(b:ObsR o):Gives cx.P 287 [.agg ⟨gD o⟩] C (i_ (eg o)):=by
 have h1:=b.name;have h2:=b.upper;have h3:=b.lower;refine V7 func287 87 U3 λw0=>V3 λR c=>Wi U6 λm=>C6 1 [1] c U<|G.freeze 0 U λ_ _ a=>U1 1 U λR c=>V1 (bkT a 1) U8<|V4 3 U<|Wv U6 (λ_=>PtrTo.blockT (Mem.get a mup) _ 1) U3<|V2 U6<|Wy U8<|V5 [1,10] c U<|G.cd (λi=>?_) λi=>?_
 .have d:o.kind<1∨3<o.kind:=by simpa using i
  exact U0 1 [2] U<|V6 U2<|⟨by unfold eg;rw[aK d],U⟩
 have d:¬ (o.kind<1∨3<o.kind):=by simpa using i
 refine U1 1 U λR c=>V1 (bkT a 1) U8<|Wc (iG _ o.name om_) U7 fl_<|V4 3 U<|Wv U6 (λ_=>PtrTo.blockT (Mem.get a mup) _ 1) U3<|Wo (λ_=>(iG _ o.upper om_)) U9<|V2 U6<|Wy U8<|V4 2 U<|Wv U6 (λ_=>PtrTo.blockT (Mem.get a mup) _ 1) U3<|V4 3 U<|Wv U6 (λ_=>PtrTo.blockT (Mem.get a mup) _ 1) U3<|Wo (λ_=>(iG _ o.lower om_)) U9<|V2 U6<|Wr U8<|Wy U8<|V5 [1,31] c U<|G.cd (λj=>?_) λj=>?_
 .have e:lg o=true:=j;exact U0 1 [2] U<|V6 U2<|⟨by unfold eg;rw[aF d,aK e],U⟩
 have e:¬ lg o=true:=by rw[show lg o=false from j];decide
 refine U1 1 U λR c=>V1 (bkT a 2) U8<|Wb (iU _ h.m_ o.x o.y b.x b.y) U7<|V4 3 U<|Wv U6 (λ_=>PtrTo.blockT (Mem.get a mup) _ 1) U3<|V4 3 U<|Wv U6 (λ_=>PtrTo.blockT (Mem.get a mup) _ 1) U3<|WC (λ_=>(dB _ h.m_ o.depth b.depth)) U9<|V2 U6<|Wr U8<|Wy U8<|V4 2 U<|Wv U6 (λ_=>PtrTo.blockT (Mem.get a mup) _ 1) U3<|V4 3 U<|Wv U6 (λ_=>PtrTo.blockT (Mem.get a mup) _ 3) U3<|WC (λ_=>(sI _ h.m_ o.nx o.ny o.nz b.nx b.ny b.nz)) U9<|V2 U6<|Wr U8<|Wy U8<|V5 [1,57] c U<|G.cd (λf=>?_) λf=>?_
 .have g:mi o=true:=by
   simp only[Jg]at f;exact f
  exact U0 1 [2] U<|V6 U2<|⟨by unfold eg;rw[aF d,aF e,aK g],U⟩
 have g:¬ mi o=true:=by
  simp only[Jg]at f;rw[show mi o=false from f];decide
 refine U1 1 U λR c=>V1 (bkT a 1) U8<|V4 3 U<|Wv U6 (λ_=>PtrTo.blockT (Mem.get a mup) _ 1) U3<|V2 U6<|Wr U8<|V4 2 U<|Wv U6 (λ_=>PtrTo.blockT (Mem.get a mup) _ 1) U3<|V4 3 U<|Wv U6 (λ_=>PtrTo.blockT (Mem.get a mup) _ 1) U3<|V2 U6<|Wr U8<|Wy U8<|V4 2 U<|Wv U6 (λ_=>PtrTo.blockT (Mem.get a mup) _ 1) U3<|V4 3 U<|Wv U6 (λ_=>PtrTo.blockT (Mem.get a mup) _ 3) U3<|Wm [ae [],ae [],ae []] U8<|Yp (!decide (o.nx=[]/\o.ny=[]/\o.nz=[])) kr_ U U U U U U U U (λ_=>(nil3 o.nx o.ny o.nz)) U U<|Wr U8<|Wy U8<|V5 [86] c U<|G.cd (λk=>?_) λk=>?_
 .have l:lA o=true:=k;exact U0 1 [2] U<|V6 U2<|⟨by unfold eg;rw[aF d,aF e,aF g,aK l],U⟩
 have l:¬ lA o=true:=by rw[show lA o=false from k];decide
 exact U0 1 [2] U<|V6 U2<|⟨by unfold eg;rw[aF d,aF e,aF g,aF l],U⟩
noncomputable def dt (s:Str):Rat:=if h:aS s=true then (MQ h).choose else 0
theorem dE {s:Str}(h:aS s=true):s=qtx (dt s)/\QB 23 (dt s):=by
 unfold dt;rw[dif_pos h];exact(MQ h).choose_spec
theorem da (h:aS (qtx q)=true):dt (qtx q)=q:=(gx (dE h).1).symm
noncomputable def ptO (o:Obs):Pt:=(dt o.x,dt o.y)
noncomputable def L3 (pts:List Pt)(tris:List Tri)(o:Obs):Bool:=decide (lj pts tris (ptO o)≠[])
def Gm (col:List Lay)(o:Obs):Bool:=decide (ib (isU o.upper) col 0<0) || ((!(o.kind == 1)) && decide (ib (isU o.lower) col 0<0))
def ordB (col:List Lay)(o:Obs):Bool:=(!(o.kind == 1)) && decide (ib (isU o.upper) col 0<=ib (isU o.lower) col 0)
noncomputable def depB (o:Obs):Bool:=(o.kind == 2) && decide (dt o.depth<0)
def JT (o:Obs):Bool:=(o.kind == 3) && decide (o.nz=[48])
noncomputable def gm (pts:List Pt)(tris:List Tri)(col:List Lay)(o:Obs):Int :=
 if eg o≠0 then eg o else if L3 pts tris o=false then 28 else if Gm col o then 10 else if ordB col o then 6 else if depB o then 3 else if JT o then 17 else 0
theorem sV {o:Obs}(h:eg o=0):aS o.x=true/\aS o.y=true/\(o.kind=2->aS o.depth=true):=by
 unfold eg at h;split at h
 .cases h
 split at h
 .cases h
 split at h
 .cases h
 rename_i b;have a:mi o=false:=by simpa using b
 unfold mi at a;rw[TY,TY]at a;obtain⟨⟨h1,h2⟩,_⟩:=a;have h3:(aS o.x && aS o.y)=true:=by simpa using h1
 rw[Sz]at h3;refine⟨h3.1,h3.2,λc=>?_⟩;rw[c]at h2;simpa using h2
theorem QL {o:Obs}(h:eg o=0):ptV (ptO o)=.agg ⟨[ae o.x,ae o.y]⟩/\QP 23 (ptO o)/\PtR (ptO o):=by
 obtain⟨h1,h2,_⟩:=sV h;obtain⟨a,c⟩:=dE h1;obtain⟨b,d⟩:=dE h2;refine⟨?_,⟨c,d⟩, ?_, ?_⟩
 .unfold ptV gK ptO;rw[<- a,<- b]
 .unfold ptO;rw[<- a];exact h1
 unfold ptO;rw[<- b];exact h2
theorem dZ {k:Int}(h:(k == z)=true):k=z:=by simpa using h
theorem Kk (C:Mem)(s:Str)(h:aS s=true)(a:s.length<=999998):Gives cx.P 94 [ae s] C (i_ (er (dt s).num)):=by
 have e:=(dE h).1;have h2:=fD C (dt s) (by have:=a;exact Su (aV (dE h).2 dc_) dc_)
 rwa [<- e]at h2
theorem OI (C:Mem)(t:Tabs C)(u v:Value)(d:List Pt)(f:List Tri)(b:List Lay)(o:Obs)(w:MeshIn C u d f)(z:Good d f)(x:Sl C 3 v (b.map pi))(y:ObsR o) :
  Gives cx.P 239 [u,v,.agg ⟨gD o⟩] C (i_ (gm d f b o)):=by
 have A:=w;obtain⟨K,L,rfl,h1,h2⟩:=id w.ex;refine V7 func239 79 U3 λw0=>V3 λR a=>Wi U6 λM=>Wi U6 λN=>C6 1 [1,3,5] a U<|G.freeze 1 U λ_ _ B=>G.freeze 0 U λD _ c=>V3 λR a=>V1 (bkT c 10) U8<|Wb (Kr _ t.m_ o y) U7<|C6 1 [1,3,5,7] a U<|U0 2 [1,3,5,7,15] U<|G.cd (λm=>?_) λm=>?_
 .have hs:eg o≠0:=by
   intro e;rw[e]at m;exact absurd m dc_
  exact U0 2 [6] U<|V6 U2<|⟨by unfold gm;rw[aK hs],U⟩
 have hs:eg o=0:=by simpa using m
 have i:¬ eg o≠0:=λh=>h hs;obtain⟨E,F,H⟩:=QL hs;have I:=(sV hs).2.2;refine V3 λR a=>V1 (PtrTo.block (Mem.get B mup) _) U8<|V2 U6<|V1 (bkT c 2) U8<|Wc (by have h:=rO D t.m_ _ d f (ptO o) A.m_ z F H;rw[E]at h;exact h) U7 fl_<|C6 5 [1,5,8,9] a U<|U1 5 U λR a=>Wy U8<|V5 [1,5,29] a U<|G.cd (λn=>?_) λn=>?_
 .have g:L3 d f o=false:=by
   have h:(!L3 d f o)=true:=n;simpa using h
  exact U0 1 [6] U<|V6 U2<|⟨by unfold gm;rw[aF i,aK g],U⟩
 have g:¬ L3 d f o=false:=by
  have h:(!L3 d f o)=false:=n;have h2:L3 d f o=true:=by simpa using h
  rw[h2];decide
 refine Wn [0,1,2,3,4,5,6,7,8,9] [(3,1),(7,1)] U kr_ λR O a=>V4 2 U<|V1 (bkT c 1) U8<|WC (λ_=>(kC _ _ b o.upper x.m_)) U9<|V4 2 U<|V1 (bkT c 1) U8<|WC (λ_=>(kC _ _ b o.lower x.m_)) U9<|C6 2 [5,10,11] a U<|U1 4 U λR a=>Wv U6 (λ_=>PtrTo.blockT (Mem.get c mup) _ 1) U3<|V4 4 U<|Wr U8<|Wy U8<|C6 1 [5,10,11,38] a U<|G.cd (λp=>?_) λp=>?_
 .have j:Gm b o=true:=p;exact U0 1 [6] U<|V6 U2<|⟨by unfold gm;rw[aF i,aF g,aK j],U⟩
 have j:¬ Gm b o=true:=by rw[show Gm b o=false from p];decide
 refine U1 1 U λR a=>V1 (bkT c 1) U8<|V4 5 U<|Wr U8<|C6 1 [5,50] a U<|G.cd (λq=>?_) λq=>?_
 .have k:ordB b o=true:=q;exact U0 1 [6] U<|V6 U2<|⟨by unfold gm;rw[aF i,aF g,aF j,aK k],U⟩
 have k:¬ ordB b o=true:=by rw[show ordB b o=false from q];decide
 refine U1 1 U λR a=>V1 (bkT c 1) U8<|V4 3 U<|Wv U6 (λ_=>PtrTo.blockT (Mem.get c mup) _ 1) U3<|Wo (λJ=>(Kk _ o.depth (I (by exact dZ J.1)) y.depth)) U9<|V2 U6<|Wr U8<|C6 1 [5,59] a U<|G.cd (λl=>?_) λl=>?_
 .have hd:depB o=true:=by
   rw[vg]at l;exact l
  exact U0 1 [6] U<|V6 U2<|⟨by unfold gm;rw[aF i,aF g,aF j,aF k,aK hd],U⟩
 have hd:¬ depB o=true:=by
  rw[vg]at l;rw[show depB o=false from l];decide
 refine U1 1 U λR a=>V1 (bkT c 1) U8<|V4 4 U<|Wv U6 (λ_=>PtrTo.blockT (Mem.get c mup) _ 1) U3<|V2 U6<|Wr U8<|C6 1 [69] a U<|G.cd (λr=>?_) λr=>?_
 .have s:JT o=true:=by
   unfold JT;rw[<- Kb];exact r
  exact U0 1 [6] U<|V6 U2<|⟨by unfold gm;rw[aF i,aF g,aF j,aF k,aF hd,aK s],U⟩
 have s:¬ JT o=true:=by
  unfold JT;rw[<- Kb];intro h;rw[show((o.kind == 3) && ((⟨o.nz.toArray⟩:ByteArray).data.toList == (⟨([48]:Str).toArray⟩:ByteArray).data.toList))=false from r]at h;cases h
 exact U0 1 [6] U<|V6 U2<|⟨by unfold gm;rw[aF i,aF g,aF j,aF k,aF hd,aF s],U⟩
structure Bk where
 pts:List Pt
 tris:List Tri
 terr:List Str
 col:List Lay
 obs:List Obs
structure BookIn (C:Mem)(bv:Value)(B:Bk):Prop where
 ex:∃v1 v2 tv cv ov,bv=.agg ⟨[v1,v2,tv,cv,ov]⟩/\Sl C 2 v1 (B.pts.map gK)/\Sl C 3 v2 (B.tris.map jG)/\Sl C 1 tv (B.terr.map dC)/\Sl C 3 cv (B.col.map pi)/\Sl C 10 ov (B.obs.map gD)
theorem BookIn.mono {C D:Mem}{b:Value}{B:Bk}(h:BookIn C b B)(a:C.le D):BookIn D b B:=by
 obtain⟨c,d,e,f,g,h1,h2,h3,h4,h5,i⟩:=h.ex;exact⟨c,d,e,f,g,h1,h2.mono a,h3.mono a,h4.mono a,h5.mono a,i.mono a⟩
theorem BookIn.m_ {D:Mem}{B:Bk}(h:BookIn C bv B)(a:C.le D:=by exact mup):BookIn D bv B:=BookIn.mono h a
structure BookR (B:Bk):Prop where
 terr:∀s∈B.terr,s.length<=999998
 col:∀x∈B.col,P0 x
 lcol:B.col.length<=1000000
 obs:∀o∈B.obs,ObsR o
noncomputable def obZ (B:Bk)(pre:List Obs)(o:Obs):Int:=if gm B.pts B.tris B.col o≠0 then gm B.pts B.tris B.col o else if o.name∈pre.map Obs.name then 9 else 0
def K5:Obs:=⟨0,[],[],[],[],[],[],[],[],[]⟩
noncomputable def wx (B:Bk):Nat->Int
|0=>0
|n+1=>if wx B n≠0 then wx B n else obZ B (B.obs.take n) (B.obs.getD n K5)
noncomputable def iV (B:Bk):Int:=if oB B.pts.length B.terr≠0 then oB B.pts.length B.terr else if sH B.col≠0 then sH B.col else if 100<B.obs.length then 4 else wx B B.obs.length
theorem yk {B:Bk}{n:Nat}(h:wx B n≠0):∀m,n<=m->wx B m=wx B n
|0,hm=>by rw[show n=0 by omega]
|m+1,hm=>by
  rcases SP m n with h1|h1
  .rw[show n=m+1 by omega]
  have a:=yk h m h1;simp only[wx,a];rw[aK h]
theorem M1 {l:List Obs}{x:Obs}(h:l[i]?=some x):l.getD i K5=x:=by rw[ak,h,TD]
theorem uZ {B:Bk}{x:Obs}(a:wx B i=0)(b:B.obs[i]?=some x):wx B (i+1)=obZ B (B.obs.take i) x:=by
 simp only[wx,a];rw[aF dc_,M1 b]
theorem HH {B:Bk}{x:Obs}(c:wx B i=0)(a:B.obs[i]?=some x)(b:obZ B (B.obs.take i) x=z)(d:z≠0):wx B B.obs.length=z:=by
 have e:=(aT.1 a).1;have h1:=uZ c a;rw[yk (n:=i+1) (by rw[h1,b];exact d) B.obs.length om_,h1,b]
def HS (l:List Obs):List (Str × Value):=l.map λo=>(o.name,.bool true)
theorem HR (l:List Obs)(s:Str):mA (.bool false) false (ef (HS l) s)=.bool (decide (s∈l.map Obs.name)):=by
 have a:(HS l).map (·.1)=l.map Obs.name:=by unfold HS;rw[Th];rfl
 cases h:ef (HS l) s with
|none =>
  have h1:=cN.1 h;rw[a]at h1;rw[SM h1];rfl
|some v =>
  have h1:=gC h;have h2:=Ut (f:=(·.1)) h1;rw[a]at h2;obtain⟨o,_,b⟩:=Sn.1 h1;cases b
  rw[SB h2];rfl
theorem Lc {l:List Obs}{o:Obs}(h:o.name ∉ l.map Obs.name):iY (HS l) o.name (.bool true)=HS (l++[o]):=by
 have a:(HS l).map (·.1)=l.map Obs.name:=by unfold HS;rw[Th];rfl
 rw[kl (by rw[cN,a];exact h)];simp[HS]
theorem rR (C:Mem)(n:Tabs C)(F:Value)(B:Bk)(L:BookIn C F B)(t:Good B.pts B.tris)(o:BookR B) :
  Gives cx.P 181 [F] C (i_ (iV B)):=by
 obtain⟨H,I,Z,cv,ov,rfl,h1,h2,h3,h4,h5⟩:=id L.ex;obtain⟨M,N,rfl,O,aa,_⟩:=id h5;have ab:=mx_
 simp only[au]at h5 O⊢;have hm:MeshIn C (.agg ⟨[H,I]⟩) B.pts B.tris:=⟨H,I,rfl,h1,h2⟩;refine V7 func181 59 U3 λw0=>V3 λR a=>Wi U6 λQ=>C6 1 [1] a U<|G.freeze 0 U λ_ _ b=>U1 1 U λR a=>V1 (bkT b 2) U8<|Wb (ic _ n.m_ _ B.pts B.tris hm.m_ t) U7<|C6 1 [1,3] a U<|U0 2 [1,3,14] U<|G.cd (λJ=>?_) λJ=>?_
 .exact absurd J dc_
 refine U1 1 U λR a=>V1 (bkT b 2) U8<|V2 U6<|V1 (bkT b 1) U8<|Wb (mM _ n.m_ _ _ B.pts B.tris B.terr hm.m_ t h3.m_ o.terr) U7<|C6 1 [1,4] a U<|U0 2 [1,4,22] U<|G.cd (λp=>?_) λp=>?_
 .have c:oB B.pts.length B.terr≠0:=by
   intro e;rw[e]at p;exact absurd p dc_
  exact U0 2 [2] U<|V6 U2<|⟨by unfold iV;rw[aK c],U⟩
 have c:¬ oB B.pts.length B.terr≠0:=by
  have h:oB B.pts.length B.terr=0:=by simpa using p
  exact λh2=>h2 h
 refine U1 1 U λR a=>V1 (bkT b 1) U8<|Wb (rP _ n.m_ _ B.col h4.m_ o.col o.lcol) U7<|C6 1 [1,5] a U<|U0 2 [1,5,28] U<|G.cd (λq=>?_) λq=>?_
 .have d:sH B.col≠0:=by
   intro e;rw[e]at q;exact absurd q dc_
  exact U0 2 [2] U<|V6 U2<|⟨by unfold iV;rw[aF c,aK d],U⟩
 have d:¬ sH B.col≠0:=by
  have h:sH B.col=0:=by simpa using q
  exact λh2=>h2 h
 refine U1 1 U λR a=>V1 (bkT b 1) U8<|C6 2 [1,33] a U<|G.cd (λu=>?_) λu=>?_
 .have g:100<B.obs.length:=by
   simp only[Sr]at u;omega
  exact U0 1 [2] U<|V6 U2<|⟨by unfold iV;rw[aF c,aF d,aK g],U⟩
 have g:¬ 100<B.obs.length:=by
  simp only[SS]at u;omega
 refine V3 λR a=>D.makeMap keyS U U U U fl_ λv=>C6 1 [1,6] a U<|U1 1 U λR a=>V1 (bkT b 1) U8<|C6 2 [1,6,36,37,38] a U<|G.loop (λfr C' K S=>∃(i:Nat),(i<=B.obs.length/\wx B i=0)/\fr=[(1,[],p_ Q),(6,[],.map (some v)),(36,[],.slice M B.obs.length N),(37,[],i_ B.obs.length),(38,[],i_ i)]/\K=[.obj v (bg keyS.enc (HS (B.obs.take i)))]/\S=B.obs.length-i) (hn_ [1,6,36,37,38] U) ⟨0,⟨Sm _,U⟩,U,U,U⟩ (λfr ac ad m _ T=>?_);obtain⟨i,⟨hi,k⟩,rfl,rfl,rfl⟩:=T;refine U0 1 [1,6,36,37,38,39] U<|G.cd (λw=>?_) λw=>?_
 .have y:i<B.obs.length:=by simpa using w
  obtain⟨x,f⟩:∃x,B.obs[i]?=some x:=⟨B.obs[i],ah y⟩;have V:=o.obs x (aJ f);have W:B.obs.take (i+1)=B.obs.take i++[x]:=by rw[SH,f];rfl
  refine V3 λR a=>Wf h5.m_ U10 om_ (cI f) fl_ λae X=>V1 X U8<|Wg U5 λb8=>Wa (j:=0) U12<|V5 [1,6,8,36,37,38] a U<|U1 1 U λR a=>V1 (bkT b 2) U8<|V2 U6<|V1 (bkT b 1) U8<|V9 ag U9<|Wb (OI _ n.m_ _ _ B.pts B.tris B.col x hm.m_ t h4.m_ V) U7<|C6 1 [1,6,8,9,36,37,38] a U<|U0 2 [1,6,8,9,36,37,38,49] U<|G.cd (λr=>?_) λr=>?_
  .have l:gm B.pts B.tris B.col x≠0:=by
    intro e;rw[e]at r;exact absurd r dc_
   have A:=HH k f (z:=gm B.pts B.tris B.col x) (by unfold obZ;rw[aK l]) l;exact U0 2 [2] U<|V6 U2<|⟨by unfold iV;rw[aF c,aF d,aF g,A],U⟩
  have l:¬ gm B.pts B.tris B.col x≠0:=by
   have h:gm B.pts B.tris B.col x=0:=by simpa using r
   exact λh2=>h2 h
  refine U1 2 U λR a=>V9 ag U9<|Xm keyS af U U U U U U U U kr_ U (HR (B.obs.take i) x.name) U U<|V5 [1,6,8,36,37,38,54] a U<|G.cd (λE=>?_) λE=>?_
  .have s:x.name∈(B.obs.take i).map Obs.name:=RD E;have A:=HH k f (z:=9) (by unfold obZ;rw[aF l,aK s]) dc_;exact U0 1 [2] U<|V6 U2<|⟨by unfold iV;rw[aF c,aF d,aF g,A],U⟩
  have s:x.name ∉ (B.obs.take i).map Obs.name:=Si E;have Y:wx B (i+1)=0:=by rw[uZ k f];unfold obZ;rw[aF l,aF s]
  refine U1 2 U λR a=>V9 ag U9<|D.mapUpdate keyS (j:=1) U U U U U U U U U U kr_<|V5 [1,6,36,37,38] a U<|V3 λR a=>V8 _ U U6<|C6 1 [1,6,36,37,38] a U<|WH 1 U<|Wk (L':=[.obj v (bg keyS.enc (HS (B.obs.take (i+1))))]) (by rw[W,<- Lc s];rfl)<|We (m':=B.obs.length-(i+1)) om_ mup (hn_ [1,6,36,37,38] U) ⟨i+1,⟨by omega,Y⟩,U,U,U⟩
 have y:i=B.obs.length:=by
  have:¬ i<B.obs.length:=by simpa using w
  omega
 refine U0 1 [2] U<|V6 U2<|⟨?_,U⟩;rw[y]at k;unfold iV;rw[aF c,aF d,aF g,k]
theorem mX (C:Mem)(g:Tabs C)(b:Value)(B:Bk)(c:BookIn C b B)(j:Good B.pts B.tris)(k:BookR B)(l:iV B=0)(i:Nat)(n:i<B.obs.length) :
  Gives cx.P 289 [b,i_ i] C (i_ 0):=by
 have d:=c;obtain⟨o,p,q,r,s,rfl,h1,h2,h3,h4,h5⟩:=id c.ex;obtain⟨t,u,rfl,m,v,_⟩:=id h5;have w:=mx_
 simp only[au]at h5 m d⊢;refine V7 func289 20 U3 λw0=>V3 λR a=>Wi U6 λx=>C6 1 [1,2] a U<|V3 λR a=>V9 ag U9<|Wc (by have h:=rR _ g.m_ _ B d.m_ j k;rw[l]at h;exact h) U7 fl_<|C6 1 [1,2,5] a U<|U0 2 [1,2,5,9] U<|G.cd (λe=>?_) λe=>?_
 .exact absurd e dc_
 refine U1 5 U λR a=>V9 ag U9<|V4 2 U<|Wy U8<|V5 [19] a U<|G.cd (λf=>?_) λf=>?_
 .exfalso;simp only[Uh,Sr]at f;omega
 exact U0 1 [4] U<|V6 U2<|⟨U,U⟩
noncomputable def lK (o:Obs)(z:Rat):Rat:=if o.kind=2 then z-dt o.depth else z
structure ObsAt (o:Obs)(p:Pt):Prop where
 x:o.x=qtx p.1
 y:o.y=qtx p.2
 q:QP 23 p
 r:PtR p
 d:o.kind=2->aS o.depth=true
theorem yl {o:Obs}(h:ObsAt o p):(.agg ⟨[ae o.x,ae o.y]⟩:Value)=ptV p:=by unfold ptV gK;rw[h.x,h.y]
structure Terr (B:Bk)(fs:List Rat):Prop where
 e:B.terr=fs.map qtx
 l:fs.length=B.pts.length
 q:∀q∈fs,QB 22 q
theorem MG {B:Bk}(h:Terr B fs):∀q∈fs,aS (qtx q)=true:=λq a=>bx (h.q q a)
theorem Iv (C:Mem)(k:Tabs C)(m:Value)(B:Bk)(i:List Rat)(o:Obs)(p:Pt)(z:Rat)(v:BookIn C m B)(w:Good B.pts B.tris)(b:Terr B i)(c:ObsAt o p)(x:FY B.pts B.tris i p=.tuple #[ae (qtx z),i_ 0])(y:QB 22 z) :
  Gives cx.P 290 [m,.agg ⟨gD o⟩] C (.tuple #[ae (qtx (lK o z)),i_ 0]):=by
 obtain⟨n,s,E,F,H,rfl,h1,h2,h3,h4,h5⟩:=id v.ex;have hm:MeshIn C (.agg ⟨[n,s]⟩) B.pts B.tris:=⟨n,s,rfl,h1,h2⟩;rw[b.e,<- nT]at h3;refine V7 func290 31 U3 λw0=>V3 λR a=>Wi U6 λI=>Wi U6 λJ=>C6 2 [2,3] a U<|G.freeze 1 U λ_ _ t=>G.freeze 0 U λu _ j=>U1 1 U λR a=>V1 (bkT t 2) U8<|V2 U6<|V1 (bkT t 1) U8<|V2 U6<|V1 (bkT j 2) U8<|Wc (by have h:=BY u k.m_ _ _ B.pts B.tris i 22 dc_ dc_ hm.m_ w h3.m_ b.l b.q (MG b) p c.q c.r;rw[x,<- yl c]at h;exact h) U7 fl_<|C6 5 [3,6,7] a U<|U1 4 U λR a=>Wv U6 (λ_=>PtrTo.blockT (Mem.get j mup) _ 1) U3<|V2 U6<|Wr U8<|V5 [3,6,7,24] a U<|G.cd (λf=>?_) λf=>?_
 .have g:o.kind=2:=dZ (Vo.1 f).2;obtain⟨A,D⟩:=dE (c.d g);refine U1 2 U λR a=>V1 (bkT j 1) U8<|Wc (by have h:=dY u k.m_ z (dt o.depth) 23 dc_ dc_ (y.le dc_) D;rw[<- A]at h;exact h) U7 fl_<|C6 1 [6,7] a U<|U0 4 [4,5] U<|Wd (G.dropAll (Wu U3 ?_));exact⟨by unfold lK;rw[aK g],U⟩
 have g:¬ o.kind=2:=by
  intro e;rw[show((((0:Int) == 0) && (o.kind == 2))=true) by rw[e];rfl]at f;cases f
 refine U0 4 [4,5] U<|Wd (G.dropAll (Wu U3 ?_));exact⟨by unfold lK;rw[aF g],U⟩
theorem Fg (C:Mem)(c:Tabs C)(h:Value)(B:Bk)(d:List Rat)(i:Nat)(o:Obs)(p:Pt)(z:Rat)(b:BookIn C h B)(j:Good B.pts B.tris)(q:BookR B)(r:iV B=0)(s:Terr B d)(k:B.obs[i]?=some o)(t:ObsAt o p)(u:FY B.pts B.tris d p=.tuple #[ae (qtx z),i_ 0])(v:QB 22 z)(l:QB 22 (lK o z)) :
  Gives cx.P 243 [h,i_ i] C (.tuple #[ae (qtx (lK o z)),i_ 0]):=by
 have e:=b;have w:=(aT.1 k).1;obtain⟨A,D,E,F,H,rfl,h1,h2,h3,h4,h5⟩:=id b.ex;obtain⟨I,J,rfl,x,K,_⟩:=id h5;have L:=mx_
 simp only[au]at h5 x e⊢;refine V7 func243 36 U3 λw0=>V3 λR a=>Wi U6 λM=>C6 2 [1,2] a U<|G.freeze 0 U λ_ _ f=>V3 λR a=>V1 (bkT f 5) U8<|V2 U6<|Wb (mX _ c.m_ _ B e.m_ j q r i w) U7<|C6 1 [1,2,6] a U<|U0 2 [1,2,6,13] U<|G.cd (λm=>?_) λm=>?_
 .exact absurd m dc_
 refine Wn [0,1,2,3,4,5,6,7,8,9,10,11] [(6,1)] U kr_ λR b a=>V1 (bkT f 5) U8<|V2 U6<|V1 (bkT f 1) U8<|V2 U6<|Wf h5.m_ U10 om_ (cI k) fl_ λN y=>V1 y U8<|WC (λ_=>(Iv _ c.m_ _ B d o p z e.m_ j s t u v)) U9<|V4 5 U<|V5 [7,8] a U<|U1 4 U λR a=>WC (λ_=>(dB _ c.m_ _ (uP l))) U9<|V2 U6<|Wr U8<|V5 [7,8,31] a U<|G.cd (λg=>?_) λg=>?_
 .exfalso;rw[yX l]at g;exact absurd g dc_
 refine U0 2 [7,8,33] U<|G.cd (λn=>?_) λn=>?_
 .exact absurd n dc_
 refine U0 3 [4,5] U<|Wd (G.dropAll (Wu U3 ?_));exact⟨U,U⟩
def xf (lo hi:Int)(n:Nat):List Nat:=(List.range n).filter λk:Nat=>decide (lo<=(k:Int)/\(k:Int)<hi)
def Gv (col:List Lay)(o:Obs):Int:=if o.kind=1 then ib (isU o.upper) col 0-1 else ib (isU o.lower) col 0
def Gx (col:List Lay)(o:Obs):Int:=if o.kind=1 then ib (isU o.upper) col 0+1 else ib (isU o.upper) col 0
def cR (col:List Lay)(o:Obs):List Nat:=xf (Gv col o) (Gx col o) (col.length-1)
theorem J8 {a b:Int}(j:max a 0<=(i:Int))(l:(i:Int)<=max (max a 0) (min b n))(o:min b (n:Int)<=(i:Int)):(List.range i).filter (λk:Nat=>decide (a<=(k:Int)))=xf a b n:=by
 unfold xf;have hs:∀m:Nat,(List.range (i+m)).filter (λk:Nat=>decide (a<=(k:Int)/\(k:Int)<b/\k<n))=(List.range i).filter (λk:Nat=>decide (a<=(k:Int)/\(k:Int)<b/\k<n)):=by
  intro m;induction m with
 |zero=>rfl
 |succ m c =>
   rw[show i+(m+1)=i+m+1 by omega,Tz,TM,c,List.filter_cons];rw[aF (by simp only[Sr];omega)];simp
 have f:(List.range i).filter (λk:Nat=>decide (a<=(k:Int)))=(List.range i).filter (λk:Nat=>decide (a<=(k:Int)/\(k:Int)<b/\k<n)):=by
  refine List.filter_congr (λk d=>?_);rw[SE]at d;rw[S8];omega
 have g:(List.range n).filter (λk:Nat=>decide (a<=(k:Int)/\(k:Int)<b))=(List.range n).filter (λk:Nat=>decide (a<=(k:Int)/\(k:Int)<b/\k<n)):=by
  refine List.filter_congr (λk d=>?_);rw[SE]at d;rw[S8];omega
 rw[f,g];rcases Nat.le_total i n with e|e
 .obtain⟨m,rfl⟩:=Nat.exists_eq_add_of_le e;exact(hs m).symm
 have h:∀m:Nat,(List.range (n+m)).filter (λk:Nat=>decide (a<=(k:Int)/\(k:Int)<b/\k<n))=(List.range n).filter (λk:Nat=>decide (a<=(k:Int)/\(k:Int)<b/\k<n)):=by
  intro m;induction m with
 |zero=>rfl
 |succ m c =>
   rw[show n+(m+1)=n+m+1 by omega,Tz,TM,c,List.filter_cons];rw[aF (by simp only[Sr];omega)];simp
 obtain⟨m,rfl⟩:=Nat.exists_eq_add_of_le e;exact h m
theorem tF (p:α->Bool)(l:List α):-1<=ib p l 0/\ib p l 0<=(l.length:Int):=by
 rcases ia p l with⟨h,_⟩|⟨i,x,h,h2,_⟩
 .omega
 have:=(aT.1 h2).1;omega
theorem zH (C:Mem)(_ac:Tabs C)(F:Value)(B:Bk)(o:Obs)(q:BookIn C F B)(ad:B.col.length<=1000)(M:B.col≠[]) :
  Pur cx.P 291 [F,.agg ⟨gD o⟩] C λu D=>Sl D 1 u ((cR B.col o).map aW):=by
 obtain⟨v1,v2,tv,cv,ov,rfl,h1,h2,h3,h4,h5⟩:=id q.ex;obtain⟨A4,c4,rfl,N,ae,_⟩:=id h4;have af:=mx_
 have ag:=S7.2 M;have O:=tF (isU o.lower) B.col;have Q:=tF (isU o.upper) B.col;obtain⟨lw,H⟩:∃z,ib (isU o.lower) B.col 0=z:=⟨_,rfl⟩;obtain⟨up,I⟩:∃z,ib (isU o.upper) B.col 0=z:=⟨_,rfl⟩;obtain⟨lo,b⟩:∃z,Gv B.col o=z:=⟨_,rfl⟩;obtain⟨c,d⟩:∃z,Gx B.col o=z:=⟨_,rfl⟩;obtain⟨n,S⟩:∃n,B.col.length-1=n:=⟨_,rfl⟩;unfold cR;rw[b,d,S];unfold Gv at b;unfold Gx at d;rw[H]at O b;rw[I]at Q b d;simp only[au]at h4 N⊢;have ah:-2<=lo/\lo<=1000:=by rw[<- b];split <;> omega
 have ai:-2<=c/\c<=1001:=by rw[<- d];split <;> omega
 refine V7 func291 43 U3 λw0=>V3 λR a=>Wi U6 λJ=>Wi U6 λb3=>C6 1 [2,3] a U<|G.freeze 1 U λ_ _ s=>G.freeze 0 U λK _ t=>Wn [0,1,2,3,4,5,6,7,8,9,10,11] [(4,1),(9,1)] U kr_ λR q a=>V2 U6<|V1 (bkT s 1) U8<|V2 U6<|V1 (bkT t 1) U8<|Wo (λ_=>(by have h:=kC K _ B.col o.lower h4.m_;rw[H]at h;exact h)) U9<|V2 U6<|V1 (bkT s 1) U8<|V2 U6<|V1 (bkT t 1) U8<|Wo (λ_=>(by have h:=kC K _ B.col o.upper h4.m_;rw[I]at h;exact h)) U9<|V4 2 U<|V5 [2,3,5,6] a U<|U1 1 U λR a=>V1 (bkT t 1) U8<|C6 1 [2,5,6,21] a U<|G.cut (λfr T g v=>(True)/\fr=[(2,[],p_ J),(5,[],i_ lo),(6,[],i_ c)]/\g=[]) ?_ (λfr _ aj v _ x=>?_)
 .refine G.cd (λl=>?_) λl=>?_
  .have f:o.kind=1:=dZ l;rw[aK f]at b d;subst b d;refine U1 1 U λR a=>V8 _ U U6<|V2 U6<|V8 _ U U6<|C6 2 [2,5,6] a U ?_;clear a R;refine Wj 0 l_ (hn_ [2,5,6] U) ⟨trivial,U,U⟩
  have f:¬ o.kind=1:=by
   intro e;rw[show((o.kind == 1)=true) by rw[e];rfl]at l;cases l
  rw[aF f]at b d;subst b d;refine Wj 0 l_ (hn_ [2,5,6] U) ⟨trivial,U,U⟩
 obtain⟨_,rfl,rfl⟩:=x;refine U0 1 [2,5,6,7] U ?_;obtain⟨p,V⟩:∃p:Nat,max lo 0=(p:Int):=⟨(max lo 0).toNat,by omega⟩;refine U1 1 U λR a=>D.max (((p:Nat):Int)) U6 V U2<|C6 1 [2,6,7,8] a U<|G.nilArr 3 1 ?_;refine G.loop (λfr T g v=>∃(i:Nat)(out:List Nat)(w:Value),(max lo 0<=(i:Int)/\(i:Int)<=max (max lo 0) (min c n)/\out=(List.range i).filter (λk:Nat=>decide (lo<=(k:Int))))/\fr=[(2,[],p_ J),(6,[],i_ c),(7,[],w),(8,[],i_ i)]/\g=[.arr w 3 1 out.length (out.map aW).flatten]/\v=2000-i) (hn_ [2,6,7,8] U) ⟨p,[],_,⟨by omega,by omega,by
  symm;rw[List.filter_eq_nil_iff];intro k f;rw[SE]at f;simp only[Sr];omega⟩,rfl,rfl,rfl⟩ (λfr ak am m _ x=>?_)
 obtain⟨i,out,w,⟨W,X,A⟩,rfl,rfl,rfl⟩:=x;refine U1 3 U λR a=>V1 (bkT s 1) U8<|V2 U6<|V8 _ U U6<|D.min ((min c (n:Int))) U6 om_ U2<|C6 1 [2,6,7,8,35] a U<|G.cd (λE=>?_) λE=>?_
 .have an:(i:Int)<min c (n:Int):=RD E;have ao:out.length<=i:=by
   rw[A];exact Su (TV _ _) al
  have Y:(List.range (i+1)).filter (λk:Nat=>decide (lo<=(k:Int)))=out++[i]:=by
   rw[Tz,TM,<- A,List.filter_cons,aK (by simp only[Sr];omega)];rfl
  refine U1 2 U λR a=>Wq [aW i] U12 λap _ _ Z=>D.append (j:=0) U11 Z U ax (by simp only[Sk];omega) fl_ λL=>C6 1 [2,6,7,8] a U<|U1 1 U λR a=>V8 _ U U6<|C6 1 [2,6,7,8] a U<|Wk (L':=[.arr L 3 1 (out++[i]).length ((out++[i]).map aW).flatten]) (by simp[aW]) ?_;refine We (m':=2000-(i+1)) om_ mup (hn_ [2,6,7,8] U) ⟨i+1,out++[i],L,⟨by omega,by omega,Y.symm⟩,U,U,U⟩
 have aa:min c (n:Int)<=(i:Int):=by
  have:=Si E;omega
 exact U0 2 [4] U<|G.freezeArr 0 (out.map aW) U2 (by intro r hr;obtain⟨y,_,rfl⟩:=Sn.1 hr;rfl) al λCg hg ab=>V6 U2<|⟨U,by rw[<- J8 W X aa,<- A];exact ab⟩
theorem xd (C:Mem)(j:Tabs C)(k:Value)(B:Bk)(i:Nat)(o:Obs)(d:BookIn C k B)(p:Good B.pts B.tris)(q:BookR B)(a:iV B=0)(l:B.obs[i]?=some o) :
  Pur cx.P 244 [k,i_ i] C λu D=>∃v,u=.tuple #[v,i_ 0]/\Sl D 1 v ((cR B.col o).map aW):=by
 have f:=d;have r:=(aT.1 l).1;have b:sH B.col=0:=by
  unfold iV at a;split at a
  .rename_i h;exact absurd a h
  split at a
  .rename_i h;exact absurd a h
  rename_i h;exact SQ h
 have m:B.col≠[]:=by
  intro e;rw[e]at b;exact absurd b dc_
 have s:B.col.length<=1000:=by
  unfold sH at b;rw[aF m]at b;split at b
  .exact absurd b dc_
  omega
 obtain⟨y,z,A,E,F,rfl,h1,h2,h3,h4,h5⟩:=id d.ex;obtain⟨H,I,rfl,t,J,_⟩:=id h5;have K:=mx_
 simp only[au]at h5 t f⊢;refine V7 func244 20 U3 λw0=>V3 λR c=>Wi U6 λL=>C6 2 [1,2] c U<|G.freeze 0 U λ_ _ g=>V3 λR c=>V1 (bkT g 5) U8<|V2 U6<|Wb (mX _ j.m_ _ B f.m_ p q a i r) U7<|C6 1 [1,2,6] c U<|U0 2 [1,2,6,11] U<|G.cd (λn=>?_) λn=>?_
 .exact absurd n dc_
 refine Wn [0,1,2,3,4,5,6,7,8] [] U kr_ λR d c=>V1 (bkT g 5) U8<|V2 U6<|V1 (bkT g 1) U8<|V2 U6<|Wf h5.m_ U10 om_ (cI l) fl_ λM w=>V1 w U8<|Wz (zH _ j.m_ _ B o f.m_ s m) U7 λN _ _ x=>V4 2 U<|V5 [4,5] c U ?_;clear c d R;refine Wd (G.dropAll (Wu U3 ?_));exact⟨U,_,U,x⟩
theorem HL (x y:Nat)(a:x<18446744073709551616)(b:y<18446744073709551616)(C:Mem):Gives cx.P 128 [.int .u64 x,.int .u64 y] C (.tuple #[.int .u64 ((x*y / 18446744073709551616:Nat):Int),.int .u64 ((x*y % 18446744073709551616:Nat):Int)]) :=
 Gives.ofCalls kr_ (λw=>Any.bits_Mul Tryz.mul x y a b w) C
theorem fO {a:Value}{b:List Value}(_d:k+m<=n)(c:m<=k)(_e:b.length=n-k) :
  aB (List.replicate k a++b) ((List.replicate k a++b).take m) k=List.replicate (k+m) a++b.drop m:=by
 have h1:(List.replicate k a++b).take m=List.replicate m a:=by
  rw[List.take_append_of_le_length (by simpa using c),List.take_replicate,Tj c]
 have h2:(List.replicate k a++b).take k=List.replicate k a:=by
  rw[List.take_append_of_le_length al,List.take_replicate,Nat.min_self]
 have h3:(List.replicate k a++b).drop (k+m)=b.drop m:=by
  rw[Vf,SG,TZ al,Un];congr 1;omega
 unfold aB;rw[h1,h2,SG,h3,List.replicate_append_replicate]
theorem BN (a:Value)(n:Nat):fI [a] n=List.replicate n a:=by
 rw[dH];induction n with
|zero=>rfl
|succ n b=>rw[Tm,Tu,b,Tm];rfl
theorem mm (n:Nat)(a:n<18446744073709551616)(C:Mem):Gives cx.P 128 [.int .u64 (1:Int),.int .u64 n] C (.tuple #[.int .u64 0,.int .u64 n]):=by
 have h:=HL 1 n om_ a C;have b:1*n / 18446744073709551616=0:=by omega
 have c:1*n % 18446744073709551616=n:=by omega
 rw[b,c]at h;exact h
theorem jZ (C:Mem)(v:Value)(n:Nat)(s:Str)(g:Sl C 1 v [[ae s]])(y:n<=1000000):Jog.Fn cx.P 64 [v,i_ n] C [] λu _z e=>∃b,u=s_ b n n/\e=[.arr u 32 1 n (List.replicate n (ae s))]:=by
 have p:=g;obtain⟨A,c,rfl,_⟩:=p;refine V7 func64 48 U3 λw0=>U0 1 [0,1] U<|U0 2 [0,1,10] U<|G.cd (λh=>?_) λh=>?_
 .simp at h;omega
 refine U1 2 U λR d=>WG (c:=1) U8 U fl_<|V2 U6<|WG (c:=(n:Int)) U8 g_ fl_<|Wc (mm n om_ _) U7 fl_<|C6 5 [0,5,6] d U<|U1 5 U λR d=>Wy U8<|V5 [0,6,26] d U<|G.cd (λi=>?_) λi=>?_
 .simp at i;omega
 refine U1 1 U λR d=>WG (c:=(n:Int)) U8 f_ fl_<|WX U9 (Sg _) (by show 16*n<=281474976710656;omega) y_ fl_ λa=>C6 1 [0,7] d U<|U1 2 U λR d=>XB (j:=0) (q:=min 1 n) U12 g U2 (by rw[cG];show 0+min 1 n*1<=n*1;omega) fl_<|C6 1 [7,8] d U ?_;have r:aB (fI [ae []] n) (([[ae s]]:List (List Value)).take (min 1 n)).flatten 0=List.replicate (min 1 n) (ae s)++List.replicate (n-min 1 n) (ae []):=by
  rw[BN];cases n with
 |zero=>rfl
 |succ n=>rw[show min 1 (n+1)=1 by omega,Tm];rfl
 refine Wk (L':=[.arr (s_ a n n) 32 1 n (List.replicate (min 1 n) (ae s)++List.replicate (n-min 1 n) (ae []))]) (by rw[<- r];rfl)<|G.loop (λfr B e t=>∃(k:Nat),(k<=n/\min 1 n<=k)/\fr=[(7,[],s_ a n n),(8,[],i_ k)]/\e=[.arr (s_ a n n) 32 1 n (List.replicate k (ae s)++List.replicate (n-k) (ae []))]/\t=n-k) (hn_ [7,8] U) ⟨min 1 n,⟨Nat.min_le_right _ _,Sg _⟩,U,U,U⟩ (λfr D E m w x=>?_);obtain⟨k,⟨l,F⟩,rfl,rfl,rfl⟩:=x;refine U0 4 [7,8,37] U<|G.cd (λf=>?_) λf=>?_
 .simp only[Sr]at f;have o:k<n:=by omega
  have H:1<=k:=by omega
  refine Wn [0,1,2,3,4,5,6,7,8,9] [] U kr_ λR I d=>V4 3 U<|WN k n n U12 (λ_=>⟨.inr ⟨_,U⟩,.inl ⟨U,U⟩,.inl ⟨U,U⟩,l,Sg _,Sg _⟩) U2<|V4 2 U<|WN 0 k n U12 (λ_=>⟨.inl ⟨U,U⟩,.inr ⟨_,U⟩,.inl ⟨U,U⟩,Sm _,l,Sg _⟩) U2 ?_;refine Xz (j:=0) (off:=k) (g0:=a) (dl:=n-k) (dc:=n-k) (sl:=k-0) (sc:=n-0) (q:=min k (n-k)) U8 (by show some (Value.slice (if n=k then some (⟨a,0,none⟩:Addr) else (some (⟨a,0,none⟩:Addr)).map (·.add (k*1))) (n-k) (n-k))=_;rw[aF om_];simp[Addr.add_lit]) (by show some (Value.slice (if n=0 then some (⟨a,0,none⟩:Addr) else (some (⟨a,0,none⟩:Addr)).map (·.add (0*1))) (k-0) (n-0))=_;split <;> simp[Addr.add_lit]) U2 (by simp[kR,ae]) am fl_ ?_;refine Wx (((k+min k (n-k):Nat):Int)) U4 om_ om_ om_ U2<|C6 1 [7,8] d U<|Wk (L':=[.arr (s_ a n n) 32 1 n (List.replicate (k+min k (n-k)) (ae s)++List.replicate (n-(k+min k (n-k))) (ae []))]) (by rw[fO (n:=n) om_ (Nat.min_le_left _ _) al,List.drop_replicate,Nat.sub_sub];rfl)<|We (m':=n-(k+min k (n-k))) om_ w (hn_ [7,8] U) ⟨k+min k (n-k),⟨by omega,by omega⟩,U,U,U⟩
 simp only[SS]at f;have o:k=n:=by omega
 subst o;refine U0 2 [4] U<|Wd (WD U U ?_);exact⟨a,U,by simp⟩
theorem EO (C:Mem)(v:Value)(n:Nat)(s:Str)(g:Sl C 1 v [[ae s]])(y:n<=1000000):Jog.Fn cx.P 292 [v,i_ n] C [] λu _z e=>∃b,u=s_ b n n/\e=[.arr u 32 1 n (List.replicate n (ae s))]:=by
 have p:=g;obtain⟨A,c,rfl,_⟩:=p;refine V7 func292 48 U3 λw0=>U0 1 [0,1] U<|U0 2 [0,1,10] U<|G.cd (λh=>?_) λh=>?_
 .simp at h;omega
 refine U1 2 U λR d=>WG (c:=1) U8 U fl_<|V2 U6<|WG (c:=(n:Int)) U8 g_ fl_<|Wc (mm n om_ _) U7 fl_<|C6 5 [0,5,6] d U<|U1 5 U λR d=>Wy U8<|V5 [0,6,26] d U<|G.cd (λi=>?_) λi=>?_
 .simp at i;omega
 refine U1 1 U λR d=>WG (c:=(n:Int)) U8 f_ fl_<|WX U9 (Sg _) (by show 16*n<=281474976710656;omega) y_ fl_ λa=>C6 1 [0,7] d U<|U1 2 U λR d=>XB (j:=0) (q:=min 1 n) U12 g U2 (by rw[cG];show 0+min 1 n*1<=n*1;omega) fl_<|C6 1 [7,8] d U ?_;have r:aB (fI [ae []] n) (([[ae s]]:List (List Value)).take (min 1 n)).flatten 0=List.replicate (min 1 n) (ae s)++List.replicate (n-min 1 n) (ae []):=by
  rw[BN];cases n with
 |zero=>rfl
 |succ n=>rw[show min 1 (n+1)=1 by omega,Tm];rfl
 refine Wk (L':=[.arr (s_ a n n) 32 1 n (List.replicate (min 1 n) (ae s)++List.replicate (n-min 1 n) (ae []))]) (by rw[<- r];rfl)<|G.loop (λfr B e t=>∃(k:Nat),(k<=n/\min 1 n<=k)/\fr=[(7,[],s_ a n n),(8,[],i_ k)]/\e=[.arr (s_ a n n) 32 1 n (List.replicate k (ae s)++List.replicate (n-k) (ae []))]/\t=n-k) (hn_ [7,8] U) ⟨min 1 n,⟨Nat.min_le_right _ _,Sg _⟩,U,U,U⟩ (λfr D E m w x=>?_);obtain⟨k,⟨l,F⟩,rfl,rfl,rfl⟩:=x;refine U0 4 [7,8,37] U<|G.cd (λf=>?_) λf=>?_
 .simp only[Sr]at f;have o:k<n:=by omega
  have H:1<=k:=by omega
  refine Wn [0,1,2,3,4,5,6,7,8,9] [] U kr_ λR I d=>V4 3 U<|WN k n n U12 (λ_=>⟨.inr ⟨_,U⟩,.inl ⟨U,U⟩,.inl ⟨U,U⟩,l,Sg _,Sg _⟩) U2<|V4 2 U<|WN 0 k n U12 (λ_=>⟨.inl ⟨U,U⟩,.inr ⟨_,U⟩,.inl ⟨U,U⟩,Sm _,l,Sg _⟩) U2 ?_;refine Xz (j:=0) (off:=k) (g0:=a) (dl:=n-k) (dc:=n-k) (sl:=k-0) (sc:=n-0) (q:=min k (n-k)) U8 (by show some (Value.slice (if n=k then some (⟨a,0,none⟩:Addr) else (some (⟨a,0,none⟩:Addr)).map (·.add (k*1))) (n-k) (n-k))=_;rw[aF om_];simp[Addr.add_lit]) (by show some (Value.slice (if n=0 then some (⟨a,0,none⟩:Addr) else (some (⟨a,0,none⟩:Addr)).map (·.add (0*1))) (k-0) (n-0))=_;split <;> simp[Addr.add_lit]) U2 (by simp[kR,ae]) am fl_ ?_;refine Wx (((k+min k (n-k):Nat):Int)) U4 om_ om_ om_ U2<|C6 1 [7,8] d U<|Wk (L':=[.arr (s_ a n n) 32 1 n (List.replicate (k+min k (n-k)) (ae s)++List.replicate (n-(k+min k (n-k))) (ae []))]) (by rw[fO (n:=n) om_ (Nat.min_le_left _ _) al,List.drop_replicate,Nat.sub_sub];rfl)<|We (m':=n-(k+min k (n-k))) om_ w (hn_ [7,8] U) ⟨k+min k (n-k),⟨by omega,by omega⟩,U,U,U⟩
 simp only[SS]at f;have o:k=n:=by omega
 subst o;refine U0 2 [4] U<|Wd (WD U U ?_);exact⟨a,U,by simp⟩
theorem oO (C:Mem)(s p:Nat)(h:s*p<=100000):Jog.Fn cx.P 241 [gu s p] C [] λu _f c=>∃b,u=s_ b (s*p:Nat) (s*p:Nat)/\c=[.arr u 32 1 (s*p) (List.replicate (s*p) (ae [48]))]:=by
 refine V7 func241 7 U3 λw0=>V3 λR a=>Wi U6 λg=>C6 1 [1] a U<|Wt [(3,3)] U λR a=>Wq [[ae [48]]] U12 λi _ _ d=>V9 ag U9<|Wc (jo _ s p om_) U7 fl_<|D.call (jZ _ _ (s*p) [48] d.m_ om_) U (.inr dc_) U6 (Sp _) fl_ λj _ k _ e=>C6 1 [2] a U ?_;obtain⟨b,rfl,rfl⟩:=e;refine WH 1 U<|Wd (WD U U ?_);exact⟨b,U,U⟩
def ofE (z:Int)(s p:Nat):Int:=if z≠0 then z else if 60<s*p then 4 else 0
def ofS (e:Int)(s p:Nat):Value:=if e=0 then gu s p else gu 0 0
structure BookZ (C:Mem)(bv:Value)(B:Bk)(z:Int):Prop where
 i:BookIn C bv B
 ch:∀D:Mem,C.le D->Gives cx.P 181 [bv] D (.int .i64 z)
 ne:z=0->B.col≠[]
 lc:B.col.length<=1000
 lp:B.pts.length<=400
theorem BookZ.mono {C D:Mem}{a:Value}{B:Bk}{z:Int}(h:BookZ C a B z)(c:C.le D):BookZ D a B z:=⟨h.i.mono c,λE d=>h.ch E (λb o e=>d b o (c b o e)),h.ne,h.lc,h.lp⟩
theorem BookZ.m_ {D:Mem}{B:Bk}(h:BookZ C bv B z)(a:C.le D:=by exact mup):BookZ D bv B z:=BookZ.mono h a
def bs (B:Bk):Nat:=B.col.length-1
def bp (B:Bk):Nat:=B.pts.length
theorem Qn {B:Bk}(h:BookZ C bv B z):bs B*bp B<=400000:=by
 have h1:=h.lc;have h2:=h.lp;have:bs B*bp B<=1000*400:=TA (by unfold bs;omega) (by unfold bp;omega);omega
theorem QS (C:Mem)(l:Value)(B:Bk)(z:Int)(c:BookZ C l B z):Gives cx.P 113 [l] C (.tuple #[ofS (ofE z (bs B) (bp B)) (bs B) (bp B),i_ (ofE z (bs B) (bp B))]):=by
 obtain⟨n,o,p,q,r,rfl,h1,h2,h3,h4,h5⟩:=id c.i.ex;obtain⟨s,t,rfl,u,v,_⟩:=id h1;obtain⟨w,x,rfl,y,A,_⟩:=id h4;have D:=Qn c;have E:=c.lc;have m:=c.ch;have F:=mx_
 simp only[au]at m⊢;refine V7 func113 26 U3 λw0=>V3 λR a=>Wi U6 λH=>Wg U5 λI=>C6 1 [1,2] a U<|G.freeze 1 U λ_ _ g=>V3 λR a=>V1 (bkT g 5) U8<|Wb (m _ mup) U7<|C6 1 [1,2,4] a U<|U0 2 [1,2,4,9] U<|G.cd (λf=>?_) λf=>?_
 .have b:z≠0:=by
   intro e;rw[e]at f;exact absurd f dc_
  have d:ofE z (bs B) (bp B)=z:=by unfold ofE;rw[aK b]
  refine V3 λR a=>Wm [i_ 0,i_ 0] U8<|V2 U6<|Wa (j:=0) U12<|C6 1 [2,3] a U<|Wd (Xf ag U5 ?_);exact⟨by rw[d];unfold ofS;rw[aF b];rfl,U⟩
 have b:z=0:=by simpa using f
 have J:=S7.2 (c.ne b);have K:bs B+1=B.col.length:=by unfold bs;omega
 refine U1 1 U λR a=>V1 (bkT g 1) U8<|V2 U6<|Wx (((bs B:Nat):Int)) U4 om_ om_ om_ U2<|V4 2 U<|V1 (bkT g 1) U8<|V2 U6<|Wm [i_ (bs B:Nat),i_ (bp B:Nat)] U8<|Wg U5 λL=>Wa (j:=0) U12<|V5 [2,5] a U<|V3 λR a=>V9 ag U9<|Wc (jo _ (bs B) (bp B) om_) U7 fl_<|C6 1 [2,5,23] a U<|G.cd (λh=>?_) λh=>?_
 .have k:60<bs B*bp B:=by
   have:=RD h;omega
  have d:ofE z (bs B) (bp B)=4:=by unfold ofE;rw[b,aF dc_,aK k]
  refine V3 λR a=>Wm [i_ 0,i_ 0] U8<|Wa (j:=1) U12<|C6 1 [2,3] a U<|Wd (Xf ag U5 ?_);exact⟨by rw[d];rfl,U⟩
 have k:¬ 60<bs B*bp B:=by
  have:=Si h;omega
 have d:ofE z (bs B) (bp B)=0:=by unfold ofE;rw[b,aF dc_,aF k]
 refine V3 λR a=>V9 ag U9<|Wa (j:=1) U12<|C6 1 [2,3] a U<|Wd (Xf ag U5 ?_);exact⟨by rw[d];rfl,U⟩
theorem LY (C:Mem)(c:Value)(B:Bk)(z:Int)(b:BookZ C c B z):Gives cx.P 92 [c] C (.tuple #[i_ (if ofE z (bs B) (bp B)=0 then ((bs B*bp B:Nat):Int) else 0),i_ (ofE z (bs B) (bp B))]):=by
 have s:=Qn b;have g:=b;obtain⟨k,l,m,n,o,rfl,h1,h2,h3,h4,h5⟩:=id b.i.ex;obtain⟨e,d⟩:∃e,ofE z (bs B) (bp B)=e:=⟨_,rfl⟩;have f:∀D:Mem,C.le D->Gives cx.P 113 [.agg ⟨[k,l,m,n,o]⟩] D (.tuple #[ofS e (bs B) (bp B),i_ e]):=λD p=>by have h:=QS D _ B z (g.mono p);rwa [d]at h
 rw[d];have q:ofS e (bs B) (bp B)=.agg ⟨[i_ (if e=0 then ((bs B:Nat):Int) else 0),i_ (if e=0 then ((bp B:Nat):Int) else 0)]⟩:=by unfold ofS gu;split <;> rfl
 have r:∀D:Mem,Gives cx.P 149 [.agg ⟨[i_ (if e=0 then ((bs B:Nat):Int) else 0),i_ (if e=0 then ((bp B:Nat):Int) else 0)]⟩] D (i_ (if e=0 then ((bs B*bp B:Nat):Int) else 0)):=λD=>by
  by_cases h:e=0
  .rw[aK h,aK h,aK h];exact jo D (bs B) (bp B) om_
  rw[aF h,aF h,aF h];exact jo D 0 0 om_
 rw[q]at f;refine V7 func92 14 U3 λw0=>V3 λR a=>Wi U6 λt=>C6 2 [1] a U<|V3 λR a=>V9 ag U9<|Wb (f _ mup) U7<|V4 3 U<|Wg U5 λu=>Wa (j:=0) U12<|C6 1 [4,5] a U<|V3 λR a=>V9 ag U9<|Wb (r _) U7<|C6 3 [2,3] a U<|Wd (G.dropAll (Wu U3 ?_));exact⟨U,U⟩
theorem OM (C:Mem)(a:Value)(B:Bk)(b:BookZ C a B 0)(c:bs B*bp B<=60):Gives cx.P 113 [a] C (.tuple #[gu (bs B) (bp B),i_ 0]):=by
 have h:=QS C a B 0 b;have e:ofE 0 (bs B) (bp B)=0:=by unfold ofE;rw[aF dc_,aF om_]
 rw[e]at h;exact h
def sZ (n:Nat)(done:List (Nat × Rat)):List Rat:=(List.range n).map λj=>(ef done j).getD 0
def so (n:Nat)(done:List (Nat × Rat)):List Value:=(sZ n done).map λq=>ae (qtx q)
theorem vE (n:Nat):List.replicate n (ae [48])=so n []:=by
 unfold so sZ;rw[Th];symm;rw[List.eq_replicate_iff];refine⟨by simp,λv a=>?_⟩;obtain⟨j,_,rfl⟩:=Sn.1 a;show ae (qtx 0)=_;rw[qtx_zero]
theorem vF (n:Nat)(a:List (Nat × Rat)):(so n a).length=n:=by simp[so,sZ]
theorem ku {a:Nat}(b:List (Nat × Rat))(q:Rat)(h:a<n):aB (so n b) [ae (qtx q)] a=so n ((a,q)::b):=by
 have f:=vF n b;unfold aB;refine List.ext_getElem? (λj=>?_);have e:∀(d:List (Nat × Rat)),(so n d)[j]?=if j<n then some (ae (qtx ((ef d j).getD 0))) else none:=λd=>by
  unfold so sZ;rw[Th,Sh];split
  .rename_i c;rw[SU c];rfl
  rename_i c;rw[Sq (by simpa using Nat.le_of_not_lt c)];rfl
 rw[e ((a,q)::b)];have ht:((so n b).take a).length=a:=by rw[Sy,f];omega
 rcases Nat.lt_trichotomy j a with c|rfl|c
 .rw[SX,Ta (by rw[ht];exact c),Tb,aK c,e b,aK om_,aK om_];simp only[ef];rw[aF om_]
 .rw[SX,SR (by rw[ht];exact Sg _),ht,Vh,aK h];simp[ef]
 rw[SR (by rw[So,ht];simp;omega),So,ht,List.getElem?_drop];rw[show a+[ae (qtx q)].length+(j-(a+[ae (qtx q)].length))=j by simp;omega,e b];split
 .simp only[ef];rw[aF om_]
 rfl
theorem xA {d a:List (Nat × Rat)}(h:d.Perm a)(b:(d.map (·.1)).Nodup):sZ n d=sZ n a:=by
 unfold sZ;refine List.map_congr_left (λj _=>?_);rw[yo h b]
def jF (fm:List (Nat × Rat)):List (Int × Value):=fm.map λx=>(((x.1:Nat):Int),ae (qtx x.2))
def JP (p surface:Nat)(sign:Rat)(x:Nat × Rat):Nat × Rat:=(surface*p+x.1,sign*x.2)
theorem nL:QB 1 (-1:Rat):=eO QB_one
theorem zU (C:Mem)(s p a k:Nat)(h:a*p+k<=1000000):Gives cx.P 240 [gu s p,i_ (a:Nat),i_ (k:Nat)] C (i_ ((a*p+k:Nat):Int)):=by
 have e:((a:Nat):Int)*(p:Nat)=((a*p:Nat):Int):=(SK _ _).symm;have h2:=Qu C s p (a:Nat) (k:Nat) (by rw[e];omega) om_;rw[e,<- UX]at h2;exact h2
def Kz (s p surface:Nat)(fm:List (Nat × Rat))(sign:Rat):List Rat:=sZ (s*p) (fm.map (JP p surface sign))
abbrev zae:=λz=>Ent.obj z (.cells ⟨[.slice none 0 0,ae []]⟩ 140 (0,0))
theorem Qz (C:Mem)(J:Tabs C)(s p f b:Nat)(c:List (Nat × Rat))(g o:Rat)(k:Nat)(K:0<k)(hk:k<=1000)(ab:s*p<=100000)(hs:f<s)(A:C b=some (bg keyZ.enc (jF c)))(ac:(c.map (·.1)).Nodup)(ad:∀x∈c,x.1<p)(af:∀x∈c,QB k x.2)(L:QB k g)(ai:QB k o) :
  Pur cx.P 246 [gu s p,i_ f,.map (some b),ae (qtx g),ae (qtx o)] C λu D=>∃v,u=.agg ⟨[v,ae (qtx (g*o))]⟩/\Sl D 1 v ((Kz s p f c g).map eH):=by
 have aw:=mx_
 have M:(jF c).length=c.length:=by simp[jF]
 have ax:f*p+p<=s*p:=by
  rw[<- Nat.succ_mul];exact SY _ hs
 have ay:=(c.map (·.1)).length;refine V7 func246 38 U3 λw0=>V3 λR l=>Wi U6 λb5=>Wg U5 λz=>V5 [1,2,3,4,5,10] l U<|G.freeze 1 U λ_ _ N=>Wt [(1,3)] U λR l=>V1 (bkT N 2) U8<|D.call (oO _ s p ab) U (.inr dc_) U6 (Sp _) fl_ (λaz _ aA _ aj=>?_);obtain⟨bz,rfl,rfl⟩:=aj;refine V4 2 U<|Wc (cX _ J.m_ g o k K om_ L ai) U7 fl_<|Wm [s_ bz (s*p:Nat) (s*p:Nat),ae (qtx (g*o))] U8<|Wg U5 λal=>Wa (j:=0) U12<|V5 [1,2,3,5,10,11] l U<|G.freeze 0 U λ_ _ O=>Wk (L':=[.arr (s_ bz (s*p) (s*p)) 32 1 (s*p) (so (s*p) []),zae z]) (by rw[vE];rfl)<|U1 1 U λR l=>Ye keyZ (Mem.get A mup) U U U U U U U fl_ λE=>V5 [1,3,5,10,11,21] l U<|G.loop (λfr C' B μ=>∃(seen:List Nat),(seen.Nodup/\(∀j∈seen,j<c.length))/\fr=[(1,[],i_ f),(3,[],ae (qtx g)),(5,[],p_ b5),(10,[],p_ z),(11,[],p_ al),(21,[],p_ E)]/\B=[.obj E (bk b (jF c).length seen),.arr (s_ bz (s*p) (s*p)) 32 1 (s*p) (so (s*p) (seen.reverse.map λi=>JP p f g (c.getD i (0,0)))),zae z]/\μ=c.length-seen.length) (hn_ [1,3,5,10,11,21] U) ⟨[],⟨List.nodup_nil,by simp⟩,U,U,U⟩ (λfr aB aC m _ hI=>?_);obtain⟨seen,⟨Q,S⟩,rfl,rfl,rfl⟩:=hI;refine V3 λR l=>Yk keyZ (q:=0) (Mem.get A mup) U U U U U U fl_ λT aD t V=>C6 1 [1,3,5,10,11,21,23] l U<|G.cd (λw=>?_) λw=>?_
 .obtain⟨aE,j,F,am,rfl⟩:T=true/\∃j,j<(jF c).length/\j ∉ seen/\t=seen++[j]:=by
   rcases V with⟨h1,_⟩|h1
   .rw[h1]at w;cases w
   exact h1
  rw[M]at F;obtain⟨⟨n,q⟩,H⟩:∃x,c[j]?=some x:=⟨c[j],ah F⟩;have W:=aJ H;have aF:n<p:=ad _ W;have an:QB k q:=af _ W;have ao:(jF c)[j]?=some (((n:Nat):Int),ae (qtx q)):=by unfold jF;rw[Sh,H];rfl
  have ap:c.getD j (0,0)=(n,q):=by rw[ak,H];rfl
  have X:(seen++[j]).Nodup:=by
   rw[TX];exact⟨Q,by simp,λa ha b hb e=>by rw[SD.1 hb]at e;subst e;exact am ha⟩
  have Y:∀i∈seen++[j],i<c.length:=λi I=>by
   rcases Sx.1 I with h|h
   .exact S i h
   rw[SD.1 h];exact F
  have aG:(seen++[j]).length<=c.length:=by
   have:=List.Nodup.length_le_of_subset X (l₂:=List.range c.length) (λi I=>SE.2 (Y i I));simpa using this
  have aH:(seen++[j]).length=seen.length+1:=by simp
  have aq:f*p+n<s*p:=by omega
  refine V3 λR l=>Yh keyZ (Mem.get A mup) ao ag U U U U U U U<|C6 4 [1,3,5,10,11,12,13,21] l U<|Wn [0,1,2,3,4,5,6,7,8,9,10] [(5,1),(8,1)] U kr_ λR hB l=>V2 U6<|V1 (bkT O 1) U8<|V1 (bkT N 2) U8<|V4 2 U<|Wo (λ_=>(zU _ s p f n om_)) U9<|V4 2 U<|Wo (λ_=>(cX _ J.m_ g q k K om_ L an)) U9<|Ww ((f*p+n)) U10 (λ_=>⟨by omega,by omega,(T0 _).symm⟩) U2<|WA (j:=1) U11 (by rw[vF];simp;omega)<|V5 [1,3,5,10,11,21] l U<|G.perm (L':=[.obj E (bk b (jF c).length (seen++[j])),.arr (s_ bz (s*p) (s*p)) 32 1 (s*p) (so (s*p) ((seen++[j]).reverse.map λi=>JP p f g (c.getD i (0,0)))),zae z]) (by
   rw[List.reverse_append,List.reverse_singleton,List.singleton_append,S1,ap];unfold JP;rw[<- ku _ _ aq];exact List.Perm.swap _ _ _) ?_
  refine We (m':=c.length-(seen++[j]).length) om_ mup (hn_ [1,3,5,10,11,21] U) ⟨seen++[j],⟨X,Y⟩,U,U,U⟩
 obtain⟨aI,rfl,Z⟩:T=false/\t=seen/\∀j,j<(jF c).length->j∈seen:=by
  rcases V with h1|⟨h1,_⟩
  .exact h1
  rw[h1]at w;cases w
 rw[M]at Z;have aa:(t.reverse.map λi=>JP p f g (c.getD i (0,0))).Perm (c.map (JP p f g)):=by
  have h1:=(qu (d:=((0:Nat),(0:Rat))) Q S Z).map (JP p f g);rw[Th]at h1;exact((List.reverse_perm t).map _).trans h1
 have ar:((c.map (JP p f g)).map (·.1)).Nodup:=by
  rw[Th];have e:((·.1) ∘ JP p f g:Nat × Rat->Nat)=(λk=>f*p+k) ∘ (·.1):=rfl;rw[e,<- Th];rw[List.Nodup,List.pairwise_map];exact ac.imp (fun {a b} h=>by omega)
 have au:so (s*p) (t.reverse.map λi=>JP p f g (c.getD i (0,0)))=((Kz s p f c g).map eH).flatten:=by
  unfold Kz so;rw[xA aa ((aa.map (·.1)).nodup_iff.2 ar)];exact(eE (λq=>ae (qtx q)) _).symm
 refine WH 0 U<|G.freezeArr 0 ((Kz s p f c g).map eH) ⟨rfl,au⟩ (by intro r hr;obtain⟨y,_,rfl⟩:=Sn.1 hr;rfl) (by simp[Kz,sZ]) λCg hg av=>V3 λR l=>V1 (bkT O 2) U8<|Wa (j:=0) U12<|V5 [10] l U<|Wd (WO ag U4 ?_);exact⟨U,_,U,av⟩
end Go.Proofs.YtfjcldheldflbaaGreatDoor
