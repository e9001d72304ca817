import Derived.Test.YtfjcldheldflbaaGreatDoorG8
set_option maxHeartbeats 4000000
namespace Go.Proofs.YtfjcldheldflbaaGreatDoor
open Go.Proofs.Tryz
open Go Go.Jog
set_option maxRecDepth 100000
variable {C:Mem}{a b:Rat}{bv:Value}{c:Rat}{fs:List Rat}{i k m n:Nat}{p:Pt}{pts:List Pt}{q:Rat}{t:Tri}{tris:List Tri}{z:Int}{α:Type}
theorem cM {f:α->List Value}{l:List α}{x:α}(h:l[i]?=some x):(l.map f)[i]?=some (f x):=by rw[SI,h];rfl
def oK (n:Nat)(l:List Str):Int:=if l.length=n then ot (l.all aS) else 5
theorem zj (C:Mem)(y:Tabs C)(z v A:Value)(b:List Pt)(f:List Tri)(l:List Str)(B:MeshIn C z b f)(D:Good b f)(g:Sl C 1 v [[A]])(k:Sl C 1 A (l.map dE))(N:∀s∈l,s.length<=999998) :
  Gives cx.P 61 [z,v] C (i_ (oK b.length l)):=by
 have E:=B;have aa:=D.ok.lp;obtain⟨v1,v2,rfl,h1,h2⟩:=id B.ex;obtain⟨A1,c1,rfl,ab,ac,_⟩:=id h1;obtain⟨F,H,rfl,ad,ae,_⟩:=id g;obtain⟨n,o,rfl,O,af,_⟩:=id k;have ag:=mx_
 simp only[ar,SN]at h1 g k E O⊢;refine Wy func61 41 U3 λw0=>Wu λR a=>WH U6 λI=>C6 1 [1,2] a U<|G.freeze 0 U λ_ _ J=>Wu λR a=>Ws (PtrTo.block (Mem.get J mup) _) U8<|WD (ie _ y.m_ _ b f E.m_ D) U7<|C6 1 [1,2,5] a U<|U0 2 [1,2,5,14] U<|G.cd (λK=>?_) λK=>?_
 .exact absurd K dc_
 refine U0 3 [2,16,17,18] U<|G.loop (λfr Q p q=>∃(i:Nat),(i<=1/\(i=1->l.length=b.length/\l.all aS=true))/\fr=[(2,[],p_ I),(16,[],.slice F 1 H),(17,[],i_ 1),(18,[],i_ i)]/\p=[]/\q=1-i) (hn_ [2,16,17,18] U) ⟨0,⟨SM _,λh=>absurd h dc_⟩,U,U,U⟩ (λfr ah ai m _ r=>?_);obtain⟨i,⟨hi,S⟩,rfl,rfl,rfl⟩:=r;refine U0 1 [2,16,17,18,19] U<|G.cd (λt=>?_) λt=>?_
 .obtain rfl:i=0:=by
   simp only[SS]at t;omega
  refine Wu λR a=>WG g.m_ U10 om_ (rfl:([[.slice n l.length o]]:List (List Value))[0]?=some [.slice n l.length o]) fl_ λak T=>Ws T U8<|C6 1 [2,7,16,17,18] a U<|U1 3 U λR a=>Ws (PtrTo.block (Mem.get J mup) _) U8<|C6 2 [2,7,16,17,18,27] a U<|G.cd (λd=>?_) λd=>?_
  .have V:l.length≠b.length:=by
    intro e;rw[e]at d;simp at d
   exact U0 1 [4] U<|Wx U2<|⟨by unfold oK;rw[aF V],U⟩
  have L:l.length=b.length:=by
   have h:((l.length:Nat):Int)=(b.length:Nat):=by simpa using d
   omega
  refine U0 3 [2,16,17,18,28,29,30] U<|G.loop (λfr Q p q=>∃(j:Nat),(j<=l.length/\(l.take j).all aS=true)/\fr=[(2,[],p_ I),(16,[],.slice F 1 H),(17,[],i_ 1),(18,[],i_ 0),(28,[],.slice n l.length o),(29,[],i_ l.length),(30,[],i_ j)]/\p=[]/\q=l.length-j) (hn_ [2,16,17,18,28,29,30] U) ⟨0,⟨SM _,by simp⟩,U,U,U⟩ (λfr al am m W r=>?_);obtain⟨j,⟨hj,u⟩,rfl,rfl,rfl⟩:=r;refine U0 1 [2,16,17,18,28,29,30,31] U<|G.cd (λw=>?_) λw=>?_
  .have x:j<l.length:=by simpa using w
   let⟨s,hs⟩:∃s,l[j]?=some s:=⟨l[j],aj x⟩;refine Wu λR a=>WG k.m_ U10 om_ (cM hs) fl_ λan X=>Ws X U8<|C6 1 [2,9,16,17,18,28,29,30] a U<|U1 1 U λR a=>WD (dD _ y.m_ s (N s (aK hs))) U7<|C6 1 [2,10,16,17,18,28,29,30] a U<|U0 2 [2,10,16,17,18,28,29,30,37] U<|G.cd (λc=>?_) λc=>?_
   .have M:aS s=false:=by
     rcases eP (aS s) with⟨h1,h2⟩|⟨h1,h2⟩
     .rw[h1]at c;exact absurd c dc_
     exact h2
    refine U0 2 [4] U<|Wx U2<|⟨?_,U⟩;unfold oK;rw[aL L,M,show l.all aS=false from Vi.2 ⟨s,aK hs,by rw[M];decide⟩]
   have Y:aS s=true:=by
    rcases eP (aS s) with⟨h1,h2⟩|⟨h1,h2⟩
    .exact h2
    rw[h1]at c;exact absurd c dc_
   refine Wu λR a=>Wz _ U U6<|C6 1 [2,16,17,18,28,29,30] a U<|WF (m':=l.length-(j+1)) om_ W (hn_ [2,16,17,18,28,29,30] U) ⟨j+1,⟨by omega,by rw[S9,hs,Wk,u];simp[Y]⟩,U,U,U⟩
  have x:j=l.length:=by
   have:¬ j<l.length:=by simpa using w
   omega
  refine Wu λR a=>Wz _ U U6<|C6 1 [2,16,17,18] a U<|WF (m':=0) om_ mup (hn_ [2,16,17,18] U) ⟨1,⟨SH _,λ_=>⟨L,by rw[x,SU]at u;exact u⟩⟩,U,U,U⟩
 have Z:i=1:=by
  simp only[Tk]at t;omega
 refine U0 1 [4] U<|Wx U2<|⟨?_,U⟩;let⟨h3,h4⟩:=S Z;unfold oK;rw[aL h3,h4];rfl
theorem mR (C:Mem)(h:Tabs C)(e f:Value)(a:List Pt)(b:List Tri)(l:List Str)(g:MeshIn C e a b)(i:Good a b)(c:Sl C 1 f (l.map dE))(j:∀s∈l,s.length<=999998) :
  Gives cx.P 217 [e,f] C (i_ (oK a.length l)):=by
 have k:=g;obtain⟨p,q,rfl,h1,h2⟩:=id g.ex;obtain⟨m,n,rfl,r,t,_⟩:=id c;simp only[ar]at c⊢;exact Wy func217 9 U3 λw0=>Wu λR d=>WH U6 λu=>C6 1 [1,2] d U<|Wu λR d=>WA ah U9<|Wt U6<|WP [[.slice m l.length n]] U12 λv _ _ o=>WD (zj _ h.m_ _ _ _ a b l k.m_ i o.m_ c.m_ j) U7<|C6 1 [4] d U<|Wx U2<|⟨U,U⟩
def dH (q:Rat):List Value:=[ag (qtx q)]
def fz (fs:List Rat)(t:Tri)(j:Nat):Rat:=fs.getD (pY t j) 0
def Bm (pts:List Pt)(fs:List Rat)(t:Tri)(j:Nat):List Value:=gM (cor pts t j)++dH (fz fs t j)
theorem IR (h:i<fs.length):fs[i]?=some (fs.getD i 0):=by
 rw[al,aj h];rfl
theorem Bc (C:Mem)(r s:Value)(b:List Pt)(l:List Tri)(c:List Rat)(z:MeshIn C r b l)(A:MeshOk b l)(e:Sl C 1 s (c.map dH))(n:c.length=b.length)(i:Nat)(t:Tri)(o:l[i]?=some t) :
  Gives cx.P 192 [r,s,.int .i64 i] C (.agg ⟨Bm b c t 0++Bm b c t 1++Bm b c t 2⟩):=by
 have d:=A.ins t (aK o);obtain⟨M,N,rfl,h1,h2⟩:=id z.ex;obtain⟨O,Q,rfl,B,S,_⟩:=id h1;obtain⟨A2,c2,rfl,D,T,_⟩:=id h2;obtain⟨E,F,rfl,V,W,_⟩:=id e;have X:maxLen<=9223372036854775807:=by simp[maxLen]
 simp only[ar]at h1 h2 e B D⊢;have Y:=(R0.1 o).1;refine Wy func192 32 U3 λw0=>Wu λR a=>WH U6 λH=>WI U5 λu=>Ww [1,2,3,6] a U<|G.freeze 1 U λ_ _ h=>U1 1 U λR a=>Ws (PtrTo.block (Mem.get h mup) _) U8<|Wt U6<|WG h2.m_ U10 om_ (cM o) fl_ λZ I=>Ws I U8<|C6 1 [1,3,6,13,14] a U<|G.loop (λfr C' J K=>∃(j:Nat),(j<=3)/\fr=[(1,[],.slice E c.length F),(3,[],.pointer (some ⟨H,0,none⟩)),(6,[],.pointer (some ⟨u,0,none⟩)),(13,[],.agg ⟨jJ t⟩),(14,[],.int .i64 j)]/\J=[.obj u (.cells ⟨(List.range 3).flatMap λk=>if k<j then Bm b c t k else [ag [],ag [],ag []]⟩ 279 (0,0))]/\K=3-j) (hn_ [1,3,6,13,14] U) ⟨0,SM _,U,U,U⟩ (λfr aa ab m p L=>?_);obtain⟨j,hj,rfl,rfl,rfl⟩:=L;refine U0 1 [1,3,6,13,14,15] U<|G.cd (λq=>?_) λq=>?_
 .have v:j<3:=by
   simp only[SS]at q;omega
  rcases(by omega:j=0∨j=1∨j=2) with rfl|rfl|rfl
  .refine U1 1 U λR a=>Xx U11 (λ_=>⟨by decide,by decide,U⟩) U2<|C6 2 [1,3,6,7,8,13,14] a U<|WM [0,1,2,3,4,5,6,7,8,9,10,11,12] [] U kr_ λR w a=>Wv 2 U<|Ws (PtrTo.block (Mem.get h mup) _) U8<|Wt U6<|WG h1.m_ U10 om_ (cM (qO (fM d 0))) fl_ λx f=>Ws f U8<|Wv 2 U<|WG e.m_ U10 om_ (cM (IR (n ▸ fM d 0))) fl_ λy g=>Ws g U8<|WL (Bm b c t 0) U8<|WO (_) U9 (λ_=>⟨by decide,by decide,U⟩) U2<|WB (j:=0) U12<|Ww [1,3,6,13,14] a U<|Wu λR a=>Wz _ U U6<|C6 1 [1,3,6,13,14] a U<|WF (m':=2) om_ p (hn_ [1,3,6,13,14] U) ⟨1,by decide,U,U,U⟩
  .refine U1 1 U λR a=>Xx U11 (λ_=>⟨by decide,by decide,U⟩) U2<|C6 2 [1,3,6,7,8,13,14] a U<|WM [0,1,2,3,4,5,6,7,8,9,10,11,12] [] U kr_ λR w a=>Wv 2 U<|Ws (PtrTo.block (Mem.get h mup) _) U8<|Wt U6<|WG h1.m_ U10 om_ (cM (qO (fM d 1))) fl_ λx f=>Ws f U8<|Wv 2 U<|WG e.m_ U10 om_ (cM (IR (n ▸ fM d 1))) fl_ λy g=>Ws g U8<|WL (Bm b c t 1) U8<|WO (_) U9 (λ_=>⟨by decide,by decide,U⟩) U2<|WB (j:=0) U12<|Ww [1,3,6,13,14] a U<|Wu λR a=>Wz _ U U6<|C6 1 [1,3,6,13,14] a U<|WF (m':=1) om_ p (hn_ [1,3,6,13,14] U) ⟨2,by decide,U,U,U⟩
  refine U1 1 U λR a=>Xx U11 (λ_=>⟨by decide,by decide,U⟩) U2<|C6 2 [1,3,6,7,8,13,14] a U<|WM [0,1,2,3,4,5,6,7,8,9,10,11,12] [] U kr_ λR w a=>Wv 2 U<|Ws (PtrTo.block (Mem.get h mup) _) U8<|Wt U6<|WG h1.m_ U10 om_ (cM (qO (fM d 2))) fl_ λx f=>Ws f U8<|Wv 2 U<|WG e.m_ U10 om_ (cM (IR (n ▸ fM d 2))) fl_ λy g=>Ws g U8<|WL (Bm b c t 2) U8<|WO (_) U9 (λ_=>⟨by decide,by decide,U⟩) U2<|WB (j:=0) U12<|Ww [1,3,6,13,14] a U<|Wu λR a=>Wz _ U U6<|C6 1 [1,3,6,13,14] a U<|WF (m':=0) om_ p (hn_ [1,3,6,13,14] U) ⟨3,by decide,U,U,U⟩
 have v:j=3:=by
  simp only[Tk]at q;omega
 subst v;refine Wu λR a=>WA ah U9<|WB (j:=0) U12<|Ww [6] a U<|WE (Xi ah U4 ?_);exact⟨U,U⟩
theorem jO (c:QB k a)(d:QB m b):QB (k+m) (a*b):=by
 rw[fb];refine gA (Nat.mul_ne_zero a.den_nz b.den_nz) ?_ ?_
 .rw[T8,UV];exact Ub c.1 d.1
 rw[UV];exact Ub c.2 d.2
theorem sj (c:QB k a)(d:QB m b):QB (k+m+1) (a+b):=by
 rw[fc];have e:B9 ^ (k+m+1)=B9 ^ k*B9 ^ m*B9:=by rw[T3,UV]
 have f:(a.num*b.den).natAbs<B9 ^ k*B9 ^ m:=by rw[T8,Tu];exact Ub c.1 d.2
 have g:(b.num*a.den).natAbs<B9 ^ k*B9 ^ m:=by rw[T8,Tu,Tt];exact Ub c.2 d.1
 have h:a.den*b.den<B9 ^ k*B9 ^ m:=Ub c.2 d.2;have i:2*(B9 ^ k*B9 ^ m)<=B9 ^ k*B9 ^ m*B9:=by
  rw[Tt];exact Ua _ dc_
 refine gA (Nat.mul_ne_zero a.den_nz b.den_nz) ?_ ?_
 .rw[e];have:=Vh (a.num*b.den) (b.num*a.den);omega
 rw[e];omega
theorem fx (c:QB k a)(d:QB m b):QB (k+m+1) (a-b):=by
 rw[VW];exact sj c (eQ d)
theorem QB_one:QB 1 1:=⟨by decide,by decide⟩
theorem QB_zero:QB 1 0:=⟨by decide,by decide⟩
def eM (a b c d:Rat):Rat:=a*d-b*c
theorem rH (C:Mem)(e:Tabs C)(a b c d:Rat)(k:Nat)(f:0<k)(m:k<=2000)(g:QB k a)(h:QB k b)(i:QB k c)(j:QB k d):Gives cx.P 193 [ag (qtx a),ag (qtx b),ag (qtx c),ag (qtx d)] C (ag (qtx (eM a b c d))):=by
 exact Wy func193 16 U3 λw0=>U0 1 [0,1,2,3] U<|U1 2 U λR l=>WC (cX _ e.m_ a d k f om_ g j) U7 fl_<|Wv 2 U<|WC (cX _ e.m_ b c k f om_ h i) U7 fl_<|WC (ec _ e.m_ (a*d) (b*c) (k+k) om_ om_ (si g j) (si h i)) U7 fl_<|C6 1 [8] l U<|Wx U2<|⟨U,U⟩
theorem kE {d:Rat}(e:QB k a)(f:QB k b)(g:QB k c)(h:QB k d):QB (4*k+1) (eM a b c d):=(fx (jO e h) (jO f g)).le om_
def qu (c0 c1 c2:Pt)(z0 z1 z2:Rat):Pt :=
 ((1 / eM (c1.1-c0.1) (c1.2-c0.2) (c2.1-c0.1) (c2.2-c0.2))*eM (z1-z0) (c1.2-c0.2) (z2-z0) (c2.2-c0.2),
 (1 / eM (c1.1-c0.1) (c1.2-c0.2) (c2.1-c0.1) (c2.2-c0.2))*eM (c1.1-c0.1) (z1-z0) (c2.1-c0.1) (z2-z0))
def dY (pts:List Pt)(fs:List Rat)(t:Tri):Pt:=qu (cor pts t 0) (cor pts t 1) (cor pts t 2) (fz fs t 0) (fz fs t 1) (fz fs t 2)
theorem Ps (a:MeshOk pts tris)(b:fs.length=pts.length)(c:∀q∈fs,QB k q)(d:t∈tris)(j:Nat):QB k (fz fs t j) :=
 c _ (aK (IR (b ▸ fM (a.ins t d) j)))
theorem xo (d:MeshOk pts tris)(g:fs.length=pts.length)(h:∀q∈fs,QB k q)(e:t∈tris):QP (8*k+39) (dY pts fs t):=by
 have a:=λj=>oL d e j;have f:=λj=>Ps d g h e j;have b:∀i j,QB 3 ((cor pts t i).1-(cor pts t j).1):=λi j=>(fx (a i).1 (a j).1).le dc_;have hy:∀i j,QB 3 ((cor pts t i).2-(cor pts t j).2):=λi j=>(fx (a i).2 (a j).2).le dc_;have c:∀i j,QB (2*k+1) (fz fs t i-fz fs t j):=λi j=>(fx (f i) (f j)).le om_;have hm:QB 13 (eM ((cor pts t 1).1-(cor pts t 0).1) ((cor pts t 1).2-(cor pts t 0).2) ((cor pts t 2).1-(cor pts t 0).1) ((cor pts t 2).2-(cor pts t 0).2)):=(kE (k:=3) (b 1 0) (hy 1 0) (b 2 0) (hy 2 0)).le dc_;have l:eM ((cor pts t 1).1-(cor pts t 0).1) ((cor pts t 1).2-(cor pts t 0).2) ((cor pts t 2).1-(cor pts t 0).1) ((cor pts t 2).2-(cor pts t 0).2)≠0:=kr d e;have h1:QB 26 _:=(jP (k:=13) (QB_one.le dc_) hm l).le dc_;have m:QB (4*(2*k+3)+1) (eM (fz fs t 1-fz fs t 0) ((cor pts t 1).2-(cor pts t 0).2) (fz fs t 2-fz fs t 0) ((cor pts t 2).2-(cor pts t 0).2)):=kE (k:=2*k+3) ((c 1 0).le om_) ((hy 1 0).le om_) ((c 2 0).le om_) ((hy 2 0).le om_);have n:QB (4*(2*k+3)+1) (eM ((cor pts t 1).1-(cor pts t 0).1) (fz fs t 1-fz fs t 0) ((cor pts t 2).1-(cor pts t 0).1) (fz fs t 2-fz fs t 0)):=kE (k:=2*k+3) ((b 1 0).le om_) ((c 1 0).le om_) ((b 2 0).le om_) ((c 2 0).le om_);exact⟨(jO h1 m).le om_,(jO h1 n).le om_⟩
theorem yJ (C:Mem)(d:Tabs C)(r s:Value)(a:List Pt)(n:List Tri)(b:List Rat)(k:Nat)(u:0<k)(K:k<=100)(v:MeshIn C r a n)(o:MeshOk a n)(D:Sl C 1 s (b.map dH))(w:b.length=a.length)(E:∀q∈b,QB k q)(i:Nat)(t:Tri)(x:n[i]?=some t) :
  Gives cx.P 125 [r,s,.int .i64 i] C (ptV (dY a b t)):=by
 have p:=aK x;have F:=v;obtain⟨L,M,rfl,h1,h2⟩:=id v.ex;have e:=λj=>oL o p j;have m:=λj=>Ps o w E p j;have g:∀i j,QB 3 ((cor a t i).1-(cor a t j).1):=λi j=>(fx (e i).1 (e j).1).le dc_;have hy:∀i j,QB 3 ((cor a t i).2-(cor a t j).2):=λi j=>(fx (e i).2 (e j).2).le dc_;have l:∀i j,QB (2*k+1) (fz b t i-fz b t j):=λi j=>(fx (m i) (m j)).le om_;have y:QB 13 (eM ((cor a t 1).1-(cor a t 0).1) ((cor a t 1).2-(cor a t 0).2) ((cor a t 2).1-(cor a t 0).1) ((cor a t 2).2-(cor a t 0).2)):=(kE (k:=3) (g 1 0) (hy 1 0) (g 2 0) (hy 2 0)).le dc_;have z:eM ((cor a t 1).1-(cor a t 0).1) ((cor a t 1).2-(cor a t 0).2) ((cor a t 2).1-(cor a t 0).1) ((cor a t 2).2-(cor a t 0).2)≠0:=kr o p;have A:QB 26 (1 / eM ((cor a t 1).1-(cor a t 0).1) ((cor a t 1).2-(cor a t 0).2) ((cor a t 2).1-(cor a t 0).1) ((cor a t 2).2-(cor a t 0).2)):=(jP (k:=13) (QB_one.le dc_) y z).le dc_;have H:QB (8*k+26) (eM (fz b t 1-fz b t 0) ((cor a t 1).2-(cor a t 0).2) (fz b t 2-fz b t 0) ((cor a t 2).2-(cor a t 0).2)):=(kE (k:=2*k+3) ((l 1 0).le om_) ((hy 1 0).le om_) ((l 2 0).le om_) ((hy 2 0).le om_)).le om_;have I:QB (8*k+26) (eM ((cor a t 1).1-(cor a t 0).1) (fz b t 1-fz b t 0) ((cor a t 2).1-(cor a t 0).1) (fz b t 2-fz b t 0)):=(kE (k:=2*k+3) ((g 1 0).le om_) ((l 1 0).le om_) ((g 2 0).le om_) ((l 2 0).le om_)).le om_;refine Wy func125 98 U3 λw0=>Wu λR c=>WH U6 λN=>WI U5 λO=>Ww [1,2,3,6] c U<|Wu λR c=>WA af U9<|Wv 2 U<|WD (Bc _ _ _ a n b F.m_ o D.m_ w i t x) U7<|WI U5 λQ=>WB (j:=0) U12<|Ww [6,7] c U<|G.freeze 0 U λJ _ f=>WM [0,1,2,3,4,5,6,7,8,9,10,11,12,13,14,15,16,17,18,19] [(8,1),(17,1)] U kr_ λR B c=>WO (3) U9 (λ_=>⟨by decide,by decide,U⟩) U2<|Wv 2 U<|Ws (bkT f 1) U8<|WO (0) U9 (λ_=>⟨by decide,by decide,U⟩) U2<|Wv 2 U<|Ws (bkT f 1) U8<|WN (λ_=>(ec _ d.m_ (cor a t 1).1 (cor a t 0).1 1 dc_ dc_ (e 1).1 (e 0).1)) U9<|WO (3) U9 (λ_=>⟨by decide,by decide,U⟩) U2<|Wv 2 U<|Ws (bkT f 1) U8<|WO (0) U9 (λ_=>⟨by decide,by decide,U⟩) U2<|Wv 2 U<|Ws (bkT f 1) U8<|WN (λ_=>(ec _ d.m_ (cor a t 1).2 (cor a t 0).2 1 dc_ dc_ (e 1).2 (e 0).2)) U9<|C6 2 [6,7,8,9] c U<|WM [0,1,2,3,4,5,6,7,8,9,10,11,12,13,14,15,16,17,18,19] [(8,1),(17,1)] U kr_ λR B c=>WO (6) U9 (λ_=>⟨by decide,by decide,U⟩) U2<|Wv 2 U<|Ws (bkT f 1) U8<|WO (0) U9 (λ_=>⟨by decide,by decide,U⟩) U2<|Wv 2 U<|Ws (bkT f 1) U8<|WN (λ_=>(ec _ d.m_ (cor a t 2).1 (cor a t 0).1 1 dc_ dc_ (e 2).1 (e 0).1)) U9<|WO (6) U9 (λ_=>⟨by decide,by decide,U⟩) U2<|Wv 2 U<|Ws (bkT f 1) U8<|WO (0) U9 (λ_=>⟨by decide,by decide,U⟩) U2<|Wv 2 U<|Ws (bkT f 1) U8<|WN (λ_=>(ec _ d.m_ (cor a t 2).2 (cor a t 0).2 1 dc_ dc_ (e 2).2 (e 0).2)) U9<|C6 2 [6,7,8,9,10,11] c U<|WM [0,1,2,3,4,5,6,7,8,9,10,11,12,13,14,15] [(6,1),(13,1)] U kr_ λR B c=>WO (3) U9 (λ_=>⟨by decide,by decide,U⟩) U2<|Wt U6<|Ws (bkT f 1) U8<|WO (0) U9 (λ_=>⟨by decide,by decide,U⟩) U2<|Wt U6<|Ws (bkT f 1) U8<|WN (λ_=>(ec _ d.m_ (fz b t 1) (fz b t 0) k u om_ (m 1) (m 0))) U9<|WO (6) U9 (λ_=>⟨by decide,by decide,U⟩) U2<|Wt U6<|Ws (bkT f 1) U8<|WO (0) U9 (λ_=>⟨by decide,by decide,U⟩) U2<|Wt U6<|Ws (bkT f 1) U8<|WN (λ_=>(ec _ d.m_ (fz b t 2) (fz b t 0) k u om_ (m 2) (m 0))) U9<|C6 2 [6,8,9,10,11,12,13] c U<|U0 1 [6,8,9,10,11,12,13,14] U<|U1 5 U λR c=>WC (rH _ d.m_ _ _ _ _ 3 dc_ dc_ (g 1 0) (hy 1 0) (g 2 0) (hy 2 0)) U7 fl_<|WC (by have h:=iv J d.m_ 1 _ 13 dc_ dc_ (QB_one.le dc_) y z;rw[fT]at h;exact h) U7 fl_<|C6 5 [6,8,9,10,11,12,13,14,15] c U<|U1 6 U λR c=>WC (rH _ d.m_ (fz b t 1-fz b t 0) ((cor a t 1).2-(cor a t 0).2) (fz b t 2-fz b t 0) ((cor a t 2).2-(cor a t 0).2) (2*k+3) om_ om_ ((l 1 0).le om_) ((hy 1 0).le om_) ((l 2 0).le om_) ((hy 2 0).le om_)) U7 fl_<|WC (cX _ d.m_ _ _ (8*k+26) om_ om_ (A.le om_) H) U7 fl_<|Wv 6 U<|WC (rH _ d.m_ ((cor a t 1).1-(cor a t 0).1) (fz b t 1-fz b t 0) ((cor a t 2).1-(cor a t 0).1) (fz b t 2-fz b t 0) (2*k+3) om_ om_ ((g 1 0).le om_) ((l 1 0).le om_) ((g 2 0).le om_) ((l 2 0).le om_)) U7 fl_<|WC (cX _ d.m_ _ _ (8*k+26) om_ om_ (A.le om_) I) U7 fl_<|WL (gM (dY a b t)) U8<|WB (j:=0) U12<|Ww [6] c U<|WE (Xi ah U4 ?_);exact⟨U,U⟩
def JY (l:List Rat):Rat:=l.foldl (·+·) 0
theorem GI (l:List Rat)(q:Rat):JY (l++[q])=JY l+q:=by unfold JY;rw[List.foldl_append];rfl
theorem Oj (C:Mem)(g:Tabs C)(v:Value)(l:List Rat)(k:Nat)(h:0<k)(j:k<=10000)(b:Sl C 1 v (l.map dH))(n:∀q∈l,QB k q)(o:∀i,QB k (JY (l.take i))) :
  Gives cx.P 126 [v] C (ag (qtx (JY l))):=by
 obtain⟨p,c0,rfl,r,z,_⟩:=id b;have A:=mx_
 simp only[ar]at b r⊢;refine Wy func126 17 U3 λw0=>U0 1 [0] U<|U0 1 [0,3] U<|U0 3 [3,6,7,8] U<|G.loop (λfr B t u=>∃(i:Nat)(s:Str),(i<=l.length/\s=qtx (JY (l.take i)))/\fr=[(3,[],ag s),(6,[],.slice p l.length c0),(7,[],i_ l.length),(8,[],i_ i)]/\t=[]/\u=l.length-i) (hn_ [3,6,7,8] U) ⟨0,[48],⟨SM _,qtx_zero.symm⟩,U,U,U⟩ (λfr D E m w x=>?_);obtain⟨i,s,⟨F,f⟩,rfl,rfl,rfl⟩:=x;refine U0 1 [3,6,7,8,9] U<|G.cd (λc=>?_) λc=>?_
 .have d:i<l.length:=by simpa using c
  let⟨q,e⟩:∃q,l[i]?=some q:=⟨l[i],aj d⟩;subst f;refine Wu λR a=>WG b.m_ U10 om_ (cM e) fl_ λH y=>Ws y U8<|C6 1 [3,5,6,7,8] a U<|U1 2 U λR a=>WD (fS _ g.m_ (JY (l.take i)) q k h j (o i) (n q (aK e))) U7<|C6 1 [3,6,7,8] a U<|Wu λR a=>Wz _ U U6<|C6 1 [3,6,7,8] a U<|WF (m':=l.length-(i+1)) om_ w (hn_ [3,6,7,8] U) ⟨i+1,_,⟨by omega,by rw[S9,e,T7,GI]⟩,U,U,U⟩
 have d:i=l.length:=by
  have:¬ i<l.length:=by simpa using c
  omega
 exact U0 2 [2] U<|Wx U2<|⟨by rw[f,d,SU],U⟩
def E8 (q:Rat):Value:=if aS (qtx q) then .tuple #[ag (qtx q),.int .i64 0] else .tuple #[ag [],.int .i64 4]
theorem IT (C:Mem)(b:Tabs C)(q:Rat)(c:(qtx q).length<=999998):Gives cx.P 62 [ag (qtx q)] C (E8 q):=by
 refine Wy func62 8 U3 λw0=>U0 2 [0] U<|U1 1 U λR d=>WD (dD _ b.m_ _ c) U7<|C6 1 [0,6] d U<|G.cd (λa=>?_) λa=>?_
 .have e:aS (qtx q)=false:=by
   rcases eP (aS (qtx q)) with⟨h1,h2⟩|⟨h1,h2⟩
   .rw[h1]at a;exact absurd a dc_
   exact h2
  refine U0 2 [2,3] U<|WE (zD U3 ?_);exact⟨by unfold E8;rw[e];rfl,U⟩
 have f:aS (qtx q)=true:=by
  rcases eP (aS (qtx q)) with⟨h1,h2⟩|⟨h1,h2⟩
  .exact h2
  rw[h1]at a;exact absurd a dc_
 refine U0 3 [2,3] U<|WE (zD U3 ?_);exact⟨by unfold E8;rw[f];rfl,U⟩
def onQ (pts:List Pt)(fs:List Rat)(t:Tri)(p:Pt):Rat:=JY [fz fs t 0,(dY pts fs t).1*(p.1-(cor pts t 0).1),(dY pts fs t).2*(p.2-(cor pts t 0).2)]
theorem Nd (n:k<=23)(a:MeshOk pts tris)(c:fs.length=pts.length)(d:∀q∈fs,QB k q)(b:t∈tris)(e:QP 23 p):QB 600 (onQ pts fs t p)/\(∀i,QB 600 (JY ([fz fs t 0,(dY pts fs t).1*(p.1-(cor pts t 0).1),(dY pts fs t).2*(p.2-(cor pts t 0).2)].take i)))/\QB 600 (fz fs t 0)/\QB 600 ((dY pts fs t).1*(p.1-(cor pts t 0).1))/\QB 600 ((dY pts fs t).2*(p.2-(cor pts t 0).2)):=by
 have hs:=xo a c d b;have f:=oL a b 0;have g:=Ps a c d b 0;have h1:QB 248 ((dY pts fs t).1*(p.1-(cor pts t 0).1)):=(jO hs.1 (fx e.1 f.1)).le om_;have h2:QB 248 ((dY pts fs t).2*(p.2-(cor pts t 0).2)):=(jO hs.2 (fx e.2 f.2)).le om_;have h:QB 25 (0+fz fs t 0):=(sj QB_zero g).le om_;have j:QB 274 (0+fz fs t 0+(dY pts fs t).1*(p.1-(cor pts t 0).1)):=(sj h h1).le om_;have l:QB 523 (0+fz fs t 0+(dY pts fs t).1*(p.1-(cor pts t 0).1)+(dY pts fs t).2*(p.2-(cor pts t 0).2)):=(sj j h2).le om_;refine⟨l.le dc_,λi=>?_,g.le om_,h1.le dc_,h2.le dc_⟩;rcases(by omega:i=0∨i=1∨i=2∨3<=i) with rfl|rfl|rfl|m
 .exact QB_zero.le dc_
 .exact h.le dc_
 .exact j.le dc_
 rw[Td (by simpa using m)];exact l.le dc_
theorem N0 (e:QB k a)(f:QB k b)(g:QB k c):∀q∈[a,b,c],QB k q:=by
 intro q d;simp only[SY,TQ,Vf]at d;rcases d with rfl|rfl|rfl <;> assumption
theorem Sq (C:Mem)(d:Tabs C)(u v:Value)(a:List Pt)(g:List Tri)(c:List Rat)(k:Nat)(E:0<k)(F:k<=23)(w:MeshIn C u a g)(e:MeshOk a g)(h:Sl C 1 v (c.map dH))(l:c.length=a.length)(r:∀q∈c,QB k q)(i:Nat)(t:Tri)(m:g[i]?=some t)(p:Pt)(f:QP 23 p) :
  Gives cx.P 63 [u,v,i_ i,ptV p] C (ag (qtx (onQ a c t p))):=by
 have n:=aK m;have x:=e.ins t n;have y:=w;have z:=h;obtain⟨Y,Z,rfl,h1,h2⟩:=id w.ex;obtain⟨A1,c1,rfl,H,aa,_⟩:=id h1;obtain⟨A2,c2,rfl,I,ab,_⟩:=id h2;obtain⟨A4,c4,rfl,ac,ad,_⟩:=id h;have ae:=mx_
 simp only[ar]at h1 h2 h z y H I⊢;have af:=(R0.1 m).1;have o:=oL e n 0;let⟨ah,J,K,L,M⟩:=Nd F e l r n f;have hs:=xo e l r n;have N:QB 25 (p.1-(cor a t 0).1):=(fx f.1 o.1).le dc_;have O:QB 25 (p.2-(cor a t 0).2):=(fx f.2 o.2).le dc_;refine Wy func63 49 U3 λw0=>Wu λR b=>WH U6 λb4=>WH U6 λb7=>C6 1 [1,2,4,7] b U<|G.freeze 1 U λ_ _ s=>Wu λR b=>Ws (PtrTo.block (Mem.get s mup) _) U8<|Wv 2 U<|WC (yJ _ d.m_ _ _ a g c k E om_ y.m_ e z.m_ l r i t m) U7 fl_<|WI U5 λb9=>WB (j:=0) U12<|Ww [1,2,4,7,9] b U<|U1 1 U λR b=>Ws (PtrTo.block (Mem.get s mup) _) U8<|Wt U6<|WG h2.m_ U10 om_ (cM m) fl_ λai Q=>X2 U9 (λ_=>Q) (λ_=>⟨by omega,om_⟩) fl_ U (λaj S=>?_);have T:=S trivial;exact Ws T U8<|C6 1 [1,4,7,9,10] b U<|U1 1 U λR b=>Ws (PtrTo.block (Mem.get s mup) _) U8<|Wt U6<|WG h1.m_ U10 om_ (cM (qO x.1)) fl_ λak V=>Ws V U8<|WI U5 λal=>WB (j:=0) U12<|Ww [1,7,9,10,11] b U<|G.freeze 0 U λ_ _ A=>G.freeze 0 U λ_ _ B=>G.freeze 0 U λ_ _ D=>WM [0,1,2,3,4,5,6,7,8,9,10,11,12,13,14,15,16,17,18,19,20,21,22] [(10,1),(11,1),(18,1),(19,1),(21,1)] U kr_ λR hB b=>Wv 2 U<|WG h.m_ U10 om_ (cM (IR (l ▸ x.1))) fl_ λam W=>Ws W U8<|Wt U6<|Ws (bkT B 1) U8<|Wt U6<|Ws (bkT D 1) U8<|Wt U6<|Ws (bkT A 1) U8<|WN (λ_=>(ec _ d.m_ p.1 (cor a t 0).1 23 dc_ dc_ f.1 (o.1.le dc_))) U9<|WN (λ_=>(cX _ d.m_ _ _ 300 dc_ dc_ (hs.1.le om_) (N.le dc_))) U9<|Wt U6<|Ws (bkT B 1) U8<|Wt U6<|Ws (bkT D 1) U8<|Wt U6<|Ws (bkT A 1) U8<|WN (λ_=>(ec _ d.m_ p.2 (cor a t 0).2 23 dc_ dc_ f.2 (o.2.le dc_))) U9<|WN (λ_=>(cX _ d.m_ _ _ 300 dc_ dc_ (hs.2.le om_) (O.le dc_))) U9<|WP ([fz c t 0,(dY a c t).1*(p.1-(cor a t 0).1),(dY a c t).2*(p.2-(cor a t 0).2)].map dH) U12 λan _ _ X=>WN (λ_=>(Oj _ d.m_ _ _ 600 dc_ dc_ X.m_ (N0 K L M) J)) U9<|C6 1 [8] b U<|Wx U2<|⟨U,U⟩
def F7 (pts:List Pt)(tris:List Tri)(fs:List Rat)(p:Pt):Value:=match lu pts tris p with
|[]=>.tuple #[ag [],.int .i64 28]
|i::_=>E8 (onQ pts fs (tris.getD i (0,0,0)) p)
theorem zw (h:∀q∈fs,aS (qtx q)=true):(fs.map qtx).all aS=true:=by
 rw[S3];intro s hs;obtain⟨q,a,rfl⟩:=SL.1 hs;exact h q a
theorem gK (a:List Rat):a.map dH=(a.map qtx).map dE:=by rw[TH];rfl
theorem xY (b:k<=100)(h:∀q∈fs,QB k q):∀s∈fs.map qtx,s.length<=999998:=by
 intro s hs;obtain⟨q,a,rfl⟩:=SL.1 hs;have:=aV ((h q a).le (UZ k)) om_;omega
theorem zi (C:Mem)(i:Tabs C)(c v d:Value)(b:List Pt)(f:List Tri)(a:List Rat)(j:MeshIn C c b f)(l:Good b f)(m:Sl C 1 v [[d]])(g:Sl C 1 d (a.map dH))(n:a.length=b.length)(r:k<=23)(o:∀q∈a,QB k q)(p:∀q∈a,aS (qtx q)=true) :
  Gives cx.P 61 [c,v] C (i_ 0):=by
 rw[gK]at g;have h:=zj C i c v d b f (a.map qtx) j l m g (xY om_ o);have e:oK b.length (a.map qtx)=0:=by unfold oK;rw[aL (by simpa using n),zw p];rfl
 rwa [e]at h
theorem Rj (h:i∈lu pts tris p):∃t,tris[i]?=some t/\tris.getD i (0,0,0)=t/\AR pts p t=true:=by
 unfold lu at h;rw[Uf,S7]at h;let⟨h1,h2⟩:=h;let⟨t,ht⟩:∃t,tris[i]?=some t:=⟨tris[i],aj h1⟩;have hd:tris.getD i (0,0,0)=t:=by rw[al,ht,T6]
 rw[hd]at h2;exact⟨t,ht,hd,h2⟩
theorem Ra (h:QB 600 q):(qtx q).length<=999998:=SV (aV h dc_) dc_
theorem Ca (C:Mem)(e:Tabs C)(x y:Value)(a:List Pt)(c:List Tri)(b:List Rat)(k:Nat)(H:0<k)(j:k<=23)(z:MeshIn C x a c)(l:Good a c)(f:Sl C 1 y (b.map dH))(m:b.length=a.length)(n:∀q∈b,QB k q)(I:∀q∈b,aS (qtx q)=true)(p:Pt)(o:QP 23 p)(J:PtR p) :
  Gives cx.P 15 [x,y,ptV p] C (F7 a c b p):=by
 have A:=l.ok;have s:=z;obtain⟨X,Y,rfl,h1,h2⟩:=id z.ex;obtain⟨K,L,rfl,Z,aa,_⟩:=id f;simp only[ar]at f⊢;have ab:=mx_
 refine Wy func15 40 U3 λw0=>Wu λR d=>WH U6 λb3=>WH U6 λb5=>C6 2 [1,3,5] d U<|G.freeze 1 U λ_ _ u=>G.freeze 0 U λ_ _ B=>Wu λR d=>Ws (PtrTo.block (Mem.get u mup) _) U8<|Wt U6<|WP [[.slice K b.length L]] U12 λac _ _ M=>WD (zi _ e.m_ _ _ _ a c b s.m_ l M.m_ f.m_ m j n I) U7<|C6 1 [1,3,5,8] d U<|U0 2 [1,3,5,8,16] U<|G.cd (λD=>?_) λD=>?_
 .exact absurd D dc_
 refine Wu λR d=>Ws (PtrTo.block (Mem.get u mup) _) U8<|Ws (PtrTo.block (Mem.get B mup) _) U8<|WY (mG _ e.m_ _ a c p s.m_ l o J) U7 (λad _ _ N=>?_);obtain⟨wv,rfl,v⟩:=N;let⟨Aw,cw,E,_⟩:=id v;rw[ar]at E;subst E;refine C6 5 [1,3,5,9,10] d U<|U0 2 [1,3,5,9,10,25] U<|G.cd (λF=>?_) λF=>?_
 .exact absurd F dc_
 refine U0 3 [1,3,5,9,29] U<|G.cd (λg=>?_) λg=>?_
 .have O:lu a c p=[]:=by
   have h:(((lu a c p).length:Nat):Int)=0:=by simpa using g
   exact Ty om_
  refine U0 2 [6,7] U<|WE (zD U3 ?_);exact⟨by unfold F7;rw[O];rfl,U⟩
 let⟨i,r,w⟩:∃i r,lu a c p=i::r:=by
  cases Q:lu a c p with
 |nil=>rw[Q]at g;exact absurd g dc_
 |cons i r=>exact⟨i,r,rfl⟩
 let⟨t,ht,S,_⟩:=Rj (pts:=a) (tris:=c) (p:=p) (i:=i) (by rw[w];simp);have T:=Nd j A m n (aK ht) o;have V:F7 a c b p=E8 (onQ a b t p):=by unfold F7;rw[w];show E8 (onQ a b (c.getD i (0,0,0)) p)=_;rw[S]
 rw[w]at v⊢;refine WM [0,1,2,3,4,5,6,7,8,9,10,11] [(6,1),(7,1)] U kr_ λR hB d=>Ws (PtrTo.block (Mem.get u mup) _) U8<|Wv 2 U<|WG v.m_ U10 om_ (rfl:(List.map aX (i::r))[0]?=some (aX i)) fl_ λae W=>Ws W U8<|Ws (PtrTo.block (Mem.get B mup) _) U8<|W5 (λ_=>(Sq _ e.m_ _ _ a c b k H j s.m_ A f.m_ m n i t ht p o)) U9<|W5 (λ_=>(IT _ e.m_ _ (Ra T.1))) U9 ?_;rw[show E8 (onQ a b t p)=.tuple #[if aS (qtx (onQ a b t p)) then ag (qtx (onQ a b t p)) else ag [],i_ (if aS (qtx (onQ a b t p)) then 0 else 4)] by unfold E8;split <;> rfl];refine C6 4 [6,7] d U<|WE (zD U3 ?_);refine⟨?_,U⟩;rw[V];unfold E8;split <;> rfl
theorem Q7 (h:QP 22 p):PtR p:=⟨bA h.1,bA h.2⟩
theorem Ks (C:Mem)(f:Tabs C)(l m:Value)(c:List Pt)(d:List Tri)(b:List Rat)(k:Nat)(z:0<k)(A:k<=23)(n:MeshIn C l c d)(o:Good c d)(e:Sl C 1 m (b.map dH))(p:b.length=c.length)(r:∀q∈b,QB k q)(B:∀q∈b,aS (qtx q)=true)(i:Nat)(t:Tri)(s:d[i]?=some t)(u:QP 22 (dY c b t)) :
  Gives cx.P 293 [l,m,i_ i] C (.tuple #[ptV (dY c b t),i_ 0]):=by
 have D:=o.ok;have g:=n;have I:=(R0.1 s).1;obtain⟨J,K,rfl,h1,h2⟩:=id n.ex;obtain⟨A2,c2,rfl,L,M,_⟩:=id h2;obtain⟨E,F,rfl,N,O,_⟩:=id e;simp only[ar]at e h2 g⊢;have Q:=mx_
 refine Wy func293 37 U3 λw0=>Wu λR a=>WH U6 λS=>WI U5 λT=>C6 1 [1,2,3,6] a U<|G.freeze 1 U λ_ _ h=>Wu λR a=>Ws (PtrTo.block (Mem.get h mup) _) U8<|Wt U6<|WP [[.slice E b.length F]] U12 λV _ _ H=>WD (zi _ f.m_ _ _ _ c d b g.m_ o H.m_ e.m_ p A r B) U7<|C6 1 [1,2,3,6,8] a U<|U0 2 [1,2,3,6,8,15] U<|G.cd (λv=>?_) λv=>?_
 .exact absurd v dc_
 refine U1 5 U λR a=>WU U6 (λ_=>PtrTo.block (Mem.get h mup) _) U3<|Wv 2 U<|WX U8<|Ww [1,2,3,6,26] a U<|G.cd (λw=>?_) λw=>?_
 .exfalso;simp only[UG,SS]at w;omega
 refine Wu λR a=>Ws (PtrTo.block (Mem.get h mup) _) U8<|Wv 2 U<|WC (yJ _ f.m_ _ _ c d b k z om_ g.m_ D e.m_ p r i t s) U7 fl_<|WI U5 λW=>WB (j:=0) U12<|Ww [6,9] a U<|G.freeze 0 U λ_ _ x=>Wu λR a=>Ws (PtrTo.block (Mem.get x mup) _) U8<|WC (iV _ f.m_ _ (u.le dc_) (Q7 u)) U7 fl_<|C6 1 [6,9,34] a U<|G.cd (λy=>?_) λy=>?_
 .exact absurd y dc_
 refine Wu λR a=>Ws (PtrTo.block (Mem.get x mup) _) U8<|WB (j:=0) U12<|C6 1 [6,7] a U<|WE (XG ah U5 ?_);exact⟨U,U⟩
def ic {α:Type}(p:α->Bool):List α->Nat->Int
|[],_=>-1
|x::l,k=>if p x then (k:Nat) else ic p l (k+1)
theorem mN {a:Type}{p:a->Bool}:∀{l:List a}{i k:Nat}{x:a},l[i]?=some x->p x=true->(∀y∈l.take i,p y=false)->ic p l k=((k+i:Nat):Int)
|y::l,0,k,x,h,hp,_=>by
  simp only[List.getElem?_cons_zero,Tv]at h;subst h;simp[ic,hp]
|y::l,i+1,k,x,h,hp,b=>by
  simp only[Uw]at h;have hy:p y=false:=b y am;have:=mN (k:=k+1) h hp (λz c=>b z (by simp[c]));simp only[ic,hy,TG,Ui,this];omega
theorem jD {a:Type}{p:a->Bool}:∀{l:List a}{k:Nat},(∀y∈l,p y=false)->ic p l k=-1
|[],_,_=>rfl
|y::l,k,h=>by
  simp only[ic,h y SK,TG,Ui];exact jD λz b=>h z (SX _ b)
theorem ib (p:α->Bool)(l:List α):(ic p l 0=-1/\∀y∈l,p y=false)∨∃(i:Nat)(x:α),ic p l 0=(i:Nat)/\l[i]?=some x/\p x=true/\∀y∈l.take i,p y=false:=by
 by_cases h:∀y∈l,p y=false
 .exact .inl ⟨jD h,h⟩
 right;have d:∀(l:List α),(¬ ∀y∈l,p y=false)->∃(i:Nat)(x:α),l[i]?=some x/\p x=true/\∀y∈l.take i,p y=false:=by
  intro l;induction l with
 |nil=>intro h;exact absurd (λy hy=>(by cases hy)) h
 |cons a l e =>
   intro h;by_cases b:p a=true
   .exact⟨0,a,U,b,by simp⟩
   have c:p a=false:=by simpa using b
   let⟨i,x,h1,h2,h3⟩:=e (λh2=>h (λy hy=>by
    rcases SY.1 hy with rfl|hy
    .exact c
    exact h2 y hy))
   refine⟨i+1,x,by simpa using h1,h2,λy hy=>?_⟩;rw[List.take_succ_cons]at hy;rcases SY.1 hy with rfl|hy
   .exact c
   exact h3 y hy
 let⟨i,x,h1,h2,h3⟩:=d l h;exact⟨i,x,by rw[mN h1 h2 h3,TX],h1,h2,h3⟩
structure Lay where
 unit:Str
 min:Rat
 max:Option Rat
def E7:Option Rat->Str
|none=>[]
|some q=>qtx q
def pq (x:Lay):List Value:=[ag x.unit,ag (qtx x.min),ag (E7 x.max)]
def isU (u:Str)(x:Lay):Bool:=decide (x.unit=u)
def Qj (x:Lay):Prop:=QB 22 x.min/\(∀q,x.max=some q->QB 22 q)/\x.unit.length<=999998
theorem rb (m:Option Rat):(!((⟨(E7 m).toArray⟩:ByteArray).data.toList == (⟨#[]⟩:ByteArray).data.toList))=m.isSome:=by
 cases m with
|none=>rfl
|some q =>
  have:=tw q;show(!(qtx q == []))=true;cases h:qtx q with
 |nil=>rw[h]at this;simp at this
 |cons a l=>rfl
theorem mL (C:Mem)(v:Value)(l:List Lay)(g:Nat)(d:List Value)(a:Lay->Bool)(e:Sl C 3 v (l.map pq))(_A:Jog.Enters cx.P g=true)
  (n:∀x∈l,∀D:Mem,C.le D->Gives cx.P g (.agg ⟨pq x⟩::d) D (.bool (a x))) :
  Gives cx.P 317 [v,.func (.func g) #[] ⟨d⟩] C (i_ (ic a l 0)):=by
 obtain⟨o,c0,rfl,p,B,_⟩:=id e;have E:=mx_
 simp only[ar]at e p⊢;refine Wy func317 19 U3 λw0=>U0 1 [0,1] U<|U0 3 [0,1,7,8] U<|G.loop (λfr F q r=>∃(i:Nat),(i<=l.length/\∀y∈l.take i,a y=false)/\fr=[(0,[],.slice o l.length c0),(1,[],.func (.func g) #[] ⟨d⟩),(7,[],i_ l.length),(8,[],i_ i)]/\q=[]/\r=l.length-i) (hn_ [0,1,7,8] U) ⟨0,⟨SM _,by simp⟩,U,U,U⟩ (λfr H I m s t=>?_);obtain⟨i,⟨J,b⟩,rfl,rfl,rfl⟩:=t;refine U0 1 [0,1,7,8,9] U<|G.cd (λf=>?_) λf=>?_
 .have h:i<l.length:=by simpa using f
  let⟨x,c⟩:∃x,l[i]?=some x:=⟨l[i],aj h⟩;refine U0 2 [0,1,5,7,8] U<|U1 3 U λR j=>WG e.m_ U10 om_ (cM c) fl_ λK u=>Ws u U8<|WD (n x (aK c) _ mup) U7<|Ww [0,1,5,7,8,16] j U<|G.cd (λk=>?_) λk=>?_
  .have w:a x=true:=k;exact U0 2 [4] U<|Wx U2<|⟨by rw[mN c w b,TX],U⟩
  have z:a x=false:=k;refine Wu λR j=>Wz _ U U6<|C6 1 [0,1,7,8] j U<|WF (m':=l.length-(i+1)) om_ s (hn_ [0,1,7,8] U) ⟨i+1,⟨by omega,λy hy=>by
   rw[S9,c]at hy;rcases SZ.1 hy with hy|hy
   .exact b y hy
   simp only[T7,S6]at hy;subst hy;exact z⟩,U,U,U⟩
 have h:i=l.length:=by
  have:¬ i<l.length:=by simpa using f
  omega
 exact U0 1 [4] U<|Wx U2<|⟨by rw[h,SU]at b;rw[jD b],U⟩
theorem Kk (a b:Str):((⟨a.toArray⟩:ByteArray).data.toList == (⟨b.toArray⟩:ByteArray).data.toList)=decide (a=b):=by
 show(a == b)=_;by_cases h:a=b <;> simp[h]
theorem Jn (C:Mem)(b:Nat)(u:Str)(x:Lay)(c:C b=some (.cells ⟨[ag u]⟩ 9 (0,0))):Gives cx.P 318 [.agg ⟨pq x⟩,p_ b] C (.bool (isU u x)):=by
 exact Wy func318 8 U3 λw0=>Wu λR a=>WH U6 λd=>C6 1 [1,2] a U<|U1 1 U λR a=>WA ah U9<|Ws (PtrTo.block (Mem.get c mup) _) U8<|C6 2 [3] a U<|Wx U2<|⟨by unfold isU;rw[<- Kk],U⟩
theorem BC (C:Mem)(b:Nat)(u:Str)(x:Lay)(c:C b=some (.cells ⟨[ag u]⟩ 9 (0,0))):Gives cx.P 320 [.agg ⟨pq x⟩,p_ b] C (.bool (isU u x)):=by
 exact Wy func320 8 U3 λw0=>Wu λR a=>WH U6 λd=>C6 1 [1,2] a U<|U1 1 U λR a=>WA ah U9<|Ws (PtrTo.block (Mem.get c mup) _) U8<|C6 2 [3] a U<|Wx U2<|⟨by unfold isU;rw[<- Kk],U⟩
theorem D6 (C:Mem)(v:Value)(l:List Lay)(u:Str)(c:Sl C 3 v (l.map pq)):Gives cx.P 286 [v,ag u] C (i_ (ic (isU u) l 0)):=by
 exact Wy func286 8 U3 λw0=>Wu λR a=>WH U6 λb=>C6 1 [0,3] a U<|G.freeze 0 U λ_ _ d=>U1 2 U λR a=>WD (mL _ _ l 318 [p_ b] (isU u) c.m_ U (λx _ D e=>Jn D b u x (e _ _ (Mem.get d mup)))) U7<|C6 1 [4] a U<|Wx U2<|⟨U,U⟩
theorem kD (C:Mem)(v:Value)(l:List Lay)(u:Str)(c:Sl C 3 v (l.map pq)):Gives cx.P 288 [v,ag u] C (i_ (ic (isU u) l 0)):=by
 exact Wy func288 8 U3 λw0=>Wu λR a=>WH U6 λb=>C6 1 [0,3] a U<|G.freeze 0 U λ_ _ d=>U1 2 U λR a=>WD (mL _ _ l 320 [p_ b] (isU u) c.m_ U (λx _ D e=>BC D b u x (e _ _ (Mem.get d mup)))) U7<|C6 1 [4] a U<|Wx U2<|⟨U,U⟩
theorem uT (h:QB 22 q):(qtx q).length<=999998:=SV (aV h dc_) dc_
theorem OI (h:QB 22 q):(qtx q).length<=1000000:=SV (aV h dc_) dc_
theorem Lz (C:Mem)(d:Tabs C)(x:Lay)(e:Qj x):Gives cx.P 284 [.agg ⟨pq x⟩] C (i_ 0):=by
 let⟨u,f,c⟩:=x;let⟨h1,h2,h3⟩:=e;simp only at h1 h2 h3;clear h3;have g:(E7 c).length<=999998:=by
  cases c with
 |none=>decide
 |some q=>exact uT (h2 q rfl)
 refine Wy func284 17 U3 λw0=>Wu λR a=>WH U6 λh=>C6 1 [1] a U<|U1 1 U λR a=>WA ah U9<|WD (dD _ d.m_ (qtx f) (uT h1)) U7<|C6 2 [1,3] a U<|G.cd (λh3=>?_) λh3=>?_
 .exfalso;rw[zh h1]at h3;exact absurd h3 dc_
 refine U1 1 U λR a=>WA ah U9<|Wv 3 U<|WA ah U9<|W5 (λ_=>(dD _ d.m_ (E7 c) g)) U9<|Wt U6<|WR U8<|C6 1 [3] a U<|G.cd (λb=>?_) λb=>?_
 .exfalso;simp only[]at b;cases c with
 |none=>exact absurd b dc_
 |some q =>
   rw[show E7 (some q)=qtx q from rfl,zh (h2 q rfl)]at b;simp at b
 exact U0 1 [2] U<|Wx U2<|⟨U,U⟩
def Ii (x:Lay):Bool:=match x.max with
|none=>false
|some m=>decide (m<x.min)
def Nk (pre:List Lay)(x:Lay):Int:=if dm x.unit=false then 8 else if 0<=ic (isU x.unit) pre 0 then 9 else if x.min<0 then 3 else if Ii x then 6 else 0
def FL (l:List Lay):Nat->Int
|0=>0
|n+1=>if FL l n≠0 then FL l n else Nk (l.take n) (l.getD n ⟨[],0,none⟩)
def sN (l:List Lay):Int:=if l=[] then 13 else if 60<l.length then 4 else FL l l.length
theorem yZ {l:List Lay}{n:Nat}(h:FL l n≠0):∀m,n<=m->FL l m=FL l n
|0,hm=>by rw[show n=0 by omega]
|m+1,hm=>by
  rcases Th m n with h1|h1
  .rw[show n=m+1 by omega]
  have a:=yZ h m h1;simp only[FL,a];rw[aL h]
theorem Nj {l:List Lay}{x:Lay}(h:l[i]?=some x):l.getD i ⟨[],0,none⟩=x:=by rw[al,h,T6]
theorem D5 {l:List Lay}{x:Lay}(a:FL l i=0)(b:l[i]?=some x):FL l (i+1)=Nk (l.take i) x:=by
 simp only[FL,a];rw[aF dc_,Nj b]
theorem wa {l:List Lay}{x:Lay}(d:FL l i=0)(a:l[i]?=some x)(b:Nk (l.take i) x=z)(f:z≠0)(g:¬ 60<l.length):sN l=z:=by
 have c:=(R0.1 a).1;have h1:=D5 d a;unfold sN;rw[aF (λe=>by rw[e]at c;simp at c),aF g,yZ (n:=i+1) (by rw[h1,b];exact f) l.length om_,h1,b]
theorem PM (C:Mem)(c:Tabs C)(a:Option Rat)(b:Rat)(d:QB 22 b)(e:∀q,a=some q->QB 22 q)(h:(!((⟨(E7 a).toArray⟩:ByteArray).data.toList == (⟨#[]⟩:ByteArray).data.toList))=true) :
  Gives cx.P 218 [ag (E7 a),ag (qtx b)] C (i_ (oo (a.getD 0) b)):=by
 rw[rb]at h;cases a with
|none=>cases h
|some q=>exact fR C c q b 22 dc_ dc_ (e q rfl) d
theorem DE (x:Lay):(x.max.isSome && decide (oo (x.max.getD 0) x.min<0))=Ii x:=by
 unfold Ii;cases x.max with
|none=>rfl
|some q =>
  show(true && decide (oo q x.min<0))=decide (q<x.min);unfold oo;by_cases h:q<x.min
  .simp[h]
  rw[aF h,Te h];split <;> rfl
theorem vk (q:Rat):decide (eA q.num<0)=decide (q<0):=by
 rw[Tx,<- uU];rcases eE q.num with h|h|h <;> omega
theorem rV (C:Mem)(w:Tabs C)(v:Value)(l:List Lay)(g:Sl C 3 v (l.map pq))(E:∀x∈l,Qj x)(Q:l.length<=1000000):Gives cx.P 238 [v] C (i_ (sN l)):=by
 obtain⟨y,c0,rfl,F,S,_⟩:=id g;have T:=mx_
 simp only[ar]at g F⊢;refine Wy func238 57 U3 λw0=>U0 1 [0] U<|U0 4 [0,6] U<|G.cd (λk=>?_) λk=>?_
 .have h0:l=[]:=by
   have h:((l.length:Nat):Int)=0:=by simpa using k
   exact Ty om_
  exact U0 1 [2] U<|Wx U2<|⟨by rw[h0];rfl,U⟩
 have h0:l≠[]:=by
  intro e;rw[e]at k;exact absurd k dc_
 refine U0 4 [0,10] U<|G.cd (λn=>?_) λn=>?_
 .have h60:60<l.length:=by
   simp only[SS]at n;omega
  exact U0 1 [2] U<|Wx U2<|⟨by unfold sN;rw[aF h0,aL h60],U⟩
 have h60:¬ 60<l.length:=by
  simp only[Tk]at n;omega
 refine U0 3 [0,14,15,16] U<|G.loop (λfr V H I=>∃(i:Nat),(i<=l.length/\FL l i=0)/\fr=[(0,[],.slice y l.length c0),(14,[],.slice y l.length c0),(15,[],i_ l.length),(16,[],i_ i)]/\H=[]/\I=l.length-i) (hn_ [0,14,15,16] U) ⟨0,⟨SM _,U⟩,U,U,U⟩ (λfr W X m J K=>?_);obtain⟨i,⟨Y,b⟩,rfl,rfl,rfl⟩:=K;refine U0 1 [0,14,15,16,17] U<|G.cd (λo=>?_) λo=>?_
 .have p:i<l.length:=by simpa using o
  let⟨x,c⟩:∃x,l[i]?=some x:=⟨l[i],aj p⟩;let⟨q,A,L⟩:=E x (aK c);have B:=Sl.sub g (l:=0) (h:=i) (m:=c0) (SM _) ap om_ (SH _);rw[TU,<- UR]at B;refine U1 1 U λR a=>WG g.m_ U10 om_ (cM c) fl_ λZ M=>Ws M U8<|WI U5 λb4=>Wt U6<|WB (j:=0) U12<|Ww [0,3,4,14,15,16] a U<|Wu λR a=>WA ah U9<|WD (Lz _ w.m_ x ⟨q,A,L⟩) U7<|C6 1 [0,3,4,5,14,15,16] a U<|U0 2 [0,3,4,5,14,15,16,24] U<|G.cd (λD=>?_) λD=>?_
  .exact absurd D dc_
  refine U1 1 U λR a=>WA ah U9<|WC (iI _ x.unit om_) U7 fl_<|C6 2 [0,3,4,14,15,16,26] a U<|G.cd (λr=>?_) λr=>?_
  .have d:dm x.unit=false:=by simpa using r
   exact U0 1 [2] U<|Wx U2<|⟨by rw[wa (z:=8) b c (by unfold Nk;rw[aL d]) dc_ h60],U⟩
  have d:¬ dm x.unit=false:=by
   have h:dm x.unit=true:=by simpa using r
   rw[h];decide
  refine WM [0,1,2,3,4,5,6,7] [(5,1)] U kr_ λR hB a=>Wv 2 U<|Xd 0 i c0 U12 (λ_=>⟨.inl ⟨U,U⟩,.inr ⟨_,U⟩,.inl ⟨U,U⟩,by omega,by omega,by omega⟩) U2<|Wt U6<|WA ah U9<|W5 (λ_=>(D6 _ _ (l.take i) x.unit B.m_)) U9<|C6 2 [0,4,14,15,16,31] a U<|G.cd (λs=>?_) λs=>?_
  .have hd:0<=ic (isU x.unit) (l.take i) 0:=by simpa using s
   exact U0 1 [2] U<|Wx U2<|⟨by rw[wa (z:=9) b c (by unfold Nk;rw[aF d,aL hd]) dc_ h60],U⟩
  have hd:¬ 0<=ic (isU x.unit) (l.take i) 0:=by simpa using s
  refine U1 1 U λR a=>WA ah U9<|WD (fE _ x.min (OI q)) U7<|C6 2 [0,4,14,15,16,39] a U<|G.cd (λf=>?_) λf=>?_
  .have hs:x.min<0:=by
    rw[vk]at f;exact aT f
   exact U0 1 [2] U<|Wx U2<|⟨by rw[wa (z:=3) b c (by unfold Nk;rw[aF d,aF hd,aL hs]) dc_ h60],U⟩
  have hs:¬ x.min<0:=by
   rw[vk]at f;exact SJ f
  refine U1 1 U λR a=>WA ah U9<|Wv 3 U<|WA ah U9<|Wt U6<|WA ah U9<|WN (λN=>(PM _ w.m_ x.max x.min q A (by exact N.1))) U9<|Wt U6<|WR U8<|C6 1 [0,14,15,16,44] a U<|G.cd (λt=>?_) λt=>?_
  .have u:Ii x=true:=by
    rw[<- DE,<- rb];exact t
   exact U0 1 [2] U<|Wx U2<|⟨by rw[wa (z:=6) b c (by unfold Nk;rw[aF d,aF hd,aF hs,aL u]) dc_ h60],U⟩
  have u:Ii x=false:=by
   rw[<- DE,<- rb];exact t
  have O:FL l (i+1)=0:=by rw[D5 b c];unfold Nk;rw[aF d,aF hd,aF hs,u];rfl
  refine Wu λR a=>Wz _ U U6<|C6 1 [0,14,15,16] a U<|G.dropAll<|WF (m':=l.length-(i+1)) om_ J (hn_ [0,14,15,16] U) ⟨i+1,⟨by omega,O⟩,U,U,U⟩
 have p:i=l.length:=by
  have:¬ i<l.length:=by simpa using o
  omega
 refine U0 1 [2] U<|Wx U2<|⟨?_,U⟩;rw[p]at b;unfold sN;rw[aF h0,aF h60,b]
theorem Br (C:Mem)(f:Tabs C)(v:Value)(l:List Lay)(u:Str)(c:Sl C 3 v (l.map pq))(g:∀x∈l,Qj x)(a:sN l=0)(i:Nat)(j:ic (isU u) l 0=(i:Nat)):Gives cx.P 247 [v,ag u] C (.tuple #[i_ (i:Nat),.bool true,i_ 0]):=by
 have k:l.length<=1000000:=by
  unfold sN at a;split at a
  .cases a
  split at a
  .cases a
  omega
 refine Wy func247 20 U3 λw0=>U0 3 [0,1] U<|U1 1 U λR b=>WC (by have h:=rV _ f.m_ v l c.m_ g k;rw[a]at h;exact h) U7 fl_<|C6 1 [0,1,7] b U<|U0 2 [0,1,7,12] U<|G.cd (λd=>?_) λd=>?_
 .exact absurd d dc_
 refine U1 2 U λR b=>WC (by have h:=D6 _ v l u c.m_;rw[j]at h;exact h) U7 fl_<|C6 1 [8] b U<|U0 2 [8,18] U<|G.cd (λe=>?_) λe=>?_
 .refine U0 4 [4,5,6] U<|WE (G.dropAll (Xj U4 ?_));exact⟨U,U⟩
 exfalso;simp only[Tk]at e;omega
structure Obs where
 kind:Int
 name:Str
 x:Str
 y:Str
 depth:Str
 upper:Str
 lower:Str
 nx:Str
 ny:Str
 nz:Str
def gD (o:Obs):List Value:=[.int .i64 o.kind,ag o.name,ag o.x,ag o.y,ag o.depth,ag o.upper,ag o.lower,ag o.nx,ag o.ny,ag o.nz]
structure ObsR (o:Obs):Prop where
 name:o.name.length<=999998
 x:o.x.length<=999998
 y:o.y.length<=999998
 depth:o.depth.length<=999998
 upper:o.upper.length<=999998
 lower:o.lower.length<=999998
 nx:o.nx.length<=999998
 ny:o.ny.length<=999998
 nz:o.nz.length<=999998
def lj (o:Obs):Bool:=(!dm o.name || !dm o.upper) || ((!(o.kind == 1)) && !dm o.lower)
def mr (o:Obs):Bool:=(!(aS o.x && aS o.y) || ((o.kind == 2) && !aS o.depth)) || ((o.kind == 3) && !(aS o.nx && aS o.ny && aS o.nz))
def lD (o:Obs):Bool:=(((o.kind == 1) && !(o.lower == [])) || ((!(o.kind == 2)) && !(o.depth == []))) || ((!(o.kind == 3)) && !(decide (o.nx=[]/\o.ny=[]/\o.nz=[])))
def ek (o:Obs):Int:=if o.kind<1∨3<o.kind then 12 else if lj o then 8 else if mr o then 2 else if lD o then 7 else 0
theorem nil3 (a b c:Str):(!((a == []) && ((b == []) && ((c == []) && true))))=!decide (a=[]/\b=[]/\c=[]):=by
 cases a <;> cases b <;> cases c <;> rfl
theorem Jr (b:Bool):(ot b != 0)=!b:=by cases b <;> rfl
theorem KA (C:Mem)(h:Tabs C)(o:Obs)(b:ObsR o):Gives cx.P 287 [.agg ⟨gD o⟩] C (i_ (ek o)):=by
 have h1:=b.name;have h2:=b.upper;have h3:=b.lower;refine Wy func287 87 U3 λw0=>Wu λR c=>WH U6 λm=>C6 1 [1] c U<|G.freeze 0 U λ_ _ a=>U1 1 U λR c=>Ws (bkT a 1) U8<|Wv 3 U<|WU U6 (λ_=>PtrTo.blockT (Mem.get a mup) _ 1) U3<|Wt U6<|WX U8<|Ww [1,10] c U<|G.cd (λi=>?_) λi=>?_
 .have d:o.kind<1∨3<o.kind:=by simpa using i
  exact U0 1 [2] U<|Wx U2<|⟨by unfold ek;rw[aL d],U⟩
 have d:¬ (o.kind<1∨3<o.kind):=by simpa using i
 refine U1 1 U λR c=>Ws (bkT a 1) U8<|WC (iI _ o.name om_) U7 fl_<|Wv 3 U<|WU U6 (λ_=>PtrTo.blockT (Mem.get a mup) _ 1) U3<|WN (λ_=>(iI _ o.upper om_)) U9<|Wt U6<|WX U8<|Wv 2 U<|WU U6 (λ_=>PtrTo.blockT (Mem.get a mup) _ 1) U3<|Wv 3 U<|WU U6 (λ_=>PtrTo.blockT (Mem.get a mup) _ 1) U3<|WN (λ_=>(iI _ o.lower om_)) U9<|Wt U6<|WR U8<|WX U8<|Ww [1,31] c U<|G.cd (λj=>?_) λj=>?_
 .have e:lj o=true:=j;exact U0 1 [2] U<|Wx U2<|⟨by unfold ek;rw[aF d,aL e],U⟩
 have e:¬ lj o=true:=by rw[show lj o=false from j];decide
 refine U1 1 U λR c=>Ws (bkT a 2) U8<|WD (iW _ h.m_ o.x o.y b.x b.y) U7<|Wv 3 U<|WU U6 (λ_=>PtrTo.blockT (Mem.get a mup) _ 1) U3<|Wv 3 U<|WU U6 (λ_=>PtrTo.blockT (Mem.get a mup) _ 1) U3<|W5 (λ_=>(dD _ h.m_ o.depth b.depth)) U9<|Wt U6<|WR U8<|WX U8<|Wv 2 U<|WU U6 (λ_=>PtrTo.blockT (Mem.get a mup) _ 1) U3<|Wv 3 U<|WU U6 (λ_=>PtrTo.blockT (Mem.get a mup) _ 3) U3<|W5 (λ_=>(sP _ h.m_ o.nx o.ny o.nz b.nx b.ny b.nz)) U9<|Wt U6<|WR U8<|WX U8<|Ww [1,57] c U<|G.cd (λf=>?_) λf=>?_
 .have g:mr o=true:=by
   simp only[Jr]at f;exact f
  exact U0 1 [2] U<|Wx U2<|⟨by unfold ek;rw[aF d,aF e,aL g],U⟩
 have g:¬ mr o=true:=by
  simp only[Jr]at f;rw[show mr o=false from f];decide
 refine U1 1 U λR c=>Ws (bkT a 1) U8<|Wv 3 U<|WU U6 (λ_=>PtrTo.blockT (Mem.get a mup) _ 1) U3<|Wt U6<|WR U8<|Wv 2 U<|WU U6 (λ_=>PtrTo.blockT (Mem.get a mup) _ 1) U3<|Wv 3 U<|WU U6 (λ_=>PtrTo.blockT (Mem.get a mup) _ 1) U3<|Wt U6<|WR U8<|WX U8<|Wv 2 U<|WU U6 (λ_=>PtrTo.blockT (Mem.get a mup) _ 1) U3<|Wv 3 U<|WU U6 (λ_=>PtrTo.blockT (Mem.get a mup) _ 3) U3<|WL [ag [],ag [],ag []] U8<|YO (!decide (o.nx=[]/\o.ny=[]/\o.nz=[])) kr_ U U U U U U U U (λ_=>(nil3 o.nx o.ny o.nz)) U U<|WR U8<|WX U8<|Ww [86] c U<|G.cd (λk=>?_) λk=>?_
 .have l:lD o=true:=k;exact U0 1 [2] U<|Wx U2<|⟨by unfold ek;rw[aF d,aF e,aF g,aL l],U⟩
 have l:¬ lD o=true:=by rw[show lD o=false from k];decide
 exact U0 1 [2] U<|Wx U2<|⟨by unfold ek;rw[aF d,aF e,aF g,aF l],U⟩
noncomputable def dx (s:Str):Rat:=if h:aS s=true then (M4 h).choose else 0
theorem dF {s:Str}(h:aS s=true):s=qtx (dx s)/\QB 23 (dx s):=by
 unfold dx;rw[dif_pos h];exact(M4 h).choose_spec
theorem de (h:aS (qtx q)=true):dx (qtx q)=q:=(gx (dF h).1).symm
noncomputable def ptO (o:Obs):Pt:=(dx o.x,dx o.y)
noncomputable def Mi (pts:List Pt)(tris:List Tri)(o:Obs):Bool:=decide (lu pts tris (ptO o)≠[])
def Gw (col:List Lay)(o:Obs):Bool:=decide (ic (isU o.upper) col 0<0) || ((!(o.kind == 1)) && decide (ic (isU o.lower) col 0<0))
def ordB (col:List Lay)(o:Obs):Bool:=(!(o.kind == 1)) && decide (ic (isU o.upper) col 0<=ic (isU o.lower) col 0)
noncomputable def depB (o:Obs):Bool:=(o.kind == 2) && decide (dx o.depth<0)
def J3 (o:Obs):Bool:=(o.kind == 3) && decide (o.nz=[48])
noncomputable def gm (pts:List Pt)(tris:List Tri)(col:List Lay)(o:Obs):Int :=
 if ek o≠0 then ek o else if Mi pts tris o=false then 28 else if Gw col o then 10 else if ordB col o then 6 else if depB o then 3 else if J3 o then 17 else 0
theorem tg {o:Obs}(h:ek o=0):aS o.x=true/\aS o.y=true/\(o.kind=2->aS o.depth=true):=by
 unfold ek at h;split at h
 .cases h
 split at h
 .cases h
 split at h
 .cases h
 rename_i b;have a:mr o=false:=by simpa using b
 unfold mr at a;rw[Up,Up]at a;let⟨⟨h1,h2⟩,_⟩:=a;have h3:(aS o.x && aS o.y)=true:=by simpa using h1
 rw[S1]at h3;refine⟨h3.1,h3.2,λc=>?_⟩;rw[c]at h2;simpa using h2
theorem Q8 {o:Obs}(h:ek o=0):ptV (ptO o)=.agg ⟨[ag o.x,ag o.y]⟩/\QP 23 (ptO o)/\PtR (ptO o):=by
 let⟨h1,h2,_⟩:=tg h;let⟨a,c⟩:=dF h1;let⟨b,d⟩:=dF h2;refine⟨?_,⟨c,d⟩, ?_, ?_⟩
 .unfold ptV gM ptO;rw[<- a,<- b]
 .unfold ptO;rw[<- a];exact h1
 unfold ptO;rw[<- b];exact h2
theorem ef {k:Int}(h:(k == z)=true):k=z:=by simpa using h
theorem Ku (C:Mem)(s:Str)(h:aS s=true)(a:s.length<=999998):Gives cx.P 94 [ag s] C (i_ (eA (dx s).num)):=by
 have e:=(dF h).1;have h2:=fE C (dx s) (by have:=a;exact SV (aV (dF h).2 dc_) dc_)
 rwa [<- e]at h2
theorem OZ (C:Mem)(t:Tabs C)(u v:Value)(d:List Pt)(f:List Tri)(b:List Lay)(o:Obs)(w:MeshIn C u d f)(z:Good d f)(x:Sl C 3 v (b.map pq))(y:ObsR o) :
  Gives cx.P 239 [u,v,.agg ⟨gD o⟩] C (i_ (gm d f b o)):=by
 have A:=w;obtain⟨K,L,rfl,h1,h2⟩:=id w.ex;refine Wy func239 79 U3 λw0=>Wu λR a=>WH U6 λM=>WH U6 λN=>C6 1 [1,3,5] a U<|G.freeze 1 U λ_ _ B=>G.freeze 0 U λD _ c=>Wu λR a=>Ws (bkT c 10) U8<|WD (KA _ t.m_ o y) U7<|C6 1 [1,3,5,7] a U<|U0 2 [1,3,5,7,15] U<|G.cd (λm=>?_) λm=>?_
 .have hs:ek o≠0:=by
   intro e;rw[e]at m;exact absurd m dc_
  exact U0 2 [6] U<|Wx U2<|⟨by unfold gm;rw[aL hs],U⟩
 have hs:ek o=0:=by simpa using m
 have i:¬ ek o≠0:=λh=>h hs;let⟨E,F,H⟩:=Q8 hs;have I:=(tg hs).2.2;refine Wu λR a=>Ws (PtrTo.block (Mem.get B mup) _) U8<|Wt U6<|Ws (bkT c 2) U8<|WC (by have h:=rU D t.m_ _ d f (ptO o) A.m_ z F H;rw[E]at h;exact h) U7 fl_<|C6 5 [1,5,8,9] a U<|U1 5 U λR a=>WX U8<|Ww [1,5,29] a U<|G.cd (λn=>?_) λn=>?_
 .have g:Mi d f o=false:=by
   have h:(!Mi d f o)=true:=n;simpa using h
  exact U0 1 [6] U<|Wx U2<|⟨by unfold gm;rw[aF i,aL g],U⟩
 have g:¬ Mi d f o=false:=by
  have h:(!Mi d f o)=false:=n;have h2:Mi d f o=true:=by simpa using h
  rw[h2];decide
 refine WM [0,1,2,3,4,5,6,7,8,9] [(3,1),(7,1)] U kr_ λR O a=>Wv 2 U<|Ws (bkT c 1) U8<|W5 (λ_=>(kD _ _ b o.upper x.m_)) U9<|Wv 2 U<|Ws (bkT c 1) U8<|W5 (λ_=>(kD _ _ b o.lower x.m_)) U9<|C6 2 [5,10,11] a U<|U1 4 U λR a=>WU U6 (λ_=>PtrTo.blockT (Mem.get c mup) _ 1) U3<|Wv 4 U<|WR U8<|WX U8<|C6 1 [5,10,11,38] a U<|G.cd (λp=>?_) λp=>?_
 .have j:Gw b o=true:=p;exact U0 1 [6] U<|Wx U2<|⟨by unfold gm;rw[aF i,aF g,aL j],U⟩
 have j:¬ Gw b o=true:=by rw[show Gw b o=false from p];decide
 refine U1 1 U λR a=>Ws (bkT c 1) U8<|Wv 5 U<|WR U8<|C6 1 [5,50] a U<|G.cd (λq=>?_) λq=>?_
 .have k:ordB b o=true:=q;exact U0 1 [6] U<|Wx U2<|⟨by unfold gm;rw[aF i,aF g,aF j,aL k],U⟩
 have k:¬ ordB b o=true:=by rw[show ordB b o=false from q];decide
 refine U1 1 U λR a=>Ws (bkT c 1) U8<|Wv 3 U<|WU U6 (λ_=>PtrTo.blockT (Mem.get c mup) _ 1) U3<|WN (λJ=>(Ku _ o.depth (I (by exact ef J.1)) y.depth)) U9<|Wt U6<|WR U8<|C6 1 [5,59] a U<|G.cd (λl=>?_) λl=>?_
 .have hd:depB o=true:=by
   rw[vk]at l;exact l
  exact U0 1 [6] U<|Wx U2<|⟨by unfold gm;rw[aF i,aF g,aF j,aF k,aL hd],U⟩
 have hd:¬ depB o=true:=by
  rw[vk]at l;rw[show depB o=false from l];decide
 refine U1 1 U λR a=>Ws (bkT c 1) U8<|Wv 4 U<|WU U6 (λ_=>PtrTo.blockT (Mem.get c mup) _ 1) U3<|Wt U6<|WR U8<|C6 1 [69] a U<|G.cd (λr=>?_) λr=>?_
 .have s:J3 o=true:=by
   unfold J3;rw[<- Kk];exact r
  exact U0 1 [6] U<|Wx U2<|⟨by unfold gm;rw[aF i,aF g,aF j,aF k,aF hd,aL s],U⟩
 have s:¬ J3 o=true:=by
  unfold J3;rw[<- Kk];intro h;rw[show((o.kind == 3) && ((⟨o.nz.toArray⟩:ByteArray).data.toList == (⟨([48]:Str).toArray⟩:ByteArray).data.toList))=false from r]at h;cases h
 exact U0 1 [6] U<|Wx U2<|⟨by unfold gm;rw[aF i,aF g,aF j,aF k,aF hd,aF s],U⟩
structure Bk where
 pts:List Pt
 tris:List Tri
 terr:List Str
 col:List Lay
 obs:List Obs
structure BookIn (C:Mem)(bv:Value)(B:Bk):Prop where
 ex:∃v1 v2 tv cv ov,bv=.agg ⟨[v1,v2,tv,cv,ov]⟩/\Sl C 2 v1 (B.pts.map gM)/\Sl C 3 v2 (B.tris.map jJ)/\Sl C 1 tv (B.terr.map dE)/\Sl C 3 cv (B.col.map pq)/\Sl C 10 ov (B.obs.map gD)
theorem BookIn.mono {C D:Mem}{b:Value}{B:Bk}(h:BookIn C b B)(a:C.le D):BookIn D b B:=by
 let⟨c,d,e,f,g,h1,h2,h3,h4,h5,i⟩:=h.ex;exact⟨c,d,e,f,g,h1,h2.mono a,h3.mono a,h4.mono a,h5.mono a,i.mono a⟩
theorem BookIn.m_ {D:Mem}{B:Bk}(h:BookIn C bv B)(a:C.le D:=by exact mup):BookIn D bv B:=BookIn.mono h a
structure BookR (B:Bk):Prop where
 terr:∀s∈B.terr,s.length<=999998
 col:∀x∈B.col,Qj x
 lcol:B.col.length<=1000000
 obs:∀o∈B.obs,ObsR o
noncomputable def obZ (B:Bk)(pre:List Obs)(o:Obs):Int:=if gm B.pts B.tris B.col o≠0 then gm B.pts B.tris B.col o else if o.name∈pre.map Obs.name then 9 else 0
def Lf:Obs:=⟨0,[],[],[],[],[],[],[],[],[]⟩
noncomputable def wE (B:Bk):Nat->Int
|0=>0
|n+1=>if wE B n≠0 then wE B n else obZ B (B.obs.take n) (B.obs.getD n Lf)
noncomputable def iX (B:Bk):Int:=if oK B.pts.length B.terr≠0 then oK B.pts.length B.terr else if sN B.col≠0 then sN B.col else if 100<B.obs.length then 4 else wE B B.obs.length
theorem yp {B:Bk}{n:Nat}(h:wE B n≠0):∀m,n<=m->wE B m=wE B n
|0,hm=>by rw[show n=0 by omega]
|m+1,hm=>by
  rcases Th m n with h1|h1
  .rw[show n=m+1 by omega]
  have a:=yp h m h1;simp only[wE,a];rw[aL h]
theorem Ng {l:List Obs}{x:Obs}(h:l[i]?=some x):l.getD i Lf=x:=by rw[al,h,T6]
theorem vg {B:Bk}{x:Obs}(a:wE B i=0)(b:B.obs[i]?=some x):wE B (i+1)=obZ B (B.obs.take i) x:=by
 simp only[wE,a];rw[aF dc_,Ng b]
theorem HR {B:Bk}{x:Obs}(c:wE B i=0)(a:B.obs[i]?=some x)(b:obZ B (B.obs.take i) x=z)(d:z≠0):wE B B.obs.length=z:=by
 have e:=(R0.1 a).1;have h1:=vg c a;rw[yp (n:=i+1) (by rw[h1,b];exact d) B.obs.length om_,h1,b]
def H2 (l:List Obs):List (Str × Value):=l.map λo=>(o.name,.bool true)
theorem H1 (l:List Obs)(s:Str):mF (.bool false) false (eh (H2 l) s)=.bool (decide (s∈l.map Obs.name)):=by
 have a:(H2 l).map (·.1)=l.map Obs.name:=by unfold H2;rw[TH];rfl
 cases h:eh (H2 l) s with
|none =>
  have h1:=cQ.1 h;rw[a]at h1;rw[Te h1];rfl
|some v =>
  have h1:=gC h;have h2:=US (f:=(·.1)) h1;rw[a]at h2;let⟨o,_,b⟩:=SL.1 h1;cases b
  rw[S4 h2];rfl
theorem Lm {l:List Obs}{o:Obs}(h:o.name ∉ l.map Obs.name):jd (H2 l) o.name (.bool true)=H2 (l++[o]):=by
 have a:(H2 l).map (·.1)=l.map Obs.name:=by unfold H2;rw[TH];rfl
 rw[km (by rw[cQ,a];exact h)];simp[H2]
theorem rW (C:Mem)(n:Tabs C)(F:Value)(B:Bk)(L:BookIn C F B)(t:Good B.pts B.tris)(o:BookR B) :
  Gives cx.P 181 [F] C (i_ (iX B)):=by
 obtain⟨H,I,Z,cv,ov,rfl,h1,h2,h3,h4,h5⟩:=id L.ex;obtain⟨M,N,rfl,O,aa,_⟩:=id h5;have ab:=mx_
 simp only[ar]at h5 O⊢;have hm:MeshIn C (.agg ⟨[H,I]⟩) B.pts B.tris:=⟨H,I,rfl,h1,h2⟩;refine Wy func181 59 U3 λw0=>Wu λR a=>WH U6 λQ=>C6 1 [1] a U<|G.freeze 0 U λ_ _ b=>U1 1 U λR a=>Ws (bkT b 2) U8<|WD (ie _ n.m_ _ B.pts B.tris hm.m_ t) U7<|C6 1 [1,3] a U<|U0 2 [1,3,14] U<|G.cd (λJ=>?_) λJ=>?_
 .exact absurd J dc_
 refine U1 1 U λR a=>Ws (bkT b 2) U8<|Wt U6<|Ws (bkT b 1) U8<|WD (mR _ n.m_ _ _ B.pts B.tris B.terr hm.m_ t h3.m_ o.terr) U7<|C6 1 [1,4] a U<|U0 2 [1,4,22] U<|G.cd (λp=>?_) λp=>?_
 .have c:oK B.pts.length B.terr≠0:=by
   intro e;rw[e]at p;exact absurd p dc_
  exact U0 2 [2] U<|Wx U2<|⟨by unfold iX;rw[aL c],U⟩
 have c:¬ oK B.pts.length B.terr≠0:=by
  have h:oK B.pts.length B.terr=0:=by simpa using p
  exact λh2=>h2 h
 refine U1 1 U λR a=>Ws (bkT b 1) U8<|WD (rV _ n.m_ _ B.col h4.m_ o.col o.lcol) U7<|C6 1 [1,5] a U<|U0 2 [1,5,28] U<|G.cd (λq=>?_) λq=>?_
 .have d:sN B.col≠0:=by
   intro e;rw[e]at q;exact absurd q dc_
  exact U0 2 [2] U<|Wx U2<|⟨by unfold iX;rw[aF c,aL d],U⟩
 have d:¬ sN B.col≠0:=by
  have h:sN B.col=0:=by simpa using q
  exact λh2=>h2 h
 refine U1 1 U λR a=>Ws (bkT b 1) U8<|C6 2 [1,33] a U<|G.cd (λu=>?_) λu=>?_
 .have g:100<B.obs.length:=by
   simp only[SS]at u;omega
  exact U0 1 [2] U<|Wx U2<|⟨by unfold iX;rw[aF c,aF d,aL g],U⟩
 have g:¬ 100<B.obs.length:=by
  simp only[Tk]at u;omega
 refine Wu λR a=>D.makeMap keyS U U U U fl_ λv=>C6 1 [1,6] a U<|U1 1 U λR a=>Ws (bkT b 1) U8<|C6 2 [1,6,36,37,38] a U<|G.loop (λfr C' K S=>∃(i:Nat),(i<=B.obs.length/\wE B i=0)/\fr=[(1,[],p_ Q),(6,[],.map (some v)),(36,[],.slice M B.obs.length N),(37,[],i_ B.obs.length),(38,[],i_ i)]/\K=[.obj v (bh keyS.enc (H2 (B.obs.take i)))]/\S=B.obs.length-i) (hn_ [1,6,36,37,38] U) ⟨0,⟨SM _,U⟩,U,U,U⟩ (λfr ac ad m _ T=>?_);obtain⟨i,⟨hi,k⟩,rfl,rfl,rfl⟩:=T;refine U0 1 [1,6,36,37,38,39] U<|G.cd (λw=>?_) λw=>?_
 .have y:i<B.obs.length:=by simpa using w
  let⟨x,f⟩:∃x,B.obs[i]?=some x:=⟨B.obs[i],aj y⟩;have V:=o.obs x (aK f);have W:B.obs.take (i+1)=B.obs.take i++[x]:=by rw[S9,f];rfl
  refine Wu λR a=>WG h5.m_ U10 om_ (cM f) fl_ λae X=>Ws X U8<|WI U5 λb8=>WB (j:=0) U12<|Ww [1,6,8,36,37,38] a U<|U1 1 U λR a=>Ws (bkT b 2) U8<|Wt U6<|Ws (bkT b 1) U8<|WA ah U9<|WD (OZ _ n.m_ _ _ B.pts B.tris B.col x hm.m_ t h4.m_ V) U7<|C6 1 [1,6,8,9,36,37,38] a U<|U0 2 [1,6,8,9,36,37,38,49] U<|G.cd (λr=>?_) λr=>?_
  .have l:gm B.pts B.tris B.col x≠0:=by
    intro e;rw[e]at r;exact absurd r dc_
   have A:=HR k f (z:=gm B.pts B.tris B.col x) (by unfold obZ;rw[aL l]) l;exact U0 2 [2] U<|Wx U2<|⟨by unfold iX;rw[aF c,aF d,aF g,A],U⟩
  have l:¬ gm B.pts B.tris B.col x≠0:=by
   have h:gm B.pts B.tris B.col x=0:=by simpa using r
   exact λh2=>h2 h
  refine U1 2 U λR a=>WA ah U9<|XM keyS af U U U U U U U U kr_ U (H1 (B.obs.take i) x.name) U U<|Ww [1,6,8,36,37,38,54] a U<|G.cd (λE=>?_) λE=>?_
  .have s:x.name∈(B.obs.take i).map Obs.name:=aT E;have A:=HR k f (z:=9) (by unfold obZ;rw[aF l,aL s]) dc_;exact U0 1 [2] U<|Wx U2<|⟨by unfold iX;rw[aF c,aF d,aF g,A],U⟩
  have s:x.name ∉ (B.obs.take i).map Obs.name:=SJ E;have Y:wE B (i+1)=0:=by rw[vg k f];unfold obZ;rw[aF l,aF s]
  refine U1 2 U λR a=>WA ah U9<|D.mapUpdate keyS (j:=1) U U U U U U U U U U kr_<|Ww [1,6,36,37,38] a U<|Wu λR a=>Wz _ U U6<|C6 1 [1,6,36,37,38] a U<|Xb 1 U<|WK (L':=[.obj v (bh keyS.enc (H2 (B.obs.take (i+1))))]) (by rw[W,<- Lm s];rfl)<|WF (m':=B.obs.length-(i+1)) om_ mup (hn_ [1,6,36,37,38] U) ⟨i+1,⟨by omega,Y⟩,U,U,U⟩
 have y:i=B.obs.length:=by
  have:¬ i<B.obs.length:=by simpa using w
  omega
 refine U0 1 [2] U<|Wx U2<|⟨?_,U⟩;rw[y]at k;unfold iX;rw[aF c,aF d,aF g,k]
theorem nj (C:Mem)(g:Tabs C)(b:Value)(B:Bk)(c:BookIn C b B)(j:Good B.pts B.tris)(k:BookR B)(l:iX B=0)(i:Nat)(n:i<B.obs.length) :
  Gives cx.P 289 [b,i_ i] C (i_ 0):=by
 have d:=c;obtain⟨o,p,q,r,s,rfl,h1,h2,h3,h4,h5⟩:=id c.ex;obtain⟨t,u,rfl,m,v,_⟩:=id h5;have w:=mx_
 simp only[ar]at h5 m d⊢;refine Wy func289 20 U3 λw0=>Wu λR a=>WH U6 λx=>C6 1 [1,2] a U<|Wu λR a=>WA ah U9<|WC (by have h:=rW _ g.m_ _ B d.m_ j k;rw[l]at h;exact h) U7 fl_<|C6 1 [1,2,5] a U<|U0 2 [1,2,5,9] U<|G.cd (λe=>?_) λe=>?_
 .exact absurd e dc_
 refine U1 5 U λR a=>WA ah U9<|Wv 2 U<|WX U8<|Ww [19] a U<|G.cd (λf=>?_) λf=>?_
 .exfalso;simp only[UG,SS]at f;omega
 exact U0 1 [4] U<|Wx U2<|⟨U,U⟩
noncomputable def lM (o:Obs)(z:Rat):Rat:=if o.kind=2 then z-dx o.depth else z
structure ObsAt (o:Obs)(p:Pt):Prop where
 x:o.x=qtx p.1
 y:o.y=qtx p.2
 q:QP 23 p
 r:PtR p
 d:o.kind=2->aS o.depth=true
theorem yq {o:Obs}(h:ObsAt o p):(.agg ⟨[ag o.x,ag o.y]⟩:Value)=ptV p:=by unfold ptV gM;rw[h.x,h.y]
structure Terr (B:Bk)(fs:List Rat):Prop where
 e:B.terr=fs.map qtx
 l:fs.length=B.pts.length
 q:∀q∈fs,QB 22 q
theorem MS {B:Bk}(h:Terr B fs):∀q∈fs,aS (qtx q)=true:=λq a=>bA (h.q q a)
theorem IG (C:Mem)(k:Tabs C)(m:Value)(B:Bk)(i:List Rat)(o:Obs)(p:Pt)(z:Rat)(v:BookIn C m B)(w:Good B.pts B.tris)(b:Terr B i)(c:ObsAt o p)(x:F7 B.pts B.tris i p=.tuple #[ag (qtx z),i_ 0])(y:QB 22 z) :
  Gives cx.P 290 [m,.agg ⟨gD o⟩] C (.tuple #[ag (qtx (lM o z)),i_ 0]):=by
 obtain⟨n,s,E,F,H,rfl,h1,h2,h3,h4,h5⟩:=id v.ex;have hm:MeshIn C (.agg ⟨[n,s]⟩) B.pts B.tris:=⟨n,s,rfl,h1,h2⟩;rw[b.e,<- gK]at h3;refine Wy func290 31 U3 λw0=>Wu λR a=>WH U6 λI=>WH U6 λJ=>C6 2 [2,3] a U<|G.freeze 1 U λ_ _ t=>G.freeze 0 U λu _ j=>U1 1 U λR a=>Ws (bkT t 2) U8<|Wt U6<|Ws (bkT t 1) U8<|Wt U6<|Ws (bkT j 2) U8<|WC (by have h:=Ca u k.m_ _ _ B.pts B.tris i 22 dc_ dc_ hm.m_ w h3.m_ b.l b.q (MS b) p c.q c.r;rw[x,<- yq c]at h;exact h) U7 fl_<|C6 5 [3,6,7] a U<|U1 4 U λR a=>WU U6 (λ_=>PtrTo.blockT (Mem.get j mup) _ 1) U3<|Wt U6<|WR U8<|Ww [3,6,7,24] a U<|G.cd (λf=>?_) λf=>?_
 .have g:o.kind=2:=ef (VN.1 f).2;let⟨A,D⟩:=dF (c.d g);refine U1 2 U λR a=>Ws (bkT j 1) U8<|WC (by have h:=ec u k.m_ z (dx o.depth) 23 dc_ dc_ (y.le dc_) D;rw[<- A]at h;exact h) U7 fl_<|C6 1 [6,7] a U<|U0 4 [4,5] U<|WE (zD U3 ?_);exact⟨by unfold lM;rw[aL g],U⟩
 have g:¬ o.kind=2:=by
  intro e;rw[show((((0:Int) == 0) && (o.kind == 2))=true) by rw[e];rfl]at f;cases f
 refine U0 4 [4,5] U<|WE (zD U3 ?_);exact⟨by unfold lM;rw[aF g],U⟩
theorem Fq (C:Mem)(c:Tabs C)(h:Value)(B:Bk)(d:List Rat)(i:Nat)(o:Obs)(p:Pt)(z:Rat)(b:BookIn C h B)(j:Good B.pts B.tris)(q:BookR B)(r:iX B=0)(s:Terr B d)(k:B.obs[i]?=some o)(t:ObsAt o p)(u:F7 B.pts B.tris d p=.tuple #[ag (qtx z),i_ 0])(v:QB 22 z)(l:QB 22 (lM o z)) :
  Gives cx.P 243 [h,i_ i] C (.tuple #[ag (qtx (lM o z)),i_ 0]):=by
 have e:=b;have w:=(R0.1 k).1;obtain⟨A,D,E,F,H,rfl,h1,h2,h3,h4,h5⟩:=id b.ex;obtain⟨I,J,rfl,x,K,_⟩:=id h5;have L:=mx_
 simp only[ar]at h5 x e⊢;refine Wy func243 36 U3 λw0=>Wu λR a=>WH U6 λM=>C6 2 [1,2] a U<|G.freeze 0 U λ_ _ f=>Wu λR a=>Ws (bkT f 5) U8<|Wt U6<|WD (nj _ c.m_ _ B e.m_ j q r i w) U7<|C6 1 [1,2,6] a U<|U0 2 [1,2,6,13] U<|G.cd (λm=>?_) λm=>?_
 .exact absurd m dc_
 refine WM [0,1,2,3,4,5,6,7,8,9,10,11] [(6,1)] U kr_ λR b a=>Ws (bkT f 5) U8<|Wt U6<|Ws (bkT f 1) U8<|Wt U6<|WG h5.m_ U10 om_ (cM k) fl_ λN y=>Ws y U8<|W5 (λ_=>(IG _ c.m_ _ B d o p z e.m_ j s t u v)) U9<|Wv 5 U<|Ww [7,8] a U<|U1 4 U λR a=>W5 (λ_=>(dD _ c.m_ _ (uT l))) U9<|Wt U6<|WR U8<|Ww [7,8,31] a U<|G.cd (λg=>?_) λg=>?_
 .exfalso;rw[zh l]at g;exact absurd g dc_
 refine U0 2 [7,8,33] U<|G.cd (λn=>?_) λn=>?_
 .exact absurd n dc_
 refine U0 3 [4,5] U<|WE (zD U3 ?_);exact⟨U,U⟩
def xj (lo hi:Int)(n:Nat):List Nat:=(List.range n).filter λk:Nat=>decide (lo<=(k:Int)/\(k:Int)<hi)
def GF (col:List Lay)(o:Obs):Int:=if o.kind=1 then ic (isU o.upper) col 0-1 else ic (isU o.lower) col 0
def GG (col:List Lay)(o:Obs):Int:=if o.kind=1 then ic (isU o.upper) col 0+1 else ic (isU o.upper) col 0
def cT (col:List Lay)(o:Obs):List Nat:=xj (GF col o) (GG col o) (col.length-1)
theorem Kh {a b:Int}(j:max a 0<=(i:Int))(l:(i:Int)<=max (max a 0) (min b n))(o:min b (n:Int)<=(i:Int)):(List.range i).filter (λk:Nat=>decide (a<=(k:Int)))=xj a b n:=by
 unfold xj;have hs:∀m:Nat,(List.range (i+m)).filter (λk:Nat=>decide (a<=(k:Int)/\(k:Int)<b/\k<n))=(List.range i).filter (λk:Nat=>decide (a<=(k:Int)/\(k:Int)<b/\k<n)):=by
  intro m;induction m with
 |zero=>rfl
 |succ m c =>
   rw[show i+(m+1)=i+m+1 by omega,T1,Uc,c,List.filter_cons];rw[aF (by simp only[SS];omega)];simp
 have f:(List.range i).filter (λk:Nat=>decide (a<=(k:Int)))=(List.range i).filter (λk:Nat=>decide (a<=(k:Int)/\(k:Int)<b/\k<n)):=by
  refine List.filter_congr (λk d=>?_);rw[S7]at d;rw[Tx];omega
 have g:(List.range n).filter (λk:Nat=>decide (a<=(k:Int)/\(k:Int)<b))=(List.range n).filter (λk:Nat=>decide (a<=(k:Int)/\(k:Int)<b/\k<n)):=by
  refine List.filter_congr (λk d=>?_);rw[S7]at d;rw[Tx];omega
 rw[f,g];rcases Nat.le_total i n with e|e
 .obtain⟨m,rfl⟩:=Nat.exists_eq_add_of_le e;exact(hs m).symm
 have h:∀m:Nat,(List.range (n+m)).filter (λk:Nat=>decide (a<=(k:Int)/\(k:Int)<b/\k<n))=(List.range n).filter (λk:Nat=>decide (a<=(k:Int)/\(k:Int)<b/\k<n)):=by
  intro m;induction m with
 |zero=>rfl
 |succ m c =>
   rw[show n+(m+1)=n+m+1 by omega,T1,Uc,c,List.filter_cons];rw[aF (by simp only[SS];omega)];simp
 obtain⟨m,rfl⟩:=Nat.exists_eq_add_of_le e;exact h m
theorem tL (p:α->Bool)(l:List α):-1<=ic p l 0/\ic p l 0<=(l.length:Int):=by
 rcases ib p l with⟨h,_⟩|⟨i,x,h,h2,_⟩
 .omega
 have:=(R0.1 h2).1;omega
theorem zR (C:Mem)(_ac:Tabs C)(F:Value)(B:Bk)(o:Obs)(q:BookIn C F B)(ad:B.col.length<=1000)(M:B.col≠[]) :
  Pur cx.P 291 [F,.agg ⟨gD o⟩] C λu D=>Sl D 1 u ((cT B.col o).map aX):=by
 obtain⟨v1,v2,tv,cv,ov,rfl,h1,h2,h3,h4,h5⟩:=id q.ex;obtain⟨A4,c4,rfl,N,ae,_⟩:=id h4;have af:=mx_
 have ag:=Tw.2 M;have O:=tL (isU o.lower) B.col;have Q:=tL (isU o.upper) B.col;let⟨lw,H⟩:∃z,ic (isU o.lower) B.col 0=z:=⟨_,rfl⟩;let⟨up,I⟩:∃z,ic (isU o.upper) B.col 0=z:=⟨_,rfl⟩;let⟨lo,b⟩:∃z,GF B.col o=z:=⟨_,rfl⟩;let⟨c,d⟩:∃z,GG B.col o=z:=⟨_,rfl⟩;let⟨n,S⟩:∃n,B.col.length-1=n:=⟨_,rfl⟩;unfold cT;rw[b,d,S];unfold GF at b;unfold GG at d;rw[H]at O b;rw[I]at Q b d;simp only[ar]at h4 N⊢;have ah:-2<=lo/\lo<=1000:=by rw[<- b];split <;> omega
 have ai:-2<=c/\c<=1001:=by rw[<- d];split <;> omega
 refine Wy func291 43 U3 λw0=>Wu λR a=>WH U6 λJ=>WH U6 λb3=>C6 1 [2,3] a U<|G.freeze 1 U λ_ _ s=>G.freeze 0 U λK _ t=>WM [0,1,2,3,4,5,6,7,8,9,10,11] [(4,1),(9,1)] U kr_ λR q a=>Wt U6<|Ws (bkT s 1) U8<|Wt U6<|Ws (bkT t 1) U8<|WN (λ_=>(by have h:=kD K _ B.col o.lower h4.m_;rw[H]at h;exact h)) U9<|Wt U6<|Ws (bkT s 1) U8<|Wt U6<|Ws (bkT t 1) U8<|WN (λ_=>(by have h:=kD K _ B.col o.upper h4.m_;rw[I]at h;exact h)) U9<|Wv 2 U<|Ww [2,3,5,6] a U<|U1 1 U λR a=>Ws (bkT t 1) U8<|C6 1 [2,5,6,21] a U<|G.cut (λfr T g v=>(True)/\fr=[(2,[],p_ J),(5,[],i_ lo),(6,[],i_ c)]/\g=[]) ?_ (λfr _ aj v _ x=>?_)
 .refine G.cd (λl=>?_) λl=>?_
  .have f:o.kind=1:=ef l;rw[aL f]at b d;subst b d;refine U1 1 U λR a=>Wz _ U U6<|Wt U6<|Wz _ U U6<|C6 2 [2,5,6] a U ?_;clear a R;refine WJ 0 l_ (hn_ [2,5,6] U) ⟨trivial,U,U⟩
  have f:¬ o.kind=1:=by
   intro e;rw[show((o.kind == 1)=true) by rw[e];rfl]at l;cases l
  rw[aF f]at b d;subst b d;refine WJ 0 l_ (hn_ [2,5,6] U) ⟨trivial,U,U⟩
 obtain⟨_,rfl,rfl⟩:=x;refine U0 1 [2,5,6,7] U ?_;let⟨p,V⟩:∃p:Nat,max lo 0=(p:Int):=⟨(max lo 0).toNat,by omega⟩;refine U1 1 U λR a=>D.max (((p:Nat):Int)) U6 V U2<|C6 1 [2,6,7,8] a U<|G.nilArr 3 1 ?_;refine G.loop (λfr T g v=>∃(i:Nat)(out:List Nat)(w:Value),(max lo 0<=(i:Int)/\(i:Int)<=max (max lo 0) (min c n)/\out=(List.range i).filter (λk:Nat=>decide (lo<=(k:Int))))/\fr=[(2,[],p_ J),(6,[],i_ c),(7,[],w),(8,[],i_ i)]/\g=[.arr w 3 1 out.length (out.map aX).flatten]/\v=2000-i) (hn_ [2,6,7,8] U) ⟨p,[],_,⟨by omega,by omega,by
  symm;rw[List.filter_eq_nil_iff];intro k f;rw[S7]at f;simp only[SS];omega⟩,rfl,rfl,rfl⟩ (λfr ak al m _ x=>?_)
 obtain⟨i,out,w,⟨W,X,A⟩,rfl,rfl,rfl⟩:=x;refine U1 3 U λR a=>Ws (bkT s 1) U8<|Wt U6<|Wz _ U U6<|D.min ((min c (n:Int))) U6 om_ U2<|C6 1 [2,6,7,8,35] a U<|G.cd (λE=>?_) λE=>?_
 .have an:(i:Int)<min c (n:Int):=aT E;have ao:out.length<=i:=by
   rw[A];exact SV (Ul _ _) am
  have Y:(List.range (i+1)).filter (λk:Nat=>decide (lo<=(k:Int)))=out++[i]:=by
   rw[T1,Uc,<- A,List.filter_cons,aL (by simp only[SS];omega)];rfl
  refine U1 2 U λR a=>WP [aX i] U12 λap _ _ Z=>D.append (j:=0) U11 Z U ay (by simp only[SN];omega) fl_ λL=>C6 1 [2,6,7,8] a U<|U1 1 U λR a=>Wz _ U U6<|C6 1 [2,6,7,8] a U<|WK (L':=[.arr L 3 1 (out++[i]).length ((out++[i]).map aX).flatten]) (by simp[aX]) ?_;refine WF (m':=2000-(i+1)) om_ mup (hn_ [2,6,7,8] U) ⟨i+1,out++[i],L,⟨by omega,by omega,Y.symm⟩,U,U,U⟩
 have aa:min c (n:Int)<=(i:Int):=by
  have:=SJ E;omega
 exact U0 2 [4] U<|G.freezeArr 0 (out.map aX) rfl rfl (by intro r hr;obtain⟨y,_,rfl⟩:=SL.1 hr;rfl) am λCg hg ab=>Wx U2<|⟨U,by rw[<- Kh W X aa,<- A];exact ab⟩
theorem xh (C:Mem)(j:Tabs C)(k:Value)(B:Bk)(i:Nat)(o:Obs)(d:BookIn C k B)(p:Good B.pts B.tris)(q:BookR B)(a:iX B=0)(l:B.obs[i]?=some o) :
  Pur cx.P 244 [k,i_ i] C λu D=>∃v,u=.tuple #[v,i_ 0]/\Sl D 1 v ((cT B.col o).map aX):=by
 have f:=d;have r:=(R0.1 l).1;have b:sN B.col=0:=by
  unfold iX at a;split at a
  .rename_i h;exact absurd a h
  split at a
  .rename_i h;exact absurd a h
  rename_i h;exact Ti h
 have m:B.col≠[]:=by
  intro e;rw[e]at b;exact absurd b dc_
 have s:B.col.length<=1000:=by
  unfold sN at b;rw[aF m]at b;split at b
  .exact absurd b dc_
  omega
 obtain⟨y,z,A,E,F,rfl,h1,h2,h3,h4,h5⟩:=id d.ex;obtain⟨H,I,rfl,t,J,_⟩:=id h5;have K:=mx_
 simp only[ar]at h5 t f⊢;refine Wy func244 20 U3 λw0=>Wu λR c=>WH U6 λL=>C6 2 [1,2] c U<|G.freeze 0 U λ_ _ g=>Wu λR c=>Ws (bkT g 5) U8<|Wt U6<|WD (nj _ j.m_ _ B f.m_ p q a i r) U7<|C6 1 [1,2,6] c U<|U0 2 [1,2,6,11] U<|G.cd (λn=>?_) λn=>?_
 .exact absurd n dc_
 refine WM [0,1,2,3,4,5,6,7,8] [] U kr_ λR d c=>Ws (bkT g 5) U8<|Wt U6<|Ws (bkT g 1) U8<|Wt U6<|WG h5.m_ U10 om_ (cM l) fl_ λM w=>Ws w U8<|WY (zR _ j.m_ _ B o f.m_ s m) U7 λN _ _ x=>Wv 2 U<|Ww [4,5] c U ?_;clear c d R;refine WE (zD U3 ?_);exact⟨U,_,U,x⟩
theorem HV (x y:Nat)(a:x<18446744073709551616)(b:y<18446744073709551616)(C:Mem):Gives cx.P 128 [.int .u64 x,.int .u64 y] C (.tuple #[.int .u64 ((x*y / 18446744073709551616:Nat):Int),.int .u64 ((x*y % 18446744073709551616:Nat):Int)]) :=
 Gives.ofCalls kr_ (λw=>Any.bits_Mul Tryz.mul x y a b w) C
theorem fQ {a:Value}{b:List Value}(_d:k+m<=n)(c:m<=k)(_e:b.length=n-k) :
  aC (List.replicate k a++b) ((List.replicate k a++b).take m) k=List.replicate (k+m) a++b.drop m:=by
 have h1:(List.replicate k a++b).take m=List.replicate m a:=by
  rw[List.take_append_of_le_length (by simpa using c),List.take_replicate,TJ c]
 have h2:(List.replicate k a++b).take k=List.replicate k a:=by
  rw[List.take_append_of_le_length am,List.take_replicate,Nat.min_self]
 have h3:(List.replicate k a++b).drop (k+m)=b.drop m:=by
  rw[VE,Tf,Uq am,UM];congr 1;omega
 unfold aC;rw[h1,h2,Tf,h3,List.replicate_append_replicate]
theorem BT (a:Value)(n:Nat):fK [a] n=List.replicate n a:=by
 rw[dJ];induction n with
|zero=>rfl
|succ n b=>rw[TN,TV,b,TN];rfl
theorem mB (n:Nat)(a:n<18446744073709551616)(C:Mem):Gives cx.P 128 [.int .u64 (1:Int),.int .u64 n] C (.tuple #[.int .u64 0,.int .u64 n]):=by
 have h:=HV 1 n om_ a C;have b:1*n / 18446744073709551616=0:=by omega
 have c:1*n % 18446744073709551616=n:=by omega
 rw[b,c]at h;exact h
theorem ka (C:Mem)(v:Value)(n:Nat)(s:Str)(g:Sl C 1 v [[ag s]])(y:n<=1000000):Jog.Fn cx.P 64 [v,i_ n] C [] λu _z e=>∃b,u=s_ b n n/\e=[.arr u 32 1 n (List.replicate n (ag s))]:=by
 have p:=g;obtain⟨A,c,rfl,_⟩:=p;refine Wy func64 48 U3 λw0=>U0 1 [0,1] U<|U0 2 [0,1,10] U<|G.cd (λh=>?_) λh=>?_
 .simp at h;omega
 refine U1 2 U λR d=>W7 (c:=1) U8 U fl_<|Wt U6<|W7 (c:=(n:Int)) U8 g_ fl_<|WC (mB n om_ _) U7 fl_<|C6 5 [0,5,6] d U<|U1 5 U λR d=>WX U8<|Ww [0,6,26] d U<|G.cd (λi=>?_) λi=>?_
 .simp at i;omega
 refine U1 1 U λR d=>W7 (c:=(n:Int)) U8 f_ fl_<|Xq U9 (SH _) (by show 16*n<=281474976710656;omega) y_ fl_ λa=>C6 1 [0,7] d U<|U1 2 U λR d=>X1 (j:=0) (q:=min 1 n) U12 g U2 (by rw[cH];show 0+min 1 n*1<=n*1;omega) fl_<|C6 1 [7,8] d U ?_;have r:aC (fK [ag []] n) (([[ag s]]:List (List Value)).take (min 1 n)).flatten 0=List.replicate (min 1 n) (ag s)++List.replicate (n-min 1 n) (ag []):=by
  rw[BT];cases n with
 |zero=>rfl
 |succ n=>rw[show min 1 (n+1)=1 by omega,TN];rfl
 refine WK (L':=[.arr (s_ a n n) 32 1 n (List.replicate (min 1 n) (ag s)++List.replicate (n-min 1 n) (ag []))]) (by rw[<- r];rfl)<|G.loop (λfr B e t=>∃(k:Nat),(k<=n/\min 1 n<=k)/\fr=[(7,[],s_ a n n),(8,[],i_ k)]/\e=[.arr (s_ a n n) 32 1 n (List.replicate k (ag s)++List.replicate (n-k) (ag []))]/\t=n-k) (hn_ [7,8] U) ⟨min 1 n,⟨Nat.min_le_right _ _,SH _⟩,U,U,U⟩ (λfr D E m w x=>?_);obtain⟨k,⟨l,F⟩,rfl,rfl,rfl⟩:=x;refine U0 4 [7,8,37] U<|G.cd (λf=>?_) λf=>?_
 .simp only[SS]at f;have o:k<n:=by omega
  have H:1<=k:=by omega
  refine WM [0,1,2,3,4,5,6,7,8,9] [] U kr_ λR I d=>Wv 3 U<|Xd k n n U12 (λ_=>⟨.inr ⟨_,U⟩,.inl ⟨U,U⟩,.inl ⟨U,U⟩,l,SH _,SH _⟩) U2<|Wv 2 U<|Xd 0 k n U12 (λ_=>⟨.inl ⟨U,U⟩,.inr ⟨_,U⟩,.inl ⟨U,U⟩,SM _,l,SH _⟩) U2 ?_;refine X0 (j:=0) (off:=k) (g0:=a) (dl:=n-k) (dc:=n-k) (sl:=k-0) (sc:=n-0) (q:=min k (n-k)) U8 (by show some (Value.slice (if n=k then some (⟨a,0,none⟩:Addr) else (some (⟨a,0,none⟩:Addr)).map (·.add (k*1))) (n-k) (n-k))=_;rw[aF om_];simp[Addr.add_lit]) (by show some (Value.slice (if n=0 then some (⟨a,0,none⟩:Addr) else (some (⟨a,0,none⟩:Addr)).map (·.add (0*1))) (k-0) (n-0))=_;split <;> simp[Addr.add_lit]) U2 (by simp[kS,ag]) ap fl_ ?_;refine WW (((k+min k (n-k):Nat):Int)) U4 om_ om_ om_ U2<|C6 1 [7,8] d U<|WK (L':=[.arr (s_ a n n) 32 1 n (List.replicate (k+min k (n-k)) (ag s)++List.replicate (n-(k+min k (n-k))) (ag []))]) (by rw[fQ (n:=n) om_ (Nat.min_le_left _ _) am,List.drop_replicate,Nat.sub_sub];rfl)<|WF (m':=n-(k+min k (n-k))) om_ w (hn_ [7,8] U) ⟨k+min k (n-k),⟨by omega,by omega⟩,U,U,U⟩
 simp only[Tk]at f;have o:k=n:=by omega
 subst o;refine U0 2 [4] U<|WE (W6 U U ?_);exact⟨a,U,by simp⟩
theorem EW (C:Mem)(v:Value)(n:Nat)(s:Str)(g:Sl C 1 v [[ag s]])(y:n<=1000000):Jog.Fn cx.P 292 [v,i_ n] C [] λu _z e=>∃b,u=s_ b n n/\e=[.arr u 32 1 n (List.replicate n (ag s))]:=by
 have p:=g;obtain⟨A,c,rfl,_⟩:=p;refine Wy func292 48 U3 λw0=>U0 1 [0,1] U<|U0 2 [0,1,10] U<|G.cd (λh=>?_) λh=>?_
 .simp at h;omega
 refine U1 2 U λR d=>W7 (c:=1) U8 U fl_<|Wt U6<|W7 (c:=(n:Int)) U8 g_ fl_<|WC (mB n om_ _) U7 fl_<|C6 5 [0,5,6] d U<|U1 5 U λR d=>WX U8<|Ww [0,6,26] d U<|G.cd (λi=>?_) λi=>?_
 .simp at i;omega
 refine U1 1 U λR d=>W7 (c:=(n:Int)) U8 f_ fl_<|Xq U9 (SH _) (by show 16*n<=281474976710656;omega) y_ fl_ λa=>C6 1 [0,7] d U<|U1 2 U λR d=>X1 (j:=0) (q:=min 1 n) U12 g U2 (by rw[cH];show 0+min 1 n*1<=n*1;omega) fl_<|C6 1 [7,8] d U ?_;have r:aC (fK [ag []] n) (([[ag s]]:List (List Value)).take (min 1 n)).flatten 0=List.replicate (min 1 n) (ag s)++List.replicate (n-min 1 n) (ag []):=by
  rw[BT];cases n with
 |zero=>rfl
 |succ n=>rw[show min 1 (n+1)=1 by omega,TN];rfl
 refine WK (L':=[.arr (s_ a n n) 32 1 n (List.replicate (min 1 n) (ag s)++List.replicate (n-min 1 n) (ag []))]) (by rw[<- r];rfl)<|G.loop (λfr B e t=>∃(k:Nat),(k<=n/\min 1 n<=k)/\fr=[(7,[],s_ a n n),(8,[],i_ k)]/\e=[.arr (s_ a n n) 32 1 n (List.replicate k (ag s)++List.replicate (n-k) (ag []))]/\t=n-k) (hn_ [7,8] U) ⟨min 1 n,⟨Nat.min_le_right _ _,SH _⟩,U,U,U⟩ (λfr D E m w x=>?_);obtain⟨k,⟨l,F⟩,rfl,rfl,rfl⟩:=x;refine U0 4 [7,8,37] U<|G.cd (λf=>?_) λf=>?_
 .simp only[SS]at f;have o:k<n:=by omega
  have H:1<=k:=by omega
  refine WM [0,1,2,3,4,5,6,7,8,9] [] U kr_ λR I d=>Wv 3 U<|Xd k n n U12 (λ_=>⟨.inr ⟨_,U⟩,.inl ⟨U,U⟩,.inl ⟨U,U⟩,l,SH _,SH _⟩) U2<|Wv 2 U<|Xd 0 k n U12 (λ_=>⟨.inl ⟨U,U⟩,.inr ⟨_,U⟩,.inl ⟨U,U⟩,SM _,l,SH _⟩) U2 ?_;refine X0 (j:=0) (off:=k) (g0:=a) (dl:=n-k) (dc:=n-k) (sl:=k-0) (sc:=n-0) (q:=min k (n-k)) U8 (by show some (Value.slice (if n=k then some (⟨a,0,none⟩:Addr) else (some (⟨a,0,none⟩:Addr)).map (·.add (k*1))) (n-k) (n-k))=_;rw[aF om_];simp[Addr.add_lit]) (by show some (Value.slice (if n=0 then some (⟨a,0,none⟩:Addr) else (some (⟨a,0,none⟩:Addr)).map (·.add (0*1))) (k-0) (n-0))=_;split <;> simp[Addr.add_lit]) U2 (by simp[kS,ag]) ap fl_ ?_;refine WW (((k+min k (n-k):Nat):Int)) U4 om_ om_ om_ U2<|C6 1 [7,8] d U<|WK (L':=[.arr (s_ a n n) 32 1 n (List.replicate (k+min k (n-k)) (ag s)++List.replicate (n-(k+min k (n-k))) (ag []))]) (by rw[fQ (n:=n) om_ (Nat.min_le_left _ _) am,List.drop_replicate,Nat.sub_sub];rfl)<|WF (m':=n-(k+min k (n-k))) om_ w (hn_ [7,8] U) ⟨k+min k (n-k),⟨by omega,by omega⟩,U,U,U⟩
 simp only[Tk]at f;have o:k=n:=by omega
 subst o;refine U0 2 [4] U<|WE (W6 U U ?_);exact⟨a,U,by simp⟩
theorem oX (C:Mem)(s p:Nat)(h:s*p<=100000):Jog.Fn cx.P 241 [gu s p] C [] λu _f c=>∃b,u=s_ b (s*p:Nat) (s*p:Nat)/\c=[.arr u 32 1 (s*p) (List.replicate (s*p) (ag [48]))]:=by
 refine Wy func241 7 U3 λw0=>Wu λR a=>WH U6 λg=>C6 1 [1] a U<|WQ [(3,3)] U λR a=>WP [[ag [48]]] U12 λi _ _ d=>WA ah U9<|WC (js _ s p om_) U7 fl_<|D.call (ka _ _ (s*p) [48] d.m_ om_) U (.inr dc_) U6 (SQ _) fl_ λj _ k _ e=>C6 1 [2] a U ?_;obtain⟨b,rfl,rfl⟩:=e;refine Xb 1 U<|WE (W6 U U ?_);exact⟨b,U,U⟩
def ofE (z:Int)(s p:Nat):Int:=if z≠0 then z else if 60<s*p then 4 else 0
def ofS (e:Int)(s p:Nat):Value:=if e=0 then gu s p else gu 0 0
structure BookZ (C:Mem)(bv:Value)(B:Bk)(z:Int):Prop where
 i:BookIn C bv B
 ch:∀D:Mem,C.le D->Gives cx.P 181 [bv] D (.int .i64 z)
 ne:z=0->B.col≠[]
 lc:B.col.length<=1000
 lp:B.pts.length<=400
theorem BookZ.mono {C D:Mem}{a:Value}{B:Bk}{z:Int}(h:BookZ C a B z)(c:C.le D):BookZ D a B z:=⟨h.i.mono c,λE d=>h.ch E (λb o e=>d b o (c b o e)),h.ne,h.lc,h.lp⟩
theorem BookZ.m_ {D:Mem}{B:Bk}(h:BookZ C bv B z)(a:C.le D:=by exact mup):BookZ D bv B z:=BookZ.mono h a
def bs (B:Bk):Nat:=B.col.length-1
def bp (B:Bk):Nat:=B.pts.length
theorem QG {B:Bk}(h:BookZ C bv B z):bs B*bp B<=400000:=by
 have h1:=h.lc;have h2:=h.lp;have:bs B*bp B<=1000*400:=T2 (by unfold bs;omega) (by unfold bp;omega);omega
theorem Re (C:Mem)(l:Value)(B:Bk)(z:Int)(c:BookZ C l B z):Gives cx.P 113 [l] C (.tuple #[ofS (ofE z (bs B) (bp B)) (bs B) (bp B),i_ (ofE z (bs B) (bp B))]):=by
 obtain⟨n,o,p,q,r,rfl,h1,h2,h3,h4,h5⟩:=id c.i.ex;obtain⟨s,t,rfl,u,v,_⟩:=id h1;obtain⟨w,x,rfl,y,A,_⟩:=id h4;have D:=QG c;have E:=c.lc;have m:=c.ch;have F:=mx_
 simp only[ar]at m⊢;refine Wy func113 26 U3 λw0=>Wu λR a=>WH U6 λH=>WI U5 λI=>C6 1 [1,2] a U<|G.freeze 1 U λ_ _ g=>Wu λR a=>Ws (bkT g 5) U8<|WD (m _ mup) U7<|C6 1 [1,2,4] a U<|U0 2 [1,2,4,9] U<|G.cd (λf=>?_) λf=>?_
 .have b:z≠0:=by
   intro e;rw[e]at f;exact absurd f dc_
  have d:ofE z (bs B) (bp B)=z:=by unfold ofE;rw[aL b]
  refine Wu λR a=>WL [i_ 0,i_ 0] U8<|Wt U6<|WB (j:=0) U12<|C6 1 [2,3] a U<|WE (XG ah U5 ?_);exact⟨by rw[d];unfold ofS;rw[aF b];rfl,U⟩
 have b:z=0:=by simpa using f
 have J:=Tw.2 (c.ne b);have K:bs B+1=B.col.length:=by unfold bs;omega
 refine U1 1 U λR a=>Ws (bkT g 1) U8<|Wt U6<|WW (((bs B:Nat):Int)) U4 om_ om_ om_ U2<|Wv 2 U<|Ws (bkT g 1) U8<|Wt U6<|WL [i_ (bs B:Nat),i_ (bp B:Nat)] U8<|WI U5 λL=>WB (j:=0) U12<|Ww [2,5] a U<|Wu λR a=>WA ah U9<|WC (js _ (bs B) (bp B) om_) U7 fl_<|C6 1 [2,5,23] a U<|G.cd (λh=>?_) λh=>?_
 .have k:60<bs B*bp B:=by
   have:=aT h;omega
  have d:ofE z (bs B) (bp B)=4:=by unfold ofE;rw[b,aF dc_,aL k]
  refine Wu λR a=>WL [i_ 0,i_ 0] U8<|WB (j:=1) U12<|C6 1 [2,3] a U<|WE (XG ah U5 ?_);exact⟨by rw[d];rfl,U⟩
 have k:¬ 60<bs B*bp B:=by
  have:=SJ h;omega
 have d:ofE z (bs B) (bp B)=0:=by unfold ofE;rw[b,aF dc_,aF k]
 refine Wu λR a=>WA ah U9<|WB (j:=1) U12<|C6 1 [2,3] a U<|WE (XG ah U5 ?_);exact⟨by rw[d];rfl,U⟩
theorem Mg (C:Mem)(c:Value)(B:Bk)(z:Int)(b:BookZ C c B z):Gives cx.P 92 [c] C (.tuple #[i_ (if ofE z (bs B) (bp B)=0 then ((bs B*bp B:Nat):Int) else 0),i_ (ofE z (bs B) (bp B))]):=by
 have s:=QG b;have g:=b;obtain⟨k,l,m,n,o,rfl,h1,h2,h3,h4,h5⟩:=id b.i.ex;let⟨e,d⟩:∃e,ofE z (bs B) (bp B)=e:=⟨_,rfl⟩;have f:∀D:Mem,C.le D->Gives cx.P 113 [.agg ⟨[k,l,m,n,o]⟩] D (.tuple #[ofS e (bs B) (bp B),i_ e]):=λD p=>by have h:=Re D _ B z (g.mono p);rwa [d]at h
 rw[d];have q:ofS e (bs B) (bp B)=.agg ⟨[i_ (if e=0 then ((bs B:Nat):Int) else 0),i_ (if e=0 then ((bp B:Nat):Int) else 0)]⟩:=by unfold ofS gu;split <;> rfl
 have r:∀D:Mem,Gives cx.P 149 [.agg ⟨[i_ (if e=0 then ((bs B:Nat):Int) else 0),i_ (if e=0 then ((bp B:Nat):Int) else 0)]⟩] D (i_ (if e=0 then ((bs B*bp B:Nat):Int) else 0)):=λD=>by
  by_cases h:e=0
  .rw[aL h,aL h,aL h];exact js D (bs B) (bp B) om_
  rw[aF h,aF h,aF h];exact js D 0 0 om_
 rw[q]at f;refine Wy func92 14 U3 λw0=>Wu λR a=>WH U6 λt=>C6 2 [1] a U<|Wu λR a=>WA ah U9<|WD (f _ mup) U7<|Wv 3 U<|WI U5 λu=>WB (j:=0) U12<|C6 1 [4,5] a U<|Wu λR a=>WA ah U9<|WD (r _) U7<|C6 3 [2,3] a U<|WE (zD U3 ?_);exact⟨U,U⟩
theorem O3 (C:Mem)(a:Value)(B:Bk)(b:BookZ C a B 0)(c:bs B*bp B<=60):Gives cx.P 113 [a] C (.tuple #[gu (bs B) (bp B),i_ 0]):=by
 have h:=Re C a B 0 b;have e:ofE 0 (bs B) (bp B)=0:=by unfold ofE;rw[aF dc_,aF om_]
 rw[e]at h;exact h
def tm (n:Nat)(done:List (Nat × Rat)):List Rat:=(List.range n).map λj=>(eh done j).getD 0
def sx (n:Nat)(done:List (Nat × Rat)):List Value:=(tm n done).map λq=>ag (qtx q)
theorem vI (n:Nat):List.replicate n (ag [48])=sx n []:=by
 unfold sx tm;rw[TH];symm;rw[List.eq_replicate_iff];refine⟨by simp,λv a=>?_⟩;obtain⟨j,_,rfl⟩:=SL.1 a;show ag (qtx 0)=_;rw[qtx_zero]
theorem vJ (n:Nat)(a:List (Nat × Rat)):(sx n a).length=n:=by simp[sx,tm]
theorem kv {a:Nat}(b:List (Nat × Rat))(q:Rat)(h:a<n):aC (sx n b) [ag (qtx q)] a=sx n ((a,q)::b):=by
 have f:=vJ n b;unfold aC;refine List.ext_getElem? (λj=>?_);have e:∀(d:List (Nat × Rat)),(sx n d)[j]?=if j<n then some (ag (qtx ((eh d j).getD 0))) else none:=λd=>by
  unfold sx tm;rw[TH,SI];split
  .rename_i c;rw[Tl c];rfl
  rename_i c;rw[SR (by simpa using Nat.le_of_not_lt c)];rfl
 rw[e ((a,q)::b)];have ht:((sx n b).take a).length=a:=by rw[S2,f];omega
 rcases Nat.lt_trichotomy j a with c|rfl|c
 .rw[Tn,Tz (by rw[ht];exact c),TA,aL c,e b,aL om_,aL om_];simp only[eh];rw[aF om_]
 .rw[Tn,Tj (by rw[ht];exact SH _),ht,VG,aL h];simp[eh]
 rw[Tj (by rw[SP,ht];simp;omega),SP,ht,List.getElem?_drop];rw[show a+[ag (qtx q)].length+(j-(a+[ag (qtx q)].length))=j by simp;omega,e b];split
 .simp only[eh];rw[aF om_]
 rfl
theorem xH {d a:List (Nat × Rat)}(h:d.Perm a)(b:(d.map (·.1)).Nodup):tm n d=tm n a:=by
 unfold tm;refine List.map_congr_left (λj _=>?_);rw[yu h b]
def jI (fm:List (Nat × Rat)):List (Int × Value):=fm.map λx=>(((x.1:Nat):Int),ag (qtx x.2))
def J0 (p surface:Nat)(sign:Rat)(x:Nat × Rat):Nat × Rat:=(surface*p+x.1,sign*x.2)
theorem nU:QB 1 (-1:Rat):=eQ QB_one
theorem Aj (C:Mem)(s p a k:Nat)(h:a*p+k<=1000000):Gives cx.P 240 [gu s p,i_ (a:Nat),i_ (k:Nat)] C (i_ ((a*p+k:Nat):Int)):=by
 have e:((a:Nat):Int)*(p:Nat)=((a*p:Nat):Int):=(Tc _ _).symm;have h2:=QR C s p (a:Nat) (k:Nat) (by rw[e];omega) om_;rw[e,<- Vw]at h2;exact h2
def KJ (s p surface:Nat)(fm:List (Nat × Rat))(sign:Rat):List Rat:=tm (s*p) (fm.map (J0 p surface sign))
abbrev zae:=λz=>Ent.obj z (.cells ⟨[.slice none 0 0,ag []]⟩ 140 (0,0))
theorem QW (C:Mem)(J:Tabs C)(s p f b:Nat)(c:List (Nat × Rat))(g o:Rat)(k:Nat)(K:0<k)(hk:k<=1000)(ab:s*p<=100000)(hs:f<s)(A:C b=some (bh keyZ.enc (jI c)))(ac:(c.map (·.1)).Nodup)(ad:∀x∈c,x.1<p)(ae:∀x∈c,QB k x.2)(L:QB k g)(af:QB k o) :
  Pur cx.P 246 [gu s p,i_ f,.map (some b),ag (qtx g),ag (qtx o)] C λu D=>∃v,u=.agg ⟨[v,ag (qtx (g*o))]⟩/\Sl D 1 v ((KJ s p f c g).map dH):=by
 have aw:=mx_
 have M:(jI c).length=c.length:=by simp[jI]
 have ax:f*p+p<=s*p:=by
  rw[<- Nat.succ_mul];exact To _ hs
 have ay:=(c.map (·.1)).length;refine Wy func246 38 U3 λw0=>Wu λR l=>WH U6 λb5=>WI U5 λz=>Ww [1,2,3,4,5,10] l U<|G.freeze 1 U λ_ _ N=>WQ [(1,3)] U λR l=>Ws (bkT N 2) U8<|D.call (oX _ s p ab) U (.inr dc_) U6 (SQ _) fl_ (λaz _ aA _ ai=>?_);obtain⟨bz,rfl,rfl⟩:=ai;refine Wv 2 U<|WC (cX _ J.m_ g o k K om_ L af) U7 fl_<|WL [s_ bz (s*p:Nat) (s*p:Nat),ag (qtx (g*o))] U8<|WI U5 λak=>WB (j:=0) U12<|Ww [1,2,3,5,10,11] l U<|G.freeze 0 U λ_ _ O=>WK (L':=[.arr (s_ bz (s*p) (s*p)) 32 1 (s*p) (sx (s*p) []),zae z]) (by rw[vI];rfl)<|U1 1 U λR l=>YD keyZ (Mem.get A mup) U U U U U U U fl_ λE=>Ww [1,3,5,10,11,21] l U<|G.loop (λfr C' B μ=>∃(seen:List Nat),(seen.Nodup/\(∀j∈seen,j<c.length))/\fr=[(1,[],i_ f),(3,[],ag (qtx g)),(5,[],p_ b5),(10,[],p_ z),(11,[],p_ ak),(21,[],p_ E)]/\B=[.obj E (bl b (jI c).length seen),.arr (s_ bz (s*p) (s*p)) 32 1 (s*p) (sx (s*p) (seen.reverse.map λi=>J0 p f g (c.getD i (0,0)))),zae z]/\μ=c.length-seen.length) (hn_ [1,3,5,10,11,21] U) ⟨[],⟨List.nodup_nil,by simp⟩,U,U,U⟩ (λfr aB aC m _ hI=>?_);obtain⟨seen,⟨Q,S⟩,rfl,rfl,rfl⟩:=hI;refine Wu λR l=>YJ keyZ (q:=0) (Mem.get A mup) U U U U U U fl_ λT aD t V=>C6 1 [1,3,5,10,11,21,23] l U<|G.cd (λw=>?_) λw=>?_
 .obtain⟨aE,j,F,am,rfl⟩:T=true/\∃j,j<(jI c).length/\j ∉ seen/\t=seen++[j]:=by
   rcases V with⟨h1,_⟩|h1
   .rw[h1]at w;cases w
   exact h1
  rw[M]at F;let⟨⟨n,q⟩,H⟩:∃x,c[j]?=some x:=⟨c[j],aj F⟩;have W:=aK H;have aF:n<p:=ad _ W;have an:QB k q:=ae _ W;have ao:(jI c)[j]?=some (((n:Nat):Int),ag (qtx q)):=by unfold jI;rw[SI,H];rfl
  have ap:c.getD j (0,0)=(n,q):=by rw[al,H];rfl
  have X:(seen++[j]).Nodup:=by
   rw[Un];exact⟨Q,by simp,λa ha b hb e=>by rw[S6.1 hb]at e;subst e;exact am ha⟩
  have Y:∀i∈seen++[j],i<c.length:=λi I=>by
   rcases SZ.1 I with h|h
   .exact S i h
   rw[S6.1 h];exact F
  have aG:(seen++[j]).length<=c.length:=by
   have:=List.Nodup.length_le_of_subset X (l₂:=List.range c.length) (λi I=>S7.2 (Y i I));simpa using this
  have aH:(seen++[j]).length=seen.length+1:=by simp
  have aq:f*p+n<s*p:=by omega
  refine Wu λR l=>YG keyZ (Mem.get A mup) ao ah U U U U U U U<|C6 4 [1,3,5,10,11,12,13,21] l U<|WM [0,1,2,3,4,5,6,7,8,9,10] [(5,1),(8,1)] U kr_ λR hB l=>Wt U6<|Ws (bkT O 1) U8<|Ws (bkT N 2) U8<|Wv 2 U<|WN (λ_=>(Aj _ s p f n om_)) U9<|Wv 2 U<|WN (λ_=>(cX _ J.m_ g q k K om_ L an)) U9<|WV ((f*p+n)) U10 (λ_=>⟨by omega,by omega,(T0 _).symm⟩) U2<|WZ (j:=1) U11 (by rw[vJ];simp;omega)<|Ww [1,3,5,10,11,21] l U<|G.perm (L':=[.obj E (bl b (jI c).length (seen++[j])),.arr (s_ bz (s*p) (s*p)) 32 1 (s*p) (sx (s*p) ((seen++[j]).reverse.map λi=>J0 p f g (c.getD i (0,0)))),zae z]) (by
   rw[List.reverse_append,List.reverse_singleton,List.singleton_append,Tq,ap];unfold J0;rw[<- kv _ _ aq];exact List.Perm.swap _ _ _) ?_
  refine WF (m':=c.length-(seen++[j]).length) om_ mup (hn_ [1,3,5,10,11,21] U) ⟨seen++[j],⟨X,Y⟩,U,U,U⟩
 obtain⟨aI,rfl,Z⟩:T=false/\t=seen/\∀j,j<(jI c).length->j∈seen:=by
  rcases V with h1|⟨h1,_⟩
  .exact h1
  rw[h1]at w;cases w
 rw[M]at Z;have aa:(t.reverse.map λi=>J0 p f g (c.getD i (0,0))).Perm (c.map (J0 p f g)):=by
  have h1:=(qG (d:=((0:Nat),(0:Rat))) Q S Z).map (J0 p f g);rw[TH]at h1;exact((List.reverse_perm t).map _).trans h1
 have ar:((c.map (J0 p f g)).map (·.1)).Nodup:=by
  rw[TH];have e:((·.1) ∘ J0 p f g:Nat × Rat->Nat)=(λk=>f*p+k) ∘ (·.1):=rfl;rw[e,<- TH];rw[List.Nodup,List.pairwise_map];exact ac.imp (fun {a b} h=>by omega)
 have au:sx (s*p) (t.reverse.map λi=>J0 p f g (c.getD i (0,0)))=((KJ s p f c g).map dH).flatten:=by
  unfold KJ sx;rw[xH aa ((aa.map (·.1)).nodup_iff.2 ar)];exact(eF (λq=>ag (qtx q)) _).symm
 refine Xb 0 U<|G.freezeArr 0 ((KJ s p f c g).map dH) rfl au (by intro r hr;obtain⟨y,_,rfl⟩:=SL.1 hr;rfl) (by simp[KJ,tm]) λCg hg av=>Wu λR l=>Ws (bkT O 2) U8<|WB (j:=0) U12<|Ww [10] l U<|WE (Xi ah U4 ?_);exact⟨U,_,U,av⟩
end Go.Proofs.YtfjcldheldflbaaGreatDoor
