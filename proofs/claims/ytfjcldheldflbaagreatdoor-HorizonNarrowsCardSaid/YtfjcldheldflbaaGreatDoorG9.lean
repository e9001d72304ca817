/- Laws that the proofs of this seat share, part 9. -/
import Derived.Test.YtfjcldheldflbaaGreatDoorG8
import Derived.Test.YtfjcldheldflbaaGreatDoorShelf
set_option maxHeartbeats 4000000
namespace Go.Proofs.YtfjcldheldflbaaGreatDoor
open Go.Proofs.Tryz
open Go Go.Jog
set_option maxRecDepth 100000
variable {C:Mem}{a b:Rat}{bv:Value}{c:Rat}{fs:List Rat}{i k m n:Nat}{p:Pt}{pts:List Pt}{q:Rat}{t:Tri}{tris:List Tri}{z:Int}{α:Type}
theorem cq {f:α->List Value}{l:List α}{x:α}(h:l[i]?=some x):(l.map f)[i]?=some (f x):=by rw [QD,h];rfl
def nR (n:Nat)(l:List Str):Int:=if l.length=n then oC (l.all aW) else 5
theorem yo (C:Mem)(y:Tabs C)(z v A:Value)(b:List Pt)(f:List Tri)(l:List Str)(B:MeshIn C z b f)(D:Good b f)(g:Sl C 1 v [[A]])(k:Sl C 1 A (l.map eA))(N:∀ s∈l,s.length<=999998) :
  Gives cx.P 61 [z,v] C (.int .i64 (nR b.length l)):=by
 have E:=B;have aa:=D.ok.lp;obtain ⟨v1,v2,rfl,h1,h2⟩:=id B.ex;obtain ⟨A1,c1,rfl,ab,ac,_⟩:=id h1;obtain ⟨F,H,rfl,ad,ae,_⟩:=id g;obtain ⟨n,o,rfl,O,af,_⟩:=id k;have ag:maxLen<=9223372036854775807:=by simp [maxLen]
 simp only [ar,QA] at h1 g k E O ⊢;refine Ur func61 41 U3 fun w0=>Ul fun R a=>UC U6 fun I=>C6 1 [1,2] a Z<|G.freeze 0 Z fun _ _ J=>Ul fun R a=>Uj (PtrTo.block (Mem.get J mup) _) U8<|Ut (gG _ y.m_ _ b f E.m_ D) U7<|C6 1 [1,2,5] a Z<|Uh 2 [1,2,5,14] Z<|G.cd (fun K=>?_) fun K=>?_
 ·exact absurd K dc_
 refine Uh 3 [2,16,17,18] Z<|G.loop (fun fr Q p q=>∃ (i:Nat),(i<=1/\(i=1->l.length=b.length/\l.all aW=true))/\fr=[(2,[],.pointer (some ⟨I,0,none⟩)),(16,[],.slice F 1 H),(17,[],.int .i64 1),(18,[],.int .i64 i)]/\p=[]/\q=1-i) (hn_ [2,16,17,18] Z) ⟨0,⟨QH _,fun h=>absurd h dc_⟩,Z,Z,Z⟩ (fun fr ah ai m _ r=>?_);obtain ⟨i,⟨hi,S⟩,rfl,rfl,rfl⟩:=r;refine Uh 1 [2,16,17,18,19] Z<|G.cd (fun t=>?_) fun t=>?_
 ·obtain rfl:i=0:=by
   simp only [QK] at t;omega
  refine Ul fun R a=>Uy g.m_ U10 om_ (rfl:([[.slice n l.length o]]:List (List Value))[0]?=some [.slice n l.length o]) fl_ fun ak T=>Uj T U8<|C6 1 [2,7,16,17,18] a Z<|Ui 3 Z fun R a=>Uj (PtrTo.block (Mem.get J mup) _) U8<|C6 2 [2,7,16,17,18,27] a Z<|G.cd (fun d=>?_) fun d=>?_
  ·have U:l.length≠b.length:=by
    intro e;rw [e] at d;simp at d
   exact Uh 1 [4] Z<|Up U2<|⟨by unfold nR;rw [aF U],Z⟩
  have L:l.length=b.length:=by
   have h:((l.length:Nat):Int)=(b.length:Nat):=by simpa using d
   omega
  refine Uh 3 [2,16,17,18,28,29,30] Z<|G.loop (fun fr Q p q=>∃ (j:Nat),(j<=l.length/\(l.take j).all aW=true)/\fr=[(2,[],.pointer (some ⟨I,0,none⟩)),(16,[],.slice F 1 H),(17,[],.int .i64 1),(18,[],.int .i64 0),(28,[],.slice n l.length o),(29,[],.int .i64 l.length),(30,[],.int .i64 j)]/\p=[]/\q=l.length-j) (hn_ [2,16,17,18,28,29,30] Z) ⟨0,⟨QH _,by simp⟩,Z,Z,Z⟩ (fun fr al am m V r=>?_);obtain ⟨j,⟨hj,u⟩,rfl,rfl,rfl⟩:=r;refine Uh 1 [2,16,17,18,28,29,30,31] Z<|G.cd (fun w=>?_) fun w=>?_
  ·have x:j<l.length:=by simpa using w
   obtain ⟨s,hs⟩:∃ s,l[j]?=some s:=⟨l[j],aj x⟩;refine Ul fun R a=>Uy k.m_ U10 om_ (cq hs) fl_ fun an W=>Uj W U8<|C6 1 [2,9,16,17,18,28,29,30] a Z<|Ui 1 Z fun R a=>Ut (dE _ y.m_ s (N s (aX hs))) U7<|C6 1 [2,10,16,17,18,28,29,30] a Z<|Uh 2 [2,10,16,17,18,28,29,30,37] Z<|G.cd (fun c=>?_) fun c=>?_
   ·have M:aW s=false:=by
     rcases ff (aW s) with ⟨h1,h2⟩ | ⟨h1,h2⟩
     ·rw [h1] at c;exact absurd c dc_
     exact h2
    refine Uh 2 [4] Z<|Up U2<|⟨?_,Z⟩;unfold nR;rw [aJ L,M,show l.all aW=false from Tn.2 ⟨s,aX hs,by rw [M];decide⟩]
   have X:aW s=true:=by
    rcases ff (aW s) with ⟨h1,h2⟩ | ⟨h1,h2⟩
    ·exact h2
    rw [h1] at c;exact absurd c dc_
   refine Ul fun R a=>Uq _ Z U6<|C6 1 [2,16,17,18,28,29,30] a Z<|Uw (m':=l.length-(j+1)) om_ V (hn_ [2,16,17,18,28,29,30] Z) ⟨j+1,⟨by omega,by rw [Q4,hs,T8,u];simp [X]⟩,Z,Z,Z⟩
  have x:j=l.length:=by
   have:¬ j<l.length:=by simpa using w
   omega
  refine Ul fun R a=>Uq _ Z U6<|C6 1 [2,16,17,18] a Z<|Uw (m':=0) om_ mup (hn_ [2,16,17,18] Z) ⟨1,⟨Qz _,fun _=>⟨L,by rw [x,QM] at u;exact u⟩⟩,Z,Z,Z⟩
 have Y:i=1:=by
  simp only [Q7] at t;omega
 refine Uh 1 [4] Z<|Up U2<|⟨?_,Z⟩;obtain ⟨h3,h4⟩:=S Y;unfold nR;rw [aJ h3,h4];rfl
theorem mm (C:Mem)(h:Tabs C)(e f:Value)(a:List Pt)(b:List Tri)(l:List Str)(g:MeshIn C e a b)(i:Good a b)(c:Sl C 1 f (l.map eA))(j:∀ s∈l,s.length<=999998) :
  Gives cx.P 217 [e,f] C (.int .i64 (nR a.length l)):=by
 have k:=g;obtain ⟨p,q,rfl,h1,h2⟩:=id g.ex;obtain ⟨m,n,rfl,r,t,_⟩:=id c;simp only [ar] at c ⊢;exact Ur func217 9 U3 fun w0=>Ul fun R d=>UC U6 fun u=>C6 1 [1,2] d Z<|Ul fun R d=>Uo ag U9<|Uk U6<|UF [[.slice m l.length n]] U12 fun v _ _ o=>Ut (yo _ h.m_ _ _ _ a b l k.m_ i o.m_ c.m_ j) U7<|C6 1 [4] d Z<|Up U2<|⟨Z,Z⟩
def eM (q:Rat):List Value:=[af (qtx q)]
def fz (fs:List Rat)(t:Tri)(j:Nat):Rat:=fs.getD (dw t j) 0
def zO (pts:List Pt)(fs:List Rat)(t:Tri)(j:Nat):List Value:=gl (cor pts t j)++eM (fz fs t j)
theorem Hi (h:i<fs.length):fs[i]?=some (fs.getD i 0):=by
 rw [am,aj h];rfl
theorem zH (C:Mem)(r s:Value)(b:List Pt)(l:List Tri)(c:List Rat)(z:MeshIn C r b l)(A:MeshOk b l)(e:Sl C 1 s (c.map eM))(n:c.length=b.length)(i:Nat)(t:Tri)(o:l[i]?=some t) :
  Gives cx.P 192 [r,s,.int .i64 i] C (.agg ⟨zO b c t 0++zO b c t 1++zO b c t 2⟩):=by
 have d:=A.ins t (aX o);obtain ⟨M,N,rfl,h1,h2⟩:=id z.ex;obtain ⟨O,Q,rfl,B,S,_⟩:=id h1;obtain ⟨A2,c2,rfl,D,T,_⟩:=id h2;obtain ⟨E,F,rfl,U,V,_⟩:=id e;have W:maxLen<=9223372036854775807:=by simp [maxLen]
 simp only [ar] at h1 h2 e B D ⊢;have X:=(aL.1 o).1;refine Ur func192 32 U3 fun w0=>?_;refine Ul fun R a=>?_;refine UC U6 (fun H=>?_);refine UB U5 (fun u=>?_);refine Un [1,2,3,6] a Z ?_;refine G.freeze 1 Z (fun _ _ h=>?_);refine Ui 1 Z fun R a=>?_;refine Uj (PtrTo.block (Mem.get h mup) _) U8 ?_;refine Uk U6 ?_;refine Uy h2.m_ U10 om_ (cq o) fl_ (fun Y I=>?_);refine Uj I U8 ?_;refine C6 1 [1,3,6,13,14] a Z ?_;refine G.loop (fun fr C' J K=>∃ (j:Nat),(j<=3)/\fr=[(1,[],.slice E c.length F),(3,[],.pointer (some ⟨H,0,none⟩)),(6,[],.pointer (some ⟨u,0,none⟩)),(13,[],.agg ⟨iu t⟩),(14,[],.int .i64 j)]/\J=[.obj u (.cells ⟨(List.range 3).flatMap fun k=>if k<j then zO b c t k else [af [],af [],af []]⟩ 279 (0,0))]/\K=3-j) (hn_ [1,3,6,13,14] Z) ⟨0,QH _,Z,Z,Z⟩ (fun fr aa ab m p L=>?_);obtain ⟨j,hj,rfl,rfl,rfl⟩:=L;refine Uh 1 [1,3,6,13,14,15] Z ?_;refine G.cd (fun q=>?_) fun q=>?_
 ·have v:j<3:=by
   simp only [QK] at q;omega
  rcases (by omega:j=0∨j=1∨j=2) with rfl | rfl | rfl
  ·refine Ui 1 Z fun R a=>?_;refine Vj U11 ah U2 ?_;refine C6 2 [1,3,6,7,8,13,14] a Z ?_;refine UD [0,1,2,3,4,5,6,7,8,9,10,11,12] [] Z kr_ (fun R w a=>?_);refine Um 2 Z ?_;refine Uj (PtrTo.block (Mem.get h mup) _) U8 ?_;refine Uk U6 ?_;refine Uy h1.m_ U10 om_ (cq (pE (eo d 0))) fl_ (fun x f=>?_);refine Uj f U8 ?_;refine Um 2 Z ?_;refine Uy e.m_ U10 om_ (cq (Hi (n ▸ eo d 0))) fl_ (fun y g=>?_);refine Uj g U8 ?_;refine UA (zO b c t 0) U8 ?_;refine UE (_) U9 ah U2 ?_;refine Us (j:=0) U12 ?_;refine Un [1,3,6,13,14] a Z ?_;refine Ul fun R a=>?_;refine Uq _ Z U6 ?_;refine C6 1 [1,3,6,13,14] a Z ?_;refine Uw (m':=2) om_ p (hn_ [1,3,6,13,14] Z) ⟨1,by decide,Z,Z,Z⟩
  ·refine Ui 1 Z fun R a=>?_;refine Vj U11 ah U2 ?_;refine C6 2 [1,3,6,7,8,13,14] a Z ?_;refine UD [0,1,2,3,4,5,6,7,8,9,10,11,12] [] Z kr_ (fun R w a=>?_);refine Um 2 Z ?_;refine Uj (PtrTo.block (Mem.get h mup) _) U8 ?_;refine Uk U6 ?_;refine Uy h1.m_ U10 om_ (cq (pE (eo d 1))) fl_ (fun x f=>?_);refine Uj f U8 ?_;refine Um 2 Z ?_;refine Uy e.m_ U10 om_ (cq (Hi (n ▸ eo d 1))) fl_ (fun y g=>?_);refine Uj g U8 ?_;refine UA (zO b c t 1) U8 ?_;refine UE (_) U9 ah U2 ?_;refine Us (j:=0) U12 ?_;refine Un [1,3,6,13,14] a Z ?_;refine Ul fun R a=>?_;refine Uq _ Z U6 ?_;refine C6 1 [1,3,6,13,14] a Z ?_;refine Uw (m':=1) om_ p (hn_ [1,3,6,13,14] Z) ⟨2,by decide,Z,Z,Z⟩
  refine Ui 1 Z fun R a=>?_;refine Vj U11 ah U2 ?_;refine C6 2 [1,3,6,7,8,13,14] a Z ?_;refine UD [0,1,2,3,4,5,6,7,8,9,10,11,12] [] Z kr_ (fun R w a=>?_);refine Um 2 Z ?_;refine Uj (PtrTo.block (Mem.get h mup) _) U8 ?_;refine Uk U6 ?_;refine Uy h1.m_ U10 om_ (cq (pE (eo d 2))) fl_ (fun x f=>?_);refine Uj f U8 ?_;refine Um 2 Z ?_;refine Uy e.m_ U10 om_ (cq (Hi (n ▸ eo d 2))) fl_ (fun y g=>?_);refine Uj g U8 ?_;refine UA (zO b c t 2) U8 ?_;refine UE (_) U9 ah U2 ?_;refine Us (j:=0) U12 ?_;refine Un [1,3,6,13,14] a Z ?_;refine Ul fun R a=>?_;refine Uq _ Z U6 ?_;refine C6 1 [1,3,6,13,14] a Z ?_;refine Uw (m':=0) om_ p (hn_ [1,3,6,13,14] Z) ⟨3,by decide,Z,Z,Z⟩
 have v:j=3:=by
  simp only [Q7] at q;omega
 subst v;refine Ul fun R a=>?_;refine Uo ag U9 ?_;refine Us (j:=0) U12 ?_;refine Un [6] a Z ?_;refine Uv (Va ag U4 ?_);exact ⟨Z,Z⟩
/-! Finer bounds. -/
theorem jx (c:QB k a)(d:QB m b):QB (k+m) (a*b):=by
 rw [gC];refine ig (Nat.mul_ne_zero a.den_nz b.den_nz) ?_ ?_
 ·rw [R8,S9];exact Si c.1 d.1
 rw [S9];exact Si c.2 d.2
theorem vE (c:QB k a)(d:QB m b):QB (k+m+1) (a+b):=by
 rw [fC];have e:B9 ^ (k+m+1)=B9 ^ k*B9 ^ m*B9:=by rw [RX,S9]
 have f:(a.num*b.den).natAbs<B9 ^ k*B9 ^ m:=by rw [R8,Rp];exact Si c.1 d.2
 have g:(b.num*a.den).natAbs<B9 ^ k*B9 ^ m:=by rw [R8,Rp,Rm];exact Si c.2 d.1
 have h:a.den*b.den<B9 ^ k*B9 ^ m:=Si c.2 d.2;have i:2*(B9 ^ k*B9 ^ m)<=B9 ^ k*B9 ^ m*B9:=by
  rw [Rm];exact R3 _ dc_
 refine ig (Nat.mul_ne_zero a.den_nz b.den_nz) ?_ ?_
 ·rw [e];have:=Tm (a.num*b.den) (b.num*a.den);omega
 rw [e];omega
theorem fk (c:QB k a)(d:QB m b):QB (k+m+1) (a-b):=by
 rw [TJ];exact vE c (eR d)
theorem QB_one:QB 1 1:=⟨by decide,by decide⟩
theorem QB_zero:QB 1 0:=⟨by decide,by decide⟩
def eD (a b c d:Rat):Rat:=a*d-b*c
theorem qF (C:Mem)(e:Tabs C)(a b c d:Rat)(k:Nat)(f:0<k)(m:k<=2000)(g:QB k a)(h:QB k b)(i:QB k c)(j:QB k d):Gives cx.P 193 [af (qtx a),af (qtx b),af (qtx c),af (qtx d)] C (af (qtx (eD a b c d))):=by
 exact Ur func193 16 U3 fun w0=>Uh 1 [0,1,2,3] Z<|Ui 2 Z fun R l=>Uu (dm _ e.m_ a d k f om_ g j) U7 fl_<|Um 2 Z<|Uu (dm _ e.m_ b c k f om_ h i) U7 fl_<|Uu (er _ e.m_ (a*d) (b*c) (k+k) om_ om_ (rn g j) (rn h i)) U7 fl_<|C6 1 [8] l Z<|Up U2<|⟨Z,Z⟩
theorem kh {d:Rat}(e:QB k a)(f:QB k b)(g:QB k c)(h:QB k d):QB (4*k+1) (eD a b c d):=(fk (jx e h) (jx f g)).le om_
def nL (c0 c1 c2:Pt)(z0 z1 z2:Rat):Pt :=
 ((1 / eD (c1.1-c0.1) (c1.2-c0.2) (c2.1-c0.1) (c2.2-c0.2))*eD (z1-z0) (c1.2-c0.2) (z2-z0) (c2.2-c0.2),
 (1 / eD (c1.1-c0.1) (c1.2-c0.2) (c2.1-c0.1) (c2.2-c0.2))*eD (c1.1-c0.1) (z1-z0) (c2.1-c0.1) (z2-z0))
def dC (pts:List Pt)(fs:List Rat)(t:Tri):Pt:=nL (cor pts t 0) (cor pts t 1) (cor pts t 2) (fz fs t 0) (fz fs t 1) (fz fs t 2)
theorem NC (a:MeshOk pts tris)(b:fs.length=pts.length)(c:∀ q∈fs,QB k q)(d:t∈tris)(j:Nat):QB k (fz fs t j) :=
 c _ (aX (Hi (b ▸ eo (a.ins t d) j)))
theorem wu (d:MeshOk pts tris)(g:fs.length=pts.length)(h:∀ q∈fs,QB k q)(e:t∈tris):QP (8*k+39) (dC pts fs t):=by
 have a:=fun j=>nS d e j;have f:=fun j=>NC d g h e j;have b:∀ i j,QB 3 ((cor pts t i).1-(cor pts t j).1):=fun i j=>(fk (a i).1 (a j).1).le dc_;have hy:∀ i j,QB 3 ((cor pts t i).2-(cor pts t j).2):=fun i j=>(fk (a i).2 (a j).2).le dc_;have c:∀ i j,QB (2*k+1) (fz fs t i-fz fs t j):=fun i j=>(fk (f i) (f j)).le om_;have hm:QB 13 (eD ((cor pts t 1).1-(cor pts t 0).1) ((cor pts t 1).2-(cor pts t 0).2) ((cor pts t 2).1-(cor pts t 0).1) ((cor pts t 2).2-(cor pts t 0).2)):=(kh (k:=3) (b 1 0) (hy 1 0) (b 2 0) (hy 2 0)).le dc_;have l:eD ((cor pts t 1).1-(cor pts t 0).1) ((cor pts t 1).2-(cor pts t 0).2) ((cor pts t 2).1-(cor pts t 0).1) ((cor pts t 2).2-(cor pts t 0).2)≠0:=ip d e;have h1:QB 26 _:=(jy (k:=13) (QB_one.le dc_) hm l).le dc_;have m:QB (4*(2*k+3)+1) (eD (fz fs t 1-fz fs t 0) ((cor pts t 1).2-(cor pts t 0).2) (fz fs t 2-fz fs t 0) ((cor pts t 2).2-(cor pts t 0).2)):=kh (k:=2*k+3) ((c 1 0).le om_) ((hy 1 0).le om_) ((c 2 0).le om_) ((hy 2 0).le om_);have n:QB (4*(2*k+3)+1) (eD ((cor pts t 1).1-(cor pts t 0).1) (fz fs t 1-fz fs t 0) ((cor pts t 2).1-(cor pts t 0).1) (fz fs t 2-fz fs t 0)):=kh (k:=2*k+3) ((b 1 0).le om_) ((c 1 0).le om_) ((b 2 0).le om_) ((c 2 0).le om_);exact ⟨(jx h1 m).le om_,(jx h1 n).le om_⟩
theorem xK (C:Mem)(d:Tabs C)(r s:Value)(a:List Pt)(n:List Tri)(b:List Rat)(k:Nat)(u:0<k)(K:k<=100)(v:MeshIn C r a n)(o:MeshOk a n)(D:Sl C 1 s (b.map eM))(w:b.length=a.length)(E:∀ q∈b,QB k q)(i:Nat)(t:Tri)(x:n[i]?=some t) :
  Gives cx.P 125 [r,s,.int .i64 i] C (ptV (dC a b t)):=by
 have p:=aX x;have F:=v;obtain ⟨L,M,rfl,h1,h2⟩:=id v.ex;have e:=fun j=>nS o p j;have m:=fun j=>NC o w E p j;have g:∀ i j,QB 3 ((cor a t i).1-(cor a t j).1):=fun i j=>(fk (e i).1 (e j).1).le dc_;have hy:∀ i j,QB 3 ((cor a t i).2-(cor a t j).2):=fun i j=>(fk (e i).2 (e j).2).le dc_;have l:∀ i j,QB (2*k+1) (fz b t i-fz b t j):=fun i j=>(fk (m i) (m j)).le om_;have y:QB 13 (eD ((cor a t 1).1-(cor a t 0).1) ((cor a t 1).2-(cor a t 0).2) ((cor a t 2).1-(cor a t 0).1) ((cor a t 2).2-(cor a t 0).2)):=(kh (k:=3) (g 1 0) (hy 1 0) (g 2 0) (hy 2 0)).le dc_;have z:eD ((cor a t 1).1-(cor a t 0).1) ((cor a t 1).2-(cor a t 0).2) ((cor a t 2).1-(cor a t 0).1) ((cor a t 2).2-(cor a t 0).2)≠0:=ip o p;have A:QB 26 (1 / eD ((cor a t 1).1-(cor a t 0).1) ((cor a t 1).2-(cor a t 0).2) ((cor a t 2).1-(cor a t 0).1) ((cor a t 2).2-(cor a t 0).2)):=(jy (k:=13) (QB_one.le dc_) y z).le dc_;have H:QB (8*k+26) (eD (fz b t 1-fz b t 0) ((cor a t 1).2-(cor a t 0).2) (fz b t 2-fz b t 0) ((cor a t 2).2-(cor a t 0).2)):=(kh (k:=2*k+3) ((l 1 0).le om_) ((hy 1 0).le om_) ((l 2 0).le om_) ((hy 2 0).le om_)).le om_;have I:QB (8*k+26) (eD ((cor a t 1).1-(cor a t 0).1) (fz b t 1-fz b t 0) ((cor a t 2).1-(cor a t 0).1) (fz b t 2-fz b t 0)):=(kh (k:=2*k+3) ((g 1 0).le om_) ((l 1 0).le om_) ((g 2 0).le om_) ((l 2 0).le om_)).le om_;refine Ur func125 98 U3 fun w0=>?_;refine Ul fun R c=>?_;refine UC U6 (fun N=>?_);refine UB U5 (fun O=>?_);refine Un [1,2,3,6] c Z ?_;refine Ul fun R c=>?_;refine Uo ae U9 ?_;refine Um 2 Z ?_;refine Ut (zH _ _ _ a n b F.m_ o D.m_ w i t x) U7 ?_;refine UB U5 (fun Q=>?_);refine Us (j:=0) U12 ?_;refine Un [6,7] c Z ?_;refine G.freeze 0 Z (fun J _ f=>?_);refine UD [0,1,2,3,4,5,6,7,8,9,10,11,12,13,14,15,16,17,18,19] [(8,1),(17,1)] Z kr_ (fun R B c=>?_);refine UE (3) U9 ah U2 ?_;refine Um 2 Z ?_;refine Uj (bkT f 1) U8 ?_;refine UE (0) U9 ah U2 ?_;refine Um 2 Z ?_;refine Uj (bkT f 1) U8 ?_;refine UG (fun _=>(er _ d.m_ (cor a t 1).1 (cor a t 0).1 1 dc_ dc_ (e 1).1 (e 0).1)) U9 ?_;refine UE (3) U9 ah U2 ?_;refine Um 2 Z ?_;refine Uj (bkT f 1) U8 ?_;refine UE (0) U9 ah U2 ?_;refine Um 2 Z ?_;refine Uj (bkT f 1) U8 ?_;refine UG (fun _=>(er _ d.m_ (cor a t 1).2 (cor a t 0).2 1 dc_ dc_ (e 1).2 (e 0).2)) U9 ?_;refine C6 2 [6,7,8,9] c Z ?_;refine UD [0,1,2,3,4,5,6,7,8,9,10,11,12,13,14,15,16,17,18,19] [(8,1),(17,1)] Z kr_ (fun R B c=>?_);refine UE (6) U9 ah U2 ?_;refine Um 2 Z ?_;refine Uj (bkT f 1) U8 ?_;refine UE (0) U9 ah U2 ?_;refine Um 2 Z ?_;refine Uj (bkT f 1) U8 ?_;refine UG (fun _=>(er _ d.m_ (cor a t 2).1 (cor a t 0).1 1 dc_ dc_ (e 2).1 (e 0).1)) U9 ?_;refine UE (6) U9 ah U2 ?_;refine Um 2 Z ?_;refine Uj (bkT f 1) U8 ?_;refine UE (0) U9 ah U2 ?_;refine Um 2 Z ?_;refine Uj (bkT f 1) U8 ?_;refine UG (fun _=>(er _ d.m_ (cor a t 2).2 (cor a t 0).2 1 dc_ dc_ (e 2).2 (e 0).2)) U9 ?_;refine C6 2 [6,7,8,9,10,11] c Z ?_;refine UD [0,1,2,3,4,5,6,7,8,9,10,11,12,13,14,15] [(6,1),(13,1)] Z kr_ (fun R B c=>?_);refine UE (3) U9 ah U2 ?_;refine Uk U6 ?_;refine Uj (bkT f 1) U8 ?_;refine UE (0) U9 ah U2 ?_;refine Uk U6 ?_;refine Uj (bkT f 1) U8 ?_;refine UG (fun _=>(er _ d.m_ (fz b t 1) (fz b t 0) k u om_ (m 1) (m 0))) U9 ?_;refine UE (6) U9 ah U2 ?_;refine Uk U6 ?_;refine Uj (bkT f 1) U8 ?_;refine UE (0) U9 ah U2 ?_;refine Uk U6 ?_;refine Uj (bkT f 1) U8 ?_;refine UG (fun _=>(er _ d.m_ (fz b t 2) (fz b t 0) k u om_ (m 2) (m 0))) U9 ?_;refine C6 2 [6,8,9,10,11,12,13] c Z ?_;refine Uh 1 [6,8,9,10,11,12,13,14] Z ?_;refine Ui 5 Z fun R c=>?_;refine Uu (qF _ d.m_ _ _ _ _ 3 dc_ dc_ (g 1 0) (hy 1 0) (g 2 0) (hy 2 0)) U7 fl_ ?_;refine Uu (by have h:=gW J d.m_ 1 _ 13 dc_ dc_ (QB_one.le dc_) y z;rw [dF] at h;exact h) U7 fl_ ?_;refine C6 5 [6,8,9,10,11,12,13,14,15] c Z ?_;refine Ui 6 Z fun R c=>?_;refine Uu (qF _ d.m_ (fz b t 1-fz b t 0) ((cor a t 1).2-(cor a t 0).2) (fz b t 2-fz b t 0) ((cor a t 2).2-(cor a t 0).2) (2*k+3) om_ om_ ((l 1 0).le om_) ((hy 1 0).le om_) ((l 2 0).le om_) ((hy 2 0).le om_)) U7 fl_ ?_;refine Uu (dm _ d.m_ _ _ (8*k+26) om_ om_ (A.le om_) H) U7 fl_ ?_;refine Um 6 Z ?_;refine Uu (qF _ d.m_ ((cor a t 1).1-(cor a t 0).1) (fz b t 1-fz b t 0) ((cor a t 2).1-(cor a t 0).1) (fz b t 2-fz b t 0) (2*k+3) om_ om_ ((g 1 0).le om_) ((l 1 0).le om_) ((g 2 0).le om_) ((l 2 0).le om_)) U7 fl_ ?_;refine Uu (dm _ d.m_ _ _ (8*k+26) om_ om_ (A.le om_) I) U7 fl_ ?_;refine UA (gl (dC a b t)) U8 ?_;refine Us (j:=0) U12 ?_;refine Un [6] c Z ?_;refine Uv (Va ag U4 ?_);exact ⟨Z,Z⟩
def Fh (l:List Rat):Rat:=l.foldl (·+·) 0
theorem Fg (l:List Rat)(q:Rat):Fh (l++[q])=Fh l+q:=by unfold Fh;rw [List.foldl_append];rfl
theorem MD (C:Mem)(g:Tabs C)(v:Value)(l:List Rat)(k:Nat)(h:0<k)(j:k<=10000)(b:Sl C 1 v (l.map eM))(n:∀ q∈l,QB k q)(o:∀ i,QB k (Fh (l.take i))) :
  Gives cx.P 126 [v] C (af (qtx (Fh l))):=by
 obtain ⟨p,c0,rfl,r,z,_⟩:=id b;have A:maxLen<=9223372036854775807:=by simp [maxLen]
 simp only [ar] at b r ⊢;refine Ur func126 17 U3 fun w0=>Uh 1 [0] Z<|Uh 1 [0,3] Z<|Uh 3 [3,6,7,8] Z<|G.loop (fun fr B t u=>∃ (i:Nat)(s:Str),(i<=l.length/\s=qtx (Fh (l.take i)))/\fr=[(3,[],af s),(6,[],.slice p l.length c0),(7,[],.int .i64 l.length),(8,[],.int .i64 i)]/\t=[]/\u=l.length-i) (hn_ [3,6,7,8] Z) ⟨0,[48],⟨QH _,qtx_zero.symm⟩,Z,Z,Z⟩ (fun fr D E m w x=>?_);obtain ⟨i,s,⟨F,f⟩,rfl,rfl,rfl⟩:=x;refine Uh 1 [3,6,7,8,9] Z<|G.cd (fun c=>?_) fun c=>?_
 ·have d:i<l.length:=by simpa using c
  obtain ⟨q,e⟩:∃ q,l[i]?=some q:=⟨l[i],aj d⟩;subst f;refine Ul fun R a=>Uy b.m_ U10 om_ (cq e) fl_ fun H y=>Uj y U8<|C6 1 [3,5,6,7,8] a Z<|Ui 2 Z fun R a=>Ut (ni _ g.m_ (Fh (l.take i)) q k h j (o i) (n q (aX e))) U7<|C6 1 [3,6,7,8] a Z<|Ul fun R a=>Uq _ Z U6<|C6 1 [3,6,7,8] a Z<|Uw (m':=l.length-(i+1)) om_ w (hn_ [3,6,7,8] Z) ⟨i+1,_,⟨by omega,by rw [Q4,e,R5,Fg]⟩,Z,Z,Z⟩
 have d:i=l.length:=by
  have:¬ i<l.length:=by simpa using c
  omega
 exact Uh 2 [2] Z<|Up U2<|⟨by rw [f,d,QM],Z⟩
def zh (q:Rat):Value:=if aW (qtx q) then .tuple #[af (qtx q),.int .i64 0] else .tuple #[af [],.int .i64 4]
theorem Hk (C:Mem)(b:Tabs C)(q:Rat)(c:(qtx q).length<=999998):Gives cx.P 62 [af (qtx q)] C (zh q):=by
 refine Ur func62 8 U3 fun w0=>Uh 2 [0] Z<|Ui 1 Z fun R d=>Ut (dE _ b.m_ _ c) U7<|C6 1 [0,6] d Z<|G.cd (fun a=>?_) fun a=>?_
 ·have e:aW (qtx q)=false:=by
   rcases ff (aW (qtx q)) with ⟨h1,h2⟩ | ⟨h1,h2⟩
   ·rw [h1] at a;exact absurd a dc_
   exact h2
  refine Uh 2 [2,3] Z<|Uv (G.dropAll (UH U3 ?_));exact ⟨by unfold zh;rw [e];rfl,Z⟩
 have f:aW (qtx q)=true:=by
  rcases ff (aW (qtx q)) with ⟨h1,h2⟩ | ⟨h1,h2⟩
  ·exact h2
  rw [h1] at a;exact absurd a dc_
 refine Uh 3 [2,3] Z<|Uv (G.dropAll (UH U3 ?_));exact ⟨by unfold zh;rw [f];rfl,Z⟩
def onQ (pts:List Pt)(fs:List Rat)(t:Tri)(p:Pt):Rat:=Fh [fz fs t 0,(dC pts fs t).1*(p.1-(cor pts t 0).1),(dC pts fs t).2*(p.2-(cor pts t 0).2)]
theorem Lv (n:k<=23)(a:MeshOk pts tris)(c:fs.length=pts.length)(d:∀ q∈fs,QB k q)(b:t∈tris)(e:QP 23 p):QB 600 (onQ pts fs t p)/\(∀ i,QB 600 (Fh ([fz fs t 0,(dC pts fs t).1*(p.1-(cor pts t 0).1),(dC pts fs t).2*(p.2-(cor pts t 0).2)].take i)))/\QB 600 (fz fs t 0)/\QB 600 ((dC pts fs t).1*(p.1-(cor pts t 0).1))/\QB 600 ((dC pts fs t).2*(p.2-(cor pts t 0).2)):=by
 have hs:=wu a c d b;have f:=nS a b 0;have g:=NC a c d b 0;have h1:QB 248 ((dC pts fs t).1*(p.1-(cor pts t 0).1)):=(jx hs.1 (fk e.1 f.1)).le om_;have h2:QB 248 ((dC pts fs t).2*(p.2-(cor pts t 0).2)):=(jx hs.2 (fk e.2 f.2)).le om_;have h:QB 25 (0+fz fs t 0):=(vE QB_zero g).le om_;have j:QB 274 (0+fz fs t 0+(dC pts fs t).1*(p.1-(cor pts t 0).1)):=(vE h h1).le om_;have l:QB 523 (0+fz fs t 0+(dC pts fs t).1*(p.1-(cor pts t 0).1)+(dC pts fs t).2*(p.2-(cor pts t 0).2)):=(vE j h2).le om_;refine ⟨l.le dc_,fun i=>?_,g.le om_,h1.le dc_,h2.le dc_⟩;rcases (by omega:i=0∨i=1∨i=2∨3<=i) with rfl | rfl | rfl | m
 ·exact QB_zero.le dc_
 ·exact h.le dc_
 ·exact j.le dc_
 rw [Rf (by simpa using m)];exact l.le dc_
theorem Ml (e:QB k a)(f:QB k b)(g:QB k c):∀ q∈[a,b,c],QB k q:=by
 intro q d;simp only [QQ,RJ,S5] at d;rcases d with rfl | rfl | rfl <;> assumption
theorem Qh (C:Mem)(d:Tabs C)(u v:Value)(a:List Pt)(g:List Tri)(c:List Rat)(k:Nat)(E:0<k)(F:k<=23)(w:MeshIn C u a g)(e:MeshOk a g)(h:Sl C 1 v (c.map eM))(l:c.length=a.length)(r:∀ q∈c,QB k q)(i:Nat)(t:Tri)(m:g[i]?=some t)(p:Pt)(f:QP 23 p) :
  Gives cx.P 63 [u,v,.int .i64 i,ptV p] C (af (qtx (onQ a c t p))):=by
 have n:=aX m;have x:=e.ins t n;have y:=w;have z:=h;obtain ⟨X,Y,rfl,h1,h2⟩:=id w.ex;obtain ⟨A1,c1,rfl,H,aa,_⟩:=id h1;obtain ⟨A2,c2,rfl,I,ab,_⟩:=id h2;obtain ⟨A4,c4,rfl,ac,ad,_⟩:=id h;have ae:maxLen<=9223372036854775807:=by simp [maxLen]
 simp only [ar] at h1 h2 h z y H I ⊢;have ag:=(aL.1 m).1;have o:=nS e n 0;obtain ⟨ah,J,K,L,M⟩:=Lv F e l r n f;have hs:=wu e l r n;have N:QB 25 (p.1-(cor a t 0).1):=(fk f.1 o.1).le dc_;have O:QB 25 (p.2-(cor a t 0).2):=(fk f.2 o.2).le dc_;refine Ur func63 49 U3 fun w0=>Ul fun R b=>UC U6 fun b4=>UC U6 fun b7=>C6 1 [1,2,4,7] b Z<|G.freeze 1 Z fun _ _ s=>Ul fun R b=>Uj (PtrTo.block (Mem.get s mup) _) U8<|Um 2 Z<|Uu (xK _ d.m_ _ _ a g c k E om_ y.m_ e z.m_ l r i t m) U7 fl_<|UB U5 fun b9=>Us (j:=0) U12<|Un [1,2,4,7,9] b Z<|Ui 1 Z fun R b=>Uj (PtrTo.block (Mem.get s mup) _) U8<|Uk U6<|Uy h2.m_ U10 om_ (cq m) fl_ fun ai Q=>VS U9 (fun _=>Q) (fun _=>⟨by omega,om_⟩) fl_ Z (fun aj S=>?_);have T:=S trivial;exact Uj T U8<|C6 1 [1,4,7,9,10] b Z<|Ui 1 Z fun R b=>Uj (PtrTo.block (Mem.get s mup) _) U8<|Uk U6<|Uy h1.m_ U10 om_ (cq (pE x.1)) fl_ fun ak U=>Uj U U8<|UB U5 fun al=>Us (j:=0) U12<|Un [1,7,9,10,11] b Z<|G.freeze 0 Z fun _ _ A=>G.freeze 0 Z fun _ _ B=>G.freeze 0 Z fun _ _ D=>UD [0,1,2,3,4,5,6,7,8,9,10,11,12,13,14,15,16,17,18,19,20,21,22] [(10,1),(11,1),(18,1),(19,1),(21,1)] Z kr_ fun R hB b=>Um 2 Z<|Uy h.m_ U10 om_ (cq (Hi (l ▸ x.1))) fl_ fun am V=>Uj V U8<|Uk U6<|Uj (bkT B 1) U8<|Uk U6<|Uj (bkT D 1) U8<|Uk U6<|Uj (bkT A 1) U8<|UG (fun _=>(er _ d.m_ p.1 (cor a t 0).1 23 dc_ dc_ f.1 (o.1.le dc_))) U9<|UG (fun _=>(dm _ d.m_ _ _ 300 dc_ dc_ (hs.1.le om_) (N.le dc_))) U9<|Uk U6<|Uj (bkT B 1) U8<|Uk U6<|Uj (bkT D 1) U8<|Uk U6<|Uj (bkT A 1) U8<|UG (fun _=>(er _ d.m_ p.2 (cor a t 0).2 23 dc_ dc_ f.2 (o.2.le dc_))) U9<|UG (fun _=>(dm _ d.m_ _ _ 300 dc_ dc_ (hs.2.le om_) (O.le dc_))) U9<|UF ([fz c t 0,(dC a c t).1*(p.1-(cor a t 0).1),(dC a c t).2*(p.2-(cor a t 0).2)].map eM) U12 fun an _ _ W=>UG (fun _=>(MD _ d.m_ _ _ 600 dc_ dc_ W.m_ (Ml K L M) J)) U9<|C6 1 [8] b Z<|Up U2<|⟨Z,Z⟩
def AS (pts:List Pt)(tris:List Tri)(fs:List Rat)(p:Pt):Value:=match jU pts tris p with
 | []=>.tuple #[af [],.int .i64 28]
 | i::_=>zh (onQ pts fs (tris.getD i (0,0,0)) p)
theorem yx (h:∀ q∈fs,aW (qtx q)=true):(fs.map qtx).all aW=true:=by
 rw [QX];intro s hs;obtain ⟨q,a,rfl⟩:=QE.1 hs;exact h q a
theorem iv (a:List Rat):a.map eM=(a.map qtx).map eA:=by rw [RC];rfl
theorem wS (b:k<=100)(h:∀ q∈fs,QB k q):∀ s∈fs.map qtx,s.length<=999998:=by
 intro s hs;obtain ⟨q,a,rfl⟩:=QE.1 hs;have:=bg ((h q a).le (S6 k)) om_;omega
theorem yn (C:Mem)(i:Tabs C)(c v d:Value)(b:List Pt)(f:List Tri)(a:List Rat)(j:MeshIn C c b f)(l:Good b f)(m:Sl C 1 v [[d]])(g:Sl C 1 d (a.map eM))(n:a.length=b.length)(r:k<=23)(o:∀ q∈a,QB k q)(p:∀ q∈a,aW (qtx q)=true) :
  Gives cx.P 61 [c,v] C (.int .i64 0):=by
 rw [iv] at g;have h:=yo C i c v d b f (a.map qtx) j l m g (wS om_ o);have e:nR b.length (a.map qtx)=0:=by unfold nR;rw [aJ (by simpa using n),yx p];rfl
 rwa [e] at h
theorem Lx (h:i∈jU pts tris p):∃ t,tris[i]?=some t/\tris.getD i (0,0,0)=t/\zu pts p t=true:=by
 unfold jU at h;rw [R7,QU] at h;obtain ⟨h1,h2⟩:=h;obtain ⟨t,a⟩:∃ t,tris[i]?=some t:=⟨tris[i],aj h1⟩;have b:tris.getD i (0,0,0)=t:=by rw [am,a,RT]
 rw [b] at h2;exact ⟨t,a,b,h2⟩
theorem Pe (h:QB 600 q):(qtx q).length<=999998:=QW (bg h dc_) dc_
theorem tR (C:Mem)(e:Tabs C)(x y:Value)(a:List Pt)(c:List Tri)(b:List Rat)(k:Nat)(I:0<k)(j:k<=23)(z:MeshIn C x a c)(l:Good a c)(f:Sl C 1 y (b.map eM))(m:b.length=a.length)(n:∀ q∈b,QB k q)(J:∀ q∈b,aW (qtx q)=true)(p:Pt)(o:QP 23 p)(K:PtR p) :
  Gives cx.P 15 [x,y,ptV p] C (AS a c b p):=by
 have A:=l.ok;have s:=z;obtain ⟨X,Y,rfl,h1,h2⟩:=id z.ex;obtain ⟨L,M,rfl,aa,ab,_⟩:=id f;simp only [ar] at f ⊢;have ac:maxLen<=9223372036854775807:=by simp [maxLen]
 refine Ur func15 40 U3 fun w0=>Ul fun R d=>UC U6 fun b3=>UC U6 fun b5=>C6 2 [1,3,5] d Z<|G.freeze 1 Z fun _ _ u=>G.freeze 0 Z fun _ _ B=>Ul fun R d=>Uj (PtrTo.block (Mem.get u mup) _) U8<|Uk U6<|UF [[.slice L b.length M]] U12 fun ad _ _ N=>Ut (yn _ e.m_ _ _ _ a c b s.m_ l N.m_ f.m_ m j n J) U7<|C6 1 [1,3,5,8] d Z<|Uh 2 [1,3,5,8,16] Z<|G.cd (fun D=>?_) fun D=>?_
 ·exact absurd D dc_
 refine Ul fun R d=>Uj (PtrTo.block (Mem.get u mup) _) U8<|Uj (PtrTo.block (Mem.get B mup) _) U8<|UR (lY _ e.m_ _ a c p s.m_ l o K) U7 (fun ae _ _ O=>?_);obtain ⟨wv,rfl,v⟩:=O;obtain ⟨Aw,cw,E,_⟩:=id v;rw [ar] at E;subst E;refine C6 5 [1,3,5,9,10] d Z<|Uh 2 [1,3,5,9,10,25] Z<|G.cd (fun F=>?_) fun F=>?_
 ·exact absurd F dc_
 refine Uh 3 [1,3,5,9,29] Z<|G.cd (fun g=>?_) fun g=>?_
 ·have Q:jU a c p=[]:=by
   have h:(((jU a c p).length:Nat):Int)=0:=by simpa using g
   exact Rt om_
  refine Uh 2 [6,7] Z<|Uv (G.dropAll (UH U3 ?_));exact ⟨by unfold AS;rw [Q];rfl,Z⟩
 obtain ⟨i,r,w⟩:∃ i r,jU a c p=i::r:=by
  cases S:jU a c p with
  | nil=>rw [S] at g;exact absurd g dc_
  | cons i r=>exact ⟨i,r,rfl⟩
 obtain ⟨t,H,T,_⟩:=Lx (pts:=a) (tris:=c) (p:=p) (i:=i) (by rw [w];simp);have U:=Lv j A m n (aX H) o;have V:AS a c b p=zh (onQ a b t p):=by unfold AS;rw [w];show zh (onQ a b (c.getD i (0,0,0)) p)=_;rw [T]
 rw [w] at v ⊢;refine UD [0,1,2,3,4,5,6,7,8,9,10,11] [(6,1),(7,1)] Z kr_ fun R hB d=>Uj (PtrTo.block (Mem.get u mup) _) U8<|Um 2 Z<|Uy v.m_ U10 om_ (rfl:(List.map aT (i::r))[0]?=some (aT i)) fl_ fun ag W=>Uj W U8<|Uj (PtrTo.block (Mem.get B mup) _) U8<|US (fun _=>(Qh _ e.m_ _ _ a c b k I j s.m_ A f.m_ m n i t H p o)) U9<|US (fun _=>(Hk _ e.m_ _ (Pe U.1))) U9 ?_;rw [show zh (onQ a b t p)=.tuple #[if aW (qtx (onQ a b t p)) then af (qtx (onQ a b t p)) else af [],.int .i64 (if aW (qtx (onQ a b t p)) then 0 else 4)] by unfold zh;split <;> rfl];refine C6 4 [6,7] d Z<|Uv (G.dropAll (UH U3 ?_));refine ⟨?_,Z⟩;rw [V];unfold zh;split <;> rfl
theorem Pc (h:QP 22 p):PtR p:=⟨bi h.1,bi h.2⟩
theorem ua (C:Mem)(f:Tabs C)(l m:Value)(c:List Pt)(d:List Tri)(b:List Rat)(k:Nat)(z:0<k)(A:k<=23)(n:MeshIn C l c d)(o:Good c d)(e:Sl C 1 m (b.map eM))(p:b.length=c.length)(r:∀ q∈b,QB k q)(B:∀ q∈b,aW (qtx q)=true)(i:Nat)(t:Tri)(s:d[i]?=some t)(u:QP 22 (dC c b t)) :
  Gives cx.P 293 [l,m,.int .i64 i] C (.tuple #[ptV (dC c b t),.int .i64 0]):=by
 have D:=o.ok;have g:=n;have I:=(aL.1 s).1;obtain ⟨J,K,rfl,h1,h2⟩:=id n.ex;obtain ⟨A2,c2,rfl,L,M,_⟩:=id h2;obtain ⟨E,F,rfl,N,O,_⟩:=id e;simp only [ar] at e h2 g ⊢;have Q:maxLen<=9223372036854775807:=by simp [maxLen]
 refine Ur func293 37 U3 fun w0=>Ul fun R a=>UC U6 fun S=>UB U5 fun T=>C6 1 [1,2,3,6] a Z<|G.freeze 1 Z fun _ _ h=>Ul fun R a=>Uj (PtrTo.block (Mem.get h mup) _) U8<|Uk U6<|UF [[.slice E b.length F]] U12 fun U _ _ H=>Ut (yn _ f.m_ _ _ _ c d b g.m_ o H.m_ e.m_ p A r B) U7<|C6 1 [1,2,3,6,8] a Z<|Uh 2 [1,2,3,6,8,15] Z<|G.cd (fun v=>?_) fun v=>?_
 ·exact absurd v dc_
 refine Ui 5 Z fun R a=>UM U6 (fun _=>PtrTo.block (Mem.get h mup) _) U3<|Um 2 Z<|UN U8<|Un [1,2,3,6,26] a Z<|G.cd (fun w=>?_) fun w=>?_
 ·exfalso;simp only [SA,QK] at w;omega
 refine Ul fun R a=>Uj (PtrTo.block (Mem.get h mup) _) U8<|Um 2 Z<|Uu (xK _ f.m_ _ _ c d b k z om_ g.m_ D e.m_ p r i t s) U7 fl_<|UB U5 fun V=>Us (j:=0) U12<|Un [6,9] a Z<|G.freeze 0 Z fun _ _ x=>Ul fun R a=>Uj (PtrTo.block (Mem.get x mup) _) U8<|Uu (iF _ f.m_ _ (u.le dc_) (Pc u)) U7 fl_<|C6 1 [6,9,34] a Z<|G.cd (fun y=>?_) fun y=>?_
 ·exact absurd y dc_
 refine Ul fun R a=>Uj (PtrTo.block (Mem.get x mup) _) U8<|Us (j:=0) U12<|C6 1 [6,7] a Z<|Uv (Vy ag U5 ?_);exact ⟨Z,Z⟩
def kp {α:Type}(p:α->Bool):List α->Nat->Int
 | [],_=>-1
 | x::l,k=>if p x then (k:Nat) else kp p l (k+1)
theorem uP {a:Type}{p:a->Bool}:∀ {l:List a}{i k:Nat}{x:a},l[i]?=some x->p x=true->(∀ y∈l.take i,p y=false)->kp p l k=((k+i:Nat):Int)
 | y::l,0,k,x,h,b,_=>by
  simp only [List.getElem?_cons_zero,Rk] at h;subst h;simp [kp,b]
 | y::l,i+1,k,x,h,b,c=>by
  simp only [So] at h;have hy:p y=false:=c y al;have:=uP (k:=k+1) h b (fun z d=>c z (by simp [d]));simp only [kp,hy,Rz,R4,this];omega
theorem qq {a:Type}{p:a->Bool}:∀ {l:List a}{k:Nat},(∀ y∈l,p y=false)->kp p l k=-1
 | [],_,_=>rfl
 | y::l,k,h=>by
  simp only [kp,h y QC,Rz,R4];exact qq fun z b=>h z (QL _ b)
theorem sI (p:α->Bool)(l:List α):(kp p l 0=-1/\∀ y∈l,p y=false)∨∃ (i:Nat)(x:α),kp p l 0=(i:Nat)/\l[i]?=some x/\p x=true/\∀ y∈l.take i,p y=false:=by
 by_cases h:∀ y∈l,p y=false
 ·exact .inl ⟨qq h,h⟩
 right;have d:∀ (l:List α),(¬ ∀ y∈l,p y=false)->∃ (i:Nat)(x:α),l[i]?=some x/\p x=true/\∀ y∈l.take i,p y=false:=by
  intro l;induction l with
  | nil=>intro h;exact absurd (fun y hy=>(by cases hy)) h
  | cons a l e =>
   intro h;by_cases b:p a=true
   ·exact ⟨0,a,Z,b,by simp⟩
   have c:p a=false:=by simpa using b
   obtain ⟨i,x,h1,h2,h3⟩:=e (fun h2=>h (fun y hy=>by
    rcases QQ.1 hy with rfl | hy
    ·exact c
    exact h2 y hy))
   refine ⟨i+1,x,by simpa using h1,h2,fun y hy=>?_⟩;rw [List.take_succ_cons] at hy;rcases QQ.1 hy with rfl | hy
   ·exact c
   exact h3 y hy
 obtain ⟨i,x,h1,h2,h3⟩:=d l h;exact ⟨i,x,by rw [uP h1 h2 h3,RK],h1,h2,h3⟩
structure Lay where
 unit:Str
 min:Rat
 max:Option Rat
def vM:Option Rat->Str
 | none=>[]
 | some q=>qtx q
def xY (x:Lay):List Value:=[af x.unit,af (qtx x.min),af (vM x.max)]
def isU (u:Str)(x:Lay):Bool:=decide (x.unit=u)
def On (x:Lay):Prop:=QB 22 x.min/\(∀ q,x.max=some q->QB 22 q)/\x.unit.length<=999998
theorem pO (m:Option Rat):(!((⟨(vM m).toArray⟩:ByteArray).data.toList == (⟨#[]⟩:ByteArray).data.toList))=m.isSome:=by
 cases m with
 | none=>rfl
 | some q =>
  have:=sf q;show (!(qtx q == []))=true;cases h:qtx q with
  | nil=>rw [h] at this;simp at this
  | cons a l=>rfl
theorem mf (C:Mem)(v:Value)(l:List Lay)(g:Nat)(d:List Value)(a:Lay->Bool)(e:Sl C 3 v (l.map xY))(_A:Jog.Enters cx.P g=true)
  (n:∀ x∈l,∀ D:Mem,C.le D->Gives cx.P g (.agg ⟨xY x⟩::d) D (.bool (a x))) :
  Gives cx.P 317 [v,.func (.func g) #[] ⟨d⟩] C (.int .i64 (kp a l 0)):=by
 obtain ⟨o,c0,rfl,p,B,_⟩:=id e;have E:maxLen<=9223372036854775807:=by simp [maxLen]
 simp only [ar] at e p ⊢;refine Ur func317 19 U3 fun w0=>Uh 1 [0,1] Z<|Uh 3 [0,1,7,8] Z<|G.loop (fun fr F q r=>∃ (i:Nat),(i<=l.length/\∀ y∈l.take i,a y=false)/\fr=[(0,[],.slice o l.length c0),(1,[],.func (.func g) #[] ⟨d⟩),(7,[],.int .i64 l.length),(8,[],.int .i64 i)]/\q=[]/\r=l.length-i) (hn_ [0,1,7,8] Z) ⟨0,⟨QH _,by simp⟩,Z,Z,Z⟩ (fun fr H I m s t=>?_);obtain ⟨i,⟨J,b⟩,rfl,rfl,rfl⟩:=t;refine Uh 1 [0,1,7,8,9] Z<|G.cd (fun f=>?_) fun f=>?_
 ·have h:i<l.length:=by simpa using f
  obtain ⟨x,c⟩:∃ x,l[i]?=some x:=⟨l[i],aj h⟩;refine Uh 2 [0,1,5,7,8] Z<|Ui 3 Z fun R j=>Uy e.m_ U10 om_ (cq c) fl_ fun K u=>Uj u U8<|Ut (n x (aX c) _ mup) U7<|Un [0,1,5,7,8,16] j Z<|G.cd (fun k=>?_) fun k=>?_
  ·have w:a x=true:=k;exact Uh 2 [4] Z<|Up U2<|⟨by rw [uP c w b,RK],Z⟩
  have z:a x=false:=k;refine Ul fun R j=>Uq _ Z U6<|C6 1 [0,1,7,8] j Z<|Uw (m':=l.length-(i+1)) om_ s (hn_ [0,1,7,8] Z) ⟨i+1,⟨by omega,fun y hy=>by
   rw [Q4,c] at hy;rcases QS.1 hy with hy | hy
   ·exact b y hy
   simp only [R5,QY] at hy;subst hy;exact z⟩,Z,Z,Z⟩
 have h:i=l.length:=by
  have:¬ i<l.length:=by simpa using f
  omega
 exact Uh 1 [4] Z<|Up U2<|⟨by rw [h,QM] at b;rw [qq b],Z⟩
theorem IT (a b:Str):((⟨a.toArray⟩:ByteArray).data.toList == (⟨b.toArray⟩:ByteArray).data.toList)=decide (a=b):=by
 show (a == b)=_;by_cases h:a=b <;> simp [h]
theorem HN (C:Mem)(b:Nat)(u:Str)(x:Lay)(c:C b=some (.cells ⟨[af u]⟩ 9 (0,0))):Gives cx.P 318 [.agg ⟨xY x⟩,.pointer (some ⟨b,0,none⟩)] C (.bool (isU u x)):=by
 exact Ur func318 8 U3 fun w0=>Ul fun R a=>UC U6 fun d=>C6 1 [1,2] a Z<|Ui 1 Z fun R a=>Uo ag U9<|Uj (PtrTo.block (Mem.get c mup) _) U8<|C6 2 [3] a Z<|Up U2<|⟨by unfold isU;rw [<- IT],Z⟩
theorem Ah (C:Mem)(b:Nat)(u:Str)(x:Lay)(c:C b=some (.cells ⟨[af u]⟩ 9 (0,0))):Gives cx.P 320 [.agg ⟨xY x⟩,.pointer (some ⟨b,0,none⟩)] C (.bool (isU u x)):=by
 exact Ur func320 8 U3 fun w0=>Ul fun R a=>UC U6 fun d=>C6 1 [1,2] a Z<|Ui 1 Z fun R a=>Uo ag U9<|Uj (PtrTo.block (Mem.get c mup) _) U8<|C6 2 [3] a Z<|Up U2<|⟨by unfold isU;rw [<- IT],Z⟩
theorem CK (C:Mem)(v:Value)(l:List Lay)(u:Str)(c:Sl C 3 v (l.map xY)):Gives cx.P 286 [v,af u] C (.int .i64 (kp (isU u) l 0)):=by
 exact Ur func286 8 U3 fun w0=>Ul fun R a=>UC U6 fun b=>C6 1 [0,3] a Z<|G.freeze 0 Z fun _ _ d=>Ui 2 Z fun R a=>Ut (mf _ _ l 318 [.pointer (some ⟨b,0,none⟩)] (isU u) c.m_ Z (fun x _ D e=>HN D b u x (e _ _ (Mem.get d mup)))) U7<|C6 1 [4] a Z<|Up U2<|⟨Z,Z⟩
theorem kf (C:Mem)(v:Value)(l:List Lay)(u:Str)(c:Sl C 3 v (l.map xY)):Gives cx.P 288 [v,af u] C (.int .i64 (kp (isU u) l 0)):=by
 exact Ur func288 8 U3 fun w0=>Ul fun R a=>UC U6 fun b=>C6 1 [0,3] a Z<|G.freeze 0 Z fun _ _ d=>Ui 2 Z fun R a=>Ut (mf _ _ l 320 [.pointer (some ⟨b,0,none⟩)] (isU u) c.m_ Z (fun x _ D e=>Ah D b u x (e _ _ (Mem.get d mup)))) U7<|C6 1 [4] a Z<|Up U2<|⟨Z,Z⟩
theorem uj (h:QB 22 q):(qtx q).length<=999998:=QW (bg h dc_) dc_
theorem DF (h:QB 22 q):(qtx q).length<=1000000:=QW (bg h dc_) dc_
theorem J4 (C:Mem)(d:Tabs C)(x:Lay)(e:On x):Gives cx.P 284 [.agg ⟨xY x⟩] C (.int .i64 0):=by
 obtain ⟨u,f,c⟩:=x;obtain ⟨h1,h2,h3⟩:=e;simp only at h1 h2 h3;clear h3;have g:(vM c).length<=999998:=by
  cases c with
  | none=>decide
  | some q=>exact uj (h2 q rfl)
 refine Ur func284 17 U3 fun w0=>Ul fun R a=>UC U6 fun h=>C6 1 [1] a Z<|Ui 1 Z fun R a=>Uo ag U9<|Ut (dE _ d.m_ (qtx f) (uj h1)) U7<|C6 2 [1,3] a Z<|G.cd (fun h3=>?_) fun h3=>?_
 ·exfalso;rw [ym h1] at h3;exact absurd h3 dc_
 refine Ui 1 Z fun R a=>Uo ag U9<|Um 3 Z<|Uo ag U9<|US (fun _=>(dE _ d.m_ (vM c) g)) U9<|Uk U6<|UJ U8<|C6 1 [3] a Z<|G.cd (fun b=>?_) fun b=>?_
 ·exfalso;simp only [] at b;cases c with
  | none=>exact absurd b dc_
  | some q =>
   rw [show vM (some q)=qtx q from rfl,ym (h2 q rfl)] at b;simp at b
 exact Uh 1 [2] Z<|Up U2<|⟨Z,Z⟩
def GQ (x:Lay):Bool:=match x.max with
 | none=>false
 | some m=>decide (m<x.min)
def LC (pre:List Lay)(x:Lay):Int:=if cY x.unit=false then 8 else if 0<=kp (isU x.unit) pre 0 then 9 else if x.min<0 then 3 else if GQ x then 6 else 0
def Ei (l:List Lay):Nat->Int
 | 0=>0
 | n+1=>if Ei l n≠0 then Ei l n else LC (l.take n) (l.getD n ⟨[],0,none⟩)
def rK (l:List Lay):Int:=if l=[] then 13 else if 60<l.length then 4 else Ei l l.length
theorem yj {l:List Lay}{n:Nat}(h:Ei l n≠0):∀ m,n<=m->Ei l m=Ei l n
 | 0,hm=>by rw [show n=0 by omega]
 | m+1,hm=>by
  rcases Q1 m n with h1 | h1
  ·rw [show n=m+1 by omega]
  have a:=yj h m h1;simp only [Ei,a];rw [aJ h]
theorem LB {l:List Lay}{x:Lay}(h:l[i]?=some x):l.getD i ⟨[],0,none⟩=x:=by rw [am,h,RT]
theorem CJ {l:List Lay}{x:Lay}(a:Ei l i=0)(b:l[i]?=some x):Ei l (i+1)=LC (l.take i) x:=by
 simp only [Ei,a];rw [aF dc_,LB b]
theorem vm {l:List Lay}{x:Lay}(d:Ei l i=0)(a:l[i]?=some x)(b:LC (l.take i) x=z)(f:z≠0)(g:¬ 60<l.length):rK l=z:=by
 have c:=(aL.1 a).1;have h1:=CJ d a;unfold rK;rw [aF (fun e=>by rw [e] at c;simp at c),aF g,yj (n:=i+1) (by rw [h1,b];exact f) l.length om_,h1,b]
theorem NU (C:Mem)(c:Tabs C)(a:Option Rat)(b:Rat)(d:QB 22 b)(e:∀ q,a=some q->QB 22 q)(h:(!((⟨(vM a).toArray⟩:ByteArray).data.toList == (⟨#[]⟩:ByteArray).data.toList))=true) :
  Gives cx.P 218 [af (vM a),af (qtx b)] C (.int .i64 (jt (a.getD 0) b)):=by
 rw [pO] at h;cases a with
 | none=>cases h
 | some q=>exact gX C c q b 22 dc_ dc_ (e q rfl) d
theorem Ch (x:Lay):(x.max.isSome && decide (jt (x.max.getD 0) x.min<0))=GQ x:=by
 unfold GQ;cases x.max with
 | none=>rfl
 | some q =>
  show (true && decide (jt q x.min<0))=decide (q<x.min);unfold jt;by_cases h:q<x.min
  ·simp [h]
  rw [aF h,Q6 h];split <;> rfl
theorem uD (q:Rat):decide (eH q.num<0)=decide (q<0):=by
 rw [Ry,<- uk];rcases eC q.num with h | h | h <;> omega
theorem qS (C:Mem)(y:Tabs C)(v:Value)(l:List Lay)(k:Sl C 3 v (l.map xY))(F:∀ x∈l,On x)(S:l.length<=1000000):Gives cx.P 238 [v] C (.int .i64 (rK l)):=by
 obtain ⟨A,c0,rfl,H,T,_⟩:=id k;have U:maxLen<=9223372036854775807:=by simp [maxLen]
 simp only [ar] at k H ⊢;refine Ur func238 57 U3 fun w0=>Uh 1 [0] Z<|Uh 4 [0,6] Z<|G.cd (fun n=>?_) fun n=>?_
 ·have h0:l=[]:=by
   have h:((l.length:Nat):Int)=0:=by simpa using n
   exact Rt om_
  exact Uh 1 [2] Z<|Up U2<|⟨by rw [h0];rfl,Z⟩
 have h0:l≠[]:=by
  intro e;rw [e] at n;exact absurd n dc_
 refine Uh 4 [0,10] Z<|G.cd (fun o=>?_) fun o=>?_
 ·have h60:60<l.length:=by
   simp only [QK] at o;omega
  exact Uh 1 [2] Z<|Up U2<|⟨by unfold rK;rw [aF h0,aJ h60],Z⟩
 have h60:¬ 60<l.length:=by
  simp only [Q7] at o;omega
 refine Uh 3 [0,14,15,16] Z<|G.loop (fun fr V I J=>∃ (i:Nat),(i<=l.length/\Ei l i=0)/\fr=[(0,[],.slice A l.length c0),(14,[],.slice A l.length c0),(15,[],.int .i64 l.length),(16,[],.int .i64 i)]/\I=[]/\J=l.length-i) (hn_ [0,14,15,16] Z) ⟨0,⟨QH _,Z⟩,Z,Z,Z⟩ (fun fr W X m K L=>?_);obtain ⟨i,⟨Y,b⟩,rfl,rfl,rfl⟩:=L;refine Uh 1 [0,14,15,16,17] Z<|G.cd (fun p=>?_) fun p=>?_
 ·have q:i<l.length:=by simpa using p
  obtain ⟨x,c⟩:∃ x,l[i]?=some x:=⟨l[i],aj q⟩;obtain ⟨r,B,M⟩:=F x (aX c);have D:=Sl.sub k (l:=0) (h:=i) (m:=c0) (QH _) ap om_ (Qz _);rw [RR,<- SH] at D;refine Ui 1 Z fun R a=>Uy k.m_ U10 om_ (cq c) fl_ fun aa N=>Uj N U8<|UB U5 fun b4=>Uk U6<|Us (j:=0) U12<|Un [0,3,4,14,15,16] a Z<|Ul fun R a=>Uo ag U9<|Ut (J4 _ y.m_ x ⟨r,B,M⟩) U7<|C6 1 [0,3,4,5,14,15,16] a Z<|Uh 2 [0,3,4,5,14,15,16,24] Z<|G.cd (fun E=>?_) fun E=>?_
  ·exact absurd E dc_
  refine Ui 1 Z fun R a=>Uo ag U9<|Uu (io _ x.unit om_) U7 fl_<|C6 2 [0,3,4,14,15,16,26] a Z<|G.cd (fun s=>?_) fun s=>?_
  ·have d:cY x.unit=false:=by simpa using s
   exact Uh 1 [2] Z<|Up U2<|⟨by rw [vm (z:=8) b c (by unfold LC;rw [aJ d]) dc_ h60],Z⟩
  have d:¬ cY x.unit=false:=by
   have h:cY x.unit=true:=by simpa using s
   rw [h];decide
  refine UD [0,1,2,3,4,5,6,7] [(5,1)] Z kr_ fun R hB a=>Um 2 Z<|Vg 0 i c0 U12 (fun _=>⟨.inl ⟨Z,Z⟩,.inr ⟨_,Z⟩,.inl ⟨Z,Z⟩,by omega,by omega,by omega⟩) U2<|Uk U6<|Uo ag U9<|US (fun _=>(CK _ _ (l.take i) x.unit D.m_)) U9<|C6 2 [0,4,14,15,16,31] a Z<|G.cd (fun t=>?_) fun t=>?_
  ·have f:0<=kp (isU x.unit) (l.take i) 0:=by simpa using t
   exact Uh 1 [2] Z<|Up U2<|⟨by rw [vm (z:=9) b c (by unfold LC;rw [aF d,aJ f]) dc_ h60],Z⟩
  have f:¬ 0<=kp (isU x.unit) (l.take i) 0:=by simpa using t
  refine Ui 1 Z fun R a=>Uo ag U9<|Ut (gd _ x.min (DF r)) U7<|C6 2 [0,4,14,15,16,39] a Z<|G.cd (fun g=>?_) fun g=>?_
  ·have hs:x.min<0:=by
    rw [uD] at g;exact PZ g
   exact Uh 1 [2] Z<|Up U2<|⟨by rw [vm (z:=3) b c (by unfold LC;rw [aF d,aF f,aJ hs]) dc_ h60],Z⟩
  have hs:¬ x.min<0:=by
   rw [uD] at g;exact QF g
  refine Ui 1 Z fun R a=>Uo ag U9<|Um 3 Z<|Uo ag U9<|Uk U6<|Uo ag U9<|UG (fun O=>(NU _ y.m_ x.max x.min r B (by exact O.1))) U9<|Uk U6<|UJ U8<|C6 1 [0,14,15,16,44] a Z<|G.cd (fun u=>?_) fun u=>?_
  ·have w:GQ x=true:=by
    rw [<- Ch,<- pO];exact u
   exact Uh 1 [2] Z<|Up U2<|⟨by rw [vm (z:=6) b c (by unfold LC;rw [aF d,aF f,aF hs,aJ w]) dc_ h60],Z⟩
  have w:GQ x=false:=by
   rw [<- Ch,<- pO];exact u
  have Q:Ei l (i+1)=0:=by rw [CJ b c];unfold LC;rw [aF d,aF f,aF hs,w];rfl
  refine Ul fun R a=>Uq _ Z U6<|C6 1 [0,14,15,16] a Z<|G.dropAll<|Uw (m':=l.length-(i+1)) om_ K (hn_ [0,14,15,16] Z) ⟨i+1,⟨by omega,Q⟩,Z,Z,Z⟩
 have q:i=l.length:=by
  have:¬ i<l.length:=by simpa using p
  omega
 refine Uh 1 [2] Z<|Up U2<|⟨?_,Z⟩;rw [q] at b;unfold rK;rw [aF h0,aF h60,b]
theorem zS (C:Mem)(f:Tabs C)(v:Value)(l:List Lay)(u:Str)(c:Sl C 3 v (l.map xY))(g:∀ x∈l,On x)(a:rK l=0)(i:Nat)(j:kp (isU u) l 0=(i:Nat)):Gives cx.P 247 [v,af u] C (.tuple #[.int .i64 (i:Nat),.bool true,.int .i64 0]):=by
 have k:l.length<=1000000:=by
  unfold rK at a;split at a
  ·cases a
  split at a
  ·cases a
  omega
 refine Ur func247 20 U3 fun w0=>Uh 3 [0,1] Z<|Ui 1 Z fun R b=>Uu (by have h:=qS _ f.m_ v l c.m_ g k;rw [a] at h;exact h) U7 fl_<|C6 1 [0,1,7] b Z<|Uh 2 [0,1,7,12] Z<|G.cd (fun d=>?_) fun d=>?_
 ·exact absurd d dc_
 refine Ui 2 Z fun R b=>Uu (by have h:=CK _ v l u c.m_;rw [j] at h;exact h) U7 fl_<|C6 1 [8] b Z<|Uh 2 [8,18] Z<|G.cd (fun e=>?_) fun e=>?_
 ·refine Uh 4 [4,5,6] Z<|Uv (G.dropAll (Vi U4 ?_));exact ⟨Z,Z⟩
 exfalso;simp only [Q7] at e;omega
structure Obs where
 kind:Int
 name:Str
 x:Str
 y:Str
 depth:Str
 upper:Str
 lower:Str
 nx:Str
 ny:Str
 nz:Str
def rI (o:Obs):List Value:=[.int .i64 o.kind,af o.name,af o.x,af o.y,af o.depth,af o.upper,af o.lower,af o.nx,af o.ny,af o.nz]
structure ObsR (o:Obs):Prop where
 name:o.name.length<=999998
 x:o.x.length<=999998
 y:o.y.length<=999998
 depth:o.depth.length<=999998
 upper:o.upper.length<=999998
 lower:o.lower.length<=999998
 nx:o.nx.length<=999998
 ny:o.ny.length<=999998
 nz:o.nz.length<=999998
def kQ (o:Obs):Bool:=(!cY o.name || !cY o.upper) || ((!(o.kind == 1)) && !cY o.lower)
def lR (o:Obs):Bool:=(!(aW o.x && aW o.y) || ((o.kind == 2) && !aW o.depth)) || ((o.kind == 3) && !(aW o.nx && aW o.ny && aW o.nz))
def kX (o:Obs):Bool:=(((o.kind == 1) && !(o.lower == [])) || ((!(o.kind == 2)) && !(o.depth == []))) || ((!(o.kind == 3)) && !(decide (o.nx=[]/\o.ny=[]/\o.nz=[])))
def dZ (o:Obs):Int:=if o.kind<1∨3<o.kind then 12 else if kQ o then 8 else if lR o then 2 else if kX o then 7 else 0
theorem nil3 (a b c:Str):(!((a == []) && ((b == []) && ((c == []) && true))))=!decide (a=[]/\b=[]/\c=[]):=by
 cases a <;> cases b <;> cases c <;> rfl
theorem HU (b:Bool):(oC b != 0)=!b:=by cases b <;> rfl
theorem I8 (C:Mem)(h:Tabs C)(o:Obs)(b:ObsR o):Gives cx.P 287 [.agg ⟨rI o⟩] C (.int .i64 (dZ o)):=by
 have h1:=b.name;have h2:=b.upper;have h3:=b.lower;refine Ur func287 87 U3 fun w0=>Ul fun R c=>UC U6 fun m=>C6 1 [1] c Z<|G.freeze 0 Z fun _ _ a=>Ui 1 Z fun R c=>Uj (bkT a 1) U8<|Um 3 Z<|UM U6 (fun _=>PtrTo.blockT (Mem.get a mup) _ 1) U3<|Uk U6<|UN U8<|Un [1,10] c Z<|G.cd (fun i=>?_) fun i=>?_
 ·have d:o.kind<1∨3<o.kind:=by simpa using i
  exact Uh 1 [2] Z<|Up U2<|⟨by unfold dZ;rw [aJ d],Z⟩
 have d:¬ (o.kind<1∨3<o.kind):=by simpa using i
 refine Ui 1 Z fun R c=>Uj (bkT a 1) U8<|Uu (io _ o.name om_) U7 fl_<|Um 3 Z<|UM U6 (fun _=>PtrTo.blockT (Mem.get a mup) _ 1) U3<|UG (fun _=>(io _ o.upper om_)) U9<|Uk U6<|UN U8<|Um 2 Z<|UM U6 (fun _=>PtrTo.blockT (Mem.get a mup) _ 1) U3<|Um 3 Z<|UM U6 (fun _=>PtrTo.blockT (Mem.get a mup) _ 1) U3<|UG (fun _=>(io _ o.lower om_)) U9<|Uk U6<|UJ U8<|UN U8<|Un [1,31] c Z<|G.cd (fun j=>?_) fun j=>?_
 ·have e:kQ o=true:=j;exact Uh 1 [2] Z<|Up U2<|⟨by unfold dZ;rw [aF d,aJ e],Z⟩
 have e:¬ kQ o=true:=by rw [show kQ o=false from j];decide
 refine Ui 1 Z fun R c=>Uj (bkT a 2) U8<|Ut (iG _ h.m_ o.x o.y b.x b.y) U7<|Um 3 Z<|UM U6 (fun _=>PtrTo.blockT (Mem.get a mup) _ 1) U3<|Um 3 Z<|UM U6 (fun _=>PtrTo.blockT (Mem.get a mup) _ 1) U3<|US (fun _=>(dE _ h.m_ o.depth b.depth)) U9<|Uk U6<|UJ U8<|UN U8<|Um 2 Z<|UM U6 (fun _=>PtrTo.blockT (Mem.get a mup) _ 1) U3<|Um 3 Z<|UM U6 (fun _=>PtrTo.blockT (Mem.get a mup) _ 3) U3<|US (fun _=>(rL _ h.m_ o.nx o.ny o.nz b.nx b.ny b.nz)) U9<|Uk U6<|UJ U8<|UN U8<|Un [1,57] c Z<|G.cd (fun f=>?_) fun f=>?_
 ·have g:lR o=true:=by
   simp only [HU] at f;exact f
  exact Uh 1 [2] Z<|Up U2<|⟨by unfold dZ;rw [aF d,aF e,aJ g],Z⟩
 have g:¬ lR o=true:=by
  simp only [HU] at f;rw [show lR o=false from f];decide
 refine Ui 1 Z fun R c=>Uj (bkT a 1) U8<|Um 3 Z<|UM U6 (fun _=>PtrTo.blockT (Mem.get a mup) _ 1) U3<|Uk U6<|UJ U8<|Um 2 Z<|UM U6 (fun _=>PtrTo.blockT (Mem.get a mup) _ 1) U3<|Um 3 Z<|UM U6 (fun _=>PtrTo.blockT (Mem.get a mup) _ 1) U3<|Uk U6<|UJ U8<|UN U8<|Um 2 Z<|UM U6 (fun _=>PtrTo.blockT (Mem.get a mup) _ 1) U3<|Um 3 Z<|UM U6 (fun _=>PtrTo.blockT (Mem.get a mup) _ 3) U3<|UA [af [],af [],af []] U8<|WF (!decide (o.nx=[]/\o.ny=[]/\o.nz=[])) kr_ Z Z Z Z Z Z Z Z (fun _=>(nil3 o.nx o.ny o.nz)) Z Z<|UJ U8<|UN U8<|Un [86] c Z<|G.cd (fun k=>?_) fun k=>?_
 ·have l:kX o=true:=k;exact Uh 1 [2] Z<|Up U2<|⟨by unfold dZ;rw [aF d,aF e,aF g,aJ l],Z⟩
 have l:¬ kX o=true:=by rw [show kX o=false from k];decide
 exact Uh 1 [2] Z<|Up U2<|⟨by unfold dZ;rw [aF d,aF e,aF g,aF l],Z⟩
noncomputable def di (s:Str):Rat:=if h:aW s=true then (Lk h).choose else 0
theorem dy {s:Str}(h:aW s=true):s=qtx (di s)/\QB 23 (di s):=by
 unfold di;rw [dif_pos h];exact (Lk h).choose_spec
theorem cR (h:aW (qtx q)=true):di (qtx q)=q:=(lO (dy h).1).symm
noncomputable def ptO (o:Obs):Pt:=(di o.x,di o.y)
noncomputable def KD (pts:List Pt)(tris:List Tri)(o:Obs):Bool:=decide (jU pts tris (ptO o)≠[])
def La (col:List Lay)(o:Obs):Bool:=decide (kp (isU o.upper) col 0<0) || ((!(o.kind == 1)) && decide (kp (isU o.lower) col 0<0))
def ordB (col:List Lay)(o:Obs):Bool:=(!(o.kind == 1)) && decide (kp (isU o.upper) col 0<=kp (isU o.lower) col 0)
noncomputable def depB (o:Obs):Bool:=(o.kind == 2) && decide (di o.depth<0)
def IB (o:Obs):Bool:=(o.kind == 3) && decide (o.nz=[48])
noncomputable def ia (pts:List Pt)(tris:List Tri)(col:List Lay)(o:Obs):Int :=
 if dZ o≠0 then dZ o else if KD pts tris o=false then 28 else if La col o then 10 else if ordB col o then 6 else if depB o then 3 else if IB o then 17 else 0
theorem rW {o:Obs}(h:dZ o=0):aW o.x=true/\aW o.y=true/\(o.kind=2->aW o.depth=true):=by
 unfold dZ at h;split at h
 ·cases h
 split at h
 ·cases h
 split at h
 ·cases h
 rename_i b;have a:lR o=false:=by simpa using b
 unfold lR at a;rw [Sr,Sr] at a;obtain ⟨⟨h1,h2⟩,_⟩:=a;have h3:(aW o.x && aW o.y)=true:=by simpa using h1
 rw [QR] at h3;refine ⟨h3.1,h3.2,fun c=>?_⟩;rw [c] at h2;simpa using h2
theorem Pd {o:Obs}(h:dZ o=0):ptV (ptO o)=.agg ⟨[af o.x,af o.y]⟩/\QP 23 (ptO o)/\PtR (ptO o):=by
 obtain ⟨h1,h2,_⟩:=rW h;obtain ⟨a,c⟩:=dy h1;obtain ⟨b,d⟩:=dy h2;refine ⟨?_,⟨c,d⟩, ?_, ?_⟩
 ·unfold ptV gl ptO;rw [<- a,<- b]
 ·unfold ptO;rw [<- a];exact h1
 unfold ptO;rw [<- b];exact h2
theorem dU {k:Int}(h:(k == z)=true):k=z:=by simpa using h
theorem I1 (C:Mem)(s:Str)(h:aW s=true)(a:s.length<=999998):Gives cx.P 94 [af s] C (.int .i64 (eH (di s).num)):=by
 have e:=(dy h).1;have h2:=gd C (di s) (by have:=a;exact QW (bg (dy h).2 dc_) dc_)
 rwa [<- e] at h2
theorem M9 (C:Mem)(u:Tabs C)(v w:Value)(d:List Pt)(f:List Tri)(b:List Lay)(o:Obs)(x:MeshIn C v d f)(A:Good d f)(y:Sl C 3 w (b.map xY))(z:ObsR o) :
  Gives cx.P 239 [v,w,.agg ⟨rI o⟩] C (.int .i64 (ia d f b o)):=by
 have B:=x;obtain ⟨L,M,rfl,h1,h2⟩:=id x.ex;refine Ur func239 79 U3 fun w0=>Ul fun R a=>UC U6 fun N=>UC U6 fun O=>C6 1 [1,3,5] a Z<|G.freeze 1 Z fun _ _ D=>G.freeze 0 Z fun E _ c=>Ul fun R a=>Uj (bkT c 10) U8<|Ut (I8 _ u.m_ o z) U7<|C6 1 [1,3,5,7] a Z<|Uh 2 [1,3,5,7,15] Z<|G.cd (fun m=>?_) fun m=>?_
 ·have hs:dZ o≠0:=by
   intro e;rw [e] at m;exact absurd m dc_
  exact Uh 2 [6] Z<|Up U2<|⟨by unfold ia;rw [aJ hs],Z⟩
 have hs:dZ o=0:=by simpa using m
 have i:¬ dZ o≠0:=fun h=>h hs;obtain ⟨F,H,I⟩:=Pd hs;have J:=(rW hs).2.2;refine Ul fun R a=>Uj (PtrTo.block (Mem.get D mup) _) U8<|Uk U6<|Uj (bkT c 2) U8<|Uu (by have h:=qR E u.m_ _ d f (ptO o) B.m_ A H I;rw [F] at h;exact h) U7 fl_<|C6 5 [1,5,8,9] a Z<|Ui 5 Z fun R a=>UN U8<|Un [1,5,29] a Z<|G.cd (fun p=>?_) fun p=>?_
 ·have g:KD d f o=false:=by
   have h:(!KD d f o)=true:=p;simpa using h
  exact Uh 1 [6] Z<|Up U2<|⟨by unfold ia;rw [aF i,aJ g],Z⟩
 have g:¬ KD d f o=false:=by
  have h:(!KD d f o)=false:=p;have h2:KD d f o=true:=by simpa using h
  rw [h2];decide
 refine UD [0,1,2,3,4,5,6,7,8,9] [(3,1),(7,1)] Z kr_ fun R Q a=>Um 2 Z<|Uj (bkT c 1) U8<|US (fun _=>(kf _ _ b o.upper y.m_)) U9<|Um 2 Z<|Uj (bkT c 1) U8<|US (fun _=>(kf _ _ b o.lower y.m_)) U9<|C6 2 [5,10,11] a Z<|Ui 4 Z fun R a=>UM U6 (fun _=>PtrTo.blockT (Mem.get c mup) _ 1) U3<|Um 4 Z<|UJ U8<|UN U8<|C6 1 [5,10,11,38] a Z<|G.cd (fun q=>?_) fun q=>?_
 ·have j:La b o=true:=q;exact Uh 1 [6] Z<|Up U2<|⟨by unfold ia;rw [aF i,aF g,aJ j],Z⟩
 have j:¬ La b o=true:=by rw [show La b o=false from q];decide
 refine Ui 1 Z fun R a=>Uj (bkT c 1) U8<|Um 5 Z<|UJ U8<|C6 1 [5,50] a Z<|G.cd (fun r=>?_) fun r=>?_
 ·have k:ordB b o=true:=r;exact Uh 1 [6] Z<|Up U2<|⟨by unfold ia;rw [aF i,aF g,aF j,aJ k],Z⟩
 have k:¬ ordB b o=true:=by rw [show ordB b o=false from r];decide
 refine Ui 1 Z fun R a=>Uj (bkT c 1) U8<|Um 3 Z<|UM U6 (fun _=>PtrTo.blockT (Mem.get c mup) _ 1) U3<|UG (fun K=>(I1 _ o.depth (J (by exact dU K.1)) z.depth)) U9<|Uk U6<|UJ U8<|C6 1 [5,59] a Z<|G.cd (fun l=>?_) fun l=>?_
 ·have n:depB o=true:=by
   rw [uD] at l;exact l
  exact Uh 1 [6] Z<|Up U2<|⟨by unfold ia;rw [aF i,aF g,aF j,aF k,aJ n],Z⟩
 have n:¬ depB o=true:=by
  rw [uD] at l;rw [show depB o=false from l];decide
 refine Ui 1 Z fun R a=>Uj (bkT c 1) U8<|Um 4 Z<|UM U6 (fun _=>PtrTo.blockT (Mem.get c mup) _ 1) U3<|Uk U6<|UJ U8<|C6 1 [69] a Z<|G.cd (fun s=>?_) fun s=>?_
 ·have t:IB o=true:=by
   unfold IB;rw [<- IT];exact s
  exact Uh 1 [6] Z<|Up U2<|⟨by unfold ia;rw [aF i,aF g,aF j,aF k,aF n,aJ t],Z⟩
 have t:¬ IB o=true:=by
  unfold IB;rw [<- IT];intro h;rw [show ((o.kind == 3) && ((⟨o.nz.toArray⟩:ByteArray).data.toList == (⟨([48]:Str).toArray⟩:ByteArray).data.toList))=false from s] at h;cases h
 exact Uh 1 [6] Z<|Up U2<|⟨by unfold ia;rw [aF i,aF g,aF j,aF k,aF n,aF t],Z⟩
structure Bk where
 pts:List Pt
 tris:List Tri
 terr:List Str
 col:List Lay
 obs:List Obs
structure BookIn (C:Mem)(bv:Value)(B:Bk):Prop where
 ex:∃ v1 v2 tv cv ov,bv=.agg ⟨[v1,v2,tv,cv,ov]⟩/\Sl C 2 v1 (B.pts.map gl)/\Sl C 3 v2 (B.tris.map iu)/\Sl C 1 tv (B.terr.map eA)/\Sl C 3 cv (B.col.map xY)/\Sl C 10 ov (B.obs.map rI)
theorem BookIn.mono {C D:Mem}{b:Value}{B:Bk}(h:BookIn C b B)(a:C.le D):BookIn D b B:=by
 obtain ⟨c,d,e,f,g,h1,h2,h3,h4,h5,i⟩:=h.ex;exact ⟨c,d,e,f,g,h1,h2.mono a,h3.mono a,h4.mono a,h5.mono a,i.mono a⟩
theorem BookIn.m_ {D:Mem}{B:Bk}(h:BookIn C bv B)(a:C.le D:=by exact mup):BookIn D bv B:=BookIn.mono h a
structure BookR (B:Bk):Prop where
 terr:∀ s∈B.terr,s.length<=999998
 col:∀ x∈B.col,On x
 lcol:B.col.length<=1000000
 obs:∀ o∈B.obs,ObsR o
noncomputable def obZ (B:Bk)(pre:List Obs)(o:Obs):Int:=if ia B.pts B.tris B.col o≠0 then ia B.pts B.tris B.col o else if o.name∈pre.map Obs.name then 9 else 0
def JQ:Obs:=⟨0,[],[],[],[],[],[],[],[],[]⟩
noncomputable def vN (B:Bk):Nat->Int
 | 0=>0
 | n+1=>if vN B n≠0 then vN B n else obZ B (B.obs.take n) (B.obs.getD n JQ)
noncomputable def iH (B:Bk):Int:=if nR B.pts.length B.terr≠0 then nR B.pts.length B.terr else if rK B.col≠0 then rK B.col else if 100<B.obs.length then 4 else vN B B.obs.length
theorem xk {B:Bk}{n:Nat}(h:vN B n≠0):∀ m,n<=m->vN B m=vN B n
 | 0,hm=>by rw [show n=0 by omega]
 | m+1,hm=>by
  rcases Q1 m n with h1 | h1
  ·rw [show n=m+1 by omega]
  have a:=xk h m h1;simp only [vN,a];rw [aJ h]
theorem Lw {l:List Obs}{x:Obs}(h:l[i]?=some x):l.getD i JQ=x:=by rw [am,h,RT]
theorem uA {B:Bk}{x:Obs}(a:vN B i=0)(b:B.obs[i]?=some x):vN B (i+1)=obZ B (B.obs.take i) x:=by
 simp only [vN,a];rw [aF dc_,Lw b]
theorem Gn {B:Bk}{x:Obs}(c:vN B i=0)(a:B.obs[i]?=some x)(b:obZ B (B.obs.take i) x=z)(d:z≠0):vN B B.obs.length=z:=by
 have e:=(aL.1 a).1;have h1:=uA c a;rw [xk (n:=i+1) (by rw [h1,b];exact d) B.obs.length om_,h1,b]
def GA (l:List Obs):List (Str × Value):=l.map fun o=>(o.name,.bool true)
theorem Gz (l:List Obs)(s:Str):lX (.bool false) false (dY (GA l) s)=.bool (decide (s∈l.map Obs.name)):=by
 have a:(GA l).map (·.1)=l.map Obs.name:=by unfold GA;rw [RC];rfl
 cases h:dY (GA l) s with
 | none =>
  have h1:=cC.1 h;rw [a] at h1;rw [Q6 h1];rfl
 | some v =>
  have h1:=gk h;have h2:=SN (f:=(·.1)) h1;rw [a] at h2;obtain ⟨o,_,b⟩:=QE.1 h1;cases b
  rw [QV h2];rfl
theorem JV {l:List Obs}{o:Obs}(h:o.name ∉ l.map Obs.name):iK (GA l) o.name (.bool true)=GA (l++[o]):=by
 have a:(GA l).map (·.1)=l.map Obs.name:=by unfold GA;rw [RC];rfl
 rw [jS (by rw [cC,a];exact h)];simp [GA]
theorem qV (C:Mem)(n:Tabs C)(F:Value)(B:Bk)(L:BookIn C F B)(t:Good B.pts B.tris)(o:BookR B) :
  Gives cx.P 181 [F] C (.int .i64 (iH B)):=by
 obtain ⟨H,I,Y,cv,ov,rfl,h1,h2,h3,h4,h5⟩:=id L.ex;obtain ⟨M,N,rfl,O,aa,_⟩:=id h5;have ab:maxLen<=9223372036854775807:=by simp [maxLen]
 simp only [ar] at h5 O ⊢;have hm:MeshIn C (.agg ⟨[H,I]⟩) B.pts B.tris:=⟨H,I,rfl,h1,h2⟩;refine Ur func181 59 U3 fun w0=>Ul fun R a=>UC U6 fun Q=>C6 1 [1] a Z<|G.freeze 0 Z fun _ _ b=>Ui 1 Z fun R a=>Uj (bkT b 2) U8<|Ut (gG _ n.m_ _ B.pts B.tris hm.m_ t) U7<|C6 1 [1,3] a Z<|Uh 2 [1,3,14] Z<|G.cd (fun J=>?_) fun J=>?_
 ·exact absurd J dc_
 refine Ui 1 Z fun R a=>Uj (bkT b 2) U8<|Uk U6<|Uj (bkT b 1) U8<|Ut (mm _ n.m_ _ _ B.pts B.tris B.terr hm.m_ t h3.m_ o.terr) U7<|C6 1 [1,4] a Z<|Uh 2 [1,4,22] Z<|G.cd (fun p=>?_) fun p=>?_
 ·have c:nR B.pts.length B.terr≠0:=by
   intro e;rw [e] at p;exact absurd p dc_
  exact Uh 2 [2] Z<|Up U2<|⟨by unfold iH;rw [aJ c],Z⟩
 have c:¬ nR B.pts.length B.terr≠0:=by
  have h:nR B.pts.length B.terr=0:=by simpa using p
  exact fun h2=>h2 h
 refine Ui 1 Z fun R a=>Uj (bkT b 1) U8<|Ut (qS _ n.m_ _ B.col h4.m_ o.col o.lcol) U7<|C6 1 [1,5] a Z<|Uh 2 [1,5,28] Z<|G.cd (fun q=>?_) fun q=>?_
 ·have d:rK B.col≠0:=by
   intro e;rw [e] at q;exact absurd q dc_
  exact Uh 2 [2] Z<|Up U2<|⟨by unfold iH;rw [aF c,aJ d],Z⟩
 have d:¬ rK B.col≠0:=by
  have h:rK B.col=0:=by simpa using q
  exact fun h2=>h2 h
 refine Ui 1 Z fun R a=>Uj (bkT b 1) U8<|C6 2 [1,33] a Z<|G.cd (fun u=>?_) fun u=>?_
 ·have g:100<B.obs.length:=by
   simp only [QK] at u;omega
  exact Uh 1 [2] Z<|Up U2<|⟨by unfold iH;rw [aF c,aF d,aJ g],Z⟩
 have g:¬ 100<B.obs.length:=by
  simp only [Q7] at u;omega
 refine Ul fun R a=>D.makeMap keyS Z Z Z Z fl_ fun v=>C6 1 [1,6] a Z<|Ui 1 Z fun R a=>Uj (bkT b 1) U8<|C6 2 [1,6,36,37,38] a Z<|G.loop (fun fr C' K S=>∃ (i:Nat),(i<=B.obs.length/\vN B i=0)/\fr=[(1,[],.pointer (some ⟨Q,0,none⟩)),(6,[],.map (some v)),(36,[],.slice M B.obs.length N),(37,[],.int .i64 B.obs.length),(38,[],.int .i64 i)]/\K=[.obj v (aV keyS.enc (GA (B.obs.take i)))]/\S=B.obs.length-i) (hn_ [1,6,36,37,38] Z) ⟨0,⟨QH _,Z⟩,Z,Z,Z⟩ (fun fr ac ad m _ T=>?_);obtain ⟨i,⟨hi,k⟩,rfl,rfl,rfl⟩:=T;refine Uh 1 [1,6,36,37,38,39] Z<|G.cd (fun w=>?_) fun w=>?_
 ·have y:i<B.obs.length:=by simpa using w
  obtain ⟨x,f⟩:∃ x,B.obs[i]?=some x:=⟨B.obs[i],aj y⟩;have U:=o.obs x (aX f);have V:B.obs.take (i+1)=B.obs.take i++[x]:=by rw [Q4,f];rfl
  refine Ul fun R a=>Uy h5.m_ U10 om_ (cq f) fl_ fun af W=>Uj W U8<|UB U5 fun b8=>Us (j:=0) U12<|Un [1,6,8,36,37,38] a Z<|Ui 1 Z fun R a=>Uj (bkT b 2) U8<|Uk U6<|Uj (bkT b 1) U8<|Uo ag U9<|Ut (M9 _ n.m_ _ _ B.pts B.tris B.col x hm.m_ t h4.m_ U) U7<|C6 1 [1,6,8,9,36,37,38] a Z<|Uh 2 [1,6,8,9,36,37,38,49] Z<|G.cd (fun r=>?_) fun r=>?_
  ·have l:ia B.pts B.tris B.col x≠0:=by
    intro e;rw [e] at r;exact absurd r dc_
   have A:=Gn k f (z:=ia B.pts B.tris B.col x) (by unfold obZ;rw [aJ l]) l;exact Uh 2 [2] Z<|Up U2<|⟨by unfold iH;rw [aF c,aF d,aF g,A],Z⟩
  have l:¬ ia B.pts B.tris B.col x≠0:=by
   have h:ia B.pts B.tris B.col x=0:=by simpa using r
   exact fun h2=>h2 h
  refine Ui 2 Z fun R a=>Uo ag U9<|VD keyS ae Z Z Z Z Z Z Z Z kr_ Z (Gz (B.obs.take i) x.name) Z Z<|Un [1,6,8,36,37,38,54] a Z<|G.cd (fun E=>?_) fun E=>?_
  ·have s:x.name∈(B.obs.take i).map Obs.name:=PZ E;have A:=Gn k f (z:=9) (by unfold obZ;rw [aF l,aJ s]) dc_;exact Uh 1 [2] Z<|Up U2<|⟨by unfold iH;rw [aF c,aF d,aF g,A],Z⟩
  have s:x.name ∉ (B.obs.take i).map Obs.name:=QF E;have X:vN B (i+1)=0:=by rw [uA k f];unfold obZ;rw [aF l,aF s]
  refine Ui 2 Z fun R a=>Uo ag U9<|D.mapUpdate keyS (j:=1) Z Z Z Z Z Z Z Z Z Z kr_<|Un [1,6,36,37,38] a Z<|Ul fun R a=>Uq _ Z U6<|C6 1 [1,6,36,37,38] a Z<|UY 1 Z<|Uz (L':=[.obj v (aV keyS.enc (GA (B.obs.take (i+1))))]) (by rw [V,<- JV s];rfl)<|Uw (m':=B.obs.length-(i+1)) om_ mup (hn_ [1,6,36,37,38] Z) ⟨i+1,⟨by omega,X⟩,Z,Z,Z⟩
 have y:i=B.obs.length:=by
  have:¬ i<B.obs.length:=by simpa using w
  omega
 refine Uh 1 [2] Z<|Up U2<|⟨?_,Z⟩;rw [y] at k;unfold iH;rw [aF c,aF d,aF g,k]
theorem mI (C:Mem)(g:Tabs C)(b:Value)(B:Bk)(c:BookIn C b B)(j:Good B.pts B.tris)(k:BookR B)(l:iH B=0)(i:Nat)(n:i<B.obs.length) :
  Gives cx.P 289 [b,.int .i64 i] C (.int .i64 0):=by
 have d:=c;obtain ⟨o,p,q,r,s,rfl,h1,h2,h3,h4,h5⟩:=id c.ex;obtain ⟨t,u,rfl,m,v,_⟩:=id h5;have w:maxLen<=9223372036854775807:=by simp [maxLen]
 simp only [ar] at h5 m d ⊢;refine Ur func289 20 U3 fun w0=>Ul fun R a=>UC U6 fun x=>C6 1 [1,2] a Z<|Ul fun R a=>Uo ag U9<|Uu (by have h:=qV _ g.m_ _ B d.m_ j k;rw [l] at h;exact h) U7 fl_<|C6 1 [1,2,5] a Z<|Uh 2 [1,2,5,9] Z<|G.cd (fun e=>?_) fun e=>?_
 ·exact absurd e dc_
 refine Ui 5 Z fun R a=>Uo ag U9<|Um 2 Z<|UN U8<|Un [19] a Z<|G.cd (fun f=>?_) fun f=>?_
 ·exfalso;simp only [SA,QK] at f;omega
 exact Uh 1 [4] Z<|Up U2<|⟨Z,Z⟩
noncomputable def lk (o:Obs)(z:Rat):Rat:=if o.kind=2 then z-di o.depth else z
structure ObsAt (o:Obs)(p:Pt):Prop where
 x:o.x=qtx p.1
 y:o.y=qtx p.2
 q:QP 23 p
 r:PtR p
 d:o.kind=2->aW o.depth=true
theorem xl {o:Obs}(h:ObsAt o p):(.agg ⟨[af o.x,af o.y]⟩:Value)=ptV p:=by unfold ptV gl;rw [h.x,h.y]
structure Terr (B:Bk)(fs:List Rat):Prop where
 e:B.terr=fs.map qtx
 l:fs.length=B.pts.length
 q:∀ q∈fs,QB 22 q
theorem Lb {B:Bk}(h:Terr B fs):∀ q∈fs,aW (qtx q)=true:=fun q a=>bi (h.q q a)
theorem G8 (C:Mem)(k:Tabs C)(m:Value)(B:Bk)(i:List Rat)(o:Obs)(p:Pt)(z:Rat)(v:BookIn C m B)(w:Good B.pts B.tris)(b:Terr B i)(c:ObsAt o p)(x:AS B.pts B.tris i p=.tuple #[af (qtx z),.int .i64 0])(y:QB 22 z) :
  Gives cx.P 290 [m,.agg ⟨rI o⟩] C (.tuple #[af (qtx (lk o z)),.int .i64 0]):=by
 obtain ⟨n,s,E,F,H,rfl,h1,h2,h3,h4,h5⟩:=id v.ex;have hm:MeshIn C (.agg ⟨[n,s]⟩) B.pts B.tris:=⟨n,s,rfl,h1,h2⟩;rw [b.e,<- iv] at h3;refine Ur func290 31 U3 fun w0=>Ul fun R a=>UC U6 fun I=>UC U6 fun J=>C6 2 [2,3] a Z<|G.freeze 1 Z fun _ _ t=>G.freeze 0 Z fun u _ j=>Ui 1 Z fun R a=>Uj (bkT t 2) U8<|Uk U6<|Uj (bkT t 1) U8<|Uk U6<|Uj (bkT j 2) U8<|Uu (by have h:=tR u k.m_ _ _ B.pts B.tris i 22 dc_ dc_ hm.m_ w h3.m_ b.l b.q (Lb b) p c.q c.r;rw [x,<- xl c] at h;exact h) U7 fl_<|C6 5 [3,6,7] a Z<|Ui 4 Z fun R a=>UM U6 (fun _=>PtrTo.blockT (Mem.get j mup) _ 1) U3<|Uk U6<|UJ U8<|Un [3,6,7,24] a Z<|G.cd (fun f=>?_) fun f=>?_
 ·have g:o.kind=2:=dU (T7.1 f).2;obtain ⟨A,D⟩:=dy (c.d g);refine Ui 2 Z fun R a=>Uj (bkT j 1) U8<|Uu (by have h:=er u k.m_ z (di o.depth) 23 dc_ dc_ (y.le dc_) D;rw [<- A] at h;exact h) U7 fl_<|C6 1 [6,7] a Z<|Uh 4 [4,5] Z<|Uv (G.dropAll (UH U3 ?_));exact ⟨by unfold lk;rw [aJ g],Z⟩
 have g:¬ o.kind=2:=by
  intro e;rw [show ((((0:Int) == 0) && (o.kind == 2))=true) by rw [e];rfl] at f;cases f
 refine Uh 4 [4,5] Z<|Uv (G.dropAll (UH U3 ?_));exact ⟨by unfold lk;rw [aF g],Z⟩
theorem D1 (C:Mem)(c:Tabs C)(h:Value)(B:Bk)(d:List Rat)(i:Nat)(o:Obs)(p:Pt)(z:Rat)(b:BookIn C h B)(j:Good B.pts B.tris)(q:BookR B)(r:iH B=0)(s:Terr B d)(k:B.obs[i]?=some o)(t:ObsAt o p)(u:AS B.pts B.tris d p=.tuple #[af (qtx z),.int .i64 0])(v:QB 22 z)(l:QB 22 (lk o z)) :
  Gives cx.P 243 [h,.int .i64 i] C (.tuple #[af (qtx (lk o z)),.int .i64 0]):=by
 have e:=b;have w:=(aL.1 k).1;obtain ⟨A,D,E,F,H,rfl,h1,h2,h3,h4,h5⟩:=id b.ex;obtain ⟨I,J,rfl,x,K,_⟩:=id h5;have L:maxLen<=9223372036854775807:=by simp [maxLen]
 simp only [ar] at h5 x e ⊢;refine Ur func243 36 U3 fun w0=>?_;refine Ul fun R a=>?_;refine UC U6 (fun M=>?_);refine C6 2 [1,2] a Z ?_;clear a R;refine G.freeze 0 Z (fun _ _ f=>?_);refine Ul fun R a=>?_;refine Uj (bkT f 5) U8 ?_;refine Uk U6 ?_;refine Ut (mI _ c.m_ _ B e.m_ j q r i w) U7 ?_;refine C6 1 [1,2,6] a Z ?_;clear a R;refine Uh 2 [1,2,6,13] Z ?_;refine G.cd (fun m=>?_) fun m=>?_
 ·exact absurd m dc_
 refine UD [0,1,2,3,4,5,6,7,8,9,10,11] [(6,1)] Z kr_ (fun R b a=>?_);refine Uj (bkT f 5) U8 ?_;refine Uk U6 ?_;refine Uj (bkT f 1) U8 ?_;refine Uk U6 ?_;refine Uy h5.m_ U10 om_ (cq k) fl_ (fun N y=>?_);refine Uj y U8 ?_;refine US (fun _=>(G8 _ c.m_ _ B d o p z e.m_ j s t u v)) U9 ?_;refine Um 5 Z ?_;refine Un [7,8] a Z ?_;clear a b R;refine Ui 4 Z fun R a=>?_;refine US (fun _=>(dE _ c.m_ _ (uj l))) U9 ?_;refine Uk U6 ?_;refine UJ U8 ?_;refine Un [7,8,31] a Z ?_;clear a R;refine G.cd (fun g=>?_) fun g=>?_
 ·exfalso;rw [ym l] at g;exact absurd g dc_
 refine Uh 2 [7,8,33] Z ?_;refine G.cd (fun n=>?_) fun n=>?_
 ·exact absurd n dc_
 refine Uh 3 [4,5] Z ?_;refine Uv (G.dropAll (UH U3 ?_));exact ⟨Z,Z⟩
def wm (lo hi:Int)(n:Nat):List Nat:=(List.range n).filter fun k:Nat=>decide (lo<=(k:Int)/\(k:Int)<hi)
def Fe (col:List Lay)(o:Obs):Int:=if o.kind=1 then kp (isU o.upper) col 0-1 else kp (isU o.lower) col 0
def Ff (col:List Lay)(o:Obs):Int:=if o.kind=1 then kp (isU o.upper) col 0+1 else kp (isU o.upper) col 0
def cE (col:List Lay)(o:Obs):List Nat:=wm (Fe col o) (Ff col o) (col.length-1)
theorem IQ {a b:Int}(j:max a 0<=(i:Int))(l:(i:Int)<=max (max a 0) (min b n))(o:min b (n:Int)<=(i:Int)):(List.range i).filter (fun k:Nat=>decide (a<=(k:Int)))=wm a b n:=by
 unfold wm;have hs:∀ m:Nat,(List.range (i+m)).filter (fun k:Nat=>decide (a<=(k:Int)/\(k:Int)<b/\k<n))=(List.range i).filter (fun k:Nat=>decide (a<=(k:Int)/\(k:Int)<b/\k<n)):=by
  intro m;induction m with
  | zero=>rfl
  | succ m c =>
   rw [show i+(m+1)=i+m+1 by omega,RW,Se,c,List.filter_cons];rw [aF (by simp only [QK];omega)];simp
 have f:(List.range i).filter (fun k:Nat=>decide (a<=(k:Int)))=(List.range i).filter (fun k:Nat=>decide (a<=(k:Int)/\(k:Int)<b/\k<n)):=by
  refine List.filter_congr (fun k d=>?_);rw [QU] at d;rw [Ry];omega
 have g:(List.range n).filter (fun k:Nat=>decide (a<=(k:Int)/\(k:Int)<b))=(List.range n).filter (fun k:Nat=>decide (a<=(k:Int)/\(k:Int)<b/\k<n)):=by
  refine List.filter_congr (fun k d=>?_);rw [QU] at d;rw [Ry];omega
 rw [f,g];rcases Nat.le_total i n with e | e
 ·obtain ⟨m,rfl⟩:=Nat.exists_eq_add_of_le e;exact (hs m).symm
 have h:∀ m:Nat,(List.range (n+m)).filter (fun k:Nat=>decide (a<=(k:Int)/\(k:Int)<b/\k<n))=(List.range n).filter (fun k:Nat=>decide (a<=(k:Int)/\(k:Int)<b/\k<n)):=by
  intro m;induction m with
  | zero=>rfl
  | succ m c =>
   rw [show n+(m+1)=n+m+1 by omega,RW,Se,c,List.filter_cons];rw [aF (by simp only [QK];omega)];simp
 obtain ⟨m,rfl⟩:=Nat.exists_eq_add_of_le e;exact h m
theorem sH (p:α->Bool)(l:List α):-1<=kp p l 0/\kp p l 0<=(l.length:Int):=by
 rcases sI p l with ⟨h,_⟩ | ⟨i,x,h,h2,_⟩
 ·omega
 have:=(aL.1 h2).1;omega
theorem yK (C:Mem)(_ac:Tabs C)(F:Value)(B:Bk)(o:Obs)(q:BookIn C F B)(ad:B.col.length<=1000)(M:B.col≠[]) :
  Pur cx.P 291 [F,.agg ⟨rI o⟩] C fun u D=>Sl D 1 u ((cE B.col o).map aT):=by
 obtain ⟨v1,v2,tv,cv,ov,rfl,h1,h2,h3,h4,h5⟩:=id q.ex;obtain ⟨A4,c4,rfl,N,ae,_⟩:=id h4;have af:maxLen<=9223372036854775807:=by simp [maxLen]
 have ag:=Rn.2 M;have O:=sH (isU o.lower) B.col;have Q:=sH (isU o.upper) B.col;obtain ⟨lw,H⟩:∃ z,kp (isU o.lower) B.col 0=z:=⟨_,rfl⟩;obtain ⟨up,I⟩:∃ z,kp (isU o.upper) B.col 0=z:=⟨_,rfl⟩;obtain ⟨lo,b⟩:∃ z,Fe B.col o=z:=⟨_,rfl⟩;obtain ⟨c,d⟩:∃ z,Ff B.col o=z:=⟨_,rfl⟩;obtain ⟨n,S⟩:∃ n,B.col.length-1=n:=⟨_,rfl⟩;unfold cE;rw [b,d,S];unfold Fe at b;unfold Ff at d;rw [H] at O b;rw [I] at Q b d;simp only [ar] at h4 N ⊢;have ah:-2<=lo/\lo<=1000:=by rw [<- b];split <;> omega
 have ai:-2<=c/\c<=1001:=by rw [<- d];split <;> omega
 refine Ur func291 43 U3 fun w0=>?_;refine Ul fun R a=>?_;refine UC U6 (fun J=>?_);refine UC U6 (fun b3=>?_);refine C6 1 [2,3] a Z ?_;clear a R;refine G.freeze 1 Z (fun _ _ s=>?_);refine G.freeze 0 Z (fun K _ t=>?_);refine UD [0,1,2,3,4,5,6,7,8,9,10,11] [(4,1),(9,1)] Z kr_ (fun R q a=>?_);refine Uk U6 ?_;refine Uj (bkT s 1) U8 ?_;refine Uk U6 ?_;refine Uj (bkT t 1) U8 ?_;refine UG (fun _=>(by have h:=kf K _ B.col o.lower h4.m_;rw [H] at h;exact h)) U9 ?_;refine Uk U6 ?_;refine Uj (bkT s 1) U8 ?_;refine Uk U6 ?_;refine Uj (bkT t 1) U8 ?_;refine UG (fun _=>(by have h:=kf K _ B.col o.upper h4.m_;rw [I] at h;exact h)) U9 ?_;refine Um 2 Z ?_;refine Un [2,3,5,6] a Z ?_;clear a q R;refine Ui 1 Z fun R a=>?_;refine Uj (bkT t 1) U8 ?_;refine C6 1 [2,5,6,21] a Z ?_;clear a R;refine G.cut (fun fr T g v=>(True)/\fr=[(2,[],.pointer (some ⟨J,0,none⟩)),(5,[],.int .i64 lo),(6,[],.int .i64 c)]/\g=[]) ?_ (fun fr _ aj v _ x=>?_)
 ·refine G.cd (fun l=>?_) fun l=>?_
  ·have f:o.kind=1:=dU l;rw [aJ f] at b d;subst b d;refine Ui 1 Z fun R a=>?_;refine Uq _ Z U6 ?_;refine Uk U6 ?_;refine Uq _ Z U6 ?_;refine C6 2 [2,5,6] a Z ?_;clear a R;refine Ux 0 (Mem.le.refl _) (hn_ [2,5,6] Z) ⟨trivial,Z,Z⟩
  have f:¬ o.kind=1:=by
   intro e;rw [show ((o.kind == 1)=true) by rw [e];rfl] at l;cases l
  rw [aF f] at b d;subst b d;refine Ux 0 (Mem.le.refl _) (hn_ [2,5,6] Z) ⟨trivial,Z,Z⟩
 obtain ⟨_,rfl,rfl⟩:=x;refine Uh 1 [2,5,6,7] Z ?_;obtain ⟨p,U⟩:∃ p:Nat,max lo 0=(p:Int):=⟨(max lo 0).toNat,by omega⟩;refine Ui 1 Z fun R a=>?_;refine D.max (((p:Nat):Int)) U6 U U2 ?_;refine C6 1 [2,6,7,8] a Z ?_;clear a R;refine G.nilArr 3 1 ?_;refine G.loop (fun fr T g v=>∃ (i:Nat)(out:List Nat)(w:Value),(max lo 0<=(i:Int)/\(i:Int)<=max (max lo 0) (min c n)/\out=(List.range i).filter (fun k:Nat=>decide (lo<=(k:Int))))/\fr=[(2,[],.pointer (some ⟨J,0,none⟩)),(6,[],.int .i64 c),(7,[],w),(8,[],.int .i64 i)]/\g=[.arr w 3 1 out.length (out.map aT).flatten]/\v=2000-i) (hn_ [2,6,7,8] Z) ⟨p,[],_,⟨by omega,by omega,by
  symm;rw [List.filter_eq_nil_iff];intro k f;rw [QU] at f;simp only [QK];omega⟩,rfl,rfl,rfl⟩ (fun fr ak am m _ x=>?_)
 obtain ⟨i,out,w,⟨V,W,A⟩,rfl,rfl,rfl⟩:=x;refine Ui 3 Z fun R a=>?_;refine Uj (bkT s 1) U8 ?_;refine Uk U6 ?_;refine Uq _ Z U6 ?_;refine D.min ((min c (n:Int))) U6 om_ U2 ?_;refine C6 1 [2,6,7,8,35] a Z ?_;clear a R;refine G.cd (fun E=>?_) fun E=>?_
 ·have an:(i:Int)<min c (n:Int):=PZ E;have ao:out.length<=i:=by
   rw [A];exact QW (Sm _ _) al
  have X:(List.range (i+1)).filter (fun k:Nat=>decide (lo<=(k:Int)))=out++[i]:=by
   rw [RW,Se,<- A,List.filter_cons,aJ (by simp only [QK];omega)];rfl
  refine Ui 2 Z fun R a=>?_;refine UF [aT i] U12 (fun ap _ _ Y=>?_);refine D.append (j:=0) U11 Y Z ax (by simp only [QA];omega) fl_ (fun L=>?_);refine C6 1 [2,6,7,8] a Z ?_;clear a R;refine Ui 1 Z fun R a=>?_;refine Uq _ Z U6 ?_;refine C6 1 [2,6,7,8] a Z ?_;clear a R;refine Uz (L':=[.arr L 3 1 (out++[i]).length ((out++[i]).map aT).flatten]) (by simp [aT]) ?_;refine Uw (m':=2000-(i+1)) om_ mup (hn_ [2,6,7,8] Z) ⟨i+1,out++[i],L,⟨by omega,by omega,X.symm⟩,Z,Z,Z⟩
 have aa:min c (n:Int)<=(i:Int):=by
  have:=QF E;omega
 refine Uh 2 [4] Z ?_;refine G.freezeArr 0 (out.map aT) rfl rfl (by intro r hr;obtain ⟨y,_,rfl⟩:=QE.1 hr;rfl) al (fun Cg hg ab=>?_);refine Up U2 ?_;exact ⟨Z,by rw [<- IQ V W aa,<- A];exact ab⟩
theorem wk (C:Mem)(j:Tabs C)(k:Value)(B:Bk)(i:Nat)(o:Obs)(d:BookIn C k B)(p:Good B.pts B.tris)(q:BookR B)(a:iH B=0)(l:B.obs[i]?=some o) :
  Pur cx.P 244 [k,.int .i64 i] C fun u D=>∃ v,u=.tuple #[v,.int .i64 0]/\Sl D 1 v ((cE B.col o).map aT):=by
 have f:=d;have r:=(aL.1 l).1;have b:rK B.col=0:=by
  unfold iH at a;split at a
  ·rename_i h;exact absurd a h
  split at a
  ·rename_i h;exact absurd a h
  rename_i h;exact Q5 h
 have m:B.col≠[]:=by
  intro e;rw [e] at b;exact absurd b dc_
 have s:B.col.length<=1000:=by
  unfold rK at b;rw [aF m] at b;split at b
  ·exact absurd b dc_
  omega
 obtain ⟨y,z,A,E,F,rfl,h1,h2,h3,h4,h5⟩:=id d.ex;obtain ⟨H,I,rfl,t,J,_⟩:=id h5;have K:maxLen<=9223372036854775807:=by simp [maxLen]
 simp only [ar] at h5 t f ⊢;refine Ur func244 20 U3 fun w0=>Ul fun R c=>UC U6 fun L=>C6 2 [1,2] c Z<|G.freeze 0 Z fun _ _ g=>Ul fun R c=>Uj (bkT g 5) U8<|Uk U6<|Ut (mI _ j.m_ _ B f.m_ p q a i r) U7<|C6 1 [1,2,6] c Z<|Uh 2 [1,2,6,11] Z<|G.cd (fun n=>?_) fun n=>?_
 ·exact absurd n dc_
 refine UD [0,1,2,3,4,5,6,7,8] [] Z kr_ fun R d c=>Uj (bkT g 5) U8<|Uk U6<|Uj (bkT g 1) U8<|Uk U6<|Uy h5.m_ U10 om_ (cq l) fl_ fun M w=>Uj w U8<|UR (yK _ j.m_ _ B o f.m_ s m) U7 fun N _ _ x=>Um 2 Z<|Un [4,5] c Z ?_;clear c d R;refine Uv (G.dropAll (UH U3 ?_));exact ⟨Z,_,Z,x⟩
theorem Gt (x y:Nat)(a:x<18446744073709551616)(b:y<18446744073709551616)(C:Mem):Gives cx.P 128 [.int .u64 x,.int .u64 y] C (.tuple #[.int .u64 ((x*y / 18446744073709551616:Nat):Int),.int .u64 ((x*y % 18446744073709551616:Nat):Int)]) :=
 Gives.ofCalls kr_ (fun w=>Any.bits_Mul Tryz.mul x y a b w) C
theorem fI {a:Value}{b:List Value}(_d:k+m<=n)(c:m<=k)(_e:b.length=n-k) :
  aD (List.replicate k a++b) ((List.replicate k a++b).take m) k=List.replicate (k+m) a++b.drop m:=by
 have h1:(List.replicate k a++b).take m=List.replicate m a:=by
  rw [List.take_append_of_le_length (by simpa using c),List.take_replicate,RD c]
 have h2:(List.replicate k a++b).take k=List.replicate k a:=by
  rw [List.take_append_of_le_length al,List.take_replicate,Nat.min_self]
 have h3:(List.replicate k a++b).drop (k+m)=b.drop m:=by
  rw [Tq,Rb,Ss al,SK];congr 1;omega
 unfold aD;rw [h1,h2,Rb,h3,List.replicate_append_replicate]
theorem AF (a:Value)(n:Nat):kG [a] n=List.replicate n a:=by
 rw [fa];induction n with
 | zero=>rfl
 | succ n b=>rw [RP,RU,b,RP];rfl
theorem lT (n:Nat)(a:n<18446744073709551616)(C:Mem):Gives cx.P 128 [.int .u64 (1:Int),.int .u64 n] C (.tuple #[.int .u64 0,.int .u64 n]):=by
 have h:=Gt 1 n om_ a C;have b:1*n / 18446744073709551616=0:=by omega
 have c:1*n % 18446744073709551616=n:=by omega
 rw [b,c] at h;exact h
theorem na (C:Mem)(v:Value)(n:Nat)(s:Str)(g:Sl C 1 v [[af s]])(y:n<=1000000):Jog.Fn cx.P 64 [v,.int .i64 n] C [] fun u _z e=>∃ b,u=.slice (some ⟨b,0,none⟩) n n/\e=[.arr u 32 1 n (List.replicate n (af s))]:=by
 have p:=g;obtain ⟨A,c,rfl,_⟩:=p;refine Ur func64 48 U3 fun w0=>Uh 1 [0,1] Z<|Uh 2 [0,1,10] Z<|G.cd (fun h=>?_) fun h=>?_
 ·simp at h;omega
 refine Ui 2 Z fun R d=>UU (c:=1) U8 Z fl_<|Uk U6<|UU (c:=(n:Int)) U8 (by rw [IntKind.wrap_u64];omega) fl_<|Uu (lT n om_ _) U7 fl_<|C6 5 [0,5,6] d Z<|Ui 5 Z fun R d=>UN U8<|Un [0,6,26] d Z<|G.cd (fun i=>?_) fun i=>?_
 ·simp at i;omega
 refine Ui 1 Z fun R d=>UU (c:=(n:Int)) U8 (by rw [IntKind.wrap_i64];omega) fl_<|Vl U9 (Qz _) (by show 16*n<=281474976710656;omega) (by simp only [maxLen];omega) fl_ fun a=>C6 1 [0,7] d Z<|Ui 2 Z fun R d=>VR (j:=0) (q:=min 1 n) U12 g U2 (by rw [cV];show 0+min 1 n*1<=n*1;omega) fl_<|C6 1 [7,8] d Z ?_;have r:aD (kG [af []] n) (([[af s]]:List (List Value)).take (min 1 n)).flatten 0=List.replicate (min 1 n) (af s)++List.replicate (n-min 1 n) (af []):=by
  rw [AF];cases n with
  | zero=>rfl
  | succ n=>rw [show min 1 (n+1)=1 by omega,RP];rfl
 refine Uz (L':=[.arr (.slice (some ⟨a,0,none⟩) n n) 32 1 n (List.replicate (min 1 n) (af s)++List.replicate (n-min 1 n) (af []))]) (by rw [<- r];rfl)<|G.loop (fun fr B e t=>∃ (k:Nat),(k<=n/\min 1 n<=k)/\fr=[(7,[],.slice (some ⟨a,0,none⟩) n n),(8,[],.int .i64 k)]/\e=[.arr (.slice (some ⟨a,0,none⟩) n n) 32 1 n (List.replicate k (af s)++List.replicate (n-k) (af []))]/\t=n-k) (hn_ [7,8] Z) ⟨min 1 n,⟨Nat.min_le_right _ _,Qz _⟩,Z,Z,Z⟩ (fun fr D E m w x=>?_);obtain ⟨k,⟨l,F⟩,rfl,rfl,rfl⟩:=x;refine Uh 4 [7,8,37] Z<|G.cd (fun f=>?_) fun f=>?_
 ·simp only [QK] at f;have o:k<n:=by omega
  have H:1<=k:=by omega
  refine UD [0,1,2,3,4,5,6,7,8,9] [] Z kr_ fun R I d=>Um 3 Z<|Vg k n n U12 (fun _=>⟨.inr ⟨_,Z⟩,.inl ⟨Z,Z⟩,.inl ⟨Z,Z⟩,l,Qz _,Qz _⟩) U2<|Um 2 Z<|Vg 0 k n U12 (fun _=>⟨.inl ⟨Z,Z⟩,.inr ⟨_,Z⟩,.inl ⟨Z,Z⟩,QH _,l,Qz _⟩) U2 ?_;refine VQ (j:=0) (off:=k) (g0:=a) (dl:=n-k) (dc:=n-k) (sl:=k-0) (sc:=n-0) (q:=min k (n-k)) U8 (by show some (Value.slice (if n=k then some (⟨a,0,none⟩:Addr) else (some (⟨a,0,none⟩:Addr)).map (·.add (k*1))) (n-k) (n-k))=_;rw [aF om_];simp [Addr.add_lit]) (by show some (Value.slice (if n=0 then some (⟨a,0,none⟩:Addr) else (some (⟨a,0,none⟩:Addr)).map (·.add (0*1))) (k-0) (n-0))=_;split <;> simp [Addr.add_lit]) U2 (by simp [lQ,af]) ap fl_ ?_;refine UQ (((k+min k (n-k):Nat):Int)) U4 om_ om_ om_ U2<|C6 1 [7,8] d Z<|Uz (L':=[.arr (.slice (some ⟨a,0,none⟩) n n) 32 1 n (List.replicate (k+min k (n-k)) (af s)++List.replicate (n-(k+min k (n-k))) (af []))]) (by rw [fI (n:=n) om_ (Nat.min_le_left _ _) al,List.drop_replicate,Nat.sub_sub];rfl)<|Uw (m':=n-(k+min k (n-k))) om_ w (hn_ [7,8] Z) ⟨k+min k (n-k),⟨by omega,by omega⟩,Z,Z,Z⟩
 simp only [Q7] at f;have o:k=n:=by omega
 subst o;refine Uh 2 [4] Z<|Uv (UV Z Z ?_);exact ⟨a,Z,by simp⟩
theorem nh (C:Mem)(v:Value)(n:Nat)(s:Str)(g:Sl C 1 v [[af s]])(y:n<=1000000):Jog.Fn cx.P 292 [v,.int .i64 n] C [] fun u _z e=>∃ b,u=.slice (some ⟨b,0,none⟩) n n/\e=[.arr u 32 1 n (List.replicate n (af s))]:=by
 have p:=g;obtain ⟨A,c,rfl,_⟩:=p;refine Ur func292 48 U3 fun w0=>Uh 1 [0,1] Z<|Uh 2 [0,1,10] Z<|G.cd (fun h=>?_) fun h=>?_
 ·simp at h;omega
 refine Ui 2 Z fun R d=>UU (c:=1) U8 Z fl_<|Uk U6<|UU (c:=(n:Int)) U8 (by rw [IntKind.wrap_u64];omega) fl_<|Uu (lT n om_ _) U7 fl_<|C6 5 [0,5,6] d Z<|Ui 5 Z fun R d=>UN U8<|Un [0,6,26] d Z<|G.cd (fun i=>?_) fun i=>?_
 ·simp at i;omega
 refine Ui 1 Z fun R d=>UU (c:=(n:Int)) U8 (by rw [IntKind.wrap_i64];omega) fl_<|Vl U9 (Qz _) (by show 16*n<=281474976710656;omega) (by simp only [maxLen];omega) fl_ fun a=>C6 1 [0,7] d Z<|Ui 2 Z fun R d=>VR (j:=0) (q:=min 1 n) U12 g U2 (by rw [cV];show 0+min 1 n*1<=n*1;omega) fl_<|C6 1 [7,8] d Z ?_;have r:aD (kG [af []] n) (([[af s]]:List (List Value)).take (min 1 n)).flatten 0=List.replicate (min 1 n) (af s)++List.replicate (n-min 1 n) (af []):=by
  rw [AF];cases n with
  | zero=>rfl
  | succ n=>rw [show min 1 (n+1)=1 by omega,RP];rfl
 refine Uz (L':=[.arr (.slice (some ⟨a,0,none⟩) n n) 32 1 n (List.replicate (min 1 n) (af s)++List.replicate (n-min 1 n) (af []))]) (by rw [<- r];rfl)<|G.loop (fun fr B e t=>∃ (k:Nat),(k<=n/\min 1 n<=k)/\fr=[(7,[],.slice (some ⟨a,0,none⟩) n n),(8,[],.int .i64 k)]/\e=[.arr (.slice (some ⟨a,0,none⟩) n n) 32 1 n (List.replicate k (af s)++List.replicate (n-k) (af []))]/\t=n-k) (hn_ [7,8] Z) ⟨min 1 n,⟨Nat.min_le_right _ _,Qz _⟩,Z,Z,Z⟩ (fun fr D E m w x=>?_);obtain ⟨k,⟨l,F⟩,rfl,rfl,rfl⟩:=x;refine Uh 4 [7,8,37] Z<|G.cd (fun f=>?_) fun f=>?_
 ·simp only [QK] at f;have o:k<n:=by omega
  have H:1<=k:=by omega
  refine UD [0,1,2,3,4,5,6,7,8,9] [] Z kr_ fun R I d=>Um 3 Z<|Vg k n n U12 (fun _=>⟨.inr ⟨_,Z⟩,.inl ⟨Z,Z⟩,.inl ⟨Z,Z⟩,l,Qz _,Qz _⟩) U2<|Um 2 Z<|Vg 0 k n U12 (fun _=>⟨.inl ⟨Z,Z⟩,.inr ⟨_,Z⟩,.inl ⟨Z,Z⟩,QH _,l,Qz _⟩) U2 ?_;refine VQ (j:=0) (off:=k) (g0:=a) (dl:=n-k) (dc:=n-k) (sl:=k-0) (sc:=n-0) (q:=min k (n-k)) U8 (by show some (Value.slice (if n=k then some (⟨a,0,none⟩:Addr) else (some (⟨a,0,none⟩:Addr)).map (·.add (k*1))) (n-k) (n-k))=_;rw [aF om_];simp [Addr.add_lit]) (by show some (Value.slice (if n=0 then some (⟨a,0,none⟩:Addr) else (some (⟨a,0,none⟩:Addr)).map (·.add (0*1))) (k-0) (n-0))=_;split <;> simp [Addr.add_lit]) U2 (by simp [lQ,af]) ap fl_ ?_;refine UQ (((k+min k (n-k):Nat):Int)) U4 om_ om_ om_ U2<|C6 1 [7,8] d Z<|Uz (L':=[.arr (.slice (some ⟨a,0,none⟩) n n) 32 1 n (List.replicate (k+min k (n-k)) (af s)++List.replicate (n-(k+min k (n-k))) (af []))]) (by rw [fI (n:=n) om_ (Nat.min_le_left _ _) al,List.drop_replicate,Nat.sub_sub];rfl)<|Uw (m':=n-(k+min k (n-k))) om_ w (hn_ [7,8] Z) ⟨k+min k (n-k),⟨by omega,by omega⟩,Z,Z,Z⟩
 simp only [Q7] at f;have o:k=n:=by omega
 subst o;refine Uh 2 [4] Z<|Uv (UV Z Z ?_);exact ⟨a,Z,by simp⟩
theorem fY (C:Mem)(s p:Nat)(h:s*p<=100000):Jog.Fn cx.P 241 [gb s p] C [] fun u _f c=>∃ b,u=.slice (some ⟨b,0,none⟩) (s*p:Nat) (s*p:Nat)/\c=[.arr u 32 1 (s*p) (List.replicate (s*p) (af [48]))]:=by
 refine Ur func241 7 U3 fun w0=>Ul fun R a=>UC U6 fun g=>C6 1 [1] a Z<|UI [(3,3)] Z fun R a=>UF [[af [48]]] U12 fun i _ _ d=>Uo ag U9<|Uu (iY _ s p om_) U7 fl_<|D.call (na _ _ (s*p) [48] d.m_ om_) Z (.inr dc_) U6 (QI _) fl_ fun j _ k _ e=>C6 1 [2] a Z ?_;obtain ⟨b,rfl,rfl⟩:=e;refine UY 1 Z<|Uv (UV Z Z ?_);exact ⟨b,Z,Z⟩
def ofE (z:Int)(s p:Nat):Int:=if z≠0 then z else if 60<s*p then 4 else 0
def ofS (e:Int)(s p:Nat):Value:=if e=0 then gb s p else gb 0 0
structure BookZ (C:Mem)(bv:Value)(B:Bk)(z:Int):Prop where
 i:BookIn C bv B
 ch:∀ D:Mem,C.le D->Gives cx.P 181 [bv] D (.int .i64 z)
 ne:z=0->B.col≠[]
 lc:B.col.length<=1000
 lp:B.pts.length<=400
theorem BookZ.mono {C D:Mem}{a:Value}{B:Bk}{z:Int}(h:BookZ C a B z)(c:C.le D):BookZ D a B z:=⟨h.i.mono c,fun E d=>h.ch E (fun b o e=>d b o (c b o e)),h.ne,h.lc,h.lp⟩
theorem BookZ.m_ {D:Mem}{B:Bk}(h:BookZ C bv B z)(a:C.le D:=by exact mup):BookZ D bv B z:=BookZ.mono h a
def bs (B:Bk):Nat:=B.col.length-1
def bp (B:Bk):Nat:=B.pts.length
theorem OM {B:Bk}(h:BookZ C bv B z):bs B*bp B<=400000:=by
 have h1:=h.lc;have h2:=h.lp;have:bs B*bp B<=1000*400:=R0 (by unfold bs;omega) (by unfold bp;omega);omega
theorem Pg (C:Mem)(l:Value)(B:Bk)(z:Int)(c:BookZ C l B z):Gives cx.P 113 [l] C (.tuple #[ofS (ofE z (bs B) (bp B)) (bs B) (bp B),.int .i64 (ofE z (bs B) (bp B))]):=by
 obtain ⟨n,o,p,q,r,rfl,h1,h2,h3,h4,h5⟩:=id c.i.ex;obtain ⟨s,t,rfl,u,v,_⟩:=id h1;obtain ⟨w,x,rfl,y,A,_⟩:=id h4;have D:=OM c;have E:=c.lc;have m:=c.ch;have F:maxLen<=9223372036854775807:=by simp [maxLen]
 simp only [ar] at m ⊢;refine Ur func113 26 U3 fun w0=>Ul fun R a=>UC U6 fun H=>UB U5 fun I=>C6 1 [1,2] a Z<|G.freeze 1 Z fun _ _ g=>Ul fun R a=>Uj (bkT g 5) U8<|Ut (m _ mup) U7<|C6 1 [1,2,4] a Z<|Uh 2 [1,2,4,9] Z<|G.cd (fun f=>?_) fun f=>?_
 ·have b:z≠0:=by
   intro e;rw [e] at f;exact absurd f dc_
  have d:ofE z (bs B) (bp B)=z:=by unfold ofE;rw [aJ b]
  refine Ul fun R a=>UA [.int .i64 0,.int .i64 0] U8<|Uk U6<|Us (j:=0) U12<|C6 1 [2,3] a Z<|Uv (Vy ag U5 ?_);exact ⟨by rw [d];unfold ofS;rw [aF b];rfl,Z⟩
 have b:z=0:=by simpa using f
 have J:=Rn.2 (c.ne b);have K:bs B+1=B.col.length:=by unfold bs;omega
 refine Ui 1 Z fun R a=>Uj (bkT g 1) U8<|Uk U6<|UQ (((bs B:Nat):Int)) U4 om_ om_ om_ U2<|Um 2 Z<|Uj (bkT g 1) U8<|Uk U6<|UA [.int .i64 (bs B:Nat),.int .i64 (bp B:Nat)] U8<|UB U5 fun L=>Us (j:=0) U12<|Un [2,5] a Z<|Ul fun R a=>Uo ag U9<|Uu (iY _ (bs B) (bp B) om_) U7 fl_<|C6 1 [2,5,23] a Z<|G.cd (fun h=>?_) fun h=>?_
 ·have k:60<bs B*bp B:=by
   have:=PZ h;omega
  have d:ofE z (bs B) (bp B)=4:=by unfold ofE;rw [b,aF dc_,aJ k]
  refine Ul fun R a=>UA [.int .i64 0,.int .i64 0] U8<|Us (j:=1) U12<|C6 1 [2,3] a Z<|Uv (Vy ag U5 ?_);exact ⟨by rw [d];rfl,Z⟩
 have k:¬ 60<bs B*bp B:=by
  have:=QF h;omega
 have d:ofE z (bs B) (bp B)=0:=by unfold ofE;rw [b,aF dc_,aF k]
 refine Ul fun R a=>Uo ag U9<|Us (j:=1) U12<|C6 1 [2,3] a Z<|Uv (Vy ag U5 ?_);exact ⟨by rw [d];rfl,Z⟩
theorem KB (C:Mem)(c:Value)(B:Bk)(z:Int)(b:BookZ C c B z):Gives cx.P 92 [c] C (.tuple #[.int .i64 (if ofE z (bs B) (bp B)=0 then ((bs B*bp B:Nat):Int) else 0),.int .i64 (ofE z (bs B) (bp B))]):=by
 have s:=OM b;have g:=b;obtain ⟨k,l,m,n,o,rfl,h1,h2,h3,h4,h5⟩:=id b.i.ex;obtain ⟨e,d⟩:∃ e,ofE z (bs B) (bp B)=e:=⟨_,rfl⟩;have f:∀ D:Mem,C.le D->Gives cx.P 113 [.agg ⟨[k,l,m,n,o]⟩] D (.tuple #[ofS e (bs B) (bp B),.int .i64 e]):=fun D p=>by have h:=Pg D _ B z (g.mono p);rwa [d] at h
 rw [d];have q:ofS e (bs B) (bp B)=.agg ⟨[.int .i64 (if e=0 then ((bs B:Nat):Int) else 0),.int .i64 (if e=0 then ((bp B:Nat):Int) else 0)]⟩:=by unfold ofS gb;split <;> rfl
 have r:∀ D:Mem,Gives cx.P 149 [.agg ⟨[.int .i64 (if e=0 then ((bs B:Nat):Int) else 0),.int .i64 (if e=0 then ((bp B:Nat):Int) else 0)]⟩] D (.int .i64 (if e=0 then ((bs B*bp B:Nat):Int) else 0)):=fun D=>by
  by_cases h:e=0
  ·rw [aJ h,aJ h,aJ h];exact iY D (bs B) (bp B) om_
  rw [aF h,aF h,aF h];exact iY D 0 0 om_
 rw [q] at f;refine Ur func92 14 U3 fun w0=>Ul fun R a=>UC U6 fun t=>C6 2 [1] a Z<|Ul fun R a=>Uo ag U9<|Ut (f _ mup) U7<|Um 3 Z<|UB U5 fun u=>Us (j:=0) U12<|C6 1 [4,5] a Z<|Ul fun R a=>Uo ag U9<|Ut (r _) U7<|C6 3 [2,3] a Z<|Uv (G.dropAll (UH U3 ?_));exact ⟨Z,Z⟩
theorem Nd (C:Mem)(a:Value)(B:Bk)(b:BookZ C a B 0)(c:bs B*bp B<=60):Gives cx.P 113 [a] C (.tuple #[gb (bs B) (bp B),.int .i64 0]):=by
 have h:=Pg C a B 0 b;have e:ofE 0 (bs B) (bp B)=0:=by unfold ofE;rw [aF dc_,aF om_]
 rw [e] at h;exact h
def rZ (n:Nat)(done:List (Nat × Rat)):List Rat:=(List.range n).map fun j=>(dY done j).getD 0
def lm (n:Nat)(done:List (Nat × Rat)):List Value:=(rZ n done).map fun q=>af (qtx q)
theorem mr (n:Nat):List.replicate n (af [48])=lm n []:=by
 unfold lm rZ;rw [RC];symm;rw [List.eq_replicate_iff];refine ⟨by simp,fun v a=>?_⟩;obtain ⟨j,_,rfl⟩:=QE.1 a;show af (qtx 0)=_;rw [qtx_zero]
theorem my (n:Nat)(a:List (Nat × Rat)):(lm n a).length=n:=by simp [lm,rZ]
theorem fD {a:Nat}(b:List (Nat × Rat))(q:Rat)(h:a<n):aD (lm n b) [af (qtx q)] a=lm n ((a,q)::b):=by
 have g:=my n b;unfold aD;refine List.ext_getElem? (fun j=>?_);have f:∀ (d:List (Nat × Rat)),(lm n d)[j]?=if j<n then some (af (qtx ((dY d j).getD 0))) else none:=fun d=>by
  unfold lm rZ;rw [RC,QD];split
  ·rename_i c;rw [Rc c];rfl
  rename_i c;rw [QJ (by simpa using Nat.le_of_not_lt c)];rfl
 rw [f ((a,q)::b)];have e:((lm n b).take a).length=a:=by rw [QO,g];omega
 rcases Nat.lt_trichotomy j a with c | rfl | c
 ·rw [Q8,Rr (by rw [e];exact c),Rs,aJ c,f b,aJ om_,aJ om_];simp only [dY];rw [aF om_]
 ·rw [Q8,Q3 (by rw [e];exact Qz _),e,Tt,aJ h];simp [dY]
 rw [Q3 (by rw [QG,e];simp;omega),QG,e,List.getElem?_drop];rw [show a+[af (qtx q)].length+(j-(a+[af (qtx q)].length))=j by simp;omega,f b];split
 ·simp only [dY];rw [aF om_]
 rfl
theorem wP {d a:List (Nat × Rat)}(h:d.Perm a)(b:(d.map (·.1)).Nodup):rZ n d=rZ n a:=by
 unfold rZ;refine List.map_congr_left (fun j _=>?_);rw [xp h b]
def eP (fm:List (Nat × Rat)):List (Int × Value):=fm.map fun x=>(((x.1:Nat):Int),af (qtx x.2))
def Iw (p surface:Nat)(sign:Rat)(x:Nat × Rat):Nat × Rat:=(surface*p+x.1,sign*x.2)
theorem nl:QB 1 (-1:Rat):=eR QB_one
theorem yW (C:Mem)(s p a k:Nat)(h:a*p+k<=1000000):Gives cx.P 240 [gb s p,.int .i64 (a:Nat),.int .i64 (k:Nat)] C (.int .i64 ((a*p+k:Nat):Int)):=by
 have e:((a:Nat):Int)*(p:Nat)=((a*p:Nat):Int):=(Ra _ _).symm;have h2:=OU C s p (a:Nat) (k:Nat) (by rw [e];omega) om_;rw [e,<- Tg] at h2;exact h2
def Ji (s p surface:Nat)(fm:List (Nat × Rat))(sign:Rat):List Rat:=rZ (s*p) (fm.map (Iw p surface sign))
theorem O0 (C:Mem)(J:Tabs C)(s p f b:Nat)(c:List (Nat × Rat))(g o:Rat)(k:Nat)(K:0<k)(hk:k<=1000)(ab:s*p<=100000)(hs:f<s)(A:C b=some (aV keyZ.enc (eP c)))(ac:(c.map (·.1)).Nodup)(ad:∀ x∈c,x.1<p)(ae:∀ x∈c,QB k x.2)(L:QB k g)(ah:QB k o) :
  Pur cx.P 246 [gb s p,.int .i64 f,.map (some b),af (qtx g),af (qtx o)] C fun u D=>∃ v,u=.agg ⟨[v,af (qtx (g*o))]⟩/\Sl D 1 v ((Ji s p f c g).map eM):=by
 have aw:maxLen<=9223372036854775807:=by simp [maxLen]
 have M:(eP c).length=c.length:=by simp [eP]
 have ax:f*p+p<=s*p:=by
  rw [<- Nat.succ_mul];exact Rq _ hs
 have ay:=(c.map (·.1)).length;refine Ur func246 38 U3 fun w0=>Ul fun R l=>UC U6 fun b5=>UB U5 fun z=>Un [1,2,3,4,5,10] l Z<|G.freeze 1 Z fun _ _ N=>UI [(1,3)] Z fun R l=>Uj (bkT N 2) U8<|D.call (fY _ s p ab) Z (.inr dc_) U6 (QI _) fl_ (fun az _ aA _ ai=>?_);obtain ⟨bz,rfl,rfl⟩:=ai;refine Um 2 Z<|Uu (dm _ J.m_ g o k K om_ L ah) U7 fl_<|UA [.slice (some ⟨bz,0,none⟩) (s*p:Nat) (s*p:Nat),af (qtx (g*o))] U8<|UB U5 fun ak=>Us (j:=0) U12<|Un [1,2,3,5,10,11] l Z<|G.freeze 0 Z fun _ _ O=>Uz (L':=[.arr (.slice (some ⟨bz,0,none⟩) (s*p) (s*p)) 32 1 (s*p) (lm (s*p) []),.obj z (.cells ⟨[.slice none 0 0,af []]⟩ 140 (0,0))]) (by rw [mr];rfl)<|Ui 1 Z fun R l=>Wu keyZ (Mem.get A mup) Z Z Z Z Z Z Z fl_ fun E=>Un [1,3,5,10,11,21] l Z<|G.loop (fun fr C' B μ=>∃ (seen:List Nat),(seen.Nodup/\(∀ j∈seen,j<c.length))/\fr=[(1,[],.int .i64 f),(3,[],af (qtx g)),(5,[],.pointer (some ⟨b5,0,none⟩)),(10,[],.pointer (some ⟨z,0,none⟩)),(11,[],.pointer (some ⟨ak,0,none⟩)),(21,[],.pointer (some ⟨E,0,none⟩))]/\B=[.obj E (bq b (eP c).length seen),.arr (.slice (some ⟨bz,0,none⟩) (s*p) (s*p)) 32 1 (s*p) (lm (s*p) (seen.reverse.map fun i=>Iw p f g (c.getD i (0,0)))),.obj z (.cells ⟨[.slice none 0 0,af []]⟩ 140 (0,0))]/\μ=c.length-seen.length) (hn_ [1,3,5,10,11,21] Z) ⟨[],⟨List.nodup_nil,by simp⟩,Z,Z,Z⟩ (fun fr aB aC m _ hI=>?_);obtain ⟨seen,⟨Q,S⟩,rfl,rfl,rfl⟩:=hI;refine Ul fun R l=>WA keyZ (q:=0) (Mem.get A mup) Z Z Z Z Z Z fl_ fun T aD t U=>C6 1 [1,3,5,10,11,21,23] l Z<|G.cd (fun w=>?_) fun w=>?_
 ·obtain ⟨aE,j,F,al,rfl⟩:T=true/\∃ j,j<(eP c).length/\j ∉ seen/\t=seen++[j]:=by
   rcases U with ⟨h1,_⟩ | h1
   ·rw [h1] at w;cases w
   exact h1
  rw [M] at F;obtain ⟨⟨n,q⟩,H⟩:∃ x,c[j]?=some x:=⟨c[j],aj F⟩;have V:=aX H;have aF:n<p:=ad _ V;have an:QB k q:=ae _ V;have ao:(eP c)[j]?=some (((n:Nat):Int),af (qtx q)):=by unfold eP;rw [QD,H];rfl
  have ap:c.getD j (0,0)=(n,q):=by rw [am,H];rfl
  have W:(seen++[j]).Nodup:=by
   rw [Sa];exact ⟨Q,by simp,fun a ha b hb e=>by rw [QY.1 hb] at e;subst e;exact al ha⟩
  have X:∀ i∈seen++[j],i<c.length:=fun i I=>by
   rcases QS.1 I with h | h
   ·exact S i h
   rw [QY.1 h];exact F
  have aG:(seen++[j]).length<=c.length:=by
   have:=List.Nodup.length_le_of_subset W (l₂:=List.range c.length) (fun i I=>QU.2 (X i I));simpa using this
  have aH:(seen++[j]).length=seen.length+1:=by simp
  have aq:f*p+n<s*p:=by omega
  refine Ul fun R l=>Wx keyZ (Mem.get A mup) ao ag Z Z Z Z Z Z Z<|C6 4 [1,3,5,10,11,12,13,21] l Z<|UD [0,1,2,3,4,5,6,7,8,9,10] [(5,1),(8,1)] Z kr_ fun R hB l=>Uk U6<|Uj (bkT O 1) U8<|Uj (bkT N 2) U8<|Um 2 Z<|UG (fun _=>(yW _ s p f n om_)) U9<|Um 2 Z<|UG (fun _=>(dm _ J.m_ g q k K om_ L an)) U9<|UL ((f*p+n)) U10 (fun _=>⟨by omega,by omega,(RY _).symm⟩) U2<|UO (j:=1) U11 (by rw [my];simp;omega)<|Un [1,3,5,10,11,21] l Z<|G.perm (L':=[.obj E (bq b (eP c).length (seen++[j])),.arr (.slice (some ⟨bz,0,none⟩) (s*p) (s*p)) 32 1 (s*p) (lm (s*p) ((seen++[j]).reverse.map fun i=>Iw p f g (c.getD i (0,0)))),.obj z (.cells ⟨[.slice none 0 0,af []]⟩ 140 (0,0))]) (by
   rw [List.reverse_append,List.reverse_singleton,List.singleton_append,Ri,ap];unfold Iw;rw [<- fD _ _ aq];exact List.Perm.swap _ _ _) ?_
  refine Uw (m':=c.length-(seen++[j]).length) om_ mup (hn_ [1,3,5,10,11,21] Z) ⟨seen++[j],⟨W,X⟩,Z,Z,Z⟩
 obtain ⟨aI,rfl,Y⟩:T=false/\t=seen/\∀ j,j<(eP c).length->j∈seen:=by
  rcases U with h1 | ⟨h1,_⟩
  ·exact h1
  rw [h1] at w;cases w
 rw [M] at Y;have aa:(t.reverse.map fun i=>Iw p f g (c.getD i (0,0))).Perm (c.map (Iw p f g)):=by
  have h1:=(pk (d:=((0:Nat),(0:Rat))) Q S Y).map (Iw p f g);rw [RC] at h1;exact ((List.reverse_perm t).map _).trans h1
 have ar:((c.map (Iw p f g)).map (·.1)).Nodup:=by
  rw [RC];have e:((·.1) ∘ Iw p f g:Nat × Rat->Nat)=(fun k=>f*p+k) ∘ (·.1):=rfl;rw [e,<- RC];rw [List.Nodup,List.pairwise_map];exact ac.imp (fun {a b} h=>by omega)
 have au:lm (s*p) (t.reverse.map fun i=>Iw p f g (c.getD i (0,0)))=((Ji s p f c g).map eM).flatten:=by
  unfold Ji lm;rw [wP aa ((aa.map (·.1)).nodup_iff.2 ar)];exact (eE (fun q=>af (qtx q)) _).symm
 refine UY 0 Z<|G.freezeArr 0 ((Ji s p f c g).map eM) rfl au (by intro r hr;obtain ⟨y,_,rfl⟩:=QE.1 hr;rfl) (by simp [Ji,rZ]) fun Cg hg av=>Ul fun R l=>Uj (bkT O 2) U8<|Us (j:=0) U12<|Un [10] l Z<|Uv (Va ag U4 ?_);exact ⟨Z,_,Z,av⟩
end Go.Proofs.YtfjcldheldflbaaGreatDoor
