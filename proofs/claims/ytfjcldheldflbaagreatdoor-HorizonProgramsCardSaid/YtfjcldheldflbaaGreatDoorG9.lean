/- Laws that the proofs of this seat share, part 9. -/
import Derived.Test.YtfjcldheldflbaaGreatDoorG8
import Derived.Test.YtfjcldheldflbaaGreatDoorShelf
set_option maxHeartbeats 4000000
namespace Go.Proofs.YtfjcldheldflbaaGreatDoor
open Go.Proofs.Tryz
open Go Go.Jog
set_option maxRecDepth 100000
variable {C:Mem}{a b:Rat}{bv:Value}{c:Rat}{fs:List Rat}{i k m n:Nat}{p:Pt}{pts:List Pt}{q:Rat}{t:Tri}{tris:List Tri}{z:Int}{α:Type}
theorem cq {f:α->List Value}{l:List α}{x:α}(h:l[i]?=some x):(l.map f)[i]?=some (f x):=by rw [Pi,h];rfl
def yD (n:Nat)(l:List Str):Int:=if l.length=n then nV (l.all aW) else 5
theorem xi (C:Mem)(y:Tabs C)(z v A:Value)(b:List Pt)(f:List Tri)(l:List Str)(B:MeshIn C z b f)(D:Good b f)(g:Sl C 1 v [[A]])(k:Sl C 1 A (l.map jV))(N:∀ s∈l,s.length<=999998) :
  Gives cx.P 61 [z,v] C (.int .i64 (yD b.length l)):=by
 have E:=B;have aa:=D.ok.lp;obtain ⟨v1,v2,rfl,h1,h2⟩:=id B.ex;obtain ⟨A1,c1,rfl,ab,ac,_⟩:=id h1;obtain ⟨F,H,rfl,ad,ae,_⟩:=id g;obtain ⟨n,o,rfl,O,af,_⟩:=id k;have ag:maxLen<=9223372036854775807:=by simp [maxLen]
 simp only [al,aY] at h1 g k E O ⊢;refine S4 func61 41 U3 fun w0=>SX fun R a=>Tf U6 fun I=>C6 1 [1,2] a Z<|G.freeze 0 Z fun _ _ J=>SX fun R a=>SU (PtrTo.block (Mem.get J mup) _) U8<|S8 (gp _ y.m_ _ b f E.m_ D) U7<|C6 1 [1,2,5] a Z<|SR 2 [1,2,5,14] Z<|G.cd (fun K=>?_) fun K=>?_
 ·exact absurd K dc_
 refine SR 3 [2,16,17,18] Z<|G.loop (fun fr Q p q=>∃ (i:Nat),(i<=1/\(i=1->l.length=b.length/\l.all aW=true))/\fr=[(2,[],.pointer (some ⟨I,0,none⟩)),(16,[],.slice F 1 H),(17,[],.int .i64 1),(18,[],.int .i64 i)]/\p=[]/\q=1-i) (hn_ [2,16,17,18] Z) ⟨0,⟨Pm _,fun h=>absurd h dc_⟩,Z,Z,Z⟩ (fun fr ah ai m _ r=>?_);obtain ⟨i,⟨hi,S⟩,rfl,rfl,rfl⟩:=r;refine SR 1 [2,16,17,18,19] Z<|G.cd (fun t=>?_) fun t=>?_
 ·obtain rfl:i=0:=by
   simp only [Pp] at t;omega
  refine SX fun R a=>Ta g.m_ U10 om_ (rfl:([[.slice n l.length o]]:List (List Value))[0]?=some [.slice n l.length o]) fl_ fun aj T=>SU T U8<|C6 1 [2,7,16,17,18] a Z<|SS 3 Z fun R a=>SU (PtrTo.block (Mem.get J mup) _) U8<|C6 2 [2,7,16,17,18,27] a Z<|G.cd (fun d=>?_) fun d=>?_
  ·have U:l.length≠b.length:=by
    intro e;rw [e] at d;simp at d
   exact SR 1 [4] Z<|S3 U2<|⟨by unfold yD;rw [aF U],Z⟩
  have L:l.length=b.length:=by
   have h:((l.length:Nat):Int)=(b.length:Nat):=by simpa using d
   omega
  refine SR 3 [2,16,17,18,28,29,30] Z<|G.loop (fun fr Q p q=>∃ (j:Nat),(j<=l.length/\(l.take j).all aW=true)/\fr=[(2,[],.pointer (some ⟨I,0,none⟩)),(16,[],.slice F 1 H),(17,[],.int .i64 1),(18,[],.int .i64 0),(28,[],.slice n l.length o),(29,[],.int .i64 l.length),(30,[],.int .i64 j)]/\p=[]/\q=l.length-j) (hn_ [2,16,17,18,28,29,30] Z) ⟨0,⟨Pm _,by simp⟩,Z,Z,Z⟩ (fun fr am an m V r=>?_);obtain ⟨j,⟨hj,u⟩,rfl,rfl,rfl⟩:=r;refine SR 1 [2,16,17,18,28,29,30,31] Z<|G.cd (fun w=>?_) fun w=>?_
  ·have x:j<l.length:=by simpa using w
   obtain ⟨s,hs⟩:∃ s,l[j]?=some s:=⟨l[j],ak x⟩;refine SX fun R a=>Ta k.m_ U10 om_ (cq hs) fl_ fun ao W=>SU W U8<|C6 1 [2,9,16,17,18,28,29,30] a Z<|SS 1 Z fun R a=>S8 (dA _ y.m_ s (N s (Pe hs))) U7<|C6 1 [2,10,16,17,18,28,29,30] a Z<|SR 2 [2,10,16,17,18,28,29,30,37] Z<|G.cd (fun c=>?_) fun c=>?_
   ·have M:aW s=false:=by
     rcases eW (aW s) with ⟨h1,h2⟩ | ⟨h1,h2⟩
     ·rw [h1] at c;exact absurd c dc_
     exact h2
    refine SR 2 [4] Z<|S3 U2<|⟨?_,Z⟩;unfold yD;rw [aL L,M,show l.all aW=false from RK.2 ⟨s,Pe hs,by rw [M];decide⟩]
   have X:aW s=true:=by
    rcases eW (aW s) with ⟨h1,h2⟩ | ⟨h1,h2⟩
    ·exact h2
    rw [h1] at c;exact absurd c dc_
   refine SX fun R a=>S2 _ Z U6<|C6 1 [2,16,17,18,28,29,30] a Z<|S6 (m':=l.length-(j+1)) om_ V (hn_ [2,16,17,18,28,29,30] Z) ⟨j+1,⟨by omega,by rw [PN,hs,SF,u];simp [X]⟩,Z,Z,Z⟩
  have x:j=l.length:=by
   have:¬ j<l.length:=by simpa using w
   omega
  refine SX fun R a=>S2 _ Z U6<|C6 1 [2,16,17,18] a Z<|S6 (m':=0) om_ mup (hn_ [2,16,17,18] Z) ⟨1,⟨Pf _,fun _=>⟨L,by rw [x,Pv] at u;exact u⟩⟩,Z,Z,Z⟩
 have Y:i=1:=by
  simp only [PP] at t;omega
 refine SR 1 [4] Z<|S3 U2<|⟨?_,Z⟩;obtain ⟨h3,h4⟩:=S Y;unfold yD;rw [aL h3,h4];rfl
theorem ue (C:Mem)(h:Tabs C)(e f:Value)(a:List Pt)(b:List Tri)(l:List Str)(g:MeshIn C e a b)(i:Good a b)(c:Sl C 1 f (l.map jV))(j:∀ s∈l,s.length<=999998) :
  Gives cx.P 217 [e,f] C (.int .i64 (yD a.length l)):=by
 have k:=g;obtain ⟨p,q,rfl,h1,h2⟩:=id g.ex;obtain ⟨m,n,rfl,r,t,_⟩:=id c;simp only [al] at c ⊢;exact S4 func217 9 U3 fun w0=>SX fun R d=>Tf U6 fun u=>C6 1 [1,2] d Z<|SX fun R d=>S1 ag U9<|SV U6<|Th [[.slice m l.length n]] U12 fun v _ _ o=>S8 (xi _ h.m_ _ _ _ a b l k.m_ i o.m_ c.m_ j) U7<|C6 1 [4] d Z<|S3 U2<|⟨Z,Z⟩
def eD (q:Rat):List Value:=[af (qtx q)]
def fz (fs:List Rat)(t:Tri)(j:Nat):Rat:=fs.getD (gD t j) 0
def yP (pts:List Pt)(fs:List Rat)(t:Tri)(j:Nat):List Value:=fZ (cor pts t j)++eD (fz fs t j)
theorem Gi (h:i<fs.length):fs[i]?=some (fs.getD i 0):=by
 rw [ax,ak h];rfl
theorem yJ (C:Mem)(r s:Value)(b:List Pt)(l:List Tri)(c:List Rat)(z:MeshIn C r b l)(A:MeshOk b l)(e:Sl C 1 s (c.map eD))(n:c.length=b.length)(i:Nat)(t:Tri)(o:l[i]?=some t) :
  Gives cx.P 192 [r,s,.int .i64 i] C (.agg ⟨yP b c t 0++yP b c t 1++yP b c t 2⟩):=by
 have d:=A.ins t (Pe o);obtain ⟨M,N,rfl,h1,h2⟩:=id z.ex;obtain ⟨O,Q,rfl,B,S,_⟩:=id h1;obtain ⟨A2,c2,rfl,D,T,_⟩:=id h2;obtain ⟨E,F,rfl,U,V,_⟩:=id e;have W:maxLen<=9223372036854775807:=by simp [maxLen]
 simp only [al] at h1 h2 e B D ⊢;have X:=(aJ.1 o).1;refine S4 func192 32 U3 fun w0=>?_;refine SX fun R a=>?_;refine Tf U6 (fun H=>?_);refine Te U5 (fun u=>?_);refine SY [1,2,3,6] a Z ?_;refine G.freeze 1 Z (fun _ _ h=>?_);refine SS 1 Z fun R a=>?_;refine SU (PtrTo.block (Mem.get h mup) _) U8 ?_;refine SV U6 ?_;refine Ta h2.m_ U10 om_ (cq o) fl_ (fun Y I=>?_);refine SU I U8 ?_;refine C6 1 [1,3,6,13,14] a Z ?_;refine G.loop (fun fr C' J K=>∃ (j:Nat),(j<=3)/\fr=[(1,[],.slice E c.length F),(3,[],.pointer (some ⟨H,0,none⟩)),(6,[],.pointer (some ⟨u,0,none⟩)),(13,[],.agg ⟨ic t⟩),(14,[],.int .i64 j)]/\J=[.obj u (.cells ⟨(List.range 3).flatMap fun k=>if k<j then yP b c t k else [af [],af [],af []]⟩ 279 (0,0))]/\K=3-j) (hn_ [1,3,6,13,14] Z) ⟨0,Pm _,Z,Z,Z⟩ (fun fr aa ab m p L=>?_);obtain ⟨j,hj,rfl,rfl,rfl⟩:=L;refine SR 1 [1,3,6,13,14,15] Z ?_;refine G.cd (fun q=>?_) fun q=>?_
 ·have v:j<3:=by
   simp only [Pp] at q;omega
  rcases (by omega:j=0∨j=1∨j=2) with rfl | rfl | rfl
  ·refine SS 1 Z fun R a=>?_;refine TN U11 ah U2 ?_;refine C6 2 [1,3,6,7,8,13,14] a Z ?_;refine Tg [0,1,2,3,4,5,6,7,8,9,10,11,12] [] Z kr_ (fun R w a=>?_);refine SZ 2 Z ?_;refine SU (PtrTo.block (Mem.get h mup) _) U8 ?_;refine SV U6 ?_;refine Ta h1.m_ U10 om_ (cq (oX (eI d 0))) fl_ (fun x f=>?_);refine SU f U8 ?_;refine SZ 2 Z ?_;refine Ta e.m_ U10 om_ (cq (Gi (n ▸ eI d 0))) fl_ (fun y g=>?_);refine SU g U8 ?_;refine Td (yP b c t 0) U8 ?_;refine Ti (_) U9 ah U2 ?_;refine S5 (j:=0) U12 ?_;refine SY [1,3,6,13,14] a Z ?_;refine SX fun R a=>?_;refine S2 _ Z U6 ?_;refine C6 1 [1,3,6,13,14] a Z ?_;refine S6 (m':=2) om_ p (hn_ [1,3,6,13,14] Z) ⟨1,by decide,Z,Z,Z⟩
  ·refine SS 1 Z fun R a=>?_;refine TN U11 ah U2 ?_;refine C6 2 [1,3,6,7,8,13,14] a Z ?_;refine Tg [0,1,2,3,4,5,6,7,8,9,10,11,12] [] Z kr_ (fun R w a=>?_);refine SZ 2 Z ?_;refine SU (PtrTo.block (Mem.get h mup) _) U8 ?_;refine SV U6 ?_;refine Ta h1.m_ U10 om_ (cq (oX (eI d 1))) fl_ (fun x f=>?_);refine SU f U8 ?_;refine SZ 2 Z ?_;refine Ta e.m_ U10 om_ (cq (Gi (n ▸ eI d 1))) fl_ (fun y g=>?_);refine SU g U8 ?_;refine Td (yP b c t 1) U8 ?_;refine Ti (_) U9 ah U2 ?_;refine S5 (j:=0) U12 ?_;refine SY [1,3,6,13,14] a Z ?_;refine SX fun R a=>?_;refine S2 _ Z U6 ?_;refine C6 1 [1,3,6,13,14] a Z ?_;refine S6 (m':=1) om_ p (hn_ [1,3,6,13,14] Z) ⟨2,by decide,Z,Z,Z⟩
  refine SS 1 Z fun R a=>?_;refine TN U11 ah U2 ?_;refine C6 2 [1,3,6,7,8,13,14] a Z ?_;refine Tg [0,1,2,3,4,5,6,7,8,9,10,11,12] [] Z kr_ (fun R w a=>?_);refine SZ 2 Z ?_;refine SU (PtrTo.block (Mem.get h mup) _) U8 ?_;refine SV U6 ?_;refine Ta h1.m_ U10 om_ (cq (oX (eI d 2))) fl_ (fun x f=>?_);refine SU f U8 ?_;refine SZ 2 Z ?_;refine Ta e.m_ U10 om_ (cq (Gi (n ▸ eI d 2))) fl_ (fun y g=>?_);refine SU g U8 ?_;refine Td (yP b c t 2) U8 ?_;refine Ti (_) U9 ah U2 ?_;refine S5 (j:=0) U12 ?_;refine SY [1,3,6,13,14] a Z ?_;refine SX fun R a=>?_;refine S2 _ Z U6 ?_;refine C6 1 [1,3,6,13,14] a Z ?_;refine S6 (m':=0) om_ p (hn_ [1,3,6,13,14] Z) ⟨3,by decide,Z,Z,Z⟩
 have v:j=3:=by
  simp only [PP] at q;omega
 subst v;refine SX fun R a=>?_;refine S1 ag U9 ?_;refine S5 (j:=0) U12 ?_;refine SY [6] a Z ?_;refine S7 (TE ag U4 ?_);exact ⟨Z,Z⟩
/-! Finer bounds. -/
theorem jh (c:QB k a)(d:QB m b):QB (k+m) (a*b):=by
 rw [gm];refine gU (Nat.mul_ne_zero a.den_nz b.den_nz) ?_ ?_
 ·rw [QL,Sa];exact Q7 c.1 d.1
 rw [Sa];exact Q7 c.2 d.2
theorem uJ (c:QB k a)(d:QB m b):QB (k+m+1) (a+b):=by
 rw [jz];have e:B9 ^ (k+m+1)=B9 ^ k*B9 ^ m*B9:=by rw [Qu,Sa]
 have f:(a.num*b.den).natAbs<B9 ^ k*B9 ^ m:=by rw [QL,P6];exact Q7 c.1 d.2
 have g:(b.num*a.den).natAbs<B9 ^ k*B9 ^ m:=by rw [QL,P6,P1];exact Q7 c.2 d.1
 have h:a.den*b.den<B9 ^ k*B9 ^ m:=Q7 c.2 d.2;have i:2*(B9 ^ k*B9 ^ m)<=B9 ^ k*B9 ^ m*B9:=by
  rw [P1];exact QC _ dc_
 refine gU (Nat.mul_ne_zero a.den_nz b.den_nz) ?_ ?_
 ·rw [e];have:=R3 (a.num*b.den) (b.num*a.den);omega
 rw [e];omega
theorem fb (c:QB k a)(d:QB m b):QB (k+m+1) (a-b):=by
 rw [SJ];exact uJ c (eX d)
theorem QB_one:QB 1 1:=⟨by decide,by decide⟩
theorem QB_zero:QB 1 0:=⟨by decide,by decide⟩
def eB (a b c d:Rat):Rat:=a*d-b*c
theorem pP (C:Mem)(e:Tabs C)(a b c d:Rat)(k:Nat)(f:0<k)(m:k<=2000)(g:QB k a)(h:QB k b)(i:QB k c)(j:QB k d):Gives cx.P 193 [af (qtx a),af (qtx b),af (qtx c),af (qtx d)] C (af (qtx (eB a b c d))):=by
 exact S4 func193 16 U3 fun w0=>SR 1 [0,1,2,3] Z<|SS 2 Z fun R l=>Tb (df _ e.m_ a d k f om_ g j) U7 fl_<|SZ 2 Z<|Tb (df _ e.m_ b c k f om_ h i) U7 fl_<|Tb (ec _ e.m_ (a*d) (b*c) (k+k) om_ om_ (qD g j) (qD h i)) U7 fl_<|C6 1 [8] l Z<|S3 U2<|⟨Z,Z⟩
theorem jP {d:Rat}(e:QB k a)(f:QB k b)(g:QB k c)(h:QB k d):QB (4*k+1) (eB a b c d):=(fb (jh e h) (jh f g)).le om_
def oG (c0 c1 c2:Pt)(z0 z1 z2:Rat):Pt :=
 ((1 / eB (c1.1-c0.1) (c1.2-c0.2) (c2.1-c0.1) (c2.2-c0.2))*eB (z1-z0) (c1.2-c0.2) (z2-z0) (c2.2-c0.2),
 (1 / eB (c1.1-c0.1) (c1.2-c0.2) (c2.1-c0.1) (c2.2-c0.2))*eB (c1.1-c0.1) (z1-z0) (c2.1-c0.1) (z2-z0))
def dM (pts:List Pt)(fs:List Rat)(t:Tri):Pt:=oG (cor pts t 0) (cor pts t 1) (cor pts t 2) (fz fs t 0) (fz fs t 1) (fz fs t 2)
theorem Mp (a:MeshOk pts tris)(b:fs.length=pts.length)(c:∀ q∈fs,QB k q)(d:t∈tris)(j:Nat):QB k (fz fs t j) :=
 c _ (Pe (Gi (b ▸ eI (a.ins t d) j)))
theorem vC (d:MeshOk pts tris)(g:fs.length=pts.length)(h:∀ q∈fs,QB k q)(e:t∈tris):QP (8*k+39) (dM pts fs t):=by
 have a:=fun j=>nk d e j;have f:=fun j=>Mp d g h e j;have b:∀ i j,QB 3 ((cor pts t i).1-(cor pts t j).1):=fun i j=>(fb (a i).1 (a j).1).le dc_;have hy:∀ i j,QB 3 ((cor pts t i).2-(cor pts t j).2):=fun i j=>(fb (a i).2 (a j).2).le dc_;have c:∀ i j,QB (2*k+1) (fz fs t i-fz fs t j):=fun i j=>(fb (f i) (f j)).le om_;have hm:QB 13 (eB ((cor pts t 1).1-(cor pts t 0).1) ((cor pts t 1).2-(cor pts t 0).2) ((cor pts t 2).1-(cor pts t 0).1) ((cor pts t 2).2-(cor pts t 0).2)):=(jP (k:=3) (b 1 0) (hy 1 0) (b 2 0) (hy 2 0)).le dc_;have l:eB ((cor pts t 1).1-(cor pts t 0).1) ((cor pts t 1).2-(cor pts t 0).2) ((cor pts t 2).1-(cor pts t 0).1) ((cor pts t 2).2-(cor pts t 0).2)≠0:=jG d e;have h1:QB 26 _:=(ji (k:=13) (QB_one.le dc_) hm l).le dc_;have m:QB (4*(2*k+3)+1) (eB (fz fs t 1-fz fs t 0) ((cor pts t 1).2-(cor pts t 0).2) (fz fs t 2-fz fs t 0) ((cor pts t 2).2-(cor pts t 0).2)):=jP (k:=2*k+3) ((c 1 0).le om_) ((hy 1 0).le om_) ((c 2 0).le om_) ((hy 2 0).le om_);have n:QB (4*(2*k+3)+1) (eB ((cor pts t 1).1-(cor pts t 0).1) (fz fs t 1-fz fs t 0) ((cor pts t 2).1-(cor pts t 0).1) (fz fs t 2-fz fs t 0)):=jP (k:=2*k+3) ((b 1 0).le om_) ((c 1 0).le om_) ((b 2 0).le om_) ((c 2 0).le om_);exact ⟨(jh h1 m).le om_,(jh h1 n).le om_⟩
theorem wK (C:Mem)(d:Tabs C)(r s:Value)(a:List Pt)(n:List Tri)(b:List Rat)(k:Nat)(u:0<k)(K:k<=100)(v:MeshIn C r a n)(o:MeshOk a n)(D:Sl C 1 s (b.map eD))(w:b.length=a.length)(E:∀ q∈b,QB k q)(i:Nat)(t:Tri)(x:n[i]?=some t) :
  Gives cx.P 125 [r,s,.int .i64 i] C (ptV (dM a b t)):=by
 have p:=Pe x;have F:=v;obtain ⟨L,M,rfl,h1,h2⟩:=id v.ex;have e:=fun j=>nk o p j;have m:=fun j=>Mp o w E p j;have g:∀ i j,QB 3 ((cor a t i).1-(cor a t j).1):=fun i j=>(fb (e i).1 (e j).1).le dc_;have hy:∀ i j,QB 3 ((cor a t i).2-(cor a t j).2):=fun i j=>(fb (e i).2 (e j).2).le dc_;have l:∀ i j,QB (2*k+1) (fz b t i-fz b t j):=fun i j=>(fb (m i) (m j)).le om_;have y:QB 13 (eB ((cor a t 1).1-(cor a t 0).1) ((cor a t 1).2-(cor a t 0).2) ((cor a t 2).1-(cor a t 0).1) ((cor a t 2).2-(cor a t 0).2)):=(jP (k:=3) (g 1 0) (hy 1 0) (g 2 0) (hy 2 0)).le dc_;have z:eB ((cor a t 1).1-(cor a t 0).1) ((cor a t 1).2-(cor a t 0).2) ((cor a t 2).1-(cor a t 0).1) ((cor a t 2).2-(cor a t 0).2)≠0:=jG o p;have A:QB 26 (1 / eB ((cor a t 1).1-(cor a t 0).1) ((cor a t 1).2-(cor a t 0).2) ((cor a t 2).1-(cor a t 0).1) ((cor a t 2).2-(cor a t 0).2)):=(ji (k:=13) (QB_one.le dc_) y z).le dc_;have H:QB (8*k+26) (eB (fz b t 1-fz b t 0) ((cor a t 1).2-(cor a t 0).2) (fz b t 2-fz b t 0) ((cor a t 2).2-(cor a t 0).2)):=(jP (k:=2*k+3) ((l 1 0).le om_) ((hy 1 0).le om_) ((l 2 0).le om_) ((hy 2 0).le om_)).le om_;have I:QB (8*k+26) (eB ((cor a t 1).1-(cor a t 0).1) (fz b t 1-fz b t 0) ((cor a t 2).1-(cor a t 0).1) (fz b t 2-fz b t 0)):=(jP (k:=2*k+3) ((g 1 0).le om_) ((l 1 0).le om_) ((g 2 0).le om_) ((l 2 0).le om_)).le om_;refine S4 func125 98 U3 fun w0=>?_;refine SX fun R c=>?_;refine Tf U6 (fun N=>?_);refine Te U5 (fun O=>?_);refine SY [1,2,3,6] c Z ?_;refine SX fun R c=>?_;refine S1 ae U9 ?_;refine SZ 2 Z ?_;refine S8 (yJ _ _ _ a n b F.m_ o D.m_ w i t x) U7 ?_;refine Te U5 (fun Q=>?_);refine S5 (j:=0) U12 ?_;refine SY [6,7] c Z ?_;refine G.freeze 0 Z (fun J _ f=>?_);refine Tg [0,1,2,3,4,5,6,7,8,9,10,11,12,13,14,15,16,17,18,19] [(8,1),(17,1)] Z kr_ (fun R B c=>?_);refine Ti (3) U9 ah U2 ?_;refine SZ 2 Z ?_;refine SU (bkT f 1) U8 ?_;refine Ti (0) U9 ah U2 ?_;refine SZ 2 Z ?_;refine SU (bkT f 1) U8 ?_;refine Tj (fun _=>(ec _ d.m_ (cor a t 1).1 (cor a t 0).1 1 dc_ dc_ (e 1).1 (e 0).1)) U9 ?_;refine Ti (3) U9 ah U2 ?_;refine SZ 2 Z ?_;refine SU (bkT f 1) U8 ?_;refine Ti (0) U9 ah U2 ?_;refine SZ 2 Z ?_;refine SU (bkT f 1) U8 ?_;refine Tj (fun _=>(ec _ d.m_ (cor a t 1).2 (cor a t 0).2 1 dc_ dc_ (e 1).2 (e 0).2)) U9 ?_;refine C6 2 [6,7,8,9] c Z ?_;refine Tg [0,1,2,3,4,5,6,7,8,9,10,11,12,13,14,15,16,17,18,19] [(8,1),(17,1)] Z kr_ (fun R B c=>?_);refine Ti (6) U9 ah U2 ?_;refine SZ 2 Z ?_;refine SU (bkT f 1) U8 ?_;refine Ti (0) U9 ah U2 ?_;refine SZ 2 Z ?_;refine SU (bkT f 1) U8 ?_;refine Tj (fun _=>(ec _ d.m_ (cor a t 2).1 (cor a t 0).1 1 dc_ dc_ (e 2).1 (e 0).1)) U9 ?_;refine Ti (6) U9 ah U2 ?_;refine SZ 2 Z ?_;refine SU (bkT f 1) U8 ?_;refine Ti (0) U9 ah U2 ?_;refine SZ 2 Z ?_;refine SU (bkT f 1) U8 ?_;refine Tj (fun _=>(ec _ d.m_ (cor a t 2).2 (cor a t 0).2 1 dc_ dc_ (e 2).2 (e 0).2)) U9 ?_;refine C6 2 [6,7,8,9,10,11] c Z ?_;refine Tg [0,1,2,3,4,5,6,7,8,9,10,11,12,13,14,15] [(6,1),(13,1)] Z kr_ (fun R B c=>?_);refine Ti (3) U9 ah U2 ?_;refine SV U6 ?_;refine SU (bkT f 1) U8 ?_;refine Ti (0) U9 ah U2 ?_;refine SV U6 ?_;refine SU (bkT f 1) U8 ?_;refine Tj (fun _=>(ec _ d.m_ (fz b t 1) (fz b t 0) k u om_ (m 1) (m 0))) U9 ?_;refine Ti (6) U9 ah U2 ?_;refine SV U6 ?_;refine SU (bkT f 1) U8 ?_;refine Ti (0) U9 ah U2 ?_;refine SV U6 ?_;refine SU (bkT f 1) U8 ?_;refine Tj (fun _=>(ec _ d.m_ (fz b t 2) (fz b t 0) k u om_ (m 2) (m 0))) U9 ?_;refine C6 2 [6,8,9,10,11,12,13] c Z ?_;refine SR 1 [6,8,9,10,11,12,13,14] Z ?_;refine SS 5 Z fun R c=>?_;refine Tb (pP _ d.m_ _ _ _ _ 3 dc_ dc_ (g 1 0) (hy 1 0) (g 2 0) (hy 2 0)) U7 fl_ ?_;refine Tb (by have h:=gG J d.m_ 1 _ 13 dc_ dc_ (QB_one.le dc_) y z;rw [dB] at h;exact h) U7 fl_ ?_;refine C6 5 [6,8,9,10,11,12,13,14,15] c Z ?_;refine SS 6 Z fun R c=>?_;refine Tb (pP _ d.m_ (fz b t 1-fz b t 0) ((cor a t 1).2-(cor a t 0).2) (fz b t 2-fz b t 0) ((cor a t 2).2-(cor a t 0).2) (2*k+3) om_ om_ ((l 1 0).le om_) ((hy 1 0).le om_) ((l 2 0).le om_) ((hy 2 0).le om_)) U7 fl_ ?_;refine Tb (df _ d.m_ _ _ (8*k+26) om_ om_ (A.le om_) H) U7 fl_ ?_;refine SZ 6 Z ?_;refine Tb (pP _ d.m_ ((cor a t 1).1-(cor a t 0).1) (fz b t 1-fz b t 0) ((cor a t 2).1-(cor a t 0).1) (fz b t 2-fz b t 0) (2*k+3) om_ om_ ((g 1 0).le om_) ((l 1 0).le om_) ((g 2 0).le om_) ((l 2 0).le om_)) U7 fl_ ?_;refine Tb (df _ d.m_ _ _ (8*k+26) om_ om_ (A.le om_) I) U7 fl_ ?_;refine Td (fZ (dM a b t)) U8 ?_;refine S5 (j:=0) U12 ?_;refine SY [6] c Z ?_;refine S7 (TE ag U4 ?_);exact ⟨Z,Z⟩
def Ht (l:List Rat):Rat:=l.foldl (·+·) 0
theorem Ed (l:List Rat)(q:Rat):Ht (l++[q])=Ht l+q:=by unfold Ht;rw [List.foldl_append];rfl
theorem Li (C:Mem)(g:Tabs C)(v:Value)(l:List Rat)(k:Nat)(h:0<k)(j:k<=10000)(b:Sl C 1 v (l.map eD))(n:∀ q∈l,QB k q)(o:∀ i,QB k (Ht (l.take i))) :
  Gives cx.P 126 [v] C (af (qtx (Ht l))):=by
 obtain ⟨p,c0,rfl,r,z,_⟩:=id b;have A:maxLen<=9223372036854775807:=by simp [maxLen]
 simp only [al] at b r ⊢;refine S4 func126 17 U3 fun w0=>SR 1 [0] Z<|SR 1 [0,3] Z<|SR 3 [3,6,7,8] Z<|G.loop (fun fr B t u=>∃ (i:Nat)(s:Str),(i<=l.length/\s=qtx (Ht (l.take i)))/\fr=[(3,[],af s),(6,[],.slice p l.length c0),(7,[],.int .i64 l.length),(8,[],.int .i64 i)]/\t=[]/\u=l.length-i) (hn_ [3,6,7,8] Z) ⟨0,[48],⟨Pm _,qtx_zero.symm⟩,Z,Z,Z⟩ (fun fr D E m w x=>?_);obtain ⟨i,s,⟨F,f⟩,rfl,rfl,rfl⟩:=x;refine SR 1 [3,6,7,8,9] Z<|G.cd (fun c=>?_) fun c=>?_
 ·have d:i<l.length:=by simpa using c
  obtain ⟨q,e⟩:∃ q,l[i]?=some q:=⟨l[i],ak d⟩;subst f;refine SX fun R a=>Ta b.m_ U10 om_ (cq e) fl_ fun H y=>SU y U8<|C6 1 [3,5,6,7,8] a Z<|SS 2 Z fun R a=>S8 (mB _ g.m_ (Ht (l.take i)) q k h j (o i) (n q (Pe e))) U7<|C6 1 [3,6,7,8] a Z<|SX fun R a=>S2 _ Z U6<|C6 1 [3,6,7,8] a Z<|S6 (m':=l.length-(i+1)) om_ w (hn_ [3,6,7,8] Z) ⟨i+1,_,⟨by omega,by rw [PN,e,QF,Ed]⟩,Z,Z,Z⟩
 have d:i=l.length:=by
  have:¬ i<l.length:=by simpa using c
  omega
 exact SR 2 [2] Z<|S3 U2<|⟨by rw [f,d,Pv],Z⟩
def CL (q:Rat):Value:=if aW (qtx q) then .tuple #[af (qtx q),.int .i64 0] else .tuple #[af [],.int .i64 4]
theorem Gk (C:Mem)(b:Tabs C)(q:Rat)(c:(qtx q).length<=999998):Gives cx.P 62 [af (qtx q)] C (CL q):=by
 refine S4 func62 8 U3 fun w0=>SR 2 [0] Z<|SS 1 Z fun R d=>S8 (dA _ b.m_ _ c) U7<|C6 1 [0,6] d Z<|G.cd (fun a=>?_) fun a=>?_
 ·have e:aW (qtx q)=false:=by
   rcases eW (aW (qtx q)) with ⟨h1,h2⟩ | ⟨h1,h2⟩
   ·rw [h1] at a;exact absurd a dc_
   exact h2
  refine SR 2 [2,3] Z<|S7 (G.dropAll (Tp U3 ?_));exact ⟨by unfold CL;rw [e];rfl,Z⟩
 have f:aW (qtx q)=true:=by
  rcases eW (aW (qtx q)) with ⟨h1,h2⟩ | ⟨h1,h2⟩
  ·exact h2
  rw [h1] at a;exact absurd a dc_
 refine SR 3 [2,3] Z<|S7 (G.dropAll (Tp U3 ?_));exact ⟨by unfold CL;rw [f];rfl,Z⟩
def onQ (pts:List Pt)(fs:List Rat)(t:Tri)(p:Pt):Rat:=Ht [fz fs t 0,(dM pts fs t).1*(p.1-(cor pts t 0).1),(dM pts fs t).2*(p.2-(cor pts t 0).2)]
theorem Kn (n:k<=23)(a:MeshOk pts tris)(c:fs.length=pts.length)(d:∀ q∈fs,QB k q)(b:t∈tris)(e:QP 23 p):QB 600 (onQ pts fs t p)/\(∀ i,QB 600 (Ht ([fz fs t 0,(dM pts fs t).1*(p.1-(cor pts t 0).1),(dM pts fs t).2*(p.2-(cor pts t 0).2)].take i)))/\QB 600 (fz fs t 0)/\QB 600 ((dM pts fs t).1*(p.1-(cor pts t 0).1))/\QB 600 ((dM pts fs t).2*(p.2-(cor pts t 0).2)):=by
 have hs:=vC a c d b;have f:=nk a b 0;have g:=Mp a c d b 0;have h1:QB 248 ((dM pts fs t).1*(p.1-(cor pts t 0).1)):=(jh hs.1 (fb e.1 f.1)).le om_;have h2:QB 248 ((dM pts fs t).2*(p.2-(cor pts t 0).2)):=(jh hs.2 (fb e.2 f.2)).le om_;have h:QB 25 (0+fz fs t 0):=(uJ QB_zero g).le om_;have j:QB 274 (0+fz fs t 0+(dM pts fs t).1*(p.1-(cor pts t 0).1)):=(uJ h h1).le om_;have l:QB 523 (0+fz fs t 0+(dM pts fs t).1*(p.1-(cor pts t 0).1)+(dM pts fs t).2*(p.2-(cor pts t 0).2)):=(uJ j h2).le om_;refine ⟨l.le dc_,fun i=>?_,g.le om_,h1.le dc_,h2.le dc_⟩;rcases (by omega:i=0∨i=1∨i=2∨3<=i) with rfl | rfl | rfl | m
 ·exact QB_zero.le dc_
 ·exact h.le dc_
 ·exact j.le dc_
 rw [PZ (by simpa using m)];exact l.le dc_
theorem K2 (e:QB k a)(f:QB k b)(g:QB k c):∀ q∈[a,b,c],QB k q:=by
 intro q d;simp only [Ps,Qh,Rz] at d;rcases d with rfl | rfl | rfl <;> assumption
theorem OX (C:Mem)(d:Tabs C)(u v:Value)(a:List Pt)(g:List Tri)(c:List Rat)(k:Nat)(E:0<k)(F:k<=23)(w:MeshIn C u a g)(e:MeshOk a g)(h:Sl C 1 v (c.map eD))(l:c.length=a.length)(r:∀ q∈c,QB k q)(i:Nat)(t:Tri)(m:g[i]?=some t)(p:Pt)(f:QP 23 p) :
  Gives cx.P 63 [u,v,.int .i64 i,ptV p] C (af (qtx (onQ a c t p))):=by
 have n:=Pe m;have x:=e.ins t n;have y:=w;have z:=h;obtain ⟨X,Y,rfl,h1,h2⟩:=id w.ex;obtain ⟨A1,c1,rfl,H,aa,_⟩:=id h1;obtain ⟨A2,c2,rfl,I,ab,_⟩:=id h2;obtain ⟨A4,c4,rfl,ac,ad,_⟩:=id h;have ae:maxLen<=9223372036854775807:=by simp [maxLen]
 simp only [al] at h1 h2 h z y H I ⊢;have ag:=(aJ.1 m).1;have o:=nk e n 0;obtain ⟨ah,J,K,L,M⟩:=Kn F e l r n f;have hs:=vC e l r n;have N:QB 25 (p.1-(cor a t 0).1):=(fb f.1 o.1).le dc_;have O:QB 25 (p.2-(cor a t 0).2):=(fb f.2 o.2).le dc_;refine S4 func63 49 U3 fun w0=>SX fun R b=>Tf U6 fun b4=>Tf U6 fun b7=>C6 1 [1,2,4,7] b Z<|G.freeze 1 Z fun _ _ s=>SX fun R b=>SU (PtrTo.block (Mem.get s mup) _) U8<|SZ 2 Z<|Tb (wK _ d.m_ _ _ a g c k E om_ y.m_ e z.m_ l r i t m) U7 fl_<|Te U5 fun b9=>S5 (j:=0) U12<|SY [1,2,4,7,9] b Z<|SS 1 Z fun R b=>SU (PtrTo.block (Mem.get s mup) _) U8<|SV U6<|Ta h2.m_ U10 om_ (cq m) fl_ fun ai Q=>Ux U9 (fun _=>Q) (fun _=>⟨by omega,om_⟩) fl_ Z (fun aj S=>?_);have T:=S trivial;exact SU T U8<|C6 1 [1,4,7,9,10] b Z<|SS 1 Z fun R b=>SU (PtrTo.block (Mem.get s mup) _) U8<|SV U6<|Ta h1.m_ U10 om_ (cq (oX x.1)) fl_ fun ak U=>SU U U8<|Te U5 fun am=>S5 (j:=0) U12<|SY [1,7,9,10,11] b Z<|G.freeze 0 Z fun _ _ A=>G.freeze 0 Z fun _ _ B=>G.freeze 0 Z fun _ _ D=>Tg [0,1,2,3,4,5,6,7,8,9,10,11,12,13,14,15,16,17,18,19,20,21,22] [(10,1),(11,1),(18,1),(19,1),(21,1)] Z kr_ fun R hB b=>SZ 2 Z<|Ta h.m_ U10 om_ (cq (Gi (l ▸ x.1))) fl_ fun an V=>SU V U8<|SV U6<|SU (bkT B 1) U8<|SV U6<|SU (bkT D 1) U8<|SV U6<|SU (bkT A 1) U8<|Tj (fun _=>(ec _ d.m_ p.1 (cor a t 0).1 23 dc_ dc_ f.1 (o.1.le dc_))) U9<|Tj (fun _=>(df _ d.m_ _ _ 300 dc_ dc_ (hs.1.le om_) (N.le dc_))) U9<|SV U6<|SU (bkT B 1) U8<|SV U6<|SU (bkT D 1) U8<|SV U6<|SU (bkT A 1) U8<|Tj (fun _=>(ec _ d.m_ p.2 (cor a t 0).2 23 dc_ dc_ f.2 (o.2.le dc_))) U9<|Tj (fun _=>(df _ d.m_ _ _ 300 dc_ dc_ (hs.2.le om_) (O.le dc_))) U9<|Th ([fz c t 0,(dM a c t).1*(p.1-(cor a t 0).1),(dM a c t).2*(p.2-(cor a t 0).2)].map eD) U12 fun ao _ _ W=>Tj (fun _=>(Li _ d.m_ _ _ 600 dc_ dc_ W.m_ (K2 K L M) J)) U9<|C6 1 [8] b Z<|S3 U2<|⟨Z,Z⟩
def DI (pts:List Pt)(tris:List Tri)(fs:List Rat)(p:Pt):Value:=match kF pts tris p with
 | []=>.tuple #[af [],.int .i64 28]
 | i::_=>CL (onQ pts fs (tris.getD i (0,0,0)) p)
theorem xt (h:∀ q∈fs,aW (qtx q)=true):(fs.map qtx).all aW=true:=by
 rw [PD];intro s hs;obtain ⟨q,a,rfl⟩:=Pn.1 hs;exact h q a
theorem mM (a:List Rat):a.map eD=(a.map qtx).map jV:=by rw [Qe];rfl
theorem vV (b:k<=100)(h:∀ q∈fs,QB k q):∀ s∈fs.map qtx,s.length<=999998:=by
 intro s hs;obtain ⟨q,a,rfl⟩:=Pn.1 hs;have:=bx ((h q a).le (RB k)) om_;omega
theorem xh (C:Mem)(i:Tabs C)(c v d:Value)(b:List Pt)(f:List Tri)(a:List Rat)(j:MeshIn C c b f)(l:Good b f)(m:Sl C 1 v [[d]])(g:Sl C 1 d (a.map eD))(n:a.length=b.length)(r:k<=23)(o:∀ q∈a,QB k q)(p:∀ q∈a,aW (qtx q)=true) :
  Gives cx.P 61 [c,v] C (.int .i64 0):=by
 rw [mM] at g;have h:=xi C i c v d b f (a.map qtx) j l m g (vV om_ o);have e:yD b.length (a.map qtx)=0:=by unfold yD;rw [aL (by simpa using n),xt p];rfl
 rwa [e] at h
theorem N1 (h:i∈kF pts tris p):∃ t,tris[i]?=some t/\tris.getD i (0,0,0)=t/\yw pts p t=true:=by
 unfold kF at h;rw [QG,PC] at h;obtain ⟨h1,h2⟩:=h;obtain ⟨t,a⟩:∃ t,tris[i]?=some t:=⟨tris[i],ak h1⟩;have b:tris.getD i (0,0,0)=t:=by rw [ax,a,Qx]
 rw [b] at h2;exact ⟨t,a,b,h2⟩
theorem NU (h:QB 600 q):(qtx q).length<=999998:=Py (bx h dc_) dc_
theorem zC (C:Mem)(e:Tabs C)(x y:Value)(a:List Pt)(c:List Tri)(b:List Rat)(k:Nat)(I:0<k)(j:k<=23)(z:MeshIn C x a c)(l:Good a c)(f:Sl C 1 y (b.map eD))(m:b.length=a.length)(n:∀ q∈b,QB k q)(J:∀ q∈b,aW (qtx q)=true)(p:Pt)(o:QP 23 p)(K:PtR p) :
  Gives cx.P 15 [x,y,ptV p] C (DI a c b p):=by
 have A:=l.ok;have s:=z;obtain ⟨X,Y,rfl,h1,h2⟩:=id z.ex;obtain ⟨L,M,rfl,aa,ab,_⟩:=id f;simp only [al] at f ⊢;have ac:maxLen<=9223372036854775807:=by simp [maxLen]
 refine S4 func15 40 U3 fun w0=>SX fun R d=>Tf U6 fun b3=>Tf U6 fun b5=>C6 2 [1,3,5] d Z<|G.freeze 1 Z fun _ _ u=>G.freeze 0 Z fun _ _ B=>SX fun R d=>SU (PtrTo.block (Mem.get u mup) _) U8<|SV U6<|Th [[.slice L b.length M]] U12 fun ad _ _ N=>S8 (xh _ e.m_ _ _ _ a c b s.m_ l N.m_ f.m_ m j n J) U7<|C6 1 [1,3,5,8] d Z<|SR 2 [1,3,5,8,16] Z<|G.cd (fun D=>?_) fun D=>?_
 ·exact absurd D dc_
 refine SX fun R d=>SU (PtrTo.block (Mem.get u mup) _) U8<|SU (PtrTo.block (Mem.get B mup) _) U8<|Tv (lF _ e.m_ _ a c p s.m_ l o K) U7 (fun ae _ _ O=>?_);obtain ⟨wv,rfl,v⟩:=O;obtain ⟨Aw,cw,E,_⟩:=id v;rw [al] at E;subst E;refine C6 5 [1,3,5,9,10] d Z<|SR 2 [1,3,5,9,10,25] Z<|G.cd (fun F=>?_) fun F=>?_
 ·exact absurd F dc_
 refine SR 3 [1,3,5,9,29] Z<|G.cd (fun g=>?_) fun g=>?_
 ·have Q:kF a c p=[]:=by
   have h:(((kF a c p).length:Nat):Int)=0:=by simpa using g
   exact P2 om_
  refine SR 2 [6,7] Z<|S7 (G.dropAll (Tp U3 ?_));exact ⟨by unfold DI;rw [Q];rfl,Z⟩
 obtain ⟨i,r,w⟩:∃ i r,kF a c p=i::r:=by
  cases S:kF a c p with
  | nil=>rw [S] at g;exact absurd g dc_
  | cons i r=>exact ⟨i,r,rfl⟩
 obtain ⟨t,H,T,_⟩:=N1 (pts:=a) (tris:=c) (p:=p) (i:=i) (by rw [w];simp);have U:=Kn j A m n (Pe H) o;have V:DI a c b p=CL (onQ a b t p):=by unfold DI;rw [w];show CL (onQ a b (c.getD i (0,0,0)) p)=_;rw [T]
 rw [w] at v ⊢;refine Tg [0,1,2,3,4,5,6,7,8,9,10,11] [(6,1),(7,1)] Z kr_ fun R hB d=>SU (PtrTo.block (Mem.get u mup) _) U8<|SZ 2 Z<|Ta v.m_ U10 om_ (rfl:(List.map aT (i::r))[0]?=some (aT i)) fl_ fun ag W=>SU W U8<|SU (PtrTo.block (Mem.get B mup) _) U8<|Tu (fun _=>(OX _ e.m_ _ _ a c b k I j s.m_ A f.m_ m n i t H p o)) U9<|Tu (fun _=>(Gk _ e.m_ _ (NU U.1))) U9 ?_;rw [show CL (onQ a b t p)=.tuple #[if aW (qtx (onQ a b t p)) then af (qtx (onQ a b t p)) else af [],.int .i64 (if aW (qtx (onQ a b t p)) then 0 else 4)] by unfold CL;split <;> rfl];refine C6 4 [6,7] d Z<|S7 (G.dropAll (Tp U3 ?_));refine ⟨?_,Z⟩;rw [V];unfold CL;split <;> rfl
theorem NS (h:QP 22 p):PtR p:=⟨bC h.1,bC h.2⟩
theorem sY (C:Mem)(f:Tabs C)(l m:Value)(c:List Pt)(d:List Tri)(b:List Rat)(k:Nat)(z:0<k)(A:k<=23)(n:MeshIn C l c d)(o:Good c d)(e:Sl C 1 m (b.map eD))(p:b.length=c.length)(r:∀ q∈b,QB k q)(B:∀ q∈b,aW (qtx q)=true)(i:Nat)(t:Tri)(s:d[i]?=some t)(u:QP 22 (dM c b t)) :
  Gives cx.P 293 [l,m,.int .i64 i] C (.tuple #[ptV (dM c b t),.int .i64 0]):=by
 have D:=o.ok;have g:=n;have I:=(aJ.1 s).1;obtain ⟨J,K,rfl,h1,h2⟩:=id n.ex;obtain ⟨A2,c2,rfl,L,M,_⟩:=id h2;obtain ⟨E,F,rfl,N,O,_⟩:=id e;simp only [al] at e h2 g ⊢;have Q:maxLen<=9223372036854775807:=by simp [maxLen]
 refine S4 func293 37 U3 fun w0=>SX fun R a=>Tf U6 fun S=>Te U5 fun T=>C6 1 [1,2,3,6] a Z<|G.freeze 1 Z fun _ _ h=>SX fun R a=>SU (PtrTo.block (Mem.get h mup) _) U8<|SV U6<|Th [[.slice E b.length F]] U12 fun U _ _ H=>S8 (xh _ f.m_ _ _ _ c d b g.m_ o H.m_ e.m_ p A r B) U7<|C6 1 [1,2,3,6,8] a Z<|SR 2 [1,2,3,6,8,15] Z<|G.cd (fun v=>?_) fun v=>?_
 ·exact absurd v dc_
 refine SS 5 Z fun R a=>Tn U6 (fun _=>PtrTo.block (Mem.get h mup) _) U3<|SZ 2 Z<|Tt U8<|SY [1,2,3,6,26] a Z<|G.cd (fun w=>?_) fun w=>?_
 ·exfalso;simp only [Q4,Pp] at w;omega
 refine SX fun R a=>SU (PtrTo.block (Mem.get h mup) _) U8<|SZ 2 Z<|Tb (wK _ f.m_ _ _ c d b k z om_ g.m_ D e.m_ p r i t s) U7 fl_<|Te U5 fun V=>S5 (j:=0) U12<|SY [6,9] a Z<|G.freeze 0 Z fun _ _ x=>SX fun R a=>SU (PtrTo.block (Mem.get x mup) _) U8<|Tb (im _ f.m_ _ (u.le dc_) (NS u)) U7 fl_<|C6 1 [6,9,34] a Z<|G.cd (fun y=>?_) fun y=>?_
 ·exact absurd y dc_
 refine SX fun R a=>SU (PtrTo.block (Mem.get x mup) _) U8<|S5 (j:=0) U12<|C6 1 [6,7] a Z<|S7 (Uf ag U5 ?_);exact ⟨Z,Z⟩
def jT {α:Type}(p:α->Bool):List α->Nat->Int
 | [],_=>-1
 | x::l,k=>if p x then (k:Nat) else jT p l (k+1)
theorem tW {a:Type}{p:a->Bool}:∀ {l:List a}{i k:Nat}{x:a},l[i]?=some x->p x=true->(∀ y∈l.take i,p y=false)->jT p l k=((k+i:Nat):Int)
 | y::l,0,k,x,h,b,_=>by
  simp only [List.getElem?_cons_zero,PW] at h;subst h;simp [jT,b]
 | y::l,i+1,k,x,h,b,c=>by
  simp only [QR] at h;have hy:p y=false:=c y am;have:=tW (k:=k+1) h b (fun z d=>c z (by simp [d]));simp only [jT,hy,P8,QD,this];omega
theorem pI {a:Type}{p:a->Bool}:∀ {l:List a}{k:Nat},(∀ y∈l,p y=false)->jT p l k=-1
 | [],_,_=>rfl
 | y::l,k,h=>by
  simp only [jT,h y Ph,P8,QD];exact pI fun z b=>h z (Pr _ b)
theorem rP (p:α->Bool)(l:List α):(jT p l 0=-1/\∀ y∈l,p y=false)∨∃ (i:Nat)(x:α),jT p l 0=(i:Nat)/\l[i]?=some x/\p x=true/\∀ y∈l.take i,p y=false:=by
 by_cases h:∀ y∈l,p y=false
 ·exact .inl ⟨pI h,h⟩
 right;have d:∀ (l:List α),(¬ ∀ y∈l,p y=false)->∃ (i:Nat)(x:α),l[i]?=some x/\p x=true/\∀ y∈l.take i,p y=false:=by
  intro l;induction l with
  | nil=>intro h;exact absurd (fun y hy=>(by cases hy)) h
  | cons a l e =>
   intro h;by_cases b:p a=true
   ·exact ⟨0,a,Z,b,by simp⟩
   have c:p a=false:=by simpa using b
   obtain ⟨i,x,h1,h2,h3⟩:=e (fun h2=>h (fun y hy=>by
    rcases Ps.1 hy with rfl | hy
    ·exact c
    exact h2 y hy))
   refine ⟨i+1,x,by simpa using h1,h2,fun y hy=>?_⟩;rw [List.take_succ_cons] at hy;rcases Ps.1 hy with rfl | hy
   ·exact c
   exact h3 y hy
 obtain ⟨i,x,h1,h2,h3⟩:=d l h;exact ⟨i,x,by rw [tW h1 h2 h3,QE],h1,h2,h3⟩
structure Lay where
 unit:Str
 min:Rat
 max:Option Rat
def uS:Option Rat->Str
 | none=>[]
 | some q=>qtx q
def uV (x:Lay):List Value:=[af x.unit,af (qtx x.min),af (uS x.max)]
def isU (u:Str)(x:Lay):Bool:=decide (x.unit=u)
def M7 (x:Lay):Prop:=QB 22 x.min/\(∀ q,x.max=some q->QB 22 q)/\x.unit.length<=999998
theorem pk (m:Option Rat):(!((⟨(uS m).toArray⟩:ByteArray).data.toList == (⟨#[]⟩:ByteArray).data.toList))=m.isSome:=by
 cases m with
 | none=>rfl
 | some q =>
  have:=AE q;show (!(qtx q == []))=true;cases h:qtx q with
  | nil=>rw [h] at this;simp at this
  | cons a l=>rfl
theorem lK (C:Mem)(v:Value)(l:List Lay)(g:Nat)(d:List Value)(a:Lay->Bool)(e:Sl C 3 v (l.map uV))(_A:Jog.Enters cx.P g=true)
  (n:∀ x∈l,∀ D:Mem,C.le D->Gives cx.P g (.agg ⟨uV x⟩::d) D (.bool (a x))) :
  Gives cx.P 317 [v,.func (.func g) #[] ⟨d⟩] C (.int .i64 (jT a l 0)):=by
 obtain ⟨o,c0,rfl,p,B,_⟩:=id e;have E:maxLen<=9223372036854775807:=by simp [maxLen]
 simp only [al] at e p ⊢;refine S4 func317 19 U3 fun w0=>SR 1 [0,1] Z<|SR 3 [0,1,7,8] Z<|G.loop (fun fr F q r=>∃ (i:Nat),(i<=l.length/\∀ y∈l.take i,a y=false)/\fr=[(0,[],.slice o l.length c0),(1,[],.func (.func g) #[] ⟨d⟩),(7,[],.int .i64 l.length),(8,[],.int .i64 i)]/\q=[]/\r=l.length-i) (hn_ [0,1,7,8] Z) ⟨0,⟨Pm _,by simp⟩,Z,Z,Z⟩ (fun fr H I m s t=>?_);obtain ⟨i,⟨J,b⟩,rfl,rfl,rfl⟩:=t;refine SR 1 [0,1,7,8,9] Z<|G.cd (fun f=>?_) fun f=>?_
 ·have h:i<l.length:=by simpa using f
  obtain ⟨x,c⟩:∃ x,l[i]?=some x:=⟨l[i],ak h⟩;refine SR 2 [0,1,5,7,8] Z<|SS 3 Z fun R j=>Ta e.m_ U10 om_ (cq c) fl_ fun K u=>SU u U8<|S8 (n x (Pe c) _ mup) U7<|SY [0,1,5,7,8,16] j Z<|G.cd (fun k=>?_) fun k=>?_
  ·have w:a x=true:=k;exact SR 2 [4] Z<|S3 U2<|⟨by rw [tW c w b,QE],Z⟩
  have z:a x=false:=k;refine SX fun R j=>S2 _ Z U6<|C6 1 [0,1,7,8] j Z<|S6 (m':=l.length-(i+1)) om_ s (hn_ [0,1,7,8] Z) ⟨i+1,⟨by omega,fun y hy=>by
   rw [PN,c] at hy;rcases Px.1 hy with hy | hy
   ·exact b y hy
   simp only [QF,PE] at hy;subst hy;exact z⟩,Z,Z,Z⟩
 have h:i=l.length:=by
  have:¬ i<l.length:=by simpa using f
  omega
 exact SR 1 [4] Z<|S3 U2<|⟨by rw [h,Pv] at b;rw [pI b],Z⟩
theorem HP (a b:Str):((⟨a.toArray⟩:ByteArray).data.toList == (⟨b.toArray⟩:ByteArray).data.toList)=decide (a=b):=by
 show (a == b)=_;by_cases h:a=b <;> simp [h]
theorem GS (C:Mem)(b:Nat)(u:Str)(x:Lay)(c:C b=some (.cells ⟨[af u]⟩ 9 (0,0))):Gives cx.P 318 [.agg ⟨uV x⟩,.pointer (some ⟨b,0,none⟩)] C (.bool (isU u x)):=by
 exact S4 func318 8 U3 fun w0=>SX fun R a=>Tf U6 fun d=>C6 1 [1,2] a Z<|SS 1 Z fun R a=>S1 ag U9<|SU (PtrTo.block (Mem.get c mup) _) U8<|C6 2 [3] a Z<|S3 U2<|⟨by unfold isU;rw [<- HP],Z⟩
theorem ze (C:Mem)(b:Nat)(u:Str)(x:Lay)(c:C b=some (.cells ⟨[af u]⟩ 9 (0,0))):Gives cx.P 320 [.agg ⟨uV x⟩,.pointer (some ⟨b,0,none⟩)] C (.bool (isU u x)):=by
 exact S4 func320 8 U3 fun w0=>SX fun R a=>Tf U6 fun d=>C6 1 [1,2] a Z<|SS 1 Z fun R a=>S1 ag U9<|SU (PtrTo.block (Mem.get c mup) _) U8<|C6 2 [3] a Z<|S3 U2<|⟨by unfold isU;rw [<- HP],Z⟩
theorem BE (C:Mem)(v:Value)(l:List Lay)(u:Str)(c:Sl C 3 v (l.map uV)):Gives cx.P 286 [v,af u] C (.int .i64 (jT (isU u) l 0)):=by
 exact S4 func286 8 U3 fun w0=>SX fun R a=>Tf U6 fun b=>C6 1 [0,3] a Z<|G.freeze 0 Z fun _ _ d=>SS 2 Z fun R a=>S8 (lK _ _ l 318 [.pointer (some ⟨b,0,none⟩)] (isU u) c.m_ Z (fun x _ D e=>GS D b u x (e _ _ (Mem.get d mup)))) U7<|C6 1 [4] a Z<|S3 U2<|⟨Z,Z⟩
theorem jO (C:Mem)(v:Value)(l:List Lay)(u:Str)(c:Sl C 3 v (l.map uV)):Gives cx.P 288 [v,af u] C (.int .i64 (jT (isU u) l 0)):=by
 exact S4 func288 8 U3 fun w0=>SX fun R a=>Tf U6 fun b=>C6 1 [0,3] a Z<|G.freeze 0 Z fun _ _ d=>SS 2 Z fun R a=>S8 (lK _ _ l 320 [.pointer (some ⟨b,0,none⟩)] (isU u) c.m_ Z (fun x _ D e=>ze D b u x (e _ _ (Mem.get d mup)))) U7<|C6 1 [4] a Z<|S3 U2<|⟨Z,Z⟩
theorem tx (h:QB 22 q):(qtx q).length<=999998:=Py (bx h dc_) dc_
theorem CE (h:QB 22 q):(qtx q).length<=1000000:=Py (bx h dc_) dc_
theorem I0 (C:Mem)(d:Tabs C)(x:Lay)(e:M7 x):Gives cx.P 284 [.agg ⟨uV x⟩] C (.int .i64 0):=by
 obtain ⟨u,f,c⟩:=x;obtain ⟨h1,h2,h3⟩:=e;simp only at h1 h2 h3;clear h3;have g:(uS c).length<=999998:=by
  cases c with
  | none=>decide
  | some q=>exact tx (h2 q rfl)
 refine S4 func284 17 U3 fun w0=>SX fun R a=>Tf U6 fun h=>C6 1 [1] a Z<|SS 1 Z fun R a=>S1 ag U9<|S8 (dA _ d.m_ (qtx f) (tx h1)) U7<|C6 2 [1,3] a Z<|G.cd (fun h3=>?_) fun h3=>?_
 ·exfalso;rw [xg h1] at h3;exact absurd h3 dc_
 refine SS 1 Z fun R a=>S1 ag U9<|SZ 3 Z<|S1 ag U9<|Tu (fun _=>(dA _ d.m_ (uS c) g)) U9<|SV U6<|Tl U8<|C6 1 [3] a Z<|G.cd (fun b=>?_) fun b=>?_
 ·exfalso;simp only [] at b;cases c with
  | none=>exact absurd b dc_
  | some q =>
   rw [show uS (some q)=qtx q from rfl,xg (h2 q rfl)] at b;simp at b
 exact SR 1 [2] Z<|S3 U2<|⟨Z,Z⟩
def FP (x:Lay):Bool:=match x.max with
 | none=>false
 | some m=>decide (m<x.min)
def Kt (pre:List Lay)(x:Lay):Int:=if cW x.unit=false then 8 else if 0<=jT (isU x.unit) pre 0 then 9 else if x.min<0 then 3 else if FP x then 6 else 0
def Dn (l:List Lay):Nat->Int
 | 0=>0
 | n+1=>if Dn l n≠0 then Dn l n else Kt (l.take n) (l.getD n ⟨[],0,none⟩)
def qX (l:List Lay):Int:=if l=[] then 13 else if 60<l.length then 4 else Dn l l.length
theorem xa {l:List Lay}{n:Nat}(h:Dn l n≠0):∀ m,n<=m->Dn l m=Dn l n
 | 0,hm=>by rw [show n=0 by omega]
 | m+1,hm=>by
  rcases PQ m n with h1 | h1
  ·rw [show n=m+1 by omega]
  have a:=xa h m h1;simp only [Dn,a];rw [aL h]
theorem Ks {l:List Lay}{x:Lay}(h:l[i]?=some x):l.getD i ⟨[],0,none⟩=x:=by rw [ax,h,Qx]
theorem BD {l:List Lay}{x:Lay}(a:Dn l i=0)(b:l[i]?=some x):Dn l (i+1)=Kt (l.take i) x:=by
 simp only [Dn,a];rw [aF dc_,Ks b]
theorem ux {l:List Lay}{x:Lay}(d:Dn l i=0)(a:l[i]?=some x)(b:Kt (l.take i) x=z)(f:z≠0)(g:¬ 60<l.length):qX l=z:=by
 have c:=(aJ.1 a).1;have h1:=BD d a;unfold qX;rw [aF (fun e=>by rw [e] at c;simp at c),aF g,xa (n:=i+1) (by rw [h1,b];exact f) l.length om_,h1,b]
theorem MI (C:Mem)(c:Tabs C)(a:Option Rat)(b:Rat)(d:QB 22 b)(e:∀ q,a=some q->QB 22 q)(h:(!((⟨(uS a).toArray⟩:ByteArray).data.toList == (⟨#[]⟩:ByteArray).data.toList))=true) :
  Gives cx.P 218 [af (uS a),af (qtx b)] C (.int .i64 (sn (a.getD 0) b)):=by
 rw [pk] at h;cases a with
 | none=>cases h
 | some q=>exact gH C c q b 22 dc_ dc_ (e q rfl) d
theorem Bh (x:Lay):(x.max.isSome && decide (sn (x.max.getD 0) x.min<0))=FP x:=by
 unfold FP;cases x.max with
 | none=>rfl
 | some q =>
  show (true && decide (sn q x.min<0))=decide (q<x.min);unfold sn;by_cases h:q<x.min
  ·simp [h]
  rw [aF h,PT h];split <;> rfl
theorem tM (q:Rat):decide (eK q.num<0)=decide (q<0):=by
 rw [Qb,<- AG];rcases eh q.num with h | h | h <;> omega
theorem qi (C:Mem)(y:Tabs C)(v:Value)(l:List Lay)(k:Sl C 3 v (l.map uV))(F:∀ x∈l,M7 x)(S:l.length<=1000000):Gives cx.P 238 [v] C (.int .i64 (qX l)):=by
 obtain ⟨A,c0,rfl,H,T,_⟩:=id k;have U:maxLen<=9223372036854775807:=by simp [maxLen]
 simp only [al] at k H ⊢;refine S4 func238 57 U3 fun w0=>SR 1 [0] Z<|SR 4 [0,6] Z<|G.cd (fun n=>?_) fun n=>?_
 ·have h0:l=[]:=by
   have h:((l.length:Nat):Int)=0:=by simpa using n
   exact P2 om_
  exact SR 1 [2] Z<|S3 U2<|⟨by rw [h0];rfl,Z⟩
 have h0:l≠[]:=by
  intro e;rw [e] at n;exact absurd n dc_
 refine SR 4 [0,10] Z<|G.cd (fun o=>?_) fun o=>?_
 ·have h60:60<l.length:=by
   simp only [Pp] at o;omega
  exact SR 1 [2] Z<|S3 U2<|⟨by unfold qX;rw [aF h0,aL h60],Z⟩
 have h60:¬ 60<l.length:=by
  simp only [PP] at o;omega
 refine SR 3 [0,14,15,16] Z<|G.loop (fun fr V I J=>∃ (i:Nat),(i<=l.length/\Dn l i=0)/\fr=[(0,[],.slice A l.length c0),(14,[],.slice A l.length c0),(15,[],.int .i64 l.length),(16,[],.int .i64 i)]/\I=[]/\J=l.length-i) (hn_ [0,14,15,16] Z) ⟨0,⟨Pm _,Z⟩,Z,Z,Z⟩ (fun fr W X m K L=>?_);obtain ⟨i,⟨Y,b⟩,rfl,rfl,rfl⟩:=L;refine SR 1 [0,14,15,16,17] Z<|G.cd (fun p=>?_) fun p=>?_
 ·have q:i<l.length:=by simpa using p
  obtain ⟨x,c⟩:∃ x,l[i]?=some x:=⟨l[i],ak q⟩;obtain ⟨r,B,M⟩:=F x (Pe c);have D:=Sl.sub k (l:=0) (h:=i) (m:=c0) (Pm _) ap om_ (Pf _);rw [Qv,<- Rw] at D;refine SS 1 Z fun R a=>Ta k.m_ U10 om_ (cq c) fl_ fun aa N=>SU N U8<|Te U5 fun b4=>SV U6<|S5 (j:=0) U12<|SY [0,3,4,14,15,16] a Z<|SX fun R a=>S1 ag U9<|S8 (I0 _ y.m_ x ⟨r,B,M⟩) U7<|C6 1 [0,3,4,5,14,15,16] a Z<|SR 2 [0,3,4,5,14,15,16,24] Z<|G.cd (fun E=>?_) fun E=>?_
  ·exact absurd E dc_
  refine SS 1 Z fun R a=>S1 ag U9<|Tb (hU _ x.unit om_) U7 fl_<|C6 2 [0,3,4,14,15,16,26] a Z<|G.cd (fun s=>?_) fun s=>?_
  ·have d:cW x.unit=false:=by simpa using s
   exact SR 1 [2] Z<|S3 U2<|⟨by rw [ux (z:=8) b c (by unfold Kt;rw [aL d]) dc_ h60],Z⟩
  have d:¬ cW x.unit=false:=by
   have h:cW x.unit=true:=by simpa using s
   rw [h];decide
  refine Tg [0,1,2,3,4,5,6,7] [(5,1)] Z kr_ fun R hB a=>SZ 2 Z<|TO 0 i c0 U12 (fun _=>⟨.inl ⟨Z,Z⟩,.inr ⟨_,Z⟩,.inl ⟨Z,Z⟩,by omega,by omega,by omega⟩) U2<|SV U6<|S1 ag U9<|Tu (fun _=>(BE _ _ (l.take i) x.unit D.m_)) U9<|C6 2 [0,4,14,15,16,31] a Z<|G.cd (fun t=>?_) fun t=>?_
  ·have f:0<=jT (isU x.unit) (l.take i) 0:=by simpa using t
   exact SR 1 [2] Z<|S3 U2<|⟨by rw [ux (z:=9) b c (by unfold Kt;rw [aF d,aL f]) dc_ h60],Z⟩
  have f:¬ 0<=jT (isU x.unit) (l.take i) 0:=by simpa using t
  refine SS 1 Z fun R a=>S1 ag U9<|S8 (fR _ x.min (CE r)) U7<|C6 2 [0,4,14,15,16,39] a Z<|G.cd (fun g=>?_) fun g=>?_
  ·have hs:x.min<0:=by
    rw [tM] at g;exact OD g
   exact SR 1 [2] Z<|S3 U2<|⟨by rw [ux (z:=3) b c (by unfold Kt;rw [aF d,aF f,aL hs]) dc_ h60],Z⟩
  have hs:¬ x.min<0:=by
   rw [tM] at g;exact Pj g
  refine SS 1 Z fun R a=>S1 ag U9<|SZ 3 Z<|S1 ag U9<|SV U6<|S1 ag U9<|Tj (fun O=>(MI _ y.m_ x.max x.min r B (by exact O.1))) U9<|SV U6<|Tl U8<|C6 1 [0,14,15,16,44] a Z<|G.cd (fun u=>?_) fun u=>?_
  ·have w:FP x=true:=by
    rw [<- Bh,<- pk];exact u
   exact SR 1 [2] Z<|S3 U2<|⟨by rw [ux (z:=6) b c (by unfold Kt;rw [aF d,aF f,aF hs,aL w]) dc_ h60],Z⟩
  have w:FP x=false:=by
   rw [<- Bh,<- pk];exact u
  have Q:Dn l (i+1)=0:=by rw [BD b c];unfold Kt;rw [aF d,aF f,aF hs,w];rfl
  refine SX fun R a=>S2 _ Z U6<|C6 1 [0,14,15,16] a Z<|G.dropAll<|S6 (m':=l.length-(i+1)) om_ K (hn_ [0,14,15,16] Z) ⟨i+1,⟨by omega,Q⟩,Z,Z,Z⟩
 have q:i=l.length:=by
  have:¬ i<l.length:=by simpa using p
  omega
 refine SR 1 [2] Z<|S3 U2<|⟨?_,Z⟩;rw [q] at b;unfold qX;rw [aF h0,aF h60,b]
theorem yT (C:Mem)(f:Tabs C)(v:Value)(l:List Lay)(u:Str)(c:Sl C 3 v (l.map uV))(g:∀ x∈l,M7 x)(a:qX l=0)(i:Nat)(j:jT (isU u) l 0=(i:Nat)):Gives cx.P 247 [v,af u] C (.tuple #[.int .i64 (i:Nat),.bool true,.int .i64 0]):=by
 have k:l.length<=1000000:=by
  unfold qX at a;split at a
  ·cases a
  split at a
  ·cases a
  omega
 refine S4 func247 20 U3 fun w0=>SR 3 [0,1] Z<|SS 1 Z fun R b=>Tb (by have h:=qi _ f.m_ v l c.m_ g k;rw [a] at h;exact h) U7 fl_<|C6 1 [0,1,7] b Z<|SR 2 [0,1,7,12] Z<|G.cd (fun d=>?_) fun d=>?_
 ·exact absurd d dc_
 refine SS 2 Z fun R b=>Tb (by have h:=BE _ v l u c.m_;rw [j] at h;exact h) U7 fl_<|C6 1 [8] b Z<|SR 2 [8,18] Z<|G.cd (fun e=>?_) fun e=>?_
 ·refine SR 4 [4,5,6] Z<|S7 (G.dropAll (TR U4 ?_));exact ⟨Z,Z⟩
 exfalso;simp only [PP] at e;omega
structure Obs where
 kind:Int
 name:Str
 x:Str
 y:Str
 depth:Str
 upper:Str
 lower:Str
 nx:Str
 ny:Str
 nz:Str
def qS (o:Obs):List Value:=[.int .i64 o.kind,af o.name,af o.x,af o.y,af o.depth,af o.upper,af o.lower,af o.nx,af o.ny,af o.nz]
structure ObsR (o:Obs):Prop where
 name:o.name.length<=999998
 x:o.x.length<=999998
 y:o.y.length<=999998
 depth:o.depth.length<=999998
 upper:o.upper.length<=999998
 lower:o.lower.length<=999998
 nx:o.nx.length<=999998
 ny:o.ny.length<=999998
 nz:o.nz.length<=999998
def kD (o:Obs):Bool:=(!cW o.name || !cW o.upper) || ((!(o.kind == 1)) && !cW o.lower)
def lu (o:Obs):Bool:=(!(aW o.x && aW o.y) || ((o.kind == 2) && !aW o.depth)) || ((o.kind == 3) && !(aW o.nx && aW o.ny && aW o.nz))
def kK (o:Obs):Bool:=(((o.kind == 1) && !(o.lower == [])) || ((!(o.kind == 2)) && !(o.depth == []))) || ((!(o.kind == 3)) && !(decide (o.nx=[]/\o.ny=[]/\o.nz=[])))
def dR (o:Obs):Int:=if o.kind<1∨3<o.kind then 12 else if kD o then 8 else if lu o then 2 else if kK o then 7 else 0
theorem nil3 (a b c:Str):(!((a == []) && ((b == []) && ((c == []) && true))))=!decide (a=[]/\b=[]/\c=[]):=by
 cases a <;> cases b <;> cases c <;> rfl
theorem GZ (b:Bool):(nV b != 0)=!b:=by cases b <;> rfl
theorem H4 (C:Mem)(h:Tabs C)(o:Obs)(b:ObsR o):Gives cx.P 287 [.agg ⟨qS o⟩] C (.int .i64 (dR o)):=by
 have h1:=b.name;have h2:=b.upper;have h3:=b.lower;refine S4 func287 87 U3 fun w0=>SX fun R c=>Tf U6 fun m=>C6 1 [1] c Z<|G.freeze 0 Z fun _ _ a=>SS 1 Z fun R c=>SU (bkT a 1) U8<|SZ 3 Z<|Tn U6 (fun _=>PtrTo.blockT (Mem.get a mup) _ 1) U3<|SV U6<|Tt U8<|SY [1,10] c Z<|G.cd (fun i=>?_) fun i=>?_
 ·have d:o.kind<1∨3<o.kind:=by simpa using i
  exact SR 1 [2] Z<|S3 U2<|⟨by unfold dR;rw [aL d],Z⟩
 have d:¬ (o.kind<1∨3<o.kind):=by simpa using i
 refine SS 1 Z fun R c=>SU (bkT a 1) U8<|Tb (hU _ o.name om_) U7 fl_<|SZ 3 Z<|Tn U6 (fun _=>PtrTo.blockT (Mem.get a mup) _ 1) U3<|Tj (fun _=>(hU _ o.upper om_)) U9<|SV U6<|Tt U8<|SZ 2 Z<|Tn U6 (fun _=>PtrTo.blockT (Mem.get a mup) _ 1) U3<|SZ 3 Z<|Tn U6 (fun _=>PtrTo.blockT (Mem.get a mup) _ 1) U3<|Tj (fun _=>(hU _ o.lower om_)) U9<|SV U6<|Tl U8<|Tt U8<|SY [1,31] c Z<|G.cd (fun j=>?_) fun j=>?_
 ·have e:kD o=true:=j;exact SR 1 [2] Z<|S3 U2<|⟨by unfold dR;rw [aF d,aL e],Z⟩
 have e:¬ kD o=true:=by rw [show kD o=false from j];decide
 refine SS 1 Z fun R c=>SU (bkT a 2) U8<|S8 (io _ h.m_ o.x o.y b.x b.y) U7<|SZ 3 Z<|Tn U6 (fun _=>PtrTo.blockT (Mem.get a mup) _ 1) U3<|SZ 3 Z<|Tn U6 (fun _=>PtrTo.blockT (Mem.get a mup) _ 1) U3<|Tu (fun _=>(dA _ h.m_ o.depth b.depth)) U9<|SV U6<|Tl U8<|Tt U8<|SZ 2 Z<|Tn U6 (fun _=>PtrTo.blockT (Mem.get a mup) _ 1) U3<|SZ 3 Z<|Tn U6 (fun _=>PtrTo.blockT (Mem.get a mup) _ 3) U3<|Tu (fun _=>(qY _ h.m_ o.nx o.ny o.nz b.nx b.ny b.nz)) U9<|SV U6<|Tl U8<|Tt U8<|SY [1,57] c Z<|G.cd (fun f=>?_) fun f=>?_
 ·have g:lu o=true:=by
   simp only [GZ] at f;exact f
  exact SR 1 [2] Z<|S3 U2<|⟨by unfold dR;rw [aF d,aF e,aL g],Z⟩
 have g:¬ lu o=true:=by
  simp only [GZ] at f;rw [show lu o=false from f];decide
 refine SS 1 Z fun R c=>SU (bkT a 1) U8<|SZ 3 Z<|Tn U6 (fun _=>PtrTo.blockT (Mem.get a mup) _ 1) U3<|SV U6<|Tl U8<|SZ 2 Z<|Tn U6 (fun _=>PtrTo.blockT (Mem.get a mup) _ 1) U3<|SZ 3 Z<|Tn U6 (fun _=>PtrTo.blockT (Mem.get a mup) _ 1) U3<|SV U6<|Tl U8<|Tt U8<|SZ 2 Z<|Tn U6 (fun _=>PtrTo.blockT (Mem.get a mup) _ 1) U3<|SZ 3 Z<|Tn U6 (fun _=>PtrTo.blockT (Mem.get a mup) _ 3) U3<|Td [af [],af [],af []] U8<|Vl (!decide (o.nx=[]/\o.ny=[]/\o.nz=[])) kr_ Z Z Z Z Z Z Z Z (fun _=>(nil3 o.nx o.ny o.nz)) Z Z<|Tl U8<|Tt U8<|SY [86] c Z<|G.cd (fun k=>?_) fun k=>?_
 ·have l:kK o=true:=k;exact SR 1 [2] Z<|S3 U2<|⟨by unfold dR;rw [aF d,aF e,aF g,aL l],Z⟩
 have l:¬ kK o=true:=by rw [show kK o=false from k];decide
 exact SR 1 [2] Z<|S3 U2<|⟨by unfold dR;rw [aF d,aF e,aF g,aF l],Z⟩
noncomputable def da (s:Str):Rat:=if h:aW s=true then (Kd h).choose else 0
theorem dt {s:Str}(h:aW s=true):s=qtx (da s)/\QB 23 (da s):=by
 unfold da;rw [dif_pos h];exact (Kd h).choose_spec
theorem cR (h:aW (qtx q)=true):da (qtx q)=q:=(li (dt h).1).symm
noncomputable def ptO (o:Obs):Pt:=(da o.x,da o.y)
noncomputable def Jz (pts:List Pt)(tris:List Tri)(o:Obs):Bool:=decide (kF pts tris (ptO o)≠[])
def J3 (col:List Lay)(o:Obs):Bool:=decide (jT (isU o.upper) col 0<0) || ((!(o.kind == 1)) && decide (jT (isU o.lower) col 0<0))
def ordB (col:List Lay)(o:Obs):Bool:=(!(o.kind == 1)) && decide (jT (isU o.upper) col 0<=jT (isU o.lower) col 0)
noncomputable def depB (o:Obs):Bool:=(o.kind == 2) && decide (da o.depth<0)
def Hz (o:Obs):Bool:=(o.kind == 3) && decide (o.nz=[48])
noncomputable def gQ (pts:List Pt)(tris:List Tri)(col:List Lay)(o:Obs):Int :=
 if dR o≠0 then dR o else if Jz pts tris o=false then 28 else if J3 col o then 10 else if ordB col o then 6 else if depB o then 3 else if Hz o then 17 else 0
theorem rn {o:Obs}(h:dR o=0):aW o.x=true/\aW o.y=true/\(o.kind=2->aW o.depth=true):=by
 unfold dR at h;split at h
 ·cases h
 split at h
 ·cases h
 split at h
 ·cases h
 rename_i b;have a:lu o=false:=by simpa using b
 unfold lu at a;rw [QW,QW] at a;obtain ⟨⟨h1,h2⟩,_⟩:=a;have h3:(aW o.x && aW o.y)=true:=by simpa using h1
 rw [Pu] at h3;refine ⟨h3.1,h3.2,fun c=>?_⟩;rw [c] at h2;simpa using h2
theorem NT {o:Obs}(h:dR o=0):ptV (ptO o)=.agg ⟨[af o.x,af o.y]⟩/\QP 23 (ptO o)/\PtR (ptO o):=by
 obtain ⟨h1,h2,_⟩:=rn h;obtain ⟨a,c⟩:=dt h1;obtain ⟨b,d⟩:=dt h2;refine ⟨?_,⟨c,d⟩, ?_, ?_⟩
 ·unfold ptV fZ ptO;rw [<- a,<- b]
 ·unfold ptO;rw [<- a];exact h1
 unfold ptO;rw [<- b];exact h2
theorem dN {k:Int}(h:(k == z)=true):k=z:=by simpa using h
theorem HY (C:Mem)(s:Str)(h:aW s=true)(a:s.length<=999998):Gives cx.P 94 [af s] C (.int .i64 (eK (da s).num)):=by
 have e:=(dt h).1;have h2:=fR C (da s) (by have:=a;exact Py (bx (dt h).2 dc_) dc_)
 rwa [<- e] at h2
theorem LP (C:Mem)(u:Tabs C)(v w:Value)(d:List Pt)(f:List Tri)(b:List Lay)(o:Obs)(x:MeshIn C v d f)(A:Good d f)(y:Sl C 3 w (b.map uV))(z:ObsR o) :
  Gives cx.P 239 [v,w,.agg ⟨qS o⟩] C (.int .i64 (gQ d f b o)):=by
 have B:=x;obtain ⟨L,M,rfl,h1,h2⟩:=id x.ex;refine S4 func239 79 U3 fun w0=>SX fun R a=>Tf U6 fun N=>Tf U6 fun O=>C6 1 [1,3,5] a Z<|G.freeze 1 Z fun _ _ D=>G.freeze 0 Z fun E _ c=>SX fun R a=>SU (bkT c 10) U8<|S8 (H4 _ u.m_ o z) U7<|C6 1 [1,3,5,7] a Z<|SR 2 [1,3,5,7,15] Z<|G.cd (fun m=>?_) fun m=>?_
 ·have hs:dR o≠0:=by
   intro e;rw [e] at m;exact absurd m dc_
  exact SR 2 [6] Z<|S3 U2<|⟨by unfold gQ;rw [aL hs],Z⟩
 have hs:dR o=0:=by simpa using m
 have i:¬ dR o≠0:=fun h=>h hs;obtain ⟨F,H,I⟩:=NT hs;have J:=(rn hs).2.2;refine SX fun R a=>SU (PtrTo.block (Mem.get D mup) _) U8<|SV U6<|SU (bkT c 2) U8<|Tb (by have h:=qg E u.m_ _ d f (ptO o) B.m_ A H I;rw [F] at h;exact h) U7 fl_<|C6 5 [1,5,8,9] a Z<|SS 5 Z fun R a=>Tt U8<|SY [1,5,29] a Z<|G.cd (fun p=>?_) fun p=>?_
 ·have g:Jz d f o=false:=by
   have h:(!Jz d f o)=true:=p;simpa using h
  exact SR 1 [6] Z<|S3 U2<|⟨by unfold gQ;rw [aF i,aL g],Z⟩
 have g:¬ Jz d f o=false:=by
  have h:(!Jz d f o)=false:=p;have h2:Jz d f o=true:=by simpa using h
  rw [h2];decide
 refine Tg [0,1,2,3,4,5,6,7,8,9] [(3,1),(7,1)] Z kr_ fun R Q a=>SZ 2 Z<|SU (bkT c 1) U8<|Tu (fun _=>(jO _ _ b o.upper y.m_)) U9<|SZ 2 Z<|SU (bkT c 1) U8<|Tu (fun _=>(jO _ _ b o.lower y.m_)) U9<|C6 2 [5,10,11] a Z<|SS 4 Z fun R a=>Tn U6 (fun _=>PtrTo.blockT (Mem.get c mup) _ 1) U3<|SZ 4 Z<|Tl U8<|Tt U8<|C6 1 [5,10,11,38] a Z<|G.cd (fun q=>?_) fun q=>?_
 ·have j:J3 b o=true:=q;exact SR 1 [6] Z<|S3 U2<|⟨by unfold gQ;rw [aF i,aF g,aL j],Z⟩
 have j:¬ J3 b o=true:=by rw [show J3 b o=false from q];decide
 refine SS 1 Z fun R a=>SU (bkT c 1) U8<|SZ 5 Z<|Tl U8<|C6 1 [5,50] a Z<|G.cd (fun r=>?_) fun r=>?_
 ·have k:ordB b o=true:=r;exact SR 1 [6] Z<|S3 U2<|⟨by unfold gQ;rw [aF i,aF g,aF j,aL k],Z⟩
 have k:¬ ordB b o=true:=by rw [show ordB b o=false from r];decide
 refine SS 1 Z fun R a=>SU (bkT c 1) U8<|SZ 3 Z<|Tn U6 (fun _=>PtrTo.blockT (Mem.get c mup) _ 1) U3<|Tj (fun K=>(HY _ o.depth (J (by exact dN K.1)) z.depth)) U9<|SV U6<|Tl U8<|C6 1 [5,59] a Z<|G.cd (fun l=>?_) fun l=>?_
 ·have n:depB o=true:=by
   rw [tM] at l;exact l
  exact SR 1 [6] Z<|S3 U2<|⟨by unfold gQ;rw [aF i,aF g,aF j,aF k,aL n],Z⟩
 have n:¬ depB o=true:=by
  rw [tM] at l;rw [show depB o=false from l];decide
 refine SS 1 Z fun R a=>SU (bkT c 1) U8<|SZ 4 Z<|Tn U6 (fun _=>PtrTo.blockT (Mem.get c mup) _ 1) U3<|SV U6<|Tl U8<|C6 1 [69] a Z<|G.cd (fun s=>?_) fun s=>?_
 ·have t:Hz o=true:=by
   unfold Hz;rw [<- HP];exact s
  exact SR 1 [6] Z<|S3 U2<|⟨by unfold gQ;rw [aF i,aF g,aF j,aF k,aF n,aL t],Z⟩
 have t:¬ Hz o=true:=by
  unfold Hz;rw [<- HP];intro h;rw [show ((o.kind == 3) && ((⟨o.nz.toArray⟩:ByteArray).data.toList == (⟨([48]:Str).toArray⟩:ByteArray).data.toList))=false from s] at h;cases h
 exact SR 1 [6] Z<|S3 U2<|⟨by unfold gQ;rw [aF i,aF g,aF j,aF k,aF n,aF t],Z⟩
structure Bk where
 pts:List Pt
 tris:List Tri
 terr:List Str
 col:List Lay
 obs:List Obs
structure BookIn (C:Mem)(bv:Value)(B:Bk):Prop where
 ex:∃ v1 v2 tv cv ov,bv=.agg ⟨[v1,v2,tv,cv,ov]⟩/\Sl C 2 v1 (B.pts.map fZ)/\Sl C 3 v2 (B.tris.map ic)/\Sl C 1 tv (B.terr.map jV)/\Sl C 3 cv (B.col.map uV)/\Sl C 10 ov (B.obs.map qS)
theorem BookIn.mono {C D:Mem}{b:Value}{B:Bk}(h:BookIn C b B)(a:C.le D):BookIn D b B:=by
 obtain ⟨c,d,e,f,g,h1,h2,h3,h4,h5,i⟩:=h.ex;exact ⟨c,d,e,f,g,h1,h2.mono a,h3.mono a,h4.mono a,h5.mono a,i.mono a⟩
theorem BookIn.m_ {D:Mem}{B:Bk}(h:BookIn C bv B)(a:C.le D:=by exact mup):BookIn D bv B:=BookIn.mono h a
structure BookR (B:Bk):Prop where
 terr:∀ s∈B.terr,s.length<=999998
 col:∀ x∈B.col,M7 x
 lcol:B.col.length<=1000000
 obs:∀ o∈B.obs,ObsR o
noncomputable def obZ (B:Bk)(pre:List Obs)(o:Obs):Int:=if gQ B.pts B.tris B.col o≠0 then gQ B.pts B.tris B.col o else if o.name∈pre.map Obs.name then 9 else 0
def IL:Obs:=⟨0,[],[],[],[],[],[],[],[],[]⟩
noncomputable def uU (B:Bk):Nat->Int
 | 0=>0
 | n+1=>if uU B n≠0 then uU B n else obZ B (B.obs.take n) (B.obs.getD n IL)
noncomputable def ip (B:Bk):Int:=if yD B.pts.length B.terr≠0 then yD B.pts.length B.terr else if qX B.col≠0 then qX B.col else if 100<B.obs.length then 4 else uU B B.obs.length
theorem wk {B:Bk}{n:Nat}(h:uU B n≠0):∀ m,n<=m->uU B m=uU B n
 | 0,hm=>by rw [show n=0 by omega]
 | m+1,hm=>by
  rcases PQ m n with h1 | h1
  ·rw [show n=m+1 by omega]
  have a:=wk h m h1;simp only [uU,a];rw [aL h]
theorem Ko {l:List Obs}{x:Obs}(h:l[i]?=some x):l.getD i IL=x:=by rw [ax,h,Qx]
theorem tI {B:Bk}{x:Obs}(a:uU B i=0)(b:B.obs[i]?=some x):uU B (i+1)=obZ B (B.obs.take i) x:=by
 simp only [uU,a];rw [aF dc_,Ko b]
theorem Fi {B:Bk}{x:Obs}(c:uU B i=0)(a:B.obs[i]?=some x)(b:obZ B (B.obs.take i) x=z)(d:z≠0):uU B B.obs.length=z:=by
 have e:=(aJ.1 a).1;have h1:=tI c a;rw [wk (n:=i+1) (by rw [h1,b];exact d) B.obs.length om_,h1,b]
def Fv (l:List Obs):List (Str × Value):=l.map fun o=>(o.name,.bool true)
theorem Fu (l:List Obs)(s:Str):lE (.bool false) false (dQ (Fv l) s)=.bool (decide (s∈l.map Obs.name)):=by
 have a:(Fv l).map (·.1)=l.map Obs.name:=by unfold Fv;rw [Qe];rfl
 cases h:dQ (Fv l) s with
 | none =>
  have h1:=cA.1 h;rw [a] at h1;rw [PT h1];rfl
 | some v =>
  have h1:=fU h;have h2:=Rm (f:=(·.1)) h1;rw [a] at h2;obtain ⟨o,_,b⟩:=Pn.1 h1;cases b
  rw [PG h2];rfl
theorem IR {l:List Obs}{o:Obs}(h:o.name ∉ l.map Obs.name):iv (Fv l) o.name (.bool true)=Fv (l++[o]):=by
 have a:(Fv l).map (·.1)=l.map Obs.name:=by unfold Fv;rw [Qe];rfl
 rw [jD (by rw [cA,a];exact h)];simp [Fv]
theorem qm (C:Mem)(n:Tabs C)(F:Value)(B:Bk)(L:BookIn C F B)(t:Good B.pts B.tris)(o:BookR B) :
  Gives cx.P 181 [F] C (.int .i64 (ip B)):=by
 obtain ⟨H,I,Y,cv,ov,rfl,h1,h2,h3,h4,h5⟩:=id L.ex;obtain ⟨M,N,rfl,O,aa,_⟩:=id h5;have ab:maxLen<=9223372036854775807:=by simp [maxLen]
 simp only [al] at h5 O ⊢;have hm:MeshIn C (.agg ⟨[H,I]⟩) B.pts B.tris:=⟨H,I,rfl,h1,h2⟩;refine S4 func181 59 U3 fun w0=>SX fun R a=>Tf U6 fun Q=>C6 1 [1] a Z<|G.freeze 0 Z fun _ _ b=>SS 1 Z fun R a=>SU (bkT b 2) U8<|S8 (gp _ n.m_ _ B.pts B.tris hm.m_ t) U7<|C6 1 [1,3] a Z<|SR 2 [1,3,14] Z<|G.cd (fun J=>?_) fun J=>?_
 ·exact absurd J dc_
 refine SS 1 Z fun R a=>SU (bkT b 2) U8<|SV U6<|SU (bkT b 1) U8<|S8 (ue _ n.m_ _ _ B.pts B.tris B.terr hm.m_ t h3.m_ o.terr) U7<|C6 1 [1,4] a Z<|SR 2 [1,4,22] Z<|G.cd (fun p=>?_) fun p=>?_
 ·have c:yD B.pts.length B.terr≠0:=by
   intro e;rw [e] at p;exact absurd p dc_
  exact SR 2 [2] Z<|S3 U2<|⟨by unfold ip;rw [aL c],Z⟩
 have c:¬ yD B.pts.length B.terr≠0:=by
  have h:yD B.pts.length B.terr=0:=by simpa using p
  exact fun h2=>h2 h
 refine SS 1 Z fun R a=>SU (bkT b 1) U8<|S8 (qi _ n.m_ _ B.col h4.m_ o.col o.lcol) U7<|C6 1 [1,5] a Z<|SR 2 [1,5,28] Z<|G.cd (fun q=>?_) fun q=>?_
 ·have d:qX B.col≠0:=by
   intro e;rw [e] at q;exact absurd q dc_
  exact SR 2 [2] Z<|S3 U2<|⟨by unfold ip;rw [aF c,aL d],Z⟩
 have d:¬ qX B.col≠0:=by
  have h:qX B.col=0:=by simpa using q
  exact fun h2=>h2 h
 refine SS 1 Z fun R a=>SU (bkT b 1) U8<|C6 2 [1,33] a Z<|G.cd (fun u=>?_) fun u=>?_
 ·have g:100<B.obs.length:=by
   simp only [Pp] at u;omega
  exact SR 1 [2] Z<|S3 U2<|⟨by unfold ip;rw [aF c,aF d,aL g],Z⟩
 have g:¬ 100<B.obs.length:=by
  simp only [PP] at u;omega
 refine SX fun R a=>D.makeMap keyS Z Z Z Z fl_ fun v=>C6 1 [1,6] a Z<|SS 1 Z fun R a=>SU (bkT b 1) U8<|C6 2 [1,6,36,37,38] a Z<|G.loop (fun fr C' K S=>∃ (i:Nat),(i<=B.obs.length/\uU B i=0)/\fr=[(1,[],.pointer (some ⟨Q,0,none⟩)),(6,[],.map (some v)),(36,[],.slice M B.obs.length N),(37,[],.int .i64 B.obs.length),(38,[],.int .i64 i)]/\K=[.obj v (aU keyS.enc (Fv (B.obs.take i)))]/\S=B.obs.length-i) (hn_ [1,6,36,37,38] Z) ⟨0,⟨Pm _,Z⟩,Z,Z,Z⟩ (fun fr ac ad m _ T=>?_);obtain ⟨i,⟨hi,k⟩,rfl,rfl,rfl⟩:=T;refine SR 1 [1,6,36,37,38,39] Z<|G.cd (fun w=>?_) fun w=>?_
 ·have y:i<B.obs.length:=by simpa using w
  obtain ⟨x,f⟩:∃ x,B.obs[i]?=some x:=⟨B.obs[i],ak y⟩;have U:=o.obs x (Pe f);have V:B.obs.take (i+1)=B.obs.take i++[x]:=by rw [PN,f];rfl
  refine SX fun R a=>Ta h5.m_ U10 om_ (cq f) fl_ fun af W=>SU W U8<|Te U5 fun b8=>S5 (j:=0) U12<|SY [1,6,8,36,37,38] a Z<|SS 1 Z fun R a=>SU (bkT b 2) U8<|SV U6<|SU (bkT b 1) U8<|S1 ag U9<|S8 (LP _ n.m_ _ _ B.pts B.tris B.col x hm.m_ t h4.m_ U) U7<|C6 1 [1,6,8,9,36,37,38] a Z<|SR 2 [1,6,8,9,36,37,38,49] Z<|G.cd (fun r=>?_) fun r=>?_
  ·have l:gQ B.pts B.tris B.col x≠0:=by
    intro e;rw [e] at r;exact absurd r dc_
   have A:=Fi k f (z:=gQ B.pts B.tris B.col x) (by unfold obZ;rw [aL l]) l;exact SR 2 [2] Z<|S3 U2<|⟨by unfold ip;rw [aF c,aF d,aF g,A],Z⟩
  have l:¬ gQ B.pts B.tris B.col x≠0:=by
   have h:gQ B.pts B.tris B.col x=0:=by simpa using r
   exact fun h2=>h2 h
  refine SS 2 Z fun R a=>S1 ag U9<|Uk keyS ae Z Z Z Z Z Z Z Z kr_ Z (Fu (B.obs.take i) x.name) Z Z<|SY [1,6,8,36,37,38,54] a Z<|G.cd (fun E=>?_) fun E=>?_
  ·have s:x.name∈(B.obs.take i).map Obs.name:=OD E;have A:=Fi k f (z:=9) (by unfold obZ;rw [aF l,aL s]) dc_;exact SR 1 [2] Z<|S3 U2<|⟨by unfold ip;rw [aF c,aF d,aF g,A],Z⟩
  have s:x.name ∉ (B.obs.take i).map Obs.name:=Pj E;have X:uU B (i+1)=0:=by rw [tI k f];unfold obZ;rw [aF l,aF s]
  refine SS 2 Z fun R a=>S1 ag U9<|D.mapUpdate keyS (j:=1) Z Z Z Z Z Z Z Z Z Z kr_<|SY [1,6,36,37,38] a Z<|SX fun R a=>S2 _ Z U6<|C6 1 [1,6,36,37,38] a Z<|TC 1 Z<|Tc (L':=[.obj v (aU keyS.enc (Fv (B.obs.take (i+1))))]) (by rw [V,<- IR s];rfl)<|S6 (m':=B.obs.length-(i+1)) om_ mup (hn_ [1,6,36,37,38] Z) ⟨i+1,⟨by omega,X⟩,Z,Z,Z⟩
 have y:i=B.obs.length:=by
  have:¬ i<B.obs.length:=by simpa using w
  omega
 refine SR 1 [2] Z<|S3 U2<|⟨?_,Z⟩;rw [y] at k;unfold ip;rw [aF c,aF d,aF g,k]
theorem lU (C:Mem)(g:Tabs C)(b:Value)(B:Bk)(c:BookIn C b B)(j:Good B.pts B.tris)(k:BookR B)(l:ip B=0)(i:Nat)(n:i<B.obs.length) :
  Gives cx.P 289 [b,.int .i64 i] C (.int .i64 0):=by
 have d:=c;obtain ⟨o,p,q,r,s,rfl,h1,h2,h3,h4,h5⟩:=id c.ex;obtain ⟨t,u,rfl,m,v,_⟩:=id h5;have w:maxLen<=9223372036854775807:=by simp [maxLen]
 simp only [al] at h5 m d ⊢;refine S4 func289 20 U3 fun w0=>SX fun R a=>Tf U6 fun x=>C6 1 [1,2] a Z<|SX fun R a=>S1 ag U9<|Tb (by have h:=qm _ g.m_ _ B d.m_ j k;rw [l] at h;exact h) U7 fl_<|C6 1 [1,2,5] a Z<|SR 2 [1,2,5,9] Z<|G.cd (fun e=>?_) fun e=>?_
 ·exact absurd e dc_
 refine SS 5 Z fun R a=>S1 ag U9<|SZ 2 Z<|Tt U8<|SY [19] a Z<|G.cd (fun f=>?_) fun f=>?_
 ·exfalso;simp only [Q4,Pp] at f;omega
 exact SR 1 [4] Z<|S3 U2<|⟨Z,Z⟩
noncomputable def kQ (o:Obs)(z:Rat):Rat:=if o.kind=2 then z-da o.depth else z
structure ObsAt (o:Obs)(p:Pt):Prop where
 x:o.x=qtx p.1
 y:o.y=qtx p.2
 q:QP 23 p
 r:PtR p
 d:o.kind=2->aW o.depth=true
theorem wm {o:Obs}(h:ObsAt o p):(.agg ⟨[af o.x,af o.y]⟩:Value)=ptV p:=by unfold ptV fZ;rw [h.x,h.y]
structure Terr (B:Bk)(fs:List Rat):Prop where
 e:B.terr=fs.map qtx
 l:fs.length=B.pts.length
 q:∀ q∈fs,QB 22 q
theorem J4 {B:Bk}(h:Terr B fs):∀ q∈fs,aW (qtx q)=true:=fun q a=>bC (h.q q a)
theorem F9 (C:Mem)(k:Tabs C)(m:Value)(B:Bk)(i:List Rat)(o:Obs)(p:Pt)(z:Rat)(v:BookIn C m B)(w:Good B.pts B.tris)(b:Terr B i)(c:ObsAt o p)(x:DI B.pts B.tris i p=.tuple #[af (qtx z),.int .i64 0])(y:QB 22 z) :
  Gives cx.P 290 [m,.agg ⟨qS o⟩] C (.tuple #[af (qtx (kQ o z)),.int .i64 0]):=by
 obtain ⟨n,s,E,F,H,rfl,h1,h2,h3,h4,h5⟩:=id v.ex;have hm:MeshIn C (.agg ⟨[n,s]⟩) B.pts B.tris:=⟨n,s,rfl,h1,h2⟩;rw [b.e,<- mM] at h3;refine S4 func290 31 U3 fun w0=>SX fun R a=>Tf U6 fun I=>Tf U6 fun J=>C6 2 [2,3] a Z<|G.freeze 1 Z fun _ _ t=>G.freeze 0 Z fun u _ j=>SS 1 Z fun R a=>SU (bkT t 2) U8<|SV U6<|SU (bkT t 1) U8<|SV U6<|SU (bkT j 2) U8<|Tb (by have h:=zC u k.m_ _ _ B.pts B.tris i 22 dc_ dc_ hm.m_ w h3.m_ b.l b.q (J4 b) p c.q c.r;rw [x,<- wm c] at h;exact h) U7 fl_<|C6 5 [3,6,7] a Z<|SS 4 Z fun R a=>Tn U6 (fun _=>PtrTo.blockT (Mem.get j mup) _ 1) U3<|SV U6<|Tl U8<|SY [3,6,7,24] a Z<|G.cd (fun f=>?_) fun f=>?_
 ·have g:o.kind=2:=dN (SE.1 f).2;obtain ⟨A,D⟩:=dt (c.d g);refine SS 2 Z fun R a=>SU (bkT j 1) U8<|Tb (by have h:=ec u k.m_ z (da o.depth) 23 dc_ dc_ (y.le dc_) D;rw [<- A] at h;exact h) U7 fl_<|C6 1 [6,7] a Z<|SR 4 [4,5] Z<|S7 (G.dropAll (Tp U3 ?_));exact ⟨by unfold kQ;rw [aL g],Z⟩
 have g:¬ o.kind=2:=by
  intro e;rw [show ((((0:Int) == 0) && (o.kind == 2))=true) by rw [e];rfl] at f;cases f
 refine SR 4 [4,5] Z<|S7 (G.dropAll (Tp U3 ?_));exact ⟨by unfold kQ;rw [aF g],Z⟩
theorem CW (C:Mem)(c:Tabs C)(h:Value)(B:Bk)(d:List Rat)(i:Nat)(o:Obs)(p:Pt)(z:Rat)(b:BookIn C h B)(j:Good B.pts B.tris)(q:BookR B)(r:ip B=0)(s:Terr B d)(k:B.obs[i]?=some o)(t:ObsAt o p)(u:DI B.pts B.tris d p=.tuple #[af (qtx z),.int .i64 0])(v:QB 22 z)(l:QB 22 (kQ o z)) :
  Gives cx.P 243 [h,.int .i64 i] C (.tuple #[af (qtx (kQ o z)),.int .i64 0]):=by
 have e:=b;have w:=(aJ.1 k).1;obtain ⟨A,D,E,F,H,rfl,h1,h2,h3,h4,h5⟩:=id b.ex;obtain ⟨I,J,rfl,x,K,_⟩:=id h5;have L:maxLen<=9223372036854775807:=by simp [maxLen]
 simp only [al] at h5 x e ⊢;refine S4 func243 36 U3 fun w0=>?_;refine SX fun R a=>?_;refine Tf U6 (fun M=>?_);refine C6 2 [1,2] a Z ?_;clear a R;refine G.freeze 0 Z (fun _ _ f=>?_);refine SX fun R a=>?_;refine SU (bkT f 5) U8 ?_;refine SV U6 ?_;refine S8 (lU _ c.m_ _ B e.m_ j q r i w) U7 ?_;refine C6 1 [1,2,6] a Z ?_;clear a R;refine SR 2 [1,2,6,13] Z ?_;refine G.cd (fun m=>?_) fun m=>?_
 ·exact absurd m dc_
 refine Tg [0,1,2,3,4,5,6,7,8,9,10,11] [(6,1)] Z kr_ (fun R b a=>?_);refine SU (bkT f 5) U8 ?_;refine SV U6 ?_;refine SU (bkT f 1) U8 ?_;refine SV U6 ?_;refine Ta h5.m_ U10 om_ (cq k) fl_ (fun N y=>?_);refine SU y U8 ?_;refine Tu (fun _=>(F9 _ c.m_ _ B d o p z e.m_ j s t u v)) U9 ?_;refine SZ 5 Z ?_;refine SY [7,8] a Z ?_;clear a b R;refine SS 4 Z fun R a=>?_;refine Tu (fun _=>(dA _ c.m_ _ (tx l))) U9 ?_;refine SV U6 ?_;refine Tl U8 ?_;refine SY [7,8,31] a Z ?_;clear a R;refine G.cd (fun g=>?_) fun g=>?_
 ·exfalso;rw [xg l] at g;exact absurd g dc_
 refine SR 2 [7,8,33] Z ?_;refine G.cd (fun n=>?_) fun n=>?_
 ·exact absurd n dc_
 refine SR 3 [4,5] Z ?_;refine S7 (G.dropAll (Tp U3 ?_));exact ⟨Z,Z⟩
def vx (lo hi:Int)(n:Nat):List Nat:=(List.range n).filter fun k:Nat=>decide (lo<=(k:Int)/\(k:Int)<hi)
def Eb (col:List Lay)(o:Obs):Int:=if o.kind=1 then jT (isU o.upper) col 0-1 else jT (isU o.lower) col 0
def Ec (col:List Lay)(o:Obs):Int:=if o.kind=1 then jT (isU o.upper) col 0+1 else jT (isU o.upper) col 0
def cD (col:List Lay)(o:Obs):List Nat:=vx (Eb col o) (Ec col o) (col.length-1)
theorem HM {a b:Int}(j:max a 0<=(i:Int))(l:(i:Int)<=max (max a 0) (min b n))(o:min b (n:Int)<=(i:Int)):(List.range i).filter (fun k:Nat=>decide (a<=(k:Int)))=vx a b n:=by
 unfold vx;have hs:∀ m:Nat,(List.range (i+m)).filter (fun k:Nat=>decide (a<=(k:Int)/\(k:Int)<b/\k<n))=(List.range i).filter (fun k:Nat=>decide (a<=(k:Int)/\(k:Int)<b/\k<n)):=by
  intro m;induction m with
  | zero=>rfl
  | succ m c =>
   rw [show i+(m+1)=i+m+1 by omega,Qp,QK,c,List.filter_cons];rw [aF (by simp only [Pp];omega)];simp
 have f:(List.range i).filter (fun k:Nat=>decide (a<=(k:Int)))=(List.range i).filter (fun k:Nat=>decide (a<=(k:Int)/\(k:Int)<b/\k<n)):=by
  refine List.filter_congr (fun k d=>?_);rw [PC] at d;rw [Qb];omega
 have g:(List.range n).filter (fun k:Nat=>decide (a<=(k:Int)/\(k:Int)<b))=(List.range n).filter (fun k:Nat=>decide (a<=(k:Int)/\(k:Int)<b/\k<n)):=by
  refine List.filter_congr (fun k d=>?_);rw [PC] at d;rw [Qb];omega
 rw [f,g];rcases Nat.le_total i n with e | e
 ·obtain ⟨m,rfl⟩:=Nat.exists_eq_add_of_le e;exact (hs m).symm
 have h:∀ m:Nat,(List.range (n+m)).filter (fun k:Nat=>decide (a<=(k:Int)/\(k:Int)<b/\k<n))=(List.range n).filter (fun k:Nat=>decide (a<=(k:Int)/\(k:Int)<b/\k<n)):=by
  intro m;induction m with
  | zero=>rfl
  | succ m c =>
   rw [show n+(m+1)=n+m+1 by omega,Qp,QK,c,List.filter_cons];rw [aF (by simp only [Pp];omega)];simp
 obtain ⟨m,rfl⟩:=Nat.exists_eq_add_of_le e;exact h m
theorem rO (p:α->Bool)(l:List α):-1<=jT p l 0/\jT p l 0<=(l.length:Int):=by
 rcases rP p l with ⟨h,_⟩ | ⟨i,x,h,h2,_⟩
 ·omega
 have:=(aJ.1 h2).1;omega
theorem xK (C:Mem)(_ac:Tabs C)(F:Value)(B:Bk)(o:Obs)(q:BookIn C F B)(ad:B.col.length<=1000)(M:B.col≠[]) :
  Pur cx.P 291 [F,.agg ⟨qS o⟩] C fun u D=>Sl D 1 u ((cD B.col o).map aT):=by
 obtain ⟨v1,v2,tv,cv,ov,rfl,h1,h2,h3,h4,h5⟩:=id q.ex;obtain ⟨A4,c4,rfl,N,ae,_⟩:=id h4;have af:maxLen<=9223372036854775807:=by simp [maxLen]
 have ag:=P4.2 M;have O:=rO (isU o.lower) B.col;have Q:=rO (isU o.upper) B.col;obtain ⟨lw,H⟩:∃ z,jT (isU o.lower) B.col 0=z:=⟨_,rfl⟩;obtain ⟨up,I⟩:∃ z,jT (isU o.upper) B.col 0=z:=⟨_,rfl⟩;obtain ⟨lo,b⟩:∃ z,Eb B.col o=z:=⟨_,rfl⟩;obtain ⟨c,d⟩:∃ z,Ec B.col o=z:=⟨_,rfl⟩;obtain ⟨n,S⟩:∃ n,B.col.length-1=n:=⟨_,rfl⟩;unfold cD;rw [b,d,S];unfold Eb at b;unfold Ec at d;rw [H] at O b;rw [I] at Q b d;simp only [al] at h4 N ⊢;have ah:-2<=lo/\lo<=1000:=by rw [<- b];split <;> omega
 have ai:-2<=c/\c<=1001:=by rw [<- d];split <;> omega
 refine S4 func291 43 U3 fun w0=>?_;refine SX fun R a=>?_;refine Tf U6 (fun J=>?_);refine Tf U6 (fun b3=>?_);refine C6 1 [2,3] a Z ?_;clear a R;refine G.freeze 1 Z (fun _ _ s=>?_);refine G.freeze 0 Z (fun K _ t=>?_);refine Tg [0,1,2,3,4,5,6,7,8,9,10,11] [(4,1),(9,1)] Z kr_ (fun R q a=>?_);refine SV U6 ?_;refine SU (bkT s 1) U8 ?_;refine SV U6 ?_;refine SU (bkT t 1) U8 ?_;refine Tj (fun _=>(by have h:=jO K _ B.col o.lower h4.m_;rw [H] at h;exact h)) U9 ?_;refine SV U6 ?_;refine SU (bkT s 1) U8 ?_;refine SV U6 ?_;refine SU (bkT t 1) U8 ?_;refine Tj (fun _=>(by have h:=jO K _ B.col o.upper h4.m_;rw [I] at h;exact h)) U9 ?_;refine SZ 2 Z ?_;refine SY [2,3,5,6] a Z ?_;clear a q R;refine SS 1 Z fun R a=>?_;refine SU (bkT t 1) U8 ?_;refine C6 1 [2,5,6,21] a Z ?_;clear a R;refine G.cut (fun fr T g v=>(True)/\fr=[(2,[],.pointer (some ⟨J,0,none⟩)),(5,[],.int .i64 lo),(6,[],.int .i64 c)]/\g=[]) ?_ (fun fr _ aj v _ x=>?_)
 ·refine G.cd (fun l=>?_) fun l=>?_
  ·have f:o.kind=1:=dN l;rw [aL f] at b d;subst b d;refine SS 1 Z fun R a=>?_;refine S2 _ Z U6 ?_;refine SV U6 ?_;refine S2 _ Z U6 ?_;refine C6 2 [2,5,6] a Z ?_;clear a R;refine S9 0 (Mem.le.refl _) (hn_ [2,5,6] Z) ⟨trivial,Z,Z⟩
  have f:¬ o.kind=1:=by
   intro e;rw [show ((o.kind == 1)=true) by rw [e];rfl] at l;cases l
  rw [aF f] at b d;subst b d;refine S9 0 (Mem.le.refl _) (hn_ [2,5,6] Z) ⟨trivial,Z,Z⟩
 obtain ⟨_,rfl,rfl⟩:=x;refine SR 1 [2,5,6,7] Z ?_;obtain ⟨p,U⟩:∃ p:Nat,max lo 0=(p:Int):=⟨(max lo 0).toNat,by omega⟩;refine SS 1 Z fun R a=>?_;refine D.max (((p:Nat):Int)) U6 U U2 ?_;refine C6 1 [2,6,7,8] a Z ?_;clear a R;refine G.nilArr 3 1 ?_;refine G.loop (fun fr T g v=>∃ (i:Nat)(out:List Nat)(w:Value),(max lo 0<=(i:Int)/\(i:Int)<=max (max lo 0) (min c n)/\out=(List.range i).filter (fun k:Nat=>decide (lo<=(k:Int))))/\fr=[(2,[],.pointer (some ⟨J,0,none⟩)),(6,[],.int .i64 c),(7,[],w),(8,[],.int .i64 i)]/\g=[.arr w 3 1 out.length (out.map aT).flatten]/\v=2000-i) (hn_ [2,6,7,8] Z) ⟨p,[],_,⟨by omega,by omega,by
  symm;rw [List.filter_eq_nil_iff];intro k f;rw [PC] at f;simp only [Pp];omega⟩,rfl,rfl,rfl⟩ (fun fr ak an m _ x=>?_)
 obtain ⟨i,out,w,⟨V,W,A⟩,rfl,rfl,rfl⟩:=x;refine SS 3 Z fun R a=>?_;refine SU (bkT s 1) U8 ?_;refine SV U6 ?_;refine S2 _ Z U6 ?_;refine D.min ((min c (n:Int))) U6 om_ U2 ?_;refine C6 1 [2,6,7,8,35] a Z ?_;clear a R;refine G.cd (fun E=>?_) fun E=>?_
 ·have ao:(i:Int)<min c (n:Int):=OD E;have ap:out.length<=i:=by
   rw [A];exact Py (QQ _ _) am
  have X:(List.range (i+1)).filter (fun k:Nat=>decide (lo<=(k:Int)))=out++[i]:=by
   rw [Qp,QK,<- A,List.filter_cons,aL (by simp only [Pp];omega)];rfl
  refine SS 2 Z fun R a=>?_;refine Th [aT i] U12 (fun aq _ _ Y=>?_);refine D.append (j:=0) U11 Y Z aw (by simp only [aY];omega) fl_ (fun L=>?_);refine C6 1 [2,6,7,8] a Z ?_;clear a R;refine SS 1 Z fun R a=>?_;refine S2 _ Z U6 ?_;refine C6 1 [2,6,7,8] a Z ?_;clear a R;refine Tc (L':=[.arr L 3 1 (out++[i]).length ((out++[i]).map aT).flatten]) (by simp [aT]) ?_;refine S6 (m':=2000-(i+1)) om_ mup (hn_ [2,6,7,8] Z) ⟨i+1,out++[i],L,⟨by omega,by omega,X.symm⟩,Z,Z,Z⟩
 have aa:min c (n:Int)<=(i:Int):=by
  have:=Pj E;omega
 refine SR 2 [4] Z ?_;refine G.freezeArr 0 (out.map aT) U2 (by intro r hr;obtain ⟨y,_,rfl⟩:=Pn.1 hr;rfl) am (fun Cg hg ab=>?_);refine S3 U2 ?_;exact ⟨Z,by rw [<- HM V W aa,<- A];exact ab⟩
theorem vw (C:Mem)(j:Tabs C)(k:Value)(B:Bk)(i:Nat)(o:Obs)(d:BookIn C k B)(p:Good B.pts B.tris)(q:BookR B)(a:ip B=0)(l:B.obs[i]?=some o) :
  Pur cx.P 244 [k,.int .i64 i] C fun u D=>∃ v,u=.tuple #[v,.int .i64 0]/\Sl D 1 v ((cD B.col o).map aT):=by
 have f:=d;have r:=(aJ.1 l).1;have b:qX B.col=0:=by
  unfold ip at a;split at a
  ·rename_i h;exact absurd a h
  split at a
  ·rename_i h;exact absurd a h
  rename_i h;exact PO h
 have m:B.col≠[]:=by
  intro e;rw [e] at b;exact absurd b dc_
 have s:B.col.length<=1000:=by
  unfold qX at b;rw [aF m] at b;split at b
  ·exact absurd b dc_
  omega
 obtain ⟨y,z,A,E,F,rfl,h1,h2,h3,h4,h5⟩:=id d.ex;obtain ⟨H,I,rfl,t,J,_⟩:=id h5;have K:maxLen<=9223372036854775807:=by simp [maxLen]
 simp only [al] at h5 t f ⊢;refine S4 func244 20 U3 fun w0=>SX fun R c=>Tf U6 fun L=>C6 2 [1,2] c Z<|G.freeze 0 Z fun _ _ g=>SX fun R c=>SU (bkT g 5) U8<|SV U6<|S8 (lU _ j.m_ _ B f.m_ p q a i r) U7<|C6 1 [1,2,6] c Z<|SR 2 [1,2,6,11] Z<|G.cd (fun n=>?_) fun n=>?_
 ·exact absurd n dc_
 refine Tg [0,1,2,3,4,5,6,7,8] [] Z kr_ fun R d c=>SU (bkT g 5) U8<|SV U6<|SU (bkT g 1) U8<|SV U6<|Ta h5.m_ U10 om_ (cq l) fl_ fun M w=>SU w U8<|Tv (xK _ j.m_ _ B o f.m_ s m) U7 fun N _ _ x=>SZ 2 Z<|SY [4,5] c Z ?_;clear c d R;refine S7 (G.dropAll (Tp U3 ?_));exact ⟨Z,_,Z,x⟩
theorem Fo (x y:Nat)(a:x<18446744073709551616)(b:y<18446744073709551616)(C:Mem):Gives cx.P 128 [.int .u64 x,.int .u64 y] C (.tuple #[.int .u64 ((x*y / 18446744073709551616:Nat):Int),.int .u64 ((x*y % 18446744073709551616:Nat):Int)]) :=
 Gives.ofCalls kr_ (fun w=>Any.bits_Mul Tryz.mul x y a b w) C
theorem fD {a:Value}{b:List Value}(_d:k+m<=n)(c:m<=k)(_e:b.length=n-k) :
  aE (List.replicate k a++b) ((List.replicate k a++b).take m) k=List.replicate (k+m) a++b.drop m:=by
 have h1:(List.replicate k a++b).take m=List.replicate m a:=by
  rw [List.take_append_of_le_length (by simpa using c),List.take_replicate,Qn c]
 have h2:(List.replicate k a++b).take k=List.replicate k a:=by
  rw [List.take_append_of_le_length am,List.take_replicate,Nat.min_self]
 have h3:(List.replicate k a++b).drop (k+m)=b.drop m:=by
  rw [RN,PB,QY am,Re];congr 1;omega
 unfold aE;rw [h1,h2,PB,h3,List.replicate_append_replicate]
theorem zr (a:Value)(n:Nat):ko [a] n=List.replicate n a:=by
 rw [eS];induction n with
 | zero=>rfl
 | succ n b=>rw [Qm,Qq,b,Qm];rfl
theorem lA (n:Nat)(a:n<18446744073709551616)(C:Mem):Gives cx.P 128 [.int .u64 (1:Int),.int .u64 n] C (.tuple #[.int .u64 0,.int .u64 n]):=by
 have h:=Fo 1 n om_ a C;have b:1*n / 18446744073709551616=0:=by omega
 have c:1*n % 18446744073709551616=n:=by omega
 rw [b,c] at h;exact h
theorem jy (C:Mem)(v:Value)(n:Nat)(s:Str)(g:Sl C 1 v [[af s]])(y:n<=1000000):Jog.Fn cx.P 64 [v,.int .i64 n] C [] fun u _z e=>∃ b,u=.slice (some ⟨b,0,none⟩) n n/\e=[.arr u 32 1 n (List.replicate n (af s))]:=by
 have p:=g;obtain ⟨A,c,rfl,_⟩:=p;refine S4 func64 48 U3 fun w0=>SR 1 [0,1] Z<|SR 2 [0,1,10] Z<|G.cd (fun h=>?_) fun h=>?_
 ·simp at h;omega
 refine SS 2 Z fun R d=>Tz (c:=1) U8 Z fl_<|SV U6<|Tz (c:=(n:Int)) U8 (by rw [IntKind.wrap_u64];omega) fl_<|Tb (lA n om_ _) U7 fl_<|C6 5 [0,5,6] d Z<|SS 5 Z fun R d=>Tt U8<|SY [0,6,26] d Z<|G.cd (fun i=>?_) fun i=>?_
 ·simp at i;omega
 refine SS 1 Z fun R d=>Tz (c:=(n:Int)) U8 (by rw [IntKind.wrap_i64];omega) fl_<|TT U9 (Pf _) (by show 16*n<=281474976710656;omega) (by simp only [maxLen];omega) fl_ fun a=>C6 1 [0,7] d Z<|SS 2 Z fun R d=>UB (j:=0) (q:=min 1 n) U12 g U2 (by rw [cU];show 0+min 1 n*1<=n*1;omega) fl_<|C6 1 [7,8] d Z ?_;have r:aE (ko [af []] n) (([[af s]]:List (List Value)).take (min 1 n)).flatten 0=List.replicate (min 1 n) (af s)++List.replicate (n-min 1 n) (af []):=by
  rw [zr];cases n with
  | zero=>rfl
  | succ n=>rw [show min 1 (n+1)=1 by omega,Qm];rfl
 refine Tc (L':=[.arr (.slice (some ⟨a,0,none⟩) n n) 32 1 n (List.replicate (min 1 n) (af s)++List.replicate (n-min 1 n) (af []))]) (by rw [<- r];rfl)<|G.loop (fun fr B e t=>∃ (k:Nat),(k<=n/\min 1 n<=k)/\fr=[(7,[],.slice (some ⟨a,0,none⟩) n n),(8,[],.int .i64 k)]/\e=[.arr (.slice (some ⟨a,0,none⟩) n n) 32 1 n (List.replicate k (af s)++List.replicate (n-k) (af []))]/\t=n-k) (hn_ [7,8] Z) ⟨min 1 n,⟨Nat.min_le_right _ _,Pf _⟩,Z,Z,Z⟩ (fun fr D E m w x=>?_);obtain ⟨k,⟨l,F⟩,rfl,rfl,rfl⟩:=x;refine SR 4 [7,8,37] Z<|G.cd (fun f=>?_) fun f=>?_
 ·simp only [Pp] at f;have o:k<n:=by omega
  have H:1<=k:=by omega
  refine Tg [0,1,2,3,4,5,6,7,8,9] [] Z kr_ fun R I d=>SZ 3 Z<|TO k n n U12 (fun _=>⟨.inr ⟨_,Z⟩,.inl ⟨Z,Z⟩,.inl ⟨Z,Z⟩,l,Pf _,Pf _⟩) U2<|SZ 2 Z<|TO 0 k n U12 (fun _=>⟨.inl ⟨Z,Z⟩,.inr ⟨_,Z⟩,.inl ⟨Z,Z⟩,Pm _,l,Pf _⟩) U2 ?_;refine UA (j:=0) (off:=k) (g0:=a) (dl:=n-k) (dc:=n-k) (sl:=k-0) (sc:=n-0) (q:=min k (n-k)) U8 (by show some (Value.slice (if n=k then some (⟨a,0,none⟩:Addr) else (some (⟨a,0,none⟩:Addr)).map (·.add (k*1))) (n-k) (n-k))=_;rw [aF om_];simp [Addr.add_lit]) (by show some (Value.slice (if n=0 then some (⟨a,0,none⟩:Addr) else (some (⟨a,0,none⟩:Addr)).map (·.add (0*1))) (k-0) (n-0))=_;split <;> simp [Addr.add_lit]) U2 (by simp [na,af]) ap fl_ ?_;refine Ts (((k+min k (n-k):Nat):Int)) U4 om_ om_ om_ U2<|C6 1 [7,8] d Z<|Tc (L':=[.arr (.slice (some ⟨a,0,none⟩) n n) 32 1 n (List.replicate (k+min k (n-k)) (af s)++List.replicate (n-(k+min k (n-k))) (af []))]) (by rw [fD (n:=n) om_ (Nat.min_le_left _ _) am,List.drop_replicate,Nat.sub_sub];rfl)<|S6 (m':=n-(k+min k (n-k))) om_ w (hn_ [7,8] Z) ⟨k+min k (n-k),⟨by omega,by omega⟩,Z,Z,Z⟩
 simp only [PP] at f;have o:k=n:=by omega
 subst o;refine SR 2 [4] Z<|S7 (Tx Z Z ?_);exact ⟨a,Z,by simp⟩
theorem mA (C:Mem)(v:Value)(n:Nat)(s:Str)(g:Sl C 1 v [[af s]])(y:n<=1000000):Jog.Fn cx.P 292 [v,.int .i64 n] C [] fun u _z e=>∃ b,u=.slice (some ⟨b,0,none⟩) n n/\e=[.arr u 32 1 n (List.replicate n (af s))]:=by
 have p:=g;obtain ⟨A,c,rfl,_⟩:=p;refine S4 func292 48 U3 fun w0=>SR 1 [0,1] Z<|SR 2 [0,1,10] Z<|G.cd (fun h=>?_) fun h=>?_
 ·simp at h;omega
 refine SS 2 Z fun R d=>Tz (c:=1) U8 Z fl_<|SV U6<|Tz (c:=(n:Int)) U8 (by rw [IntKind.wrap_u64];omega) fl_<|Tb (lA n om_ _) U7 fl_<|C6 5 [0,5,6] d Z<|SS 5 Z fun R d=>Tt U8<|SY [0,6,26] d Z<|G.cd (fun i=>?_) fun i=>?_
 ·simp at i;omega
 refine SS 1 Z fun R d=>Tz (c:=(n:Int)) U8 (by rw [IntKind.wrap_i64];omega) fl_<|TT U9 (Pf _) (by show 16*n<=281474976710656;omega) (by simp only [maxLen];omega) fl_ fun a=>C6 1 [0,7] d Z<|SS 2 Z fun R d=>UB (j:=0) (q:=min 1 n) U12 g U2 (by rw [cU];show 0+min 1 n*1<=n*1;omega) fl_<|C6 1 [7,8] d Z ?_;have r:aE (ko [af []] n) (([[af s]]:List (List Value)).take (min 1 n)).flatten 0=List.replicate (min 1 n) (af s)++List.replicate (n-min 1 n) (af []):=by
  rw [zr];cases n with
  | zero=>rfl
  | succ n=>rw [show min 1 (n+1)=1 by omega,Qm];rfl
 refine Tc (L':=[.arr (.slice (some ⟨a,0,none⟩) n n) 32 1 n (List.replicate (min 1 n) (af s)++List.replicate (n-min 1 n) (af []))]) (by rw [<- r];rfl)<|G.loop (fun fr B e t=>∃ (k:Nat),(k<=n/\min 1 n<=k)/\fr=[(7,[],.slice (some ⟨a,0,none⟩) n n),(8,[],.int .i64 k)]/\e=[.arr (.slice (some ⟨a,0,none⟩) n n) 32 1 n (List.replicate k (af s)++List.replicate (n-k) (af []))]/\t=n-k) (hn_ [7,8] Z) ⟨min 1 n,⟨Nat.min_le_right _ _,Pf _⟩,Z,Z,Z⟩ (fun fr D E m w x=>?_);obtain ⟨k,⟨l,F⟩,rfl,rfl,rfl⟩:=x;refine SR 4 [7,8,37] Z<|G.cd (fun f=>?_) fun f=>?_
 ·simp only [Pp] at f;have o:k<n:=by omega
  have H:1<=k:=by omega
  refine Tg [0,1,2,3,4,5,6,7,8,9] [] Z kr_ fun R I d=>SZ 3 Z<|TO k n n U12 (fun _=>⟨.inr ⟨_,Z⟩,.inl ⟨Z,Z⟩,.inl ⟨Z,Z⟩,l,Pf _,Pf _⟩) U2<|SZ 2 Z<|TO 0 k n U12 (fun _=>⟨.inl ⟨Z,Z⟩,.inr ⟨_,Z⟩,.inl ⟨Z,Z⟩,Pm _,l,Pf _⟩) U2 ?_;refine UA (j:=0) (off:=k) (g0:=a) (dl:=n-k) (dc:=n-k) (sl:=k-0) (sc:=n-0) (q:=min k (n-k)) U8 (by show some (Value.slice (if n=k then some (⟨a,0,none⟩:Addr) else (some (⟨a,0,none⟩:Addr)).map (·.add (k*1))) (n-k) (n-k))=_;rw [aF om_];simp [Addr.add_lit]) (by show some (Value.slice (if n=0 then some (⟨a,0,none⟩:Addr) else (some (⟨a,0,none⟩:Addr)).map (·.add (0*1))) (k-0) (n-0))=_;split <;> simp [Addr.add_lit]) U2 (by simp [na,af]) ap fl_ ?_;refine Ts (((k+min k (n-k):Nat):Int)) U4 om_ om_ om_ U2<|C6 1 [7,8] d Z<|Tc (L':=[.arr (.slice (some ⟨a,0,none⟩) n n) 32 1 n (List.replicate (k+min k (n-k)) (af s)++List.replicate (n-(k+min k (n-k))) (af []))]) (by rw [fD (n:=n) om_ (Nat.min_le_left _ _) am,List.drop_replicate,Nat.sub_sub];rfl)<|S6 (m':=n-(k+min k (n-k))) om_ w (hn_ [7,8] Z) ⟨k+min k (n-k),⟨by omega,by omega⟩,Z,Z,Z⟩
 simp only [PP] at f;have o:k=n:=by omega
 subst o;refine SR 2 [4] Z<|S7 (Tx Z Z ?_);exact ⟨a,Z,by simp⟩
theorem fO (C:Mem)(s p:Nat)(h:s*p<=100000):Jog.Fn cx.P 241 [gk s p] C [] fun u _f c=>∃ b,u=.slice (some ⟨b,0,none⟩) (s*p:Nat) (s*p:Nat)/\c=[.arr u 32 1 (s*p) (List.replicate (s*p) (af [48]))]:=by
 refine S4 func241 7 U3 fun w0=>SX fun R a=>Tf U6 fun g=>C6 1 [1] a Z<|Tk [(3,3)] Z fun R a=>Th [[af [48]]] U12 fun i _ _ d=>S1 ag U9<|Tb (iI _ s p om_) U7 fl_<|D.call (jy _ _ (s*p) [48] d.m_ om_) Z (.inr dc_) U6 (Pk _) fl_ fun j _ k _ e=>C6 1 [2] a Z ?_;obtain ⟨b,rfl,rfl⟩:=e;refine TC 1 Z<|S7 (Tx Z Z ?_);exact ⟨b,Z,Z⟩
def ofE (z:Int)(s p:Nat):Int:=if z≠0 then z else if 60<s*p then 4 else 0
def ofS (e:Int)(s p:Nat):Value:=if e=0 then gk s p else gk 0 0
structure BookZ (C:Mem)(bv:Value)(B:Bk)(z:Int):Prop where
 i:BookIn C bv B
 ch:∀ D:Mem,C.le D->Gives cx.P 181 [bv] D (.int .i64 z)
 ne:z=0->B.col≠[]
 lc:B.col.length<=1000
 lp:B.pts.length<=400
theorem BookZ.mono {C D:Mem}{a:Value}{B:Bk}{z:Int}(h:BookZ C a B z)(c:C.le D):BookZ D a B z:=⟨h.i.mono c,fun E d=>h.ch E (fun b o e=>d b o (c b o e)),h.ne,h.lc,h.lp⟩
theorem BookZ.m_ {D:Mem}{B:Bk}(h:BookZ C bv B z)(a:C.le D:=by exact mup):BookZ D bv B z:=BookZ.mono h a
def bs (B:Bk):Nat:=B.col.length-1
def bp (B:Bk):Nat:=B.pts.length
theorem Nt {B:Bk}(h:BookZ C bv B z):bs B*bp B<=400000:=by
 have h1:=h.lc;have h2:=h.lp;have:bs B*bp B<=1000*400:=Qz (by unfold bs;omega) (by unfold bp;omega);omega
theorem NX (C:Mem)(l:Value)(B:Bk)(z:Int)(c:BookZ C l B z):Gives cx.P 113 [l] C (.tuple #[ofS (ofE z (bs B) (bp B)) (bs B) (bp B),.int .i64 (ofE z (bs B) (bp B))]):=by
 obtain ⟨n,o,p,q,r,rfl,h1,h2,h3,h4,h5⟩:=id c.i.ex;obtain ⟨s,t,rfl,u,v,_⟩:=id h1;obtain ⟨w,x,rfl,y,A,_⟩:=id h4;have D:=Nt c;have E:=c.lc;have m:=c.ch;have F:maxLen<=9223372036854775807:=by simp [maxLen]
 simp only [al] at m ⊢;refine S4 func113 26 U3 fun w0=>SX fun R a=>Tf U6 fun H=>Te U5 fun I=>C6 1 [1,2] a Z<|G.freeze 1 Z fun _ _ g=>SX fun R a=>SU (bkT g 5) U8<|S8 (m _ mup) U7<|C6 1 [1,2,4] a Z<|SR 2 [1,2,4,9] Z<|G.cd (fun f=>?_) fun f=>?_
 ·have b:z≠0:=by
   intro e;rw [e] at f;exact absurd f dc_
  have d:ofE z (bs B) (bp B)=z:=by unfold ofE;rw [aL b]
  refine SX fun R a=>Td [.int .i64 0,.int .i64 0] U8<|SV U6<|S5 (j:=0) U12<|C6 1 [2,3] a Z<|S7 (Uf ag U5 ?_);exact ⟨by rw [d];unfold ofS;rw [aF b];rfl,Z⟩
 have b:z=0:=by simpa using f
 have J:=P4.2 (c.ne b);have K:bs B+1=B.col.length:=by unfold bs;omega
 refine SS 1 Z fun R a=>SU (bkT g 1) U8<|SV U6<|Ts (((bs B:Nat):Int)) U4 om_ om_ om_ U2<|SZ 2 Z<|SU (bkT g 1) U8<|SV U6<|Td [.int .i64 (bs B:Nat),.int .i64 (bp B:Nat)] U8<|Te U5 fun L=>S5 (j:=0) U12<|SY [2,5] a Z<|SX fun R a=>S1 ag U9<|Tb (iI _ (bs B) (bp B) om_) U7 fl_<|C6 1 [2,5,23] a Z<|G.cd (fun h=>?_) fun h=>?_
 ·have k:60<bs B*bp B:=by
   have:=OD h;omega
  have d:ofE z (bs B) (bp B)=4:=by unfold ofE;rw [b,aF dc_,aL k]
  refine SX fun R a=>Td [.int .i64 0,.int .i64 0] U8<|S5 (j:=1) U12<|C6 1 [2,3] a Z<|S7 (Uf ag U5 ?_);exact ⟨by rw [d];rfl,Z⟩
 have k:¬ 60<bs B*bp B:=by
  have:=Pj h;omega
 have d:ofE z (bs B) (bp B)=0:=by unfold ofE;rw [b,aF dc_,aF k]
 refine SX fun R a=>S1 ag U9<|S5 (j:=1) U12<|C6 1 [2,3] a Z<|S7 (Uf ag U5 ?_);exact ⟨by rw [d];rfl,Z⟩
theorem Jx (C:Mem)(c:Value)(B:Bk)(z:Int)(b:BookZ C c B z):Gives cx.P 92 [c] C (.tuple #[.int .i64 (if ofE z (bs B) (bp B)=0 then ((bs B*bp B:Nat):Int) else 0),.int .i64 (ofE z (bs B) (bp B))]):=by
 have s:=Nt b;have g:=b;obtain ⟨k,l,m,n,o,rfl,h1,h2,h3,h4,h5⟩:=id b.i.ex;obtain ⟨e,d⟩:∃ e,ofE z (bs B) (bp B)=e:=⟨_,rfl⟩;have f:∀ D:Mem,C.le D->Gives cx.P 113 [.agg ⟨[k,l,m,n,o]⟩] D (.tuple #[ofS e (bs B) (bp B),.int .i64 e]):=fun D p=>by have h:=NX D _ B z (g.mono p);rwa [d] at h
 rw [d];have q:ofS e (bs B) (bp B)=.agg ⟨[.int .i64 (if e=0 then ((bs B:Nat):Int) else 0),.int .i64 (if e=0 then ((bp B:Nat):Int) else 0)]⟩:=by unfold ofS gk;split <;> rfl
 have r:∀ D:Mem,Gives cx.P 149 [.agg ⟨[.int .i64 (if e=0 then ((bs B:Nat):Int) else 0),.int .i64 (if e=0 then ((bp B:Nat):Int) else 0)]⟩] D (.int .i64 (if e=0 then ((bs B*bp B:Nat):Int) else 0)):=fun D=>by
  by_cases h:e=0
  ·rw [aL h,aL h,aL h];exact iI D (bs B) (bp B) om_
  rw [aF h,aF h,aF h];exact iI D 0 0 om_
 rw [q] at f;refine S4 func92 14 U3 fun w0=>SX fun R a=>Tf U6 fun t=>C6 2 [1] a Z<|SX fun R a=>S1 ag U9<|S8 (f _ mup) U7<|SZ 3 Z<|Te U5 fun u=>S5 (j:=0) U12<|C6 1 [4,5] a Z<|SX fun R a=>S1 ag U9<|S8 (r _) U7<|C6 3 [2,3] a Z<|S7 (G.dropAll (Tp U3 ?_));exact ⟨Z,Z⟩
theorem NW (C:Mem)(a:Value)(B:Bk)(b:BookZ C a B 0)(c:bs B*bp B<=60):Gives cx.P 113 [a] C (.tuple #[gk (bs B) (bp B),.int .i64 0]):=by
 have h:=NX C a B 0 b;have e:ofE 0 (bs B) (bp B)=0:=by unfold ofE;rw [aF dc_,aF om_]
 rw [e] at h;exact h
def ru (n:Nat)(done:List (Nat × Rat)):List Rat:=(List.range n).map fun j=>(dQ done j).getD 0
def kR (n:Nat)(done:List (Nat × Rat)):List Value:=(ru n done).map fun q=>af (qtx q)
theorem lN (n:Nat):List.replicate n (af [48])=kR n []:=by
 unfold kR ru;rw [Qe];symm;rw [List.eq_replicate_iff];refine ⟨by simp,fun v a=>?_⟩;obtain ⟨j,_,rfl⟩:=Pn.1 a;show af (qtx 0)=_;rw [qtx_zero]
theorem lO (n:Nat)(a:List (Nat × Rat)):(kR n a).length=n:=by simp [kR,ru]
theorem fw {a:Nat}(b:List (Nat × Rat))(q:Rat)(h:a<n):aE (kR n b) [af (qtx q)] a=kR n ((a,q)::b):=by
 have g:=lO n b;unfold aE;refine List.ext_getElem? (fun j=>?_);have f:∀ (d:List (Nat × Rat)),(kR n d)[j]?=if j<n then some (af (qtx ((dQ d j).getD 0))) else none:=fun d=>by
  unfold kR ru;rw [Qe,Pi];split
  ·rename_i c;rw [PX c];rfl
  rename_i c;rw [Pq (by simpa using Nat.le_of_not_lt c)];rfl
 rw [f ((a,q)::b)];have e:((kR n b).take a).length=a:=by rw [Pw,g];omega
 rcases Nat.lt_trichotomy j a with c | rfl | c
 ·rw [PR,P0 (by rw [e];exact c),P5,aL c,f b,aL om_,aL om_];simp only [dQ];rw [aF om_]
 ·rw [PR,PJ (by rw [e];exact Pf _),e,RR,aL h];simp [dQ]
 rw [PJ (by rw [Po,e];simp;omega),Po,e,List.getElem?_drop];rw [show a+[af (qtx q)].length+(j-(a+[af (qtx q)].length))=j by simp;omega,f b];split
 ·simp only [dQ];rw [aF om_]
 rfl
theorem vR {d a:List (Nat × Rat)}(h:d.Perm a)(b:(d.map (·.1)).Nodup):ru n d=ru n a:=by
 unfold ru;refine List.map_congr_left (fun j _=>?_);rw [wt h b]
def eH (fm:List (Nat × Rat)):List (Int × Value):=fm.map fun x=>(((x.1:Nat):Int),af (qtx x.2))
def Hv (p surface:Nat)(sign:Rat)(x:Nat × Rat):Nat × Rat:=(surface*p+x.1,sign*x.2)
theorem mE:QB 1 (-1:Rat):=eX QB_one
theorem ye (C:Mem)(s p a k:Nat)(h:a*p+k<=1000000):Gives cx.P 240 [gk s p,.int .i64 (a:Nat),.int .i64 (k:Nat)] C (.int .i64 ((a*p+k:Nat):Int)):=by
 have e:((a:Nat):Int)*(p:Nat)=((a*p:Nat):Int):=(PL _ _).symm;have h2:=NB C s p (a:Nat) (k:Nat) (by rw [e];omega) om_;rw [e,<- RW] at h2;exact h2
def Ic (s p surface:Nat)(fm:List (Nat × Rat))(sign:Rat):List Rat:=ru (s*p) (fm.map (Hv p surface sign))
theorem NH (C:Mem)(J:Tabs C)(s p f b:Nat)(c:List (Nat × Rat))(g o:Rat)(k:Nat)(K:0<k)(hk:k<=1000)(ab:s*p<=100000)(hs:f<s)(A:C b=some (aU keyZ.enc (eH c)))(ac:(c.map (·.1)).Nodup)(ad:∀ x∈c,x.1<p)(ae:∀ x∈c,QB k x.2)(L:QB k g)(ah:QB k o) :
  Pur cx.P 246 [gk s p,.int .i64 f,.map (some b),af (qtx g),af (qtx o)] C fun u D=>∃ v,u=.agg ⟨[v,af (qtx (g*o))]⟩/\Sl D 1 v ((Ic s p f c g).map eD):=by
 have av:maxLen<=9223372036854775807:=by simp [maxLen]
 have M:(eH c).length=c.length:=by simp [eH]
 have aw:f*p+p<=s*p:=by
  rw [<- Nat.succ_mul];exact P7 _ hs
 have ay:=(c.map (·.1)).length;refine S4 func246 38 U3 fun w0=>SX fun R l=>Tf U6 fun b5=>Te U5 fun z=>SY [1,2,3,4,5,10] l Z<|G.freeze 1 Z fun _ _ N=>Tk [(1,3)] Z fun R l=>SU (bkT N 2) U8<|D.call (fO _ s p ab) Z (.inr dc_) U6 (Pk _) fl_ (fun az _ aA _ ai=>?_);obtain ⟨bz,rfl,rfl⟩:=ai;refine SZ 2 Z<|Tb (df _ J.m_ g o k K om_ L ah) U7 fl_<|Td [.slice (some ⟨bz,0,none⟩) (s*p:Nat) (s*p:Nat),af (qtx (g*o))] U8<|Te U5 fun aj=>S5 (j:=0) U12<|SY [1,2,3,5,10,11] l Z<|G.freeze 0 Z fun _ _ O=>Tc (L':=[.arr (.slice (some ⟨bz,0,none⟩) (s*p) (s*p)) 32 1 (s*p) (kR (s*p) []),.obj z (.cells ⟨[.slice none 0 0,af []]⟩ 140 (0,0))]) (by rw [lN];rfl)<|SS 1 Z fun R l=>Vd keyZ (Mem.get A mup) Z Z Z Z Z Z Z fl_ fun E=>SY [1,3,5,10,11,21] l Z<|G.loop (fun fr C' B μ=>∃ (seen:List Nat),(seen.Nodup/\(∀ j∈seen,j<c.length))/\fr=[(1,[],.int .i64 f),(3,[],af (qtx g)),(5,[],.pointer (some ⟨b5,0,none⟩)),(10,[],.pointer (some ⟨z,0,none⟩)),(11,[],.pointer (some ⟨aj,0,none⟩)),(21,[],.pointer (some ⟨E,0,none⟩))]/\B=[.obj E (bi b (eH c).length seen),.arr (.slice (some ⟨bz,0,none⟩) (s*p) (s*p)) 32 1 (s*p) (kR (s*p) (seen.reverse.map fun i=>Hv p f g (c.getD i (0,0)))),.obj z (.cells ⟨[.slice none 0 0,af []]⟩ 140 (0,0))]/\μ=c.length-seen.length) (hn_ [1,3,5,10,11,21] Z) ⟨[],⟨List.nodup_nil,by simp⟩,Z,Z,Z⟩ (fun fr aB aC m _ hI=>?_);obtain ⟨seen,⟨Q,S⟩,rfl,rfl,rfl⟩:=hI;refine SX fun R l=>Vi keyZ (q:=0) (Mem.get A mup) Z Z Z Z Z Z fl_ fun T aD t U=>C6 1 [1,3,5,10,11,21,23] l Z<|G.cd (fun w=>?_) fun w=>?_
 ·obtain ⟨aE,j,F,al,rfl⟩:T=true/\∃ j,j<(eH c).length/\j ∉ seen/\t=seen++[j]:=by
   rcases U with ⟨h1,_⟩ | h1
   ·rw [h1] at w;cases w
   exact h1
  rw [M] at F;obtain ⟨⟨n,q⟩,H⟩:∃ x,c[j]?=some x:=⟨c[j],ak F⟩;have V:=Pe H;have aF:n<p:=ad _ V;have am:QB k q:=ae _ V;have an:(eH c)[j]?=some (((n:Nat):Int),af (qtx q)):=by unfold eH;rw [Pi,H];rfl
  have ao:c.getD j (0,0)=(n,q):=by rw [ax,H];rfl
  have W:(seen++[j]).Nodup:=by
   rw [QJ];exact ⟨Q,by simp,fun a ha b hb e=>by rw [PE.1 hb] at e;subst e;exact al ha⟩
  have X:∀ i∈seen++[j],i<c.length:=fun i I=>by
   rcases Px.1 I with h | h
   ·exact S i h
   rw [PE.1 h];exact F
  have aG:(seen++[j]).length<=c.length:=by
   have:=List.Nodup.length_le_of_subset W (l₂:=List.range c.length) (fun i I=>PC.2 (X i I));simpa using this
  have aH:(seen++[j]).length=seen.length+1:=by simp
  have ap:f*p+n<s*p:=by omega
  refine SX fun R l=>Vg keyZ (Mem.get A mup) an ag Z Z Z Z Z Z Z<|C6 4 [1,3,5,10,11,12,13,21] l Z<|Tg [0,1,2,3,4,5,6,7,8,9,10] [(5,1),(8,1)] Z kr_ fun R hB l=>SV U6<|SU (bkT O 1) U8<|SU (bkT N 2) U8<|SZ 2 Z<|Tj (fun _=>(ye _ s p f n om_)) U9<|SZ 2 Z<|Tj (fun _=>(df _ J.m_ g q k K om_ L am)) U9<|Tm ((f*p+n)) U10 (fun _=>⟨by omega,by omega,(Ql _).symm⟩) U2<|Tr (j:=1) U11 (by rw [lO];simp;omega)<|SY [1,3,5,10,11,21] l Z<|G.perm (L':=[.obj E (bi b (eH c).length (seen++[j])),.arr (.slice (some ⟨bz,0,none⟩) (s*p) (s*p)) 32 1 (s*p) (kR (s*p) ((seen++[j]).reverse.map fun i=>Hv p f g (c.getD i (0,0)))),.obj z (.cells ⟨[.slice none 0 0,af []]⟩ 140 (0,0))]) (by
   rw [List.reverse_append,List.reverse_singleton,List.singleton_append,PU,ao];unfold Hv;rw [<- fw _ _ ap];exact List.Perm.swap _ _ _) ?_
  refine S6 (m':=c.length-(seen++[j]).length) om_ mup (hn_ [1,3,5,10,11,21] Z) ⟨seen++[j],⟨W,X⟩,Z,Z,Z⟩
 obtain ⟨aI,rfl,Y⟩:T=false/\t=seen/\∀ j,j<(eH c).length->j∈seen:=by
  rcases U with h1 | ⟨h1,_⟩
  ·exact h1
  rw [h1] at w;cases w
 rw [M] at Y;have aa:(t.reverse.map fun i=>Hv p f g (c.getD i (0,0))).Perm (c.map (Hv p f g)):=by
  have h1:=(oM (d:=((0:Nat),(0:Rat))) Q S Y).map (Hv p f g);rw [Qe] at h1;exact ((List.reverse_perm t).map _).trans h1
 have aq:((c.map (Hv p f g)).map (·.1)).Nodup:=by
  rw [Qe];have e:((·.1) ∘ Hv p f g:Nat × Rat->Nat)=(fun k=>f*p+k) ∘ (·.1):=rfl;rw [e,<- Qe];rw [List.Nodup,List.pairwise_map];exact ac.imp (fun {a b} h=>by omega)
 have ar:kR (s*p) (t.reverse.map fun i=>Hv p f g (c.getD i (0,0)))=((Ic s p f c g).map eD).flatten:=by
  unfold Ic kR;rw [vR aa ((aa.map (·.1)).nodup_iff.2 aq)];exact (ek (fun q=>af (qtx q)) _).symm
 refine TC 0 Z<|G.freezeArr 0 ((Ic s p f c g).map eD) ⟨rfl,ar⟩ (by intro r hr;obtain ⟨y,_,rfl⟩:=Pn.1 hr;rfl) (by simp [Ic,ru]) fun Cg hg au=>SX fun R l=>SU (bkT O 2) U8<|S5 (j:=0) U12<|SY [10] l Z<|S7 (TE ag U4 ?_);exact ⟨Z,_,Z,au⟩
end Go.Proofs.YtfjcldheldflbaaGreatDoor
