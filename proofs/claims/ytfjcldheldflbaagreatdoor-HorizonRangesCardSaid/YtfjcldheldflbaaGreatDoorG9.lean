/- Laws that the proofs of this seat share, part 9. -/
import Derived.Test.YtfjcldheldflbaaGreatDoorG8
import Derived.Test.YtfjcldheldflbaaGreatDoorShelf
set_option maxHeartbeats 4000000
namespace Go.Proofs.YtfjcldheldflbaaGreatDoor
open Go.Proofs.Tryz
open Go Go.Jog
set_option maxRecDepth 100000
variable {C:Mem}{a b:Rat}{bv:Value}{c:Rat}{fs:List Rat}{i k m n:Nat}{p:Pt}{pts:List Pt}{q:Rat}{t:Tri}{tris:List Tri}{z:Int}{α:Type}
theorem co {f:α->List Value}{l:List α}{x:α}(h:l[i]?=some x):(l.map f)[i]?=some (f x):=by rw [PH,h];rfl
def yP (n:Nat)(l:List Str):Int:=if l.length=n then nX (l.all aS) else 5
theorem xt (C:Mem)(y:Tabs C)(z v A:Value)(b:List Pt)(f:List Tri)(l:List Str)(B:MeshIn C z b f)(D:Good b f)(g:Sl C 1 v [[A]])(k:Sl C 1 A (l.map kc))(N:∀ s∈l,s.length<=999998) :
  Gives cx.P 61 [z,v] C (.int .i64 (yP b.length l)):=by
 have E:=B;have aa:=D.ok.lp;obtain ⟨v1,v2,rfl,h1,h2⟩:=id B.ex;obtain ⟨A1,c1,rfl,ab,ac,_⟩:=id h1;obtain ⟨F,H,rfl,ad,ae,_⟩:=id g;obtain ⟨n,o,rfl,O,af,_⟩:=id k;have ag:maxLen<=9223372036854775807:=by simp [maxLen]
 simp only [al,PD] at h1 g k E O ⊢;refine Tr func61 41 U3 fun w0=>Tl fun R a=>TC U6 fun I=>C6 1 [1,2] a Z<|G.freeze 0 Z fun _ _ J=>Tl fun R a=>Tj (PtrTo.block (Mem.get J mup) _) U8<|Tt (fA _ y.m_ _ b f E.m_ D) U7<|C6 1 [1,2,5] a Z<|Th 2 [1,2,5,14] Z<|G.cd (fun K=>?_) fun K=>?_
 ·exact absurd K dc_
 refine Th 3 [2,16,17,18] Z<|G.loop (fun fr Q p q=>∃ (i:Nat),(i<=1/\(i=1->l.length=b.length/\l.all aS=true))/\fr=[(2,[],.pointer (some ⟨I,0,none⟩)),(16,[],.slice F 1 H),(17,[],.int .i64 1),(18,[],.int .i64 i)]/\p=[]/\q=1-i) (hn_ [2,16,17,18] Z) ⟨0,⟨PL _,fun h=>absurd h dc_⟩,Z,Z,Z⟩ (fun fr ah ai m _ r=>?_);obtain ⟨i,⟨hi,S⟩,rfl,rfl,rfl⟩:=r;refine Th 1 [2,16,17,18,19] Z<|G.cd (fun t=>?_) fun t=>?_
 ·obtain rfl:i=0:=by
   simp only [PN] at t;omega
  refine Tl fun R a=>Ty g.m_ U10 om_ (rfl:([[.slice n l.length o]]:List (List Value))[0]?=some [.slice n l.length o]) fl_ fun ak T=>Tj T U8<|C6 1 [2,7,16,17,18] a Z<|Ti 3 Z fun R a=>Tj (PtrTo.block (Mem.get J mup) _) U8<|C6 2 [2,7,16,17,18,27] a Z<|G.cd (fun d=>?_) fun d=>?_
  ·have U:l.length≠b.length:=by
    intro e;rw [e] at d;simp at d
   exact Th 1 [4] Z<|Tp U2<|⟨by unfold yP;rw [aG U],Z⟩
  have L:l.length=b.length:=by
   have h:((l.length:Nat):Int)=(b.length:Nat):=by simpa using d
   omega
  refine Th 3 [2,16,17,18,28,29,30] Z<|G.loop (fun fr Q p q=>∃ (j:Nat),(j<=l.length/\(l.take j).all aS=true)/\fr=[(2,[],.pointer (some ⟨I,0,none⟩)),(16,[],.slice F 1 H),(17,[],.int .i64 1),(18,[],.int .i64 0),(28,[],.slice n l.length o),(29,[],.int .i64 l.length),(30,[],.int .i64 j)]/\p=[]/\q=l.length-j) (hn_ [2,16,17,18,28,29,30] Z) ⟨0,⟨PL _,by simp⟩,Z,Z,Z⟩ (fun fr am an m V r=>?_);obtain ⟨j,⟨hj,u⟩,rfl,rfl,rfl⟩:=r;refine Th 1 [2,16,17,18,28,29,30,31] Z<|G.cd (fun w=>?_) fun w=>?_
  ·have x:j<l.length:=by simpa using w
   obtain ⟨s,hs⟩:∃ s,l[j]?=some s:=⟨l[j],aj x⟩;refine Tl fun R a=>Ty k.m_ U10 om_ (co hs) fl_ fun ao W=>Tj W U8<|C6 1 [2,9,16,17,18,28,29,30] a Z<|Ti 1 Z fun R a=>Tt (dD _ y.m_ s (N s (O0 hs))) U7<|C6 1 [2,10,16,17,18,28,29,30] a Z<|Th 2 [2,10,16,17,18,28,29,30,37] Z<|G.cd (fun c=>?_) fun c=>?_
   ·have M:aS s=false:=by
     rcases eZ (aS s) with ⟨h1,h2⟩ | ⟨h1,h2⟩
     ·rw [h1] at c;exact absurd c dc_
     exact h2
    refine Th 2 [4] Z<|Tp U2<|⟨?_,Z⟩;unfold yP;rw [aK L,M,show l.all aS=false from Sa.2 ⟨s,O0 hs,by rw [M];decide⟩]
   have X:aS s=true:=by
    rcases eZ (aS s) with ⟨h1,h2⟩ | ⟨h1,h2⟩
    ·exact h2
    rw [h1] at c;exact absurd c dc_
   refine Tl fun R a=>Tq _ Z U6<|C6 1 [2,16,17,18,28,29,30] a Z<|Tv (m':=l.length-(j+1)) om_ V (hn_ [2,16,17,18,28,29,30] Z) ⟨j+1,⟨by omega,by rw [P6,hs,S7,u];simp [X]⟩,Z,Z,Z⟩
  have x:j=l.length:=by
   have:¬ j<l.length:=by simpa using w
   omega
  refine Tl fun R a=>Tq _ Z U6<|C6 1 [2,16,17,18] a Z<|Tv (m':=0) om_ mup (hn_ [2,16,17,18] Z) ⟨1,⟨PE _,fun _=>⟨L,by rw [x,PT] at u;exact u⟩⟩,Z,Z,Z⟩
 have Y:i=1:=by
  simp only [P7] at t;omega
 refine Th 1 [4] Z<|Tp U2<|⟨?_,Z⟩;obtain ⟨h3,h4⟩:=S Y;unfold yP;rw [aK h3,h4];rfl
theorem ur (C:Mem)(h:Tabs C)(e f:Value)(a:List Pt)(b:List Tri)(l:List Str)(g:MeshIn C e a b)(i:Good a b)(c:Sl C 1 f (l.map kc))(j:∀ s∈l,s.length<=999998) :
  Gives cx.P 217 [e,f] C (.int .i64 (yP a.length l)):=by
 have k:=g;obtain ⟨p,q,rfl,h1,h2⟩:=id g.ex;obtain ⟨m,n,rfl,r,t,_⟩:=id c;simp only [al] at c ⊢;exact Tr func217 9 U3 fun w0=>Tl fun R d=>TC U6 fun u=>C6 1 [1,2] d Z<|Tl fun R d=>To ag U9<|Tk U6<|TF [[.slice m l.length n]] U12 fun v _ _ o=>Tt (xt _ h.m_ _ _ _ a b l k.m_ i o.m_ c.m_ j) U7<|C6 1 [4] d Z<|Tp U2<|⟨Z,Z⟩
def ec (q:Rat):List Value:=[af (qtx q)]
def fz (fs:List Rat)(t:Tri)(j:Nat):Rat:=fs.getD (fb t j) 0
def ze (pts:List Pt)(fs:List Rat)(t:Tri)(j:Nat):List Value:=gi (cor pts t j)++ec (fz fs t j)
theorem Gw (h:i<fs.length):fs[i]?=some (fs.getD i 0):=by
 rw [ax,aj h];rfl
theorem yV (C:Mem)(r s:Value)(b:List Pt)(l:List Tri)(c:List Rat)(z:MeshIn C r b l)(A:MeshOk b l)(e:Sl C 1 s (c.map ec))(n:c.length=b.length)(i:Nat)(t:Tri)(o:l[i]?=some t) :
  Gives cx.P 192 [r,s,.int .i64 i] C (.agg ⟨ze b c t 0++ze b c t 1++ze b c t 2⟩):=by
 have d:=A.ins t (O0 o);obtain ⟨M,N,rfl,h1,h2⟩:=id z.ex;obtain ⟨O,Q,rfl,B,S,_⟩:=id h1;obtain ⟨A2,c2,rfl,D,T,_⟩:=id h2;obtain ⟨E,F,rfl,U,V,_⟩:=id e;have W:maxLen<=9223372036854775807:=by simp [maxLen]
 simp only [al] at h1 h2 e B D ⊢;have X:=(aJ.1 o).1;refine Tr func192 32 U3 fun w0=>?_;refine Tl fun R a=>?_;refine TC U6 (fun H=>?_);refine TB U5 (fun u=>?_);refine Tn [1,2,3,6] a Z ?_;refine G.freeze 1 Z (fun _ _ h=>?_);refine Ti 1 Z fun R a=>?_;refine Tj (PtrTo.block (Mem.get h mup) _) U8 ?_;refine Tk U6 ?_;refine Ty h2.m_ U10 om_ (co o) fl_ (fun Y I=>?_);refine Tj I U8 ?_;refine C6 1 [1,3,6,13,14] a Z ?_;refine G.loop (fun fr C' J K=>∃ (j:Nat),(j<=3)/\fr=[(1,[],.slice E c.length F),(3,[],.pointer (some ⟨H,0,none⟩)),(6,[],.pointer (some ⟨u,0,none⟩)),(13,[],.agg ⟨fU t⟩),(14,[],.int .i64 j)]/\J=[.obj u (.cells ⟨(List.range 3).flatMap fun k=>if k<j then ze b c t k else [af [],af [],af []]⟩ 279 (0,0))]/\K=3-j) (hn_ [1,3,6,13,14] Z) ⟨0,PL _,Z,Z,Z⟩ (fun fr aa ab m p L=>?_);obtain ⟨j,hj,rfl,rfl,rfl⟩:=L;refine Th 1 [1,3,6,13,14,15] Z ?_;refine G.cd (fun q=>?_) fun q=>?_
 ·have v:j<3:=by
   simp only [PN] at q;omega
  rcases (by omega:j=0∨j=1∨j=2) with rfl | rfl | rfl
  ·refine Ti 1 Z fun R a=>?_;refine Ud U11 ah U2 ?_;refine C6 2 [1,3,6,7,8,13,14] a Z ?_;refine TD [0,1,2,3,4,5,6,7,8,9,10,11,12] [] Z kr_ (fun R w a=>?_);refine Tm 2 Z ?_;refine Tj (PtrTo.block (Mem.get h mup) _) U8 ?_;refine Tk U6 ?_;refine Ty h1.m_ U10 om_ (co (pe (eB d 0))) fl_ (fun x f=>?_);refine Tj f U8 ?_;refine Tm 2 Z ?_;refine Ty e.m_ U10 om_ (co (Gw (n ▸ eB d 0))) fl_ (fun y g=>?_);refine Tj g U8 ?_;refine TA (ze b c t 0) U8 ?_;refine TE (_) U9 ah U2 ?_;refine Ts (j:=0) U12 ?_;refine Tn [1,3,6,13,14] a Z ?_;refine Tl fun R a=>?_;refine Tq _ Z U6 ?_;refine C6 1 [1,3,6,13,14] a Z ?_;refine Tv (m':=2) om_ p (hn_ [1,3,6,13,14] Z) ⟨1,by decide,Z,Z,Z⟩
  ·refine Ti 1 Z fun R a=>?_;refine Ud U11 ah U2 ?_;refine C6 2 [1,3,6,7,8,13,14] a Z ?_;refine TD [0,1,2,3,4,5,6,7,8,9,10,11,12] [] Z kr_ (fun R w a=>?_);refine Tm 2 Z ?_;refine Tj (PtrTo.block (Mem.get h mup) _) U8 ?_;refine Tk U6 ?_;refine Ty h1.m_ U10 om_ (co (pe (eB d 1))) fl_ (fun x f=>?_);refine Tj f U8 ?_;refine Tm 2 Z ?_;refine Ty e.m_ U10 om_ (co (Gw (n ▸ eB d 1))) fl_ (fun y g=>?_);refine Tj g U8 ?_;refine TA (ze b c t 1) U8 ?_;refine TE (_) U9 ah U2 ?_;refine Ts (j:=0) U12 ?_;refine Tn [1,3,6,13,14] a Z ?_;refine Tl fun R a=>?_;refine Tq _ Z U6 ?_;refine C6 1 [1,3,6,13,14] a Z ?_;refine Tv (m':=1) om_ p (hn_ [1,3,6,13,14] Z) ⟨2,by decide,Z,Z,Z⟩
  refine Ti 1 Z fun R a=>?_;refine Ud U11 ah U2 ?_;refine C6 2 [1,3,6,7,8,13,14] a Z ?_;refine TD [0,1,2,3,4,5,6,7,8,9,10,11,12] [] Z kr_ (fun R w a=>?_);refine Tm 2 Z ?_;refine Tj (PtrTo.block (Mem.get h mup) _) U8 ?_;refine Tk U6 ?_;refine Ty h1.m_ U10 om_ (co (pe (eB d 2))) fl_ (fun x f=>?_);refine Tj f U8 ?_;refine Tm 2 Z ?_;refine Ty e.m_ U10 om_ (co (Gw (n ▸ eB d 2))) fl_ (fun y g=>?_);refine Tj g U8 ?_;refine TA (ze b c t 2) U8 ?_;refine TE (_) U9 ah U2 ?_;refine Ts (j:=0) U12 ?_;refine Tn [1,3,6,13,14] a Z ?_;refine Tl fun R a=>?_;refine Tq _ Z U6 ?_;refine C6 1 [1,3,6,13,14] a Z ?_;refine Tv (m':=0) om_ p (hn_ [1,3,6,13,14] Z) ⟨3,by decide,Z,Z,Z⟩
 have v:j=3:=by
  simp only [P7] at q;omega
 subst v;refine Tl fun R a=>?_;refine To ag U9 ?_;refine Ts (j:=0) U12 ?_;refine Tn [6] a Z ?_;refine Tu (Uc ag U4 ?_);exact ⟨Z,Z⟩
/-! Finer bounds. -/
theorem jm (c:QB k a)(d:QB m b):QB (k+m) (a*b):=by
 rw [gw];refine gW (Nat.mul_ne_zero a.den_nz b.den_nz) ?_ ?_
 ·rw [Q9,Sy];exact Rx c.1 d.1
 rw [Sy];exact Rx c.2 d.2
theorem uS (c:QB k a)(d:QB m b):QB (k+m+1) (a+b):=by
 rw [jD];have e:B9 ^ (k+m+1)=B9 ^ k*B9 ^ m*B9:=by rw [QU,Sy]
 have f:(a.num*b.den).natAbs<B9 ^ k*B9 ^ m:=by rw [Q9,Qs];exact Rx c.1 d.2
 have g:(b.num*a.den).natAbs<B9 ^ k*B9 ^ m:=by rw [Q9,Qs,Qn];exact Rx c.2 d.1
 have h:a.den*b.den<B9 ^ k*B9 ^ m:=Rx c.2 d.2;have i:2*(B9 ^ k*B9 ^ m)<=B9 ^ k*B9 ^ m*B9:=by
  rw [Qn];exact QZ _ dc_
 refine gW (Nat.mul_ne_zero a.den_nz b.den_nz) ?_ ?_
 ·rw [e];have:=So (a.num*b.den) (b.num*a.den);omega
 rw [e];omega
theorem fg (c:QB k a)(d:QB m b):QB (k+m+1) (a-b):=by
 rw [Ta];exact uS c (fa d)
theorem QB_one:QB 1 1:=⟨by decide,by decide⟩
theorem QB_zero:QB 1 0:=⟨by decide,by decide⟩
def eo (a b c d:Rat):Rat:=a*d-b*c
theorem pT (C:Mem)(e:Tabs C)(a b c d:Rat)(k:Nat)(f:0<k)(m:k<=2000)(g:QB k a)(h:QB k b)(i:QB k c)(j:QB k d):Gives cx.P 193 [af (qtx a),af (qtx b),af (qtx c),af (qtx d)] C (af (qtx (eo a b c d))):=by
 exact Tr func193 16 U3 fun w0=>Th 1 [0,1,2,3] Z<|Ti 2 Z fun R l=>Tw (di _ e.m_ a d k f om_ g j) U7 fl_<|Tm 2 Z<|Tw (di _ e.m_ b c k f om_ h i) U7 fl_<|Tw (dZ _ e.m_ (a*d) (b*c) (k+k) om_ om_ (qI g j) (qI h i)) U7 fl_<|C6 1 [8] l Z<|Tp U2<|⟨Z,Z⟩
theorem jW {d:Rat}(e:QB k a)(f:QB k b)(g:QB k c)(h:QB k d):QB (4*k+1) (eo a b c d):=(fg (jm e h) (jm f g)).le om_
def nh (c0 c1 c2:Pt)(z0 z1 z2:Rat):Pt :=
 ((1 / eo (c1.1-c0.1) (c1.2-c0.2) (c2.1-c0.1) (c2.2-c0.2))*eo (z1-z0) (c1.2-c0.2) (z2-z0) (c2.2-c0.2),
 (1 / eo (c1.1-c0.1) (c1.2-c0.2) (c2.1-c0.1) (c2.2-c0.2))*eo (c1.1-c0.1) (z1-z0) (c2.1-c0.1) (z2-z0))
def dC (pts:List Pt)(fs:List Rat)(t:Tri):Pt:=nh (cor pts t 0) (cor pts t 1) (cor pts t 2) (fz fs t 0) (fz fs t 1) (fz fs t 2)
theorem MF (a:MeshOk pts tris)(b:fs.length=pts.length)(c:∀ q∈fs,QB k q)(d:t∈tris)(j:Nat):QB k (fz fs t j) :=
 c _ (O0 (Gw (b ▸ eB (a.ins t d) j)))
theorem vK (d:MeshOk pts tris)(g:fs.length=pts.length)(h:∀ q∈fs,QB k q)(e:t∈tris):QP (8*k+39) (dC pts fs t):=by
 have a:=fun j=>ns d e j;have f:=fun j=>MF d g h e j;have b:∀ i j,QB 3 ((cor pts t i).1-(cor pts t j).1):=fun i j=>(fg (a i).1 (a j).1).le dc_;have hy:∀ i j,QB 3 ((cor pts t i).2-(cor pts t j).2):=fun i j=>(fg (a i).2 (a j).2).le dc_;have c:∀ i j,QB (2*k+1) (fz fs t i-fz fs t j):=fun i j=>(fg (f i) (f j)).le om_;have hm:QB 13 (eo ((cor pts t 1).1-(cor pts t 0).1) ((cor pts t 1).2-(cor pts t 0).2) ((cor pts t 2).1-(cor pts t 0).1) ((cor pts t 2).2-(cor pts t 0).2)):=(jW (k:=3) (b 1 0) (hy 1 0) (b 2 0) (hy 2 0)).le dc_;have l:eo ((cor pts t 1).1-(cor pts t 0).1) ((cor pts t 1).2-(cor pts t 0).2) ((cor pts t 2).1-(cor pts t 0).1) ((cor pts t 2).2-(cor pts t 0).2)≠0:=ic d e;have h1:QB 26 _:=(jn (k:=13) (QB_one.le dc_) hm l).le dc_;have m:QB (4*(2*k+3)+1) (eo (fz fs t 1-fz fs t 0) ((cor pts t 1).2-(cor pts t 0).2) (fz fs t 2-fz fs t 0) ((cor pts t 2).2-(cor pts t 0).2)):=jW (k:=2*k+3) ((c 1 0).le om_) ((hy 1 0).le om_) ((c 2 0).le om_) ((hy 2 0).le om_);have n:QB (4*(2*k+3)+1) (eo ((cor pts t 1).1-(cor pts t 0).1) (fz fs t 1-fz fs t 0) ((cor pts t 2).1-(cor pts t 0).1) (fz fs t 2-fz fs t 0)):=jW (k:=2*k+3) ((b 1 0).le om_) ((c 1 0).le om_) ((b 2 0).le om_) ((c 2 0).le om_);exact ⟨(jm h1 m).le om_,(jm h1 n).le om_⟩
theorem wY (C:Mem)(d:Tabs C)(r s:Value)(a:List Pt)(n:List Tri)(b:List Rat)(k:Nat)(u:0<k)(K:k<=100)(v:MeshIn C r a n)(o:MeshOk a n)(D:Sl C 1 s (b.map ec))(w:b.length=a.length)(E:∀ q∈b,QB k q)(i:Nat)(t:Tri)(x:n[i]?=some t) :
  Gives cx.P 125 [r,s,.int .i64 i] C (ptV (dC a b t)):=by
 have p:=O0 x;have F:=v;obtain ⟨L,M,rfl,h1,h2⟩:=id v.ex;have e:=fun j=>ns o p j;have m:=fun j=>MF o w E p j;have g:∀ i j,QB 3 ((cor a t i).1-(cor a t j).1):=fun i j=>(fg (e i).1 (e j).1).le dc_;have hy:∀ i j,QB 3 ((cor a t i).2-(cor a t j).2):=fun i j=>(fg (e i).2 (e j).2).le dc_;have l:∀ i j,QB (2*k+1) (fz b t i-fz b t j):=fun i j=>(fg (m i) (m j)).le om_;have y:QB 13 (eo ((cor a t 1).1-(cor a t 0).1) ((cor a t 1).2-(cor a t 0).2) ((cor a t 2).1-(cor a t 0).1) ((cor a t 2).2-(cor a t 0).2)):=(jW (k:=3) (g 1 0) (hy 1 0) (g 2 0) (hy 2 0)).le dc_;have z:eo ((cor a t 1).1-(cor a t 0).1) ((cor a t 1).2-(cor a t 0).2) ((cor a t 2).1-(cor a t 0).1) ((cor a t 2).2-(cor a t 0).2)≠0:=ic o p;have A:QB 26 (1 / eo ((cor a t 1).1-(cor a t 0).1) ((cor a t 1).2-(cor a t 0).2) ((cor a t 2).1-(cor a t 0).1) ((cor a t 2).2-(cor a t 0).2)):=(jn (k:=13) (QB_one.le dc_) y z).le dc_;have H:QB (8*k+26) (eo (fz b t 1-fz b t 0) ((cor a t 1).2-(cor a t 0).2) (fz b t 2-fz b t 0) ((cor a t 2).2-(cor a t 0).2)):=(jW (k:=2*k+3) ((l 1 0).le om_) ((hy 1 0).le om_) ((l 2 0).le om_) ((hy 2 0).le om_)).le om_;have I:QB (8*k+26) (eo ((cor a t 1).1-(cor a t 0).1) (fz b t 1-fz b t 0) ((cor a t 2).1-(cor a t 0).1) (fz b t 2-fz b t 0)):=(jW (k:=2*k+3) ((g 1 0).le om_) ((l 1 0).le om_) ((g 2 0).le om_) ((l 2 0).le om_)).le om_;refine Tr func125 98 U3 fun w0=>?_;refine Tl fun R c=>?_;refine TC U6 (fun N=>?_);refine TB U5 (fun O=>?_);refine Tn [1,2,3,6] c Z ?_;refine Tl fun R c=>?_;refine To ae U9 ?_;refine Tm 2 Z ?_;refine Tt (yV _ _ _ a n b F.m_ o D.m_ w i t x) U7 ?_;refine TB U5 (fun Q=>?_);refine Ts (j:=0) U12 ?_;refine Tn [6,7] c Z ?_;refine G.freeze 0 Z (fun J _ f=>?_);refine TD [0,1,2,3,4,5,6,7,8,9,10,11,12,13,14,15,16,17,18,19] [(8,1),(17,1)] Z kr_ (fun R B c=>?_);refine TE (3) U9 ah U2 ?_;refine Tm 2 Z ?_;refine Tj (bkT f 1) U8 ?_;refine TE (0) U9 ah U2 ?_;refine Tm 2 Z ?_;refine Tj (bkT f 1) U8 ?_;refine TG (fun _=>(dZ _ d.m_ (cor a t 1).1 (cor a t 0).1 1 dc_ dc_ (e 1).1 (e 0).1)) U9 ?_;refine TE (3) U9 ah U2 ?_;refine Tm 2 Z ?_;refine Tj (bkT f 1) U8 ?_;refine TE (0) U9 ah U2 ?_;refine Tm 2 Z ?_;refine Tj (bkT f 1) U8 ?_;refine TG (fun _=>(dZ _ d.m_ (cor a t 1).2 (cor a t 0).2 1 dc_ dc_ (e 1).2 (e 0).2)) U9 ?_;refine C6 2 [6,7,8,9] c Z ?_;refine TD [0,1,2,3,4,5,6,7,8,9,10,11,12,13,14,15,16,17,18,19] [(8,1),(17,1)] Z kr_ (fun R B c=>?_);refine TE (6) U9 ah U2 ?_;refine Tm 2 Z ?_;refine Tj (bkT f 1) U8 ?_;refine TE (0) U9 ah U2 ?_;refine Tm 2 Z ?_;refine Tj (bkT f 1) U8 ?_;refine TG (fun _=>(dZ _ d.m_ (cor a t 2).1 (cor a t 0).1 1 dc_ dc_ (e 2).1 (e 0).1)) U9 ?_;refine TE (6) U9 ah U2 ?_;refine Tm 2 Z ?_;refine Tj (bkT f 1) U8 ?_;refine TE (0) U9 ah U2 ?_;refine Tm 2 Z ?_;refine Tj (bkT f 1) U8 ?_;refine TG (fun _=>(dZ _ d.m_ (cor a t 2).2 (cor a t 0).2 1 dc_ dc_ (e 2).2 (e 0).2)) U9 ?_;refine C6 2 [6,7,8,9,10,11] c Z ?_;refine TD [0,1,2,3,4,5,6,7,8,9,10,11,12,13,14,15] [(6,1),(13,1)] Z kr_ (fun R B c=>?_);refine TE (3) U9 ah U2 ?_;refine Tk U6 ?_;refine Tj (bkT f 1) U8 ?_;refine TE (0) U9 ah U2 ?_;refine Tk U6 ?_;refine Tj (bkT f 1) U8 ?_;refine TG (fun _=>(dZ _ d.m_ (fz b t 1) (fz b t 0) k u om_ (m 1) (m 0))) U9 ?_;refine TE (6) U9 ah U2 ?_;refine Tk U6 ?_;refine Tj (bkT f 1) U8 ?_;refine TE (0) U9 ah U2 ?_;refine Tk U6 ?_;refine Tj (bkT f 1) U8 ?_;refine TG (fun _=>(dZ _ d.m_ (fz b t 2) (fz b t 0) k u om_ (m 2) (m 0))) U9 ?_;refine C6 2 [6,8,9,10,11,12,13] c Z ?_;refine Th 1 [6,8,9,10,11,12,13,14] Z ?_;refine Ti 5 Z fun R c=>?_;refine Tw (pT _ d.m_ _ _ _ _ 3 dc_ dc_ (g 1 0) (hy 1 0) (g 2 0) (hy 2 0)) U7 fl_ ?_;refine Tw (by have h:=gK J d.m_ 1 _ 13 dc_ dc_ (QB_one.le dc_) y z;rw [dE] at h;exact h) U7 fl_ ?_;refine C6 5 [6,8,9,10,11,12,13,14,15] c Z ?_;refine Ti 6 Z fun R c=>?_;refine Tw (pT _ d.m_ (fz b t 1-fz b t 0) ((cor a t 1).2-(cor a t 0).2) (fz b t 2-fz b t 0) ((cor a t 2).2-(cor a t 0).2) (2*k+3) om_ om_ ((l 1 0).le om_) ((hy 1 0).le om_) ((l 2 0).le om_) ((hy 2 0).le om_)) U7 fl_ ?_;refine Tw (di _ d.m_ _ _ (8*k+26) om_ om_ (A.le om_) H) U7 fl_ ?_;refine Tm 6 Z ?_;refine Tw (pT _ d.m_ ((cor a t 1).1-(cor a t 0).1) (fz b t 1-fz b t 0) ((cor a t 2).1-(cor a t 0).1) (fz b t 2-fz b t 0) (2*k+3) om_ om_ ((g 1 0).le om_) ((l 1 0).le om_) ((g 2 0).le om_) ((l 2 0).le om_)) U7 fl_ ?_;refine Tw (di _ d.m_ _ _ (8*k+26) om_ om_ (A.le om_) I) U7 fl_ ?_;refine TA (gi (dC a b t)) U8 ?_;refine Ts (j:=0) U12 ?_;refine Tn [6] c Z ?_;refine Tu (Uc ag U4 ?_);exact ⟨Z,Z⟩
def Ew (l:List Rat):Rat:=l.foldl (·+·) 0
theorem Eu (l:List Rat)(q:Rat):Ew (l++[q])=Ew l+q:=by unfold Ew;rw [List.foldl_append];rfl
theorem LB (C:Mem)(g:Tabs C)(v:Value)(l:List Rat)(k:Nat)(h:0<k)(j:k<=10000)(b:Sl C 1 v (l.map ec))(n:∀ q∈l,QB k q)(o:∀ i,QB k (Ew (l.take i))) :
  Gives cx.P 126 [v] C (af (qtx (Ew l))):=by
 obtain ⟨p,c0,rfl,r,z,_⟩:=id b;have A:maxLen<=9223372036854775807:=by simp [maxLen]
 simp only [al] at b r ⊢;refine Tr func126 17 U3 fun w0=>Th 1 [0] Z<|Th 1 [0,3] Z<|Th 3 [3,6,7,8] Z<|G.loop (fun fr B t u=>∃ (i:Nat)(s:Str),(i<=l.length/\s=qtx (Ew (l.take i)))/\fr=[(3,[],af s),(6,[],.slice p l.length c0),(7,[],.int .i64 l.length),(8,[],.int .i64 i)]/\t=[]/\u=l.length-i) (hn_ [3,6,7,8] Z) ⟨0,[48],⟨PL _,qtx_zero.symm⟩,Z,Z,Z⟩ (fun fr D E m w x=>?_);obtain ⟨i,s,⟨F,f⟩,rfl,rfl,rfl⟩:=x;refine Th 1 [3,6,7,8,9] Z<|G.cd (fun c=>?_) fun c=>?_
 ·have d:i<l.length:=by simpa using c
  obtain ⟨q,e⟩:∃ q,l[i]?=some q:=⟨l[i],aj d⟩;subst f;refine Tl fun R a=>Ty b.m_ U10 om_ (co e) fl_ fun H y=>Tj y U8<|C6 1 [3,5,6,7,8] a Z<|Ti 2 Z fun R a=>Tt (mH _ g.m_ (Ew (l.take i)) q k h j (o i) (n q (O0 e))) U7<|C6 1 [3,6,7,8] a Z<|Tl fun R a=>Tq _ Z U6<|C6 1 [3,6,7,8] a Z<|Tv (m':=l.length-(i+1)) om_ w (hn_ [3,6,7,8] Z) ⟨i+1,_,⟨by omega,by rw [P6,e,Q2,Eu]⟩,Z,Z,Z⟩
 have d:i=l.length:=by
  have:¬ i<l.length:=by simpa using c
  omega
 exact Th 2 [2] Z<|Tp U2<|⟨by rw [f,d,PT],Z⟩
def yy (q:Rat):Value:=if aS (qtx q) then .tuple #[af (qtx q),.int .i64 0] else .tuple #[af [],.int .i64 4]
theorem Gy (C:Mem)(b:Tabs C)(q:Rat)(c:(qtx q).length<=999998):Gives cx.P 62 [af (qtx q)] C (yy q):=by
 refine Tr func62 8 U3 fun w0=>Th 2 [0] Z<|Ti 1 Z fun R d=>Tt (dD _ b.m_ _ c) U7<|C6 1 [0,6] d Z<|G.cd (fun a=>?_) fun a=>?_
 ·have e:aS (qtx q)=false:=by
   rcases eZ (aS (qtx q)) with ⟨h1,h2⟩ | ⟨h1,h2⟩
   ·rw [h1] at a;exact absurd a dc_
   exact h2
  refine Th 2 [2,3] Z<|Tu (G.dropAll (TM U3 ?_));exact ⟨by unfold yy;rw [e];rfl,Z⟩
 have f:aS (qtx q)=true:=by
  rcases eZ (aS (qtx q)) with ⟨h1,h2⟩ | ⟨h1,h2⟩
  ·exact h2
  rw [h1] at a;exact absurd a dc_
 refine Th 3 [2,3] Z<|Tu (G.dropAll (TM U3 ?_));exact ⟨by unfold yy;rw [f];rfl,Z⟩
def onQ (pts:List Pt)(fs:List Rat)(t:Tri)(p:Pt):Rat:=Ew [fz fs t 0,(dC pts fs t).1*(p.1-(cor pts t 0).1),(dC pts fs t).2*(p.2-(cor pts t 0).2)]
theorem KC (n:k<=23)(a:MeshOk pts tris)(c:fs.length=pts.length)(d:∀ q∈fs,QB k q)(b:t∈tris)(e:QP 23 p):QB 600 (onQ pts fs t p)/\(∀ i,QB 600 (Ew ([fz fs t 0,(dC pts fs t).1*(p.1-(cor pts t 0).1),(dC pts fs t).2*(p.2-(cor pts t 0).2)].take i)))/\QB 600 (fz fs t 0)/\QB 600 ((dC pts fs t).1*(p.1-(cor pts t 0).1))/\QB 600 ((dC pts fs t).2*(p.2-(cor pts t 0).2)):=by
 have hs:=vK a c d b;have f:=ns a b 0;have g:=MF a c d b 0;have h1:QB 248 ((dC pts fs t).1*(p.1-(cor pts t 0).1)):=(jm hs.1 (fg e.1 f.1)).le om_;have h2:QB 248 ((dC pts fs t).2*(p.2-(cor pts t 0).2)):=(jm hs.2 (fg e.2 f.2)).le om_;have h:QB 25 (0+fz fs t 0):=(uS QB_zero g).le om_;have j:QB 274 (0+fz fs t 0+(dC pts fs t).1*(p.1-(cor pts t 0).1)):=(uS h h1).le om_;have l:QB 523 (0+fz fs t 0+(dC pts fs t).1*(p.1-(cor pts t 0).1)+(dC pts fs t).2*(p.2-(cor pts t 0).2)):=(uS j h2).le om_;refine ⟨l.le dc_,fun i=>?_,g.le om_,h1.le dc_,h2.le dc_⟩;rcases (by omega:i=0∨i=1∨i=2∨3<=i) with rfl | rfl | rfl | m
 ·exact QB_zero.le dc_
 ·exact h.le dc_
 ·exact j.le dc_
 rw [Qk (by simpa using m)];exact l.le dc_
theorem Lh (e:QB k a)(f:QB k b)(g:QB k c):∀ q∈[a,b,c],QB k q:=by
 intro q d;simp only [PQ,QF,R0] at d;rcases d with rfl | rfl | rfl <;> assumption
theorem Pi (C:Mem)(d:Tabs C)(u v:Value)(a:List Pt)(g:List Tri)(c:List Rat)(k:Nat)(E:0<k)(F:k<=23)(w:MeshIn C u a g)(e:MeshOk a g)(h:Sl C 1 v (c.map ec))(l:c.length=a.length)(r:∀ q∈c,QB k q)(i:Nat)(t:Tri)(m:g[i]?=some t)(p:Pt)(f:QP 23 p) :
  Gives cx.P 63 [u,v,.int .i64 i,ptV p] C (af (qtx (onQ a c t p))):=by
 have n:=O0 m;have x:=e.ins t n;have y:=w;have z:=h;obtain ⟨X,Y,rfl,h1,h2⟩:=id w.ex;obtain ⟨A1,c1,rfl,H,aa,_⟩:=id h1;obtain ⟨A2,c2,rfl,I,ab,_⟩:=id h2;obtain ⟨A4,c4,rfl,ac,ad,_⟩:=id h;have ae:maxLen<=9223372036854775807:=by simp [maxLen]
 simp only [al] at h1 h2 h z y H I ⊢;have ag:=(aJ.1 m).1;have o:=ns e n 0;obtain ⟨ah,J,K,L,M⟩:=KC F e l r n f;have hs:=vK e l r n;have N:QB 25 (p.1-(cor a t 0).1):=(fg f.1 o.1).le dc_;have O:QB 25 (p.2-(cor a t 0).2):=(fg f.2 o.2).le dc_;refine Tr func63 49 U3 fun w0=>Tl fun R b=>TC U6 fun b4=>TC U6 fun b7=>C6 1 [1,2,4,7] b Z<|G.freeze 1 Z fun _ _ s=>Tl fun R b=>Tj (PtrTo.block (Mem.get s mup) _) U8<|Tm 2 Z<|Tw (wY _ d.m_ _ _ a g c k E om_ y.m_ e z.m_ l r i t m) U7 fl_<|TB U5 fun b9=>Ts (j:=0) U12<|Tn [1,2,4,7,9] b Z<|Ti 1 Z fun R b=>Tj (PtrTo.block (Mem.get s mup) _) U8<|Tk U6<|Ty h2.m_ U10 om_ (co m) fl_ fun ai Q=>UU U9 (fun _=>Q) (fun _=>⟨by omega,om_⟩) fl_ Z (fun aj S=>?_);have T:=S trivial;exact Tj T U8<|C6 1 [1,4,7,9,10] b Z<|Ti 1 Z fun R b=>Tj (PtrTo.block (Mem.get s mup) _) U8<|Tk U6<|Ty h1.m_ U10 om_ (co (pe x.1)) fl_ fun ak U=>Tj U U8<|TB U5 fun am=>Ts (j:=0) U12<|Tn [1,7,9,10,11] b Z<|G.freeze 0 Z fun _ _ A=>G.freeze 0 Z fun _ _ B=>G.freeze 0 Z fun _ _ D=>TD [0,1,2,3,4,5,6,7,8,9,10,11,12,13,14,15,16,17,18,19,20,21,22] [(10,1),(11,1),(18,1),(19,1),(21,1)] Z kr_ fun R hB b=>Tm 2 Z<|Ty h.m_ U10 om_ (co (Gw (l ▸ x.1))) fl_ fun an V=>Tj V U8<|Tk U6<|Tj (bkT B 1) U8<|Tk U6<|Tj (bkT D 1) U8<|Tk U6<|Tj (bkT A 1) U8<|TG (fun _=>(dZ _ d.m_ p.1 (cor a t 0).1 23 dc_ dc_ f.1 (o.1.le dc_))) U9<|TG (fun _=>(di _ d.m_ _ _ 300 dc_ dc_ (hs.1.le om_) (N.le dc_))) U9<|Tk U6<|Tj (bkT B 1) U8<|Tk U6<|Tj (bkT D 1) U8<|Tk U6<|Tj (bkT A 1) U8<|TG (fun _=>(dZ _ d.m_ p.2 (cor a t 0).2 23 dc_ dc_ f.2 (o.2.le dc_))) U9<|TG (fun _=>(di _ d.m_ _ _ 300 dc_ dc_ (hs.2.le om_) (O.le dc_))) U9<|TF ([fz c t 0,(dC a c t).1*(p.1-(cor a t 0).1),(dC a c t).2*(p.2-(cor a t 0).2)].map ec) U12 fun ao _ _ W=>TG (fun _=>(LB _ d.m_ _ _ 600 dc_ dc_ W.m_ (Lh K L M) J)) U9<|C6 1 [8] b Z<|Tp U2<|⟨Z,Z⟩
def vc (pts:List Pt)(tris:List Tri)(fs:List Rat)(p:Pt):Value:=match jL pts tris p with
 | []=>.tuple #[af [],.int .i64 28]
 | i::_=>yy (onQ pts fs (tris.getD i (0,0,0)) p)
theorem xG (h:∀ q∈fs,aS (qtx q)=true):(fs.map qtx).all aS=true:=by
 rw [PY];intro s hs;obtain ⟨q,a,rfl⟩:=PK.1 hs;exact h q a
theorem jg (a:List Rat):a.map ec=(a.map qtx).map kc:=by rw [QC];rfl
theorem wa (b:k<=100)(h:∀ q∈fs,QB k q):∀ s∈fs.map qtx,s.length<=999998:=by
 intro s hs;obtain ⟨q,a,rfl⟩:=PK.1 hs;have:=bi ((h q a).le (RJ k)) om_;omega
theorem qu (C:Mem)(i:Tabs C)(c v d:Value)(b:List Pt)(f:List Tri)(a:List Rat)(j:MeshIn C c b f)(l:Good b f)(m:Sl C 1 v [[d]])(g:Sl C 1 d (a.map ec))(n:a.length=b.length)(r:k<=23)(o:∀ q∈a,QB k q)(p:∀ q∈a,aS (qtx q)=true) :
  Gives cx.P 61 [c,v] C (.int .i64 0):=by
 rw [jg] at g;have h:=xt C i c v d b f (a.map qtx) j l m g (wa om_ o);have e:yP b.length (a.map qtx)=0:=by unfold yP;rw [aK (by simpa using n),xG p];rfl
 rwa [e] at h
theorem KE (h:i∈jL pts tris p):∃ t,tris[i]?=some t/\tris.getD i (0,0,0)=t/\yJ pts p t=true:=by
 unfold jL at h;rw [Q4,PX] at h;obtain ⟨h1,h2⟩:=h;obtain ⟨t,a⟩:∃ t,tris[i]?=some t:=⟨tris[i],aj h1⟩;have b:tris.getD i (0,0,0)=t:=by rw [ax,a,QW]
 rw [b] at h2;exact ⟨t,a,b,h2⟩
theorem Of (h:QB 600 q):(qtx q).length<=999998:=PV (bi h dc_) dc_
theorem tj (C:Mem)(e:Tabs C)(x y:Value)(a:List Pt)(c:List Tri)(b:List Rat)(k:Nat)(I:0<k)(j:k<=23)(z:MeshIn C x a c)(l:Good a c)(f:Sl C 1 y (b.map ec))(m:b.length=a.length)(n:∀ q∈b,QB k q)(J:∀ q∈b,aS (qtx q)=true)(p:Pt)(o:QP 23 p)(K:PtR p) :
  Gives cx.P 15 [x,y,ptV p] C (vc a c b p):=by
 have A:=l.ok;have s:=z;obtain ⟨X,Y,rfl,h1,h2⟩:=id z.ex;obtain ⟨L,M,rfl,aa,ab,_⟩:=id f;simp only [al] at f ⊢;have ac:maxLen<=9223372036854775807:=by simp [maxLen]
 refine Tr func15 40 U3 fun w0=>Tl fun R d=>TC U6 fun b3=>TC U6 fun b5=>C6 2 [1,3,5] d Z<|G.freeze 1 Z fun _ _ u=>G.freeze 0 Z fun _ _ B=>Tl fun R d=>Tj (PtrTo.block (Mem.get u mup) _) U8<|Tk U6<|TF [[.slice L b.length M]] U12 fun ad _ _ N=>Tt (qu _ e.m_ _ _ _ a c b s.m_ l N.m_ f.m_ m j n J) U7<|C6 1 [1,3,5,8] d Z<|Th 2 [1,3,5,8,16] Z<|G.cd (fun D=>?_) fun D=>?_
 ·exact absurd D dc_
 refine Tl fun R d=>Tj (PtrTo.block (Mem.get u mup) _) U8<|Tj (PtrTo.block (Mem.get B mup) _) U8<|TT (iX _ e.m_ _ a c p s.m_ l o K) U7 (fun ae _ _ O=>?_);obtain ⟨wv,rfl,v⟩:=O;obtain ⟨Aw,cw,E,_⟩:=id v;rw [al] at E;subst E;refine C6 5 [1,3,5,9,10] d Z<|Th 2 [1,3,5,9,10,25] Z<|G.cd (fun F=>?_) fun F=>?_
 ·exact absurd F dc_
 refine Th 3 [1,3,5,9,29] Z<|G.cd (fun g=>?_) fun g=>?_
 ·have Q:jL a c p=[]:=by
   have h:(((jL a c p).length:Nat):Int)=0:=by simpa using g
   exact Qo om_
  refine Th 2 [6,7] Z<|Tu (G.dropAll (TM U3 ?_));exact ⟨by unfold vc;rw [Q];rfl,Z⟩
 obtain ⟨i,r,w⟩:∃ i r,jL a c p=i::r:=by
  cases S:jL a c p with
  | nil=>rw [S] at g;exact absurd g dc_
  | cons i r=>exact ⟨i,r,rfl⟩
 obtain ⟨t,H,T,_⟩:=KE (pts:=a) (tris:=c) (p:=p) (i:=i) (by rw [w];simp);have U:=KC j A m n (O0 H) o;have V:vc a c b p=yy (onQ a b t p):=by unfold vc;rw [w];show yy (onQ a b (c.getD i (0,0,0)) p)=_;rw [T]
 rw [w] at v ⊢;refine TD [0,1,2,3,4,5,6,7,8,9,10,11] [(6,1),(7,1)] Z kr_ fun R hB d=>Tj (PtrTo.block (Mem.get u mup) _) U8<|Tm 2 Z<|Ty v.m_ U10 om_ (rfl:(List.map aT (i::r))[0]?=some (aT i)) fl_ fun ag W=>Tj W U8<|Tj (PtrTo.block (Mem.get B mup) _) U8<|TU (fun _=>(Pi _ e.m_ _ _ a c b k I j s.m_ A f.m_ m n i t H p o)) U9<|TU (fun _=>(Gy _ e.m_ _ (Of U.1))) U9 ?_;rw [show yy (onQ a b t p)=.tuple #[if aS (qtx (onQ a b t p)) then af (qtx (onQ a b t p)) else af [],.int .i64 (if aS (qtx (onQ a b t p)) then 0 else 4)] by unfold yy;split <;> rfl];refine C6 4 [6,7] d Z<|Tu (G.dropAll (TM U3 ?_));refine ⟨?_,Z⟩;rw [V];unfold yy;split <;> rfl
theorem Od (h:QP 22 p):PtR p:=⟨bB h.1,bB h.2⟩
theorem tx (C:Mem)(f:Tabs C)(l m:Value)(c:List Pt)(d:List Tri)(b:List Rat)(k:Nat)(z:0<k)(A:k<=23)(n:MeshIn C l c d)(o:Good c d)(e:Sl C 1 m (b.map ec))(p:b.length=c.length)(r:∀ q∈b,QB k q)(B:∀ q∈b,aS (qtx q)=true)(i:Nat)(t:Tri)(s:d[i]?=some t)(u:QP 22 (dC c b t)) :
  Gives cx.P 293 [l,m,.int .i64 i] C (.tuple #[ptV (dC c b t),.int .i64 0]):=by
 have D:=o.ok;have g:=n;have I:=(aJ.1 s).1;obtain ⟨J,K,rfl,h1,h2⟩:=id n.ex;obtain ⟨A2,c2,rfl,L,M,_⟩:=id h2;obtain ⟨E,F,rfl,N,O,_⟩:=id e;simp only [al] at e h2 g ⊢;have Q:maxLen<=9223372036854775807:=by simp [maxLen]
 refine Tr func293 37 U3 fun w0=>Tl fun R a=>TC U6 fun S=>TB U5 fun T=>C6 1 [1,2,3,6] a Z<|G.freeze 1 Z fun _ _ h=>Tl fun R a=>Tj (PtrTo.block (Mem.get h mup) _) U8<|Tk U6<|TF [[.slice E b.length F]] U12 fun U _ _ H=>Tt (qu _ f.m_ _ _ _ c d b g.m_ o H.m_ e.m_ p A r B) U7<|C6 1 [1,2,3,6,8] a Z<|Th 2 [1,2,3,6,8,15] Z<|G.cd (fun v=>?_) fun v=>?_
 ·exact absurd v dc_
 refine Ti 5 Z fun R a=>TN U6 (fun _=>PtrTo.block (Mem.get h mup) _) U3<|Tm 2 Z<|TQ U8<|Tn [1,2,3,6,26] a Z<|G.cd (fun w=>?_) fun w=>?_
 ·exfalso;simp only [Ru,PN] at w;omega
 refine Tl fun R a=>Tj (PtrTo.block (Mem.get h mup) _) U8<|Tm 2 Z<|Tw (wY _ f.m_ _ _ c d b k z om_ g.m_ D e.m_ p r i t s) U7 fl_<|TB U5 fun V=>Ts (j:=0) U12<|Tn [6,9] a Z<|G.freeze 0 Z fun _ _ x=>Tl fun R a=>Tj (PtrTo.block (Mem.get x mup) _) U8<|Tw (ip _ f.m_ _ (u.le dc_) (Od u)) U7 fl_<|C6 1 [6,9,34] a Z<|G.cd (fun y=>?_) fun y=>?_
 ·exact absurd y dc_
 refine Tl fun R a=>Tj (PtrTo.block (Mem.get x mup) _) U8<|Ts (j:=0) U12<|C6 1 [6,7] a Z<|Tu (UC ag U5 ?_);exact ⟨Z,Z⟩
def ka {α:Type}(p:α->Bool):List α->Nat->Int
 | [],_=>-1
 | x::l,k=>if p x then (k:Nat) else ka p l (k+1)
theorem uh {a:Type}{p:a->Bool}:∀ {l:List a}{i k:Nat}{x:a},l[i]?=some x->p x=true->(∀ y∈l.take i,p y=false)->ka p l k=((k+i:Nat):Int)
 | y::l,0,k,x,h,b,_=>by
  simp only [List.getElem?_cons_zero,Qh] at h;subst h;simp [ka,b]
 | y::l,i+1,k,x,h,b,c=>by
  simp only [Re] at h;have hy:p y=false:=c y am;have:=uh (k:=k+1) h b (fun z d=>c z (by simp [d]));simp only [ka,hy,Qu,Q0,this];omega
theorem pM {a:Type}{p:a->Bool}:∀ {l:List a}{k:Nat},(∀ y∈l,p y=false)->ka p l k=-1
 | [],_,_=>rfl
 | y::l,k,h=>by
  simp only [ka,h y PG,Qu,Q0];exact pM fun z b=>h z (PP _ b)
theorem rW (p:α->Bool)(l:List α):(ka p l 0=-1/\∀ y∈l,p y=false)∨∃ (i:Nat)(x:α),ka p l 0=(i:Nat)/\l[i]?=some x/\p x=true/\∀ y∈l.take i,p y=false:=by
 by_cases h:∀ y∈l,p y=false
 ·exact .inl ⟨pM h,h⟩
 right;have d:∀ (l:List α),(¬ ∀ y∈l,p y=false)->∃ (i:Nat)(x:α),l[i]?=some x/\p x=true/\∀ y∈l.take i,p y=false:=by
  intro l;induction l with
  | nil=>intro h;exact absurd (fun y hy=>(by cases hy)) h
  | cons a l e =>
   intro h;by_cases b:p a=true
   ·exact ⟨0,a,Z,b,by simp⟩
   have c:p a=false:=by simpa using b
   obtain ⟨i,x,h1,h2,h3⟩:=e (fun h2=>h (fun y hy=>by
    rcases PQ.1 hy with rfl | hy
    ·exact c
    exact h2 y hy))
   refine ⟨i+1,x,by simpa using h1,h2,fun y hy=>?_⟩;rw [List.take_succ_cons] at hy;rcases PQ.1 hy with rfl | hy
   ·exact c
   exact h3 y hy
 obtain ⟨i,x,h1,h2,h3⟩:=d l h;exact ⟨i,x,by rw [uh h1 h2 h3,Q1],h1,h2,h3⟩
structure Lay where
 unit:Str
 min:Rat
 max:Option Rat
def ve:Option Rat->Str
 | none=>[]
 | some q=>qtx q
def sj (x:Lay):List Value:=[af x.unit,af (qtx x.min),af (ve x.max)]
def isU (u:Str)(x:Lay):Bool:=decide (x.unit=u)
def No (x:Lay):Prop:=QB 22 x.min/\(∀ q,x.max=some q->QB 22 q)/\x.unit.length<=999998
theorem pp (m:Option Rat):(!((⟨(ve m).toArray⟩:ByteArray).data.toList == (⟨#[]⟩:ByteArray).data.toList))=m.isSome:=by
 cases m with
 | none=>rfl
 | some q =>
  have:=wb q;show (!(qtx q == []))=true;cases h:qtx q with
  | nil=>rw [h] at this;simp at this
  | cons a l=>rfl
theorem lO (C:Mem)(v:Value)(l:List Lay)(g:Nat)(d:List Value)(a:Lay->Bool)(e:Sl C 3 v (l.map sj))(_A:Jog.Enters cx.P g=true)
  (n:∀ x∈l,∀ D:Mem,C.le D->Gives cx.P g (.agg ⟨sj x⟩::d) D (.bool (a x))) :
  Gives cx.P 317 [v,.func (.func g) #[] ⟨d⟩] C (.int .i64 (ka a l 0)):=by
 obtain ⟨o,c0,rfl,p,B,_⟩:=id e;have E:maxLen<=9223372036854775807:=by simp [maxLen]
 simp only [al] at e p ⊢;refine Tr func317 19 U3 fun w0=>Th 1 [0,1] Z<|Th 3 [0,1,7,8] Z<|G.loop (fun fr F q r=>∃ (i:Nat),(i<=l.length/\∀ y∈l.take i,a y=false)/\fr=[(0,[],.slice o l.length c0),(1,[],.func (.func g) #[] ⟨d⟩),(7,[],.int .i64 l.length),(8,[],.int .i64 i)]/\q=[]/\r=l.length-i) (hn_ [0,1,7,8] Z) ⟨0,⟨PL _,by simp⟩,Z,Z,Z⟩ (fun fr H I m s t=>?_);obtain ⟨i,⟨J,b⟩,rfl,rfl,rfl⟩:=t;refine Th 1 [0,1,7,8,9] Z<|G.cd (fun f=>?_) fun f=>?_
 ·have h:i<l.length:=by simpa using f
  obtain ⟨x,c⟩:∃ x,l[i]?=some x:=⟨l[i],aj h⟩;refine Th 2 [0,1,5,7,8] Z<|Ti 3 Z fun R j=>Ty e.m_ U10 om_ (co c) fl_ fun K u=>Tj u U8<|Tt (n x (O0 c) _ mup) U7<|Tn [0,1,5,7,8,16] j Z<|G.cd (fun k=>?_) fun k=>?_
  ·have w:a x=true:=k;exact Th 2 [4] Z<|Tp U2<|⟨by rw [uh c w b,Q1],Z⟩
  have z:a x=false:=k;refine Tl fun R j=>Tq _ Z U6<|C6 1 [0,1,7,8] j Z<|Tv (m':=l.length-(i+1)) om_ s (hn_ [0,1,7,8] Z) ⟨i+1,⟨by omega,fun y hy=>by
   rw [P6,c] at hy;rcases PU.1 hy with hy | hy
   ·exact b y hy
   simp only [Q2,PZ] at hy;subst hy;exact z⟩,Z,Z,Z⟩
 have h:i=l.length:=by
  have:¬ i<l.length:=by simpa using f
  omega
 exact Th 1 [4] Z<|Tp U2<|⟨by rw [h,PT] at b;rw [pM b],Z⟩
theorem H0 (a b:Str):((⟨a.toArray⟩:ByteArray).data.toList == (⟨b.toArray⟩:ByteArray).data.toList)=decide (a=b):=by
 show (a == b)=_;by_cases h:a=b <;> simp [h]
theorem G5 (C:Mem)(b:Nat)(u:Str)(x:Lay)(c:C b=some (.cells ⟨[af u]⟩ 9 (0,0))):Gives cx.P 318 [.agg ⟨sj x⟩,.pointer (some ⟨b,0,none⟩)] C (.bool (isU u x)):=by
 exact Tr func318 8 U3 fun w0=>Tl fun R a=>TC U6 fun d=>C6 1 [1,2] a Z<|Ti 1 Z fun R a=>To ag U9<|Tj (PtrTo.block (Mem.get c mup) _) U8<|C6 2 [3] a Z<|Tp U2<|⟨by unfold isU;rw [<- H0],Z⟩
theorem zr (C:Mem)(b:Nat)(u:Str)(x:Lay)(c:C b=some (.cells ⟨[af u]⟩ 9 (0,0))):Gives cx.P 320 [.agg ⟨sj x⟩,.pointer (some ⟨b,0,none⟩)] C (.bool (isU u x)):=by
 exact Tr func320 8 U3 fun w0=>Tl fun R a=>TC U6 fun d=>C6 1 [1,2] a Z<|Ti 1 Z fun R a=>To ag U9<|Tj (PtrTo.block (Mem.get c mup) _) U8<|C6 2 [3] a Z<|Tp U2<|⟨by unfold isU;rw [<- H0],Z⟩
theorem BS (C:Mem)(v:Value)(l:List Lay)(u:Str)(c:Sl C 3 v (l.map sj)):Gives cx.P 286 [v,af u] C (.int .i64 (ka (isU u) l 0)):=by
 exact Tr func286 8 U3 fun w0=>Tl fun R a=>TC U6 fun b=>C6 1 [0,3] a Z<|G.freeze 0 Z fun _ _ d=>Ti 2 Z fun R a=>Tt (lO _ _ l 318 [.pointer (some ⟨b,0,none⟩)] (isU u) c.m_ Z (fun x _ D e=>G5 D b u x (e _ _ (Mem.get d mup)))) U7<|C6 1 [4] a Z<|Tp U2<|⟨Z,Z⟩
theorem jU (C:Mem)(v:Value)(l:List Lay)(u:Str)(c:Sl C 3 v (l.map sj)):Gives cx.P 288 [v,af u] C (.int .i64 (ka (isU u) l 0)):=by
 exact Tr func288 8 U3 fun w0=>Tl fun R a=>TC U6 fun b=>C6 1 [0,3] a Z<|G.freeze 0 Z fun _ _ d=>Ti 2 Z fun R a=>Tt (lO _ _ l 320 [.pointer (some ⟨b,0,none⟩)] (isU u) c.m_ Z (fun x _ D e=>zr D b u x (e _ _ (Mem.get d mup)))) U7<|C6 1 [4] a Z<|Tp U2<|⟨Z,Z⟩
theorem tG (h:QB 22 q):(qtx q).length<=999998:=PV (bi h dc_) dc_
theorem CS (h:QB 22 q):(qtx q).length<=1000000:=PV (bi h dc_) dc_
theorem Je (C:Mem)(d:Tabs C)(x:Lay)(e:No x):Gives cx.P 284 [.agg ⟨sj x⟩] C (.int .i64 0):=by
 obtain ⟨u,f,c⟩:=x;obtain ⟨h1,h2,h3⟩:=e;simp only at h1 h2 h3;clear h3;have g:(ve c).length<=999998:=by
  cases c with
  | none=>decide
  | some q=>exact tG (h2 q rfl)
 refine Tr func284 17 U3 fun w0=>Tl fun R a=>TC U6 fun h=>C6 1 [1] a Z<|Ti 1 Z fun R a=>To ag U9<|Tt (dD _ d.m_ (qtx f) (tG h1)) U7<|C6 2 [1,3] a Z<|G.cd (fun h3=>?_) fun h3=>?_
 ·exfalso;rw [xr h1] at h3;exact absurd h3 dc_
 refine Ti 1 Z fun R a=>To ag U9<|Tm 3 Z<|To ag U9<|TU (fun _=>(dD _ d.m_ (ve c) g)) U9<|Tk U6<|TJ U8<|C6 1 [3] a Z<|G.cd (fun b=>?_) fun b=>?_
 ·exfalso;simp only [] at b;cases c with
  | none=>exact absurd b dc_
  | some q =>
   rw [show ve (some q)=qtx q from rfl,xr (h2 q rfl)] at b;simp at b
 exact Th 1 [2] Z<|Tp U2<|⟨Z,Z⟩
def F6 (x:Lay):Bool:=match x.max with
 | none=>false
 | some m=>decide (m<x.min)
def KJ (pre:List Lay)(x:Lay):Int:=if cW x.unit=false then 8 else if 0<=ka (isU x.unit) pre 0 then 9 else if x.min<0 then 3 else if F6 x then 6 else 0
def DD (l:List Lay):Nat->Int
 | 0=>0
 | n+1=>if DD l n≠0 then DD l n else KJ (l.take n) (l.getD n ⟨[],0,none⟩)
def ri (l:List Lay):Int:=if l=[] then 13 else if 60<l.length then 4 else DD l l.length
theorem xo {l:List Lay}{n:Nat}(h:DD l n≠0):∀ m,n<=m->DD l m=DD l n
 | 0,hm=>by rw [show n=0 by omega]
 | m+1,hm=>by
  rcases P8 m n with h1 | h1
  ·rw [show n=m+1 by omega]
  have a:=xo h m h1;simp only [DD,a];rw [aK h]
theorem KH {l:List Lay}{x:Lay}(h:l[i]?=some x):l.getD i ⟨[],0,none⟩=x:=by rw [ax,h,QW]
theorem BR {l:List Lay}{x:Lay}(a:DD l i=0)(b:l[i]?=some x):DD l (i+1)=KJ (l.take i) x:=by
 simp only [DD,a];rw [aG dc_,KH b]
theorem uG {l:List Lay}{x:Lay}(d:DD l i=0)(a:l[i]?=some x)(b:KJ (l.take i) x=z)(f:z≠0)(g:¬ 60<l.length):ri l=z:=by
 have c:=(aJ.1 a).1;have h1:=BR d a;unfold ri;rw [aG (fun e=>by rw [e] at c;simp at c),aG g,xo (n:=i+1) (by rw [h1,b];exact f) l.length om_,h1,b]
theorem MY (C:Mem)(c:Tabs C)(a:Option Rat)(b:Rat)(d:QB 22 b)(e:∀ q,a=some q->QB 22 q)(h:(!((⟨(ve a).toArray⟩:ByteArray).data.toList == (⟨#[]⟩:ByteArray).data.toList))=true) :
  Gives cx.P 218 [af (ve a),af (qtx b)] C (.int .i64 (sD (a.getD 0) b)):=by
 rw [pp] at h;cases a with
 | none=>cases h
 | some q=>exact gM C c q b 22 dc_ dc_ (e q rfl) d
theorem Bz (x:Lay):(x.max.isSome && decide (sD (x.max.getD 0) x.min<0))=F6 x:=by
 unfold F6;cases x.max with
 | none=>rfl
 | some q =>
  show (true && decide (sD q x.min<0))=decide (q<x.min);unfold sD;by_cases h:q<x.min
  ·simp [h]
  rw [aG h,Qc h];split <;> rfl
theorem tV (q:Rat):decide (eN q.num<0)=decide (q<0):=by
 rw [Qy,<- AV];rcases ek q.num with h | h | h <;> omega
theorem qq (C:Mem)(y:Tabs C)(v:Value)(l:List Lay)(k:Sl C 3 v (l.map sj))(F:∀ x∈l,No x)(S:l.length<=1000000):Gives cx.P 238 [v] C (.int .i64 (ri l)):=by
 obtain ⟨A,c0,rfl,H,T,_⟩:=id k;have U:maxLen<=9223372036854775807:=by simp [maxLen]
 simp only [al] at k H ⊢;refine Tr func238 57 U3 fun w0=>Th 1 [0] Z<|Th 4 [0,6] Z<|G.cd (fun n=>?_) fun n=>?_
 ·have h0:l=[]:=by
   have h:((l.length:Nat):Int)=0:=by simpa using n
   exact Qo om_
  exact Th 1 [2] Z<|Tp U2<|⟨by rw [h0];rfl,Z⟩
 have h0:l≠[]:=by
  intro e;rw [e] at n;exact absurd n dc_
 refine Th 4 [0,10] Z<|G.cd (fun o=>?_) fun o=>?_
 ·have h60:60<l.length:=by
   simp only [PN] at o;omega
  exact Th 1 [2] Z<|Tp U2<|⟨by unfold ri;rw [aG h0,aK h60],Z⟩
 have h60:¬ 60<l.length:=by
  simp only [P7] at o;omega
 refine Th 3 [0,14,15,16] Z<|G.loop (fun fr V I J=>∃ (i:Nat),(i<=l.length/\DD l i=0)/\fr=[(0,[],.slice A l.length c0),(14,[],.slice A l.length c0),(15,[],.int .i64 l.length),(16,[],.int .i64 i)]/\I=[]/\J=l.length-i) (hn_ [0,14,15,16] Z) ⟨0,⟨PL _,Z⟩,Z,Z,Z⟩ (fun fr W X m K L=>?_);obtain ⟨i,⟨Y,b⟩,rfl,rfl,rfl⟩:=L;refine Th 1 [0,14,15,16,17] Z<|G.cd (fun p=>?_) fun p=>?_
 ·have q:i<l.length:=by simpa using p
  obtain ⟨x,c⟩:∃ x,l[i]?=some x:=⟨l[i],aj q⟩;obtain ⟨r,B,M⟩:=F x (O0 c);have D:=Sl.sub k (l:=0) (h:=i) (m:=c0) (PL _) ap om_ (PE _);rw [QV,<- RW] at D;refine Ti 1 Z fun R a=>Ty k.m_ U10 om_ (co c) fl_ fun aa N=>Tj N U8<|TB U5 fun b4=>Tk U6<|Ts (j:=0) U12<|Tn [0,3,4,14,15,16] a Z<|Tl fun R a=>To ag U9<|Tt (Je _ y.m_ x ⟨r,B,M⟩) U7<|C6 1 [0,3,4,5,14,15,16] a Z<|Th 2 [0,3,4,5,14,15,16,24] Z<|G.cd (fun E=>?_) fun E=>?_
  ·exact absurd E dc_
  refine Ti 1 Z fun R a=>To ag U9<|Tw (ib _ x.unit om_) U7 fl_<|C6 2 [0,3,4,14,15,16,26] a Z<|G.cd (fun s=>?_) fun s=>?_
  ·have d:cW x.unit=false:=by simpa using s
   exact Th 1 [2] Z<|Tp U2<|⟨by rw [uG (z:=8) b c (by unfold KJ;rw [aK d]) dc_ h60],Z⟩
  have d:¬ cW x.unit=false:=by
   have h:cW x.unit=true:=by simpa using s
   rw [h];decide
  refine TD [0,1,2,3,4,5,6,7] [(5,1)] Z kr_ fun R hB a=>Tm 2 Z<|Um 0 i c0 U12 (fun _=>⟨.inl ⟨Z,Z⟩,.inr ⟨_,Z⟩,.inl ⟨Z,Z⟩,by omega,by omega,by omega⟩) U2<|Tk U6<|To ag U9<|TU (fun _=>(BS _ _ (l.take i) x.unit D.m_)) U9<|C6 2 [0,4,14,15,16,31] a Z<|G.cd (fun t=>?_) fun t=>?_
  ·have f:0<=ka (isU x.unit) (l.take i) 0:=by simpa using t
   exact Th 1 [2] Z<|Tp U2<|⟨by rw [uG (z:=9) b c (by unfold KJ;rw [aG d,aK f]) dc_ h60],Z⟩
  have f:¬ 0<=ka (isU x.unit) (l.take i) 0:=by simpa using t
  refine Ti 1 Z fun R a=>To ag U9<|Tt (fY _ x.min (CS r)) U7<|C6 2 [0,4,14,15,16,39] a Z<|G.cd (fun g=>?_) fun g=>?_
  ·have hs:x.min<0:=by
    rw [tV] at g;exact aY g
   exact Th 1 [2] Z<|Tp U2<|⟨by rw [uG (z:=3) b c (by unfold KJ;rw [aG d,aG f,aK hs]) dc_ h60],Z⟩
  have hs:¬ x.min<0:=by
   rw [tV] at g;exact PJ g
  refine Ti 1 Z fun R a=>To ag U9<|Tm 3 Z<|To ag U9<|Tk U6<|To ag U9<|TG (fun O=>(MY _ y.m_ x.max x.min r B (by exact O.1))) U9<|Tk U6<|TJ U8<|C6 1 [0,14,15,16,44] a Z<|G.cd (fun u=>?_) fun u=>?_
  ·have w:F6 x=true:=by
    rw [<- Bz,<- pp];exact u
   exact Th 1 [2] Z<|Tp U2<|⟨by rw [uG (z:=6) b c (by unfold KJ;rw [aG d,aG f,aG hs,aK w]) dc_ h60],Z⟩
  have w:F6 x=false:=by
   rw [<- Bz,<- pp];exact u
  have Q:DD l (i+1)=0:=by rw [BR b c];unfold KJ;rw [aG d,aG f,aG hs,w];rfl
  refine Tl fun R a=>Tq _ Z U6<|C6 1 [0,14,15,16] a Z<|G.dropAll<|Tv (m':=l.length-(i+1)) om_ K (hn_ [0,14,15,16] Z) ⟨i+1,⟨by omega,Q⟩,Z,Z,Z⟩
 have q:i=l.length:=by
  have:¬ i<l.length:=by simpa using p
  omega
 refine Th 1 [2] Z<|Tp U2<|⟨?_,Z⟩;rw [q] at b;unfold ri;rw [aG h0,aG h60,b]
theorem zi (C:Mem)(f:Tabs C)(v:Value)(l:List Lay)(u:Str)(c:Sl C 3 v (l.map sj))(g:∀ x∈l,No x)(a:ri l=0)(i:Nat)(j:ka (isU u) l 0=(i:Nat)):Gives cx.P 247 [v,af u] C (.tuple #[.int .i64 (i:Nat),.bool true,.int .i64 0]):=by
 have k:l.length<=1000000:=by
  unfold ri at a;split at a
  ·cases a
  split at a
  ·cases a
  omega
 refine Tr func247 20 U3 fun w0=>Th 3 [0,1] Z<|Ti 1 Z fun R b=>Tw (by have h:=qq _ f.m_ v l c.m_ g k;rw [a] at h;exact h) U7 fl_<|C6 1 [0,1,7] b Z<|Th 2 [0,1,7,12] Z<|G.cd (fun d=>?_) fun d=>?_
 ·exact absurd d dc_
 refine Ti 2 Z fun R b=>Tw (by have h:=BS _ v l u c.m_;rw [j] at h;exact h) U7 fl_<|C6 1 [8] b Z<|Th 2 [8,18] Z<|G.cd (fun e=>?_) fun e=>?_
 ·refine Th 4 [4,5,6] Z<|Tu (G.dropAll (Uk U4 ?_));exact ⟨Z,Z⟩
 exfalso;simp only [P7] at e;omega
structure Obs where
 kind:Int
 name:Str
 x:Str
 y:Str
 depth:Str
 upper:Str
 lower:Str
 nx:Str
 ny:Str
 nz:Str
def rb (o:Obs):List Value:=[.int .i64 o.kind,af o.name,af o.x,af o.y,af o.depth,af o.upper,af o.lower,af o.nx,af o.ny,af o.nz]
structure ObsR (o:Obs):Prop where
 name:o.name.length<=999998
 x:o.x.length<=999998
 y:o.y.length<=999998
 depth:o.depth.length<=999998
 upper:o.upper.length<=999998
 lower:o.lower.length<=999998
 nx:o.nx.length<=999998
 ny:o.ny.length<=999998
 nz:o.nz.length<=999998
def kK (o:Obs):Bool:=(!cW o.name || !cW o.upper) || ((!(o.kind == 1)) && !cW o.lower)
def lD (o:Obs):Bool:=(!(aS o.x && aS o.y) || ((o.kind == 2) && !aS o.depth)) || ((o.kind == 3) && !(aS o.nx && aS o.ny && aS o.nz))
def kO (o:Obs):Bool:=(((o.kind == 1) && !(o.lower == [])) || ((!(o.kind == 2)) && !(o.depth == []))) || ((!(o.kind == 3)) && !(decide (o.nx=[]/\o.ny=[]/\o.nz=[])))
def dS (o:Obs):Int:=if o.kind<1∨3<o.kind then 12 else if kK o then 8 else if lD o then 2 else if kO o then 7 else 0
theorem nil3 (a b c:Str):(!((a == []) && ((b == []) && ((c == []) && true))))=!decide (a=[]/\b=[]/\c=[]):=by
 cases a <;> cases b <;> cases c <;> rfl
theorem Hc (b:Bool):(nX b != 0)=!b:=by cases b <;> rfl
theorem Ig (C:Mem)(h:Tabs C)(o:Obs)(b:ObsR o):Gives cx.P 287 [.agg ⟨rb o⟩] C (.int .i64 (dS o)):=by
 have h1:=b.name;have h2:=b.upper;have h3:=b.lower;refine Tr func287 87 U3 fun w0=>Tl fun R c=>TC U6 fun m=>C6 1 [1] c Z<|G.freeze 0 Z fun _ _ a=>Ti 1 Z fun R c=>Tj (bkT a 1) U8<|Tm 3 Z<|TN U6 (fun _=>PtrTo.blockT (Mem.get a mup) _ 1) U3<|Tk U6<|TQ U8<|Tn [1,10] c Z<|G.cd (fun i=>?_) fun i=>?_
 ·have d:o.kind<1∨3<o.kind:=by simpa using i
  exact Th 1 [2] Z<|Tp U2<|⟨by unfold dS;rw [aK d],Z⟩
 have d:¬ (o.kind<1∨3<o.kind):=by simpa using i
 refine Ti 1 Z fun R c=>Tj (bkT a 1) U8<|Tw (ib _ o.name om_) U7 fl_<|Tm 3 Z<|TN U6 (fun _=>PtrTo.blockT (Mem.get a mup) _ 1) U3<|TG (fun _=>(ib _ o.upper om_)) U9<|Tk U6<|TQ U8<|Tm 2 Z<|TN U6 (fun _=>PtrTo.blockT (Mem.get a mup) _ 1) U3<|Tm 3 Z<|TN U6 (fun _=>PtrTo.blockT (Mem.get a mup) _ 1) U3<|TG (fun _=>(ib _ o.lower om_)) U9<|Tk U6<|TJ U8<|TQ U8<|Tn [1,31] c Z<|G.cd (fun j=>?_) fun j=>?_
 ·have e:kK o=true:=j;exact Th 1 [2] Z<|Tp U2<|⟨by unfold dS;rw [aG d,aK e],Z⟩
 have e:¬ kK o=true:=by rw [show kK o=false from j];decide
 refine Ti 1 Z fun R c=>Tj (bkT a 2) U8<|Tt (fu _ h.m_ o.x o.y b.x b.y) U7<|Tm 3 Z<|TN U6 (fun _=>PtrTo.blockT (Mem.get a mup) _ 1) U3<|Tm 3 Z<|TN U6 (fun _=>PtrTo.blockT (Mem.get a mup) _ 1) U3<|TU (fun _=>(dD _ h.m_ o.depth b.depth)) U9<|Tk U6<|TJ U8<|TQ U8<|Tm 2 Z<|TN U6 (fun _=>PtrTo.blockT (Mem.get a mup) _ 1) U3<|Tm 3 Z<|TN U6 (fun _=>PtrTo.blockT (Mem.get a mup) _ 3) U3<|TU (fun _=>(rj _ h.m_ o.nx o.ny o.nz b.nx b.ny b.nz)) U9<|Tk U6<|TJ U8<|TQ U8<|Tn [1,57] c Z<|G.cd (fun f=>?_) fun f=>?_
 ·have g:lD o=true:=by
   simp only [Hc] at f;exact f
  exact Th 1 [2] Z<|Tp U2<|⟨by unfold dS;rw [aG d,aG e,aK g],Z⟩
 have g:¬ lD o=true:=by
  simp only [Hc] at f;rw [show lD o=false from f];decide
 refine Ti 1 Z fun R c=>Tj (bkT a 1) U8<|Tm 3 Z<|TN U6 (fun _=>PtrTo.blockT (Mem.get a mup) _ 1) U3<|Tk U6<|TJ U8<|Tm 2 Z<|TN U6 (fun _=>PtrTo.blockT (Mem.get a mup) _ 1) U3<|Tm 3 Z<|TN U6 (fun _=>PtrTo.blockT (Mem.get a mup) _ 1) U3<|Tk U6<|TJ U8<|TQ U8<|Tm 2 Z<|TN U6 (fun _=>PtrTo.blockT (Mem.get a mup) _ 1) U3<|Tm 3 Z<|TN U6 (fun _=>PtrTo.blockT (Mem.get a mup) _ 3) U3<|TA [af [],af [],af []] U8<|VJ (!decide (o.nx=[]/\o.ny=[]/\o.nz=[])) kr_ Z Z Z Z Z Z Z Z (fun _=>(nil3 o.nx o.ny o.nz)) Z Z<|TJ U8<|TQ U8<|Tn [86] c Z<|G.cd (fun k=>?_) fun k=>?_
 ·have l:kO o=true:=k;exact Th 1 [2] Z<|Tp U2<|⟨by unfold dS;rw [aG d,aG e,aG g,aK l],Z⟩
 have l:¬ kO o=true:=by rw [show kO o=false from k];decide
 exact Th 1 [2] Z<|Tp U2<|⟨by unfold dS;rw [aG d,aG e,aG g,aG l],Z⟩
noncomputable def da (s:Str):Rat:=if h:aS s=true then (AS h).choose else 0
theorem dw {s:Str}(h:aS s=true):s=qtx (da s)/\QB 23 (da s):=by
 unfold da;rw [dif_pos h];exact (AS h).choose_spec
theorem cR (h:aS (qtx q)=true):da (qtx q)=q:=(ly (dw h).1).symm
noncomputable def ptO (o:Obs):Pt:=(da o.x,da o.y)
noncomputable def JN (pts:List Pt)(tris:List Tri)(o:Obs):Bool:=decide (jL pts tris (ptO o)≠[])
def Kk (col:List Lay)(o:Obs):Bool:=decide (ka (isU o.upper) col 0<0) || ((!(o.kind == 1)) && decide (ka (isU o.lower) col 0<0))
def ordB (col:List Lay)(o:Obs):Bool:=(!(o.kind == 1)) && decide (ka (isU o.upper) col 0<=ka (isU o.lower) col 0)
noncomputable def depB (o:Obs):Bool:=(o.kind == 2) && decide (da o.depth<0)
def HK (o:Obs):Bool:=(o.kind == 3) && decide (o.nz=[48])
noncomputable def gS (pts:List Pt)(tris:List Tri)(col:List Lay)(o:Obs):Int :=
 if dS o≠0 then dS o else if JN pts tris o=false then 28 else if Kk col o then 10 else if ordB col o then 6 else if depB o then 3 else if HK o then 17 else 0
theorem rA {o:Obs}(h:dS o=0):aS o.x=true/\aS o.y=true/\(o.kind=2->aS o.depth=true):=by
 unfold dS at h;split at h
 ·cases h
 split at h
 ·cases h
 split at h
 ·cases h
 rename_i b;have a:lD o=false:=by simpa using b
 unfold lD at a;rw [Rk,Rk] at a;obtain ⟨⟨h1,h2⟩,_⟩:=a;have h3:(aS o.x && aS o.y)=true:=by simpa using h1
 rw [PR] at h3;refine ⟨h3.1,h3.2,fun c=>?_⟩;rw [c] at h2;simpa using h2
theorem Oe {o:Obs}(h:dS o=0):ptV (ptO o)=.agg ⟨[af o.x,af o.y]⟩/\QP 23 (ptO o)/\PtR (ptO o):=by
 obtain ⟨h1,h2,_⟩:=rA h;obtain ⟨a,c⟩:=dw h1;obtain ⟨b,d⟩:=dw h2;refine ⟨?_,⟨c,d⟩, ?_, ?_⟩
 ·unfold ptV gi ptO;rw [<- a,<- b]
 ·unfold ptO;rw [<- a];exact h1
 unfold ptO;rw [<- b];exact h2
theorem dP {k:Int}(h:(k == z)=true):k=z:=by simpa using h
theorem H9 (C:Mem)(s:Str)(h:aS s=true)(a:s.length<=999998):Gives cx.P 94 [af s] C (.int .i64 (eN (da s).num)):=by
 have e:=(dw h).1;have h2:=fY C (da s) (by have:=a;exact PV (bi (dw h).2 dc_) dc_)
 rwa [<- e] at h2
theorem Mg (C:Mem)(u:Tabs C)(v w:Value)(d:List Pt)(f:List Tri)(b:List Lay)(o:Obs)(x:MeshIn C v d f)(A:Good d f)(y:Sl C 3 w (b.map sj))(z:ObsR o) :
  Gives cx.P 239 [v,w,.agg ⟨rb o⟩] C (.int .i64 (gS d f b o)):=by
 have B:=x;obtain ⟨L,M,rfl,h1,h2⟩:=id x.ex;refine Tr func239 79 U3 fun w0=>Tl fun R a=>TC U6 fun N=>TC U6 fun O=>C6 1 [1,3,5] a Z<|G.freeze 1 Z fun _ _ D=>G.freeze 0 Z fun E _ c=>Tl fun R a=>Tj (bkT c 10) U8<|Tt (Ig _ u.m_ o z) U7<|C6 1 [1,3,5,7] a Z<|Th 2 [1,3,5,7,15] Z<|G.cd (fun m=>?_) fun m=>?_
 ·have hs:dS o≠0:=by
   intro e;rw [e] at m;exact absurd m dc_
  exact Th 2 [6] Z<|Tp U2<|⟨by unfold gS;rw [aK hs],Z⟩
 have hs:dS o=0:=by simpa using m
 have i:¬ dS o≠0:=fun h=>h hs;obtain ⟨F,H,I⟩:=Oe hs;have J:=(rA hs).2.2;refine Tl fun R a=>Tj (PtrTo.block (Mem.get D mup) _) U8<|Tk U6<|Tj (bkT c 2) U8<|Tw (by have h:=qo E u.m_ _ d f (ptO o) B.m_ A H I;rw [F] at h;exact h) U7 fl_<|C6 5 [1,5,8,9] a Z<|Ti 5 Z fun R a=>TQ U8<|Tn [1,5,29] a Z<|G.cd (fun p=>?_) fun p=>?_
 ·have g:JN d f o=false:=by
   have h:(!JN d f o)=true:=p;simpa using h
  exact Th 1 [6] Z<|Tp U2<|⟨by unfold gS;rw [aG i,aK g],Z⟩
 have g:¬ JN d f o=false:=by
  have h:(!JN d f o)=false:=p;have h2:JN d f o=true:=by simpa using h
  rw [h2];decide
 refine TD [0,1,2,3,4,5,6,7,8,9] [(3,1),(7,1)] Z kr_ fun R Q a=>Tm 2 Z<|Tj (bkT c 1) U8<|TU (fun _=>(jU _ _ b o.upper y.m_)) U9<|Tm 2 Z<|Tj (bkT c 1) U8<|TU (fun _=>(jU _ _ b o.lower y.m_)) U9<|C6 2 [5,10,11] a Z<|Ti 4 Z fun R a=>TN U6 (fun _=>PtrTo.blockT (Mem.get c mup) _ 1) U3<|Tm 4 Z<|TJ U8<|TQ U8<|C6 1 [5,10,11,38] a Z<|G.cd (fun q=>?_) fun q=>?_
 ·have j:Kk b o=true:=q;exact Th 1 [6] Z<|Tp U2<|⟨by unfold gS;rw [aG i,aG g,aK j],Z⟩
 have j:¬ Kk b o=true:=by rw [show Kk b o=false from q];decide
 refine Ti 1 Z fun R a=>Tj (bkT c 1) U8<|Tm 5 Z<|TJ U8<|C6 1 [5,50] a Z<|G.cd (fun r=>?_) fun r=>?_
 ·have k:ordB b o=true:=r;exact Th 1 [6] Z<|Tp U2<|⟨by unfold gS;rw [aG i,aG g,aG j,aK k],Z⟩
 have k:¬ ordB b o=true:=by rw [show ordB b o=false from r];decide
 refine Ti 1 Z fun R a=>Tj (bkT c 1) U8<|Tm 3 Z<|TN U6 (fun _=>PtrTo.blockT (Mem.get c mup) _ 1) U3<|TG (fun K=>(H9 _ o.depth (J (by exact dP K.1)) z.depth)) U9<|Tk U6<|TJ U8<|C6 1 [5,59] a Z<|G.cd (fun l=>?_) fun l=>?_
 ·have n:depB o=true:=by
   rw [tV] at l;exact l
  exact Th 1 [6] Z<|Tp U2<|⟨by unfold gS;rw [aG i,aG g,aG j,aG k,aK n],Z⟩
 have n:¬ depB o=true:=by
  rw [tV] at l;rw [show depB o=false from l];decide
 refine Ti 1 Z fun R a=>Tj (bkT c 1) U8<|Tm 4 Z<|TN U6 (fun _=>PtrTo.blockT (Mem.get c mup) _ 1) U3<|Tk U6<|TJ U8<|C6 1 [69] a Z<|G.cd (fun s=>?_) fun s=>?_
 ·have t:HK o=true:=by
   unfold HK;rw [<- H0];exact s
  exact Th 1 [6] Z<|Tp U2<|⟨by unfold gS;rw [aG i,aG g,aG j,aG k,aG n,aK t],Z⟩
 have t:¬ HK o=true:=by
  unfold HK;rw [<- H0];intro h;rw [show ((o.kind == 3) && ((⟨o.nz.toArray⟩:ByteArray).data.toList == (⟨([48]:Str).toArray⟩:ByteArray).data.toList))=false from s] at h;cases h
 exact Th 1 [6] Z<|Tp U2<|⟨by unfold gS;rw [aG i,aG g,aG j,aG k,aG n,aG t],Z⟩
structure Bk where
 pts:List Pt
 tris:List Tri
 terr:List Str
 col:List Lay
 obs:List Obs
structure BookIn (C:Mem)(bv:Value)(B:Bk):Prop where
 ex:∃ v1 v2 tv cv ov,bv=.agg ⟨[v1,v2,tv,cv,ov]⟩/\Sl C 2 v1 (B.pts.map gi)/\Sl C 3 v2 (B.tris.map fU)/\Sl C 1 tv (B.terr.map kc)/\Sl C 3 cv (B.col.map sj)/\Sl C 10 ov (B.obs.map rb)
theorem BookIn.mono {C D:Mem}{b:Value}{B:Bk}(h:BookIn C b B)(a:C.le D):BookIn D b B:=by
 obtain ⟨c,d,e,f,g,h1,h2,h3,h4,h5,i⟩:=h.ex;exact ⟨c,d,e,f,g,h1,h2.mono a,h3.mono a,h4.mono a,h5.mono a,i.mono a⟩
theorem BookIn.m_ {D:Mem}{B:Bk}(h:BookIn C bv B)(a:C.le D:=by exact mup):BookIn D bv B:=BookIn.mono h a
structure BookR (B:Bk):Prop where
 terr:∀ s∈B.terr,s.length<=999998
 col:∀ x∈B.col,No x
 lcol:B.col.length<=1000000
 obs:∀ o∈B.obs,ObsR o
noncomputable def obZ (B:Bk)(pre:List Obs)(o:Obs):Int:=if gS B.pts B.tris B.col o≠0 then gS B.pts B.tris B.col o else if o.name∈pre.map Obs.name then 9 else 0
def I0:Obs:=⟨0,[],[],[],[],[],[],[],[],[]⟩
noncomputable def vg (B:Bk):Nat->Int
 | 0=>0
 | n+1=>if vg B n≠0 then vg B n else obZ B (B.obs.take n) (B.obs.getD n I0)
noncomputable def iq (B:Bk):Int:=if yP B.pts.length B.terr≠0 then yP B.pts.length B.terr else if ri B.col≠0 then ri B.col else if 100<B.obs.length then 4 else vg B B.obs.length
theorem ww {B:Bk}{n:Nat}(h:vg B n≠0):∀ m,n<=m->vg B m=vg B n
 | 0,hm=>by rw [show n=0 by omega]
 | m+1,hm=>by
  rcases P8 m n with h1 | h1
  ·rw [show n=m+1 by omega]
  have a:=ww h m h1;simp only [vg,a];rw [aK h]
theorem KD {l:List Obs}{x:Obs}(h:l[i]?=some x):l.getD i I0=x:=by rw [ax,h,QW]
theorem tS {B:Bk}{x:Obs}(a:vg B i=0)(b:B.obs[i]?=some x):vg B (i+1)=obZ B (B.obs.take i) x:=by
 simp only [vg,a];rw [aG dc_,KD b]
theorem FD {B:Bk}{x:Obs}(c:vg B i=0)(a:B.obs[i]?=some x)(b:obZ B (B.obs.take i) x=z)(d:z≠0):vg B B.obs.length=z:=by
 have e:=(aJ.1 a).1;have h1:=tS c a;rw [ww (n:=i+1) (by rw [h1,b];exact d) B.obs.length om_,h1,b]
def FP (l:List Obs):List (Str × Value):=l.map fun o=>(o.name,.bool true)
theorem FO (l:List Obs)(s:Str):lJ (.bool false) false (dR (FP l) s)=.bool (decide (s∈l.map Obs.name)):=by
 have a:(FP l).map (·.1)=l.map Obs.name:=by unfold FP;rw [QC];rfl
 cases h:dR (FP l) s with
 | none =>
  have h1:=cA.1 h;rw [a] at h1;rw [Qc h1];rfl
 | some v =>
  have h1:=gb h;have h2:=RL (f:=(·.1)) h1;rw [a] at h2;obtain ⟨o,_,b⟩:=PK.1 h1;cases b
  rw [P0 h2];rfl
theorem I5 {l:List Obs}{o:Obs}(h:o.name ∉ l.map Obs.name):iw (FP l) o.name (.bool true)=FP (l++[o]):=by
 have a:(FP l).map (·.1)=l.map Obs.name:=by unfold FP;rw [QC];rfl
 rw [jI (by rw [cA,a];exact h)];simp [FP]
theorem qw (C:Mem)(n:Tabs C)(F:Value)(B:Bk)(L:BookIn C F B)(t:Good B.pts B.tris)(o:BookR B) :
  Gives cx.P 181 [F] C (.int .i64 (iq B)):=by
 obtain ⟨H,I,Y,cv,ov,rfl,h1,h2,h3,h4,h5⟩:=id L.ex;obtain ⟨M,N,rfl,O,aa,_⟩:=id h5;have ab:maxLen<=9223372036854775807:=by simp [maxLen]
 simp only [al] at h5 O ⊢;have hm:MeshIn C (.agg ⟨[H,I]⟩) B.pts B.tris:=⟨H,I,rfl,h1,h2⟩;refine Tr func181 59 U3 fun w0=>Tl fun R a=>TC U6 fun Q=>C6 1 [1] a Z<|G.freeze 0 Z fun _ _ b=>Ti 1 Z fun R a=>Tj (bkT b 2) U8<|Tt (fA _ n.m_ _ B.pts B.tris hm.m_ t) U7<|C6 1 [1,3] a Z<|Th 2 [1,3,14] Z<|G.cd (fun J=>?_) fun J=>?_
 ·exact absurd J dc_
 refine Ti 1 Z fun R a=>Tj (bkT b 2) U8<|Tk U6<|Tj (bkT b 1) U8<|Tt (ur _ n.m_ _ _ B.pts B.tris B.terr hm.m_ t h3.m_ o.terr) U7<|C6 1 [1,4] a Z<|Th 2 [1,4,22] Z<|G.cd (fun p=>?_) fun p=>?_
 ·have c:yP B.pts.length B.terr≠0:=by
   intro e;rw [e] at p;exact absurd p dc_
  exact Th 2 [2] Z<|Tp U2<|⟨by unfold iq;rw [aK c],Z⟩
 have c:¬ yP B.pts.length B.terr≠0:=by
  have h:yP B.pts.length B.terr=0:=by simpa using p
  exact fun h2=>h2 h
 refine Ti 1 Z fun R a=>Tj (bkT b 1) U8<|Tt (qq _ n.m_ _ B.col h4.m_ o.col o.lcol) U7<|C6 1 [1,5] a Z<|Th 2 [1,5,28] Z<|G.cd (fun q=>?_) fun q=>?_
 ·have d:ri B.col≠0:=by
   intro e;rw [e] at q;exact absurd q dc_
  exact Th 2 [2] Z<|Tp U2<|⟨by unfold iq;rw [aG c,aK d],Z⟩
 have d:¬ ri B.col≠0:=by
  have h:ri B.col=0:=by simpa using q
  exact fun h2=>h2 h
 refine Ti 1 Z fun R a=>Tj (bkT b 1) U8<|C6 2 [1,33] a Z<|G.cd (fun u=>?_) fun u=>?_
 ·have g:100<B.obs.length:=by
   simp only [PN] at u;omega
  exact Th 1 [2] Z<|Tp U2<|⟨by unfold iq;rw [aG c,aG d,aK g],Z⟩
 have g:¬ 100<B.obs.length:=by
  simp only [P7] at u;omega
 refine Tl fun R a=>D.makeMap keyS Z Z Z Z fl_ fun v=>C6 1 [1,6] a Z<|Ti 1 Z fun R a=>Tj (bkT b 1) U8<|C6 2 [1,6,36,37,38] a Z<|G.loop (fun fr C' K S=>∃ (i:Nat),(i<=B.obs.length/\vg B i=0)/\fr=[(1,[],.pointer (some ⟨Q,0,none⟩)),(6,[],.map (some v)),(36,[],.slice M B.obs.length N),(37,[],.int .i64 B.obs.length),(38,[],.int .i64 i)]/\K=[.obj v (aV keyS.enc (FP (B.obs.take i)))]/\S=B.obs.length-i) (hn_ [1,6,36,37,38] Z) ⟨0,⟨PL _,Z⟩,Z,Z,Z⟩ (fun fr ac ad m _ T=>?_);obtain ⟨i,⟨hi,k⟩,rfl,rfl,rfl⟩:=T;refine Th 1 [1,6,36,37,38,39] Z<|G.cd (fun w=>?_) fun w=>?_
 ·have y:i<B.obs.length:=by simpa using w
  obtain ⟨x,f⟩:∃ x,B.obs[i]?=some x:=⟨B.obs[i],aj y⟩;have U:=o.obs x (O0 f);have V:B.obs.take (i+1)=B.obs.take i++[x]:=by rw [P6,f];rfl
  refine Tl fun R a=>Ty h5.m_ U10 om_ (co f) fl_ fun af W=>Tj W U8<|TB U5 fun b8=>Ts (j:=0) U12<|Tn [1,6,8,36,37,38] a Z<|Ti 1 Z fun R a=>Tj (bkT b 2) U8<|Tk U6<|Tj (bkT b 1) U8<|To ag U9<|Tt (Mg _ n.m_ _ _ B.pts B.tris B.col x hm.m_ t h4.m_ U) U7<|C6 1 [1,6,8,9,36,37,38] a Z<|Th 2 [1,6,8,9,36,37,38,49] Z<|G.cd (fun r=>?_) fun r=>?_
  ·have l:gS B.pts B.tris B.col x≠0:=by
    intro e;rw [e] at r;exact absurd r dc_
   have A:=FD k f (z:=gS B.pts B.tris B.col x) (by unfold obZ;rw [aK l]) l;exact Th 2 [2] Z<|Tp U2<|⟨by unfold iq;rw [aG c,aG d,aG g,A],Z⟩
  have l:¬ gS B.pts B.tris B.col x≠0:=by
   have h:gS B.pts B.tris B.col x=0:=by simpa using r
   exact fun h2=>h2 h
  refine Ti 2 Z fun R a=>To ag U9<|UH keyS ae Z Z Z Z Z Z Z Z kr_ Z (FO (B.obs.take i) x.name) Z Z<|Tn [1,6,8,36,37,38,54] a Z<|G.cd (fun E=>?_) fun E=>?_
  ·have s:x.name∈(B.obs.take i).map Obs.name:=aY E;have A:=FD k f (z:=9) (by unfold obZ;rw [aG l,aK s]) dc_;exact Th 1 [2] Z<|Tp U2<|⟨by unfold iq;rw [aG c,aG d,aG g,A],Z⟩
  have s:x.name ∉ (B.obs.take i).map Obs.name:=PJ E;have X:vg B (i+1)=0:=by rw [tS k f];unfold obZ;rw [aG l,aG s]
  refine Ti 2 Z fun R a=>To ag U9<|D.mapUpdate keyS (j:=1) Z Z Z Z Z Z Z Z Z Z kr_<|Tn [1,6,36,37,38] a Z<|Tl fun R a=>Tq _ Z U6<|C6 1 [1,6,36,37,38] a Z<|Ua 1 Z<|Tz (L':=[.obj v (aV keyS.enc (FP (B.obs.take (i+1))))]) (by rw [V,<- I5 s];rfl)<|Tv (m':=B.obs.length-(i+1)) om_ mup (hn_ [1,6,36,37,38] Z) ⟨i+1,⟨by omega,X⟩,Z,Z,Z⟩
 have y:i=B.obs.length:=by
  have:¬ i<B.obs.length:=by simpa using w
  omega
 refine Th 1 [2] Z<|Tp U2<|⟨?_,Z⟩;rw [y] at k;unfold iq;rw [aG c,aG d,aG g,k]
theorem lZ (C:Mem)(g:Tabs C)(b:Value)(B:Bk)(c:BookIn C b B)(j:Good B.pts B.tris)(k:BookR B)(l:iq B=0)(i:Nat)(n:i<B.obs.length) :
  Gives cx.P 289 [b,.int .i64 i] C (.int .i64 0):=by
 have d:=c;obtain ⟨o,p,q,r,s,rfl,h1,h2,h3,h4,h5⟩:=id c.ex;obtain ⟨t,u,rfl,m,v,_⟩:=id h5;have w:maxLen<=9223372036854775807:=by simp [maxLen]
 simp only [al] at h5 m d ⊢;refine Tr func289 20 U3 fun w0=>Tl fun R a=>TC U6 fun x=>C6 1 [1,2] a Z<|Tl fun R a=>To ag U9<|Tw (by have h:=qw _ g.m_ _ B d.m_ j k;rw [l] at h;exact h) U7 fl_<|C6 1 [1,2,5] a Z<|Th 2 [1,2,5,9] Z<|G.cd (fun e=>?_) fun e=>?_
 ·exact absurd e dc_
 refine Ti 5 Z fun R a=>To ag U9<|Tm 2 Z<|TQ U8<|Tn [19] a Z<|G.cd (fun f=>?_) fun f=>?_
 ·exfalso;simp only [Ru,PN] at f;omega
 exact Th 1 [4] Z<|Tp U2<|⟨Z,Z⟩
noncomputable def kU (o:Obs)(z:Rat):Rat:=if o.kind=2 then z-da o.depth else z
structure ObsAt (o:Obs)(p:Pt):Prop where
 x:o.x=qtx p.1
 y:o.y=qtx p.2
 q:QP 23 p
 r:PtR p
 d:o.kind=2->aS o.depth=true
theorem wx {o:Obs}(h:ObsAt o p):(.agg ⟨[af o.x,af o.y]⟩:Value)=ptV p:=by unfold ptV gi;rw [h.x,h.y]
structure Terr (B:Bk)(fs:List Rat):Prop where
 e:B.terr=fs.map qtx
 l:fs.length=B.pts.length
 q:∀ q∈fs,QB 22 q
theorem Aa {B:Bk}(h:Terr B fs):∀ q∈fs,aS (qtx q)=true:=fun q a=>bB (h.q q a)
theorem Gl (C:Mem)(k:Tabs C)(m:Value)(B:Bk)(i:List Rat)(o:Obs)(p:Pt)(z:Rat)(v:BookIn C m B)(w:Good B.pts B.tris)(b:Terr B i)(c:ObsAt o p)(x:vc B.pts B.tris i p=.tuple #[af (qtx z),.int .i64 0])(y:QB 22 z) :
  Gives cx.P 290 [m,.agg ⟨rb o⟩] C (.tuple #[af (qtx (kU o z)),.int .i64 0]):=by
 obtain ⟨n,s,E,F,H,rfl,h1,h2,h3,h4,h5⟩:=id v.ex;have hm:MeshIn C (.agg ⟨[n,s]⟩) B.pts B.tris:=⟨n,s,rfl,h1,h2⟩;rw [b.e,<- jg] at h3;refine Tr func290 31 U3 fun w0=>Tl fun R a=>TC U6 fun I=>TC U6 fun J=>C6 2 [2,3] a Z<|G.freeze 1 Z fun _ _ t=>G.freeze 0 Z fun u _ j=>Ti 1 Z fun R a=>Tj (bkT t 2) U8<|Tk U6<|Tj (bkT t 1) U8<|Tk U6<|Tj (bkT j 2) U8<|Tw (by have h:=tj u k.m_ _ _ B.pts B.tris i 22 dc_ dc_ hm.m_ w h3.m_ b.l b.q (Aa b) p c.q c.r;rw [x,<- wx c] at h;exact h) U7 fl_<|C6 5 [3,6,7] a Z<|Ti 4 Z fun R a=>TN U6 (fun _=>PtrTo.blockT (Mem.get j mup) _ 1) U3<|Tk U6<|TJ U8<|Tn [3,6,7,24] a Z<|G.cd (fun f=>?_) fun f=>?_
 ·have g:o.kind=2:=dP (S6.1 f).2;obtain ⟨A,D⟩:=dw (c.d g);refine Ti 2 Z fun R a=>Tj (bkT j 1) U8<|Tw (by have h:=dZ u k.m_ z (da o.depth) 23 dc_ dc_ (y.le dc_) D;rw [<- A] at h;exact h) U7 fl_<|C6 1 [6,7] a Z<|Th 4 [4,5] Z<|Tu (G.dropAll (TM U3 ?_));exact ⟨by unfold kU;rw [aK g],Z⟩
 have g:¬ o.kind=2:=by
  intro e;rw [show ((((0:Int) == 0) && (o.kind == 2))=true) by rw [e];rfl] at f;cases f
 refine Th 4 [4,5] Z<|Tu (G.dropAll (TM U3 ?_));exact ⟨by unfold kU;rw [aG g],Z⟩
theorem Dk (C:Mem)(c:Tabs C)(h:Value)(B:Bk)(d:List Rat)(i:Nat)(o:Obs)(p:Pt)(z:Rat)(b:BookIn C h B)(j:Good B.pts B.tris)(q:BookR B)(r:iq B=0)(s:Terr B d)(k:B.obs[i]?=some o)(t:ObsAt o p)(u:vc B.pts B.tris d p=.tuple #[af (qtx z),.int .i64 0])(v:QB 22 z)(l:QB 22 (kU o z)) :
  Gives cx.P 243 [h,.int .i64 i] C (.tuple #[af (qtx (kU o z)),.int .i64 0]):=by
 have e:=b;have w:=(aJ.1 k).1;obtain ⟨A,D,E,F,H,rfl,h1,h2,h3,h4,h5⟩:=id b.ex;obtain ⟨I,J,rfl,x,K,_⟩:=id h5;have L:maxLen<=9223372036854775807:=by simp [maxLen]
 simp only [al] at h5 x e ⊢;refine Tr func243 36 U3 fun w0=>?_;refine Tl fun R a=>?_;refine TC U6 (fun M=>?_);refine C6 2 [1,2] a Z ?_;clear a R;refine G.freeze 0 Z (fun _ _ f=>?_);refine Tl fun R a=>?_;refine Tj (bkT f 5) U8 ?_;refine Tk U6 ?_;refine Tt (lZ _ c.m_ _ B e.m_ j q r i w) U7 ?_;refine C6 1 [1,2,6] a Z ?_;clear a R;refine Th 2 [1,2,6,13] Z ?_;refine G.cd (fun m=>?_) fun m=>?_
 ·exact absurd m dc_
 refine TD [0,1,2,3,4,5,6,7,8,9,10,11] [(6,1)] Z kr_ (fun R b a=>?_);refine Tj (bkT f 5) U8 ?_;refine Tk U6 ?_;refine Tj (bkT f 1) U8 ?_;refine Tk U6 ?_;refine Ty h5.m_ U10 om_ (co k) fl_ (fun N y=>?_);refine Tj y U8 ?_;refine TU (fun _=>(Gl _ c.m_ _ B d o p z e.m_ j s t u v)) U9 ?_;refine Tm 5 Z ?_;refine Tn [7,8] a Z ?_;clear a b R;refine Ti 4 Z fun R a=>?_;refine TU (fun _=>(dD _ c.m_ _ (tG l))) U9 ?_;refine Tk U6 ?_;refine TJ U8 ?_;refine Tn [7,8,31] a Z ?_;clear a R;refine G.cd (fun g=>?_) fun g=>?_
 ·exfalso;rw [xr l] at g;exact absurd g dc_
 refine Th 2 [7,8,33] Z ?_;refine G.cd (fun n=>?_) fun n=>?_
 ·exact absurd n dc_
 refine Th 3 [4,5] Z ?_;refine Tu (G.dropAll (TM U3 ?_));exact ⟨Z,Z⟩
def vF (lo hi:Int)(n:Nat):List Nat:=(List.range n).filter fun k:Nat=>decide (lo<=(k:Int)/\(k:Int)<hi)
def Er (col:List Lay)(o:Obs):Int:=if o.kind=1 then ka (isU o.upper) col 0-1 else ka (isU o.lower) col 0
def Et (col:List Lay)(o:Obs):Int:=if o.kind=1 then ka (isU o.upper) col 0+1 else ka (isU o.upper) col 0
def cD (col:List Lay)(o:Obs):List Nat:=vF (Er col o) (Et col o) (col.length-1)
theorem HX {a b:Int}(j:max a 0<=(i:Int))(l:(i:Int)<=max (max a 0) (min b n))(o:min b (n:Int)<=(i:Int)):(List.range i).filter (fun k:Nat=>decide (a<=(k:Int)))=vF a b n:=by
 unfold vF;have hs:∀ m:Nat,(List.range (i+m)).filter (fun k:Nat=>decide (a<=(k:Int)/\(k:Int)<b/\k<n))=(List.range i).filter (fun k:Nat=>decide (a<=(k:Int)/\(k:Int)<b/\k<n)):=by
  intro m;induction m with
  | zero=>rfl
  | succ m c =>
   rw [show i+(m+1)=i+m+1 by omega,QO,Q8,c,List.filter_cons];rw [aG (by simp only [PN];omega)];simp
 have f:(List.range i).filter (fun k:Nat=>decide (a<=(k:Int)))=(List.range i).filter (fun k:Nat=>decide (a<=(k:Int)/\(k:Int)<b/\k<n)):=by
  refine List.filter_congr (fun k d=>?_);rw [PX] at d;rw [Qy];omega
 have g:(List.range n).filter (fun k:Nat=>decide (a<=(k:Int)/\(k:Int)<b))=(List.range n).filter (fun k:Nat=>decide (a<=(k:Int)/\(k:Int)<b/\k<n)):=by
  refine List.filter_congr (fun k d=>?_);rw [PX] at d;rw [Qy];omega
 rw [f,g];rcases Nat.le_total i n with e | e
 ·obtain ⟨m,rfl⟩:=Nat.exists_eq_add_of_le e;exact (hs m).symm
 have h:∀ m:Nat,(List.range (n+m)).filter (fun k:Nat=>decide (a<=(k:Int)/\(k:Int)<b/\k<n))=(List.range n).filter (fun k:Nat=>decide (a<=(k:Int)/\(k:Int)<b/\k<n)):=by
  intro m;induction m with
  | zero=>rfl
  | succ m c =>
   rw [show n+(m+1)=n+m+1 by omega,QO,Q8,c,List.filter_cons];rw [aG (by simp only [PN];omega)];simp
 obtain ⟨m,rfl⟩:=Nat.exists_eq_add_of_le e;exact h m
theorem rV (p:α->Bool)(l:List α):-1<=ka p l 0/\ka p l 0<=(l.length:Int):=by
 rcases rW p l with ⟨h,_⟩ | ⟨i,x,h,h2,_⟩
 ·omega
 have:=(aJ.1 h2).1;omega
theorem yc (C:Mem)(_ac:Tabs C)(F:Value)(B:Bk)(o:Obs)(q:BookIn C F B)(ad:B.col.length<=1000)(M:B.col≠[]) :
  Pur cx.P 291 [F,.agg ⟨rb o⟩] C fun u D=>Sl D 1 u ((cD B.col o).map aT):=by
 obtain ⟨v1,v2,tv,cv,ov,rfl,h1,h2,h3,h4,h5⟩:=id q.ex;obtain ⟨A4,c4,rfl,N,ae,_⟩:=id h4;have af:maxLen<=9223372036854775807:=by simp [maxLen]
 have ag:=Qq.2 M;have O:=rV (isU o.lower) B.col;have Q:=rV (isU o.upper) B.col;obtain ⟨lw,H⟩:∃ z,ka (isU o.lower) B.col 0=z:=⟨_,rfl⟩;obtain ⟨up,I⟩:∃ z,ka (isU o.upper) B.col 0=z:=⟨_,rfl⟩;obtain ⟨lo,b⟩:∃ z,Er B.col o=z:=⟨_,rfl⟩;obtain ⟨c,d⟩:∃ z,Et B.col o=z:=⟨_,rfl⟩;obtain ⟨n,S⟩:∃ n,B.col.length-1=n:=⟨_,rfl⟩;unfold cD;rw [b,d,S];unfold Er at b;unfold Et at d;rw [H] at O b;rw [I] at Q b d;simp only [al] at h4 N ⊢;have ah:-2<=lo/\lo<=1000:=by rw [<- b];split <;> omega
 have ai:-2<=c/\c<=1001:=by rw [<- d];split <;> omega
 refine Tr func291 43 U3 fun w0=>?_;refine Tl fun R a=>?_;refine TC U6 (fun J=>?_);refine TC U6 (fun b3=>?_);refine C6 1 [2,3] a Z ?_;clear a R;refine G.freeze 1 Z (fun _ _ s=>?_);refine G.freeze 0 Z (fun K _ t=>?_);refine TD [0,1,2,3,4,5,6,7,8,9,10,11] [(4,1),(9,1)] Z kr_ (fun R q a=>?_);refine Tk U6 ?_;refine Tj (bkT s 1) U8 ?_;refine Tk U6 ?_;refine Tj (bkT t 1) U8 ?_;refine TG (fun _=>(by have h:=jU K _ B.col o.lower h4.m_;rw [H] at h;exact h)) U9 ?_;refine Tk U6 ?_;refine Tj (bkT s 1) U8 ?_;refine Tk U6 ?_;refine Tj (bkT t 1) U8 ?_;refine TG (fun _=>(by have h:=jU K _ B.col o.upper h4.m_;rw [I] at h;exact h)) U9 ?_;refine Tm 2 Z ?_;refine Tn [2,3,5,6] a Z ?_;clear a q R;refine Ti 1 Z fun R a=>?_;refine Tj (bkT t 1) U8 ?_;refine C6 1 [2,5,6,21] a Z ?_;clear a R;refine G.cut (fun fr T g v=>(True)/\fr=[(2,[],.pointer (some ⟨J,0,none⟩)),(5,[],.int .i64 lo),(6,[],.int .i64 c)]/\g=[]) ?_ (fun fr _ aj v _ x=>?_)
 ·refine G.cd (fun l=>?_) fun l=>?_
  ·have f:o.kind=1:=dP l;rw [aK f] at b d;subst b d;refine Ti 1 Z fun R a=>?_;refine Tq _ Z U6 ?_;refine Tk U6 ?_;refine Tq _ Z U6 ?_;refine C6 2 [2,5,6] a Z ?_;clear a R;refine Tx 0 (Mem.le.refl _) (hn_ [2,5,6] Z) ⟨trivial,Z,Z⟩
  have f:¬ o.kind=1:=by
   intro e;rw [show ((o.kind == 1)=true) by rw [e];rfl] at l;cases l
  rw [aG f] at b d;subst b d;refine Tx 0 (Mem.le.refl _) (hn_ [2,5,6] Z) ⟨trivial,Z,Z⟩
 obtain ⟨_,rfl,rfl⟩:=x;refine Th 1 [2,5,6,7] Z ?_;obtain ⟨p,U⟩:∃ p:Nat,max lo 0=(p:Int):=⟨(max lo 0).toNat,by omega⟩;refine Ti 1 Z fun R a=>?_;refine D.max (((p:Nat):Int)) U6 U U2 ?_;refine C6 1 [2,6,7,8] a Z ?_;clear a R;refine G.nilArr 3 1 ?_;refine G.loop (fun fr T g v=>∃ (i:Nat)(out:List Nat)(w:Value),(max lo 0<=(i:Int)/\(i:Int)<=max (max lo 0) (min c n)/\out=(List.range i).filter (fun k:Nat=>decide (lo<=(k:Int))))/\fr=[(2,[],.pointer (some ⟨J,0,none⟩)),(6,[],.int .i64 c),(7,[],w),(8,[],.int .i64 i)]/\g=[.arr w 3 1 out.length (out.map aT).flatten]/\v=2000-i) (hn_ [2,6,7,8] Z) ⟨p,[],_,⟨by omega,by omega,by
  symm;rw [List.filter_eq_nil_iff];intro k f;rw [PX] at f;simp only [PN];omega⟩,rfl,rfl,rfl⟩ (fun fr ak an m _ x=>?_)
 obtain ⟨i,out,w,⟨V,W,A⟩,rfl,rfl,rfl⟩:=x;refine Ti 3 Z fun R a=>?_;refine Tj (bkT s 1) U8 ?_;refine Tk U6 ?_;refine Tq _ Z U6 ?_;refine D.min ((min c (n:Int))) U6 om_ U2 ?_;refine C6 1 [2,6,7,8,35] a Z ?_;clear a R;refine G.cd (fun E=>?_) fun E=>?_
 ·have ao:(i:Int)<min c (n:Int):=aY E;have ap:out.length<=i:=by
   rw [A];exact PV (Rc _ _) am
  have X:(List.range (i+1)).filter (fun k:Nat=>decide (lo<=(k:Int)))=out++[i]:=by
   rw [QO,Q8,<- A,List.filter_cons,aK (by simp only [PN];omega)];rfl
  refine Ti 2 Z fun R a=>?_;refine TF [aT i] U12 (fun aq _ _ Y=>?_);refine D.append (j:=0) U11 Y Z aw (by simp only [PD];omega) fl_ (fun L=>?_);refine C6 1 [2,6,7,8] a Z ?_;clear a R;refine Ti 1 Z fun R a=>?_;refine Tq _ Z U6 ?_;refine C6 1 [2,6,7,8] a Z ?_;clear a R;refine Tz (L':=[.arr L 3 1 (out++[i]).length ((out++[i]).map aT).flatten]) (by simp [aT]) ?_;refine Tv (m':=2000-(i+1)) om_ mup (hn_ [2,6,7,8] Z) ⟨i+1,out++[i],L,⟨by omega,by omega,X.symm⟩,Z,Z,Z⟩
 have aa:min c (n:Int)<=(i:Int):=by
  have:=PJ E;omega
 refine Th 2 [4] Z ?_;refine G.freezeArr 0 (out.map aT) rfl rfl (by intro r hr;obtain ⟨y,_,rfl⟩:=PK.1 hr;rfl) am (fun Cg hg ab=>?_);refine Tp U2 ?_;exact ⟨Z,by rw [<- HX V W aa,<- A];exact ab⟩
theorem vE (C:Mem)(j:Tabs C)(k:Value)(B:Bk)(i:Nat)(o:Obs)(d:BookIn C k B)(p:Good B.pts B.tris)(q:BookR B)(a:iq B=0)(l:B.obs[i]?=some o) :
  Pur cx.P 244 [k,.int .i64 i] C fun u D=>∃ v,u=.tuple #[v,.int .i64 0]/\Sl D 1 v ((cD B.col o).map aT):=by
 have f:=d;have r:=(aJ.1 l).1;have b:ri B.col=0:=by
  unfold iq at a;split at a
  ·rename_i h;exact absurd a h
  split at a
  ·rename_i h;exact absurd a h
  rename_i h;exact P5 h
 have m:B.col≠[]:=by
  intro e;rw [e] at b;exact absurd b dc_
 have s:B.col.length<=1000:=by
  unfold ri at b;rw [aG m] at b;split at b
  ·exact absurd b dc_
  omega
 obtain ⟨y,z,A,E,F,rfl,h1,h2,h3,h4,h5⟩:=id d.ex;obtain ⟨H,I,rfl,t,J,_⟩:=id h5;have K:maxLen<=9223372036854775807:=by simp [maxLen]
 simp only [al] at h5 t f ⊢;refine Tr func244 20 U3 fun w0=>Tl fun R c=>TC U6 fun L=>C6 2 [1,2] c Z<|G.freeze 0 Z fun _ _ g=>Tl fun R c=>Tj (bkT g 5) U8<|Tk U6<|Tt (lZ _ j.m_ _ B f.m_ p q a i r) U7<|C6 1 [1,2,6] c Z<|Th 2 [1,2,6,11] Z<|G.cd (fun n=>?_) fun n=>?_
 ·exact absurd n dc_
 refine TD [0,1,2,3,4,5,6,7,8] [] Z kr_ fun R d c=>Tj (bkT g 5) U8<|Tk U6<|Tj (bkT g 1) U8<|Tk U6<|Ty h5.m_ U10 om_ (co l) fl_ fun M w=>Tj w U8<|TT (yc _ j.m_ _ B o f.m_ s m) U7 fun N _ _ x=>Tm 2 Z<|Tn [4,5] c Z ?_;clear c d R;refine Tu (G.dropAll (TM U3 ?_));exact ⟨Z,_,Z,x⟩
theorem FI (x y:Nat)(a:x<18446744073709551616)(b:y<18446744073709551616)(C:Mem):Gives cx.P 128 [.int .u64 x,.int .u64 y] C (.tuple #[.int .u64 ((x*y / 18446744073709551616:Nat):Int),.int .u64 ((x*y % 18446744073709551616:Nat):Int)]) :=
 Gives.ofCalls kr_ (fun w=>Any.bits_Mul Tryz.mul x y a b w) C
theorem fI {a:Value}{b:List Value}(_d:k+m<=n)(c:m<=k)(_e:b.length=n-k) :
  aE (List.replicate k a++b) ((List.replicate k a++b).take m) k=List.replicate (k+m) a++b.drop m:=by
 have h1:(List.replicate k a++b).take m=List.replicate m a:=by
  rw [List.take_append_of_le_length (by simpa using c),List.take_replicate,QK c]
 have h2:(List.replicate k a++b).take k=List.replicate k a:=by
  rw [List.take_append_of_le_length am,List.take_replicate,Nat.min_self]
 have h3:(List.replicate k a++b).drop (k+m)=b.drop m:=by
  rw [Sd,Qd,Rn am,RD];congr 1;omega
 unfold aE;rw [h1,h2,Qd,h3,List.replicate_append_replicate]
theorem zG (a:Value)(n:Nat):kA [a] n=List.replicate n a:=by
 rw [eU];induction n with
 | zero=>rfl
 | succ n b=>rw [QJ,QQ,b,QJ];rfl
theorem lF (n:Nat)(a:n<18446744073709551616)(C:Mem):Gives cx.P 128 [.int .u64 (1:Int),.int .u64 n] C (.tuple #[.int .u64 0,.int .u64 n]):=by
 have h:=FI 1 n om_ a C;have b:1*n / 18446744073709551616=0:=by omega
 have c:1*n % 18446744073709551616=n:=by omega
 rw [b,c] at h;exact h
theorem jC (C:Mem)(v:Value)(n:Nat)(s:Str)(g:Sl C 1 v [[af s]])(y:n<=1000000):Jog.Fn cx.P 64 [v,.int .i64 n] C [] fun u _z e=>∃ b,u=.slice (some ⟨b,0,none⟩) n n/\e=[.arr u 32 1 n (List.replicate n (af s))]:=by
 have p:=g;obtain ⟨A,c,rfl,_⟩:=p;refine Tr func64 48 U3 fun w0=>Th 1 [0,1] Z<|Th 2 [0,1,10] Z<|G.cd (fun h=>?_) fun h=>?_
 ·simp at h;omega
 refine Ti 2 Z fun R d=>TX (c:=1) U8 Z fl_<|Tk U6<|TX (c:=(n:Int)) U8 (by rw [IntKind.wrap_u64];omega) fl_<|Tw (lF n om_ _) U7 fl_<|C6 5 [0,5,6] d Z<|Ti 5 Z fun R d=>TQ U8<|Tn [0,6,26] d Z<|G.cd (fun i=>?_) fun i=>?_
 ·simp at i;omega
 refine Ti 1 Z fun R d=>TX (c:=(n:Int)) U8 (by rw [IntKind.wrap_i64];omega) fl_<|Up U9 (PE _) (by show 16*n<=281474976710656;omega) (by simp only [maxLen];omega) fl_ fun a=>C6 1 [0,7] d Z<|Ti 2 Z fun R d=>UY (j:=0) (q:=min 1 n) U12 g U2 (by rw [cU];show 0+min 1 n*1<=n*1;omega) fl_<|C6 1 [7,8] d Z ?_;have r:aE (kA [af []] n) (([[af s]]:List (List Value)).take (min 1 n)).flatten 0=List.replicate (min 1 n) (af s)++List.replicate (n-min 1 n) (af []):=by
  rw [zG];cases n with
  | zero=>rfl
  | succ n=>rw [show min 1 (n+1)=1 by omega,QJ];rfl
 refine Tz (L':=[.arr (.slice (some ⟨a,0,none⟩) n n) 32 1 n (List.replicate (min 1 n) (af s)++List.replicate (n-min 1 n) (af []))]) (by rw [<- r];rfl)<|G.loop (fun fr B e t=>∃ (k:Nat),(k<=n/\min 1 n<=k)/\fr=[(7,[],.slice (some ⟨a,0,none⟩) n n),(8,[],.int .i64 k)]/\e=[.arr (.slice (some ⟨a,0,none⟩) n n) 32 1 n (List.replicate k (af s)++List.replicate (n-k) (af []))]/\t=n-k) (hn_ [7,8] Z) ⟨min 1 n,⟨Nat.min_le_right _ _,PE _⟩,Z,Z,Z⟩ (fun fr D E m w x=>?_);obtain ⟨k,⟨l,F⟩,rfl,rfl,rfl⟩:=x;refine Th 4 [7,8,37] Z<|G.cd (fun f=>?_) fun f=>?_
 ·simp only [PN] at f;have o:k<n:=by omega
  have H:1<=k:=by omega
  refine TD [0,1,2,3,4,5,6,7,8,9] [] Z kr_ fun R I d=>Tm 3 Z<|Um k n n U12 (fun _=>⟨.inr ⟨_,Z⟩,.inl ⟨Z,Z⟩,.inl ⟨Z,Z⟩,l,PE _,PE _⟩) U2<|Tm 2 Z<|Um 0 k n U12 (fun _=>⟨.inl ⟨Z,Z⟩,.inr ⟨_,Z⟩,.inl ⟨Z,Z⟩,PL _,l,PE _⟩) U2 ?_;refine UX (j:=0) (off:=k) (g0:=a) (dl:=n-k) (dc:=n-k) (sl:=k-0) (sc:=n-0) (q:=min k (n-k)) U8 (by show some (Value.slice (if n=k then some (⟨a,0,none⟩:Addr) else (some (⟨a,0,none⟩:Addr)).map (·.add (k*1))) (n-k) (n-k))=_;rw [aG om_];simp [Addr.add_lit]) (by show some (Value.slice (if n=0 then some (⟨a,0,none⟩:Addr) else (some (⟨a,0,none⟩:Addr)).map (·.add (0*1))) (k-0) (n-0))=_;split <;> simp [Addr.add_lit]) U2 (by simp [nk,af]) ap fl_ ?_;refine TS (((k+min k (n-k):Nat):Int)) U4 om_ om_ om_ U2<|C6 1 [7,8] d Z<|Tz (L':=[.arr (.slice (some ⟨a,0,none⟩) n n) 32 1 n (List.replicate (k+min k (n-k)) (af s)++List.replicate (n-(k+min k (n-k))) (af []))]) (by rw [fI (n:=n) om_ (Nat.min_le_left _ _) am,List.drop_replicate,Nat.sub_sub];rfl)<|Tv (m':=n-(k+min k (n-k))) om_ w (hn_ [7,8] Z) ⟨k+min k (n-k),⟨by omega,by omega⟩,Z,Z,Z⟩
 simp only [P7] at f;have o:k=n:=by omega
 subst o;refine Th 2 [4] Z<|Tu (TW Z Z ?_);exact ⟨a,Z,by simp⟩
theorem mG (C:Mem)(v:Value)(n:Nat)(s:Str)(g:Sl C 1 v [[af s]])(y:n<=1000000):Jog.Fn cx.P 292 [v,.int .i64 n] C [] fun u _z e=>∃ b,u=.slice (some ⟨b,0,none⟩) n n/\e=[.arr u 32 1 n (List.replicate n (af s))]:=by
 have p:=g;obtain ⟨A,c,rfl,_⟩:=p;refine Tr func292 48 U3 fun w0=>Th 1 [0,1] Z<|Th 2 [0,1,10] Z<|G.cd (fun h=>?_) fun h=>?_
 ·simp at h;omega
 refine Ti 2 Z fun R d=>TX (c:=1) U8 Z fl_<|Tk U6<|TX (c:=(n:Int)) U8 (by rw [IntKind.wrap_u64];omega) fl_<|Tw (lF n om_ _) U7 fl_<|C6 5 [0,5,6] d Z<|Ti 5 Z fun R d=>TQ U8<|Tn [0,6,26] d Z<|G.cd (fun i=>?_) fun i=>?_
 ·simp at i;omega
 refine Ti 1 Z fun R d=>TX (c:=(n:Int)) U8 (by rw [IntKind.wrap_i64];omega) fl_<|Up U9 (PE _) (by show 16*n<=281474976710656;omega) (by simp only [maxLen];omega) fl_ fun a=>C6 1 [0,7] d Z<|Ti 2 Z fun R d=>UY (j:=0) (q:=min 1 n) U12 g U2 (by rw [cU];show 0+min 1 n*1<=n*1;omega) fl_<|C6 1 [7,8] d Z ?_;have r:aE (kA [af []] n) (([[af s]]:List (List Value)).take (min 1 n)).flatten 0=List.replicate (min 1 n) (af s)++List.replicate (n-min 1 n) (af []):=by
  rw [zG];cases n with
  | zero=>rfl
  | succ n=>rw [show min 1 (n+1)=1 by omega,QJ];rfl
 refine Tz (L':=[.arr (.slice (some ⟨a,0,none⟩) n n) 32 1 n (List.replicate (min 1 n) (af s)++List.replicate (n-min 1 n) (af []))]) (by rw [<- r];rfl)<|G.loop (fun fr B e t=>∃ (k:Nat),(k<=n/\min 1 n<=k)/\fr=[(7,[],.slice (some ⟨a,0,none⟩) n n),(8,[],.int .i64 k)]/\e=[.arr (.slice (some ⟨a,0,none⟩) n n) 32 1 n (List.replicate k (af s)++List.replicate (n-k) (af []))]/\t=n-k) (hn_ [7,8] Z) ⟨min 1 n,⟨Nat.min_le_right _ _,PE _⟩,Z,Z,Z⟩ (fun fr D E m w x=>?_);obtain ⟨k,⟨l,F⟩,rfl,rfl,rfl⟩:=x;refine Th 4 [7,8,37] Z<|G.cd (fun f=>?_) fun f=>?_
 ·simp only [PN] at f;have o:k<n:=by omega
  have H:1<=k:=by omega
  refine TD [0,1,2,3,4,5,6,7,8,9] [] Z kr_ fun R I d=>Tm 3 Z<|Um k n n U12 (fun _=>⟨.inr ⟨_,Z⟩,.inl ⟨Z,Z⟩,.inl ⟨Z,Z⟩,l,PE _,PE _⟩) U2<|Tm 2 Z<|Um 0 k n U12 (fun _=>⟨.inl ⟨Z,Z⟩,.inr ⟨_,Z⟩,.inl ⟨Z,Z⟩,PL _,l,PE _⟩) U2 ?_;refine UX (j:=0) (off:=k) (g0:=a) (dl:=n-k) (dc:=n-k) (sl:=k-0) (sc:=n-0) (q:=min k (n-k)) U8 (by show some (Value.slice (if n=k then some (⟨a,0,none⟩:Addr) else (some (⟨a,0,none⟩:Addr)).map (·.add (k*1))) (n-k) (n-k))=_;rw [aG om_];simp [Addr.add_lit]) (by show some (Value.slice (if n=0 then some (⟨a,0,none⟩:Addr) else (some (⟨a,0,none⟩:Addr)).map (·.add (0*1))) (k-0) (n-0))=_;split <;> simp [Addr.add_lit]) U2 (by simp [nk,af]) ap fl_ ?_;refine TS (((k+min k (n-k):Nat):Int)) U4 om_ om_ om_ U2<|C6 1 [7,8] d Z<|Tz (L':=[.arr (.slice (some ⟨a,0,none⟩) n n) 32 1 n (List.replicate (k+min k (n-k)) (af s)++List.replicate (n-(k+min k (n-k))) (af []))]) (by rw [fI (n:=n) om_ (Nat.min_le_left _ _) am,List.drop_replicate,Nat.sub_sub];rfl)<|Tv (m':=n-(k+min k (n-k))) om_ w (hn_ [7,8] Z) ⟨k+min k (n-k),⟨by omega,by omega⟩,Z,Z,Z⟩
 simp only [P7] at f;have o:k=n:=by omega
 subst o;refine Th 2 [4] Z<|Tu (TW Z Z ?_);exact ⟨a,Z,by simp⟩
theorem fV (C:Mem)(s p:Nat)(h:s*p<=100000):Jog.Fn cx.P 241 [gu s p] C [] fun u _f c=>∃ b,u=.slice (some ⟨b,0,none⟩) (s*p:Nat) (s*p:Nat)/\c=[.arr u 32 1 (s*p) (List.replicate (s*p) (af [48]))]:=by
 refine Tr func241 7 U3 fun w0=>Tl fun R a=>TC U6 fun g=>C6 1 [1] a Z<|TH [(3,3)] Z fun R a=>TF [[af [48]]] U12 fun i _ _ d=>To ag U9<|Tw (iJ _ s p om_) U7 fl_<|D.call (jC _ _ (s*p) [48] d.m_ om_) Z (.inr dc_) U6 (PI _) fl_ fun j _ k _ e=>C6 1 [2] a Z ?_;obtain ⟨b,rfl,rfl⟩:=e;refine Ua 1 Z<|Tu (TW Z Z ?_);exact ⟨b,Z,Z⟩
def ofE (z:Int)(s p:Nat):Int:=if z≠0 then z else if 60<s*p then 4 else 0
def ofS (e:Int)(s p:Nat):Value:=if e=0 then gu s p else gu 0 0
structure BookZ (C:Mem)(bv:Value)(B:Bk)(z:Int):Prop where
 i:BookIn C bv B
 ch:∀ D:Mem,C.le D->Gives cx.P 181 [bv] D (.int .i64 z)
 ne:z=0->B.col≠[]
 lc:B.col.length<=1000
 lp:B.pts.length<=400
theorem BookZ.mono {C D:Mem}{a:Value}{B:Bk}{z:Int}(h:BookZ C a B z)(c:C.le D):BookZ D a B z:=⟨h.i.mono c,fun E d=>h.ch E (fun b o e=>d b o (c b o e)),h.ne,h.lc,h.lp⟩
theorem BookZ.m_ {D:Mem}{B:Bk}(h:BookZ C bv B z)(a:C.le D:=by exact mup):BookZ D bv B z:=BookZ.mono h a
def bs (B:Bk):Nat:=B.col.length-1
def bp (B:Bk):Nat:=B.pts.length
theorem NK {B:Bk}(h:BookZ C bv B z):bs B*bp B<=400000:=by
 have h1:=h.lc;have h2:=h.lp;have:bs B*bp B<=1000*400:=Q3 (by unfold bs;omega) (by unfold bp;omega);omega
theorem Oi (C:Mem)(l:Value)(B:Bk)(z:Int)(c:BookZ C l B z):Gives cx.P 113 [l] C (.tuple #[ofS (ofE z (bs B) (bp B)) (bs B) (bp B),.int .i64 (ofE z (bs B) (bp B))]):=by
 obtain ⟨n,o,p,q,r,rfl,h1,h2,h3,h4,h5⟩:=id c.i.ex;obtain ⟨s,t,rfl,u,v,_⟩:=id h1;obtain ⟨w,x,rfl,y,A,_⟩:=id h4;have D:=NK c;have E:=c.lc;have m:=c.ch;have F:maxLen<=9223372036854775807:=by simp [maxLen]
 simp only [al] at m ⊢;refine Tr func113 26 U3 fun w0=>Tl fun R a=>TC U6 fun H=>TB U5 fun I=>C6 1 [1,2] a Z<|G.freeze 1 Z fun _ _ g=>Tl fun R a=>Tj (bkT g 5) U8<|Tt (m _ mup) U7<|C6 1 [1,2,4] a Z<|Th 2 [1,2,4,9] Z<|G.cd (fun f=>?_) fun f=>?_
 ·have b:z≠0:=by
   intro e;rw [e] at f;exact absurd f dc_
  have d:ofE z (bs B) (bp B)=z:=by unfold ofE;rw [aK b]
  refine Tl fun R a=>TA [.int .i64 0,.int .i64 0] U8<|Tk U6<|Ts (j:=0) U12<|C6 1 [2,3] a Z<|Tu (UC ag U5 ?_);exact ⟨by rw [d];unfold ofS;rw [aG b];rfl,Z⟩
 have b:z=0:=by simpa using f
 have J:=Qq.2 (c.ne b);have K:bs B+1=B.col.length:=by unfold bs;omega
 refine Ti 1 Z fun R a=>Tj (bkT g 1) U8<|Tk U6<|TS (((bs B:Nat):Int)) U4 om_ om_ om_ U2<|Tm 2 Z<|Tj (bkT g 1) U8<|Tk U6<|TA [.int .i64 (bs B:Nat),.int .i64 (bp B:Nat)] U8<|TB U5 fun L=>Ts (j:=0) U12<|Tn [2,5] a Z<|Tl fun R a=>To ag U9<|Tw (iJ _ (bs B) (bp B) om_) U7 fl_<|C6 1 [2,5,23] a Z<|G.cd (fun h=>?_) fun h=>?_
 ·have k:60<bs B*bp B:=by
   have:=aY h;omega
  have d:ofE z (bs B) (bp B)=4:=by unfold ofE;rw [b,aG dc_,aK k]
  refine Tl fun R a=>TA [.int .i64 0,.int .i64 0] U8<|Ts (j:=1) U12<|C6 1 [2,3] a Z<|Tu (UC ag U5 ?_);exact ⟨by rw [d];rfl,Z⟩
 have k:¬ 60<bs B*bp B:=by
  have:=PJ h;omega
 have d:ofE z (bs B) (bp B)=0:=by unfold ofE;rw [b,aG dc_,aG k]
 refine Tl fun R a=>To ag U9<|Ts (j:=1) U12<|C6 1 [2,3] a Z<|Tu (UC ag U5 ?_);exact ⟨by rw [d];rfl,Z⟩
theorem JL (C:Mem)(c:Value)(B:Bk)(z:Int)(b:BookZ C c B z):Gives cx.P 92 [c] C (.tuple #[.int .i64 (if ofE z (bs B) (bp B)=0 then ((bs B*bp B:Nat):Int) else 0),.int .i64 (ofE z (bs B) (bp B))]):=by
 have s:=NK b;have g:=b;obtain ⟨k,l,m,n,o,rfl,h1,h2,h3,h4,h5⟩:=id b.i.ex;obtain ⟨e,d⟩:∃ e,ofE z (bs B) (bp B)=e:=⟨_,rfl⟩;have f:∀ D:Mem,C.le D->Gives cx.P 113 [.agg ⟨[k,l,m,n,o]⟩] D (.tuple #[ofS e (bs B) (bp B),.int .i64 e]):=fun D p=>by have h:=Oi D _ B z (g.mono p);rwa [d] at h
 rw [d];have q:ofS e (bs B) (bp B)=.agg ⟨[.int .i64 (if e=0 then ((bs B:Nat):Int) else 0),.int .i64 (if e=0 then ((bp B:Nat):Int) else 0)]⟩:=by unfold ofS gu;split <;> rfl
 have r:∀ D:Mem,Gives cx.P 149 [.agg ⟨[.int .i64 (if e=0 then ((bs B:Nat):Int) else 0),.int .i64 (if e=0 then ((bp B:Nat):Int) else 0)]⟩] D (.int .i64 (if e=0 then ((bs B*bp B:Nat):Int) else 0)):=fun D=>by
  by_cases h:e=0
  ·rw [aK h,aK h,aK h];exact iJ D (bs B) (bp B) om_
  rw [aG h,aG h,aG h];exact iJ D 0 0 om_
 rw [q] at f;refine Tr func92 14 U3 fun w0=>Tl fun R a=>TC U6 fun t=>C6 2 [1] a Z<|Tl fun R a=>To ag U9<|Tt (f _ mup) U7<|Tm 3 Z<|TB U5 fun u=>Ts (j:=0) U12<|C6 1 [4,5] a Z<|Tl fun R a=>To ag U9<|Tt (r _) U7<|C6 3 [2,3] a Z<|Tu (G.dropAll (TM U3 ?_));exact ⟨Z,Z⟩
theorem Oh (C:Mem)(a:Value)(B:Bk)(b:BookZ C a B 0)(c:bs B*bp B<=60):Gives cx.P 113 [a] C (.tuple #[gu (bs B) (bp B),.int .i64 0]):=by
 have h:=Oi C a B 0 b;have e:ofE 0 (bs B) (bp B)=0:=by unfold ofE;rw [aG dc_,aG om_]
 rw [e] at h;exact h
def rD (n:Nat)(done:List (Nat × Rat)):List Rat:=(List.range n).map fun j=>(dR done j).getD 0
def kV (n:Nat)(done:List (Nat × Rat)):List Value:=(rD n done).map fun q=>af (qtx q)
theorem lS (n:Nat):List.replicate n (af [48])=kV n []:=by
 unfold kV rD;rw [QC];symm;rw [List.eq_replicate_iff];refine ⟨by simp,fun v a=>?_⟩;obtain ⟨j,_,rfl⟩:=PK.1 a;show af (qtx 0)=_;rw [qtx_zero]
theorem lT (n:Nat)(a:List (Nat × Rat)):(kV n a).length=n:=by simp [kV,rD]
theorem fB {a:Nat}(b:List (Nat × Rat))(q:Rat)(h:a<n):aE (kV n b) [af (qtx q)] a=kV n ((a,q)::b):=by
 have g:=lT n b;unfold aE;refine List.ext_getElem? (fun j=>?_);have f:∀ (d:List (Nat × Rat)),(kV n d)[j]?=if j<n then some (af (qtx ((dR d j).getD 0))) else none:=fun d=>by
  unfold kV rD;rw [QC,PH];split
  ·rename_i c;rw [Qi c];rfl
  rename_i c;rw [PO (by simpa using Nat.le_of_not_lt c)];rfl
 rw [f ((a,q)::b)];have e:((kV n b).take a).length=a:=by rw [PS,g];omega
 rcases Nat.lt_trichotomy j a with c | rfl | c
 ·rw [Qb,Qm (by rw [e];exact c),Qr,aK c,f b,aK om_,aK om_];simp only [dR];rw [aG om_]
 ·rw [Qb,P4 (by rw [e];exact PE _),e,Sf,aK h];simp [dR]
 rw [P4 (by rw [PM,e];simp;omega),PM,e,List.getElem?_drop];rw [show a+[af (qtx q)].length+(j-(a+[af (qtx q)].length))=j by simp;omega,f b];split
 ·simp only [dR];rw [aG om_]
 rfl
theorem vX {d a:List (Nat × Rat)}(h:d.Perm a)(b:(d.map (·.1)).Nodup):rD n d=rD n a:=by
 unfold rD;refine List.map_congr_left (fun j _=>?_);rw [wD h b]
def eK (fm:List (Nat × Rat)):List (Int × Value):=fm.map fun x=>(((x.1:Nat):Int),af (qtx x.2))
def HG (p surface:Nat)(sign:Rat)(x:Nat × Rat):Nat × Rat:=(surface*p+x.1,sign*x.2)
theorem mK:QB 1 (-1:Rat):=fa QB_one
theorem yp (C:Mem)(s p a k:Nat)(h:a*p+k<=1000000):Gives cx.P 240 [gu s p,.int .i64 (a:Nat),.int .i64 (k:Nat)] C (.int .i64 ((a*p+k:Nat):Int)):=by
 have e:((a:Nat):Int)*(p:Nat)=((a*p:Nat):Int):=(Qa _ _).symm;have h2:=NR C s p (a:Nat) (k:Nat) (by rw [e];omega) om_;rw [e,<- Si] at h2;exact h2
def Ip (s p surface:Nat)(fm:List (Nat × Rat))(sign:Rat):List Rat:=rD (s*p) (fm.map (HG p surface sign))
theorem NX (C:Mem)(J:Tabs C)(s p f b:Nat)(c:List (Nat × Rat))(g o:Rat)(k:Nat)(K:0<k)(hk:k<=1000)(ab:s*p<=100000)(hs:f<s)(A:C b=some (aV keyZ.enc (eK c)))(ac:(c.map (·.1)).Nodup)(ad:∀ x∈c,x.1<p)(ae:∀ x∈c,QB k x.2)(L:QB k g)(ah:QB k o) :
  Pur cx.P 246 [gu s p,.int .i64 f,.map (some b),af (qtx g),af (qtx o)] C fun u D=>∃ v,u=.agg ⟨[v,af (qtx (g*o))]⟩/\Sl D 1 v ((Ip s p f c g).map ec):=by
 have av:maxLen<=9223372036854775807:=by simp [maxLen]
 have M:(eK c).length=c.length:=by simp [eK]
 have aw:f*p+p<=s*p:=by
  rw [<- Nat.succ_mul];exact Qt _ hs
 have ay:=(c.map (·.1)).length;refine Tr func246 38 U3 fun w0=>Tl fun R l=>TC U6 fun b5=>TB U5 fun z=>Tn [1,2,3,4,5,10] l Z<|G.freeze 1 Z fun _ _ N=>TH [(1,3)] Z fun R l=>Tj (bkT N 2) U8<|D.call (fV _ s p ab) Z (.inr dc_) U6 (PI _) fl_ (fun az _ aA _ ai=>?_);obtain ⟨bz,rfl,rfl⟩:=ai;refine Tm 2 Z<|Tw (di _ J.m_ g o k K om_ L ah) U7 fl_<|TA [.slice (some ⟨bz,0,none⟩) (s*p:Nat) (s*p:Nat),af (qtx (g*o))] U8<|TB U5 fun ak=>Ts (j:=0) U12<|Tn [1,2,3,5,10,11] l Z<|G.freeze 0 Z fun _ _ O=>Tz (L':=[.arr (.slice (some ⟨bz,0,none⟩) (s*p) (s*p)) 32 1 (s*p) (kV (s*p) []),.obj z (.cells ⟨[.slice none 0 0,af []]⟩ 140 (0,0))]) (by rw [lS];rfl)<|Ti 1 Z fun R l=>VA keyZ (Mem.get A mup) Z Z Z Z Z Z Z fl_ fun E=>Tn [1,3,5,10,11,21] l Z<|G.loop (fun fr C' B μ=>∃ (seen:List Nat),(seen.Nodup/\(∀ j∈seen,j<c.length))/\fr=[(1,[],.int .i64 f),(3,[],af (qtx g)),(5,[],.pointer (some ⟨b5,0,none⟩)),(10,[],.pointer (some ⟨z,0,none⟩)),(11,[],.pointer (some ⟨ak,0,none⟩)),(21,[],.pointer (some ⟨E,0,none⟩))]/\B=[.obj E (bl b (eK c).length seen),.arr (.slice (some ⟨bz,0,none⟩) (s*p) (s*p)) 32 1 (s*p) (kV (s*p) (seen.reverse.map fun i=>HG p f g (c.getD i (0,0)))),.obj z (.cells ⟨[.slice none 0 0,af []]⟩ 140 (0,0))]/\μ=c.length-seen.length) (hn_ [1,3,5,10,11,21] Z) ⟨[],⟨List.nodup_nil,by simp⟩,Z,Z,Z⟩ (fun fr aB aC m _ hI=>?_);obtain ⟨seen,⟨Q,S⟩,rfl,rfl,rfl⟩:=hI;refine Tl fun R l=>VF keyZ (q:=0) (Mem.get A mup) Z Z Z Z Z Z fl_ fun T aD t U=>C6 1 [1,3,5,10,11,21,23] l Z<|G.cd (fun w=>?_) fun w=>?_
 ·obtain ⟨aE,j,F,al,rfl⟩:T=true/\∃ j,j<(eK c).length/\j ∉ seen/\t=seen++[j]:=by
   rcases U with ⟨h1,_⟩ | h1
   ·rw [h1] at w;cases w
   exact h1
  rw [M] at F;obtain ⟨⟨n,q⟩,H⟩:∃ x,c[j]?=some x:=⟨c[j],aj F⟩;have V:=O0 H;have aF:n<p:=ad _ V;have am:QB k q:=ae _ V;have an:(eK c)[j]?=some (((n:Nat):Int),af (qtx q)):=by unfold eK;rw [PH,H];rfl
  have ao:c.getD j (0,0)=(n,q):=by rw [ax,H];rfl
  have W:(seen++[j]).Nodup:=by
   rw [Q7];exact ⟨Q,by simp,fun a ha b hb e=>by rw [PZ.1 hb] at e;subst e;exact al ha⟩
  have X:∀ i∈seen++[j],i<c.length:=fun i I=>by
   rcases PU.1 I with h | h
   ·exact S i h
   rw [PZ.1 h];exact F
  have aG:(seen++[j]).length<=c.length:=by
   have:=List.Nodup.length_le_of_subset W (l₂:=List.range c.length) (fun i I=>PX.2 (X i I));simpa using this
  have aH:(seen++[j]).length=seen.length+1:=by simp
  have ap:f*p+n<s*p:=by omega
  refine Tl fun R l=>VD keyZ (Mem.get A mup) an ag Z Z Z Z Z Z Z<|C6 4 [1,3,5,10,11,12,13,21] l Z<|TD [0,1,2,3,4,5,6,7,8,9,10] [(5,1),(8,1)] Z kr_ fun R hB l=>Tk U6<|Tj (bkT O 1) U8<|Tj (bkT N 2) U8<|Tm 2 Z<|TG (fun _=>(yp _ s p f n om_)) U9<|Tm 2 Z<|TG (fun _=>(di _ J.m_ g q k K om_ L am)) U9<|TL ((f*p+n)) U10 (fun _=>⟨by omega,by omega,(QD _).symm⟩) U2<|TP (j:=1) U11 (by rw [lT];simp;omega)<|Tn [1,3,5,10,11,21] l Z<|G.perm (L':=[.obj E (bl b (eK c).length (seen++[j])),.arr (.slice (some ⟨bz,0,none⟩) (s*p) (s*p)) 32 1 (s*p) (kV (s*p) ((seen++[j]).reverse.map fun i=>HG p f g (c.getD i (0,0)))),.obj z (.cells ⟨[.slice none 0 0,af []]⟩ 140 (0,0))]) (by
   rw [List.reverse_append,List.reverse_singleton,List.singleton_append,Qe,ao];unfold HG;rw [<- fB _ _ ap];exact List.Perm.swap _ _ _) ?_
  refine Tv (m':=c.length-(seen++[j]).length) om_ mup (hn_ [1,3,5,10,11,21] Z) ⟨seen++[j],⟨W,X⟩,Z,Z,Z⟩
 obtain ⟨aI,rfl,Y⟩:T=false/\t=seen/\∀ j,j<(eK c).length->j∈seen:=by
  rcases U with h1 | ⟨h1,_⟩
  ·exact h1
  rw [h1] at w;cases w
 rw [M] at Y;have aa:(t.reverse.map fun i=>HG p f g (c.getD i (0,0))).Perm (c.map (HG p f g)):=by
  have h1:=(oO (d:=((0:Nat),(0:Rat))) Q S Y).map (HG p f g);rw [QC] at h1;exact ((List.reverse_perm t).map _).trans h1
 have aq:((c.map (HG p f g)).map (·.1)).Nodup:=by
  rw [QC];have e:((·.1) ∘ HG p f g:Nat × Rat->Nat)=(fun k=>f*p+k) ∘ (·.1):=rfl;rw [e,<- QC];rw [List.Nodup,List.pairwise_map];exact ac.imp (fun {a b} h=>by omega)
 have ar:kV (s*p) (t.reverse.map fun i=>HG p f g (c.getD i (0,0)))=((Ip s p f c g).map ec).flatten:=by
  unfold Ip kV;rw [vX aa ((aa.map (·.1)).nodup_iff.2 aq)];exact (ep (fun q=>af (qtx q)) _).symm
 refine Ua 0 Z<|G.freezeArr 0 ((Ip s p f c g).map ec) rfl ar (by intro r hr;obtain ⟨y,_,rfl⟩:=PK.1 hr;rfl) (by simp [Ip,rD]) fun Cg hg au=>Tl fun R l=>Tj (bkT O 2) U8<|Ts (j:=0) U12<|Tn [10] l Z<|Tu (Uc ag U4 ?_);exact ⟨Z,_,Z,au⟩
end Go.Proofs.YtfjcldheldflbaaGreatDoor
