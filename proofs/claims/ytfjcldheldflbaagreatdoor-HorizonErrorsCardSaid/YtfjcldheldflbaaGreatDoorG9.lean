/- Laws that the proofs of this seat share, part 9. -/
import Derived.Test.YtfjcldheldflbaaGreatDoorG8
import Derived.Test.YtfjcldheldflbaaGreatDoorShelf
set_option maxHeartbeats 4000000
namespace Go.Proofs.YtfjcldheldflbaaGreatDoor
open Go.Proofs.Tryz
open Go Go.Jog
set_option maxRecDepth 100000
variable {C:Mem}{a b:Rat}{bv:Value}{c:Rat}{fs:List Rat}{i k m n:Nat}{p:Pt}{pts:List Pt}{q:Rat}{t:Tri}{tris:List Tri}{z:Int}{α:Type}
theorem bW {f:α->List Value}{l:List α}{x:α}(h:l[i]?=some x):(l.map f)[i]?=some (f x):=by rw [PD,h];rfl
def uf (n:Nat)(l:List Str):Int:=if l.length=n then nC (l.all aV) else 5
theorem wY (C:Mem)(y:Tabs C)(z v A:Value)(b:List Pt)(f:List Tri)(l:List Str)(B:MeshIn C z b f)(D:Good b f)(g:Sl C 1 v [[A]])(k:Sl C 1 A (l.map gi))(M:∀ s∈l,s.length<=999998) :
  Gives cx.P 61 [z,v] C (.int .i64 (uf b.length l)):=by
 have E:=B;have Y:=D.ok.lp;obtain ⟨v1,v2,rfl,h1,h2⟩:=id B.ex;obtain ⟨A1,c1,rfl,aa,ab,_⟩:=id h1;obtain ⟨F,H,rfl,ac,ad,_⟩:=id g;obtain ⟨n,o,rfl,N,ae,_⟩:=id k;have af:maxLen<=9223372036854775807:=by simp [maxLen]
 simp only [am,ba] at h1 g k E N ⊢;refine Tk func61 41 U3 fun w0=>Tf fun R a=>Tv U6 fun b2=>C6 1 [1,2] a Z<|G.freeze 0 Z fun _ _ I=>Tf fun R a=>Td (PtrTo.block (Mem.get I mup) _) U8<|To (gv _ y.m_ _ b f E.m_ D) U7<|C6 1 [1,2,5] a Z<|Tb 2 [1,2,5,14] Z<|G.cd (fun J=>?_) fun J=>?_
 ·exact absurd J dc_
 refine Tb 3 [2,16,17,18] Z<|G.loop (fun fr O p q=>∃ (i:Nat),(i<=1/\(i=1->l.length=b.length/\l.all aV=true))/\fr=[(2,[],.pointer (some ⟨b2,0,none⟩)),(16,[],.slice F 1 H),(17,[],.int .i64 1),(18,[],.int .i64 i)]/\p=[]/\q=1-i) (hn_ [2,16,17,18] Z) ⟨0,⟨PG _,fun h=>absurd h dc_⟩,Z,Z,Z⟩ (fun fr ag ah m _ r=>?_);obtain ⟨i,⟨hi,Q⟩,rfl,rfl,rfl⟩:=r;refine Tb 1 [2,16,17,18,19] Z<|G.cd (fun t=>?_) fun t=>?_
 ·obtain rfl:i=0:=by
   simp only [PI] at t;omega
  refine Tf fun R a=>Tt g.m_ U10 om_ (rfl:([[.slice n l.length o]]:List (List Value))[0]?=some [.slice n l.length o]) fl_ fun ai S=>Td S U8<|C6 1 [2,7,16,17,18] a Z<|Tc 3 Z fun R a=>Td (PtrTo.block (Mem.get I mup) _) U8<|C6 2 [2,7,16,17,18,27] a Z<|G.cd (fun d=>?_) fun d=>?_
  ·have T:l.length≠b.length:=by
    intro e;rw [e] at d;simp at d
   exact Tb 1 [4] Z<|Tl U2<|⟨by unfold uf;rw [aF T],Z⟩
  have K:l.length=b.length:=by
   have h:((l.length:Nat):Int)=(b.length:Nat):=by simpa using d
   omega
  refine Tb 3 [2,16,17,18,28,29,30] Z<|G.loop (fun fr O p q=>∃ (j:Nat),(j<=l.length/\(l.take j).all aV=true)/\fr=[(2,[],.pointer (some ⟨b2,0,none⟩)),(16,[],.slice F 1 H),(17,[],.int .i64 1),(18,[],.int .i64 0),(28,[],.slice n l.length o),(29,[],.int .i64 l.length),(30,[],.int .i64 j)]/\p=[]/\q=l.length-j) (hn_ [2,16,17,18,28,29,30] Z) ⟨0,⟨PG _,by simp⟩,Z,Z,Z⟩ (fun fr aj ak m U r=>?_);obtain ⟨j,⟨hj,u⟩,rfl,rfl,rfl⟩:=r;refine Tb 1 [2,16,17,18,28,29,30,31] Z<|G.cd (fun w=>?_) fun w=>?_
  ·have x:j<l.length:=by simpa using w
   obtain ⟨s,hs⟩:∃ s,l[j]?=some s:=⟨l[j],al x⟩;refine Tf fun R a=>Tt k.m_ U10 om_ (bW hs) fl_ fun an V=>Td V U8<|C6 1 [2,9,16,17,18,28,29,30] a Z<|Tc 1 Z fun R a=>To (dF _ y.m_ s (M s (Px hs))) U7<|C6 1 [2,10,16,17,18,28,29,30] a Z<|Tb 2 [2,10,16,17,18,28,29,30,37] Z<|G.cd (fun c=>?_) fun c=>?_
   ·have L:aV s=false:=by
     rcases eX (aV s) with ⟨h1,h2⟩ | ⟨h1,h2⟩
     ·rw [h1] at c;exact absurd c dc_
     exact h2
    refine Tb 2 [4] Z<|Tl U2<|⟨?_,Z⟩;unfold uf;rw [aL K,L,show l.all aV=false from RM.2 ⟨s,Px hs,by rw [L];decide⟩]
   have W:aV s=true:=by
    rcases eX (aV s) with ⟨h1,h2⟩ | ⟨h1,h2⟩
    ·exact h2
    rw [h1] at c;exact absurd c dc_
   refine Tf fun R a=>Tm _ U7<|C6 1 [2,16,17,18,28,29,30] a Z<|Tp (m':=l.length-(j+1)) om_ U (hn_ [2,16,17,18,28,29,30] Z) ⟨j+1,⟨by omega,by rw [P0,hs,SY,u];simp [W]⟩,Z,Z,Z⟩
  have x:j=l.length:=by
   have:¬ j<l.length:=by simpa using w
   omega
  refine Tf fun R a=>Tm _ U7<|C6 1 [2,16,17,18] a Z<|Tp (m':=0) om_ mup (hn_ [2,16,17,18] Z) ⟨1,⟨Py _,fun _=>⟨K,by rw [x,PO] at u;exact u⟩⟩,Z,Z,Z⟩
 have X:i=1:=by
  simp only [P3] at t;omega
 refine Tb 1 [4] Z<|Tl U2<|⟨?_,Z⟩;obtain ⟨h3,h4⟩:=Q X;unfold uf;rw [aL h3,h4];rfl
theorem ug (C:Mem)(h:Tabs C)(e f:Value)(a:List Pt)(b:List Tri)(l:List Str)(g:MeshIn C e a b)(i:Good a b)(c:Sl C 1 f (l.map gi))(j:∀ s∈l,s.length<=999998) :
  Gives cx.P 217 [e,f] C (.int .i64 (uf a.length l)):=by
 have k:=g;obtain ⟨p,q,rfl,h1,h2⟩:=id g.ex;obtain ⟨m,n,rfl,r,t,_⟩:=id c;simp only [am] at c ⊢;exact Tk func217 9 U3 fun w0=>Tf fun R d=>Tv U6 fun b2=>C6 1 [1,2] d Z<|Tf fun R d=>Ti ag U9<|Te U6<|Tz [[.slice m l.length n]] U12 fun u _ _ o=>To (wY _ h.m_ _ _ _ a b l k.m_ i o.m_ c.m_ j) U7<|C6 1 [4] d Z<|Tl U2<|⟨Z,Z⟩
def eh (q:Rat):List Value:=[ah (qtx q)]
def fz (fs:List Rat)(t:Tri)(j:Nat):Rat:=fs.getD (iq t j) 0
def yN (pts:List Pt)(fs:List Rat)(t:Tri)(j:Nat):List Value:=cY (cor pts t j)++eh (fz fs t j)
theorem F8 (h:i<fs.length):fs[i]?=some (fs.getD i 0):=by
 rw [ay,al h];rfl
theorem yG (C:Mem)(r s:Value)(b:List Pt)(l:List Tri)(c:List Rat)(z:MeshIn C r b l)(A:MeshOk b l)(e:Sl C 1 s (c.map eh))(n:c.length=b.length)(i:Nat)(t:Tri)(o:l[i]?=some t) :
  Gives cx.P 192 [r,s,.int .i64 i] C (.agg ⟨yN b c t 0++yN b c t 1++yN b c t 2⟩):=by
 have d:=A.ins t (Px o);obtain ⟨M,N,rfl,h1,h2⟩:=id z.ex;obtain ⟨O,Q,rfl,B,S,_⟩:=id h1;obtain ⟨A2,c2,rfl,D,T,_⟩:=id h2;obtain ⟨E,F,rfl,U,V,_⟩:=id e;have W:maxLen<=9223372036854775807:=by simp [maxLen]
 simp only [am] at h1 h2 e B D ⊢;have X:=(aJ.1 o).1;refine Tk func192 32 U3 fun w0=>?_;refine Tf fun R a=>?_;refine Tv U6 (fun H=>?_);refine Tq U5 (fun u=>?_);refine Th [1,2,3,6] a Z ?_;refine G.freeze 1 Z (fun _ _ h=>?_);refine Tc 1 Z fun R a=>?_;refine Td (PtrTo.block (Mem.get h mup) _) U8 ?_;refine Te U6 ?_;refine Tt h2.m_ U10 om_ (bW o) fl_ (fun Y I=>?_);refine Td I U8 ?_;refine C6 1 [1,3,6,13,14] a Z ?_;refine G.loop (fun fr C' J K=>∃ (j:Nat),(j<=3)/\fr=[(1,[],.slice E c.length F),(3,[],.pointer (some ⟨H,0,none⟩)),(6,[],.pointer (some ⟨u,0,none⟩)),(13,[],.agg ⟨gz t⟩),(14,[],.int .i64 j)]/\J=[.obj u (.cells ⟨(List.range 3).flatMap fun k=>if k<j then yN b c t k else [ah [],ah [],ah []]⟩ 279 (0,0))]/\K=3-j) (hn_ [1,3,6,13,14] Z) ⟨0,PG _,Z,Z,Z⟩ (fun fr aa ab m p L=>?_);obtain ⟨j,hj,rfl,rfl,rfl⟩:=L;refine Tb 1 [1,3,6,13,14,15] Z ?_;refine G.cd (fun q=>?_) fun q=>?_
 ·have v:j<3:=by
   simp only [PI] at q;omega
  rcases (by omega:j=0∨j=1∨j=2) with rfl | rfl | rfl
  ·refine Tc 1 Z fun R a=>?_;refine Uf U11 ai U2 ?_;refine C6 2 [1,3,6,7,8,13,14] a Z ?_;refine Tx [0,1,2,3,4,5,6,7,8,9,10,11,12] [] Z kr_ (fun R w a=>?_);refine Tg 2 Z ?_;refine Td (PtrTo.block (Mem.get h mup) _) U8 ?_;refine Te U6 ?_;refine Tt h1.m_ U10 om_ (bW (iO (eH d 0))) fl_ (fun x f=>?_);refine Td f U8 ?_;refine Tg 2 Z ?_;refine Tt e.m_ U10 om_ (bW (F8 (n ▸ eH d 0))) fl_ (fun y g=>?_);refine Td g U8 ?_;refine Tw (yN b c t 0) U8 ?_;refine Ty (_) U9 ai U2 ?_;refine Tj (j:=0) U12 ?_;refine Th [1,3,6,13,14] a Z ?_;refine Tf fun R a=>?_;refine Tm _ U7 ?_;refine C6 1 [1,3,6,13,14] a Z ?_;refine Tp (m':=2) om_ p (hn_ [1,3,6,13,14] Z) ⟨1,by decide,Z,Z,Z⟩
  ·refine Tc 1 Z fun R a=>?_;refine Uf U11 ai U2 ?_;refine C6 2 [1,3,6,7,8,13,14] a Z ?_;refine Tx [0,1,2,3,4,5,6,7,8,9,10,11,12] [] Z kr_ (fun R w a=>?_);refine Tg 2 Z ?_;refine Td (PtrTo.block (Mem.get h mup) _) U8 ?_;refine Te U6 ?_;refine Tt h1.m_ U10 om_ (bW (iO (eH d 1))) fl_ (fun x f=>?_);refine Td f U8 ?_;refine Tg 2 Z ?_;refine Tt e.m_ U10 om_ (bW (F8 (n ▸ eH d 1))) fl_ (fun y g=>?_);refine Td g U8 ?_;refine Tw (yN b c t 1) U8 ?_;refine Ty (_) U9 ai U2 ?_;refine Tj (j:=0) U12 ?_;refine Th [1,3,6,13,14] a Z ?_;refine Tf fun R a=>?_;refine Tm _ U7 ?_;refine C6 1 [1,3,6,13,14] a Z ?_;refine Tp (m':=1) om_ p (hn_ [1,3,6,13,14] Z) ⟨2,by decide,Z,Z,Z⟩
  refine Tc 1 Z fun R a=>?_;refine Uf U11 ai U2 ?_;refine C6 2 [1,3,6,7,8,13,14] a Z ?_;refine Tx [0,1,2,3,4,5,6,7,8,9,10,11,12] [] Z kr_ (fun R w a=>?_);refine Tg 2 Z ?_;refine Td (PtrTo.block (Mem.get h mup) _) U8 ?_;refine Te U6 ?_;refine Tt h1.m_ U10 om_ (bW (iO (eH d 2))) fl_ (fun x f=>?_);refine Td f U8 ?_;refine Tg 2 Z ?_;refine Tt e.m_ U10 om_ (bW (F8 (n ▸ eH d 2))) fl_ (fun y g=>?_);refine Td g U8 ?_;refine Tw (yN b c t 2) U8 ?_;refine Ty (_) U9 ai U2 ?_;refine Tj (j:=0) U12 ?_;refine Th [1,3,6,13,14] a Z ?_;refine Tf fun R a=>?_;refine Tm _ U7 ?_;refine C6 1 [1,3,6,13,14] a Z ?_;refine Tp (m':=0) om_ p (hn_ [1,3,6,13,14] Z) ⟨3,by decide,Z,Z,Z⟩
 have v:j=3:=by
  simp only [P3] at q;omega
 subst v;refine Tf fun R a=>?_;refine Ti ag U9 ?_;refine Tj (j:=0) U12 ?_;refine Th [6] a Z ?_;refine Tn (TY ag U4 ?_);exact ⟨Z,Z⟩
/-! Finer bounds. -/
theorem eP (c:QB k a)(d:QB m b):QB (k+m) (a*b):=by
 rw [gr];refine gT (Nat.mul_ne_zero a.den_nz b.den_nz) ?_ ?_
 ·rw [Q7,Sq];exact Rs c.1 d.1
 rw [Sq];exact Rs c.2 d.2
theorem mW (c:QB k a)(d:QB m b):QB (k+m+1) (a+b):=by
 rw [jx];have e:B9 ^ (k+m+1)=B9 ^ k*B9 ^ m*B9:=by rw [QL,Sq]
 have p1:(a.num*b.den).natAbs<B9 ^ k*B9 ^ m:=by rw [Q7,Qn];exact Rs c.1 d.2
 have p2:(b.num*a.den).natAbs<B9 ^ k*B9 ^ m:=by rw [Q7,Qn,Qk];exact Rs c.2 d.1
 have f:a.den*b.den<B9 ^ k*B9 ^ m:=Rs c.2 d.2;have g:2*(B9 ^ k*B9 ^ m)<=B9 ^ k*B9 ^ m*B9:=by
  rw [Qk];exact QW _ dc_
 refine gT (Nat.mul_ne_zero a.den_nz b.den_nz) ?_ ?_
 ·rw [e];have:=Si (a.num*b.den) (b.num*a.den);omega
 rw [e];omega
theorem dp (c:QB k a)(d:QB m b):QB (k+m+1) (a-b):=by
 rw [S3];exact mW c (fM d)
theorem QB_one:QB 1 1:=⟨by decide,by decide⟩
theorem QB_zero:QB 1 0:=⟨by decide,by decide⟩
def fE (a b c d:Rat):Rat:=a*d-b*c
theorem pN (C:Mem)(e:Tabs C)(a b c d:Rat)(k:Nat)(f:0<k)(m:k<=2000)(g:QB k a)(h:QB k b)(i:QB k c)(j:QB k d):Gives cx.P 193 [ah (qtx a),ah (qtx b),ah (qtx c),ah (qtx d)] C (ah (qtx (fE a b c d))):=by
 exact Tk func193 16 U3 fun w0=>Tb 1 [0,1,2,3] Z<|Tc 2 Z fun R l=>Ts (cU _ e.m_ a d k f om_ g j) U7 fl_<|Tg 2 Z<|Ts (cU _ e.m_ b c k f om_ h i) U7 fl_<|Ts (dz _ e.m_ (a*d) (b*c) (k+k) om_ om_ (qF g j) (qF h i)) U7 fl_<|C6 1 [8] l Z<|Tl U2<|⟨Z,Z⟩
theorem jN {d:Rat}(e:QB k a)(f:QB k b)(g:QB k c)(h:QB k d):QB (4*k+1) (fE a b c d):=(dp (eP e h) (eP f g)).le om_
def NC (c0 c1 c2:Pt)(z0 z1 z2:Rat):Pt :=
 ((1 / fE (c1.1-c0.1) (c1.2-c0.2) (c2.1-c0.1) (c2.2-c0.2))*fE (z1-z0) (c1.2-c0.2) (z2-z0) (c2.2-c0.2),
 (1 / fE (c1.1-c0.1) (c1.2-c0.2) (c2.1-c0.1) (c2.2-c0.2))*fE (c1.1-c0.1) (z1-z0) (c2.1-c0.1) (z2-z0))
def ek (pts:List Pt)(fs:List Rat)(t:Tri):Pt:=NC (cor pts t 0) (cor pts t 1) (cor pts t 2) (fz fs t 0) (fz fs t 1) (fz fs t 2)
theorem Mu (a:MeshOk pts tris)(b:fs.length=pts.length)(c:∀ q∈fs,QB k q)(d:t∈tris)(j:Nat):QB k (fz fs t j) :=
 c _ (Px (F8 (b ▸ eH (a.ins t d) j)))
theorem vx (d:MeshOk pts tris)(g:fs.length=pts.length)(h:∀ q∈fs,QB k q)(e:t∈tris):QP (8*k+39) (ek pts fs t):=by
 have a:=fun j=>nA d e j;have f:=fun j=>Mu d g h e j;have b:∀ i j,QB 3 ((cor pts t i).1-(cor pts t j).1):=fun i j=>(dp (a i).1 (a j).1).le dc_;have hy:∀ i j,QB 3 ((cor pts t i).2-(cor pts t j).2):=fun i j=>(dp (a i).2 (a j).2).le dc_;have c:∀ i j,QB (2*k+1) (fz fs t i-fz fs t j):=fun i j=>(dp (f i) (f j)).le om_;have hm:QB 13 (fE ((cor pts t 1).1-(cor pts t 0).1) ((cor pts t 1).2-(cor pts t 0).2) ((cor pts t 2).1-(cor pts t 0).1) ((cor pts t 2).2-(cor pts t 0).2)):=(jN (k:=3) (b 1 0) (hy 1 0) (b 2 0) (hy 2 0)).le dc_;have l:fE ((cor pts t 1).1-(cor pts t 0).1) ((cor pts t 1).2-(cor pts t 0).2) ((cor pts t 2).1-(cor pts t 0).1) ((cor pts t 2).2-(cor pts t 0).2)≠0:=nV d e;have h1:QB 26 _:=(lY (k:=13) (QB_one.le dc_) hm l).le dc_;have m:QB (4*(2*k+3)+1) (fE (fz fs t 1-fz fs t 0) ((cor pts t 1).2-(cor pts t 0).2) (fz fs t 2-fz fs t 0) ((cor pts t 2).2-(cor pts t 0).2)):=jN (k:=2*k+3) ((c 1 0).le om_) ((hy 1 0).le om_) ((c 2 0).le om_) ((hy 2 0).le om_);have n:QB (4*(2*k+3)+1) (fE ((cor pts t 1).1-(cor pts t 0).1) (fz fs t 1-fz fs t 0) ((cor pts t 2).1-(cor pts t 0).1) (fz fs t 2-fz fs t 0)):=jN (k:=2*k+3) ((b 1 0).le om_) ((c 1 0).le om_) ((b 2 0).le om_) ((c 2 0).le om_);exact ⟨(eP h1 m).le om_,(eP h1 n).le om_⟩
theorem wA (C:Mem)(d:Tabs C)(r s:Value)(a:List Pt)(n:List Tri)(b:List Rat)(k:Nat)(u:0<k)(K:k<=100)(v:MeshIn C r a n)(o:MeshOk a n)(D:Sl C 1 s (b.map eh))(w:b.length=a.length)(E:∀ q∈b,QB k q)(i:Nat)(t:Tri)(x:n[i]?=some t) :
  Gives cx.P 125 [r,s,.int .i64 i] C (ptV (ek a b t)):=by
 have p:=Px x;have F:=v;obtain ⟨L,M,rfl,h1,h2⟩:=id v.ex;have e:=fun j=>nA o p j;have m:=fun j=>Mu o w E p j;have g:∀ i j,QB 3 ((cor a t i).1-(cor a t j).1):=fun i j=>(dp (e i).1 (e j).1).le dc_;have hy:∀ i j,QB 3 ((cor a t i).2-(cor a t j).2):=fun i j=>(dp (e i).2 (e j).2).le dc_;have l:∀ i j,QB (2*k+1) (fz b t i-fz b t j):=fun i j=>(dp (m i) (m j)).le om_;have y:QB 13 (fE ((cor a t 1).1-(cor a t 0).1) ((cor a t 1).2-(cor a t 0).2) ((cor a t 2).1-(cor a t 0).1) ((cor a t 2).2-(cor a t 0).2)):=(jN (k:=3) (g 1 0) (hy 1 0) (g 2 0) (hy 2 0)).le dc_;have z:fE ((cor a t 1).1-(cor a t 0).1) ((cor a t 1).2-(cor a t 0).2) ((cor a t 2).1-(cor a t 0).1) ((cor a t 2).2-(cor a t 0).2)≠0:=nV o p;have A:QB 26 (1 / fE ((cor a t 1).1-(cor a t 0).1) ((cor a t 1).2-(cor a t 0).2) ((cor a t 2).1-(cor a t 0).1) ((cor a t 2).2-(cor a t 0).2)):=(lY (k:=13) (QB_one.le dc_) y z).le dc_;have H:QB (8*k+26) (fE (fz b t 1-fz b t 0) ((cor a t 1).2-(cor a t 0).2) (fz b t 2-fz b t 0) ((cor a t 2).2-(cor a t 0).2)):=(jN (k:=2*k+3) ((l 1 0).le om_) ((hy 1 0).le om_) ((l 2 0).le om_) ((hy 2 0).le om_)).le om_;have I:QB (8*k+26) (fE ((cor a t 1).1-(cor a t 0).1) (fz b t 1-fz b t 0) ((cor a t 2).1-(cor a t 0).1) (fz b t 2-fz b t 0)):=(jN (k:=2*k+3) ((g 1 0).le om_) ((l 1 0).le om_) ((g 2 0).le om_) ((l 2 0).le om_)).le om_;refine Tk func125 98 U3 fun w0=>?_;refine Tf fun R c=>?_;refine Tv U6 (fun N=>?_);refine Tq U5 (fun O=>?_);refine Th [1,2,3,6] c Z ?_;refine Tf fun R c=>?_;refine Ti af U9 ?_;refine Tg 2 Z ?_;refine To (yG _ _ _ a n b F.m_ o D.m_ w i t x) U7 ?_;refine Tq U5 (fun Q=>?_);refine Tj (j:=0) U12 ?_;refine Th [6,7] c Z ?_;refine G.freeze 0 Z (fun J _ f=>?_);refine Tx [0,1,2,3,4,5,6,7,8,9,10,11,12,13,14,15,16,17,18,19] [(8,1),(17,1)] Z kr_ (fun R B c=>?_);refine Ty (3) U9 ai U2 ?_;refine Tg 2 Z ?_;refine Td (bkT f 1) U8 ?_;refine Ty (0) U9 ai U2 ?_;refine Tg 2 Z ?_;refine Td (bkT f 1) U8 ?_;refine TA (fun _=>(dz _ d.m_ (cor a t 1).1 (cor a t 0).1 1 dc_ dc_ (e 1).1 (e 0).1)) U9 ?_;refine Ty (3) U9 ai U2 ?_;refine Tg 2 Z ?_;refine Td (bkT f 1) U8 ?_;refine Ty (0) U9 ai U2 ?_;refine Tg 2 Z ?_;refine Td (bkT f 1) U8 ?_;refine TA (fun _=>(dz _ d.m_ (cor a t 1).2 (cor a t 0).2 1 dc_ dc_ (e 1).2 (e 0).2)) U9 ?_;refine C6 2 [6,7,8,9] c Z ?_;refine Tx [0,1,2,3,4,5,6,7,8,9,10,11,12,13,14,15,16,17,18,19] [(8,1),(17,1)] Z kr_ (fun R B c=>?_);refine Ty (6) U9 ai U2 ?_;refine Tg 2 Z ?_;refine Td (bkT f 1) U8 ?_;refine Ty (0) U9 ai U2 ?_;refine Tg 2 Z ?_;refine Td (bkT f 1) U8 ?_;refine TA (fun _=>(dz _ d.m_ (cor a t 2).1 (cor a t 0).1 1 dc_ dc_ (e 2).1 (e 0).1)) U9 ?_;refine Ty (6) U9 ai U2 ?_;refine Tg 2 Z ?_;refine Td (bkT f 1) U8 ?_;refine Ty (0) U9 ai U2 ?_;refine Tg 2 Z ?_;refine Td (bkT f 1) U8 ?_;refine TA (fun _=>(dz _ d.m_ (cor a t 2).2 (cor a t 0).2 1 dc_ dc_ (e 2).2 (e 0).2)) U9 ?_;refine C6 2 [6,7,8,9,10,11] c Z ?_;refine Tx [0,1,2,3,4,5,6,7,8,9,10,11,12,13,14,15] [(6,1),(13,1)] Z kr_ (fun R B c=>?_);refine Ty (3) U9 ai U2 ?_;refine Te U6 ?_;refine Td (bkT f 1) U8 ?_;refine Ty (0) U9 ai U2 ?_;refine Te U6 ?_;refine Td (bkT f 1) U8 ?_;refine TA (fun _=>(dz _ d.m_ (fz b t 1) (fz b t 0) k u om_ (m 1) (m 0))) U9 ?_;refine Ty (6) U9 ai U2 ?_;refine Te U6 ?_;refine Td (bkT f 1) U8 ?_;refine Ty (0) U9 ai U2 ?_;refine Te U6 ?_;refine Td (bkT f 1) U8 ?_;refine TA (fun _=>(dz _ d.m_ (fz b t 2) (fz b t 0) k u om_ (m 2) (m 0))) U9 ?_;refine C6 2 [6,8,9,10,11,12,13] c Z ?_;refine Tb 1 [6,8,9,10,11,12,13,14] Z ?_;refine Tc 5 Z fun R c=>?_;refine Ts (pN _ d.m_ _ _ _ _ 3 dc_ dc_ (g 1 0) (hy 1 0) (g 2 0) (hy 2 0)) U7 fl_ ?_;refine Ts (by have h:=gb J d.m_ 1 _ 13 dc_ dc_ (QB_one.le dc_) y z;rw [dG] at h;exact h) U7 fl_ ?_;refine C6 5 [6,8,9,10,11,12,13,14,15] c Z ?_;refine Tc 6 Z fun R c=>?_;refine Ts (pN _ d.m_ (fz b t 1-fz b t 0) ((cor a t 1).2-(cor a t 0).2) (fz b t 2-fz b t 0) ((cor a t 2).2-(cor a t 0).2) (2*k+3) om_ om_ ((l 1 0).le om_) ((hy 1 0).le om_) ((l 2 0).le om_) ((hy 2 0).le om_)) U7 fl_ ?_;refine Ts (cU _ d.m_ _ _ (8*k+26) om_ om_ (A.le om_) H) U7 fl_ ?_;refine Tg 6 Z ?_;refine Ts (pN _ d.m_ ((cor a t 1).1-(cor a t 0).1) (fz b t 1-fz b t 0) ((cor a t 2).1-(cor a t 0).1) (fz b t 2-fz b t 0) (2*k+3) om_ om_ ((g 1 0).le om_) ((l 1 0).le om_) ((g 2 0).le om_) ((l 2 0).le om_)) U7 fl_ ?_;refine Ts (cU _ d.m_ _ _ (8*k+26) om_ om_ (A.le om_) I) U7 fl_ ?_;refine Tw (cY (ek a b t)) U8 ?_;refine Tj (j:=0) U12 ?_;refine Th [6] c Z ?_;refine Tn (TY ag U4 ?_);exact ⟨Z,Z⟩
def HH (l:List Rat):Rat:=l.foldl (·+·) 0
theorem D7 (l:List Rat)(q:Rat):HH (l++[q])=HH l+q:=by unfold HH;rw [List.foldl_append];rfl
theorem Lq (C:Mem)(g:Tabs C)(v:Value)(l:List Rat)(k:Nat)(h:0<k)(j:k<=10000)(b:Sl C 1 v (l.map eh))(n:∀ q∈l,QB k q)(o:∀ i,QB k (HH (l.take i))) :
  Gives cx.P 126 [v] C (ah (qtx (HH l))):=by
 obtain ⟨p,c0,rfl,r,z,_⟩:=id b;have A:maxLen<=9223372036854775807:=by simp [maxLen]
 simp only [am] at b r ⊢;refine Tk func126 17 U3 fun w0=>Tb 1 [0] Z<|Tb 1 [0,3] Z<|Tb 3 [3,6,7,8] Z<|G.loop (fun fr B t u=>∃ (i:Nat)(s:Str),(i<=l.length/\s=qtx (HH (l.take i)))/\fr=[(3,[],ah s),(6,[],.slice p l.length c0),(7,[],.int .i64 l.length),(8,[],.int .i64 i)]/\t=[]/\u=l.length-i) (hn_ [3,6,7,8] Z) ⟨0,[48],⟨PG _,qtx_zero.symm⟩,Z,Z,Z⟩ (fun fr D E m w x=>?_);obtain ⟨i,s,⟨F,f⟩,rfl,rfl,rfl⟩:=x;refine Tb 1 [3,6,7,8,9] Z<|G.cd (fun c=>?_) fun c=>?_
 ·have d:i<l.length:=by simpa using c
  obtain ⟨q,e⟩:∃ q,l[i]?=some q:=⟨l[i],al d⟩;subst f;refine Tf fun R a=>Tt b.m_ U10 om_ (bW e) fl_ fun H y=>Td y U8<|C6 1 [3,5,6,7,8] a Z<|Tc 2 Z fun R a=>To (iL _ g.m_ (HH (l.take i)) q k h j (o i) (n q (Px e))) U7<|C6 1 [3,6,7,8] a Z<|Tf fun R a=>Tm _ U7<|C6 1 [3,6,7,8] a Z<|Tp (m':=l.length-(i+1)) om_ w (hn_ [3,6,7,8] Z) ⟨i+1,_,⟨by omega,by rw [P0,e,QM,D7]⟩,Z,Z,Z⟩
 have d:i=l.length:=by
  have:¬ i<l.length:=by simpa using c
  omega
 exact Tb 2 [2] Z<|Tl U2<|⟨by rw [f,d,PO],Z⟩
def Ff (q:Rat):Value:=if aV (qtx q) then .tuple #[ah (qtx q),.int .i64 0] else .tuple #[ah [],.int .i64 4]
theorem Ga (C:Mem)(b:Tabs C)(q:Rat)(c:(qtx q).length<=999998):Gives cx.P 62 [ah (qtx q)] C (Ff q):=by
 refine Tk func62 8 U3 fun w0=>Tb 2 [0] Z<|Tc 1 Z fun R d=>To (dF _ b.m_ _ c) U7<|C6 1 [0,6] d Z<|G.cd (fun a=>?_) fun a=>?_
 ·have e:aV (qtx q)=false:=by
   rcases eX (aV (qtx q)) with ⟨h1,h2⟩ | ⟨h1,h2⟩
   ·rw [h1] at a;exact absurd a dc_
   exact h2
  refine Tb 2 [2,3] Z<|Tn (G.dropAll (TD U3 ?_));exact ⟨by unfold Ff;rw [e];rfl,Z⟩
 have f:aV (qtx q)=true:=by
  rcases eX (aV (qtx q)) with ⟨h1,h2⟩ | ⟨h1,h2⟩
  ·exact h2
  rw [h1] at a;exact absurd a dc_
 refine Tb 3 [2,3] Z<|Tn (G.dropAll (TD U3 ?_));exact ⟨by unfold Ff;rw [f];rfl,Z⟩
def onQ (pts:List Pt)(fs:List Rat)(t:Tri)(p:Pt):Rat:=HH [fz fs t 0,(ek pts fs t).1*(p.1-(cor pts t 0).1),(ek pts fs t).2*(p.2-(cor pts t 0).2)]
theorem Kp (n:k<=23)(a:MeshOk pts tris)(c:fs.length=pts.length)(d:∀ q∈fs,QB k q)(b:t∈tris)(e:QP 23 p):QB 600 (onQ pts fs t p)/\(∀ i,QB 600 (HH ([fz fs t 0,(ek pts fs t).1*(p.1-(cor pts t 0).1),(ek pts fs t).2*(p.2-(cor pts t 0).2)].take i)))/\QB 600 (fz fs t 0)/\QB 600 ((ek pts fs t).1*(p.1-(cor pts t 0).1))/\QB 600 ((ek pts fs t).2*(p.2-(cor pts t 0).2)):=by
 have hs:=vx a c d b;have f:=nA a b 0;have g:=Mu a c d b 0;have h1:QB 248 ((ek pts fs t).1*(p.1-(cor pts t 0).1)):=(eP hs.1 (dp e.1 f.1)).le om_;have h2:QB 248 ((ek pts fs t).2*(p.2-(cor pts t 0).2)):=(eP hs.2 (dp e.2 f.2)).le om_;have h:QB 25 (0+fz fs t 0):=(mW QB_zero g).le om_;have j:QB 274 (0+fz fs t 0+(ek pts fs t).1*(p.1-(cor pts t 0).1)):=(mW h h1).le om_;have l:QB 523 (0+fz fs t 0+(ek pts fs t).1*(p.1-(cor pts t 0).1)+(ek pts fs t).2*(p.2-(cor pts t 0).2)):=(mW j h2).le om_;refine ⟨l.le dc_,fun i=>?_,g.le om_,h1.le dc_,h2.le dc_⟩;rcases (by omega:i=0∨i=1∨i=2∨3<=i) with rfl | rfl | rfl | m
 ·exact QB_zero.le dc_
 ·exact h.le dc_
 ·exact j.le dc_
 rw [Qg (by simpa using m)];exact l.le dc_
theorem K7 (e:QB k a)(f:QB k b)(g:QB k c):∀ q∈[a,b,c],QB k q:=by
 intro q d;simp only [PN,QH,R8] at d;rcases d with rfl | rfl | rfl <;> assumption
theorem O7 (C:Mem)(d:Tabs C)(u v:Value)(a:List Pt)(g:List Tri)(c:List Rat)(k:Nat)(E:0<k)(F:k<=23)(w:MeshIn C u a g)(e:MeshOk a g)(h:Sl C 1 v (c.map eh))(l:c.length=a.length)(r:∀ q∈c,QB k q)(i:Nat)(t:Tri)(m:g[i]?=some t)(p:Pt)(f:QP 23 p) :
  Gives cx.P 63 [u,v,.int .i64 i,ptV p] C (ah (qtx (onQ a c t p))):=by
 have n:=Px m;have x:=e.ins t n;have y:=w;have z:=h;obtain ⟨X,Y,rfl,h1,h2⟩:=id w.ex;obtain ⟨A1,c1,rfl,H,aa,_⟩:=id h1;obtain ⟨A2,c2,rfl,I,ab,_⟩:=id h2;obtain ⟨A4,c4,rfl,ac,ad,_⟩:=id h;have ae:maxLen<=9223372036854775807:=by simp [maxLen]
 simp only [am] at h1 h2 h z y H I ⊢;have af:=(aJ.1 m).1;have o:=nA e n 0;obtain ⟨ag,J,K,L,M⟩:=Kp F e l r n f;have hs:=vx e l r n;have N:QB 25 (p.1-(cor a t 0).1):=(dp f.1 o.1).le dc_;have O:QB 25 (p.2-(cor a t 0).2):=(dp f.2 o.2).le dc_;refine Tk func63 49 U3 fun w0=>Tf fun R b=>Tv U6 fun b4=>Tv U6 fun b7=>C6 1 [1,2,4,7] b Z<|G.freeze 1 Z fun _ _ s=>Tf fun R b=>Td (PtrTo.block (Mem.get s mup) _) U8<|Tg 2 Z<|Ts (wA _ d.m_ _ _ a g c k E om_ y.m_ e z.m_ l r i t m) U7 fl_<|Tq U5 fun b9=>Tj (j:=0) U12<|Th [1,2,4,7,9] b Z<|Tc 1 Z fun R b=>Td (PtrTo.block (Mem.get s mup) _) U8<|Te U6<|Tt h2.m_ U10 om_ (bW m) fl_ fun ai Q=>UP U9 (fun _=>Q) (fun _=>⟨by omega,om_⟩) fl_ Z (fun aj S=>?_);have T:=S trivial;exact Td T U8<|C6 1 [1,4,7,9,10] b Z<|Tc 1 Z fun R b=>Td (PtrTo.block (Mem.get s mup) _) U8<|Te U6<|Tt h1.m_ U10 om_ (bW (iO x.1)) fl_ fun ak U=>Td U U8<|Tq U5 fun al=>Tj (j:=0) U12<|Th [1,7,9,10,11] b Z<|G.freeze 0 Z fun _ _ A=>G.freeze 0 Z fun _ _ B=>G.freeze 0 Z fun _ _ D=>Tx [0,1,2,3,4,5,6,7,8,9,10,11,12,13,14,15,16,17,18,19,20,21,22] [(10,1),(11,1),(18,1),(19,1),(21,1)] Z kr_ fun R hB b=>Tg 2 Z<|Tt h.m_ U10 om_ (bW (F8 (l ▸ x.1))) fl_ fun an V=>Td V U8<|Te U6<|Td (bkT B 1) U8<|Te U6<|Td (bkT D 1) U8<|Te U6<|Td (bkT A 1) U8<|TA (fun _=>(dz _ d.m_ p.1 (cor a t 0).1 23 dc_ dc_ f.1 (o.1.le dc_))) U9<|TA (fun _=>(cU _ d.m_ _ _ 300 dc_ dc_ (hs.1.le om_) (N.le dc_))) U9<|Te U6<|Td (bkT B 1) U8<|Te U6<|Td (bkT D 1) U8<|Te U6<|Td (bkT A 1) U8<|TA (fun _=>(dz _ d.m_ p.2 (cor a t 0).2 23 dc_ dc_ f.2 (o.2.le dc_))) U9<|TA (fun _=>(cU _ d.m_ _ _ 300 dc_ dc_ (hs.2.le om_) (O.le dc_))) U9<|Tz ([fz c t 0,(ek a c t).1*(p.1-(cor a t 0).1),(ek a c t).2*(p.2-(cor a t 0).2)].map eh) U12 fun ao _ _ W=>TA (fun _=>(Lq _ d.m_ _ _ 600 dc_ dc_ W.m_ (K7 K L M) J)) U9<|C6 1 [8] b Z<|Tl U2<|⟨Z,Z⟩
def Hn (pts:List Pt)(tris:List Tri)(fs:List Rat)(p:Pt):Value:=match nt pts tris p with
 | []=>.tuple #[ah [],.int .i64 28]
 | i::_=>Ff (onQ pts fs (tris.getD i (0,0,0)) p)
theorem qE (h:∀ q∈fs,aV (qtx q)=true):(fs.map qtx).all aV=true:=by
 rw [PT];intro s hs;obtain ⟨q,a,rfl⟩:=PF.1 hs;exact h q a
theorem fH (a:List Rat):a.map eh=(a.map qtx).map gi:=by rw [Qv];rfl
theorem vM (b:k<=100)(h:∀ q∈fs,QB k q):∀ s∈fs.map qtx,s.length<=999998:=by
 intro s hs;obtain ⟨q,a,rfl⟩:=PF.1 hs;have:=bl ((h q a).le (RT k)) om_;omega
theorem wX (C:Mem)(i:Tabs C)(c v d:Value)(b:List Pt)(f:List Tri)(a:List Rat)(j:MeshIn C c b f)(l:Good b f)(m:Sl C 1 v [[d]])(g:Sl C 1 d (a.map eh))(n:a.length=b.length)(r:k<=23)(o:∀ q∈a,QB k q)(p:∀ q∈a,aV (qtx q)=true) :
  Gives cx.P 61 [c,v] C (.int .i64 0):=by
 rw [fH] at g;have h:=wY C i c v d b f (a.map qtx) j l m g (vM om_ o);have e:uf b.length (a.map qtx)=0:=by unfold uf;rw [aL (by simpa using n),qE p];rfl
 rwa [e] at h
theorem Ob (h:i∈nt pts tris p):∃ t,tris[i]?=some t/\tris.getD i (0,0,0)=t/\yu pts p t=true:=by
 unfold nt at h;rw [Q4,PS] at h;obtain ⟨h1,h2⟩:=h;obtain ⟨t,a⟩:∃ t,tris[i]?=some t:=⟨tris[i],al h1⟩;have b:tris.getD i (0,0,0)=t:=by rw [ay,a,QQ]
 rw [b] at h2;exact ⟨t,a,b,h2⟩
theorem N3 (h:QB 600 q):(qtx q).length<=999998:=PP (bl h dc_) dc_
theorem zy (C:Mem)(e:Tabs C)(x y:Value)(a:List Pt)(c:List Tri)(b:List Rat)(k:Nat)(I:0<k)(j:k<=23)(z:MeshIn C x a c)(l:Good a c)(f:Sl C 1 y (b.map eh))(m:b.length=a.length)(n:∀ q∈b,QB k q)(J:∀ q∈b,aV (qtx q)=true)(p:Pt)(o:QP 23 p)(K:PtR p) :
  Gives cx.P 15 [x,y,ptV p] C (Hn a c b p):=by
 have A:=l.ok;have s:=z;obtain ⟨X,Y,rfl,h1,h2⟩:=id z.ex;obtain ⟨L,M,rfl,aa,ab,_⟩:=id f;simp only [am] at f ⊢;have ac:maxLen<=9223372036854775807:=by simp [maxLen]
 refine Tk func15 40 U3 fun w0=>Tf fun R d=>Tv U6 fun b3=>Tv U6 fun b5=>C6 2 [1,3,5] d Z<|G.freeze 1 Z fun _ _ u=>G.freeze 0 Z fun _ _ B=>Tf fun R d=>Td (PtrTo.block (Mem.get u mup) _) U8<|Te U6<|Tz [[.slice L b.length M]] U12 fun ad _ _ N=>To (wX _ e.m_ _ _ _ a c b s.m_ l N.m_ f.m_ m j n J) U7<|C6 1 [1,3,5,8] d Z<|Tb 2 [1,3,5,8,16] Z<|G.cd (fun D=>?_) fun D=>?_
 ·exact absurd D dc_
 refine Tf fun R d=>Td (PtrTo.block (Mem.get u mup) _) U8<|Td (PtrTo.block (Mem.get B mup) _) U8<|TM (lC _ e.m_ _ a c p s.m_ l o K) U7 (fun ae _ _ O=>?_);obtain ⟨wv,rfl,v⟩:=O;obtain ⟨Aw,cw,E,_⟩:=id v;rw [am] at E;subst E;refine C6 5 [1,3,5,9,10] d Z<|Tb 2 [1,3,5,9,10,25] Z<|G.cd (fun F=>?_) fun F=>?_
 ·exact absurd F dc_
 refine Tb 3 [1,3,5,9,29] Z<|G.cd (fun g=>?_) fun g=>?_
 ·have Q:nt a c p=[]:=by
   have h:(((nt a c p).length:Nat):Int)=0:=by simpa using g
   exact Ql om_
  refine Tb 2 [6,7] Z<|Tn (G.dropAll (TD U3 ?_));exact ⟨by unfold Hn;rw [Q];rfl,Z⟩
 obtain ⟨i,r,w⟩:∃ i r,nt a c p=i::r:=by
  cases S:nt a c p with
  | nil=>rw [S] at g;exact absurd g dc_
  | cons i r=>exact ⟨i,r,rfl⟩
 obtain ⟨t,H,T,_⟩:=Ob (pts:=a) (tris:=c) (p:=p) (i:=i) (by rw [w];simp);have U:=Kp j A m n (Px H) o;have V:Hn a c b p=Ff (onQ a b t p):=by unfold Hn;rw [w];show Ff (onQ a b (c.getD i (0,0,0)) p)=_;rw [T]
 rw [w] at v ⊢;refine Tx [0,1,2,3,4,5,6,7,8,9,10,11] [(6,1),(7,1)] Z kr_ fun R hB d=>Td (PtrTo.block (Mem.get u mup) _) U8<|Tg 2 Z<|Tt v.m_ U10 om_ (rfl:(List.map aS (i::r))[0]?=some (aS i)) fl_ fun af W=>Td W U8<|Td (PtrTo.block (Mem.get B mup) _) U8<|TO (fun _=>(O7 _ e.m_ _ _ a c b k I j s.m_ A f.m_ m n i t H p o)) U9<|TO (fun _=>(Ga _ e.m_ _ (N3 U.1))) U9 ?_;rw [show Ff (onQ a b t p)=.tuple #[if aV (qtx (onQ a b t p)) then ah (qtx (onQ a b t p)) else ah [],.int .i64 (if aV (qtx (onQ a b t p)) then 0 else 4)] by unfold Ff;split <;> rfl];refine C6 4 [6,7] d Z<|Tn (G.dropAll (TD U3 ?_));refine ⟨?_,Z⟩;rw [V];unfold Ff;split <;> rfl
theorem N1 (h:QP 22 p):PtR p:=⟨bC h.1,bC h.2⟩
theorem tm (C:Mem)(f:Tabs C)(l m:Value)(c:List Pt)(d:List Tri)(b:List Rat)(k:Nat)(z:0<k)(A:k<=23)(n:MeshIn C l c d)(o:Good c d)(e:Sl C 1 m (b.map eh))(p:b.length=c.length)(r:∀ q∈b,QB k q)(B:∀ q∈b,aV (qtx q)=true)(i:Nat)(t:Tri)(s:d[i]?=some t)(u:QP 22 (ek c b t)) :
  Gives cx.P 293 [l,m,.int .i64 i] C (.tuple #[ptV (ek c b t),.int .i64 0]):=by
 have D:=o.ok;have g:=n;have I:=(aJ.1 s).1;obtain ⟨J,K,rfl,h1,h2⟩:=id n.ex;obtain ⟨A2,c2,rfl,L,M,_⟩:=id h2;obtain ⟨E,F,rfl,N,O,_⟩:=id e;simp only [am] at e h2 g ⊢;have Q:maxLen<=9223372036854775807:=by simp [maxLen]
 refine Tk func293 37 U3 fun w0=>Tf fun R a=>Tv U6 fun S=>Tq U5 fun T=>C6 1 [1,2,3,6] a Z<|G.freeze 1 Z fun _ _ h=>Tf fun R a=>Td (PtrTo.block (Mem.get h mup) _) U8<|Te U6<|Tz [[.slice E b.length F]] U12 fun U _ _ H=>To (wX _ f.m_ _ _ _ c d b g.m_ o H.m_ e.m_ p A r B) U7<|C6 1 [1,2,3,6,8] a Z<|Tb 2 [1,2,3,6,8,15] Z<|G.cd (fun v=>?_) fun v=>?_
 ·exact absurd v dc_
 refine Tc 5 Z fun R a=>TF U6 (fun _=>PtrTo.block (Mem.get h mup) _) U3<|Tg 2 Z<|TN U8<|Th [1,2,3,6,26] a Z<|G.cd (fun w=>?_) fun w=>?_
 ·exfalso;simp only [Ro,PI] at w;omega
 refine Tf fun R a=>Td (PtrTo.block (Mem.get h mup) _) U8<|Tg 2 Z<|Ts (wA _ f.m_ _ _ c d b k z om_ g.m_ D e.m_ p r i t s) U7 fl_<|Tq U5 fun V=>Tj (j:=0) U12<|Th [6,9] a Z<|G.freeze 0 Z fun _ _ x=>Tf fun R a=>Td (PtrTo.block (Mem.get x mup) _) U8<|Ts (im _ f.m_ _ (u.le dc_) (N1 u)) U7 fl_<|C6 1 [6,9,34] a Z<|G.cd (fun y=>?_) fun y=>?_
 ·exact absurd y dc_
 refine Tf fun R a=>Td (PtrTo.block (Mem.get x mup) _) U8<|Tj (j:=0) U12<|C6 1 [6,7] a Z<|Tn (Uz ag U5 ?_);exact ⟨Z,Z⟩
def jS {α:Type}(p:α->Bool):List α->Nat->Int
 | [],_=>-1
 | x::l,k=>if p x then (k:Nat) else jS p l (k+1)
theorem nT {a:Type}{p:a->Bool}:∀ {l:List a}{i k:Nat}{x:a},l[i]?=some x->p x=true->(∀ y∈l.take i,p y=false)->jS p l k=((k+i:Nat):Int)
 | y::l,0,k,x,h,b,_=>by
  simp only [List.getElem?_cons_zero,Qc] at h;subst h;simp [jS,b]
 | y::l,i+1,k,x,h,b,c=>by
  simp only [Q6] at h;have hy:p y=false:=c y ap;have:=nT (k:=k+1) h b (fun z d=>c z (by simp [d]));simp only [jS,hy,Qr,QY,this];omega
theorem lJ {a:Type}{p:a->Bool}:∀ {l:List a}{k:Nat},(∀ y∈l,p y=false)->jS p l k=-1
 | [],_,_=>rfl
 | y::l,k,h=>by
  simp only [jS,h y PB,Qr,QY];exact lJ fun z b=>h z (PK _ b)
theorem mJ (p:α->Bool)(l:List α):(jS p l 0=-1/\∀ y∈l,p y=false)∨∃ (i:Nat)(x:α),jS p l 0=(i:Nat)/\l[i]?=some x/\p x=true/\∀ y∈l.take i,p y=false:=by
 by_cases h:∀ y∈l,p y=false
 ·exact .inl ⟨lJ h,h⟩
 right;have d:∀ (l:List α),(¬ ∀ y∈l,p y=false)->∃ (i:Nat)(x:α),l[i]?=some x/\p x=true/\∀ y∈l.take i,p y=false:=by
  intro l;induction l with
  | nil=>intro h;exact absurd (fun y hy=>(by cases hy)) h
  | cons a l e =>
   intro h;by_cases b:p a=true
   ·exact ⟨0,a,Z,b,by simp⟩
   have c:p a=false:=by simpa using b
   obtain ⟨i,x,h1,h2,h3⟩:=e (fun h2=>h (fun y hy=>by
    rcases PN.1 hy with rfl | hy
    ·exact c
    exact h2 y hy))
   refine ⟨i+1,x,by simpa using h1,h2,fun y hy=>?_⟩;rw [List.take_succ_cons] at hy;rcases PN.1 hy with rfl | hy
   ·exact c
   exact h3 y hy
 obtain ⟨i,x,h1,h2,h3⟩:=d l h;exact ⟨i,x,by rw [nT h1 h2 h3,QV],h1,h2,h3⟩
structure Lay where
 unit:Str
 min:Rat
 max:Option Rat
def uR:Option Rat->Str
 | none=>[]
 | some q=>qtx q
def lQ (x:Lay):List Value:=[ah x.unit,ah (qtx x.min),ah (uR x.max)]
def isU (u:Str)(x:Lay):Bool:=decide (x.unit=u)
def Nf (x:Lay):Prop:=QB 22 x.min/\(∀ q,x.max=some q->QB 22 q)/\x.unit.length<=999998
theorem pi (m:Option Rat):(!((⟨(uR m).toArray⟩:ByteArray).data.toList == (⟨#[]⟩:ByteArray).data.toList))=m.isSome:=by
 cases m with
 | none=>rfl
 | some q =>
  have:=EJ q;show (!(qtx q == []))=true;cases h:qtx q with
  | nil=>rw [h] at this;simp at this
  | cons a l=>rfl
theorem lI (C:Mem)(v:Value)(l:List Lay)(g:Nat)(d:List Value)(a:Lay->Bool)(e:Sl C 3 v (l.map lQ))(_A:Jog.Enters cx.P g=true)
  (n:∀ x∈l,∀ D:Mem,C.le D->Gives cx.P g (.agg ⟨lQ x⟩::d) D (.bool (a x))) :
  Gives cx.P 317 [v,.func (.func g) #[] ⟨d⟩] C (.int .i64 (jS a l 0)):=by
 obtain ⟨o,c0,rfl,p,B,_⟩:=id e;have E:maxLen<=9223372036854775807:=by simp [maxLen]
 simp only [am] at e p ⊢;refine Tk func317 19 U3 fun w0=>Tb 1 [0,1] Z<|Tb 3 [0,1,7,8] Z<|G.loop (fun fr F q r=>∃ (i:Nat),(i<=l.length/\∀ y∈l.take i,a y=false)/\fr=[(0,[],.slice o l.length c0),(1,[],.func (.func g) #[] ⟨d⟩),(7,[],.int .i64 l.length),(8,[],.int .i64 i)]/\q=[]/\r=l.length-i) (hn_ [0,1,7,8] Z) ⟨0,⟨PG _,by simp⟩,Z,Z,Z⟩ (fun fr H I m s t=>?_);obtain ⟨i,⟨J,b⟩,rfl,rfl,rfl⟩:=t;refine Tb 1 [0,1,7,8,9] Z<|G.cd (fun f=>?_) fun f=>?_
 ·have h:i<l.length:=by simpa using f
  obtain ⟨x,c⟩:∃ x,l[i]?=some x:=⟨l[i],al h⟩;refine Tb 2 [0,1,5,7,8] Z<|Tc 3 Z fun R j=>Tt e.m_ U10 om_ (bW c) fl_ fun K u=>Td u U8<|To (n x (Px c) _ mup) U7<|Th [0,1,5,7,8,16] j Z<|G.cd (fun k=>?_) fun k=>?_
  ·have w:a x=true:=k;exact Tb 2 [4] Z<|Tl U2<|⟨by rw [nT c w b,QV],Z⟩
  have z:a x=false:=k;refine Tf fun R j=>Tm _ U7<|C6 1 [0,1,7,8] j Z<|Tp (m':=l.length-(i+1)) om_ s (hn_ [0,1,7,8] Z) ⟨i+1,⟨by omega,fun y hy=>by
   rw [P0,c] at hy;rcases PQ.1 hy with hy | hy
   ·exact b y hy
   simp only [QM,PU] at hy;subst hy;exact z⟩,Z,Z,Z⟩
 have h:i=l.length:=by
  have:¬ i<l.length:=by simpa using f
  omega
 exact Tb 1 [4] Z<|Tl U2<|⟨by rw [h,PO] at b;rw [lJ b],Z⟩
theorem HJ (a b:Str):((⟨a.toArray⟩:ByteArray).data.toList == (⟨b.toArray⟩:ByteArray).data.toList)=decide (a=b):=by
 show (a == b)=_;by_cases h:a=b <;> simp [h]
theorem GF (C:Mem)(b:Nat)(u:Str)(x:Lay)(c:C b=some (.cells ⟨[ah u]⟩ 9 (0,0))):Gives cx.P 318 [.agg ⟨lQ x⟩,.pointer (some ⟨b,0,none⟩)] C (.bool (isU u x)):=by
 exact Tk func318 8 U3 fun w0=>Tf fun R a=>Tv U6 fun b2=>C6 1 [1,2] a Z<|Tc 1 Z fun R a=>Ti ag U9<|Td (PtrTo.block (Mem.get c mup) _) U8<|C6 2 [3] a Z<|Tl U2<|⟨by unfold isU;rw [<- HJ],Z⟩
theorem yY (C:Mem)(b:Nat)(u:Str)(x:Lay)(c:C b=some (.cells ⟨[ah u]⟩ 9 (0,0))):Gives cx.P 320 [.agg ⟨lQ x⟩,.pointer (some ⟨b,0,none⟩)] C (.bool (isU u x)):=by
 exact Tk func320 8 U3 fun w0=>Tf fun R a=>Tv U6 fun b2=>C6 1 [1,2] a Z<|Tc 1 Z fun R a=>Ti ag U9<|Td (PtrTo.block (Mem.get c mup) _) U8<|C6 2 [3] a Z<|Tl U2<|⟨by unfold isU;rw [<- HJ],Z⟩
theorem Bp (C:Mem)(v:Value)(l:List Lay)(u:Str)(c:Sl C 3 v (l.map lQ)):Gives cx.P 286 [v,ah u] C (.int .i64 (jS (isU u) l 0)):=by
 exact Tk func286 8 U3 fun w0=>Tf fun R a=>Tv U6 fun b=>C6 1 [0,3] a Z<|G.freeze 0 Z fun _ _ d=>Tc 2 Z fun R a=>To (lI _ _ l 318 [.pointer (some ⟨b,0,none⟩)] (isU u) c.m_ Z (fun x _ D e=>GF D b u x (e _ _ (Mem.get d mup)))) U7<|C6 1 [4] a Z<|Tl U2<|⟨Z,Z⟩
theorem jM (C:Mem)(v:Value)(l:List Lay)(u:Str)(c:Sl C 3 v (l.map lQ)):Gives cx.P 288 [v,ah u] C (.int .i64 (jS (isU u) l 0)):=by
 exact Tk func288 8 U3 fun w0=>Tf fun R a=>Tv U6 fun b=>C6 1 [0,3] a Z<|G.freeze 0 Z fun _ _ d=>Tc 2 Z fun R a=>To (lI _ _ l 320 [.pointer (some ⟨b,0,none⟩)] (isU u) c.m_ Z (fun x _ D e=>yY D b u x (e _ _ (Mem.get d mup)))) U7<|C6 1 [4] a Z<|Tl U2<|⟨Z,Z⟩
theorem tC (h:QB 22 q):(qtx q).length<=999998:=PP (bl h dc_) dc_
theorem Ck (h:QB 22 q):(qtx q).length<=1000000:=PP (bl h dc_) dc_
theorem IX (C:Mem)(d:Tabs C)(x:Lay)(e:Nf x):Gives cx.P 284 [.agg ⟨lQ x⟩] C (.int .i64 0):=by
 obtain ⟨u,f,c⟩:=x;obtain ⟨h1,h2,h3⟩:=e;simp only at h1 h2 h3;clear h3;have g:(uR c).length<=999998:=by
  cases c with
  | none=>decide
  | some q=>exact tC (h2 q rfl)
 refine Tk func284 17 U3 fun w0=>Tf fun R a=>Tv U6 fun b1=>C6 1 [1] a Z<|Tc 1 Z fun R a=>Ti ag U9<|To (dF _ d.m_ (qtx f) (tC h1)) U7<|C6 2 [1,3] a Z<|G.cd (fun h3=>?_) fun h3=>?_
 ·exfalso;rw [wV h1] at h3;exact absurd h3 dc_
 refine Tc 1 Z fun R a=>Ti ag U9<|Tg 3 Z<|Ti ag U9<|TO (fun _=>(dF _ d.m_ (uR c) g)) U9<|Te U6<|TB U8<|C6 1 [3] a Z<|G.cd (fun b=>?_) fun b=>?_
 ·exfalso;simp only [] at b;cases c with
  | none=>exact absurd b dc_
  | some q =>
   rw [show uR (some q)=qtx q from rfl,wV (h2 q rfl)] at b;simp at b
 exact Tb 1 [2] Z<|Tl U2<|⟨Z,Z⟩
def FG (x:Lay):Bool:=match x.max with
 | none=>false
 | some m=>decide (m<x.min)
def Kv (pre:List Lay)(x:Lay):Int:=if cV x.unit=false then 8 else if 0<=jS (isU x.unit) pre 0 then 9 else if x.min<0 then 3 else if FG x then 6 else 0
def De (l:List Lay):Nat->Int
 | 0=>0
 | n+1=>if De l n≠0 then De l n else Kv (l.take n) (l.getD n ⟨[],0,none⟩)
def nY (l:List Lay):Int:=if l=[] then 13 else if 60<l.length then 4 else De l l.length
theorem wR {l:List Lay}{n:Nat}(h:De l n≠0):∀ m,n<=m->De l m=De l n
 | 0,hm=>by rw [show n=0 by omega]
 | m+1,hm=>by
  rcases P4 m n with h1 | h1
  ·rw [show n=m+1 by omega]
  have a:=wR h m h1;simp only [De,a];rw [aL h]
theorem Ku {l:List Lay}{x:Lay}(h:l[i]?=some x):l.getD i ⟨[],0,none⟩=x:=by rw [ay,h,QQ]
theorem Bo {l:List Lay}{x:Lay}(a:De l i=0)(b:l[i]?=some x):De l (i+1)=Kv (l.take i) x:=by
 simp only [De,a];rw [aF dc_,Ku b]
theorem ux {l:List Lay}{x:Lay}(d:De l i=0)(a:l[i]?=some x)(b:Kv (l.take i) x=z)(f:z≠0)(g:¬ 60<l.length):nY l=z:=by
 have c:=(aJ.1 a).1;have h1:=Bo d a;unfold nY;rw [aF (fun e=>by rw [e] at c;simp at c),aF g,wR (n:=i+1) (by rw [h1,b];exact f) l.length om_,h1,b]
theorem ML (C:Mem)(c:Tabs C)(a:Option Rat)(b:Rat)(d:QB 22 b)(e:∀ q,a=some q->QB 22 q)(h:(!((⟨(uR a).toArray⟩:ByteArray).data.toList == (⟨#[]⟩:ByteArray).data.toList))=true) :
  Gives cx.P 218 [ah (uR a),ah (qtx b)] C (.int .i64 (su (a.getD 0) b)):=by
 rw [pi] at h;cases a with
 | none=>cases h
 | some q=>exact gJ C c q b 22 dc_ dc_ (e q rfl) d
theorem AR (x:Lay):(x.max.isSome && decide (su (x.max.getD 0) x.min<0))=FG x:=by
 unfold FG;cases x.max with
 | none=>rfl
 | some q =>
  show (true && decide (su q x.min<0))=decide (q<x.min);unfold su;by_cases h:q<x.min
  ·simp [h]
  rw [aF h,P7 h];split <;> rfl
theorem tQ (q:Rat):decide (dE q.num<0)=decide (q<0):=by
 rw [Qo,<- Ak];rcases ec q.num with h | h | h <;> omega
theorem pZ (C:Mem)(y:Tabs C)(v:Value)(l:List Lay)(k:Sl C 3 v (l.map lQ))(F:∀ x∈l,Nf x)(S:l.length<=1000000):Gives cx.P 238 [v] C (.int .i64 (nY l)):=by
 obtain ⟨A,c0,rfl,H,T,_⟩:=id k;have U:maxLen<=9223372036854775807:=by simp [maxLen]
 simp only [am] at k H ⊢;refine Tk func238 57 U3 fun w0=>Tb 1 [0] Z<|Tb 4 [0,6] Z<|G.cd (fun n=>?_) fun n=>?_
 ·have h0:l=[]:=by
   have h:((l.length:Nat):Int)=0:=by simpa using n
   exact Ql om_
  exact Tb 1 [2] Z<|Tl U2<|⟨by rw [h0];rfl,Z⟩
 have h0:l≠[]:=by
  intro e;rw [e] at n;exact absurd n dc_
 refine Tb 4 [0,10] Z<|G.cd (fun o=>?_) fun o=>?_
 ·have h60:60<l.length:=by
   simp only [PI] at o;omega
  exact Tb 1 [2] Z<|Tl U2<|⟨by unfold nY;rw [aF h0,aL h60],Z⟩
 have h60:¬ 60<l.length:=by
  simp only [P3] at o;omega
 refine Tb 3 [0,14,15,16] Z<|G.loop (fun fr V I J=>∃ (i:Nat),(i<=l.length/\De l i=0)/\fr=[(0,[],.slice A l.length c0),(14,[],.slice A l.length c0),(15,[],.int .i64 l.length),(16,[],.int .i64 i)]/\I=[]/\J=l.length-i) (hn_ [0,14,15,16] Z) ⟨0,⟨PG _,Z⟩,Z,Z,Z⟩ (fun fr W X m K L=>?_);obtain ⟨i,⟨Y,b⟩,rfl,rfl,rfl⟩:=L;refine Tb 1 [0,14,15,16,17] Z<|G.cd (fun p=>?_) fun p=>?_
 ·have q:i<l.length:=by simpa using p
  obtain ⟨x,c⟩:∃ x,l[i]?=some x:=⟨l[i],al q⟩;obtain ⟨r,B,M⟩:=F x (Px c);have D:=Sl.sub k (l:=0) (h:=i) (m:=c0) (PG _) aq om_ (Py _);rw [QO,<- RP] at D;refine Tc 1 Z fun R a=>Tt k.m_ U10 om_ (bW c) fl_ fun aa N=>Td N U8<|Tq U5 fun b4=>Te U6<|Tj (j:=0) U12<|Th [0,3,4,14,15,16] a Z<|Tf fun R a=>Ti ag U9<|To (IX _ y.m_ x ⟨r,B,M⟩) U7<|C6 1 [0,3,4,5,14,15,16] a Z<|Tb 2 [0,3,4,5,14,15,16,24] Z<|G.cd (fun E=>?_) fun E=>?_
  ·exact absurd E dc_
  refine Tc 1 Z fun R a=>Ti ag U9<|Ts (hU _ x.unit om_) U7 fl_<|C6 2 [0,3,4,14,15,16,26] a Z<|G.cd (fun s=>?_) fun s=>?_
  ·have d:cV x.unit=false:=by simpa using s
   exact Tb 1 [2] Z<|Tl U2<|⟨by rw [ux (z:=8) b c (by unfold Kv;rw [aL d]) dc_ h60],Z⟩
  have d:¬ cV x.unit=false:=by
   have h:cV x.unit=true:=by simpa using s
   rw [h];decide
  refine Tx [0,1,2,3,4,5,6,7] [(5,1)] Z kr_ fun R hB a=>Tg 2 Z<|Ud 0 i c0 U12 (fun _=>⟨.inl ⟨Z,Z⟩,.inr ⟨_,Z⟩,.inl ⟨Z,Z⟩,by omega,by omega,by omega⟩) U2<|Te U6<|Ti ag U9<|TO (fun _=>(Bp _ _ (l.take i) x.unit D.m_)) U9<|C6 2 [0,4,14,15,16,31] a Z<|G.cd (fun t=>?_) fun t=>?_
  ·have f:0<=jS (isU x.unit) (l.take i) 0:=by simpa using t
   exact Tb 1 [2] Z<|Tl U2<|⟨by rw [ux (z:=9) b c (by unfold Kv;rw [aF d,aL f]) dc_ h60],Z⟩
  have f:¬ 0<=jS (isU x.unit) (l.take i) 0:=by simpa using t
  refine Tc 1 Z fun R a=>Ti ag U9<|To (er _ x.min (Ck r)) U7<|C6 2 [0,4,14,15,16,39] a Z<|G.cd (fun g=>?_) fun g=>?_
  ·have hs:x.min<0:=by
    rw [tQ] at g;exact OQ g
   exact Tb 1 [2] Z<|Tl U2<|⟨by rw [ux (z:=3) b c (by unfold Kv;rw [aF d,aF f,aL hs]) dc_ h60],Z⟩
  have hs:¬ x.min<0:=by
   rw [tQ] at g;exact PE g
  refine Tc 1 Z fun R a=>Ti ag U9<|Tg 3 Z<|Ti ag U9<|Te U6<|Ti ag U9<|TA (fun O=>(ML _ y.m_ x.max x.min r B (by exact O.1))) U9<|Te U6<|TB U8<|C6 1 [0,14,15,16,44] a Z<|G.cd (fun u=>?_) fun u=>?_
  ·have w:FG x=true:=by
    rw [<- AR,<- pi];exact u
   exact Tb 1 [2] Z<|Tl U2<|⟨by rw [ux (z:=6) b c (by unfold Kv;rw [aF d,aF f,aF hs,aL w]) dc_ h60],Z⟩
  have w:FG x=false:=by
   rw [<- AR,<- pi];exact u
  have Q:De l (i+1)=0:=by rw [Bo b c];unfold Kv;rw [aF d,aF f,aF hs,w];rfl
  refine Tf fun R a=>Tm _ U7<|C6 1 [0,14,15,16] a Z<|G.dropAll<|Tp (m':=l.length-(i+1)) om_ K (hn_ [0,14,15,16] Z) ⟨i+1,⟨by omega,Q⟩,Z,Z,Z⟩
 have q:i=l.length:=by
  have:¬ i<l.length:=by simpa using p
  omega
 refine Tb 1 [2] Z<|Tl U2<|⟨?_,Z⟩;rw [q] at b;unfold nY;rw [aF h0,aF h60,b]
theorem yR (C:Mem)(f:Tabs C)(v:Value)(l:List Lay)(u:Str)(c:Sl C 3 v (l.map lQ))(g:∀ x∈l,Nf x)(a:nY l=0)(i:Nat)(j:jS (isU u) l 0=(i:Nat)):Gives cx.P 247 [v,ah u] C (.tuple #[.int .i64 (i:Nat),.bool true,.int .i64 0]):=by
 have k:l.length<=1000000:=by
  unfold nY at a;split at a
  ·cases a
  split at a
  ·cases a
  omega
 refine Tk func247 20 U3 fun w0=>Tb 3 [0,1] Z<|Tc 1 Z fun R b=>Ts (by have h:=pZ _ f.m_ v l c.m_ g k;rw [a] at h;exact h) U7 fl_<|C6 1 [0,1,7] b Z<|Tb 2 [0,1,7,12] Z<|G.cd (fun d=>?_) fun d=>?_
 ·exact absurd d dc_
 refine Tc 2 Z fun R b=>Ts (by have h:=Bp _ v l u c.m_;rw [j] at h;exact h) U7 fl_<|C6 1 [8] b Z<|Tb 2 [8,18] Z<|G.cd (fun e=>?_) fun e=>?_
 ·refine Tb 4 [4,5,6] Z<|Tn (G.dropAll (Ug U4 ?_));exact ⟨Z,Z⟩
 exfalso;simp only [P3] at e;omega
structure Obs where
 kind:Int
 name:Str
 x:Str
 y:Str
 depth:Str
 upper:Str
 lower:Str
 nx:Str
 ny:Str
 nz:Str
def lP (o:Obs):List Value:=[.int .i64 o.kind,ah o.name,ah o.x,ah o.y,ah o.depth,ah o.upper,ah o.lower,ah o.nx,ah o.ny,ah o.nz]
structure ObsR (o:Obs):Prop where
 name:o.name.length<=999998
 x:o.x.length<=999998
 y:o.y.length<=999998
 depth:o.depth.length<=999998
 upper:o.upper.length<=999998
 lower:o.lower.length<=999998
 nx:o.nx.length<=999998
 ny:o.ny.length<=999998
 nz:o.nz.length<=999998
def kz (o:Obs):Bool:=(!cV o.name || !cV o.upper) || ((!(o.kind == 1)) && !cV o.lower)
def li (o:Obs):Bool:=(!(aV o.x && aV o.y) || ((o.kind == 2) && !aV o.depth)) || ((o.kind == 3) && !(aV o.nx && aV o.ny && aV o.nz))
def kE (o:Obs):Bool:=(((o.kind == 1) && !(o.lower == [])) || ((!(o.kind == 2)) && !(o.depth == []))) || ((!(o.kind == 3)) && !(decide (o.nx=[]/\o.ny=[]/\o.nz=[])))
def dD (o:Obs):Int:=if o.kind<1∨3<o.kind then 12 else if kz o then 8 else if li o then 2 else if kE o then 7 else 0
theorem nil3 (a b c:Str):(!((a == []) && ((b == []) && ((c == []) && true))))=!decide (a=[]/\b=[]/\c=[]):=by
 cases a <;> cases b <;> cases c <;> rfl
theorem GO (b:Bool):(nC b != 0)=!b:=by cases b <;> rfl
theorem HZ (C:Mem)(h:Tabs C)(o:Obs)(b:ObsR o):Gives cx.P 287 [.agg ⟨lP o⟩] C (.int .i64 (dD o)):=by
 have h1:=b.name;have h2:=b.upper;have h3:=b.lower;refine Tk func287 87 U3 fun w0=>Tf fun R c=>Tv U6 fun b1=>C6 1 [1] c Z<|G.freeze 0 Z fun _ _ a=>Tc 1 Z fun R c=>Td (bkT a 1) U8<|Tg 3 Z<|TF U6 (fun _=>PtrTo.blockT (Mem.get a mup) _ 1) U3<|Te U6<|TN U8<|Th [1,10] c Z<|G.cd (fun i=>?_) fun i=>?_
 ·have d:o.kind<1∨3<o.kind:=by simpa using i
  exact Tb 1 [2] Z<|Tl U2<|⟨by unfold dD;rw [aL d],Z⟩
 have d:¬ (o.kind<1∨3<o.kind):=by simpa using i
 refine Tc 1 Z fun R c=>Td (bkT a 1) U8<|Ts (hU _ o.name om_) U7 fl_<|Tg 3 Z<|TF U6 (fun _=>PtrTo.blockT (Mem.get a mup) _ 1) U3<|TA (fun _=>(hU _ o.upper om_)) U9<|Te U6<|TN U8<|Tg 2 Z<|TF U6 (fun _=>PtrTo.blockT (Mem.get a mup) _ 1) U3<|Tg 3 Z<|TF U6 (fun _=>PtrTo.blockT (Mem.get a mup) _ 1) U3<|TA (fun _=>(hU _ o.lower om_)) U9<|Te U6<|TB U8<|TN U8<|Th [1,31] c Z<|G.cd (fun j=>?_) fun j=>?_
 ·have e:kz o=true:=j;exact Tb 1 [2] Z<|Tl U2<|⟨by unfold dD;rw [aF d,aL e],Z⟩
 have e:¬ kz o=true:=by rw [show kz o=false from j];decide
 refine Tc 1 Z fun R c=>Td (bkT a 2) U8<|To (io _ h.m_ o.x o.y b.x b.y) U7<|Tg 3 Z<|TF U6 (fun _=>PtrTo.blockT (Mem.get a mup) _ 1) U3<|Tg 3 Z<|TF U6 (fun _=>PtrTo.blockT (Mem.get a mup) _ 1) U3<|TO (fun _=>(dF _ h.m_ o.depth b.depth)) U9<|Te U6<|TB U8<|TN U8<|Tg 2 Z<|TF U6 (fun _=>PtrTo.blockT (Mem.get a mup) _ 1) U3<|Tg 3 Z<|TF U6 (fun _=>PtrTo.blockT (Mem.get a mup) _ 3) U3<|TO (fun _=>(re _ h.m_ o.nx o.ny o.nz b.nx b.ny b.nz)) U9<|Te U6<|TB U8<|TN U8<|Th [1,57] c Z<|G.cd (fun f=>?_) fun f=>?_
 ·have g:li o=true:=by
   simp only [GO] at f;exact f
  exact Tb 1 [2] Z<|Tl U2<|⟨by unfold dD;rw [aF d,aF e,aL g],Z⟩
 have g:¬ li o=true:=by
  simp only [GO] at f;rw [show li o=false from f];decide
 refine Tc 1 Z fun R c=>Td (bkT a 1) U8<|Tg 3 Z<|TF U6 (fun _=>PtrTo.blockT (Mem.get a mup) _ 1) U3<|Te U6<|TB U8<|Tg 2 Z<|TF U6 (fun _=>PtrTo.blockT (Mem.get a mup) _ 1) U3<|Tg 3 Z<|TF U6 (fun _=>PtrTo.blockT (Mem.get a mup) _ 1) U3<|Te U6<|TB U8<|TN U8<|Tg 2 Z<|TF U6 (fun _=>PtrTo.blockT (Mem.get a mup) _ 1) U3<|Tg 3 Z<|TF U6 (fun _=>PtrTo.blockT (Mem.get a mup) _ 3) U3<|Tw [ah [],ah [],ah []] U8<|VD (!decide (o.nx=[]/\o.ny=[]/\o.nz=[])) kr_ Z Z Z Z Z Z Z Z (fun _=>(nil3 o.nx o.ny o.nz)) Z Z<|TB U8<|TN U8<|Th [86] c Z<|G.cd (fun k=>?_) fun k=>?_
 ·have l:kE o=true:=k;exact Tb 1 [2] Z<|Tl U2<|⟨by unfold dD;rw [aF d,aF e,aF g,aL l],Z⟩
 have l:¬ kE o=true:=by rw [show kE o=false from k];decide
 exact Tb 1 [2] Z<|Tl U2<|⟨by unfold dD;rw [aF d,aF e,aF g,aF l],Z⟩
noncomputable def dB (s:Str):Rat:=if h:aV s=true then (Ke h).choose else 0
theorem dx {s:Str}(h:aV s=true):s=qtx (dB s)/\QB 23 (dB s):=by
 unfold dB;rw [dif_pos h];exact (Ke h).choose_spec
theorem gt (h:aV (qtx q)=true):dB (qtx q)=q:=(iM (dx h).1).symm
noncomputable def ptO (o:Obs):Pt:=(dB o.x,dB o.y)
noncomputable def Jw (pts:List Pt)(tris:List Tri)(o:Obs):Bool:=decide (nt pts tris (ptO o)≠[])
def J1 (col:List Lay)(o:Obs):Bool:=decide (jS (isU o.upper) col 0<0) || ((!(o.kind == 1)) && decide (jS (isU o.lower) col 0<0))
def ordB (col:List Lay)(o:Obs):Bool:=(!(o.kind == 1)) && decide (jS (isU o.upper) col 0<=jS (isU o.lower) col 0)
noncomputable def depB (o:Obs):Bool:=(o.kind == 2) && decide (dB o.depth<0)
def Hs (o:Obs):Bool:=(o.kind == 3) && decide (o.nz=[48])
noncomputable def gd (pts:List Pt)(tris:List Tri)(col:List Lay)(o:Obs):Int :=
 if dD o≠0 then dD o else if Jw pts tris o=false then 28 else if J1 col o then 10 else if ordB col o then 6 else if depB o then 3 else if Hs o then 17 else 0
theorem ru {o:Obs}(h:dD o=0):aV o.x=true/\aV o.y=true/\(o.kind=2->aV o.depth=true):=by
 unfold dD at h;split at h
 ·cases h
 split at h
 ·cases h
 split at h
 ·cases h
 rename_i b;have a:li o=false:=by simpa using b
 unfold li at a;rw [Rc,Rc] at a;obtain ⟨⟨h1,h2⟩,_⟩:=a;have h3:(aV o.x && aV o.y)=true:=by simpa using h1
 rw [PL] at h3;refine ⟨h3.1,h3.2,fun c=>?_⟩;rw [c] at h2;simpa using h2
theorem N2 {o:Obs}(h:dD o=0):ptV (ptO o)=.agg ⟨[ah o.x,ah o.y]⟩/\QP 23 (ptO o)/\PtR (ptO o):=by
 obtain ⟨h1,h2,_⟩:=ru h;obtain ⟨a,c⟩:=dx h1;obtain ⟨b,d⟩:=dx h2;refine ⟨?_,⟨c,d⟩, ?_, ?_⟩
 ·unfold ptV cY ptO;rw [<- a,<- b]
 ·unfold ptO;rw [<- a];exact h1
 unfold ptO;rw [<- b];exact h2
theorem di {k:Int}(h:(k == z)=true):k=z:=by simpa using h
theorem HT (C:Mem)(s:Str)(h:aV s=true)(a:s.length<=999998):Gives cx.P 94 [ah s] C (.int .i64 (dE (dB s).num)):=by
 have e:=(dx h).1;have h2:=er C (dB s) (by have:=a;exact PP (bl (dx h).2 dc_) dc_)
 rwa [<- e] at h2
theorem L3 (C:Mem)(u:Tabs C)(v w:Value)(d:List Pt)(f:List Tri)(b:List Lay)(o:Obs)(x:MeshIn C v d f)(A:Good d f)(y:Sl C 3 w (b.map lQ))(z:ObsR o) :
  Gives cx.P 239 [v,w,.agg ⟨lP o⟩] C (.int .i64 (gd d f b o)):=by
 have B:=x;obtain ⟨L,M,rfl,h1,h2⟩:=id x.ex;refine Tk func239 79 U3 fun w0=>Tf fun R a=>Tv U6 fun N=>Tv U6 fun O=>C6 1 [1,3,5] a Z<|G.freeze 1 Z fun _ _ D=>G.freeze 0 Z fun E _ c=>Tf fun R a=>Td (bkT c 10) U8<|To (HZ _ u.m_ o z) U7<|C6 1 [1,3,5,7] a Z<|Tb 2 [1,3,5,7,15] Z<|G.cd (fun m=>?_) fun m=>?_
 ·have hs:dD o≠0:=by
   intro e;rw [e] at m;exact absurd m dc_
  exact Tb 2 [6] Z<|Tl U2<|⟨by unfold gd;rw [aL hs],Z⟩
 have hs:dD o=0:=by simpa using m
 have i:¬ dD o≠0:=fun h=>h hs;obtain ⟨F,H,I⟩:=N2 hs;have J:=(ru hs).2.2;refine Tf fun R a=>Td (PtrTo.block (Mem.get D mup) _) U8<|Te U6<|Td (bkT c 2) U8<|Ts (by have h:=pY E u.m_ _ d f (ptO o) B.m_ A H I;rw [F] at h;exact h) U7 fl_<|C6 5 [1,5,8,9] a Z<|Tc 5 Z fun R a=>TN U8<|Th [1,5,29] a Z<|G.cd (fun p=>?_) fun p=>?_
 ·have g:Jw d f o=false:=by
   have h:(!Jw d f o)=true:=p;simpa using h
  exact Tb 1 [6] Z<|Tl U2<|⟨by unfold gd;rw [aF i,aL g],Z⟩
 have g:¬ Jw d f o=false:=by
  have h:(!Jw d f o)=false:=p;have h2:Jw d f o=true:=by simpa using h
  rw [h2];decide
 refine Tx [0,1,2,3,4,5,6,7,8,9] [(3,1),(7,1)] Z kr_ fun R Q a=>Tg 2 Z<|Td (bkT c 1) U8<|TO (fun _=>(jM _ _ b o.upper y.m_)) U9<|Tg 2 Z<|Td (bkT c 1) U8<|TO (fun _=>(jM _ _ b o.lower y.m_)) U9<|C6 2 [5,10,11] a Z<|Tc 4 Z fun R a=>TF U6 (fun _=>PtrTo.blockT (Mem.get c mup) _ 1) U3<|Tg 4 Z<|TB U8<|TN U8<|C6 1 [5,10,11,38] a Z<|G.cd (fun q=>?_) fun q=>?_
 ·have j:J1 b o=true:=q;exact Tb 1 [6] Z<|Tl U2<|⟨by unfold gd;rw [aF i,aF g,aL j],Z⟩
 have j:¬ J1 b o=true:=by rw [show J1 b o=false from q];decide
 refine Tc 1 Z fun R a=>Td (bkT c 1) U8<|Tg 5 Z<|TB U8<|C6 1 [5,50] a Z<|G.cd (fun r=>?_) fun r=>?_
 ·have k:ordB b o=true:=r;exact Tb 1 [6] Z<|Tl U2<|⟨by unfold gd;rw [aF i,aF g,aF j,aL k],Z⟩
 have k:¬ ordB b o=true:=by rw [show ordB b o=false from r];decide
 refine Tc 1 Z fun R a=>Td (bkT c 1) U8<|Tg 3 Z<|TF U6 (fun _=>PtrTo.blockT (Mem.get c mup) _ 1) U3<|TA (fun K=>(HT _ o.depth (J (by exact di K.1)) z.depth)) U9<|Te U6<|TB U8<|C6 1 [5,59] a Z<|G.cd (fun l=>?_) fun l=>?_
 ·have n:depB o=true:=by
   rw [tQ] at l;exact l
  exact Tb 1 [6] Z<|Tl U2<|⟨by unfold gd;rw [aF i,aF g,aF j,aF k,aL n],Z⟩
 have n:¬ depB o=true:=by
  rw [tQ] at l;rw [show depB o=false from l];decide
 refine Tc 1 Z fun R a=>Td (bkT c 1) U8<|Tg 4 Z<|TF U6 (fun _=>PtrTo.blockT (Mem.get c mup) _ 1) U3<|Te U6<|TB U8<|C6 1 [69] a Z<|G.cd (fun s=>?_) fun s=>?_
 ·have t:Hs o=true:=by
   unfold Hs;rw [<- HJ];exact s
  exact Tb 1 [6] Z<|Tl U2<|⟨by unfold gd;rw [aF i,aF g,aF j,aF k,aF n,aL t],Z⟩
 have t:¬ Hs o=true:=by
  unfold Hs;rw [<- HJ];intro h;rw [show ((o.kind == 3) && ((⟨o.nz.toArray⟩:ByteArray).data.toList == (⟨([48]:Str).toArray⟩:ByteArray).data.toList))=false from s] at h;cases h
 exact Tb 1 [6] Z<|Tl U2<|⟨by unfold gd;rw [aF i,aF g,aF j,aF k,aF n,aF t],Z⟩
structure Bk where
 pts:List Pt
 tris:List Tri
 terr:List Str
 col:List Lay
 obs:List Obs
structure BookIn (C:Mem)(bv:Value)(B:Bk):Prop where
 ex:∃ v1 v2 tv cv ov,bv=.agg ⟨[v1,v2,tv,cv,ov]⟩/\Sl C 2 v1 (B.pts.map cY)/\Sl C 3 v2 (B.tris.map gz)/\Sl C 1 tv (B.terr.map gi)/\Sl C 3 cv (B.col.map lQ)/\Sl C 10 ov (B.obs.map lP)
theorem BookIn.mono {C D:Mem}{b:Value}{B:Bk}(h:BookIn C b B)(a:C.le D):BookIn D b B:=by
 obtain ⟨c,d,e,f,g,h1,h2,h3,h4,h5,i⟩:=h.ex;exact ⟨c,d,e,f,g,h1,h2.mono a,h3.mono a,h4.mono a,h5.mono a,i.mono a⟩
theorem BookIn.m_ {D:Mem}{B:Bk}(h:BookIn C bv B)(a:C.le D:=by exact mup):BookIn D bv B:=BookIn.mono h a
structure BookR (B:Bk):Prop where
 terr:∀ s∈B.terr,s.length<=999998
 col:∀ x∈B.col,Nf x
 lcol:B.col.length<=1000000
 obs:∀ o∈B.obs,ObsR o
noncomputable def obZ (B:Bk)(pre:List Obs)(o:Obs):Int:=if gd B.pts B.tris B.col o≠0 then gd B.pts B.tris B.col o else if o.name∈pre.map Obs.name then 9 else 0
def II:Obs:=⟨0,[],[],[],[],[],[],[],[],[]⟩
noncomputable def tN (B:Bk):Nat->Int
 | 0=>0
 | n+1=>if tN B n≠0 then tN B n else obZ B (B.obs.take n) (B.obs.getD n II)
noncomputable def fK (B:Bk):Int:=if uf B.pts.length B.terr≠0 then uf B.pts.length B.terr else if nY B.col≠0 then nY B.col else if 100<B.obs.length then 4 else tN B B.obs.length
theorem wa {B:Bk}{n:Nat}(h:tN B n≠0):∀ m,n<=m->tN B m=tN B n
 | 0,hm=>by rw [show n=0 by omega]
 | m+1,hm=>by
  rcases P4 m n with h1 | h1
  ·rw [show n=m+1 by omega]
  have a:=wa h m h1;simp only [tN,a];rw [aL h]
theorem Kr {l:List Obs}{x:Obs}(h:l[i]?=some x):l.getD i II=x:=by rw [ay,h,QQ]
theorem tM {B:Bk}{x:Obs}(a:tN B i=0)(b:B.obs[i]?=some x):tN B (i+1)=obZ B (B.obs.take i) x:=by
 simp only [tN,a];rw [aF dc_,Kr b]
theorem Fb {B:Bk}{x:Obs}(c:tN B i=0)(a:B.obs[i]?=some x)(b:obZ B (B.obs.take i) x=z)(d:z≠0):tN B B.obs.length=z:=by
 have e:=(aJ.1 a).1;have h1:=tM c a;rw [wa (n:=i+1) (by rw [h1,b];exact d) B.obs.length om_,h1,b]
def Fo (l:List Obs):List (Str × Value):=l.map fun o=>(o.name,.bool true)
theorem Fm (l:List Obs)(s:Str):lB (.bool false) false (dU (Fo l) s)=.bool (decide (s∈l.map Obs.name)):=by
 have a:(Fo l).map (·.1)=l.map Obs.name:=by unfold Fo;rw [Qv];rfl
 cases h:dU (Fo l) s with
 | none =>
  have h1:=cC.1 h;rw [a] at h1;rw [P7 h1];rfl
 | some v =>
  have h1:=gU h;have h2:=RD (f:=(·.1)) h1;rw [a] at h2;obtain ⟨o,_,b⟩:=PF.1 h1;cases b
  rw [PV h2];rfl
theorem IN {l:List Obs}{o:Obs}(h:o.name ∉ l.map Obs.name):iv (Fo l) o.name (.bool true)=Fo (l++[o]):=by
 have a:(Fo l).map (·.1)=l.map Obs.name:=by unfold Fo;rw [Qv];rfl
 rw [jD (by rw [cC,a];exact h)];simp [Fo]
theorem kH (C:Mem)(n:Tabs C)(F:Value)(B:Bk)(L:BookIn C F B)(t:Good B.pts B.tris)(o:BookR B) :
  Gives cx.P 181 [F] C (.int .i64 (fK B)):=by
 obtain ⟨H,I,X,Y,ov,rfl,h1,h2,h3,h4,h5⟩:=id L.ex;obtain ⟨M,N,rfl,O,aa,_⟩:=id h5;have ab:maxLen<=9223372036854775807:=by simp [maxLen]
 simp only [am] at h5 O ⊢;have hm:MeshIn C (.agg ⟨[H,I]⟩) B.pts B.tris:=⟨H,I,rfl,h1,h2⟩;refine Tk func181 59 U3 fun w0=>Tf fun R a=>Tv U6 fun b1=>C6 1 [1] a Z<|G.freeze 0 Z fun _ _ b=>Tc 1 Z fun R a=>Td (bkT b 2) U8<|To (gv _ n.m_ _ B.pts B.tris hm.m_ t) U7<|C6 1 [1,3] a Z<|Tb 2 [1,3,14] Z<|G.cd (fun J=>?_) fun J=>?_
 ·exact absurd J dc_
 refine Tc 1 Z fun R a=>Td (bkT b 2) U8<|Te U6<|Td (bkT b 1) U8<|To (ug _ n.m_ _ _ B.pts B.tris B.terr hm.m_ t h3.m_ o.terr) U7<|C6 1 [1,4] a Z<|Tb 2 [1,4,22] Z<|G.cd (fun p=>?_) fun p=>?_
 ·have c:uf B.pts.length B.terr≠0:=by
   intro e;rw [e] at p;exact absurd p dc_
  exact Tb 2 [2] Z<|Tl U2<|⟨by unfold fK;rw [aL c],Z⟩
 have c:¬ uf B.pts.length B.terr≠0:=by
  have h:uf B.pts.length B.terr=0:=by simpa using p
  exact fun h2=>h2 h
 refine Tc 1 Z fun R a=>Td (bkT b 1) U8<|To (pZ _ n.m_ _ B.col h4.m_ o.col o.lcol) U7<|C6 1 [1,5] a Z<|Tb 2 [1,5,28] Z<|G.cd (fun q=>?_) fun q=>?_
 ·have d:nY B.col≠0:=by
   intro e;rw [e] at q;exact absurd q dc_
  exact Tb 2 [2] Z<|Tl U2<|⟨by unfold fK;rw [aF c,aL d],Z⟩
 have d:¬ nY B.col≠0:=by
  have h:nY B.col=0:=by simpa using q
  exact fun h2=>h2 h
 refine Tc 1 Z fun R a=>Td (bkT b 1) U8<|C6 2 [1,33] a Z<|G.cd (fun u=>?_) fun u=>?_
 ·have g:100<B.obs.length:=by
   simp only [PI] at u;omega
  exact Tb 1 [2] Z<|Tl U2<|⟨by unfold fK;rw [aF c,aF d,aL g],Z⟩
 have g:¬ 100<B.obs.length:=by
  simp only [P3] at u;omega
 refine Tf fun R a=>D.makeMap keyS Z Z Z Z fl_ fun v=>C6 1 [1,6] a Z<|Tc 1 Z fun R a=>Td (bkT b 1) U8<|C6 2 [1,6,36,37,38] a Z<|G.loop (fun fr C' K Q=>∃ (i:Nat),(i<=B.obs.length/\tN B i=0)/\fr=[(1,[],.pointer (some ⟨b1,0,none⟩)),(6,[],.map (some v)),(36,[],.slice M B.obs.length N),(37,[],.int .i64 B.obs.length),(38,[],.int .i64 i)]/\K=[.obj v (aU keyS.enc (Fo (B.obs.take i)))]/\Q=B.obs.length-i) (hn_ [1,6,36,37,38] Z) ⟨0,⟨PG _,Z⟩,Z,Z,Z⟩ (fun fr ac ad m _ S=>?_);obtain ⟨i,⟨hi,k⟩,rfl,rfl,rfl⟩:=S;refine Tb 1 [1,6,36,37,38,39] Z<|G.cd (fun w=>?_) fun w=>?_
 ·have y:i<B.obs.length:=by simpa using w
  obtain ⟨x,f⟩:∃ x,B.obs[i]?=some x:=⟨B.obs[i],al y⟩;have T:=o.obs x (Px f);have U:B.obs.take (i+1)=B.obs.take i++[x]:=by rw [P0,f];rfl
  refine Tf fun R a=>Tt h5.m_ U10 om_ (bW f) fl_ fun ae V=>Td V U8<|Tq U5 fun b8=>Tj (j:=0) U12<|Th [1,6,8,36,37,38] a Z<|Tc 1 Z fun R a=>Td (bkT b 2) U8<|Te U6<|Td (bkT b 1) U8<|Ti ag U9<|To (L3 _ n.m_ _ _ B.pts B.tris B.col x hm.m_ t h4.m_ T) U7<|C6 1 [1,6,8,9,36,37,38] a Z<|Tb 2 [1,6,8,9,36,37,38,49] Z<|G.cd (fun r=>?_) fun r=>?_
  ·have l:gd B.pts B.tris B.col x≠0:=by
    intro e;rw [e] at r;exact absurd r dc_
   have A:=Fb k f (z:=gd B.pts B.tris B.col x) (by unfold obZ;rw [aL l]) l;exact Tb 2 [2] Z<|Tl U2<|⟨by unfold fK;rw [aF c,aF d,aF g,A],Z⟩
  have l:¬ gd B.pts B.tris B.col x≠0:=by
   have h:gd B.pts B.tris B.col x=0:=by simpa using r
   exact fun h2=>h2 h
  refine Tc 2 Z fun R a=>Ti ag U9<|UF keyS af Z Z Z Z Z Z Z Z kr_ Z (Fm (B.obs.take i) x.name) Z Z<|Th [1,6,8,36,37,38,54] a Z<|G.cd (fun E=>?_) fun E=>?_
  ·have s:x.name∈(B.obs.take i).map Obs.name:=OQ E;have A:=Fb k f (z:=9) (by unfold obZ;rw [aF l,aL s]) dc_;exact Tb 1 [2] Z<|Tl U2<|⟨by unfold fK;rw [aF c,aF d,aF g,A],Z⟩
  have s:x.name ∉ (B.obs.take i).map Obs.name:=PE E;have W:tN B (i+1)=0:=by rw [tM k f];unfold obZ;rw [aF l,aF s]
  refine Tc 2 Z fun R a=>Ti ag U9<|D.mapUpdate keyS (j:=1) Z Z Z Z Z Z Z Z Z Z kr_<|Th [1,6,36,37,38] a Z<|Tf fun R a=>Tm _ U7<|C6 1 [1,6,36,37,38] a Z<|TV 1 Z<|Tu (L':=[.obj v (aU keyS.enc (Fo (B.obs.take (i+1))))]) (by rw [U,<- IN s];rfl)<|Tp (m':=B.obs.length-(i+1)) om_ mup (hn_ [1,6,36,37,38] Z) ⟨i+1,⟨by omega,W⟩,Z,Z,Z⟩
 have y:i=B.obs.length:=by
  have:¬ i<B.obs.length:=by simpa using w
  omega
 refine Tb 1 [2] Z<|Tl U2<|⟨?_,Z⟩;rw [y] at k;unfold fK;rw [aF c,aF d,aF g,k]
theorem wZ (C:Mem)(b:Value)(c d f g i:Value)(z:Int)(j:b=.agg ⟨[c,d,f,g,i]⟩)(k:z≠0)(l:∀ D:Mem,C.le D->Gives cx.P 65 [.agg ⟨[c,d]⟩] D (.int .i64 z)) :
  Gives cx.P 181 [b] C (.int .i64 z):=by
 subst j;refine Tk func181 59 U3 fun w0=>Tf fun R a=>Tv U6 fun b1=>C6 1 [1] a Z<|G.freeze 0 Z fun _ _ m=>Tc 1 Z fun R a=>Td (bkT m 2) U8<|To (l _ mup) U7<|C6 1 [1,3] a Z<|Tb 2 [1,3,14] Z<|G.cd (fun e=>?_) fun e=>?_
 ·exact Tb 2 [2] Z<|Tl U2<|⟨Z,Z⟩
 exfalso;have h:z=0:=by simpa using e
 exact k h
theorem lW (C:Mem)(g:Tabs C)(b:Value)(B:Bk)(c:BookIn C b B)(j:Good B.pts B.tris)(k:BookR B)(l:fK B=0)(i:Nat)(n:i<B.obs.length) :
  Gives cx.P 289 [b,.int .i64 i] C (.int .i64 0):=by
 have d:=c;obtain ⟨o,p,q,r,s,rfl,h1,h2,h3,h4,h5⟩:=id c.ex;obtain ⟨t,u,rfl,m,v,_⟩:=id h5;have w:maxLen<=9223372036854775807:=by simp [maxLen]
 simp only [am] at h5 m d ⊢;refine Tk func289 20 U3 fun w0=>Tf fun R a=>Tv U6 fun b2=>C6 1 [1,2] a Z<|Tf fun R a=>Ti ag U9<|Ts (by have h:=kH _ g.m_ _ B d.m_ j k;rw [l] at h;exact h) U7 fl_<|C6 1 [1,2,5] a Z<|Tb 2 [1,2,5,9] Z<|G.cd (fun e=>?_) fun e=>?_
 ·exact absurd e dc_
 refine Tc 5 Z fun R a=>Ti ag U9<|Tg 2 Z<|TN U8<|Th [19] a Z<|G.cd (fun f=>?_) fun f=>?_
 ·exfalso;simp only [Ro,PI] at f;omega
 exact Tb 1 [4] Z<|Tl U2<|⟨Z,Z⟩
noncomputable def nU (o:Obs)(z:Rat):Rat:=if o.kind=2 then z-dB o.depth else z
structure ObsAt (o:Obs)(p:Pt):Prop where
 x:o.x=qtx p.1
 y:o.y=qtx p.2
 q:QP 23 p
 r:PtR p
 d:o.kind=2->aV o.depth=true
theorem wb {o:Obs}(h:ObsAt o p):(.agg ⟨[ah o.x,ah o.y]⟩:Value)=ptV p:=by unfold ptV cY;rw [h.x,h.y]
structure Terr (B:Bk)(fs:List Rat):Prop where
 e:B.terr=fs.map qtx
 l:fs.length=B.pts.length
 q:∀ q∈fs,QB 22 q
theorem J5 {B:Bk}(h:Terr B fs):∀ q∈fs,aV (qtx q)=true:=fun q a=>bC (h.q q a)
theorem FZ (C:Mem)(k:Tabs C)(m:Value)(B:Bk)(i:List Rat)(o:Obs)(p:Pt)(z:Rat)(v:BookIn C m B)(w:Good B.pts B.tris)(b:Terr B i)(c:ObsAt o p)(x:Hn B.pts B.tris i p=.tuple #[ah (qtx z),.int .i64 0])(y:QB 22 z) :
  Gives cx.P 290 [m,.agg ⟨lP o⟩] C (.tuple #[ah (qtx (nU o z)),.int .i64 0]):=by
 obtain ⟨n,s,E,F,H,rfl,h1,h2,h3,h4,h5⟩:=id v.ex;have hm:MeshIn C (.agg ⟨[n,s]⟩) B.pts B.tris:=⟨n,s,rfl,h1,h2⟩;rw [b.e,<- fH] at h3;refine Tk func290 31 U3 fun w0=>Tf fun R a=>Tv U6 fun b2=>Tv U6 fun I=>C6 2 [2,3] a Z<|G.freeze 1 Z fun _ _ t=>G.freeze 0 Z fun u _ j=>Tc 1 Z fun R a=>Td (bkT t 2) U8<|Te U6<|Td (bkT t 1) U8<|Te U6<|Td (bkT j 2) U8<|Ts (by have h:=zy u k.m_ _ _ B.pts B.tris i 22 dc_ dc_ hm.m_ w h3.m_ b.l b.q (J5 b) p c.q c.r;rw [x,<- wb c] at h;exact h) U7 fl_<|C6 5 [3,6,7] a Z<|Tc 4 Z fun R a=>TF U6 (fun _=>PtrTo.blockT (Mem.get j mup) _ 1) U3<|Te U6<|TB U8<|Th [3,6,7,24] a Z<|G.cd (fun f=>?_) fun f=>?_
 ·have g:o.kind=2:=di (SX.1 f).2;obtain ⟨A,D⟩:=dx (c.d g);refine Tc 2 Z fun R a=>Td (bkT j 1) U8<|Ts (by have h:=dz u k.m_ z (dB o.depth) 23 dc_ dc_ (y.le dc_) D;rw [<- A] at h;exact h) U7 fl_<|C6 1 [6,7] a Z<|Tb 4 [4,5] Z<|Tn (G.dropAll (TD U3 ?_));exact ⟨by unfold nU;rw [aL g],Z⟩
 have g:¬ o.kind=2:=by
  intro e;rw [show ((((0:Int) == 0) && (o.kind == 2))=true) by rw [e];rfl] at f;cases f
 refine Tb 4 [4,5] Z<|Tn (G.dropAll (TD U3 ?_));exact ⟨by unfold nU;rw [aF g],Z⟩
theorem CM (C:Mem)(c:Tabs C)(h:Value)(B:Bk)(d:List Rat)(i:Nat)(o:Obs)(p:Pt)(z:Rat)(b:BookIn C h B)(j:Good B.pts B.tris)(q:BookR B)(r:fK B=0)(s:Terr B d)(k:B.obs[i]?=some o)(t:ObsAt o p)(u:Hn B.pts B.tris d p=.tuple #[ah (qtx z),.int .i64 0])(v:QB 22 z)(l:QB 22 (nU o z)) :
  Gives cx.P 243 [h,.int .i64 i] C (.tuple #[ah (qtx (nU o z)),.int .i64 0]):=by
 have e:=b;have w:=(aJ.1 k).1;obtain ⟨A,D,E,F,H,rfl,h1,h2,h3,h4,h5⟩:=id b.ex;obtain ⟨I,J,rfl,x,K,_⟩:=id h5;have L:maxLen<=9223372036854775807:=by simp [maxLen]
 simp only [am] at h5 x e ⊢;refine Tk func243 36 U3 fun w0=>?_;refine Tf fun R a=>?_;refine Tv U6 (fun b2=>?_);refine C6 2 [1,2] a Z ?_;clear a R;refine G.freeze 0 Z (fun _ _ f=>?_);refine Tf fun R a=>?_;refine Td (bkT f 5) U8 ?_;refine Te U6 ?_;refine To (lW _ c.m_ _ B e.m_ j q r i w) U7 ?_;refine C6 1 [1,2,6] a Z ?_;clear a R;refine Tb 2 [1,2,6,13] Z ?_;refine G.cd (fun m=>?_) fun m=>?_
 ·exact absurd m dc_
 refine Tx [0,1,2,3,4,5,6,7,8,9,10,11] [(6,1)] Z kr_ (fun R b a=>?_);refine Td (bkT f 5) U8 ?_;refine Te U6 ?_;refine Td (bkT f 1) U8 ?_;refine Te U6 ?_;refine Tt h5.m_ U10 om_ (bW k) fl_ (fun M y=>?_);refine Td y U8 ?_;refine TO (fun _=>(FZ _ c.m_ _ B d o p z e.m_ j s t u v)) U9 ?_;refine Tg 5 Z ?_;refine Th [7,8] a Z ?_;clear a b R;refine Tc 4 Z fun R a=>?_;refine TO (fun _=>(dF _ c.m_ _ (tC l))) U9 ?_;refine Te U6 ?_;refine TB U8 ?_;refine Th [7,8,31] a Z ?_;clear a R;refine G.cd (fun g=>?_) fun g=>?_
 ·exfalso;rw [wV l] at g;exact absurd g dc_
 refine Tb 2 [7,8,33] Z ?_;refine G.cd (fun n=>?_) fun n=>?_
 ·exact absurd n dc_
 refine Tb 3 [4,5] Z ?_;refine Tn (G.dropAll (TD U3 ?_));exact ⟨Z,Z⟩
def xF (lo hi:Int)(n:Nat):List Nat:=(List.range n).filter fun k:Nat=>decide (lo<=(k:Int)/\(k:Int)<hi)
def D5 (col:List Lay)(o:Obs):Int:=if o.kind=1 then jS (isU o.upper) col 0-1 else jS (isU o.lower) col 0
def D6 (col:List Lay)(o:Obs):Int:=if o.kind=1 then jS (isU o.upper) col 0+1 else jS (isU o.upper) col 0
def cQ (col:List Lay)(o:Obs):List Nat:=xF (D5 col o) (D6 col o) (col.length-1)
theorem HF {a b:Int}(j:max a 0<=(i:Int))(l:(i:Int)<=max (max a 0) (min b n))(o:min b (n:Int)<=(i:Int)):(List.range i).filter (fun k:Nat=>decide (a<=(k:Int)))=xF a b n:=by
 unfold xF;have hs:∀ m:Nat,(List.range (i+m)).filter (fun k:Nat=>decide (a<=(k:Int)/\(k:Int)<b/\k<n))=(List.range i).filter (fun k:Nat=>decide (a<=(k:Int)/\(k:Int)<b/\k<n)):=by
  intro m;induction m with
  | zero=>rfl
  | succ m c =>
   rw [show i+(m+1)=i+m+1 by omega,QF,QZ,c,List.filter_cons];rw [aF (by simp only [PI];omega)];simp
 have f:(List.range i).filter (fun k:Nat=>decide (a<=(k:Int)))=(List.range i).filter (fun k:Nat=>decide (a<=(k:Int)/\(k:Int)<b/\k<n)):=by
  refine List.filter_congr (fun k d=>?_);rw [PS] at d;rw [Qo];omega
 have g:(List.range n).filter (fun k:Nat=>decide (a<=(k:Int)/\(k:Int)<b))=(List.range n).filter (fun k:Nat=>decide (a<=(k:Int)/\(k:Int)<b/\k<n)):=by
  refine List.filter_congr (fun k d=>?_);rw [PS] at d;rw [Qo];omega
 rw [f,g];rcases Nat.le_total i n with e | e
 ·obtain ⟨m,rfl⟩:=Nat.exists_eq_add_of_le e;exact (hs m).symm
 have h:∀ m:Nat,(List.range (n+m)).filter (fun k:Nat=>decide (a<=(k:Int)/\(k:Int)<b/\k<n))=(List.range n).filter (fun k:Nat=>decide (a<=(k:Int)/\(k:Int)<b/\k<n)):=by
  intro m;induction m with
  | zero=>rfl
  | succ m c =>
   rw [show n+(m+1)=n+m+1 by omega,QF,QZ,c,List.filter_cons];rw [aF (by simp only [PI];omega)];simp
 obtain ⟨m,rfl⟩:=Nat.exists_eq_add_of_le e;exact h m
theorem rU (p:α->Bool)(l:List α):-1<=jS p l 0/\jS p l 0<=(l.length:Int):=by
 rcases mJ p l with ⟨h,_⟩ | ⟨i,x,h,h2,_⟩
 ·omega
 have:=(aJ.1 h2).1;omega
theorem xE (C:Mem)(_ab:Tabs C)(F:Value)(B:Bk)(o:Obs)(q:BookIn C F B)(ac:B.col.length<=1000)(L:B.col≠[]) :
  Pur cx.P 291 [F,.agg ⟨lP o⟩] C fun u D=>Sl D 1 u ((cQ B.col o).map aS):=by
 obtain ⟨v1,v2,tv,cv,ov,rfl,h1,h2,h3,h4,h5⟩:=id q.ex;obtain ⟨A4,c4,rfl,M,ad,_⟩:=id h4;have ae:maxLen<=9223372036854775807:=by simp [maxLen]
 have af:=Qi.2 L;have N:=rU (isU o.lower) B.col;have O:=rU (isU o.upper) B.col;obtain ⟨lw,H⟩:∃ z,jS (isU o.lower) B.col 0=z:=⟨_,rfl⟩;obtain ⟨up,I⟩:∃ z,jS (isU o.upper) B.col 0=z:=⟨_,rfl⟩;obtain ⟨lo,b⟩:∃ z,D5 B.col o=z:=⟨_,rfl⟩;obtain ⟨c,d⟩:∃ z,D6 B.col o=z:=⟨_,rfl⟩;obtain ⟨n,Q⟩:∃ n,B.col.length-1=n:=⟨_,rfl⟩;unfold cQ;rw [b,d,Q];unfold D5 at b;unfold D6 at d;rw [H] at N b;rw [I] at O b d;simp only [am] at h4 M ⊢;have ag:-2<=lo/\lo<=1000:=by rw [<- b];split <;> omega
 have ah:-2<=c/\c<=1001:=by rw [<- d];split <;> omega
 refine Tk func291 43 U3 fun w0=>?_;refine Tf fun R a=>?_;refine Tv U6 (fun b2=>?_);refine Tv U6 (fun b3=>?_);refine C6 1 [2,3] a Z ?_;clear a R;refine G.freeze 1 Z (fun _ _ s=>?_);refine G.freeze 0 Z (fun J _ t=>?_);refine Tx [0,1,2,3,4,5,6,7,8,9,10,11] [(4,1),(9,1)] Z kr_ (fun R q a=>?_);refine Te U6 ?_;refine Td (bkT s 1) U8 ?_;refine Te U6 ?_;refine Td (bkT t 1) U8 ?_;refine TA (fun _=>(by have h:=jM J _ B.col o.lower h4.m_;rw [H] at h;exact h)) U9 ?_;refine Te U6 ?_;refine Td (bkT s 1) U8 ?_;refine Te U6 ?_;refine Td (bkT t 1) U8 ?_;refine TA (fun _=>(by have h:=jM J _ B.col o.upper h4.m_;rw [I] at h;exact h)) U9 ?_;refine Tg 2 Z ?_;refine Th [2,3,5,6] a Z ?_;clear a q R;refine Tc 1 Z fun R a=>?_;refine Td (bkT t 1) U8 ?_;refine C6 1 [2,5,6,21] a Z ?_;clear a R;refine G.cut (fun fr S g v=>(True)/\fr=[(2,[],.pointer (some ⟨b2,0,none⟩)),(5,[],.int .i64 lo),(6,[],.int .i64 c)]/\g=[]) ?_ (fun fr _ ai v _ x=>?_)
 ·refine G.cd (fun l=>?_) fun l=>?_
  ·have f:o.kind=1:=di l;rw [aL f] at b d;subst b d;refine Tc 1 Z fun R a=>?_;refine Tm _ U7 ?_;refine Te U6 ?_;refine Tm _ U7 ?_;refine C6 2 [2,5,6] a Z ?_;clear a R;refine Tr 0 (Mem.le.refl _) (hn_ [2,5,6] Z) ⟨trivial,Z,Z⟩
  have f:¬ o.kind=1:=by
   intro e;rw [show ((o.kind == 1)=true) by rw [e];rfl] at l;cases l
  rw [aF f] at b d;subst b d;refine Tr 0 (Mem.le.refl _) (hn_ [2,5,6] Z) ⟨trivial,Z,Z⟩
 obtain ⟨_,rfl,rfl⟩:=x;refine Tb 1 [2,5,6,7] Z ?_;obtain ⟨p,T⟩:∃ p:Nat,max lo 0=(p:Int):=⟨(max lo 0).toNat,by omega⟩;refine Tc 1 Z fun R a=>?_;refine D.max (((p:Nat):Int)) U6 T U2 ?_;refine C6 1 [2,6,7,8] a Z ?_;clear a R;refine G.nilArr 3 1 ?_;refine G.loop (fun fr S g v=>∃ (i:Nat)(out:List Nat)(w:Value),(max lo 0<=(i:Int)/\(i:Int)<=max (max lo 0) (min c n)/\out=(List.range i).filter (fun k:Nat=>decide (lo<=(k:Int))))/\fr=[(2,[],.pointer (some ⟨b2,0,none⟩)),(6,[],.int .i64 c),(7,[],w),(8,[],.int .i64 i)]/\g=[.arr w 3 1 out.length (out.map aS).flatten]/\v=2000-i) (hn_ [2,6,7,8] Z) ⟨p,[],_,⟨by omega,by omega,by
  symm;rw [List.filter_eq_nil_iff];intro k f;rw [PS] at f;simp only [PI];omega⟩,rfl,rfl,rfl⟩ (fun fr aj ak m _ x=>?_)
 obtain ⟨i,out,w,⟨U,V,A⟩,rfl,rfl,rfl⟩:=x;refine Tc 3 Z fun R a=>?_;refine Td (bkT s 1) U8 ?_;refine Te U6 ?_;refine Tm _ U7 ?_;refine D.min ((min c (n:Int))) U6 om_ U2 ?_;refine C6 1 [2,6,7,8,35] a Z ?_;clear a R;refine G.cd (fun E=>?_) fun E=>?_
 ·have al:(i:Int)<min c (n:Int):=OQ E;have an:out.length<=i:=by
   rw [A];exact PP (Q5 _ _) ap
  have W:(List.range (i+1)).filter (fun k:Nat=>decide (lo<=(k:Int)))=out++[i]:=by
   rw [QF,QZ,<- A,List.filter_cons,aL (by simp only [PI];omega)];rfl
  refine Tc 2 Z fun R a=>?_;refine Tz [aS i] U12 (fun ao _ _ X=>?_);refine D.append (j:=0) U11 X Z ax (by simp only [ba];omega) fl_ (fun K=>?_);refine C6 1 [2,6,7,8] a Z ?_;clear a R;refine Tc 1 Z fun R a=>?_;refine Tm _ U7 ?_;refine C6 1 [2,6,7,8] a Z ?_;clear a R;refine Tu (L':=[.arr K 3 1 (out++[i]).length ((out++[i]).map aS).flatten]) (by simp [aS]) ?_;refine Tp (m':=2000-(i+1)) om_ mup (hn_ [2,6,7,8] Z) ⟨i+1,out++[i],K,⟨by omega,by omega,W.symm⟩,Z,Z,Z⟩
 have Y:min c (n:Int)<=(i:Int):=by
  have:=PE E;omega
 refine Tb 2 [4] Z ?_;refine G.freezeArr 0 (out.map aS) rfl rfl (by intro r hr;obtain ⟨y,_,rfl⟩:=PF.1 hr;rfl) ap (fun Cg hg aa=>?_);refine Tl U2 ?_;exact ⟨Z,by rw [<- HF U V Y,<- A];exact aa⟩
theorem vm (C:Mem)(j:Tabs C)(k:Value)(B:Bk)(i:Nat)(o:Obs)(d:BookIn C k B)(p:Good B.pts B.tris)(q:BookR B)(a:fK B=0)(l:B.obs[i]?=some o) :
  Pur cx.P 244 [k,.int .i64 i] C fun u D=>∃ v,u=.tuple #[v,.int .i64 0]/\Sl D 1 v ((cQ B.col o).map aS):=by
 have f:=d;have r:=(aJ.1 l).1;have b:nY B.col=0:=by
  unfold fK at a;split at a
  ·rename_i h;exact absurd a h
  split at a
  ·rename_i h;exact absurd a h
  rename_i h;exact P1 h
 have m:B.col≠[]:=by
  intro e;rw [e] at b;exact absurd b dc_
 have s:B.col.length<=1000:=by
  unfold nY at b;rw [aF m] at b;split at b
  ·exact absurd b dc_
  omega
 obtain ⟨y,z,A,E,F,rfl,h1,h2,h3,h4,h5⟩:=id d.ex;obtain ⟨H,I,rfl,t,J,_⟩:=id h5;have K:maxLen<=9223372036854775807:=by simp [maxLen]
 simp only [am] at h5 t f ⊢;refine Tk func244 20 U3 fun w0=>Tf fun R c=>Tv U6 fun b2=>C6 2 [1,2] c Z<|G.freeze 0 Z fun _ _ g=>Tf fun R c=>Td (bkT g 5) U8<|Te U6<|To (lW _ j.m_ _ B f.m_ p q a i r) U7<|C6 1 [1,2,6] c Z<|Tb 2 [1,2,6,11] Z<|G.cd (fun n=>?_) fun n=>?_
 ·exact absurd n dc_
 refine Tx [0,1,2,3,4,5,6,7,8] [] Z kr_ fun R d c=>Td (bkT g 5) U8<|Te U6<|Td (bkT g 1) U8<|Te U6<|Tt h5.m_ U10 om_ (bW l) fl_ fun L w=>Td w U8<|TM (xE _ j.m_ _ B o f.m_ s m) U7 fun M _ _ x=>Tg 2 Z<|Th [4,5] c Z ?_;clear c d R;refine Tn (G.dropAll (TD U3 ?_));exact ⟨Z,_,Z,x⟩
theorem Fg (x y:Nat)(a:x<18446744073709551616)(b:y<18446744073709551616)(C:Mem):Gives cx.P 128 [.int .u64 x,.int .u64 y] C (.tuple #[.int .u64 ((x*y / 18446744073709551616:Nat):Int),.int .u64 ((x*y % 18446744073709551616:Nat):Int)]) :=
 Gives.ofCalls kr_ (fun w=>Any.bits_Mul Tryz.mul x y a b w) C
theorem fB {a:Value}{b:List Value}(_d:k+m<=n)(c:m<=k)(_e:b.length=n-k) :
  aD (List.replicate k a++b) ((List.replicate k a++b).take m) k=List.replicate (k+m) a++b.drop m:=by
 have h1:(List.replicate k a++b).take m=List.replicate m a:=by
  rw [List.take_append_of_le_length (by simpa using c),List.take_replicate,QD c]
 have h2:(List.replicate k a++b).take k=List.replicate k a:=by
  rw [List.take_append_of_le_length ap,List.take_replicate,Nat.min_self]
 have h3:(List.replicate k a++b).drop (k+m)=b.drop m:=by
  rw [R5,P9,Rf ap,Rw];congr 1;omega
 unfold aD;rw [h1,h2,P9,h3,List.replicate_append_replicate]
theorem zp (a:Value)(n:Nat):kf [a] n=List.replicate n a:=by
 rw [eS];induction n with
 | zero=>rfl
 | succ n b=>rw [QC,QI,b,QC];rfl
theorem lm (n:Nat)(a:n<18446744073709551616)(C:Mem):Gives cx.P 128 [.int .u64 (1:Int),.int .u64 n] C (.tuple #[.int .u64 0,.int .u64 n]):=by
 have h:=Fg 1 n om_ a C;have b:1*n / 18446744073709551616=0:=by omega
 have c:1*n % 18446744073709551616=n:=by omega
 rw [b,c] at h;exact h
theorem mD (C:Mem)(v:Value)(n:Nat)(s:Str)(g:Sl C 1 v [[ah s]])(y:n<=1000000):Jog.Fn cx.P 64 [v,.int .i64 n] C [] fun u _z e=>∃ b,u=.slice (some ⟨b,0,none⟩) n n/\e=[.arr u 32 1 n (List.replicate n (ah s))]:=by
 have p:=g;obtain ⟨A,c,rfl,_⟩:=p;refine Tk func64 48 U3 fun w0=>Tb 1 [0,1] Z<|Tb 2 [0,1,10] Z<|G.cd (fun h=>?_) fun h=>?_
 ·simp at h;omega
 refine Tc 2 Z fun R d=>TR (c:=1) U8 Z fl_<|Te U6<|TR (c:=(n:Int)) U8 (by rw [IntKind.wrap_u64];omega) fl_<|Ts (lm n om_ _) U7 fl_<|C6 5 [0,5,6] d Z<|Tc 5 Z fun R d=>TN U8<|Th [0,6,26] d Z<|G.cd (fun i=>?_) fun i=>?_
 ·simp at i;omega
 refine Tc 1 Z fun R d=>TR (c:=(n:Int)) U8 (by rw [IntKind.wrap_i64];omega) fl_<|Um U9 (Py _) (by show 16*n<=281474976710656;omega) (by simp only [maxLen];omega) fl_ fun a=>C6 1 [0,7] d Z<|Tc 2 Z fun R d=>UT (j:=0) (q:=min 1 n) U12 g U2 (by rw [cT];show 0+min 1 n*1<=n*1;omega) fl_<|C6 1 [7,8] d Z ?_;have r:aD (kf [ah []] n) (([[ah s]]:List (List Value)).take (min 1 n)).flatten 0=List.replicate (min 1 n) (ah s)++List.replicate (n-min 1 n) (ah []):=by
  rw [zp];cases n with
  | zero=>rfl
  | succ n=>rw [show min 1 (n+1)=1 by omega,QC];rfl
 refine Tu (L':=[.arr (.slice (some ⟨a,0,none⟩) n n) 32 1 n (List.replicate (min 1 n) (ah s)++List.replicate (n-min 1 n) (ah []))]) (by rw [<- r];rfl)<|G.loop (fun fr B e t=>∃ (k:Nat),(k<=n/\min 1 n<=k)/\fr=[(7,[],.slice (some ⟨a,0,none⟩) n n),(8,[],.int .i64 k)]/\e=[.arr (.slice (some ⟨a,0,none⟩) n n) 32 1 n (List.replicate k (ah s)++List.replicate (n-k) (ah []))]/\t=n-k) (hn_ [7,8] Z) ⟨min 1 n,⟨Nat.min_le_right _ _,Py _⟩,Z,Z,Z⟩ (fun fr D E m w x=>?_);obtain ⟨k,⟨l,F⟩,rfl,rfl,rfl⟩:=x;refine Tb 4 [7,8,37] Z<|G.cd (fun f=>?_) fun f=>?_
 ·simp only [PI] at f;have o:k<n:=by omega
  have H:1<=k:=by omega
  refine Tx [0,1,2,3,4,5,6,7,8,9] [] Z kr_ fun R I d=>Tg 3 Z<|Ud k n n U12 (fun _=>⟨.inr ⟨_,Z⟩,.inl ⟨Z,Z⟩,.inl ⟨Z,Z⟩,l,Py _,Py _⟩) U2<|Tg 2 Z<|Ud 0 k n U12 (fun _=>⟨.inl ⟨Z,Z⟩,.inr ⟨_,Z⟩,.inl ⟨Z,Z⟩,PG _,l,Py _⟩) U2 ?_;refine US (j:=0) (off:=k) (g0:=a) (dl:=n-k) (dc:=n-k) (sl:=k-0) (sc:=n-0) (q:=min k (n-k)) U8 (by show some (Value.slice (if n=k then some (⟨a,0,none⟩:Addr) else (some (⟨a,0,none⟩:Addr)).map (·.add (k*1))) (n-k) (n-k))=_;rw [aF om_];simp [Addr.add_lit]) (by show some (Value.slice (if n=0 then some (⟨a,0,none⟩:Addr) else (some (⟨a,0,none⟩:Addr)).map (·.add (0*1))) (k-0) (n-0))=_;split <;> simp [Addr.add_lit]) U2 (by simp [me,ah]) aq fl_ ?_;refine TL (((k+min k (n-k):Nat):Int)) U4 om_ om_ om_ U2<|C6 1 [7,8] d Z<|Tu (L':=[.arr (.slice (some ⟨a,0,none⟩) n n) 32 1 n (List.replicate (k+min k (n-k)) (ah s)++List.replicate (n-(k+min k (n-k))) (ah []))]) (by rw [fB (n:=n) om_ (Nat.min_le_left _ _) ap,List.drop_replicate,Nat.sub_sub];rfl)<|Tp (m':=n-(k+min k (n-k))) om_ w (hn_ [7,8] Z) ⟨k+min k (n-k),⟨by omega,by omega⟩,Z,Z,Z⟩
 simp only [P3] at f;have o:k=n:=by omega
 subst o;refine Tb 2 [4] Z<|Tn (TQ Z Z ?_);exact ⟨a,Z,by simp⟩
theorem mE (C:Mem)(v:Value)(n:Nat)(s:Str)(g:Sl C 1 v [[ah s]])(y:n<=1000000):Jog.Fn cx.P 292 [v,.int .i64 n] C [] fun u _z e=>∃ b,u=.slice (some ⟨b,0,none⟩) n n/\e=[.arr u 32 1 n (List.replicate n (ah s))]:=by
 have p:=g;obtain ⟨A,c,rfl,_⟩:=p;refine Tk func292 48 U3 fun w0=>Tb 1 [0,1] Z<|Tb 2 [0,1,10] Z<|G.cd (fun h=>?_) fun h=>?_
 ·simp at h;omega
 refine Tc 2 Z fun R d=>TR (c:=1) U8 Z fl_<|Te U6<|TR (c:=(n:Int)) U8 (by rw [IntKind.wrap_u64];omega) fl_<|Ts (lm n om_ _) U7 fl_<|C6 5 [0,5,6] d Z<|Tc 5 Z fun R d=>TN U8<|Th [0,6,26] d Z<|G.cd (fun i=>?_) fun i=>?_
 ·simp at i;omega
 refine Tc 1 Z fun R d=>TR (c:=(n:Int)) U8 (by rw [IntKind.wrap_i64];omega) fl_<|Um U9 (Py _) (by show 16*n<=281474976710656;omega) (by simp only [maxLen];omega) fl_ fun a=>C6 1 [0,7] d Z<|Tc 2 Z fun R d=>UT (j:=0) (q:=min 1 n) U12 g U2 (by rw [cT];show 0+min 1 n*1<=n*1;omega) fl_<|C6 1 [7,8] d Z ?_;have r:aD (kf [ah []] n) (([[ah s]]:List (List Value)).take (min 1 n)).flatten 0=List.replicate (min 1 n) (ah s)++List.replicate (n-min 1 n) (ah []):=by
  rw [zp];cases n with
  | zero=>rfl
  | succ n=>rw [show min 1 (n+1)=1 by omega,QC];rfl
 refine Tu (L':=[.arr (.slice (some ⟨a,0,none⟩) n n) 32 1 n (List.replicate (min 1 n) (ah s)++List.replicate (n-min 1 n) (ah []))]) (by rw [<- r];rfl)<|G.loop (fun fr B e t=>∃ (k:Nat),(k<=n/\min 1 n<=k)/\fr=[(7,[],.slice (some ⟨a,0,none⟩) n n),(8,[],.int .i64 k)]/\e=[.arr (.slice (some ⟨a,0,none⟩) n n) 32 1 n (List.replicate k (ah s)++List.replicate (n-k) (ah []))]/\t=n-k) (hn_ [7,8] Z) ⟨min 1 n,⟨Nat.min_le_right _ _,Py _⟩,Z,Z,Z⟩ (fun fr D E m w x=>?_);obtain ⟨k,⟨l,F⟩,rfl,rfl,rfl⟩:=x;refine Tb 4 [7,8,37] Z<|G.cd (fun f=>?_) fun f=>?_
 ·simp only [PI] at f;have o:k<n:=by omega
  have H:1<=k:=by omega
  refine Tx [0,1,2,3,4,5,6,7,8,9] [] Z kr_ fun R I d=>Tg 3 Z<|Ud k n n U12 (fun _=>⟨.inr ⟨_,Z⟩,.inl ⟨Z,Z⟩,.inl ⟨Z,Z⟩,l,Py _,Py _⟩) U2<|Tg 2 Z<|Ud 0 k n U12 (fun _=>⟨.inl ⟨Z,Z⟩,.inr ⟨_,Z⟩,.inl ⟨Z,Z⟩,PG _,l,Py _⟩) U2 ?_;refine US (j:=0) (off:=k) (g0:=a) (dl:=n-k) (dc:=n-k) (sl:=k-0) (sc:=n-0) (q:=min k (n-k)) U8 (by show some (Value.slice (if n=k then some (⟨a,0,none⟩:Addr) else (some (⟨a,0,none⟩:Addr)).map (·.add (k*1))) (n-k) (n-k))=_;rw [aF om_];simp [Addr.add_lit]) (by show some (Value.slice (if n=0 then some (⟨a,0,none⟩:Addr) else (some (⟨a,0,none⟩:Addr)).map (·.add (0*1))) (k-0) (n-0))=_;split <;> simp [Addr.add_lit]) U2 (by simp [me,ah]) aq fl_ ?_;refine TL (((k+min k (n-k):Nat):Int)) U4 om_ om_ om_ U2<|C6 1 [7,8] d Z<|Tu (L':=[.arr (.slice (some ⟨a,0,none⟩) n n) 32 1 n (List.replicate (k+min k (n-k)) (ah s)++List.replicate (n-(k+min k (n-k))) (ah []))]) (by rw [fB (n:=n) om_ (Nat.min_le_left _ _) ap,List.drop_replicate,Nat.sub_sub];rfl)<|Tp (m':=n-(k+min k (n-k))) om_ w (hn_ [7,8] Z) ⟨k+min k (n-k),⟨by omega,by omega⟩,Z,Z,Z⟩
 simp only [P3] at f;have o:k=n:=by omega
 subst o;refine Tb 2 [4] Z<|Tn (TQ Z Z ?_);exact ⟨a,Z,by simp⟩
theorem fR (C:Mem)(s p:Nat)(h:s*p<=100000):Jog.Fn cx.P 241 [fT s p] C [] fun u _f c=>∃ b,u=.slice (some ⟨b,0,none⟩) (s*p:Nat) (s*p:Nat)/\c=[.arr u 32 1 (s*p) (List.replicate (s*p) (ah [48]))]:=by
 refine Tk func241 7 U3 fun w0=>Tf fun R a=>Tv U6 fun b1=>C6 1 [1] a Z<|TC [(3,3)] Z fun R a=>Tz [[ah [48]]] U12 fun g _ _ d=>Ti ag U9<|Ts (iI _ s p om_) U7 fl_<|D.call (mD _ _ (s*p) [48] d.m_ om_) Z (.inr dc_) U6 (PC _) fl_ fun i _ j _ e=>C6 1 [2] a Z ?_;obtain ⟨b,rfl,rfl⟩:=e;refine TV 1 Z<|Tn (TQ Z Z ?_);exact ⟨b,Z,Z⟩
def ofE (z:Int)(s p:Nat):Int:=if z≠0 then z else if 60<s*p then 4 else 0
def ofS (e:Int)(s p:Nat):Value:=if e=0 then fT s p else fT 0 0
structure BookZ (C:Mem)(bv:Value)(B:Bk)(z:Int):Prop where
 i:BookIn C bv B
 ch:∀ D:Mem,C.le D->Gives cx.P 181 [bv] D (.int .i64 z)
 ne:z=0->B.col≠[]
 lc:B.col.length<=1000
 lp:B.pts.length<=400
theorem BookZ.mono {C D:Mem}{a:Value}{B:Bk}{z:Int}(h:BookZ C a B z)(c:C.le D):BookZ D a B z:=⟨h.i.mono c,fun E d=>h.ch E (fun b o e=>d b o (c b o e)),h.ne,h.lc,h.lp⟩
theorem BookZ.m_ {D:Mem}{B:Bk}(h:BookZ C bv B z)(a:C.le D:=by exact mup):BookZ D bv B z:=BookZ.mono h a
def bs (B:Bk):Nat:=B.col.length-1
def bp (B:Bk):Nat:=B.pts.length
theorem NA {B:Bk}(h:BookZ C bv B z):bs B*bp B<=400000:=by
 have h1:=h.lc;have h2:=h.lp;have:bs B*bp B<=1000*400:=Q1 (by unfold bs;omega) (by unfold bp;omega);omega
theorem Mb (C:Mem)(l:Value)(B:Bk)(z:Int)(c:BookZ C l B z):Gives cx.P 113 [l] C (.tuple #[ofS (ofE z (bs B) (bp B)) (bs B) (bp B),.int .i64 (ofE z (bs B) (bp B))]):=by
 obtain ⟨n,o,p,q,r,rfl,h1,h2,h3,h4,h5⟩:=id c.i.ex;obtain ⟨s,t,rfl,u,v,_⟩:=id h1;obtain ⟨w,x,rfl,y,A,_⟩:=id h4;have D:=NA c;have E:=c.lc;have m:=c.ch;have F:maxLen<=9223372036854775807:=by simp [maxLen]
 simp only [am] at m ⊢;refine Tk func113 26 U3 fun w0=>Tf fun R a=>Tv U6 fun b1=>Tq U5 fun b2=>C6 1 [1,2] a Z<|G.freeze 1 Z fun _ _ g=>Tf fun R a=>Td (bkT g 5) U8<|To (m _ mup) U7<|C6 1 [1,2,4] a Z<|Tb 2 [1,2,4,9] Z<|G.cd (fun f=>?_) fun f=>?_
 ·have b:z≠0:=by
   intro e;rw [e] at f;exact absurd f dc_
  have d:ofE z (bs B) (bp B)=z:=by unfold ofE;rw [aL b]
  refine Tf fun R a=>Tw [.int .i64 0,.int .i64 0] U8<|Te U6<|Tj (j:=0) U12<|C6 1 [2,3] a Z<|Tn (Uz ag U5 ?_);exact ⟨by rw [d];unfold ofS;rw [aF b];rfl,Z⟩
 have b:z=0:=by simpa using f
 have H:=Qi.2 (c.ne b);have I:bs B+1=B.col.length:=by unfold bs;omega
 refine Tc 1 Z fun R a=>Td (bkT g 1) U8<|Te U6<|TL (((bs B:Nat):Int)) U4 om_ om_ om_ U2<|Tg 2 Z<|Td (bkT g 1) U8<|Te U6<|Tw [.int .i64 (bs B:Nat),.int .i64 (bp B:Nat)] U8<|Tq U5 fun J=>Tj (j:=0) U12<|Th [2,5] a Z<|Tf fun R a=>Ti ag U9<|Ts (iI _ (bs B) (bp B) om_) U7 fl_<|C6 1 [2,5,23] a Z<|G.cd (fun h=>?_) fun h=>?_
 ·have k:60<bs B*bp B:=by
   have:=OQ h;omega
  have d:ofE z (bs B) (bp B)=4:=by unfold ofE;rw [b,aF dc_,aL k]
  refine Tf fun R a=>Tw [.int .i64 0,.int .i64 0] U8<|Tj (j:=1) U12<|C6 1 [2,3] a Z<|Tn (Uz ag U5 ?_);exact ⟨by rw [d];rfl,Z⟩
 have k:¬ 60<bs B*bp B:=by
  have:=PE h;omega
 have d:ofE z (bs B) (bp B)=0:=by unfold ofE;rw [b,aF dc_,aF k]
 refine Tf fun R a=>Ti ag U9<|Tj (j:=1) U12<|C6 1 [2,3] a Z<|Tn (Uz ag U5 ?_);exact ⟨by rw [d];rfl,Z⟩
theorem Ju (C:Mem)(c:Value)(B:Bk)(z:Int)(b:BookZ C c B z):Gives cx.P 92 [c] C (.tuple #[.int .i64 (if ofE z (bs B) (bp B)=0 then ((bs B*bp B:Nat):Int) else 0),.int .i64 (ofE z (bs B) (bp B))]):=by
 have s:=NA b;have g:=b;obtain ⟨k,l,m,n,o,rfl,h1,h2,h3,h4,h5⟩:=id b.i.ex;obtain ⟨e,d⟩:∃ e,ofE z (bs B) (bp B)=e:=⟨_,rfl⟩;have f:∀ D:Mem,C.le D->Gives cx.P 113 [.agg ⟨[k,l,m,n,o]⟩] D (.tuple #[ofS e (bs B) (bp B),.int .i64 e]):=fun D p=>by have h:=Mb D _ B z (g.mono p);rwa [d] at h
 rw [d];have q:ofS e (bs B) (bp B)=.agg ⟨[.int .i64 (if e=0 then ((bs B:Nat):Int) else 0),.int .i64 (if e=0 then ((bp B:Nat):Int) else 0)]⟩:=by unfold ofS fT;split <;> rfl
 have r:∀ D:Mem,Gives cx.P 149 [.agg ⟨[.int .i64 (if e=0 then ((bs B:Nat):Int) else 0),.int .i64 (if e=0 then ((bp B:Nat):Int) else 0)]⟩] D (.int .i64 (if e=0 then ((bs B*bp B:Nat):Int) else 0)):=fun D=>by
  by_cases h:e=0
  ·rw [aL h,aL h,aL h];exact iI D (bs B) (bp B) om_
  rw [aF h,aF h,aF h];exact iI D 0 0 om_
 rw [q] at f;refine Tk func92 14 U3 fun w0=>Tf fun R a=>Tv U6 fun b1=>C6 2 [1] a Z<|Tf fun R a=>Ti ag U9<|To (f _ mup) U7<|Tg 3 Z<|Tq U5 fun t=>Tj (j:=0) U12<|C6 1 [4,5] a Z<|Tf fun R a=>Ti ag U9<|To (r _) U7<|C6 3 [2,3] a Z<|Tn (G.dropAll (TD U3 ?_));exact ⟨Z,Z⟩
theorem N4 (C:Mem)(a:Value)(B:Bk)(b:BookZ C a B 0)(c:bs B*bp B<=60):Gives cx.P 113 [a] C (.tuple #[fT (bs B) (bp B),.int .i64 0]):=by
 have h:=Mb C a B 0 b;have e:ofE 0 (bs B) (bp B)=0:=by unfold ofE;rw [aF dc_,aF om_]
 rw [e] at h;exact h
theorem N5 (C:Mem)(a:Value)(B:Bk)(z e:Int)(b:BookZ C a B z)(c:ofE z (bs B) (bp B)=e)(d:e≠0):Gives cx.P 113 [a] C (.tuple #[fT 0 0,.int .i64 e]):=by
 have h:=Mb C a B z b;rw [c] at h;unfold ofS at h
 rwa [aF d] at h
def uQ (n:Nat)(done:List (Nat × Rat)):List Rat:=(List.range n).map fun j=>(dU done j).getD 0
def kK (n:Nat)(done:List (Nat × Rat)):List Value:=(uQ n done).map fun q=>ah (qtx q)
theorem lN (n:Nat):List.replicate n (ah [48])=kK n []:=by
 unfold kK uQ;rw [Qv];symm;rw [List.eq_replicate_iff];refine ⟨by simp,fun v a=>?_⟩;obtain ⟨j,_,rfl⟩:=PF.1 a;show ah (qtx 0)=_;rw [qtx_zero]
theorem lO (n:Nat)(a:List (Nat × Rat)):(kK n a).length=n:=by simp [kK,uQ]
theorem ft {a:Nat}(b:List (Nat × Rat))(q:Rat)(h:a<n):aD (kK n b) [ah (qtx q)] a=kK n ((a,q)::b):=by
 have g:=lO n b;unfold aD;refine List.ext_getElem? (fun j=>?_);have f:∀ (d:List (Nat × Rat)),(kK n d)[j]?=if j<n then some (ah (qtx ((dU d j).getD 0))) else none:=fun d=>by
  unfold kK uQ;rw [Qv,PD];split
  ·rename_i c;rw [Qd c];rfl
  rename_i c;rw [PJ (by simpa using Nat.le_of_not_lt c)];rfl
 rw [f ((a,q)::b)];have e:((kK n b).take a).length=a:=by rw [PM,g];omega
 rcases Nat.lt_trichotomy j a with c | rfl | c
 ·rw [P8,Qh (by rw [e];exact c),Qm,aL c,f b,aL om_,aL om_];simp only [dU];rw [aF om_]
 ·rw [P8,PX (by rw [e];exact Py _),e,RW,aL h];simp [dU]
 rw [PX (by rw [PH,e];simp;omega),PH,e,List.getElem?_drop];rw [show a+[ah (qtx q)].length+(j-(a+[ah (qtx q)].length))=j by simp;omega,f b];split
 ·simp only [dU];rw [aF om_]
 rfl
theorem vJ {d a:List (Nat × Rat)}(h:d.Perm a)(b:(d.map (·.1)).Nodup):uQ n d=uQ n a:=by
 unfold uQ;refine List.map_congr_left (fun j _=>?_);rw [wg h b]
def eG (fm:List (Nat × Rat)):List (Int × Value):=fm.map fun x=>(((x.1:Nat):Int),ah (qtx x.2))
def Hp (p surface:Nat)(sign:Rat)(x:Nat × Rat):Nat × Rat:=(surface*p+x.1,sign*x.2)
theorem rM:QB 1 (-1:Rat):=fM QB_one
theorem xY (C:Mem)(s p a k:Nat)(h:a*p+k<=1000000):Gives cx.P 240 [fT s p,.int .i64 (a:Nat),.int .i64 (k:Nat)] C (.int .i64 ((a*p+k:Nat):Int)):=by
 have e:((a:Nat):Int)*(p:Nat)=((a*p:Nat):Int):=(Qe _ _).symm;have h2:=NJ C s p (a:Nat) (k:Nat) (by rw [e];omega) om_;rw [e,<- Sb] at h2;exact h2
def H7 (s p surface:Nat)(fm:List (Nat × Rat))(sign:Rat):List Rat:=uQ (s*p) (fm.map (Hp p surface sign))
theorem NO (C:Mem)(J:Tabs C)(s p f b:Nat)(c:List (Nat × Rat))(g o:Rat)(k:Nat)(K:0<k)(hk:k<=1000)(ab:s*p<=100000)(hs:f<s)(A:C b=some (aU keyZ.enc (eG c)))(ac:(c.map (·.1)).Nodup)(ad:∀ x∈c,x.1<p)(ae:∀ x∈c,QB k x.2)(L:QB k g)(af:QB k o) :
  Pur cx.P 246 [fT s p,.int .i64 f,.map (some b),ah (qtx g),ah (qtx o)] C fun u D=>∃ v,u=.agg ⟨[v,ah (qtx (g*o))]⟩/\Sl D 1 v ((H7 s p f c g).map eh):=by
 have av:maxLen<=9223372036854775807:=by simp [maxLen]
 have M:(eG c).length=c.length:=by simp [eG]
 have aw:f*p+p<=s*p:=by
  rw [<- Nat.succ_mul];exact Qp _ hs
 have ax:=(c.map (·.1)).length;refine Tk func246 38 U3 fun w0=>Tf fun R l=>Tv U6 fun b5=>Tq U5 fun z=>Th [1,2,3,4,5,10] l Z<|G.freeze 1 Z fun _ _ N=>TC [(1,3)] Z fun R l=>Td (bkT N 2) U8<|D.call (fR _ s p ab) Z (.inr dc_) U6 (PC _) fl_ (fun az _ aA _ ai=>?_);obtain ⟨bz,rfl,rfl⟩:=ai;refine Tg 2 Z<|Ts (cU _ J.m_ g o k K om_ L af) U7 fl_<|Tw [.slice (some ⟨bz,0,none⟩) (s*p:Nat) (s*p:Nat),ah (qtx (g*o))] U8<|Tq U5 fun aj=>Tj (j:=0) U12<|Th [1,2,3,5,10,11] l Z<|G.freeze 0 Z fun _ _ O=>Tu (L':=[.arr (.slice (some ⟨bz,0,none⟩) (s*p) (s*p)) 32 1 (s*p) (kK (s*p) []),.obj z (.cells ⟨[.slice none 0 0,ah []]⟩ 140 (0,0))]) (by rw [lN];rfl)<|Tc 1 Z fun R l=>Vv keyZ (Mem.get A mup) Z Z Z Z Z Z Z fl_ fun E=>Th [1,3,5,10,11,21] l Z<|G.loop (fun fr C' B μ=>∃ (seen:List Nat),(seen.Nodup/\(∀ j∈seen,j<c.length))/\fr=[(1,[],.int .i64 f),(3,[],ah (qtx g)),(5,[],.pointer (some ⟨b5,0,none⟩)),(10,[],.pointer (some ⟨z,0,none⟩)),(11,[],.pointer (some ⟨aj,0,none⟩)),(21,[],.pointer (some ⟨E,0,none⟩))]/\B=[.obj E (bj b (eG c).length seen),.arr (.slice (some ⟨bz,0,none⟩) (s*p) (s*p)) 32 1 (s*p) (kK (s*p) (seen.reverse.map fun i=>Hp p f g (c.getD i (0,0)))),.obj z (.cells ⟨[.slice none 0 0,ah []]⟩ 140 (0,0))]/\μ=c.length-seen.length) (hn_ [1,3,5,10,11,21] Z) ⟨[],⟨List.nodup_nil,by simp⟩,Z,Z,Z⟩ (fun fr aB aC m _ hI=>?_);obtain ⟨seen,⟨Q,S⟩,rfl,rfl,rfl⟩:=hI;refine Tf fun R l=>VA keyZ (q:=0) (Mem.get A mup) Z Z Z Z Z Z fl_ fun T aD t U=>C6 1 [1,3,5,10,11,21,23] l Z<|G.cd (fun w=>?_) fun w=>?_
 ·obtain ⟨aE,j,F,ak,rfl⟩:T=true/\∃ j,j<(eG c).length/\j ∉ seen/\t=seen++[j]:=by
   rcases U with ⟨h1,_⟩ | h1
   ·rw [h1] at w;cases w
   exact h1
  rw [M] at F;obtain ⟨⟨n,q⟩,H⟩:∃ x,c[j]?=some x:=⟨c[j],al F⟩;have V:=Px H;have aF:n<p:=ad _ V;have am:QB k q:=ae _ V;have an:(eG c)[j]?=some (((n:Nat):Int),ah (qtx q)):=by unfold eG;rw [PD,H];rfl
  have ao:c.getD j (0,0)=(n,q):=by rw [ay,H];rfl
  have W:(seen++[j]).Nodup:=by
   rw [QX];exact ⟨Q,by simp,fun a ha b hb e=>by rw [PU.1 hb] at e;subst e;exact ak ha⟩
  have X:∀ i∈seen++[j],i<c.length:=fun i I=>by
   rcases PQ.1 I with h | h
   ·exact S i h
   rw [PU.1 h];exact F
  have aG:(seen++[j]).length<=c.length:=by
   have:=List.Nodup.length_le_of_subset W (l₂:=List.range c.length) (fun i I=>PS.2 (X i I));simpa using this
  have aH:(seen++[j]).length=seen.length+1:=by simp
  have ap:f*p+n<s*p:=by omega
  refine Tf fun R l=>Vy keyZ (Mem.get A mup) an ag Z Z Z Z Z Z Z<|C6 4 [1,3,5,10,11,12,13,21] l Z<|Tx [0,1,2,3,4,5,6,7,8,9,10] [(5,1),(8,1)] Z kr_ fun R hB l=>Te U6<|Td (bkT O 1) U8<|Td (bkT N 2) U8<|Tg 2 Z<|TA (fun _=>(xY _ s p f n om_)) U9<|Tg 2 Z<|TA (fun _=>(cU _ J.m_ g q k K om_ L am)) U9<|TE ((f*p+n)) U10 (fun _=>⟨by omega,by omega,(QG _).symm⟩) U2<|TJ (j:=1) U11 (by rw [lO];simp;omega)<|Th [1,3,5,10,11,21] l Z<|G.perm (L':=[.obj E (bj b (eG c).length (seen++[j])),.arr (.slice (some ⟨bz,0,none⟩) (s*p) (s*p)) 32 1 (s*p) (kK (s*p) ((seen++[j]).reverse.map fun i=>Hp p f g (c.getD i (0,0)))),.obj z (.cells ⟨[.slice none 0 0,ah []]⟩ 140 (0,0))]) (by
   rw [List.reverse_append,List.reverse_singleton,List.singleton_append,Qa,ao];unfold Hp;rw [<- ft _ _ ap];exact List.Perm.swap _ _ _) ?_
  refine Tp (m':=c.length-(seen++[j]).length) om_ mup (hn_ [1,3,5,10,11,21] Z) ⟨seen++[j],⟨W,X⟩,Z,Z,Z⟩
 obtain ⟨aI,rfl,Y⟩:T=false/\t=seen/\∀ j,j<(eG c).length->j∈seen:=by
  rcases U with h1 | ⟨h1,_⟩
  ·exact h1
  rw [h1] at w;cases w
 rw [M] at Y;have aa:(t.reverse.map fun i=>Hp p f g (c.getD i (0,0))).Perm (c.map (Hp p f g)):=by
  have h1:=(oN (d:=((0:Nat),(0:Rat))) Q S Y).map (Hp p f g);rw [Qv] at h1;exact ((List.reverse_perm t).map _).trans h1
 have aq:((c.map (Hp p f g)).map (·.1)).Nodup:=by
  rw [Qv];have e:((·.1) ∘ Hp p f g:Nat × Rat->Nat)=(fun k=>f*p+k) ∘ (·.1):=rfl;rw [e,<- Qv];rw [List.Nodup,List.pairwise_map];exact ac.imp (fun {a b} h=>by omega)
 have ar:kK (s*p) (t.reverse.map fun i=>Hp p f g (c.getD i (0,0)))=((H7 s p f c g).map eh).flatten:=by
  unfold H7 kK;rw [vJ aa ((aa.map (·.1)).nodup_iff.2 aq)];exact (ef (fun q=>ah (qtx q)) _).symm
 refine TV 0 Z<|G.freezeArr 0 ((H7 s p f c g).map eh) rfl ar (by intro r hr;obtain ⟨y,_,rfl⟩:=PF.1 hr;rfl) (by simp [H7,uQ]) fun Cg hg au=>Tf fun R l=>Td (bkT O 2) U8<|Tj (j:=0) U12<|Th [10] l Z<|Tn (TY ag U4 ?_);exact ⟨Z,_,Z,au⟩
end Go.Proofs.YtfjcldheldflbaaGreatDoor
