/- Laws that the proofs of this seat share, part 9. -/
import Derived.Test.YtfjcldheldflbaaGreatDoorG8
import Derived.Test.YtfjcldheldflbaaGreatDoorShelf
set_option maxHeartbeats 4000000
namespace Go.Proofs.YtfjcldheldflbaaGreatDoor
open Go.Proofs.Tryz
open Go Go.Jog
set_option maxRecDepth 100000
variable {C:Mem}{a b:Rat}{bv:Value}{c:Rat}{fs:List Rat}{i k m n:Nat}{p:Pt}{pts:List Pt}{q:Rat}{t:Tri}{tris:List Tri}{z:Int}{α:Type}
theorem cA {f:α->List Value}{l:List α}{x:α}(h:l[i]?=some x):(l.map f)[i]?=some (f x):=by rw[Rb,h];rfl
def ou (n:Nat)(l:List Str):Int:=if l.length=n then oG (l.all aS) else 5
theorem yG (C:Mem)(y:Tabs C)(z v A:Value)(b:List Pt)(f:List Tri)(l:List Str)(B:MeshIn C z b f)(D:Good b f)(g:Sl C 1 v [[A]])(k:Sl C 1 A (l.map gc))(N:∀ s∈l,s.length<=999998) :
  Gives cx.P 61 [z,v] C (i_ (ou b.length l)):=by
 have E:=B;have aa:=D.ok.lp;obtain⟨v1,v2,rfl,h1,h2⟩:=id B.ex;obtain⟨A1,c1,rfl,ab,ac,_⟩:=id h1;obtain⟨F,H,rfl,ad,ae,_⟩:=id g;obtain⟨n,o,rfl,O,af,_⟩:=id k;have ag:=mx_
 simp only[au,Q8]at h1 g k E O⊢;refine UU func61 41 U3 fun w0=>UQ fun R a=>Vd U6 fun I=>C6 1 [1,2] a U<|G.freeze 0 U fun _ _ J=>UQ fun R a=>UO (PtrTo.block (Mem.get J mup) _) U8<|UZ (gU _ y.m_ _ b f E.m_ D) U7<|C6 1 [1,2,5] a U<|UM 2 [1,2,5,14] U<|G.cd (fun K=>?_) fun K=>?_
 ·exact absurd K dc_
 refine UM 3 [2,16,17,18] U<|G.loop (fun fr Q p q=>∃ (i:Nat),(i<=1/\(i=1->l.length=b.length/\l.all aS=true))/\fr=[(2,[],p_ I),(16,[],.slice F 1 H),(17,[],i_ 1),(18,[],i_ i)]/\p=[]/\q=1-i) (hn_ [2,16,17,18] U) ⟨0,⟨Re _,fun h=>absurd h dc_⟩,U,U,U⟩ (fun fr ah aj m _ r=>?_);obtain⟨i,⟨hi,S⟩,rfl,rfl,rfl⟩:=r;refine UM 1 [2,16,17,18,19] U<|G.cd (fun t=>?_) fun t=>?_
 ·obtain rfl:i=0:=by
   simp only[Rj]at t;omega
  refine UQ fun R a=>Va g.m_ U10 om_ (rfl:([[.slice n l.length o]]:List (List Value))[0]?=some [.slice n l.length o]) fl_ fun ak T=>UO T U8<|C6 1 [2,7,16,17,18] a U<|UN 3 U fun R a=>UO (PtrTo.block (Mem.get J mup) _) U8<|C6 2 [2,7,16,17,18,27] a U<|G.cd (fun d=>?_) fun d=>?_
  ·have V:l.length≠b.length:=by
    intro e;rw[e]at d;simp at d
   exact UM 1 [4] U<|UT U2<|⟨by unfold ou;rw[aF V],U⟩
  have L:l.length=b.length:=by
   have h:((l.length:Nat):Int)=(b.length:Nat):=by simpa using d
   omega
  refine UM 3 [2,16,17,18,28,29,30] U<|G.loop (fun fr Q p q=>∃ (j:Nat),(j<=l.length/\(l.take j).all aS=true)/\fr=[(2,[],p_ I),(16,[],.slice F 1 H),(17,[],i_ 1),(18,[],i_ 0),(28,[],.slice n l.length o),(29,[],i_ l.length),(30,[],i_ j)]/\p=[]/\q=l.length-j) (hn_ [2,16,17,18,28,29,30] U) ⟨0,⟨Re _,by simp⟩,U,U,U⟩ (fun fr al am m W r=>?_);obtain⟨j,⟨hj,u⟩,rfl,rfl,rfl⟩:=r;refine UM 1 [2,16,17,18,28,29,30,31] U<|G.cd (fun w=>?_) fun w=>?_
  ·have x:j<l.length:=by simpa using w
   obtain⟨s,hs⟩:∃ s,l[j]?=some s:=⟨l[j],ai x⟩;refine UQ fun R a=>Va k.m_ U10 om_ (cA hs) fl_ fun an X=>UO X U8<|C6 1 [2,9,16,17,18,28,29,30] a U<|UN 1 U fun R a=>UZ (dD _ y.m_ s (N s (aM hs))) U7<|C6 1 [2,10,16,17,18,28,29,30] a U<|UM 2 [2,10,16,17,18,28,29,30,37] U<|G.cd (fun c=>?_) fun c=>?_
   ·have M:aS s=false:=by
     rcases eN (aS s) with⟨h1,h2⟩|⟨h1,h2⟩
     ·rw[h1]at c;exact absurd c dc_
     exact h2
    refine UM 2 [4] U<|UT U2<|⟨?_,U⟩;unfold ou;rw[aJ L,M,show l.all aS=false from TA.2 ⟨s,aM hs,by rw[M];decide⟩]
   have Y:aS s=true:=by
    rcases eN (aS s) with⟨h1,h2⟩|⟨h1,h2⟩
    ·exact h2
    rw[h1]at c;exact absurd c dc_
   refine UQ fun R a=>UV _ U U6<|C6 1 [2,16,17,18,28,29,30] a U<|U0 (m':=l.length-(j+1)) om_ W (hn_ [2,16,17,18,28,29,30] U) ⟨j+1,⟨by omega,by rw[RE,hs,UC,u];simp[Y]⟩,U,U,U⟩
  have x:j=l.length:=by
   have:¬ j<l.length:=by simpa using w
   omega
  refine UQ fun R a=>UV _ U U6<|C6 1 [2,16,17,18] a U<|U0 (m':=0) om_ mup (hn_ [2,16,17,18] U) ⟨1,⟨Q7 _,fun _=>⟨L,by rw[x,Rk]at u;exact u⟩⟩,U,U,U⟩
 have Z:i=1:=by
  simp only[RJ]at t;omega
 refine UM 1 [4] U<|UT U2<|⟨?_,U⟩;obtain⟨h3,h4⟩:=S Z;unfold ou;rw[aJ h3,h4];rfl
theorem mG (C:Mem)(h:Tabs C)(e f:Value)(a:List Pt)(b:List Tri)(l:List Str)(g:MeshIn C e a b)(i:Good a b)(c:Sl C 1 f (l.map gc))(j:∀ s∈l,s.length<=999998) :
  Gives cx.P 217 [e,f] C (i_ (ou a.length l)):=by
 have k:=g;obtain⟨p,q,rfl,h1,h2⟩:=id g.ex;obtain⟨m,n,rfl,r,t,_⟩:=id c;simp only[au]at c⊢;exact UU func217 9 U3 fun w0=>UQ fun R d=>Vd U6 fun u=>C6 1 [1,2] d U<|UQ fun R d=>UW ag U9<|UP U6<|Vj [[.slice m l.length n]] U12 fun v _ _ o=>UZ (yG _ h.m_ _ _ _ a b l k.m_ i o.m_ c.m_ j) U7<|C6 1 [4] d U<|UT U2<|⟨U,U⟩
def eE (q:Rat):List Value:=[af (qtx q)]
def fz (fs:List Rat)(t:Tri)(j:Nat):Rat:=fs.getD (ie t j) 0
def AC (pts:List Pt)(fs:List Rat)(t:Tri)(j:Nat):List Value:=gD (cor pts t j)++eE (fz fs t j)
theorem HJ (h:i<fs.length):fs[i]?=some (fs.getD i 0):=by
 rw[am,ai h];rfl
theorem Aj (C:Mem)(r s:Value)(b:List Pt)(l:List Tri)(c:List Rat)(z:MeshIn C r b l)(A:MeshOk b l)(e:Sl C 1 s (c.map eE))(n:c.length=b.length)(i:Nat)(t:Tri)(o:l[i]?=some t) :
  Gives cx.P 192 [r,s,.int .i64 i] C (.agg ⟨AC b c t 0++AC b c t 1++AC b c t 2⟩):=by
 have d:=A.ins t (aM o);obtain⟨M,N,rfl,h1,h2⟩:=id z.ex;obtain⟨O,Q,rfl,B,S,_⟩:=id h1;obtain⟨A2,c2,rfl,D,T,_⟩:=id h2;obtain⟨E,F,rfl,V,W,_⟩:=id e;have X:maxLen<=9223372036854775807:=by simp[maxLen]
 simp only[au]at h1 h2 e B D⊢;have Y:=(aT.1 o).1;refine UU func192 32 U3 fun w0=>UQ fun R a=>Vd U6 fun H=>Ve U5 fun u=>US [1,2,3,6] a U<|G.freeze 1 U fun _ _ h=>UN 1 U fun R a=>UO (PtrTo.block (Mem.get h mup) _) U8<|UP U6<|Va h2.m_ U10 om_ (cA o) fl_ fun Z I=>UO I U8<|C6 1 [1,3,6,13,14] a U<|G.loop (fun fr C' J K=>∃ (j:Nat),(j<=3)/\fr=[(1,[],.slice E c.length F),(3,[],.pointer (some ⟨H,0,none⟩)),(6,[],.pointer (some ⟨u,0,none⟩)),(13,[],.agg ⟨iF t⟩),(14,[],.int .i64 j)]/\J=[.obj u (.cells ⟨(List.range 3).flatMap fun k=>if k<j then AC b c t k else [af [],af [],af []]⟩ 279 (0,0))]/\K=3-j) (hn_ [1,3,6,13,14] U) ⟨0,Re _,U,U,U⟩ (fun fr aa ab m p L=>?_);obtain⟨j,hj,rfl,rfl,rfl⟩:=L;refine UM 1 [1,3,6,13,14,15] U<|G.cd (fun q=>?_) fun q=>?_
 ·have v:j<3:=by
   simp only[Rj]at q;omega
  rcases(by omega:j=0∨j=1∨j=2) with rfl|rfl|rfl
  ·refine UN 1 U fun R a=>VO U11 (fun _=>⟨by decide,by decide,U⟩) U2<|C6 2 [1,3,6,7,8,13,14] a U<|Vg [0,1,2,3,4,5,6,7,8,9,10,11,12] [] U kr_ fun R w a=>UR 2 U<|UO (PtrTo.block (Mem.get h mup) _) U8<|UP U6<|Va h1.m_ U10 om_ (cA (qj (eS d 0))) fl_ fun x f=>UO f U8<|UR 2 U<|Va e.m_ U10 om_ (cA (HJ (n ▸ eS d 0))) fl_ fun y g=>UO g U8<|Vf (AC b c t 0) U8<|Vi (_) U9 (fun _=>⟨by decide,by decide,U⟩) U2<|UX (j:=0) U12<|US [1,3,6,13,14] a U<|UQ fun R a=>UV _ U U6<|C6 1 [1,3,6,13,14] a U<|U0 (m':=2) om_ p (hn_ [1,3,6,13,14] U) ⟨1,by decide,U,U,U⟩
  ·refine UN 1 U fun R a=>VO U11 (fun _=>⟨by decide,by decide,U⟩) U2<|C6 2 [1,3,6,7,8,13,14] a U<|Vg [0,1,2,3,4,5,6,7,8,9,10,11,12] [] U kr_ fun R w a=>UR 2 U<|UO (PtrTo.block (Mem.get h mup) _) U8<|UP U6<|Va h1.m_ U10 om_ (cA (qj (eS d 1))) fl_ fun x f=>UO f U8<|UR 2 U<|Va e.m_ U10 om_ (cA (HJ (n ▸ eS d 1))) fl_ fun y g=>UO g U8<|Vf (AC b c t 1) U8<|Vi (_) U9 (fun _=>⟨by decide,by decide,U⟩) U2<|UX (j:=0) U12<|US [1,3,6,13,14] a U<|UQ fun R a=>UV _ U U6<|C6 1 [1,3,6,13,14] a U<|U0 (m':=1) om_ p (hn_ [1,3,6,13,14] U) ⟨2,by decide,U,U,U⟩
  refine UN 1 U fun R a=>VO U11 (fun _=>⟨by decide,by decide,U⟩) U2<|C6 2 [1,3,6,7,8,13,14] a U<|Vg [0,1,2,3,4,5,6,7,8,9,10,11,12] [] U kr_ fun R w a=>UR 2 U<|UO (PtrTo.block (Mem.get h mup) _) U8<|UP U6<|Va h1.m_ U10 om_ (cA (qj (eS d 2))) fl_ fun x f=>UO f U8<|UR 2 U<|Va e.m_ U10 om_ (cA (HJ (n ▸ eS d 2))) fl_ fun y g=>UO g U8<|Vf (AC b c t 2) U8<|Vi (_) U9 (fun _=>⟨by decide,by decide,U⟩) U2<|UX (j:=0) U12<|US [1,3,6,13,14] a U<|UQ fun R a=>UV _ U U6<|C6 1 [1,3,6,13,14] a U<|U0 (m':=0) om_ p (hn_ [1,3,6,13,14] U) ⟨3,by decide,U,U,U⟩
 have v:j=3:=by
  simp only[RJ]at q;omega
 subst v;refine UQ fun R a=>UW ag U9<|UX (j:=0) U12<|US [6] a U<|U1 (VF ag U4 ?_);exact⟨U,U⟩
/-! Finer bounds. -/
theorem jG (c:QB k a)(d:QB m b):QB (k+m) (a*b):=by
 rw[eV];refine gu (Nat.mul_ne_zero a.den_nz b.den_nz) ?_ ?_
 ·rw[Sv,Tn];exact SA c.1 d.1
 rw[Tn];exact SA c.2 d.2
theorem vO (c:QB k a)(d:QB m b):QB (k+m+1) (a+b):=by
 rw[eW];have e:B9 ^ (k+m+1)=B9 ^ k*B9 ^ m*B9:=by rw[Sp,Tn]
 have f:(a.num*b.den).natAbs<B9 ^ k*B9 ^ m:=by rw[Sv,RS];exact SA c.1 d.2
 have g:(b.num*a.den).natAbs<B9 ^ k*B9 ^ m:=by rw[Sv,RS,RT];exact SA c.2 d.1
 have h:a.den*b.den<B9 ^ k*B9 ^ m:=SA c.2 d.2;have i:2*(B9 ^ k*B9 ^ m)<=B9 ^ k*B9 ^ m*B9:=by
  rw[RT];exact Sz _ dc_
 refine gu (Nat.mul_ne_zero a.den_nz b.den_nz) ?_ ?_
 ·rw[e];have:=Tz (a.num*b.den) (b.num*a.den);omega
 rw[e];omega
theorem ft (c:QB k a)(d:QB m b):QB (k+m+1) (a-b):=by
 rw[Uh];exact vO c (eP d)
theorem QB_one:QB 1 1:=⟨by decide,by decide⟩
theorem QB_zero:QB 1 0:=⟨by decide,by decide⟩
def eL (a b c d:Rat):Rat:=a*d-b*c
theorem rh (C:Mem)(e:Tabs C)(a b c d:Rat)(k:Nat)(f:0<k)(m:k<=2000)(g:QB k a)(h:QB k b)(i:QB k c)(j:QB k d):Gives cx.P 193 [af (qtx a),af (qtx b),af (qtx c),af (qtx d)] C (af (qtx (eL a b c d))):=by
 exact UU func193 16 U3 fun w0=>UM 1 [0,1,2,3] U<|UN 2 U fun R l=>UY (cP _ e.m_ a d k f om_ g j) U7 fl_<|UR 2 U<|UY (cP _ e.m_ b c k f om_ h i) U7 fl_<|UY (eo _ e.m_ (a*d) (b*c) (k+k) om_ om_ (rO g j) (rO h i)) U7 fl_<|C6 1 [8] l U<|UT U2<|⟨U,U⟩
theorem kA {d:Rat}(e:QB k a)(f:QB k b)(g:QB k c)(h:QB k d):QB (4*k+1) (eL a b c d):=(ft (jG e h) (jG f g)).le om_
def pM (c0 c1 c2:Pt)(z0 z1 z2:Rat):Pt :=
 ((1 / eL (c1.1-c0.1) (c1.2-c0.2) (c2.1-c0.1) (c2.2-c0.2))*eL (z1-z0) (c1.2-c0.2) (z2-z0) (c2.2-c0.2),
 (1 / eL (c1.1-c0.1) (c1.2-c0.2) (c2.1-c0.1) (c2.2-c0.2))*eL (c1.1-c0.1) (z1-z0) (c2.1-c0.1) (z2-z0))
def dT (pts:List Pt)(fs:List Rat)(t:Tri):Pt:=pM (cor pts t 0) (cor pts t 1) (cor pts t 2) (fz fs t 0) (fz fs t 1) (fz fs t 2)
theorem Ob (a:MeshOk pts tris)(b:fs.length=pts.length)(c:∀ q∈fs,QB k q)(d:t∈tris)(j:Nat):QB k (fz fs t j) :=
 c _ (aM (HJ (b ▸ eS (a.ins t d) j)))
theorem wK (d:MeshOk pts tris)(g:fs.length=pts.length)(h:∀ q∈fs,QB k q)(e:t∈tris):QP (8*k+39) (dT pts fs t):=by
 have a:=fun j=>ow d e j;have f:=fun j=>Ob d g h e j;have b:∀ i j,QB 3 ((cor pts t i).1-(cor pts t j).1):=fun i j=>(ft (a i).1 (a j).1).le dc_;have hy:∀ i j,QB 3 ((cor pts t i).2-(cor pts t j).2):=fun i j=>(ft (a i).2 (a j).2).le dc_;have c:∀ i j,QB (2*k+1) (fz fs t i-fz fs t j):=fun i j=>(ft (f i) (f j)).le om_;have hm:QB 13 (eL ((cor pts t 1).1-(cor pts t 0).1) ((cor pts t 1).2-(cor pts t 0).2) ((cor pts t 2).1-(cor pts t 0).1) ((cor pts t 2).2-(cor pts t 0).2)):=(kA (k:=3) (b 1 0) (hy 1 0) (b 2 0) (hy 2 0)).le dc_;have l:eL ((cor pts t 1).1-(cor pts t 0).1) ((cor pts t 1).2-(cor pts t 0).2) ((cor pts t 2).1-(cor pts t 0).1) ((cor pts t 2).2-(cor pts t 0).2)≠0:=kh d e;have h1:QB 26 _:=(jH (k:=13) (QB_one.le dc_) hm l).le dc_;have m:QB (4*(2*k+3)+1) (eL (fz fs t 1-fz fs t 0) ((cor pts t 1).2-(cor pts t 0).2) (fz fs t 2-fz fs t 0) ((cor pts t 2).2-(cor pts t 0).2)):=kA (k:=2*k+3) ((c 1 0).le om_) ((hy 1 0).le om_) ((c 2 0).le om_) ((hy 2 0).le om_);have n:QB (4*(2*k+3)+1) (eL ((cor pts t 1).1-(cor pts t 0).1) (fz fs t 1-fz fs t 0) ((cor pts t 2).1-(cor pts t 0).1) (fz fs t 2-fz fs t 0)):=kA (k:=2*k+3) ((b 1 0).le om_) ((c 1 0).le om_) ((b 2 0).le om_) ((c 2 0).le om_);exact⟨(jG h1 m).le om_,(jG h1 n).le om_⟩
theorem yj (C:Mem)(d:Tabs C)(r s:Value)(a:List Pt)(n:List Tri)(b:List Rat)(k:Nat)(u:0<k)(K:k<=100)(v:MeshIn C r a n)(o:MeshOk a n)(D:Sl C 1 s (b.map eE))(w:b.length=a.length)(E:∀ q∈b,QB k q)(i:Nat)(t:Tri)(x:n[i]?=some t) :
  Gives cx.P 125 [r,s,.int .i64 i] C (ptV (dT a b t)):=by
 have p:=aM x;have F:=v;obtain⟨L,M,rfl,h1,h2⟩:=id v.ex;have e:=fun j=>ow o p j;have m:=fun j=>Ob o w E p j;have g:∀ i j,QB 3 ((cor a t i).1-(cor a t j).1):=fun i j=>(ft (e i).1 (e j).1).le dc_;have hy:∀ i j,QB 3 ((cor a t i).2-(cor a t j).2):=fun i j=>(ft (e i).2 (e j).2).le dc_;have l:∀ i j,QB (2*k+1) (fz b t i-fz b t j):=fun i j=>(ft (m i) (m j)).le om_;have y:QB 13 (eL ((cor a t 1).1-(cor a t 0).1) ((cor a t 1).2-(cor a t 0).2) ((cor a t 2).1-(cor a t 0).1) ((cor a t 2).2-(cor a t 0).2)):=(kA (k:=3) (g 1 0) (hy 1 0) (g 2 0) (hy 2 0)).le dc_;have z:eL ((cor a t 1).1-(cor a t 0).1) ((cor a t 1).2-(cor a t 0).2) ((cor a t 2).1-(cor a t 0).1) ((cor a t 2).2-(cor a t 0).2)≠0:=kh o p;have A:QB 26 (1 / eL ((cor a t 1).1-(cor a t 0).1) ((cor a t 1).2-(cor a t 0).2) ((cor a t 2).1-(cor a t 0).1) ((cor a t 2).2-(cor a t 0).2)):=(jH (k:=13) (QB_one.le dc_) y z).le dc_;have H:QB (8*k+26) (eL (fz b t 1-fz b t 0) ((cor a t 1).2-(cor a t 0).2) (fz b t 2-fz b t 0) ((cor a t 2).2-(cor a t 0).2)):=(kA (k:=2*k+3) ((l 1 0).le om_) ((hy 1 0).le om_) ((l 2 0).le om_) ((hy 2 0).le om_)).le om_;have I:QB (8*k+26) (eL ((cor a t 1).1-(cor a t 0).1) (fz b t 1-fz b t 0) ((cor a t 2).1-(cor a t 0).1) (fz b t 2-fz b t 0)):=(kA (k:=2*k+3) ((g 1 0).le om_) ((l 1 0).le om_) ((g 2 0).le om_) ((l 2 0).le om_)).le om_;refine UU func125 98 U3 fun w0=>UQ fun R c=>Vd U6 fun N=>Ve U5 fun O=>US [1,2,3,6] c U<|UQ fun R c=>UW ae U9<|UR 2 U<|UZ (Aj _ _ _ a n b F.m_ o D.m_ w i t x) U7<|Ve U5 fun Q=>UX (j:=0) U12<|US [6,7] c U<|G.freeze 0 U fun J _ f=>Vg [0,1,2,3,4,5,6,7,8,9,10,11,12,13,14,15,16,17,18,19] [(8,1),(17,1)] U kr_ fun R B c=>Vi (3) U9 (fun _=>⟨by decide,by decide,U⟩) U2<|UR 2 U<|UO (bkT f 1) U8<|Vi (0) U9 (fun _=>⟨by decide,by decide,U⟩) U2<|UR 2 U<|UO (bkT f 1) U8<|Vh (fun _=>(eo _ d.m_ (cor a t 1).1 (cor a t 0).1 1 dc_ dc_ (e 1).1 (e 0).1)) U9<|Vi (3) U9 (fun _=>⟨by decide,by decide,U⟩) U2<|UR 2 U<|UO (bkT f 1) U8<|Vi (0) U9 (fun _=>⟨by decide,by decide,U⟩) U2<|UR 2 U<|UO (bkT f 1) U8<|Vh (fun _=>(eo _ d.m_ (cor a t 1).2 (cor a t 0).2 1 dc_ dc_ (e 1).2 (e 0).2)) U9<|C6 2 [6,7,8,9] c U<|Vg [0,1,2,3,4,5,6,7,8,9,10,11,12,13,14,15,16,17,18,19] [(8,1),(17,1)] U kr_ fun R B c=>Vi (6) U9 (fun _=>⟨by decide,by decide,U⟩) U2<|UR 2 U<|UO (bkT f 1) U8<|Vi (0) U9 (fun _=>⟨by decide,by decide,U⟩) U2<|UR 2 U<|UO (bkT f 1) U8<|Vh (fun _=>(eo _ d.m_ (cor a t 2).1 (cor a t 0).1 1 dc_ dc_ (e 2).1 (e 0).1)) U9<|Vi (6) U9 (fun _=>⟨by decide,by decide,U⟩) U2<|UR 2 U<|UO (bkT f 1) U8<|Vi (0) U9 (fun _=>⟨by decide,by decide,U⟩) U2<|UR 2 U<|UO (bkT f 1) U8<|Vh (fun _=>(eo _ d.m_ (cor a t 2).2 (cor a t 0).2 1 dc_ dc_ (e 2).2 (e 0).2)) U9<|C6 2 [6,7,8,9,10,11] c U<|Vg [0,1,2,3,4,5,6,7,8,9,10,11,12,13,14,15] [(6,1),(13,1)] U kr_ fun R B c=>Vi (3) U9 (fun _=>⟨by decide,by decide,U⟩) U2<|UP U6<|UO (bkT f 1) U8<|Vi (0) U9 (fun _=>⟨by decide,by decide,U⟩) U2<|UP U6<|UO (bkT f 1) U8<|Vh (fun _=>(eo _ d.m_ (fz b t 1) (fz b t 0) k u om_ (m 1) (m 0))) U9<|Vi (6) U9 (fun _=>⟨by decide,by decide,U⟩) U2<|UP U6<|UO (bkT f 1) U8<|Vi (0) U9 (fun _=>⟨by decide,by decide,U⟩) U2<|UP U6<|UO (bkT f 1) U8<|Vh (fun _=>(eo _ d.m_ (fz b t 2) (fz b t 0) k u om_ (m 2) (m 0))) U9<|C6 2 [6,8,9,10,11,12,13] c U<|UM 1 [6,8,9,10,11,12,13,14] U<|UN 5 U fun R c=>UY (rh _ d.m_ _ _ _ _ 3 dc_ dc_ (g 1 0) (hy 1 0) (g 2 0) (hy 2 0)) U7 fl_<|UY (by have h:=ik J d.m_ 1 _ 13 dc_ dc_ (QB_one.le dc_) y z;rw[dE]at h;exact h) U7 fl_<|C6 5 [6,8,9,10,11,12,13,14,15] c U<|UN 6 U fun R c=>UY (rh _ d.m_ (fz b t 1-fz b t 0) ((cor a t 1).2-(cor a t 0).2) (fz b t 2-fz b t 0) ((cor a t 2).2-(cor a t 0).2) (2*k+3) om_ om_ ((l 1 0).le om_) ((hy 1 0).le om_) ((l 2 0).le om_) ((hy 2 0).le om_)) U7 fl_<|UY (cP _ d.m_ _ _ (8*k+26) om_ om_ (A.le om_) H) U7 fl_<|UR 6 U<|UY (rh _ d.m_ ((cor a t 1).1-(cor a t 0).1) (fz b t 1-fz b t 0) ((cor a t 2).1-(cor a t 0).1) (fz b t 2-fz b t 0) (2*k+3) om_ om_ ((g 1 0).le om_) ((l 1 0).le om_) ((g 2 0).le om_) ((l 2 0).le om_)) U7 fl_<|UY (cP _ d.m_ _ _ (8*k+26) om_ om_ (A.le om_) I) U7 fl_<|Vf (gD (dT a b t)) U8<|UX (j:=0) U12<|US [6] c U<|U1 (VF ag U4 ?_);exact⟨U,U⟩
def IV (l:List Rat):Rat:=l.foldl (·+·) 0
theorem FM (l:List Rat)(q:Rat):IV (l++[q])=IV l+q:=by unfold IV;rw[List.foldl_append];rfl
theorem Nc (C:Mem)(g:Tabs C)(v:Value)(l:List Rat)(k:Nat)(h:0<k)(j:k<=10000)(b:Sl C 1 v (l.map eE))(n:∀ q∈l,QB k q)(o:∀ i,QB k (IV (l.take i))) :
  Gives cx.P 126 [v] C (af (qtx (IV l))):=by
 obtain⟨p,c0,rfl,r,z,_⟩:=id b;have A:=mx_
 simp only[au]at b r⊢;refine UU func126 17 U3 fun w0=>UM 1 [0] U<|UM 1 [0,3] U<|UM 3 [3,6,7,8] U<|G.loop (fun fr B t u=>∃ (i:Nat)(s:Str),(i<=l.length/\s=qtx (IV (l.take i)))/\fr=[(3,[],af s),(6,[],.slice p l.length c0),(7,[],i_ l.length),(8,[],i_ i)]/\t=[]/\u=l.length-i) (hn_ [3,6,7,8] U) ⟨0,[48],⟨Re _,qtx_zero.symm⟩,U,U,U⟩ (fun fr D E m w x=>?_);obtain⟨i,s,⟨F,f⟩,rfl,rfl,rfl⟩:=x;refine UM 1 [3,6,7,8,9] U<|G.cd (fun c=>?_) fun c=>?_
 ·have d:i<l.length:=by simpa using c
  obtain⟨q,e⟩:∃ q,l[i]?=some q:=⟨l[i],ai d⟩;subst f;refine UQ fun R a=>Va b.m_ U10 om_ (cA e) fl_ fun H y=>UO y U8<|C6 1 [3,5,6,7,8] a U<|UN 2 U fun R a=>UZ (il _ g.m_ (IV (l.take i)) q k h j (o i) (n q (aM e))) U7<|C6 1 [3,6,7,8] a U<|UQ fun R a=>UV _ U U6<|C6 1 [3,6,7,8] a U<|U0 (m':=l.length-(i+1)) om_ w (hn_ [3,6,7,8] U) ⟨i+1,_,⟨by omega,by rw[RE,e,SB,FM]⟩,U,U,U⟩
 have d:i=l.length:=by
  have:¬ i<l.length:=by simpa using c
  omega
 exact UM 2 [2] U<|UT U2<|⟨by rw[f,d,Rk],U⟩
def Ei (q:Rat):Value:=if aS (qtx q) then .tuple #[af (qtx q),.int .i64 0] else .tuple #[af [],.int .i64 4]
theorem HL (C:Mem)(b:Tabs C)(q:Rat)(c:(qtx q).length<=999998):Gives cx.P 62 [af (qtx q)] C (Ei q):=by
 refine UU func62 8 U3 fun w0=>UM 2 [0] U<|UN 1 U fun R d=>UZ (dD _ b.m_ _ c) U7<|C6 1 [0,6] d U<|G.cd (fun a=>?_) fun a=>?_
 ·have e:aS (qtx q)=false:=by
   rcases eN (aS (qtx q)) with⟨h1,h2⟩|⟨h1,h2⟩
   ·rw[h1]at a;exact absurd a dc_
   exact h2
  refine UM 2 [2,3] U<|U1 (G.dropAll (Vn U3 ?_));exact⟨by unfold Ei;rw[e];rfl,U⟩
 have f:aS (qtx q)=true:=by
  rcases eN (aS (qtx q)) with⟨h1,h2⟩|⟨h1,h2⟩
  ·exact h2
  rw[h1]at a;exact absurd a dc_
 refine UM 3 [2,3] U<|U1 (G.dropAll (Vn U3 ?_));exact⟨by unfold Ei;rw[f];rfl,U⟩
def onQ (pts:List Pt)(fs:List Rat)(t:Tri)(p:Pt):Rat:=IV [fz fs t 0,(dT pts fs t).1*(p.1-(cor pts t 0).1),(dT pts fs t).2*(p.2-(cor pts t 0).2)]
theorem Mf (n:k<=23)(a:MeshOk pts tris)(c:fs.length=pts.length)(d:∀ q∈fs,QB k q)(b:t∈tris)(e:QP 23 p):QB 600 (onQ pts fs t p)/\(∀ i,QB 600 (IV ([fz fs t 0,(dT pts fs t).1*(p.1-(cor pts t 0).1),(dT pts fs t).2*(p.2-(cor pts t 0).2)].take i)))/\QB 600 (fz fs t 0)/\QB 600 ((dT pts fs t).1*(p.1-(cor pts t 0).1))/\QB 600 ((dT pts fs t).2*(p.2-(cor pts t 0).2)):=by
 have hs:=wK a c d b;have f:=ow a b 0;have g:=Ob a c d b 0;have h1:QB 248 ((dT pts fs t).1*(p.1-(cor pts t 0).1)):=(jG hs.1 (ft e.1 f.1)).le om_;have h2:QB 248 ((dT pts fs t).2*(p.2-(cor pts t 0).2)):=(jG hs.2 (ft e.2 f.2)).le om_;have h:QB 25 (0+fz fs t 0):=(vO QB_zero g).le om_;have j:QB 274 (0+fz fs t 0+(dT pts fs t).1*(p.1-(cor pts t 0).1)):=(vO h h1).le om_;have l:QB 523 (0+fz fs t 0+(dT pts fs t).1*(p.1-(cor pts t 0).1)+(dT pts fs t).2*(p.2-(cor pts t 0).2)):=(vO j h2).le om_;refine⟨l.le dc_,fun i=>?_,g.le om_,h1.le dc_,h2.le dc_⟩;rcases(by omega:i=0∨i=1∨i=2∨3<=i) with rfl|rfl|rfl|m
 ·exact QB_zero.le dc_
 ·exact h.le dc_
 ·exact j.le dc_
 rw[RH (by simpa using m)];exact l.le dc_
theorem MW (e:QB k a)(f:QB k b)(g:QB k c):∀ q∈[a,b,c],QB k q:=by
 intro q d;simp only[Rp,Sh,TF]at d;rcases d with rfl|rfl|rfl <;> assumption
theorem QS (C:Mem)(d:Tabs C)(u v:Value)(a:List Pt)(g:List Tri)(c:List Rat)(k:Nat)(E:0<k)(F:k<=23)(w:MeshIn C u a g)(e:MeshOk a g)(h:Sl C 1 v (c.map eE))(l:c.length=a.length)(r:∀ q∈c,QB k q)(i:Nat)(t:Tri)(m:g[i]?=some t)(p:Pt)(f:QP 23 p) :
  Gives cx.P 63 [u,v,i_ i,ptV p] C (af (qtx (onQ a c t p))):=by
 have n:=aM m;have x:=e.ins t n;have y:=w;have z:=h;obtain⟨Y,Z,rfl,h1,h2⟩:=id w.ex;obtain⟨A1,c1,rfl,H,aa,_⟩:=id h1;obtain⟨A2,c2,rfl,I,ab,_⟩:=id h2;obtain⟨A4,c4,rfl,ac,ad,_⟩:=id h;have ae:=mx_
 simp only[au]at h1 h2 h z y H I⊢;have ag:=(aT.1 m).1;have o:=ow e n 0;obtain⟨ah,J,K,L,M⟩:=Mf F e l r n f;have hs:=wK e l r n;have N:QB 25 (p.1-(cor a t 0).1):=(ft f.1 o.1).le dc_;have O:QB 25 (p.2-(cor a t 0).2):=(ft f.2 o.2).le dc_;refine UU func63 49 U3 fun w0=>UQ fun R b=>Vd U6 fun b4=>Vd U6 fun b7=>C6 1 [1,2,4,7] b U<|G.freeze 1 U fun _ _ s=>UQ fun R b=>UO (PtrTo.block (Mem.get s mup) _) U8<|UR 2 U<|UY (yj _ d.m_ _ _ a g c k E om_ y.m_ e z.m_ l r i t m) U7 fl_<|Ve U5 fun b9=>UX (j:=0) U12<|US [1,2,4,7,9] b U<|UN 1 U fun R b=>UO (PtrTo.block (Mem.get s mup) _) U8<|UP U6<|Va h2.m_ U10 om_ (cA m) fl_ fun ai Q=>Wq U9 (fun _=>Q) (fun _=>⟨by omega,om_⟩) fl_ U (fun aj S=>?_);have T:=S trivial;exact UO T U8<|C6 1 [1,4,7,9,10] b U<|UN 1 U fun R b=>UO (PtrTo.block (Mem.get s mup) _) U8<|UP U6<|Va h1.m_ U10 om_ (cA (qj x.1)) fl_ fun ak V=>UO V U8<|Ve U5 fun al=>UX (j:=0) U12<|US [1,7,9,10,11] b U<|G.freeze 0 U fun _ _ A=>G.freeze 0 U fun _ _ B=>G.freeze 0 U fun _ _ D=>Vg [0,1,2,3,4,5,6,7,8,9,10,11,12,13,14,15,16,17,18,19,20,21,22] [(10,1),(11,1),(18,1),(19,1),(21,1)] U kr_ fun R hB b=>UR 2 U<|Va h.m_ U10 om_ (cA (HJ (l ▸ x.1))) fl_ fun am W=>UO W U8<|UP U6<|UO (bkT B 1) U8<|UP U6<|UO (bkT D 1) U8<|UP U6<|UO (bkT A 1) U8<|Vh (fun _=>(eo _ d.m_ p.1 (cor a t 0).1 23 dc_ dc_ f.1 (o.1.le dc_))) U9<|Vh (fun _=>(cP _ d.m_ _ _ 300 dc_ dc_ (hs.1.le om_) (N.le dc_))) U9<|UP U6<|UO (bkT B 1) U8<|UP U6<|UO (bkT D 1) U8<|UP U6<|UO (bkT A 1) U8<|Vh (fun _=>(eo _ d.m_ p.2 (cor a t 0).2 23 dc_ dc_ f.2 (o.2.le dc_))) U9<|Vh (fun _=>(cP _ d.m_ _ _ 300 dc_ dc_ (hs.2.le om_) (O.le dc_))) U9<|Vj ([fz c t 0,(dT a c t).1*(p.1-(cor a t 0).1),(dT a c t).2*(p.2-(cor a t 0).2)].map eE) U12 fun an _ _ X=>Vh (fun _=>(Nc _ d.m_ _ _ 600 dc_ dc_ X.m_ (MW K L M) J)) U9<|C6 1 [8] b U<|UT U2<|⟨U,U⟩
def Fb (pts:List Pt)(tris:List Tri)(fs:List Rat)(p:Pt):Value:=match lf pts tris p with
|[]=>.tuple #[af [],.int .i64 28]
|i::_=>Ei (onQ pts fs (tris.getD i (0,0,0)) p)
theorem yP (h:∀ q∈fs,aS (qtx q)=true):(fs.map qtx).all aS=true:=by
 rw[Ru];intro s hs;obtain⟨q,a,rfl⟩:=Ra.1 hs;exact h q a
theorem nO (a:List Rat):a.map eE=(a.map qtx).map gc:=by rw[R8];rfl
theorem xm (b:k<=100)(h:∀ q∈fs,QB k q):∀ s∈fs.map qtx,s.length<=999998:=by
 intro s hs;obtain⟨q,a,rfl⟩:=Ra.1 hs;have:=aZ ((h q a).le (Tu k)) om_;omega
theorem yF (C:Mem)(i:Tabs C)(c v d:Value)(b:List Pt)(f:List Tri)(a:List Rat)(j:MeshIn C c b f)(l:Good b f)(m:Sl C 1 v [[d]])(g:Sl C 1 d (a.map eE))(n:a.length=b.length)(r:k<=23)(o:∀ q∈a,QB k q)(p:∀ q∈a,aS (qtx q)=true) :
  Gives cx.P 61 [c,v] C (i_ 0):=by
 rw[nO]at g;have h:=yG C i c v d b f (a.map qtx) j l m g (xm om_ o);have e:ou b.length (a.map qtx)=0:=by unfold ou;rw[aJ (by simpa using n),yP p];rfl
 rwa [e]at h
theorem PT (h:i∈lf pts tris p):∃ t,tris[i]?=some t/\tris.getD i (0,0,0)=t/\zR pts p t=true:=by
 unfold lf at h;rw[SH,Rv]at h;obtain⟨h1,h2⟩:=h;obtain⟨t,a⟩:∃ t,tris[i]?=some t:=⟨tris[i],ai h1⟩;have b:tris.getD i (0,0,0)=t:=by rw[am,a,Sr]
 rw[b]at h2;exact⟨t,a,b,h2⟩
theorem PN (h:QB 600 q):(qtx q).length<=999998:=Rn (aZ h dc_) dc_
theorem Bw (C:Mem)(e:Tabs C)(x y:Value)(a:List Pt)(c:List Tri)(b:List Rat)(k:Nat)(I:0<k)(j:k<=23)(z:MeshIn C x a c)(l:Good a c)(f:Sl C 1 y (b.map eE))(m:b.length=a.length)(n:∀ q∈b,QB k q)(J:∀ q∈b,aS (qtx q)=true)(p:Pt)(o:QP 23 p)(K:PtR p) :
  Gives cx.P 15 [x,y,ptV p] C (Fb a c b p):=by
 have A:=l.ok;have s:=z;obtain⟨Y,Z,rfl,h1,h2⟩:=id z.ex;obtain⟨L,M,rfl,aa,ab,_⟩:=id f;simp only[au]at f⊢;have ac:=mx_
 refine UU func15 40 U3 fun w0=>UQ fun R d=>Vd U6 fun b3=>Vd U6 fun b5=>C6 2 [1,3,5] d U<|G.freeze 1 U fun _ _ u=>G.freeze 0 U fun _ _ B=>UQ fun R d=>UO (PtrTo.block (Mem.get u mup) _) U8<|UP U6<|Vj [[.slice L b.length M]] U12 fun ad _ _ N=>UZ (yF _ e.m_ _ _ _ a c b s.m_ l N.m_ f.m_ m j n J) U7<|C6 1 [1,3,5,8] d U<|UM 2 [1,3,5,8,16] U<|G.cd (fun D=>?_) fun D=>?_
 ·exact absurd D dc_
 refine UQ fun R d=>UO (PtrTo.block (Mem.get u mup) _) U8<|UO (PtrTo.block (Mem.get B mup) _) U8<|Vu (ml _ e.m_ _ a c p s.m_ l o K) U7 (fun ae _ _ O=>?_);obtain⟨wv,rfl,v⟩:=O;obtain⟨Aw,cw,E,_⟩:=id v;rw[au]at E;subst E;refine C6 5 [1,3,5,9,10] d U<|UM 2 [1,3,5,9,10,25] U<|G.cd (fun F=>?_) fun F=>?_
 ·exact absurd F dc_
 refine UM 3 [1,3,5,9,29] U<|G.cd (fun g=>?_) fun g=>?_
 ·have Q:lf a c p=[]:=by
   have h:(((lf a c p).length:Nat):Int)=0:=by simpa using g
   exact RZ om_
  refine UM 2 [6,7] U<|U1 (G.dropAll (Vn U3 ?_));exact⟨by unfold Fb;rw[Q];rfl,U⟩
 obtain⟨i,r,w⟩:∃ i r,lf a c p=i::r:=by
  cases S:lf a c p with
 |nil=>rw[S]at g;exact absurd g dc_
 |cons i r=>exact⟨i,r,rfl⟩
 obtain⟨t,H,T,_⟩:=PT (pts:=a) (tris:=c) (p:=p) (i:=i) (by rw[w];simp);have V:=Mf j A m n (aM H) o;have W:Fb a c b p=Ei (onQ a b t p):=by unfold Fb;rw[w];show Ei (onQ a b (c.getD i (0,0,0)) p)=_;rw[T]
 rw[w]at v⊢;refine Vg [0,1,2,3,4,5,6,7,8,9,10,11] [(6,1),(7,1)] U kr_ fun R hB d=>UO (PtrTo.block (Mem.get u mup) _) U8<|UR 2 U<|Va v.m_ U10 om_ (rfl:(List.map aW (i::r))[0]?=some (aW i)) fl_ fun ag X=>UO X U8<|UO (PtrTo.block (Mem.get B mup) _) U8<|Vv (fun _=>(QS _ e.m_ _ _ a c b k I j s.m_ A f.m_ m n i t H p o)) U9<|Vv (fun _=>(HL _ e.m_ _ (PN V.1))) U9 ?_;rw[show Ei (onQ a b t p)=.tuple #[if aS (qtx (onQ a b t p)) then af (qtx (onQ a b t p)) else af [],i_ (if aS (qtx (onQ a b t p)) then 0 else 4)] by unfold Ei;split <;> rfl];refine C6 4 [6,7] d U<|U1 (G.dropAll (Vn U3 ?_));refine⟨?_,U⟩;rw[W];unfold Ei;split <;> rfl
theorem PJ (h:QP 22 p):PtR p:=⟨bA h.1,bA h.2⟩
theorem uq (C:Mem)(f:Tabs C)(l m:Value)(c:List Pt)(d:List Tri)(b:List Rat)(k:Nat)(z:0<k)(A:k<=23)(n:MeshIn C l c d)(o:Good c d)(e:Sl C 1 m (b.map eE))(p:b.length=c.length)(r:∀ q∈b,QB k q)(B:∀ q∈b,aS (qtx q)=true)(i:Nat)(t:Tri)(s:d[i]?=some t)(u:QP 22 (dT c b t)) :
  Gives cx.P 293 [l,m,i_ i] C (.tuple #[ptV (dT c b t),i_ 0]):=by
 have D:=o.ok;have g:=n;have I:=(aT.1 s).1;obtain⟨J,K,rfl,h1,h2⟩:=id n.ex;obtain⟨A2,c2,rfl,L,M,_⟩:=id h2;obtain⟨E,F,rfl,N,O,_⟩:=id e;simp only[au]at e h2 g⊢;have Q:=mx_
 refine UU func293 37 U3 fun w0=>UQ fun R a=>Vd U6 fun S=>Ve U5 fun T=>C6 1 [1,2,3,6] a U<|G.freeze 1 U fun _ _ h=>UQ fun R a=>UO (PtrTo.block (Mem.get h mup) _) U8<|UP U6<|Vj [[.slice E b.length F]] U12 fun V _ _ H=>UZ (yF _ f.m_ _ _ _ c d b g.m_ o H.m_ e.m_ p A r B) U7<|C6 1 [1,2,3,6,8] a U<|UM 2 [1,2,3,6,8,15] U<|G.cd (fun v=>?_) fun v=>?_
 ·exact absurd v dc_
 refine UN 5 U fun R a=>Vm U6 (fun _=>PtrTo.block (Mem.get h mup) _) U3<|UR 2 U<|Vq U8<|US [1,2,3,6,26] a U<|G.cd (fun w=>?_) fun w=>?_
 ·exfalso;simp only[SX,Rj]at w;omega
 refine UQ fun R a=>UO (PtrTo.block (Mem.get h mup) _) U8<|UR 2 U<|UY (yj _ f.m_ _ _ c d b k z om_ g.m_ D e.m_ p r i t s) U7 fl_<|Ve U5 fun W=>UX (j:=0) U12<|US [6,9] a U<|G.freeze 0 U fun _ _ x=>UQ fun R a=>UO (PtrTo.block (Mem.get x mup) _) U8<|UY (iN _ f.m_ _ (u.le dc_) (PJ u)) U7 fl_<|C6 1 [6,9,34] a U<|G.cd (fun y=>?_) fun y=>?_
 ·exact absurd y dc_
 refine UQ fun R a=>UO (PtrTo.block (Mem.get x mup) _) U8<|UX (j:=0) U12<|C6 1 [6,7] a U<|U1 (V4 ag U5 ?_);exact⟨U,U⟩
def kg {α:Type}(p:α->Bool):List α->Nat->Int
|[],_=>-1
|x::l,k=>if p x then (k:Nat) else kg p l (k+1)
theorem oU {a:Type}{p:a->Bool}:∀ {l:List a}{i k:Nat}{x:a},l[i]?=some x->p x=true->(∀ y∈l.take i,p y=false)->kg p l k=((k+i:Nat):Int)
|y::l,0,k,x,h,b,_=>by
  simp only[List.getElem?_cons_zero,RW]at h;subst h;simp[kg,b]
|y::l,i+1,k,x,h,b,c=>by
  simp only[SV]at h;have hy:p y=false:=c y ak;have:=oU (k:=k+1) h b (fun z d=>c z (by simp[d]));simp only[kg,hy,R7,SF,this];omega
theorem mC {a:Type}{p:a->Bool}:∀ {l:List a}{k:Nat},(∀ y∈l,p y=false)->kg p l k=-1
|[],_,_=>rfl
|y::l,k,h=>by
  simp only[kg,h y Q9,R7,SF];exact mC fun z b=>h z (Rm _ b)
theorem nL (p:α->Bool)(l:List α):(kg p l 0=-1/\∀ y∈l,p y=false)∨∃ (i:Nat)(x:α),kg p l 0=(i:Nat)/\l[i]?=some x/\p x=true/\∀ y∈l.take i,p y=false:=by
 by_cases h:∀ y∈l,p y=false
 ·exact .inl ⟨mC h,h⟩
 right;have d:∀ (l:List α),(¬ ∀ y∈l,p y=false)->∃ (i:Nat)(x:α),l[i]?=some x/\p x=true/\∀ y∈l.take i,p y=false:=by
  intro l;induction l with
 |nil=>intro h;exact absurd (fun y hy=>(by cases hy)) h
 |cons a l e =>
   intro h;by_cases b:p a=true
   ·exact⟨0,a,U,b,by simp⟩
   have c:p a=false:=by simpa using b
   obtain⟨i,x,h1,h2,h3⟩:=e (fun h2=>h (fun y hy=>by
    rcases Rp.1 hy with rfl|hy
    ·exact c
    exact h2 y hy))
   refine⟨i+1,x,by simpa using h1,h2,fun y hy=>?_⟩;rw[List.take_succ_cons]at hy;rcases Rp.1 hy with rfl|hy
   ·exact c
   exact h3 y hy
 obtain⟨i,x,h1,h2,h3⟩:=d l h;exact⟨i,x,by rw[oU h1 h2 h3,SD],h1,h2,h3⟩
structure Lay where
 unit:Str
 min:Rat
 max:Option Rat
def vW:Option Rat->Str
|none=>[]
|some q=>qtx q
def vZ (x:Lay):List Value:=[af x.unit,af (qtx x.min),af (vW x.max)]
def isU (u:Str)(x:Lay):Bool:=decide (x.unit=u)
def OY (x:Lay):Prop:=QB 22 x.min/\(∀ q,x.max=some q->QB 22 q)/\x.unit.length<=999998
theorem qF (m:Option Rat):(!((⟨(vW m).toArray⟩:ByteArray).data.toList == (⟨#[]⟩:ByteArray).data.toList))=m.isSome:=by
 cases m with
|none=>rfl
|some q =>
  have:=xn q;show(!(qtx q == []))=true;cases h:qtx q with
 |nil=>rw[h]at this;simp at this
 |cons a l=>rfl
theorem mA (C:Mem)(v:Value)(l:List Lay)(g:Nat)(d:List Value)(a:Lay->Bool)(e:Sl C 3 v (l.map vZ))(_A:Jog.Enters cx.P g=true)
  (n:∀ x∈l,∀ D:Mem,C.le D->Gives cx.P g (.agg ⟨vZ x⟩::d) D (.bool (a x))) :
  Gives cx.P 317 [v,.func (.func g) #[] ⟨d⟩] C (i_ (kg a l 0)):=by
 obtain⟨o,c0,rfl,p,B,_⟩:=id e;have E:=mx_
 simp only[au]at e p⊢;refine UU func317 19 U3 fun w0=>UM 1 [0,1] U<|UM 3 [0,1,7,8] U<|G.loop (fun fr F q r=>∃ (i:Nat),(i<=l.length/\∀ y∈l.take i,a y=false)/\fr=[(0,[],.slice o l.length c0),(1,[],.func (.func g) #[] ⟨d⟩),(7,[],i_ l.length),(8,[],i_ i)]/\q=[]/\r=l.length-i) (hn_ [0,1,7,8] U) ⟨0,⟨Re _,by simp⟩,U,U,U⟩ (fun fr H I m s t=>?_);obtain⟨i,⟨J,b⟩,rfl,rfl,rfl⟩:=t;refine UM 1 [0,1,7,8,9] U<|G.cd (fun f=>?_) fun f=>?_
 ·have h:i<l.length:=by simpa using f
  obtain⟨x,c⟩:∃ x,l[i]?=some x:=⟨l[i],ai h⟩;refine UM 2 [0,1,5,7,8] U<|UN 3 U fun R j=>Va e.m_ U10 om_ (cA c) fl_ fun K u=>UO u U8<|UZ (n x (aM c) _ mup) U7<|US [0,1,5,7,8,16] j U<|G.cd (fun k=>?_) fun k=>?_
  ·have w:a x=true:=k;exact UM 2 [4] U<|UT U2<|⟨by rw[oU c w b,SD],U⟩
  have z:a x=false:=k;refine UQ fun R j=>UV _ U U6<|C6 1 [0,1,7,8] j U<|U0 (m':=l.length-(i+1)) om_ s (hn_ [0,1,7,8] U) ⟨i+1,⟨by omega,fun y hy=>by
   rw[RE,c]at hy;rcases Rr.1 hy with hy|hy
   ·exact b y hy
   simp only[SB,Rw]at hy;subst hy;exact z⟩,U,U,U⟩
 have h:i=l.length:=by
  have:¬ i<l.length:=by simpa using f
  omega
 exact UM 1 [4] U<|UT U2<|⟨by rw[h,Rk]at b;rw[mC b],U⟩
theorem Jj (a b:Str):((⟨a.toArray⟩:ByteArray).data.toList == (⟨b.toArray⟩:ByteArray).data.toList)=decide (a=b):=by
 show(a == b)=_;by_cases h:a=b <;> simp[h]
theorem Ig (C:Mem)(b:Nat)(u:Str)(x:Lay)(c:C b=some (.cells ⟨[af u]⟩ 9 (0,0))):Gives cx.P 318 [.agg ⟨vZ x⟩,p_ b] C (.bool (isU u x)):=by
 exact UU func318 8 U3 fun w0=>UQ fun R a=>Vd U6 fun d=>C6 1 [1,2] a U<|UN 1 U fun R a=>UW ag U9<|UO (PtrTo.block (Mem.get c mup) _) U8<|C6 2 [3] a U<|UT U2<|⟨by unfold isU;rw[<- Jj],U⟩
theorem AS (C:Mem)(b:Nat)(u:Str)(x:Lay)(c:C b=some (.cells ⟨[af u]⟩ 9 (0,0))):Gives cx.P 320 [.agg ⟨vZ x⟩,p_ b] C (.bool (isU u x)):=by
 exact UU func320 8 U3 fun w0=>UQ fun R a=>Vd U6 fun d=>C6 1 [1,2] a U<|UN 1 U fun R a=>UW ag U9<|UO (PtrTo.block (Mem.get c mup) _) U8<|C6 2 [3] a U<|UT U2<|⟨by unfold isU;rw[<- Jj],U⟩
theorem Dh (C:Mem)(v:Value)(l:List Lay)(u:Str)(c:Sl C 3 v (l.map vZ)):Gives cx.P 286 [v,af u] C (i_ (kg (isU u) l 0)):=by
 exact UU func286 8 U3 fun w0=>UQ fun R a=>Vd U6 fun b=>C6 1 [0,3] a U<|G.freeze 0 U fun _ _ d=>UN 2 U fun R a=>UZ (mA _ _ l 318 [p_ b] (isU u) c.m_ U (fun x _ D e=>Ig D b u x (e _ _ (Mem.get d mup)))) U7<|C6 1 [4] a U<|UT U2<|⟨U,U⟩
theorem kz (C:Mem)(v:Value)(l:List Lay)(u:Str)(c:Sl C 3 v (l.map vZ)):Gives cx.P 288 [v,af u] C (i_ (kg (isU u) l 0)):=by
 exact UU func288 8 U3 fun w0=>UQ fun R a=>Vd U6 fun b=>C6 1 [0,3] a U<|G.freeze 0 U fun _ _ d=>UN 2 U fun R a=>UZ (mA _ _ l 320 [p_ b] (isU u) c.m_ U (fun x _ D e=>AS D b u x (e _ _ (Mem.get d mup)))) U7<|C6 1 [4] a U<|UT U2<|⟨U,U⟩
theorem uz (h:QB 22 q):(qtx q).length<=999998:=Rn (aZ h dc_) dc_
theorem Ea (h:QB 22 q):(qtx q).length<=1000000:=Rn (aZ h dc_) dc_
theorem Kw (C:Mem)(d:Tabs C)(x:Lay)(e:OY x):Gives cx.P 284 [.agg ⟨vZ x⟩] C (i_ 0):=by
 obtain⟨u,f,c⟩:=x;obtain⟨h1,h2,h3⟩:=e;simp only at h1 h2 h3;clear h3;have g:(vW c).length<=999998:=by
  cases c with
 |none=>decide
 |some q=>exact uz (h2 q rfl)
 refine UU func284 17 U3 fun w0=>UQ fun R a=>Vd U6 fun h=>C6 1 [1] a U<|UN 1 U fun R a=>UW ag U9<|UZ (dD _ d.m_ (qtx f) (uz h1)) U7<|C6 2 [1,3] a U<|G.cd (fun h3=>?_) fun h3=>?_
 ·exfalso;rw[yE h1]at h3;exact absurd h3 dc_
 refine UN 1 U fun R a=>UW ag U9<|UR 3 U<|UW ag U9<|Vv (fun _=>(dD _ d.m_ (vW c) g)) U9<|UP U6<|Vk U8<|C6 1 [3] a U<|G.cd (fun b=>?_) fun b=>?_
 ·exfalso;simp only[]at b;cases c with
 |none=>exact absurd b dc_
 |some q =>
   rw[show vW (some q)=qtx q from rfl,yE (h2 q rfl)]at b;simp at b
 exact UM 1 [2] U<|UT U2<|⟨U,U⟩
def Hi (x:Lay):Bool:=match x.max with
|none=>false
|some m=>decide (m<x.min)
def Mk (pre:List Lay)(x:Lay):Int:=if cZ x.unit=false then 8 else if 0<=kg (isU x.unit) pre 0 then 9 else if x.min<0 then 3 else if Hi x then 6 else 0
def EO (l:List Lay):Nat->Int
|0=>0
|n+1=>if EO l n≠0 then EO l n else Mk (l.take n) (l.getD n ⟨[],0,none⟩)
def sh (l:List Lay):Int:=if l=[] then 13 else if 60<l.length then 4 else EO l l.length
theorem yA {l:List Lay}{n:Nat}(h:EO l n≠0):∀ m,n<=m->EO l m=EO l n
|0,hm=>by rw[show n=0 by omega]
|m+1,hm=>by
  rcases Rz m n with h1|h1
  ·rw[show n=m+1 by omega]
  have a:=yA h m h1;simp only[EO,a];rw[aJ h]
theorem Mj {l:List Lay}{x:Lay}(h:l[i]?=some x):l.getD i ⟨[],0,none⟩=x:=by rw[am,h,Sr]
theorem Dg {l:List Lay}{x:Lay}(a:EO l i=0)(b:l[i]?=some x):EO l (i+1)=Mk (l.take i) x:=by
 simp only[EO,a];rw[aF dc_,Mj b]
theorem vB {l:List Lay}{x:Lay}(d:EO l i=0)(a:l[i]?=some x)(b:Mk (l.take i) x=z)(f:z≠0)(g:¬ 60<l.length):sh l=z:=by
 have c:=(aT.1 a).1;have h1:=Dg d a;unfold sh;rw[aF (fun e=>by rw[e]at c;simp at c),aF g,yA (n:=i+1) (by rw[h1,b];exact f) l.length om_,h1,b]
theorem Oy (C:Mem)(c:Tabs C)(a:Option Rat)(b:Rat)(d:QB 22 b)(e:∀ q,a=some q->QB 22 q)(h:(!((⟨(vW a).toArray⟩:ByteArray).data.toList == (⟨#[]⟩:ByteArray).data.toList))=true) :
  Gives cx.P 218 [af (vW a),af (qtx b)] C (i_ (nU (a.getD 0) b)):=by
 rw[qF]at h;cases a with
|none=>cases h
|some q=>exact fN C c q b 22 dc_ dc_ (e q rfl) d
theorem CM (x:Lay):(x.max.isSome && decide (nU (x.max.getD 0) x.min<0))=Hi x:=by
 unfold Hi;cases x.max with
|none=>rfl
|some q =>
  show(true && decide (nU q x.min<0))=decide (q<x.min);unfold nU;by_cases h:q<x.min
  ·simp[h]
  rw[aF h,RG h];split <;> rfl
theorem uN (q:Rat):decide (eG q.num<0)=decide (q<0):=by
 rw[RY,<- uA];rcases eA q.num with h|h|h <;> omega
theorem rD (C:Mem)(y:Tabs C)(v:Value)(l:List Lay)(k:Sl C 3 v (l.map vZ))(F:∀ x∈l,OY x)(S:l.length<=1000000):Gives cx.P 238 [v] C (i_ (sh l)):=by
 obtain⟨A,c0,rfl,H,T,_⟩:=id k;have V:=mx_
 simp only[au]at k H⊢;refine UU func238 57 U3 fun w0=>UM 1 [0] U<|UM 4 [0,6] U<|G.cd (fun n=>?_) fun n=>?_
 ·have h0:l=[]:=by
   have h:((l.length:Nat):Int)=0:=by simpa using n
   exact RZ om_
  exact UM 1 [2] U<|UT U2<|⟨by rw[h0];rfl,U⟩
 have h0:l≠[]:=by
  intro e;rw[e]at n;exact absurd n dc_
 refine UM 4 [0,10] U<|G.cd (fun o=>?_) fun o=>?_
 ·have h60:60<l.length:=by
   simp only[Rj]at o;omega
  exact UM 1 [2] U<|UT U2<|⟨by unfold sh;rw[aF h0,aJ h60],U⟩
 have h60:¬ 60<l.length:=by
  simp only[RJ]at o;omega
 refine UM 3 [0,14,15,16] U<|G.loop (fun fr W I J=>∃ (i:Nat),(i<=l.length/\EO l i=0)/\fr=[(0,[],.slice A l.length c0),(14,[],.slice A l.length c0),(15,[],i_ l.length),(16,[],i_ i)]/\I=[]/\J=l.length-i) (hn_ [0,14,15,16] U) ⟨0,⟨Re _,U⟩,U,U,U⟩ (fun fr X Y m K L=>?_);obtain⟨i,⟨Z,b⟩,rfl,rfl,rfl⟩:=L;refine UM 1 [0,14,15,16,17] U<|G.cd (fun p=>?_) fun p=>?_
 ·have q:i<l.length:=by simpa using p
  obtain⟨x,c⟩:∃ x,l[i]?=some x:=⟨l[i],ai q⟩;obtain⟨r,B,M⟩:=F x (aM c);have D:=Sl.sub k (l:=0) (h:=i) (m:=c0) (Re _) ap om_ (Q7 _);rw[Sx,<- Tq]at D;refine UN 1 U fun R a=>Va k.m_ U10 om_ (cA c) fl_ fun aa N=>UO N U8<|Ve U5 fun b4=>UP U6<|UX (j:=0) U12<|US [0,3,4,14,15,16] a U<|UQ fun R a=>UW ag U9<|UZ (Kw _ y.m_ x ⟨r,B,M⟩) U7<|C6 1 [0,3,4,5,14,15,16] a U<|UM 2 [0,3,4,5,14,15,16,24] U<|G.cd (fun E=>?_) fun E=>?_
  ·exact absurd E dc_
  refine UN 1 U fun R a=>UW ag U9<|UY (iB _ x.unit om_) U7 fl_<|C6 2 [0,3,4,14,15,16,26] a U<|G.cd (fun s=>?_) fun s=>?_
  ·have d:cZ x.unit=false:=by simpa using s
   exact UM 1 [2] U<|UT U2<|⟨by rw[vB (z:=8) b c (by unfold Mk;rw[aJ d]) dc_ h60],U⟩
  have d:¬ cZ x.unit=false:=by
   have h:cZ x.unit=true:=by simpa using s
   rw[h];decide
  refine Vg [0,1,2,3,4,5,6,7] [(5,1)] U kr_ fun R hB a=>UR 2 U<|VH 0 i c0 U12 (fun _=>⟨.inl ⟨U,U⟩,.inr ⟨_,U⟩,.inl ⟨U,U⟩,by omega,by omega,by omega⟩) U2<|UP U6<|UW ag U9<|Vv (fun _=>(Dh _ _ (l.take i) x.unit D.m_)) U9<|C6 2 [0,4,14,15,16,31] a U<|G.cd (fun t=>?_) fun t=>?_
  ·have f:0<=kg (isU x.unit) (l.take i) 0:=by simpa using t
   exact UM 1 [2] U<|UT U2<|⟨by rw[vB (z:=9) b c (by unfold Mk;rw[aF d,aJ f]) dc_ h60],U⟩
  have f:¬ 0<=kg (isU x.unit) (l.take i) 0:=by simpa using t
  refine UN 1 U fun R a=>UW ag U9<|UZ (fb _ x.min (Ea r)) U7<|C6 2 [0,4,14,15,16,39] a U<|G.cd (fun g=>?_) fun g=>?_
  ·have hs:x.min<0:=by
    rw[uN]at g;exact Qw g
   exact UM 1 [2] U<|UT U2<|⟨by rw[vB (z:=3) b c (by unfold Mk;rw[aF d,aF f,aJ hs]) dc_ h60],U⟩
  have hs:¬ x.min<0:=by
   rw[uN]at g;exact Rc g
  refine UN 1 U fun R a=>UW ag U9<|UR 3 U<|UW ag U9<|UP U6<|UW ag U9<|Vh (fun O=>(Oy _ y.m_ x.max x.min r B (by exact O.1))) U9<|UP U6<|Vk U8<|C6 1 [0,14,15,16,44] a U<|G.cd (fun u=>?_) fun u=>?_
  ·have w:Hi x=true:=by
    rw[<- CM,<- qF];exact u
   exact UM 1 [2] U<|UT U2<|⟨by rw[vB (z:=6) b c (by unfold Mk;rw[aF d,aF f,aF hs,aJ w]) dc_ h60],U⟩
  have w:Hi x=false:=by
   rw[<- CM,<- qF];exact u
  have Q:EO l (i+1)=0:=by rw[Dg b c];unfold Mk;rw[aF d,aF f,aF hs,w];rfl
  refine UQ fun R a=>UV _ U U6<|C6 1 [0,14,15,16] a U<|G.dropAll<|U0 (m':=l.length-(i+1)) om_ K (hn_ [0,14,15,16] U) ⟨i+1,⟨by omega,Q⟩,U,U,U⟩
 have q:i=l.length:=by
  have:¬ i<l.length:=by simpa using p
  omega
 refine UM 1 [2] U<|UT U2<|⟨?_,U⟩;rw[q]at b;unfold sh;rw[aF h0,aF h60,b]
theorem AG (C:Mem)(f:Tabs C)(v:Value)(l:List Lay)(u:Str)(c:Sl C 3 v (l.map vZ))(g:∀ x∈l,OY x)(a:sh l=0)(i:Nat)(j:kg (isU u) l 0=(i:Nat)):Gives cx.P 247 [v,af u] C (.tuple #[i_ (i:Nat),.bool true,i_ 0]):=by
 have k:l.length<=1000000:=by
  unfold sh at a;split at a
  ·cases a
  split at a
  ·cases a
  omega
 refine UU func247 20 U3 fun w0=>UM 3 [0,1] U<|UN 1 U fun R b=>UY (by have h:=rD _ f.m_ v l c.m_ g k;rw[a]at h;exact h) U7 fl_<|C6 1 [0,1,7] b U<|UM 2 [0,1,7,12] U<|G.cd (fun d=>?_) fun d=>?_
 ·exact absurd d dc_
 refine UN 2 U fun R b=>UY (by have h:=Dh _ v l u c.m_;rw[j]at h;exact h) U7 fl_<|C6 1 [8] b U<|UM 2 [8,18] U<|G.cd (fun e=>?_) fun e=>?_
 ·refine UM 4 [4,5,6] U<|U1 (G.dropAll (VG U4 ?_));exact⟨U,U⟩
 exfalso;simp only[RJ]at e;omega
structure Obs where
 kind:Int
 name:Str
 x:Str
 y:Str
 depth:Str
 upper:Str
 lower:Str
 nx:Str
 ny:Str
 nz:Str
def sd (o:Obs):List Value:=[.int .i64 o.kind,af o.name,af o.x,af o.y,af o.depth,af o.upper,af o.lower,af o.nx,af o.ny,af o.nz]
structure ObsR (o:Obs):Prop where
 name:o.name.length<=999998
 x:o.x.length<=999998
 y:o.y.length<=999998
 depth:o.depth.length<=999998
 upper:o.upper.length<=999998
 lower:o.lower.length<=999998
 nx:o.nx.length<=999998
 ny:o.ny.length<=999998
 nz:o.nz.length<=999998
def ld (o:Obs):Bool:=(!cZ o.name || !cZ o.upper) || ((!(o.kind == 1)) && !cZ o.lower)
def ma (o:Obs):Bool:=(!(aS o.x && aS o.y) || ((o.kind == 2) && !aS o.depth)) || ((o.kind == 3) && !(aS o.nx && aS o.ny && aS o.nz))
def lm (o:Obs):Bool:=(((o.kind == 1) && !(o.lower == [])) || ((!(o.kind == 2)) && !(o.depth == []))) || ((!(o.kind == 3)) && !(decide (o.nx=[]/\o.ny=[]/\o.nz=[])))
def ec (o:Obs):Int:=if o.kind<1∨3<o.kind then 12 else if ld o then 8 else if ma o then 2 else if lm o then 7 else 0
theorem nil3 (a b c:Str):(!((a == []) && ((b == []) && ((c == []) && true))))=!decide (a=[]/\b=[]/\c=[]):=by
 cases a <;> cases b <;> cases c <;> rfl
theorem Il (b:Bool):(oG b != 0)=!b:=by cases b <;> rfl
theorem Jy (C:Mem)(h:Tabs C)(o:Obs)(b:ObsR o):Gives cx.P 287 [.agg ⟨sd o⟩] C (i_ (ec o)):=by
 have h1:=b.name;have h2:=b.upper;have h3:=b.lower;refine UU func287 87 U3 fun w0=>UQ fun R c=>Vd U6 fun m=>C6 1 [1] c U<|G.freeze 0 U fun _ _ a=>UN 1 U fun R c=>UO (bkT a 1) U8<|UR 3 U<|Vm U6 (fun _=>PtrTo.blockT (Mem.get a mup) _ 1) U3<|UP U6<|Vq U8<|US [1,10] c U<|G.cd (fun i=>?_) fun i=>?_
 ·have d:o.kind<1∨3<o.kind:=by simpa using i
  exact UM 1 [2] U<|UT U2<|⟨by unfold ec;rw[aJ d],U⟩
 have d:¬ (o.kind<1∨3<o.kind):=by simpa using i
 refine UN 1 U fun R c=>UO (bkT a 1) U8<|UY (iB _ o.name om_) U7 fl_<|UR 3 U<|Vm U6 (fun _=>PtrTo.blockT (Mem.get a mup) _ 1) U3<|Vh (fun _=>(iB _ o.upper om_)) U9<|UP U6<|Vq U8<|UR 2 U<|Vm U6 (fun _=>PtrTo.blockT (Mem.get a mup) _ 1) U3<|UR 3 U<|Vm U6 (fun _=>PtrTo.blockT (Mem.get a mup) _ 1) U3<|Vh (fun _=>(iB _ o.lower om_)) U9<|UP U6<|Vk U8<|Vq U8<|US [1,31] c U<|G.cd (fun j=>?_) fun j=>?_
 ·have e:ld o=true:=j;exact UM 1 [2] U<|UT U2<|⟨by unfold ec;rw[aF d,aJ e],U⟩
 have e:¬ ld o=true:=by rw[show ld o=false from j];decide
 refine UN 1 U fun R c=>UO (bkT a 2) U8<|UZ (iO _ h.m_ o.x o.y b.x b.y) U7<|UR 3 U<|Vm U6 (fun _=>PtrTo.blockT (Mem.get a mup) _ 1) U3<|UR 3 U<|Vm U6 (fun _=>PtrTo.blockT (Mem.get a mup) _ 1) U3<|Vv (fun _=>(dD _ h.m_ o.depth b.depth)) U9<|UP U6<|Vk U8<|Vq U8<|UR 2 U<|Vm U6 (fun _=>PtrTo.blockT (Mem.get a mup) _ 1) U3<|UR 3 U<|Vm U6 (fun _=>PtrTo.blockT (Mem.get a mup) _ 3) U3<|Vv (fun _=>(si _ h.m_ o.nx o.ny o.nz b.nx b.ny b.nz)) U9<|UP U6<|Vk U8<|Vq U8<|US [1,57] c U<|G.cd (fun f=>?_) fun f=>?_
 ·have g:ma o=true:=by
   simp only[Il]at f;exact f
  exact UM 1 [2] U<|UT U2<|⟨by unfold ec;rw[aF d,aF e,aJ g],U⟩
 have g:¬ ma o=true:=by
  simp only[Il]at f;rw[show ma o=false from f];decide
 refine UN 1 U fun R c=>UO (bkT a 1) U8<|UR 3 U<|Vm U6 (fun _=>PtrTo.blockT (Mem.get a mup) _ 1) U3<|UP U6<|Vk U8<|UR 2 U<|Vm U6 (fun _=>PtrTo.blockT (Mem.get a mup) _ 1) U3<|UR 3 U<|Vm U6 (fun _=>PtrTo.blockT (Mem.get a mup) _ 1) U3<|UP U6<|Vk U8<|Vq U8<|UR 2 U<|Vm U6 (fun _=>PtrTo.blockT (Mem.get a mup) _ 1) U3<|UR 3 U<|Vm U6 (fun _=>PtrTo.blockT (Mem.get a mup) _ 3) U3<|Vf [af [],af [],af []] U8<|Xh (!decide (o.nx=[]/\o.ny=[]/\o.nz=[])) kr_ U U U U U U U U (fun _=>(nil3 o.nx o.ny o.nz)) U U<|Vk U8<|Vq U8<|US [86] c U<|G.cd (fun k=>?_) fun k=>?_
 ·have l:lm o=true:=k;exact UM 1 [2] U<|UT U2<|⟨by unfold ec;rw[aF d,aF e,aF g,aJ l],U⟩
 have l:¬ lm o=true:=by rw[show lm o=false from k];decide
 exact UM 1 [2] U<|UT U2<|⟨by unfold ec;rw[aF d,aF e,aF g,aF l],U⟩
noncomputable def dm (s:Str):Rat:=if h:aS s=true then (LY h).choose else 0
theorem dz {s:Str}(h:aS s=true):s=qtx (dm s)/\QB 23 (dm s):=by
 unfold dm;rw[dif_pos h];exact(LY h).choose_spec
theorem cT (h:aS (qtx q)=true):dm (qtx q)=q:=(gr (dz h).1).symm
noncomputable def ptO (o:Obs):Pt:=(dm o.x,dm o.y)
noncomputable def K6 (pts:List Pt)(tris:List Tri)(o:Obs):Bool:=decide (lf pts tris (ptO o)≠[])
def LL (col:List Lay)(o:Obs):Bool:=decide (kg (isU o.upper) col 0<0) || ((!(o.kind == 1)) && decide (kg (isU o.lower) col 0<0))
def ordB (col:List Lay)(o:Obs):Bool:=(!(o.kind == 1)) && decide (kg (isU o.upper) col 0<=kg (isU o.lower) col 0)
noncomputable def depB (o:Obs):Bool:=(o.kind == 2) && decide (dm o.depth<0)
def I1 (o:Obs):Bool:=(o.kind == 3) && decide (o.nz=[48])
noncomputable def ip (pts:List Pt)(tris:List Tri)(col:List Lay)(o:Obs):Int :=
 if ec o≠0 then ec o else if K6 pts tris o=false then 28 else if LL col o then 10 else if ordB col o then 6 else if depB o then 3 else if I1 o then 17 else 0
theorem sz {o:Obs}(h:ec o=0):aS o.x=true/\aS o.y=true/\(o.kind=2->aS o.depth=true):=by
 unfold ec at h;split at h
 ·cases h
 split at h
 ·cases h
 split at h
 ·cases h
 rename_i b;have a:ma o=false:=by simpa using b
 unfold ma at a;rw[SK,SK]at a;obtain⟨⟨h1,h2⟩,_⟩:=a;have h3:(aS o.x && aS o.y)=true:=by simpa using h1
 rw[Rq]at h3;refine⟨h3.1,h3.2,fun c=>?_⟩;rw[c]at h2;simpa using h2
theorem PK {o:Obs}(h:ec o=0):ptV (ptO o)=.agg ⟨[af o.x,af o.y]⟩/\QP 23 (ptO o)/\PtR (ptO o):=by
 obtain⟨h1,h2,_⟩:=sz h;obtain⟨a,c⟩:=dz h1;obtain⟨b,d⟩:=dz h2;refine⟨?_,⟨c,d⟩, ?_, ?_⟩
 ·unfold ptV gD ptO;rw[<- a,<- b]
 ·unfold ptO;rw[<- a];exact h1
 unfold ptO;rw[<- b];exact h2
theorem dW {k:Int}(h:(k == z)=true):k=z:=by simpa using h
theorem Jr (C:Mem)(s:Str)(h:aS s=true)(a:s.length<=999998):Gives cx.P 94 [af s] C (i_ (eG (dm s).num)):=by
 have e:=(dz h).1;have h2:=fb C (dm s) (by have:=a;exact Rn (aZ (dz h).2 dc_) dc_)
 rwa [<- e]at h2
theorem NJ (C:Mem)(u:Tabs C)(v w:Value)(d:List Pt)(f:List Tri)(b:List Lay)(o:Obs)(x:MeshIn C v d f)(A:Good d f)(y:Sl C 3 w (b.map vZ))(z:ObsR o) :
  Gives cx.P 239 [v,w,.agg ⟨sd o⟩] C (i_ (ip d f b o)):=by
 have B:=x;obtain⟨L,M,rfl,h1,h2⟩:=id x.ex;refine UU func239 79 U3 fun w0=>UQ fun R a=>Vd U6 fun N=>Vd U6 fun O=>C6 1 [1,3,5] a U<|G.freeze 1 U fun _ _ D=>G.freeze 0 U fun E _ c=>UQ fun R a=>UO (bkT c 10) U8<|UZ (Jy _ u.m_ o z) U7<|C6 1 [1,3,5,7] a U<|UM 2 [1,3,5,7,15] U<|G.cd (fun m=>?_) fun m=>?_
 ·have hs:ec o≠0:=by
   intro e;rw[e]at m;exact absurd m dc_
  exact UM 2 [6] U<|UT U2<|⟨by unfold ip;rw[aJ hs],U⟩
 have hs:ec o=0:=by simpa using m
 have i:¬ ec o≠0:=fun h=>h hs;obtain⟨F,H,I⟩:=PK hs;have J:=(sz hs).2.2;refine UQ fun R a=>UO (PtrTo.block (Mem.get D mup) _) U8<|UP U6<|UO (bkT c 2) U8<|UY (by have h:=rC E u.m_ _ d f (ptO o) B.m_ A H I;rw[F]at h;exact h) U7 fl_<|C6 5 [1,5,8,9] a U<|UN 5 U fun R a=>Vq U8<|US [1,5,29] a U<|G.cd (fun p=>?_) fun p=>?_
 ·have g:K6 d f o=false:=by
   have h:(!K6 d f o)=true:=p;simpa using h
  exact UM 1 [6] U<|UT U2<|⟨by unfold ip;rw[aF i,aJ g],U⟩
 have g:¬ K6 d f o=false:=by
  have h:(!K6 d f o)=false:=p;have h2:K6 d f o=true:=by simpa using h
  rw[h2];decide
 refine Vg [0,1,2,3,4,5,6,7,8,9] [(3,1),(7,1)] U kr_ fun R Q a=>UR 2 U<|UO (bkT c 1) U8<|Vv (fun _=>(kz _ _ b o.upper y.m_)) U9<|UR 2 U<|UO (bkT c 1) U8<|Vv (fun _=>(kz _ _ b o.lower y.m_)) U9<|C6 2 [5,10,11] a U<|UN 4 U fun R a=>Vm U6 (fun _=>PtrTo.blockT (Mem.get c mup) _ 1) U3<|UR 4 U<|Vk U8<|Vq U8<|C6 1 [5,10,11,38] a U<|G.cd (fun q=>?_) fun q=>?_
 ·have j:LL b o=true:=q;exact UM 1 [6] U<|UT U2<|⟨by unfold ip;rw[aF i,aF g,aJ j],U⟩
 have j:¬ LL b o=true:=by rw[show LL b o=false from q];decide
 refine UN 1 U fun R a=>UO (bkT c 1) U8<|UR 5 U<|Vk U8<|C6 1 [5,50] a U<|G.cd (fun r=>?_) fun r=>?_
 ·have k:ordB b o=true:=r;exact UM 1 [6] U<|UT U2<|⟨by unfold ip;rw[aF i,aF g,aF j,aJ k],U⟩
 have k:¬ ordB b o=true:=by rw[show ordB b o=false from r];decide
 refine UN 1 U fun R a=>UO (bkT c 1) U8<|UR 3 U<|Vm U6 (fun _=>PtrTo.blockT (Mem.get c mup) _ 1) U3<|Vh (fun K=>(Jr _ o.depth (J (by exact dW K.1)) z.depth)) U9<|UP U6<|Vk U8<|C6 1 [5,59] a U<|G.cd (fun l=>?_) fun l=>?_
 ·have n:depB o=true:=by
   rw[uN]at l;exact l
  exact UM 1 [6] U<|UT U2<|⟨by unfold ip;rw[aF i,aF g,aF j,aF k,aJ n],U⟩
 have n:¬ depB o=true:=by
  rw[uN]at l;rw[show depB o=false from l];decide
 refine UN 1 U fun R a=>UO (bkT c 1) U8<|UR 4 U<|Vm U6 (fun _=>PtrTo.blockT (Mem.get c mup) _ 1) U3<|UP U6<|Vk U8<|C6 1 [69] a U<|G.cd (fun s=>?_) fun s=>?_
 ·have t:I1 o=true:=by
   unfold I1;rw[<- Jj];exact s
  exact UM 1 [6] U<|UT U2<|⟨by unfold ip;rw[aF i,aF g,aF j,aF k,aF n,aJ t],U⟩
 have t:¬ I1 o=true:=by
  unfold I1;rw[<- Jj];intro h;rw[show((o.kind == 3) && ((⟨o.nz.toArray⟩:ByteArray).data.toList == (⟨([48]:Str).toArray⟩:ByteArray).data.toList))=false from s]at h;cases h
 exact UM 1 [6] U<|UT U2<|⟨by unfold ip;rw[aF i,aF g,aF j,aF k,aF n,aF t],U⟩
structure Bk where
 pts:List Pt
 tris:List Tri
 terr:List Str
 col:List Lay
 obs:List Obs
structure BookIn (C:Mem)(bv:Value)(B:Bk):Prop where
 ex:∃ v1 v2 tv cv ov,bv=.agg ⟨[v1,v2,tv,cv,ov]⟩/\Sl C 2 v1 (B.pts.map gD)/\Sl C 3 v2 (B.tris.map iF)/\Sl C 1 tv (B.terr.map gc)/\Sl C 3 cv (B.col.map vZ)/\Sl C 10 ov (B.obs.map sd)
theorem BookIn.mono {C D:Mem}{b:Value}{B:Bk}(h:BookIn C b B)(a:C.le D):BookIn D b B:=by
 obtain⟨c,d,e,f,g,h1,h2,h3,h4,h5,i⟩:=h.ex;exact⟨c,d,e,f,g,h1,h2.mono a,h3.mono a,h4.mono a,h5.mono a,i.mono a⟩
theorem BookIn.m_ {D:Mem}{B:Bk}(h:BookIn C bv B)(a:C.le D:=by exact mup):BookIn D bv B:=BookIn.mono h a
structure BookR (B:Bk):Prop where
 terr:∀ s∈B.terr,s.length<=999998
 col:∀ x∈B.col,OY x
 lcol:B.col.length<=1000000
 obs:∀ o∈B.obs,ObsR o
noncomputable def obZ (B:Bk)(pre:List Obs)(o:Obs):Int:=if ip B.pts B.tris B.col o≠0 then ip B.pts B.tris B.col o else if o.name∈pre.map Obs.name then 9 else 0
def Ke:Obs:=⟨0,[],[],[],[],[],[],[],[],[]⟩
noncomputable def vY (B:Bk):Nat->Int
|0=>0
|n+1=>if vY B n≠0 then vY B n else obZ B (B.obs.take n) (B.obs.getD n Ke)
noncomputable def iP (B:Bk):Int:=if ou B.pts.length B.terr≠0 then ou B.pts.length B.terr else if sh B.col≠0 then sh B.col else if 100<B.obs.length then 4 else vY B B.obs.length
theorem xI {B:Bk}{n:Nat}(h:vY B n≠0):∀ m,n<=m->vY B m=vY B n
|0,hm=>by rw[show n=0 by omega]
|m+1,hm=>by
  rcases Rz m n with h1|h1
  ·rw[show n=m+1 by omega]
  have a:=xI h m h1;simp only[vY,a];rw[aJ h]
theorem Mg {l:List Obs}{x:Obs}(h:l[i]?=some x):l.getD i Ke=x:=by rw[am,h,Sr]
theorem uK {B:Bk}{x:Obs}(a:vY B i=0)(b:B.obs[i]?=some x):vY B (i+1)=obZ B (B.obs.take i) x:=by
 simp only[vY,a];rw[aF dc_,Mg b]
theorem GO {B:Bk}{x:Obs}(c:vY B i=0)(a:B.obs[i]?=some x)(b:obZ B (B.obs.take i) x=z)(d:z≠0):vY B B.obs.length=z:=by
 have e:=(aT.1 a).1;have h1:=uK c a;rw[xI (n:=i+1) (by rw[h1,b];exact d) B.obs.length om_,h1,b]
def G3 (l:List Obs):List (Str × Value):=l.map fun o=>(o.name,.bool true)
theorem G2 (l:List Obs)(s:Str):mj (.bool false) false (dZ (G3 l) s)=.bool (decide (s∈l.map Obs.name)):=by
 have a:(G3 l).map (·.1)=l.map Obs.name:=by unfold G3;rw[R8];rfl
 cases h:dZ (G3 l) s with
|none =>
  have h1:=cC.1 h;rw[a]at h1;rw[RG h1];rfl
|some v =>
  have h1:=gv h;have h2:=Tl (f:=(·.1)) h1;rw[a]at h2;obtain⟨o,_,b⟩:=Ra.1 h1;cases b
  rw[Rt h2];rfl
theorem Kl {l:List Obs}{o:Obs}(h:o.name ∉ l.map Obs.name):iT (G3 l) o.name (.bool true)=G3 (l++[o]):=by
 have a:(G3 l).map (·.1)=l.map Obs.name:=by unfold G3;rw[R8];rfl
 rw[kb (by rw[cC,a];exact h)];simp[G3]
theorem rF (C:Mem)(n:Tabs C)(F:Value)(B:Bk)(L:BookIn C F B)(t:Good B.pts B.tris)(o:BookR B) :
  Gives cx.P 181 [F] C (i_ (iP B)):=by
 obtain⟨H,I,Z,cv,ov,rfl,h1,h2,h3,h4,h5⟩:=id L.ex;obtain⟨M,N,rfl,O,aa,_⟩:=id h5;have ab:=mx_
 simp only[au]at h5 O⊢;have hm:MeshIn C (.agg ⟨[H,I]⟩) B.pts B.tris:=⟨H,I,rfl,h1,h2⟩;refine UU func181 59 U3 fun w0=>UQ fun R a=>Vd U6 fun Q=>C6 1 [1] a U<|G.freeze 0 U fun _ _ b=>UN 1 U fun R a=>UO (bkT b 2) U8<|UZ (gU _ n.m_ _ B.pts B.tris hm.m_ t) U7<|C6 1 [1,3] a U<|UM 2 [1,3,14] U<|G.cd (fun J=>?_) fun J=>?_
 ·exact absurd J dc_
 refine UN 1 U fun R a=>UO (bkT b 2) U8<|UP U6<|UO (bkT b 1) U8<|UZ (mG _ n.m_ _ _ B.pts B.tris B.terr hm.m_ t h3.m_ o.terr) U7<|C6 1 [1,4] a U<|UM 2 [1,4,22] U<|G.cd (fun p=>?_) fun p=>?_
 ·have c:ou B.pts.length B.terr≠0:=by
   intro e;rw[e]at p;exact absurd p dc_
  exact UM 2 [2] U<|UT U2<|⟨by unfold iP;rw[aJ c],U⟩
 have c:¬ ou B.pts.length B.terr≠0:=by
  have h:ou B.pts.length B.terr=0:=by simpa using p
  exact fun h2=>h2 h
 refine UN 1 U fun R a=>UO (bkT b 1) U8<|UZ (rD _ n.m_ _ B.col h4.m_ o.col o.lcol) U7<|C6 1 [1,5] a U<|UM 2 [1,5,28] U<|G.cd (fun q=>?_) fun q=>?_
 ·have d:sh B.col≠0:=by
   intro e;rw[e]at q;exact absurd q dc_
  exact UM 2 [2] U<|UT U2<|⟨by unfold iP;rw[aF c,aJ d],U⟩
 have d:¬ sh B.col≠0:=by
  have h:sh B.col=0:=by simpa using q
  exact fun h2=>h2 h
 refine UN 1 U fun R a=>UO (bkT b 1) U8<|C6 2 [1,33] a U<|G.cd (fun u=>?_) fun u=>?_
 ·have g:100<B.obs.length:=by
   simp only[Rj]at u;omega
  exact UM 1 [2] U<|UT U2<|⟨by unfold iP;rw[aF c,aF d,aJ g],U⟩
 have g:¬ 100<B.obs.length:=by
  simp only[RJ]at u;omega
 refine UQ fun R a=>D.makeMap keyS U U U U fl_ fun v=>C6 1 [1,6] a U<|UN 1 U fun R a=>UO (bkT b 1) U8<|C6 2 [1,6,36,37,38] a U<|G.loop (fun fr C' K S=>∃ (i:Nat),(i<=B.obs.length/\vY B i=0)/\fr=[(1,[],p_ Q),(6,[],.map (some v)),(36,[],.slice M B.obs.length N),(37,[],i_ B.obs.length),(38,[],i_ i)]/\K=[.obj v (aY keyS.enc (G3 (B.obs.take i)))]/\S=B.obs.length-i) (hn_ [1,6,36,37,38] U) ⟨0,⟨Re _,U⟩,U,U,U⟩ (fun fr ac ad m _ T=>?_);obtain⟨i,⟨hi,k⟩,rfl,rfl,rfl⟩:=T;refine UM 1 [1,6,36,37,38,39] U<|G.cd (fun w=>?_) fun w=>?_
 ·have y:i<B.obs.length:=by simpa using w
  obtain⟨x,f⟩:∃ x,B.obs[i]?=some x:=⟨B.obs[i],ai y⟩;have V:=o.obs x (aM f);have W:B.obs.take (i+1)=B.obs.take i++[x]:=by rw[RE,f];rfl
  refine UQ fun R a=>Va h5.m_ U10 om_ (cA f) fl_ fun af X=>UO X U8<|Ve U5 fun b8=>UX (j:=0) U12<|US [1,6,8,36,37,38] a U<|UN 1 U fun R a=>UO (bkT b 2) U8<|UP U6<|UO (bkT b 1) U8<|UW ag U9<|UZ (NJ _ n.m_ _ _ B.pts B.tris B.col x hm.m_ t h4.m_ V) U7<|C6 1 [1,6,8,9,36,37,38] a U<|UM 2 [1,6,8,9,36,37,38,49] U<|G.cd (fun r=>?_) fun r=>?_
  ·have l:ip B.pts B.tris B.col x≠0:=by
    intro e;rw[e]at r;exact absurd r dc_
   have A:=GO k f (z:=ip B.pts B.tris B.col x) (by unfold obZ;rw[aJ l]) l;exact UM 2 [2] U<|UT U2<|⟨by unfold iP;rw[aF c,aF d,aF g,A],U⟩
  have l:¬ ip B.pts B.tris B.col x≠0:=by
   have h:ip B.pts B.tris B.col x=0:=by simpa using r
   exact fun h2=>h2 h
  refine UN 2 U fun R a=>UW ag U9<|V9 keyS ae U U U U U U U U kr_ U (G2 (B.obs.take i) x.name) U U<|US [1,6,8,36,37,38,54] a U<|G.cd (fun E=>?_) fun E=>?_
  ·have s:x.name∈(B.obs.take i).map Obs.name:=Qw E;have A:=GO k f (z:=9) (by unfold obZ;rw[aF l,aJ s]) dc_;exact UM 1 [2] U<|UT U2<|⟨by unfold iP;rw[aF c,aF d,aF g,A],U⟩
  have s:x.name ∉ (B.obs.take i).map Obs.name:=Rc E;have Y:vY B (i+1)=0:=by rw[uK k f];unfold obZ;rw[aF l,aF s]
  refine UN 2 U fun R a=>UW ag U9<|D.mapUpdate keyS (j:=1) U U U U U U U U U U kr_<|US [1,6,36,37,38] a U<|UQ fun R a=>UV _ U U6<|C6 1 [1,6,36,37,38] a U<|VC 1 U<|Vc (L':=[.obj v (aY keyS.enc (G3 (B.obs.take (i+1))))]) (by rw[W,<- Kl s];rfl)<|U0 (m':=B.obs.length-(i+1)) om_ mup (hn_ [1,6,36,37,38] U) ⟨i+1,⟨by omega,Y⟩,U,U,U⟩
 have y:i=B.obs.length:=by
  have:¬ i<B.obs.length:=by simpa using w
  omega
 refine UM 1 [2] U<|UT U2<|⟨?_,U⟩;rw[y]at k;unfold iP;rw[aF c,aF d,aF g,k]
theorem mS (C:Mem)(g:Tabs C)(b:Value)(B:Bk)(c:BookIn C b B)(j:Good B.pts B.tris)(k:BookR B)(l:iP B=0)(i:Nat)(n:i<B.obs.length) :
  Gives cx.P 289 [b,i_ i] C (i_ 0):=by
 have d:=c;obtain⟨o,p,q,r,s,rfl,h1,h2,h3,h4,h5⟩:=id c.ex;obtain⟨t,u,rfl,m,v,_⟩:=id h5;have w:=mx_
 simp only[au]at h5 m d⊢;refine UU func289 20 U3 fun w0=>UQ fun R a=>Vd U6 fun x=>C6 1 [1,2] a U<|UQ fun R a=>UW ag U9<|UY (by have h:=rF _ g.m_ _ B d.m_ j k;rw[l]at h;exact h) U7 fl_<|C6 1 [1,2,5] a U<|UM 2 [1,2,5,9] U<|G.cd (fun e=>?_) fun e=>?_
 ·exact absurd e dc_
 refine UN 5 U fun R a=>UW ag U9<|UR 2 U<|Vq U8<|US [19] a U<|G.cd (fun f=>?_) fun f=>?_
 ·exfalso;simp only[SX,Rj]at f;omega
 exact UM 1 [4] U<|UT U2<|⟨U,U⟩
noncomputable def lG (o:Obs)(z:Rat):Rat:=if o.kind=2 then z-dm o.depth else z
structure ObsAt (o:Obs)(p:Pt):Prop where
 x:o.x=qtx p.1
 y:o.y=qtx p.2
 q:QP 23 p
 r:PtR p
 d:o.kind=2->aS o.depth=true
theorem xJ {o:Obs}(h:ObsAt o p):(.agg ⟨[af o.x,af o.y]⟩:Value)=ptV p:=by unfold ptV gD;rw[h.x,h.y]
structure Terr (B:Bk)(fs:List Rat):Prop where
 e:B.terr=fs.map qtx
 l:fs.length=B.pts.length
 q:∀ q∈fs,QB 22 q
theorem LM {B:Bk}(h:Terr B fs):∀ q∈fs,aS (qtx q)=true:=fun q a=>bA (h.q q a)
theorem HA (C:Mem)(k:Tabs C)(m:Value)(B:Bk)(i:List Rat)(o:Obs)(p:Pt)(z:Rat)(v:BookIn C m B)(w:Good B.pts B.tris)(b:Terr B i)(c:ObsAt o p)(x:Fb B.pts B.tris i p=.tuple #[af (qtx z),i_ 0])(y:QB 22 z) :
  Gives cx.P 290 [m,.agg ⟨sd o⟩] C (.tuple #[af (qtx (lG o z)),i_ 0]):=by
 obtain⟨n,s,E,F,H,rfl,h1,h2,h3,h4,h5⟩:=id v.ex;have hm:MeshIn C (.agg ⟨[n,s]⟩) B.pts B.tris:=⟨n,s,rfl,h1,h2⟩;rw[b.e,<- nO]at h3;refine UU func290 31 U3 fun w0=>UQ fun R a=>Vd U6 fun I=>Vd U6 fun J=>C6 2 [2,3] a U<|G.freeze 1 U fun _ _ t=>G.freeze 0 U fun u _ j=>UN 1 U fun R a=>UO (bkT t 2) U8<|UP U6<|UO (bkT t 1) U8<|UP U6<|UO (bkT j 2) U8<|UY (by have h:=Bw u k.m_ _ _ B.pts B.tris i 22 dc_ dc_ hm.m_ w h3.m_ b.l b.q (LM b) p c.q c.r;rw[x,<- xJ c]at h;exact h) U7 fl_<|C6 5 [3,6,7] a U<|UN 4 U fun R a=>Vm U6 (fun _=>PtrTo.blockT (Mem.get j mup) _ 1) U3<|UP U6<|Vk U8<|US [3,6,7,24] a U<|G.cd (fun f=>?_) fun f=>?_
 ·have g:o.kind=2:=dW (Ub.1 f).2;obtain⟨A,D⟩:=dz (c.d g);refine UN 2 U fun R a=>UO (bkT j 1) U8<|UY (by have h:=eo u k.m_ z (dm o.depth) 23 dc_ dc_ (y.le dc_) D;rw[<- A]at h;exact h) U7 fl_<|C6 1 [6,7] a U<|UM 4 [4,5] U<|U1 (G.dropAll (Vn U3 ?_));exact⟨by unfold lG;rw[aJ g],U⟩
 have g:¬ o.kind=2:=by
  intro e;rw[show((((0:Int) == 0) && (o.kind == 2))=true) by rw[e];rfl]at f;cases f
 refine UM 4 [4,5] U<|U1 (G.dropAll (Vn U3 ?_));exact⟨by unfold lG;rw[aF g],U⟩
theorem Ey (C:Mem)(c:Tabs C)(h:Value)(B:Bk)(d:List Rat)(i:Nat)(o:Obs)(p:Pt)(z:Rat)(b:BookIn C h B)(j:Good B.pts B.tris)(q:BookR B)(r:iP B=0)(s:Terr B d)(k:B.obs[i]?=some o)(t:ObsAt o p)(u:Fb B.pts B.tris d p=.tuple #[af (qtx z),i_ 0])(v:QB 22 z)(l:QB 22 (lG o z)) :
  Gives cx.P 243 [h,i_ i] C (.tuple #[af (qtx (lG o z)),i_ 0]):=by
 have e:=b;have w:=(aT.1 k).1;obtain⟨A,D,E,F,H,rfl,h1,h2,h3,h4,h5⟩:=id b.ex;obtain⟨I,J,rfl,x,K,_⟩:=id h5;have L:=mx_
 simp only[au]at h5 x e⊢;refine UU func243 36 U3 fun w0=>?_;refine UQ fun R a=>?_;refine Vd U6 (fun M=>?_);refine C6 2 [1,2] a U ?_;clear a R;refine G.freeze 0 U (fun _ _ f=>?_);refine UQ fun R a=>?_;refine UO (bkT f 5) U8 ?_;refine UP U6 ?_;refine UZ (mS _ c.m_ _ B e.m_ j q r i w) U7 ?_;refine C6 1 [1,2,6] a U ?_;clear a R;refine UM 2 [1,2,6,13] U ?_;refine G.cd (fun m=>?_) fun m=>?_
 ·exact absurd m dc_
 refine Vg [0,1,2,3,4,5,6,7,8,9,10,11] [(6,1)] U kr_ (fun R b a=>?_);refine UO (bkT f 5) U8 ?_;refine UP U6 ?_;refine UO (bkT f 1) U8 ?_;refine UP U6 ?_;refine Va h5.m_ U10 om_ (cA k) fl_ (fun N y=>?_);refine UO y U8 ?_;refine Vv (fun _=>(HA _ c.m_ _ B d o p z e.m_ j s t u v)) U9 ?_;refine UR 5 U ?_;refine US [7,8] a U ?_;clear a b R;refine UN 4 U fun R a=>?_;refine Vv (fun _=>(dD _ c.m_ _ (uz l))) U9 ?_;refine UP U6 ?_;refine Vk U8 ?_;refine US [7,8,31] a U ?_;clear a R;refine G.cd (fun g=>?_) fun g=>?_
 ·exfalso;rw[yE l]at g;exact absurd g dc_
 refine UM 2 [7,8,33] U ?_;refine G.cd (fun n=>?_) fun n=>?_
 ·exact absurd n dc_
 refine UM 3 [4,5] U ?_;refine U1 (G.dropAll (Vn U3 ?_));exact⟨U,U⟩
def wE (lo hi:Int)(n:Nat):List Nat:=(List.range n).filter fun k:Nat=>decide (lo<=(k:Int)/\(k:Int)<hi)
def FK (col:List Lay)(o:Obs):Int:=if o.kind=1 then kg (isU o.upper) col 0-1 else kg (isU o.lower) col 0
def FL (col:List Lay)(o:Obs):Int:=if o.kind=1 then kg (isU o.upper) col 0+1 else kg (isU o.upper) col 0
def cG (col:List Lay)(o:Obs):List Nat:=wE (FK col o) (FL col o) (col.length-1)
theorem Jg {a b:Int}(j:max a 0<=(i:Int))(l:(i:Int)<=max (max a 0) (min b n))(o:min b (n:Int)<=(i:Int)):(List.range i).filter (fun k:Nat=>decide (a<=(k:Int)))=wE a b n:=by
 unfold wE;have hs:∀ m:Nat,(List.range (i+m)).filter (fun k:Nat=>decide (a<=(k:Int)/\(k:Int)<b/\k<n))=(List.range i).filter (fun k:Nat=>decide (a<=(k:Int)/\(k:Int)<b/\k<n)):=by
  intro m;induction m with
 |zero=>rfl
 |succ m c =>
   rw[show i+(m+1)=i+m+1 by omega,Sn,SM,c,List.filter_cons];rw[aF (by simp only[Rj];omega)];simp
 have f:(List.range i).filter (fun k:Nat=>decide (a<=(k:Int)))=(List.range i).filter (fun k:Nat=>decide (a<=(k:Int)/\(k:Int)<b/\k<n)):=by
  refine List.filter_congr (fun k d=>?_);rw[Rv]at d;rw[RY];omega
 have g:(List.range n).filter (fun k:Nat=>decide (a<=(k:Int)/\(k:Int)<b))=(List.range n).filter (fun k:Nat=>decide (a<=(k:Int)/\(k:Int)<b/\k<n)):=by
  refine List.filter_congr (fun k d=>?_);rw[Rv]at d;rw[RY];omega
 rw[f,g];rcases Nat.le_total i n with e|e
 ·obtain⟨m,rfl⟩:=Nat.exists_eq_add_of_le e;exact(hs m).symm
 have h:∀ m:Nat,(List.range (n+m)).filter (fun k:Nat=>decide (a<=(k:Int)/\(k:Int)<b/\k<n))=(List.range n).filter (fun k:Nat=>decide (a<=(k:Int)/\(k:Int)<b/\k<n)):=by
  intro m;induction m with
 |zero=>rfl
 |succ m c =>
   rw[show n+(m+1)=n+m+1 by omega,Sn,SM,c,List.filter_cons];rw[aF (by simp only[Rj];omega)];simp
 obtain⟨m,rfl⟩:=Nat.exists_eq_add_of_le e;exact h m
theorem ta (p:α->Bool)(l:List α):-1<=kg p l 0/\kg p l 0<=(l.length:Int):=by
 rcases nL p l with⟨h,_⟩|⟨i,x,h,h2,_⟩
 ·omega
 have:=(aT.1 h2).1;omega
theorem zi (C:Mem)(_ac:Tabs C)(F:Value)(B:Bk)(o:Obs)(q:BookIn C F B)(ad:B.col.length<=1000)(M:B.col≠[]) :
  Pur cx.P 291 [F,.agg ⟨sd o⟩] C fun u D=>Sl D 1 u ((cG B.col o).map aW):=by
 obtain⟨v1,v2,tv,cv,ov,rfl,h1,h2,h3,h4,h5⟩:=id q.ex;obtain⟨A4,c4,rfl,N,ae,_⟩:=id h4;have af:=mx_
 have ag:=RX.2 M;have O:=ta (isU o.lower) B.col;have Q:=ta (isU o.upper) B.col;obtain⟨lw,H⟩:∃ z,kg (isU o.lower) B.col 0=z:=⟨_,rfl⟩;obtain⟨up,I⟩:∃ z,kg (isU o.upper) B.col 0=z:=⟨_,rfl⟩;obtain⟨lo,b⟩:∃ z,FK B.col o=z:=⟨_,rfl⟩;obtain⟨c,d⟩:∃ z,FL B.col o=z:=⟨_,rfl⟩;obtain⟨n,S⟩:∃ n,B.col.length-1=n:=⟨_,rfl⟩;unfold cG;rw[b,d,S];unfold FK at b;unfold FL at d;rw[H]at O b;rw[I]at Q b d;simp only[au]at h4 N⊢;have ah:-2<=lo/\lo<=1000:=by rw[<- b];split <;> omega
 have ai:-2<=c/\c<=1001:=by rw[<- d];split <;> omega
 refine UU func291 43 U3 fun w0=>?_;refine UQ fun R a=>?_;refine Vd U6 (fun J=>?_);refine Vd U6 (fun b3=>?_);refine C6 1 [2,3] a U ?_;clear a R;refine G.freeze 1 U (fun _ _ s=>?_);refine G.freeze 0 U (fun K _ t=>?_);refine Vg [0,1,2,3,4,5,6,7,8,9,10,11] [(4,1),(9,1)] U kr_ (fun R q a=>?_);refine UP U6 ?_;refine UO (bkT s 1) U8 ?_;refine UP U6 ?_;refine UO (bkT t 1) U8 ?_;refine Vh (fun _=>(by have h:=kz K _ B.col o.lower h4.m_;rw[H]at h;exact h)) U9 ?_;refine UP U6 ?_;refine UO (bkT s 1) U8 ?_;refine UP U6 ?_;refine UO (bkT t 1) U8 ?_;refine Vh (fun _=>(by have h:=kz K _ B.col o.upper h4.m_;rw[I]at h;exact h)) U9 ?_;refine UR 2 U ?_;refine US [2,3,5,6] a U ?_;clear a q R;refine UN 1 U fun R a=>?_;refine UO (bkT t 1) U8 ?_;refine C6 1 [2,5,6,21] a U ?_;clear a R;refine G.cut (fun fr T g v=>(True)/\fr=[(2,[],p_ J),(5,[],i_ lo),(6,[],i_ c)]/\g=[]) ?_ (fun fr _ aj v _ x=>?_)
 ·refine G.cd (fun l=>?_) fun l=>?_
  ·have f:o.kind=1:=dW l;rw[aJ f]at b d;subst b d;refine UN 1 U fun R a=>?_;refine UV _ U U6 ?_;refine UP U6 ?_;refine UV _ U U6 ?_;refine C6 2 [2,5,6] a U ?_;clear a R;refine Vb 0 l_ (hn_ [2,5,6] U) ⟨trivial,U,U⟩
  have f:¬ o.kind=1:=by
   intro e;rw[show((o.kind == 1)=true) by rw[e];rfl]at l;cases l
  rw[aF f]at b d;subst b d;refine Vb 0 l_ (hn_ [2,5,6] U) ⟨trivial,U,U⟩
 obtain⟨_,rfl,rfl⟩:=x;refine UM 1 [2,5,6,7] U ?_;obtain⟨p,V⟩:∃ p:Nat,max lo 0=(p:Int):=⟨(max lo 0).toNat,by omega⟩;refine UN 1 U fun R a=>?_;refine D.max (((p:Nat):Int)) U6 V U2 ?_;refine C6 1 [2,6,7,8] a U ?_;clear a R;refine G.nilArr 3 1 ?_;refine G.loop (fun fr T g v=>∃ (i:Nat)(out:List Nat)(w:Value),(max lo 0<=(i:Int)/\(i:Int)<=max (max lo 0) (min c n)/\out=(List.range i).filter (fun k:Nat=>decide (lo<=(k:Int))))/\fr=[(2,[],p_ J),(6,[],i_ c),(7,[],w),(8,[],i_ i)]/\g=[.arr w 3 1 out.length (out.map aW).flatten]/\v=2000-i) (hn_ [2,6,7,8] U) ⟨p,[],_,⟨by omega,by omega,by
  symm;rw[List.filter_eq_nil_iff];intro k f;rw[Rv]at f;simp only[Rj];omega⟩,rfl,rfl,rfl⟩ (fun fr al am m _ x=>?_)
 obtain⟨i,out,w,⟨W,X,A⟩,rfl,rfl,rfl⟩:=x;refine UN 3 U fun R a=>?_;refine UO (bkT s 1) U8 ?_;refine UP U6 ?_;refine UV _ U U6 ?_;refine D.min ((min c (n:Int))) U6 om_ U2 ?_;refine C6 1 [2,6,7,8,35] a U ?_;clear a R;refine G.cd (fun E=>?_) fun E=>?_
 ·have an:(i:Int)<min c (n:Int):=Qw E;have ao:out.length<=i:=by
   rw[A];exact Rn (SS _ _) ak
  have Y:(List.range (i+1)).filter (fun k:Nat=>decide (lo<=(k:Int)))=out++[i]:=by
   rw[Sn,SM,<- A,List.filter_cons,aJ (by simp only[Rj];omega)];rfl
  refine UN 2 U fun R a=>?_;refine Vj [aW i] U12 (fun ap _ _ Z=>?_);refine D.append (j:=0) U11 Z U ax q_ fl_ (fun L=>?_);refine C6 1 [2,6,7,8] a U ?_;clear a R;refine UN 1 U fun R a=>?_;refine UV _ U U6 ?_;refine C6 1 [2,6,7,8] a U ?_;clear a R;refine Vc (L':=[.arr L 3 1 (out++[i]).length ((out++[i]).map aW).flatten]) (by simp[aW]) ?_;refine U0 (m':=2000-(i+1)) om_ mup (hn_ [2,6,7,8] U) ⟨i+1,out++[i],L,⟨by omega,by omega,Y.symm⟩,U,U,U⟩
 have aa:min c (n:Int)<=(i:Int):=by
  have:=Rc E;omega
 refine UM 2 [4] U ?_;refine G.freezeArr 0 (out.map aW) U2 e_ ak (fun Cg hg ab=>?_);refine UT U2 ?_;exact⟨U,by rw[<- Jg W X aa,<- A];exact ab⟩
theorem wC (C:Mem)(j:Tabs C)(k:Value)(B:Bk)(i:Nat)(o:Obs)(d:BookIn C k B)(p:Good B.pts B.tris)(q:BookR B)(a:iP B=0)(l:B.obs[i]?=some o) :
  Pur cx.P 244 [k,i_ i] C fun u D=>∃ v,u=.tuple #[v,i_ 0]/\Sl D 1 v ((cG B.col o).map aW):=by
 have f:=d;have r:=(aT.1 l).1;have b:sh B.col=0:=by
  unfold iP at a;split at a
  ·rename_i h;exact absurd a h
  split at a
  ·rename_i h;exact absurd a h
  rename_i h;exact RB h
 have m:B.col≠[]:=by
  intro e;rw[e]at b;exact absurd b dc_
 have s:B.col.length<=1000:=by
  unfold sh at b;rw[aF m]at b;split at b
  ·exact absurd b dc_
  omega
 obtain⟨y,z,A,E,F,rfl,h1,h2,h3,h4,h5⟩:=id d.ex;obtain⟨H,I,rfl,t,J,_⟩:=id h5;have K:=mx_
 simp only[au]at h5 t f⊢;refine UU func244 20 U3 fun w0=>UQ fun R c=>Vd U6 fun L=>C6 2 [1,2] c U<|G.freeze 0 U fun _ _ g=>UQ fun R c=>UO (bkT g 5) U8<|UP U6<|UZ (mS _ j.m_ _ B f.m_ p q a i r) U7<|C6 1 [1,2,6] c U<|UM 2 [1,2,6,11] U<|G.cd (fun n=>?_) fun n=>?_
 ·exact absurd n dc_
 refine Vg [0,1,2,3,4,5,6,7,8] [] U kr_ fun R d c=>UO (bkT g 5) U8<|UP U6<|UO (bkT g 1) U8<|UP U6<|Va h5.m_ U10 om_ (cA l) fl_ fun M w=>UO w U8<|Vu (zi _ j.m_ _ B o f.m_ s m) U7 fun N _ _ x=>UR 2 U<|US [4,5] c U ?_;clear c d R;refine U1 (G.dropAll (Vn U3 ?_));exact⟨U,_,U,x⟩
theorem GU (x y:Nat)(a:x<18446744073709551616)(b:y<18446744073709551616)(C:Mem):Gives cx.P 128 [.int .u64 x,.int .u64 y] C (.tuple #[.int .u64 ((x*y / 18446744073709551616:Nat):Int),.int .u64 ((x*y % 18446744073709551616:Nat):Int)]) :=
 Gives.ofCalls kr_ (fun w=>Any.bits_Mul Tryz.mul x y a b w) C
theorem fM {a:Value}{b:List Value}(_d:k+m<=n)(c:m<=k)(_e:b.length=n-k) :
  aE (List.replicate k a++b) ((List.replicate k a++b).take m) k=List.replicate (k+m) a++b.drop m:=by
 have h1:(List.replicate k a++b).take m=List.replicate m a:=by
  rw[List.take_append_of_le_length (by simpa using c),List.take_replicate,Sa c]
 have h2:(List.replicate k a++b).take k=List.replicate k a:=by
  rw[List.take_append_of_le_length ak,List.take_replicate,Nat.min_self]
 have h3:(List.replicate k a++b).drop (k+m)=b.drop m:=by
  rw[TX,RI,S2 ak,Ti];congr 1;omega
 unfold aE;rw[h1,h2,RI,h3,List.replicate_append_replicate]
theorem Bj (a:Value)(n:Nat):kR [a] n=List.replicate n a:=by
 rw[fe];induction n with
|zero=>rfl
|succ n b=>rw[Sd,Si,b,Sd];rfl
theorem mf (n:Nat)(a:n<18446744073709551616)(C:Mem):Gives cx.P 128 [.int .u64 (1:Int),.int .u64 n] C (.tuple #[.int .u64 0,.int .u64 n]):=by
 have h:=GU 1 n om_ a C;have b:1*n / 18446744073709551616=0:=by omega
 have c:1*n % 18446744073709551616=n:=by omega
 rw[b,c]at h;exact h
theorem nB (C:Mem)(v:Value)(n:Nat)(s:Str)(g:Sl C 1 v [[af s]])(y:n<=1000000):Jog.Fn cx.P 64 [v,i_ n] C [] fun u _z e=>∃ b,u=s_ b n n/\e=[.arr u 32 1 n (List.replicate n (af s))]:=by
 have p:=g;obtain⟨A,c,rfl,_⟩:=p;refine UU func64 48 U3 fun w0=>UM 1 [0,1] U<|UM 2 [0,1,10] U<|G.cd (fun h=>?_) fun h=>?_
 ·simp at h;omega
 refine UN 2 U fun R d=>Vz (c:=1) U8 U fl_<|UP U6<|Vz (c:=(n:Int)) U8 g_ fl_<|UY (mf n om_ _) U7 fl_<|C6 5 [0,5,6] d U<|UN 5 U fun R d=>Vq U8<|US [0,6,26] d U<|G.cd (fun i=>?_) fun i=>?_
 ·simp at i;omega
 refine UN 1 U fun R d=>Vz (c:=(n:Int)) U8 f_ fl_<|VQ U9 (Q7 _) (by show 16*n<=281474976710656;omega) y_ fl_ fun a=>C6 1 [0,7] d U<|UN 2 U fun R d=>Wp (j:=0) (q:=min 1 n) U12 g U2 (by rw[cW];show 0+min 1 n*1<=n*1;omega) fl_<|C6 1 [7,8] d U ?_;have r:aE (kR [af []] n) (([[af s]]:List (List Value)).take (min 1 n)).flatten 0=List.replicate (min 1 n) (af s)++List.replicate (n-min 1 n) (af []):=by
  rw[Bj];cases n with
 |zero=>rfl
 |succ n=>rw[show min 1 (n+1)=1 by omega,Sd];rfl
 refine Vc (L':=[.arr (s_ a n n) 32 1 n (List.replicate (min 1 n) (af s)++List.replicate (n-min 1 n) (af []))]) (by rw[<- r];rfl)<|G.loop (fun fr B e t=>∃ (k:Nat),(k<=n/\min 1 n<=k)/\fr=[(7,[],s_ a n n),(8,[],i_ k)]/\e=[.arr (s_ a n n) 32 1 n (List.replicate k (af s)++List.replicate (n-k) (af []))]/\t=n-k) (hn_ [7,8] U) ⟨min 1 n,⟨Nat.min_le_right _ _,Q7 _⟩,U,U,U⟩ (fun fr D E m w x=>?_);obtain⟨k,⟨l,F⟩,rfl,rfl,rfl⟩:=x;refine UM 4 [7,8,37] U<|G.cd (fun f=>?_) fun f=>?_
 ·simp only[Rj]at f;have o:k<n:=by omega
  have H:1<=k:=by omega
  refine Vg [0,1,2,3,4,5,6,7,8,9] [] U kr_ fun R I d=>UR 3 U<|VH k n n U12 (fun _=>⟨.inr ⟨_,U⟩,.inl ⟨U,U⟩,.inl ⟨U,U⟩,l,Q7 _,Q7 _⟩) U2<|UR 2 U<|VH 0 k n U12 (fun _=>⟨.inl ⟨U,U⟩,.inr ⟨_,U⟩,.inl ⟨U,U⟩,Re _,l,Q7 _⟩) U2 ?_;refine Wo (j:=0) (off:=k) (g0:=a) (dl:=n-k) (dc:=n-k) (sl:=k-0) (sc:=n-0) (q:=min k (n-k)) U8 (by show some (Value.slice (if n=k then some (⟨a,0,none⟩:Addr) else (some (⟨a,0,none⟩:Addr)).map (·.add (k*1))) (n-k) (n-k))=_;rw[aF om_];simp[Addr.add_lit]) (by show some (Value.slice (if n=0 then some (⟨a,0,none⟩:Addr) else (some (⟨a,0,none⟩:Addr)).map (·.add (0*1))) (k-0) (n-0))=_;split <;> simp[Addr.add_lit]) U2 (by simp[lF,af]) ap fl_ ?_;refine Vt (((k+min k (n-k):Nat):Int)) U4 om_ om_ om_ U2<|C6 1 [7,8] d U<|Vc (L':=[.arr (s_ a n n) 32 1 n (List.replicate (k+min k (n-k)) (af s)++List.replicate (n-(k+min k (n-k))) (af []))]) (by rw[fM (n:=n) om_ (Nat.min_le_left _ _) ak,List.drop_replicate,Nat.sub_sub];rfl)<|U0 (m':=n-(k+min k (n-k))) om_ w (hn_ [7,8] U) ⟨k+min k (n-k),⟨by omega,by omega⟩,U,U,U⟩
 simp only[RJ]at f;have o:k=n:=by omega
 subst o;refine UM 2 [4] U<|U1 (Vx U U ?_);exact⟨a,U,by simp⟩
theorem nC (C:Mem)(v:Value)(n:Nat)(s:Str)(g:Sl C 1 v [[af s]])(y:n<=1000000):Jog.Fn cx.P 292 [v,i_ n] C [] fun u _z e=>∃ b,u=s_ b n n/\e=[.arr u 32 1 n (List.replicate n (af s))]:=by
 have p:=g;obtain⟨A,c,rfl,_⟩:=p;refine UU func292 48 U3 fun w0=>UM 1 [0,1] U<|UM 2 [0,1,10] U<|G.cd (fun h=>?_) fun h=>?_
 ·simp at h;omega
 refine UN 2 U fun R d=>Vz (c:=1) U8 U fl_<|UP U6<|Vz (c:=(n:Int)) U8 g_ fl_<|UY (mf n om_ _) U7 fl_<|C6 5 [0,5,6] d U<|UN 5 U fun R d=>Vq U8<|US [0,6,26] d U<|G.cd (fun i=>?_) fun i=>?_
 ·simp at i;omega
 refine UN 1 U fun R d=>Vz (c:=(n:Int)) U8 f_ fl_<|VQ U9 (Q7 _) (by show 16*n<=281474976710656;omega) y_ fl_ fun a=>C6 1 [0,7] d U<|UN 2 U fun R d=>Wp (j:=0) (q:=min 1 n) U12 g U2 (by rw[cW];show 0+min 1 n*1<=n*1;omega) fl_<|C6 1 [7,8] d U ?_;have r:aE (kR [af []] n) (([[af s]]:List (List Value)).take (min 1 n)).flatten 0=List.replicate (min 1 n) (af s)++List.replicate (n-min 1 n) (af []):=by
  rw[Bj];cases n with
 |zero=>rfl
 |succ n=>rw[show min 1 (n+1)=1 by omega,Sd];rfl
 refine Vc (L':=[.arr (s_ a n n) 32 1 n (List.replicate (min 1 n) (af s)++List.replicate (n-min 1 n) (af []))]) (by rw[<- r];rfl)<|G.loop (fun fr B e t=>∃ (k:Nat),(k<=n/\min 1 n<=k)/\fr=[(7,[],s_ a n n),(8,[],i_ k)]/\e=[.arr (s_ a n n) 32 1 n (List.replicate k (af s)++List.replicate (n-k) (af []))]/\t=n-k) (hn_ [7,8] U) ⟨min 1 n,⟨Nat.min_le_right _ _,Q7 _⟩,U,U,U⟩ (fun fr D E m w x=>?_);obtain⟨k,⟨l,F⟩,rfl,rfl,rfl⟩:=x;refine UM 4 [7,8,37] U<|G.cd (fun f=>?_) fun f=>?_
 ·simp only[Rj]at f;have o:k<n:=by omega
  have H:1<=k:=by omega
  refine Vg [0,1,2,3,4,5,6,7,8,9] [] U kr_ fun R I d=>UR 3 U<|VH k n n U12 (fun _=>⟨.inr ⟨_,U⟩,.inl ⟨U,U⟩,.inl ⟨U,U⟩,l,Q7 _,Q7 _⟩) U2<|UR 2 U<|VH 0 k n U12 (fun _=>⟨.inl ⟨U,U⟩,.inr ⟨_,U⟩,.inl ⟨U,U⟩,Re _,l,Q7 _⟩) U2 ?_;refine Wo (j:=0) (off:=k) (g0:=a) (dl:=n-k) (dc:=n-k) (sl:=k-0) (sc:=n-0) (q:=min k (n-k)) U8 (by show some (Value.slice (if n=k then some (⟨a,0,none⟩:Addr) else (some (⟨a,0,none⟩:Addr)).map (·.add (k*1))) (n-k) (n-k))=_;rw[aF om_];simp[Addr.add_lit]) (by show some (Value.slice (if n=0 then some (⟨a,0,none⟩:Addr) else (some (⟨a,0,none⟩:Addr)).map (·.add (0*1))) (k-0) (n-0))=_;split <;> simp[Addr.add_lit]) U2 (by simp[lF,af]) ap fl_ ?_;refine Vt (((k+min k (n-k):Nat):Int)) U4 om_ om_ om_ U2<|C6 1 [7,8] d U<|Vc (L':=[.arr (s_ a n n) 32 1 n (List.replicate (k+min k (n-k)) (af s)++List.replicate (n-(k+min k (n-k))) (af []))]) (by rw[fM (n:=n) om_ (Nat.min_le_left _ _) ak,List.drop_replicate,Nat.sub_sub];rfl)<|U0 (m':=n-(k+min k (n-k))) om_ w (hn_ [7,8] U) ⟨k+min k (n-k),⟨by omega,by omega⟩,U,U,U⟩
 simp only[RJ]at f;have o:k=n:=by omega
 subst o;refine UM 2 [4] U<|U1 (Vx U U ?_);exact⟨a,U,by simp⟩
theorem gi (C:Mem)(s p:Nat)(h:s*p<=100000):Jog.Fn cx.P 241 [gl s p] C [] fun u _f c=>∃ b,u=s_ b (s*p:Nat) (s*p:Nat)/\c=[.arr u 32 1 (s*p) (List.replicate (s*p) (af [48]))]:=by
 refine UU func241 7 U3 fun w0=>UQ fun R a=>Vd U6 fun g=>C6 1 [1] a U<|Vl [(3,3)] U fun R a=>Vj [[af [48]]] U12 fun i _ _ d=>UW ag U9<|UY (ji _ s p om_) U7 fl_<|D.call (nB _ _ (s*p) [48] d.m_ om_) U (.inr dc_) U6 (Rh _) fl_ fun j _ k _ e=>C6 1 [2] a U ?_;obtain⟨b,rfl,rfl⟩:=e;refine VC 1 U<|U1 (Vx U U ?_);exact⟨b,U,U⟩
def ofE (z:Int)(s p:Nat):Int:=if z≠0 then z else if 60<s*p then 4 else 0
def ofS (e:Int)(s p:Nat):Value:=if e=0 then gl s p else gl 0 0
structure BookZ (C:Mem)(bv:Value)(B:Bk)(z:Int):Prop where
 i:BookIn C bv B
 ch:∀ D:Mem,C.le D->Gives cx.P 181 [bv] D (.int .i64 z)
 ne:z=0->B.col≠[]
 lc:B.col.length<=1000
 lp:B.pts.length<=400
theorem BookZ.mono {C D:Mem}{a:Value}{B:Bk}{z:Int}(h:BookZ C a B z)(c:C.le D):BookZ D a B z:=⟨h.i.mono c,fun E d=>h.ch E (fun b o e=>d b o (c b o e)),h.ne,h.lc,h.lp⟩
theorem BookZ.m_ {D:Mem}{B:Bk}(h:BookZ C bv B z)(a:C.le D:=by exact mup):BookZ D bv B z:=BookZ.mono h a
def bs (B:Bk):Nat:=B.col.length-1
def bp (B:Bk):Nat:=B.pts.length
theorem Ph {B:Bk}(h:BookZ C bv B z):bs B*bp B<=400000:=by
 have h1:=h.lc;have h2:=h.lp;have:bs B*bp B<=1000*400:=Su (by unfold bs;omega) (by unfold bp;omega);omega
theorem PP (C:Mem)(l:Value)(B:Bk)(z:Int)(c:BookZ C l B z):Gives cx.P 113 [l] C (.tuple #[ofS (ofE z (bs B) (bp B)) (bs B) (bp B),i_ (ofE z (bs B) (bp B))]):=by
 obtain⟨n,o,p,q,r,rfl,h1,h2,h3,h4,h5⟩:=id c.i.ex;obtain⟨s,t,rfl,u,v,_⟩:=id h1;obtain⟨w,x,rfl,y,A,_⟩:=id h4;have D:=Ph c;have E:=c.lc;have m:=c.ch;have F:=mx_
 simp only[au]at m⊢;refine UU func113 26 U3 fun w0=>UQ fun R a=>Vd U6 fun H=>Ve U5 fun I=>C6 1 [1,2] a U<|G.freeze 1 U fun _ _ g=>UQ fun R a=>UO (bkT g 5) U8<|UZ (m _ mup) U7<|C6 1 [1,2,4] a U<|UM 2 [1,2,4,9] U<|G.cd (fun f=>?_) fun f=>?_
 ·have b:z≠0:=by
   intro e;rw[e]at f;exact absurd f dc_
  have d:ofE z (bs B) (bp B)=z:=by unfold ofE;rw[aJ b]
  refine UQ fun R a=>Vf [i_ 0,i_ 0] U8<|UP U6<|UX (j:=0) U12<|C6 1 [2,3] a U<|U1 (V4 ag U5 ?_);exact⟨by rw[d];unfold ofS;rw[aF b];rfl,U⟩
 have b:z=0:=by simpa using f
 have J:=RX.2 (c.ne b);have K:bs B+1=B.col.length:=by unfold bs;omega
 refine UN 1 U fun R a=>UO (bkT g 1) U8<|UP U6<|Vt (((bs B:Nat):Int)) U4 om_ om_ om_ U2<|UR 2 U<|UO (bkT g 1) U8<|UP U6<|Vf [i_ (bs B:Nat),i_ (bp B:Nat)] U8<|Ve U5 fun L=>UX (j:=0) U12<|US [2,5] a U<|UQ fun R a=>UW ag U9<|UY (ji _ (bs B) (bp B) om_) U7 fl_<|C6 1 [2,5,23] a U<|G.cd (fun h=>?_) fun h=>?_
 ·have k:60<bs B*bp B:=by
   have:=Qw h;omega
  have d:ofE z (bs B) (bp B)=4:=by unfold ofE;rw[b,aF dc_,aJ k]
  refine UQ fun R a=>Vf [i_ 0,i_ 0] U8<|UX (j:=1) U12<|C6 1 [2,3] a U<|U1 (V4 ag U5 ?_);exact⟨by rw[d];rfl,U⟩
 have k:¬ 60<bs B*bp B:=by
  have:=Rc h;omega
 have d:ofE z (bs B) (bp B)=0:=by unfold ofE;rw[b,aF dc_,aF k]
 refine UQ fun R a=>UW ag U9<|UX (j:=1) U12<|C6 1 [2,3] a U<|U1 (V4 ag U5 ?_);exact⟨by rw[d];rfl,U⟩
theorem K4 (C:Mem)(c:Value)(B:Bk)(z:Int)(b:BookZ C c B z):Gives cx.P 92 [c] C (.tuple #[i_ (if ofE z (bs B) (bp B)=0 then ((bs B*bp B:Nat):Int) else 0),i_ (ofE z (bs B) (bp B))]):=by
 have s:=Ph b;have g:=b;obtain⟨k,l,m,n,o,rfl,h1,h2,h3,h4,h5⟩:=id b.i.ex;obtain⟨e,d⟩:∃ e,ofE z (bs B) (bp B)=e:=⟨_,rfl⟩;have f:∀ D:Mem,C.le D->Gives cx.P 113 [.agg ⟨[k,l,m,n,o]⟩] D (.tuple #[ofS e (bs B) (bp B),i_ e]):=fun D p=>by have h:=PP D _ B z (g.mono p);rwa [d]at h
 rw[d];have q:ofS e (bs B) (bp B)=.agg ⟨[i_ (if e=0 then ((bs B:Nat):Int) else 0),i_ (if e=0 then ((bp B:Nat):Int) else 0)]⟩:=by unfold ofS gl;split <;> rfl
 have r:∀ D:Mem,Gives cx.P 149 [.agg ⟨[i_ (if e=0 then ((bs B:Nat):Int) else 0),i_ (if e=0 then ((bp B:Nat):Int) else 0)]⟩] D (i_ (if e=0 then ((bs B*bp B:Nat):Int) else 0)):=fun D=>by
  by_cases h:e=0
  ·rw[aJ h,aJ h,aJ h];exact ji D (bs B) (bp B) om_
  rw[aF h,aF h,aF h];exact ji D 0 0 om_
 rw[q]at f;refine UU func92 14 U3 fun w0=>UQ fun R a=>Vd U6 fun t=>C6 2 [1] a U<|UQ fun R a=>UW ag U9<|UZ (f _ mup) U7<|UR 3 U<|Ve U5 fun u=>UX (j:=0) U12<|C6 1 [4,5] a U<|UQ fun R a=>UW ag U9<|UZ (r _) U7<|C6 3 [2,3] a U<|U1 (G.dropAll (Vn U3 ?_));exact⟨U,U⟩
theorem NN (C:Mem)(a:Value)(B:Bk)(b:BookZ C a B 0)(c:bs B*bp B<=60):Gives cx.P 113 [a] C (.tuple #[gl (bs B) (bp B),i_ 0]):=by
 have h:=PP C a B 0 b;have e:ofE 0 (bs B) (bp B)=0:=by unfold ofE;rw[aF dc_,aF om_]
 rw[e]at h;exact h
def sH (n:Nat)(done:List (Nat × Rat)):List Rat:=(List.range n).map fun j=>(dZ done j).getD 0
def lH (n:Nat)(done:List (Nat × Rat)):List Value:=(sH n done).map fun q=>af (qtx q)
theorem mI (n:Nat):List.replicate n (af [48])=lH n []:=by
 unfold lH sH;rw[R8];symm;rw[List.eq_replicate_iff];refine⟨by simp,fun v a=>?_⟩;obtain⟨j,_,rfl⟩:=Ra.1 a;show af (qtx 0)=_;rw[qtx_zero]
theorem mJ (n:Nat)(a:List (Nat × Rat)):(lH n a).length=n:=by simp[lH,sH]
theorem fH {a:Nat}(b:List (Nat × Rat))(q:Rat)(h:a<n):aE (lH n b) [af (qtx q)] a=lH n ((a,q)::b):=by
 have g:=mJ n b;unfold aE;refine List.ext_getElem? (fun j=>?_);have f:∀ (d:List (Nat × Rat)),(lH n d)[j]?=if j<n then some (af (qtx ((dZ d j).getD 0))) else none:=fun d=>by
  unfold lH sH;rw[R8,Rb];split
  ·rename_i c;rw[RK c];rfl
  rename_i c;rw[Ri (by simpa using Nat.le_of_not_lt c)];rfl
 rw[f ((a,q)::b)];have e:((lH n b).take a).length=a:=by rw[Ro,g];omega
 rcases Nat.lt_trichotomy j a with c|rfl|c
 ·rw[RL,R0 (by rw[e];exact c),R2,aJ c,f b,aJ om_,aJ om_];simp only[dZ];rw[aF om_]
 ·rw[RL,RD (by rw[e];exact Q7 _),e,T0,aJ h];simp[dZ]
 rw[RD (by rw[Rf,e];simp;omega),Rf,e,List.getElem?_drop];rw[show a+[af (qtx q)].length+(j-(a+[af (qtx q)].length))=j by simp;omega,f b];split
 ·simp only[dZ];rw[aF om_]
 rfl
theorem xd {d a:List (Nat × Rat)}(h:d.Perm a)(b:(d.map (·.1)).Nodup):sH n d=sH n a:=by
 unfold sH;refine List.map_congr_left (fun j _=>?_);rw[xM h b]
def eO (fm:List (Nat × Rat)):List (Int × Value):=fm.map fun x=>(((x.1:Nat):Int),af (qtx x.2))
def IY (p surface:Nat)(sign:Rat)(x:Nat × Rat):Nat × Rat:=(surface*p+x.1,sign*x.2)
theorem nG:QB 1 (-1:Rat):=eP QB_one
theorem zu (C:Mem)(s p a k:Nat)(h:a*p+k<=1000000):Gives cx.P 240 [gl s p,i_ (a:Nat),i_ (k:Nat)] C (i_ ((a*p+k:Nat):Int)):=by
 have e:((a:Nat):Int)*(p:Nat)=((a*p:Nat):Int):=(RF _ _).symm;have h2:=Pp C s p (a:Nat) (k:Nat) (by rw[e];omega) om_;rw[e,<- TP]at h2;exact h2
def JH (s p surface:Nat)(fm:List (Nat × Rat))(sign:Rat):List Rat:=sH (s*p) (fm.map (IY p surface sign))
theorem Px (C:Mem)(J:Tabs C)(s p f b:Nat)(c:List (Nat × Rat))(g o:Rat)(k:Nat)(K:0<k)(hk:k<=1000)(ab:s*p<=100000)(hs:f<s)(A:C b=some (aY keyZ.enc (eO c)))(ac:(c.map (·.1)).Nodup)(ad:∀ x∈c,x.1<p)(ae:∀ x∈c,QB k x.2)(L:QB k g)(ah:QB k o) :
  Pur cx.P 246 [gl s p,i_ f,.map (some b),af (qtx g),af (qtx o)] C fun u D=>∃ v,u=.agg ⟨[v,af (qtx (g*o))]⟩/\Sl D 1 v ((JH s p f c g).map eE):=by
 have aw:=mx_
 have M:(eO c).length=c.length:=by simp[eO]
 have ax:f*p+p<=s*p:=by
  rw[<- Nat.succ_mul];exact RV _ hs
 have ay:=(c.map (·.1)).length;refine UU func246 38 U3 fun w0=>UQ fun R l=>Vd U6 fun b5=>Ve U5 fun z=>US [1,2,3,4,5,10] l U<|G.freeze 1 U fun _ _ N=>Vl [(1,3)] U fun R l=>UO (bkT N 2) U8<|D.call (gi _ s p ab) U (.inr dc_) U6 (Rh _) fl_ (fun az _ aA _ aj=>?_);obtain⟨bz,rfl,rfl⟩:=aj;refine UR 2 U<|UY (cP _ J.m_ g o k K om_ L ah) U7 fl_<|Vf [s_ bz (s*p:Nat) (s*p:Nat),af (qtx (g*o))] U8<|Ve U5 fun ak=>UX (j:=0) U12<|US [1,2,3,5,10,11] l U<|G.freeze 0 U fun _ _ O=>Vc (L':=[.arr (s_ bz (s*p) (s*p)) 32 1 (s*p) (lH (s*p) []),.obj z (.cells ⟨[.slice none 0 0,af []]⟩ 140 (0,0))]) (by rw[mI];rfl)<|UN 1 U fun R l=>W6 keyZ (Mem.get A mup) U U U U U U U fl_ fun E=>US [1,3,5,10,11,21] l U<|G.loop (fun fr C' B μ=>∃ (seen:List Nat),(seen.Nodup/\(∀ j∈seen,j<c.length))/\fr=[(1,[],i_ f),(3,[],af (qtx g)),(5,[],p_ b5),(10,[],p_ z),(11,[],p_ ak),(21,[],p_ E)]/\B=[.obj E (bl b (eO c).length seen),.arr (s_ bz (s*p) (s*p)) 32 1 (s*p) (lH (s*p) (seen.reverse.map fun i=>IY p f g (c.getD i (0,0)))),.obj z (.cells ⟨[.slice none 0 0,af []]⟩ 140 (0,0))]/\μ=c.length-seen.length) (hn_ [1,3,5,10,11,21] U) ⟨[],⟨List.nodup_nil,by simp⟩,U,U,U⟩ (fun fr aB aC m _ hI=>?_);obtain⟨seen,⟨Q,S⟩,rfl,rfl,rfl⟩:=hI;refine UQ fun R l=>Xc keyZ (q:=0) (Mem.get A mup) U U U U U U fl_ fun T aD t V=>C6 1 [1,3,5,10,11,21,23] l U<|G.cd (fun w=>?_) fun w=>?_
 ·obtain⟨aE,j,F,al,rfl⟩:T=true/\∃ j,j<(eO c).length/\j ∉ seen/\t=seen++[j]:=by
   rcases V with⟨h1,_⟩|h1
   ·rw[h1]at w;cases w
   exact h1
  rw[M]at F;obtain⟨⟨n,q⟩,H⟩:∃ x,c[j]?=some x:=⟨c[j],ai F⟩;have W:=aM H;have aF:n<p:=ad _ W;have an:QB k q:=ae _ W;have ao:(eO c)[j]?=some (((n:Nat):Int),af (qtx q)):=by unfold eO;rw[Rb,H];rfl
  have ap:c.getD j (0,0)=(n,q):=by rw[am,H];rfl
  have X:(seen++[j]).Nodup:=by
   rw[SJ];exact⟨Q,by simp,fun a ha b hb e=>by rw[Rw.1 hb]at e;subst e;exact al ha⟩
  have Y:∀ i∈seen++[j],i<c.length:=fun i I=>by
   rcases Rr.1 I with h|h
   ·exact S i h
   rw[Rw.1 h];exact F
  have aG:(seen++[j]).length<=c.length:=by
   have:=List.Nodup.length_le_of_subset X (l₂:=List.range c.length) (fun i I=>Rv.2 (Y i I));simpa using this
  have aH:(seen++[j]).length=seen.length+1:=by simp
  have aq:f*p+n<s*p:=by omega
  refine UQ fun R l=>W9 keyZ (Mem.get A mup) ao ag U U U U U U U<|C6 4 [1,3,5,10,11,12,13,21] l U<|Vg [0,1,2,3,4,5,6,7,8,9,10] [(5,1),(8,1)] U kr_ fun R hB l=>UP U6<|UO (bkT O 1) U8<|UO (bkT N 2) U8<|UR 2 U<|Vh (fun _=>(zu _ s p f n om_)) U9<|UR 2 U<|Vh (fun _=>(cP _ J.m_ g q k K om_ L an)) U9<|Vp ((f*p+n)) U10 v_ U2<|Vr (j:=1) U11 (by rw[mJ];simp;omega)<|US [1,3,5,10,11,21] l U<|G.perm (L':=[.obj E (bl b (eO c).length (seen++[j])),.arr (s_ bz (s*p) (s*p)) 32 1 (s*p) (lH (s*p) ((seen++[j]).reverse.map fun i=>IY p f g (c.getD i (0,0)))),.obj z (.cells ⟨[.slice none 0 0,af []]⟩ 140 (0,0))]) (by
   rw[List.reverse_append,List.reverse_singleton,List.singleton_append,RR,ap];unfold IY;rw[<- fH _ _ aq];exact List.Perm.swap _ _ _) ?_
  refine U0 (m':=c.length-(seen++[j]).length) om_ mup (hn_ [1,3,5,10,11,21] U) ⟨seen++[j],⟨X,Y⟩,U,U,U⟩
 obtain⟨aI,rfl,Z⟩:T=false/\t=seen/\∀ j,j<(eO c).length->j∈seen:=by
  rcases V with h1|⟨h1,_⟩
  ·exact h1
  rw[h1]at w;cases w
 rw[M]at Z;have aa:(t.reverse.map fun i=>IY p f g (c.getD i (0,0))).Perm (c.map (IY p f g)):=by
  have h1:=(pT (d:=((0:Nat),(0:Rat))) Q S Z).map (IY p f g);rw[R8]at h1;exact((List.reverse_perm t).map _).trans h1
 have ar:((c.map (IY p f g)).map (·.1)).Nodup:=by
  rw[R8];have e:((·.1) ∘ IY p f g:Nat × Rat->Nat)=(fun k=>f*p+k) ∘ (·.1):=rfl;rw[e,<- R8];rw[List.Nodup,List.pairwise_map];exact ac.imp (fun {a b} h=>by omega)
 have au:lH (s*p) (t.reverse.map fun i=>IY p f g (c.getD i (0,0)))=((JH s p f c g).map eE).flatten:=by
  unfold JH lH;rw[xd aa ((aa.map (·.1)).nodup_iff.2 ar)];exact(eB (fun q=>af (qtx q)) _).symm
 refine VC 0 U<|G.freezeArr 0 ((JH s p f c g).map eE) ⟨rfl,au⟩ e_ (by simp[JH,sH]) fun Cg hg av=>UQ fun R l=>UO (bkT O 2) U8<|UX (j:=0) U12<|US [10] l U<|U1 (VF ag U4 ?_);exact⟨U,_,U,av⟩
end Go.Proofs.YtfjcldheldflbaaGreatDoor
