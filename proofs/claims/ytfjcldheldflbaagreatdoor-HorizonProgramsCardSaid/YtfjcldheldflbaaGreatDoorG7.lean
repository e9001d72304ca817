/- Laws that the proofs of this seat share, part 7. -/
import Derived.Test.YtfjcldheldflbaaGreatDoorG6
import Derived.Test.YtfjcldheldflbaaGreatDoorShelf
set_option maxHeartbeats 4000000
namespace Go.Proofs.YtfjcldheldflbaaGreatDoor
open Go.Proofs.Tryz
open Go Go.Jog
set_option maxRecDepth 100000
variable {a b:Rat}{d g k m n:Nat}{q:Rat}{s:Str}{w z:Int}
theorem bZ (h:n<B9 ^ k)(a:0<k):(bj n).length<=9*k:=eE (by rw [Kj];exact h) om_
theorem zh (h:(txt z).length<=m):z.natAbs<10 ^ m:=by
 have h1:(bj z.natAbs).length<=m:=by
  unfold txt at h;split at h
  ·simp at h;omega
  exact h
 obtain ⟨h2,h3⟩:=bB z.natAbs;have h4:=dP h2.1;rw [h3] at h4;exact Qt h4 (PK dc_ h1)
theorem e18:(10:Nat) ^ 18=1000000000000000000:=by decide
theorem e9:(10:Nat) ^ 9=1000000000:=by decide
theorem xL {a b:Nat}(c:a<B9 ^ k)(d:b<B9 ^ k):a+b<B9 ^ (k+1):=by
 rw [Qu];have:B9 ^ k*2<=B9 ^ k*B9:=QC _ dc_;omega
theorem Mk (C:Mem)(l:Tabs C)(z w:Int)(k:Nat)(v:0<k)(hk:k<=40000)(f:z.natAbs<B9 ^ k)(g:w.natAbs<B9 ^ k):Gives cx.P 158 [af (txt z),af (txt w)] C (af (txt (z+w))):=by
 have aa:=bZ f v;have ab:=bZ g v;refine S4 func158 62 U3 fun w0=>SR 1 [0,1] Z<|SS 1 Z fun R a=>S8 (jA _ z 18 (Pf _)) U7<|C6 5 [0,1,5,6] a Z<|SR 1 [0,1,5,16] Z<|G.cut (fun fr m o p=>(True)/\fr=[(0,[],af (txt z)),(1,[],af (txt w))]/\o=[]) ?_ (fun fr _ ac p _ q=>?_)
 ·refine G.cd (fun x=>?_) fun x=>?_
  ·have y:=OD x;rw [aL y];have L:=zh y;rw [e18] at L;refine SS 1 Z fun R a=>S8 (jA _ w 18 (Pf _)) U7<|C6 5 [0,1,5,7,8] a Z<|SR 1 [0,1,5,7,22] Z<|G.cd (fun A=>?_) fun A=>?_
   ·have B:=OD A;rw [aL B];have M:=zh B;rw [e18] at M;exact SS 2 Z fun R a=>S2 _ Z U6<|Tb (rN _ l.m_ (z+w) om_ om_) U7 fl_<|C6 1 [4] a Z<|S3 U2<|⟨Z,Z⟩
   refine S9 0 (Mem.le.refl _) (hn_ [0,1] Z) ⟨trivial,Z,Z⟩
  refine S9 0 (Mem.le.refl _) (hn_ [0,1] Z) ⟨trivial,Z,Z⟩
 obtain ⟨_,rfl,rfl⟩:=q;refine SS 1 Z fun R a=>To (iO _ z om_) U7 fl_ fun ad _ _ N=>SV U6<|To (iO _ w om_) U7 fl_ fun ah _ _ O=>Te U5 fun D=>Te U5 (fun E=>?_);obtain ⟨pz,rfl,d⟩:=N;obtain ⟨pw,rfl,e⟩:=O;obtain ⟨Az,mz,cz,rfl⟩:=d.form;obtain ⟨Aw,mw,cw,rfl⟩:=e.form;refine S5 (j:=1) U12<|S5 (j:=1) U12<|SY [9,10] a Z<|SS 1 Z fun R a=>S1 ae U9<|SV U6<|S1 ag U9<|C6 1 [9,10,35] a Z<|G.cd (fun r=>?_) fun r=>?_
 ·have i:decide (z<0)=decide (w<0):=by simpa using r
  refine Tg [0,1,2,3,4,5,6,7,8,9] [(8,1)] Z kr_ fun R Q a=>SV U6<|S1 ae U9<|SV U6<|S1 ae U9<|SV U6<|S1 ag U9<|To (Kk (k:=k) _ d.m_ e.m_ f g om_) U7 fl_ (fun ai _ _ F=>?_);obtain ⟨S,T,U,rfl⟩:=F.form;exact Td [.bool (decide (z<0)),_] U8<|Tj (fun _=>(jN _ l.m_ _ _ _ F (dC (k:=100000) (n:=k+1) (xL f g) om_))) U9<|C6 1 [4] a Z<|S3 U2<|⟨by rw [Lb i],Z⟩
 have i:decide (z<0)≠decide (w<0):=by simpa using r
 refine SS 1 Z fun R a=>S1 ae U9<|SV U6<|S1 ag U9<|S8 (pj _ d.m_ e.m_) U7<|C6 1 [9,10,50] a Z<|G.cut (fun fr m o p=>∃ (b c:Int)(s t:Value),(NineC m s b.natAbs/\NineC m t c.natAbs/\c.natAbs<=b.natAbs/\b+c=z+w/\decide (b<0)≠decide (c<0)/\b.natAbs<B9 ^ k)/\fr=[(9,[],.pointer (some ⟨D,0,none⟩)),(10,[],.pointer (some ⟨E,0,none⟩))]/\o=[.obj E (.cells ⟨[.bool (decide (c<0)),t]⟩ 273 (0,0)),.obj D (.cells ⟨[.bool (decide (b<0)),s]⟩ 273 (0,0))]) ?_ (fun fr _ aj p _ q=>?_)
 ·refine G.cd (fun u=>?_) fun u=>?_
  ·have H:z.natAbs<w.natAbs:=by
    have:jB z.natAbs w.natAbs<0:=by simpa using u
    exact iN.1 this
   refine SX fun R a=>S1 ag U9<|S1 ae U9<|S5 (j:=1) U12<|S5 (j:=1) U12<|SY [9,10] a Z<|S9 0 mup (hn_ [9,10] Z) ⟨w,z,_,_,⟨e.mono mup,d.mono mup,by omega,Int.add_comm w z,Ne.symm i,g⟩,Z,Z⟩
  have H:w.natAbs<=z.natAbs:=by
   have h:¬ jB z.natAbs w.natAbs<0:=by simpa using u
   rw [iN] at h;omega
  refine S9 0 mup (hn_ [9,10] Z) ⟨z,w,_,_,⟨d.mono mup,e.mono mup,H,Z,i,f⟩,Z,Z⟩
 obtain ⟨b ,c ,s ,t,⟨I,J,V,W,X,Y⟩,rfl,rfl⟩:=q;obtain ⟨ak,al,am,rfl⟩:=I.form;obtain ⟨an,ao,ap,rfl⟩:=J.form;refine Tg [0,1,2,3,4,5,6,7,8,9] [(8,1)] Z kr_ fun R Q a=>SV U6<|S1 ae U9<|SV U6<|S1 ae U9<|SV U6<|S1 ag U9<|To (tO (k:=k) _ I.m_ J.m_ Y V om_) U7 fl_ (fun aq _ _ K=>?_);obtain ⟨S,T,U,rfl⟩:=K.form;exact Td [.bool (decide (b<0)),_] U8<|Tj (fun _=>(jN _ l.m_ _ _ _ K (dC (k:=100000) (n:=k) om_ om_))) U9<|C6 1 [4] a Z<|S3 U2<|⟨by rw [Lc X om_,W],Z⟩
theorem Ld (z w:Int):sgZ (decide (z<0) != decide (w<0)) (z.natAbs*w.natAbs)=z*w:=by
 unfold sgZ;have h1:z=if z<0 then -(z.natAbs:Int) else (z.natAbs:Int):=by split <;> omega
 have h2:w=if w<0 then -(w.natAbs:Int) else (w.natAbs:Int):=by split <;> omega
 by_cases a:z<0 <;> by_cases b:w<0
 ·rw [PG a,PG b,aF dc_];rw [aL a] at h1;rw [aL b] at h2;rw [PL]
  conv=>rhs;rw [h1,h2]
  rw [Int.neg_mul_neg]
 ·rw [PG a,PT b,aL dc_];rw [aL a] at h1;rw [aF b] at h2;rw [PL]
  conv=>rhs;rw [h1,h2]
  rw [Int.neg_mul]
 ·rw [PT a,PG b,aL dc_];rw [aF a] at h1;rw [aL b] at h2;rw [PL]
  conv=>rhs;rw [h1,h2]
  rw [Int.mul_neg]
 rw [PT a,PT b,aF dc_];rw [aF a] at h1;rw [aF b] at h2;rw [PL]
 conv=>rhs;rw [h1,h2]
theorem nM {a b:Nat}(c:a<B9 ^ k)(d:b<B9 ^ k):a*b<B9 ^ (k+k):=by
 rw [Sa];exact Q7 c d
theorem EW (a:z.natAbs<1000000000)(b:w.natAbs<1000000000):-1000000000000000000<z*w/\z*w<1000000000000000000:=by
 have h:z.natAbs*w.natAbs<=999999999*999999999:=Qz om_ om_;rw [<- QL] at h;omega
theorem kH (C:Mem)(d:Tabs C)(z w:Int)(k:Nat)(e:0<k)(x:k<=40000)(b:z.natAbs<B9 ^ k)(c:w.natAbs<B9 ^ k):Gives cx.P 124 [af (txt z),af (txt w)] C (af (txt (z*w))):=by
 have y:=bZ b e;have A:=bZ c e;refine S4 func124 43 U3 fun w0=>SR 1 [0,1] Z<|SS 1 Z fun R a=>Tb (jA _ z 9 om_) U7 fl_<|C6 5 [0,1,5,6] a Z<|SR 1 [0,1,5,16] Z<|G.cut (fun fr B r s=>(True)/\fr=[(0,[],af (txt z)),(1,[],af (txt w))]/\r=[]) ?_ (fun fr _ D s _ t=>?_)
 ·refine G.cd (fun f=>?_) fun f=>?_
  ·have g:=OD f;rw [aL g];have h:=zh g;rw [e9] at h;refine SS 1 Z fun R a=>Tb (jA _ w 9 om_) U7 fl_<|C6 5 [0,1,5,7,8] a Z<|SR 1 [0,1,5,7,22] Z<|G.cd (fun i=>?_) fun i=>?_
   ·have l:=OD i;rw [aL l];have m:=zh l;rw [e9] at m;have E:=EW h m;exact SS 2 Z fun R a=>Ts ((z*w)) U4 om_ om_ om_ U2<|Tb (rN _ d.m_ (z*w) om_ om_) U7 fl_<|C6 1 [4] a Z<|S3 U2<|⟨Z,Z⟩
   refine S9 0 (Mem.le.refl _) (hn_ [0,1] Z) ⟨trivial,Z,Z⟩
  refine S9 0 (Mem.le.refl _) (hn_ [0,1] Z) ⟨trivial,Z,Z⟩
 obtain ⟨_,rfl,rfl⟩:=t;refine SS 1 Z fun R a=>To (iO _ z om_) U7 fl_ fun F _ _ u=>SV U6<|To (iO _ w om_) U7 fl_ fun H _ _ v=>Te U5 fun I=>Te U5 (fun J=>?_);obtain ⟨K,rfl,o⟩:=u;obtain ⟨L,rfl,p⟩:=v;obtain ⟨M,N,O,rfl⟩:=o.form;obtain ⟨Q,S,T,rfl⟩:=p.form;refine S5 (j:=1) U12<|S5 (j:=1) U12<|SY [9,10] a Z<|Tg [0,1,2,3,4,5,6,7,8,9,10,11,12] [(11,1)] Z kr_ fun R U a=>SV U6<|S1 ae U9<|SV U6<|S1 ag U9<|SZ 2 Z<|S1 ae U9<|SV U6<|S1 ag U9<|To (D7 (k:=k) _ o.m_ p.m_ b c om_) U7 fl_ (fun V _ _ q=>?_);obtain ⟨W,X,Y,rfl⟩:=q.form;exact Td [.bool (decide (z<0) != decide (w<0)),_] U8<|Tj (fun _=>(jN _ d.m_ _ _ _ q (dC (k:=100000) (n:=k+k) (nM b c) om_))) U9<|C6 1 [4] a Z<|S3 U2<|⟨by rw [Ld],Z⟩
def Gy (z w:Int):Nat:=if z<0/\z.natAbs % w.natAbs≠0 then z.natAbs / w.natAbs+1 else z.natAbs / w.natAbs
def Bv (z w:Int):Nat:=if z<0/\z.natAbs % w.natAbs≠0 then w.natAbs-z.natAbs % w.natAbs else z.natAbs % w.natAbs
theorem Gx (i:0<w):sgZ (decide (z<0) != decide (w<0)) (Gy z w)=z / w/\(Bv z w:Int)=z % w:=by
 obtain ⟨n,rfl⟩:∃ n:Nat,w=n:=⟨w.natAbs,by omega⟩;have f:0<n:=by omega
 rw [PT (by omega:¬ ((n:Nat):Int)<0),Bool.bne_false];have h1:=Sc z.natAbs n;have h2:=PY z.natAbs f;obtain ⟨q,d⟩:∃ q,z.natAbs / n=q:=⟨_,rfl⟩;obtain ⟨r,hr⟩:∃ r,z.natAbs % n=r:=⟨_,rfl⟩;have g:sgZ (decide (z<0)) (Gy z n)=z / n/\(Bv z n:Int)=z % n:=by
  have h3:=(Int.ediv_emod_unique (a:=z) (r:=(Bv z n:Int)) (q:=sgZ (decide (z<0)) (Gy z n)) (by omega:(0:Int)<(n:Int))).2;have h4:(Bv z n:Int)+(n:Int)*sgZ (decide (z<0)) (Gy z n)=z/\0<=(Bv z n:Int)/\(Bv z n:Int)<(n:Int):=by
   unfold Gy Bv sgZ;simp only [P6];rw [d,hr];rw [hr,d] at h1;rw [hr] at h2;have h5:((r+n*q:Nat):Int)=(z.natAbs:Int):=by rw [h1]
   rw [RW,PL] at h5;by_cases b:z<0
   ·rw [PG b,aL rfl];by_cases c:r=0
    ·subst c;rw [aF am,aF am];rw [Int.mul_neg];omega
    rw [aL ⟨b,c⟩,aL ⟨b,c⟩];rw [Int.mul_neg,RW,Sm];omega
   rw [PT b,aF (fun h:z<0/\r≠0=>b h.1),aF (fun h:z<0/\r≠0=>b h.1),aF dc_];omega
  have e:=h3 h4;exact ⟨e.1.symm,e.2.symm⟩
 exact g
theorem rQ (C:Mem)(u:Tabs C)(z w:Int)(k:Nat)(f:0<k)(hk:k<=40000)(g:z.natAbs<B9 ^ k)(i:w.natAbs<B9 ^ k)(v:0<w):Gives cx.P 187 [af (txt z),af (txt w)] C (.tuple #[af (txt (z / w)),af (txt (z % w)),.int .i64 0]):=by
 have aj:=bZ g f;have ak:=bZ i f;have l:0<w.natAbs:=by omega
 refine S4 func187 50 U3 fun w0=>SR 3 [0,1] Z<|SR 2 [0,1,12] Z<|G.cd (fun m=>?_) fun m=>?_
 ·have h:=kY w;rw [h] at m;have:w=0:=OD m;omega
 refine SS 1 Z fun R a=>To (iO _ z om_) U7 fl_ fun am _ _ K=>SV U6<|To (iO _ w om_) U7 fl_ fun an _ _ L=>Te U5 fun y=>Te U5 (fun A=>?_);obtain ⟨pz,rfl,B⟩:=K;obtain ⟨pw,rfl,o⟩:=L;obtain ⟨M,N,O,rfl⟩:=B.form;obtain ⟨Q,S,T,rfl⟩:=o.form;refine S5 (j:=1) U12<|S5 (j:=1) U12<|SY [7,8] a Z<|SS 1 Z fun R a=>S1 ae U9<|SV U6<|S1 ag U9<|To (wT _ _ _ _ _ B.m_ o.m_ (dC (k:=100000) (n:=k) g om_) l) U7 fl_ (fun ao _ _ U=>?_);obtain ⟨vq,vr,rfl,D,p⟩:=U;refine C6 5 [7,8,9,10] a Z ?_;obtain ⟨b,V,W,X⟩:=id p;obtain ⟨Ar,cr,E,_⟩:=id X;rw [al] at E;subst E;have F:b.length=0 ↔ z.natAbs % w.natAbs=0:=by
  rw [<- W,BI V];exact Sh
 refine SS 1 Z fun R a=>S1 ae U9<|SZ 4 Z<|Tl U8<|SY [7,8,9,10,31] a Z<|G.cut (fun fr H Y μ=>∃ (q r:Value),(NineC H q (Gy z w)/\NineC H r (Bv z w))/\fr=[(7,[],.pointer (some ⟨y,0,none⟩)),(8,[],.pointer (some ⟨A,0,none⟩)),(9,[],q),(10,[],r)]/\Y=[.obj A (.cells ⟨[.bool (decide (w<0)),.slice Q S T]⟩ 273 (0,0)),.obj y (.cells ⟨[.bool (decide (z<0)),.slice M N O]⟩ 273 (0,0))]) ?_ (fun fr _ ap μ _ hI=>?_)
 ·refine G.cd (fun d=>?_) fun d=>?_
  ·have c:z<0/\z.natAbs % w.natAbs≠0:=by
    have h:decide (z<0)=true/\0<b.length:=by simpa using d
    exact ⟨OD h.1,fun e=>by have:=F.2 e;omega⟩
   have s:Gy z w=z.natAbs / w.natAbs+1:=aL c;have t:Bv z w=w.natAbs-z.natAbs % w.natAbs:=aL c;have aa:z.natAbs / w.natAbs<B9 ^ k:=Qd (Qo _ _) g;refine Tg [0,3,4,5,1,2,6,7,8] [] Z kr_ fun R hB a=>SZ 2 Z<|S1 ag U9<|SV U6<|Th [cP 1] U12 fun aq _ _ ab=>To (Kk (k:=k) _ D.m_ (⟨[1],⟨(fun x hx=>(by rw [PE.1 hx];decide)),by simp⟩,Z,ab.mono mup⟩:NineC _ _ 1) aa (Qt (by decide:1<B9 ^ 1) (PK dc_ f)) om_) U7 fl_ fun ar _ _ ac=>To (tO (k:=k) _ o.m_ p.m_ i (Nat.le_of_lt (PY _ l)) om_) U7 fl_ fun au _ _ ad=>SZ 2 Z<|SY [7,8,9,10] a Z ?_;clear a hB R;refine S9 0 mup (hn_ [7,8,9,10] Z) ⟨_,_,⟨by rw [s];exact ac.mono mup,by rw [t];exact ad.mono mup⟩,Z,Z⟩
  have c:¬ (z<0/\z.natAbs % w.natAbs≠0):=fun h=>by
   have h2:0<b.length:=by
    rcases Qj b.length with h3 | h3
    ·exact absurd (F.1 h3) h.2
    exact h3
   have h3:(decide (z<0) && decide ((0:Int)<(b.length:Int)))=true:=by
    rw [PG h.1,PG om_];rfl
   rw [h3] at d;cases d
  have s:Gy z w=z.natAbs / w.natAbs:=aF c;have t:Bv z w=z.natAbs % w.natAbs:=aF c;refine S9 0 mup (hn_ [7,8,9,10] Z) ⟨_,_,⟨by rw [s];exact D.mono mup,by rw [t];exact p.mono mup⟩,Z,Z⟩
 obtain ⟨q ,r,⟨I,J⟩,rfl,rfl⟩:=hI;obtain ⟨A9,m9,c9,rfl⟩:=I.form;obtain ⟨av,aw,ax,rfl⟩:=J.form;have ah:Gy z w<B9 ^ 100000:=by
  have h1:z.natAbs / w.natAbs<=z.natAbs:=Qo _ _;have h2:Gy z w<=z.natAbs+1:=by unfold Gy;split <;> omega
  have h3:B9 ^ k*2<=B9 ^ (k+1):=by rw [Qu];exact QC _ dc_
  have h4:z.natAbs+1<B9 ^ (k+1):=by have:=RC (n:=k) (show 0<B9 by decide);omega
  exact dC (k:=100000) (n:=k+1) (Qd h2 h4) om_
 have ai:Bv z w<B9 ^ 100000:=by
  have h1:=PY z.natAbs l;have h2:Bv z w<=w.natAbs:=by unfold Bv;split <;> omega
  exact dC (k:=100000) (n:=k) (Qd h2 i) om_
 refine SS 1 Z fun R a=>S1 ae U9<|SV U6<|S1 ag U9<|SZ 2 Z<|Td [.bool (decide (z<0) != decide (w<0)),_] U8<|S8 (jN _ u.m_ _ _ _ I.m_ ah) U7<|SV U6<|Td [.bool false,_] U8<|S8 (jN _ u.m_ _ _ _ J.m_ ai) U7<|C6 3 [4,5,6] a Z<|S7 (G.dropAll (TR U4 ?_));refine ⟨?_,Z⟩;rw [(Gx v).1,show sgZ false (Bv z w)=z % w from (Gx v).2]
theorem JH {l:List Nat}(a:xG l)(b:bq l=n):0<l.length ↔ 0<n:=by
 have h:=BI a;rw [b] at h;have h2:l.length=0 ↔ n=0:=by rw [h];exact Sh
 omega
theorem F5 (C:Mem)(s:Tabs C)(z w:Int)(k:Nat)(t:0<k)(hk:k<=40000)(u:z.natAbs<B9 ^ k)(v:w.natAbs<B9 ^ k):Gives cx.P 162 [af (txt z),af (txt w)] C (af (txt (Nat.gcd z.natAbs w.natAbs:Nat))):=by
 have ac:=bZ u t;have ad:=bZ v t;refine S4 func162 56 U3 fun w0=>SR 1 [0,1] Z<|SS 1 Z fun R a=>S8 (jA _ z 18 (Pf _)) U7<|C6 5 [0,1,5,6] a Z<|SR 1 [0,1,5,18] Z<|G.cut (fun fr g d e=>(True)/\fr=[(0,[],af (txt z)),(1,[],af (txt w))]/\d=[]) ?_ (fun fr _ ae e _ f=>?_)
 ·refine G.cd (fun A=>?_) fun A=>?_
  ·have B:=OD A;rw [aL B];have E:=zh B;rw [e18] at E;refine SS 1 Z fun R a=>S8 (jA _ w 18 (Pf _)) U7<|C6 5 [0,1,5,7,8] a Z<|SR 1 [0,1,5,7,24] Z<|G.cd (fun F=>?_) fun F=>?_
   ·have H:=OD F;rw [aL H];have I:=zh H;rw [e18] at I;refine G.loop (fun fr g d e=>∃ (x y:Int),(x.natAbs<1000000000000000000/\y.natAbs<1000000000000000000/\Nat.gcd x.natAbs y.natAbs=Nat.gcd z.natAbs w.natAbs)/\fr=[(5,[],.int .i64 x),(7,[],.int .i64 y)]/\d=[]/\e=y.natAbs+1) (hn_ [5,7] Z) ⟨z,w,⟨E,I,Z⟩,Z,Z,Z⟩ (fun fr ag ah m L f=>?_);obtain ⟨x,y,⟨ai,M,c⟩,rfl,rfl,rfl⟩:=f;refine SR 2 [5,7,26] Z<|G.cd (fun j=>?_) fun j=>?_
    ·have b:y≠0:=by simpa using j
     have N:(x.tmod y).natAbs=x.natAbs % y.natAbs:=RZ x y;have O:=PY x.natAbs (show 0<y.natAbs by omega);refine Tg [0,1,2,3,4,5] [] Z kr_ fun R hB a=>SZ 3 Z<|TU (x.tmod y) U6 b U3<|C6 2 [5,7] a Z<|S6 (m':=(x.tmod y).natAbs+1) om_ L (hn_ [5,7] Z) ⟨y,x.tmod y,⟨M,by omega,by rw [N,<- c,Rs x.natAbs,SH y.natAbs x.natAbs,Rs]⟩,Z,Z,Z⟩
    have b:y=0:=by simpa using j
    subst b;rw [show (0:Int).natAbs=0 from rfl,RY] at c;refine SS 3 Z fun R a=>?_;have aj:IntKind.i64.wrap (0-x)=0-x:=wrap_i64 om_ om_;exact D.max ((x.natAbs:Int)) U6 om_ U2<|Tb (rN _ s.m_ (x.natAbs:Int) om_ om_) U7 fl_<|C6 1 [4] a Z<|S3 U2<|⟨by rw [c],Z⟩
   refine S9 0 (Mem.le.refl _) (hn_ [0,1] Z) ⟨trivial,Z,Z⟩
  refine S9 0 (Mem.le.refl _) (hn_ [0,1] Z) ⟨trivial,Z,Z⟩
 obtain ⟨_,rfl,rfl⟩:=f;refine SS 1 Z fun R a=>To (iO _ z om_) U7 fl_ (fun ak _ _ Q=>?_);obtain ⟨pz,rfl,S⟩:=Q;refine Ue U12<|SV U6<|To (iO _ w om_) U7 fl_ (fun am _ _ T=>?_);obtain ⟨pw,rfl,U⟩:=T;refine Ue U12<|C6 2 [9,10] a Z<|G.loop (fun fr g d e=>∃ (x y:Nat)(o p:Value),(NineC g o x/\NineC g p y/\x<B9 ^ k/\y<B9 ^ k/\Nat.gcd x y=Nat.gcd z.natAbs w.natAbs)/\fr=[(9,[],o),(10,[],p)]/\d=[]/\e=y+1) (hn_ [9,10] Z) ⟨_,_,_,_,⟨S.mono mup,U.mono mup,u,v,Z⟩,Z,Z,Z⟩ (fun fr an ao m _ f=>?_);obtain ⟨x,y,o,p,⟨q,i,J,K,c⟩,rfl,rfl,rfl⟩:=f;obtain ⟨l,V,W,X⟩:=id i;obtain ⟨ap,aq,rfl,_⟩:=id X;rw [al] at i ⊢;have Y:=JH V W;refine SR 3 [9,10,44] Z<|G.cd (fun r=>?_) fun r=>?_
 ·have b:0<y:=Y.1 (by simpa using r);have O:=PY x b;refine SS 2 Z fun R a=>To (wT _ _ _ _ _ q.m_ i.m_ (dC (k:=100000) (n:=k) J om_) b) U7 fl_ (fun ar _ _ aa=>?_);obtain ⟨vq,vr,rfl,au,ab⟩:=aa;refine C6 5 [10,12] a Z<|SR 4 [9,10] Z<|S6 (m':=x % y+1) om_ mup (hn_ [9,10] Z) ⟨y,x % y,_,_,⟨i.mono mup,ab.mono mup,K,Rt (PY _ b) K,by rw [<- c,Rs x,SH y x,Rs]⟩,Z,Z,Z⟩
 have b:y=0:=by
  have h:¬ 0<l.length:=by simpa using r
  omega
 subst b;rw [RY] at c;obtain ⟨A9,m9,c9,rfl⟩:=q.form;exact SS 1 Z fun R a=>Td [.bool false,_] U8<|Tb (jN _ s.m_ _ _ _ q.m_ (dC (k:=100000) (n:=k) J om_)) U7 fl_<|C6 1 [4] a Z<|S3 U2<|⟨by rw [c];rfl,Z⟩
def rz (sg:Bool)(A:Str)(B:Option Str):Value :=
 if Mr A B then .tuple #[.int .i64 (sgZ sg (bW A)),.int .i64 (O6 B),.bool true] else .tuple #[.int .i64 0,.int .i64 0,.bool false]
theorem Cy (C:Mem)(d:Bool)(A:Str)(B:Option Str)(q:∀ c∈A,eP c=true)(U:A≠[])(V:∀ b,B=some b->∀ c∈b,eP c=true)(W:(Iu d++A++eN B).length<=1000000) :
  Gives cx.P 120 [af (Iu d++A++eN B)] C (rz d A B):=by
 obtain ⟨s,hs⟩:∃ s,Iu d++A++eN B=s:=⟨_,rfl⟩;obtain ⟨p,t⟩:∃ p,(Iu d).length=p:=⟨_,rfl⟩;have g:p=if d then 1 else 0:=by rw [<- t];cases d <;> rfl
 have u:∀ j c,A[j]?=some c->s[p+j]?=some c:=fun j c h=>by rw [<- hs,<- t];exact LH _ _ _ h
 have O:∀ j,s[p+A.length+j]?=(eN B)[j]?:=fun j=>by rw [<- hs,<- t];exact Iv _ _ _ _
 have y:s.length=p+A.length+(eN B).length:=by rw [<- hs,<- t,Po,Po]
 have X:0<A.length:=P4.2 U;rw [hs] at W ⊢;refine S4 func120 73 U3 fun w0=>SR 3 [0,2,3] Z<|SR 2 [0,2,3,5,6] Z<|SS 5 Z fun R a=>TJ (b:=s.getD 0 0) U8 (fun _=>⟨by omega,(by rw [ax,show (0:Int).toNat=0 from rfl];obtain ⟨c,f⟩:∃ c,s[0]?=some c:=⟨s[0]'om_,ak om_⟩;rw [f];rfl)⟩) U2<|SV U6<|Tl U8<|SY [0,2,3,5,6,15] a Z<|G.cut (fun fr z i k=>(True)/\fr=[(0,[],af s),(2,[],.int .i64 0),(3,[],.int .i64 0),(5,[],.int .i64 p),(6,[],.bool d)]/\i=[]) ?_ (fun fr _ ae k _ l=>?_)
 ·refine G.cd (fun v=>?_) fun v=>?_
  ·have n:d=true:=by
    cases d with
    | true=>rfl
    | false =>
     exfalso;rw [aF dc_] at g;subst g;obtain ⟨c,f⟩:∃ c,A[0]?=some c:=⟨A[0],ak X⟩;have h1:=u 0 c f;have h2:=q c (Pe f);rw [Q9] at h1;rw [ax,h1] at v;unfold eP at h2;simp at v h2;omega
   subst n;rw [aL rfl] at g;subst g;refine SR 2 [0,2,3,5,6] Z<|S9 0 (Mem.le.refl _) (hn_ [0,2,3,5,6] Z) ⟨trivial,Z,Z⟩
  have n:d=false:=by
   cases d with
   | false=>rfl
   | true =>
    exfalso;have h1:s[0]?=some 45:=by rw [<- hs];rfl
    rw [aL rfl] at g;have h2:(decide ((0:Int)<((s.length:Nat):Int)) && decide ((((s.getD 0 0).toNat:Nat):Int)=45))=false:=by simpa using v
    rw [ax,h1,PG om_] at h2;exact absurd h2 dc_
  subst n;rw [aF dc_] at g;subst g;refine S9 0 (Mem.le.refl _) (hn_ [0,2,3,5,6] Z) ⟨trivial,Z,Z⟩
 obtain ⟨_,rfl,rfl⟩:=l;refine SR 2 [0,2,3,5,6,7] Z<|G.loop (fun fr z i k=>∃ (j:Nat),(j<=A.length/\j<=9)/\fr=[(0,[],af s),(2,[],.int .i64 ((bW (A.take j):Nat):Int)),(3,[],.int .i64 0),(5,[],.int .i64 ((p+j:Nat):Int)),(6,[],.bool d),(7,[],.int .i64 p)]/\i=[]/\k=A.length-j+1) (hn_ [0,2,3,5,6,7] Z) ⟨0,⟨by omega,by omega⟩,Z,Z,Z⟩ (fun fr ag ah m Y l=>?_);obtain ⟨j,⟨hj,w⟩,rfl,rfl,rfl⟩:=l;obtain ⟨c,f⟩:∃ c,p+j<s.length->s[p+j]?=some c:=⟨s.getD (p+j) 0,fun h=>by rw [ax,ak h];rfl⟩;refine SS 7 Z fun R a=>TJ (b:=c) U8 (fun hg=>⟨by omega,f (by have h:decide (((p+j:Nat):Int)<((s.length:Nat):Int))=true:=hg.1;have h2:=OD h;omega)⟩) U2<|SV U6<|Tl U8<|SY [0,2,3,5,6,7,26] a Z<|G.cd (fun x=>?_) fun x=>?_
 ·have E:p+j<s.length/\c.toNat≠47:=by
   simp at x;omega
  have F:j<A.length:=by
   rcases PQ j A.length with h | h
   ·exact h
   exfalso;obtain rfl:j=A.length:=by omega
   have h1:=f E.1;have h2:=O 0;rw [Q9,h1] at h2;cases B with
   | none=>simp [eN] at h2
   | some b =>
    simp [eN] at h2;subst h2;exact E.2 Z
  obtain ⟨e,o⟩:∃ c,A[j]?=some c:=⟨A[j],ak F⟩;obtain rfl:e=c:=by
   have h1:=f E.1;rw [u j e o] at h1;exact QS h1
  have Q:48<=e.toNat/\e.toNat<=57:=by simpa [eP] using q e (Pe o)
  have hV:=uq q w;refine SS 2 Z fun R a=>S2 _ Z U6<|C6 1 [0,2,3,5,6,7,32] a Z<|G.cd (fun H=>?_) fun H=>?_
  ·have r:¬ A.length<=9:=by
    have:((p+j:Nat):Int)-p=9:=by simpa using H
    omega
   refine SR 3 [2,3,4] Z<|S7 (G.dropAll (TR U4 ?_));refine ⟨?_,Z⟩;unfold rz Mr;rw [PT r,Bool.false_and,aF dc_]
  have r:j≠9:=by
   have:¬ ((p+j:Nat):Int)-p=9:=by simpa using H
   omega
  refine SS 1 Z fun R a=>S2 _ Z U6<|SZ 2 Z<|TJ U8 (fun _=>⟨by omega,u j _ o⟩) U2<|D.int (((e.toNat:Nat):Int)-48) U4 (by rw [IntKind.wrap_u8];omega) U2<|Tz (c:=((e.toNat:Nat):Int)-48) U8 (by rw [IntKind.wrap_i64];omega) fl_<|S2 _ Z U6<|C6 1 [0,2,3,5,6,7] a Z<|SS 1 Z fun R a=>S2 _ Z U6<|C6 1 [0,2,3,5,6,7] a Z ?_;rw [show 10*((bW (A.take j):Nat):Int)+(((e.toNat:Nat):Int)-48)=((bW (A.take (j+1)):Nat):Int) by rw [By o];omega];refine S6 (m':=A.length-(j+1)+1) om_ Y (hn_ [0,2,3,5,6,7] Z) ⟨j+1,⟨by omega,by omega⟩,Z,Z,Z⟩
 have F:j=A.length:=by
  rcases PQ j A.length with h | h
  ·exfalso;obtain ⟨e,o⟩:∃ c,A[j]?=some c:=⟨A[j],ak h⟩;have h1:=f om_;rw [u j e o] at h1;obtain rfl:=QS h1;have Q:48<=e.toNat/\e.toNat<=57:=by simpa [eP] using q e (Pe o)
   simp at x;have:=x om_;omega
  omega
 subst F;rw [Pv];refine SR 1 [0,2,3,5,41] Z<|G.cut (fun fr z i k=>(True)/\fr=[(0,[],af s),(2,[],.int .i64 (sgZ d (bW A))),(3,[],.int .i64 0),(5,[],.int .i64 ((p+A.length:Nat):Int))]/\i=[]) ?_ (fun fr _ ai k _ l=>?_)
 ·refine G.cd (fun I=>?_) fun I=>?_
  ·have n:d=true:=I;subst n;have aa:=uq q w;rw [Pv] at aa;refine SR 3 [0,2,3,5] Z ?_;rw [show IntKind.i64.wrap (0-((bW A:Nat):Int))=sgZ true (bW A) by rw [wrap_i64 om_ om_];unfold sgZ;rw [aL rfl];omega];refine S9 0 (Mem.le.refl _) (hn_ [0,2,3,5] Z) ⟨trivial,Z,Z⟩
  have n:d=false:=by simpa using I
  subst n;refine S9 0 (Mem.le.refl _) (hn_ [0,2,3,5] Z) ⟨trivial,Z,Z⟩
 obtain ⟨_,rfl,rfl⟩:=l;refine SR 4 [0,2,3,5,47] Z<|G.cd (fun J=>?_) fun J=>?_
 ·have ab:B=none:=by
   cases B with
   | none=>rfl
   | some b =>
    exfalso;have:p+A.length=s.length:=by simp at J;omega
    rw [y] at this;simp [eN] at this
  subst ab;refine SR 4 [2,3,4] Z<|S7 (G.dropAll (TR U4 ?_));refine ⟨?_,Z⟩;unfold rz Mr;rw [PG w];rfl
 obtain ⟨b,rfl⟩:∃ b,B=some b:=by
  cases B with
  | some b=>exact ⟨b,rfl⟩
  | none =>
   exfalso;simp [y,eN] at J
 have S:=V b rfl;have aj:s.length=p+A.length+1+b.length:=by rw [y];simp [eN];omega
 refine SS 1 Z fun R a=>S2 _ Z U6<|C6 1 [0,2,3,5,7] a Z<|SS 1 Z fun R a=>S2 _ Z U6<|C6 1 [0,2,3,5,7] a Z<|G.loop (fun fr z i k=>∃ (j:Nat),(j<=b.length/\j<=9)/\fr=[(0,[],af s),(2,[],.int .i64 (sgZ d (bW A))),(3,[],.int .i64 ((bW (b.take j):Nat):Int)),(5,[],.int .i64 ((p+A.length+1+j:Nat):Int)),(7,[],.int .i64 ((p+A.length+1:Nat):Int))]/\i=[]/\k=b.length-j+1) (hn_ [0,2,3,5,7] Z) ⟨0,⟨by omega,by omega⟩,Z,Z,Z⟩ (fun fr al am m ac l=>?_);obtain ⟨j,⟨hk,T⟩,rfl,rfl,rfl⟩:=l;refine SR 4 [0,2,3,5,7,56] Z<|G.cd (fun K=>?_) fun K=>?_
 ·have L:j<b.length:=by
   have:p+A.length+1+j<s.length:=by simp at K;omega
   omega
  obtain ⟨c,M⟩:∃ c,b[j]?=some c:=⟨b[j],ak L⟩;have ad:s[p+A.length+1+j]?=some c:=by rw [RT,O,RD 1 j];exact M
  have Q:48<=c.toNat/\c.toNat<=57:=by simpa [eP] using S c (Pe M)
  have hV:=uq S T;refine SS 2 Z fun R a=>S2 _ Z U6<|C6 1 [0,2,3,5,7,62] a Z<|G.cd (fun N=>?_) fun N=>?_
  ·have r:¬ b.length<=9:=by
    have:((p+A.length+1+j:Nat):Int)-((p+A.length+1:Nat):Int)=9:=by simpa using N
    omega
   refine SR 3 [2,3,4] Z<|S7 (G.dropAll (TR U4 ?_));refine ⟨?_,Z⟩;unfold rz Mr;rw [show (some b).getD []=b from rfl,PT r,Bool.and_false,aF dc_]
  have r:j≠9:=by
   have:¬ ((p+A.length+1+j:Nat):Int)-((p+A.length+1:Nat):Int)=9:=by simpa using N
   omega
  refine SS 1 Z fun R a=>S2 _ Z U6<|SZ 2 Z<|TJ U8 (fun _=>⟨by omega,ad⟩) U2<|D.int (((c.toNat:Nat):Int)-48) U4 (by rw [IntKind.wrap_u8];omega) U2<|Tz (c:=((c.toNat:Nat):Int)-48) U8 (by rw [IntKind.wrap_i64];omega) fl_<|S2 _ Z U6<|C6 1 [0,2,3,5,7] a Z<|SS 1 Z fun R a=>S2 _ Z U6<|C6 1 [0,2,3,5,7] a Z ?_;rw [show 10*((bW (b.take j):Nat):Int)+(((c.toNat:Nat):Int)-48)=((bW (b.take (j+1)):Nat):Int) by rw [By M];omega];refine S6 (m':=b.length-(j+1)+1) om_ ac (hn_ [0,2,3,5,7] Z) ⟨j+1,⟨by omega,by omega⟩,Z,Z,Z⟩
 have L:j=b.length:=by
  have:¬ p+A.length+1+j<s.length:=by simp at K;omega
  omega
 subst L;rw [Pv];refine SR 5 [2,3,4] Z<|S7 (G.dropAll (TR U4 ?_));refine ⟨?_,Z⟩;unfold rz Mr;rw [show (some b).getD []=b from rfl,PG w,PG T];rfl
theorem oT {n:Int}(a:g ∣ n.natAbs):n.tdiv (g:Int)=n / (g:Int):=Int.tdiv_eq_ediv_of_dvd (RM.1 (Q5.2 a))
theorem AF {n:Int}(a:d≠0):qtx (mkRat n d)=txt (n / ((Nat.gcd n.natAbs d:Nat):Int))++eN (nB (d / Nat.gcd n.natAbs d)):=by
 rw [oU,(tN n a).1,(tN n a).2]
theorem vN (C:Mem)(e:Tabs C)(n:Int)(d:Nat)(o:0<d)(p:n.natAbs<9000000000000000000)(t:d<9000000000000000000):Gives cx.P 121 [.int .i64 n,.int .i64 d] C (af (qtx (mkRat n d))):=by
 obtain ⟨g,b⟩:∃ g,Nat.gcd n.natAbs d=g:=⟨_,rfl⟩;have u:0<g:=by rw [<- b];exact RS _ o
 have q:g ∣ n.natAbs:=by rw [<- b];exact R9 _ _
 have v:g ∣ d:=by rw [<- b];exact Si _ _
 have H:g<=d:=SK o v;rw [AF om_,b];refine S4 func121 35 U3 fun w0=>SR 1 [0,1] Z<|SR 4 [0,1,5,6] Z<|G.loop (fun fr w f h=>∃ (x y:Int),(x.natAbs<9000000000000000000/\y.natAbs<9000000000000000000/\Nat.gcd x.natAbs y.natAbs=g)/\fr=[(0,[],.int .i64 n),(1,[],.int .i64 d),(5,[],.int .i64 x),(6,[],.int .i64 y)]/\f=[]/\h=y.natAbs+1) (hn_ [0,1,5,6] Z) ⟨n,d,⟨p,by omega,by rw [P6];exact b⟩,Z,Z,Z⟩ (fun fr I J m z i=>?_);obtain ⟨x,y,⟨K,A,r⟩,rfl,rfl,rfl⟩:=i;refine SR 2 [0,1,5,6,10] Z<|G.cd (fun j=>?_) fun j=>?_
 ·have k:y≠0:=by simpa using j
  have B:(x.tmod y).natAbs=x.natAbs % y.natAbs:=RZ x y;have L:=PY x.natAbs (show 0<y.natAbs by omega);refine Tg [0,1,2,3,4,5] [] Z kr_ fun R D a=>SZ 3 Z<|TU (x.tmod y) U6 k U3<|C6 2 [0,1,5,6] a Z<|S6 (m':=(x.tmod y).natAbs+1) om_ z (hn_ [0,1,5,6] Z) ⟨y,x.tmod y,⟨A,by omega,by rw [B,<- r,Rs x.natAbs,SH y.natAbs x.natAbs,Rs]⟩,Z,Z,Z⟩
 have k:y=0:=by simpa using j
 subst k;rw [show (0:Int).natAbs=0 from rfl,RY] at r;refine SR 2 [0,1,5,16] Z<|G.cut (fun fr w f h=>(True)/\fr=[(0,[],.int .i64 n),(1,[],.int .i64 d),(5,[],.int .i64 g)]/\f=[]) ?_ (fun fr _ M h _ i=>?_)
 ·refine G.cd (fun l=>?_) fun l=>?_
  ·have E:x<0:=by simpa using l
   refine SR 3 [0,1,5] Z ?_;rw [show IntKind.i64.wrap (0-x)=(g:Int) by rw [wrap_i64 om_ om_];omega];refine S9 0 (Mem.le.refl _) (hn_ [0,1,5] Z) ⟨trivial,Z,Z⟩
  have E:¬ x<0:=by simpa using l
  rw [show x=(g:Int) by omega];refine S9 0 (Mem.le.refl _) (hn_ [0,1,5] Z) ⟨trivial,Z,Z⟩
 obtain ⟨_,rfl,rfl⟩:=i;have F:(n / (g:Int)).natAbs<=n.natAbs:=by
  rw [Rn (RM.1 (Q5.2 q)),P6];exact Qo _ _
 have s:=Qo d g;refine Tg [0,1,2,3,4,5,6,7] [] Z kr_ fun R D a=>SZ 2 Z<|Ub (n / (g:Int)) U6 om_ (oT q) (wrap_i64 om_ om_) U2<|SZ 2 Z<|TV (d) (g) U6 u (.inl ⟨Z,by omega⟩) U2<|C6 2 [0,1] a Z<|SR 2 [0,1,26] Z<|G.cd (fun c=>?_) fun c=>?_
 ·have h1:d / g=1:=by
   have h2:(((d / g:Nat):Int))=1:=by simpa using c
   omega
  refine SS 1 Z fun R a=>Tb (iY _ e.m_ _ om_ om_) U7 fl_<|C6 1 [4] a Z<|S3 U2<|⟨?_,Z⟩;rw [h1,lS rfl];simp [eN]
 have h1:d / g≠1:=by
  intro h2;rw [h2] at c;exact absurd c dc_
 have N:=ml (n / (g:Int));have O:=ml ((d / g:Nat):Int);have Q:(bj (n / (g:Int)).natAbs).length<=20:=eE (Qd F (Rt p dc_)) dc_;have S:(bj ((d / g:Nat):Int).natAbs).length<=20:=eE (by rw [P6];exact Qd s (Rt t dc_)) dc_;refine SS 1 Z fun R a=>Tb (iY _ e.m_ _ om_ om_) U7 fl_<|TP U6 (fun _=>(by simp only [Pz,PV];omega)) U2<|SV U6<|Tb (iY _ e.m_ ((d / g:Nat):Int) (SP dc_ (Int.natCast_nonneg _)) (SP (Int.ofNat_le.2 s) om_)) U7 fl_<|TP U6 (fun _=>(by simp only [Po,Pz,PV];omega)) U2<|C6 1 [4] a Z<|S3 U2<|⟨?_,Z⟩;rw [fJ h1,de,PR];rfl
theorem FY (C:Mem)(z:Int)(d:Nat)(k:Nat)(b:0<k)(g:k<=40000)(c:z.natAbs<B9 ^ k)(e:d<B9 ^ k):Gives cx.P 134 [af (txt z),af (bj d)] C (af (txt z++eN (nB d))):=by
 have h:(txt z).length<=9*k+1:=by
  have:=bZ c b;unfold txt;split
  ·simp;omega
  omega
 have i:=bZ e b;refine S4 func134 12 U3 fun w0=>SR 1 [0,1] Z<|SR 2 [0,1,6] Z<|G.cd (fun a=>?_) fun a=>?_
 ·have h1:d=1:=by rw [si] at a;exact OD a
  refine SR 2 [4] Z<|S3 U2<|⟨?_,Z⟩;rw [lS h1];simp [eN]
 have h1:d≠1:=by rw [si] at a;exact Pj a
 refine SS 1 Z fun R f=>TP U6 (fun _=>(by simp only [Pz,PV];omega)) U2<|SV U6<|TP U6 (fun _=>(by simp only [Po,Pz,PV];omega)) U2<|C6 1 [4] f Z<|S3 U2<|⟨?_,Z⟩;rw [fJ h1,PR];rfl
theorem EA (C:Mem)(s:Str)(c:s.length<1000000):Gives cx.P 122 [af s] C (.tuple #[af (jL 47 s).1,af ((jL 47 s).2.getD [49])]):=by
 refine S4 func122 18 U3 fun w0=>SR 2 [0] Z<|SS 1 Z fun R d=>S8 (KF _ s 47 c) U7<|C6 7 [4,5,6] d Z<|SR 2 [4,5,14] Z<|G.cd (fun a=>?_) fun a=>?_
 ·have h1:(jL 47 s).2=none:=by
   cases h:(jL 47 s).2 with
   | none=>rfl
   | some b=>rw [h] at a;simp at a
  refine SR 3 [2,3] Z<|S7 (G.dropAll (Tp U3 ?_));refine ⟨?_,Z⟩;rw [h1];rfl
 obtain ⟨b,h1⟩:∃ b,(jL 47 s).2=some b:=by
  cases h:(jL 47 s).2 with
  | some b=>exact ⟨b,rfl⟩
  | none=>rw [h] at a;simp at a
 refine SR 4 [2,3] Z<|S7 (G.dropAll (Tp U3 ?_));refine ⟨?_,Z⟩;rw [h1];rfl
theorem BB {c:UInt8}:∀ {a:Str}(b:Str),c ∉ a->jL c (a++c::b)=(a,some b)
 | [],b,_=>by simp [jL]
 | x::a,b,h=>by
  have d:x≠c:=fun e=>h (e ▸ Ph);have hr:=BB (c:=c) (a:=a) b (fun h2=>h (Pr _ h2));simp only [QZ,jL,aF d,hr]
theorem wZ {c:UInt8}:∀ {a:Str},c ∉ a->jL c a=(a,none)
 | [],_=>rfl
 | x::a,h=>by
  have b:x≠c:=fun e=>h (e ▸ Ph);have hr:=wZ (c:=c) (a:=a) (fun h2=>h (Pr _ h2));simp only [jL,aF b,hr]
theorem vE (h:∀ c∈s,eP c=true):(47:UInt8) ∉ s:=fun h2=>absurd (h 47 h2) dc_
theorem vD (z:Int):(47:UInt8) ∉ txt z:=by
 unfold txt;split
 ·intro h;rcases Ps.1 h with h | h
  ·cases h
  exact vE (jJ _) h
 exact vE (jJ _)
theorem nT (q:Rat):jL 47 (qtx q)=(txt q.num,nB q.den):=by
 rw [oU];unfold nB;split
 ·rw [show eN none=[] from rfl,PF];exact wZ (vD _)
 exact BB _ (vD _)
theorem one_dec:bj 1=[49]:=by rw [bj];rfl
theorem GF (d:Nat):(nB d).getD [49]=bj d:=by
 unfold nB;split
 ·rename_i h;subst h;exact one_dec.symm
 rfl
theorem LN (C:Mem)(q:Rat)(a:(qtx q).length<1000000):Gives cx.P 122 [af (qtx q)] C (.tuple #[af (txt q.num),af (bj q.den)]):=by
 have h:=EA C (qtx q) a
 rwa [nT,GF] at h
def kM (z w:Int):Rat:=mkRat (if w<0 then -z else z) w.natAbs
theorem pC (C:Mem)(f:Tabs C)(z w:Int)(k:Nat)(b:0<k)(e:k<=40000)(p:z.natAbs<B9 ^ k)(q:w.natAbs<B9 ^ k)(x:w≠0):Gives cx.P 123 [af (txt z),af (txt w)] C (af (qtx (kM z w))):=by
 have A:=bZ p b;have B:=bZ q b;obtain ⟨y,hy⟩:∃ y,(if w<0 then -z else z)=y:=⟨_,rfl⟩;obtain ⟨d,r⟩:∃ d,w.natAbs=d:=⟨_,rfl⟩;have s:d≠0:=by omega
 have D:y.natAbs=z.natAbs:=by rw [<- hy];split <;> omega
 obtain ⟨g,c⟩:∃ g,Nat.gcd y.natAbs d=g:=⟨_,rfl⟩;have E:0<g:=by rw [<- c];exact RS _ om_
 have t:g ∣ d:=by rw [<- c];exact Si _ _
 have F:g<=d:=SK om_ t;unfold kM;rw [hy,r,AF s,c];refine S4 func123 35 U3 fun w0=>SR 1 [0,1] Z<|SS 1 Z fun R a=>S8 (lJ _ w) U7<|C6 1 [0,1,8] a Z<|G.cut (fun fr u i j=>(True)/\fr=[(0,[],af (txt y)),(1,[],af (txt (d:Nat)))]/\i=[]) ?_ (fun fr _ H j _ l=>?_)
 ·refine G.cd (fun m=>?_) fun m=>?_
  ·have n:w<0:=by
    have h:eK w<0:=by simpa using m
    unfold eK at h;split at h <;> omega
   rw [aL n] at hy;refine SS 1 Z fun R a=>Tb (tV _ z om_) U7 fl_<|SV U6<|Tb (tV _ w om_) U7 fl_<|C6 2 [0,1] a Z<|S9 0 (Mem.le.refl _) (hn_ [0,1] Z) ⟨trivial,by rw [hy,show -w=((d:Nat):Int) by omega],Z⟩
  have n:¬ w<0:=by
   intro h2;have h:¬ eK w<0:=by simpa using m
   unfold eK at h;split at h <;> omega
  rw [aF n] at hy;refine S9 0 (Mem.le.refl _) (hn_ [0,1] Z) ⟨trivial,by rw [hy,show w=((d:Nat):Int) by omega],Z⟩
 obtain ⟨_,rfl,rfl⟩:=l;refine SS 2 Z fun R a=>Tb (F5 _ f.m_ y (d:Nat) k b e om_ om_) U7 fl_<|C6 1 [0,1,5] a Z ?_;rw [P6,c];refine SR 2 [0,1,5,17] Z<|G.cut (fun fr u i j=>(True)/\fr=[(0,[],af (txt (y / (g:Nat)))),(1,[],af (txt ((d / g:Nat):Int)))]/\i=[]) ?_ (fun fr _ I j _ l=>?_)
 ·refine G.cd (fun o=>?_) fun o=>?_
  ·refine SS 2 Z fun R a=>Tb (rQ _ f.m_ y (g:Nat) k b e om_ om_ om_) U7 fl_<|C6 5 [0,1,5] a Z<|SS 2 Z fun R a=>Tb (rQ _ f.m_ (d:Nat) (g:Nat) k b e om_ om_ om_) U7 fl_<|C6 5 [0,1] a Z<|S9 0 (Mem.le.refl _) (hn_ [0,1] Z) ⟨trivial,by rw [Int.natCast_ediv],Z⟩
  have v:g=1:=by
   rw [de,si] at o;simpa using o
  refine S9 0 (Mem.le.refl _) (hn_ [0,1] Z) ⟨trivial,by rw [v,Nat.div_one,Int.natCast_one,Int.ediv_one],Z⟩
 obtain ⟨_,rfl,rfl⟩:=l;rw [de];exact SS 2 Z fun R a=>Tb (FY _ (y / (g:Nat)) (d / g) k b e (by rw [Rn (RM.1 (Q5.2 (by rw [<- c];exact R9 _ _))),P6];exact Qd (Qo _ _) om_) (Qd (Qo _ _) om_)) U7 fl_<|C6 1 [4] a Z<|S3 U2<|⟨Z,Z⟩
theorem ME {a b:Nat}(h:bj a=bj b):a=b:=by rw [<- (bB a).2,h,(bB b).2]
theorem Nn (h:txt z=txt w):z=w:=by
 have h1:=dF z;rw [h,dF w] at h1;have h2:=ME (SQ h1).1;have h3:decide (w<0)=decide (z<0):=(SQ h1).2;by_cases a:w<0
 ·rw [PG a] at h3;have:=OD h3.symm;omega
 rw [PT a] at h3;have:=Pj h3.symm;omega
theorem li (h:qtx a=qtx b):a=b:=by
 have h1:=nT a;rw [h,nT b] at h1;have h2:=Nn (SQ h1).1;have h3:=congrArg O6 (SQ h1).2;rw [pX,pX] at h3;exact Rat.ext h2.symm h3.symm
theorem Ly (a b:Rat):((⟨(qtx a).toArray⟩:ByteArray).data.toList == (⟨(qtx b).toArray⟩:ByteArray).data.toList)=decide (a=b):=by
 show (qtx a == qtx b)=_;rw [SD,QO,Pp];exact ⟨li,fun h=>by rw [h]⟩
theorem qtx_zero:qtx 0=[48]:=by
 rw [show (0:Rat)=((0:Int):Rat) from rfl,mC];unfold txt;rw [aF om_,show bj (0:Int).natAbs=bj 0 from rfl,bj];rfl
theorem dB:qtx 1=[49]:=by
 rw [show (1:Rat)=((1:Int):Rat) from rfl,mC];exact one_val.symm
theorem fe (a:Rat):((⟨(qtx a).toArray⟩:ByteArray).data.toList == (⟨#[48]⟩:ByteArray).data.toList)=decide (a=0):=by
 have h:=Ly a 0
 rwa [qtx_zero] at h
theorem Ke (a:Rat):((⟨(qtx a).toArray⟩:ByteArray).data.toList == (⟨#[49]⟩:ByteArray).data.toList)=decide (a=1):=by
 have h:=Ly a 1
 rwa [dB] at h
theorem AE (a:Rat):0<(qtx a).length:=by
 unfold qtx;rw [Po,Po];have:=P4.2 (yN a.num.natAbs);omega
theorem bx (h:QB k q)(a:0<k):(qtx q).length<=18*k+2:=by
 unfold qtx;rw [Po,Po];have h1:=bZ h.1 a;have h2:=bZ h.2 a;have h3:(Iu (decide (q.num<0))).length<=1:=by cases decide (q.num<0) <;> simp [Iu]
 have h4:(eN (nB q.den)).length<=9*k+1:=by
  unfold nB;split
  ·simp [eN]
  simp [eN];exact h2
 omega
theorem nL (q:Rat):∃ c r,qtx q=c::r/\((((c.toNat:Nat):Int) == 45)=decide (q.num<0)):=by
 by_cases h:q.num<0
 ·refine ⟨45,bj q.num.natAbs++eN (nB q.den), ?_,by rw [PG h];decide⟩;unfold qtx;rw [PG h];rfl
 obtain ⟨c,r,a⟩:∃ c r,bj q.num.natAbs=c::r:=List.exists_cons_of_ne_nil (yN _);refine ⟨c,r++eN (nB q.den), ?_, ?_⟩
 ·unfold qtx;rw [PT h,a];rfl
 have h2:=jJ q.num.natAbs c (by rw [a];exact Ph);rw [PT h];unfold eP at h2;have h3:=OD h2;exact PT om_
theorem eQ (h:¬ q.num<0)(a:q≠0):qtx (-q)=45::qtx q:=by
 have b:q.num≠0:=fun e=>a (Sd.1 e);unfold qtx;rw [SI,Rat.neg_den,PG om_,PT h,Sg];rfl
theorem kc (h:q.num<0):qtx q=45::qtx (-q):=by
 have h2:=eQ (q:=-q) (by rw [SI];omega) (by intro e;have h3:=congrArg Rat.num e;rw [SI] at h3;have h4:(0:Rat).num=0:=rfl;omega)
 rwa [Rat.neg_neg] at h2
def Dd (q:Rat):Bool:=Mr (bj q.num.natAbs) (nB q.den)
theorem Ky (h:(bj n).length<=9):n<1000000000:=by
 have h1:=dP (jJ n);rw [(bB n).2] at h1;exact Qt h1 (Py (PK dc_ h) dc_)
theorem mJ (h:Dd q=true):q.num.natAbs<1000000000/\q.den<1000000000:=by
 unfold Dd Mr at h;rw [Pu,Pp,Pp] at h;refine ⟨Ky h.1, ?_⟩;by_cases h1:q.den=1
 ·omega
 rw [fJ h1] at h;exact Ky h.2
theorem Ez (C:Mem)(q:Rat)(a:(qtx q).length<=1000000):Gives cx.P 120 [af (qtx q)] C (if Dd q then .tuple #[.int .i64 q.num,.int .i64 (q.den:Nat),.bool true] else .tuple #[.int .i64 0,.int .i64 0,.bool false]):=by
 have h:=Cy C (decide (q.num<0)) (bj q.num.natAbs) (nB q.den) (jJ _) (yN _) (Jr _) a;unfold rz at h;rw [(bB _).2,pX] at h;have e:sgZ (decide (q.num<0)) q.num.natAbs=q.num:=by
  unfold sgZ;by_cases h:q.num<0
  ·rw [PG h,aL rfl];omega
  rw [PT h,aF dc_];omega
 rw [e] at h;exact h
theorem eA (C:Mem)(q:Rat)(g:(qtx q).length<=1000000):Gives cx.P 78 [af (qtx q)] C (af (qtx (-q))):=by
 have h:=AE q;refine S4 func78 13 U3 fun w0=>SR 1 [0] Z<|SR 2 [0,4] Z<|G.cd (fun h4=>?_) fun h4=>?_
 ·have h0:q=0:=by rw [fe] at h4;exact OD h4
  refine SR 2 [2] Z<|S3 U2<|⟨?_,Z⟩;rw [h0,Rat.neg_zero]
 have h0:q≠0:=by rw [fe] at h4;exact Pj h4
 obtain ⟨c,r,f,e⟩:=nL q;refine SS 1 Z fun R a=>TJ U8 (fun _=>⟨by omega,by rw [f];rfl⟩) U2<|C6 1 [0,8] a Z<|G.cd (fun b=>?_) fun b=>?_
 ·have d:q.num<0:=by rw [e] at b;exact OD b
  refine SS 1 Z fun R a=>TQ 1 (qtx q).length U9 (fun _=>⟨.inr ⟨_,Z⟩,.inl ⟨Z,Z⟩,.inl ⟨Z,Z⟩,by omega,Pf _,Pf _⟩) U2<|C6 1 [2] a Z<|S3 U2<|⟨?_,Z⟩;rw [Pv,kc d];rfl
 have d:¬ q.num<0:=by rw [e] at b;exact Pj b
 refine SS 1 Z fun R a=>TP U6 (fun _=>(by simp only [Pz,PV];omega)) U2<|C6 1 [2] a Z<|S3 U2<|⟨?_,Z⟩;rw [eQ d h0];rfl
theorem fR (C:Mem)(q:Rat)(j:(qtx q).length<=1000000):Gives cx.P 94 [af (qtx q)] C (.int .i64 (eK q.num)):=by
 obtain ⟨c,r,f,d⟩:=nL q;have k:=AE q;refine S4 func94 15 U3 fun w0=>SR 1 [0] Z<|SR 3 [0,3] Z<|G.cd (fun h3=>?_) fun h3=>?_
 ·have h0:q=0:=by rw [fe] at h3;exact OD h3
  refine SR 1 [2] Z<|S3 U2<|⟨?_,Z⟩;rw [h0];rfl
 have h0:q≠0:=by rw [fe] at h3;exact Pj h3
 have g:q.num≠0:=fun e=>h0 (Sd.1 e);refine SS 5 Z fun R i=>TJ U8 (fun _=>⟨by omega,by rw [f];rfl⟩) U2<|SV U6<|Tl U8<|C6 1 [6] i Z<|G.cd (fun a=>?_) fun a=>?_
 ·rw [d] at a;have b:q.num<0:=by
   have h:=(Pu _ _ ▸ a:_/\_).2;exact OD h
  skip
  refine SR 1 [2] Z<|S3 U2<|⟨?_,Z⟩;unfold eK;rw [aL b]
 rw [d,PG (show (0:Int)<((⟨(qtx q).toArray⟩:ByteArray).data.toList.length:Int) by show (0:Int)<(((qtx q).length:Nat):Int);omega),So] at a;have b:¬ q.num<0:=Pj a;refine SR 1 [2] Z<|S3 U2<|⟨?_,Z⟩;unfold eK;rw [aF b,aF g]
theorem jt (C:Mem)(q:Rat)(b:(qtx q).length<=1000000):Gives cx.P 120 [af (qtx q)] C (.tuple #[.int .i64 (if Dd q then q.num else 0),.int .i64 (if Dd q then ((q.den:Nat):Int) else 0),.bool (Dd q)]):=by
 have h:=Ez C q b;cases a:Dd q with
 | true=>rw [a] at h;exact h
 | false=>rw [a] at h;exact h
def sn (a b:Rat):Int:=if a<b then -1 else if b<a then 1 else 0
theorem uz :sn a b=uW (a.num*b.den) (b.num*a.den):=by
 unfold sn uW;simp only [Rat.lt_iff]
theorem gN (a:Rat):0<a.den:=Rf a.den_nz
theorem nN {a:Int}(b:a.natAbs<1000000000)(c:d<1000000000):-1000000000000000000<a*(d:Int)/\a*(d:Int)<1000000000000000000:=EW b (by rw [P6];exact c)
theorem wo {a:Nat}(b:a<1000000000)(c:d<1000000000):a*d<1000000000000000000:=Q7 b c
theorem kB (C:Mem)(q:Rat)(a:(qtx q).length<1000000):Gives cx.P 122 [af (qtx q)] C (.tuple #[af (txt q.num),af (txt ((q.den:Nat):Int))]):=by
 have h:=LN C q a
 rwa [<- de] at h
theorem dY (a:z.natAbs<B9 ^ k)(b:w.natAbs<B9 ^ k):(z*w).natAbs<B9 ^ (k+k):=by
 rw [QL];exact nM a b
theorem Bt (a:0<d):kM z ((d:Nat):Int)=mkRat z d:=by
 unfold kM;rw [aF om_,P6]
theorem qT (h:QB k q):((q.den:Nat):Int).natAbs<B9 ^ k:=by rw [P6];exact h.2
theorem gH (C:Mem)(m:Tabs C)(a b:Rat)(k:Nat)(f:0<k)(u:k<=20000)(d:QB k a)(e:QB k b):Gives cx.P 218 [af (qtx a),af (qtx b)] C (.int .i64 (sn a b)):=by
 have v:=bx d f;have w:=bx e f;refine S4 func218 65 U3 fun w0=>SR 1 [0,1] Z<|SR 3 [0,1,19] Z<|G.cd (fun g=>?_) fun g=>?_
 ·have h0:a=b:=by rw [Ly] at g;exact OD g
  refine SR 1 [4] Z<|S3 U2<|⟨?_,Z⟩;subst h0;rw [sn,aF (Rat.lt_irrefl),aF (Rat.lt_irrefl)]
 refine SS 1 Z fun R c=>Tb (jt _ a om_) U7 fl_<|C6 7 [0,1,5,6,7] c Z<|SR 1 [0,1,5,6,26] Z<|G.cut (fun fr x r s=>(True)/\fr=[(0,[],af (qtx a)),(1,[],af (qtx b))]/\r=[]) ?_ (fun fr _ y s _ t=>?_)
 ·refine G.cd (fun n=>?_) fun n=>?_
  ·have h:Dd a=true:=n;rw [aL h,aL h];have o:=mJ h;refine SS 1 Z fun R c=>Tb (jt _ b om_) U7 fl_<|C6 7 [0,1,5,6,8,9,10] c Z<|SR 1 [0,1,5,6,8,9,33] Z<|G.cd (fun p=>?_) fun p=>?_
   ·have i:Dd b=true:=p;rw [aL i,aL i];have q:=mJ i;have z:=nN o.1 q.2;have A:=nN q.1 o.2;refine SS 2 Z fun R c=>S2 _ Z U6<|SZ 2 Z<|S2 _ Z U6<|C6 2 [11,12] c Z<|SR 4 [11,12,40] Z<|G.cd (fun j=>?_) fun j=>?_
    ·have h1:=OD j;refine SR 1 [4] Z<|S3 U2<|⟨?_,Z⟩;rw [uz,uW,aL h1]
    have h1:=Pj j;refine SR 4 [44] Z<|G.cd (fun l=>?_) fun l=>?_
    ·have h2:=OD l;refine SR 1 [4] Z<|S3 U2<|⟨?_,Z⟩;rw [uz,uW,aF h1,aL h2]
    have h2:=Pj l;refine SR 1 [4] Z<|S3 U2<|⟨?_,Z⟩;rw [uz,uW,aF h1,aF h2]
   refine S9 0 (Mem.le.refl _) (hn_ [0,1] Z) ⟨trivial,Z,Z⟩
  refine S9 0 (Mem.le.refl _) (hn_ [0,1] Z) ⟨trivial,Z,Z⟩
 obtain ⟨_,rfl,rfl⟩:=t;exact SS 1 Z fun R c=>Tb (kB _ a om_) U7 fl_<|C6 5 [1,13,14] c Z<|SS 1 Z fun R c=>Tb (kB _ b om_) U7 fl_<|C6 5 [13,14,15,16] c Z<|SS 2 Z fun R c=>Tb (kH _ m.m_ _ _ k f om_ d.1 (qT e)) U7 fl_<|SZ 2 Z<|Tb (kH _ m.m_ _ _ k f om_ e.1 (qT d)) U7 fl_<|Tb (pJ _ _ _ (by have:=bZ (dY d.1 (qT e)) om_;omega) (by have:=bZ (dY e.1 (qT d)) om_;omega)) U7 fl_<|C6 1 [4] c Z<|S3 U2<|⟨by rw [uz],Z⟩
theorem mB (C:Mem)(f:Tabs C)(a b:Rat)(k:Nat)(g:0<k)(w:k<=10000)(d:QB k a)(e:QB k b):Gives cx.P 101 [af (qtx a),af (qtx b)] C (af (qtx (a+b))):=by
 have x:=bx d g;have y:=bx e g;have r:=gN a;have s:=gN b;have o:0<a.den*b.den:=RL r s;refine S4 func101 67 U3 fun w0=>SR 1 [0,1] Z<|SR 2 [0,1,16] Z<|G.cd (fun h=>?_) fun h=>?_
 ·have h0:a=0:=by rw [fe] at h;exact OD h
  refine SR 2 [4] Z<|S3 U2<|⟨?_,Z⟩;rw [h0,Rat.zero_add]
 refine SR 2 [0,1,19] Z<|G.cd (fun i=>?_) fun i=>?_
 ·have h0:b=0:=by rw [fe] at i;exact OD i
  refine SR 2 [4] Z<|S3 U2<|⟨?_,Z⟩;rw [h0,Rat.add_zero]
 refine SS 1 Z fun R c=>Tb (jt _ a om_) U7 fl_<|C6 7 [0,1,5,6,7] c Z<|SR 1 [0,1,5,6,27] Z<|G.cut (fun fr z t u=>(True)/\fr=[(0,[],af (qtx a)),(1,[],af (qtx b))]/\t=[]) ?_ (fun fr _ A u _ v=>?_)
 ·refine G.cd (fun p=>?_) fun p=>?_
  ·have j:Dd a=true:=p;rw [aL j,aL j];have l:=mJ j;refine SS 1 Z fun R c=>Tb (jt _ b om_) U7 fl_<|C6 7 [0,1,5,6,8,9,10] c Z<|SR 1 [0,1,5,6,8,9,34] Z<|G.cd (fun q=>?_) fun q=>?_
   ·have m:Dd b=true:=q;rw [aL m,aL m];have n:=mJ m;have B:=nN l.1 n.2;have D:=nN n.1 l.2;have E:=wo l.2 n.2;exact SS 2 Z fun R c=>S2 _ Z U6<|SZ 2 Z<|S2 _ Z U6<|S2 _ Z U6<|SZ 2 Z<|S2 (((a.den*b.den:Nat):Int)) (PL _ _).symm U6<|Tb (vN _ f.m_ _ _ o om_ om_) U7 fl_<|C6 1 [4] c Z<|S3 U2<|⟨by rw [jz],Z⟩
   refine S9 0 (Mem.le.refl _) (hn_ [0,1] Z) ⟨trivial,Z,Z⟩
  refine S9 0 (Mem.le.refl _) (hn_ [0,1] Z) ⟨trivial,Z,Z⟩
 obtain ⟨_,rfl,rfl⟩:=v;exact SS 1 Z fun R c=>Tb (kB _ a om_) U7 fl_<|C6 5 [1,11,12] c Z<|SS 1 Z fun R c=>Tb (kB _ b om_) U7 fl_<|C6 5 [11,12,13,14] c Z<|SS 2 Z fun R c=>Tb (kH _ f.m_ _ _ k g om_ d.1 (qT e)) U7 fl_<|SZ 2 Z<|Tb (kH _ f.m_ _ _ k g om_ e.1 (qT d)) U7 fl_<|Tb (Mk _ f.m_ _ _ (k+k) om_ om_ (dY d.1 (qT e)) (dY e.1 (qT d))) U7 fl_<|SZ 2 Z<|Tb (kH _ f.m_ _ _ k g om_ (qT d) (qT e)) U7 fl_<|Tb (pC _ f.m_ _ _ (k+k+1) om_ om_ (Qd (R3 _ _) (xL (dY d.1 (qT e)) (dY e.1 (qT d)))) (dC (dY (qT d) (qT e)) om_) (by rw [<- PL];omega)) U7 fl_<|C6 1 [4] c Z<|S3 U2<|⟨by rw [jz,<- PL,Bt o],Z⟩
theorem Ol (c:QB k a)(d:QB k b):QB (k+k+1) (a+b):=by
 rw [jz];exact gU (Nat.ne_of_gt (RL (gN a) (gN b))) (Qd (R3 _ _) (xL (dY c.1 (qT d)) (dY d.1 (qT c)))) (dC (nM c.2 d.2) om_)
theorem qD (c:QB k a)(d:QB k b):QB (k+k) (a*b):=by
 rw [gm];exact gU (Nat.ne_of_gt (RL (gN a) (gN b))) (dY c.1 d.1) (nM c.2 d.2)
theorem eX (b:QB k a):QB k (-a):=⟨by rw [SI,Sg];exact b.1,by rw [Rat.neg_den];exact b.2⟩
theorem lY (c:QB k a)(d:QB k b):QB (k+k+1) (a-b):=by
 rw [SJ];exact Ol c (eX d)
theorem BQ (b:QB k a)(d:a≠0):QB k a⁻¹:=by
 have c:a.num≠0:=fun e=>d (Sd.1 e);refine ⟨?_, ?_⟩
 ·rw [Rat.num_inv,QL,Int.natAbs_sign_of_ne_zero c,R0,P6];exact b.2
 rw [Rat.den_inv,aF c];exact b.1
theorem ji (c:QB k a)(d:QB k b)(e:b≠0):QB (k+k) (a / b):=by
 rw [Rat.div_def];exact qD c (BQ d e)
theorem Oj (h:z.natAbs<B9 ^ k)(a:0<k):QB k (z:Rat):=⟨h,by
 show 1<B9 ^ k;exact Qt (by decide:1<B9 ^ 1) (PK dc_ a)⟩
theorem df (C:Mem)(g:Tabs C)(a b:Rat)(k:Nat)(i:0<k)(z:k<=10000)(d:QB k a)(e:QB k b):Gives cx.P 60 [af (qtx a),af (qtx b)] C (af (qtx (a*b))):=by
 have A:=bx d i;have B:=bx e i;have w:=gN a;have x:=gN b;have q:0<a.den*b.den:=RL w x;refine S4 func60 66 U3 fun w0=>SR 1 [0,1] Z<|SR 3 [0,1,15] Z<|G.cut (fun fr y L' j=>(True)/\fr=[(0,[],af (qtx a)),(1,[],af (qtx b)),(15,[],.bool (decide (a=0∨b=0)))]/\L'=[]) ?_ (fun fr _ D j _ l=>?_)
 ·refine G.cd (fun f=>?_) fun f=>?_
  ·have h0:a=0:=by rw [fe] at f;exact OD f
   rw [fe,show decide (a=0)=decide (a=0∨b=0) by simp [h0]];refine S9 0 (Mem.le.refl _) (hn_ [0,1,15] Z) ⟨trivial,Z,Z⟩
  have h0:¬ a=0:=by rw [fe] at f;exact Pj f
  refine SR 3 [0,1,15] Z ?_;rw [fe,show decide (b=0)=decide (a=0∨b=0) by simp [h0]];refine S9 0 (Mem.le.refl _) (hn_ [0,1,15] Z) ⟨trivial,Z,Z⟩
 obtain ⟨_,rfl,rfl⟩:=l;refine G.cd (fun r=>?_) fun r=>?_
 ·have h0:=OD r;refine SR 1 [4] Z<|S3 U2<|⟨?_,Z⟩;rw [show a*b=0 by rcases h0 with h | h <;> simp [h],qtx_zero];rfl
 refine SR 3 [0,1,20] Z<|G.cd (fun m=>?_) fun m=>?_
 ·have h1:a=1:=by rw [Ke] at m;exact OD m
  refine SR 2 [4] Z<|S3 U2<|⟨?_,Z⟩;rw [h1,Rat.one_mul]
 refine SR 3 [0,1,24] Z<|G.cd (fun n=>?_) fun n=>?_
 ·have h1:b=1:=by rw [Ke] at n;exact OD n
  refine SR 2 [4] Z<|S3 U2<|⟨?_,Z⟩;rw [h1,Rat.mul_one]
 refine SS 1 Z fun R c=>Tb (jt _ a om_) U7 fl_<|C6 7 [0,1,5,6,7] c Z<|SR 1 [0,1,5,6,34] Z<|G.cut (fun fr y L' j=>(True)/\fr=[(0,[],af (qtx a)),(1,[],af (qtx b))]/\L'=[]) ?_ (fun fr _ E j _ l=>?_)
 ·refine G.cd (fun s=>?_) fun s=>?_
  ·have o:Dd a=true:=s;rw [aL o,aL o];have t:=mJ o;refine SS 1 Z fun R c=>Tb (jt _ b om_) U7 fl_<|C6 7 [0,1,5,6,8,9,10] c Z<|SR 1 [0,1,5,6,8,9,41] Z<|G.cd (fun u=>?_) fun u=>?_
   ·have p:Dd b=true:=u;rw [aL p,aL p];have v:=mJ p;have F:=EW t.1 v.1;have H:=wo t.2 v.2;exact SS 2 Z fun R c=>S2 _ Z U6<|SZ 2 Z<|S2 (((a.den*b.den:Nat):Int)) (PL _ _).symm U6<|Tb (vN _ g.m_ _ _ q om_ om_) U7 fl_<|C6 1 [4] c Z<|S3 U2<|⟨by rw [gm],Z⟩
   refine S9 0 (Mem.le.refl _) (hn_ [0,1] Z) ⟨trivial,Z,Z⟩
  refine S9 0 (Mem.le.refl _) (hn_ [0,1] Z) ⟨trivial,Z,Z⟩
 obtain ⟨_,rfl,rfl⟩:=l;exact SS 1 Z fun R c=>Tb (kB _ a om_) U7 fl_<|C6 5 [1,11,12] c Z<|SS 1 Z fun R c=>Tb (kB _ b om_) U7 fl_<|C6 5 [11,12,13,14] c Z<|SS 2 Z fun R c=>Tb (kH _ g.m_ _ _ k i om_ d.1 e.1) U7 fl_<|SZ 2 Z<|Tb (kH _ g.m_ _ _ k i om_ (qT d) (qT e)) U7 fl_<|Tb (pC _ g.m_ _ _ (k+k) om_ om_ (dY d.1 e.1) (dY (qT d) (qT e)) (by rw [<- PL];omega)) U7 fl_<|C6 1 [4] c Z<|S3 U2<|⟨by rw [gm,<- PL,Bt q],Z⟩
theorem ec (C:Mem)(e:Tabs C)(a b:Rat)(k:Nat)(c:0<k)(f:k<=10000)(g:QB k a)(d:QB k b):Gives cx.P 127 [af (qtx a),af (qtx b)] C (af (qtx (a-b))):=by
 have i:=bx d c;exact S4 func127 9 U3 fun w0=>SR 1 [0,1] Z<|SS 2 Z fun R h=>Tb (eA _ b om_) U7 fl_<|S8 (mB _ e.m_ a (-b) k c f g (eX d)) U7<|C6 1 [4] h Z<|S3 U2<|⟨by rw [SJ],Z⟩
theorem gG (C:Mem)(n:Tabs C)(a b:Rat)(k:Nat)(g:0<k)(o:k<=10000)(p:QB k a)(f:QB k b)(h:b≠0):Gives cx.P 70 [af (qtx a),af (qtx b)] C (.tuple #[af (qtx (a / b)),.int .i64 0]):=by
 have v:=bx f g;have q:b.num≠0:=fun e=>h (Sd.1 e);obtain ⟨c,r,s,l⟩:=nL b;refine S4 func70 27 U3 fun w0=>SR 2 [0,1] Z<|SR 2 [0,1,9] Z<|G.cd (fun j=>?_) fun j=>?_
 ·exfalso;rw [fe] at j;exact h (OD j)
 refine SS 1 Z fun R d=>Tb (kB _ b om_) U7 fl_<|C6 5 [0,1,6,7] d Z<|SS 1 Z fun R d=>TJ U8 (fun _=>⟨by omega,by rw [s];rfl⟩) U2<|C6 1 [0,6,7,17] d Z<|G.cut (fun fr w L' t=>(True)/\fr=[(0,[],af (qtx a)),(6,[],af (txt (b.num.natAbs:Nat))),(7,[],af (txt (b⁻¹).num))]/\L'=[]) ?_ (fun fr _ x t _ u=>?_)
 ·refine G.cd (fun i=>?_) fun i=>?_
  ·have m:b.num<0:=by rw [l] at i;exact OD i
   refine SS 1 Z fun R d=>Tb (tV _ b.num (by have:=bZ f.1 g;omega)) U7 fl_<|SV U6<|Tb (tV _ ((b.den:Nat):Int) (by have:=bZ (qT f) g;omega)) U7 fl_<|C6 2 [0,6,7] d Z ?_;rw [show -b.num=((b.num.natAbs:Nat):Int) by omega,show -((b.den:Nat):Int)=(b⁻¹).num by rw [Rat.num_inv,Int.sign_eq_neg_one_of_neg m,Int.neg_one_mul]];refine S9 0 (Mem.le.refl _) (hn_ [0,6,7] Z) ⟨trivial,Z,Z⟩
  have m:¬ b.num<0:=by rw [l] at i;exact Pj i
  rw [show b.num=((b.num.natAbs:Nat):Int) by omega,show ((b.den:Nat):Int)=(b⁻¹).num by rw [Rat.num_inv,Int.sign_eq_one_of_pos om_,Int.one_mul]];refine S9 0 (Mem.le.refl _) (hn_ [0,6,7] Z) ⟨trivial,Z,Z⟩
 obtain ⟨_,rfl,rfl⟩:=u;rw [de,show b.num.natAbs=(b⁻¹).den by rw [Rat.den_inv,aF q]];refine SS 3 Z fun R d=>Tb (FY _ _ _ k g om_ (BQ f h).1 (BQ f h).2) U7 fl_ ?_;rw [<- oU b⁻¹];refine S8 (df _ n.m_ a b⁻¹ k g o p (BQ f h)) U7<|C6 2 [4,5] d Z<|S7 (G.dropAll (Tp U3 ?_));exact ⟨by rw [Rat.div_def],Z⟩
theorem Lk (C:Mem)(c:Tabs C)(z w:Int)(k:Nat)(d:0<k)(e:k<=40000)(f:z.natAbs<B9 ^ k)(g:w.natAbs<B9 ^ k)(i:w≠0):Gives cx.P 184 [af (txt z),af (txt w)] C (.tuple #[af (qtx (kM z w)),.int .i64 0]):=by
 refine S4 func184 12 U3 fun w0=>SR 2 [0,1] Z<|SS 1 Z fun R a=>S8 (lJ _ w) U7<|C6 1 [0,1,8] a Z<|G.cd (fun b=>?_) fun b=>?_
 ·exfalso;have h:eK w=0:=by simpa using b
  rcases eh w with h2 | h2 | h2 <;> omega
 refine SS 2 Z fun R a=>S8 (pC _ c.m_ z w k d e f g i) U7<|C6 2 [4,5] a Z<|S7 (G.dropAll (Tp U3 ?_));exact ⟨Z,Z⟩
theorem EF (C:Mem)(a:Tabs C)(z w:Int)(d:z.natAbs<9000000000000000000)(e:w.natAbs<9000000000000000000)(b:w≠0):Gives cx.P 118 [.int .i64 z,.int .i64 w] C (.tuple #[af (qtx (kM z w)),.int .i64 0]):=by
 have f:9000000000000000000<B9 ^ 3:=by decide
 refine S4 func118 13 U3 fun w0=>SR 2 [0,1] Z<|SS 1 Z fun R c=>Tb (rN _ a.m_ z om_ om_) U7 fl_<|SV U6<|Tb (rN _ a.m_ w om_ om_) U7 fl_<|Tb (Lk _ a.m_ z w 3 dc_ dc_ om_ om_ b) U7 fl_<|C6 4 [4,5] c Z<|S7 (G.dropAll (Tp U3 ?_));exact ⟨Z,Z⟩
theorem sR (C:Mem)(a:Tabs C)(z:Int)(c:z.natAbs<9000000000000000000):Gives cx.P 119 [.int .i64 z] C (af (qtx z)):=by
 exact S4 func119 5 U3 fun w0=>SR 1 [0] Z<|SS 1 Z fun R b=>Tb (rN _ a.m_ z om_ om_) U7 fl_<|C6 1 [2] b Z<|S3 U2<|⟨by rw [mC],Z⟩
theorem pow9 (k:Nat):B9 ^ k=10 ^ (9*k):=by rw [Nat.pow_mul]
theorem fu (h:cI s=true):s=txt (ix s)/\(ix s).natAbs<B9 ^ 23:=by
 have h1:=rx.1 h;refine ⟨G7 (by unfold cI at h;exact (SE.1 h).1), ?_⟩;rw [Js];have h2:=yk.1 h1.1;have h3:=dP h2.1.1;exact Qt h3 (by rw [pow9];exact PK dc_ om_)
theorem Kd (h:aW s=true):∃ q:Rat,s=qtx q/\QB 23 q:=by
 unfold aW at h;rw [Pu,Pu] at h;obtain ⟨⟨h1,h2⟩,h3⟩:=h;obtain ⟨a,b⟩:=fu h1;rcases gw 47 s with ⟨d,_,_⟩ | ⟨c,post,d,hs,_⟩
 ·rw [d] at a b;exact ⟨((ix s:Int):Rat),by rw [mC];exact a,Oj b dc_⟩
 rw [d] at h2 h3 a b;simp only [Qx] at h2 a b;obtain ⟨e,f⟩:=fu h2;unfold oS at h3;simp only [Pu,Pp,QO] at h3;obtain ⟨⟨h4,_⟩,g⟩:=h3;have i:(ix post).natAbs≠0:=by omega
 refine ⟨⟨ix c,(ix post).natAbs,i,g⟩, ?_,b,f⟩;rw [oU];show s=txt (ix c)++eN (nB (ix post).natAbs);rw [fJ om_,<- a,hs];show c++47::post=c++47::bj (ix post).natAbs;rw [<- de,show (((ix post).natAbs:Nat):Int)=ix post by omega,<- e]
theorem qP (C:Mem)(b:Str)(a:cI b=true):Gives cx.P 161 [af b,af [49]] C (.int .i64 (uW (ix b) 1)):=by
 obtain ⟨h1,h2⟩:=fu a;have h:=pJ C (ix b) 1 (by have:=bZ h2 dc_;omega) (by rw [show bj (1:Int).natAbs=[49] from one_dec];decide)
 rwa [<- one_val,<- h1] at h
theorem CT (C:Mem)(c:Tabs C)(a b:Str)(d:cI a=true)(e:cI b=true):Gives cx.P 162 [af a,af b] C (af (txt (Nat.gcd (ix a).natAbs (ix b).natAbs:Nat))):=by
 obtain ⟨h1,h2⟩:=fu d;obtain ⟨h3,h4⟩:=fu e;have h:=F5 C c (ix a) (ix b) 23 dc_ dc_ h2 h4
 rwa [<- h1,<- h3] at h
theorem xf {b:Bool}(h:(nV b != 0)=false):b=true:=by cases b <;> first | rfl | (exact absurd h dc_)
theorem dA (C:Mem)(y:Tabs C)(s:Str)(A:s.length<=999998):Gives cx.P 103 [af s] C (.int .i64 (nV (aW s))):=by
 have u:=EK A;obtain ⟨c,f,l⟩:∃ a b,jL 47 s=(a,b):=⟨_,_,rfl⟩;have k:aW s=(cI c && cI (f.getD [49]) && oS (ix c) f):=by
  unfold aW;rw [l]
 rw [l] at u;simp only at u;refine S4 func103 39 U3 fun w0=>SR 1 [0] Z<|SS 1 Z fun R g=>Tb (by have h:=KF C s 47 om_;rw [l] at h;exact h) U7 fl_<|C6 7 [3,4,5] g Z<|SS 1 Z fun R g=>S8 (wG _ c) U7<|C6 1 [3,4,5,16] g Z<|G.cd (fun i=>?_) fun i=>?_
 ·have j:aW s=false:=by
   rw [k];cases h1:cI c with
   | false=>rfl
   | true=>rw [h1] at i;exact absurd i dc_
  exact SR 1 [2] Z<|S3 U2<|⟨by rw [j];rfl,Z⟩
 have m:cI c=true:=by
  cases h1:cI c with
  | true=>rfl
  | false=>rw [h1] at i;exact absurd i dc_
 rw [m,So] at k;obtain ⟨v,B⟩:=fu m;refine SR 2 [3,4,18] Z<|G.cd (fun n=>?_) fun n=>?_
 ·have o:f=none:=by
   cases f with
   | none=>rfl
   | some b=>simp at n
  refine SR 1 [2] Z<|S3 U2<|⟨?_,Z⟩;rw [k,o];rfl
 obtain ⟨b,o⟩:∃ b,f=some b:=by
  cases f with
  | some b=>exact ⟨b,rfl⟩
  | none=>simp at n
 subst o;obtain ⟨d,w⟩:∃ z,ix c=z:=⟨_,rfl⟩;obtain ⟨e,x⟩:∃ z,ix b=z:=⟨_,rfl⟩;have p:aW s=(cI b && oS (ix c) (some b)):=k;unfold oS at p;simp only [w,x] at p v B;have D:(c == [48])=(d == 0):=by
  rw [v];have h:=kY d;rw [show (d == 0)=decide (d=0) by by_cases h:d=0 <;> simp [h]];exact h
 have E:(nV (cI b) != 0)=!cI b:=by cases cI b <;> rfl
 have F:decide (uW e 1<=0)=!decide (1<e):=by
  unfold uW;by_cases h:1<e
  ·rw [aF om_,aL h,PG h];rfl
  rw [PT h];refine PG ?_;split <;> first | omega | (split <;> omega)
 have q:(nV (cI b) != 0 || decide (uW (ix b) 1<=0) || (c == [48]) || !(bj ((ix c).natAbs.gcd (ix b).natAbs) == [49]))=!aW s:=by
  have H:=si (d.natAbs.gcd e.natAbs);have I:(bj (d.natAbs.gcd e.natAbs) == [49])=(d.natAbs.gcd e.natAbs == 1):=H;rw [w,x,D,E,F,I,p];cases cI b <;> cases decide (1<e) <;> cases (d == 0) <;> cases (d.natAbs.gcd e.natAbs == 1) <;> rfl
 rw [<- de] at q;refine SR 4 [6,7] Z<|SS 1 Z fun R g=>S8 (wG _ b) U7<|SZ 3 Z<|Tj (fun r=>(qP _ b (by exact xf (show (nV (cI b) != 0)=false/\True from r).1))) U9<|SV U6<|Tt U8<|SZ 3 Z<|Tt U8<|SZ 3 Z<|Tj (fun r=>(CT _ y.m_ c b m (by exact xf (QW.1 (QW.1 (show (((nV (cI b) != 0) || decide (uW (ix b) 1<=0)) || (c == [48]))=false/\True from r).1).1).1))) U9<|SV U6<|Tt U8<|SY [38] g Z<|G.cd (fun t=>?_) fun t=>?_
 ·have j:aW s=false:=by
   have h:(!aW s)=true:=q.symm.trans t;simpa using h
  exact SR 1 [2] Z<|S3 U2<|⟨by rw [j];rfl,Z⟩
 have j:aW s=true:=by
  have h:(!aW s)=false:=q.symm.trans t;simpa using h
 exact SR 1 [2] Z<|S3 U2<|⟨by rw [j];rfl,Z⟩
theorem NA (z:Int)(b:g ∣ z.natAbs):sgZ (decide (z<0) != false) (z.natAbs / g)=z / (g:Int):=by
 obtain ⟨m,hm⟩:=b;rcases Qj g with h | c
 ·subst h;have a:z=0:=by omega
  subst a;rfl
 rw [hm,Nat.mul_div_cancel_left _ c,Bool.bne_false];unfold sgZ;by_cases a:z<0
 ·rw [PG a,aL rfl,show z=(g:Int)*(-(m:Int)) by rw [Int.mul_neg,<- PL];omega,Int.mul_ediv_cancel_left _ om_]
 rw [PT a,aF dc_,show z=(g:Int)*(m:Int) by rw [<- PL];omega,Int.mul_ediv_cancel_left _ om_]
theorem wS (C:Mem)(c:Tabs C)(z:Int)(b:Nat)(m:z.natAbs<BP ^ 200)(n:b<BP ^ 200)(F:0<b)(d:b ∣ z.natAbs):Gives cx.P 168 [af (txt z),af (bj b)] C (.tuple #[af (txt (z / (b:Int))),af (bj 0)]):=by
 have H:=Ov;have o:z.natAbs % b=0:=Nat.mod_eq_zero_of_dvd d;have f:(b:Int) ∣ z:=RM.1 (Q5.2 d);have I:(z / (b:Int)).natAbs<=z.natAbs:=by
  rw [Rn f,P6];exact Qo _ _
 refine S4 func168 93 U3 fun w0=>SR 2 [0,1] Z<|SS 1 Z fun R a=>S8 (BL C z) U7<|C6 5 [0,1,6,7] a Z<|SS 1 Z fun R a=>S8 (qq _ b) U7<|C6 5 [0,1,6,7,8,9] a Z<|SS 3 Z fun R a=>Tl U8<|SY [0,1,6,8,31] a Z<|G.cd (fun g=>?_) fun g=>?_
 ·have hs:(bj z.natAbs).length<=17/\(bj b).length<=17:=by simpa using g
  have h1:=BK hs.1;have h2:=qt hs.2;rw [aL hs.1,aL hs.2];refine Tg [0,1,2,3,4,5,6,7] [] Z kr_ fun R J a=>SZ 2 Z<|Ub (z / (b:Int)) U6 om_ (oT d) (wrap_i64 om_ om_) U2<|SZ 2 Z<|TU 0 U6 om_ ⟨(Int.tmod_eq_zero_of_dvd f),Z,Z⟩<|C6 2 [6,8,10,11] a Z<|SR 2 [6,8,10,11,39] Z<|G.cd (fun h=>?_) fun h=>?_
  ·exfalso;simp at h
  refine SS 1 Z fun R a=>Tb (lk _ c (z / (b:Int)) om_ om_) U7 fl_<|SV U6<|Tb (Fh _ c 0 om_) U7 fl_<|C6 2 [4,5] a Z<|S7 (G.dropAll (Tp U3 ?_));exact ⟨Z,Z⟩
 refine SS 1 Z fun R a=>S8 (fy _ z) U7<|C6 5 [1,12,13] a Z<|SS 1 Z fun R a=>S8 (oE _ b) U7<|C6 5 [12,13,14,15] a Z<|SS 1 Z fun R a=>Tv (nC _ z.natAbs m) U7 (fun K _ _ p=>?_);obtain ⟨lp,q,r,L,s⟩:=p;refine SV U6<|Tv (nC _ b n) U7 (fun M _ _ t=>?_);obtain ⟨u,v,w,N,x⟩:=t;refine To (AS _ _ _ lp u s.m_ x.m_ q.1 v om_ om_ om_) U7 fl_ (fun O _ _ y=>?_);obtain ⟨u1,Q,rfl,i,e⟩:=y;rw [r,w] at i e;rw [o] at e;obtain ⟨l1,A,B,S,D⟩:=PieC.take i (by have:=Qo z.natAbs b;omega);obtain ⟨l2,j,E,T,k⟩:=PieC.take e om_;obtain ⟨A2,c2,rfl,_⟩:=id k;obtain rfl:=(BH j).1 E;refine C6 5 [12,14,15,16,17] a Z<|SS 5 Z fun R a=>Tl U8<|SY [12,14,15,16,17,78] a Z<|G.cd (fun l=>?_) fun l=>?_
 ·exfalso;simp at l
 refine SS 4 Z fun R a=>Tb (FD _ c.m_ _ _ l1 D.m_ A.1 om_) U7 fl_<|SV U6<|Tb (tP _ c.m_ _ [] k.m_ j.1 am) U7 fl_<|C6 2 [4,5] a Z<|S7 (G.dropAll (Tp U3 ?_));refine ⟨?_,Z⟩;show Value.tuple #[af (txt (sgZ (decide (z<0) != false) (bK l1))),_]=_;rw [B,NA z d];rfl
theorem AZ (h:(txt z).length<=9):z.natAbs<1000000000:=by
 have h1:=zh h
 rwa [e9] at h1
theorem Ek (C:Mem)(k:Tabs C)(z w:Int)(A:(txt z).length<=9)(B:(txt w).length<=9)(S:w≠0):Gives cx.P 164 [af (txt z),af (txt w)] C (af (qtx (kM z w))):=by
 have T:=AZ A;have U:=AZ B;obtain ⟨n,i⟩:∃ y,(if w<0 then -z else z)=y:=⟨_,rfl⟩;obtain ⟨d,D⟩:∃ d,w.natAbs=d:=⟨_,rfl⟩;have r:0<d:=by omega
 have E:n.natAbs<1000000000:=by rw [<- i];split <;> omega
 unfold kM;rw [i,D];obtain ⟨g,b⟩:∃ g,Nat.gcd n.natAbs d=g:=⟨_,rfl⟩;have F:0<g:=by rw [<- b];exact RS _ r
 have s:g ∣ n.natAbs:=by rw [<- b];exact R9 _ _
 have H:g ∣ d:=by rw [<- b];exact Si _ _
 have V:g<=d:=SK r H;have I:(n / (g:Int)).natAbs<=n.natAbs:=by
  rw [Rn (RM.1 (Q5.2 s)),P6];exact Qo _ _
 have t:=Qo d g;rw [AF om_,b];refine S4 func164 55 U3 fun w0=>SR 1 [0,1] Z<|SS 1 Z fun R a=>Tb (zf Tryz.atoi z om_ _ kr_) U7 fl_<|C6 5 [1,5] a Z<|SS 1 Z fun R a=>Tb (zf Tryz.atoi w om_ _ kr_) U7 fl_<|C6 5 [5,7] a Z<|SR 2 [5,7,22] Z<|G.cut (fun fr u c e=>(True)/\fr=[(5,[],.int .i64 n),(7,[],.int .i64 d)]/\c=[]) ?_ (fun fr _ W e _ f=>?_)
 ·refine G.cd (fun l=>?_) fun l=>?_
  ·have h:w<0:=by simpa using l
   rw [aL h] at i;refine SR 6 [5,7] Z ?_;rw [show IntKind.i64.wrap (0-z)=n by rw [wrap_i64 om_ om_];omega,show IntKind.i64.wrap (0-w)=(d:Int) by rw [wrap_i64 om_ om_];omega];refine S9 0 (Mem.le.refl _) (hn_ [5,7] Z) ⟨trivial,Z,Z⟩
  have h:¬ w<0:=by simpa using l
  rw [aF h] at i;rw [show z=n by omega,show w=(d:Int) by omega];refine S9 0 (Mem.le.refl _) (hn_ [5,7] Z) ⟨trivial,Z,Z⟩
 obtain ⟨_,rfl,rfl⟩:=f;refine SR 4 [5,7,9,10] Z<|SR 2 [5,7,9,10,30] Z<|G.cut (fun fr u c e=>(True)/\fr=[(5,[],.int .i64 n),(7,[],.int .i64 d),(9,[],.int .i64 (n.natAbs:Nat)),(10,[],.int .i64 d)]/\c=[]) ?_ (fun fr _ X e _ f=>?_)
 ·refine G.cd (fun o=>?_) fun o=>?_
  ·have h:n<0:=by simpa using o
   refine SR 3 [5,7,9,10] Z ?_;rw [show IntKind.i64.wrap (0-n)=((n.natAbs:Nat):Int) by rw [wrap_i64 om_ om_];omega];refine S9 0 (Mem.le.refl _) (hn_ [5,7,9,10] Z) ⟨trivial,Z,Z⟩
  have h:¬ n<0:=by simpa using o
  refine S9 0 (Mem.le.refl _) (hn_ [5,7,9,10] Z) ⟨trivial,by rw [show ((n.natAbs:Nat):Int)=n by omega],Z⟩
 obtain ⟨_,rfl,rfl⟩:=f;refine G.loop (fun fr u c e=>∃ (x y:Int),(x.natAbs<9000000000000000000/\0<=x/\0<=y/\y.natAbs<9000000000000000000/\Nat.gcd x.natAbs y.natAbs=g)/\fr=[(5,[],.int .i64 n),(7,[],.int .i64 d),(9,[],.int .i64 x),(10,[],.int .i64 y)]/\c=[]/\e=y.natAbs+1) (hn_ [5,7,9,10] Z) ⟨(n.natAbs:Int),d,⟨by omega,by omega,by omega,by omega,by rw [P6,P6];exact b⟩,Z,Z,Z⟩ (fun fr Y aa m J f=>?_);obtain ⟨x,y,⟨ab,K,L,M,v⟩,rfl,rfl,rfl⟩:=f;refine SR 2 [5,7,9,10,34] Z<|G.cd (fun p=>?_) fun p=>?_
 ·have q:y≠0:=by simpa using p
  have N:(x.tmod y).natAbs=x.natAbs % y.natAbs:=RZ x y;have ac:=PY x.natAbs (show 0<y.natAbs by omega);have O:=Int.tmod_nonneg y K;refine Tg [0,1,2,3,4,5] [] Z kr_ fun R Q a=>SZ 3 Z<|TU (x.tmod y) U6 q U3<|C6 2 [5,7,9,10] a Z<|S6 (m':=(x.tmod y).natAbs+1) om_ J (hn_ [5,7,9,10] Z) ⟨y,x.tmod y,⟨M,L,O,by omega,by rw [N,<- v,Rs x.natAbs,SH y.natAbs x.natAbs,Rs]⟩,Z,Z,Z⟩
 have q:y=0:=by simpa using p
 subst q;rw [show (0:Int).natAbs=0 from rfl,RY] at v;obtain rfl:x=(g:Int):=by omega
 refine Tg [0,1,2,3,4,5,6,7] [] Z kr_ fun R Q a=>SZ 2 Z<|Ub (n / (g:Int)) U6 om_ (oT s) (wrap_i64 om_ om_) U2<|SZ 2 Z<|TV (d) (g) U6 F (.inl ⟨Z,by omega⟩) U2<|C6 2 [5,7] a Z<|SR 2 [5,7,46] Z<|G.cd (fun j=>?_) fun j=>?_
 ·have h1:d / g=1:=by
   have h2:(((d / g:Nat):Int))=1:=by simpa using j
   omega
  refine SS 1 Z fun R a=>Tb (iY _ k.m_ _ om_ om_) U7 fl_<|C6 1 [4] a Z<|S3 U2<|⟨?_,Z⟩;rw [h1,lS rfl];simp [eN]
 have h1:d / g≠1:=by
  intro h2;rw [h2] at j;exact absurd j dc_
 have ad:=ml (n / (g:Int));have ae:=ml ((d / g:Nat):Int);have ag:(bj (n / (g:Int)).natAbs).length<=20:=eE (Qd I (Rt E dc_)) dc_;have ah:(bj ((d / g:Nat):Int).natAbs).length<=20:=eE (by rw [P6];exact Qd t (Rt (show d<1000000000 by omega) dc_)) dc_;refine SS 1 Z fun R a=>Tb (iY _ k.m_ _ om_ om_) U7 fl_<|TP U6 (fun _=>(by simp only [Pz,PV];omega)) U2<|SV U6<|Tb (iY _ k.m_ ((d / g:Nat):Int) (SP dc_ (Int.natCast_nonneg _)) (SP (Int.ofNat_le.2 t) om_)) U7 fl_<|TP U6 (fun _=>(by simp only [Po,Pz,PV];omega)) U2<|C6 1 [4] a Z<|S3 U2<|⟨?_,Z⟩;rw [fJ h1,de,PR];rfl
theorem Hi (h:z.natAbs<m)(g:Nat)(a:g ∣ z.natAbs):(z / (g:Int)).natAbs<m:=by
 rw [Rn (RM.1 (Q5.2 a)),P6];exact Qd (Qo _ _) h
theorem I9 (C:Mem)(a:Tabs C)(y:Int)(d:Nat)(b:y.natAbs<BP ^ 200)(c:d<BP ^ 200):Gives cx.P 167 [af (txt y),af (bj d)] C (af (bj (Nat.gcd y.natAbs d))):=by
 have h:=CZ C a y (d:Nat) b om_
 rwa [de,P6] at h
theorem yB (C:Mem)(e:Tabs C)(z w:Int)(j:z.natAbs<BP ^ 200)(n:w.natAbs<BP ^ 200)(o:w≠0):Gives cx.P 105 [af (txt z),af (txt w)] C (af (qtx (kM z w))):=by
 have B:=gu j;have D:=gu n;obtain ⟨y,hy⟩:∃ y,(if w<0 then -z else z)=y:=⟨_,rfl⟩;obtain ⟨d,p⟩:∃ d,w.natAbs=d:=⟨_,rfl⟩;have q:d≠0:=by omega
 have r:y.natAbs=z.natAbs:=by rw [<- hy];split <;> omega
 obtain ⟨g,b⟩:∃ g,Nat.gcd y.natAbs d=g:=⟨_,rfl⟩;have k:0<g:=by rw [<- b];exact RS _ om_
 have s:g ∣ d:=by rw [<- b];exact Si _ _
 have l:g ∣ y.natAbs:=by rw [<- b];exact R9 _ _
 have E:g<=d:=SK om_ s;refine S4 func105 46 U3 fun w0=>SR 1 [0,1] Z<|SS 7 Z fun R a=>Tl U8<|SY [0,1,13] a Z<|G.cd (fun m=>?_) fun m=>?_
 ·have h:(txt z).length<=9/\(txt w).length<=9:=by
   have h1:=(Pu _ _ ▸ m:_/\_);have h2:((txt z).length:Int)<=9:=OD h1.1;have h3:((txt w).length:Int)<=9:=OD h1.2;omega
  exact SS 2 Z fun R a=>S8 (Ek _ e.m_ z w h.1 h.2 o) U7<|C6 1 [4] a Z<|S3 U2<|⟨Z,Z⟩
 refine SS 1 Z fun R a=>S8 (xY _ w) U7<|C6 1 [0,1,19] a Z<|G.cut (fun fr F t u=>(True)/\fr=[(0,[],af (txt y)),(1,[],af (bj d))]/\t=[]) ?_ (fun fr _ H u _ v=>?_)
 ·refine G.cd (fun f=>?_) fun f=>?_
  ·have i:w<0:=by
    have h:=OD f;refine PO fun h2=>?_;rw [aF h2] at h;revert h;split <;> decide
   rw [aL i] at hy;refine SS 1 Z fun R a=>Tb (rG _ z om_) U7 fl_<|SV U6<|Tb (rG _ w om_) U7 fl_<|C6 2 [0,1] a Z<|S9 0 (Mem.le.refl _) (hn_ [0,1] Z) ⟨trivial,by rw [hy,show -w=((d:Nat):Int) by omega,de],Z⟩
  have i:¬ w<0:=by
   intro h2;have h:=Pj f;rw [aL h2] at h;exact h dc_
  rw [aF i] at hy;refine S9 0 (Mem.le.refl _) (hn_ [0,1] Z) ⟨trivial,by rw [hy,show w=((d:Nat):Int) by omega,de],Z⟩
 obtain ⟨_,rfl,rfl⟩:=v;unfold kM;rw [hy,p,AF q,b];have x:=Hi (z:=y) (by rw [r];exact j) g l;have I:=gu x;have A:d / g<BP ^ 200:=Qd (Qo _ _) om_;have J:=gu A;have K:=ml (y / (g:Int));refine SS 2 Z fun R a=>Tb (I9 _ e.m_ y d om_ om_) U7 fl_<|C6 1 [0,1,5] a Z ?_;rw [b];refine SS 2 Z fun R a=>Tb (wS _ e.m_ y g om_ om_ k l) U7 fl_<|C6 4 [0,1,5] a Z<|SS 2 Z fun R a=>Tb (lP _ e.m_ d g om_ om_ k) U7 fl_<|C6 4 [0,1] a Z<|SR 2 [0,1,40] Z<|G.cd (fun c=>?_) fun c=>?_
 ·have h1:d / g=1:=by rw [si] at c;exact OD c
  refine SR 2 [4] Z<|S3 U2<|⟨?_,Z⟩;rw [lS h1];simp [eN]
 have h1:d / g≠1:=by rw [si] at c;exact Pj c
 refine SS 1 Z fun R a=>TP U6 (fun _=>(by simp only [Pz,PV];omega)) U2<|SV U6<|TP U6 (fun _=>(by simp only [Po,Pz,PV];omega)) U2<|C6 1 [4] a Z<|S3 U2<|⟨?_,Z⟩;rw [fJ h1,PR];rfl
theorem NY (C:Mem)(a:Tabs C)(z w:Int)(d:z.natAbs<9000000000000000000)(e:w.natAbs<9000000000000000000)(b:w≠0):Gives cx.P 47 [.int .i64 z,.int .i64 w] C (af (qtx (kM z w))):=by
 have f:9000000000000000000<BP ^ 200:=by decide +kernel
 exact S4 func47 10 U3 fun w0=>SR 1 [0,1] Z<|SS 1 Z fun R c=>Tb (lk _ a.m_ z om_ om_) U7 fl_<|SV U6<|Tb (lk _ a.m_ w om_ om_) U7 fl_<|Tb (yB _ a.m_ z w om_ om_ b) U7 fl_<|C6 1 [4] c Z<|S3 U2<|⟨Z,Z⟩
theorem L4 (C:Mem)(q:Rat)(g:(qtx q).length<=1000000):Gives cx.P 20 [af (qtx q)] C (af (qtx (-q))):=by
 have h:=AE q;refine S4 func20 13 U3 fun w0=>SR 1 [0] Z<|SR 2 [0,4] Z<|G.cd (fun h4=>?_) fun h4=>?_
 ·have h0:q=0:=by rw [fe] at h4;exact OD h4
  refine SR 2 [2] Z<|S3 U2<|⟨?_,Z⟩;rw [h0,Rat.neg_zero]
 have h0:q≠0:=by rw [fe] at h4;exact Pj h4
 obtain ⟨c,r,f,e⟩:=nL q;refine SS 1 Z fun R a=>TJ U8 (fun _=>⟨by omega,by rw [f];rfl⟩) U2<|C6 1 [0,8] a Z<|G.cd (fun b=>?_) fun b=>?_
 ·have d:q.num<0:=by rw [e] at b;exact OD b
  refine SS 1 Z fun R a=>TQ 1 (qtx q).length U9 (fun _=>⟨.inr ⟨_,Z⟩,.inl ⟨Z,Z⟩,.inl ⟨Z,Z⟩,by omega,Pf _,Pf _⟩) U2<|C6 1 [2] a Z<|S3 U2<|⟨?_,Z⟩;rw [Pv,kc d];rfl
 have d:¬ q.num<0:=by rw [e] at b;exact Pj b
 refine SS 1 Z fun R a=>TP U6 (fun _=>(by simp only [Pz,PV];omega)) U2<|C6 1 [2] a Z<|S3 U2<|⟨?_,Z⟩;rw [eQ d h0];rfl
end Go.Proofs.YtfjcldheldflbaaGreatDoor
