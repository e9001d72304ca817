/- Laws that the proofs of this seat share, part 7. -/
import Derived.Test.YtfjcldheldflbaaGreatDoorG6
import Derived.Test.YtfjcldheldflbaaGreatDoorShelf
set_option maxHeartbeats 4000000
namespace Go.Proofs.YtfjcldheldflbaaGreatDoor
open Go.Proofs.Tryz
open Go Go.Jog
set_option maxRecDepth 100000
variable {a b:Rat}{d g k m n:Nat}{q:Rat}{s:Str}{w z:Int}
theorem ci (h:n<B9 ^ k)(a:0<k):(bj n).length<=9*k:=eH (by rw [Ky];exact h) om_
theorem zw (h:(txt z).length<=m):z.natAbs<10 ^ m:=by
 have h1:(bj z.natAbs).length<=m:=by
  unfold txt at h;split at h
  ·simp at h;omega
  exact h
 obtain ⟨h2,h3⟩:=bx z.natAbs;have h4:=dJ h2.1;rw [h3] at h4;exact QT h4 (P2 dc_ h1)
theorem e18:(10:Nat) ^ 18=1000000000000000000:=by decide
theorem e9:(10:Nat) ^ 9=1000000000:=by decide
theorem yd {a b:Nat}(c:a<B9 ^ k)(d:b<B9 ^ k):a+b<B9 ^ (k+1):=by
 rw [QU];have:B9 ^ k*2<=B9 ^ k*B9:=QZ _ dc_;omega
theorem MA (C:Mem)(l:Tabs C)(z w:Int)(k:Nat)(v:0<k)(hk:k<=40000)(f:z.natAbs<B9 ^ k)(g:w.natAbs<B9 ^ k):Gives cx.P 158 [af (txt z),af (txt w)] C (af (txt (z+w))):=by
 have aa:=ci f v;have ab:=ci g v;refine Tr func158 62 U3 fun w0=>Th 1 [0,1] Z<|Ti 1 Z fun R a=>Tt (jE _ z 18 (PE _)) U7<|C6 5 [0,1,5,6] a Z<|Th 1 [0,1,5,16] Z<|G.cut (fun fr m o p=>(True)/\fr=[(0,[],af (txt z)),(1,[],af (txt w))]/\o=[]) ?_ (fun fr _ ac p _ q=>?_)
 ·refine G.cd (fun x=>?_) fun x=>?_
  ·have y:=aY x;rw [aK y];have L:=zw y;rw [e18] at L;refine Ti 1 Z fun R a=>Tt (jE _ w 18 (PE _)) U7<|C6 5 [0,1,5,7,8] a Z<|Th 1 [0,1,5,7,22] Z<|G.cd (fun A=>?_) fun A=>?_
   ·have B:=aY A;rw [aK B];have M:=zw B;rw [e18] at M;exact Ti 2 Z fun R a=>Tq _ Z U6<|Tw (rU _ l.m_ (z+w) om_ om_) U7 fl_<|C6 1 [4] a Z<|Tp U2<|⟨Z,Z⟩
   refine Tx 0 (Mem.le.refl _) (hn_ [0,1] Z) ⟨trivial,Z,Z⟩
  refine Tx 0 (Mem.le.refl _) (hn_ [0,1] Z) ⟨trivial,Z,Z⟩
 obtain ⟨_,rfl,rfl⟩:=q;refine Ti 1 Z fun R a=>TO (iP _ z om_) U7 fl_ fun ad _ _ N=>Tk U6<|TO (iP _ w om_) U7 fl_ fun ah _ _ O=>TB U5 fun D=>TB U5 (fun E=>?_);obtain ⟨pz,rfl,d⟩:=N;obtain ⟨pw,rfl,e⟩:=O;obtain ⟨Az,mz,cz,rfl⟩:=d.form;obtain ⟨Aw,mw,cw,rfl⟩:=e.form;refine Ts (j:=1) U12<|Ts (j:=1) U12<|Tn [9,10] a Z<|Ti 1 Z fun R a=>To ae U9<|Tk U6<|To ag U9<|C6 1 [9,10,35] a Z<|G.cd (fun r=>?_) fun r=>?_
 ·have i:decide (z<0)=decide (w<0):=by simpa using r
  refine TD [0,1,2,3,4,5,6,7,8,9] [(8,1)] Z kr_ fun R Q a=>Tk U6<|To ae U9<|Tk U6<|To ae U9<|Tk U6<|To ag U9<|TO (Kz (k:=k) _ d.m_ e.m_ f g om_) U7 fl_ (fun ai _ _ F=>?_);obtain ⟨S,T,U,rfl⟩:=F.form;exact TA [.bool (decide (z<0)),_] U8<|TG (fun _=>(jT _ l.m_ _ _ _ F (dF (k:=100000) (n:=k+1) (yd f g) om_))) U9<|C6 1 [4] a Z<|Tp U2<|⟨by rw [Lt i],Z⟩
 have i:decide (z<0)≠decide (w<0):=by simpa using r
 refine Ti 1 Z fun R a=>To ae U9<|Tk U6<|To ag U9<|Tt (pn _ d.m_ e.m_) U7<|C6 1 [9,10,50] a Z<|G.cut (fun fr m o p=>∃ (b c:Int)(s t:Value),(NineC m s b.natAbs/\NineC m t c.natAbs/\c.natAbs<=b.natAbs/\b+c=z+w/\decide (b<0)≠decide (c<0)/\b.natAbs<B9 ^ k)/\fr=[(9,[],.pointer (some ⟨D,0,none⟩)),(10,[],.pointer (some ⟨E,0,none⟩))]/\o=[.obj E (.cells ⟨[.bool (decide (c<0)),t]⟩ 273 (0,0)),.obj D (.cells ⟨[.bool (decide (b<0)),s]⟩ 273 (0,0))]) ?_ (fun fr _ aj p _ q=>?_)
 ·refine G.cd (fun u=>?_) fun u=>?_
  ·have H:z.natAbs<w.natAbs:=by
    have:jG z.natAbs w.natAbs<0:=by simpa using u
    exact iO.1 this
   refine Tl fun R a=>To ag U9<|To ae U9<|Ts (j:=1) U12<|Ts (j:=1) U12<|Tn [9,10] a Z<|Tx 0 mup (hn_ [9,10] Z) ⟨w,z,_,_,⟨e.mono mup,d.mono mup,by omega,Int.add_comm w z,Ne.symm i,g⟩,Z,Z⟩
  have H:w.natAbs<=z.natAbs:=by
   have h:¬ jG z.natAbs w.natAbs<0:=by simpa using u
   rw [iO] at h;omega
  refine Tx 0 mup (hn_ [9,10] Z) ⟨z,w,_,_,⟨d.mono mup,e.mono mup,H,Z,i,f⟩,Z,Z⟩
 obtain ⟨b ,c ,s ,t,⟨I,J,V,W,X,Y⟩,rfl,rfl⟩:=q;obtain ⟨ak,al,am,rfl⟩:=I.form;obtain ⟨an,ao,ap,rfl⟩:=J.form;refine TD [0,1,2,3,4,5,6,7,8,9] [(8,1)] Z kr_ fun R Q a=>Tk U6<|To ae U9<|Tk U6<|To ae U9<|Tk U6<|To ag U9<|TO (tY (k:=k) _ I.m_ J.m_ Y V om_) U7 fl_ (fun aq _ _ K=>?_);obtain ⟨S,T,U,rfl⟩:=K.form;exact TA [.bool (decide (b<0)),_] U8<|TG (fun _=>(jT _ l.m_ _ _ _ K (dF (k:=100000) (n:=k) om_ om_))) U9<|C6 1 [4] a Z<|Tp U2<|⟨by rw [Lu X om_,W],Z⟩
theorem Lv (z w:Int):sgZ (decide (z<0) != decide (w<0)) (z.natAbs*w.natAbs)=z*w:=by
 unfold sgZ;have h1:z=if z<0 then -(z.natAbs:Int) else (z.natAbs:Int):=by split <;> omega
 have h2:w=if w<0 then -(w.natAbs:Int) else (w.natAbs:Int):=by split <;> omega
 by_cases a:z<0 <;> by_cases b:w<0
 ·rw [P0 a,P0 b,aG dc_];rw [aK a] at h1;rw [aK b] at h2;rw [Qa]
  conv=>rhs;rw [h1,h2]
  rw [Int.neg_mul_neg]
 ·rw [P0 a,Qc b,aK dc_];rw [aK a] at h1;rw [aG b] at h2;rw [Qa]
  conv=>rhs;rw [h1,h2]
  rw [Int.neg_mul]
 ·rw [Qc a,P0 b,aK dc_];rw [aG a] at h1;rw [aK b] at h2;rw [Qa]
  conv=>rhs;rw [h1,h2]
  rw [Int.mul_neg]
 rw [Qc a,Qc b,aG dc_];rw [aG a] at h1;rw [aG b] at h2;rw [Qa]
 conv=>rhs;rw [h1,h2]
theorem nO {a b:Nat}(c:a<B9 ^ k)(d:b<B9 ^ k):a*b<B9 ^ (k+k):=by
 rw [Sy];exact Rx c d
theorem Fh (a:z.natAbs<1000000000)(b:w.natAbs<1000000000):-1000000000000000000<z*w/\z*w<1000000000000000000:=by
 have h:z.natAbs*w.natAbs<=999999999*999999999:=Q3 om_ om_;rw [<- Q9] at h;omega
theorem kM (C:Mem)(d:Tabs C)(z w:Int)(k:Nat)(e:0<k)(x:k<=40000)(b:z.natAbs<B9 ^ k)(c:w.natAbs<B9 ^ k):Gives cx.P 124 [af (txt z),af (txt w)] C (af (txt (z*w))):=by
 have y:=ci b e;have A:=ci c e;refine Tr func124 43 U3 fun w0=>Th 1 [0,1] Z<|Ti 1 Z fun R a=>Tw (jE _ z 9 om_) U7 fl_<|C6 5 [0,1,5,6] a Z<|Th 1 [0,1,5,16] Z<|G.cut (fun fr B r s=>(True)/\fr=[(0,[],af (txt z)),(1,[],af (txt w))]/\r=[]) ?_ (fun fr _ D s _ t=>?_)
 ·refine G.cd (fun f=>?_) fun f=>?_
  ·have g:=aY f;rw [aK g];have h:=zw g;rw [e9] at h;refine Ti 1 Z fun R a=>Tw (jE _ w 9 om_) U7 fl_<|C6 5 [0,1,5,7,8] a Z<|Th 1 [0,1,5,7,22] Z<|G.cd (fun i=>?_) fun i=>?_
   ·have l:=aY i;rw [aK l];have m:=zw l;rw [e9] at m;have E:=Fh h m;exact Ti 2 Z fun R a=>TS ((z*w)) U4 om_ om_ om_ U2<|Tw (rU _ d.m_ (z*w) om_ om_) U7 fl_<|C6 1 [4] a Z<|Tp U2<|⟨Z,Z⟩
   refine Tx 0 (Mem.le.refl _) (hn_ [0,1] Z) ⟨trivial,Z,Z⟩
  refine Tx 0 (Mem.le.refl _) (hn_ [0,1] Z) ⟨trivial,Z,Z⟩
 obtain ⟨_,rfl,rfl⟩:=t;refine Ti 1 Z fun R a=>TO (iP _ z om_) U7 fl_ fun F _ _ u=>Tk U6<|TO (iP _ w om_) U7 fl_ fun H _ _ v=>TB U5 fun I=>TB U5 (fun J=>?_);obtain ⟨K,rfl,o⟩:=u;obtain ⟨L,rfl,p⟩:=v;obtain ⟨M,N,O,rfl⟩:=o.form;obtain ⟨Q,S,T,rfl⟩:=p.form;refine Ts (j:=1) U12<|Ts (j:=1) U12<|Tn [9,10] a Z<|TD [0,1,2,3,4,5,6,7,8,9,10,11,12] [(11,1)] Z kr_ fun R U a=>Tk U6<|To ae U9<|Tk U6<|To ag U9<|Tm 2 Z<|To ae U9<|Tk U6<|To ag U9<|TO (En (k:=k) _ o.m_ p.m_ b c om_) U7 fl_ (fun V _ _ q=>?_);obtain ⟨W,X,Y,rfl⟩:=q.form;exact TA [.bool (decide (z<0) != decide (w<0)),_] U8<|TG (fun _=>(jT _ d.m_ _ _ _ q (dF (k:=100000) (n:=k+k) (nO b c) om_))) U9<|C6 1 [4] a Z<|Tp U2<|⟨by rw [Lv],Z⟩
def GM (z w:Int):Nat:=if z<0/\z.natAbs % w.natAbs≠0 then z.natAbs / w.natAbs+1 else z.natAbs / w.natAbs
def BI (z w:Int):Nat:=if z<0/\z.natAbs % w.natAbs≠0 then w.natAbs-z.natAbs % w.natAbs else z.natAbs % w.natAbs
theorem GK (i:0<w):sgZ (decide (z<0) != decide (w<0)) (GM z w)=z / w/\(BI z w:Int)=z % w:=by
 obtain ⟨n,rfl⟩:∃ n:Nat,w=n:=⟨w.natAbs,by omega⟩;have f:0<n:=by omega
 rw [Qc (by omega:¬ ((n:Nat):Int)<0),Bool.bne_false];have h1:=SA z.natAbs n;have h2:=Qj z.natAbs f;obtain ⟨q,d⟩:∃ q,z.natAbs / n=q:=⟨_,rfl⟩;obtain ⟨r,hr⟩:∃ r,z.natAbs % n=r:=⟨_,rfl⟩;have g:sgZ (decide (z<0)) (GM z n)=z / n/\(BI z n:Int)=z % n:=by
  have h3:=(Int.ediv_emod_unique (a:=z) (r:=(BI z n:Int)) (q:=sgZ (decide (z<0)) (GM z n)) (by omega:(0:Int)<(n:Int))).2;have h4:(BI z n:Int)+(n:Int)*sgZ (decide (z<0)) (GM z n)=z/\0<=(BI z n:Int)/\(BI z n:Int)<(n:Int):=by
   unfold GM BI sgZ;simp only [Qs];rw [d,hr];rw [hr,d] at h1;rw [hr] at h2;have h5:((r+n*q:Nat):Int)=(z.natAbs:Int):=by rw [h1]
   rw [Si,Qa] at h5;by_cases b:z<0
   ·rw [P0 b,aK rfl];by_cases c:r=0
    ·subst c;rw [aG am,aG am];rw [Int.mul_neg];omega
    rw [aK ⟨b,c⟩,aK ⟨b,c⟩];rw [Int.mul_neg,Si,SL];omega
   rw [Qc b,aG (fun h:z<0/\r≠0=>b h.1),aG (fun h:z<0/\r≠0=>b h.1),aG dc_];omega
  have e:=h3 h4;exact ⟨e.1.symm,e.2.symm⟩
 exact g
theorem rX (C:Mem)(u:Tabs C)(z w:Int)(k:Nat)(f:0<k)(hk:k<=40000)(g:z.natAbs<B9 ^ k)(i:w.natAbs<B9 ^ k)(v:0<w):Gives cx.P 187 [af (txt z),af (txt w)] C (.tuple #[af (txt (z / w)),af (txt (z % w)),.int .i64 0]):=by
 have aj:=ci g f;have ak:=ci i f;have l:0<w.natAbs:=by omega
 refine Tr func187 50 U3 fun w0=>Th 3 [0,1] Z<|Th 2 [0,1,12] Z<|G.cd (fun m=>?_) fun m=>?_
 ·have h:=lg w;rw [h] at m;have:w=0:=aY m;omega
 refine Ti 1 Z fun R a=>TO (iP _ z om_) U7 fl_ fun am _ _ K=>Tk U6<|TO (iP _ w om_) U7 fl_ fun an _ _ L=>TB U5 fun y=>TB U5 (fun A=>?_);obtain ⟨pz,rfl,B⟩:=K;obtain ⟨pw,rfl,o⟩:=L;obtain ⟨M,N,O,rfl⟩:=B.form;obtain ⟨Q,S,T,rfl⟩:=o.form;refine Ts (j:=1) U12<|Ts (j:=1) U12<|Tn [7,8] a Z<|Ti 1 Z fun R a=>To ae U9<|Tk U6<|To ag U9<|TO (xi _ _ _ _ _ B.m_ o.m_ (dF (k:=100000) (n:=k) g om_) l) U7 fl_ (fun ao _ _ U=>?_);obtain ⟨vq,vr,rfl,D,p⟩:=U;refine C6 5 [7,8,9,10] a Z ?_;obtain ⟨b,V,W,X⟩:=id p;obtain ⟨Ar,cr,E,_⟩:=id X;rw [al] at E;subst E;have F:b.length=0 ↔ z.natAbs % w.natAbs=0:=by
  rw [<- W,BW V];exact SH
 refine Ti 1 Z fun R a=>To ae U9<|Tm 4 Z<|TJ U8<|Tn [7,8,9,10,31] a Z<|G.cut (fun fr H Y μ=>∃ (q r:Value),(NineC H q (GM z w)/\NineC H r (BI z w))/\fr=[(7,[],.pointer (some ⟨y,0,none⟩)),(8,[],.pointer (some ⟨A,0,none⟩)),(9,[],q),(10,[],r)]/\Y=[.obj A (.cells ⟨[.bool (decide (w<0)),.slice Q S T]⟩ 273 (0,0)),.obj y (.cells ⟨[.bool (decide (z<0)),.slice M N O]⟩ 273 (0,0))]) ?_ (fun fr _ ap μ _ hI=>?_)
 ·refine G.cd (fun d=>?_) fun d=>?_
  ·have c:z<0/\z.natAbs % w.natAbs≠0:=by
    have h:decide (z<0)=true/\0<b.length:=by simpa using d
    exact ⟨aY h.1,fun e=>by have:=F.2 e;omega⟩
   have s:GM z w=z.natAbs / w.natAbs+1:=aK c;have t:BI z w=w.natAbs-z.natAbs % w.natAbs:=aK c;have aa:z.natAbs / w.natAbs<B9 ^ k:=QA (QL _ _) g;refine TD [0,3,4,5,1,2,6,7,8] [] Z kr_ fun R hB a=>Tm 2 Z<|To ag U9<|Tk U6<|TF [cP 1] U12 fun aq _ _ ab=>TO (Kz (k:=k) _ D.m_ (⟨[1],⟨(fun x hx=>(by rw [PZ.1 hx];decide)),by simp⟩,Z,ab.mono mup⟩:NineC _ _ 1) aa (QT (by decide:1<B9 ^ 1) (P2 dc_ f)) om_) U7 fl_ fun ar _ _ ac=>TO (tY (k:=k) _ o.m_ p.m_ i (Nat.le_of_lt (Qj _ l)) om_) U7 fl_ fun au _ _ ad=>Tm 2 Z<|Tn [7,8,9,10] a Z ?_;clear a hB R;refine Tx 0 mup (hn_ [7,8,9,10] Z) ⟨_,_,⟨by rw [s];exact ac.mono mup,by rw [t];exact ad.mono mup⟩,Z,Z⟩
  have c:¬ (z<0/\z.natAbs % w.natAbs≠0):=fun h=>by
   have h2:0<b.length:=by
    rcases QH b.length with h3 | h3
    ·exact absurd (F.1 h3) h.2
    exact h3
   have h3:(decide (z<0) && decide ((0:Int)<(b.length:Int)))=true:=by
    rw [P0 h.1,P0 om_];rfl
   rw [h3] at d;cases d
  have s:GM z w=z.natAbs / w.natAbs:=aG c;have t:BI z w=z.natAbs % w.natAbs:=aG c;refine Tx 0 mup (hn_ [7,8,9,10] Z) ⟨_,_,⟨by rw [s];exact D.mono mup,by rw [t];exact p.mono mup⟩,Z,Z⟩
 obtain ⟨q ,r,⟨I,J⟩,rfl,rfl⟩:=hI;obtain ⟨A9,m9,c9,rfl⟩:=I.form;obtain ⟨av,aw,ax,rfl⟩:=J.form;have ah:GM z w<B9 ^ 100000:=by
  have h1:z.natAbs / w.natAbs<=z.natAbs:=QL _ _;have h2:GM z w<=z.natAbs+1:=by unfold GM;split <;> omega
  have h3:B9 ^ k*2<=B9 ^ (k+1):=by rw [QU];exact QZ _ dc_
  have h4:z.natAbs+1<B9 ^ (k+1):=by have:=R2 (n:=k) (show 0<B9 by decide);omega
  exact dF (k:=100000) (n:=k+1) (QA h2 h4) om_
 have ai:BI z w<B9 ^ 100000:=by
  have h1:=Qj z.natAbs l;have h2:BI z w<=w.natAbs:=by unfold BI;split <;> omega
  exact dF (k:=100000) (n:=k) (QA h2 i) om_
 refine Ti 1 Z fun R a=>To ae U9<|Tk U6<|To ag U9<|Tm 2 Z<|TA [.bool (decide (z<0) != decide (w<0)),_] U8<|Tt (jT _ u.m_ _ _ _ I.m_ ah) U7<|Tk U6<|TA [.bool false,_] U8<|Tt (jT _ u.m_ _ _ _ J.m_ ai) U7<|C6 3 [4,5,6] a Z<|Tu (G.dropAll (Uk U4 ?_));refine ⟨?_,Z⟩;rw [(GK v).1,show sgZ false (BI z w)=z % w from (GK v).2]
theorem JV {l:List Nat}(a:xV l)(b:bA l=n):0<l.length ↔ 0<n:=by
 have h:=BW a;rw [b] at h;have h2:l.length=0 ↔ n=0:=by rw [h];exact SH
 omega
theorem Gi (C:Mem)(s:Tabs C)(z w:Int)(k:Nat)(t:0<k)(hk:k<=40000)(u:z.natAbs<B9 ^ k)(v:w.natAbs<B9 ^ k):Gives cx.P 162 [af (txt z),af (txt w)] C (af (txt (Nat.gcd z.natAbs w.natAbs:Nat))):=by
 have ac:=ci u t;have ad:=ci v t;refine Tr func162 56 U3 fun w0=>Th 1 [0,1] Z<|Ti 1 Z fun R a=>Tt (jE _ z 18 (PE _)) U7<|C6 5 [0,1,5,6] a Z<|Th 1 [0,1,5,18] Z<|G.cut (fun fr g d e=>(True)/\fr=[(0,[],af (txt z)),(1,[],af (txt w))]/\d=[]) ?_ (fun fr _ ae e _ f=>?_)
 ·refine G.cd (fun A=>?_) fun A=>?_
  ·have B:=aY A;rw [aK B];have E:=zw B;rw [e18] at E;refine Ti 1 Z fun R a=>Tt (jE _ w 18 (PE _)) U7<|C6 5 [0,1,5,7,8] a Z<|Th 1 [0,1,5,7,24] Z<|G.cd (fun F=>?_) fun F=>?_
   ·have H:=aY F;rw [aK H];have I:=zw H;rw [e18] at I;refine G.loop (fun fr g d e=>∃ (x y:Int),(x.natAbs<1000000000000000000/\y.natAbs<1000000000000000000/\Nat.gcd x.natAbs y.natAbs=Nat.gcd z.natAbs w.natAbs)/\fr=[(5,[],.int .i64 x),(7,[],.int .i64 y)]/\d=[]/\e=y.natAbs+1) (hn_ [5,7] Z) ⟨z,w,⟨E,I,Z⟩,Z,Z,Z⟩ (fun fr ag ah m L f=>?_);obtain ⟨x,y,⟨ai,M,c⟩,rfl,rfl,rfl⟩:=f;refine Th 2 [5,7,26] Z<|G.cd (fun j=>?_) fun j=>?_
    ·have b:y≠0:=by simpa using j
     have N:(x.tmod y).natAbs=x.natAbs % y.natAbs:=Sk x y;have O:=Qj x.natAbs (show 0<y.natAbs by omega);refine TD [0,1,2,3,4,5] [] Z kr_ fun R hB a=>Tm 3 Z<|Uq (x.tmod y) U6 b U3<|C6 2 [5,7] a Z<|Tv (m':=(x.tmod y).natAbs+1) om_ L (hn_ [5,7] Z) ⟨y,x.tmod y,⟨M,by omega,by rw [N,<- c,RR x.natAbs,S8 y.natAbs x.natAbs,RR]⟩,Z,Z,Z⟩
    have b:y=0:=by simpa using j
    subst b;rw [show (0:Int).natAbs=0 from rfl,Sj] at c;refine Ti 3 Z fun R a=>?_;have aj:IntKind.i64.wrap (0-x)=0-x:=wrap_i64 om_ om_;exact D.max ((x.natAbs:Int)) U6 om_ U2<|Tw (rU _ s.m_ (x.natAbs:Int) om_ om_) U7 fl_<|C6 1 [4] a Z<|Tp U2<|⟨by rw [c],Z⟩
   refine Tx 0 (Mem.le.refl _) (hn_ [0,1] Z) ⟨trivial,Z,Z⟩
  refine Tx 0 (Mem.le.refl _) (hn_ [0,1] Z) ⟨trivial,Z,Z⟩
 obtain ⟨_,rfl,rfl⟩:=f;refine Ti 1 Z fun R a=>TO (iP _ z om_) U7 fl_ (fun ak _ _ Q=>?_);obtain ⟨pz,rfl,S⟩:=Q;refine UB U12<|Tk U6<|TO (iP _ w om_) U7 fl_ (fun am _ _ T=>?_);obtain ⟨pw,rfl,U⟩:=T;refine UB U12<|C6 2 [9,10] a Z<|G.loop (fun fr g d e=>∃ (x y:Nat)(o p:Value),(NineC g o x/\NineC g p y/\x<B9 ^ k/\y<B9 ^ k/\Nat.gcd x y=Nat.gcd z.natAbs w.natAbs)/\fr=[(9,[],o),(10,[],p)]/\d=[]/\e=y+1) (hn_ [9,10] Z) ⟨_,_,_,_,⟨S.mono mup,U.mono mup,u,v,Z⟩,Z,Z,Z⟩ (fun fr an ao m _ f=>?_);obtain ⟨x,y,o,p,⟨q,i,J,K,c⟩,rfl,rfl,rfl⟩:=f;obtain ⟨l,V,W,X⟩:=id i;obtain ⟨ap,aq,rfl,_⟩:=id X;rw [al] at i ⊢;have Y:=JV V W;refine Th 3 [9,10,44] Z<|G.cd (fun r=>?_) fun r=>?_
 ·have b:0<y:=Y.1 (by simpa using r);have O:=Qj x b;refine Ti 2 Z fun R a=>TO (xi _ _ _ _ _ q.m_ i.m_ (dF (k:=100000) (n:=k) J om_) b) U7 fl_ (fun ar _ _ aa=>?_);obtain ⟨vq,vr,rfl,au,ab⟩:=aa;refine C6 5 [10,12] a Z<|Th 4 [9,10] Z<|Tv (m':=x % y+1) om_ mup (hn_ [9,10] Z) ⟨y,x % y,_,_,⟨i.mono mup,ab.mono mup,K,RT (Qj _ b) K,by rw [<- c,RR x,S8 y x,RR]⟩,Z,Z,Z⟩
 have b:y=0:=by
  have h:¬ 0<l.length:=by simpa using r
  omega
 subst b;rw [Sj] at c;obtain ⟨A9,m9,c9,rfl⟩:=q.form;exact Ti 1 Z fun R a=>TA [.bool false,_] U8<|Tw (jT _ s.m_ _ _ _ q.m_ (dF (k:=100000) (n:=k) J om_)) U7 fl_<|C6 1 [4] a Z<|Tp U2<|⟨by rw [c];rfl,Z⟩
def rG (sg:Bool)(A:Str)(B:Option Str):Value :=
 if MH A B then .tuple #[.int .i64 (sgZ sg (bY A)),.int .i64 (Ps B),.bool true] else .tuple #[.int .i64 0,.int .i64 0,.bool false]
theorem CN (C:Mem)(d:Bool)(A:Str)(B:Option Str)(q:∀ c∈A,eQ c=true)(U:A≠[])(V:∀ b,B=some b->∀ c∈b,eQ c=true)(W:(II d++A++eJ B).length<=1000000) :
  Gives cx.P 120 [af (II d++A++eJ B)] C (rG d A B):=by
 obtain ⟨s,hs⟩:∃ s,II d++A++eJ B=s:=⟨_,rfl⟩;obtain ⟨p,t⟩:∃ p,(II d).length=p:=⟨_,rfl⟩;have g:p=if d then 1 else 0:=by rw [<- t];cases d <;> rfl
 have u:∀ j c,A[j]?=some c->s[p+j]?=some c:=fun j c h=>by rw [<- hs,<- t];exact L3 _ _ _ h
 have O:∀ j,s[p+A.length+j]?=(eJ B)[j]?:=fun j=>by rw [<- hs,<- t];exact IJ _ _ _ _
 have y:s.length=p+A.length+(eJ B).length:=by rw [<- hs,<- t,PM,PM]
 have X:0<A.length:=Qq.2 U;rw [hs] at W ⊢;refine Tr func120 73 U3 fun w0=>Th 3 [0,2,3] Z<|Th 2 [0,2,3,5,6] Z<|Ti 5 Z fun R a=>Uh (b:=s.getD 0 0) U8 (fun _=>⟨by omega,(by rw [ax,show (0:Int).toNat=0 from rfl];obtain ⟨c,f⟩:∃ c,s[0]?=some c:=⟨s[0]'om_,aj om_⟩;rw [f];rfl)⟩) U2<|Tk U6<|TJ U8<|Tn [0,2,3,5,6,15] a Z<|G.cut (fun fr z i k=>(True)/\fr=[(0,[],af s),(2,[],.int .i64 0),(3,[],.int .i64 0),(5,[],.int .i64 p),(6,[],.bool d)]/\i=[]) ?_ (fun fr _ ae k _ l=>?_)
 ·refine G.cd (fun v=>?_) fun v=>?_
  ·have n:d=true:=by
    cases d with
    | true=>rfl
    | false =>
     exfalso;rw [aG dc_] at g;subst g;obtain ⟨c,f⟩:∃ c,A[0]?=some c:=⟨A[0],aj X⟩;have h1:=u 0 c f;have h2:=q c (O0 f);rw [Rz] at h1;rw [ax,h1] at v;unfold eQ at h2;simp at v h2;omega
   subst n;rw [aK rfl] at g;subst g;refine Th 2 [0,2,3,5,6] Z<|Tx 0 (Mem.le.refl _) (hn_ [0,2,3,5,6] Z) ⟨trivial,Z,Z⟩
  have n:d=false:=by
   cases d with
   | false=>rfl
   | true =>
    exfalso;have h1:s[0]?=some 45:=by rw [<- hs];rfl
    rw [aK rfl] at g;have h2:(decide ((0:Int)<((s.length:Nat):Int)) && decide ((((s.getD 0 0).toNat:Nat):Int)=45))=false:=by simpa using v
    rw [ax,h1,P0 om_] at h2;exact absurd h2 dc_
  subst n;rw [aG dc_] at g;subst g;refine Tx 0 (Mem.le.refl _) (hn_ [0,2,3,5,6] Z) ⟨trivial,Z,Z⟩
 obtain ⟨_,rfl,rfl⟩:=l;refine Th 2 [0,2,3,5,6,7] Z<|G.loop (fun fr z i k=>∃ (j:Nat),(j<=A.length/\j<=9)/\fr=[(0,[],af s),(2,[],.int .i64 ((bY (A.take j):Nat):Int)),(3,[],.int .i64 0),(5,[],.int .i64 ((p+j:Nat):Int)),(6,[],.bool d),(7,[],.int .i64 p)]/\i=[]/\k=A.length-j+1) (hn_ [0,2,3,5,6,7] Z) ⟨0,⟨by omega,by omega⟩,Z,Z,Z⟩ (fun fr ag ah m Y l=>?_);obtain ⟨j,⟨hj,w⟩,rfl,rfl,rfl⟩:=l;obtain ⟨c,f⟩:∃ c,p+j<s.length->s[p+j]?=some c:=⟨s.getD (p+j) 0,fun h=>by rw [ax,aj h];rfl⟩;refine Ti 7 Z fun R a=>Uh (b:=c) U8 (fun hg=>⟨by omega,f (by have h:decide (((p+j:Nat):Int)<((s.length:Nat):Int))=true:=hg.1;have h2:=aY h;omega)⟩) U2<|Tk U6<|TJ U8<|Tn [0,2,3,5,6,7,26] a Z<|G.cd (fun x=>?_) fun x=>?_
 ·have E:p+j<s.length/\c.toNat≠47:=by
   simp at x;omega
  have F:j<A.length:=by
   rcases P8 j A.length with h | h
   ·exact h
   exfalso;obtain rfl:j=A.length:=by omega
   have h1:=f E.1;have h2:=O 0;rw [Rz,h1] at h2;cases B with
   | none=>simp [eJ] at h2
   | some b =>
    simp [eJ] at h2;subst h2;exact E.2 Z
  obtain ⟨e,o⟩:∃ c,A[j]?=some c:=⟨A[j],aj F⟩;obtain rfl:e=c:=by
   have h1:=f E.1;rw [u j e o] at h1;exact Rf h1
  have Q:48<=e.toNat/\e.toNat<=57:=by simpa [eQ] using q e (O0 o)
  have hV:=uC q w;refine Ti 2 Z fun R a=>Tq _ Z U6<|C6 1 [0,2,3,5,6,7,32] a Z<|G.cd (fun H=>?_) fun H=>?_
  ·have r:¬ A.length<=9:=by
    have:((p+j:Nat):Int)-p=9:=by simpa using H
    omega
   refine Th 3 [2,3,4] Z<|Tu (G.dropAll (Uk U4 ?_));refine ⟨?_,Z⟩;unfold rG MH;rw [Qc r,Bool.false_and,aG dc_]
  have r:j≠9:=by
   have:¬ ((p+j:Nat):Int)-p=9:=by simpa using H
   omega
  refine Ti 1 Z fun R a=>Tq _ Z U6<|Tm 2 Z<|Uh U8 (fun _=>⟨by omega,u j _ o⟩) U2<|D.int (((e.toNat:Nat):Int)-48) U4 (by rw [IntKind.wrap_u8];omega) U2<|TX (c:=((e.toNat:Nat):Int)-48) U8 (by rw [IntKind.wrap_i64];omega) fl_<|Tq _ Z U6<|C6 1 [0,2,3,5,6,7] a Z<|Ti 1 Z fun R a=>Tq _ Z U6<|C6 1 [0,2,3,5,6,7] a Z ?_;rw [show 10*((bY (A.take j):Nat):Int)+(((e.toNat:Nat):Int)-48)=((bY (A.take (j+1)):Nat):Int) by rw [BL o];omega];refine Tv (m':=A.length-(j+1)+1) om_ Y (hn_ [0,2,3,5,6,7] Z) ⟨j+1,⟨by omega,by omega⟩,Z,Z,Z⟩
 have F:j=A.length:=by
  rcases P8 j A.length with h | h
  ·exfalso;obtain ⟨e,o⟩:∃ c,A[j]?=some c:=⟨A[j],aj h⟩;have h1:=f om_;rw [u j e o] at h1;obtain rfl:=Rf h1;have Q:48<=e.toNat/\e.toNat<=57:=by simpa [eQ] using q e (O0 o)
   simp at x;have:=x om_;omega
  omega
 subst F;rw [PT];refine Th 1 [0,2,3,5,41] Z<|G.cut (fun fr z i k=>(True)/\fr=[(0,[],af s),(2,[],.int .i64 (sgZ d (bY A))),(3,[],.int .i64 0),(5,[],.int .i64 ((p+A.length:Nat):Int))]/\i=[]) ?_ (fun fr _ ai k _ l=>?_)
 ·refine G.cd (fun I=>?_) fun I=>?_
  ·have n:d=true:=I;subst n;have aa:=uC q w;rw [PT] at aa;refine Th 3 [0,2,3,5] Z ?_;rw [show IntKind.i64.wrap (0-((bY A:Nat):Int))=sgZ true (bY A) by rw [wrap_i64 om_ om_];unfold sgZ;rw [aK rfl];omega];refine Tx 0 (Mem.le.refl _) (hn_ [0,2,3,5] Z) ⟨trivial,Z,Z⟩
  have n:d=false:=by simpa using I
  subst n;refine Tx 0 (Mem.le.refl _) (hn_ [0,2,3,5] Z) ⟨trivial,Z,Z⟩
 obtain ⟨_,rfl,rfl⟩:=l;refine Th 4 [0,2,3,5,47] Z<|G.cd (fun J=>?_) fun J=>?_
 ·have ab:B=none:=by
   cases B with
   | none=>rfl
   | some b =>
    exfalso;have:p+A.length=s.length:=by simp at J;omega
    rw [y] at this;simp [eJ] at this
  subst ab;refine Th 4 [2,3,4] Z<|Tu (G.dropAll (Uk U4 ?_));refine ⟨?_,Z⟩;unfold rG MH;rw [P0 w];rfl
 obtain ⟨b,rfl⟩:∃ b,B=some b:=by
  cases B with
  | some b=>exact ⟨b,rfl⟩
  | none =>
   exfalso;simp [y,eJ] at J
 have S:=V b rfl;have ak:s.length=p+A.length+1+b.length:=by rw [y];simp [eJ];omega
 refine Ti 1 Z fun R a=>Tq _ Z U6<|C6 1 [0,2,3,5,7] a Z<|Ti 1 Z fun R a=>Tq _ Z U6<|C6 1 [0,2,3,5,7] a Z<|G.loop (fun fr z i k=>∃ (j:Nat),(j<=b.length/\j<=9)/\fr=[(0,[],af s),(2,[],.int .i64 (sgZ d (bY A))),(3,[],.int .i64 ((bY (b.take j):Nat):Int)),(5,[],.int .i64 ((p+A.length+1+j:Nat):Int)),(7,[],.int .i64 ((p+A.length+1:Nat):Int))]/\i=[]/\k=b.length-j+1) (hn_ [0,2,3,5,7] Z) ⟨0,⟨by omega,by omega⟩,Z,Z,Z⟩ (fun fr al am m ac l=>?_);obtain ⟨j,⟨hk,T⟩,rfl,rfl,rfl⟩:=l;refine Th 4 [0,2,3,5,7,56] Z<|G.cd (fun K=>?_) fun K=>?_
 ·have L:j<b.length:=by
   have:p+A.length+1+j<s.length:=by simp at K;omega
   omega
  obtain ⟨c,M⟩:∃ c,b[j]?=some c:=⟨b[j],aj L⟩;have ad:s[p+A.length+1+j]?=some c:=by rw [Sx,O,R3 1 j];exact M
  have Q:48<=c.toNat/\c.toNat<=57:=by simpa [eQ] using S c (O0 M)
  have hV:=uC S T;refine Ti 2 Z fun R a=>Tq _ Z U6<|C6 1 [0,2,3,5,7,62] a Z<|G.cd (fun N=>?_) fun N=>?_
  ·have r:¬ b.length<=9:=by
    have:((p+A.length+1+j:Nat):Int)-((p+A.length+1:Nat):Int)=9:=by simpa using N
    omega
   refine Th 3 [2,3,4] Z<|Tu (G.dropAll (Uk U4 ?_));refine ⟨?_,Z⟩;unfold rG MH;rw [show (some b).getD []=b from rfl,Qc r,Bool.and_false,aG dc_]
  have r:j≠9:=by
   have:¬ ((p+A.length+1+j:Nat):Int)-((p+A.length+1:Nat):Int)=9:=by simpa using N
   omega
  refine Ti 1 Z fun R a=>Tq _ Z U6<|Tm 2 Z<|Uh U8 (fun _=>⟨by omega,ad⟩) U2<|D.int (((c.toNat:Nat):Int)-48) U4 (by rw [IntKind.wrap_u8];omega) U2<|TX (c:=((c.toNat:Nat):Int)-48) U8 (by rw [IntKind.wrap_i64];omega) fl_<|Tq _ Z U6<|C6 1 [0,2,3,5,7] a Z<|Ti 1 Z fun R a=>Tq _ Z U6<|C6 1 [0,2,3,5,7] a Z ?_;rw [show 10*((bY (b.take j):Nat):Int)+(((c.toNat:Nat):Int)-48)=((bY (b.take (j+1)):Nat):Int) by rw [BL M];omega];refine Tv (m':=b.length-(j+1)+1) om_ ac (hn_ [0,2,3,5,7] Z) ⟨j+1,⟨by omega,by omega⟩,Z,Z,Z⟩
 have L:j=b.length:=by
  have:¬ p+A.length+1+j<s.length:=by simp at K;omega
  omega
 subst L;rw [PT];refine Th 5 [2,3,4] Z<|Tu (G.dropAll (Uk U4 ?_));refine ⟨?_,Z⟩;unfold rG MH;rw [show (some b).getD []=b from rfl,P0 w,P0 T];rfl
theorem oX {n:Int}(a:g ∣ n.natAbs):n.tdiv (g:Int)=n / (g:Int):=Int.tdiv_eq_ediv_of_dvd (Sc.1 (Rv.2 a))
theorem AU {n:Int}(a:d≠0):qtx (mkRat n d)=txt (n / ((Nat.gcd n.natAbs d:Nat):Int))++eJ (nD (d / Nat.gcd n.natAbs d)):=by
 rw [oY,(tX n a).1,(tX n a).2]
theorem vT (C:Mem)(e:Tabs C)(n:Int)(d:Nat)(o:0<d)(p:n.natAbs<9000000000000000000)(t:d<9000000000000000000):Gives cx.P 121 [.int .i64 n,.int .i64 d] C (af (qtx (mkRat n d))):=by
 obtain ⟨g,b⟩:∃ g,Nat.gcd n.natAbs d=g:=⟨_,rfl⟩;have u:0<g:=by rw [<- b];exact Sg _ o
 have q:g ∣ n.natAbs:=by rw [<- b];exact Sw _ _
 have v:g ∣ d:=by rw [<- b];exact SI _ _
 have H:g<=d:=Tb o v;rw [AU om_,b];refine Tr func121 35 U3 fun w0=>Th 1 [0,1] Z<|Th 4 [0,1,5,6] Z<|G.loop (fun fr w f h=>∃ (x y:Int),(x.natAbs<9000000000000000000/\y.natAbs<9000000000000000000/\Nat.gcd x.natAbs y.natAbs=g)/\fr=[(0,[],.int .i64 n),(1,[],.int .i64 d),(5,[],.int .i64 x),(6,[],.int .i64 y)]/\f=[]/\h=y.natAbs+1) (hn_ [0,1,5,6] Z) ⟨n,d,⟨p,by omega,by rw [Qs];exact b⟩,Z,Z,Z⟩ (fun fr I J m z i=>?_);obtain ⟨x,y,⟨K,A,r⟩,rfl,rfl,rfl⟩:=i;refine Th 2 [0,1,5,6,10] Z<|G.cd (fun j=>?_) fun j=>?_
 ·have k:y≠0:=by simpa using j
  have B:(x.tmod y).natAbs=x.natAbs % y.natAbs:=Sk x y;have L:=Qj x.natAbs (show 0<y.natAbs by omega);refine TD [0,1,2,3,4,5] [] Z kr_ fun R D a=>Tm 3 Z<|Uq (x.tmod y) U6 k U3<|C6 2 [0,1,5,6] a Z<|Tv (m':=(x.tmod y).natAbs+1) om_ z (hn_ [0,1,5,6] Z) ⟨y,x.tmod y,⟨A,by omega,by rw [B,<- r,RR x.natAbs,S8 y.natAbs x.natAbs,RR]⟩,Z,Z,Z⟩
 have k:y=0:=by simpa using j
 subst k;rw [show (0:Int).natAbs=0 from rfl,Sj] at r;refine Th 2 [0,1,5,16] Z<|G.cut (fun fr w f h=>(True)/\fr=[(0,[],.int .i64 n),(1,[],.int .i64 d),(5,[],.int .i64 g)]/\f=[]) ?_ (fun fr _ M h _ i=>?_)
 ·refine G.cd (fun l=>?_) fun l=>?_
  ·have E:x<0:=by simpa using l
   refine Th 3 [0,1,5] Z ?_;rw [show IntKind.i64.wrap (0-x)=(g:Int) by rw [wrap_i64 om_ om_];omega];refine Tx 0 (Mem.le.refl _) (hn_ [0,1,5] Z) ⟨trivial,Z,Z⟩
  have E:¬ x<0:=by simpa using l
  rw [show x=(g:Int) by omega];refine Tx 0 (Mem.le.refl _) (hn_ [0,1,5] Z) ⟨trivial,Z,Z⟩
 obtain ⟨_,rfl,rfl⟩:=i;have F:(n / (g:Int)).natAbs<=n.natAbs:=by
  rw [RM (Sc.1 (Rv.2 q)),Qs];exact QL _ _
 have s:=QL d g;refine TD [0,1,2,3,4,5,6,7] [] Z kr_ fun R D a=>Tm 2 Z<|Uy (n / (g:Int)) U6 om_ (oX q) (wrap_i64 om_ om_) U2<|Tm 2 Z<|Ur (d) (g) U6 u (.inl ⟨Z,by omega⟩) U2<|C6 2 [0,1] a Z<|Th 2 [0,1,26] Z<|G.cd (fun c=>?_) fun c=>?_
 ·have h1:d / g=1:=by
   have h2:(((d / g:Nat):Int))=1:=by simpa using c
   omega
  refine Ti 1 Z fun R a=>Tw (iZ _ e.m_ _ om_ om_) U7 fl_<|C6 1 [4] a Z<|Tp U2<|⟨?_,Z⟩;rw [h1,lX rfl];simp [eJ]
 have h1:d / g≠1:=by
  intro h2;rw [h2] at c;exact absurd c dc_
 have N:=my (n / (g:Int));have O:=my ((d / g:Nat):Int);have Q:(bj (n / (g:Int)).natAbs).length<=20:=eH (QA F (RT p dc_)) dc_;have S:(bj ((d / g:Nat):Int).natAbs).length<=20:=eH (by rw [Qs];exact QA s (RT t dc_)) dc_;refine Ti 1 Z fun R a=>Tw (iZ _ e.m_ _ om_ om_) U7 fl_<|Ul U6 (fun _=>(by simp only [PW,Qf];omega)) U2<|Tk U6<|Tw (iZ _ e.m_ ((d / g:Nat):Int) (Tf dc_ (Int.natCast_nonneg _)) (Tf (Int.ofNat_le.2 s) om_)) U7 fl_<|Ul U6 (fun _=>(by simp only [PM,PW,Qf];omega)) U2<|C6 1 [4] a Z<|Tp U2<|⟨?_,Z⟩;rw [eY h1,de,Qb];rfl
theorem Gd (C:Mem)(z:Int)(d:Nat)(k:Nat)(b:0<k)(g:k<=40000)(c:z.natAbs<B9 ^ k)(e:d<B9 ^ k):Gives cx.P 134 [af (txt z),af (bj d)] C (af (txt z++eJ (nD d))):=by
 have h:(txt z).length<=9*k+1:=by
  have:=ci c b;unfold txt;split
  ·simp;omega
  omega
 have i:=ci e b;refine Tr func134 12 U3 fun w0=>Th 1 [0,1] Z<|Th 2 [0,1,6] Z<|G.cd (fun a=>?_) fun a=>?_
 ·have h1:d=1:=by rw [sw] at a;exact aY a
  refine Th 2 [4] Z<|Tp U2<|⟨?_,Z⟩;rw [lX h1];simp [eJ]
 have h1:d≠1:=by rw [sw] at a;exact PJ a
 refine Ti 1 Z fun R f=>Ul U6 (fun _=>(by simp only [PW,Qf];omega)) U2<|Tk U6<|Ul U6 (fun _=>(by simp only [PM,PW,Qf];omega)) U2<|C6 1 [4] f Z<|Tp U2<|⟨?_,Z⟩;rw [eY h1,Qb];rfl
theorem ER (C:Mem)(s:Str)(c:s.length<1000000):Gives cx.P 122 [af s] C (.tuple #[af (jR 47 s).1,af ((jR 47 s).2.getD [49])]):=by
 refine Tr func122 18 U3 fun w0=>Th 2 [0] Z<|Ti 1 Z fun R d=>Tt (KV _ s 47 c) U7<|C6 7 [4,5,6] d Z<|Th 2 [4,5,14] Z<|G.cd (fun a=>?_) fun a=>?_
 ·have h1:(jR 47 s).2=none:=by
   cases h:(jR 47 s).2 with
   | none=>rfl
   | some b=>rw [h] at a;simp at a
  refine Th 3 [2,3] Z<|Tu (G.dropAll (TM U3 ?_));refine ⟨?_,Z⟩;rw [h1];rfl
 obtain ⟨b,h1⟩:∃ b,(jR 47 s).2=some b:=by
  cases h:(jR 47 s).2 with
  | some b=>exact ⟨b,rfl⟩
  | none=>rw [h] at a;simp at a
 refine Th 4 [2,3] Z<|Tu (G.dropAll (TM U3 ?_));refine ⟨?_,Z⟩;rw [h1];rfl
theorem BO {c:UInt8}:∀ {a:Str}(b:Str),c ∉ a->jR c (a++c::b)=(a,some b)
 | [],b,_=>by simp [jR]
 | x::a,b,h=>by
  have d:x≠c:=fun e=>h (e ▸ PG);have hr:=BO (c:=c) (a:=a) b (fun h2=>h (PP _ h2));simp only [Ro,jR,aG d,hr]
theorem xn {c:UInt8}:∀ {a:Str},c ∉ a->jR c a=(a,none)
 | [],_=>rfl
 | x::a,h=>by
  have b:x≠c:=fun e=>h (e ▸ PG);have hr:=xn (c:=c) (a:=a) (fun h2=>h (PP _ h2));simp only [jR,aG b,hr]
theorem vM (h:∀ c∈s,eQ c=true):(47:UInt8) ∉ s:=fun h2=>absurd (h 47 h2) dc_
theorem vL (z:Int):(47:UInt8) ∉ txt z:=by
 unfold txt;split
 ·intro h;rcases PQ.1 h with h | h
  ·cases h
  exact vM (jP _) h
 exact vM (jP _)
theorem nV (q:Rat):jR 47 (qtx q)=(txt q.num,nD q.den):=by
 rw [oY];unfold nD;split
 ·rw [show eJ none=[] from rfl,P3];exact xn (vL _)
 exact BO _ (vL _)
theorem one_dec:bj 1=[49]:=by rw [bj];rfl
theorem GU (d:Nat):(nD d).getD [49]=bj d:=by
 unfold nD;split
 ·rename_i h;subst h;exact one_dec.symm
 rfl
theorem Me (C:Mem)(q:Rat)(a:(qtx q).length<1000000):Gives cx.P 122 [af (qtx q)] C (.tuple #[af (txt q.num),af (bj q.den)]):=by
 have h:=ER C (qtx q) a
 rwa [nV,GU] at h
def kQ (z w:Int):Rat:=mkRat (if w<0 then -z else z) w.natAbs
theorem pG (C:Mem)(f:Tabs C)(z w:Int)(k:Nat)(b:0<k)(e:k<=40000)(p:z.natAbs<B9 ^ k)(q:w.natAbs<B9 ^ k)(x:w≠0):Gives cx.P 123 [af (txt z),af (txt w)] C (af (qtx (kQ z w))):=by
 have A:=ci p b;have B:=ci q b;obtain ⟨y,hy⟩:∃ y,(if w<0 then -z else z)=y:=⟨_,rfl⟩;obtain ⟨d,r⟩:∃ d,w.natAbs=d:=⟨_,rfl⟩;have s:d≠0:=by omega
 have D:y.natAbs=z.natAbs:=by rw [<- hy];split <;> omega
 obtain ⟨g,c⟩:∃ g,Nat.gcd y.natAbs d=g:=⟨_,rfl⟩;have E:0<g:=by rw [<- c];exact Sg _ om_
 have t:g ∣ d:=by rw [<- c];exact SI _ _
 have F:g<=d:=Tb om_ t;unfold kQ;rw [hy,r,AU s,c];refine Tr func123 35 U3 fun w0=>Th 1 [0,1] Z<|Ti 1 Z fun R a=>Tt (lN _ w) U7<|C6 1 [0,1,8] a Z<|G.cut (fun fr u i j=>(True)/\fr=[(0,[],af (txt y)),(1,[],af (txt (d:Nat)))]/\i=[]) ?_ (fun fr _ H j _ l=>?_)
 ·refine G.cd (fun m=>?_) fun m=>?_
  ·have n:w<0:=by
    have h:eN w<0:=by simpa using m
    unfold eN at h;split at h <;> omega
   rw [aK n] at hy;refine Ti 1 Z fun R a=>Tw (ug _ z om_) U7 fl_<|Tk U6<|Tw (ug _ w om_) U7 fl_<|C6 2 [0,1] a Z<|Tx 0 (Mem.le.refl _) (hn_ [0,1] Z) ⟨trivial,by rw [hy,show -w=((d:Nat):Int) by omega],Z⟩
  have n:¬ w<0:=by
   intro h2;have h:¬ eN w<0:=by simpa using m
   unfold eN at h;split at h <;> omega
  rw [aG n] at hy;refine Tx 0 (Mem.le.refl _) (hn_ [0,1] Z) ⟨trivial,by rw [hy,show w=((d:Nat):Int) by omega],Z⟩
 obtain ⟨_,rfl,rfl⟩:=l;refine Ti 2 Z fun R a=>Tw (Gi _ f.m_ y (d:Nat) k b e om_ om_) U7 fl_<|C6 1 [0,1,5] a Z ?_;rw [Qs,c];refine Th 2 [0,1,5,17] Z<|G.cut (fun fr u i j=>(True)/\fr=[(0,[],af (txt (y / (g:Nat)))),(1,[],af (txt ((d / g:Nat):Int)))]/\i=[]) ?_ (fun fr _ I j _ l=>?_)
 ·refine G.cd (fun o=>?_) fun o=>?_
  ·refine Ti 2 Z fun R a=>Tw (rX _ f.m_ y (g:Nat) k b e om_ om_ om_) U7 fl_<|C6 5 [0,1,5] a Z<|Ti 2 Z fun R a=>Tw (rX _ f.m_ (d:Nat) (g:Nat) k b e om_ om_ om_) U7 fl_<|C6 5 [0,1] a Z<|Tx 0 (Mem.le.refl _) (hn_ [0,1] Z) ⟨trivial,by rw [Int.natCast_ediv],Z⟩
  have v:g=1:=by
   rw [de,sw] at o;simpa using o
  refine Tx 0 (Mem.le.refl _) (hn_ [0,1] Z) ⟨trivial,by rw [v,Nat.div_one,Int.natCast_one,Int.ediv_one],Z⟩
 obtain ⟨_,rfl,rfl⟩:=l;rw [de];exact Ti 2 Z fun R a=>Tw (Gd _ (y / (g:Nat)) (d / g) k b e (by rw [RM (Sc.1 (Rv.2 (by rw [<- c];exact Sw _ _))),Qs];exact QA (QL _ _) om_) (QA (QL _ _) om_)) U7 fl_<|C6 1 [4] a Z<|Tp U2<|⟨Z,Z⟩
theorem MU {a b:Nat}(h:bj a=bj b):a=b:=by rw [<- (bx a).2,h,(bx b).2]
theorem NE (h:txt z=txt w):z=w:=by
 have h1:=dI z;rw [h,dI w] at h1;have h2:=MU (Tg h1).1;have h3:decide (w<0)=decide (z<0):=(Tg h1).2;by_cases a:w<0
 ·rw [P0 a] at h3;have:=aY h3.symm;omega
 rw [Qc a] at h3;have:=PJ h3.symm;omega
theorem ly (h:qtx a=qtx b):a=b:=by
 have h1:=nV a;rw [h,nV b] at h1;have h2:=NE (Tg h1).1;have h3:=congrArg Ps (Tg h1).2;rw [qe,qe] at h3;exact Rat.ext h2.symm h3.symm
theorem LR (a b:Rat):((⟨(qtx a).toArray⟩:ByteArray).data.toList == (⟨(qtx b).toArray⟩:ByteArray).data.toList)=decide (a=b):=by
 show (qtx a == qtx b)=_;rw [S5,Rb,PN];exact ⟨ly,fun h=>by rw [h]⟩
theorem qtx_zero:qtx 0=[48]:=by
 rw [show (0:Rat)=((0:Int):Rat) from rfl,mI];unfold txt;rw [aG om_,show bj (0:Int).natAbs=bj 0 from rfl,bj];rfl
theorem dE:qtx 1=[49]:=by
 rw [show (1:Rat)=((1:Int):Rat) from rfl,mI];exact one_val.symm
theorem fh (a:Rat):((⟨(qtx a).toArray⟩:ByteArray).data.toList == (⟨#[48]⟩:ByteArray).data.toList)=decide (a=0):=by
 have h:=LR a 0
 rwa [qtx_zero] at h
theorem Ku (a:Rat):((⟨(qtx a).toArray⟩:ByteArray).data.toList == (⟨#[49]⟩:ByteArray).data.toList)=decide (a=1):=by
 have h:=LR a 1
 rwa [dE] at h
theorem wb (a:Rat):0<(qtx a).length:=by
 unfold qtx;rw [PM,PM];have:=Qq.2 (yZ a.num.natAbs);omega
theorem bi (h:QB k q)(a:0<k):(qtx q).length<=18*k+2:=by
 unfold qtx;rw [PM,PM];have h1:=ci h.1 a;have h2:=ci h.2 a;have h3:(II (decide (q.num<0))).length<=1:=by cases decide (q.num<0) <;> simp [II]
 have h4:(eJ (nD q.den)).length<=9*k+1:=by
  unfold nD;split
  ·simp [eJ]
  simp [eJ];exact h2
 omega
theorem nN (q:Rat):∃ c r,qtx q=c::r/\((((c.toNat:Nat):Int) == 45)=decide (q.num<0)):=by
 by_cases h:q.num<0
 ·refine ⟨45,bj q.num.natAbs++eJ (nD q.den), ?_,by rw [P0 h];decide⟩;unfold qtx;rw [P0 h];rfl
 obtain ⟨c,r,a⟩:∃ c r,bj q.num.natAbs=c::r:=List.exists_cons_of_ne_nil (yZ _);refine ⟨c,r++eJ (nD q.den), ?_, ?_⟩
 ·unfold qtx;rw [Qc h,a];rfl
 have h2:=jP q.num.natAbs c (by rw [a];exact PG);rw [Qc h];unfold eQ at h2;have h3:=aY h2;exact Qc om_
theorem eS (h:¬ q.num<0)(a:q≠0):qtx (-q)=45::qtx q:=by
 have b:q.num≠0:=fun e=>a (SC.1 e);unfold qtx;rw [S9,Rat.neg_den,P0 om_,Qc h,SG];rfl
theorem ko (h:q.num<0):qtx q=45::qtx (-q):=by
 have h2:=eS (q:=-q) (by rw [S9];omega) (by intro e;have h3:=congrArg Rat.num e;rw [S9] at h3;have h4:(0:Rat).num=0:=rfl;omega)
 rwa [Rat.neg_neg] at h2
def Dr (q:Rat):Bool:=MH (bj q.num.natAbs) (nD q.den)
theorem KN (h:(bj n).length<=9):n<1000000000:=by
 have h1:=dJ (jP n);rw [(bx n).2] at h1;exact QT h1 (PV (P2 dc_ h) dc_)
theorem mO (h:Dr q=true):q.num.natAbs<1000000000/\q.den<1000000000:=by
 unfold Dr MH at h;rw [PR,PN,PN] at h;refine ⟨KN h.1, ?_⟩;by_cases h1:q.den=1
 ·omega
 rw [eY h1] at h;exact KN h.2
theorem EQ (C:Mem)(q:Rat)(a:(qtx q).length<=1000000):Gives cx.P 120 [af (qtx q)] C (if Dr q then .tuple #[.int .i64 q.num,.int .i64 (q.den:Nat),.bool true] else .tuple #[.int .i64 0,.int .i64 0,.bool false]):=by
 have h:=CN C (decide (q.num<0)) (bj q.num.natAbs) (nD q.den) (jP _) (yZ _) (JF _) a;unfold rG at h;rw [(bx _).2,qe] at h;have e:sgZ (decide (q.num<0)) q.num.natAbs=q.num:=by
  unfold sgZ;by_cases h:q.num<0
  ·rw [P0 h,aK rfl];omega
  rw [Qc h,aG dc_];omega
 rw [e] at h;exact h
theorem eF (C:Mem)(q:Rat)(g:(qtx q).length<=1000000):Gives cx.P 78 [af (qtx q)] C (af (qtx (-q))):=by
 have h:=wb q;refine Tr func78 13 U3 fun w0=>Th 1 [0] Z<|Th 2 [0,4] Z<|G.cd (fun h4=>?_) fun h4=>?_
 ·have h0:q=0:=by rw [fh] at h4;exact aY h4
  refine Th 2 [2] Z<|Tp U2<|⟨?_,Z⟩;rw [h0,Rat.neg_zero]
 have h0:q≠0:=by rw [fh] at h4;exact PJ h4
 obtain ⟨c,r,f,e⟩:=nN q;refine Ti 1 Z fun R a=>Uh U8 (fun _=>⟨by omega,by rw [f];rfl⟩) U2<|C6 1 [0,8] a Z<|G.cd (fun b=>?_) fun b=>?_
 ·have d:q.num<0:=by rw [e] at b;exact aY b
  refine Ti 1 Z fun R a=>Un 1 (qtx q).length U9 (fun _=>⟨.inr ⟨_,Z⟩,.inl ⟨Z,Z⟩,.inl ⟨Z,Z⟩,by omega,PE _,PE _⟩) U2<|C6 1 [2] a Z<|Tp U2<|⟨?_,Z⟩;rw [PT,ko d];rfl
 have d:¬ q.num<0:=by rw [e] at b;exact PJ b
 refine Ti 1 Z fun R a=>Ul U6 (fun _=>(by simp only [PW,Qf];omega)) U2<|C6 1 [2] a Z<|Tp U2<|⟨?_,Z⟩;rw [eS d h0];rfl
theorem fY (C:Mem)(q:Rat)(j:(qtx q).length<=1000000):Gives cx.P 94 [af (qtx q)] C (.int .i64 (eN q.num)):=by
 obtain ⟨c,r,f,d⟩:=nN q;have k:=wb q;refine Tr func94 15 U3 fun w0=>Th 1 [0] Z<|Th 3 [0,3] Z<|G.cd (fun h3=>?_) fun h3=>?_
 ·have h0:q=0:=by rw [fh] at h3;exact aY h3
  refine Th 1 [2] Z<|Tp U2<|⟨?_,Z⟩;rw [h0];rfl
 have h0:q≠0:=by rw [fh] at h3;exact PJ h3
 have g:q.num≠0:=fun e=>h0 (SC.1 e);refine Ti 5 Z fun R i=>Uh U8 (fun _=>⟨by omega,by rw [f];rfl⟩) U2<|Tk U6<|TJ U8<|C6 1 [6] i Z<|G.cd (fun a=>?_) fun a=>?_
 ·rw [d] at a;have b:q.num<0:=by
   have h:=(PR _ _ ▸ a:_/\_).2;exact aY h
  skip
  refine Th 1 [2] Z<|Tp U2<|⟨?_,Z⟩;unfold eN;rw [aK b]
 rw [d,P0 (show (0:Int)<((⟨(qtx q).toArray⟩:ByteArray).data.toList.length:Int) by show (0:Int)<(((qtx q).length:Nat):Int);omega),SN] at a;have b:¬ q.num<0:=PJ a;refine Th 1 [2] Z<|Tp U2<|⟨?_,Z⟩;unfold eN;rw [aG b,aG g]
theorem jy (C:Mem)(q:Rat)(b:(qtx q).length<=1000000):Gives cx.P 120 [af (qtx q)] C (.tuple #[.int .i64 (if Dr q then q.num else 0),.int .i64 (if Dr q then ((q.den:Nat):Int) else 0),.bool (Dr q)]):=by
 have h:=EQ C q b;cases a:Dr q with
 | true=>rw [a] at h;exact h
 | false=>rw [a] at h;exact h
def sD (a b:Rat):Int:=if a<b then -1 else if b<a then 1 else 0
theorem uI :sD a b=vh (a.num*b.den) (b.num*a.den):=by
 unfold sD vh;simp only [Rat.lt_iff]
theorem gR (a:Rat):0<a.den:=RE a.den_nz
theorem nP {a:Int}(b:a.natAbs<1000000000)(c:d<1000000000):-1000000000000000000<a*(d:Int)/\a*(d:Int)<1000000000000000000:=Fh b (by rw [Qs];exact c)
theorem wA {a:Nat}(b:a<1000000000)(c:d<1000000000):a*d<1000000000000000000:=Rx b c
theorem kI (C:Mem)(q:Rat)(a:(qtx q).length<1000000):Gives cx.P 122 [af (qtx q)] C (.tuple #[af (txt q.num),af (txt ((q.den:Nat):Int))]):=by
 have h:=Me C q a
 rwa [<- de] at h
theorem dX (a:z.natAbs<B9 ^ k)(b:w.natAbs<B9 ^ k):(z*w).natAbs<B9 ^ (k+k):=by
 rw [Q9];exact nO a b
theorem BG (a:0<d):kQ z ((d:Nat):Int)=mkRat z d:=by
 unfold kQ;rw [aG om_,Qs]
theorem re (h:QB k q):((q.den:Nat):Int).natAbs<B9 ^ k:=by rw [Qs];exact h.2
theorem gM (C:Mem)(m:Tabs C)(a b:Rat)(k:Nat)(f:0<k)(u:k<=20000)(d:QB k a)(e:QB k b):Gives cx.P 218 [af (qtx a),af (qtx b)] C (.int .i64 (sD a b)):=by
 have v:=bi d f;have w:=bi e f;refine Tr func218 65 U3 fun w0=>Th 1 [0,1] Z<|Th 3 [0,1,19] Z<|G.cd (fun g=>?_) fun g=>?_
 ·have h0:a=b:=by rw [LR] at g;exact aY g
  refine Th 1 [4] Z<|Tp U2<|⟨?_,Z⟩;subst h0;rw [sD,aG (Rat.lt_irrefl),aG (Rat.lt_irrefl)]
 refine Ti 1 Z fun R c=>Tw (jy _ a om_) U7 fl_<|C6 7 [0,1,5,6,7] c Z<|Th 1 [0,1,5,6,26] Z<|G.cut (fun fr x r s=>(True)/\fr=[(0,[],af (qtx a)),(1,[],af (qtx b))]/\r=[]) ?_ (fun fr _ y s _ t=>?_)
 ·refine G.cd (fun n=>?_) fun n=>?_
  ·have h:Dr a=true:=n;rw [aK h,aK h];have o:=mO h;refine Ti 1 Z fun R c=>Tw (jy _ b om_) U7 fl_<|C6 7 [0,1,5,6,8,9,10] c Z<|Th 1 [0,1,5,6,8,9,33] Z<|G.cd (fun p=>?_) fun p=>?_
   ·have i:Dr b=true:=p;rw [aK i,aK i];have q:=mO i;have z:=nP o.1 q.2;have A:=nP q.1 o.2;refine Ti 2 Z fun R c=>Tq _ Z U6<|Tm 2 Z<|Tq _ Z U6<|C6 2 [11,12] c Z<|Th 4 [11,12,40] Z<|G.cd (fun j=>?_) fun j=>?_
    ·have h1:=aY j;refine Th 1 [4] Z<|Tp U2<|⟨?_,Z⟩;rw [uI,vh,aK h1]
    have h1:=PJ j;refine Th 4 [44] Z<|G.cd (fun l=>?_) fun l=>?_
    ·have h2:=aY l;refine Th 1 [4] Z<|Tp U2<|⟨?_,Z⟩;rw [uI,vh,aG h1,aK h2]
    have h2:=PJ l;refine Th 1 [4] Z<|Tp U2<|⟨?_,Z⟩;rw [uI,vh,aG h1,aG h2]
   refine Tx 0 (Mem.le.refl _) (hn_ [0,1] Z) ⟨trivial,Z,Z⟩
  refine Tx 0 (Mem.le.refl _) (hn_ [0,1] Z) ⟨trivial,Z,Z⟩
 obtain ⟨_,rfl,rfl⟩:=t;exact Ti 1 Z fun R c=>Tw (kI _ a om_) U7 fl_<|C6 5 [1,13,14] c Z<|Ti 1 Z fun R c=>Tw (kI _ b om_) U7 fl_<|C6 5 [13,14,15,16] c Z<|Ti 2 Z fun R c=>Tw (kM _ m.m_ _ _ k f om_ d.1 (re e)) U7 fl_<|Tm 2 Z<|Tw (kM _ m.m_ _ _ k f om_ e.1 (re d)) U7 fl_<|Tw (pN _ _ _ (by have:=ci (dX d.1 (re e)) om_;omega) (by have:=ci (dX e.1 (re d)) om_;omega)) U7 fl_<|C6 1 [4] c Z<|Tp U2<|⟨by rw [uI],Z⟩
theorem mH (C:Mem)(f:Tabs C)(a b:Rat)(k:Nat)(g:0<k)(w:k<=10000)(d:QB k a)(e:QB k b):Gives cx.P 101 [af (qtx a),af (qtx b)] C (af (qtx (a+b))):=by
 have x:=bi d g;have y:=bi e g;have r:=gR a;have s:=gR b;have o:0<a.den*b.den:=Sb r s;refine Tr func101 67 U3 fun w0=>Th 1 [0,1] Z<|Th 2 [0,1,16] Z<|G.cd (fun h=>?_) fun h=>?_
 ·have h0:a=0:=by rw [fh] at h;exact aY h
  refine Th 2 [4] Z<|Tp U2<|⟨?_,Z⟩;rw [h0,Rat.zero_add]
 refine Th 2 [0,1,19] Z<|G.cd (fun i=>?_) fun i=>?_
 ·have h0:b=0:=by rw [fh] at i;exact aY i
  refine Th 2 [4] Z<|Tp U2<|⟨?_,Z⟩;rw [h0,Rat.add_zero]
 refine Ti 1 Z fun R c=>Tw (jy _ a om_) U7 fl_<|C6 7 [0,1,5,6,7] c Z<|Th 1 [0,1,5,6,27] Z<|G.cut (fun fr z t u=>(True)/\fr=[(0,[],af (qtx a)),(1,[],af (qtx b))]/\t=[]) ?_ (fun fr _ A u _ v=>?_)
 ·refine G.cd (fun p=>?_) fun p=>?_
  ·have j:Dr a=true:=p;rw [aK j,aK j];have l:=mO j;refine Ti 1 Z fun R c=>Tw (jy _ b om_) U7 fl_<|C6 7 [0,1,5,6,8,9,10] c Z<|Th 1 [0,1,5,6,8,9,34] Z<|G.cd (fun q=>?_) fun q=>?_
   ·have m:Dr b=true:=q;rw [aK m,aK m];have n:=mO m;have B:=nP l.1 n.2;have D:=nP n.1 l.2;have E:=wA l.2 n.2;exact Ti 2 Z fun R c=>Tq _ Z U6<|Tm 2 Z<|Tq _ Z U6<|Tq _ Z U6<|Tm 2 Z<|Tq (((a.den*b.den:Nat):Int)) (Qa _ _).symm U6<|Tw (vT _ f.m_ _ _ o om_ om_) U7 fl_<|C6 1 [4] c Z<|Tp U2<|⟨by rw [jD],Z⟩
   refine Tx 0 (Mem.le.refl _) (hn_ [0,1] Z) ⟨trivial,Z,Z⟩
  refine Tx 0 (Mem.le.refl _) (hn_ [0,1] Z) ⟨trivial,Z,Z⟩
 obtain ⟨_,rfl,rfl⟩:=v;exact Ti 1 Z fun R c=>Tw (kI _ a om_) U7 fl_<|C6 5 [1,11,12] c Z<|Ti 1 Z fun R c=>Tw (kI _ b om_) U7 fl_<|C6 5 [11,12,13,14] c Z<|Ti 2 Z fun R c=>Tw (kM _ f.m_ _ _ k g om_ d.1 (re e)) U7 fl_<|Tm 2 Z<|Tw (kM _ f.m_ _ _ k g om_ e.1 (re d)) U7 fl_<|Tw (MA _ f.m_ _ _ (k+k) om_ om_ (dX d.1 (re e)) (dX e.1 (re d))) U7 fl_<|Tm 2 Z<|Tw (kM _ f.m_ _ _ k g om_ (re d) (re e)) U7 fl_<|Tw (pG _ f.m_ _ _ (k+k+1) om_ om_ (QA (So _ _) (yd (dX d.1 (re e)) (dX e.1 (re d)))) (dF (dX (re d) (re e)) om_) (by rw [<- Qa];omega)) U7 fl_<|C6 1 [4] c Z<|Tp U2<|⟨by rw [jD,<- Qa,BG o],Z⟩
theorem OK (c:QB k a)(d:QB k b):QB (k+k+1) (a+b):=by
 rw [jD];exact gW (Nat.ne_of_gt (Sb (gR a) (gR b))) (QA (So _ _) (yd (dX c.1 (re d)) (dX d.1 (re c)))) (dF (nO c.2 d.2) om_)
theorem qI (c:QB k a)(d:QB k b):QB (k+k) (a*b):=by
 rw [gw];exact gW (Nat.ne_of_gt (Sb (gR a) (gR b))) (dX c.1 d.1) (nO c.2 d.2)
theorem fa (b:QB k a):QB k (-a):=⟨by rw [S9,SG];exact b.1,by rw [Rat.neg_den];exact b.2⟩
theorem me (c:QB k a)(d:QB k b):QB (k+k+1) (a-b):=by
 rw [Ta];exact OK c (fa d)
theorem B8 (b:QB k a)(d:a≠0):QB k a⁻¹:=by
 have c:a.num≠0:=fun e=>d (SC.1 e);refine ⟨?_, ?_⟩
 ·rw [Rat.num_inv,Q9,Int.natAbs_sign_of_ne_zero c,Sm,Qs];exact b.2
 rw [Rat.den_inv,aG c];exact b.1
theorem jn (c:QB k a)(d:QB k b)(e:b≠0):QB (k+k) (a / b):=by
 rw [Rat.div_def];exact qI c (B8 d e)
theorem OJ (h:z.natAbs<B9 ^ k)(a:0<k):QB k (z:Rat):=⟨h,by
 show 1<B9 ^ k;exact QT (by decide:1<B9 ^ 1) (P2 dc_ a)⟩
theorem di (C:Mem)(g:Tabs C)(a b:Rat)(k:Nat)(i:0<k)(z:k<=10000)(d:QB k a)(e:QB k b):Gives cx.P 60 [af (qtx a),af (qtx b)] C (af (qtx (a*b))):=by
 have A:=bi d i;have B:=bi e i;have w:=gR a;have x:=gR b;have q:0<a.den*b.den:=Sb w x;refine Tr func60 66 U3 fun w0=>Th 1 [0,1] Z<|Th 3 [0,1,15] Z<|G.cut (fun fr y L' j=>(True)/\fr=[(0,[],af (qtx a)),(1,[],af (qtx b)),(15,[],.bool (decide (a=0∨b=0)))]/\L'=[]) ?_ (fun fr _ D j _ l=>?_)
 ·refine G.cd (fun f=>?_) fun f=>?_
  ·have h0:a=0:=by rw [fh] at f;exact aY f
   rw [fh,show decide (a=0)=decide (a=0∨b=0) by simp [h0]];refine Tx 0 (Mem.le.refl _) (hn_ [0,1,15] Z) ⟨trivial,Z,Z⟩
  have h0:¬ a=0:=by rw [fh] at f;exact PJ f
  refine Th 3 [0,1,15] Z ?_;rw [fh,show decide (b=0)=decide (a=0∨b=0) by simp [h0]];refine Tx 0 (Mem.le.refl _) (hn_ [0,1,15] Z) ⟨trivial,Z,Z⟩
 obtain ⟨_,rfl,rfl⟩:=l;refine G.cd (fun r=>?_) fun r=>?_
 ·have h0:=aY r;refine Th 1 [4] Z<|Tp U2<|⟨?_,Z⟩;rw [show a*b=0 by rcases h0 with h | h <;> simp [h],qtx_zero];rfl
 refine Th 3 [0,1,20] Z<|G.cd (fun m=>?_) fun m=>?_
 ·have h1:a=1:=by rw [Ku] at m;exact aY m
  refine Th 2 [4] Z<|Tp U2<|⟨?_,Z⟩;rw [h1,Rat.one_mul]
 refine Th 3 [0,1,24] Z<|G.cd (fun n=>?_) fun n=>?_
 ·have h1:b=1:=by rw [Ku] at n;exact aY n
  refine Th 2 [4] Z<|Tp U2<|⟨?_,Z⟩;rw [h1,Rat.mul_one]
 refine Ti 1 Z fun R c=>Tw (jy _ a om_) U7 fl_<|C6 7 [0,1,5,6,7] c Z<|Th 1 [0,1,5,6,34] Z<|G.cut (fun fr y L' j=>(True)/\fr=[(0,[],af (qtx a)),(1,[],af (qtx b))]/\L'=[]) ?_ (fun fr _ E j _ l=>?_)
 ·refine G.cd (fun s=>?_) fun s=>?_
  ·have o:Dr a=true:=s;rw [aK o,aK o];have t:=mO o;refine Ti 1 Z fun R c=>Tw (jy _ b om_) U7 fl_<|C6 7 [0,1,5,6,8,9,10] c Z<|Th 1 [0,1,5,6,8,9,41] Z<|G.cd (fun u=>?_) fun u=>?_
   ·have p:Dr b=true:=u;rw [aK p,aK p];have v:=mO p;have F:=Fh t.1 v.1;have H:=wA t.2 v.2;exact Ti 2 Z fun R c=>Tq _ Z U6<|Tm 2 Z<|Tq (((a.den*b.den:Nat):Int)) (Qa _ _).symm U6<|Tw (vT _ g.m_ _ _ q om_ om_) U7 fl_<|C6 1 [4] c Z<|Tp U2<|⟨by rw [gw],Z⟩
   refine Tx 0 (Mem.le.refl _) (hn_ [0,1] Z) ⟨trivial,Z,Z⟩
  refine Tx 0 (Mem.le.refl _) (hn_ [0,1] Z) ⟨trivial,Z,Z⟩
 obtain ⟨_,rfl,rfl⟩:=l;exact Ti 1 Z fun R c=>Tw (kI _ a om_) U7 fl_<|C6 5 [1,11,12] c Z<|Ti 1 Z fun R c=>Tw (kI _ b om_) U7 fl_<|C6 5 [11,12,13,14] c Z<|Ti 2 Z fun R c=>Tw (kM _ g.m_ _ _ k i om_ d.1 e.1) U7 fl_<|Tm 2 Z<|Tw (kM _ g.m_ _ _ k i om_ (re d) (re e)) U7 fl_<|Tw (pG _ g.m_ _ _ (k+k) om_ om_ (dX d.1 e.1) (dX (re d) (re e)) (by rw [<- Qa];omega)) U7 fl_<|C6 1 [4] c Z<|Tp U2<|⟨by rw [gw,<- Qa,BG q],Z⟩
theorem dZ (C:Mem)(e:Tabs C)(a b:Rat)(k:Nat)(c:0<k)(f:k<=10000)(g:QB k a)(d:QB k b):Gives cx.P 127 [af (qtx a),af (qtx b)] C (af (qtx (a-b))):=by
 have i:=bi d c;exact Tr func127 9 U3 fun w0=>Th 1 [0,1] Z<|Ti 2 Z fun R h=>Tw (eF _ b om_) U7 fl_<|Tt (mH _ e.m_ a (-b) k c f g (fa d)) U7<|C6 1 [4] h Z<|Tp U2<|⟨by rw [Ta],Z⟩
theorem gK (C:Mem)(n:Tabs C)(a b:Rat)(k:Nat)(g:0<k)(o:k<=10000)(p:QB k a)(f:QB k b)(h:b≠0):Gives cx.P 70 [af (qtx a),af (qtx b)] C (.tuple #[af (qtx (a / b)),.int .i64 0]):=by
 have v:=bi f g;have q:b.num≠0:=fun e=>h (SC.1 e);obtain ⟨c,r,s,l⟩:=nN b;refine Tr func70 27 U3 fun w0=>Th 2 [0,1] Z<|Th 2 [0,1,9] Z<|G.cd (fun j=>?_) fun j=>?_
 ·exfalso;rw [fh] at j;exact h (aY j)
 refine Ti 1 Z fun R d=>Tw (kI _ b om_) U7 fl_<|C6 5 [0,1,6,7] d Z<|Ti 1 Z fun R d=>Uh U8 (fun _=>⟨by omega,by rw [s];rfl⟩) U2<|C6 1 [0,6,7,17] d Z<|G.cut (fun fr w L' t=>(True)/\fr=[(0,[],af (qtx a)),(6,[],af (txt (b.num.natAbs:Nat))),(7,[],af (txt (b⁻¹).num))]/\L'=[]) ?_ (fun fr _ x t _ u=>?_)
 ·refine G.cd (fun i=>?_) fun i=>?_
  ·have m:b.num<0:=by rw [l] at i;exact aY i
   refine Ti 1 Z fun R d=>Tw (ug _ b.num (by have:=ci f.1 g;omega)) U7 fl_<|Tk U6<|Tw (ug _ ((b.den:Nat):Int) (by have:=ci (re f) g;omega)) U7 fl_<|C6 2 [0,6,7] d Z ?_;rw [show -b.num=((b.num.natAbs:Nat):Int) by omega,show -((b.den:Nat):Int)=(b⁻¹).num by rw [Rat.num_inv,Int.sign_eq_neg_one_of_neg m,Int.neg_one_mul]];refine Tx 0 (Mem.le.refl _) (hn_ [0,6,7] Z) ⟨trivial,Z,Z⟩
  have m:¬ b.num<0:=by rw [l] at i;exact PJ i
  rw [show b.num=((b.num.natAbs:Nat):Int) by omega,show ((b.den:Nat):Int)=(b⁻¹).num by rw [Rat.num_inv,Int.sign_eq_one_of_pos om_,Int.one_mul]];refine Tx 0 (Mem.le.refl _) (hn_ [0,6,7] Z) ⟨trivial,Z,Z⟩
 obtain ⟨_,rfl,rfl⟩:=u;rw [de,show b.num.natAbs=(b⁻¹).den by rw [Rat.den_inv,aG q]];refine Ti 3 Z fun R d=>Tw (Gd _ _ _ k g om_ (B8 f h).1 (B8 f h).2) U7 fl_ ?_;rw [<- oY b⁻¹];refine Tt (di _ n.m_ a b⁻¹ k g o p (B8 f h)) U7<|C6 2 [4,5] d Z<|Tu (G.dropAll (TM U3 ?_));exact ⟨by rw [Rat.div_def],Z⟩
theorem LD (C:Mem)(c:Tabs C)(z w:Int)(k:Nat)(d:0<k)(e:k<=40000)(f:z.natAbs<B9 ^ k)(g:w.natAbs<B9 ^ k)(i:w≠0):Gives cx.P 184 [af (txt z),af (txt w)] C (.tuple #[af (qtx (kQ z w)),.int .i64 0]):=by
 refine Tr func184 12 U3 fun w0=>Th 2 [0,1] Z<|Ti 1 Z fun R a=>Tt (lN _ w) U7<|C6 1 [0,1,8] a Z<|G.cd (fun b=>?_) fun b=>?_
 ·exfalso;have h:eN w=0:=by simpa using b
  rcases ek w with h2 | h2 | h2 <;> omega
 refine Ti 2 Z fun R a=>Tt (pG _ c.m_ z w k d e f g i) U7<|C6 2 [4,5] a Z<|Tu (G.dropAll (TM U3 ?_));exact ⟨Z,Z⟩
theorem EV (C:Mem)(a:Tabs C)(z w:Int)(d:z.natAbs<9000000000000000000)(e:w.natAbs<9000000000000000000)(b:w≠0):Gives cx.P 118 [.int .i64 z,.int .i64 w] C (.tuple #[af (qtx (kQ z w)),.int .i64 0]):=by
 have f:9000000000000000000<B9 ^ 3:=by decide
 refine Tr func118 13 U3 fun w0=>Th 2 [0,1] Z<|Ti 1 Z fun R c=>Tw (rU _ a.m_ z om_ om_) U7 fl_<|Tk U6<|Tw (rU _ a.m_ w om_ om_) U7 fl_<|Tw (LD _ a.m_ z w 3 dc_ dc_ om_ om_ b) U7 fl_<|C6 4 [4,5] c Z<|Tu (G.dropAll (TM U3 ?_));exact ⟨Z,Z⟩
theorem tg (C:Mem)(a:Tabs C)(z:Int)(c:z.natAbs<9000000000000000000):Gives cx.P 119 [.int .i64 z] C (af (qtx z)):=by
 exact Tr func119 5 U3 fun w0=>Th 1 [0] Z<|Ti 1 Z fun R b=>Tw (rU _ a.m_ z om_ om_) U7 fl_<|C6 1 [2] b Z<|Tp U2<|⟨by rw [mI],Z⟩
theorem pow9 (k:Nat):B9 ^ k=10 ^ (9*k):=by rw [Nat.pow_mul]
theorem fy (h:cH s=true):s=txt (iy s)/\(iy s).natAbs<B9 ^ 23:=by
 have h1:=rE.1 h;refine ⟨Hj (by unfold cH at h;exact (S6.1 h).1), ?_⟩;rw [JG];have h2:=yx.1 h1.1;have h3:=dJ h2.1.1;exact QT h3 (by rw [pow9];exact P2 dc_ om_)
theorem AS (h:aS s=true):∃ q:Rat,s=qtx q/\QB 23 q:=by
 unfold aS at h;rw [PR,PR] at h;obtain ⟨⟨h1,h2⟩,h3⟩:=h;obtain ⟨a,b⟩:=fy h1;rcases gE 47 s with ⟨d,_,_⟩ | ⟨c,post,d,hs,_⟩
 ·rw [d] at a b;exact ⟨((iy s:Int):Rat),by rw [mI];exact a,OJ b dc_⟩
 rw [d] at h2 h3 a b;simp only [QW] at h2 a b;obtain ⟨e,f⟩:=fy h2;unfold oV at h3;simp only [PR,PN,Rb] at h3;obtain ⟨⟨h4,_⟩,g⟩:=h3;have i:(iy post).natAbs≠0:=by omega
 refine ⟨⟨iy c,(iy post).natAbs,i,g⟩, ?_,b,f⟩;rw [oY];show s=txt (iy c)++eJ (nD (iy post).natAbs);rw [eY om_,<- a,hs];show c++47::post=c++47::bj (iy post).natAbs;rw [<- de,show (((iy post).natAbs:Nat):Int)=iy post by omega,<- e]
theorem qX (C:Mem)(b:Str)(a:cH b=true):Gives cx.P 161 [af b,af [49]] C (.int .i64 (vh (iy b) 1)):=by
 obtain ⟨h1,h2⟩:=fy a;have h:=pN C (iy b) 1 (by have:=ci h2 dc_;omega) (by rw [show bj (1:Int).natAbs=[49] from one_dec];decide)
 rwa [<- one_val,<- h1] at h
theorem Dh (C:Mem)(c:Tabs C)(a b:Str)(d:cH a=true)(e:cH b=true):Gives cx.P 162 [af a,af b] C (af (txt (Nat.gcd (iy a).natAbs (iy b).natAbs:Nat))):=by
 obtain ⟨h1,h2⟩:=fy d;obtain ⟨h3,h4⟩:=fy e;have h:=Gi C c (iy a) (iy b) 23 dc_ dc_ h2 h4
 rwa [<- h1,<- h3] at h
theorem xq {b:Bool}(h:(nX b != 0)=false):b=true:=by cases b <;> first | rfl | (exact absurd h dc_)
theorem dD (C:Mem)(y:Tabs C)(s:Str)(A:s.length<=999998):Gives cx.P 103 [af s] C (.int .i64 (nX (aS s))):=by
 have u:=E0 A;obtain ⟨c,f,l⟩:∃ a b,jR 47 s=(a,b):=⟨_,_,rfl⟩;have k:aS s=(cH c && cH (f.getD [49]) && oV (iy c) f):=by
  unfold aS;rw [l]
 rw [l] at u;simp only at u;refine Tr func103 39 U3 fun w0=>Th 1 [0] Z<|Ti 1 Z fun R g=>Tw (by have h:=KV C s 47 om_;rw [l] at h;exact h) U7 fl_<|C6 7 [3,4,5] g Z<|Ti 1 Z fun R g=>Tt (wR _ c) U7<|C6 1 [3,4,5,16] g Z<|G.cd (fun i=>?_) fun i=>?_
 ·have j:aS s=false:=by
   rw [k];cases h1:cH c with
   | false=>rfl
   | true=>rw [h1] at i;exact absurd i dc_
  exact Th 1 [2] Z<|Tp U2<|⟨by rw [j];rfl,Z⟩
 have m:cH c=true:=by
  cases h1:cH c with
  | true=>rfl
  | false=>rw [h1] at i;exact absurd i dc_
 rw [m,SN] at k;obtain ⟨v,B⟩:=fy m;refine Th 2 [3,4,18] Z<|G.cd (fun n=>?_) fun n=>?_
 ·have o:f=none:=by
   cases f with
   | none=>rfl
   | some b=>simp at n
  refine Th 1 [2] Z<|Tp U2<|⟨?_,Z⟩;rw [k,o];rfl
 obtain ⟨b,o⟩:∃ b,f=some b:=by
  cases f with
  | some b=>exact ⟨b,rfl⟩
  | none=>simp at n
 subst o;obtain ⟨d,w⟩:∃ z,iy c=z:=⟨_,rfl⟩;obtain ⟨e,x⟩:∃ z,iy b=z:=⟨_,rfl⟩;have p:aS s=(cH b && oV (iy c) (some b)):=k;unfold oV at p;simp only [w,x] at p v B;have D:(c == [48])=(d == 0):=by
  rw [v];have h:=lg d;rw [show (d == 0)=decide (d=0) by by_cases h:d=0 <;> simp [h]];exact h
 have E:(nX (cH b) != 0)=!cH b:=by cases cH b <;> rfl
 have F:decide (vh e 1<=0)=!decide (1<e):=by
  unfold vh;by_cases h:1<e
  ·rw [aG om_,aK h,P0 h];rfl
  rw [Qc h];refine P0 ?_;split <;> first | omega | (split <;> omega)
 have q:(nX (cH b) != 0 || decide (vh (iy b) 1<=0) || (c == [48]) || !(bj ((iy c).natAbs.gcd (iy b).natAbs) == [49]))=!aS s:=by
  have H:=sw (d.natAbs.gcd e.natAbs);have I:(bj (d.natAbs.gcd e.natAbs) == [49])=(d.natAbs.gcd e.natAbs == 1):=H;rw [w,x,D,E,F,I,p];cases cH b <;> cases decide (1<e) <;> cases (d == 0) <;> cases (d.natAbs.gcd e.natAbs == 1) <;> rfl
 rw [<- de] at q;refine Th 4 [6,7] Z<|Ti 1 Z fun R g=>Tt (wR _ b) U7<|Tm 3 Z<|TG (fun r=>(qX _ b (by exact xq (show (nX (cH b) != 0)=false/\True from r).1))) U9<|Tk U6<|TQ U8<|Tm 3 Z<|TQ U8<|Tm 3 Z<|TG (fun r=>(Dh _ y.m_ c b m (by exact xq (Rk.1 (Rk.1 (show (((nX (cH b) != 0) || decide (vh (iy b) 1<=0)) || (c == [48]))=false/\True from r).1).1).1))) U9<|Tk U6<|TQ U8<|Tn [38] g Z<|G.cd (fun t=>?_) fun t=>?_
 ·have j:aS s=false:=by
   have h:(!aS s)=true:=q.symm.trans t;simpa using h
  exact Th 1 [2] Z<|Tp U2<|⟨by rw [j];rfl,Z⟩
 have j:aS s=true:=by
  have h:(!aS s)=false:=q.symm.trans t;simpa using h
 exact Th 1 [2] Z<|Tp U2<|⟨by rw [j];rfl,Z⟩
theorem NQ (z:Int)(b:g ∣ z.natAbs):sgZ (decide (z<0) != false) (z.natAbs / g)=z / (g:Int):=by
 obtain ⟨m,hm⟩:=b;rcases QH g with h | c
 ·subst h;have a:z=0:=by omega
  subst a;rfl
 rw [hm,Nat.mul_div_cancel_left _ c,Bool.bne_false];unfold sgZ;by_cases a:z<0
 ·rw [P0 a,aK rfl,show z=(g:Int)*(-(m:Int)) by rw [Int.mul_neg,<- Qa];omega,Int.mul_ediv_cancel_left _ om_]
 rw [Qc a,aG dc_,show z=(g:Int)*(m:Int) by rw [<- Qa];omega,Int.mul_ediv_cancel_left _ om_]
theorem xh (C:Mem)(c:Tabs C)(z:Int)(b:Nat)(m:z.natAbs<BP ^ 200)(n:b<BP ^ 200)(F:0<b)(d:b ∣ z.natAbs):Gives cx.P 168 [af (txt z),af (bj b)] C (.tuple #[af (txt (z / (b:Int))),af (bj 0)]):=by
 have H:=OQ;have o:z.natAbs % b=0:=Nat.mod_eq_zero_of_dvd d;have f:(b:Int) ∣ z:=Sc.1 (Rv.2 d);have I:(z / (b:Int)).natAbs<=z.natAbs:=by
  rw [RM f,Qs];exact QL _ _
 refine Tr func168 93 U3 fun w0=>Th 2 [0,1] Z<|Ti 1 Z fun R a=>Tt (BZ C z) U7<|C6 5 [0,1,6,7] a Z<|Ti 1 Z fun R a=>Tt (qB _ b) U7<|C6 5 [0,1,6,7,8,9] a Z<|Ti 3 Z fun R a=>TJ U8<|Tn [0,1,6,8,31] a Z<|G.cd (fun g=>?_) fun g=>?_
 ·have hs:(bj z.natAbs).length<=17/\(bj b).length<=17:=by simpa using g
  have h1:=BY hs.1;have h2:=qC hs.2;rw [aK hs.1,aK hs.2];refine TD [0,1,2,3,4,5,6,7] [] Z kr_ fun R J a=>Tm 2 Z<|Uy (z / (b:Int)) U6 om_ (oX d) (wrap_i64 om_ om_) U2<|Tm 2 Z<|Uq 0 U6 om_ ⟨(Int.tmod_eq_zero_of_dvd f),Z,Z⟩<|C6 2 [6,8,10,11] a Z<|Th 2 [6,8,10,11,39] Z<|G.cd (fun h=>?_) fun h=>?_
  ·exfalso;simp at h
  refine Ti 1 Z fun R a=>Tw (lB _ c (z / (b:Int)) om_ om_) U7 fl_<|Tk U6<|Tw (FC _ c 0 om_) U7 fl_<|C6 2 [4,5] a Z<|Tu (G.dropAll (TM U3 ?_));exact ⟨Z,Z⟩
 refine Ti 1 Z fun R a=>Tt (fD _ z) U7<|C6 5 [1,12,13] a Z<|Ti 1 Z fun R a=>Tt (oG _ b) U7<|C6 5 [12,13,14,15] a Z<|Ti 1 Z fun R a=>TT (nF _ z.natAbs m) U7 (fun K _ _ p=>?_);obtain ⟨lp,q,r,L,s⟩:=p;refine Tk U6<|TT (nF _ b n) U7 (fun M _ _ t=>?_);obtain ⟨u,v,w,N,x⟩:=t;refine TO (Bg _ _ _ lp u s.m_ x.m_ q.1 v om_ om_ om_) U7 fl_ (fun O _ _ y=>?_);obtain ⟨u1,Q,rfl,i,e⟩:=y;rw [r,w] at i e;rw [o] at e;obtain ⟨l1,A,B,S,D⟩:=PieC.take i (by have:=QL z.natAbs b;omega);obtain ⟨l2,j,E,T,k⟩:=PieC.take e om_;obtain ⟨A2,c2,rfl,_⟩:=id k;obtain rfl:=(BV j).1 E;refine C6 5 [12,14,15,16,17] a Z<|Ti 5 Z fun R a=>TJ U8<|Tn [12,14,15,16,17,78] a Z<|G.cd (fun l=>?_) fun l=>?_
 ·exfalso;simp at l
 refine Ti 4 Z fun R a=>Tw (FW _ c.m_ _ _ l1 D.m_ A.1 om_) U7 fl_<|Tk U6<|Tw (tZ _ c.m_ _ [] k.m_ j.1 am) U7 fl_<|C6 2 [4,5] a Z<|Tu (G.dropAll (TM U3 ?_));refine ⟨?_,Z⟩;show Value.tuple #[af (txt (sgZ (decide (z<0) != false) (bK l1))),_]=_;rw [B,NQ z d];rfl
theorem Bp (h:(txt z).length<=9):z.natAbs<1000000000:=by
 have h1:=zw h
 rwa [e9] at h1
theorem ED (C:Mem)(k:Tabs C)(z w:Int)(A:(txt z).length<=9)(B:(txt w).length<=9)(S:w≠0):Gives cx.P 164 [af (txt z),af (txt w)] C (af (qtx (kQ z w))):=by
 have T:=Bp A;have U:=Bp B;obtain ⟨n,i⟩:∃ y,(if w<0 then -z else z)=y:=⟨_,rfl⟩;obtain ⟨d,D⟩:∃ d,w.natAbs=d:=⟨_,rfl⟩;have r:0<d:=by omega
 have E:n.natAbs<1000000000:=by rw [<- i];split <;> omega
 unfold kQ;rw [i,D];obtain ⟨g,b⟩:∃ g,Nat.gcd n.natAbs d=g:=⟨_,rfl⟩;have F:0<g:=by rw [<- b];exact Sg _ r
 have s:g ∣ n.natAbs:=by rw [<- b];exact Sw _ _
 have H:g ∣ d:=by rw [<- b];exact SI _ _
 have V:g<=d:=Tb r H;have I:(n / (g:Int)).natAbs<=n.natAbs:=by
  rw [RM (Sc.1 (Rv.2 s)),Qs];exact QL _ _
 have t:=QL d g;rw [AU om_,b];refine Tr func164 55 U3 fun w0=>Th 1 [0,1] Z<|Ti 1 Z fun R a=>Tw (zt Tryz.atoi z om_ _ kr_) U7 fl_<|C6 5 [1,5] a Z<|Ti 1 Z fun R a=>Tw (zt Tryz.atoi w om_ _ kr_) U7 fl_<|C6 5 [5,7] a Z<|Th 2 [5,7,22] Z<|G.cut (fun fr u c e=>(True)/\fr=[(5,[],.int .i64 n),(7,[],.int .i64 d)]/\c=[]) ?_ (fun fr _ W e _ f=>?_)
 ·refine G.cd (fun l=>?_) fun l=>?_
  ·have h:w<0:=by simpa using l
   rw [aK h] at i;refine Th 6 [5,7] Z ?_;rw [show IntKind.i64.wrap (0-z)=n by rw [wrap_i64 om_ om_];omega,show IntKind.i64.wrap (0-w)=(d:Int) by rw [wrap_i64 om_ om_];omega];refine Tx 0 (Mem.le.refl _) (hn_ [5,7] Z) ⟨trivial,Z,Z⟩
  have h:¬ w<0:=by simpa using l
  rw [aG h] at i;rw [show z=n by omega,show w=(d:Int) by omega];refine Tx 0 (Mem.le.refl _) (hn_ [5,7] Z) ⟨trivial,Z,Z⟩
 obtain ⟨_,rfl,rfl⟩:=f;refine Th 4 [5,7,9,10] Z<|Th 2 [5,7,9,10,30] Z<|G.cut (fun fr u c e=>(True)/\fr=[(5,[],.int .i64 n),(7,[],.int .i64 d),(9,[],.int .i64 (n.natAbs:Nat)),(10,[],.int .i64 d)]/\c=[]) ?_ (fun fr _ X e _ f=>?_)
 ·refine G.cd (fun o=>?_) fun o=>?_
  ·have h:n<0:=by simpa using o
   refine Th 3 [5,7,9,10] Z ?_;rw [show IntKind.i64.wrap (0-n)=((n.natAbs:Nat):Int) by rw [wrap_i64 om_ om_];omega];refine Tx 0 (Mem.le.refl _) (hn_ [5,7,9,10] Z) ⟨trivial,Z,Z⟩
  have h:¬ n<0:=by simpa using o
  refine Tx 0 (Mem.le.refl _) (hn_ [5,7,9,10] Z) ⟨trivial,by rw [show ((n.natAbs:Nat):Int)=n by omega],Z⟩
 obtain ⟨_,rfl,rfl⟩:=f;refine G.loop (fun fr u c e=>∃ (x y:Int),(x.natAbs<9000000000000000000/\0<=x/\0<=y/\y.natAbs<9000000000000000000/\Nat.gcd x.natAbs y.natAbs=g)/\fr=[(5,[],.int .i64 n),(7,[],.int .i64 d),(9,[],.int .i64 x),(10,[],.int .i64 y)]/\c=[]/\e=y.natAbs+1) (hn_ [5,7,9,10] Z) ⟨(n.natAbs:Int),d,⟨by omega,by omega,by omega,by omega,by rw [Qs,Qs];exact b⟩,Z,Z,Z⟩ (fun fr Y aa m J f=>?_);obtain ⟨x,y,⟨ab,K,L,M,v⟩,rfl,rfl,rfl⟩:=f;refine Th 2 [5,7,9,10,34] Z<|G.cd (fun p=>?_) fun p=>?_
 ·have q:y≠0:=by simpa using p
  have N:(x.tmod y).natAbs=x.natAbs % y.natAbs:=Sk x y;have ac:=Qj x.natAbs (show 0<y.natAbs by omega);have O:=Int.tmod_nonneg y K;refine TD [0,1,2,3,4,5] [] Z kr_ fun R Q a=>Tm 3 Z<|Uq (x.tmod y) U6 q U3<|C6 2 [5,7,9,10] a Z<|Tv (m':=(x.tmod y).natAbs+1) om_ J (hn_ [5,7,9,10] Z) ⟨y,x.tmod y,⟨M,L,O,by omega,by rw [N,<- v,RR x.natAbs,S8 y.natAbs x.natAbs,RR]⟩,Z,Z,Z⟩
 have q:y=0:=by simpa using p
 subst q;rw [show (0:Int).natAbs=0 from rfl,Sj] at v;obtain rfl:x=(g:Int):=by omega
 refine TD [0,1,2,3,4,5,6,7] [] Z kr_ fun R Q a=>Tm 2 Z<|Uy (n / (g:Int)) U6 om_ (oX s) (wrap_i64 om_ om_) U2<|Tm 2 Z<|Ur (d) (g) U6 F (.inl ⟨Z,by omega⟩) U2<|C6 2 [5,7] a Z<|Th 2 [5,7,46] Z<|G.cd (fun j=>?_) fun j=>?_
 ·have h1:d / g=1:=by
   have h2:(((d / g:Nat):Int))=1:=by simpa using j
   omega
  refine Ti 1 Z fun R a=>Tw (iZ _ k.m_ _ om_ om_) U7 fl_<|C6 1 [4] a Z<|Tp U2<|⟨?_,Z⟩;rw [h1,lX rfl];simp [eJ]
 have h1:d / g≠1:=by
  intro h2;rw [h2] at j;exact absurd j dc_
 have ad:=my (n / (g:Int));have ae:=my ((d / g:Nat):Int);have ag:(bj (n / (g:Int)).natAbs).length<=20:=eH (QA I (RT E dc_)) dc_;have ah:(bj ((d / g:Nat):Int).natAbs).length<=20:=eH (by rw [Qs];exact QA t (RT (show d<1000000000 by omega) dc_)) dc_;refine Ti 1 Z fun R a=>Tw (iZ _ k.m_ _ om_ om_) U7 fl_<|Ul U6 (fun _=>(by simp only [PW,Qf];omega)) U2<|Tk U6<|Tw (iZ _ k.m_ ((d / g:Nat):Int) (Tf dc_ (Int.natCast_nonneg _)) (Tf (Int.ofNat_le.2 t) om_)) U7 fl_<|Ul U6 (fun _=>(by simp only [PM,PW,Qf];omega)) U2<|C6 1 [4] a Z<|Tp U2<|⟨?_,Z⟩;rw [eY h1,de,Qb];rfl
theorem Ht (h:z.natAbs<m)(g:Nat)(a:g ∣ z.natAbs):(z / (g:Int)).natAbs<m:=by
 rw [RM (Sc.1 (Rv.2 a)),Qs];exact QA (QL _ _) h
theorem Jm (C:Mem)(a:Tabs C)(y:Int)(d:Nat)(b:y.natAbs<BP ^ 200)(c:d<BP ^ 200):Gives cx.P 167 [af (txt y),af (bj d)] C (af (bj (Nat.gcd y.natAbs d))):=by
 have h:=Dn C a y (d:Nat) b om_
 rwa [de,Qs] at h
theorem yN (C:Mem)(e:Tabs C)(z w:Int)(j:z.natAbs<BP ^ 200)(n:w.natAbs<BP ^ 200)(o:w≠0):Gives cx.P 105 [af (txt z),af (txt w)] C (af (qtx (kQ z w))):=by
 have B:=gC j;have D:=gC n;obtain ⟨y,hy⟩:∃ y,(if w<0 then -z else z)=y:=⟨_,rfl⟩;obtain ⟨d,p⟩:∃ d,w.natAbs=d:=⟨_,rfl⟩;have q:d≠0:=by omega
 have r:y.natAbs=z.natAbs:=by rw [<- hy];split <;> omega
 obtain ⟨g,b⟩:∃ g,Nat.gcd y.natAbs d=g:=⟨_,rfl⟩;have k:0<g:=by rw [<- b];exact Sg _ om_
 have s:g ∣ d:=by rw [<- b];exact SI _ _
 have l:g ∣ y.natAbs:=by rw [<- b];exact Sw _ _
 have E:g<=d:=Tb om_ s;refine Tr func105 46 U3 fun w0=>Th 1 [0,1] Z<|Ti 7 Z fun R a=>TJ U8<|Tn [0,1,13] a Z<|G.cd (fun m=>?_) fun m=>?_
 ·have h:(txt z).length<=9/\(txt w).length<=9:=by
   have h1:=(PR _ _ ▸ m:_/\_);have h2:((txt z).length:Int)<=9:=aY h1.1;have h3:((txt w).length:Int)<=9:=aY h1.2;omega
  exact Ti 2 Z fun R a=>Tt (ED _ e.m_ z w h.1 h.2 o) U7<|C6 1 [4] a Z<|Tp U2<|⟨Z,Z⟩
 refine Ti 1 Z fun R a=>Tt (yj _ w) U7<|C6 1 [0,1,19] a Z<|G.cut (fun fr F t u=>(True)/\fr=[(0,[],af (txt y)),(1,[],af (bj d))]/\t=[]) ?_ (fun fr _ H u _ v=>?_)
 ·refine G.cd (fun f=>?_) fun f=>?_
  ·have i:w<0:=by
    have h:=aY f;refine P5 fun h2=>?_;rw [aG h2] at h;revert h;split <;> decide
   rw [aK i] at hy;refine Ti 1 Z fun R a=>Tw (rN _ z om_) U7 fl_<|Tk U6<|Tw (rN _ w om_) U7 fl_<|C6 2 [0,1] a Z<|Tx 0 (Mem.le.refl _) (hn_ [0,1] Z) ⟨trivial,by rw [hy,show -w=((d:Nat):Int) by omega,de],Z⟩
  have i:¬ w<0:=by
   intro h2;have h:=PJ f;rw [aK h2] at h;exact h dc_
  rw [aG i] at hy;refine Tx 0 (Mem.le.refl _) (hn_ [0,1] Z) ⟨trivial,by rw [hy,show w=((d:Nat):Int) by omega,de],Z⟩
 obtain ⟨_,rfl,rfl⟩:=v;unfold kQ;rw [hy,p,AU q,b];have x:=Ht (z:=y) (by rw [r];exact j) g l;have I:=gC x;have A:d / g<BP ^ 200:=QA (QL _ _) om_;have J:=gC A;have K:=my (y / (g:Int));refine Ti 2 Z fun R a=>Tw (Jm _ e.m_ y d om_ om_) U7 fl_<|C6 1 [0,1,5] a Z ?_;rw [b];refine Ti 2 Z fun R a=>Tw (xh _ e.m_ y g om_ om_ k l) U7 fl_<|C6 4 [0,1,5] a Z<|Ti 2 Z fun R a=>Tw (lU _ e.m_ d g om_ om_ k) U7 fl_<|C6 4 [0,1] a Z<|Th 2 [0,1,40] Z<|G.cd (fun c=>?_) fun c=>?_
 ·have h1:d / g=1:=by rw [sw] at c;exact aY c
  refine Th 2 [4] Z<|Tp U2<|⟨?_,Z⟩;rw [lX h1];simp [eJ]
 have h1:d / g≠1:=by rw [sw] at c;exact PJ c
 refine Ti 1 Z fun R a=>Ul U6 (fun _=>(by simp only [PW,Qf];omega)) U2<|Tk U6<|Ul U6 (fun _=>(by simp only [PM,PW,Qf];omega)) U2<|C6 1 [4] a Z<|Tp U2<|⟨?_,Z⟩;rw [eY h1,Qb];rfl
theorem Oj (C:Mem)(a:Tabs C)(z w:Int)(d:z.natAbs<9000000000000000000)(e:w.natAbs<9000000000000000000)(b:w≠0):Gives cx.P 47 [.int .i64 z,.int .i64 w] C (af (qtx (kQ z w))):=by
 have f:9000000000000000000<BP ^ 200:=by decide +kernel
 exact Tr func47 10 U3 fun w0=>Th 1 [0,1] Z<|Ti 1 Z fun R c=>Tw (lB _ a.m_ z om_ om_) U7 fl_<|Tk U6<|Tw (lB _ a.m_ w om_ om_) U7 fl_<|Tw (yN _ a.m_ z w om_ om_ b) U7 fl_<|C6 1 [4] c Z<|Tp U2<|⟨Z,Z⟩
theorem tW (C:Mem)(q:Rat)(g:(qtx q).length<=1000000):Gives cx.P 20 [af (qtx q)] C (af (qtx (-q))):=by
 have h:=wb q;refine Tr func20 13 U3 fun w0=>Th 1 [0] Z<|Th 2 [0,4] Z<|G.cd (fun h4=>?_) fun h4=>?_
 ·have h0:q=0:=by rw [fh] at h4;exact aY h4
  refine Th 2 [2] Z<|Tp U2<|⟨?_,Z⟩;rw [h0,Rat.neg_zero]
 have h0:q≠0:=by rw [fh] at h4;exact PJ h4
 obtain ⟨c,r,f,e⟩:=nN q;refine Ti 1 Z fun R a=>Uh U8 (fun _=>⟨by omega,by rw [f];rfl⟩) U2<|C6 1 [0,8] a Z<|G.cd (fun b=>?_) fun b=>?_
 ·have d:q.num<0:=by rw [e] at b;exact aY b
  refine Ti 1 Z fun R a=>Un 1 (qtx q).length U9 (fun _=>⟨.inr ⟨_,Z⟩,.inl ⟨Z,Z⟩,.inl ⟨Z,Z⟩,by omega,PE _,PE _⟩) U2<|C6 1 [2] a Z<|Tp U2<|⟨?_,Z⟩;rw [PT,ko d];rfl
 have d:¬ q.num<0:=by rw [e] at b;exact PJ b
 refine Ti 1 Z fun R a=>Ul U6 (fun _=>(by simp only [PW,Qf];omega)) U2<|C6 1 [2] a Z<|Tp U2<|⟨?_,Z⟩;rw [eS d h0];rfl
end Go.Proofs.YtfjcldheldflbaaGreatDoor
