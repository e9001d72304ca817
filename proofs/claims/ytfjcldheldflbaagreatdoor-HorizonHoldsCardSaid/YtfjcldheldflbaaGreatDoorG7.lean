/- Laws that the proofs of this seat share, part 7. -/
import Derived.Test.YtfjcldheldflbaaGreatDoorG6
import Derived.Test.YtfjcldheldflbaaGreatDoorShelf
set_option maxHeartbeats 4000000
namespace Go.Proofs.YtfjcldheldflbaaGreatDoor
open Go.Proofs.Tryz
open Go Go.Jog
set_option maxRecDepth 100000
variable {a b:Rat}{d g i k:Nat}{l:List Nat}{m n:Nat}{q:Rat}{s:Str}{w z:Int}
theorem cj (h:n<B9 ^ k)(a:0<k):(bk n).length<=9*k:=dQ (by rw[Ml];exact h) om_
theorem Bd (h:(txt z).length<=m):z.natAbs<10 ^ m:=by
 have h1:(bk z.natAbs).length<=m:=by
  unfold txt at h;split at h
  ·simp at h;omega
  exact h
 obtain⟨h2,h3⟩:=bl z.natAbs;have h4:=dt h2.1;rw[h3]at h4;exact Sq h4 (RM dc_ h1)
theorem e18:(10:Nat) ^ 18=1000000000000000000:=by decide
theorem e9:(10:Nat) ^ 9=1000000000:=by decide
theorem ul {a b:Nat}(c:a<B9 ^ k)(d:b<B9 ^ k):a+b<B9 ^ (k+1):=by
 rw[SF];have:B9 ^ k*2<=B9 ^ k*B9:=SN _ dc_;omega
theorem Om (C:Mem)(l:Tabs C)(z w:Int)(k:Nat)(v:0<k)(hk:k<=40000)(f:z.natAbs<B9 ^ k)(g:w.natAbs<B9 ^ k):Gives cx.P 158 [ae (txt z),ae (txt w)] C (ae (txt (z+w))):=by
 have aa:=cj f v;have ab:=cj g v;refine Vi func158 62 U3 fun w0=>U1 1 [0,1] U<|Va 1 U fun R a=>Vl (jV _ z 18 (Ro _)) U7<|C6 5 [0,1,5,6] a U<|U1 1 [0,1,5,16] U<|G.cut (fun fr m o p=>(True)/\fr=[(0,[],ae (txt z)),(1,[],ae (txt w))]/\o=[]) ?_ (fun fr _ ac p _ q=>?_)
 ·refine G.cd (fun x=>?_) fun x=>?_
  ·have y:=QL x;rw[aM y];have L:=Bd y;rw[e18]at L;refine Va 1 U fun R a=>Vl (jV _ w 18 (Ro _)) U7<|C6 5 [0,1,5,7,8] a U<|U1 1 [0,1,5,7,22] U<|G.cd (fun A=>?_) fun A=>?_
   ·have B:=QL A;rw[aM B];have M:=Bd B;rw[e18]at M;exact Va 2 U fun R a=>Vh _ U U6<|Vm (tf _ l.m_ (z+w) om_ om_) U7 fl_<|C6 1 [4] a U<|Vg U2<|⟨U,U⟩
   refine Vp 0 l_ (hn_ [0,1] U) ⟨trivial,U,U⟩
  refine Vp 0 l_ (hn_ [0,1] U) ⟨trivial,U,U⟩
 obtain⟨_,rfl,rfl⟩:=q;refine Va 1 U fun R a=>VC (jm _ z om_) U7 fl_ fun ad _ _ N=>Vc U6<|VC (jm _ w om_) U7 fl_ fun ah _ _ O=>Vt U5 fun D=>Vt U5 (fun E=>?_);obtain⟨pz,rfl,d⟩:=N;obtain⟨pw,rfl,e⟩:=O;obtain⟨Az,mz,cz,rfl⟩:=d.form;obtain⟨Aw,mw,cw,rfl⟩:=e.form;refine Vk (j:=1) U12<|Vk (j:=1) U12<|Vf [9,10] a U<|Va 1 U fun R a=>Vj af U9<|Vc U6<|Vj ag U9<|C6 1 [9,10,35] a U<|G.cd (fun r=>?_) fun r=>?_
 ·have i:decide (z<0)=decide (w<0):=by simpa using r
  refine Vv [0,1,2,3,4,5,6,7,8,9] [(8,1)] U kr_ fun R Q a=>Vc U6<|Vj af U9<|Vc U6<|Vj af U9<|Vc U6<|Vj ag U9<|VC (Mm (k:=k) _ d.m_ e.m_ f g om_) U7 fl_ (fun ai _ _ F=>?_);obtain⟨S,T,V,rfl⟩:=F.form;exact Vu [.bool (decide (z<0)),_] U8<|Vx (fun _=>(ko _ l.m_ _ _ _ F (dG (k:=100000) (n:=k+1) (ul f g) om_))) U9<|C6 1 [4] a U<|Vg U2<|⟨by rw[F8 i],U⟩
 have i:decide (z<0)≠decide (w<0):=by simpa using r
 refine Va 1 U fun R a=>Vj af U9<|Vc U6<|Vj ag U9<|Vl (qD _ d.m_ e.m_) U7<|C6 1 [9,10,50] a U<|G.cut (fun fr m o p=>∃ (b c:Int)(s t:Value),(NineC m s b.natAbs/\NineC m t c.natAbs/\c.natAbs<=b.natAbs/\b+c=z+w/\decide (b<0)≠decide (c<0)/\b.natAbs<B9 ^ k)/\fr=[(9,[],p_ D),(10,[],p_ E)]/\o=[.obj E (.cells ⟨[.bool (decide (c<0)),t]⟩ 273 (0,0)),.obj D (.cells ⟨[.bool (decide (b<0)),s]⟩ 273 (0,0))]) ?_ (fun fr _ aj p _ q=>?_)
 ·refine G.cd (fun u=>?_) fun u=>?_
  ·have H:z.natAbs<w.natAbs:=by
    have:jW z.natAbs w.natAbs<0:=by simpa using u
    exact jl.1 this
   refine Vd fun R a=>Vj ag U9<|Vj af U9<|Vk (j:=1) U12<|Vk (j:=1) U12<|Vf [9,10] a U<|Vp 0 mup (hn_ [9,10] U) ⟨w,z,_,_,⟨e.mono mup,d.mono mup,by omega,Int.add_comm w z,Ne.symm i,g⟩,U,U⟩
  have H:w.natAbs<=z.natAbs:=by
   have h:¬ jW z.natAbs w.natAbs<0:=by simpa using u
   rw[jl]at h;omega
  refine Vp 0 mup (hn_ [9,10] U) ⟨z,w,_,_,⟨d.mono mup,e.mono mup,H,U,i,f⟩,U,U⟩
 obtain⟨b ,c ,s ,t,⟨I,J,W,X,Y,Z⟩,rfl,rfl⟩:=q;obtain⟨ak,al,am,rfl⟩:=I.form;obtain⟨an,ao,ap,rfl⟩:=J.form;refine Vv [0,1,2,3,4,5,6,7,8,9] [(8,1)] U kr_ fun R Q a=>Vc U6<|Vj af U9<|Vc U6<|Vj af U9<|Vc U6<|Vj ag U9<|VC (uS (k:=k) _ I.m_ J.m_ Z W om_) U7 fl_ (fun aq _ _ K=>?_);obtain⟨S,T,V,rfl⟩:=K.form;exact Vu [.bool (decide (b<0)),_] U8<|Vx (fun _=>(ko _ l.m_ _ _ _ K (dG (k:=100000) (n:=k) om_ om_))) U9<|C6 1 [4] a U<|Vg U2<|⟨by rw[F9 Y om_,X],U⟩
theorem Ga (z w:Int):sgZ (decide (z<0) != decide (w<0)) (z.natAbs*w.natAbs)=z*w:=by
 unfold sgZ;have h1:z=if z<0 then -(z.natAbs:Int) else (z.natAbs:Int):=by split <;> omega
 have h2:w=if w<0 then -(w.natAbs:Int) else (w.natAbs:Int):=by split <;> omega
 by_cases a:z<0 <;> by_cases b:w<0
 ·rw[RJ a,RJ b,aF dc_];rw[aM a]at h1;rw[aM b]at h2;rw[RW]
  conv=>rhs;rw[h1,h2]
  rw[Int.neg_mul_neg]
 ·rw[RJ a,RU b,aM dc_];rw[aM a]at h1;rw[aF b]at h2;rw[RW]
  conv=>rhs;rw[h1,h2]
  rw[Int.neg_mul]
 ·rw[RU a,RJ b,aM dc_];rw[aF a]at h1;rw[aM b]at h2;rw[RW]
  conv=>rhs;rw[h1,h2]
  rw[Int.mul_neg]
 rw[RU a,RU b,aF dc_];rw[aF a]at h1;rw[aF b]at h2;rw[RW]
 conv=>rhs;rw[h1,h2]
theorem oQ {a b:Nat}(c:a<B9 ^ k)(d:b<B9 ^ k):a*b<B9 ^ (k+k):=by
 rw[TD];exact SQ c d
theorem Ct (a:z.natAbs<1000000000)(b:w.natAbs<1000000000):-1000000000000000000<z*w/\z*w<1000000000000000000:=by
 have h:z.natAbs*w.natAbs<=999999999*999999999:=SJ om_ om_;rw[<- SK]at h;omega
theorem li (C:Mem)(d:Tabs C)(z w:Int)(k:Nat)(e:0<k)(x:k<=40000)(b:z.natAbs<B9 ^ k)(c:w.natAbs<B9 ^ k):Gives cx.P 124 [ae (txt z),ae (txt w)] C (ae (txt (z*w))):=by
 have y:=cj b e;have A:=cj c e;refine Vi func124 43 U3 fun w0=>U1 1 [0,1] U<|Va 1 U fun R a=>Vm (jV _ z 9 om_) U7 fl_<|C6 5 [0,1,5,6] a U<|U1 1 [0,1,5,16] U<|G.cut (fun fr B r s=>(True)/\fr=[(0,[],ae (txt z)),(1,[],ae (txt w))]/\r=[]) ?_ (fun fr _ D s _ t=>?_)
 ·refine G.cd (fun f=>?_) fun f=>?_
  ·have g:=QL f;rw[aM g];have h:=Bd g;rw[e9]at h;refine Va 1 U fun R a=>Vm (jV _ w 9 om_) U7 fl_<|C6 5 [0,1,5,7,8] a U<|U1 1 [0,1,5,7,22] U<|G.cd (fun i=>?_) fun i=>?_
   ·have l:=QL i;rw[aM l];have m:=Bd l;rw[e9]at m;have E:=Ct h m;exact Va 2 U fun R a=>VI ((z*w)) U4 om_ om_ om_ U2<|Vm (tf _ d.m_ (z*w) om_ om_) U7 fl_<|C6 1 [4] a U<|Vg U2<|⟨U,U⟩
   refine Vp 0 l_ (hn_ [0,1] U) ⟨trivial,U,U⟩
  refine Vp 0 l_ (hn_ [0,1] U) ⟨trivial,U,U⟩
 obtain⟨_,rfl,rfl⟩:=t;refine Va 1 U fun R a=>VC (jm _ z om_) U7 fl_ fun F _ _ u=>Vc U6<|VC (jm _ w om_) U7 fl_ fun H _ _ v=>Vt U5 fun I=>Vt U5 (fun J=>?_);obtain⟨K,rfl,o⟩:=u;obtain⟨L,rfl,p⟩:=v;obtain⟨M,N,O,rfl⟩:=o.form;obtain⟨Q,S,T,rfl⟩:=p.form;refine Vk (j:=1) U12<|Vk (j:=1) U12<|Vf [9,10] a U<|Vv [0,1,2,3,4,5,6,7,8,9,10,11,12] [(11,1)] U kr_ fun R V a=>Vc U6<|Vj af U9<|Vc U6<|Vj ag U9<|Ve 2 U<|Vj af U9<|Vc U6<|Vj ag U9<|VC (FK (k:=k) _ o.m_ p.m_ b c om_) U7 fl_ (fun W _ _ q=>?_);obtain⟨X,Y,Z,rfl⟩:=q.form;exact Vu [.bool (decide (z<0) != decide (w<0)),_] U8<|Vx (fun _=>(ko _ d.m_ _ _ _ q (dG (k:=100000) (n:=k+k) (oQ b c) om_))) U9<|C6 1 [4] a U<|Vg U2<|⟨by rw[Ga],U⟩
def Ic (z w:Int):Nat:=if z<0/\z.natAbs % w.natAbs≠0 then z.natAbs / w.natAbs+1 else z.natAbs / w.natAbs
def Dd (z w:Int):Nat:=if z<0/\z.natAbs % w.natAbs≠0 then w.natAbs-z.natAbs % w.natAbs else z.natAbs % w.natAbs
theorem Ib (i:0<w):sgZ (decide (z<0) != decide (w<0)) (Ic z w)=z / w/\(Dd z w:Int)=z % w:=by
 obtain⟨n,rfl⟩:∃ n:Nat,w=n:=⟨w.natAbs,by omega⟩;have f:0<n:=by omega
 rw[RU (by omega:¬ ((n:Nat):Int)<0),Bool.bne_false];have h1:=Us z.natAbs n;have h2:=R9 z.natAbs f;obtain⟨q,d⟩:∃ q,z.natAbs / n=q:=⟨_,rfl⟩;obtain⟨r,hr⟩:∃ r,z.natAbs % n=r:=⟨_,rfl⟩;have g:sgZ (decide (z<0)) (Ic z n)=z / n/\(Dd z n:Int)=z % n:=by
  have h3:=(Int.ediv_emod_unique (a:=z) (r:=(Dd z n:Int)) (q:=sgZ (decide (z<0)) (Ic z n)) (by omega:(0:Int)<(n:Int))).2;have h4:(Dd z n:Int)+(n:Int)*sgZ (decide (z<0)) (Ic z n)=z/\0<=(Dd z n:Int)/\(Dd z n:Int)<(n:Int):=by
   unfold Ic Dd sgZ;simp only[R7];rw[d,hr];rw[hr,d]at h1;rw[hr]at h2;have h5:((r+n*q:Nat):Int)=(z.natAbs:Int):=by rw[h1]
   rw[T6,RW]at h5;by_cases b:z<0
   ·rw[RJ b,aM rfl];by_cases c:r=0
    ·subst c;rw[aF ak,aF ak];rw[Int.mul_neg];omega
    rw[aM ⟨b,c⟩,aM ⟨b,c⟩];rw[Int.mul_neg,T6,UB];omega
   rw[RU b,aF (fun h:z<0/\r≠0=>b h.1),aF (fun h:z<0/\r≠0=>b h.1),aF dc_];omega
  have e:=h3 h4;exact⟨e.1.symm,e.2.symm⟩
 exact g
theorem tk (C:Mem)(u:Tabs C)(z w:Int)(k:Nat)(f:0<k)(hk:k<=40000)(g:z.natAbs<B9 ^ k)(i:w.natAbs<B9 ^ k)(v:0<w):Gives cx.P 187 [ae (txt z),ae (txt w)] C (.tuple #[ae (txt (z / w)),ae (txt (z % w)),i_ 0]):=by
 have aj:=cj g f;have ak:=cj i f;have l:0<w.natAbs:=by omega
 refine Vi func187 50 U3 fun w0=>U1 3 [0,1] U<|U1 2 [0,1,12] U<|G.cd (fun m=>?_) fun m=>?_
 ·have h:=kG w;rw[h]at m;have:w=0:=QL m;omega
 refine Va 1 U fun R a=>VC (jm _ z om_) U7 fl_ fun al _ _ K=>Vc U6<|VC (jm _ w om_) U7 fl_ fun am _ _ L=>Vt U5 fun y=>Vt U5 (fun A=>?_);obtain⟨pz,rfl,B⟩:=K;obtain⟨pw,rfl,o⟩:=L;obtain⟨M,N,O,rfl⟩:=B.form;obtain⟨Q,S,T,rfl⟩:=o.form;refine Vk (j:=1) U12<|Vk (j:=1) U12<|Vf [7,8] a U<|Va 1 U fun R a=>Vj af U9<|Vc U6<|Vj ag U9<|VC (yA _ _ _ _ _ B.m_ o.m_ (dG (k:=100000) (n:=k) g om_) l) U7 fl_ (fun an _ _ V=>?_);obtain⟨vq,vr,rfl,D,p⟩:=V;refine C6 5 [7,8,9,10] a U ?_;obtain⟨b,W,X,Y⟩:=id p;obtain⟨Ar,cr,E,_⟩:=id Y;rw[au]at E;subst E;have F:b.length=0 ↔ z.natAbs % w.natAbs=0:=by
  rw[<- X,Dt W];exact Uy
 refine Va 1 U fun R a=>Vj af U9<|Ve 4 U<|Vz U8<|Vf [7,8,9,10,31] a U<|G.cut (fun fr H Z μ=>∃ (q r:Value),(NineC H q (Ic z w)/\NineC H r (Dd z w))/\fr=[(7,[],p_ y),(8,[],p_ A),(9,[],q),(10,[],r)]/\Z=[.obj A (.cells ⟨[.bool (decide (w<0)),.slice Q S T]⟩ 273 (0,0)),.obj y (.cells ⟨[.bool (decide (z<0)),.slice M N O]⟩ 273 (0,0))]) ?_ (fun fr _ ao μ _ hI=>?_)
 ·refine G.cd (fun d=>?_) fun d=>?_
  ·have c:z<0/\z.natAbs % w.natAbs≠0:=by
    have h:decide (z<0)=true/\0<b.length:=by simpa using d
    exact⟨QL h.1,fun e=>by have:=F.2 e;omega⟩
   have s:Ic z w=z.natAbs / w.natAbs+1:=aM c;have t:Dd z w=w.natAbs-z.natAbs % w.natAbs:=aM c;have aa:z.natAbs / w.natAbs<B9 ^ k:=Sk (Sv _ _) g;refine Vv [0,3,4,5,1,2,6,7,8] [] U kr_ fun R hB a=>Ve 2 U<|Vj ag U9<|Vc U6<|Vy [cP 1] U12 fun ap _ _ ab=>VC (Mm (k:=k) _ D.m_ (⟨[1],⟨(fun x hx=>(by rw[RK.1 hx];decide)),by simp⟩,U,ab.mono mup⟩:NineC _ _ 1) aa (Sq (by decide:1<B9 ^ 1) (RM dc_ f)) om_) U7 fl_ fun aq _ _ ac=>VC (uS (k:=k) _ o.m_ p.m_ i (U0 (R9 _ l)) om_) U7 fl_ fun ar _ _ ad=>Ve 2 U<|Vf [7,8,9,10] a U ?_;clear a hB R;refine Vp 0 mup (hn_ [7,8,9,10] U) ⟨_,_,⟨by rw[s];exact ac.mono mup,by rw[t];exact ad.mono mup⟩,U,U⟩
  have c:¬ (z<0/\z.natAbs % w.natAbs≠0):=fun h=>by
   have h2:0<b.length:=by
    rcases Sz b.length with h3|h3
    ·exact absurd (F.1 h3) h.2
    exact h3
   have h3:(decide (z<0) && decide ((0:Int)<(b.length:Int)))=true:=by
    rw[RJ h.1,RJ om_];rfl
   rw[h3]at d;cases d
  have s:Ic z w=z.natAbs / w.natAbs:=aF c;have t:Dd z w=z.natAbs % w.natAbs:=aF c;refine Vp 0 mup (hn_ [7,8,9,10] U) ⟨_,_,⟨by rw[s];exact D.mono mup,by rw[t];exact p.mono mup⟩,U,U⟩
 obtain⟨q ,r,⟨I,J⟩,rfl,rfl⟩:=hI;obtain⟨A9,m9,c9,rfl⟩:=I.form;obtain⟨av,aw,ax,rfl⟩:=J.form;have ah:Ic z w<B9 ^ 100000:=by
  have h1:z.natAbs / w.natAbs<=z.natAbs:=Sv _ _;have h2:Ic z w<=z.natAbs+1:=by unfold Ic;split <;> omega
  have h3:B9 ^ k*2<=B9 ^ (k+1):=by rw[SF];exact SN _ dc_
  have h4:z.natAbs+1<B9 ^ (k+1):=by have:=T1 (n:=k) (show 0<B9 by decide);omega
  exact dG (k:=100000) (n:=k+1) (Sk h2 h4) om_
 have ai:Dd z w<B9 ^ 100000:=by
  have h1:=R9 z.natAbs l;have h2:Dd z w<=w.natAbs:=by unfold Dd;split <;> omega
  exact dG (k:=100000) (n:=k) (Sk h2 i) om_
 refine Va 1 U fun R a=>Vj af U9<|Vc U6<|Vj ag U9<|Ve 2 U<|Vu [.bool (decide (z<0) != decide (w<0)),_] U8<|Vl (ko _ u.m_ _ _ _ I.m_ ah) U7<|Vc U6<|Vu [.bool false,_] U8<|Vl (ko _ u.m_ _ _ _ J.m_ ai) U7<|C6 3 [4,5,6] a U<|Vo (G.dropAll (V2 U4 ?_));refine⟨?_,U⟩;rw[(Ib v).1,show sgZ false (Dd z w)=z % w from(Ib v).2]
theorem Lu (a:zg l)(b:bC l=n):0<l.length ↔ 0<n:=by
 have h:=Dt a;rw[b]at h;have h2:l.length=0 ↔ n=0:=by rw[h];exact Uy
 omega
theorem HE (C:Mem)(s:Tabs C)(z w:Int)(k:Nat)(t:0<k)(hk:k<=40000)(u:z.natAbs<B9 ^ k)(v:w.natAbs<B9 ^ k):Gives cx.P 162 [ae (txt z),ae (txt w)] C (ae (txt (Nat.gcd z.natAbs w.natAbs:Nat))):=by
 have ac:=cj u t;have ad:=cj v t;refine Vi func162 56 U3 fun w0=>U1 1 [0,1] U<|Va 1 U fun R a=>Vl (jV _ z 18 (Ro _)) U7<|C6 5 [0,1,5,6] a U<|U1 1 [0,1,5,18] U<|G.cut (fun fr g d e=>(True)/\fr=[(0,[],ae (txt z)),(1,[],ae (txt w))]/\d=[]) ?_ (fun fr _ af e _ f=>?_)
 ·refine G.cd (fun A=>?_) fun A=>?_
  ·have B:=QL A;rw[aM B];have E:=Bd B;rw[e18]at E;refine Va 1 U fun R a=>Vl (jV _ w 18 (Ro _)) U7<|C6 5 [0,1,5,7,8] a U<|U1 1 [0,1,5,7,24] U<|G.cd (fun F=>?_) fun F=>?_
   ·have H:=QL F;rw[aM H];have I:=Bd H;rw[e18]at I;refine G.loop (fun fr g d e=>∃ (x y:Int),(x.natAbs<1000000000000000000/\y.natAbs<1000000000000000000/\Nat.gcd x.natAbs y.natAbs=Nat.gcd z.natAbs w.natAbs)/\fr=[(5,[],i_ x),(7,[],i_ y)]/\d=[]/\e=y.natAbs+1) (hn_ [5,7] U) ⟨z,w,⟨E,I,U⟩,U,U,U⟩ (fun fr ag ah m L f=>?_);obtain⟨x,y,⟨ai,M,c⟩,rfl,rfl,rfl⟩:=f;refine U1 2 [5,7,26] U<|G.cd (fun j=>?_) fun j=>?_
    ·have b:y≠0:=by simpa using j
     have N:(x.tmod y).natAbs=x.natAbs % y.natAbs:=T8 x y;have O:=R9 x.natAbs (show 0<y.natAbs by omega);refine Vv [0,1,2,3,4,5] [] U kr_ fun R hB a=>Ve 3 U<|V6 (x.tmod y) U6 b U3<|C6 2 [5,7] a U<|Vn (m':=(x.tmod y).natAbs+1) om_ L (hn_ [5,7] U) ⟨y,x.tmod y,⟨M,by omega,by rw[N,<- c,Tx x.natAbs,UC y.natAbs x.natAbs,Tx]⟩,U,U,U⟩
    have b:y=0:=by simpa using j
    subst b;rw[show(0:Int).natAbs=0 from rfl,T2]at c;refine Va 3 U fun R a=>?_;have aj:IntKind.i64.wrap (0-x)=0-x:=wrap_i64 om_ om_;exact D.max ((x.natAbs:Int)) U6 om_ U2<|Vm (tf _ s.m_ (x.natAbs:Int) om_ om_) U7 fl_<|C6 1 [4] a U<|Vg U2<|⟨by rw[c],U⟩
   refine Vp 0 l_ (hn_ [0,1] U) ⟨trivial,U,U⟩
  refine Vp 0 l_ (hn_ [0,1] U) ⟨trivial,U,U⟩
 obtain⟨_,rfl,rfl⟩:=f;refine Va 1 U fun R a=>VC (jm _ z om_) U7 fl_ (fun ak _ _ Q=>?_);obtain⟨pz,rfl,S⟩:=Q;refine Wg U12<|Vc U6<|VC (jm _ w om_) U7 fl_ (fun al _ _ T=>?_);obtain⟨pw,rfl,V⟩:=T;refine Wg U12<|C6 2 [9,10] a U<|G.loop (fun fr g d e=>∃ (x y:Nat)(o p:Value),(NineC g o x/\NineC g p y/\x<B9 ^ k/\y<B9 ^ k/\Nat.gcd x y=Nat.gcd z.natAbs w.natAbs)/\fr=[(9,[],o),(10,[],p)]/\d=[]/\e=y+1) (hn_ [9,10] U) ⟨_,_,_,_,⟨S.mono mup,V.mono mup,u,v,U⟩,U,U,U⟩ (fun fr am an m _ f=>?_);obtain⟨x,y,o,p,⟨q,i,J,K,c⟩,rfl,rfl,rfl⟩:=f;obtain⟨l,W,X,Y⟩:=id i;obtain⟨ao,ap,rfl,_⟩:=id Y;rw[au]at i⊢;have Z:=Lu W X;refine U1 3 [9,10,44] U<|G.cd (fun r=>?_) fun r=>?_
 ·have b:0<y:=Z.1 (by simpa using r);have O:=R9 x b;refine Va 2 U fun R a=>VC (yA _ _ _ _ _ q.m_ i.m_ (dG (k:=100000) (n:=k) J om_) b) U7 fl_ (fun aq _ _ aa=>?_);obtain⟨vq,vr,rfl,ar,ab⟩:=aa;refine C6 5 [10,12] a U<|U1 4 [9,10] U<|Vn (m':=x % y+1) om_ mup (hn_ [9,10] U) ⟨y,x % y,_,_,⟨i.mono mup,ab.mono mup,K,Ty (R9 _ b) K,by rw[<- c,Tx x,UC y x,Tx]⟩,U,U,U⟩
 have b:y=0:=by
  have h:¬ 0<l.length:=by simpa using r
  omega
 subst b;rw[T2]at c;obtain⟨A9,m9,c9,rfl⟩:=q.form;exact Va 1 U fun R a=>Vu [.bool false,_] U8<|Vm (ko _ s.m_ _ _ _ q.m_ (dG (k:=100000) (n:=k) J om_)) U7 fl_<|C6 1 [4] a U<|Vg U2<|⟨by rw[c];rfl,U⟩
def sL (sg:Bool)(A:Str)(B:Option Str):Value :=
 if MB A B then .tuple #[.int .i64 (sgZ sg (bP A)),.int .i64 (Qp B),.bool true] else .tuple #[.int .i64 0,.int .i64 0,.bool false]
theorem Ec (C:Mem)(d:Bool)(A:Str)(B:Option Str)(q:∀ c∈A,dT c=true)(V:A≠[])(W:∀ b,B=some b->∀ c∈b,dT c=true)(X:(Ej d++A++dh B).length<=1000000) :
  Gives cx.P 120 [ae (Ej d++A++dh B)] C (sL d A B):=by
 obtain⟨s,hs⟩:∃ s,Ej d++A++dh B=s:=⟨_,rfl⟩;obtain⟨p,t⟩:∃ p,(Ej d).length=p:=⟨_,rfl⟩;have g:p=if d then 1 else 0:=by rw[<- t];cases d <;> rfl
 have u:∀ j c,A[j]?=some c->s[p+j]?=some c:=fun j c h=>by rw[<- hs,<- t];exact GE _ _ _ h
 have O:∀ j,s[p+A.length+j]?=(dh B)[j]?:=fun j=>by rw[<- hs,<- t];exact Cv _ _ _ _
 have y:s.length=p+A.length+(dh B).length:=by rw[<- hs,<- t,Ru,Ru]
 have Y:0<A.length:=Sc.2 V;rw[hs]at X⊢;refine Vi func120 73 U3 fun w0=>U1 3 [0,2,3] U<|U1 2 [0,2,3,5,6] U<|Va 5 U fun R a=>VN (b:=s.getD 0 0) U8 (fun _=>⟨by omega,(by rw[am,show(0:Int).toNat=0 from rfl];obtain⟨c,f⟩:∃ c,s[0]?=some c:=⟨s[0]'om_,ai om_⟩;rw[f];rfl)⟩) U2<|Vc U6<|Vz U8<|Vf [0,2,3,5,6,15] a U<|G.cut (fun fr z i k=>(True)/\fr=[(0,[],ae s),(2,[],i_ 0),(3,[],i_ 0),(5,[],i_ p),(6,[],.bool d)]/\i=[]) ?_ (fun fr _ af k _ l=>?_)
 ·refine G.cd (fun v=>?_) fun v=>?_
  ·have n:d=true:=by
    cases d with
   |true=>rfl
   |false =>
     exfalso;rw[aF dc_]at g;subst g;obtain⟨c,f⟩:∃ c,A[0]?=some c:=⟨A[0],ai Y⟩;have h1:=u 0 c f;have h2:=q c (aU f);rw[S7]at h1;rw[am,h1]at v;unfold dT at h2;simp at v h2;omega
   subst n;rw[aM rfl]at g;subst g;refine U1 2 [0,2,3,5,6] U<|Vp 0 l_ (hn_ [0,2,3,5,6] U) ⟨trivial,U,U⟩
  have n:d=false:=by
   cases d with
  |false=>rfl
  |true =>
    exfalso;have h1:s[0]?=some 45:=by rw[<- hs];rfl
    rw[aM rfl]at g;have h2:(decide ((0:Int)<((s.length:Nat):Int)) && decide ((((s.getD 0 0).toNat:Nat):Int)=45))=false:=by simpa using v
    rw[am,h1,RJ om_]at h2;exact absurd h2 dc_
  subst n;rw[aF dc_]at g;subst g;refine Vp 0 l_ (hn_ [0,2,3,5,6] U) ⟨trivial,U,U⟩
 obtain⟨_,rfl,rfl⟩:=l;refine U1 2 [0,2,3,5,6,7] U<|G.loop (fun fr z i k=>∃ (j:Nat),(j<=A.length/\j<=9)/\fr=[(0,[],ae s),(2,[],i_ ((bP (A.take j):Nat):Int)),(3,[],i_ 0),(5,[],i_ ((p+j:Nat):Int)),(6,[],.bool d),(7,[],i_ p)]/\i=[]/\k=A.length-j+1) (hn_ [0,2,3,5,6,7] U) ⟨0,⟨by omega,by omega⟩,U,U,U⟩ (fun fr ag ah m Z l=>?_);obtain⟨j,⟨hj,w⟩,rfl,rfl,rfl⟩:=l;obtain⟨c,f⟩:∃ c,p+j<s.length->s[p+j]?=some c:=⟨s.getD (p+j) 0,fun h=>by rw[am,ai h];rfl⟩;refine Va 7 U fun R a=>VN (b:=c) U8 (fun hg=>⟨by omega,f (by have h:decide (((p+j:Nat):Int)<((s.length:Nat):Int))=true:=hg.1;have h2:=QL h;omega)⟩) U2<|Vc U6<|Vz U8<|Vf [0,2,3,5,6,7,26] a U<|G.cd (fun x=>?_) fun x=>?_
 ·have E:p+j<s.length/\c.toNat≠47:=by
   simp at x;omega
  have F:j<A.length:=by
   rcases RS j A.length with h|h
   ·exact h
   exfalso;obtain rfl:j=A.length:=by omega
   have h1:=f E.1;have h2:=O 0;rw[S7,h1]at h2;cases B with
  |none=>simp[dh]at h2
  |some b =>
    simp[dh]at h2;subst h2;exact E.2 U
  obtain⟨e,o⟩:∃ c,A[j]?=some c:=⟨A[j],ai F⟩;obtain rfl:e=c:=by
   have h1:=f E.1;rw[u j e o]at h1;exact Sx h1
  have Q:48<=e.toNat/\e.toNat<=57:=by simpa [dT] using q e (aU o)
  have hV:=mQ q w;refine Va 2 U fun R a=>Vh _ U U6<|C6 1 [0,2,3,5,6,7,32] a U<|G.cd (fun H=>?_) fun H=>?_
  ·have r:¬ A.length<=9:=by
    have:((p+j:Nat):Int)-p=9:=by simpa using H
    omega
   refine U1 3 [2,3,4] U<|Vo (G.dropAll (V2 U4 ?_));refine⟨?_,U⟩;unfold sL MB;rw[RU r,Bool.false_and,aF dc_]
  have r:j≠9:=by
   have:¬ ((p+j:Nat):Int)-p=9:=by simpa using H
   omega
  refine Va 1 U fun R a=>Vh _ U U6<|Ve 2 U<|VN U8 (fun _=>⟨by omega,u j _ o⟩) U2<|D.int (((e.toNat:Nat):Int)-48) U4 (by rw[IntKind.wrap_u8];omega) U2<|VO (c:=((e.toNat:Nat):Int)-48) U8 f_ fl_<|Vh _ U U6<|C6 1 [0,2,3,5,6,7] a U<|Va 1 U fun R a=>Vh _ U U6<|C6 1 [0,2,3,5,6,7] a U ?_;rw[show 10*((bP (A.take j):Nat):Int)+(((e.toNat:Nat):Int)-48)=((bP (A.take (j+1)):Nat):Int) by rw[oY o];omega];refine Vn (m':=A.length-(j+1)+1) om_ Z (hn_ [0,2,3,5,6,7] U) ⟨j+1,⟨by omega,by omega⟩,U,U,U⟩
 have F:j=A.length:=by
  rcases RS j A.length with h|h
  ·exfalso;obtain⟨e,o⟩:∃ c,A[j]?=some c:=⟨A[j],ai h⟩;have h1:=f om_;rw[u j e o]at h1;obtain rfl:=Sx h1;have Q:48<=e.toNat/\e.toNat<=57:=by simpa [dT] using q e (aU o)
   simp at x;have:=x om_;omega
  omega
 subst F;rw[Rz];refine U1 1 [0,2,3,5,41] U<|G.cut (fun fr z i k=>(True)/\fr=[(0,[],ae s),(2,[],i_ (sgZ d (bP A))),(3,[],i_ 0),(5,[],i_ ((p+A.length:Nat):Int))]/\i=[]) ?_ (fun fr _ aj k _ l=>?_)
 ·refine G.cd (fun I=>?_) fun I=>?_
  ·have n:d=true:=I;subst n;have aa:=mQ q w;rw[Rz]at aa;refine U1 3 [0,2,3,5] U ?_;rw[show IntKind.i64.wrap (0-((bP A:Nat):Int))=sgZ true (bP A) by rw[wrap_i64 om_ om_];unfold sgZ;rw[aM rfl];omega];refine Vp 0 l_ (hn_ [0,2,3,5] U) ⟨trivial,U,U⟩
  have n:d=false:=by simpa using I
  subst n;refine Vp 0 l_ (hn_ [0,2,3,5] U) ⟨trivial,U,U⟩
 obtain⟨_,rfl,rfl⟩:=l;refine U1 4 [0,2,3,5,47] U<|G.cd (fun J=>?_) fun J=>?_
 ·have ab:B=none:=by
   cases B with
  |none=>rfl
  |some b =>
    exfalso;have:p+A.length=s.length:=by simp at J;omega
    rw[y]at this;simp[dh]at this
  subst ab;refine U1 4 [2,3,4] U<|Vo (G.dropAll (V2 U4 ?_));refine⟨?_,U⟩;unfold sL MB;rw[RJ w];rfl
 obtain⟨b,rfl⟩:∃ b,B=some b:=by
  cases B with
 |some b=>exact⟨b,rfl⟩
 |none =>
   exfalso;simp[y,dh]at J
 have S:=W b rfl;have ak:s.length=p+A.length+1+b.length:=by rw[y];simp[dh];omega
 refine Va 1 U fun R a=>Vh _ U U6<|C6 1 [0,2,3,5,7] a U<|Va 1 U fun R a=>Vh _ U U6<|C6 1 [0,2,3,5,7] a U<|G.loop (fun fr z i k=>∃ (j:Nat),(j<=b.length/\j<=9)/\fr=[(0,[],ae s),(2,[],i_ (sgZ d (bP A))),(3,[],i_ ((bP (b.take j):Nat):Int)),(5,[],i_ ((p+A.length+1+j:Nat):Int)),(7,[],i_ ((p+A.length+1:Nat):Int))]/\i=[]/\k=b.length-j+1) (hn_ [0,2,3,5,7] U) ⟨0,⟨by omega,by omega⟩,U,U,U⟩ (fun fr al an m ac l=>?_);obtain⟨j,⟨hk,T⟩,rfl,rfl,rfl⟩:=l;refine U1 4 [0,2,3,5,7,56] U<|G.cd (fun K=>?_) fun K=>?_
 ·have L:j<b.length:=by
   have:p+A.length+1+j<s.length:=by simp at K;omega
   omega
  obtain⟨c,M⟩:∃ c,b[j]?=some c:=⟨b[j],ai L⟩;have ad:s[p+A.length+1+j]?=some c:=by rw[TF,O,TB 1 j];exact M
  have Q:48<=c.toNat/\c.toNat<=57:=by simpa [dT] using S c (aU M)
  have hV:=mQ S T;refine Va 2 U fun R a=>Vh _ U U6<|C6 1 [0,2,3,5,7,62] a U<|G.cd (fun N=>?_) fun N=>?_
  ·have r:¬ b.length<=9:=by
    have:((p+A.length+1+j:Nat):Int)-((p+A.length+1:Nat):Int)=9:=by simpa using N
    omega
   refine U1 3 [2,3,4] U<|Vo (G.dropAll (V2 U4 ?_));refine⟨?_,U⟩;unfold sL MB;rw[show(some b).getD []=b from rfl,RU r,Bool.and_false,aF dc_]
  have r:j≠9:=by
   have:¬ ((p+A.length+1+j:Nat):Int)-((p+A.length+1:Nat):Int)=9:=by simpa using N
   omega
  refine Va 1 U fun R a=>Vh _ U U6<|Ve 2 U<|VN U8 (fun _=>⟨by omega,ad⟩) U2<|D.int (((c.toNat:Nat):Int)-48) U4 (by rw[IntKind.wrap_u8];omega) U2<|VO (c:=((c.toNat:Nat):Int)-48) U8 f_ fl_<|Vh _ U U6<|C6 1 [0,2,3,5,7] a U<|Va 1 U fun R a=>Vh _ U U6<|C6 1 [0,2,3,5,7] a U ?_;rw[show 10*((bP (b.take j):Nat):Int)+(((c.toNat:Nat):Int)-48)=((bP (b.take (j+1)):Nat):Int) by rw[oY M];omega];refine Vn (m':=b.length-(j+1)+1) om_ ac (hn_ [0,2,3,5,7] U) ⟨j+1,⟨by omega,by omega⟩,U,U,U⟩
 have L:j=b.length:=by
  have:¬ p+A.length+1+j<s.length:=by simp at K;omega
  omega
 subst L;rw[Rz];refine U1 5 [2,3,4] U<|Vo (G.dropAll (V2 U4 ?_));refine⟨?_,U⟩;unfold sL MB;rw[show(some b).getD []=b from rfl,RJ w,RJ T];rfl
theorem lX {n:Int}(a:g ∣ n.natAbs):n.tdiv (g:Int)=n / (g:Int):=Int.tdiv_eq_ediv_of_dvd (T0.1 (Ta.2 a))
theorem xp {n:Int}(a:d≠0):qtx (mkRat n d)=txt (n / ((Nat.gcd n.natAbs d:Nat):Int))++dh (mP (d / Nat.gcd n.natAbs d)):=by
 rw[qe,(uR n a).1,(uR n a).2]
theorem xd (C:Mem)(e:Tabs C)(n:Int)(d:Nat)(o:0<d)(p:n.natAbs<9000000000000000000)(t:d<9000000000000000000):Gives cx.P 121 [i_ n,i_ d] C (ae (qtx (mkRat n d))):=by
 obtain⟨g,b⟩:∃ g,Nat.gcd n.natAbs d=g:=⟨_,rfl⟩;have u:0<g:=by rw[<- b];exact TR _ o
 have q:g ∣ n.natAbs:=by rw[<- b];exact Ue _ _
 have v:g ∣ d:=by rw[<- b];exact Ui _ _
 have H:g<=d:=UE o v;rw[xp om_,b];refine Vi func121 35 U3 fun w0=>U1 1 [0,1] U<|U1 4 [0,1,5,6] U<|G.loop (fun fr w f h=>∃ (x y:Int),(x.natAbs<9000000000000000000/\y.natAbs<9000000000000000000/\Nat.gcd x.natAbs y.natAbs=g)/\fr=[(0,[],i_ n),(1,[],i_ d),(5,[],i_ x),(6,[],i_ y)]/\f=[]/\h=y.natAbs+1) (hn_ [0,1,5,6] U) ⟨n,d,⟨p,by omega,by rw[R7];exact b⟩,U,U,U⟩ (fun fr I J m z i=>?_);obtain⟨x,y,⟨K,A,r⟩,rfl,rfl,rfl⟩:=i;refine U1 2 [0,1,5,6,10] U<|G.cd (fun j=>?_) fun j=>?_
 ·have k:y≠0:=by simpa using j
  have B:(x.tmod y).natAbs=x.natAbs % y.natAbs:=T8 x y;have L:=R9 x.natAbs (show 0<y.natAbs by omega);refine Vv [0,1,2,3,4,5] [] U kr_ fun R D a=>Ve 3 U<|V6 (x.tmod y) U6 k U3<|C6 2 [0,1,5,6] a U<|Vn (m':=(x.tmod y).natAbs+1) om_ z (hn_ [0,1,5,6] U) ⟨y,x.tmod y,⟨A,by omega,by rw[B,<- r,Tx x.natAbs,UC y.natAbs x.natAbs,Tx]⟩,U,U,U⟩
 have k:y=0:=by simpa using j
 subst k;rw[show(0:Int).natAbs=0 from rfl,T2]at r;refine U1 2 [0,1,5,16] U<|G.cut (fun fr w f h=>(True)/\fr=[(0,[],i_ n),(1,[],i_ d),(5,[],i_ g)]/\f=[]) ?_ (fun fr _ M h _ i=>?_)
 ·refine G.cd (fun l=>?_) fun l=>?_
  ·have E:x<0:=by simpa using l
   refine U1 3 [0,1,5] U ?_;rw[show IntKind.i64.wrap (0-x)=(g:Int) by rw[wrap_i64 om_ om_];omega];refine Vp 0 l_ (hn_ [0,1,5] U) ⟨trivial,U,U⟩
  have E:¬ x<0:=by simpa using l
  rw[show x=(g:Int) by omega];refine Vp 0 l_ (hn_ [0,1,5] U) ⟨trivial,U,U⟩
 obtain⟨_,rfl,rfl⟩:=i;have F:(n / (g:Int)).natAbs<=n.natAbs:=by
  rw[Tv (T0.1 (Ta.2 q)),R7];exact Sv _ _
 have s:=Sv d g;refine Vv [0,1,2,3,4,5,6,7] [] U kr_ fun R D a=>Ve 2 U<|Wc (n / (g:Int)) U6 om_ (lX q) (wrap_i64 om_ om_) U2<|Ve 2 U<|V7 (d) (g) U6 u (.inl ⟨U,by omega⟩) U2<|C6 2 [0,1] a U<|U1 2 [0,1,26] U<|G.cd (fun c=>?_) fun c=>?_
 ·have h1:d / g=1:=by
   have h2:(((d / g:Nat):Int))=1:=by simpa using c
   omega
  refine Va 1 U fun R a=>Vm (fT _ e.m_ _ om_ om_) U7 fl_<|C6 1 [4] a U<|Vg U2<|⟨?_,U⟩;rw[h1,kh rfl];simp[dh]
 have h1:d / g≠1:=by
  intro h2;rw[h2]at c;exact absurd c dc_
 have N:=iY (n / (g:Int));have O:=iY ((d / g:Nat):Int);have Q:(bk (n / (g:Int)).natAbs).length<=20:=dQ (Sk F (Ty p dc_)) dc_;have S:(bk ((d / g:Nat):Int).natAbs).length<=20:=dQ (by rw[R7];exact Sk s (Ty t dc_)) dc_;refine Va 1 U fun R a=>Vm (fT _ e.m_ _ om_ om_) U7 fl_<|VX U6 (fun _=>(by simp only[RH,R5];omega)) U2<|Vc U6<|Vm (fT _ e.m_ ((d / g:Nat):Int) (Uw dc_ (UV _)) (Uw (Int.ofNat_le.2 s) om_)) U7 fl_<|VX U6 (fun _=>(by simp only[Ru,RH,R5];omega)) U2<|C6 1 [4] a U<|Vg U2<|⟨?_,U⟩;rw[eM h1,cW,R0];rfl
theorem Hz (C:Mem)(z:Int)(d:Nat)(k:Nat)(b:0<k)(g:k<=40000)(c:z.natAbs<B9 ^ k)(e:d<B9 ^ k):Gives cx.P 134 [ae (txt z),ae (bk d)] C (ae (txt z++dh (mP d))):=by
 have h:(txt z).length<=9*k+1:=by
  have:=cj c b;unfold txt;split
  ·simp;omega
  omega
 have i:=cj e b;refine Vi func134 12 U3 fun w0=>U1 1 [0,1] U<|U1 2 [0,1,6] U<|G.cd (fun a=>?_) fun a=>?_
 ·have h1:d=1:=by rw[ru]at a;exact QL a
  refine U1 2 [4] U<|Vg U2<|⟨?_,U⟩;rw[kh h1];simp[dh]
 have h1:d≠1:=by rw[ru]at a;exact Rt a
 refine Va 1 U fun R f=>VX U6 (fun _=>(by simp only[RH,R5];omega)) U2<|Vc U6<|VX U6 (fun _=>(by simp only[Ru,RH,R5];omega)) U2<|C6 1 [4] f U<|Vg U2<|⟨?_,U⟩;rw[eM h1,R0];rfl
theorem Gg (C:Mem)(s:Str)(c:s.length<1000000):Gives cx.P 122 [ae s] C (.tuple #[ae (iS 47 s).1,ae ((iS 47 s).2.getD [49])]):=by
 refine Vi func122 18 U3 fun w0=>U1 2 [0] U<|Va 1 U fun R d=>Vl (MK _ s 47 c) U7<|C6 7 [4,5,6] d U<|U1 2 [4,5,14] U<|G.cd (fun a=>?_) fun a=>?_
 ·have h1:(iS 47 s).2=none:=by
   cases h:(iS 47 s).2 with
  |none=>rfl
  |some b=>rw[h]at a;simp at a
  refine U1 3 [2,3] U<|Vo (G.dropAll (VA U3 ?_));refine⟨?_,U⟩;rw[h1];rfl
 obtain⟨b,h1⟩:∃ b,(iS 47 s).2=some b:=by
  cases h:(iS 47 s).2 with
 |some b=>exact⟨b,rfl⟩
 |none=>rw[h]at a;simp at a
 refine U1 4 [2,3] U<|Vo (G.dropAll (VA U3 ?_));refine⟨?_,U⟩;rw[h1];rfl
theorem Dk {c:UInt8}:∀ {a:Str}(b:Str),c ∉ a->iS c (a++c::b)=(a,some b)
|[],b,_=>by simp[iS]
|x::a,b,h=>by
  have d:x≠c:=fun e=>h (e ▸ Rq);have hr:=Dk (c:=c) (a:=a) b (fun h2=>h (RB _ h2));simp only[Tg,iS,aF d,hr]
theorem yF {c:UInt8}:∀ {a:Str},c ∉ a->iS c a=(a,none)
|[],_=>rfl
|x::a,h=>by
  have b:x≠c:=fun e=>h (e ▸ Rq);have hr:=yF (c:=c) (a:=a) (fun h2=>h (RB _ h2));simp only[iS,aF b,hr]
theorem wS (h:∀ c∈s,dT c=true):(47:UInt8) ∉ s:=fun h2=>absurd (h 47 h2) dc_
theorem wR (z:Int):(47:UInt8) ∉ txt z:=by
 unfold txt;split
 ·intro h;rcases RC.1 h with h|h
  ·cases h
  exact wS (iE _) h
 exact wS (iE _)
theorem mS (q:Rat):iS 47 (qtx q)=(txt q.num,mP q.den):=by
 rw[qe];unfold mP;split
 ·rw[show dh none=[] from rfl,RQ];exact yF (wR _)
 exact Dk _ (wR _)
theorem one_dec:bk 1=[49]:=by rw[bk];rfl
theorem AH (d:Nat):(mP d).getD [49]=bk d:=by
 unfold mP;split
 ·rename_i h;subst h;exact one_dec.symm
 rfl
theorem NT (C:Mem)(q:Rat)(a:(qtx q).length<1000000):Gives cx.P 122 [ae (qtx q)] C (.tuple #[ae (txt q.num),ae (bk q.den)]):=by
 have h:=Gg C (qtx q) a
 rwa [mS,AH]at h
def lC (z w:Int):Rat:=mkRat (if w<0 then -z else z) w.natAbs
theorem qO (C:Mem)(f:Tabs C)(z w:Int)(k:Nat)(b:0<k)(e:k<=40000)(p:z.natAbs<B9 ^ k)(q:w.natAbs<B9 ^ k)(x:w≠0):Gives cx.P 123 [ae (txt z),ae (txt w)] C (ae (qtx (lC z w))):=by
 have A:=cj p b;have B:=cj q b;obtain⟨y,hy⟩:∃ y,(if w<0 then -z else z)=y:=⟨_,rfl⟩;obtain⟨d,r⟩:∃ d,w.natAbs=d:=⟨_,rfl⟩;have s:d≠0:=by omega
 have D:y.natAbs=z.natAbs:=by rw[<- hy];split <;> omega
 obtain⟨g,c⟩:∃ g,Nat.gcd y.natAbs d=g:=⟨_,rfl⟩;have E:0<g:=by rw[<- c];exact TR _ om_
 have t:g ∣ d:=by rw[<- c];exact Ui _ _
 have F:g<=d:=UE om_ t;unfold lC;rw[hy,r,xp s,c];refine Vi func123 35 U3 fun w0=>U1 1 [0,1] U<|Va 1 U fun R a=>Vl (my _ w) U7<|C6 1 [0,1,8] a U<|G.cut (fun fr u i j=>(True)/\fr=[(0,[],ae (txt y)),(1,[],ae (txt (d:Nat)))]/\i=[]) ?_ (fun fr _ H j _ l=>?_)
 ·refine G.cd (fun m=>?_) fun m=>?_
  ·have n:w<0:=by
    have h:eH w<0:=by simpa using m
    unfold eH at h;split at h <;> omega
   rw[aM n]at hy;refine Va 1 U fun R a=>Vm (vc _ z om_) U7 fl_<|Vc U6<|Vm (vc _ w om_) U7 fl_<|C6 2 [0,1] a U<|Vp 0 l_ (hn_ [0,1] U) ⟨trivial,by rw[hy,show -w=((d:Nat):Int) by omega],U⟩
  have n:¬ w<0:=by
   intro h2;have h:¬ eH w<0:=by simpa using m
   unfold eH at h;split at h <;> omega
  rw[aF n]at hy;refine Vp 0 l_ (hn_ [0,1] U) ⟨trivial,by rw[hy,show w=((d:Nat):Int) by omega],U⟩
 obtain⟨_,rfl,rfl⟩:=l;refine Va 2 U fun R a=>Vm (HE _ f.m_ y (d:Nat) k b e om_ om_) U7 fl_<|C6 1 [0,1,5] a U ?_;rw[R7,c];refine U1 2 [0,1,5,17] U<|G.cut (fun fr u i j=>(True)/\fr=[(0,[],ae (txt (y / (g:Nat)))),(1,[],ae (txt ((d / g:Nat):Int)))]/\i=[]) ?_ (fun fr _ I j _ l=>?_)
 ·refine G.cd (fun o=>?_) fun o=>?_
  ·refine Va 2 U fun R a=>Vm (tk _ f.m_ y (g:Nat) k b e om_ om_ om_) U7 fl_<|C6 5 [0,1,5] a U<|Va 2 U fun R a=>Vm (tk _ f.m_ (d:Nat) (g:Nat) k b e om_ om_ om_) U7 fl_<|C6 5 [0,1] a U<|Vp 0 l_ (hn_ [0,1] U) ⟨trivial,by rw[Int.natCast_ediv],U⟩
  have v:g=1:=by
   rw[cW,ru]at o;simpa using o
  refine Vp 0 l_ (hn_ [0,1] U) ⟨trivial,by rw[v,Nat.div_one,Int.natCast_one,Int.ediv_one],U⟩
 obtain⟨_,rfl,rfl⟩:=l;rw[cW];exact Va 2 U fun R a=>Vm (Hz _ (y / (g:Nat)) (d / g) k b e (by rw[Tv (T0.1 (Ta.2 (by rw[<- c];exact Ue _ _))),R7];exact Sk (Sv _ _) om_) (Sk (Sv _ _) om_)) U7 fl_<|C6 1 [4] a U<|Vg U2<|⟨U,U⟩
theorem OH {a b:Nat}(h:bk a=bk b):a=b:=by rw[<- (bl a).2,h,(bl b).2]
theorem Pr (h:txt z=txt w):z=w:=by
 have h1:=dK z;rw[h,dK w]at h1;have h2:=OH (UD h1).1;have h3:decide (w<0)=decide (z<0):=(UD h1).2;by_cases a:w<0
 ·rw[RJ a]at h3;have:=QL h3.symm;omega
 rw[RU a]at h3;have:=Rt h3.symm;omega
theorem jg (h:qtx a=qtx b):a=b:=by
 have h1:=mS a;rw[h,mS b]at h1;have h2:=Pr (UD h1).1;have h3:=congrArg Qp (UD h1).2;rw[mO,mO]at h3;exact Rat.ext h2.symm h3.symm
theorem NH (a b:Rat):((⟨(qtx a).toArray⟩:ByteArray).data.toList == (⟨(qtx b).toArray⟩:ByteArray).data.toList)=decide (a=b):=by
 show(qtx a == qtx b)=_;rw[UR,S8,Ry];exact⟨jg,fun h=>by rw[h]⟩
theorem qtx_zero:qtx 0=[48]:=by
 rw[show(0:Rat)=((0:Int):Rat) from rfl,nD];unfold txt;rw[aF om_,show bk (0:Int).natAbs=bk 0 from rfl,bk];rfl
theorem dF:qtx 1=[49]:=by
 rw[show(1:Rat)=((1:Int):Rat) from rfl,nD];exact one_val.symm
theorem eP (a:Rat):((⟨(qtx a).toArray⟩:ByteArray).data.toList == (⟨#[48]⟩:ByteArray).data.toList)=decide (a=0):=by
 have h:=NH a 0
 rwa [qtx_zero]at h
theorem Mh (a:Rat):((⟨(qtx a).toArray⟩:ByteArray).data.toList == (⟨#[49]⟩:ByteArray).data.toList)=decide (a=1):=by
 have h:=NH a 1
 rwa [dF]at h
theorem sM (a:Rat):0<(qtx a).length:=by
 unfold qtx;rw[Ru,Ru];have:=Sc.2 (nR a.num.natAbs);omega
theorem bd (h:QB k q)(a:0<k):(qtx q).length<=18*k+2:=by
 unfold qtx;rw[Ru,Ru];have h1:=cj h.1 a;have h2:=cj h.2 a;have h3:(Ej (decide (q.num<0))).length<=1:=by cases decide (q.num<0) <;> simp[Ej]
 have h4:(dh (mP q.den)).length<=9*k+1:=by
  unfold mP;split
  ·simp[dh]
  simp[dh];exact h2
 omega
theorem lY (q:Rat):∃ c r,qtx q=c::r/\((((c.toNat:Nat):Int) == 45)=decide (q.num<0)):=by
 by_cases h:q.num<0
 ·refine⟨45,bk q.num.natAbs++dh (mP q.den), ?_,by rw[RJ h];decide⟩;unfold qtx;rw[RJ h];rfl
 obtain⟨c,r,a⟩:∃ c r,bk q.num.natAbs=c::r:=List.exists_cons_of_ne_nil (nR _);refine⟨c,r++dh (mP q.den), ?_, ?_⟩
 ·unfold qtx;rw[RU h,a];rfl
 have h2:=iE q.num.natAbs c (by rw[a];exact Rq);rw[RU h];unfold dT at h2;have h3:=QL h2;exact RU om_
theorem fb (h:¬ q.num<0)(a:q≠0):qtx (-q)=45::qtx q:=by
 have b:q.num≠0:=fun e=>a (T9.1 e);unfold qtx;rw[UU,Rat.neg_den,RJ om_,RU h,Ul];rfl
theorem kL (h:q.num<0):qtx q=45::qtx (-q):=by
 have h2:=fb (q:=-q) (by rw[UU];omega) (by intro e;have h3:=congrArg Rat.num e;rw[UU]at h3;have h4:(0:Rat).num=0:=rfl;omega)
 rwa [Rat.neg_neg]at h2
def Da (q:Rat):Bool:=MB (bk q.num.natAbs) (mP q.den)
theorem MA (h:(bk n).length<=9):n<1000000000:=by
 have h1:=dt (iE n);rw[(bl n).2]at h1;exact Sq h1 (RD (RM dc_ h) dc_)
theorem lu (h:Da q=true):q.num.natAbs<1000000000/\q.den<1000000000:=by
 unfold Da MB at h;rw[RG,Ry,Ry]at h;refine⟨MA h.1, ?_⟩;by_cases h1:q.den=1
 ·omega
 rw[eM h1]at h;exact MA h.2
theorem Gf (C:Mem)(q:Rat)(a:(qtx q).length<=1000000):Gives cx.P 120 [ae (qtx q)] C (if Da q then .tuple #[i_ q.num,i_ (q.den:Nat),.bool true] else .tuple #[i_ 0,i_ 0,.bool false]):=by
 have h:=Ec C (decide (q.num<0)) (bk q.num.natAbs) (mP q.den) (iE _) (nR _) (Df _) a;unfold sL at h;rw[(bl _).2,mO]at h;have e:sgZ (decide (q.num<0)) q.num.natAbs=q.num:=by
  unfold sgZ;by_cases h:q.num<0
  ·rw[RJ h,aM rfl];omega
  rw[RU h,aF dc_];omega
 rw[e]at h;exact h
theorem eK (C:Mem)(q:Rat)(g:(qtx q).length<=1000000):Gives cx.P 78 [ae (qtx q)] C (ae (qtx (-q))):=by
 have h:=sM q;refine Vi func78 13 U3 fun w0=>U1 1 [0] U<|U1 2 [0,4] U<|G.cd (fun h4=>?_) fun h4=>?_
 ·have h0:q=0:=by rw[eP]at h4;exact QL h4
  refine U1 2 [2] U<|Vg U2<|⟨?_,U⟩;rw[h0,Rat.neg_zero]
 have h0:q≠0:=by rw[eP]at h4;exact Rt h4
 obtain⟨c,r,f,e⟩:=lY q;refine Va 1 U fun R a=>VN U8 (fun _=>⟨by omega,by rw[f];rfl⟩) U2<|C6 1 [0,8] a U<|G.cd (fun b=>?_) fun b=>?_
 ·have d:q.num<0:=by rw[e]at b;exact QL b
  refine Va 1 U fun R a=>V0 1 (qtx q).length U9 (fun _=>⟨.inr ⟨_,U⟩,.inl ⟨U,U⟩,.inl ⟨U,U⟩,by omega,Ro _,Ro _⟩) U2<|C6 1 [2] a U<|Vg U2<|⟨?_,U⟩;rw[Rz,kL d];rfl
 have d:¬ q.num<0:=by rw[e]at b;exact Rt b
 refine Va 1 U fun R a=>VX U6 (fun _=>(by simp only[RH,R5];omega)) U2<|C6 1 [2] a U<|Vg U2<|⟨?_,U⟩;rw[fb d h0];rfl
theorem gm (C:Mem)(q:Rat)(j:(qtx q).length<=1000000):Gives cx.P 94 [ae (qtx q)] C (i_ (eH q.num)):=by
 obtain⟨c,r,f,d⟩:=lY q;have k:=sM q;refine Vi func94 15 U3 fun w0=>U1 1 [0] U<|U1 3 [0,3] U<|G.cd (fun h3=>?_) fun h3=>?_
 ·have h0:q=0:=by rw[eP]at h3;exact QL h3
  refine U1 1 [2] U<|Vg U2<|⟨?_,U⟩;rw[h0];rfl
 have h0:q≠0:=by rw[eP]at h3;exact Rt h3
 have g:q.num≠0:=fun e=>h0 (T9.1 e);refine Va 5 U fun R i=>VN U8 (fun _=>⟨by omega,by rw[f];rfl⟩) U2<|Vc U6<|Vz U8<|C6 1 [6] i U<|G.cd (fun a=>?_) fun a=>?_
 ·rw[d]at a;have b:q.num<0:=by
   have h:=(RG _ _ ▸ a:_/\_).2;exact QL h
  skip
  refine U1 1 [2] U<|Vg U2<|⟨?_,U⟩;unfold eH;rw[aM b]
 rw[d,RJ (show(0:Int)<((⟨(qtx q).toArray⟩:ByteArray).data.toList.length:Int) by show(0:Int)<(((qtx q).length:Nat):Int);omega),UF]at a;have b:¬ q.num<0:=Rt a;refine U1 1 [2] U<|Vg U2<|⟨?_,U⟩;unfold eH;rw[aF b,aF g]
theorem jQ (C:Mem)(q:Rat)(b:(qtx q).length<=1000000):Gives cx.P 120 [ae (qtx q)] C (.tuple #[i_ (if Da q then q.num else 0),i_ (if Da q then ((q.den:Nat):Int) else 0),.bool (Da q)]):=by
 have h:=Gf C q b;cases a:Da q with
|true=>rw[a]at h;exact h
|false=>rw[a]at h;exact h
def nU (a b:Rat):Int:=if a<b then -1 else if b<a then 1 else 0
theorem vH :nU a b=wd (a.num*b.den) (b.num*a.den):=by
 unfold nU wd;simp only[Rat.lt_iff]
theorem eY (a:Rat):0<a.den:=Tr a.den_nz
theorem jX {a:Int}(b:a.natAbs<1000000000)(c:d<1000000000):-1000000000000000000<a*(d:Int)/\a*(d:Int)<1000000000000000000:=Ct b (by rw[R7];exact c)
theorem me {a:Nat}(b:a<1000000000)(c:d<1000000000):a*d<1000000000000000000:=SQ b c
theorem kY (C:Mem)(q:Rat)(a:(qtx q).length<1000000):Gives cx.P 122 [ae (qtx q)] C (.tuple #[ae (txt q.num),ae (txt ((q.den:Nat):Int))]):=by
 have h:=NT C q a
 rwa [<- cW]at h
theorem cD (a:z.natAbs<B9 ^ k)(b:w.natAbs<B9 ^ k):(z*w).natAbs<B9 ^ (k+k):=by
 rw[SK];exact oQ a b
theorem oW (a:0<d):lC z ((d:Nat):Int)=mkRat z d:=by
 unfold lC;rw[aF om_,R7]
theorem jz (h:QB k q):((q.den:Nat):Int).natAbs<B9 ^ k:=by rw[R7];exact h.2
theorem fO (C:Mem)(m:Tabs C)(a b:Rat)(k:Nat)(f:0<k)(u:k<=20000)(d:QB k a)(e:QB k b):Gives cx.P 218 [ae (qtx a),ae (qtx b)] C (i_ (nU a b)):=by
 have v:=bd d f;have w:=bd e f;refine Vi func218 65 U3 fun w0=>U1 1 [0,1] U<|U1 3 [0,1,19] U<|G.cd (fun g=>?_) fun g=>?_
 ·have h0:a=b:=by rw[NH]at g;exact QL g
  refine U1 1 [4] U<|Vg U2<|⟨?_,U⟩;subst h0;rw[nU,aF (Rat.lt_irrefl),aF (Rat.lt_irrefl)]
 refine Va 1 U fun R c=>Vm (jQ _ a om_) U7 fl_<|C6 7 [0,1,5,6,7] c U<|U1 1 [0,1,5,6,26] U<|G.cut (fun fr x r s=>(True)/\fr=[(0,[],ae (qtx a)),(1,[],ae (qtx b))]/\r=[]) ?_ (fun fr _ y s _ t=>?_)
 ·refine G.cd (fun n=>?_) fun n=>?_
  ·have h:Da a=true:=n;rw[aM h,aM h];have o:=lu h;refine Va 1 U fun R c=>Vm (jQ _ b om_) U7 fl_<|C6 7 [0,1,5,6,8,9,10] c U<|U1 1 [0,1,5,6,8,9,33] U<|G.cd (fun p=>?_) fun p=>?_
   ·have i:Da b=true:=p;rw[aM i,aM i];have q:=lu i;have z:=jX o.1 q.2;have A:=jX q.1 o.2;refine Va 2 U fun R c=>Vh _ U U6<|Ve 2 U<|Vh _ U U6<|C6 2 [11,12] c U<|U1 4 [11,12,40] U<|G.cd (fun j=>?_) fun j=>?_
    ·have h1:=QL j;refine U1 1 [4] U<|Vg U2<|⟨?_,U⟩;rw[vH,wd,aM h1]
    have h1:=Rt j;refine U1 4 [44] U<|G.cd (fun l=>?_) fun l=>?_
    ·have h2:=QL l;refine U1 1 [4] U<|Vg U2<|⟨?_,U⟩;rw[vH,wd,aF h1,aM h2]
    have h2:=Rt l;refine U1 1 [4] U<|Vg U2<|⟨?_,U⟩;rw[vH,wd,aF h1,aF h2]
   refine Vp 0 l_ (hn_ [0,1] U) ⟨trivial,U,U⟩
  refine Vp 0 l_ (hn_ [0,1] U) ⟨trivial,U,U⟩
 obtain⟨_,rfl,rfl⟩:=t;exact Va 1 U fun R c=>Vm (kY _ a om_) U7 fl_<|C6 5 [1,13,14] c U<|Va 1 U fun R c=>Vm (kY _ b om_) U7 fl_<|C6 5 [13,14,15,16] c U<|Va 2 U fun R c=>Vm (li _ m.m_ _ _ k f om_ d.1 (jz e)) U7 fl_<|Ve 2 U<|Vm (li _ m.m_ _ _ k f om_ e.1 (jz d)) U7 fl_<|Vm (qV _ _ _ (by have:=cj (cD d.1 (jz e)) om_;omega) (by have:=cj (cD e.1 (jz d)) om_;omega)) U7 fl_<|C6 1 [4] c U<|Vg U2<|⟨by rw[vH],U⟩
theorem kV (C:Mem)(f:Tabs C)(a b:Rat)(k:Nat)(g:0<k)(w:k<=10000)(d:QB k a)(e:QB k b):Gives cx.P 101 [ae (qtx a),ae (qtx b)] C (ae (qtx (a+b))):=by
 have x:=bd d g;have y:=bd e g;have r:=eY a;have s:=eY b;have o:0<a.den*b.den:=TM r s;refine Vi func101 67 U3 fun w0=>U1 1 [0,1] U<|U1 2 [0,1,16] U<|G.cd (fun h=>?_) fun h=>?_
 ·have h0:a=0:=by rw[eP]at h;exact QL h
  refine U1 2 [4] U<|Vg U2<|⟨?_,U⟩;rw[h0,Rat.zero_add]
 refine U1 2 [0,1,19] U<|G.cd (fun i=>?_) fun i=>?_
 ·have h0:b=0:=by rw[eP]at i;exact QL i
  refine U1 2 [4] U<|Vg U2<|⟨?_,U⟩;rw[h0,Rat.add_zero]
 refine Va 1 U fun R c=>Vm (jQ _ a om_) U7 fl_<|C6 7 [0,1,5,6,7] c U<|U1 1 [0,1,5,6,27] U<|G.cut (fun fr z t u=>(True)/\fr=[(0,[],ae (qtx a)),(1,[],ae (qtx b))]/\t=[]) ?_ (fun fr _ A u _ v=>?_)
 ·refine G.cd (fun p=>?_) fun p=>?_
  ·have j:Da a=true:=p;rw[aM j,aM j];have l:=lu j;refine Va 1 U fun R c=>Vm (jQ _ b om_) U7 fl_<|C6 7 [0,1,5,6,8,9,10] c U<|U1 1 [0,1,5,6,8,9,34] U<|G.cd (fun q=>?_) fun q=>?_
   ·have m:Da b=true:=q;rw[aM m,aM m];have n:=lu m;have B:=jX l.1 n.2;have D:=jX n.1 l.2;have E:=me l.2 n.2;exact Va 2 U fun R c=>Vh _ U U6<|Ve 2 U<|Vh _ U U6<|Vh _ U U6<|Ve 2 U<|Vh (((a.den*b.den:Nat):Int)) (RW _ _).symm U6<|Vm (xd _ f.m_ _ _ o om_ om_) U7 fl_<|C6 1 [4] c U<|Vg U2<|⟨by rw[eW],U⟩
   refine Vp 0 l_ (hn_ [0,1] U) ⟨trivial,U,U⟩
  refine Vp 0 l_ (hn_ [0,1] U) ⟨trivial,U,U⟩
 obtain⟨_,rfl,rfl⟩:=v;exact Va 1 U fun R c=>Vm (kY _ a om_) U7 fl_<|C6 5 [1,11,12] c U<|Va 1 U fun R c=>Vm (kY _ b om_) U7 fl_<|C6 5 [11,12,13,14] c U<|Va 2 U fun R c=>Vm (li _ f.m_ _ _ k g om_ d.1 (jz e)) U7 fl_<|Ve 2 U<|Vm (li _ f.m_ _ _ k g om_ e.1 (jz d)) U7 fl_<|Vm (Om _ f.m_ _ _ (k+k) om_ om_ (cD d.1 (jz e)) (cD e.1 (jz d))) U7 fl_<|Ve 2 U<|Vm (li _ f.m_ _ _ k g om_ (jz d) (jz e)) U7 fl_<|Vm (qO _ f.m_ _ _ (k+k+1) om_ om_ (Sk (TT _ _) (ul (cD d.1 (jz e)) (cD e.1 (jz d)))) (dG (cD (jz d) (jz e)) om_) (by rw[<- RW];omega)) U7 fl_<|C6 1 [4] c U<|Vg U2<|⟨by rw[eW,<- RW,oW o],U⟩
theorem Qx (c:QB k a)(d:QB k b):QB (k+k+1) (a+b):=by
 rw[eW];exact gr (Nat.ne_of_gt (TM (eY a) (eY b))) (Sk (TT _ _) (ul (cD c.1 (jz d)) (cD d.1 (jz c)))) (dG (oQ c.2 d.2) om_)
theorem rN (c:QB k a)(d:QB k b):QB (k+k) (a*b):=by
 rw[eV];exact gr (Nat.ne_of_gt (TM (eY a) (eY b))) (cD c.1 d.1) (oQ c.2 d.2)
theorem eQ (b:QB k a):QB k (-a):=⟨by rw[UU,Ul];exact b.1,by rw[Rat.neg_den];exact b.2⟩
theorem kP (c:QB k a)(d:QB k b):QB (k+k+1) (a-b):=by
 rw[Ux];exact Qx c (eQ d)
theorem Dy (b:QB k a)(d:a≠0):QB k a⁻¹:=by
 have c:a.num≠0:=fun e=>d (T9.1 e);refine⟨?_, ?_⟩
 ·rw[Rat.num_inv,SK,Int.natAbs_sign_of_ne_zero c,TC,R7];exact b.2
 rw[Rat.den_inv,aF c];exact b.1
theorem jE (c:QB k a)(d:QB k b)(e:b≠0):QB (k+k) (a / b):=by
 rw[Rat.div_def];exact rN c (Dy d e)
theorem Qw (h:z.natAbs<B9 ^ k)(a:0<k):QB k (z:Rat):=⟨h,by
 show 1<B9 ^ k;exact Sq (by decide:1<B9 ^ 1) (RM dc_ a)⟩
theorem df (C:Mem)(g:Tabs C)(a b:Rat)(k:Nat)(i:0<k)(z:k<=10000)(d:QB k a)(e:QB k b):Gives cx.P 60 [ae (qtx a),ae (qtx b)] C (ae (qtx (a*b))):=by
 have A:=bd d i;have B:=bd e i;have w:=eY a;have x:=eY b;have q:0<a.den*b.den:=TM w x;refine Vi func60 66 U3 fun w0=>U1 1 [0,1] U<|U1 3 [0,1,15] U<|G.cut (fun fr y L' j=>(True)/\fr=[(0,[],ae (qtx a)),(1,[],ae (qtx b)),(15,[],.bool (decide (a=0∨b=0)))]/\L'=[]) ?_ (fun fr _ D j _ l=>?_)
 ·refine G.cd (fun f=>?_) fun f=>?_
  ·have h0:a=0:=by rw[eP]at f;exact QL f
   rw[eP,show decide (a=0)=decide (a=0∨b=0) by simp[h0]];refine Vp 0 l_ (hn_ [0,1,15] U) ⟨trivial,U,U⟩
  have h0:¬ a=0:=by rw[eP]at f;exact Rt f
  refine U1 3 [0,1,15] U ?_;rw[eP,show decide (b=0)=decide (a=0∨b=0) by simp[h0]];refine Vp 0 l_ (hn_ [0,1,15] U) ⟨trivial,U,U⟩
 obtain⟨_,rfl,rfl⟩:=l;refine G.cd (fun r=>?_) fun r=>?_
 ·have h0:=QL r;refine U1 1 [4] U<|Vg U2<|⟨?_,U⟩;rw[show a*b=0 by rcases h0 with h|h <;> simp[h],qtx_zero];rfl
 refine U1 3 [0,1,20] U<|G.cd (fun m=>?_) fun m=>?_
 ·have h1:a=1:=by rw[Mh]at m;exact QL m
  refine U1 2 [4] U<|Vg U2<|⟨?_,U⟩;rw[h1,Rat.one_mul]
 refine U1 3 [0,1,24] U<|G.cd (fun n=>?_) fun n=>?_
 ·have h1:b=1:=by rw[Mh]at n;exact QL n
  refine U1 2 [4] U<|Vg U2<|⟨?_,U⟩;rw[h1,Rat.mul_one]
 refine Va 1 U fun R c=>Vm (jQ _ a om_) U7 fl_<|C6 7 [0,1,5,6,7] c U<|U1 1 [0,1,5,6,34] U<|G.cut (fun fr y L' j=>(True)/\fr=[(0,[],ae (qtx a)),(1,[],ae (qtx b))]/\L'=[]) ?_ (fun fr _ E j _ l=>?_)
 ·refine G.cd (fun s=>?_) fun s=>?_
  ·have o:Da a=true:=s;rw[aM o,aM o];have t:=lu o;refine Va 1 U fun R c=>Vm (jQ _ b om_) U7 fl_<|C6 7 [0,1,5,6,8,9,10] c U<|U1 1 [0,1,5,6,8,9,41] U<|G.cd (fun u=>?_) fun u=>?_
   ·have p:Da b=true:=u;rw[aM p,aM p];have v:=lu p;have F:=Ct t.1 v.1;have H:=me t.2 v.2;exact Va 2 U fun R c=>Vh _ U U6<|Ve 2 U<|Vh (((a.den*b.den:Nat):Int)) (RW _ _).symm U6<|Vm (xd _ g.m_ _ _ q om_ om_) U7 fl_<|C6 1 [4] c U<|Vg U2<|⟨by rw[eV],U⟩
   refine Vp 0 l_ (hn_ [0,1] U) ⟨trivial,U,U⟩
  refine Vp 0 l_ (hn_ [0,1] U) ⟨trivial,U,U⟩
 obtain⟨_,rfl,rfl⟩:=l;exact Va 1 U fun R c=>Vm (kY _ a om_) U7 fl_<|C6 5 [1,11,12] c U<|Va 1 U fun R c=>Vm (kY _ b om_) U7 fl_<|C6 5 [11,12,13,14] c U<|Va 2 U fun R c=>Vm (li _ g.m_ _ _ k i om_ d.1 e.1) U7 fl_<|Ve 2 U<|Vm (li _ g.m_ _ _ k i om_ (jz d) (jz e)) U7 fl_<|Vm (qO _ g.m_ _ _ (k+k) om_ om_ (cD d.1 e.1) (cD (jz d) (jz e)) (by rw[<- RW];omega)) U7 fl_<|C6 1 [4] c U<|Vg U2<|⟨by rw[eV,<- RW,oW q],U⟩
theorem er (C:Mem)(e:Tabs C)(a b:Rat)(k:Nat)(c:0<k)(f:k<=10000)(g:QB k a)(d:QB k b):Gives cx.P 127 [ae (qtx a),ae (qtx b)] C (ae (qtx (a-b))):=by
 have i:=bd d c;exact Vi func127 9 U3 fun w0=>U1 1 [0,1] U<|Va 2 U fun R h=>Vm (eK _ b om_) U7 fl_<|Vl (kV _ e.m_ a (-b) k c f g (eQ d)) U7<|C6 1 [4] h U<|Vg U2<|⟨by rw[Ux],U⟩
theorem ia (C:Mem)(n:Tabs C)(a b:Rat)(k:Nat)(g:0<k)(o:k<=10000)(p:QB k a)(f:QB k b)(h:b≠0):Gives cx.P 70 [ae (qtx a),ae (qtx b)] C (.tuple #[ae (qtx (a / b)),i_ 0]):=by
 have v:=bd f g;have q:b.num≠0:=fun e=>h (T9.1 e);obtain⟨c,r,s,l⟩:=lY b;refine Vi func70 27 U3 fun w0=>U1 2 [0,1] U<|U1 2 [0,1,9] U<|G.cd (fun j=>?_) fun j=>?_
 ·exfalso;rw[eP]at j;exact h (QL j)
 refine Va 1 U fun R d=>Vm (kY _ b om_) U7 fl_<|C6 5 [0,1,6,7] d U<|Va 1 U fun R d=>VN U8 (fun _=>⟨by omega,by rw[s];rfl⟩) U2<|C6 1 [0,6,7,17] d U<|G.cut (fun fr w L' t=>(True)/\fr=[(0,[],ae (qtx a)),(6,[],ae (txt (b.num.natAbs:Nat))),(7,[],ae (txt (b⁻¹).num))]/\L'=[]) ?_ (fun fr _ x t _ u=>?_)
 ·refine G.cd (fun i=>?_) fun i=>?_
  ·have m:b.num<0:=by rw[l]at i;exact QL i
   refine Va 1 U fun R d=>Vm (vc _ b.num (by have:=cj f.1 g;omega)) U7 fl_<|Vc U6<|Vm (vc _ ((b.den:Nat):Int) (by have:=cj (jz f) g;omega)) U7 fl_<|C6 2 [0,6,7] d U ?_;rw[show -b.num=((b.num.natAbs:Nat):Int) by omega,show -((b.den:Nat):Int)=(b⁻¹).num by rw[Rat.num_inv,Int.sign_eq_neg_one_of_neg m,Int.neg_one_mul]];refine Vp 0 l_ (hn_ [0,6,7] U) ⟨trivial,U,U⟩
  have m:¬ b.num<0:=by rw[l]at i;exact Rt i
  rw[show b.num=((b.num.natAbs:Nat):Int) by omega,show((b.den:Nat):Int)=(b⁻¹).num by rw[Rat.num_inv,Int.sign_eq_one_of_pos om_,Int.one_mul]];refine Vp 0 l_ (hn_ [0,6,7] U) ⟨trivial,U,U⟩
 obtain⟨_,rfl,rfl⟩:=u;rw[cW,show b.num.natAbs=(b⁻¹).den by rw[Rat.den_inv,aF q]];refine Va 3 U fun R d=>Vm (Hz _ _ _ k g om_ (Dy f h).1 (Dy f h).2) U7 fl_ ?_;rw[<- qe b⁻¹];refine Vl (df _ n.m_ a b⁻¹ k g o p (Dy f h)) U7<|C6 2 [4,5] d U<|Vo (G.dropAll (VA U3 ?_));exact⟨by rw[Rat.div_def],U⟩
theorem Nt (C:Mem)(c:Tabs C)(z w:Int)(k:Nat)(d:0<k)(e:k<=40000)(f:z.natAbs<B9 ^ k)(g:w.natAbs<B9 ^ k)(i:w≠0):Gives cx.P 184 [ae (txt z),ae (txt w)] C (.tuple #[ae (qtx (lC z w)),i_ 0]):=by
 refine Vi func184 12 U3 fun w0=>U1 2 [0,1] U<|Va 1 U fun R a=>Vl (my _ w) U7<|C6 1 [0,1,8] a U<|G.cd (fun b=>?_) fun b=>?_
 ·exfalso;have h:eH w=0:=by simpa using b
  rcases eC w with h2|h2|h2 <;> omega
 refine Va 2 U fun R a=>Vl (qO _ c.m_ z w k d e f g i) U7<|C6 2 [4,5] a U<|Vo (G.dropAll (VA U3 ?_));exact⟨U,U⟩
theorem Gk (C:Mem)(a:Tabs C)(z w:Int)(d:z.natAbs<9000000000000000000)(e:w.natAbs<9000000000000000000)(b:w≠0):Gives cx.P 118 [i_ z,i_ w] C (.tuple #[ae (qtx (lC z w)),i_ 0]):=by
 have f:9000000000000000000<B9 ^ 3:=by decide
 refine Vi func118 13 U3 fun w0=>U1 2 [0,1] U<|Va 1 U fun R c=>Vm (tf _ a.m_ z om_ om_) U7 fl_<|Vc U6<|Vm (tf _ a.m_ w om_ om_) U7 fl_<|Vm (Nt _ a.m_ z w 3 dc_ dc_ om_ om_ b) U7 fl_<|C6 4 [4,5] c U<|Vo (G.dropAll (VA U3 ?_));exact⟨U,U⟩
theorem uf (C:Mem)(a:Tabs C)(z:Int)(c:z.natAbs<9000000000000000000):Gives cx.P 119 [i_ z] C (ae (qtx z)):=by
 exact Vi func119 5 U3 fun w0=>U1 1 [0] U<|Va 1 U fun R b=>Vm (tf _ a.m_ z om_ om_) U7 fl_<|C6 1 [2] b U<|Vg U2<|⟨by rw[nD],U⟩
theorem pow9 (k:Nat):B9 ^ k=10 ^ (9*k):=by rw[Nat.pow_mul]
theorem fG (h:bR s=true):s=txt (gc s)/\(gc s).natAbs<B9 ^ 23:=by
 have h1:=nv.1 h;refine⟨yN (by unfold bR at h;exact(Up.1 h).1), ?_⟩;rw[Dh];have h2:=uM.1 h1.1;have h3:=dt h2.1.1;exact Sq h3 (by rw[pow9];exact RM dc_ om_)
theorem Ci (h:aR s=true):∃ q:Rat,s=qtx q/\QB 23 q:=by
 unfold aR at h;rw[RG,RG]at h;obtain⟨⟨h1,h2⟩,h3⟩:=h;obtain⟨a,b⟩:=fG h1;rcases gT 47 s with⟨d,_,_⟩|⟨c,post,d,hs,_⟩
 ·rw[d]at a b;exact⟨((gc s:Int):Rat),by rw[nD];exact a,Qw b dc_⟩
 rw[d]at h2 h3 a b;simp only[SG]at h2 a b;obtain⟨e,f⟩:=fG h2;unfold lW at h3;simp only[RG,Ry,S8]at h3;obtain⟨⟨h4,_⟩,g⟩:=h3;have i:(gc post).natAbs≠0:=by omega
 refine⟨⟨gc c,(gc post).natAbs,i,g⟩, ?_,b,f⟩;rw[qe];show s=txt (gc c)++dh (mP (gc post).natAbs);rw[eM om_,<- a,hs];show c++47::post=c++47::bk (gc post).natAbs;rw[<- cW,show(((gc post).natAbs:Nat):Int)=gc post by omega,<- e]
theorem rY (C:Mem)(b:Str)(a:bR b=true):Gives cx.P 161 [ae b,ae [49]] C (i_ (wd (gc b) 1)):=by
 obtain⟨h1,h2⟩:=fG a;have h:=qV C (gc b) 1 (by have:=cj h2 dc_;omega) (by rw[show bk (1:Int).natAbs=[49] from one_dec];decide)
 rwa [<- one_val,<- h1]at h
theorem EC (C:Mem)(c:Tabs C)(a b:Str)(d:bR a=true)(e:bR b=true):Gives cx.P 162 [ae a,ae b] C (ae (txt (Nat.gcd (gc a).natAbs (gc b).natAbs:Nat))):=by
 obtain⟨h1,h2⟩:=fG d;obtain⟨h3,h4⟩:=fG e;have h:=HE C c (gc a) (gc b) 23 dc_ dc_ h2 h4
 rwa [<- h1,<- h3]at h
theorem yJ {b:Bool}(h:(oH b != 0)=false):b=true:=by cases b <;> first|rfl|(exact absurd h dc_)
theorem dE (C:Mem)(y:Tabs C)(s:Str)(A:s.length<=999998):Gives cx.P 103 [ae s] C (i_ (oH (aR s))):=by
 have u:=xn A;obtain⟨c,f,l⟩:∃ a b,iS 47 s=(a,b):=⟨_,_,rfl⟩;have k:aR s=(bR c && bR (f.getD [49]) && lW (gc c) f):=by
  unfold aR;rw[l]
 rw[l]at u;simp only at u;refine Vi func103 39 U3 fun w0=>U1 1 [0] U<|Va 1 U fun R g=>Vm (by have h:=MK C s 47 om_;rw[l]at h;exact h) U7 fl_<|C6 7 [3,4,5] g U<|Va 1 U fun R g=>Vl (yh _ c) U7<|C6 1 [3,4,5,16] g U<|G.cd (fun i=>?_) fun i=>?_
 ·have j:aR s=false:=by
   rw[k];cases h1:bR c with
  |false=>rfl
  |true=>rw[h1]at i;exact absurd i dc_
  exact U1 1 [2] U<|Vg U2<|⟨by rw[j];rfl,U⟩
 have m:bR c=true:=by
  cases h1:bR c with
 |true=>rfl
 |false=>rw[h1]at i;exact absurd i dc_
 rw[m,UF]at k;obtain⟨v,B⟩:=fG m;refine U1 2 [3,4,18] U<|G.cd (fun n=>?_) fun n=>?_
 ·have o:f=none:=by
   cases f with
  |none=>rfl
  |some b=>simp at n
  refine U1 1 [2] U<|Vg U2<|⟨?_,U⟩;rw[k,o];rfl
 obtain⟨b,o⟩:∃ b,f=some b:=by
  cases f with
 |some b=>exact⟨b,rfl⟩
 |none=>simp at n
 subst o;obtain⟨d,w⟩:∃ z,gc c=z:=⟨_,rfl⟩;obtain⟨e,x⟩:∃ z,gc b=z:=⟨_,rfl⟩;have p:aR s=(bR b && lW (gc c) (some b)):=k;unfold lW at p;simp only[w,x]at p v B;have D:(c == [48])=(d == 0):=by
  rw[v];have h:=kG d;rw[show(d == 0)=decide (d=0) by by_cases h:d=0 <;> simp[h]];exact h
 have E:(oH (bR b) != 0)=!bR b:=by cases bR b <;> rfl
 have F:decide (wd e 1<=0)=!decide (1<e):=by
  unfold wd;by_cases h:1<e
  ·rw[aF om_,aM h,RJ h];rfl
  rw[RU h];refine RJ ?_;split <;> first|omega|(split <;> omega)
 have q:(oH (bR b) != 0 || decide (wd (gc b) 1<=0) || (c == [48]) || !(bk ((gc c).natAbs.gcd (gc b).natAbs) == [49]))=!aR s:=by
  have H:=ru (d.natAbs.gcd e.natAbs);have I:(bk (d.natAbs.gcd e.natAbs) == [49])=(d.natAbs.gcd e.natAbs == 1):=H;rw[w,x,D,E,F,I,p];cases bR b <;> cases decide (1<e) <;> cases (d == 0) <;> cases (d.natAbs.gcd e.natAbs == 1) <;> rfl
 rw[<- cW]at q;refine U1 4 [6,7] U<|Va 1 U fun R g=>Vl (yh _ b) U7<|Ve 3 U<|Vx (fun r=>(rY _ b (by exact yJ (show(oH (bR b) != 0)=false/\True from r).1))) U9<|Vc U6<|VH U8<|Ve 3 U<|VH U8<|Ve 3 U<|Vx (fun r=>(EC _ y.m_ c b m (by exact yJ (Tf.1 (Tf.1 (show(((oH (bR b) != 0) || decide (wd (gc b) 1<=0)) || (c == [48]))=false/\True from r).1).1).1))) U9<|Vc U6<|VH U8<|Vf [38] g U<|G.cd (fun t=>?_) fun t=>?_
 ·have j:aR s=false:=by
   have h:(!aR s)=true:=q.symm.trans t;simpa using h
  exact U1 1 [2] U<|Vg U2<|⟨by rw[j];rfl,U⟩
 have j:aR s=true:=by
  have h:(!aR s)=false:=q.symm.trans t;simpa using h
 exact U1 1 [2] U<|Vg U2<|⟨by rw[j];rfl,U⟩
theorem wn:∀ {l:List Nat}{j y:Nat},j<l.length->bx (l.set j y)+BP ^ j*gP l j=bx l+BP ^ j*y
|[],_,_,h=>absurd h (Nat.not_lt_zero _)
|x::l,0,y,_=>by
  rw[List.set_cons_zero,Nat.pow_zero,TC,TC];show y+BP*bx l+x=x+BP*bx l+y;omega
|x::l,j+1,y,h=>by
  have a:=wn (l:=l) (j:=j) (y:=y) (by simpa using h);rw[List.set_cons_succ,SF];show x+BP*bx (l.set j y)+BP ^ j*BP*gP l j=x+BP*bx l+BP ^ j*BP*y;rw[R8 (BP ^ j) BP,S6,S6,TF,TF,<- Sw,<- Sw,a]
theorem yl {j z:Nat}(h:i≠j):gP (l.set i z) j=gP l j:=by
 unfold gP;rw[am,am,Uo h]
theorem HS {z:Nat}(h:i<l.length):gP (l.set i z) i=z:=by
 unfold gP;rw[am,Ug h];rfl
theorem KV (n j:Nat):gP (List.replicate n 0) j=0:=by
 unfold gP;rw[am,SU];split <;> rfl
theorem Qf (h:DigP l)(i:Nat):gP l i<=9999:=by
 rcases RS i l.length with h1|h1
 ·have h2:=h _ (aU (iQ h1).2);have h3:BP=10000:=rfl;omega
 unfold gP;rw[am,Rx h1];exact Rv _
theorem BC (l:List Nat)(k:Nat):bx (l.take (k+1))=bx (l.take k)+BP ^ k*gP l k:=by
 rcases RS k l.length with h|h
 ·exact gD (iQ h).2
 have e:gP l k=0:=by unfold gP;rw[am,Rx h];rfl
 rw[e,RN h,RN om_,UZ,S7]
theorem wC (C:Mem)(H I:Value)(a b:List Nat)(n:Sl C 1 H (a.map aW))(p:Sl C 1 I (b.map aW))(W:DigP a)(X:DigP b)(ac:a.length<=5000)(ad:b.length<=5000) :
  Pur cx.P 178 [H,I] C fun u s=>PieC s u (bx a*bx b):=by
 obtain⟨J,c0,rfl,_⟩:=id n;obtain⟨K,L,rfl,_⟩:=id p;simp only[au]at n p⊢;obtain⟨N,hN⟩:∃ N,a.length+b.length=N:=⟨_,rfl⟩;refine Vi func178 45 U3 fun w0=>U1 1 [0,1] U<|Va 4 U fun R c=>VI (((N:Nat):Int)) U4 om_ om_ om_ U2<|V5 U9 (Ro _) (by show 8*N<=281474976710656;omega) y_ fl_ fun d=>C6 1 [0,1,5] c U<|U1 1 [0,1,5,6] U<|Vr (L':=[.arr (s_ d N N) 3 1 N ((List.replicate N 0).map aW).flatten]) (by rw[<- LP];rfl)<|G.loop (fun fr s f t=>∃ (i:Nat)(o:List Nat),(i<=a.length/\o.length=N/\(∀ j,gP o j<=i*100000000)/\bx o=bx (a.take i)*bx b)/\fr=[(0,[],.slice J a.length c0),(1,[],.slice K b.length L),(5,[],s_ d N N),(6,[],i_ i)]/\f=[.arr (s_ d N N) 3 1 N (o.map aW).flatten]/\t=a.length-i) (hn_ [0,1,5,6] U) ⟨0,List.replicate N 0,⟨Rv _,RX,fun j=>by rw[KV];omega,by rw[sq (fun x g=>To g)];simp[bx]⟩,U,U,U⟩ (fun fr ae af m _ v=>?_);obtain⟨i,o,⟨hi,M,w,O⟩,rfl,rfl,rfl⟩:=v;refine U1 4 [0,1,5,6,17] U<|G.cd (fun z=>?_) fun z=>?_
 ·have A:i<a.length:=by simpa using z
  have g:=Qf W i;refine U1 1 [0,1,5,6,7] U<|G.loop (fun fr s f t=>∃ (k:Nat)(q:List Nat),(k<=b.length/\q.length=N/\(∀ j,gP q j<=(i+1)*100000000)/\(∀ j,i+k<=j->gP q j<=i*100000000)/\bx q=bx o+BP ^ i*(gP a i*bx (b.take k)))/\fr=[(0,[],.slice J a.length c0),(1,[],.slice K b.length L),(5,[],s_ d N N),(6,[],i_ i),(7,[],i_ k)]/\f=[.arr (s_ d N N) 3 1 N (q.map aW).flatten]/\t=b.length-k) (hn_ [0,1,5,6,7] U) ⟨0,o,⟨Rv _,M,fun j=>RD (w j) (Sa _ om_),fun j _=>w j,by simp[bx]⟩,U,U,U⟩ (fun fr ah ai m _ v=>?_);obtain⟨k,q,⟨hk,B,Q,S,D⟩,rfl,rfl,rfl⟩:=v;refine U1 4 [0,1,5,6,7,23] U<|G.cd (fun E=>?_) fun E=>?_
  ·have F:k<b.length:=by simpa using E
   have hy:=Qf X k;have Y:=(iQ (l:=q) (k:=i+k) om_).2;have hold:=S (i+k) (Ro _);have aj:gP a i*gP b k<=100000000:=RD (SJ g hy) dc_;refine Vv [0,1,2,3,4,5,6,7,8,9,10,11,12,13,14,15,16,17] [] U kr_ fun R hB c=>Ve 3 U<|VI (((i+k:Nat):Int)) U4 om_ om_ om_ U2<|VD ((i+k)*1) U10 w_ U2<|VT ag U6 (fun _=>(by rw[eh eo Y];rfl)) U2<|Ve 2 U<|Vq n.m_ U10 om_ (iQ A).1 fl_ fun ak Z=>Vb Z U8<|Ve 2 U<|Vq p.m_ U10 om_ (iQ F).1 fl_ fun al aa=>Vb aa U8<|Vh (((gP a i*gP b k:Nat):Int)) (RW _ _).symm U6<|VI (((gP q (i+k)+gP a i*gP b k:Nat):Int)) U4 om_ om_ om_ U2<|VD ((i+k)*1) U10 w_ U2<|VG (j:=0) U11 (by show(i+k)*1+1<=_;rw[bV eo,B];omega)<|Vf [0,1,5,6,7] c U<|Va 1 U fun R c=>Vh _ U U6<|C6 1 [0,1,5,6,7] c U<|Vr (L':=[.arr (s_ d N N) 3 1 N ((q.set (i+k) (gP q (i+k)+gP a i*gP b k)).map aW).flatten]) (by rw[<- bM eo _ (by omega:i+k<q.length)];rfl)<|Vn (m':=b.length-(k+1)) om_ mup (hn_ [0,1,5,6,7] U) ⟨k+1,q.set (i+k) (gP q (i+k)+gP a i*gP b k),⟨by omega,by simp[B],fun j=>by
    by_cases h:i+k=j
    ·subst h;rw[HS om_,S2];omega
    ·rw[yl h];exact Q j,fun j T=>by rw[yl om_];exact S j om_,by
    have h:=wn (l:=q) (j:=i+k) (y:=gP q (i+k)+gP a i*gP b k) om_;rw[Sw (BP ^ (i+k))]at h;rw[BC,Sw (gP a i),Sw (BP ^ i),<- TF,<- D];have e:BP ^ i*(gP a i*(BP ^ k*gP b k))=BP ^ (i+k)*(gP a i*gP b k):=by
     rw[TD,<- S6 (gP a i),R8 (gP a i) (BP ^ k),S6,<- S6 (BP ^ i)]
    rw[e];omega⟩,rfl,rfl,rfl⟩
  have F:k=b.length:=by
   have:¬ k<b.length:=by simpa using E
   omega
  refine Va 1 U fun R c=>Vh _ U U6<|C6 1 [0,1,5,6] c U<|Vn (m':=a.length-(i+1)) om_ mup (hn_ [0,1,5,6] U) ⟨i+1,q,⟨by omega,B,Q,by
   rw[F,Rz]at D;rw[BC,S2,<- O,S6];exact D⟩,U,U,U⟩
 have A:i=a.length:=by
  have:¬ i<a.length:=by simpa using z
  omega
 refine G.freezeArr 0 ((o.map fun(x:Nat)=>(x:Int)).map nP) rfl (by rw[So];rfl) (by intro r hr;obtain⟨x,_,rfl⟩:=Rs.1 hr;rfl) (by simp[M]) fun _ _ ab=>Va 1 U fun R c=>VC (Dq _ _ (o.map fun(x:Nat)=>(x:Int)) ab.m_ (by rw[oJ];omega) (by
  intro x g;obtain⟨y,hy,rfl⟩:=Rs.1 g;obtain⟨j,T⟩:=SV hy;have h1:=w j;have h2:gP o j=y:=by unfold gP;rw[am,T];rfl
  rw[h2]at h1;have h3:i*100000000<=5000*100000000:=Sa _ om_;omega) (by rw[au];omega)) U7 fl_ (fun an _ _ V=>?_)
 refine C6 1 [4] c U<|Vg U2<|⟨U, ?_⟩;rw[oJ,Tk,O,A,Rz]at V;exact V
theorem IV (h:(bk z.natAbs).length<=m):z.natAbs<10 ^ m:=by
 obtain⟨h2,h3⟩:=bl z.natAbs;have h4:=dt h2.1;rw[h3]at h4;exact Sq h4 (RM dc_ h)
theorem AV (h:Bp l)(a:bx l<BP ^ m*BP ^ n):l.length<=m+n:=kp h (by rw[TD];exact a)
theorem fU (C:Mem)(d:Tabs C)(z w:Int)(b:z.natAbs<BP ^ 200)(c:w.natAbs<BP ^ 200):Gives cx.P 111 [ae (txt z),ae (txt w)] C (ae (txt (z*w))):=by
 have A:=Sc.2 (nR z.natAbs);have B:=Sc.2 (nR w.natAbs);refine Vi func111 52 U3 fun w0=>U1 1 [0,1] U<|Va 1 U fun R a=>Vl (dC _ z) U7<|C6 5 [0,1,5,6] a U<|Va 1 U fun R a=>Vl (dC _ w) U7<|C6 5 [0,1,5,6,7,8] a U ?_;have D:=eF b;have E:=eF c;refine Va 4 U fun R a=>Vh ((((bk z.natAbs).length+(bk w.natAbs).length:Nat):Int)) (T6 _ _).symm U6<|C6 1 [0,1,5,6,7,8,28] a U<|G.cd (fun e=>?_) fun e=>?_
 ·have l:(bk z.natAbs).length+(bk w.natAbs).length<=18:=by
   have h:=QL e;omega
  have o:(z*w).natAbs<10 ^ 18:=by
   have h1:=IV (z:=z) (Ro _);have h2:=IV (z:=w) (Ro _);rw[SK];refine Sq (SQ h1 h2) ?_;rw[<- TD];exact RM dc_ l
  rw[e18]at o;exact Va 1 U fun R a=>Vm (uq _ z om_) U7 fl_<|C6 5 [1,9] a U<|Va 1 U fun R a=>Vm (uq _ w om_) U7 fl_<|C6 5 [9,11] a U<|Va 2 U fun R a=>Vh _ U U6<|Vm (gM _ d.m_ (z*w) om_ om_) U7 fl_<|C6 1 [4] a U<|Vg U2<|⟨U,U⟩
 refine Va 4 U fun R a=>VJ (gj _ z.natAbs b) U7 fun F _ _ p=>Vc U6<|VJ (gj _ w.natAbs c) U7 (fun H _ _ q=>?_);obtain⟨r,s,f,I,t⟩:=p;obtain⟨u,v,g,J,x⟩:=q;refine VC (wC _ _ _ r u t.m_ x.m_ s.1 v.1 om_ om_) U7 fl_ (fun K _ _ y=>?_);obtain⟨lp,i,j,k⟩:=y;have L:lp.length<=400:=AV (m:=200) (n:=200) i (by rw[j,f,g];exact SQ b c);obtain⟨M,N,rfl,_⟩:=id k;refine Vm (nI _ d.m_ _ _ lp k.m_ i.1 om_) U7 fl_<|C6 1 [4] a U<|Vg U2<|⟨?_,U⟩;rw[j,f,g];show ae (txt (sgZ (decide (z<0) != decide (w<0)) (z.natAbs*w.natAbs)))=_;rw[Ga]
theorem PF (z:Int)(b:g ∣ z.natAbs):sgZ (decide (z<0) != false) (z.natAbs / g)=z / (g:Int):=by
 obtain⟨m,hm⟩:=b;rcases Sz g with h|c
 ·subst h;have a:z=0:=by omega
  subst a;rfl
 rw[hm,Nat.mul_div_cancel_left _ c,Bool.bne_false];unfold sgZ;by_cases a:z<0
 ·rw[RJ a,aM rfl,show z=(g:Int)*(-(m:Int)) by rw[Int.mul_neg,<- RW];omega,Int.mul_ediv_cancel_left _ om_]
 rw[RU a,aF dc_,show z=(g:Int)*(m:Int) by rw[<- RW];omega,Int.mul_ediv_cancel_left _ om_]
theorem yz (C:Mem)(c:Tabs C)(z:Int)(b:Nat)(m:z.natAbs<BP ^ 200)(n:b<BP ^ 200)(F:0<b)(d:b ∣ z.natAbs):Gives cx.P 168 [ae (txt z),ae (bk b)] C (.tuple #[ae (txt (z / (b:Int))),ae (bk 0)]):=by
 have H:=O3;have o:z.natAbs % b=0:=Nat.mod_eq_zero_of_dvd d;have f:(b:Int) ∣ z:=T0.1 (Ta.2 d);have I:(z / (b:Int)).natAbs<=z.natAbs:=by
  rw[Tv f,R7];exact Sv _ _
 refine Vi func168 93 U3 fun w0=>U1 2 [0,1] U<|Va 1 U fun R a=>Vl (ph C z) U7<|C6 5 [0,1,6,7] a U<|Va 1 U fun R a=>Vl (rG _ b) U7<|C6 5 [0,1,6,7,8,9] a U<|Va 3 U fun R a=>Vz U8<|Vf [0,1,6,8,31] a U<|G.cd (fun g=>?_) fun g=>?_
 ·have hs:(bk z.natAbs).length<=17/\(bk b).length<=17:=by simpa using g
  have h1:=pg hs.1;have h2:=rH hs.2;rw[aM hs.1,aM hs.2];refine Vv [0,1,2,3,4,5,6,7] [] U kr_ fun R J a=>Ve 2 U<|Wc (z / (b:Int)) U6 om_ (lX d) (wrap_i64 om_ om_) U2<|Ve 2 U<|V6 0 U6 om_ ⟨(Int.tmod_eq_zero_of_dvd f),U,U⟩<|C6 2 [6,8,10,11] a U<|U1 2 [6,8,10,11,39] U<|G.cd (fun h=>?_) fun h=>?_
  ·exfalso;simp at h
  refine Va 1 U fun R a=>Vm (gM _ c (z / (b:Int)) om_ om_) U7 fl_<|Vc U6<|Vm (GX _ c 0 om_) U7 fl_<|C6 2 [4,5] a U<|Vo (G.dropAll (VA U3 ?_));exact⟨U,U⟩
 refine Va 1 U fun R a=>Vl (dC _ z) U7<|C6 5 [1,12,13] a U<|Va 1 U fun R a=>Vl (pL _ b) U7<|C6 5 [12,13,14,15] a U<|Va 1 U fun R a=>VJ (gj _ z.natAbs m) U7 (fun K _ _ p=>?_);obtain⟨lp,q,r,L,s⟩:=p;refine Vc U6<|VJ (gj _ b n) U7 (fun M _ _ t=>?_);obtain⟨u,v,w,N,x⟩:=t;refine VC (CE _ _ _ lp u s.m_ x.m_ q.1 v om_ om_ om_) U7 fl_ (fun O _ _ y=>?_);obtain⟨u1,Q,rfl,i,e⟩:=y;rw[r,w]at i e;rw[o]at e;obtain⟨l1,A,B,S,D⟩:=PieC.take i (by have:=Sv z.natAbs b;omega);obtain⟨l2,j,E,T,k⟩:=PieC.take e om_;obtain⟨A2,c2,rfl,_⟩:=id k;obtain rfl:=(Dr j).1 E;refine C6 5 [12,14,15,16,17] a U<|Va 5 U fun R a=>Vz U8<|Vf [12,14,15,16,17,78] a U<|G.cd (fun l=>?_) fun l=>?_
 ·exfalso;simp at l
 refine Va 4 U fun R a=>Vm (nI _ c.m_ _ _ l1 D.m_ A.1 om_) U7 fl_<|Vc U6<|Vm (uT _ c.m_ _ [] k.m_ j.1 ak) U7 fl_<|C6 2 [4,5] a U<|Vo (G.dropAll (VA U3 ?_));refine⟨?_,U⟩;show Value.tuple #[ae (txt (sgZ (decide (z<0) != false) (bx l1))),_]=_;rw[B,PF z d];rfl
theorem sZ (C:Mem)(e:Tabs C)(n:Int)(d:Nat)(o:0<d)(p:n.natAbs<9000000000000000000)(u:d<9000000000000000000):Gives cx.P 108 [i_ n,i_ d] C (ae (qtx (mkRat n d))):=by
 obtain⟨g,b⟩:∃ g,Nat.gcd n.natAbs d=g:=⟨_,rfl⟩;have v:0<g:=by rw[<- b];exact TR _ o
 have q:g ∣ n.natAbs:=by rw[<- b];exact Ue _ _
 have w:g ∣ d:=by rw[<- b];exact Ui _ _
 have N:g<=d:=UE o w;have z:(n / (g:Int)).natAbs<=n.natAbs:=by
  rw[Tv (T0.1 (Ta.2 q)),R7];exact Sv _ _
 have r:=Sv d g;rw[xp om_,b];refine Vi func108 36 U3 fun w0=>U1 1 [0,1] U<|U1 2 [0,1,8] U<|G.cut (fun fr A f i=>(True)/\fr=[(0,[],i_ (n / (g:Int))),(1,[],i_ ((d / g:Nat):Int))]/\f=[]) ?_ (fun fr _ O i _ j=>?_)
 ·refine G.cd (fun s=>?_) fun s=>?_
  ·skip
   refine Va 3 U fun R a=>?_;have Q:IntKind.i64.wrap (0-n)=0-n:=wrap_i64 om_ om_;refine D.max ((n.natAbs:Int)) U6 om_ U2<|C6 3 [0,1,5,6] a U<|G.loop (fun fr A f i=>∃ (x y:Int),(x.natAbs<9000000000000000000/\0<=x/\0<=y/\y.natAbs<9000000000000000000/\Nat.gcd x.natAbs y.natAbs=g)/\fr=[(0,[],i_ n),(1,[],i_ d),(5,[],i_ x),(6,[],i_ y)]/\f=[]/\i=y.natAbs+1) (hn_ [0,1,5,6] U) ⟨(n.natAbs:Int),d,⟨p,by omega,by omega,by omega,by rw[R7];exact b⟩,U,U,U⟩ (fun fr S T m B j=>?_);obtain⟨x,y,⟨V,E,F,H,t⟩,rfl,rfl,rfl⟩:=j;refine U1 2 [0,1,5,6,15] U<|G.cd (fun k=>?_) fun k=>?_
   ·have l:y≠0:=by simpa using k
    have I:(x.tmod y).natAbs=x.natAbs % y.natAbs:=T8 x y;have W:=R9 x.natAbs (show 0<y.natAbs by omega);have J:=Int.tmod_nonneg y E;refine Vv [0,1,2,3,4,5] [] U kr_ fun R K a=>Ve 3 U<|V6 (x.tmod y) U6 l U3<|C6 2 [0,1,5,6] a U<|Vn (m':=(x.tmod y).natAbs+1) om_ B (hn_ [0,1,5,6] U) ⟨y,x.tmod y,⟨H,F,J,by omega,by rw[I,<- t,Tx x.natAbs,UC y.natAbs x.natAbs,Tx]⟩,U,U,U⟩
   have l:y=0:=by simpa using k
   subst l;rw[show(0:Int).natAbs=0 from rfl,T2]at t;obtain rfl:x=(g:Int):=by omega
   refine Vv [0,1,2,3,4,5,6,7] [] U kr_ fun R K a=>Ve 2 U<|Wc (n / (g:Int)) U6 om_ (lX q) (wrap_i64 om_ om_) U2<|Ve 2 U<|V7 (d) (g) U6 v (.inl ⟨U,by omega⟩) U2<|C6 2 [0,1] a U<|Vp 0 mup (hn_ [0,1] U) ⟨trivial,U,U⟩
  have L:d=1:=by
   have h:(d:Int)=1:=by simpa using s
   omega
  subst L;have M:g=1:=by omega
  refine Vp 0 l_ (hn_ [0,1] U) ⟨trivial,by rw[M,Nat.div_one,Int.natCast_one,Int.ediv_one],U⟩
 obtain⟨_,rfl,rfl⟩:=j;refine U1 2 [0,1,27] U<|G.cd (fun c=>?_) fun c=>?_
 ·have h1:d / g=1:=by
   have h2:(((d / g:Nat):Int))=1:=by simpa using c
   omega
  refine Va 1 U fun R a=>Vm (fT _ e.m_ _ om_ om_) U7 fl_<|C6 1 [4] a U<|Vg U2<|⟨?_,U⟩;rw[h1,kh rfl];simp[dh]
 have h1:d / g≠1:=by
  intro h2;rw[h2]at c;exact absurd c dc_
 have X:=iY (n / (g:Int));have Y:=iY ((d / g:Nat):Int);have Z:(bk (n / (g:Int)).natAbs).length<=20:=dQ (Sk z (Ty p dc_)) dc_;have aa:(bk ((d / g:Nat):Int).natAbs).length<=20:=dQ (by rw[R7];exact Sk r (Ty u dc_)) dc_;refine Va 1 U fun R a=>Vm (fT _ e.m_ _ om_ om_) U7 fl_<|VX U6 (fun _=>(by simp only[RH,R5];omega)) U2<|Vc U6<|Vm (fT _ e.m_ ((d / g:Nat):Int) (Uw dc_ (UV _)) (Uw (Int.ofNat_le.2 r) om_)) U7 fl_<|VX U6 (fun _=>(by simp only[Ru,RH,R5];omega)) U2<|C6 1 [4] a U<|Vg U2<|⟨?_,U⟩;rw[eM h1,cW,R0];rfl
theorem CL (h:(txt z).length<=9):z.natAbs<1000000000:=by
 have h1:=Bd h
 rwa [e9]at h1
theorem FZ (C:Mem)(k:Tabs C)(z w:Int)(A:(txt z).length<=9)(B:(txt w).length<=9)(S:w≠0):Gives cx.P 164 [ae (txt z),ae (txt w)] C (ae (qtx (lC z w))):=by
 have T:=CL A;have V:=CL B;obtain⟨n,i⟩:∃ y,(if w<0 then -z else z)=y:=⟨_,rfl⟩;obtain⟨d,D⟩:∃ d,w.natAbs=d:=⟨_,rfl⟩;have r:0<d:=by omega
 have E:n.natAbs<1000000000:=by rw[<- i];split <;> omega
 unfold lC;rw[i,D];obtain⟨g,b⟩:∃ g,Nat.gcd n.natAbs d=g:=⟨_,rfl⟩;have F:0<g:=by rw[<- b];exact TR _ r
 have s:g ∣ n.natAbs:=by rw[<- b];exact Ue _ _
 have H:g ∣ d:=by rw[<- b];exact Ui _ _
 have W:g<=d:=UE r H;have I:(n / (g:Int)).natAbs<=n.natAbs:=by
  rw[Tv (T0.1 (Ta.2 s)),R7];exact Sv _ _
 have t:=Sv d g;rw[xp om_,b];refine Vi func164 55 U3 fun w0=>U1 1 [0,1] U<|Va 1 U fun R a=>Vm (Bb Tryz.atoi z om_ _ kr_) U7 fl_<|C6 5 [1,5] a U<|Va 1 U fun R a=>Vm (Bb Tryz.atoi w om_ _ kr_) U7 fl_<|C6 5 [5,7] a U<|U1 2 [5,7,22] U<|G.cut (fun fr u c e=>(True)/\fr=[(5,[],i_ n),(7,[],i_ d)]/\c=[]) ?_ (fun fr _ X e _ f=>?_)
 ·refine G.cd (fun l=>?_) fun l=>?_
  ·have h:w<0:=by simpa using l
   rw[aM h]at i;refine U1 6 [5,7] U ?_;rw[show IntKind.i64.wrap (0-z)=n by rw[wrap_i64 om_ om_];omega,show IntKind.i64.wrap (0-w)=(d:Int) by rw[wrap_i64 om_ om_];omega];refine Vp 0 l_ (hn_ [5,7] U) ⟨trivial,U,U⟩
  have h:¬ w<0:=by simpa using l
  rw[aF h]at i;rw[show z=n by omega,show w=(d:Int) by omega];refine Vp 0 l_ (hn_ [5,7] U) ⟨trivial,U,U⟩
 obtain⟨_,rfl,rfl⟩:=f;refine U1 4 [5,7,9,10] U<|U1 2 [5,7,9,10,30] U<|G.cut (fun fr u c e=>(True)/\fr=[(5,[],i_ n),(7,[],i_ d),(9,[],i_ (n.natAbs:Nat)),(10,[],i_ d)]/\c=[]) ?_ (fun fr _ Y e _ f=>?_)
 ·refine G.cd (fun o=>?_) fun o=>?_
  ·have h:n<0:=by simpa using o
   refine U1 3 [5,7,9,10] U ?_;rw[show IntKind.i64.wrap (0-n)=((n.natAbs:Nat):Int) by rw[wrap_i64 om_ om_];omega];refine Vp 0 l_ (hn_ [5,7,9,10] U) ⟨trivial,U,U⟩
  have h:¬ n<0:=by simpa using o
  refine Vp 0 l_ (hn_ [5,7,9,10] U) ⟨trivial,by rw[show((n.natAbs:Nat):Int)=n by omega],U⟩
 obtain⟨_,rfl,rfl⟩:=f;refine G.loop (fun fr u c e=>∃ (x y:Int),(x.natAbs<9000000000000000000/\0<=x/\0<=y/\y.natAbs<9000000000000000000/\Nat.gcd x.natAbs y.natAbs=g)/\fr=[(5,[],i_ n),(7,[],i_ d),(9,[],i_ x),(10,[],i_ y)]/\c=[]/\e=y.natAbs+1) (hn_ [5,7,9,10] U) ⟨(n.natAbs:Int),d,⟨by omega,by omega,by omega,by omega,by rw[R7,R7];exact b⟩,U,U,U⟩ (fun fr Z aa m J f=>?_);obtain⟨x,y,⟨ab,K,L,M,v⟩,rfl,rfl,rfl⟩:=f;refine U1 2 [5,7,9,10,34] U<|G.cd (fun p=>?_) fun p=>?_
 ·have q:y≠0:=by simpa using p
  have N:(x.tmod y).natAbs=x.natAbs % y.natAbs:=T8 x y;have ac:=R9 x.natAbs (show 0<y.natAbs by omega);have O:=Int.tmod_nonneg y K;refine Vv [0,1,2,3,4,5] [] U kr_ fun R Q a=>Ve 3 U<|V6 (x.tmod y) U6 q U3<|C6 2 [5,7,9,10] a U<|Vn (m':=(x.tmod y).natAbs+1) om_ J (hn_ [5,7,9,10] U) ⟨y,x.tmod y,⟨M,L,O,by omega,by rw[N,<- v,Tx x.natAbs,UC y.natAbs x.natAbs,Tx]⟩,U,U,U⟩
 have q:y=0:=by simpa using p
 subst q;rw[show(0:Int).natAbs=0 from rfl,T2]at v;obtain rfl:x=(g:Int):=by omega
 refine Vv [0,1,2,3,4,5,6,7] [] U kr_ fun R Q a=>Ve 2 U<|Wc (n / (g:Int)) U6 om_ (lX s) (wrap_i64 om_ om_) U2<|Ve 2 U<|V7 (d) (g) U6 F (.inl ⟨U,by omega⟩) U2<|C6 2 [5,7] a U<|U1 2 [5,7,46] U<|G.cd (fun j=>?_) fun j=>?_
 ·have h1:d / g=1:=by
   have h2:(((d / g:Nat):Int))=1:=by simpa using j
   omega
  refine Va 1 U fun R a=>Vm (fT _ k.m_ _ om_ om_) U7 fl_<|C6 1 [4] a U<|Vg U2<|⟨?_,U⟩;rw[h1,kh rfl];simp[dh]
 have h1:d / g≠1:=by
  intro h2;rw[h2]at j;exact absurd j dc_
 have ad:=iY (n / (g:Int));have af:=iY ((d / g:Nat):Int);have ag:(bk (n / (g:Int)).natAbs).length<=20:=dQ (Sk I (Ty E dc_)) dc_;have ah:(bk ((d / g:Nat):Int).natAbs).length<=20:=dQ (by rw[R7];exact Sk t (Ty (show d<1000000000 by omega) dc_)) dc_;refine Va 1 U fun R a=>Vm (fT _ k.m_ _ om_ om_) U7 fl_<|VX U6 (fun _=>(by simp only[RH,R5];omega)) U2<|Vc U6<|Vm (fT _ k.m_ ((d / g:Nat):Int) (Uw dc_ (UV _)) (Uw (Int.ofNat_le.2 t) om_)) U7 fl_<|VX U6 (fun _=>(by simp only[Ru,RH,R5];omega)) U2<|C6 1 [4] a U<|Vg U2<|⟨?_,U⟩;rw[eM h1,cW,R0];rfl
def MM (sg:Bool)(A:Str)(B:Option Str):Value:=.tuple #[.int .i64 (sgZ sg (bP A)),.int .i64 (Qp B),.bool true]
theorem EZ (C:Mem)(a:Bool)(A:Str)(B:Option Str)(r:∀ c∈A,dT c=true)(S:A≠[])(T:∀ b,B=some b->∀ c∈b,dT c=true)(V:(Ej a++A++dh B).length<=9) :
  Gives cx.P 107 [ae (Ej a++A++dh B)] C (MM a A B):=by
 obtain⟨s,hs⟩:∃ s,Ej a++A++dh B=s:=⟨_,rfl⟩;obtain⟨p,t⟩:∃ p,(Ej a).length=p:=⟨_,rfl⟩;have o:p=if a then 1 else 0:=by rw[<- t];cases a <;> rfl
 have u:∀ j c,A[j]?=some c->s[p+j]?=some c:=fun j c h=>by rw[<- hs,<- t];exact GE _ _ _ h
 have K:∀ j,s[p+A.length+j]?=(dh B)[j]?:=fun j=>by rw[<- hs,<- t];exact Cv _ _ _ _
 have x:s.length=p+A.length+(dh B).length:=by rw[<- hs,<- t,Ru,Ru]
 have W:0<A.length:=Sc.2 S;rw[hs]at V⊢;have L:∀ j,bP (A.take j)<1000000000:=fun j=>by
  have h:=mQ r (i:=min j A.length) om_;rcases Nat.le_total j A.length with h1|h1
  ·rwa [Sp h1]at h
  rw[Nat.min_eq_right h1,Rz]at h
  rwa [RN h1]
 refine Vi func107 57 U3 fun w0=>U1 3 [0,2] U<|U1 3 [0,2,9] U<|G.cd (fun M=>?_) fun M=>?_
 ·exfalso;have h:(9:Int)<((s.length:Nat):Int):=QL M;omega
 refine U1 3 [0,2,3,5,6] U<|Va 1 U fun R d=>VN (b:=s.getD 0 0) U8 (fun _=>⟨by omega,(by rw[am,show(0:Int).toNat=0 from rfl];obtain⟨c,f⟩:∃ c,s[0]?=some c:=⟨s[0]'om_,ai om_⟩;rw[f];rfl)⟩) U2<|C6 1 [0,2,3,5,6,12] d U<|G.cut (fun fr y g k=>(True)/\fr=[(0,[],ae s),(2,[],i_ 0),(3,[],i_ 1),(5,[],i_ p),(6,[],i_ (if a then -1 else 1))]/\g=[]) ?_ (fun fr _ ad k _ l=>?_)
 ·refine G.cd (fun q=>?_) fun q=>?_
  ·have z:a=true:=by
    cases a with
   |true=>rfl
   |false =>
     exfalso;rw[aF dc_]at o;subst o;obtain⟨c,f⟩:∃ c,A[0]?=some c:=⟨A[0],ai W⟩;have h1:=u 0 c f;have h2:=r c (aU f);rw[S7]at h1;rw[am,h1]at q;unfold dT at h2;simp at q h2;omega
   subst z;rw[aM rfl]at o;subst o;refine U1 2 [0,2,3,5,6] U<|Vp 0 l_ (hn_ [0,2,3,5,6] U) ⟨trivial,U,U⟩
  have z:a=false:=by
   cases a with
  |false=>rfl
  |true =>
    exfalso;have h1:s[0]?=some 45:=by rw[<- hs];rfl
    rw[am,h1]at q;exact absurd q dc_
  subst z;rw[aF dc_]at o;subst o;refine Vp 0 l_ (hn_ [0,2,3,5,6] U) ⟨trivial,U,U⟩
 obtain⟨_,rfl,rfl⟩:=l;refine G.loop (fun fr y g k=>∃ (j:Nat),(j<=A.length)/\fr=[(0,[],ae s),(2,[],i_ ((bP (A.take j):Nat):Int)),(3,[],i_ 1),(5,[],i_ ((p+j:Nat):Int)),(6,[],i_ (if a then -1 else 1))]/\g=[]/\k=A.length-j+1) (hn_ [0,2,3,5,6] U) ⟨0,by omega,U,U,U⟩ (fun fr af ag m X l=>?_);obtain⟨j,hj,rfl,rfl,rfl⟩:=l;obtain⟨c,f⟩:∃ c,p+j<s.length->s[p+j]?=some c:=⟨s.getD (p+j) 0,fun h=>by rw[am,ai h];rfl⟩;refine Va 7 U fun R d=>VN (b:=c) U8 (fun Y=>⟨by omega,f (by have h:decide (((p+j:Nat):Int)<((s.length:Nat):Int))=true:=Y.1;have h2:=QL h;omega)⟩) U2<|Vc U6<|Vz U8<|Vf [0,2,3,5,6,22] d U<|G.cd (fun v=>?_) fun v=>?_
 ·have E:p+j<s.length/\c.toNat≠47:=by
   simp at v;omega
  have F:j<A.length:=by
   rcases RS j A.length with h|h
   ·exact h
   exfalso;obtain rfl:j=A.length:=by omega
   have h1:=f E.1;have h2:=K 0;rw[S7,h1]at h2;cases B with
  |none=>simp[dh]at h2
  |some b =>
    simp[dh]at h2;subst h2;exact E.2 U
  obtain⟨e,n⟩:∃ c,A[j]?=some c:=⟨A[j],ai F⟩;obtain rfl:e=c:=by
   have h1:=f E.1;rw[u j e n]at h1;exact Sx h1
  have N:48<=e.toNat/\e.toNat<=57:=by simpa [dT] using r e (aU n)
  have O:=L j;refine Va 1 U fun R d=>Vh _ U U6<|Ve 2 U<|VN U8 (fun _=>⟨by omega,u j _ n⟩) U2<|D.int (((e.toNat:Nat):Int)-48) U4 (by rw[IntKind.wrap_u8];omega) U2<|VO (c:=((e.toNat:Nat):Int)-48) U8 f_ fl_<|Vh _ U U6<|Vc U6<|Vh _ U U6<|C6 2 [0,2,3,5,6] d U ?_;rw[show 10*((bP (A.take j):Nat):Int)+(((e.toNat:Nat):Int)-48)=((bP (A.take (j+1)):Nat):Int) by rw[oY n];omega];refine Vn (m':=A.length-(j+1)+1) om_ X (hn_ [0,2,3,5,6] U) ⟨j+1,om_,U,U,U⟩
 have F:j=A.length:=by
  rcases RS j A.length with h|h
  ·exfalso;obtain⟨e,n⟩:∃ c,A[j]?=some c:=⟨A[j],ai h⟩;have h1:=f om_;rw[u j e n]at h1;obtain rfl:=Sx h1;have N:48<=e.toNat/\e.toNat<=57:=by simpa [dT] using r e (aU n)
   simp at v;have:=v om_;omega
  omega
 subst F;have O:=L A.length;rw[Rz]at O⊢;refine U1 4 [0,2,3,5,6,36] U<|G.cut (fun fr y g k=>(True)/\fr=[(2,[],i_ ((bP A:Nat):Int)),(3,[],i_ ((Qp B:Nat):Int)),(6,[],i_ (if a then -1 else 1))]/\g=[]) ?_ (fun fr _ ah k _ l=>?_)
 ·refine G.cd (fun w=>?_) fun w=>?_
  ·obtain⟨b,rfl⟩:∃ b,B=some b:=by
    cases B with
   |some b=>exact⟨b,rfl⟩
   |none =>
     exfalso;rw[x]at w;simp[dh]at w
   have Q:=T b rfl;have aj:s.length=p+A.length+1+b.length:=by rw[x];simp[dh];omega
   have Z:∀ j,bP (b.take j)<1000000000:=fun j=>by
    have h:=mQ Q (i:=min j b.length) om_;rcases Nat.le_total j b.length with h1|h1
    ·rwa [Sp h1]at h
    rw[Nat.min_eq_right h1,Rz]at h
    rwa [RN h1]
   refine U1 1 [0,2,3,5,6] U<|Va 1 U fun R d=>Vh _ U U6<|C6 1 [0,2,3,5,6] d U<|G.loop (fun fr y g k=>∃ (j:Nat),(j<=b.length)/\fr=[(0,[],ae s),(2,[],i_ ((bP A:Nat):Int)),(3,[],i_ ((bP (b.take j):Nat):Int)),(5,[],i_ ((p+A.length+1+j:Nat):Int)),(6,[],i_ (if a then -1 else 1))]/\g=[]/\k=b.length-j+1) (hn_ [0,2,3,5,6] U) ⟨0,om_,U,U,U⟩ (fun fr ak al m aa l=>?_);obtain⟨j,hk,rfl,rfl,rfl⟩:=l;refine U1 4 [0,2,3,5,6,42] U<|G.cd (fun H=>?_) fun H=>?_
   ·have I:j<b.length:=by
     have:p+A.length+1+j<s.length:=by simp at H;omega
     omega
    obtain⟨c,J⟩:∃ c,b[j]?=some c:=⟨b[j],ai I⟩;have ab:s[p+A.length+1+j]?=some c:=by rw[TF,K,TB 1 j];exact J
    have N:48<=c.toNat/\c.toNat<=57:=by simpa [dT] using Q c (aU J)
    have an:=Z j;refine Va 1 U fun R d=>Vh _ U U6<|Ve 2 U<|VN U8 (fun _=>⟨by omega,ab⟩) U2<|D.int (((c.toNat:Nat):Int)-48) U4 (by rw[IntKind.wrap_u8];omega) U2<|VO (c:=((c.toNat:Nat):Int)-48) U8 f_ fl_<|Vh _ U U6<|C6 1 [0,2,3,5,6] d U<|Va 1 U fun R d=>Vh _ U U6<|C6 1 [0,2,3,5,6] d U ?_;rw[show 10*((bP (b.take j):Nat):Int)+(((c.toNat:Nat):Int)-48)=((bP (b.take (j+1)):Nat):Int) by rw[oY J];omega];refine Vn (m':=b.length-(j+1)+1) om_ aa (hn_ [0,2,3,5,6] U) ⟨j+1,om_,U,U,U⟩
   have I:j=b.length:=by
    have:¬ p+A.length+1+j<s.length:=by simp at H;omega
    omega
   subst I;rw[Rz];refine Vp 0 mup (hn_ [2,3,6] U) ⟨trivial,U,U⟩
  have ac:B=none:=by
   cases B with
  |none=>rfl
  |some b =>
    exfalso;have h:¬ ((p+A.length:Nat):Int)<((s.length:Nat):Int):=Rt w;rw[x]at h;simp only[dh,RH]at h;omega
  subst ac;refine Vp 0 l_ (hn_ [2,3,6] U) ⟨trivial,U,U⟩
 obtain⟨_,rfl,rfl⟩:=l;have ao:-1000000000<sgZ a (bP A)/\sgZ a (bP A)<1000000000:=by unfold sgZ;split <;> omega
 refine Va 2 U fun R d=>?_;refine VI (sgZ a (bP A)) U4 (by unfold sgZ;cases a <;> simp) om_ om_ U2 ?_;refine C6 4 [2,3,4] d U<|Vo (G.dropAll (V2 U4 ?_));exact⟨U,U⟩
theorem IU (h:z.natAbs<m)(g:Nat)(a:g ∣ z.natAbs):(z / (g:Int)).natAbs<m:=by
 rw[Tv (T0.1 (Ta.2 a)),R7];exact Sk (Sv _ _) h
theorem KU (C:Mem)(a:Tabs C)(y:Int)(d:Nat)(b:y.natAbs<BP ^ 200)(c:d<BP ^ 200):Gives cx.P 167 [ae (txt y),ae (bk d)] C (ae (bk (Nat.gcd y.natAbs d))):=by
 have h:=tm C a y (d:Nat) b om_
 rwa [cW,R7]at h
theorem lk (C:Mem)(e:Tabs C)(z w:Int)(j:z.natAbs<BP ^ 200)(n:w.natAbs<BP ^ 200)(o:w≠0):Gives cx.P 105 [ae (txt z),ae (txt w)] C (ae (qtx (lC z w))):=by
 have B:=eF j;have D:=eF n;obtain⟨y,hy⟩:∃ y,(if w<0 then -z else z)=y:=⟨_,rfl⟩;obtain⟨d,p⟩:∃ d,w.natAbs=d:=⟨_,rfl⟩;have q:d≠0:=by omega
 have r:y.natAbs=z.natAbs:=by rw[<- hy];split <;> omega
 obtain⟨g,b⟩:∃ g,Nat.gcd y.natAbs d=g:=⟨_,rfl⟩;have k:0<g:=by rw[<- b];exact TR _ om_
 have s:g ∣ d:=by rw[<- b];exact Ui _ _
 have l:g ∣ y.natAbs:=by rw[<- b];exact Ue _ _
 have E:g<=d:=UE om_ s;refine Vi func105 46 U3 fun w0=>U1 1 [0,1] U<|Va 7 U fun R a=>Vz U8<|Vf [0,1,13] a U<|G.cd (fun m=>?_) fun m=>?_
 ·have h:(txt z).length<=9/\(txt w).length<=9:=by
   have h1:=(RG _ _ ▸ m:_/\_);have h2:((txt z).length:Int)<=9:=QL h1.1;have h3:((txt w).length:Int)<=9:=QL h1.2;omega
  exact Va 2 U fun R a=>Vl (FZ _ e.m_ z w h.1 h.2 o) U7<|C6 1 [4] a U<|Vg U2<|⟨U,U⟩
 refine Va 1 U fun R a=>Vl (pO _ w) U7<|C6 1 [0,1,19] a U<|G.cut (fun fr F t u=>(True)/\fr=[(0,[],ae (txt y)),(1,[],ae (bk d))]/\t=[]) ?_ (fun fr _ H u _ v=>?_)
 ·refine G.cd (fun f=>?_) fun f=>?_
  ·have i:w<0:=by
    have h:=QL f;refine RT fun h2=>?_;rw[aF h2]at h;revert h;split <;> decide
   rw[aM i]at hy;refine Va 1 U fun R a=>Vm (nF _ z om_) U7 fl_<|Vc U6<|Vm (nF _ w om_) U7 fl_<|C6 2 [0,1] a U<|Vp 0 l_ (hn_ [0,1] U) ⟨trivial,by rw[hy,show -w=((d:Nat):Int) by omega,cW],U⟩
  have i:¬ w<0:=by
   intro h2;have h:=Rt f;rw[aM h2]at h;exact h dc_
  rw[aF i]at hy;refine Vp 0 l_ (hn_ [0,1] U) ⟨trivial,by rw[hy,show w=((d:Nat):Int) by omega,cW],U⟩
 obtain⟨_,rfl,rfl⟩:=v;unfold lC;rw[hy,p,xp q,b];have x:=IU (z:=y) (by rw[r];exact j) g l;have I:=eF x;have A:d / g<BP ^ 200:=Sk (Sv _ _) om_;have J:=eF A;have K:=iY (y / (g:Int));refine Va 2 U fun R a=>Vm (KU _ e.m_ y d om_ om_) U7 fl_<|C6 1 [0,1,5] a U ?_;rw[b];refine Va 2 U fun R a=>Vm (yz _ e.m_ y g om_ om_ k l) U7 fl_<|C6 4 [0,1,5] a U<|Va 2 U fun R a=>Vm (mL _ e.m_ d g om_ om_ k) U7 fl_<|C6 4 [0,1] a U<|U1 2 [0,1,40] U<|G.cd (fun c=>?_) fun c=>?_
 ·have h1:d / g=1:=by rw[ru]at c;exact QL c
  refine U1 2 [4] U<|Vg U2<|⟨?_,U⟩;rw[kh h1];simp[dh]
 have h1:d / g≠1:=by rw[ru]at c;exact Rt c
 refine Va 1 U fun R a=>VX U6 (fun _=>(by simp only[RH,R5];omega)) U2<|Vc U6<|VX U6 (fun _=>(by simp only[Ru,RH,R5];omega)) U2<|C6 1 [4] a U<|Vg U2<|⟨?_,U⟩;rw[eM h1,R0];rfl
theorem P7 (C:Mem)(a:Tabs C)(z w:Int)(d:z.natAbs<9000000000000000000)(e:w.natAbs<9000000000000000000)(b:w≠0):Gives cx.P 47 [i_ z,i_ w] C (ae (qtx (lC z w))):=by
 have f:9000000000000000000<BP ^ 200:=by decide +kernel
 exact Vi func47 10 U3 fun w0=>U1 1 [0,1] U<|Va 1 U fun R c=>Vm (gM _ a.m_ z om_ om_) U7 fl_<|Vc U6<|Vm (gM _ a.m_ w om_ om_) U7 fl_<|Vm (lk _ a.m_ z w om_ om_ b) U7 fl_<|C6 1 [4] c U<|Vg U2<|⟨U,U⟩
theorem JH (C:Mem)(q:Rat)(_i:(qtx q).length<=1000000):Gives cx.P 83 [ae (qtx q)] C (i_ (eH q.num)):=by
 obtain⟨c,r,f,d⟩:=lY q;have j:=sM q;refine Vi func83 8 U3 fun w0=>U1 1 [0] U<|U1 2 [0,4] U<|G.cd (fun h4=>?_) fun h4=>?_
 ·have h0:q=0:=by rw[eP]at h4;exact QL h4
  refine U1 1 [2] U<|Vg U2<|⟨?_,U⟩;rw[h0];rfl
 have h0:q≠0:=by rw[eP]at h4;exact Rt h4
 have g:q.num≠0:=fun e=>h0 (T9.1 e);refine Va 1 U fun R h=>VN U8 (fun _=>⟨by omega,by rw[f];rfl⟩) U2<|C6 1 [7] h U<|G.cd (fun a=>?_) fun a=>?_
 ·rw[d]at a;have b:q.num<0:=QL a;refine U1 1 [2] U<|Vg U2<|⟨?_,U⟩;unfold eH;rw[aM b]
 rw[d]at a;have b:¬ q.num<0:=Rt a;refine U1 1 [2] U<|Vg U2<|⟨?_,U⟩;unfold eH;rw[aF b,aF g]
theorem Ob (C:Mem)(q:Rat)(g:(qtx q).length<=1000000):Gives cx.P 20 [ae (qtx q)] C (ae (qtx (-q))):=by
 have h:=sM q;refine Vi func20 13 U3 fun w0=>U1 1 [0] U<|U1 2 [0,4] U<|G.cd (fun h4=>?_) fun h4=>?_
 ·have h0:q=0:=by rw[eP]at h4;exact QL h4
  refine U1 2 [2] U<|Vg U2<|⟨?_,U⟩;rw[h0,Rat.neg_zero]
 have h0:q≠0:=by rw[eP]at h4;exact Rt h4
 obtain⟨c,r,f,e⟩:=lY q;refine Va 1 U fun R a=>VN U8 (fun _=>⟨by omega,by rw[f];rfl⟩) U2<|C6 1 [0,8] a U<|G.cd (fun b=>?_) fun b=>?_
 ·have d:q.num<0:=by rw[e]at b;exact QL b
  refine Va 1 U fun R a=>V0 1 (qtx q).length U9 (fun _=>⟨.inr ⟨_,U⟩,.inl ⟨U,U⟩,.inl ⟨U,U⟩,by omega,Ro _,Ro _⟩) U2<|C6 1 [2] a U<|Vg U2<|⟨?_,U⟩;rw[Rz,kL d];rfl
 have d:¬ q.num<0:=by rw[e]at b;exact Rt b
 refine Va 1 U fun R a=>VX U6 (fun _=>(by simp only[RH,R5];omega)) U2<|C6 1 [2] a U<|Vg U2<|⟨?_,U⟩;rw[fb d h0];rfl
end Go.Proofs.YtfjcldheldflbaaGreatDoor
