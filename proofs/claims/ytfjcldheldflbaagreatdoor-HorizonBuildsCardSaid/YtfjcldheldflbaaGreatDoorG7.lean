/- Laws that the proofs of this seat share, part 7. -/
import Derived.Test.YtfjcldheldflbaaGreatDoorG6
import Derived.Test.YtfjcldheldflbaaGreatDoorShelf
set_option maxHeartbeats 4000000
namespace Go.Proofs.YtfjcldheldflbaaGreatDoor
open Go.Proofs.Tryz
open Go Go.Jog
set_option maxRecDepth 100000
variable {a b:Rat}{d g i k:Nat}{l:List Nat}{m n:Nat}{q:Rat}{s:Str}{w z:Int}
theorem cj (h:n<B9 ^ k)(a:0<k):(bj n).length<=9*k:=dQ (by rw[Mb];exact h) om_
theorem AX (h:(txt z).length<=m):z.natAbs<10 ^ m:=by
 have h1:(bj z.natAbs).length<=m:=by
  unfold txt at h;split at h
  ·simp at h;omega
  exact h
 obtain⟨h2,h3⟩:=bB z.natAbs;have h4:=dA h2.1;rw[h3]at h4;exact Sb h4 (Rx dc_ h1)
theorem e18:(10:Nat) ^ 18=1000000000000000000:=by decide
theorem e9:(10:Nat) ^ 9=1000000000:=by decide
theorem uk {a b:Nat}(c:a<B9 ^ k)(d:b<B9 ^ k):a+b<B9 ^ (k+1):=by
 rw[Sp];have:B9 ^ k*2<=B9 ^ k*B9:=Sz _ dc_;omega
theorem N5 (C:Mem)(l:Tabs C)(z w:Int)(k:Nat)(v:0<k)(hk:k<=40000)(f:z.natAbs<B9 ^ k)(g:w.natAbs<B9 ^ k):Gives cx.P 158 [af (txt z),af (txt w)] C (af (txt (z+w))):=by
 have aa:=cj f v;have ab:=cj g v;refine UU func158 62 U3 fun w0=>UM 1 [0,1] U<|UN 1 U fun R a=>UZ (jW _ z 18 (Q7 _)) U7<|C6 5 [0,1,5,6] a U<|UM 1 [0,1,5,16] U<|G.cut (fun fr m o p=>(True)/\fr=[(0,[],af (txt z)),(1,[],af (txt w))]/\o=[]) ?_ (fun fr _ ac p _ q=>?_)
 ·refine G.cd (fun x=>?_) fun x=>?_
  ·have y:=Qw x;rw[aJ y];have L:=AX y;rw[e18]at L;refine UN 1 U fun R a=>UZ (jW _ w 18 (Q7 _)) U7<|C6 5 [0,1,5,7,8] a U<|UM 1 [0,1,5,7,22] U<|G.cd (fun A=>?_) fun A=>?_
   ·have B:=Qw A;rw[aJ B];have M:=AX B;rw[e18]at M;exact UN 2 U fun R a=>UV _ U U6<|UY (sZ _ l.m_ (z+w) om_ om_) U7 fl_<|C6 1 [4] a U<|UT U2<|⟨U,U⟩
   refine Vb 0 l_ (hn_ [0,1] U) ⟨trivial,U,U⟩
  refine Vb 0 l_ (hn_ [0,1] U) ⟨trivial,U,U⟩
 obtain⟨_,rfl,rfl⟩:=q;refine UN 1 U fun R a=>Vo (jo _ z om_) U7 fl_ fun ad _ _ N=>UP U6<|Vo (jo _ w om_) U7 fl_ fun ah _ _ O=>Ve U5 fun D=>Ve U5 (fun E=>?_);obtain⟨pz,rfl,d⟩:=N;obtain⟨pw,rfl,e⟩:=O;obtain⟨Az,mz,cz,rfl⟩:=d.form;obtain⟨Aw,mw,cw,rfl⟩:=e.form;refine UX (j:=1) U12<|UX (j:=1) U12<|US [9,10] a U<|UN 1 U fun R a=>UW ae U9<|UP U6<|UW ag U9<|C6 1 [9,10,35] a U<|G.cd (fun r=>?_) fun r=>?_
 ·have i:decide (z<0)=decide (w<0):=by simpa using r
  refine Vg [0,1,2,3,4,5,6,7,8,9] [(8,1)] U kr_ fun R Q a=>UP U6<|UW ae U9<|UP U6<|UW ae U9<|UP U6<|UW ag U9<|Vo (Mc (k:=k) _ d.m_ e.m_ f g om_) U7 fl_ (fun ai _ _ F=>?_);obtain⟨S,T,V,rfl⟩:=F.form;exact Vf [.bool (decide (z<0)),_] U8<|Vh (fun _=>(ku _ l.m_ _ _ _ F (dF (k:=100000) (n:=k+1) (uk f g) om_))) U9<|C6 1 [4] a U<|UT U2<|⟨by rw[F1 i],U⟩
 have i:decide (z<0)≠decide (w<0):=by simpa using r
 refine UN 1 U fun R a=>UW ae U9<|UP U6<|UW ag U9<|UZ (qE _ d.m_ e.m_) U7<|C6 1 [9,10,50] a U<|G.cut (fun fr m o p=>∃ (b c:Int)(s t:Value),(NineC m s b.natAbs/\NineC m t c.natAbs/\c.natAbs<=b.natAbs/\b+c=z+w/\decide (b<0)≠decide (c<0)/\b.natAbs<B9 ^ k)/\fr=[(9,[],p_ D),(10,[],p_ E)]/\o=[.obj E (.cells ⟨[.bool (decide (c<0)),t]⟩ 273 (0,0)),.obj D (.cells ⟨[.bool (decide (b<0)),s]⟩ 273 (0,0))]) ?_ (fun fr _ aj p _ q=>?_)
 ·refine G.cd (fun u=>?_) fun u=>?_
  ·have H:z.natAbs<w.natAbs:=by
    have:jY z.natAbs w.natAbs<0:=by simpa using u
    exact jn.1 this
   refine UQ fun R a=>UW ag U9<|UW ae U9<|UX (j:=1) U12<|UX (j:=1) U12<|US [9,10] a U<|Vb 0 mup (hn_ [9,10] U) ⟨w,z,_,_,⟨e.mono mup,d.mono mup,by omega,Int.add_comm w z,Ne.symm i,g⟩,U,U⟩
  have H:w.natAbs<=z.natAbs:=by
   have h:¬ jY z.natAbs w.natAbs<0:=by simpa using u
   rw[jn]at h;omega
  refine Vb 0 mup (hn_ [9,10] U) ⟨z,w,_,_,⟨d.mono mup,e.mono mup,H,U,i,f⟩,U,U⟩
 obtain⟨b ,c ,s ,t,⟨I,J,W,X,Y,Z⟩,rfl,rfl⟩:=q;obtain⟨ak,al,am,rfl⟩:=I.form;obtain⟨an,ao,ap,rfl⟩:=J.form;refine Vg [0,1,2,3,4,5,6,7,8,9] [(8,1)] U kr_ fun R Q a=>UP U6<|UW ae U9<|UP U6<|UW ae U9<|UP U6<|UW ag U9<|Vo (uP (k:=k) _ I.m_ J.m_ Z W om_) U7 fl_ (fun aq _ _ K=>?_);obtain⟨S,T,V,rfl⟩:=K.form;exact Vf [.bool (decide (b<0)),_] U8<|Vh (fun _=>(ku _ l.m_ _ _ _ K (dF (k:=100000) (n:=k) om_ om_))) U9<|C6 1 [4] a U<|UT U2<|⟨by rw[F2 Y om_,X],U⟩
theorem F3 (z w:Int):sgZ (decide (z<0) != decide (w<0)) (z.natAbs*w.natAbs)=z*w:=by
 unfold sgZ;have h1:z=if z<0 then -(z.natAbs:Int) else (z.natAbs:Int):=by split <;> omega
 have h2:w=if w<0 then -(w.natAbs:Int) else (w.natAbs:Int):=by split <;> omega
 by_cases a:z<0 <;> by_cases b:w<0
 ·rw[Rt a,Rt b,aF dc_];rw[aJ a]at h1;rw[aJ b]at h2;rw[RF]
  conv=>rhs;rw[h1,h2]
  rw[Int.neg_mul_neg]
 ·rw[Rt a,RG b,aJ dc_];rw[aJ a]at h1;rw[aF b]at h2;rw[RF]
  conv=>rhs;rw[h1,h2]
  rw[Int.neg_mul]
 ·rw[RG a,Rt b,aJ dc_];rw[aF a]at h1;rw[aJ b]at h2;rw[RF]
  conv=>rhs;rw[h1,h2]
  rw[Int.mul_neg]
 rw[RG a,RG b,aF dc_];rw[aF a]at h1;rw[aF b]at h2;rw[RF]
 conv=>rhs;rw[h1,h2]
theorem oO {a b:Nat}(c:a<B9 ^ k)(d:b<B9 ^ k):a*b<B9 ^ (k+k):=by
 rw[Tn];exact SA c d
theorem Cj (a:z.natAbs<1000000000)(b:w.natAbs<1000000000):-1000000000000000000<z*w/\z*w<1000000000000000000:=by
 have h:z.natAbs*w.natAbs<=999999999*999999999:=Su om_ om_;rw[<- Sv]at h;omega
theorem li (C:Mem)(d:Tabs C)(z w:Int)(k:Nat)(e:0<k)(x:k<=40000)(b:z.natAbs<B9 ^ k)(c:w.natAbs<B9 ^ k):Gives cx.P 124 [af (txt z),af (txt w)] C (af (txt (z*w))):=by
 have y:=cj b e;have A:=cj c e;refine UU func124 43 U3 fun w0=>UM 1 [0,1] U<|UN 1 U fun R a=>UY (jW _ z 9 om_) U7 fl_<|C6 5 [0,1,5,6] a U<|UM 1 [0,1,5,16] U<|G.cut (fun fr B r s=>(True)/\fr=[(0,[],af (txt z)),(1,[],af (txt w))]/\r=[]) ?_ (fun fr _ D s _ t=>?_)
 ·refine G.cd (fun f=>?_) fun f=>?_
  ·have g:=Qw f;rw[aJ g];have h:=AX g;rw[e9]at h;refine UN 1 U fun R a=>UY (jW _ w 9 om_) U7 fl_<|C6 5 [0,1,5,7,8] a U<|UM 1 [0,1,5,7,22] U<|G.cd (fun i=>?_) fun i=>?_
   ·have l:=Qw i;rw[aJ l];have m:=AX l;rw[e9]at m;have E:=Cj h m;exact UN 2 U fun R a=>Vt ((z*w)) U4 om_ om_ om_ U2<|UY (sZ _ d.m_ (z*w) om_ om_) U7 fl_<|C6 1 [4] a U<|UT U2<|⟨U,U⟩
   refine Vb 0 l_ (hn_ [0,1] U) ⟨trivial,U,U⟩
  refine Vb 0 l_ (hn_ [0,1] U) ⟨trivial,U,U⟩
 obtain⟨_,rfl,rfl⟩:=t;refine UN 1 U fun R a=>Vo (jo _ z om_) U7 fl_ fun F _ _ u=>UP U6<|Vo (jo _ w om_) U7 fl_ fun H _ _ v=>Ve U5 fun I=>Ve U5 (fun J=>?_);obtain⟨K,rfl,o⟩:=u;obtain⟨L,rfl,p⟩:=v;obtain⟨M,N,O,rfl⟩:=o.form;obtain⟨Q,S,T,rfl⟩:=p.form;refine UX (j:=1) U12<|UX (j:=1) U12<|US [9,10] a U<|Vg [0,1,2,3,4,5,6,7,8,9,10,11,12] [(11,1)] U kr_ fun R V a=>UP U6<|UW ae U9<|UP U6<|UW ag U9<|UR 2 U<|UW ae U9<|UP U6<|UW ag U9<|Vo (FE (k:=k) _ o.m_ p.m_ b c om_) U7 fl_ (fun W _ _ q=>?_);obtain⟨X,Y,Z,rfl⟩:=q.form;exact Vf [.bool (decide (z<0) != decide (w<0)),_] U8<|Vh (fun _=>(ku _ d.m_ _ _ _ q (dF (k:=100000) (n:=k+k) (oO b c) om_))) U9<|C6 1 [4] a U<|UT U2<|⟨by rw[F3],U⟩
def H0 (z w:Int):Nat:=if z<0/\z.natAbs % w.natAbs≠0 then z.natAbs / w.natAbs+1 else z.natAbs / w.natAbs
def CX (z w:Int):Nat:=if z<0/\z.natAbs % w.natAbs≠0 then w.natAbs-z.natAbs % w.natAbs else z.natAbs % w.natAbs
theorem HZ (i:0<w):sgZ (decide (z<0) != decide (w<0)) (H0 z w)=z / w/\(CX z w:Int)=z % w:=by
 obtain⟨n,rfl⟩:∃ n:Nat,w=n:=⟨w.natAbs,by omega⟩;have f:0<n:=by omega
 rw[RG (by omega:¬ ((n:Nat):Int)<0),Bool.bne_false];have h1:=Ue z.natAbs n;have h2:=RU z.natAbs f;obtain⟨q,d⟩:∃ q,z.natAbs / n=q:=⟨_,rfl⟩;obtain⟨r,hr⟩:∃ r,z.natAbs % n=r:=⟨_,rfl⟩;have g:sgZ (decide (z<0)) (H0 z n)=z / n/\(CX z n:Int)=z % n:=by
  have h3:=(Int.ediv_emod_unique (a:=z) (r:=(CX z n:Int)) (q:=sgZ (decide (z<0)) (H0 z n)) (by omega:(0:Int)<(n:Int))).2;have h4:(CX z n:Int)+(n:Int)*sgZ (decide (z<0)) (H0 z n)=z/\0<=(CX z n:Int)/\(CX z n:Int)<(n:Int):=by
   unfold H0 CX sgZ;simp only[RS];rw[d,hr];rw[hr,d]at h1;rw[hr]at h2;have h5:((r+n*q:Nat):Int)=(z.natAbs:Int):=by rw[h1]
   rw[TP,RF]at h5;by_cases b:z<0
   ·rw[Rt b,aJ rfl];by_cases c:r=0
    ·subst c;rw[aF ak,aF ak];rw[Int.mul_neg];omega
    rw[aJ ⟨b,c⟩,aJ ⟨b,c⟩];rw[Int.mul_neg,TP,Ul];omega
   rw[RG b,aF (fun h:z<0/\r≠0=>b h.1),aF (fun h:z<0/\r≠0=>b h.1),aF dc_];omega
  have e:=h3 h4;exact⟨e.1.symm,e.2.symm⟩
 exact g
theorem tg (C:Mem)(u:Tabs C)(z w:Int)(k:Nat)(f:0<k)(hk:k<=40000)(g:z.natAbs<B9 ^ k)(i:w.natAbs<B9 ^ k)(v:0<w):Gives cx.P 187 [af (txt z),af (txt w)] C (.tuple #[af (txt (z / w)),af (txt (z % w)),i_ 0]):=by
 have aj:=cj g f;have ak:=cj i f;have l:0<w.natAbs:=by omega
 refine UU func187 50 U3 fun w0=>UM 3 [0,1] U<|UM 2 [0,1,12] U<|G.cd (fun m=>?_) fun m=>?_
 ·have h:=kH w;rw[h]at m;have:w=0:=Qw m;omega
 refine UN 1 U fun R a=>Vo (jo _ z om_) U7 fl_ fun al _ _ K=>UP U6<|Vo (jo _ w om_) U7 fl_ fun am _ _ L=>Ve U5 fun y=>Ve U5 (fun A=>?_);obtain⟨pz,rfl,B⟩:=K;obtain⟨pw,rfl,o⟩:=L;obtain⟨M,N,O,rfl⟩:=B.form;obtain⟨Q,S,T,rfl⟩:=o.form;refine UX (j:=1) U12<|UX (j:=1) U12<|US [7,8] a U<|UN 1 U fun R a=>UW ae U9<|UP U6<|UW ag U9<|Vo (yu _ _ _ _ _ B.m_ o.m_ (dF (k:=100000) (n:=k) g om_) l) U7 fl_ (fun an _ _ V=>?_);obtain⟨vq,vr,rfl,D,p⟩:=V;refine C6 5 [7,8,9,10] a U ?_;obtain⟨b,W,X,Y⟩:=id p;obtain⟨Ar,cr,E,_⟩:=id Y;rw[au]at E;subst E;have F:b.length=0 ↔ z.natAbs % w.natAbs=0:=by
  rw[<- X,Dn W];exact Ui
 refine UN 1 U fun R a=>UW ae U9<|UR 4 U<|Vk U8<|US [7,8,9,10,31] a U<|G.cut (fun fr H Z μ=>∃ (q r:Value),(NineC H q (H0 z w)/\NineC H r (CX z w))/\fr=[(7,[],p_ y),(8,[],p_ A),(9,[],q),(10,[],r)]/\Z=[.obj A (.cells ⟨[.bool (decide (w<0)),.slice Q S T]⟩ 273 (0,0)),.obj y (.cells ⟨[.bool (decide (z<0)),.slice M N O]⟩ 273 (0,0))]) ?_ (fun fr _ ao μ _ hI=>?_)
 ·refine G.cd (fun d=>?_) fun d=>?_
  ·have c:z<0/\z.natAbs % w.natAbs≠0:=by
    have h:decide (z<0)=true/\0<b.length:=by simpa using d
    exact⟨Qw h.1,fun e=>by have:=F.2 e;omega⟩
   have s:H0 z w=z.natAbs / w.natAbs+1:=aJ c;have t:CX z w=w.natAbs-z.natAbs % w.natAbs:=aJ c;have aa:z.natAbs / w.natAbs<B9 ^ k:=R4 (Sf _ _) g;refine Vg [0,3,4,5,1,2,6,7,8] [] U kr_ fun R hB a=>UR 2 U<|UW ag U9<|UP U6<|Vj [cQ 1] U12 fun ap _ _ ab=>Vo (Mc (k:=k) _ D.m_ (⟨[1],⟨(fun x hx=>(by rw[Rw.1 hx];decide)),by simp⟩,U,ab.mono mup⟩:NineC _ _ 1) aa (Sb (by decide:1<B9 ^ 1) (Rx dc_ f)) om_) U7 fl_ fun aq _ _ ac=>Vo (uP (k:=k) _ o.m_ p.m_ i (UL (RU _ l)) om_) U7 fl_ fun ar _ _ ad=>UR 2 U<|US [7,8,9,10] a U ?_;clear a hB R;refine Vb 0 mup (hn_ [7,8,9,10] U) ⟨_,_,⟨by rw[s];exact ac.mono mup,by rw[t];exact ad.mono mup⟩,U,U⟩
  have c:¬ (z<0/\z.natAbs % w.natAbs≠0):=fun h=>by
   have h2:0<b.length:=by
    rcases Sk b.length with h3|h3
    ·exact absurd (F.1 h3) h.2
    exact h3
   have h3:(decide (z<0) && decide ((0:Int)<(b.length:Int)))=true:=by
    rw[Rt h.1,Rt om_];rfl
   rw[h3]at d;cases d
  have s:H0 z w=z.natAbs / w.natAbs:=aF c;have t:CX z w=z.natAbs % w.natAbs:=aF c;refine Vb 0 mup (hn_ [7,8,9,10] U) ⟨_,_,⟨by rw[s];exact D.mono mup,by rw[t];exact p.mono mup⟩,U,U⟩
 obtain⟨q ,r,⟨I,J⟩,rfl,rfl⟩:=hI;obtain⟨A9,m9,c9,rfl⟩:=I.form;obtain⟨av,aw,ax,rfl⟩:=J.form;have ah:H0 z w<B9 ^ 100000:=by
  have h1:z.natAbs / w.natAbs<=z.natAbs:=Sf _ _;have h2:H0 z w<=z.natAbs+1:=by unfold H0;split <;> omega
  have h3:B9 ^ k*2<=B9 ^ (k+1):=by rw[Sp];exact Sz _ dc_
  have h4:z.natAbs+1<B9 ^ (k+1):=by have:=TG (n:=k) (show 0<B9 by decide);omega
  exact dF (k:=100000) (n:=k+1) (R4 h2 h4) om_
 have ai:CX z w<B9 ^ 100000:=by
  have h1:=RU z.natAbs l;have h2:CX z w<=w.natAbs:=by unfold CX;split <;> omega
  exact dF (k:=100000) (n:=k) (R4 h2 i) om_
 refine UN 1 U fun R a=>UW ae U9<|UP U6<|UW ag U9<|UR 2 U<|Vf [.bool (decide (z<0) != decide (w<0)),_] U8<|UZ (ku _ u.m_ _ _ _ I.m_ ah) U7<|UP U6<|Vf [.bool false,_] U8<|UZ (ku _ u.m_ _ _ _ J.m_ ai) U7<|C6 3 [4,5,6] a U<|U1 (G.dropAll (VG U4 ?_));refine⟨?_,U⟩;rw[(HZ v).1,show sgZ false (CX z w)=z % w from(HZ v).2]
theorem Le (a:yY l)(b:bE l=n):0<l.length ↔ 0<n:=by
 have h:=Dn a;rw[b]at h;have h2:l.length=0 ↔ n=0:=by rw[h];exact Ui
 omega
theorem Hv (C:Mem)(s:Tabs C)(z w:Int)(k:Nat)(t:0<k)(hk:k<=40000)(u:z.natAbs<B9 ^ k)(v:w.natAbs<B9 ^ k):Gives cx.P 162 [af (txt z),af (txt w)] C (af (txt (Nat.gcd z.natAbs w.natAbs:Nat))):=by
 have ac:=cj u t;have ad:=cj v t;refine UU func162 56 U3 fun w0=>UM 1 [0,1] U<|UN 1 U fun R a=>UZ (jW _ z 18 (Q7 _)) U7<|C6 5 [0,1,5,6] a U<|UM 1 [0,1,5,18] U<|G.cut (fun fr g d e=>(True)/\fr=[(0,[],af (txt z)),(1,[],af (txt w))]/\d=[]) ?_ (fun fr _ ae e _ f=>?_)
 ·refine G.cd (fun A=>?_) fun A=>?_
  ·have B:=Qw A;rw[aJ B];have E:=AX B;rw[e18]at E;refine UN 1 U fun R a=>UZ (jW _ w 18 (Q7 _)) U7<|C6 5 [0,1,5,7,8] a U<|UM 1 [0,1,5,7,24] U<|G.cd (fun F=>?_) fun F=>?_
   ·have H:=Qw F;rw[aJ H];have I:=AX H;rw[e18]at I;refine G.loop (fun fr g d e=>∃ (x y:Int),(x.natAbs<1000000000000000000/\y.natAbs<1000000000000000000/\Nat.gcd x.natAbs y.natAbs=Nat.gcd z.natAbs w.natAbs)/\fr=[(5,[],i_ x),(7,[],i_ y)]/\d=[]/\e=y.natAbs+1) (hn_ [5,7] U) ⟨z,w,⟨E,I,U⟩,U,U,U⟩ (fun fr ag ah m L f=>?_);obtain⟨x,y,⟨ai,M,c⟩,rfl,rfl,rfl⟩:=f;refine UM 2 [5,7,26] U<|G.cd (fun j=>?_) fun j=>?_
    ·have b:y≠0:=by simpa using j
     have N:(x.tmod y).natAbs=x.natAbs % y.natAbs:=TS x y;have O:=RU x.natAbs (show 0<y.natAbs by omega);refine Vg [0,1,2,3,4,5] [] U kr_ fun R hB a=>UR 3 U<|VR (x.tmod y) U6 b U3<|C6 2 [5,7] a U<|U0 (m':=(x.tmod y).natAbs+1) om_ L (hn_ [5,7] U) ⟨y,x.tmod y,⟨M,by omega,by rw[N,<- c,Tj x.natAbs,Um y.natAbs x.natAbs,Tj]⟩,U,U,U⟩
    have b:y=0:=by simpa using j
    subst b;rw[show(0:Int).natAbs=0 from rfl,TL]at c;refine UN 3 U fun R a=>?_;have aj:IntKind.i64.wrap (0-x)=0-x:=wrap_i64 om_ om_;exact D.max ((x.natAbs:Int)) U6 om_ U2<|UY (sZ _ s.m_ (x.natAbs:Int) om_ om_) U7 fl_<|C6 1 [4] a U<|UT U2<|⟨by rw[c],U⟩
   refine Vb 0 l_ (hn_ [0,1] U) ⟨trivial,U,U⟩
  refine Vb 0 l_ (hn_ [0,1] U) ⟨trivial,U,U⟩
 obtain⟨_,rfl,rfl⟩:=f;refine UN 1 U fun R a=>Vo (jo _ z om_) U7 fl_ (fun ak _ _ Q=>?_);obtain⟨pz,rfl,S⟩:=Q;refine V3 U12<|UP U6<|Vo (jo _ w om_) U7 fl_ (fun al _ _ T=>?_);obtain⟨pw,rfl,V⟩:=T;refine V3 U12<|C6 2 [9,10] a U<|G.loop (fun fr g d e=>∃ (x y:Nat)(o p:Value),(NineC g o x/\NineC g p y/\x<B9 ^ k/\y<B9 ^ k/\Nat.gcd x y=Nat.gcd z.natAbs w.natAbs)/\fr=[(9,[],o),(10,[],p)]/\d=[]/\e=y+1) (hn_ [9,10] U) ⟨_,_,_,_,⟨S.mono mup,V.mono mup,u,v,U⟩,U,U,U⟩ (fun fr am an m _ f=>?_);obtain⟨x,y,o,p,⟨q,i,J,K,c⟩,rfl,rfl,rfl⟩:=f;obtain⟨l,W,X,Y⟩:=id i;obtain⟨ao,ap,rfl,_⟩:=id Y;rw[au]at i⊢;have Z:=Le W X;refine UM 3 [9,10,44] U<|G.cd (fun r=>?_) fun r=>?_
 ·have b:0<y:=Z.1 (by simpa using r);have O:=RU x b;refine UN 2 U fun R a=>Vo (yu _ _ _ _ _ q.m_ i.m_ (dF (k:=100000) (n:=k) J om_) b) U7 fl_ (fun aq _ _ aa=>?_);obtain⟨vq,vr,rfl,ar,ab⟩:=aa;refine C6 5 [10,12] a U<|UM 4 [9,10] U<|U0 (m':=x % y+1) om_ mup (hn_ [9,10] U) ⟨y,x % y,_,_,⟨i.mono mup,ab.mono mup,K,Tk (RU _ b) K,by rw[<- c,Tj x,Um y x,Tj]⟩,U,U,U⟩
 have b:y=0:=by
  have h:¬ 0<l.length:=by simpa using r
  omega
 subst b;rw[TL]at c;obtain⟨A9,m9,c9,rfl⟩:=q.form;exact UN 1 U fun R a=>Vf [.bool false,_] U8<|UY (ku _ s.m_ _ _ _ q.m_ (dF (k:=100000) (n:=k) J om_)) U7 fl_<|C6 1 [4] a U<|UT U2<|⟨by rw[c];rfl,U⟩
def sJ (sg:Bool)(A:Str)(B:Option Str):Value :=
 if Mq A B then .tuple #[.int .i64 (sgZ sg (bR A)),.int .i64 (Qa B),.bool true] else .tuple #[.int .i64 0,.int .i64 0,.bool false]
theorem D5 (C:Mem)(d:Bool)(A:Str)(B:Option Str)(q:∀ c∈A,dU c=true)(V:A≠[])(W:∀ b,B=some b->∀ c∈b,dU c=true)(X:(Ec d++A++dp B).length<=1000000) :
  Gives cx.P 120 [af (Ec d++A++dp B)] C (sJ d A B):=by
 obtain⟨s,hs⟩:∃ s,Ec d++A++dp B=s:=⟨_,rfl⟩;obtain⟨p,t⟩:∃ p,(Ec d).length=p:=⟨_,rfl⟩;have g:p=if d then 1 else 0:=by rw[<- t];cases d <;> rfl
 have u:∀ j c,A[j]?=some c->s[p+j]?=some c:=fun j c h=>by rw[<- hs,<- t];exact Gv _ _ _ h
 have O:∀ j,s[p+A.length+j]?=(dp B)[j]?:=fun j=>by rw[<- hs,<- t];exact Cl _ _ _ _
 have y:s.length=p+A.length+(dp B).length:=by rw[<- hs,<- t,Rf,Rf]
 have Y:0<A.length:=RX.2 V;rw[hs]at X⊢;refine UU func120 73 U3 fun w0=>UM 3 [0,2,3] U<|UM 2 [0,2,3,5,6] U<|UN 5 U fun R a=>Vy (b:=s.getD 0 0) U8 (fun _=>⟨by omega,(by rw[am,show(0:Int).toNat=0 from rfl];obtain⟨c,f⟩:∃ c,s[0]?=some c:=⟨s[0]'om_,ai om_⟩;rw[f];rfl)⟩) U2<|UP U6<|Vk U8<|US [0,2,3,5,6,15] a U<|G.cut (fun fr z i k=>(True)/\fr=[(0,[],af s),(2,[],i_ 0),(3,[],i_ 0),(5,[],i_ p),(6,[],.bool d)]/\i=[]) ?_ (fun fr _ ae k _ l=>?_)
 ·refine G.cd (fun v=>?_) fun v=>?_
  ·have n:d=true:=by
    cases d with
   |true=>rfl
   |false =>
     exfalso;rw[aF dc_]at g;subst g;obtain⟨c,f⟩:∃ c,A[0]?=some c:=⟨A[0],ai Y⟩;have h1:=u 0 c f;have h2:=q c (aM f);rw[SQ]at h1;rw[am,h1]at v;unfold dU at h2;simp at v h2;omega
   subst n;rw[aJ rfl]at g;subst g;refine UM 2 [0,2,3,5,6] U<|Vb 0 l_ (hn_ [0,2,3,5,6] U) ⟨trivial,U,U⟩
  have n:d=false:=by
   cases d with
  |false=>rfl
  |true =>
    exfalso;have h1:s[0]?=some 45:=by rw[<- hs];rfl
    rw[aJ rfl]at g;have h2:(decide ((0:Int)<((s.length:Nat):Int)) && decide ((((s.getD 0 0).toNat:Nat):Int)=45))=false:=by simpa using v
    rw[am,h1,Rt om_]at h2;exact absurd h2 dc_
  subst n;rw[aF dc_]at g;subst g;refine Vb 0 l_ (hn_ [0,2,3,5,6] U) ⟨trivial,U,U⟩
 obtain⟨_,rfl,rfl⟩:=l;refine UM 2 [0,2,3,5,6,7] U<|G.loop (fun fr z i k=>∃ (j:Nat),(j<=A.length/\j<=9)/\fr=[(0,[],af s),(2,[],i_ ((bR (A.take j):Nat):Int)),(3,[],i_ 0),(5,[],i_ ((p+j:Nat):Int)),(6,[],.bool d),(7,[],i_ p)]/\i=[]/\k=A.length-j+1) (hn_ [0,2,3,5,6,7] U) ⟨0,⟨by omega,by omega⟩,U,U,U⟩ (fun fr ag ah m Z l=>?_);obtain⟨j,⟨hj,w⟩,rfl,rfl,rfl⟩:=l;obtain⟨c,f⟩:∃ c,p+j<s.length->s[p+j]?=some c:=⟨s.getD (p+j) 0,fun h=>by rw[am,ai h];rfl⟩;refine UN 7 U fun R a=>Vy (b:=c) U8 (fun hg=>⟨by omega,f (by have h:decide (((p+j:Nat):Int)<((s.length:Nat):Int))=true:=hg.1;have h2:=Qw h;omega)⟩) U2<|UP U6<|Vk U8<|US [0,2,3,5,6,7,26] a U<|G.cd (fun x=>?_) fun x=>?_
 ·have E:p+j<s.length/\c.toNat≠47:=by
   simp at x;omega
  have F:j<A.length:=by
   rcases Rz j A.length with h|h
   ·exact h
   exfalso;obtain rfl:j=A.length:=by omega
   have h1:=f E.1;have h2:=O 0;rw[SQ,h1]at h2;cases B with
  |none=>simp[dp]at h2
  |some b =>
    simp[dp]at h2;subst h2;exact E.2 U
  obtain⟨e,o⟩:∃ c,A[j]?=some c:=⟨A[j],ai F⟩;obtain rfl:e=c:=by
   have h1:=f E.1;rw[u j e o]at h1;exact SG h1
  have Q:48<=e.toNat/\e.toNat<=57:=by simpa [dU] using q e (aM o)
  have hV:=mP q w;refine UN 2 U fun R a=>UV _ U U6<|C6 1 [0,2,3,5,6,7,32] a U<|G.cd (fun H=>?_) fun H=>?_
  ·have r:¬ A.length<=9:=by
    have:((p+j:Nat):Int)-p=9:=by simpa using H
    omega
   refine UM 3 [2,3,4] U<|U1 (G.dropAll (VG U4 ?_));refine⟨?_,U⟩;unfold sJ Mq;rw[RG r,Bool.false_and,aF dc_]
  have r:j≠9:=by
   have:¬ ((p+j:Nat):Int)-p=9:=by simpa using H
   omega
  refine UN 1 U fun R a=>UV _ U U6<|UR 2 U<|Vy U8 (fun _=>⟨by omega,u j _ o⟩) U2<|D.int (((e.toNat:Nat):Int)-48) U4 (by rw[IntKind.wrap_u8];omega) U2<|Vz (c:=((e.toNat:Nat):Int)-48) U8 f_ fl_<|UV _ U U6<|C6 1 [0,2,3,5,6,7] a U<|UN 1 U fun R a=>UV _ U U6<|C6 1 [0,2,3,5,6,7] a U ?_;rw[show 10*((bR (A.take j):Nat):Int)+(((e.toNat:Nat):Int)-48)=((bR (A.take (j+1)):Nat):Int) by rw[oY o];omega];refine U0 (m':=A.length-(j+1)+1) om_ Z (hn_ [0,2,3,5,6,7] U) ⟨j+1,⟨by omega,by omega⟩,U,U,U⟩
 have F:j=A.length:=by
  rcases Rz j A.length with h|h
  ·exfalso;obtain⟨e,o⟩:∃ c,A[j]?=some c:=⟨A[j],ai h⟩;have h1:=f om_;rw[u j e o]at h1;obtain rfl:=SG h1;have Q:48<=e.toNat/\e.toNat<=57:=by simpa [dU] using q e (aM o)
   simp at x;have:=x om_;omega
  omega
 subst F;rw[Rk];refine UM 1 [0,2,3,5,41] U<|G.cut (fun fr z i k=>(True)/\fr=[(0,[],af s),(2,[],i_ (sgZ d (bR A))),(3,[],i_ 0),(5,[],i_ ((p+A.length:Nat):Int))]/\i=[]) ?_ (fun fr _ aj k _ l=>?_)
 ·refine G.cd (fun I=>?_) fun I=>?_
  ·have n:d=true:=I;subst n;have aa:=mP q w;rw[Rk]at aa;refine UM 3 [0,2,3,5] U ?_;rw[show IntKind.i64.wrap (0-((bR A:Nat):Int))=sgZ true (bR A) by rw[wrap_i64 om_ om_];unfold sgZ;rw[aJ rfl];omega];refine Vb 0 l_ (hn_ [0,2,3,5] U) ⟨trivial,U,U⟩
  have n:d=false:=by simpa using I
  subst n;refine Vb 0 l_ (hn_ [0,2,3,5] U) ⟨trivial,U,U⟩
 obtain⟨_,rfl,rfl⟩:=l;refine UM 4 [0,2,3,5,47] U<|G.cd (fun J=>?_) fun J=>?_
 ·have ab:B=none:=by
   cases B with
  |none=>rfl
  |some b =>
    exfalso;have:p+A.length=s.length:=by simp at J;omega
    rw[y]at this;simp[dp]at this
  subst ab;refine UM 4 [2,3,4] U<|U1 (G.dropAll (VG U4 ?_));refine⟨?_,U⟩;unfold sJ Mq;rw[Rt w];rfl
 obtain⟨b,rfl⟩:∃ b,B=some b:=by
  cases B with
 |some b=>exact⟨b,rfl⟩
 |none =>
   exfalso;simp[y,dp]at J
 have S:=W b rfl;have ak:s.length=p+A.length+1+b.length:=by rw[y];simp[dp];omega
 refine UN 1 U fun R a=>UV _ U U6<|C6 1 [0,2,3,5,7] a U<|UN 1 U fun R a=>UV _ U U6<|C6 1 [0,2,3,5,7] a U<|G.loop (fun fr z i k=>∃ (j:Nat),(j<=b.length/\j<=9)/\fr=[(0,[],af s),(2,[],i_ (sgZ d (bR A))),(3,[],i_ ((bR (b.take j):Nat):Int)),(5,[],i_ ((p+A.length+1+j:Nat):Int)),(7,[],i_ ((p+A.length+1:Nat):Int))]/\i=[]/\k=b.length-j+1) (hn_ [0,2,3,5,7] U) ⟨0,⟨by omega,by omega⟩,U,U,U⟩ (fun fr al an m ac l=>?_);obtain⟨j,⟨hk,T⟩,rfl,rfl,rfl⟩:=l;refine UM 4 [0,2,3,5,7,56] U<|G.cd (fun K=>?_) fun K=>?_
 ·have L:j<b.length:=by
   have:p+A.length+1+j<s.length:=by simp at K;omega
   omega
  obtain⟨c,M⟩:∃ c,b[j]?=some c:=⟨b[j],ai L⟩;have ad:s[p+A.length+1+j]?=some c:=by rw[Tp,O,Tm 1 j];exact M
  have Q:48<=c.toNat/\c.toNat<=57:=by simpa [dU] using S c (aM M)
  have hV:=mP S T;refine UN 2 U fun R a=>UV _ U U6<|C6 1 [0,2,3,5,7,62] a U<|G.cd (fun N=>?_) fun N=>?_
  ·have r:¬ b.length<=9:=by
    have:((p+A.length+1+j:Nat):Int)-((p+A.length+1:Nat):Int)=9:=by simpa using N
    omega
   refine UM 3 [2,3,4] U<|U1 (G.dropAll (VG U4 ?_));refine⟨?_,U⟩;unfold sJ Mq;rw[show(some b).getD []=b from rfl,RG r,Bool.and_false,aF dc_]
  have r:j≠9:=by
   have:¬ ((p+A.length+1+j:Nat):Int)-((p+A.length+1:Nat):Int)=9:=by simpa using N
   omega
  refine UN 1 U fun R a=>UV _ U U6<|UR 2 U<|Vy U8 (fun _=>⟨by omega,ad⟩) U2<|D.int (((c.toNat:Nat):Int)-48) U4 (by rw[IntKind.wrap_u8];omega) U2<|Vz (c:=((c.toNat:Nat):Int)-48) U8 f_ fl_<|UV _ U U6<|C6 1 [0,2,3,5,7] a U<|UN 1 U fun R a=>UV _ U U6<|C6 1 [0,2,3,5,7] a U ?_;rw[show 10*((bR (b.take j):Nat):Int)+(((c.toNat:Nat):Int)-48)=((bR (b.take (j+1)):Nat):Int) by rw[oY M];omega];refine U0 (m':=b.length-(j+1)+1) om_ ac (hn_ [0,2,3,5,7] U) ⟨j+1,⟨by omega,by omega⟩,U,U,U⟩
 have L:j=b.length:=by
  have:¬ p+A.length+1+j<s.length:=by simp at K;omega
  omega
 subst L;rw[Rk];refine UM 5 [2,3,4] U<|U1 (G.dropAll (VG U4 ?_));refine⟨?_,U⟩;unfold sJ Mq;rw[show(some b).getD []=b from rfl,Rt w,Rt T];rfl
theorem lV {n:Int}(a:g ∣ n.natAbs):n.tdiv (g:Int)=n / (g:Int):=Int.tdiv_eq_ediv_of_dvd (TE.1 (SU.2 a))
theorem xo {n:Int}(a:d≠0):qtx (mkRat n d)=txt (n / ((Nat.gcd n.natAbs d:Nat):Int))++dp (mO (d / Nat.gcd n.natAbs d)):=by
 rw[qe,(uO n a).1,(uO n a).2]
theorem wX (C:Mem)(e:Tabs C)(n:Int)(d:Nat)(o:0<d)(p:n.natAbs<9000000000000000000)(t:d<9000000000000000000):Gives cx.P 121 [i_ n,i_ d] C (af (qtx (mkRat n d))):=by
 obtain⟨g,b⟩:∃ g,Nat.gcd n.natAbs d=g:=⟨_,rfl⟩;have u:0<g:=by rw[<- b];exact Ty _ o
 have q:g ∣ n.natAbs:=by rw[<- b];exact TZ _ _
 have v:g ∣ d:=by rw[<- b];exact T4 _ _
 have H:g<=d:=Uo o v;rw[xo om_,b];refine UU func121 35 U3 fun w0=>UM 1 [0,1] U<|UM 4 [0,1,5,6] U<|G.loop (fun fr w f h=>∃ (x y:Int),(x.natAbs<9000000000000000000/\y.natAbs<9000000000000000000/\Nat.gcd x.natAbs y.natAbs=g)/\fr=[(0,[],i_ n),(1,[],i_ d),(5,[],i_ x),(6,[],i_ y)]/\f=[]/\h=y.natAbs+1) (hn_ [0,1,5,6] U) ⟨n,d,⟨p,by omega,by rw[RS];exact b⟩,U,U,U⟩ (fun fr I J m z i=>?_);obtain⟨x,y,⟨K,A,r⟩,rfl,rfl,rfl⟩:=i;refine UM 2 [0,1,5,6,10] U<|G.cd (fun j=>?_) fun j=>?_
 ·have k:y≠0:=by simpa using j
  have B:(x.tmod y).natAbs=x.natAbs % y.natAbs:=TS x y;have L:=RU x.natAbs (show 0<y.natAbs by omega);refine Vg [0,1,2,3,4,5] [] U kr_ fun R D a=>UR 3 U<|VR (x.tmod y) U6 k U3<|C6 2 [0,1,5,6] a U<|U0 (m':=(x.tmod y).natAbs+1) om_ z (hn_ [0,1,5,6] U) ⟨y,x.tmod y,⟨A,by omega,by rw[B,<- r,Tj x.natAbs,Um y.natAbs x.natAbs,Tj]⟩,U,U,U⟩
 have k:y=0:=by simpa using j
 subst k;rw[show(0:Int).natAbs=0 from rfl,TL]at r;refine UM 2 [0,1,5,16] U<|G.cut (fun fr w f h=>(True)/\fr=[(0,[],i_ n),(1,[],i_ d),(5,[],i_ g)]/\f=[]) ?_ (fun fr _ M h _ i=>?_)
 ·refine G.cd (fun l=>?_) fun l=>?_
  ·have E:x<0:=by simpa using l
   refine UM 3 [0,1,5] U ?_;rw[show IntKind.i64.wrap (0-x)=(g:Int) by rw[wrap_i64 om_ om_];omega];refine Vb 0 l_ (hn_ [0,1,5] U) ⟨trivial,U,U⟩
  have E:¬ x<0:=by simpa using l
  rw[show x=(g:Int) by omega];refine Vb 0 l_ (hn_ [0,1,5] U) ⟨trivial,U,U⟩
 obtain⟨_,rfl,rfl⟩:=i;have F:(n / (g:Int)).natAbs<=n.natAbs:=by
  rw[Tg (TE.1 (SU.2 q)),RS];exact Sf _ _
 have s:=Sf d g;refine Vg [0,1,2,3,4,5,6,7] [] U kr_ fun R D a=>UR 2 U<|VX (n / (g:Int)) U6 om_ (lV q) (wrap_i64 om_ om_) U2<|UR 2 U<|VS (d) (g) U6 u (.inl ⟨U,by omega⟩) U2<|C6 2 [0,1] a U<|UM 2 [0,1,26] U<|G.cd (fun c=>?_) fun c=>?_
 ·have h1:d / g=1:=by
   have h2:(((d / g:Nat):Int))=1:=by simpa using c
   omega
  refine UN 1 U fun R a=>UY (fT _ e.m_ _ om_ om_) U7 fl_<|C6 1 [4] a U<|UT U2<|⟨?_,U⟩;rw[h1,ko rfl];simp[dp]
 have h1:d / g≠1:=by
  intro h2;rw[h2]at c;exact absurd c dc_
 have N:=je (n / (g:Int));have O:=je ((d / g:Nat):Int);have Q:(bj (n / (g:Int)).natAbs).length<=20:=dQ (R4 F (Tk p dc_)) dc_;have S:(bj ((d / g:Nat):Int).natAbs).length<=20:=dQ (by rw[RS];exact R4 s (Tk t dc_)) dc_;refine UN 1 U fun R a=>UY (fT _ e.m_ _ om_ om_) U7 fl_<|VI U6 (fun _=>(by simp only[Rs,RQ];omega)) U2<|UP U6<|UY (fT _ e.m_ ((d / g:Nat):Int) (Ug dc_ (UG _)) (Ug (Int.ofNat_le.2 s) om_)) U7 fl_<|VI U6 (fun _=>(by simp only[Rf,Rs,RQ];omega)) U2<|C6 1 [4] a U<|UT U2<|⟨?_,U⟩;rw[fk h1,cX,RL];rfl
theorem Hq (C:Mem)(z:Int)(d:Nat)(k:Nat)(b:0<k)(g:k<=40000)(c:z.natAbs<B9 ^ k)(e:d<B9 ^ k):Gives cx.P 134 [af (txt z),af (bj d)] C (af (txt z++dp (mO d))):=by
 have h:(txt z).length<=9*k+1:=by
  have:=cj c b;unfold txt;split
  ·simp;omega
  omega
 have i:=cj e b;refine UU func134 12 U3 fun w0=>UM 1 [0,1] U<|UM 2 [0,1,6] U<|G.cd (fun a=>?_) fun a=>?_
 ·have h1:d=1:=by rw[ry]at a;exact Qw a
  refine UM 2 [4] U<|UT U2<|⟨?_,U⟩;rw[ko h1];simp[dp]
 have h1:d≠1:=by rw[ry]at a;exact Rc a
 refine UN 1 U fun R f=>VI U6 (fun _=>(by simp only[Rs,RQ];omega)) U2<|UP U6<|VI U6 (fun _=>(by simp only[Rf,Rs,RQ];omega)) U2<|C6 1 [4] f U<|UT U2<|⟨?_,U⟩;rw[fk h1,RL];rfl
theorem F9 (C:Mem)(s:Str)(c:s.length<1000000):Gives cx.P 122 [af s] C (.tuple #[af (iX 47 s).1,af ((iX 47 s).2.getD [49])]):=by
 refine UU func122 18 U3 fun w0=>UM 2 [0] U<|UN 1 U fun R d=>UZ (MA _ s 47 c) U7<|C6 7 [4,5,6] d U<|UM 2 [4,5,14] U<|G.cd (fun a=>?_) fun a=>?_
 ·have h1:(iX 47 s).2=none:=by
   cases h:(iX 47 s).2 with
  |none=>rfl
  |some b=>rw[h]at a;simp at a
  refine UM 3 [2,3] U<|U1 (G.dropAll (Vn U3 ?_));refine⟨?_,U⟩;rw[h1];rfl
 obtain⟨b,h1⟩:∃ b,(iX 47 s).2=some b:=by
  cases h:(iX 47 s).2 with
 |some b=>exact⟨b,rfl⟩
 |none=>rw[h]at a;simp at a
 refine UM 4 [2,3] U<|U1 (G.dropAll (Vn U3 ?_));refine⟨?_,U⟩;rw[h1];rfl
theorem De {c:UInt8}:∀ {a:Str}(b:Str),c ∉ a->iX c (a++c::b)=(a,some b)
|[],b,_=>by simp[iX]
|x::a,b,h=>by
  have d:x≠c:=fun e=>h (e ▸ Q9);have hr:=De (c:=c) (a:=a) b (fun h2=>h (Rm _ h2));simp only[S3,iX,aF d,hr]
theorem yz {c:UInt8}:∀ {a:Str},c ∉ a->iX c a=(a,none)
|[],_=>rfl
|x::a,h=>by
  have b:x≠c:=fun e=>h (e ▸ Q9);have hr:=yz (c:=c) (a:=a) (fun h2=>h (Rm _ h2));simp only[iX,aF b,hr]
theorem wN (h:∀ c∈s,dU c=true):(47:UInt8) ∉ s:=fun h2=>absurd (h 47 h2) dc_
theorem wM (z:Int):(47:UInt8) ∉ txt z:=by
 unfold txt;split
 ·intro h;rcases Rp.1 h with h|h
  ·cases h
  exact wN (iI _) h
 exact wN (iI _)
theorem mR (q:Rat):iX 47 (qtx q)=(txt q.num,mO q.den):=by
 rw[qe];unfold mO;split
 ·rw[show dp none=[] from rfl,RC];exact yz (wM _)
 exact De _ (wM _)
theorem one_dec:bj 1=[49]:=by rw[bj];rfl
theorem Aq (d:Nat):(mO d).getD [49]=bj d:=by
 unfold mO;split
 ·rename_i h;subst h;exact one_dec.symm
 rfl
theorem NH (C:Mem)(q:Rat)(a:(qtx q).length<1000000):Gives cx.P 122 [af (qtx q)] C (.tuple #[af (txt q.num),af (bj q.den)]):=by
 have h:=F9 C (qtx q) a
 rwa [mR,Aq]at h
def lB (z w:Int):Rat:=mkRat (if w<0 then -z else z) w.natAbs
theorem qP (C:Mem)(f:Tabs C)(z w:Int)(k:Nat)(b:0<k)(e:k<=40000)(p:z.natAbs<B9 ^ k)(q:w.natAbs<B9 ^ k)(x:w≠0):Gives cx.P 123 [af (txt z),af (txt w)] C (af (qtx (lB z w))):=by
 have A:=cj p b;have B:=cj q b;obtain⟨y,hy⟩:∃ y,(if w<0 then -z else z)=y:=⟨_,rfl⟩;obtain⟨d,r⟩:∃ d,w.natAbs=d:=⟨_,rfl⟩;have s:d≠0:=by omega
 have D:y.natAbs=z.natAbs:=by rw[<- hy];split <;> omega
 obtain⟨g,c⟩:∃ g,Nat.gcd y.natAbs d=g:=⟨_,rfl⟩;have E:0<g:=by rw[<- c];exact Ty _ om_
 have t:g ∣ d:=by rw[<- c];exact T4 _ _
 have F:g<=d:=Uo om_ t;unfold lB;rw[hy,r,xo s,c];refine UU func123 35 U3 fun w0=>UM 1 [0,1] U<|UN 1 U fun R a=>UZ (my _ w) U7<|C6 1 [0,1,8] a U<|G.cut (fun fr u i j=>(True)/\fr=[(0,[],af (txt y)),(1,[],af (txt (d:Nat)))]/\i=[]) ?_ (fun fr _ H j _ l=>?_)
 ·refine G.cd (fun m=>?_) fun m=>?_
  ·have n:w<0:=by
    have h:eG w<0:=by simpa using m
    unfold eG at h;split at h <;> omega
   rw[aJ n]at hy;refine UN 1 U fun R a=>UY (uW _ z om_) U7 fl_<|UP U6<|UY (uW _ w om_) U7 fl_<|C6 2 [0,1] a U<|Vb 0 l_ (hn_ [0,1] U) ⟨trivial,by rw[hy,show -w=((d:Nat):Int) by omega],U⟩
  have n:¬ w<0:=by
   intro h2;have h:¬ eG w<0:=by simpa using m
   unfold eG at h;split at h <;> omega
  rw[aF n]at hy;refine Vb 0 l_ (hn_ [0,1] U) ⟨trivial,by rw[hy,show w=((d:Nat):Int) by omega],U⟩
 obtain⟨_,rfl,rfl⟩:=l;refine UN 2 U fun R a=>UY (Hv _ f.m_ y (d:Nat) k b e om_ om_) U7 fl_<|C6 1 [0,1,5] a U ?_;rw[RS,c];refine UM 2 [0,1,5,17] U<|G.cut (fun fr u i j=>(True)/\fr=[(0,[],af (txt (y / (g:Nat)))),(1,[],af (txt ((d / g:Nat):Int)))]/\i=[]) ?_ (fun fr _ I j _ l=>?_)
 ·refine G.cd (fun o=>?_) fun o=>?_
  ·refine UN 2 U fun R a=>UY (tg _ f.m_ y (g:Nat) k b e om_ om_ om_) U7 fl_<|C6 5 [0,1,5] a U<|UN 2 U fun R a=>UY (tg _ f.m_ (d:Nat) (g:Nat) k b e om_ om_ om_) U7 fl_<|C6 5 [0,1] a U<|Vb 0 l_ (hn_ [0,1] U) ⟨trivial,by rw[Int.natCast_ediv],U⟩
  have v:g=1:=by
   rw[cX,ry]at o;simpa using o
  refine Vb 0 l_ (hn_ [0,1] U) ⟨trivial,by rw[v,Nat.div_one,Int.natCast_one,Int.ediv_one],U⟩
 obtain⟨_,rfl,rfl⟩:=l;rw[cX];exact UN 2 U fun R a=>UY (Hq _ (y / (g:Nat)) (d / g) k b e (by rw[Tg (TE.1 (SU.2 (by rw[<- c];exact TZ _ _))),RS];exact R4 (Sf _ _) om_) (R4 (Sf _ _) om_)) U7 fl_<|C6 1 [4] a U<|UT U2<|⟨U,U⟩
theorem Ou {a b:Nat}(h:bj a=bj b):a=b:=by rw[<- (bB a).2,h,(bB b).2]
theorem Pc (h:txt z=txt w):z=w:=by
 have h1:=dI z;rw[h,dI w]at h1;have h2:=Ou (Un h1).1;have h3:decide (w<0)=decide (z<0):=(Un h1).2;by_cases a:w<0
 ·rw[Rt a]at h3;have:=Qw h3.symm;omega
 rw[RG a]at h3;have:=Rc h3.symm;omega
theorem gr (h:qtx a=qtx b):a=b:=by
 have h1:=mR a;rw[h,mR b]at h1;have h2:=Pc (Un h1).1;have h3:=congrArg Qa (Un h1).2;rw[mN,mN]at h3;exact Rat.ext h2.symm h3.symm
theorem Nt (a b:Rat):((⟨(qtx a).toArray⟩:ByteArray).data.toList == (⟨(qtx b).toArray⟩:ByteArray).data.toList)=decide (a=b):=by
 show(qtx a == qtx b)=_;rw[UB,SR,Rj];exact⟨gr,fun h=>by rw[h]⟩
theorem qtx_zero:qtx 0=[48]:=by
 rw[show(0:Rat)=((0:Int):Rat) from rfl,nD];unfold txt;rw[aF om_,show bj (0:Int).natAbs=bj 0 from rfl,bj];rfl
theorem dE:qtx 1=[49]:=by
 rw[show(1:Rat)=((1:Int):Rat) from rfl,nD];exact one_val.symm
theorem eK (a:Rat):((⟨(qtx a).toArray⟩:ByteArray).data.toList == (⟨#[48]⟩:ByteArray).data.toList)=decide (a=0):=by
 have h:=Nt a 0
 rwa [qtx_zero]at h
theorem LZ (a:Rat):((⟨(qtx a).toArray⟩:ByteArray).data.toList == (⟨#[49]⟩:ByteArray).data.toList)=decide (a=1):=by
 have h:=Nt a 1
 rwa [dE]at h
theorem xn (a:Rat):0<(qtx a).length:=by
 unfold qtx;rw[Rf,Rf];have:=RX.2 (nR a.num.natAbs);omega
theorem aZ (h:QB k q)(a:0<k):(qtx q).length<=18*k+2:=by
 unfold qtx;rw[Rf,Rf];have h1:=cj h.1 a;have h2:=cj h.2 a;have h3:(Ec (decide (q.num<0))).length<=1:=by cases decide (q.num<0) <;> simp[Ec]
 have h4:(dp (mO q.den)).length<=9*k+1:=by
  unfold mO;split
  ·simp[dp]
  simp[dp];exact h2
 omega
theorem lW (q:Rat):∃ c r,qtx q=c::r/\((((c.toNat:Nat):Int) == 45)=decide (q.num<0)):=by
 by_cases h:q.num<0
 ·refine⟨45,bj q.num.natAbs++dp (mO q.den), ?_,by rw[Rt h];decide⟩;unfold qtx;rw[Rt h];rfl
 obtain⟨c,r,a⟩:∃ c r,bj q.num.natAbs=c::r:=List.exists_cons_of_ne_nil (nR _);refine⟨c,r++dp (mO q.den), ?_, ?_⟩
 ·unfold qtx;rw[RG h,a];rfl
 have h2:=iI q.num.natAbs c (by rw[a];exact Q9);rw[RG h];unfold dU at h2;have h3:=Qw h2;exact RG om_
theorem fc (h:¬ q.num<0)(a:q≠0):qtx (-q)=45::qtx q:=by
 have b:q.num≠0:=fun e=>a (TT.1 e);unfold qtx;rw[UF,Rat.neg_den,Rt om_,RG h,T7];rfl
theorem kM (h:q.num<0):qtx q=45::qtx (-q):=by
 have h2:=fc (q:=-q) (by rw[UF];omega) (by intro e;have h3:=congrArg Rat.num e;rw[UF]at h3;have h4:(0:Rat).num=0:=rfl;omega)
 rwa [Rat.neg_neg]at h2
def CU (q:Rat):Bool:=Mq (bj q.num.natAbs) (mO q.den)
theorem Mp (h:(bj n).length<=9):n<1000000000:=by
 have h1:=dA (iI n);rw[(bB n).2]at h1;exact Sb h1 (Rn (Rx dc_ h) dc_)
theorem lu (h:CU q=true):q.num.natAbs<1000000000/\q.den<1000000000:=by
 unfold CU Mq at h;rw[Rq,Rj,Rj]at h;refine⟨Mp h.1, ?_⟩;by_cases h1:q.den=1
 ·omega
 rw[fk h1]at h;exact Mp h.2
theorem F8 (C:Mem)(q:Rat)(a:(qtx q).length<=1000000):Gives cx.P 120 [af (qtx q)] C (if CU q then .tuple #[i_ q.num,i_ (q.den:Nat),.bool true] else .tuple #[i_ 0,i_ 0,.bool false]):=by
 have h:=D5 C (decide (q.num<0)) (bj q.num.natAbs) (mO q.den) (iI _) (nR _) (CZ _) a;unfold sJ at h;rw[(bB _).2,mN]at h;have e:sgZ (decide (q.num<0)) q.num.natAbs=q.num:=by
  unfold sgZ;by_cases h:q.num<0
  ·rw[Rt h,aJ rfl];omega
  rw[RG h,aF dc_];omega
 rw[e]at h;exact h
theorem eJ (C:Mem)(q:Rat)(g:(qtx q).length<=1000000):Gives cx.P 78 [af (qtx q)] C (af (qtx (-q))):=by
 have h:=xn q;refine UU func78 13 U3 fun w0=>UM 1 [0] U<|UM 2 [0,4] U<|G.cd (fun h4=>?_) fun h4=>?_
 ·have h0:q=0:=by rw[eK]at h4;exact Qw h4
  refine UM 2 [2] U<|UT U2<|⟨?_,U⟩;rw[h0,Rat.neg_zero]
 have h0:q≠0:=by rw[eK]at h4;exact Rc h4
 obtain⟨c,r,f,e⟩:=lW q;refine UN 1 U fun R a=>Vy U8 (fun _=>⟨by omega,by rw[f];rfl⟩) U2<|C6 1 [0,8] a U<|G.cd (fun b=>?_) fun b=>?_
 ·have d:q.num<0:=by rw[e]at b;exact Qw b
  refine UN 1 U fun R a=>VL 1 (qtx q).length U9 (fun _=>⟨.inr ⟨_,U⟩,.inl ⟨U,U⟩,.inl ⟨U,U⟩,by omega,Q7 _,Q7 _⟩) U2<|C6 1 [2] a U<|UT U2<|⟨?_,U⟩;rw[Rk,kM d];rfl
 have d:¬ q.num<0:=by rw[e]at b;exact Rc b
 refine UN 1 U fun R a=>VI U6 (fun _=>(by simp only[Rs,RQ];omega)) U2<|C6 1 [2] a U<|UT U2<|⟨?_,U⟩;rw[fc d h0];rfl
theorem fb (C:Mem)(q:Rat)(j:(qtx q).length<=1000000):Gives cx.P 94 [af (qtx q)] C (i_ (eG q.num)):=by
 obtain⟨c,r,f,d⟩:=lW q;have k:=xn q;refine UU func94 15 U3 fun w0=>UM 1 [0] U<|UM 3 [0,3] U<|G.cd (fun h3=>?_) fun h3=>?_
 ·have h0:q=0:=by rw[eK]at h3;exact Qw h3
  refine UM 1 [2] U<|UT U2<|⟨?_,U⟩;rw[h0];rfl
 have h0:q≠0:=by rw[eK]at h3;exact Rc h3
 have g:q.num≠0:=fun e=>h0 (TT.1 e);refine UN 5 U fun R i=>Vy U8 (fun _=>⟨by omega,by rw[f];rfl⟩) U2<|UP U6<|Vk U8<|C6 1 [6] i U<|G.cd (fun a=>?_) fun a=>?_
 ·rw[d]at a;have b:q.num<0:=by
   have h:=(Rq _ _ ▸ a:_/\_).2;exact Qw h
  skip
  refine UM 1 [2] U<|UT U2<|⟨?_,U⟩;unfold eG;rw[aJ b]
 rw[d,Rt (show(0:Int)<((⟨(qtx q).toArray⟩:ByteArray).data.toList.length:Int) by show(0:Int)<(((qtx q).length:Nat):Int);omega),Up]at a;have b:¬ q.num<0:=Rc a;refine UM 1 [2] U<|UT U2<|⟨?_,U⟩;unfold eG;rw[aF b,aF g]
theorem jS (C:Mem)(q:Rat)(b:(qtx q).length<=1000000):Gives cx.P 120 [af (qtx q)] C (.tuple #[i_ (if CU q then q.num else 0),i_ (if CU q then ((q.den:Nat):Int) else 0),.bool (CU q)]):=by
 have h:=F8 C q b;cases a:CU q with
|true=>rw[a]at h;exact h
|false=>rw[a]at h;exact h
def nU (a b:Rat):Int:=if a<b then -1 else if b<a then 1 else 0
theorem vD :nU a b=wa (a.num*b.den) (b.num*a.den):=by
 unfold nU wa;simp only[Rat.lt_iff]
theorem eX (a:Rat):0<a.den:=Ta a.den_nz
theorem jZ {a:Int}(b:a.natAbs<1000000000)(c:d<1000000000):-1000000000000000000<a*(d:Int)/\a*(d:Int)<1000000000000000000:=Cj b (by rw[RS];exact c)
theorem me {a:Nat}(b:a<1000000000)(c:d<1000000000):a*d<1000000000000000000:=SA b c
theorem kY (C:Mem)(q:Rat)(a:(qtx q).length<1000000):Gives cx.P 122 [af (qtx q)] C (.tuple #[af (txt q.num),af (txt ((q.den:Nat):Int))]):=by
 have h:=NH C q a
 rwa [<- cX]at h
theorem cD (a:z.natAbs<B9 ^ k)(b:w.natAbs<B9 ^ k):(z*w).natAbs<B9 ^ (k+k):=by
 rw[Sv];exact oO a b
theorem oW (a:0<d):lB z ((d:Nat):Int)=mkRat z d:=by
 unfold lB;rw[aF om_,RS]
theorem jC (h:QB k q):((q.den:Nat):Int).natAbs<B9 ^ k:=by rw[RS];exact h.2
theorem fN (C:Mem)(m:Tabs C)(a b:Rat)(k:Nat)(f:0<k)(u:k<=20000)(d:QB k a)(e:QB k b):Gives cx.P 218 [af (qtx a),af (qtx b)] C (i_ (nU a b)):=by
 have v:=aZ d f;have w:=aZ e f;refine UU func218 65 U3 fun w0=>UM 1 [0,1] U<|UM 3 [0,1,19] U<|G.cd (fun g=>?_) fun g=>?_
 ·have h0:a=b:=by rw[Nt]at g;exact Qw g
  refine UM 1 [4] U<|UT U2<|⟨?_,U⟩;subst h0;rw[nU,aF (Rat.lt_irrefl),aF (Rat.lt_irrefl)]
 refine UN 1 U fun R c=>UY (jS _ a om_) U7 fl_<|C6 7 [0,1,5,6,7] c U<|UM 1 [0,1,5,6,26] U<|G.cut (fun fr x r s=>(True)/\fr=[(0,[],af (qtx a)),(1,[],af (qtx b))]/\r=[]) ?_ (fun fr _ y s _ t=>?_)
 ·refine G.cd (fun n=>?_) fun n=>?_
  ·have h:CU a=true:=n;rw[aJ h,aJ h];have o:=lu h;refine UN 1 U fun R c=>UY (jS _ b om_) U7 fl_<|C6 7 [0,1,5,6,8,9,10] c U<|UM 1 [0,1,5,6,8,9,33] U<|G.cd (fun p=>?_) fun p=>?_
   ·have i:CU b=true:=p;rw[aJ i,aJ i];have q:=lu i;have z:=jZ o.1 q.2;have A:=jZ q.1 o.2;refine UN 2 U fun R c=>UV _ U U6<|UR 2 U<|UV _ U U6<|C6 2 [11,12] c U<|UM 4 [11,12,40] U<|G.cd (fun j=>?_) fun j=>?_
    ·have h1:=Qw j;refine UM 1 [4] U<|UT U2<|⟨?_,U⟩;rw[vD,wa,aJ h1]
    have h1:=Rc j;refine UM 4 [44] U<|G.cd (fun l=>?_) fun l=>?_
    ·have h2:=Qw l;refine UM 1 [4] U<|UT U2<|⟨?_,U⟩;rw[vD,wa,aF h1,aJ h2]
    have h2:=Rc l;refine UM 1 [4] U<|UT U2<|⟨?_,U⟩;rw[vD,wa,aF h1,aF h2]
   refine Vb 0 l_ (hn_ [0,1] U) ⟨trivial,U,U⟩
  refine Vb 0 l_ (hn_ [0,1] U) ⟨trivial,U,U⟩
 obtain⟨_,rfl,rfl⟩:=t;exact UN 1 U fun R c=>UY (kY _ a om_) U7 fl_<|C6 5 [1,13,14] c U<|UN 1 U fun R c=>UY (kY _ b om_) U7 fl_<|C6 5 [13,14,15,16] c U<|UN 2 U fun R c=>UY (li _ m.m_ _ _ k f om_ d.1 (jC e)) U7 fl_<|UR 2 U<|UY (li _ m.m_ _ _ k f om_ e.1 (jC d)) U7 fl_<|UY (qX _ _ _ (by have:=cj (cD d.1 (jC e)) om_;omega) (by have:=cj (cD e.1 (jC d)) om_;omega)) U7 fl_<|C6 1 [4] c U<|UT U2<|⟨by rw[vD],U⟩
theorem il (C:Mem)(f:Tabs C)(a b:Rat)(k:Nat)(g:0<k)(w:k<=10000)(d:QB k a)(e:QB k b):Gives cx.P 101 [af (qtx a),af (qtx b)] C (af (qtx (a+b))):=by
 have x:=aZ d g;have y:=aZ e g;have r:=eX a;have s:=eX b;have o:0<a.den*b.den:=Tv r s;refine UU func101 67 U3 fun w0=>UM 1 [0,1] U<|UM 2 [0,1,16] U<|G.cd (fun h=>?_) fun h=>?_
 ·have h0:a=0:=by rw[eK]at h;exact Qw h
  refine UM 2 [4] U<|UT U2<|⟨?_,U⟩;rw[h0,Rat.zero_add]
 refine UM 2 [0,1,19] U<|G.cd (fun i=>?_) fun i=>?_
 ·have h0:b=0:=by rw[eK]at i;exact Qw i
  refine UM 2 [4] U<|UT U2<|⟨?_,U⟩;rw[h0,Rat.add_zero]
 refine UN 1 U fun R c=>UY (jS _ a om_) U7 fl_<|C6 7 [0,1,5,6,7] c U<|UM 1 [0,1,5,6,27] U<|G.cut (fun fr z t u=>(True)/\fr=[(0,[],af (qtx a)),(1,[],af (qtx b))]/\t=[]) ?_ (fun fr _ A u _ v=>?_)
 ·refine G.cd (fun p=>?_) fun p=>?_
  ·have j:CU a=true:=p;rw[aJ j,aJ j];have l:=lu j;refine UN 1 U fun R c=>UY (jS _ b om_) U7 fl_<|C6 7 [0,1,5,6,8,9,10] c U<|UM 1 [0,1,5,6,8,9,34] U<|G.cd (fun q=>?_) fun q=>?_
   ·have m:CU b=true:=q;rw[aJ m,aJ m];have n:=lu m;have B:=jZ l.1 n.2;have D:=jZ n.1 l.2;have E:=me l.2 n.2;exact UN 2 U fun R c=>UV _ U U6<|UR 2 U<|UV _ U U6<|UV _ U U6<|UR 2 U<|UV (((a.den*b.den:Nat):Int)) (RF _ _).symm U6<|UY (wX _ f.m_ _ _ o om_ om_) U7 fl_<|C6 1 [4] c U<|UT U2<|⟨by rw[eW],U⟩
   refine Vb 0 l_ (hn_ [0,1] U) ⟨trivial,U,U⟩
  refine Vb 0 l_ (hn_ [0,1] U) ⟨trivial,U,U⟩
 obtain⟨_,rfl,rfl⟩:=v;exact UN 1 U fun R c=>UY (kY _ a om_) U7 fl_<|C6 5 [1,11,12] c U<|UN 1 U fun R c=>UY (kY _ b om_) U7 fl_<|C6 5 [11,12,13,14] c U<|UN 2 U fun R c=>UY (li _ f.m_ _ _ k g om_ d.1 (jC e)) U7 fl_<|UR 2 U<|UY (li _ f.m_ _ _ k g om_ e.1 (jC d)) U7 fl_<|UY (N5 _ f.m_ _ _ (k+k) om_ om_ (cD d.1 (jC e)) (cD e.1 (jC d))) U7 fl_<|UR 2 U<|UY (li _ f.m_ _ _ k g om_ (jC d) (jC e)) U7 fl_<|UY (qP _ f.m_ _ _ (k+k+1) om_ om_ (R4 (Tz _ _) (uk (cD d.1 (jC e)) (cD e.1 (jC d)))) (dF (cD (jC d) (jC e)) om_) (by rw[<- RF];omega)) U7 fl_<|C6 1 [4] c U<|UT U2<|⟨by rw[eW,<- RF,oW o],U⟩
theorem Qi (c:QB k a)(d:QB k b):QB (k+k+1) (a+b):=by
 rw[eW];exact gu (Nat.ne_of_gt (Tv (eX a) (eX b))) (R4 (Tz _ _) (uk (cD c.1 (jC d)) (cD d.1 (jC c)))) (dF (oO c.2 d.2) om_)
theorem rO (c:QB k a)(d:QB k b):QB (k+k) (a*b):=by
 rw[eV];exact gu (Nat.ne_of_gt (Tv (eX a) (eX b))) (cD c.1 d.1) (oO c.2 d.2)
theorem eP (b:QB k a):QB k (-a):=⟨by rw[UF,T7];exact b.1,by rw[Rat.neg_den];exact b.2⟩
theorem kQ (c:QB k a)(d:QB k b):QB (k+k+1) (a-b):=by
 rw[Uh];exact Qi c (eP d)
theorem Dr (b:QB k a)(d:a≠0):QB k a⁻¹:=by
 have c:a.num≠0:=fun e=>d (TT.1 e);refine⟨?_, ?_⟩
 ·rw[Rat.num_inv,Sv,Int.natAbs_sign_of_ne_zero c,TH,RS];exact b.2
 rw[Rat.den_inv,aF c];exact b.1
theorem jH (c:QB k a)(d:QB k b)(e:b≠0):QB (k+k) (a / b):=by
 rw[Rat.div_def];exact rO c (Dr d e)
theorem Qh (h:z.natAbs<B9 ^ k)(a:0<k):QB k (z:Rat):=⟨h,by
 show 1<B9 ^ k;exact Sb (by decide:1<B9 ^ 1) (Rx dc_ a)⟩
theorem cP (C:Mem)(g:Tabs C)(a b:Rat)(k:Nat)(i:0<k)(z:k<=10000)(d:QB k a)(e:QB k b):Gives cx.P 60 [af (qtx a),af (qtx b)] C (af (qtx (a*b))):=by
 have A:=aZ d i;have B:=aZ e i;have w:=eX a;have x:=eX b;have q:0<a.den*b.den:=Tv w x;refine UU func60 66 U3 fun w0=>UM 1 [0,1] U<|UM 3 [0,1,15] U<|G.cut (fun fr y L' j=>(True)/\fr=[(0,[],af (qtx a)),(1,[],af (qtx b)),(15,[],.bool (decide (a=0∨b=0)))]/\L'=[]) ?_ (fun fr _ D j _ l=>?_)
 ·refine G.cd (fun f=>?_) fun f=>?_
  ·have h0:a=0:=by rw[eK]at f;exact Qw f
   rw[eK,show decide (a=0)=decide (a=0∨b=0) by simp[h0]];refine Vb 0 l_ (hn_ [0,1,15] U) ⟨trivial,U,U⟩
  have h0:¬ a=0:=by rw[eK]at f;exact Rc f
  refine UM 3 [0,1,15] U ?_;rw[eK,show decide (b=0)=decide (a=0∨b=0) by simp[h0]];refine Vb 0 l_ (hn_ [0,1,15] U) ⟨trivial,U,U⟩
 obtain⟨_,rfl,rfl⟩:=l;refine G.cd (fun r=>?_) fun r=>?_
 ·have h0:=Qw r;refine UM 1 [4] U<|UT U2<|⟨?_,U⟩;rw[show a*b=0 by rcases h0 with h|h <;> simp[h],qtx_zero];rfl
 refine UM 3 [0,1,20] U<|G.cd (fun m=>?_) fun m=>?_
 ·have h1:a=1:=by rw[LZ]at m;exact Qw m
  refine UM 2 [4] U<|UT U2<|⟨?_,U⟩;rw[h1,Rat.one_mul]
 refine UM 3 [0,1,24] U<|G.cd (fun n=>?_) fun n=>?_
 ·have h1:b=1:=by rw[LZ]at n;exact Qw n
  refine UM 2 [4] U<|UT U2<|⟨?_,U⟩;rw[h1,Rat.mul_one]
 refine UN 1 U fun R c=>UY (jS _ a om_) U7 fl_<|C6 7 [0,1,5,6,7] c U<|UM 1 [0,1,5,6,34] U<|G.cut (fun fr y L' j=>(True)/\fr=[(0,[],af (qtx a)),(1,[],af (qtx b))]/\L'=[]) ?_ (fun fr _ E j _ l=>?_)
 ·refine G.cd (fun s=>?_) fun s=>?_
  ·have o:CU a=true:=s;rw[aJ o,aJ o];have t:=lu o;refine UN 1 U fun R c=>UY (jS _ b om_) U7 fl_<|C6 7 [0,1,5,6,8,9,10] c U<|UM 1 [0,1,5,6,8,9,41] U<|G.cd (fun u=>?_) fun u=>?_
   ·have p:CU b=true:=u;rw[aJ p,aJ p];have v:=lu p;have F:=Cj t.1 v.1;have H:=me t.2 v.2;exact UN 2 U fun R c=>UV _ U U6<|UR 2 U<|UV (((a.den*b.den:Nat):Int)) (RF _ _).symm U6<|UY (wX _ g.m_ _ _ q om_ om_) U7 fl_<|C6 1 [4] c U<|UT U2<|⟨by rw[eV],U⟩
   refine Vb 0 l_ (hn_ [0,1] U) ⟨trivial,U,U⟩
  refine Vb 0 l_ (hn_ [0,1] U) ⟨trivial,U,U⟩
 obtain⟨_,rfl,rfl⟩:=l;exact UN 1 U fun R c=>UY (kY _ a om_) U7 fl_<|C6 5 [1,11,12] c U<|UN 1 U fun R c=>UY (kY _ b om_) U7 fl_<|C6 5 [11,12,13,14] c U<|UN 2 U fun R c=>UY (li _ g.m_ _ _ k i om_ d.1 e.1) U7 fl_<|UR 2 U<|UY (li _ g.m_ _ _ k i om_ (jC d) (jC e)) U7 fl_<|UY (qP _ g.m_ _ _ (k+k) om_ om_ (cD d.1 e.1) (cD (jC d) (jC e)) (by rw[<- RF];omega)) U7 fl_<|C6 1 [4] c U<|UT U2<|⟨by rw[eV,<- RF,oW q],U⟩
theorem eo (C:Mem)(e:Tabs C)(a b:Rat)(k:Nat)(c:0<k)(f:k<=10000)(g:QB k a)(d:QB k b):Gives cx.P 127 [af (qtx a),af (qtx b)] C (af (qtx (a-b))):=by
 have i:=aZ d c;exact UU func127 9 U3 fun w0=>UM 1 [0,1] U<|UN 2 U fun R h=>UY (eJ _ b om_) U7 fl_<|UZ (il _ e.m_ a (-b) k c f g (eP d)) U7<|C6 1 [4] h U<|UT U2<|⟨by rw[Uh],U⟩
theorem ik (C:Mem)(n:Tabs C)(a b:Rat)(k:Nat)(g:0<k)(o:k<=10000)(p:QB k a)(f:QB k b)(h:b≠0):Gives cx.P 70 [af (qtx a),af (qtx b)] C (.tuple #[af (qtx (a / b)),i_ 0]):=by
 have v:=aZ f g;have q:b.num≠0:=fun e=>h (TT.1 e);obtain⟨c,r,s,l⟩:=lW b;refine UU func70 27 U3 fun w0=>UM 2 [0,1] U<|UM 2 [0,1,9] U<|G.cd (fun j=>?_) fun j=>?_
 ·exfalso;rw[eK]at j;exact h (Qw j)
 refine UN 1 U fun R d=>UY (kY _ b om_) U7 fl_<|C6 5 [0,1,6,7] d U<|UN 1 U fun R d=>Vy U8 (fun _=>⟨by omega,by rw[s];rfl⟩) U2<|C6 1 [0,6,7,17] d U<|G.cut (fun fr w L' t=>(True)/\fr=[(0,[],af (qtx a)),(6,[],af (txt (b.num.natAbs:Nat))),(7,[],af (txt (b⁻¹).num))]/\L'=[]) ?_ (fun fr _ x t _ u=>?_)
 ·refine G.cd (fun i=>?_) fun i=>?_
  ·have m:b.num<0:=by rw[l]at i;exact Qw i
   refine UN 1 U fun R d=>UY (uW _ b.num (by have:=cj f.1 g;omega)) U7 fl_<|UP U6<|UY (uW _ ((b.den:Nat):Int) (by have:=cj (jC f) g;omega)) U7 fl_<|C6 2 [0,6,7] d U ?_;rw[show -b.num=((b.num.natAbs:Nat):Int) by omega,show -((b.den:Nat):Int)=(b⁻¹).num by rw[Rat.num_inv,Int.sign_eq_neg_one_of_neg m,Int.neg_one_mul]];refine Vb 0 l_ (hn_ [0,6,7] U) ⟨trivial,U,U⟩
  have m:¬ b.num<0:=by rw[l]at i;exact Rc i
  rw[show b.num=((b.num.natAbs:Nat):Int) by omega,show((b.den:Nat):Int)=(b⁻¹).num by rw[Rat.num_inv,Int.sign_eq_one_of_pos om_,Int.one_mul]];refine Vb 0 l_ (hn_ [0,6,7] U) ⟨trivial,U,U⟩
 obtain⟨_,rfl,rfl⟩:=u;rw[cX,show b.num.natAbs=(b⁻¹).den by rw[Rat.den_inv,aF q]];refine UN 3 U fun R d=>UY (Hq _ _ _ k g om_ (Dr f h).1 (Dr f h).2) U7 fl_ ?_;rw[<- qe b⁻¹];refine UZ (cP _ n.m_ a b⁻¹ k g o p (Dr f h)) U7<|C6 2 [4,5] d U<|U1 (G.dropAll (Vn U3 ?_));exact⟨by rw[Rat.div_def],U⟩
theorem Ng (C:Mem)(c:Tabs C)(z w:Int)(k:Nat)(d:0<k)(e:k<=40000)(f:z.natAbs<B9 ^ k)(g:w.natAbs<B9 ^ k)(i:w≠0):Gives cx.P 184 [af (txt z),af (txt w)] C (.tuple #[af (qtx (lB z w)),i_ 0]):=by
 refine UU func184 12 U3 fun w0=>UM 2 [0,1] U<|UN 1 U fun R a=>UZ (my _ w) U7<|C6 1 [0,1,8] a U<|G.cd (fun b=>?_) fun b=>?_
 ·exfalso;have h:eG w=0:=by simpa using b
  rcases eA w with h2|h2|h2 <;> omega
 refine UN 2 U fun R a=>UZ (qP _ c.m_ z w k d e f g i) U7<|C6 2 [4,5] a U<|U1 (G.dropAll (Vn U3 ?_));exact⟨U,U⟩
theorem Ge (C:Mem)(a:Tabs C)(z w:Int)(d:z.natAbs<9000000000000000000)(e:w.natAbs<9000000000000000000)(b:w≠0):Gives cx.P 118 [i_ z,i_ w] C (.tuple #[af (qtx (lB z w)),i_ 0]):=by
 have f:9000000000000000000<B9 ^ 3:=by decide
 refine UU func118 13 U3 fun w0=>UM 2 [0,1] U<|UN 1 U fun R c=>UY (sZ _ a.m_ z om_ om_) U7 fl_<|UP U6<|UY (sZ _ a.m_ w om_ om_) U7 fl_<|UY (Ng _ a.m_ z w 3 dc_ dc_ om_ om_ b) U7 fl_<|C6 4 [4,5] c U<|U1 (G.dropAll (Vn U3 ?_));exact⟨U,U⟩
theorem ue (C:Mem)(a:Tabs C)(z:Int)(c:z.natAbs<9000000000000000000):Gives cx.P 119 [i_ z] C (af (qtx z)):=by
 exact UU func119 5 U3 fun w0=>UM 1 [0] U<|UN 1 U fun R b=>UY (sZ _ a.m_ z om_ om_) U7 fl_<|C6 1 [2] b U<|UT U2<|⟨by rw[nD],U⟩
theorem pow9 (k:Nat):B9 ^ k=10 ^ (9*k):=by rw[Nat.pow_mul]
theorem fG (h:bS s=true):s=txt (gd s)/\(gd s).natAbs<B9 ^ 23:=by
 have h1:=nv.1 h;refine⟨yI (by unfold bS at h;exact(Ub.1 h).1), ?_⟩;rw[Db];have h2:=uJ.1 h1.1;have h3:=dA h2.1.1;exact Sb h3 (by rw[pow9];exact Rx dc_ om_)
theorem LY (h:aS s=true):∃ q:Rat,s=qtx q/\QB 23 q:=by
 unfold aS at h;rw[Rq,Rq]at h;obtain⟨⟨h1,h2⟩,h3⟩:=h;obtain⟨a,b⟩:=fG h1;rcases gY 47 s with⟨d,_,_⟩|⟨c,post,d,hs,_⟩
 ·rw[d]at a b;exact⟨((gd s:Int):Rat),by rw[nD];exact a,Qh b dc_⟩
 rw[d]at h2 h3 a b;simp only[Sr]at h2 a b;obtain⟨e,f⟩:=fG h2;unfold lU at h3;simp only[Rq,Rj,SR]at h3;obtain⟨⟨h4,_⟩,g⟩:=h3;have i:(gd post).natAbs≠0:=by omega
 refine⟨⟨gd c,(gd post).natAbs,i,g⟩, ?_,b,f⟩;rw[qe];show s=txt (gd c)++dp (mO (gd post).natAbs);rw[fk om_,<- a,hs];show c++47::post=c++47::bj (gd post).natAbs;rw[<- cX,show(((gd post).natAbs:Nat):Int)=gd post by omega,<- e]
theorem rZ (C:Mem)(b:Str)(a:bS b=true):Gives cx.P 161 [af b,af [49]] C (i_ (wa (gd b) 1)):=by
 obtain⟨h1,h2⟩:=fG a;have h:=qX C (gd b) 1 (by have:=cj h2 dc_;omega) (by rw[show bj (1:Int).natAbs=[49] from one_dec];decide)
 rwa [<- one_val,<- h1]at h
theorem Eu (C:Mem)(c:Tabs C)(a b:Str)(d:bS a=true)(e:bS b=true):Gives cx.P 162 [af a,af b] C (af (txt (Nat.gcd (gd a).natAbs (gd b).natAbs:Nat))):=by
 obtain⟨h1,h2⟩:=fG d;obtain⟨h3,h4⟩:=fG e;have h:=Hv C c (gd a) (gd b) 23 dc_ dc_ h2 h4
 rwa [<- h1,<- h3]at h
theorem yD {b:Bool}(h:(oG b != 0)=false):b=true:=by cases b <;> first|rfl|(exact absurd h dc_)
theorem dD (C:Mem)(y:Tabs C)(s:Str)(A:s.length<=999998):Gives cx.P 103 [af s] C (i_ (oG (aS s))):=by
 have u:=xl A;obtain⟨c,f,l⟩:∃ a b,iX 47 s=(a,b):=⟨_,_,rfl⟩;have k:aS s=(bS c && bS (f.getD [49]) && lU (gd c) f):=by
  unfold aS;rw[l]
 rw[l]at u;simp only at u;refine UU func103 39 U3 fun w0=>UM 1 [0] U<|UN 1 U fun R g=>UY (by have h:=MA C s 47 om_;rw[l]at h;exact h) U7 fl_<|C6 7 [3,4,5] g U<|UN 1 U fun R g=>UZ (yd _ c) U7<|C6 1 [3,4,5,16] g U<|G.cd (fun i=>?_) fun i=>?_
 ·have j:aS s=false:=by
   rw[k];cases h1:bS c with
  |false=>rfl
  |true=>rw[h1]at i;exact absurd i dc_
  exact UM 1 [2] U<|UT U2<|⟨by rw[j];rfl,U⟩
 have m:bS c=true:=by
  cases h1:bS c with
 |true=>rfl
 |false=>rw[h1]at i;exact absurd i dc_
 rw[m,Up]at k;obtain⟨v,B⟩:=fG m;refine UM 2 [3,4,18] U<|G.cd (fun n=>?_) fun n=>?_
 ·have o:f=none:=by
   cases f with
  |none=>rfl
  |some b=>simp at n
  refine UM 1 [2] U<|UT U2<|⟨?_,U⟩;rw[k,o];rfl
 obtain⟨b,o⟩:∃ b,f=some b:=by
  cases f with
 |some b=>exact⟨b,rfl⟩
 |none=>simp at n
 subst o;obtain⟨d,w⟩:∃ z,gd c=z:=⟨_,rfl⟩;obtain⟨e,x⟩:∃ z,gd b=z:=⟨_,rfl⟩;have p:aS s=(bS b && lU (gd c) (some b)):=k;unfold lU at p;simp only[w,x]at p v B;have D:(c == [48])=(d == 0):=by
  rw[v];have h:=kH d;rw[show(d == 0)=decide (d=0) by by_cases h:d=0 <;> simp[h]];exact h
 have E:(oG (bS b) != 0)=!bS b:=by cases bS b <;> rfl
 have F:decide (wa e 1<=0)=!decide (1<e):=by
  unfold wa;by_cases h:1<e
  ·rw[aF om_,aJ h,Rt h];rfl
  rw[RG h];refine Rt ?_;split <;> first|omega|(split <;> omega)
 have q:(oG (bS b) != 0 || decide (wa (gd b) 1<=0) || (c == [48]) || !(bj ((gd c).natAbs.gcd (gd b).natAbs) == [49]))=!aS s:=by
  have H:=ry (d.natAbs.gcd e.natAbs);have I:(bj (d.natAbs.gcd e.natAbs) == [49])=(d.natAbs.gcd e.natAbs == 1):=H;rw[w,x,D,E,F,I,p];cases bS b <;> cases decide (1<e) <;> cases (d == 0) <;> cases (d.natAbs.gcd e.natAbs == 1) <;> rfl
 rw[<- cX]at q;refine UM 4 [6,7] U<|UN 1 U fun R g=>UZ (yd _ b) U7<|UR 3 U<|Vh (fun r=>(rZ _ b (by exact yD (show(oG (bS b) != 0)=false/\True from r).1))) U9<|UP U6<|Vq U8<|UR 3 U<|Vq U8<|UR 3 U<|Vh (fun r=>(Eu _ y.m_ c b m (by exact yD (SK.1 (SK.1 (show(((oG (bS b) != 0) || decide (wa (gd b) 1<=0)) || (c == [48]))=false/\True from r).1).1).1))) U9<|UP U6<|Vq U8<|US [38] g U<|G.cd (fun t=>?_) fun t=>?_
 ·have j:aS s=false:=by
   have h:(!aS s)=true:=q.symm.trans t;simpa using h
  exact UM 1 [2] U<|UT U2<|⟨by rw[j];rfl,U⟩
 have j:aS s=true:=by
  have h:(!aS s)=false:=q.symm.trans t;simpa using h
 exact UM 1 [2] U<|UT U2<|⟨by rw[j];rfl,U⟩
theorem wj:∀ {l:List Nat}{j y:Nat},j<l.length->bq (l.set j y)+BP ^ j*gP l j=bq l+BP ^ j*y
|[],_,_,h=>absurd h (Nat.not_lt_zero _)
|x::l,0,y,_=>by
  rw[List.set_cons_zero,Nat.pow_zero,TH,TH];show y+BP*bq l+x=x+BP*bq l+y;omega
|x::l,j+1,y,h=>by
  have a:=wj (l:=l) (j:=j) (y:=y) (by simpa using h);rw[List.set_cons_succ,Sp];show x+BP*bq (l.set j y)+BP ^ j*BP*gP l j=x+BP*bq l+BP ^ j*BP*y;rw[RT (BP ^ j) BP,SP,SP,Tp,Tp,<- Sg,<- Sg,a]
theorem yg {j z:Nat}(h:i≠j):gP (l.set i z) j=gP l j:=by
 unfold gP;rw[am,am,Ua h]
theorem HF {z:Nat}(h:i<l.length):gP (l.set i z) i=z:=by
 unfold gP;rw[am,T2 h];rfl
theorem KH (n j:Nat):gP (List.replicate n 0) j=0:=by
 unfold gP;rw[am,Sq];split <;> rfl
theorem PZ (h:DigP l)(i:Nat):gP l i<=9999:=by
 rcases Rz i l.length with h1|h1
 ·have h2:=h _ (aM (iV h1).2);have h3:BP=10000:=rfl;omega
 unfold gP;rw[am,Ri h1];exact Re _
theorem Bx (l:List Nat)(k:Nat):bq (l.take (k+1))=bq (l.take k)+BP ^ k*gP l k:=by
 rcases Rz k l.length with h|h
 ·exact gF (iV h).2
 have e:gP l k=0:=by unfold gP;rw[am,Ri h];rfl
 rw[e,RH h,RH om_,UK,SQ]
theorem wx (C:Mem)(H I:Value)(a b:List Nat)(n:Sl C 1 H (a.map aW))(p:Sl C 1 I (b.map aW))(W:DigP a)(X:DigP b)(ac:a.length<=5000)(ad:b.length<=5000) :
  Pur cx.P 178 [H,I] C fun u s=>PieC s u (bq a*bq b):=by
 obtain⟨J,c0,rfl,_⟩:=id n;obtain⟨K,L,rfl,_⟩:=id p;simp only[au]at n p⊢;obtain⟨N,hN⟩:∃ N,a.length+b.length=N:=⟨_,rfl⟩;refine UU func178 45 U3 fun w0=>UM 1 [0,1] U<|UN 4 U fun R c=>Vt (((N:Nat):Int)) U4 om_ om_ om_ U2<|VQ U9 (Q7 _) (by show 8*N<=281474976710656;omega) y_ fl_ fun d=>C6 1 [0,1,5] c U<|UM 1 [0,1,5,6] U<|Vc (L':=[.arr (s_ d N N) 3 1 N ((List.replicate N 0).map aW).flatten]) (by rw[<- LC];rfl)<|G.loop (fun fr s f t=>∃ (i:Nat)(o:List Nat),(i<=a.length/\o.length=N/\(∀ j,gP o j<=i*100000000)/\bq o=bq (a.take i)*bq b)/\fr=[(0,[],.slice J a.length c0),(1,[],.slice K b.length L),(5,[],s_ d N N),(6,[],i_ i)]/\f=[.arr (s_ d N N) 3 1 N (o.map aW).flatten]/\t=a.length-i) (hn_ [0,1,5,6] U) ⟨0,List.replicate N 0,⟨Re _,RI,fun j=>by rw[KH];omega,by rw[sq (fun x g=>S9 g)];simp[bq]⟩,U,U,U⟩ (fun fr ae af m _ v=>?_);obtain⟨i,o,⟨hi,M,w,O⟩,rfl,rfl,rfl⟩:=v;refine UM 4 [0,1,5,6,17] U<|G.cd (fun z=>?_) fun z=>?_
 ·have A:i<a.length:=by simpa using z
  have g:=PZ W i;refine UM 1 [0,1,5,6,7] U<|G.loop (fun fr s f t=>∃ (k:Nat)(q:List Nat),(k<=b.length/\q.length=N/\(∀ j,gP q j<=(i+1)*100000000)/\(∀ j,i+k<=j->gP q j<=i*100000000)/\bq q=bq o+BP ^ i*(gP a i*bq (b.take k)))/\fr=[(0,[],.slice J a.length c0),(1,[],.slice K b.length L),(5,[],s_ d N N),(6,[],i_ i),(7,[],i_ k)]/\f=[.arr (s_ d N N) 3 1 N (q.map aW).flatten]/\t=b.length-k) (hn_ [0,1,5,6,7] U) ⟨0,o,⟨Re _,M,fun j=>Rn (w j) (RV _ om_),fun j _=>w j,by simp[bq]⟩,U,U,U⟩ (fun fr ah ai m _ v=>?_);obtain⟨k,q,⟨hk,B,Q,S,D⟩,rfl,rfl,rfl⟩:=v;refine UM 4 [0,1,5,6,7,23] U<|G.cd (fun E=>?_) fun E=>?_
  ·have F:k<b.length:=by simpa using E
   have hy:=PZ X k;have Y:=(iV (l:=q) (k:=i+k) om_).2;have hold:=S (i+k) (Q7 _);have aj:gP a i*gP b k<=100000000:=Rn (Su g hy) dc_;refine Vg [0,1,2,3,4,5,6,7,8,9,10,11,12,13,14,15,16,17] [] U kr_ fun R hB c=>UR 3 U<|Vt (((i+k:Nat):Int)) U4 om_ om_ om_ U2<|Vp ((i+k)*1) U10 w_ U2<|VE ag U6 (fun _=>(by rw[dO eh Y];rfl)) U2<|UR 2 U<|Va n.m_ U10 om_ (iV A).1 fl_ fun ak Z=>UO Z U8<|UR 2 U<|Va p.m_ U10 om_ (iV F).1 fl_ fun al aa=>UO aa U8<|UV (((gP a i*gP b k:Nat):Int)) (RF _ _).symm U6<|Vt (((gP q (i+k)+gP a i*gP b k:Nat):Int)) U4 om_ om_ om_ U2<|Vp ((i+k)*1) U10 w_ U2<|Vr (j:=0) U11 (by show(i+k)*1+1<=_;rw[bT eh,B];omega)<|US [0,1,5,6,7] c U<|UN 1 U fun R c=>UV _ U U6<|C6 1 [0,1,5,6,7] c U<|Vc (L':=[.arr (s_ d N N) 3 1 N ((q.set (i+k) (gP q (i+k)+gP a i*gP b k)).map aW).flatten]) (by rw[<- bM eh _ (by omega:i+k<q.length)];rfl)<|U0 (m':=b.length-(k+1)) om_ mup (hn_ [0,1,5,6,7] U) ⟨k+1,q.set (i+k) (gP q (i+k)+gP a i*gP b k),⟨by omega,by simp[B],fun j=>by
    by_cases h:i+k=j
    ·subst h;rw[HF om_,SL];omega
    ·rw[yg h];exact Q j,fun j T=>by rw[yg om_];exact S j om_,by
    have h:=wj (l:=q) (j:=i+k) (y:=gP q (i+k)+gP a i*gP b k) om_;rw[Sg (BP ^ (i+k))]at h;rw[Bx,Sg (gP a i),Sg (BP ^ i),<- Tp,<- D];have e:BP ^ i*(gP a i*(BP ^ k*gP b k))=BP ^ (i+k)*(gP a i*gP b k):=by
     rw[Tn,<- SP (gP a i),RT (gP a i) (BP ^ k),SP,<- SP (BP ^ i)]
    rw[e];omega⟩,rfl,rfl,rfl⟩
  have F:k=b.length:=by
   have:¬ k<b.length:=by simpa using E
   omega
  refine UN 1 U fun R c=>UV _ U U6<|C6 1 [0,1,5,6] c U<|U0 (m':=a.length-(i+1)) om_ mup (hn_ [0,1,5,6] U) ⟨i+1,q,⟨by omega,B,Q,by
   rw[F,Rk]at D;rw[Bx,SL,<- O,SP];exact D⟩,U,U,U⟩
 have A:i=a.length:=by
  have:¬ i<a.length:=by simpa using z
  omega
 refine G.freezeArr 0 ((o.map fun(x:Nat)=>(x:Int)).map nP) ⟨rfl,(by rw[R8];rfl)⟩ (by intro r hr;obtain⟨x,_,rfl⟩:=Ra.1 hr;rfl) (by simp[M]) fun _ _ ab=>UN 1 U fun R c=>Vo (Dl _ _ (o.map fun(x:Nat)=>(x:Int)) ab.m_ (by rw[oH];omega) (by
  intro x g;obtain⟨y,hy,rfl⟩:=Ra.1 g;obtain⟨j,T⟩:=SE hy;have h1:=w j;have h2:gP o j=y:=by unfold gP;rw[am,T];rfl
  rw[h2]at h1;have h3:i*100000000<=5000*100000000:=RV _ om_;omega) (by rw[au];omega)) U7 fl_ (fun an _ _ V=>?_)
 refine C6 1 [4] c U<|UT U2<|⟨U, ?_⟩;rw[oH,S6,O,A,Rk]at V;exact V
theorem IH (h:(bj z.natAbs).length<=m):z.natAbs<10 ^ m:=by
 obtain⟨h2,h3⟩:=bB z.natAbs;have h4:=dA h2.1;rw[h3]at h4;exact Sb h4 (Rx dc_ h)
theorem AN (h:Bh l)(a:bq l<BP ^ m*BP ^ n):l.length<=m+n:=kw h (by rw[Tn];exact a)
theorem fU (C:Mem)(d:Tabs C)(z w:Int)(b:z.natAbs<BP ^ 200)(c:w.natAbs<BP ^ 200):Gives cx.P 111 [af (txt z),af (txt w)] C (af (txt (z*w))):=by
 have A:=RX.2 (nR z.natAbs);have B:=RX.2 (nR w.natAbs);refine UU func111 52 U3 fun w0=>UM 1 [0,1] U<|UN 1 U fun R a=>UZ (dC _ z) U7<|C6 5 [0,1,5,6] a U<|UN 1 U fun R a=>UZ (dC _ w) U7<|C6 5 [0,1,5,6,7,8] a U ?_;have D:=eC b;have E:=eC c;refine UN 4 U fun R a=>UV ((((bj z.natAbs).length+(bj w.natAbs).length:Nat):Int)) (TP _ _).symm U6<|C6 1 [0,1,5,6,7,8,28] a U<|G.cd (fun e=>?_) fun e=>?_
 ·have l:(bj z.natAbs).length+(bj w.natAbs).length<=18:=by
   have h:=Qw e;omega
  have o:(z*w).natAbs<10 ^ 18:=by
   have h1:=IH (z:=z) (Q7 _);have h2:=IH (z:=w) (Q7 _);rw[Sv];refine Sb (SA h1 h2) ?_;rw[<- Tn];exact Rx dc_ l
  rw[e18]at o;exact UN 1 U fun R a=>UY (uo _ z om_) U7 fl_<|C6 5 [1,9] a U<|UN 1 U fun R a=>UY (uo _ w om_) U7 fl_<|C6 5 [9,11] a U<|UN 2 U fun R a=>UV _ U U6<|UY (gR _ d.m_ (z*w) om_ om_) U7 fl_<|C6 1 [4] a U<|UT U2<|⟨U,U⟩
 refine UN 4 U fun R a=>Vu (gk _ z.natAbs b) U7 fun F _ _ p=>UP U6<|Vu (gk _ w.natAbs c) U7 (fun H _ _ q=>?_);obtain⟨r,s,f,I,t⟩:=p;obtain⟨u,v,g,J,x⟩:=q;refine Vo (wx _ _ _ r u t.m_ x.m_ s.1 v.1 om_ om_) U7 fl_ (fun K _ _ y=>?_);obtain⟨lp,i,j,k⟩:=y;have L:lp.length<=400:=AN (m:=200) (n:=200) i (by rw[j,f,g];exact SA b c);obtain⟨M,N,rfl,_⟩:=id k;refine UY (nJ _ d.m_ _ _ lp k.m_ i.1 om_) U7 fl_<|C6 1 [4] a U<|UT U2<|⟨?_,U⟩;rw[j,f,g];show af (txt (sgZ (decide (z<0) != decide (w<0)) (z.natAbs*w.natAbs)))=_;rw[F3]
theorem Po (z:Int)(b:g ∣ z.natAbs):sgZ (decide (z<0) != false) (z.natAbs / g)=z / (g:Int):=by
 obtain⟨m,hm⟩:=b;rcases Sk g with h|c
 ·subst h;have a:z=0:=by omega
  subst a;rfl
 rw[hm,Nat.mul_div_cancel_left _ c,Bool.bne_false];unfold sgZ;by_cases a:z<0
 ·rw[Rt a,aJ rfl,show z=(g:Int)*(-(m:Int)) by rw[Int.mul_neg,<- RF];omega,Int.mul_ediv_cancel_left _ om_]
 rw[RG a,aF dc_,show z=(g:Int)*(m:Int) by rw[<- RF];omega,Int.mul_ediv_cancel_left _ om_]
theorem yt (C:Mem)(c:Tabs C)(z:Int)(b:Nat)(m:z.natAbs<BP ^ 200)(n:b<BP ^ 200)(F:0<b)(d:b ∣ z.natAbs):Gives cx.P 168 [af (txt z),af (bj b)] C (.tuple #[af (txt (z / (b:Int))),af (bj 0)]):=by
 have H:=OO;have o:z.natAbs % b=0:=Nat.mod_eq_zero_of_dvd d;have f:(b:Int) ∣ z:=TE.1 (SU.2 d);have I:(z / (b:Int)).natAbs<=z.natAbs:=by
  rw[Tg f,RS];exact Sf _ _
 refine UU func168 93 U3 fun w0=>UM 2 [0,1] U<|UN 1 U fun R a=>UZ (ph C z) U7<|C6 5 [0,1,6,7] a U<|UN 1 U fun R a=>UZ (rH _ b) U7<|C6 5 [0,1,6,7,8,9] a U<|UN 3 U fun R a=>Vk U8<|US [0,1,6,8,31] a U<|G.cd (fun g=>?_) fun g=>?_
 ·have hs:(bj z.natAbs).length<=17/\(bj b).length<=17:=by simpa using g
  have h1:=pg hs.1;have h2:=rI hs.2;rw[aJ hs.1,aJ hs.2];refine Vg [0,1,2,3,4,5,6,7] [] U kr_ fun R J a=>UR 2 U<|VX (z / (b:Int)) U6 om_ (lV d) (wrap_i64 om_ om_) U2<|UR 2 U<|VR 0 U6 om_ ⟨(Int.tmod_eq_zero_of_dvd f),U,U⟩<|C6 2 [6,8,10,11] a U<|UM 2 [6,8,10,11,39] U<|G.cd (fun h=>?_) fun h=>?_
  ·exfalso;simp at h
  refine UN 1 U fun R a=>UY (gR _ c (z / (b:Int)) om_ om_) U7 fl_<|UP U6<|UY (GN _ c 0 om_) U7 fl_<|C6 2 [4,5] a U<|U1 (G.dropAll (Vn U3 ?_));exact⟨U,U⟩
 refine UN 1 U fun R a=>UZ (dC _ z) U7<|C6 5 [1,12,13] a U<|UN 1 U fun R a=>UZ (pK _ b) U7<|C6 5 [12,13,14,15] a U<|UN 1 U fun R a=>Vu (gk _ z.natAbs m) U7 (fun K _ _ p=>?_);obtain⟨lp,q,r,L,s⟩:=p;refine UP U6<|Vu (gk _ b n) U7 (fun M _ _ t=>?_);obtain⟨u,v,w,N,x⟩:=t;refine Vo (Cv _ _ _ lp u s.m_ x.m_ q.1 v om_ om_ om_) U7 fl_ (fun O _ _ y=>?_);obtain⟨u1,Q,rfl,i,e⟩:=y;rw[r,w]at i e;rw[o]at e;obtain⟨l1,A,B,S,D⟩:=PieC.take i (by have:=Sf z.natAbs b;omega);obtain⟨l2,j,E,T,k⟩:=PieC.take e om_;obtain⟨A2,c2,rfl,_⟩:=id k;obtain rfl:=(Dm j).1 E;refine C6 5 [12,14,15,16,17] a U<|UN 5 U fun R a=>Vk U8<|US [12,14,15,16,17,78] a U<|G.cd (fun l=>?_) fun l=>?_
 ·exfalso;simp at l
 refine UN 4 U fun R a=>UY (nJ _ c.m_ _ _ l1 D.m_ A.1 om_) U7 fl_<|UP U6<|UY (uQ _ c.m_ _ [] k.m_ j.1 ak) U7 fl_<|C6 2 [4,5] a U<|U1 (G.dropAll (Vn U3 ?_));refine⟨?_,U⟩;show Value.tuple #[af (txt (sgZ (decide (z<0) != false) (bq l1))),_]=_;rw[B,Po z d];rfl
theorem sX (C:Mem)(e:Tabs C)(n:Int)(d:Nat)(o:0<d)(p:n.natAbs<9000000000000000000)(u:d<9000000000000000000):Gives cx.P 108 [i_ n,i_ d] C (af (qtx (mkRat n d))):=by
 obtain⟨g,b⟩:∃ g,Nat.gcd n.natAbs d=g:=⟨_,rfl⟩;have v:0<g:=by rw[<- b];exact Ty _ o
 have q:g ∣ n.natAbs:=by rw[<- b];exact TZ _ _
 have w:g ∣ d:=by rw[<- b];exact T4 _ _
 have N:g<=d:=Uo o w;have z:(n / (g:Int)).natAbs<=n.natAbs:=by
  rw[Tg (TE.1 (SU.2 q)),RS];exact Sf _ _
 have r:=Sf d g;rw[xo om_,b];refine UU func108 36 U3 fun w0=>UM 1 [0,1] U<|UM 2 [0,1,8] U<|G.cut (fun fr A f i=>(True)/\fr=[(0,[],i_ (n / (g:Int))),(1,[],i_ ((d / g:Nat):Int))]/\f=[]) ?_ (fun fr _ O i _ j=>?_)
 ·refine G.cd (fun s=>?_) fun s=>?_
  ·skip
   refine UN 3 U fun R a=>?_;have Q:IntKind.i64.wrap (0-n)=0-n:=wrap_i64 om_ om_;refine D.max ((n.natAbs:Int)) U6 om_ U2<|C6 3 [0,1,5,6] a U<|G.loop (fun fr A f i=>∃ (x y:Int),(x.natAbs<9000000000000000000/\0<=x/\0<=y/\y.natAbs<9000000000000000000/\Nat.gcd x.natAbs y.natAbs=g)/\fr=[(0,[],i_ n),(1,[],i_ d),(5,[],i_ x),(6,[],i_ y)]/\f=[]/\i=y.natAbs+1) (hn_ [0,1,5,6] U) ⟨(n.natAbs:Int),d,⟨p,by omega,by omega,by omega,by rw[RS];exact b⟩,U,U,U⟩ (fun fr S T m B j=>?_);obtain⟨x,y,⟨V,E,F,H,t⟩,rfl,rfl,rfl⟩:=j;refine UM 2 [0,1,5,6,15] U<|G.cd (fun k=>?_) fun k=>?_
   ·have l:y≠0:=by simpa using k
    have I:(x.tmod y).natAbs=x.natAbs % y.natAbs:=TS x y;have W:=RU x.natAbs (show 0<y.natAbs by omega);have J:=Int.tmod_nonneg y E;refine Vg [0,1,2,3,4,5] [] U kr_ fun R K a=>UR 3 U<|VR (x.tmod y) U6 l U3<|C6 2 [0,1,5,6] a U<|U0 (m':=(x.tmod y).natAbs+1) om_ B (hn_ [0,1,5,6] U) ⟨y,x.tmod y,⟨H,F,J,by omega,by rw[I,<- t,Tj x.natAbs,Um y.natAbs x.natAbs,Tj]⟩,U,U,U⟩
   have l:y=0:=by simpa using k
   subst l;rw[show(0:Int).natAbs=0 from rfl,TL]at t;obtain rfl:x=(g:Int):=by omega
   refine Vg [0,1,2,3,4,5,6,7] [] U kr_ fun R K a=>UR 2 U<|VX (n / (g:Int)) U6 om_ (lV q) (wrap_i64 om_ om_) U2<|UR 2 U<|VS (d) (g) U6 v (.inl ⟨U,by omega⟩) U2<|C6 2 [0,1] a U<|Vb 0 mup (hn_ [0,1] U) ⟨trivial,U,U⟩
  have L:d=1:=by
   have h:(d:Int)=1:=by simpa using s
   omega
  subst L;have M:g=1:=by omega
  refine Vb 0 l_ (hn_ [0,1] U) ⟨trivial,by rw[M,Nat.div_one,Int.natCast_one,Int.ediv_one],U⟩
 obtain⟨_,rfl,rfl⟩:=j;refine UM 2 [0,1,27] U<|G.cd (fun c=>?_) fun c=>?_
 ·have h1:d / g=1:=by
   have h2:(((d / g:Nat):Int))=1:=by simpa using c
   omega
  refine UN 1 U fun R a=>UY (fT _ e.m_ _ om_ om_) U7 fl_<|C6 1 [4] a U<|UT U2<|⟨?_,U⟩;rw[h1,ko rfl];simp[dp]
 have h1:d / g≠1:=by
  intro h2;rw[h2]at c;exact absurd c dc_
 have X:=je (n / (g:Int));have Y:=je ((d / g:Nat):Int);have Z:(bj (n / (g:Int)).natAbs).length<=20:=dQ (R4 z (Tk p dc_)) dc_;have aa:(bj ((d / g:Nat):Int).natAbs).length<=20:=dQ (by rw[RS];exact R4 r (Tk u dc_)) dc_;refine UN 1 U fun R a=>UY (fT _ e.m_ _ om_ om_) U7 fl_<|VI U6 (fun _=>(by simp only[Rs,RQ];omega)) U2<|UP U6<|UY (fT _ e.m_ ((d / g:Nat):Int) (Ug dc_ (UG _)) (Ug (Int.ofNat_le.2 r) om_)) U7 fl_<|VI U6 (fun _=>(by simp only[Rf,Rs,RQ];omega)) U2<|C6 1 [4] a U<|UT U2<|⟨?_,U⟩;rw[fk h1,cX,RL];rfl
theorem CF (h:(txt z).length<=9):z.natAbs<1000000000:=by
 have h1:=AX h
 rwa [e9]at h1
theorem FT (C:Mem)(k:Tabs C)(z w:Int)(A:(txt z).length<=9)(B:(txt w).length<=9)(S:w≠0):Gives cx.P 164 [af (txt z),af (txt w)] C (af (qtx (lB z w))):=by
 have T:=CF A;have V:=CF B;obtain⟨n,i⟩:∃ y,(if w<0 then -z else z)=y:=⟨_,rfl⟩;obtain⟨d,D⟩:∃ d,w.natAbs=d:=⟨_,rfl⟩;have r:0<d:=by omega
 have E:n.natAbs<1000000000:=by rw[<- i];split <;> omega
 unfold lB;rw[i,D];obtain⟨g,b⟩:∃ g,Nat.gcd n.natAbs d=g:=⟨_,rfl⟩;have F:0<g:=by rw[<- b];exact Ty _ r
 have s:g ∣ n.natAbs:=by rw[<- b];exact TZ _ _
 have H:g ∣ d:=by rw[<- b];exact T4 _ _
 have W:g<=d:=Uo r H;have I:(n / (g:Int)).natAbs<=n.natAbs:=by
  rw[Tg (TE.1 (SU.2 s)),RS];exact Sf _ _
 have t:=Sf d g;rw[xo om_,b];refine UU func164 55 U3 fun w0=>UM 1 [0,1] U<|UN 1 U fun R a=>UY (AU Tryz.atoi z om_ _ kr_) U7 fl_<|C6 5 [1,5] a U<|UN 1 U fun R a=>UY (AU Tryz.atoi w om_ _ kr_) U7 fl_<|C6 5 [5,7] a U<|UM 2 [5,7,22] U<|G.cut (fun fr u c e=>(True)/\fr=[(5,[],i_ n),(7,[],i_ d)]/\c=[]) ?_ (fun fr _ X e _ f=>?_)
 ·refine G.cd (fun l=>?_) fun l=>?_
  ·have h:w<0:=by simpa using l
   rw[aJ h]at i;refine UM 6 [5,7] U ?_;rw[show IntKind.i64.wrap (0-z)=n by rw[wrap_i64 om_ om_];omega,show IntKind.i64.wrap (0-w)=(d:Int) by rw[wrap_i64 om_ om_];omega];refine Vb 0 l_ (hn_ [5,7] U) ⟨trivial,U,U⟩
  have h:¬ w<0:=by simpa using l
  rw[aF h]at i;rw[show z=n by omega,show w=(d:Int) by omega];refine Vb 0 l_ (hn_ [5,7] U) ⟨trivial,U,U⟩
 obtain⟨_,rfl,rfl⟩:=f;refine UM 4 [5,7,9,10] U<|UM 2 [5,7,9,10,30] U<|G.cut (fun fr u c e=>(True)/\fr=[(5,[],i_ n),(7,[],i_ d),(9,[],i_ (n.natAbs:Nat)),(10,[],i_ d)]/\c=[]) ?_ (fun fr _ Y e _ f=>?_)
 ·refine G.cd (fun o=>?_) fun o=>?_
  ·have h:n<0:=by simpa using o
   refine UM 3 [5,7,9,10] U ?_;rw[show IntKind.i64.wrap (0-n)=((n.natAbs:Nat):Int) by rw[wrap_i64 om_ om_];omega];refine Vb 0 l_ (hn_ [5,7,9,10] U) ⟨trivial,U,U⟩
  have h:¬ n<0:=by simpa using o
  refine Vb 0 l_ (hn_ [5,7,9,10] U) ⟨trivial,by rw[show((n.natAbs:Nat):Int)=n by omega],U⟩
 obtain⟨_,rfl,rfl⟩:=f;refine G.loop (fun fr u c e=>∃ (x y:Int),(x.natAbs<9000000000000000000/\0<=x/\0<=y/\y.natAbs<9000000000000000000/\Nat.gcd x.natAbs y.natAbs=g)/\fr=[(5,[],i_ n),(7,[],i_ d),(9,[],i_ x),(10,[],i_ y)]/\c=[]/\e=y.natAbs+1) (hn_ [5,7,9,10] U) ⟨(n.natAbs:Int),d,⟨by omega,by omega,by omega,by omega,by rw[RS,RS];exact b⟩,U,U,U⟩ (fun fr Z aa m J f=>?_);obtain⟨x,y,⟨ab,K,L,M,v⟩,rfl,rfl,rfl⟩:=f;refine UM 2 [5,7,9,10,34] U<|G.cd (fun p=>?_) fun p=>?_
 ·have q:y≠0:=by simpa using p
  have N:(x.tmod y).natAbs=x.natAbs % y.natAbs:=TS x y;have ac:=RU x.natAbs (show 0<y.natAbs by omega);have O:=Int.tmod_nonneg y K;refine Vg [0,1,2,3,4,5] [] U kr_ fun R Q a=>UR 3 U<|VR (x.tmod y) U6 q U3<|C6 2 [5,7,9,10] a U<|U0 (m':=(x.tmod y).natAbs+1) om_ J (hn_ [5,7,9,10] U) ⟨y,x.tmod y,⟨M,L,O,by omega,by rw[N,<- v,Tj x.natAbs,Um y.natAbs x.natAbs,Tj]⟩,U,U,U⟩
 have q:y=0:=by simpa using p
 subst q;rw[show(0:Int).natAbs=0 from rfl,TL]at v;obtain rfl:x=(g:Int):=by omega
 refine Vg [0,1,2,3,4,5,6,7] [] U kr_ fun R Q a=>UR 2 U<|VX (n / (g:Int)) U6 om_ (lV s) (wrap_i64 om_ om_) U2<|UR 2 U<|VS (d) (g) U6 F (.inl ⟨U,by omega⟩) U2<|C6 2 [5,7] a U<|UM 2 [5,7,46] U<|G.cd (fun j=>?_) fun j=>?_
 ·have h1:d / g=1:=by
   have h2:(((d / g:Nat):Int))=1:=by simpa using j
   omega
  refine UN 1 U fun R a=>UY (fT _ k.m_ _ om_ om_) U7 fl_<|C6 1 [4] a U<|UT U2<|⟨?_,U⟩;rw[h1,ko rfl];simp[dp]
 have h1:d / g≠1:=by
  intro h2;rw[h2]at j;exact absurd j dc_
 have ad:=je (n / (g:Int));have ae:=je ((d / g:Nat):Int);have ag:(bj (n / (g:Int)).natAbs).length<=20:=dQ (R4 I (Tk E dc_)) dc_;have ah:(bj ((d / g:Nat):Int).natAbs).length<=20:=dQ (by rw[RS];exact R4 t (Tk (show d<1000000000 by omega) dc_)) dc_;refine UN 1 U fun R a=>UY (fT _ k.m_ _ om_ om_) U7 fl_<|VI U6 (fun _=>(by simp only[Rs,RQ];omega)) U2<|UP U6<|UY (fT _ k.m_ ((d / g:Nat):Int) (Ug dc_ (UG _)) (Ug (Int.ofNat_le.2 t) om_)) U7 fl_<|VI U6 (fun _=>(by simp only[Rf,Rs,RQ];omega)) U2<|C6 1 [4] a U<|UT U2<|⟨?_,U⟩;rw[fk h1,cX,RL];rfl
def MC (sg:Bool)(A:Str)(B:Option Str):Value:=.tuple #[.int .i64 (sgZ sg (bR A)),.int .i64 (Qa B),.bool true]
theorem ES (C:Mem)(a:Bool)(A:Str)(B:Option Str)(r:∀ c∈A,dU c=true)(S:A≠[])(T:∀ b,B=some b->∀ c∈b,dU c=true)(V:(Ec a++A++dp B).length<=9) :
  Gives cx.P 107 [af (Ec a++A++dp B)] C (MC a A B):=by
 obtain⟨s,hs⟩:∃ s,Ec a++A++dp B=s:=⟨_,rfl⟩;obtain⟨p,t⟩:∃ p,(Ec a).length=p:=⟨_,rfl⟩;have o:p=if a then 1 else 0:=by rw[<- t];cases a <;> rfl
 have u:∀ j c,A[j]?=some c->s[p+j]?=some c:=fun j c h=>by rw[<- hs,<- t];exact Gv _ _ _ h
 have K:∀ j,s[p+A.length+j]?=(dp B)[j]?:=fun j=>by rw[<- hs,<- t];exact Cl _ _ _ _
 have x:s.length=p+A.length+(dp B).length:=by rw[<- hs,<- t,Rf,Rf]
 have W:0<A.length:=RX.2 S;rw[hs]at V⊢;have L:∀ j,bR (A.take j)<1000000000:=fun j=>by
  have h:=mP r (i:=min j A.length) om_;rcases Nat.le_total j A.length with h1|h1
  ·rwa [Sa h1]at h
  rw[Nat.min_eq_right h1,Rk]at h
  rwa [RH h1]
 refine UU func107 57 U3 fun w0=>UM 3 [0,2] U<|UM 3 [0,2,9] U<|G.cd (fun M=>?_) fun M=>?_
 ·exfalso;have h:(9:Int)<((s.length:Nat):Int):=Qw M;omega
 refine UM 3 [0,2,3,5,6] U<|UN 1 U fun R d=>Vy (b:=s.getD 0 0) U8 (fun _=>⟨by omega,(by rw[am,show(0:Int).toNat=0 from rfl];obtain⟨c,f⟩:∃ c,s[0]?=some c:=⟨s[0]'om_,ai om_⟩;rw[f];rfl)⟩) U2<|C6 1 [0,2,3,5,6,12] d U<|G.cut (fun fr y g k=>(True)/\fr=[(0,[],af s),(2,[],i_ 0),(3,[],i_ 1),(5,[],i_ p),(6,[],i_ (if a then -1 else 1))]/\g=[]) ?_ (fun fr _ ad k _ l=>?_)
 ·refine G.cd (fun q=>?_) fun q=>?_
  ·have z:a=true:=by
    cases a with
   |true=>rfl
   |false =>
     exfalso;rw[aF dc_]at o;subst o;obtain⟨c,f⟩:∃ c,A[0]?=some c:=⟨A[0],ai W⟩;have h1:=u 0 c f;have h2:=r c (aM f);rw[SQ]at h1;rw[am,h1]at q;unfold dU at h2;simp at q h2;omega
   subst z;rw[aJ rfl]at o;subst o;refine UM 2 [0,2,3,5,6] U<|Vb 0 l_ (hn_ [0,2,3,5,6] U) ⟨trivial,U,U⟩
  have z:a=false:=by
   cases a with
  |false=>rfl
  |true =>
    exfalso;have h1:s[0]?=some 45:=by rw[<- hs];rfl
    rw[am,h1]at q;exact absurd q dc_
  subst z;rw[aF dc_]at o;subst o;refine Vb 0 l_ (hn_ [0,2,3,5,6] U) ⟨trivial,U,U⟩
 obtain⟨_,rfl,rfl⟩:=l;refine G.loop (fun fr y g k=>∃ (j:Nat),(j<=A.length)/\fr=[(0,[],af s),(2,[],i_ ((bR (A.take j):Nat):Int)),(3,[],i_ 1),(5,[],i_ ((p+j:Nat):Int)),(6,[],i_ (if a then -1 else 1))]/\g=[]/\k=A.length-j+1) (hn_ [0,2,3,5,6] U) ⟨0,by omega,U,U,U⟩ (fun fr ae ag m X l=>?_);obtain⟨j,hj,rfl,rfl,rfl⟩:=l;obtain⟨c,f⟩:∃ c,p+j<s.length->s[p+j]?=some c:=⟨s.getD (p+j) 0,fun h=>by rw[am,ai h];rfl⟩;refine UN 7 U fun R d=>Vy (b:=c) U8 (fun Y=>⟨by omega,f (by have h:decide (((p+j:Nat):Int)<((s.length:Nat):Int))=true:=Y.1;have h2:=Qw h;omega)⟩) U2<|UP U6<|Vk U8<|US [0,2,3,5,6,22] d U<|G.cd (fun v=>?_) fun v=>?_
 ·have E:p+j<s.length/\c.toNat≠47:=by
   simp at v;omega
  have F:j<A.length:=by
   rcases Rz j A.length with h|h
   ·exact h
   exfalso;obtain rfl:j=A.length:=by omega
   have h1:=f E.1;have h2:=K 0;rw[SQ,h1]at h2;cases B with
  |none=>simp[dp]at h2
  |some b =>
    simp[dp]at h2;subst h2;exact E.2 U
  obtain⟨e,n⟩:∃ c,A[j]?=some c:=⟨A[j],ai F⟩;obtain rfl:e=c:=by
   have h1:=f E.1;rw[u j e n]at h1;exact SG h1
  have N:48<=e.toNat/\e.toNat<=57:=by simpa [dU] using r e (aM n)
  have O:=L j;refine UN 1 U fun R d=>UV _ U U6<|UR 2 U<|Vy U8 (fun _=>⟨by omega,u j _ n⟩) U2<|D.int (((e.toNat:Nat):Int)-48) U4 (by rw[IntKind.wrap_u8];omega) U2<|Vz (c:=((e.toNat:Nat):Int)-48) U8 f_ fl_<|UV _ U U6<|UP U6<|UV _ U U6<|C6 2 [0,2,3,5,6] d U ?_;rw[show 10*((bR (A.take j):Nat):Int)+(((e.toNat:Nat):Int)-48)=((bR (A.take (j+1)):Nat):Int) by rw[oY n];omega];refine U0 (m':=A.length-(j+1)+1) om_ X (hn_ [0,2,3,5,6] U) ⟨j+1,om_,U,U,U⟩
 have F:j=A.length:=by
  rcases Rz j A.length with h|h
  ·exfalso;obtain⟨e,n⟩:∃ c,A[j]?=some c:=⟨A[j],ai h⟩;have h1:=f om_;rw[u j e n]at h1;obtain rfl:=SG h1;have N:48<=e.toNat/\e.toNat<=57:=by simpa [dU] using r e (aM n)
   simp at v;have:=v om_;omega
  omega
 subst F;have O:=L A.length;rw[Rk]at O⊢;refine UM 4 [0,2,3,5,6,36] U<|G.cut (fun fr y g k=>(True)/\fr=[(2,[],i_ ((bR A:Nat):Int)),(3,[],i_ ((Qa B:Nat):Int)),(6,[],i_ (if a then -1 else 1))]/\g=[]) ?_ (fun fr _ ah k _ l=>?_)
 ·refine G.cd (fun w=>?_) fun w=>?_
  ·obtain⟨b,rfl⟩:∃ b,B=some b:=by
    cases B with
   |some b=>exact⟨b,rfl⟩
   |none =>
     exfalso;rw[x]at w;simp[dp]at w
   have Q:=T b rfl;have aj:s.length=p+A.length+1+b.length:=by rw[x];simp[dp];omega
   have Z:∀ j,bR (b.take j)<1000000000:=fun j=>by
    have h:=mP Q (i:=min j b.length) om_;rcases Nat.le_total j b.length with h1|h1
    ·rwa [Sa h1]at h
    rw[Nat.min_eq_right h1,Rk]at h
    rwa [RH h1]
   refine UM 1 [0,2,3,5,6] U<|UN 1 U fun R d=>UV _ U U6<|C6 1 [0,2,3,5,6] d U<|G.loop (fun fr y g k=>∃ (j:Nat),(j<=b.length)/\fr=[(0,[],af s),(2,[],i_ ((bR A:Nat):Int)),(3,[],i_ ((bR (b.take j):Nat):Int)),(5,[],i_ ((p+A.length+1+j:Nat):Int)),(6,[],i_ (if a then -1 else 1))]/\g=[]/\k=b.length-j+1) (hn_ [0,2,3,5,6] U) ⟨0,om_,U,U,U⟩ (fun fr ak al m aa l=>?_);obtain⟨j,hk,rfl,rfl,rfl⟩:=l;refine UM 4 [0,2,3,5,6,42] U<|G.cd (fun H=>?_) fun H=>?_
   ·have I:j<b.length:=by
     have:p+A.length+1+j<s.length:=by simp at H;omega
     omega
    obtain⟨c,J⟩:∃ c,b[j]?=some c:=⟨b[j],ai I⟩;have ab:s[p+A.length+1+j]?=some c:=by rw[Tp,K,Tm 1 j];exact J
    have N:48<=c.toNat/\c.toNat<=57:=by simpa [dU] using Q c (aM J)
    have an:=Z j;refine UN 1 U fun R d=>UV _ U U6<|UR 2 U<|Vy U8 (fun _=>⟨by omega,ab⟩) U2<|D.int (((c.toNat:Nat):Int)-48) U4 (by rw[IntKind.wrap_u8];omega) U2<|Vz (c:=((c.toNat:Nat):Int)-48) U8 f_ fl_<|UV _ U U6<|C6 1 [0,2,3,5,6] d U<|UN 1 U fun R d=>UV _ U U6<|C6 1 [0,2,3,5,6] d U ?_;rw[show 10*((bR (b.take j):Nat):Int)+(((c.toNat:Nat):Int)-48)=((bR (b.take (j+1)):Nat):Int) by rw[oY J];omega];refine U0 (m':=b.length-(j+1)+1) om_ aa (hn_ [0,2,3,5,6] U) ⟨j+1,om_,U,U,U⟩
   have I:j=b.length:=by
    have:¬ p+A.length+1+j<s.length:=by simp at H;omega
    omega
   subst I;rw[Rk];refine Vb 0 mup (hn_ [2,3,6] U) ⟨trivial,U,U⟩
  have ac:B=none:=by
   cases B with
  |none=>rfl
  |some b =>
    exfalso;have h:¬ ((p+A.length:Nat):Int)<((s.length:Nat):Int):=Rc w;rw[x]at h;simp only[dp,Rs]at h;omega
  subst ac;refine Vb 0 l_ (hn_ [2,3,6] U) ⟨trivial,U,U⟩
 obtain⟨_,rfl,rfl⟩:=l;have ao:-1000000000<sgZ a (bR A)/\sgZ a (bR A)<1000000000:=by unfold sgZ;split <;> omega
 refine UN 2 U fun R d=>?_;refine Vt (sgZ a (bR A)) U4 (by unfold sgZ;cases a <;> simp) om_ om_ U2 ?_;refine C6 4 [2,3,4] d U<|U1 (G.dropAll (VG U4 ?_));exact⟨U,U⟩
theorem IG (h:z.natAbs<m)(g:Nat)(a:g ∣ z.natAbs):(z / (g:Int)).natAbs<m:=by
 rw[Tg (TE.1 (SU.2 a)),RS];exact R4 (Sf _ _) h
theorem KG (C:Mem)(a:Tabs C)(y:Int)(d:Nat)(b:y.natAbs<BP ^ 200)(c:d<BP ^ 200):Gives cx.P 167 [af (txt y),af (bj d)] C (af (bj (Nat.gcd y.natAbs d))):=by
 have h:=tk C a y (d:Nat) b om_
 rwa [cX,RS]at h
theorem lk (C:Mem)(e:Tabs C)(z w:Int)(j:z.natAbs<BP ^ 200)(n:w.natAbs<BP ^ 200)(o:w≠0):Gives cx.P 105 [af (txt z),af (txt w)] C (af (qtx (lB z w))):=by
 have B:=eC j;have D:=eC n;obtain⟨y,hy⟩:∃ y,(if w<0 then -z else z)=y:=⟨_,rfl⟩;obtain⟨d,p⟩:∃ d,w.natAbs=d:=⟨_,rfl⟩;have q:d≠0:=by omega
 have r:y.natAbs=z.natAbs:=by rw[<- hy];split <;> omega
 obtain⟨g,b⟩:∃ g,Nat.gcd y.natAbs d=g:=⟨_,rfl⟩;have k:0<g:=by rw[<- b];exact Ty _ om_
 have s:g ∣ d:=by rw[<- b];exact T4 _ _
 have l:g ∣ y.natAbs:=by rw[<- b];exact TZ _ _
 have E:g<=d:=Uo om_ s;refine UU func105 46 U3 fun w0=>UM 1 [0,1] U<|UN 7 U fun R a=>Vk U8<|US [0,1,13] a U<|G.cd (fun m=>?_) fun m=>?_
 ·have h:(txt z).length<=9/\(txt w).length<=9:=by
   have h1:=(Rq _ _ ▸ m:_/\_);have h2:((txt z).length:Int)<=9:=Qw h1.1;have h3:((txt w).length:Int)<=9:=Qw h1.2;omega
  exact UN 2 U fun R a=>UZ (FT _ e.m_ z w h.1 h.2 o) U7<|C6 1 [4] a U<|UT U2<|⟨U,U⟩
 refine UN 1 U fun R a=>UZ (pO _ w) U7<|C6 1 [0,1,19] a U<|G.cut (fun fr F t u=>(True)/\fr=[(0,[],af (txt y)),(1,[],af (bj d))]/\t=[]) ?_ (fun fr _ H u _ v=>?_)
 ·refine G.cd (fun f=>?_) fun f=>?_
  ·have i:w<0:=by
    have h:=Qw f;refine RB fun h2=>?_;rw[aF h2]at h;revert h;split <;> decide
   rw[aJ i]at hy;refine UN 1 U fun R a=>UY (nF _ z om_) U7 fl_<|UP U6<|UY (nF _ w om_) U7 fl_<|C6 2 [0,1] a U<|Vb 0 l_ (hn_ [0,1] U) ⟨trivial,by rw[hy,show -w=((d:Nat):Int) by omega,cX],U⟩
  have i:¬ w<0:=by
   intro h2;have h:=Rc f;rw[aJ h2]at h;exact h dc_
  rw[aF i]at hy;refine Vb 0 l_ (hn_ [0,1] U) ⟨trivial,by rw[hy,show w=((d:Nat):Int) by omega,cX],U⟩
 obtain⟨_,rfl,rfl⟩:=v;unfold lB;rw[hy,p,xo q,b];have x:=IG (z:=y) (by rw[r];exact j) g l;have I:=eC x;have A:d / g<BP ^ 200:=R4 (Sf _ _) om_;have J:=eC A;have K:=je (y / (g:Int));refine UN 2 U fun R a=>UY (KG _ e.m_ y d om_ om_) U7 fl_<|C6 1 [0,1,5] a U ?_;rw[b];refine UN 2 U fun R a=>UY (yt _ e.m_ y g om_ om_ k l) U7 fl_<|C6 4 [0,1,5] a U<|UN 2 U fun R a=>UY (mK _ e.m_ d g om_ om_ k) U7 fl_<|C6 4 [0,1] a U<|UM 2 [0,1,40] U<|G.cd (fun c=>?_) fun c=>?_
 ·have h1:d / g=1:=by rw[ry]at c;exact Qw c
  refine UM 2 [4] U<|UT U2<|⟨?_,U⟩;rw[ko h1];simp[dp]
 have h1:d / g≠1:=by rw[ry]at c;exact Rc c
 refine UN 1 U fun R a=>VI U6 (fun _=>(by simp only[Rs,RQ];omega)) U2<|UP U6<|VI U6 (fun _=>(by simp only[Rf,Rs,RQ];omega)) U2<|C6 1 [4] a U<|UT U2<|⟨?_,U⟩;rw[fk h1,RL];rfl
theorem PQ (C:Mem)(a:Tabs C)(z w:Int)(d:z.natAbs<9000000000000000000)(e:w.natAbs<9000000000000000000)(b:w≠0):Gives cx.P 47 [i_ z,i_ w] C (af (qtx (lB z w))):=by
 have f:9000000000000000000<BP ^ 200:=by decide +kernel
 exact UU func47 10 U3 fun w0=>UM 1 [0,1] U<|UN 1 U fun R c=>UY (gR _ a.m_ z om_ om_) U7 fl_<|UP U6<|UY (gR _ a.m_ w om_ om_) U7 fl_<|UY (lk _ a.m_ z w om_ om_ b) U7 fl_<|C6 1 [4] c U<|UT U2<|⟨U,U⟩
theorem Js (C:Mem)(q:Rat)(_i:(qtx q).length<=1000000):Gives cx.P 83 [af (qtx q)] C (i_ (eG q.num)):=by
 obtain⟨c,r,f,d⟩:=lW q;have j:=xn q;refine UU func83 8 U3 fun w0=>UM 1 [0] U<|UM 2 [0,4] U<|G.cd (fun h4=>?_) fun h4=>?_
 ·have h0:q=0:=by rw[eK]at h4;exact Qw h4
  refine UM 1 [2] U<|UT U2<|⟨?_,U⟩;rw[h0];rfl
 have h0:q≠0:=by rw[eK]at h4;exact Rc h4
 have g:q.num≠0:=fun e=>h0 (TT.1 e);refine UN 1 U fun R h=>Vy U8 (fun _=>⟨by omega,by rw[f];rfl⟩) U2<|C6 1 [7] h U<|G.cd (fun a=>?_) fun a=>?_
 ·rw[d]at a;have b:q.num<0:=Qw a;refine UM 1 [2] U<|UT U2<|⟨?_,U⟩;unfold eG;rw[aJ b]
 rw[d]at a;have b:¬ q.num<0:=Rc a;refine UM 1 [2] U<|UT U2<|⟨?_,U⟩;unfold eG;rw[aF b,aF g]
theorem NV (C:Mem)(q:Rat)(g:(qtx q).length<=1000000):Gives cx.P 20 [af (qtx q)] C (af (qtx (-q))):=by
 have h:=xn q;refine UU func20 13 U3 fun w0=>UM 1 [0] U<|UM 2 [0,4] U<|G.cd (fun h4=>?_) fun h4=>?_
 ·have h0:q=0:=by rw[eK]at h4;exact Qw h4
  refine UM 2 [2] U<|UT U2<|⟨?_,U⟩;rw[h0,Rat.neg_zero]
 have h0:q≠0:=by rw[eK]at h4;exact Rc h4
 obtain⟨c,r,f,e⟩:=lW q;refine UN 1 U fun R a=>Vy U8 (fun _=>⟨by omega,by rw[f];rfl⟩) U2<|C6 1 [0,8] a U<|G.cd (fun b=>?_) fun b=>?_
 ·have d:q.num<0:=by rw[e]at b;exact Qw b
  refine UN 1 U fun R a=>VL 1 (qtx q).length U9 (fun _=>⟨.inr ⟨_,U⟩,.inl ⟨U,U⟩,.inl ⟨U,U⟩,by omega,Q7 _,Q7 _⟩) U2<|C6 1 [2] a U<|UT U2<|⟨?_,U⟩;rw[Rk,kM d];rfl
 have d:¬ q.num<0:=by rw[e]at b;exact Rc b
 refine UN 1 U fun R a=>VI U6 (fun _=>(by simp only[Rs,RQ];omega)) U2<|C6 1 [2] a U<|UT U2<|⟨?_,U⟩;rw[fc d h0];rfl
end Go.Proofs.YtfjcldheldflbaaGreatDoor
