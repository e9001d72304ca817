import Derived.Test.YtfjcldheldflbaaGreatDoorG6
set_option maxHeartbeats 4000000
namespace Go.Proofs.YtfjcldheldflbaaGreatDoor
open Go.Proofs.Tryz
open Go Go.Jog
set_option maxRecDepth 100000
variable {a b:Rat}{d g i k:Nat}{l:List Nat}{m n:Nat}{q:Rat}{s:Str}{w z:Int}
theorem cm (h:n<B9 ^ k)(a:0<k):(bh n).length<=9*k:=dT (by rw[MV];exact h) om_
theorem BC (h:(txt z).length<=m):z.natAbs<10 ^ m:=by
 have h1:(bh z.natAbs).length<=m:=by
  unfold txt at h;split at h
  .simp at h;omega
  exact h
 obtain⟨h2,h3⟩:=bA z.natAbs;have h4:=dF h2.1;rw[h3]at h4;exact Tk h4 (SJ dc_ h1)
theorem e18:(10:Nat) ^ 18=1000000000000000000:=by decide
theorem e9:(10:Nat) ^ 9=1000000000:=by decide
theorem uB {a b:Nat}(c:a<B9 ^ k)(d:b<B9 ^ k):a+b<B9 ^ (k+1):=by
 rw[TB];have:B9 ^ k*2<=B9 ^ k*B9:=TJ _ dc_;omega
theorem O5 (C:Mem)(l:Tabs C)(z w:Int)(k:Nat)(v:0<k)(hk:k<=40000)(f:z.natAbs<B9 ^ k)(g:w.natAbs<B9 ^ k):Gives cx.P 158 [ae (txt z),ae (txt w)] C (ae (txt (z+w))):=by
 have aa:=cm f v;have ab:=cm g v;refine V7 func158 62 U3 λw0=>U0 1 [0,1] U<|U1 1 U λR a=>Wb (ka _ z 18 (Sg _)) U7<|C6 5 [0,1,5,6] a U<|U0 1 [0,1,5,16] U<|G.cut (λfr m o p=>(True)/\fr=[(0,[],ae (txt z)),(1,[],ae (txt w))]/\o=[]) ?_ (λfr _ ac p _ q=>?_)
 .refine G.cd (λx=>?_) λx=>?_
  .have y:=RD x;rw[aK y];have L:=BC y;rw[e18]at L;refine U1 1 U λR a=>Wb (ka _ w 18 (Sg _)) U7<|C6 5 [0,1,5,7,8] a U<|U0 1 [0,1,5,7,22] U<|G.cd (λA=>?_) λA=>?_
   .have B:=RD A;rw[aK B];have M:=BC B;rw[e18]at M;exact U1 2 U λR a=>V8 _ U U6<|Wc (tE _ l.m_ (z+w) om_ om_) U7 fl_<|C6 1 [4] a U<|V6 U2<|⟨U,U⟩
   refine Wj 0 l_ (hn_ [0,1] U) ⟨trivial,U,U⟩
  refine Wj 0 l_ (hn_ [0,1] U) ⟨trivial,U,U⟩
 obtain⟨_,rfl,rfl⟩:=q;refine U1 1 U λR a=>Ws (jt _ z om_) U7 fl_ λad _ _ N=>V2 U6<|Ws (jt _ w om_) U7 fl_ λah _ _ O=>Wg U5 λD=>Wg U5 (λE=>?_);obtain⟨pz,rfl,d⟩:=N;obtain⟨pw,rfl,e⟩:=O;obtain⟨Az,mz,cz,rfl⟩:=d.form;obtain⟨Aw,mw,cw,rfl⟩:=e.form;refine Wa (j:=1) U12<|Wa (j:=1) U12<|V5 [9,10] a U<|U1 1 U λR a=>V9 af U9<|V2 U6<|V9 ag U9<|C6 1 [9,10,35] a U<|G.cd (λr=>?_) λr=>?_
 .have i:decide (z<0)=decide (w<0):=by simpa using r
  refine Wn [0,1,2,3,4,5,6,7,8,9] [(8,1)] U kr_ λR Q a=>V2 U6<|V9 af U9<|V2 U6<|V9 af U9<|V2 U6<|V9 ag U9<|Ws (MW (k:=k) _ d.m_ e.m_ f g om_) U7 fl_ (λai _ _ F=>?_);obtain⟨S,T,V,rfl⟩:=F.form;exact Wm [.bool (decide (z<0)),_] U8<|Wo (λ_=>(kA _ l.m_ _ _ _ F (dK (k:=100000) (n:=k+1) (uB f g) om_))) U9<|C6 1 [4] a U<|V6 U2<|⟨by rw[GR i],U⟩
 have i:decide (z<0)≠decide (w<0):=by simpa using r
 refine U1 1 U λR a=>V9 af U9<|V2 U6<|V9 ag U9<|Wb (qQ _ d.m_ e.m_) U7<|C6 1 [9,10,50] a U<|G.cut (λfr m o p=>∃(b c:Int)(s t:Value),(NineC m s b.natAbs/\NineC m t c.natAbs/\c.natAbs<=b.natAbs/\b+c=z+w/\decide (b<0)≠decide (c<0)/\b.natAbs<B9 ^ k)/\fr=[(9,[],p_ D),(10,[],p_ E)]/\o=[.obj E (.cells ⟨[.bool (decide (c<0)),t]⟩ 273 (0,0)),.obj D (.cells ⟨[.bool (decide (b<0)),s]⟩ 273 (0,0))]) ?_ (λfr _ aj p _ q=>?_)
 .refine G.cd (λu=>?_) λu=>?_
  .have H:z.natAbs<w.natAbs:=by
    have:kf z.natAbs w.natAbs<0:=by simpa using u
    exact js.1 this
   refine V3 λR a=>V9 ag U9<|V9 af U9<|Wa (j:=1) U12<|Wa (j:=1) U12<|V5 [9,10] a U<|Wj 0 mup (hn_ [9,10] U) ⟨w,z,_,_,⟨e.mono mup,d.mono mup,by omega,Int.add_comm w z,Ne.symm i,g⟩,U,U⟩
  have H:w.natAbs<=z.natAbs:=by
   have h:¬ kf z.natAbs w.natAbs<0:=by simpa using u
   rw[js]at h;omega
  refine Wj 0 mup (hn_ [9,10] U) ⟨z,w,_,_,⟨d.mono mup,e.mono mup,H,U,i,f⟩,U,U⟩
 obtain⟨b ,c ,s ,t,⟨I,J,W,X,Y,Z⟩,rfl,rfl⟩:=q;obtain⟨ak,al,am,rfl⟩:=I.form;obtain⟨an,ao,ap,rfl⟩:=J.form;refine Wn [0,1,2,3,4,5,6,7,8,9] [(8,1)] U kr_ λR Q a=>V2 U6<|V9 af U9<|V2 U6<|V9 af U9<|V2 U6<|V9 ag U9<|Ws (vi (k:=k) _ I.m_ J.m_ Z W om_) U7 fl_ (λaq _ _ K=>?_);obtain⟨S,T,V,rfl⟩:=K.form;exact Wm [.bool (decide (b<0)),_] U8<|Wo (λ_=>(kA _ l.m_ _ _ _ K (dK (k:=100000) (n:=k) om_ om_))) U9<|C6 1 [4] a U<|V6 U2<|⟨by rw[GS Y om_,X],U⟩
theorem GU (z w:Int):sgZ (decide (z<0) != decide (w<0)) (z.natAbs*w.natAbs)=z*w:=by
 unfold sgZ;have h1:z=if z<0 then -(z.natAbs:Int) else (z.natAbs:Int):=by split <;> omega
 have h2:w=if w<0 then -(w.natAbs:Int) else (w.natAbs:Int):=by split <;> omega
 by_cases a:z<0 <;> by_cases b:w<0
 .rw[SB a,SB b,aF dc_];rw[aK a]at h1;rw[aK b]at h2;rw[SK]
  conv=>rhs;rw[h1,h2]
  rw[Int.neg_mul_neg]
 .rw[SB a,SM b,aK dc_];rw[aK a]at h1;rw[aF b]at h2;rw[SK]
  conv=>rhs;rw[h1,h2]
  rw[Int.neg_mul]
 .rw[SM a,SB b,aK dc_];rw[aF a]at h1;rw[aK b]at h2;rw[SK]
  conv=>rhs;rw[h1,h2]
  rw[Int.mul_neg]
 rw[SM a,SM b,aF dc_];rw[aF a]at h1;rw[aF b]at h2;rw[SK]
 conv=>rhs;rw[h1,h2]
theorem oX {a b:Nat}(c:a<B9 ^ k)(d:b<B9 ^ k):a*b<B9 ^ (k+k):=by
 rw[Uw];exact TL c d
theorem CW (a:z.natAbs<1000000000)(b:w.natAbs<1000000000):-1000000000000000000<z*w/\z*w<1000000000000000000:=by
 have h:z.natAbs*w.natAbs<=999999999*999999999:=TA om_ om_;rw[<- TF]at h;omega
theorem lm (C:Mem)(d:Tabs C)(z w:Int)(k:Nat)(e:0<k)(x:k<=40000)(b:z.natAbs<B9 ^ k)(c:w.natAbs<B9 ^ k):Gives cx.P 124 [ae (txt z),ae (txt w)] C (ae (txt (z*w))):=by
 have y:=cm b e;have A:=cm c e;refine V7 func124 43 U3 λw0=>U0 1 [0,1] U<|U1 1 U λR a=>Wc (ka _ z 9 om_) U7 fl_<|C6 5 [0,1,5,6] a U<|U0 1 [0,1,5,16] U<|G.cut (λfr B r s=>(True)/\fr=[(0,[],ae (txt z)),(1,[],ae (txt w))]/\r=[]) ?_ (λfr _ D s _ t=>?_)
 .refine G.cd (λf=>?_) λf=>?_
  .have g:=RD f;rw[aK g];have h:=BC g;rw[e9]at h;refine U1 1 U λR a=>Wc (ka _ w 9 om_) U7 fl_<|C6 5 [0,1,5,7,8] a U<|U0 1 [0,1,5,7,22] U<|G.cd (λi=>?_) λi=>?_
   .have l:=RD i;rw[aK l];have m:=BC l;rw[e9]at m;have E:=CW h m;exact U1 2 U λR a=>Wx ((z*w)) U4 om_ om_ om_ U2<|Wc (tE _ d.m_ (z*w) om_ om_) U7 fl_<|C6 1 [4] a U<|V6 U2<|⟨U,U⟩
   refine Wj 0 l_ (hn_ [0,1] U) ⟨trivial,U,U⟩
  refine Wj 0 l_ (hn_ [0,1] U) ⟨trivial,U,U⟩
 obtain⟨_,rfl,rfl⟩:=t;refine U1 1 U λR a=>Ws (jt _ z om_) U7 fl_ λF _ _ u=>V2 U6<|Ws (jt _ w om_) U7 fl_ λH _ _ v=>Wg U5 λI=>Wg U5 (λJ=>?_);obtain⟨K,rfl,o⟩:=u;obtain⟨L,rfl,p⟩:=v;obtain⟨M,N,O,rfl⟩:=o.form;obtain⟨Q,S,T,rfl⟩:=p.form;refine Wa (j:=1) U12<|Wa (j:=1) U12<|V5 [9,10] a U<|Wn [0,1,2,3,4,5,6,7,8,9,10,11,12] [(11,1)] U kr_ λR V a=>V2 U6<|V9 af U9<|V2 U6<|V9 ag U9<|V4 2 U<|V9 af U9<|V2 U6<|V9 ag U9<|Ws (Gq (k:=k) _ o.m_ p.m_ b c om_) U7 fl_ (λW _ _ q=>?_);obtain⟨X,Y,Z,rfl⟩:=q.form;exact Wm [.bool (decide (z<0) != decide (w<0)),_] U8<|Wo (λ_=>(kA _ d.m_ _ _ _ q (dK (k:=100000) (n:=k+k) (oX b c) om_))) U9<|C6 1 [4] a U<|V6 U2<|⟨by rw[GU],U⟩
def IV (z w:Int):Nat:=if z<0/\z.natAbs % w.natAbs≠0 then z.natAbs / w.natAbs+1 else z.natAbs / w.natAbs
def DJ (z w:Int):Nat:=if z<0/\z.natAbs % w.natAbs≠0 then w.natAbs-z.natAbs % w.natAbs else z.natAbs % w.natAbs
theorem IU (i:0<w):sgZ (decide (z<0) != decide (w<0)) (IV z w)=z / w/\(DJ z w:Int)=z % w:=by
 obtain⟨n,rfl⟩:∃n:Nat,w=n:=⟨w.natAbs,by omega⟩;have f:0<n:=by omega
 rw[SM (by omega:¬ ((n:Nat):Int)<0),Bool.bne_false];have h1:=Vs z.natAbs n;have h2:=S5 z.natAbs f;obtain⟨q,d⟩:∃q,z.natAbs / n=q:=⟨_,rfl⟩;obtain⟨r,hr⟩:∃r,z.natAbs % n=r:=⟨_,rfl⟩;have g:sgZ (decide (z<0)) (IV z n)=z / n/\(DJ z n:Int)=z % n:=by
  have h3:=(Int.ediv_emod_unique (a:=z) (r:=(DJ z n:Int)) (q:=sgZ (decide (z<0)) (IV z n)) (by omega:(0:Int)<(n:Int))).2;have h4:(DJ z n:Int)+(n:Int)*sgZ (decide (z<0)) (IV z n)=z/\0<=(DJ z n:Int)/\(DJ z n:Int)<(n:Int):=by
   unfold IV DJ sgZ;simp only[S4];rw[d,hr];rw[hr,d]at h1;rw[hr]at h2;have h5:((r+n*q:Nat):Int)=(z.natAbs:Int):=by rw[h1]
   rw[UX,SK]at h5;by_cases b:z<0
   .rw[SB b,aK rfl];by_cases c:r=0
    .subst c;rw[aF al,aF al];rw[Int.mul_neg];omega
    rw[aK ⟨b,c⟩,aK ⟨b,c⟩];rw[Int.mul_neg,UX,Vz];omega
   rw[SM b,aF (λh:z<0/\r≠0=>b h.1),aF (λh:z<0/\r≠0=>b h.1),aF dc_];omega
  have e:=h3 h4;exact⟨e.1.symm,e.2.symm⟩
 exact g
theorem tH (C:Mem)(u:Tabs C)(z w:Int)(k:Nat)(f:0<k)(hk:k<=40000)(g:z.natAbs<B9 ^ k)(i:w.natAbs<B9 ^ k)(v:0<w):Gives cx.P 187 [ae (txt z),ae (txt w)] C (.tuple #[ae (txt (z / w)),ae (txt (z % w)),i_ 0]):=by
 have aj:=cm g f;have ak:=cm i f;have l:0<w.natAbs:=by omega
 refine V7 func187 50 U3 λw0=>U0 3 [0,1] U<|U0 2 [0,1,12] U<|G.cd (λm=>?_) λm=>?_
 .have h:=kN w;rw[h]at m;have:w=0:=RD m;omega
 refine U1 1 U λR a=>Ws (jt _ z om_) U7 fl_ λal _ _ K=>V2 U6<|Ws (jt _ w om_) U7 fl_ λam _ _ L=>Wg U5 λy=>Wg U5 (λA=>?_);obtain⟨pz,rfl,B⟩:=K;obtain⟨pw,rfl,o⟩:=L;obtain⟨M,N,O,rfl⟩:=B.form;obtain⟨Q,S,T,rfl⟩:=o.form;refine Wa (j:=1) U12<|Wa (j:=1) U12<|V5 [7,8] a U<|U1 1 U λR a=>V9 af U9<|V2 U6<|V9 ag U9<|Ws (yN _ _ _ _ _ B.m_ o.m_ (dK (k:=100000) (n:=k) g om_) l) U7 fl_ (λan _ _ V=>?_);obtain⟨vq,vr,rfl,D,p⟩:=V;refine C6 5 [7,8,9,10] a U ?_;obtain⟨b,W,X,Y⟩:=id p;obtain⟨Ar,cr,E,_⟩:=id Y;rw[au]at E;subst E;have F:b.length=0 ↔ z.natAbs % w.natAbs=0:=by
  rw[<- X,D5 W];exact Vw
 refine U1 1 U λR a=>V9 af U9<|V4 4 U<|Wr U8<|V5 [7,8,9,10,31] a U<|G.cut (λfr H Z μ=>∃(q r:Value),(NineC H q (IV z w)/\NineC H r (DJ z w))/\fr=[(7,[],p_ y),(8,[],p_ A),(9,[],q),(10,[],r)]/\Z=[.obj A (.cells ⟨[.bool (decide (w<0)),.slice Q S T]⟩ 273 (0,0)),.obj y (.cells ⟨[.bool (decide (z<0)),.slice M N O]⟩ 273 (0,0))]) ?_ (λfr _ ao μ _ hI=>?_)
 .refine G.cd (λd=>?_) λd=>?_
  .have c:z<0/\z.natAbs % w.natAbs≠0:=by
    have h:decide (z<0)=true/\0<b.length:=by simpa using d
    exact⟨RD h.1,λe=>by have:=F.2 e;omega⟩
   have s:IV z w=z.natAbs / w.natAbs+1:=aK c;have t:DJ z w=w.natAbs-z.natAbs % w.natAbs:=aK c;have aa:z.natAbs / w.natAbs<B9 ^ k:=Te (Tr _ _) g;refine Wn [0,3,4,5,1,2,6,7,8] [] U kr_ λR hB a=>V4 2 U<|V9 ag U9<|V2 U6<|Wq [cY 1] U12 λap _ _ ab=>Ws (MW (k:=k) _ D.m_ (⟨[1],⟨(λx hx=>(by rw[SD.1 hx];decide)),by simp⟩,U,ab.mono mup⟩:NineC _ _ 1) aa (Tk (by decide:1<B9 ^ 1) (SJ dc_ f)) om_) U7 fl_ λaq _ _ ac=>Ws (vi (k:=k) _ o.m_ p.m_ i (VT (S5 _ l)) om_) U7 fl_ λar _ _ ad=>V4 2 U<|V5 [7,8,9,10] a U ?_;clear a hB R;refine Wj 0 mup (hn_ [7,8,9,10] U) ⟨_,_,⟨by rw[s];exact ac.mono mup,by rw[t];exact ad.mono mup⟩,U,U⟩
  have c:¬ (z<0/\z.natAbs % w.natAbs≠0):=λh=>by
   have h2:0<b.length:=by
    rcases Tx b.length with h3|h3
    .exact absurd (F.1 h3) h.2
    exact h3
   have h3:(decide (z<0) && decide ((0:Int)<(b.length:Int)))=true:=by
    rw[SB h.1,SB om_];rfl
   rw[h3]at d;cases d
  have s:IV z w=z.natAbs / w.natAbs:=aF c;have t:DJ z w=z.natAbs % w.natAbs:=aF c;refine Wj 0 mup (hn_ [7,8,9,10] U) ⟨_,_,⟨by rw[s];exact D.mono mup,by rw[t];exact p.mono mup⟩,U,U⟩
 obtain⟨q ,r,⟨I,J⟩,rfl,rfl⟩:=hI;obtain⟨A9,m9,c9,rfl⟩:=I.form;obtain⟨av,aw,ax,rfl⟩:=J.form;have ah:IV z w<B9 ^ 100000:=by
  have h1:z.natAbs / w.natAbs<=z.natAbs:=Tr _ _;have h2:IV z w<=z.natAbs+1:=by unfold IV;split <;> omega
  have h3:B9 ^ k*2<=B9 ^ (k+1):=by rw[TB];exact TJ _ dc_
  have h4:z.natAbs+1<B9 ^ (k+1):=by have:=UQ (n:=k) (show 0<B9 by decide);omega
  exact dK (k:=100000) (n:=k+1) (Te h2 h4) om_
 have ai:DJ z w<B9 ^ 100000:=by
  have h1:=S5 z.natAbs l;have h2:DJ z w<=w.natAbs:=by unfold DJ;split <;> omega
  exact dK (k:=100000) (n:=k) (Te h2 i) om_
 refine U1 1 U λR a=>V9 af U9<|V2 U6<|V9 ag U9<|V4 2 U<|Wm [.bool (decide (z<0) != decide (w<0)),_] U8<|Wb (kA _ u.m_ _ _ _ I.m_ ah) U7<|V2 U6<|Wm [.bool false,_] U8<|Wb (kA _ u.m_ _ _ _ J.m_ ai) U7<|C6 3 [4,5,6] a U<|Wd (G.dropAll (WP U4 ?_));refine⟨?_,U⟩;rw[(IU v).1,show sgZ false (DJ z w)=z % w from(IU v).2]
theorem Mg (a:zz l)(b:bB l=n):0<l.length ↔ 0<n:=by
 have h:=D5 a;rw[b]at h;have h2:l.length=0 ↔ n=0:=by rw[h];exact Vw
 omega
theorem Io (C:Mem)(s:Tabs C)(z w:Int)(k:Nat)(t:0<k)(hk:k<=40000)(u:z.natAbs<B9 ^ k)(v:w.natAbs<B9 ^ k):Gives cx.P 162 [ae (txt z),ae (txt w)] C (ae (txt (Nat.gcd z.natAbs w.natAbs:Nat))):=by
 have ac:=cm u t;have ad:=cm v t;refine V7 func162 56 U3 λw0=>U0 1 [0,1] U<|U1 1 U λR a=>Wb (ka _ z 18 (Sg _)) U7<|C6 5 [0,1,5,6] a U<|U0 1 [0,1,5,18] U<|G.cut (λfr g d e=>(True)/\fr=[(0,[],ae (txt z)),(1,[],ae (txt w))]/\d=[]) ?_ (λfr _ af e _ f=>?_)
 .refine G.cd (λA=>?_) λA=>?_
  .have B:=RD A;rw[aK B];have E:=BC B;rw[e18]at E;refine U1 1 U λR a=>Wb (ka _ w 18 (Sg _)) U7<|C6 5 [0,1,5,7,8] a U<|U0 1 [0,1,5,7,24] U<|G.cd (λF=>?_) λF=>?_
   .have H:=RD F;rw[aK H];have I:=BC H;rw[e18]at I;refine G.loop (λfr g d e=>∃(x y:Int),(x.natAbs<1000000000000000000/\y.natAbs<1000000000000000000/\Nat.gcd x.natAbs y.natAbs=Nat.gcd z.natAbs w.natAbs)/\fr=[(5,[],i_ x),(7,[],i_ y)]/\d=[]/\e=y.natAbs+1) (hn_ [5,7] U) ⟨z,w,⟨E,I,U⟩,U,U,U⟩ (λfr ag ah m L f=>?_);obtain⟨x,y,⟨ai,M,c⟩,rfl,rfl,rfl⟩:=f;refine U0 2 [5,7,26] U<|G.cd (λj=>?_) λj=>?_
    .have b:y≠0:=by simpa using j
     have N:(x.tmod y).natAbs=x.natAbs % y.natAbs:=UZ x y;have O:=S5 x.natAbs (show 0<y.natAbs by omega);refine Wn [0,1,2,3,4,5] [] U kr_ λR hB a=>V4 3 U<|WY (x.tmod y) U6 b U3<|C6 2 [5,7] a U<|We (m':=(x.tmod y).natAbs+1) om_ L (hn_ [5,7] U) ⟨y,x.tmod y,⟨M,by omega,by rw[N,<- c,Up x.natAbs,VA y.natAbs x.natAbs,Up]⟩,U,U,U⟩
    have b:y=0:=by simpa using j
    subst b;rw[show(0:Int).natAbs=0 from rfl,UT]at c;refine U1 3 U λR a=>?_;have aj:IntKind.i64.wrap (0-x)=0-x:=wrap_i64 om_ om_;exact D.max ((x.natAbs:Int)) U6 om_ U2<|Wc (tE _ s.m_ (x.natAbs:Int) om_ om_) U7 fl_<|C6 1 [4] a U<|V6 U2<|⟨by rw[c],U⟩
   refine Wj 0 l_ (hn_ [0,1] U) ⟨trivial,U,U⟩
  refine Wj 0 l_ (hn_ [0,1] U) ⟨trivial,U,U⟩
 obtain⟨_,rfl,rfl⟩:=f;refine U1 1 U λR a=>Ws (jt _ z om_) U7 fl_ (λak _ _ Q=>?_);obtain⟨pz,rfl,S⟩:=Q;refine Xe U12<|V2 U6<|Ws (jt _ w om_) U7 fl_ (λal _ _ T=>?_);obtain⟨pw,rfl,V⟩:=T;refine Xe U12<|C6 2 [9,10] a U<|G.loop (λfr g d e=>∃(x y:Nat)(o p:Value),(NineC g o x/\NineC g p y/\x<B9 ^ k/\y<B9 ^ k/\Nat.gcd x y=Nat.gcd z.natAbs w.natAbs)/\fr=[(9,[],o),(10,[],p)]/\d=[]/\e=y+1) (hn_ [9,10] U) ⟨_,_,_,_,⟨S.mono mup,V.mono mup,u,v,U⟩,U,U,U⟩ (λfr am an m _ f=>?_);obtain⟨x,y,o,p,⟨q,i,J,K,c⟩,rfl,rfl,rfl⟩:=f;obtain⟨l,W,X,Y⟩:=id i;obtain⟨ao,ap,rfl,_⟩:=id Y;rw[au]at i⊢;have Z:=Mg W X;refine U0 3 [9,10,44] U<|G.cd (λr=>?_) λr=>?_
 .have b:0<y:=Z.1 (by simpa using r);have O:=S5 x b;refine U1 2 U λR a=>Ws (yN _ _ _ _ _ q.m_ i.m_ (dK (k:=100000) (n:=k) J om_) b) U7 fl_ (λaq _ _ aa=>?_);obtain⟨vq,vr,rfl,ar,ab⟩:=aa;refine C6 5 [10,12] a U<|U0 4 [9,10] U<|We (m':=x % y+1) om_ mup (hn_ [9,10] U) ⟨y,x % y,_,_,⟨i.mono mup,ab.mono mup,K,Uq (S5 _ b) K,by rw[<- c,Up x,VA y x,Up]⟩,U,U,U⟩
 have b:y=0:=by
  have h:¬ 0<l.length:=by simpa using r
  omega
 subst b;rw[UT]at c;obtain⟨A9,m9,c9,rfl⟩:=q.form;exact U1 1 U λR a=>Wm [.bool false,_] U8<|Wc (kA _ s.m_ _ _ _ q.m_ (dK (k:=100000) (n:=k) J om_)) U7 fl_<|C6 1 [4] a U<|V6 U2<|⟨by rw[c];rfl,U⟩
def tg (sg:Bool)(A:Str)(B:Option Str):Value :=
 if Nb A B then .tuple #[.int .i64 (sgZ sg (bS A)),.int .i64 (Rc B),.bool true] else .tuple #[.int .i64 0,.int .i64 0,.bool false]
theorem EL (C:Mem)(d:Bool)(A:Str)(B:Option Str)(q:∀c∈A,dX c=true)(T:A≠[])(V:∀b,B=some b->∀c∈b,dX c=true)(W:(ET d++A++dw B).length<=1000000) :
  Gives cx.P 120 [ae (ET d++A++dw B)] C (tg d A B):=by
 obtain⟨s,hs⟩:∃s,ET d++A++dw B=s:=⟨_,rfl⟩;obtain⟨p,hp⟩:∃p,(ET d).length=p:=⟨_,rfl⟩;have g:p=if d then 1 else 0:=by rw[<- hp];cases d <;> rfl
 have t:∀j c,A[j]?=some c->s[p+j]?=some c:=λj c h=>by rw[<- hs,<- hp];exact Hp _ _ _ h
 have N:∀j,s[p+A.length+j]?=(dw B)[j]?:=λj=>by rw[<- hs,<- hp];exact CY _ _ _ _
 have x:s.length=p+A.length+(dw B).length:=by rw[<- hs,<- hp,So,So]
 have X:0<A.length:=S7.2 T;rw[hs]at W⊢;refine V7 func120 73 U3 λw0=>U0 3 [0,2,3] U<|U0 2 [0,2,3,5,6] U<|U1 5 U λR a=>WE (b:=s.getD 0 0) U8 (λ_=>⟨by omega,(by rw[ak,show(0:Int).toNat=0 from rfl];obtain⟨c,f⟩:∃c,s[0]?=some c:=⟨s[0]'om_,ah om_⟩;rw[f];rfl)⟩) U2<|V2 U6<|Wr U8<|V5 [0,2,3,5,6,15] a U<|G.cut (λfr y i k=>(True)/\fr=[(0,[],ae s),(2,[],i_ 0),(3,[],i_ 0),(5,[],i_ p),(6,[],.bool d)]/\i=[]) ?_ (λfr _ af k _ l=>?_)
 .refine G.cd (λu=>?_) λu=>?_
  .have n:d=true:=by
    cases d with
   |true=>rfl
   |false =>
     exfalso;rw[aF dc_]at g;subst g;obtain⟨c,f⟩:∃c,A[0]?=some c:=⟨A[0],ah X⟩;have h1:=t 0 c f;have h2:=q c (aJ f);rw[TW]at h1;rw[ak,h1]at u;unfold dX at h2;simp at u h2;omega
   subst n;rw[aK rfl]at g;subst g;refine U0 2 [0,2,3,5,6] U<|Wj 0 l_ (hn_ [0,2,3,5,6] U) ⟨trivial,U,U⟩
  have n:d=false:=by
   cases d with
  |false=>rfl
  |true =>
    exfalso;have h1:s[0]?=some 45:=by rw[<- hs];rfl
    rw[aK rfl]at g;have h2:(decide ((0:Int)<((s.length:Nat):Int)) && decide ((((s.getD 0 0).toNat:Nat):Int)=45))=false:=by simpa using u
    rw[ak,h1,SB om_]at h2;exact absurd h2 dc_
  subst n;rw[aF dc_]at g;subst g;refine Wj 0 l_ (hn_ [0,2,3,5,6] U) ⟨trivial,U,U⟩
 obtain⟨_,rfl,rfl⟩:=l;refine U0 2 [0,2,3,5,6,7] U<|G.loop (λfr y i k=>∃(j:Nat),(j<=A.length/\j<=9)/\fr=[(0,[],ae s),(2,[],i_ ((bS (A.take j):Nat):Int)),(3,[],i_ 0),(5,[],i_ ((p+j:Nat):Int)),(6,[],.bool d),(7,[],i_ p)]/\i=[]/\k=A.length-j+1) (hn_ [0,2,3,5,6,7] U) ⟨0,⟨by omega,by omega⟩,U,U,U⟩ (λfr ag ai m Y l=>?_);obtain⟨j,⟨hj,v⟩,rfl,rfl,rfl⟩:=l;obtain⟨c,f⟩:∃c,p+j<s.length->s[p+j]?=some c:=⟨s.getD (p+j) 0,λh=>by rw[ak,ah h];rfl⟩;refine U1 7 U λR a=>WE (b:=c) U8 (λZ=>⟨by omega,f (by have h:decide (((p+j:Nat):Int)<((s.length:Nat):Int))=true:=Z.1;have h2:=RD h;omega)⟩) U2<|V2 U6<|Wr U8<|V5 [0,2,3,5,6,7,26] a U<|G.cd (λw=>?_) λw=>?_
 .have z:p+j<s.length/\c.toNat≠47:=by
   simp at w;omega
  have E:j<A.length:=by
   rcases SP j A.length with h|h
   .exact h
   exfalso;obtain rfl:j=A.length:=by omega
   have h1:=f z.1;have h2:=N 0;rw[TW,h1]at h2;cases B with
  |none=>simp[dw]at h2
  |some b =>
    simp[dw]at h2;subst h2;exact z.2 U
  obtain⟨e,o⟩:∃c,A[j]?=some c:=⟨A[j],ah E⟩;obtain rfl:e=c:=by
   have h1:=f z.1;rw[t j e o]at h1;exact TO h1
  have O:48<=e.toNat/\e.toNat<=57:=by simpa [dX] using q e (aJ o)
  have hV:=mT q v;refine U1 2 U λR a=>V8 _ U U6<|C6 1 [0,2,3,5,6,7,32] a U<|G.cd (λF=>?_) λF=>?_
  .have r:¬ A.length<=9:=by
    have:((p+j:Nat):Int)-p=9:=by simpa using F
    omega
   refine U0 3 [2,3,4] U<|Wd (G.dropAll (WP U4 ?_));refine⟨?_,U⟩;unfold tg Nb;rw[SM r,Bool.false_and,aF dc_]
  have r:j≠9:=by
   have:¬ ((p+j:Nat):Int)-p=9:=by simpa using F
   omega
  refine U1 1 U λR a=>V8 _ U U6<|V4 2 U<|WE U8 (λ_=>⟨by omega,t j _ o⟩) U2<|D.int (((e.toNat:Nat):Int)-48) U4 (by rw[IntKind.wrap_u8];omega) U2<|WG (c:=((e.toNat:Nat):Int)-48) U8 f_ fl_<|V8 _ U U6<|C6 1 [0,2,3,5,6,7] a U<|U1 1 U λR a=>V8 _ U U6<|C6 1 [0,2,3,5,6,7] a U ?_;rw[show 10*((bS (A.take j):Nat):Int)+(((e.toNat:Nat):Int)-48)=((bS (A.take (j+1)):Nat):Int) by rw[pm o];omega];refine We (m':=A.length-(j+1)+1) om_ Y (hn_ [0,2,3,5,6,7] U) ⟨j+1,⟨by omega,by omega⟩,U,U,U⟩
 have E:j=A.length:=by
  rcases SP j A.length with h|h
  .exfalso;obtain⟨e,o⟩:∃c,A[j]?=some c:=⟨A[j],ah h⟩;have h1:=f om_;rw[t j e o]at h1;obtain rfl:=TO h1;have O:48<=e.toNat/\e.toNat<=57:=by simpa [dX] using q e (aJ o)
   simp at w;have:=w om_;omega
  omega
 subst E;rw[Ss];refine U0 1 [0,2,3,5,41] U<|G.cut (λfr y i k=>(True)/\fr=[(0,[],ae s),(2,[],i_ (sgZ d (bS A))),(3,[],i_ 0),(5,[],i_ ((p+A.length:Nat):Int))]/\i=[]) ?_ (λfr _ aj k _ l=>?_)
 .refine G.cd (λH=>?_) λH=>?_
  .have n:d=true:=H;subst n;have aa:=mT q v;rw[Ss]at aa;refine U0 3 [0,2,3,5] U ?_;rw[show IntKind.i64.wrap (0-((bS A:Nat):Int))=sgZ true (bS A) by rw[wrap_i64 om_ om_];unfold sgZ;rw[aK rfl];omega];refine Wj 0 l_ (hn_ [0,2,3,5] U) ⟨trivial,U,U⟩
  have n:d=false:=by simpa using H
  subst n;refine Wj 0 l_ (hn_ [0,2,3,5] U) ⟨trivial,U,U⟩
 obtain⟨_,rfl,rfl⟩:=l;refine U0 4 [0,2,3,5,47] U<|G.cd (λI=>?_) λI=>?_
 .have ab:B=none:=by
   cases B with
  |none=>rfl
  |some b =>
    exfalso;have:p+A.length=s.length:=by simp at I;omega
    rw[x]at this;simp[dw]at this
  subst ab;refine U0 4 [2,3,4] U<|Wd (G.dropAll (WP U4 ?_));refine⟨?_,U⟩;unfold tg Nb;rw[SB v];rfl
 obtain⟨b,rfl⟩:∃b,B=some b:=by
  cases B with
 |some b=>exact⟨b,rfl⟩
 |none =>
   exfalso;simp[x,dw]at I
 have Q:=V b rfl;have al:s.length=p+A.length+1+b.length:=by rw[x];simp[dw];omega
 refine U1 1 U λR a=>V8 _ U U6<|C6 1 [0,2,3,5,7] a U<|U1 1 U λR a=>V8 _ U U6<|C6 1 [0,2,3,5,7] a U<|G.loop (λfr y i k=>∃(j:Nat),(j<=b.length/\j<=9)/\fr=[(0,[],ae s),(2,[],i_ (sgZ d (bS A))),(3,[],i_ ((bS (b.take j):Nat):Int)),(5,[],i_ ((p+A.length+1+j:Nat):Int)),(7,[],i_ ((p+A.length+1:Nat):Int))]/\i=[]/\k=b.length-j+1) (hn_ [0,2,3,5,7] U) ⟨0,⟨by omega,by omega⟩,U,U,U⟩ (λfr am an m ac l=>?_);obtain⟨j,⟨hk,S⟩,rfl,rfl,rfl⟩:=l;refine U0 4 [0,2,3,5,7,56] U<|G.cd (λJ=>?_) λJ=>?_
 .have K:j<b.length:=by
   have:p+A.length+1+j<s.length:=by simp at J;omega
   omega
  obtain⟨c,L⟩:∃c,b[j]?=some c:=⟨b[j],ah K⟩;have ad:s[p+A.length+1+j]?=some c:=by rw[Ur,N,Uu 1 j];exact L
  have O:48<=c.toNat/\c.toNat<=57:=by simpa [dX] using Q c (aJ L)
  have hV:=mT Q S;refine U1 2 U λR a=>V8 _ U U6<|C6 1 [0,2,3,5,7,62] a U<|G.cd (λM=>?_) λM=>?_
  .have r:¬ b.length<=9:=by
    have:((p+A.length+1+j:Nat):Int)-((p+A.length+1:Nat):Int)=9:=by simpa using M
    omega
   refine U0 3 [2,3,4] U<|Wd (G.dropAll (WP U4 ?_));refine⟨?_,U⟩;unfold tg Nb;rw[show(some b).getD []=b from rfl,SM r,Bool.and_false,aF dc_]
  have r:j≠9:=by
   have:¬ ((p+A.length+1+j:Nat):Int)-((p+A.length+1:Nat):Int)=9:=by simpa using M
   omega
  refine U1 1 U λR a=>V8 _ U U6<|V4 2 U<|WE U8 (λ_=>⟨by omega,ad⟩) U2<|D.int (((c.toNat:Nat):Int)-48) U4 (by rw[IntKind.wrap_u8];omega) U2<|WG (c:=((c.toNat:Nat):Int)-48) U8 f_ fl_<|V8 _ U U6<|C6 1 [0,2,3,5,7] a U<|U1 1 U λR a=>V8 _ U U6<|C6 1 [0,2,3,5,7] a U ?_;rw[show 10*((bS (b.take j):Nat):Int)+(((c.toNat:Nat):Int)-48)=((bS (b.take (j+1)):Nat):Int) by rw[pm L];omega];refine We (m':=b.length-(j+1)+1) om_ ac (hn_ [0,2,3,5,7] U) ⟨j+1,⟨by omega,by omega⟩,U,U,U⟩
 have K:j=b.length:=by
  have:¬ p+A.length+1+j<s.length:=by simp at J;omega
  omega
 subst K;rw[Ss];refine U0 5 [2,3,4] U<|Wd (G.dropAll (WP U4 ?_));refine⟨?_,U⟩;unfold tg Nb;rw[show(some b).getD []=b from rfl,SB v,SB S];rfl
theorem mb {n:Int}(a:g ∣ n.natAbs):n.tdiv (g:Int)=n / (g:Int):=Int.tdiv_eq_ediv_of_dvd (UP.1 (T6.2 a))
theorem xQ {n:Int}(a:d≠0):qtx (mkRat n d)=txt (n / ((Nat.gcd n.natAbs d:Nat):Int))++dw (mS (d / Nat.gcd n.natAbs d)):=by
 rw[qF,(vh n a).1,(vh n a).2]
theorem xw (C:Mem)(e:Tabs C)(n:Int)(d:Nat)(o:0<d)(p:n.natAbs<9000000000000000000)(t:d<9000000000000000000):Gives cx.P 121 [i_ n,i_ d] C (ae (qtx (mkRat n d))):=by
 obtain⟨g,b⟩:∃g,Nat.gcd n.natAbs d=g:=⟨_,rfl⟩;have u:0<g:=by rw[<- b];exact UF _ o
 have q:g ∣ n.natAbs:=by rw[<- b];exact Vg _ _
 have v:g ∣ d:=by rw[<- b];exact Vk _ _
 have H:g<=d:=VD o v;rw[xQ om_,b];refine V7 func121 35 U3 λw0=>U0 1 [0,1] U<|U0 4 [0,1,5,6] U<|G.loop (λfr w f h=>∃(x y:Int),(x.natAbs<9000000000000000000/\y.natAbs<9000000000000000000/\Nat.gcd x.natAbs y.natAbs=g)/\fr=[(0,[],i_ n),(1,[],i_ d),(5,[],i_ x),(6,[],i_ y)]/\f=[]/\h=y.natAbs+1) (hn_ [0,1,5,6] U) ⟨n,d,⟨p,by omega,by rw[S4];exact b⟩,U,U,U⟩ (λfr I J m z i=>?_);obtain⟨x,y,⟨K,A,r⟩,rfl,rfl,rfl⟩:=i;refine U0 2 [0,1,5,6,10] U<|G.cd (λj=>?_) λj=>?_
 .have k:y≠0:=by simpa using j
  have B:(x.tmod y).natAbs=x.natAbs % y.natAbs:=UZ x y;have L:=S5 x.natAbs (show 0<y.natAbs by omega);refine Wn [0,1,2,3,4,5] [] U kr_ λR D a=>V4 3 U<|WY (x.tmod y) U6 k U3<|C6 2 [0,1,5,6] a U<|We (m':=(x.tmod y).natAbs+1) om_ z (hn_ [0,1,5,6] U) ⟨y,x.tmod y,⟨A,by omega,by rw[B,<- r,Up x.natAbs,VA y.natAbs x.natAbs,Up]⟩,U,U,U⟩
 have k:y=0:=by simpa using j
 subst k;rw[show(0:Int).natAbs=0 from rfl,UT]at r;refine U0 2 [0,1,5,16] U<|G.cut (λfr w f h=>(True)/\fr=[(0,[],i_ n),(1,[],i_ d),(5,[],i_ g)]/\f=[]) ?_ (λfr _ M h _ i=>?_)
 .refine G.cd (λl=>?_) λl=>?_
  .have E:x<0:=by simpa using l
   refine U0 3 [0,1,5] U ?_;rw[show IntKind.i64.wrap (0-x)=(g:Int) by rw[wrap_i64 om_ om_];omega];refine Wj 0 l_ (hn_ [0,1,5] U) ⟨trivial,U,U⟩
  have E:¬ x<0:=by simpa using l
  rw[show x=(g:Int) by omega];refine Wj 0 l_ (hn_ [0,1,5] U) ⟨trivial,U,U⟩
 obtain⟨_,rfl,rfl⟩:=i;have F:(n / (g:Int)).natAbs<=n.natAbs:=by
  rw[Um (UP.1 (T6.2 q)),S4];exact Tr _ _
 have s:=Tr d g;refine Wn [0,1,2,3,4,5,6,7] [] U kr_ λR D a=>V4 2 U<|W8 (n / (g:Int)) U6 om_ (mb q) (wrap_i64 om_ om_) U2<|V4 2 U<|WZ (d) (g) U6 u (.inl ⟨U,by omega⟩) U2<|C6 2 [0,1] a U<|U0 2 [0,1,26] U<|G.cd (λc=>?_) λc=>?_
 .have h1:d / g=1:=by
   have h2:(((d / g:Nat):Int))=1:=by simpa using c
   omega
  refine U1 1 U λR a=>Wc (fZ _ e.m_ _ om_ om_) U7 fl_<|C6 1 [4] a U<|V6 U2<|⟨?_,U⟩;rw[h1,kv rfl];simp[dw]
 have h1:d / g≠1:=by
  intro h2;rw[h2]at c;exact absurd c dc_
 have N:=jl (n / (g:Int));have O:=jl ((d / g:Nat):Int);have Q:(bh (n / (g:Int)).natAbs).length<=20:=dT (Te F (Uq p dc_)) dc_;have S:(bh ((d / g:Nat):Int).natAbs).length<=20:=dT (by rw[S4];exact Te s (Uq t dc_)) dc_;refine U1 1 U λR a=>Wc (fZ _ e.m_ _ om_ om_) U7 fl_<|WS U6 (λ_=>(by simp only[SC,SZ];omega)) U2<|V2 U6<|Wc (fZ _ e.m_ ((d / g:Nat):Int) (Vu dc_ (VX _)) (Vu (Int.ofNat_le.2 s) om_)) U7 fl_<|WS U6 (λ_=>(by simp only[So,SC,SZ];omega)) U2<|C6 1 [4] a U<|V6 U2<|⟨?_,U⟩;rw[fk h1,df,SX];rfl
theorem Ih (C:Mem)(z:Int)(d:Nat)(k:Nat)(b:0<k)(g:k<=40000)(c:z.natAbs<B9 ^ k)(e:d<B9 ^ k):Gives cx.P 134 [ae (txt z),ae (bh d)] C (ae (txt z++dw (mS d))):=by
 have h:(txt z).length<=9*k+1:=by
  have:=cm c b;unfold txt;split
  .simp;omega
  omega
 have i:=cm e b;refine V7 func134 12 U3 λw0=>U0 1 [0,1] U<|U0 2 [0,1,6] U<|G.cd (λa=>?_) λa=>?_
 .have h1:d=1:=by rw[rL]at a;exact RD a
  refine U0 2 [4] U<|V6 U2<|⟨?_,U⟩;rw[kv h1];simp[dw]
 have h1:d≠1:=by rw[rL]at a;exact Si a
 refine U1 1 U λR f=>WS U6 (λ_=>(by simp only[SC,SZ];omega)) U2<|V2 U6<|WS U6 (λ_=>(by simp only[So,SC,SZ];omega)) U2<|C6 1 [4] f U<|V6 U2<|⟨?_,U⟩;rw[fk h1,SX];rfl
theorem G1 (C:Mem)(s:Str)(c:s.length<1000000):Gives cx.P 122 [ae s] C (.tuple #[ae (je 47 s).1,ae ((je 47 s).2.getD [49])]):=by
 refine V7 func122 18 U3 λw0=>U0 2 [0] U<|U1 1 U λR d=>Wb (Nl _ s 47 c) U7<|C6 7 [4,5,6] d U<|U0 2 [4,5,14] U<|G.cd (λa=>?_) λa=>?_
 .have h1:(je 47 s).2=none:=by
   cases h:(je 47 s).2 with
  |none=>rfl
  |some b=>rw[h]at a;simp at a
  refine U0 3 [2,3] U<|Wd (G.dropAll (Wu U3 ?_));refine⟨?_,U⟩;rw[h1];rfl
 obtain⟨b,h1⟩:∃b,(je 47 s).2=some b:=by
  cases h:(je 47 s).2 with
 |some b=>exact⟨b,rfl⟩
 |none=>rw[h]at a;simp at a
 refine U0 4 [2,3] U<|Wd (G.dropAll (Wu U3 ?_));refine⟨?_,U⟩;rw[h1];rfl
theorem DR {c:UInt8}:∀{a:Str}(b:Str),c ∉ a->je c (a++c::b)=(a,some b)
|[],b,_=>by simp[je]
|x::a,b,h=>by
  have d:x≠c:=λe=>h (e ▸ Sj);have hr:=DR (c:=c) (a:=a) b (λh2=>h (Sv _ h2));simp only[Ub,je,aF d,hr]
theorem yS {c:UInt8}:∀{a:Str},c ∉ a->je c a=(a,none)
|[],_=>rfl
|x::a,h=>by
  have b:x≠c:=λe=>h (e ▸ Sj);have hr:=yS (c:=c) (a:=a) (λh2=>h (Sv _ h2));simp only[je,aF b,hr]
theorem xm (h:∀c∈s,dX c=true):(47:UInt8) ∉ s:=λh2=>absurd (h 47 h2) dc_
theorem xl (z:Int):(47:UInt8) ∉ txt z:=by
 unfold txt;split
 .intro h;rcases Sw.1 h with h|h
  .cases h
  exact xm (iO _) h
 exact xm (iO _)
theorem mV (q:Rat):je 47 (qtx q)=(txt q.num,mS q.den):=by
 rw[qF];unfold mS;split
 .rw[show dw none=[] from rfl,SF];exact yS (xl _)
 exact DR _ (xl _)
theorem one_dec:bh 1=[49]:=by rw[bh];rfl
theorem Bb (d:Nat):(mS d).getD [49]=bh d:=by
 unfold mS;split
 .rename_i h;subst h;exact one_dec.symm
 rfl
theorem OG (C:Mem)(q:Rat)(a:(qtx q).length<1000000):Gives cx.P 122 [ae (qtx q)] C (.tuple #[ae (txt q.num),ae (bh q.den)]):=by
 have h:=G1 C (qtx q) a
 rwa [mV,Bb]at h
def lF (z w:Int):Rat:=mkRat (if w<0 then -z else z) w.natAbs
theorem rj (C:Mem)(f:Tabs C)(z w:Int)(k:Nat)(b:0<k)(e:k<=40000)(p:z.natAbs<B9 ^ k)(q:w.natAbs<B9 ^ k)(v:w≠0):Gives cx.P 123 [ae (txt z),ae (txt w)] C (ae (qtx (lF z w))):=by
 have x:=cm p b;have A:=cm q b;obtain⟨y,hy⟩:∃y,(if w<0 then -z else z)=y:=⟨_,rfl⟩;obtain⟨d,hd⟩:∃d,w.natAbs=d:=⟨_,rfl⟩;have r:d≠0:=by omega
 have B:y.natAbs=z.natAbs:=by rw[<- hy];split <;> omega
 obtain⟨g,c⟩:∃g,Nat.gcd y.natAbs d=g:=⟨_,rfl⟩;have D:0<g:=by rw[<- c];exact UF _ om_
 have s:g ∣ d:=by rw[<- c];exact Vk _ _
 have E:g<=d:=VD om_ s;unfold lF;rw[hy,hd,xQ r,c];refine V7 func123 35 U3 λw0=>U0 1 [0,1] U<|U1 1 U λR a=>Wb (mF _ w) U7<|C6 1 [0,1,8] a U<|G.cut (λfr t i j=>(True)/\fr=[(0,[],ae (txt y)),(1,[],ae (txt (d:Nat)))]/\i=[]) ?_ (λfr _ F j _ l=>?_)
 .refine G.cd (λm=>?_) λm=>?_
  .have n:w<0:=by
    have h:er w<0:=by simpa using m
    unfold er at h;split at h <;> omega
   rw[aK n]at hy;refine U1 1 U λR a=>Wc (vu _ z om_) U7 fl_<|V2 U6<|Wc (vu _ w om_) U7 fl_<|C6 2 [0,1] a U<|Wj 0 l_ (hn_ [0,1] U) ⟨trivial,by rw[hy,show -w=((d:Nat):Int) by omega],U⟩
  have n:¬ w<0:=by
   intro h2;have h:¬ er w<0:=by simpa using m
   unfold er at h;split at h <;> omega
  rw[aF n]at hy;refine Wj 0 l_ (hn_ [0,1] U) ⟨trivial,by rw[hy,show w=((d:Nat):Int) by omega],U⟩
 obtain⟨_,rfl,rfl⟩:=l;refine U1 2 U λR a=>Wc (Io _ f.m_ y (d:Nat) k b e om_ om_) U7 fl_<|C6 1 [0,1,5] a U ?_;rw[S4,c];refine U0 2 [0,1,5,17] U<|G.cut (λfr t i j=>(True)/\fr=[(0,[],ae (txt (y / (g:Nat)))),(1,[],ae (txt ((d / g:Nat):Int)))]/\i=[]) ?_ (λfr _ H j _ l=>?_)
 .refine G.cd (λo=>?_) λo=>?_
  .refine U1 2 U λR a=>Wc (tH _ f.m_ y (g:Nat) k b e om_ om_ om_) U7 fl_<|C6 5 [0,1,5] a U<|U1 2 U λR a=>Wc (tH _ f.m_ (d:Nat) (g:Nat) k b e om_ om_ om_) U7 fl_<|C6 5 [0,1] a U<|Wj 0 l_ (hn_ [0,1] U) ⟨trivial,by rw[Int.natCast_ediv],U⟩
  have u:g=1:=by
   rw[df,rL]at o;simpa using o
  refine Wj 0 l_ (hn_ [0,1] U) ⟨trivial,by rw[u,Nat.div_one,Int.natCast_one,Int.ediv_one],U⟩
 obtain⟨_,rfl,rfl⟩:=l;rw[df];exact U1 2 U λR a=>Wc (Ih _ (y / (g:Nat)) (d / g) k b e (by rw[Um (UP.1 (T6.2 (by rw[<- c];exact Vg _ _))),S4];exact Te (Tr _ _) om_) (Te (Tr _ _) om_)) U7 fl_<|C6 1 [4] a U<|V6 U2<|⟨U,U⟩
theorem Pr {a b:Nat}(h:bh a=bh b):a=b:=by rw[<- (bA a).2,h,(bA b).2]
theorem Qh (h:txt z=txt w):z=w:=by
 have h1:=dM z;rw[h,dM w]at h1;have h2:=Pr (VC h1).1;have h3:decide (w<0)=decide (z<0):=(VC h1).2;by_cases a:w<0
 .rw[SB a]at h3;have:=RD h3.symm;omega
 rw[SM a]at h3;have:=Si h3.symm;omega
theorem gx (h:qtx a=qtx b):a=b:=by
 have h1:=mV a;rw[h,mV b]at h1;have h2:=Qh (VC h1).1;have h3:=congrArg Rc (VC h1).2;rw[mR,mR]at h3;exact Rat.ext h2.symm h3.symm
theorem Ot (a b:Rat):((⟨(qtx a).toArray⟩:ByteArray).data.toList == (⟨(qtx b).toArray⟩:ByteArray).data.toList)=decide (a=b):=by
 show(qtx a == qtx b)=_;rw[VS,T4,Sr];exact⟨gx,λh=>by rw[h]⟩
theorem qtx_zero:qtx 0=[48]:=by
 rw[show(0:Rat)=((0:Int):Rat) from rfl,nH];unfold txt;rw[aF om_,show bh (0:Int).natAbs=bh 0 from rfl,bh];rfl
theorem fR:qtx 1=[49]:=by
 rw[show(1:Rat)=((1:Int):Rat) from rfl,nH];exact one_val.symm
theorem eS (a:Rat):((⟨(qtx a).toArray⟩:ByteArray).data.toList == (⟨#[48]⟩:ByteArray).data.toList)=decide (a=0):=by
 have h:=Ot a 0
 rwa [qtx_zero]at h
theorem MR (a:Rat):((⟨(qtx a).toArray⟩:ByteArray).data.toList == (⟨#[49]⟩:ByteArray).data.toList)=decide (a=1):=by
 have h:=Ot a 1
 rwa [fR]at h
theorem tj (a:Rat):0<(qtx a).length:=by
 unfold qtx;rw[So,So];have:=S7.2 (nW a.num.natAbs);omega
theorem aV (h:QB k q)(a:0<k):(qtx q).length<=18*k+2:=by
 unfold qtx;rw[So,So];have h1:=cm h.1 a;have h2:=cm h.2 a;have h3:(ET (decide (q.num<0))).length<=1:=by cases decide (q.num<0) <;> simp[ET]
 have h4:(dw (mS q.den)).length<=9*k+1:=by
  unfold mS;split
  .simp[dw]
  simp[dw];exact h2
 omega
theorem kb (q:Rat):∃c r,qtx q=c::r/\((((c.toNat:Nat):Int) == 45)=decide (q.num<0)):=by
 by_cases h:q.num<0
 .refine⟨45,bh q.num.natAbs++dw (mS q.den), ?_,by rw[SB h];decide⟩;unfold qtx;rw[SB h];rfl
 obtain⟨c,r,a⟩:∃c r,bh q.num.natAbs=c::r:=List.exists_cons_of_ne_nil (nW _);refine⟨c,r++dw (mS q.den), ?_, ?_⟩
 .unfold qtx;rw[SM h,a];rfl
 have h2:=iO q.num.natAbs c (by rw[a];exact Sj);rw[SM h];unfold dX at h2;have h3:=RD h2;exact SM om_
theorem fe (h:¬ q.num<0)(a:q≠0):qtx (-q)=45::qtx q:=by
 have b:q.num≠0:=λe=>a (Va.1 e);unfold qtx;rw[VB,Rat.neg_den,SB om_,SM h,Vm];rfl
theorem gH (h:q.num<0):qtx q=45::qtx (-q):=by
 have h2:=fe (q:=-q) (by rw[VB];omega) (by intro e;have h3:=congrArg Rat.num e;rw[VB]at h3;have h4:(0:Rat).num=0:=rfl;omega)
 rwa [Rat.neg_neg]at h2
def DF (q:Rat):Bool:=Nb (bh q.num.natAbs) (mS q.den)
theorem Na (h:(bh n).length<=9):n<1000000000:=by
 have h1:=dF (iO n);rw[(bA n).2]at h1;exact Tk h1 (Su (SJ dc_ h) dc_)
theorem lB (h:DF q=true):q.num.natAbs<1000000000/\q.den<1000000000:=by
 unfold DF Nb at h;rw[Sz,Sr,Sr]at h;refine⟨Na h.1, ?_⟩;by_cases h1:q.den=1
 .omega
 rw[fk h1]at h;exact Na h.2
theorem GZ (C:Mem)(q:Rat)(a:(qtx q).length<=1000000):Gives cx.P 120 [ae (qtx q)] C (if DF q then .tuple #[i_ q.num,i_ (q.den:Nat),.bool true] else .tuple #[i_ 0,i_ 0,.bool false]):=by
 have h:=EL C (decide (q.num<0)) (bh q.num.natAbs) (mS q.den) (iO _) (nW _) (DL _) a;unfold tg at h;rw[(bA _).2,mR]at h;have e:sgZ (decide (q.num<0)) q.num.natAbs=q.num:=by
  unfold sgZ;by_cases h:q.num<0
  .rw[SB h,aK rfl];omega
  rw[SM h,aF dc_];omega
 rw[e]at h;exact h
theorem fq (C:Mem)(q:Rat)(g:(qtx q).length<=1000000):Gives cx.P 78 [ae (qtx q)] C (ae (qtx (-q))):=by
 have h:=tj q;refine V7 func78 13 U3 λw0=>U0 1 [0] U<|U0 2 [0,4] U<|G.cd (λh4=>?_) λh4=>?_
 .have h0:q=0:=by rw[eS]at h4;exact RD h4
  refine U0 2 [2] U<|V6 U2<|⟨?_,U⟩;rw[h0,Rat.neg_zero]
 have h0:q≠0:=by rw[eS]at h4;exact Si h4
 obtain⟨c,r,f,e⟩:=kb q;refine U1 1 U λR a=>WE U8 (λ_=>⟨by omega,by rw[f];rfl⟩) U2<|C6 1 [0,8] a U<|G.cd (λb=>?_) λb=>?_
 .have d:q.num<0:=by rw[e]at b;exact RD b
  refine U1 1 U λR a=>WQ 1 (qtx q).length U9 (λ_=>⟨.inr ⟨_,U⟩,.inl ⟨U,U⟩,.inl ⟨U,U⟩,by omega,Sg _,Sg _⟩) U2<|C6 1 [2] a U<|V6 U2<|⟨?_,U⟩;rw[Ss,gH d];rfl
 have d:¬ q.num<0:=by rw[e]at b;exact Si b
 refine U1 1 U λR a=>WS U6 (λ_=>(by simp only[SC,SZ];omega)) U2<|C6 1 [2] a U<|V6 U2<|⟨?_,U⟩;rw[fe d h0];rfl
theorem fD (C:Mem)(q:Rat)(j:(qtx q).length<=1000000):Gives cx.P 94 [ae (qtx q)] C (i_ (er q.num)):=by
 obtain⟨c,r,f,d⟩:=kb q;have k:=tj q;refine V7 func94 15 U3 λw0=>U0 1 [0] U<|U0 3 [0,3] U<|G.cd (λh3=>?_) λh3=>?_
 .have h0:q=0:=by rw[eS]at h3;exact RD h3
  refine U0 1 [2] U<|V6 U2<|⟨?_,U⟩;rw[h0];rfl
 have h0:q≠0:=by rw[eS]at h3;exact Si h3
 have g:q.num≠0:=λe=>h0 (Va.1 e);refine U1 5 U λR i=>WE U8 (λ_=>⟨by omega,by rw[f];rfl⟩) U2<|V2 U6<|Wr U8<|C6 1 [6] i U<|G.cd (λa=>?_) λa=>?_
 .rw[d]at a;have b:q.num<0:=by
   have h:=(Sz _ _ ▸ a:_/\_).2;exact RD h
  skip
  refine U0 1 [2] U<|V6 U2<|⟨?_,U⟩;unfold er;rw[aK b]
 rw[d,SB (show(0:Int)<((⟨(qtx q).toArray⟩:ByteArray).data.toList.length:Int) by show(0:Int)<(((qtx q).length:Nat):Int);omega),Vp]at a;have b:¬ q.num<0:=Si a;refine U0 1 [2] U<|V6 U2<|⟨?_,U⟩;unfold er;rw[aF b,aF g]
theorem jV (C:Mem)(q:Rat)(b:(qtx q).length<=1000000):Gives cx.P 120 [ae (qtx q)] C (.tuple #[i_ (if DF q then q.num else 0),i_ (if DF q then ((q.den:Nat):Int) else 0),.bool (DF q)]):=by
 have h:=GZ C q b;cases a:DF q with
|true=>rw[a]at h;exact h
|false=>rw[a]at h;exact h
def nZ (a b:Rat):Int:=if a<b then -1 else if b<a then 1 else 0
theorem vX :nZ a b=wC (a.num*b.den) (b.num*a.den):=by
 unfold nZ wC;simp only[Rat.lt_iff]
theorem fb (a:Rat):0<a.den:=Ui a.den_nz
theorem kg {a:Int}(b:a.natAbs<1000000000)(c:d<1000000000):-1000000000000000000<a*(d:Int)/\a*(d:Int)<1000000000000000000:=CW b (by rw[S4];exact c)
theorem ml {a:Nat}(b:a<1000000000)(c:d<1000000000):a*d<1000000000000000000:=TL b c
theorem ld (C:Mem)(q:Rat)(a:(qtx q).length<1000000):Gives cx.P 122 [ae (qtx q)] C (.tuple #[ae (txt q.num),ae (txt ((q.den:Nat):Int))]):=by
 have h:=OG C q a
 rwa [<- df]at h
theorem cP (a:z.natAbs<B9 ^ k)(b:w.natAbs<B9 ^ k):(z*w).natAbs<B9 ^ (k+k):=by
 rw[TF];exact oX a b
theorem pk (a:0<d):lF z ((d:Nat):Int)=mkRat z d:=by
 unfold lF;rw[aF om_,S4]
theorem jH (h:QB k q):((q.den:Nat):Int).natAbs<B9 ^ k:=by rw[S4];exact h.2
theorem fP (C:Mem)(m:Tabs C)(a b:Rat)(k:Nat)(f:0<k)(u:k<=20000)(d:QB k a)(e:QB k b):Gives cx.P 218 [ae (qtx a),ae (qtx b)] C (i_ (nZ a b)):=by
 have v:=aV d f;have w:=aV e f;refine V7 func218 65 U3 λw0=>U0 1 [0,1] U<|U0 3 [0,1,19] U<|G.cd (λg=>?_) λg=>?_
 .have h0:a=b:=by rw[Ot]at g;exact RD g
  refine U0 1 [4] U<|V6 U2<|⟨?_,U⟩;subst h0;rw[nZ,aF (Rat.lt_irrefl),aF (Rat.lt_irrefl)]
 refine U1 1 U λR c=>Wc (jV _ a om_) U7 fl_<|C6 7 [0,1,5,6,7] c U<|U0 1 [0,1,5,6,26] U<|G.cut (λfr x r s=>(True)/\fr=[(0,[],ae (qtx a)),(1,[],ae (qtx b))]/\r=[]) ?_ (λfr _ y s _ t=>?_)
 .refine G.cd (λn=>?_) λn=>?_
  .have h:DF a=true:=n;rw[aK h,aK h];have o:=lB h;refine U1 1 U λR c=>Wc (jV _ b om_) U7 fl_<|C6 7 [0,1,5,6,8,9,10] c U<|U0 1 [0,1,5,6,8,9,33] U<|G.cd (λp=>?_) λp=>?_
   .have i:DF b=true:=p;rw[aK i,aK i];have q:=lB i;have z:=kg o.1 q.2;have A:=kg q.1 o.2;refine U1 2 U λR c=>V8 _ U U6<|V4 2 U<|V8 _ U U6<|C6 2 [11,12] c U<|U0 4 [11,12,40] U<|G.cd (λj=>?_) λj=>?_
    .have h1:=RD j;refine U0 1 [4] U<|V6 U2<|⟨?_,U⟩;rw[vX,wC,aK h1]
    have h1:=Si j;refine U0 4 [44] U<|G.cd (λl=>?_) λl=>?_
    .have h2:=RD l;refine U0 1 [4] U<|V6 U2<|⟨?_,U⟩;rw[vX,wC,aF h1,aK h2]
    have h2:=Si l;refine U0 1 [4] U<|V6 U2<|⟨?_,U⟩;rw[vX,wC,aF h1,aF h2]
   refine Wj 0 l_ (hn_ [0,1] U) ⟨trivial,U,U⟩
  refine Wj 0 l_ (hn_ [0,1] U) ⟨trivial,U,U⟩
 obtain⟨_,rfl,rfl⟩:=t;exact U1 1 U λR c=>Wc (ld _ a om_) U7 fl_<|C6 5 [1,13,14] c U<|U1 1 U λR c=>Wc (ld _ b om_) U7 fl_<|C6 5 [13,14,15,16] c U<|U1 2 U λR c=>Wc (lm _ m.m_ _ _ k f om_ d.1 (jH e)) U7 fl_<|V4 2 U<|Wc (lm _ m.m_ _ _ k f om_ e.1 (jH d)) U7 fl_<|Wc (rt _ _ _ (by have:=cm (cP d.1 (jH e)) om_;omega) (by have:=cm (cP e.1 (jH d)) om_;omega)) U7 fl_<|C6 1 [4] c U<|V6 U2<|⟨by rw[vX],U⟩
theorem fQ (C:Mem)(f:Tabs C)(a b:Rat)(k:Nat)(g:0<k)(w:k<=10000)(d:QB k a)(e:QB k b):Gives cx.P 101 [ae (qtx a),ae (qtx b)] C (ae (qtx (a+b))):=by
 have x:=aV d g;have y:=aV e g;have r:=fb a;have s:=fb b;have o:0<a.den*b.den:=UB r s;refine V7 func101 67 U3 λw0=>U0 1 [0,1] U<|U0 2 [0,1,16] U<|G.cd (λh=>?_) λh=>?_
 .have h0:a=0:=by rw[eS]at h;exact RD h
  refine U0 2 [4] U<|V6 U2<|⟨?_,U⟩;rw[h0,Rat.zero_add]
 refine U0 2 [0,1,19] U<|G.cd (λi=>?_) λi=>?_
 .have h0:b=0:=by rw[eS]at i;exact RD i
  refine U0 2 [4] U<|V6 U2<|⟨?_,U⟩;rw[h0,Rat.add_zero]
 refine U1 1 U λR c=>Wc (jV _ a om_) U7 fl_<|C6 7 [0,1,5,6,7] c U<|U0 1 [0,1,5,6,27] U<|G.cut (λfr z t u=>(True)/\fr=[(0,[],ae (qtx a)),(1,[],ae (qtx b))]/\t=[]) ?_ (λfr _ A u _ v=>?_)
 .refine G.cd (λp=>?_) λp=>?_
  .have j:DF a=true:=p;rw[aK j,aK j];have l:=lB j;refine U1 1 U λR c=>Wc (jV _ b om_) U7 fl_<|C6 7 [0,1,5,6,8,9,10] c U<|U0 1 [0,1,5,6,8,9,34] U<|G.cd (λq=>?_) λq=>?_
   .have m:DF b=true:=q;rw[aK m,aK m];have n:=lB m;have B:=kg l.1 n.2;have D:=kg n.1 l.2;have E:=ml l.2 n.2;exact U1 2 U λR c=>V8 _ U U6<|V4 2 U<|V8 _ U U6<|V8 _ U U6<|V4 2 U<|V8 (((a.den*b.den:Nat):Int)) (SK _ _).symm U6<|Wc (xw _ f.m_ _ _ o om_ om_) U7 fl_<|C6 1 [4] c U<|V6 U2<|⟨by rw[eZ],U⟩
   refine Wj 0 l_ (hn_ [0,1] U) ⟨trivial,U,U⟩
  refine Wj 0 l_ (hn_ [0,1] U) ⟨trivial,U,U⟩
 obtain⟨_,rfl,rfl⟩:=v;exact U1 1 U λR c=>Wc (ld _ a om_) U7 fl_<|C6 5 [1,11,12] c U<|U1 1 U λR c=>Wc (ld _ b om_) U7 fl_<|C6 5 [11,12,13,14] c U<|U1 2 U λR c=>Wc (lm _ f.m_ _ _ k g om_ d.1 (jH e)) U7 fl_<|V4 2 U<|Wc (lm _ f.m_ _ _ k g om_ e.1 (jH d)) U7 fl_<|Wc (O5 _ f.m_ _ _ (k+k) om_ om_ (cP d.1 (jH e)) (cP e.1 (jH d))) U7 fl_<|V4 2 U<|Wc (lm _ f.m_ _ _ k g om_ (jH d) (jH e)) U7 fl_<|Wc (rj _ f.m_ _ _ (k+k+1) om_ om_ (Te (UI _ _) (uB (cP d.1 (jH e)) (cP e.1 (jH d)))) (dK (cP (jH d) (jH e)) om_) (by rw[<- SK];omega)) U7 fl_<|C6 1 [4] c U<|V6 U2<|⟨by rw[eZ,<- SK,pk o],U⟩
theorem Rq (c:QB k a)(d:QB k b):QB (k+k+1) (a+b):=by
 rw[eZ];exact gA (Nat.ne_of_gt (UB (fb a) (fb b))) (Te (UI _ _) (uB (cP c.1 (jH d)) (cP d.1 (jH c)))) (dK (oX c.2 d.2) om_)
theorem sa (c:QB k a)(d:QB k b):QB (k+k) (a*b):=by
 rw[eY];exact gA (Nat.ne_of_gt (UB (fb a) (fb b))) (cP c.1 d.1) (oX c.2 d.2)
theorem eO (b:QB k a):QB k (-a):=⟨by rw[VB,Vm];exact b.1,by rw[Rat.neg_den];exact b.2⟩
theorem kU (c:QB k a)(d:QB k b):QB (k+k+1) (a-b):=by
 rw[Vv];exact Rq c (eO d)
theorem Ea (b:QB k a)(d:a≠0):QB k a⁻¹:=by
 have c:a.num≠0:=λe=>d (Va.1 e);refine⟨?_, ?_⟩
 .rw[Rat.num_inv,TF,Int.natAbs_sign_of_ne_zero c,Uv,S4];exact b.2
 rw[Rat.den_inv,aF c];exact b.1
theorem jN (c:QB k a)(d:QB k b)(e:b≠0):QB (k+k) (a / b):=by
 rw[Rat.div_def];exact sa c (Ea d e)
theorem Rp (h:z.natAbs<B9 ^ k)(a:0<k):QB k (z:Rat):=⟨h,by
 show 1<B9 ^ k;exact Tk (by decide:1<B9 ^ 1) (SJ dc_ a)⟩
theorem cX (C:Mem)(g:Tabs C)(a b:Rat)(k:Nat)(i:0<k)(z:k<=10000)(d:QB k a)(e:QB k b):Gives cx.P 60 [ae (qtx a),ae (qtx b)] C (ae (qtx (a*b))):=by
 have A:=aV d i;have B:=aV e i;have w:=fb a;have x:=fb b;have q:0<a.den*b.den:=UB w x;refine V7 func60 66 U3 λw0=>U0 1 [0,1] U<|U0 3 [0,1,15] U<|G.cut (λfr y L' j=>(True)/\fr=[(0,[],ae (qtx a)),(1,[],ae (qtx b)),(15,[],.bool (decide (a=0∨b=0)))]/\L'=[]) ?_ (λfr _ D j _ l=>?_)
 .refine G.cd (λf=>?_) λf=>?_
  .have h0:a=0:=by rw[eS]at f;exact RD f
   rw[eS,show decide (a=0)=decide (a=0∨b=0) by simp[h0]];refine Wj 0 l_ (hn_ [0,1,15] U) ⟨trivial,U,U⟩
  have h0:¬ a=0:=by rw[eS]at f;exact Si f
  refine U0 3 [0,1,15] U ?_;rw[eS,show decide (b=0)=decide (a=0∨b=0) by simp[h0]];refine Wj 0 l_ (hn_ [0,1,15] U) ⟨trivial,U,U⟩
 obtain⟨_,rfl,rfl⟩:=l;refine G.cd (λr=>?_) λr=>?_
 .have h0:=RD r;refine U0 1 [4] U<|V6 U2<|⟨?_,U⟩;rw[show a*b=0 by rcases h0 with h|h <;> simp[h],qtx_zero];rfl
 refine U0 3 [0,1,20] U<|G.cd (λm=>?_) λm=>?_
 .have h1:a=1:=by rw[MR]at m;exact RD m
  refine U0 2 [4] U<|V6 U2<|⟨?_,U⟩;rw[h1,Rat.one_mul]
 refine U0 3 [0,1,24] U<|G.cd (λn=>?_) λn=>?_
 .have h1:b=1:=by rw[MR]at n;exact RD n
  refine U0 2 [4] U<|V6 U2<|⟨?_,U⟩;rw[h1,Rat.mul_one]
 refine U1 1 U λR c=>Wc (jV _ a om_) U7 fl_<|C6 7 [0,1,5,6,7] c U<|U0 1 [0,1,5,6,34] U<|G.cut (λfr y L' j=>(True)/\fr=[(0,[],ae (qtx a)),(1,[],ae (qtx b))]/\L'=[]) ?_ (λfr _ E j _ l=>?_)
 .refine G.cd (λs=>?_) λs=>?_
  .have o:DF a=true:=s;rw[aK o,aK o];have t:=lB o;refine U1 1 U λR c=>Wc (jV _ b om_) U7 fl_<|C6 7 [0,1,5,6,8,9,10] c U<|U0 1 [0,1,5,6,8,9,41] U<|G.cd (λu=>?_) λu=>?_
   .have p:DF b=true:=u;rw[aK p,aK p];have v:=lB p;have F:=CW t.1 v.1;have H:=ml t.2 v.2;exact U1 2 U λR c=>V8 _ U U6<|V4 2 U<|V8 (((a.den*b.den:Nat):Int)) (SK _ _).symm U6<|Wc (xw _ g.m_ _ _ q om_ om_) U7 fl_<|C6 1 [4] c U<|V6 U2<|⟨by rw[eY],U⟩
   refine Wj 0 l_ (hn_ [0,1] U) ⟨trivial,U,U⟩
  refine Wj 0 l_ (hn_ [0,1] U) ⟨trivial,U,U⟩
 obtain⟨_,rfl,rfl⟩:=l;exact U1 1 U λR c=>Wc (ld _ a om_) U7 fl_<|C6 5 [1,11,12] c U<|U1 1 U λR c=>Wc (ld _ b om_) U7 fl_<|C6 5 [11,12,13,14] c U<|U1 2 U λR c=>Wc (lm _ g.m_ _ _ k i om_ d.1 e.1) U7 fl_<|V4 2 U<|Wc (lm _ g.m_ _ _ k i om_ (jH d) (jH e)) U7 fl_<|Wc (rj _ g.m_ _ _ (k+k) om_ om_ (cP d.1 e.1) (cP (jH d) (jH e)) (by rw[<- SK];omega)) U7 fl_<|C6 1 [4] c U<|V6 U2<|⟨by rw[eY,<- SK,pk q],U⟩
theorem dY (C:Mem)(e:Tabs C)(a b:Rat)(k:Nat)(c:0<k)(f:k<=10000)(g:QB k a)(d:QB k b):Gives cx.P 127 [ae (qtx a),ae (qtx b)] C (ae (qtx (a-b))):=by
 have i:=aV d c;exact V7 func127 9 U3 λw0=>U0 1 [0,1] U<|U1 2 U λR h=>Wc (fq _ b om_) U7 fl_<|Wb (fQ _ e.m_ a (-b) k c f g (eO d)) U7<|C6 1 [4] h U<|V6 U2<|⟨by rw[Vv],U⟩
theorem iu (C:Mem)(n:Tabs C)(a b:Rat)(k:Nat)(g:0<k)(o:k<=10000)(p:QB k a)(f:QB k b)(h:b≠0):Gives cx.P 70 [ae (qtx a),ae (qtx b)] C (.tuple #[ae (qtx (a / b)),i_ 0]):=by
 have v:=aV f g;have q:b.num≠0:=λe=>h (Va.1 e);obtain⟨c,r,s,l⟩:=kb b;refine V7 func70 27 U3 λw0=>U0 2 [0,1] U<|U0 2 [0,1,9] U<|G.cd (λj=>?_) λj=>?_
 .exfalso;rw[eS]at j;exact h (RD j)
 refine U1 1 U λR d=>Wc (ld _ b om_) U7 fl_<|C6 5 [0,1,6,7] d U<|U1 1 U λR d=>WE U8 (λ_=>⟨by omega,by rw[s];rfl⟩) U2<|C6 1 [0,6,7,17] d U<|G.cut (λfr w L' t=>(True)/\fr=[(0,[],ae (qtx a)),(6,[],ae (txt (b.num.natAbs:Nat))),(7,[],ae (txt (b⁻¹).num))]/\L'=[]) ?_ (λfr _ x t _ u=>?_)
 .refine G.cd (λi=>?_) λi=>?_
  .have m:b.num<0:=by rw[l]at i;exact RD i
   refine U1 1 U λR d=>Wc (vu _ b.num (by have:=cm f.1 g;omega)) U7 fl_<|V2 U6<|Wc (vu _ ((b.den:Nat):Int) (by have:=cm (jH f) g;omega)) U7 fl_<|C6 2 [0,6,7] d U ?_;rw[show -b.num=((b.num.natAbs:Nat):Int) by omega,show -((b.den:Nat):Int)=(b⁻¹).num by rw[Rat.num_inv,Int.sign_eq_neg_one_of_neg m,Int.neg_one_mul]];refine Wj 0 l_ (hn_ [0,6,7] U) ⟨trivial,U,U⟩
  have m:¬ b.num<0:=by rw[l]at i;exact Si i
  rw[show b.num=((b.num.natAbs:Nat):Int) by omega,show((b.den:Nat):Int)=(b⁻¹).num by rw[Rat.num_inv,Int.sign_eq_one_of_pos om_,Int.one_mul]];refine Wj 0 l_ (hn_ [0,6,7] U) ⟨trivial,U,U⟩
 obtain⟨_,rfl,rfl⟩:=u;rw[df,show b.num.natAbs=(b⁻¹).den by rw[Rat.den_inv,aF q]];refine U1 3 U λR d=>Wc (Ih _ _ _ k g om_ (Ea f h).1 (Ea f h).2) U7 fl_ ?_;rw[<- qF b⁻¹];refine Wb (cX _ n.m_ a b⁻¹ k g o p (Ea f h)) U7<|C6 2 [4,5] d U<|Wd (G.dropAll (Wu U3 ?_));exact⟨by rw[Rat.div_def],U⟩
theorem N7 (C:Mem)(c:Tabs C)(z w:Int)(k:Nat)(d:0<k)(e:k<=40000)(f:z.natAbs<B9 ^ k)(g:w.natAbs<B9 ^ k)(i:w≠0):Gives cx.P 184 [ae (txt z),ae (txt w)] C (.tuple #[ae (qtx (lF z w)),i_ 0]):=by
 refine V7 func184 12 U3 λw0=>U0 2 [0,1] U<|U1 1 U λR a=>Wb (mF _ w) U7<|C6 1 [0,1,8] a U<|G.cd (λb=>?_) λb=>?_
 .exfalso;have h:er w=0:=by simpa using b
  rcases eD w with h2|h2|h2 <;> omega
 refine U1 2 U λR a=>Wb (rj _ c.m_ z w k d e f g i) U7<|C6 2 [4,5] a U<|Wd (G.dropAll (Wu U3 ?_));exact⟨U,U⟩
theorem G5 (C:Mem)(a:Tabs C)(z w:Int)(d:z.natAbs<9000000000000000000)(e:w.natAbs<9000000000000000000)(b:w≠0):Gives cx.P 118 [i_ z,i_ w] C (.tuple #[ae (qtx (lF z w)),i_ 0]):=by
 have f:9000000000000000000<B9 ^ 3:=by decide
 refine V7 func118 13 U3 λw0=>U0 2 [0,1] U<|U1 1 U λR c=>Wc (tE _ a.m_ z om_ om_) U7 fl_<|V2 U6<|Wc (tE _ a.m_ w om_ om_) U7 fl_<|Wc (N7 _ a.m_ z w 3 dc_ dc_ om_ om_ b) U7 fl_<|C6 4 [4,5] c U<|Wd (G.dropAll (Wu U3 ?_));exact⟨U,U⟩
theorem uw (C:Mem)(a:Tabs C)(z:Int)(c:z.natAbs<9000000000000000000):Gives cx.P 119 [i_ z] C (ae (qtx z)):=by
 exact V7 func119 5 U3 λw0=>U0 1 [0] U<|U1 1 U λR b=>Wc (tE _ a.m_ z om_ om_) U7 fl_<|C6 1 [2] b U<|V6 U2<|⟨by rw[nH],U⟩
theorem pow9 (k:Nat):B9 ^ k=10 ^ (9*k):=by rw[Nat.pow_mul]
theorem fG (h:bT s=true):s=txt (gn s)/\(gn s).natAbs<B9 ^ 23:=by
 have h1:=nG.1 h;refine⟨ze (by unfold bT at h;exact(Vo.1 h).1), ?_⟩;rw[DO];have h2:=uY.1 h1.1;have h3:=dF h2.1.1;exact Tk h3 (by rw[pow9];exact SJ dc_ om_)
theorem MQ (h:aS s=true):∃q:Rat,s=qtx q/\QB 23 q:=by
 unfold aS at h;rw[Sz,Sz]at h;obtain⟨⟨h1,h2⟩,h3⟩:=h;obtain⟨a,b⟩:=fG h1;rcases ij 47 s with⟨d,_,_⟩|⟨c,post,d,hs,_⟩
 .rw[d]at a b;exact⟨((gn s:Int):Rat),by rw[nH];exact a,Rp b dc_⟩
 rw[d]at h2 h3 a b;simp only[TD]at h2 a b;obtain⟨e,f⟩:=fG h2;unfold ma at h3;simp only[Sz,Sr,T4]at h3;obtain⟨⟨h4,_⟩,g⟩:=h3;have i:(gn post).natAbs≠0:=by omega
 refine⟨⟨gn c,(gn post).natAbs,i,g⟩, ?_,b,f⟩;rw[qF];show s=txt (gn c)++dw (mS (gn post).natAbs);rw[fk om_,<- a,hs];show c++47::post=c++47::bh (gn post).natAbs;rw[<- df,show(((gn post).natAbs:Nat):Int)=gn post by omega,<- e]
theorem sy (C:Mem)(b:Str)(a:bT b=true):Gives cx.P 161 [ae b,ae [49]] C (i_ (wC (gn b) 1)):=by
 obtain⟨h1,h2⟩:=fG a;have h:=rt C (gn b) 1 (by have:=cm h2 dc_;omega) (by rw[show bh (1:Int).natAbs=[49] from one_dec];decide)
 rwa [<- one_val,<- h1]at h
theorem Fb (C:Mem)(c:Tabs C)(a b:Str)(d:bT a=true)(e:bT b=true):Gives cx.P 162 [ae a,ae b] C (ae (txt (Nat.gcd (gn a).natAbs (gn b).natAbs:Nat))):=by
 obtain⟨h1,h2⟩:=fG d;obtain⟨h3,h4⟩:=fG e;have h:=Io C c (gn a) (gn b) 23 dc_ dc_ h2 h4
 rwa [<- h1,<- h3]at h
theorem yW {b:Bool}(h:(oc b != 0)=false):b=true:=by cases b <;> first|rfl|(exact absurd h dc_)
theorem dB (C:Mem)(y:Tabs C)(s:Str)(A:s.length<=999998):Gives cx.P 103 [ae s] C (i_ (oc (aS s))):=by
 have u:=xL A;obtain⟨c,f,l⟩:∃a b,je 47 s=(a,b):=⟨_,_,rfl⟩;have k:aS s=(bT c && bT (f.getD [49]) && ma (gn c) f):=by
  unfold aS;rw[l]
 rw[l]at u;simp only at u;refine V7 func103 39 U3 λw0=>U0 1 [0] U<|U1 1 U λR g=>Wc (by have h:=Nl C s 47 om_;rw[l]at h;exact h) U7 fl_<|C6 7 [3,4,5] g U<|U1 1 U λR g=>Wb (yz _ c) U7<|C6 1 [3,4,5,16] g U<|G.cd (λi=>?_) λi=>?_
 .have j:aS s=false:=by
   rw[k];cases h1:bT c with
  |false=>rfl
  |true=>rw[h1]at i;exact absurd i dc_
  exact U0 1 [2] U<|V6 U2<|⟨by rw[j];rfl,U⟩
 have m:bT c=true:=by
  cases h1:bT c with
 |true=>rfl
 |false=>rw[h1]at i;exact absurd i dc_
 rw[m,Vp]at k;obtain⟨v,B⟩:=fG m;refine U0 2 [3,4,18] U<|G.cd (λn=>?_) λn=>?_
 .have o:f=none:=by
   cases f with
  |none=>rfl
  |some b=>simp at n
  refine U0 1 [2] U<|V6 U2<|⟨?_,U⟩;rw[k,o];rfl
 obtain⟨b,o⟩:∃b,f=some b:=by
  cases f with
 |some b=>exact⟨b,rfl⟩
 |none=>simp at n
 subst o;obtain⟨d,w⟩:∃z,gn c=z:=⟨_,rfl⟩;obtain⟨e,x⟩:∃z,gn b=z:=⟨_,rfl⟩;have p:aS s=(bT b && ma (gn c) (some b)):=k;unfold ma at p;simp only[w,x]at p v B;have D:(c == [48])=(d == 0):=by
  rw[v];have h:=kN d;rw[show(d == 0)=decide (d=0) by by_cases h:d=0 <;> simp[h]];exact h
 have E:(oc (bT b) != 0)=!bT b:=by cases bT b <;> rfl
 have F:decide (wC e 1<=0)=!decide (1<e):=by
  unfold wC;by_cases h:1<e
  .rw[aF om_,aK h,SB h];rfl
  rw[SM h];refine SB ?_;split <;> first|omega|(split <;> omega)
 have q:(oc (bT b) != 0 || decide (wC (gn b) 1<=0) || (c == [48]) || !(bh ((gn c).natAbs.gcd (gn b).natAbs) == [49]))=!aS s:=by
  have H:=rL (d.natAbs.gcd e.natAbs);have I:(bh (d.natAbs.gcd e.natAbs) == [49])=(d.natAbs.gcd e.natAbs == 1):=H;rw[w,x,D,E,F,I,p];cases bT b <;> cases decide (1<e) <;> cases (d == 0) <;> cases (d.natAbs.gcd e.natAbs == 1) <;> rfl
 rw[<- df]at q;refine U0 4 [6,7] U<|U1 1 U λR g=>Wb (yz _ b) U7<|V4 3 U<|Wo (λr=>(sy _ b (by exact yW (show(oc (bT b) != 0)=false/\True from r).1))) U9<|V2 U6<|Wy U8<|V4 3 U<|Wy U8<|V4 3 U<|Wo (λr=>(Fb _ y.m_ c b m (by exact yW (TY.1 (TY.1 (show(((oc (bT b) != 0) || decide (wC (gn b) 1<=0)) || (c == [48]))=false/\True from r).1).1).1))) U9<|V2 U6<|Wy U8<|V5 [38] g U<|G.cd (λt=>?_) λt=>?_
 .have j:aS s=false:=by
   have h:(!aS s)=true:=q.symm.trans t;simpa using h
  exact U0 1 [2] U<|V6 U2<|⟨by rw[j];rfl,U⟩
 have j:aS s=true:=by
  have h:(!aS s)=false:=q.symm.trans t;simpa using h
 exact U0 1 [2] U<|V6 U2<|⟨by rw[j];rfl,U⟩
theorem wK:∀{l:List Nat}{j y:Nat},j<l.length->bq (l.set j y)+BP ^ j*gP l j=bq l+BP ^ j*y
|[],_,_,h=>absurd h (Nat.not_lt_zero _)
|x::l,0,y,_=>by
  rw[List.set_cons_zero,Nat.pow_zero,Uv,Uv];show y+BP*bq l+x=x+BP*bq l+y;omega
|x::l,j+1,y,h=>by
  have a:=wK (l:=l) (j:=j) (y:=y) (by simpa using h);rw[List.set_cons_succ,TB];show x+BP*bq (l.set j y)+BP ^ j*BP*gP l j=x+BP*bq l+BP ^ j*BP*y;rw[S3 (BP ^ j) BP,T1,T1,Ur,Ur,<- Ts,<- Ts,a]
theorem yB {j z:Nat}(h:i≠j):gP (l.set i z) j=gP l j:=by
 unfold gP;rw[ak,ak,Vd h]
theorem IC {z:Nat}(h:i<l.length):gP (l.set i z) i=z:=by
 unfold gP;rw[ak,UR h];rfl
theorem Lz (n j:Nat):gP (List.replicate n 0) j=0:=by
 unfold gP;rw[ak,TC];split <;> rfl
theorem Q4 (h:DigP l)(i:Nat):gP l i<=9999:=by
 rcases SP i l.length with h1|h1
 .have h2:=h _ (aJ (ja h1).2);have h3:BP=10000:=rfl;omega
 unfold gP;rw[ak,Sq h1];exact Sm _
theorem BZ (l:List Nat)(k:Nat):bq (l.take (k+1))=bq (l.take k)+BP ^ k*gP l k:=by
 rcases SP k l.length with h|h
 .exact gS (ja h).2
 have e:gP l k=0:=by unfold gP;rw[ak,Sq h];rfl
 rw[e,SL h,SL om_,V0,TW]
theorem wY (C:Mem)(H I:Value)(a b:List Nat)(n:Sl C 1 H (a.map aW))(p:Sl C 1 I (b.map aW))(W:DigP a)(X:DigP b)(ac:a.length<=5000)(ad:b.length<=5000) :
  Pur cx.P 178 [H,I] C λu s=>PieC s u (bq a*bq b):=by
 obtain⟨J,c0,rfl,_⟩:=id n;obtain⟨K,L,rfl,_⟩:=id p;simp only[au]at n p⊢;obtain⟨N,hN⟩:∃N,a.length+b.length=N:=⟨_,rfl⟩;refine V7 func178 45 U3 λw0=>U0 1 [0,1] U<|U1 4 U λR c=>Wx (((N:Nat):Int)) U4 om_ om_ om_ U2<|WX U9 (Sg _) (by show 8*N<=281474976710656;omega) y_ fl_ λd=>C6 1 [0,1,5] c U<|U0 1 [0,1,5,6] U<|Wk (L':=[.arr (s_ d N N) 3 1 N ((List.replicate N 0).map aW).flatten]) (by rw[<- Mx];rfl)<|G.loop (λfr s f t=>∃(i:Nat)(o:List Nat),(i<=a.length/\o.length=N/\(∀j,gP o j<=i*100000000)/\bq o=bq (a.take i)*bq b)/\fr=[(0,[],.slice J a.length c0),(1,[],.slice K b.length L),(5,[],s_ d N N),(6,[],i_ i)]/\f=[.arr (s_ d N N) 3 1 N (o.map aW).flatten]/\t=a.length-i) (hn_ [0,1,5,6] U) ⟨0,List.replicate N 0,⟨Sm _,SG,λj=>by rw[Lz];omega,by rw[sP (λx g=>TT g)];simp[bq]⟩,U,U,U⟩ (λfr ae af m _ v=>?_);obtain⟨i,o,⟨hi,M,w,O⟩,rfl,rfl,rfl⟩:=v;refine U0 4 [0,1,5,6,17] U<|G.cd (λz=>?_) λz=>?_
 .have A:i<a.length:=by simpa using z
  have g:=Q4 W i;refine U0 1 [0,1,5,6,7] U<|G.loop (λfr s f t=>∃(k:Nat)(q:List Nat),(k<=b.length/\q.length=N/\(∀j,gP q j<=(i+1)*100000000)/\(∀j,i+k<=j->gP q j<=i*100000000)/\bq q=bq o+BP ^ i*(gP a i*bq (b.take k)))/\fr=[(0,[],.slice J a.length c0),(1,[],.slice K b.length L),(5,[],s_ d N N),(6,[],i_ i),(7,[],i_ k)]/\f=[.arr (s_ d N N) 3 1 N (q.map aW).flatten]/\t=b.length-k) (hn_ [0,1,5,6,7] U) ⟨0,o,⟨Sm _,M,λj=>Su (w j) (SY _ om_),λj _=>w j,by simp[bq]⟩,U,U,U⟩ (λfr ah ai m _ v=>?_);obtain⟨k,q,⟨hk,B,Q,S,D⟩,rfl,rfl,rfl⟩:=v;refine U0 4 [0,1,5,6,7,23] U<|G.cd (λE=>?_) λE=>?_
  .have F:k<b.length:=by simpa using E
   have hy:=Q4 X k;have Y:=(ja (l:=q) (k:=i+k) om_).2;have hold:=S (i+k) (Sg _);have aj:gP a i*gP b k<=100000000:=Su (TA g hy) dc_;refine Wn [0,1,2,3,4,5,6,7,8,9,10,11,12,13,14,15,16,17] [] U kr_ λR hB c=>V4 3 U<|Wx (((i+k:Nat):Int)) U4 om_ om_ om_ U2<|Ww ((i+k)*1) U10 w_ U2<|WJ ag U6 (λ_=>(by rw[dx eB Y];rfl)) U2<|V4 2 U<|Wf n.m_ U10 om_ (ja A).1 fl_ λal Z=>V1 Z U8<|V4 2 U<|Wf p.m_ U10 om_ (ja F).1 fl_ λam aa=>V1 aa U8<|V8 (((gP a i*gP b k:Nat):Int)) (SK _ _).symm U6<|Wx (((gP q (i+k)+gP a i*gP b k:Nat):Int)) U4 om_ om_ om_ U2<|Ww ((i+k)*1) U10 w_ U2<|WA (j:=0) U11 (by show(i+k)*1+1<=_;rw[bM eB,B];omega)<|V5 [0,1,5,6,7] c U<|U1 1 U λR c=>V8 _ U U6<|C6 1 [0,1,5,6,7] c U<|Wk (L':=[.arr (s_ d N N) 3 1 N ((q.set (i+k) (gP q (i+k)+gP a i*gP b k)).map aW).flatten]) (by rw[<- bI eB _ (by omega:i+k<q.length)];rfl)<|We (m':=b.length-(k+1)) om_ mup (hn_ [0,1,5,6,7] U) ⟨k+1,q.set (i+k) (gP q (i+k)+gP a i*gP b k),⟨by omega,by simp[B],λj=>by
    by_cases h:i+k=j
    .subst h;rw[IC om_,TQ];omega
    .rw[yB h];exact Q j,λj T=>by rw[yB om_];exact S j om_,by
    have h:=wK (l:=q) (j:=i+k) (y:=gP q (i+k)+gP a i*gP b k) om_;rw[Ts (BP ^ (i+k))]at h;rw[BZ,Ts (gP a i),Ts (BP ^ i),<- Ur,<- D];have e:BP ^ i*(gP a i*(BP ^ k*gP b k))=BP ^ (i+k)*(gP a i*gP b k):=by
     rw[Uw,<- T1 (gP a i),S3 (gP a i) (BP ^ k),T1,<- T1 (BP ^ i)]
    rw[e];omega⟩,rfl,rfl,rfl⟩
  have F:k=b.length:=by
   have:¬ k<b.length:=by simpa using E
   omega
  refine U1 1 U λR c=>V8 _ U U6<|C6 1 [0,1,5,6] c U<|We (m':=a.length-(i+1)) om_ mup (hn_ [0,1,5,6] U) ⟨i+1,q,⟨by omega,B,Q,by
   rw[F,Ss]at D;rw[BZ,TQ,<- O,T1];exact D⟩,U,U,U⟩
 have A:i=a.length:=by
  have:¬ i<a.length:=by simpa using z
  omega
 refine G.freezeArr 0 ((o.map λ(x:Nat)=>(x:Int)).map nU) ⟨rfl,(by rw[Th];rfl)⟩ (by intro r hr;obtain⟨x,_,rfl⟩:=Sn.1 hr;rfl) (by simp[M]) λ_ _ ab=>U1 1 U λR c=>Ws (D3 _ _ (o.map λ(x:Nat)=>(x:Int)) ab.m_ (by rw[oP];omega) (by
  intro x g;obtain⟨y,hy,rfl⟩:=Sn.1 g;obtain⟨j,T⟩:=TR hy;have h1:=w j;have h2:gP o j=y:=by unfold gP;rw[ak,T];rfl
  rw[h2]at h1;have h3:i*100000000<=5000*100000000:=SY _ om_;omega) (by rw[au];omega)) U7 fl_ (λan _ _ V=>?_)
 refine C6 1 [4] c U<|V6 U2<|⟨U, ?_⟩;rw[oP,Ue,O,A,Ss]at V;exact V
theorem JA (h:(bh z.natAbs).length<=m):z.natAbs<10 ^ m:=by
 obtain⟨h2,h3⟩:=bA z.natAbs;have h4:=dF h2.1;rw[h3]at h4;exact Tk h4 (SJ dc_ h)
theorem Br (h:BM l)(a:bq l<BP ^ m*BP ^ n):l.length<=m+n:=kB h (by rw[Uw];exact a)
theorem ga (C:Mem)(d:Tabs C)(z w:Int)(b:z.natAbs<BP ^ 200)(c:w.natAbs<BP ^ 200):Gives cx.P 111 [ae (txt z),ae (txt w)] C (ae (txt (z*w))):=by
 have y:=S7.2 (nW z.natAbs);have A:=S7.2 (nW w.natAbs);refine V7 func111 52 U3 λw0=>U0 1 [0,1] U<|U1 1 U λR a=>Wb (dI _ z) U7<|C6 5 [0,1,5,6] a U<|U1 1 U λR a=>Wb (dI _ w) U7<|C6 5 [0,1,5,6,7,8] a U ?_;have B:=eF b;have D:=eF c;refine U1 4 U λR a=>V8 ((((bh z.natAbs).length+(bh w.natAbs).length:Nat):Int)) (UX _ _).symm U6<|C6 1 [0,1,5,6,7,8,28] a U<|G.cd (λe=>?_) λe=>?_
 .have l:(bh z.natAbs).length+(bh w.natAbs).length<=18:=by
   have h:=RD e;omega
  have hp:(z*w).natAbs<10 ^ 18:=by
   have h1:=JA (z:=z) (Sg _);have h2:=JA (z:=w) (Sg _);rw[TF];refine Tk (TL h1 h2) ?_;rw[<- Uw];exact SJ dc_ l
  rw[e18]at hp;exact U1 1 U λR a=>Wc (uE _ z om_) U7 fl_<|C6 5 [1,9] a U<|U1 1 U λR a=>Wc (uE _ w om_) U7 fl_<|C6 5 [9,11] a U<|U1 2 U λR a=>V8 _ U U6<|Wc (gZ _ d.m_ (z*w) om_ om_) U7 fl_<|C6 1 [4] a U<|V6 U2<|⟨U,U⟩
 refine U1 4 U λR a=>Wz (gt _ z.natAbs b) U7 λE _ _ o=>V2 U6<|Wz (gt _ w.natAbs c) U7 (λF _ _ p=>?_);obtain⟨q,r,f,H,s⟩:=o;obtain⟨t,u,g,I,v⟩:=p;refine Ws (wY _ _ _ q t s.m_ v.m_ r.1 u.1 om_ om_) U7 fl_ (λJ _ _ x=>?_);obtain⟨lp,i,j,k⟩:=x;have K:lp.length<=400:=Br (m:=200) (n:=200) i (by rw[j,f,g];exact TL b c);obtain⟨L,M,rfl,_⟩:=id k;refine Wc (nN _ d.m_ _ _ lp k.m_ i.1 om_) U7 fl_<|C6 1 [4] a U<|V6 U2<|⟨?_,U⟩;rw[j,f,g];show ae (txt (sgZ (decide (z<0) != decide (w<0)) (z.natAbs*w.natAbs)))=_;rw[GU]
theorem Qt (z:Int)(b:g ∣ z.natAbs):sgZ (decide (z<0) != false) (z.natAbs / g)=z / (g:Int):=by
 obtain⟨m,hm⟩:=b;rcases Tx g with h|c
 .subst h;have a:z=0:=by omega
  subst a;rfl
 rw[hm,Nat.mul_div_cancel_left _ c,Bool.bne_false];unfold sgZ;by_cases a:z<0
 .rw[SB a,aK rfl,show z=(g:Int)*(-(m:Int)) by rw[Int.mul_neg,<- SK];omega,Int.mul_ediv_cancel_left _ om_]
 rw[SM a,aF dc_,show z=(g:Int)*(m:Int) by rw[<- SK];omega,Int.mul_ediv_cancel_left _ om_]
theorem yM (C:Mem)(c:Tabs C)(z:Int)(b:Nat)(m:z.natAbs<BP ^ 200)(n:b<BP ^ 200)(F:0<b)(d:b ∣ z.natAbs):Gives cx.P 168 [ae (txt z),ae (bh b)] C (.tuple #[ae (txt (z / (b:Int))),ae (bh 0)]):=by
 have H:=PT;have o:z.natAbs % b=0:=Nat.mod_eq_zero_of_dvd d;have f:(b:Int) ∣ z:=UP.1 (T6.2 d);have I:(z / (b:Int)).natAbs<=z.natAbs:=by
  rw[Um f,S4];exact Tr _ _
 refine V7 func168 93 U3 λw0=>U0 2 [0,1] U<|U1 1 U λR a=>Wb (pA C z) U7<|C6 5 [0,1,6,7] a U<|U1 1 U λR a=>Wb (rT _ b) U7<|C6 5 [0,1,6,7,8,9] a U<|U1 3 U λR a=>Wr U8<|V5 [0,1,6,8,31] a U<|G.cd (λg=>?_) λg=>?_
 .have hs:(bh z.natAbs).length<=17/\(bh b).length<=17:=by simpa using g
  have h1:=pu hs.1;have h2:=rU hs.2;rw[aK hs.1,aK hs.2];refine Wn [0,1,2,3,4,5,6,7] [] U kr_ λR J a=>V4 2 U<|W8 (z / (b:Int)) U6 om_ (mb d) (wrap_i64 om_ om_) U2<|V4 2 U<|WY 0 U6 om_ ⟨(Int.tmod_eq_zero_of_dvd f),U,U⟩<|C6 2 [6,8,10,11] a U<|U0 2 [6,8,10,11,39] U<|G.cd (λh=>?_) λh=>?_
  .exfalso;simp at h
  refine U1 1 U λR a=>Wc (gZ _ c (z / (b:Int)) om_ om_) U7 fl_<|V2 U6<|Wc (HG _ c 0 om_) U7 fl_<|C6 2 [4,5] a U<|Wd (G.dropAll (Wu U3 ?_));exact⟨U,U⟩
 refine U1 1 U λR a=>Wb (dI _ z) U7<|C6 5 [1,12,13] a U<|U1 1 U λR a=>Wb (pY _ b) U7<|C6 5 [12,13,14,15] a U<|U1 1 U λR a=>Wz (gt _ z.natAbs m) U7 (λK _ _ p=>?_);obtain⟨lp,q,r,L,s⟩:=p;refine V2 U6<|Wz (gt _ b n) U7 (λM _ _ t=>?_);obtain⟨u,v,w,N,x⟩:=t;refine Ws (De _ _ _ lp u s.m_ x.m_ q.1 v om_ om_ om_) U7 fl_ (λO _ _ y=>?_);obtain⟨u1,Q,rfl,i,e⟩:=y;rw[r,w]at i e;rw[o]at e;obtain⟨l1,A,B,S,D⟩:=PieC.take i (by have:=Tr z.natAbs b;omega);obtain⟨l2,j,E,T,k⟩:=PieC.take e om_;obtain⟨A2,c2,rfl,_⟩:=id k;obtain rfl:=(D4 j).1 E;refine C6 5 [12,14,15,16,17] a U<|U1 5 U λR a=>Wr U8<|V5 [12,14,15,16,17,78] a U<|G.cd (λl=>?_) λl=>?_
 .exfalso;simp at l
 refine U1 4 U λR a=>Wc (nN _ c.m_ _ _ l1 D.m_ A.1 om_) U7 fl_<|V2 U6<|Wc (vj _ c.m_ _ [] k.m_ j.1 al) U7 fl_<|C6 2 [4,5] a U<|Wd (G.dropAll (Wu U3 ?_));refine⟨?_,U⟩;show Value.tuple #[ae (txt (sgZ (decide (z<0) != false) (bq l1))),_]=_;rw[B,Qt z d];rfl
theorem tD (C:Mem)(e:Tabs C)(n:Int)(d:Nat)(o:0<d)(p:n.natAbs<9000000000000000000)(u:d<9000000000000000000):Gives cx.P 108 [i_ n,i_ d] C (ae (qtx (mkRat n d))):=by
 obtain⟨g,b⟩:∃g,Nat.gcd n.natAbs d=g:=⟨_,rfl⟩;have v:0<g:=by rw[<- b];exact UF _ o
 have q:g ∣ n.natAbs:=by rw[<- b];exact Vg _ _
 have w:g ∣ d:=by rw[<- b];exact Vk _ _
 have N:g<=d:=VD o w;have z:(n / (g:Int)).natAbs<=n.natAbs:=by
  rw[Um (UP.1 (T6.2 q)),S4];exact Tr _ _
 have r:=Tr d g;rw[xQ om_,b];refine V7 func108 36 U3 λw0=>U0 1 [0,1] U<|U0 2 [0,1,8] U<|G.cut (λfr A f i=>(True)/\fr=[(0,[],i_ (n / (g:Int))),(1,[],i_ ((d / g:Nat):Int))]/\f=[]) ?_ (λfr _ O i _ j=>?_)
 .refine G.cd (λs=>?_) λs=>?_
  .skip
   refine U1 3 U λR a=>?_;have Q:IntKind.i64.wrap (0-n)=0-n:=wrap_i64 om_ om_;refine D.max ((n.natAbs:Int)) U6 om_ U2<|C6 3 [0,1,5,6] a U<|G.loop (λfr A f i=>∃(x y:Int),(x.natAbs<9000000000000000000/\0<=x/\0<=y/\y.natAbs<9000000000000000000/\Nat.gcd x.natAbs y.natAbs=g)/\fr=[(0,[],i_ n),(1,[],i_ d),(5,[],i_ x),(6,[],i_ y)]/\f=[]/\i=y.natAbs+1) (hn_ [0,1,5,6] U) ⟨(n.natAbs:Int),d,⟨p,by omega,by omega,by omega,by rw[S4];exact b⟩,U,U,U⟩ (λfr S T m B j=>?_);obtain⟨x,y,⟨V,E,F,H,t⟩,rfl,rfl,rfl⟩:=j;refine U0 2 [0,1,5,6,15] U<|G.cd (λk=>?_) λk=>?_
   .have l:y≠0:=by simpa using k
    have I:(x.tmod y).natAbs=x.natAbs % y.natAbs:=UZ x y;have W:=S5 x.natAbs (show 0<y.natAbs by omega);have J:=Int.tmod_nonneg y E;refine Wn [0,1,2,3,4,5] [] U kr_ λR K a=>V4 3 U<|WY (x.tmod y) U6 l U3<|C6 2 [0,1,5,6] a U<|We (m':=(x.tmod y).natAbs+1) om_ B (hn_ [0,1,5,6] U) ⟨y,x.tmod y,⟨H,F,J,by omega,by rw[I,<- t,Up x.natAbs,VA y.natAbs x.natAbs,Up]⟩,U,U,U⟩
   have l:y=0:=by simpa using k
   subst l;rw[show(0:Int).natAbs=0 from rfl,UT]at t;obtain rfl:x=(g:Int):=by omega
   refine Wn [0,1,2,3,4,5,6,7] [] U kr_ λR K a=>V4 2 U<|W8 (n / (g:Int)) U6 om_ (mb q) (wrap_i64 om_ om_) U2<|V4 2 U<|WZ (d) (g) U6 v (.inl ⟨U,by omega⟩) U2<|C6 2 [0,1] a U<|Wj 0 mup (hn_ [0,1] U) ⟨trivial,U,U⟩
  have L:d=1:=by
   have h:(d:Int)=1:=by simpa using s
   omega
  subst L;have M:g=1:=by omega
  refine Wj 0 l_ (hn_ [0,1] U) ⟨trivial,by rw[M,Nat.div_one,Int.natCast_one,Int.ediv_one],U⟩
 obtain⟨_,rfl,rfl⟩:=j;refine U0 2 [0,1,27] U<|G.cd (λc=>?_) λc=>?_
 .have h1:d / g=1:=by
   have h2:(((d / g:Nat):Int))=1:=by simpa using c
   omega
  refine U1 1 U λR a=>Wc (fZ _ e.m_ _ om_ om_) U7 fl_<|C6 1 [4] a U<|V6 U2<|⟨?_,U⟩;rw[h1,kv rfl];simp[dw]
 have h1:d / g≠1:=by
  intro h2;rw[h2]at c;exact absurd c dc_
 have X:=jl (n / (g:Int));have Y:=jl ((d / g:Nat):Int);have Z:(bh (n / (g:Int)).natAbs).length<=20:=dT (Te z (Uq p dc_)) dc_;have aa:(bh ((d / g:Nat):Int).natAbs).length<=20:=dT (by rw[S4];exact Te r (Uq u dc_)) dc_;refine U1 1 U λR a=>Wc (fZ _ e.m_ _ om_ om_) U7 fl_<|WS U6 (λ_=>(by simp only[SC,SZ];omega)) U2<|V2 U6<|Wc (fZ _ e.m_ ((d / g:Nat):Int) (Vu dc_ (VX _)) (Vu (Int.ofNat_le.2 r) om_)) U7 fl_<|WS U6 (λ_=>(by simp only[So,SC,SZ];omega)) U2<|C6 1 [4] a U<|V6 U2<|⟨?_,U⟩;rw[fk h1,df,SX];rfl
theorem Dl (h:(txt z).length<=9):z.natAbs<1000000000:=by
 have h1:=BC h
 rwa [e9]at h1
theorem GF (C:Mem)(k:Tabs C)(z w:Int)(A:(txt z).length<=9)(B:(txt w).length<=9)(Q:w≠0):Gives cx.P 164 [ae (txt z),ae (txt w)] C (ae (qtx (lF z w))):=by
 have S:=Dl A;have T:=Dl B;obtain⟨n,i⟩:∃y,(if w<0 then -z else z)=y:=⟨_,rfl⟩;obtain⟨d,hd⟩:∃d,w.natAbs=d:=⟨_,rfl⟩;have r:0<d:=by omega
 have D:n.natAbs<1000000000:=by rw[<- i];split <;> omega
 unfold lF;rw[i,hd];obtain⟨g,b⟩:∃g,Nat.gcd n.natAbs d=g:=⟨_,rfl⟩;have E:0<g:=by rw[<- b];exact UF _ r
 have s:g ∣ n.natAbs:=by rw[<- b];exact Vg _ _
 have F:g ∣ d:=by rw[<- b];exact Vk _ _
 have V:g<=d:=VD r F;have H:(n / (g:Int)).natAbs<=n.natAbs:=by
  rw[Um (UP.1 (T6.2 s)),S4];exact Tr _ _
 have t:=Tr d g;rw[xQ om_,b];refine V7 func164 55 U3 λw0=>U0 1 [0,1] U<|U1 1 U λR a=>Wc (Bz Tryz.atoi z om_ _ kr_) U7 fl_<|C6 5 [1,5] a U<|U1 1 U λR a=>Wc (Bz Tryz.atoi w om_ _ kr_) U7 fl_<|C6 5 [5,7] a U<|U0 2 [5,7,22] U<|G.cut (λfr u c e=>(True)/\fr=[(5,[],i_ n),(7,[],i_ d)]/\c=[]) ?_ (λfr _ W e _ f=>?_)
 .refine G.cd (λl=>?_) λl=>?_
  .have h:w<0:=by simpa using l
   rw[aK h]at i;refine U0 6 [5,7] U ?_;rw[show IntKind.i64.wrap (0-z)=n by rw[wrap_i64 om_ om_];omega,show IntKind.i64.wrap (0-w)=(d:Int) by rw[wrap_i64 om_ om_];omega];refine Wj 0 l_ (hn_ [5,7] U) ⟨trivial,U,U⟩
  have h:¬ w<0:=by simpa using l
  rw[aF h]at i;rw[show z=n by omega,show w=(d:Int) by omega];refine Wj 0 l_ (hn_ [5,7] U) ⟨trivial,U,U⟩
 obtain⟨_,rfl,rfl⟩:=f;refine U0 4 [5,7,9,10] U<|U0 2 [5,7,9,10,30] U<|G.cut (λfr u c e=>(True)/\fr=[(5,[],i_ n),(7,[],i_ d),(9,[],i_ (n.natAbs:Nat)),(10,[],i_ d)]/\c=[]) ?_ (λfr _ X e _ f=>?_)
 .refine G.cd (λo=>?_) λo=>?_
  .have h:n<0:=by simpa using o
   refine U0 3 [5,7,9,10] U ?_;rw[show IntKind.i64.wrap (0-n)=((n.natAbs:Nat):Int) by rw[wrap_i64 om_ om_];omega];refine Wj 0 l_ (hn_ [5,7,9,10] U) ⟨trivial,U,U⟩
  have h:¬ n<0:=by simpa using o
  refine Wj 0 l_ (hn_ [5,7,9,10] U) ⟨trivial,by rw[show((n.natAbs:Nat):Int)=n by omega],U⟩
 obtain⟨_,rfl,rfl⟩:=f;refine G.loop (λfr u c e=>∃(x y:Int),(x.natAbs<9000000000000000000/\0<=x/\0<=y/\y.natAbs<9000000000000000000/\Nat.gcd x.natAbs y.natAbs=g)/\fr=[(5,[],i_ n),(7,[],i_ d),(9,[],i_ x),(10,[],i_ y)]/\c=[]/\e=y.natAbs+1) (hn_ [5,7,9,10] U) ⟨(n.natAbs:Int),d,⟨by omega,by omega,by omega,by omega,by rw[S4,S4];exact b⟩,U,U,U⟩ (λfr Y Z m I f=>?_);obtain⟨x,y,⟨aa,J,K,L,v⟩,rfl,rfl,rfl⟩:=f;refine U0 2 [5,7,9,10,34] U<|G.cd (λp=>?_) λp=>?_
 .have q:y≠0:=by simpa using p
  have M:(x.tmod y).natAbs=x.natAbs % y.natAbs:=UZ x y;have ab:=S5 x.natAbs (show 0<y.natAbs by omega);have N:=Int.tmod_nonneg y J;refine Wn [0,1,2,3,4,5] [] U kr_ λR O a=>V4 3 U<|WY (x.tmod y) U6 q U3<|C6 2 [5,7,9,10] a U<|We (m':=(x.tmod y).natAbs+1) om_ I (hn_ [5,7,9,10] U) ⟨y,x.tmod y,⟨L,K,N,by omega,by rw[M,<- v,Up x.natAbs,VA y.natAbs x.natAbs,Up]⟩,U,U,U⟩
 have q:y=0:=by simpa using p
 subst q;rw[show(0:Int).natAbs=0 from rfl,UT]at v;obtain rfl:x=(g:Int):=by omega
 refine Wn [0,1,2,3,4,5,6,7] [] U kr_ λR O a=>V4 2 U<|W8 (n / (g:Int)) U6 om_ (mb s) (wrap_i64 om_ om_) U2<|V4 2 U<|WZ (d) (g) U6 E (.inl ⟨U,by omega⟩) U2<|C6 2 [5,7] a U<|U0 2 [5,7,46] U<|G.cd (λj=>?_) λj=>?_
 .have h1:d / g=1:=by
   have h2:(((d / g:Nat):Int))=1:=by simpa using j
   omega
  refine U1 1 U λR a=>Wc (fZ _ k.m_ _ om_ om_) U7 fl_<|C6 1 [4] a U<|V6 U2<|⟨?_,U⟩;rw[h1,kv rfl];simp[dw]
 have h1:d / g≠1:=by
  intro h2;rw[h2]at j;exact absurd j dc_
 have ac:=jl (n / (g:Int));have ad:=jl ((d / g:Nat):Int);have af:(bh (n / (g:Int)).natAbs).length<=20:=dT (Te H (Uq D dc_)) dc_;have ag:(bh ((d / g:Nat):Int).natAbs).length<=20:=dT (by rw[S4];exact Te t (Uq (show d<1000000000 by omega) dc_)) dc_;refine U1 1 U λR a=>Wc (fZ _ k.m_ _ om_ om_) U7 fl_<|WS U6 (λ_=>(by simp only[SC,SZ];omega)) U2<|V2 U6<|Wc (fZ _ k.m_ ((d / g:Nat):Int) (Vu dc_ (VX _)) (Vu (Int.ofNat_le.2 t) om_)) U7 fl_<|WS U6 (λ_=>(by simp only[So,SC,SZ];omega)) U2<|C6 1 [4] a U<|V6 U2<|⟨?_,U⟩;rw[fk h1,df,SX];rfl
def No (sg:Bool)(A:Str)(B:Option Str):Value:=.tuple #[.int .i64 (sgZ sg (bS A)),.int .i64 (Rc B),.bool true]
theorem FF (C:Mem)(a:Bool)(A:Str)(B:Option Str)(r:∀c∈A,dX c=true)(Q:A≠[])(S:∀b,B=some b->∀c∈b,dX c=true)(T:(ET a++A++dw B).length<=9) :
  Gives cx.P 107 [ae (ET a++A++dw B)] C (No a A B):=by
 obtain⟨s,hs⟩:∃s,ET a++A++dw B=s:=⟨_,rfl⟩;obtain⟨p,hp⟩:∃p,(ET a).length=p:=⟨_,rfl⟩;have o:p=if a then 1 else 0:=by rw[<- hp];cases a <;> rfl
 have t:∀j c,A[j]?=some c->s[p+j]?=some c:=λj c h=>by rw[<- hs,<- hp];exact Hp _ _ _ h
 have J:∀j,s[p+A.length+j]?=(dw B)[j]?:=λj=>by rw[<- hs,<- hp];exact CY _ _ _ _
 have w:s.length=p+A.length+(dw B).length:=by rw[<- hs,<- hp,So,So]
 have V:0<A.length:=S7.2 Q;rw[hs]at T⊢;have K:∀j,bS (A.take j)<1000000000:=λj=>by
  have h:=mT r (i:=min j A.length) om_;rcases Nat.le_total j A.length with h1|h1
  .rwa [Tj h1]at h
  rw[Nat.min_eq_right h1,Ss]at h
  rwa [SL h1]
 refine V7 func107 57 U3 λw0=>U0 3 [0,2] U<|U0 3 [0,2,9] U<|G.cd (λL=>?_) λL=>?_
 .exfalso;have h:(9:Int)<((s.length:Nat):Int):=RD L;omega
 refine U0 3 [0,2,3,5,6] U<|U1 1 U λR d=>WE (b:=s.getD 0 0) U8 (λ_=>⟨by omega,(by rw[ak,show(0:Int).toNat=0 from rfl];obtain⟨c,f⟩:∃c,s[0]?=some c:=⟨s[0]'om_,ah om_⟩;rw[f];rfl)⟩) U2<|C6 1 [0,2,3,5,6,12] d U<|G.cut (λfr x g k=>(True)/\fr=[(0,[],ae s),(2,[],i_ 0),(3,[],i_ 1),(5,[],i_ p),(6,[],i_ (if a then -1 else 1))]/\g=[]) ?_ (λfr _ ac k _ l=>?_)
 .refine G.cd (λq=>?_) λq=>?_
  .have y:a=true:=by
    cases a with
   |true=>rfl
   |false =>
     exfalso;rw[aF dc_]at o;subst o;obtain⟨c,f⟩:∃c,A[0]?=some c:=⟨A[0],ah V⟩;have h1:=t 0 c f;have h2:=r c (aJ f);rw[TW]at h1;rw[ak,h1]at q;unfold dX at h2;simp at q h2;omega
   subst y;rw[aK rfl]at o;subst o;refine U0 2 [0,2,3,5,6] U<|Wj 0 l_ (hn_ [0,2,3,5,6] U) ⟨trivial,U,U⟩
  have y:a=false:=by
   cases a with
  |false=>rfl
  |true =>
    exfalso;have h1:s[0]?=some 45:=by rw[<- hs];rfl
    rw[ak,h1]at q;exact absurd q dc_
  subst y;rw[aF dc_]at o;subst o;refine Wj 0 l_ (hn_ [0,2,3,5,6] U) ⟨trivial,U,U⟩
 obtain⟨_,rfl,rfl⟩:=l;refine G.loop (λfr x g k=>∃(j:Nat),(j<=A.length)/\fr=[(0,[],ae s),(2,[],i_ ((bS (A.take j):Nat):Int)),(3,[],i_ 1),(5,[],i_ ((p+j:Nat):Int)),(6,[],i_ (if a then -1 else 1))]/\g=[]/\k=A.length-j+1) (hn_ [0,2,3,5,6] U) ⟨0,by omega,U,U,U⟩ (λfr ad af m W l=>?_);obtain⟨j,hj,rfl,rfl,rfl⟩:=l;obtain⟨c,f⟩:∃c,p+j<s.length->s[p+j]?=some c:=⟨s.getD (p+j) 0,λh=>by rw[ak,ah h];rfl⟩;refine U1 7 U λR d=>WE (b:=c) U8 (λX=>⟨by omega,f (by have h:decide (((p+j:Nat):Int)<((s.length:Nat):Int))=true:=X.1;have h2:=RD h;omega)⟩) U2<|V2 U6<|Wr U8<|V5 [0,2,3,5,6,22] d U<|G.cd (λu=>?_) λu=>?_
 .have z:p+j<s.length/\c.toNat≠47:=by
   simp at u;omega
  have E:j<A.length:=by
   rcases SP j A.length with h|h
   .exact h
   exfalso;obtain rfl:j=A.length:=by omega
   have h1:=f z.1;have h2:=J 0;rw[TW,h1]at h2;cases B with
  |none=>simp[dw]at h2
  |some b =>
    simp[dw]at h2;subst h2;exact z.2 U
  obtain⟨e,n⟩:∃c,A[j]?=some c:=⟨A[j],ah E⟩;obtain rfl:e=c:=by
   have h1:=f z.1;rw[t j e n]at h1;exact TO h1
  have M:48<=e.toNat/\e.toNat<=57:=by simpa [dX] using r e (aJ n)
  have N:=K j;refine U1 1 U λR d=>V8 _ U U6<|V4 2 U<|WE U8 (λ_=>⟨by omega,t j _ n⟩) U2<|D.int (((e.toNat:Nat):Int)-48) U4 (by rw[IntKind.wrap_u8];omega) U2<|WG (c:=((e.toNat:Nat):Int)-48) U8 f_ fl_<|V8 _ U U6<|V2 U6<|V8 _ U U6<|C6 2 [0,2,3,5,6] d U ?_;rw[show 10*((bS (A.take j):Nat):Int)+(((e.toNat:Nat):Int)-48)=((bS (A.take (j+1)):Nat):Int) by rw[pm n];omega];refine We (m':=A.length-(j+1)+1) om_ W (hn_ [0,2,3,5,6] U) ⟨j+1,om_,U,U,U⟩
 have E:j=A.length:=by
  rcases SP j A.length with h|h
  .exfalso;obtain⟨e,n⟩:∃c,A[j]?=some c:=⟨A[j],ah h⟩;have h1:=f om_;rw[t j e n]at h1;obtain rfl:=TO h1;have M:48<=e.toNat/\e.toNat<=57:=by simpa [dX] using r e (aJ n)
   simp at u;have:=u om_;omega
  omega
 subst E;have N:=K A.length;rw[Ss]at N⊢;refine U0 4 [0,2,3,5,6,36] U<|G.cut (λfr x g k=>(True)/\fr=[(2,[],i_ ((bS A:Nat):Int)),(3,[],i_ ((Rc B:Nat):Int)),(6,[],i_ (if a then -1 else 1))]/\g=[]) ?_ (λfr _ ag k _ l=>?_)
 .refine G.cd (λv=>?_) λv=>?_
  .obtain⟨b,rfl⟩:∃b,B=some b:=by
    cases B with
   |some b=>exact⟨b,rfl⟩
   |none =>
     exfalso;rw[w]at v;simp[dw]at v
   have O:=S b rfl;have ai:s.length=p+A.length+1+b.length:=by rw[w];simp[dw];omega
   have Y:∀j,bS (b.take j)<1000000000:=λj=>by
    have h:=mT O (i:=min j b.length) om_;rcases Nat.le_total j b.length with h1|h1
    .rwa [Tj h1]at h
    rw[Nat.min_eq_right h1,Ss]at h
    rwa [SL h1]
   refine U0 1 [0,2,3,5,6] U<|U1 1 U λR d=>V8 _ U U6<|C6 1 [0,2,3,5,6] d U<|G.loop (λfr x g k=>∃(j:Nat),(j<=b.length)/\fr=[(0,[],ae s),(2,[],i_ ((bS A:Nat):Int)),(3,[],i_ ((bS (b.take j):Nat):Int)),(5,[],i_ ((p+A.length+1+j:Nat):Int)),(6,[],i_ (if a then -1 else 1))]/\g=[]/\k=b.length-j+1) (hn_ [0,2,3,5,6] U) ⟨0,om_,U,U,U⟩ (λfr aj al m Z l=>?_);obtain⟨j,hk,rfl,rfl,rfl⟩:=l;refine U0 4 [0,2,3,5,6,42] U<|G.cd (λF=>?_) λF=>?_
   .have H:j<b.length:=by
     have:p+A.length+1+j<s.length:=by simp at F;omega
     omega
    obtain⟨c,I⟩:∃c,b[j]?=some c:=⟨b[j],ah H⟩;have aa:s[p+A.length+1+j]?=some c:=by rw[Ur,J,Uu 1 j];exact I
    have M:48<=c.toNat/\c.toNat<=57:=by simpa [dX] using O c (aJ I)
    have am:=Y j;refine U1 1 U λR d=>V8 _ U U6<|V4 2 U<|WE U8 (λ_=>⟨by omega,aa⟩) U2<|D.int (((c.toNat:Nat):Int)-48) U4 (by rw[IntKind.wrap_u8];omega) U2<|WG (c:=((c.toNat:Nat):Int)-48) U8 f_ fl_<|V8 _ U U6<|C6 1 [0,2,3,5,6] d U<|U1 1 U λR d=>V8 _ U U6<|C6 1 [0,2,3,5,6] d U ?_;rw[show 10*((bS (b.take j):Nat):Int)+(((c.toNat:Nat):Int)-48)=((bS (b.take (j+1)):Nat):Int) by rw[pm I];omega];refine We (m':=b.length-(j+1)+1) om_ Z (hn_ [0,2,3,5,6] U) ⟨j+1,om_,U,U,U⟩
   have H:j=b.length:=by
    have:¬ p+A.length+1+j<s.length:=by simp at F;omega
    omega
   subst H;rw[Ss];refine Wj 0 mup (hn_ [2,3,6] U) ⟨trivial,U,U⟩
  have ab:B=none:=by
   cases B with
  |none=>rfl
  |some b =>
    exfalso;have h:¬ ((p+A.length:Nat):Int)<((s.length:Nat):Int):=Si v;rw[w]at h;simp only[dw,SC]at h;omega
  subst ab;refine Wj 0 l_ (hn_ [2,3,6] U) ⟨trivial,U,U⟩
 obtain⟨_,rfl,rfl⟩:=l;have an:-1000000000<sgZ a (bS A)/\sgZ a (bS A)<1000000000:=by unfold sgZ;split <;> omega
 refine U1 2 U λR d=>?_;refine Wx (sgZ a (bS A)) U4 (by unfold sgZ;cases a <;> simp) om_ om_ U2 ?_;refine C6 4 [2,3,4] d U<|Wd (G.dropAll (WP U4 ?_));exact⟨U,U⟩
theorem Jz (h:z.natAbs<m)(g:Nat)(a:g ∣ z.natAbs):(z / (g:Int)).natAbs<m:=by
 rw[Um (UP.1 (T6.2 a)),S4];exact Te (Tr _ _) h
theorem Ly (C:Mem)(a:Tabs C)(y:Int)(d:Nat)(b:y.natAbs<BP ^ 200)(c:d<BP ^ 200):Gives cx.P 167 [ae (txt y),ae (bh d)] C (ae (bh (Nat.gcd y.natAbs d))):=by
 have h:=tJ C a y (d:Nat) b om_
 rwa [df,S4]at h
theorem ly (C:Mem)(e:Tabs C)(z w:Int)(j:z.natAbs<BP ^ 200)(n:w.natAbs<BP ^ 200)(o:w≠0):Gives cx.P 105 [ae (txt z),ae (txt w)] C (ae (qtx (lF z w))):=by
 have A:=eF j;have B:=eF n;obtain⟨y,hy⟩:∃y,(if w<0 then -z else z)=y:=⟨_,rfl⟩;obtain⟨d,hd⟩:∃d,w.natAbs=d:=⟨_,rfl⟩;have p:d≠0:=by omega
 have q:y.natAbs=z.natAbs:=by rw[<- hy];split <;> omega
 obtain⟨g,b⟩:∃g,Nat.gcd y.natAbs d=g:=⟨_,rfl⟩;have k:0<g:=by rw[<- b];exact UF _ om_
 have r:g ∣ d:=by rw[<- b];exact Vk _ _
 have l:g ∣ y.natAbs:=by rw[<- b];exact Vg _ _
 have D:g<=d:=VD om_ r;refine V7 func105 46 U3 λw0=>U0 1 [0,1] U<|U1 7 U λR a=>Wr U8<|V5 [0,1,13] a U<|G.cd (λm=>?_) λm=>?_
 .have h:(txt z).length<=9/\(txt w).length<=9:=by
   have h1:=(Sz _ _ ▸ m:_/\_);have h2:((txt z).length:Int)<=9:=RD h1.1;have h3:((txt w).length:Int)<=9:=RD h1.2;omega
  exact U1 2 U λR a=>Wb (GF _ e.m_ z w h.1 h.2 o) U7<|C6 1 [4] a U<|V6 U2<|⟨U,U⟩
 refine U1 1 U λR a=>Wb (qi _ w) U7<|C6 1 [0,1,19] a U<|G.cut (λfr E s t=>(True)/\fr=[(0,[],ae (txt y)),(1,[],ae (bh d))]/\s=[]) ?_ (λfr _ F t _ u=>?_)
 .refine G.cd (λf=>?_) λf=>?_
  .have i:w<0:=by
    have h:=RD f;refine SQ λh2=>?_;rw[aF h2]at h;revert h;split <;> decide
   rw[aK i]at hy;refine U1 1 U λR a=>Wc (nK _ z om_) U7 fl_<|V2 U6<|Wc (nK _ w om_) U7 fl_<|C6 2 [0,1] a U<|Wj 0 l_ (hn_ [0,1] U) ⟨trivial,by rw[hy,show -w=((d:Nat):Int) by omega,df],U⟩
  have i:¬ w<0:=by
   intro h2;have h:=Si f;rw[aK h2]at h;exact h dc_
  rw[aF i]at hy;refine Wj 0 l_ (hn_ [0,1] U) ⟨trivial,by rw[hy,show w=((d:Nat):Int) by omega,df],U⟩
 obtain⟨_,rfl,rfl⟩:=u;unfold lF;rw[hy,hd,xQ p,b];have v:=Jz (z:=y) (by rw[q];exact j) g l;have H:=eF v;have x:d / g<BP ^ 200:=Te (Tr _ _) om_;have I:=eF x;have J:=jl (y / (g:Int));refine U1 2 U λR a=>Wc (Ly _ e.m_ y d om_ om_) U7 fl_<|C6 1 [0,1,5] a U ?_;rw[b];refine U1 2 U λR a=>Wc (yM _ e.m_ y g om_ om_ k l) U7 fl_<|C6 4 [0,1,5] a U<|U1 2 U λR a=>Wc (mO _ e.m_ d g om_ om_ k) U7 fl_<|C6 4 [0,1] a U<|U0 2 [0,1,40] U<|G.cd (λc=>?_) λc=>?_
 .have h1:d / g=1:=by rw[rL]at c;exact RD c
  refine U0 2 [4] U<|V6 U2<|⟨?_,U⟩;rw[kv h1];simp[dw]
 have h1:d / g≠1:=by rw[rL]at c;exact Si c
 refine U1 1 U λR a=>WS U6 (λ_=>(by simp only[SC,SZ];omega)) U2<|V2 U6<|WS U6 (λ_=>(by simp only[So,SC,SZ];omega)) U2<|C6 1 [4] a U<|V6 U2<|⟨?_,U⟩;rw[fk h1,SX];rfl
theorem QT (C:Mem)(a:Tabs C)(z w:Int)(d:z.natAbs<9000000000000000000)(e:w.natAbs<9000000000000000000)(b:w≠0):Gives cx.P 47 [i_ z,i_ w] C (ae (qtx (lF z w))):=by
 have f:9000000000000000000<BP ^ 200:=by decide +kernel
 exact V7 func47 10 U3 λw0=>U0 1 [0,1] U<|U1 1 U λR c=>Wc (gZ _ a.m_ z om_ om_) U7 fl_<|V2 U6<|Wc (gZ _ a.m_ w om_ om_) U7 fl_<|Wc (ly _ a.m_ z w om_ om_ b) U7 fl_<|C6 1 [4] c U<|V6 U2<|⟨U,U⟩
theorem CC (C:Mem)(q:Rat)(_i:(qtx q).length<=1000000):Gives cx.P 83 [ae (qtx q)] C (i_ (er q.num)):=by
 obtain⟨c,r,f,d⟩:=kb q;have j:=tj q;refine V7 func83 8 U3 λw0=>U0 1 [0] U<|U0 2 [0,4] U<|G.cd (λh4=>?_) λh4=>?_
 .have h0:q=0:=by rw[eS]at h4;exact RD h4
  refine U0 1 [2] U<|V6 U2<|⟨?_,U⟩;rw[h0];rfl
 have h0:q≠0:=by rw[eS]at h4;exact Si h4
 have g:q.num≠0:=λe=>h0 (Va.1 e);refine U1 1 U λR h=>WE U8 (λ_=>⟨by omega,by rw[f];rfl⟩) U2<|C6 1 [7] h U<|G.cd (λa=>?_) λa=>?_
 .rw[d]at a;have b:q.num<0:=RD a;refine U0 1 [2] U<|V6 U2<|⟨?_,U⟩;unfold er;rw[aK b]
 rw[d]at a;have b:¬ q.num<0:=Si a;refine U0 1 [2] U<|V6 U2<|⟨?_,U⟩;unfold er;rw[aF b,aF g]
theorem Aj (C:Mem)(q:Rat)(g:(qtx q).length<=1000000):Gives cx.P 20 [ae (qtx q)] C (ae (qtx (-q))):=by
 have h:=tj q;refine V7 func20 13 U3 λw0=>U0 1 [0] U<|U0 2 [0,4] U<|G.cd (λh4=>?_) λh4=>?_
 .have h0:q=0:=by rw[eS]at h4;exact RD h4
  refine U0 2 [2] U<|V6 U2<|⟨?_,U⟩;rw[h0,Rat.neg_zero]
 have h0:q≠0:=by rw[eS]at h4;exact Si h4
 obtain⟨c,r,f,e⟩:=kb q;refine U1 1 U λR a=>WE U8 (λ_=>⟨by omega,by rw[f];rfl⟩) U2<|C6 1 [0,8] a U<|G.cd (λb=>?_) λb=>?_
 .have d:q.num<0:=by rw[e]at b;exact RD b
  refine U1 1 U λR a=>WQ 1 (qtx q).length U9 (λ_=>⟨.inr ⟨_,U⟩,.inl ⟨U,U⟩,.inl ⟨U,U⟩,by omega,Sg _,Sg _⟩) U2<|C6 1 [2] a U<|V6 U2<|⟨?_,U⟩;rw[Ss,gH d];rfl
 have d:¬ q.num<0:=by rw[e]at b;exact Si b
 refine U1 1 U λR a=>WS U6 (λ_=>(by simp only[SC,SZ];omega)) U2<|C6 1 [2] a U<|V6 U2<|⟨?_,U⟩;rw[fe d h0];rfl
end Go.Proofs.YtfjcldheldflbaaGreatDoor
