import Derived.Test.YtfjcldheldflbaaGreatDoorG6
set_option maxHeartbeats 4000000
namespace Go.Proofs.YtfjcldheldflbaaGreatDoor
open Go.Proofs.Tryz
open Go Go.Jog
set_option maxRecDepth 100000
variable {a b:Rat}{d g i k:Nat}{l:List Nat}{m n:Nat}{q:Rat}{s:Str}{w z:Int}
theorem co (h:n<B9 ^ k)(a:0<k):(bi n).length<=9*k:=dV (by rw[M9];exact h) om_
theorem BI (h:(txt z).length<=m):z.natAbs<10 ^ m:=by
 have h1:(bi z.natAbs).length<=m:=by
  unfold txt at h;split at h
  .simp at h;omega
  exact h
 let⟨h2,h3⟩:=bB z.natAbs;have h4:=dG h2.1;rw[h3]at h4;exact TL h4 (Tb dc_ h1)
theorem e18:(10:Nat) ^ 18=1000000000000000000:=by decide
theorem e9:(10:Nat) ^ 9=1000000000:=by decide
theorem uG {a b:Nat}(c:a<B9 ^ k)(d:b<B9 ^ k):a+b<B9 ^ (k+1):=by
 rw[T3];have:B9 ^ k*2<=B9 ^ k*B9:=Ua _ dc_;omega
theorem Pm (C:Mem)(l:Tabs C)(z w:Int)(k:Nat)(v:0<k)(hk:k<=40000)(f:z.natAbs<B9 ^ k)(g:w.natAbs<B9 ^ k):Gives cx.P 158 [ag (txt z),ag (txt w)] C (ag (txt (z+w))):=by
 have aa:=co f v;have ab:=co g v;refine Wy func158 62 U3 λw0=>U0 1 [0,1] U<|U1 1 U λR a=>WD (kc _ z 18 (SH _)) U7<|C6 5 [0,1,5,6] a U<|U0 1 [0,1,5,16] U<|G.cut (λfr m o p=>(True)/\fr=[(0,[],ag (txt z)),(1,[],ag (txt w))]/\o=[]) ?_ (λfr _ ac p _ q=>?_)
 .refine G.cd (λx=>?_) λx=>?_
  .have y:=aT x;rw[aL y];have L:=BI y;rw[e18]at L;refine U1 1 U λR a=>WD (kc _ w 18 (SH _)) U7<|C6 5 [0,1,5,7,8] a U<|U0 1 [0,1,5,7,22] U<|G.cd (λA=>?_) λA=>?_
   .have B:=aT A;rw[aL B];have M:=BI B;rw[e18]at M;exact U1 2 U λR a=>Wz _ U U6<|WC (tJ _ l.m_ (z+w) om_ om_) U7 fl_<|C6 1 [4] a U<|Wx U2<|⟨U,U⟩
   refine WJ 0 l_ (hn_ [0,1] U) ⟨trivial,U,U⟩
  refine WJ 0 l_ (hn_ [0,1] U) ⟨trivial,U,U⟩
 obtain⟨_,rfl,rfl⟩:=q;refine U1 1 U λR a=>WT (jy _ z om_) U7 fl_ λad _ _ N=>Wt U6<|WT (jy _ w om_) U7 fl_ λae _ _ O=>WI U5 λD=>WI U5 (λE=>?_);obtain⟨pz,rfl,d⟩:=N;obtain⟨pw,rfl,e⟩:=O;obtain⟨Az,mz,cz,rfl⟩:=d.form;obtain⟨Aw,mw,cw,rfl⟩:=e.form;refine WB (j:=1) U12<|WB (j:=1) U12<|Ww [9,10] a U<|U1 1 U λR a=>WA af U9<|Wt U6<|WA ah U9<|C6 1 [9,10,35] a U<|G.cd (λr=>?_) λr=>?_
 .have i:decide (z<0)=decide (w<0):=by simpa using r
  refine WM [0,1,2,3,4,5,6,7,8,9] [(8,1)] U kr_ λR Q a=>Wt U6<|WA af U9<|Wt U6<|WA af U9<|Wt U6<|WA ah U9<|WT (Na (k:=k) _ d.m_ e.m_ f g om_) U7 fl_ (λai _ _ F=>?_);obtain⟨S,T,V,rfl⟩:=F.form;exact WL [.bool (decide (z<0)),_] U8<|WN (λ_=>(kB _ l.m_ _ _ _ F (dM (k:=100000) (n:=k+1) (uG f g) om_))) U9<|C6 1 [4] a U<|Wx U2<|⟨by rw[G2 i],U⟩
 have i:decide (z<0)≠decide (w<0):=by simpa using r
 refine U1 1 U λR a=>WA af U9<|Wt U6<|WA ah U9<|WD (qZ _ d.m_ e.m_) U7<|C6 1 [9,10,50] a U<|G.cut (λfr m o p=>∃(b c:Int)(s t:Value),(NineC m s b.natAbs/\NineC m t c.natAbs/\c.natAbs<=b.natAbs/\b+c=z+w/\decide (b<0)≠decide (c<0)/\b.natAbs<B9 ^ k)/\fr=[(9,[],p_ D),(10,[],p_ E)]/\o=[.obj E (.cells ⟨[.bool (decide (c<0)),t]⟩ 273 (0,0)),.obj D (.cells ⟨[.bool (decide (b<0)),s]⟩ 273 (0,0))]) ?_ (λfr _ aj p _ q=>?_)
 .refine G.cd (λu=>?_) λu=>?_
  .have H:z.natAbs<w.natAbs:=by
    have:kg z.natAbs w.natAbs<0:=by simpa using u
    exact jx.1 this
   refine Wu λR a=>WA ah U9<|WA af U9<|WB (j:=1) U12<|WB (j:=1) U12<|Ww [9,10] a U<|WJ 0 mup (hn_ [9,10] U) ⟨w,z,_,_,⟨e.mono mup,d.mono mup,by omega,Int.add_comm w z,Ne.symm i,g⟩,U,U⟩
  have H:w.natAbs<=z.natAbs:=by
   have h:¬ kg z.natAbs w.natAbs<0:=by simpa using u
   rw[jx]at h;omega
  refine WJ 0 mup (hn_ [9,10] U) ⟨z,w,_,_,⟨d.mono mup,e.mono mup,H,U,i,f⟩,U,U⟩
 obtain⟨b ,c ,s ,t,⟨I,J,W,X,Y,Z⟩,rfl,rfl⟩:=q;obtain⟨ak,al,am,rfl⟩:=I.form;obtain⟨an,ao,ap,rfl⟩:=J.form;refine WM [0,1,2,3,4,5,6,7,8,9] [(8,1)] U kr_ λR Q a=>Wt U6<|WA af U9<|Wt U6<|WA af U9<|Wt U6<|WA ah U9<|WT (vm (k:=k) _ I.m_ J.m_ Z W om_) U7 fl_ (λaq _ _ K=>?_);obtain⟨S,T,V,rfl⟩:=K.form;exact WL [.bool (decide (b<0)),_] U8<|WN (λ_=>(kB _ l.m_ _ _ _ K (dM (k:=100000) (n:=k) om_ om_))) U9<|C6 1 [4] a U<|Wx U2<|⟨by rw[G3 Y om_,X],U⟩
theorem G4 (z w:Int):sgZ (decide (z<0) != decide (w<0)) (z.natAbs*w.natAbs)=z*w:=by
 unfold sgZ;have h1:z=if z<0 then -(z.natAbs:Int) else (z.natAbs:Int):=by split <;> omega
 have h2:w=if w<0 then -(w.natAbs:Int) else (w.natAbs:Int):=by split <;> omega
 by_cases a:z<0 <;> by_cases b:w<0
 .rw[S4 a,S4 b,aF dc_];rw[aL a]at h1;rw[aL b]at h2;rw[Tc]
  conv=>rhs;rw[h1,h2]
  rw[Int.neg_mul_neg]
 .rw[S4 a,Te b,aL dc_];rw[aL a]at h1;rw[aF b]at h2;rw[Tc]
  conv=>rhs;rw[h1,h2]
  rw[Int.neg_mul]
 .rw[Te a,S4 b,aL dc_];rw[aF a]at h1;rw[aL b]at h2;rw[Tc]
  conv=>rhs;rw[h1,h2]
  rw[Int.mul_neg]
 rw[Te a,Te b,aF dc_];rw[aF a]at h1;rw[aF b]at h2;rw[Tc]
 conv=>rhs;rw[h1,h2]
theorem pi {a b:Nat}(c:a<B9 ^ k)(d:b<B9 ^ k):a*b<B9 ^ (k+k):=by
 rw[UV];exact Ub c d
theorem Dd (a:z.natAbs<1000000000)(b:w.natAbs<1000000000):-1000000000000000000<z*w/\z*w<1000000000000000000:=by
 have h:z.natAbs*w.natAbs<=999999999*999999999:=T2 om_ om_;rw[<- T8]at h;omega
theorem lA (C:Mem)(d:Tabs C)(z w:Int)(k:Nat)(e:0<k)(x:k<=40000)(b:z.natAbs<B9 ^ k)(c:w.natAbs<B9 ^ k):Gives cx.P 124 [ag (txt z),ag (txt w)] C (ag (txt (z*w))):=by
 have y:=co b e;have A:=co c e;refine Wy func124 43 U3 λw0=>U0 1 [0,1] U<|U1 1 U λR a=>WC (kc _ z 9 om_) U7 fl_<|C6 5 [0,1,5,6] a U<|U0 1 [0,1,5,16] U<|G.cut (λfr B r s=>(True)/\fr=[(0,[],ag (txt z)),(1,[],ag (txt w))]/\r=[]) ?_ (λfr _ D s _ t=>?_)
 .refine G.cd (λf=>?_) λf=>?_
  .have g:=aT f;rw[aL g];have h:=BI g;rw[e9]at h;refine U1 1 U λR a=>WC (kc _ w 9 om_) U7 fl_<|C6 5 [0,1,5,7,8] a U<|U0 1 [0,1,5,7,22] U<|G.cd (λi=>?_) λi=>?_
   .have l:=aT i;rw[aL l];have m:=BI l;rw[e9]at m;have E:=Dd h m;exact U1 2 U λR a=>WW ((z*w)) U4 om_ om_ om_ U2<|WC (tJ _ d.m_ (z*w) om_ om_) U7 fl_<|C6 1 [4] a U<|Wx U2<|⟨U,U⟩
   refine WJ 0 l_ (hn_ [0,1] U) ⟨trivial,U,U⟩
  refine WJ 0 l_ (hn_ [0,1] U) ⟨trivial,U,U⟩
 obtain⟨_,rfl,rfl⟩:=t;refine U1 1 U λR a=>WT (jy _ z om_) U7 fl_ λF _ _ u=>Wt U6<|WT (jy _ w om_) U7 fl_ λH _ _ v=>WI U5 λI=>WI U5 (λJ=>?_);obtain⟨K,rfl,o⟩:=u;obtain⟨L,rfl,p⟩:=v;obtain⟨M,N,O,rfl⟩:=o.form;obtain⟨Q,S,T,rfl⟩:=p.form;refine WB (j:=1) U12<|WB (j:=1) U12<|Ww [9,10] a U<|WM [0,1,2,3,4,5,6,7,8,9,10,11,12] [(11,1)] U kr_ λR V a=>Wt U6<|WA af U9<|Wt U6<|WA ah U9<|Wv 2 U<|WA af U9<|Wt U6<|WA ah U9<|WT (Gz (k:=k) _ o.m_ p.m_ b c om_) U7 fl_ (λW _ _ q=>?_);obtain⟨X,Y,Z,rfl⟩:=q.form;exact WL [.bool (decide (z<0) != decide (w<0)),_] U8<|WN (λ_=>(kB _ d.m_ _ _ _ q (dM (k:=100000) (n:=k+k) (pi b c) om_))) U9<|C6 1 [4] a U<|Wx U2<|⟨by rw[G4],U⟩
def I7 (z w:Int):Nat:=if z<0/\z.natAbs % w.natAbs≠0 then z.natAbs / w.natAbs+1 else z.natAbs / w.natAbs
def DV (z w:Int):Nat:=if z<0/\z.natAbs % w.natAbs≠0 then w.natAbs-z.natAbs % w.natAbs else z.natAbs % w.natAbs
theorem I6 (i:0<w):sgZ (decide (z<0) != decide (w<0)) (I7 z w)=z / w/\(DV z w:Int)=z % w:=by
 obtain⟨n,rfl⟩:∃n:Nat,w=n:=⟨w.natAbs,by omega⟩;have f:0<n:=by omega
 rw[Te (by omega:¬ ((n:Nat):Int)<0),Bool.bne_false];have h1:=VR z.natAbs n;have h2:=Ts z.natAbs f;let⟨q,d⟩:∃q,z.natAbs / n=q:=⟨_,rfl⟩;let⟨r,hr⟩:∃r,z.natAbs % n=r:=⟨_,rfl⟩;have g:sgZ (decide (z<0)) (I7 z n)=z / n/\(DV z n:Int)=z % n:=by
  have h3:=(Int.ediv_emod_unique (a:=z) (r:=(DV z n:Int)) (q:=sgZ (decide (z<0)) (I7 z n)) (by omega:(0:Int)<(n:Int))).2;have h4:(DV z n:Int)+(n:Int)*sgZ (decide (z<0)) (I7 z n)=z/\0<=(DV z n:Int)/\(DV z n:Int)<(n:Int):=by
   unfold I7 DV sgZ;simp only[Tu];rw[d,hr];rw[hr,d]at h1;rw[hr]at h2;have h5:((r+n*q:Nat):Int)=(z.natAbs:Int):=by rw[h1]
   rw[Vw,Tc]at h5;by_cases b:z<0
   .rw[S4 b,aL rfl];by_cases c:r=0
    .subst c;rw[aF am,aF am];rw[Int.mul_neg];omega
    rw[aL ⟨b,c⟩,aL ⟨b,c⟩];rw[Int.mul_neg,Vw,V0];omega
   rw[Te b,aF (λh:z<0/\r≠0=>b h.1),aF (λh:z<0/\r≠0=>b h.1),aF dc_];omega
  have e:=h3 h4;exact⟨e.1.symm,e.2.symm⟩
 exact g
theorem tN (C:Mem)(u:Tabs C)(z w:Int)(k:Nat)(f:0<k)(hk:k<=40000)(g:z.natAbs<B9 ^ k)(i:w.natAbs<B9 ^ k)(v:0<w):Gives cx.P 187 [ag (txt z),ag (txt w)] C (.tuple #[ag (txt (z / w)),ag (txt (z % w)),i_ 0]):=by
 have aj:=co g f;have ak:=co i f;have l:0<w.natAbs:=by omega
 refine Wy func187 50 U3 λw0=>U0 3 [0,1] U<|U0 2 [0,1,12] U<|G.cd (λm=>?_) λm=>?_
 .have h:=kO w;rw[h]at m;have:w=0:=aT m;omega
 refine U1 1 U λR a=>WT (jy _ z om_) U7 fl_ λal _ _ K=>Wt U6<|WT (jy _ w om_) U7 fl_ λam _ _ L=>WI U5 λy=>WI U5 (λA=>?_);obtain⟨pz,rfl,B⟩:=K;obtain⟨pw,rfl,o⟩:=L;obtain⟨M,N,O,rfl⟩:=B.form;obtain⟨Q,S,T,rfl⟩:=o.form;refine WB (j:=1) U12<|WB (j:=1) U12<|Ww [7,8] a U<|U1 1 U λR a=>WA af U9<|Wt U6<|WA ah U9<|WT (yS _ _ _ _ _ B.m_ o.m_ (dM (k:=100000) (n:=k) g om_) l) U7 fl_ (λan _ _ V=>?_);obtain⟨vq,vr,rfl,D,p⟩:=V;refine C6 5 [7,8,9,10] a U ?_;let⟨b,W,X,Y⟩:=id p;let⟨Ar,cr,E,_⟩:=id Y;rw[ar]at E;subst E;have F:b.length=0 ↔ z.natAbs % w.natAbs=0:=by
  rw[<- X,Ee W];exact VX
 refine U1 1 U λR a=>WA af U9<|Wv 4 U<|WR U8<|Ww [7,8,9,10,31] a U<|G.cut (λfr H Z μ=>∃(q r:Value),(NineC H q (I7 z w)/\NineC H r (DV z w))/\fr=[(7,[],p_ y),(8,[],p_ A),(9,[],q),(10,[],r)]/\Z=[.obj A (.cells ⟨[.bool (decide (w<0)),.slice Q S T]⟩ 273 (0,0)),.obj y (.cells ⟨[.bool (decide (z<0)),.slice M N O]⟩ 273 (0,0))]) ?_ (λfr _ ao μ _ hI=>?_)
 .refine G.cd (λd=>?_) λd=>?_
  .have c:z<0/\z.natAbs % w.natAbs≠0:=by
    have h:decide (z<0)=true/\0<b.length:=by simpa using d
    exact⟨aT h.1,λe=>by have:=F.2 e;omega⟩
   have s:I7 z w=z.natAbs / w.natAbs+1:=aL c;have t:DV z w=w.natAbs-z.natAbs % w.natAbs:=aL c;have aa:z.natAbs / w.natAbs<B9 ^ k:=TD (TS _ _) g;refine WM [0,3,4,5,1,2,6,7,8] [] U kr_ λR hB a=>Wv 2 U<|WA ah U9<|Wt U6<|WP [cY 1] U12 λap _ _ ab=>WT (Na (k:=k) _ D.m_ (⟨[1],⟨(λx hx=>(by rw[S6.1 hx];decide)),by simp⟩,U,ab.mono mup⟩:NineC _ _ 1) aa (TL (by decide:1<B9 ^ 1) (Tb dc_ f)) om_) U7 fl_ λaq _ _ ac=>WT (vm (k:=k) _ o.m_ p.m_ i (VU (Ts _ l)) om_) U7 fl_ λau _ _ ad=>Wv 2 U<|Ww [7,8,9,10] a U ?_;clear a hB R;refine WJ 0 mup (hn_ [7,8,9,10] U) ⟨_,_,⟨by rw[s];exact ac.mono mup,by rw[t];exact ad.mono mup⟩,U,U⟩
  have c:¬ (z<0/\z.natAbs % w.natAbs≠0):=λh=>by
   have h2:0<b.length:=by
    rcases TY b.length with h3|h3
    .exact absurd (F.1 h3) h.2
    exact h3
   have h3:(decide (z<0) && decide ((0:Int)<(b.length:Int)))=true:=by
    rw[S4 h.1,S4 om_];rfl
   rw[h3]at d;cases d
  have s:I7 z w=z.natAbs / w.natAbs:=aF c;have t:DV z w=z.natAbs % w.natAbs:=aF c;refine WJ 0 mup (hn_ [7,8,9,10] U) ⟨_,_,⟨by rw[s];exact D.mono mup,by rw[t];exact p.mono mup⟩,U,U⟩
 obtain⟨q ,r,⟨I,J⟩,rfl,rfl⟩:=hI;obtain⟨A9,m9,c9,rfl⟩:=I.form;obtain⟨av,aw,ax,rfl⟩:=J.form;have ae:I7 z w<B9 ^ 100000:=by
  have h1:z.natAbs / w.natAbs<=z.natAbs:=TS _ _;have h2:I7 z w<=z.natAbs+1:=by unfold I7;split <;> omega
  have h3:B9 ^ k*2<=B9 ^ (k+1):=by rw[T3];exact Ua _ dc_
  have h4:z.natAbs+1<B9 ^ (k+1):=by have:=Vp (n:=k) (show 0<B9 by decide);omega
  exact dM (k:=100000) (n:=k+1) (TD h2 h4) om_
 have ai:DV z w<B9 ^ 100000:=by
  have h1:=Ts z.natAbs l;have h2:DV z w<=w.natAbs:=by unfold DV;split <;> omega
  exact dM (k:=100000) (n:=k) (TD h2 i) om_
 refine U1 1 U λR a=>WA af U9<|Wt U6<|WA ah U9<|Wv 2 U<|WL [.bool (decide (z<0) != decide (w<0)),_] U8<|WD (kB _ u.m_ _ _ _ I.m_ ae) U7<|Wt U6<|WL [.bool false,_] U8<|WD (kB _ u.m_ _ _ _ J.m_ ai) U7<|C6 3 [4,5,6] a U<|WE (G.dropAll (Xj U4 ?_));refine⟨?_,U⟩;rw[(I6 v).1,show sgZ false (DV z w)=z % w from(I6 v).2]
theorem Mq (a:zH l)(b:bC l=n):0<l.length ↔ 0<n:=by
 have h:=Ee a;rw[b]at h;have h2:l.length=0 ↔ n=0:=by rw[h];exact VX
 omega
theorem Iz (C:Mem)(s:Tabs C)(z w:Int)(k:Nat)(t:0<k)(hk:k<=40000)(u:z.natAbs<B9 ^ k)(v:w.natAbs<B9 ^ k):Gives cx.P 162 [ag (txt z),ag (txt w)] C (ag (txt (Nat.gcd z.natAbs w.natAbs:Nat))):=by
 have ac:=co u t;have ad:=co v t;refine Wy func162 56 U3 λw0=>U0 1 [0,1] U<|U1 1 U λR a=>WD (kc _ z 18 (SH _)) U7<|C6 5 [0,1,5,6] a U<|U0 1 [0,1,5,18] U<|G.cut (λfr g d e=>(True)/\fr=[(0,[],ag (txt z)),(1,[],ag (txt w))]/\d=[]) ?_ (λfr _ ae e _ f=>?_)
 .refine G.cd (λA=>?_) λA=>?_
  .have B:=aT A;rw[aL B];have E:=BI B;rw[e18]at E;refine U1 1 U λR a=>WD (kc _ w 18 (SH _)) U7<|C6 5 [0,1,5,7,8] a U<|U0 1 [0,1,5,7,24] U<|G.cd (λF=>?_) λF=>?_
   .have H:=aT F;rw[aL H];have I:=BI H;rw[e18]at I;refine G.loop (λfr g d e=>∃(x y:Int),(x.natAbs<1000000000000000000/\y.natAbs<1000000000000000000/\Nat.gcd x.natAbs y.natAbs=Nat.gcd z.natAbs w.natAbs)/\fr=[(5,[],i_ x),(7,[],i_ y)]/\d=[]/\e=y.natAbs+1) (hn_ [5,7] U) ⟨z,w,⟨E,I,U⟩,U,U,U⟩ (λfr af ah m L f=>?_);obtain⟨x,y,⟨ai,M,c⟩,rfl,rfl,rfl⟩:=f;refine U0 2 [5,7,26] U<|G.cd (λj=>?_) λj=>?_
    .have b:y≠0:=by simpa using j
     have N:(x.tmod y).natAbs=x.natAbs % y.natAbs:=Vy x y;have O:=Ts x.natAbs (show 0<y.natAbs by omega);refine WM [0,1,2,3,4,5] [] U kr_ λR hB a=>Wv 3 U<|Xr (x.tmod y) U6 b U3<|C6 2 [5,7] a U<|WF (m':=(x.tmod y).natAbs+1) om_ L (hn_ [5,7] U) ⟨y,x.tmod y,⟨M,by omega,by rw[N,<- c,UO x.natAbs,V1 y.natAbs x.natAbs,UO]⟩,U,U,U⟩
    have b:y=0:=by simpa using j
    subst b;rw[show(0:Int).natAbs=0 from rfl,Vs]at c;refine U1 3 U λR a=>?_;have aj:IntKind.i64.wrap (0-x)=0-x:=wrap_i64 om_ om_;exact D.max ((x.natAbs:Int)) U6 om_ U2<|WC (tJ _ s.m_ (x.natAbs:Int) om_ om_) U7 fl_<|C6 1 [4] a U<|Wx U2<|⟨by rw[c],U⟩
   refine WJ 0 l_ (hn_ [0,1] U) ⟨trivial,U,U⟩
  refine WJ 0 l_ (hn_ [0,1] U) ⟨trivial,U,U⟩
 obtain⟨_,rfl,rfl⟩:=f;refine U1 1 U λR a=>WT (jy _ z om_) U7 fl_ (λak _ _ Q=>?_);obtain⟨pz,rfl,S⟩:=Q;refine XF U12<|Wt U6<|WT (jy _ w om_) U7 fl_ (λal _ _ T=>?_);obtain⟨pw,rfl,V⟩:=T;refine XF U12<|C6 2 [9,10] a U<|G.loop (λfr g d e=>∃(x y:Nat)(o p:Value),(NineC g o x/\NineC g p y/\x<B9 ^ k/\y<B9 ^ k/\Nat.gcd x y=Nat.gcd z.natAbs w.natAbs)/\fr=[(9,[],o),(10,[],p)]/\d=[]/\e=y+1) (hn_ [9,10] U) ⟨_,_,_,_,⟨S.mono mup,V.mono mup,u,v,U⟩,U,U,U⟩ (λfr am an m _ f=>?_);obtain⟨x,y,o,p,⟨q,i,J,K,c⟩,rfl,rfl,rfl⟩:=f;let⟨l,W,X,Y⟩:=id i;obtain⟨ao,ap,rfl,_⟩:=id Y;rw[ar]at i⊢;have Z:=Mq W X;refine U0 3 [9,10,44] U<|G.cd (λr=>?_) λr=>?_
 .have b:0<y:=Z.1 (by simpa using r);have O:=Ts x b;refine U1 2 U λR a=>WT (yS _ _ _ _ _ q.m_ i.m_ (dM (k:=100000) (n:=k) J om_) b) U7 fl_ (λaq _ _ aa=>?_);obtain⟨vq,vr,rfl,au,ab⟩:=aa;refine C6 5 [10,12] a U<|U0 4 [9,10] U<|WF (m':=x % y+1) om_ mup (hn_ [9,10] U) ⟨y,x % y,_,_,⟨i.mono mup,ab.mono mup,K,UP (Ts _ b) K,by rw[<- c,UO x,V1 y x,UO]⟩,U,U,U⟩
 have b:y=0:=by
  have h:¬ 0<l.length:=by simpa using r
  omega
 subst b;rw[Vs]at c;obtain⟨A9,m9,c9,rfl⟩:=q.form;exact U1 1 U λR a=>WL [.bool false,_] U8<|WC (kB _ s.m_ _ _ _ q.m_ (dM (k:=100000) (n:=k) J om_)) U7 fl_<|C6 1 [4] a U<|Wx U2<|⟨by rw[c];rfl,U⟩
def tt (sg:Bool)(A:Str)(B:Option Str):Value :=
 if Nq A B then .tuple #[.int .i64 (sgZ sg (bT A)),.int .i64 (Rz B),.bool true] else .tuple #[.int .i64 0,.int .i64 0,.bool false]
theorem ET (C:Mem)(d:Bool)(A:Str)(B:Option Str)(q:∀c∈A,dZ c=true)(T:A≠[])(V:∀b,B=some b->∀c∈b,dZ c=true)(W:(E1 d++A++dy B).length<=1000000) :
  Gives cx.P 120 [ag (E1 d++A++dy B)] C (tt d A B):=by
 let⟨s,hs⟩:∃s,E1 d++A++dy B=s:=⟨_,rfl⟩;let⟨p,hp⟩:∃p,(E1 d).length=p:=⟨_,rfl⟩;have g:p=if d then 1 else 0:=by rw[<- hp];cases d <;> rfl
 have t:∀j c,A[j]?=some c->s[p+j]?=some c:=λj c h=>by rw[<- hs,<- hp];exact Hy _ _ _ h
 have N:∀j,s[p+A.length+j]?=(dy B)[j]?:=λj=>by rw[<- hs,<- hp];exact Df _ _ _ _
 have x:s.length=p+A.length+(dy B).length:=by rw[<- hs,<- hp,SP,SP]
 have X:0<A.length:=Tw.2 T;rw[hs]at W⊢;refine Wy func120 73 U3 λw0=>U0 3 [0,2,3] U<|U0 2 [0,2,3,5,6] U<|U1 5 U λR a=>W8 (b:=s.getD 0 0) U8 (λ_=>⟨by omega,(by rw[al,show(0:Int).toNat=0 from rfl];let⟨c,f⟩:∃c,s[0]?=some c:=⟨s[0]'om_,aj om_⟩;rw[f];rfl)⟩) U2<|Wt U6<|WR U8<|Ww [0,2,3,5,6,15] a U<|G.cut (λfr y i k=>(True)/\fr=[(0,[],ag s),(2,[],i_ 0),(3,[],i_ 0),(5,[],i_ p),(6,[],.bool d)]/\i=[]) ?_ (λfr _ ae k _ l=>?_)
 .refine G.cd (λu=>?_) λu=>?_
  .have n:d=true:=by
    cases d with
   |true=>rfl
   |false =>
     exfalso;rw[aF dc_]at g;subst g;let⟨c,f⟩:∃c,A[0]?=some c:=⟨A[0],aj X⟩;have h1:=t 0 c f;have h2:=q c (aK f);rw[Um]at h1;rw[al,h1]at u;unfold dZ at h2;simp at u h2;omega
   subst n;rw[aL rfl]at g;subst g;refine U0 2 [0,2,3,5,6] U<|WJ 0 l_ (hn_ [0,2,3,5,6] U) ⟨trivial,U,U⟩
  have n:d=false:=by
   cases d with
  |false=>rfl
  |true =>
    exfalso;have h1:s[0]?=some 45:=by rw[<- hs];rfl
    rw[aL rfl]at g;have h2:(decide ((0:Int)<((s.length:Nat):Int)) && decide ((((s.getD 0 0).toNat:Nat):Int)=45))=false:=by simpa using u
    rw[al,h1,S4 om_]at h2;exact absurd h2 dc_
  subst n;rw[aF dc_]at g;subst g;refine WJ 0 l_ (hn_ [0,2,3,5,6] U) ⟨trivial,U,U⟩
 obtain⟨_,rfl,rfl⟩:=l;refine U0 2 [0,2,3,5,6,7] U<|G.loop (λfr y i k=>∃(j:Nat),(j<=A.length/\j<=9)/\fr=[(0,[],ag s),(2,[],i_ ((bT (A.take j):Nat):Int)),(3,[],i_ 0),(5,[],i_ ((p+j:Nat):Int)),(6,[],.bool d),(7,[],i_ p)]/\i=[]/\k=A.length-j+1) (hn_ [0,2,3,5,6,7] U) ⟨0,⟨by omega,by omega⟩,U,U,U⟩ (λfr af ah m Y l=>?_);obtain⟨j,⟨hj,v⟩,rfl,rfl,rfl⟩:=l;let⟨c,f⟩:∃c,p+j<s.length->s[p+j]?=some c:=⟨s.getD (p+j) 0,λh=>by rw[al,aj h];rfl⟩;refine U1 7 U λR a=>W8 (b:=c) U8 (λZ=>⟨by omega,f (by have h:decide (((p+j:Nat):Int)<((s.length:Nat):Int))=true:=Z.1;have h2:=aT h;omega)⟩) U2<|Wt U6<|WR U8<|Ww [0,2,3,5,6,7,26] a U<|G.cd (λw=>?_) λw=>?_
 .have z:p+j<s.length/\c.toNat≠47:=by
   simp at w;omega
  have E:j<A.length:=by
   rcases Th j A.length with h|h
   .exact h
   exfalso;obtain rfl:j=A.length:=by omega
   have h1:=f z.1;have h2:=N 0;rw[Um,h1]at h2;cases B with
  |none=>simp[dy]at h2
  |some b =>
    simp[dy]at h2;subst h2;exact z.2 U
  let⟨e,o⟩:∃c,A[j]?=some c:=⟨A[j],aj E⟩;obtain rfl:e=c:=by
   have h1:=f z.1;rw[t j e o]at h1;exact Ue h1
  have O:48<=e.toNat/\e.toNat<=57:=by simpa [dZ] using q e (aK o)
  have hV:=mZ q v;refine U1 2 U λR a=>Wz _ U U6<|C6 1 [0,2,3,5,6,7,32] a U<|G.cd (λF=>?_) λF=>?_
  .have r:¬ A.length<=9:=by
    have:((p+j:Nat):Int)-p=9:=by simpa using F
    omega
   refine U0 3 [2,3,4] U<|WE (G.dropAll (Xj U4 ?_));refine⟨?_,U⟩;unfold tt Nq;rw[Te r,Bool.false_and,aF dc_]
  have r:j≠9:=by
   have:¬ ((p+j:Nat):Int)-p=9:=by simpa using F
   omega
  refine U1 1 U λR a=>Wz _ U U6<|Wv 2 U<|W8 U8 (λ_=>⟨by omega,t j _ o⟩) U2<|D.int (((e.toNat:Nat):Int)-48) U4 (by rw[IntKind.wrap_u8];omega) U2<|W7 (c:=((e.toNat:Nat):Int)-48) U8 f_ fl_<|Wz _ U U6<|C6 1 [0,2,3,5,6,7] a U<|U1 1 U λR a=>Wz _ U U6<|C6 1 [0,2,3,5,6,7] a U ?_;rw[show 10*((bT (A.take j):Nat):Int)+(((e.toNat:Nat):Int)-48)=((bT (A.take (j+1)):Nat):Int) by rw[pA o];omega];refine WF (m':=A.length-(j+1)+1) om_ Y (hn_ [0,2,3,5,6,7] U) ⟨j+1,⟨by omega,by omega⟩,U,U,U⟩
 have E:j=A.length:=by
  rcases Th j A.length with h|h
  .exfalso;let⟨e,o⟩:∃c,A[j]?=some c:=⟨A[j],aj h⟩;have h1:=f om_;rw[t j e o]at h1;obtain rfl:=Ue h1;have O:48<=e.toNat/\e.toNat<=57:=by simpa [dZ] using q e (aK o)
   simp at w;have:=w om_;omega
  omega
 subst E;rw[SU];refine U0 1 [0,2,3,5,41] U<|G.cut (λfr y i k=>(True)/\fr=[(0,[],ag s),(2,[],i_ (sgZ d (bT A))),(3,[],i_ 0),(5,[],i_ ((p+A.length:Nat):Int))]/\i=[]) ?_ (λfr _ ai k _ l=>?_)
 .refine G.cd (λH=>?_) λH=>?_
  .have n:d=true:=H;subst n;have aa:=mZ q v;rw[SU]at aa;refine U0 3 [0,2,3,5] U ?_;rw[show IntKind.i64.wrap (0-((bT A:Nat):Int))=sgZ true (bT A) by rw[wrap_i64 om_ om_];unfold sgZ;rw[aL rfl];omega];refine WJ 0 l_ (hn_ [0,2,3,5] U) ⟨trivial,U,U⟩
  have n:d=false:=by simpa using H
  subst n;refine WJ 0 l_ (hn_ [0,2,3,5] U) ⟨trivial,U,U⟩
 obtain⟨_,rfl,rfl⟩:=l;refine U0 4 [0,2,3,5,47] U<|G.cd (λI=>?_) λI=>?_
 .have ab:B=none:=by
   cases B with
  |none=>rfl
  |some b =>
    exfalso;have:p+A.length=s.length:=by simp at I;omega
    rw[x]at this;simp[dy]at this
  subst ab;refine U0 4 [2,3,4] U<|WE (G.dropAll (Xj U4 ?_));refine⟨?_,U⟩;unfold tt Nq;rw[S4 v];rfl
 obtain⟨b,rfl⟩:∃b,B=some b:=by
  cases B with
 |some b=>exact⟨b,rfl⟩
 |none =>
   exfalso;simp[x,dy]at I
 have Q:=V b rfl;have ak:s.length=p+A.length+1+b.length:=by rw[x];simp[dy];omega
 refine U1 1 U λR a=>Wz _ U U6<|C6 1 [0,2,3,5,7] a U<|U1 1 U λR a=>Wz _ U U6<|C6 1 [0,2,3,5,7] a U<|G.loop (λfr y i k=>∃(j:Nat),(j<=b.length/\j<=9)/\fr=[(0,[],ag s),(2,[],i_ (sgZ d (bT A))),(3,[],i_ ((bT (b.take j):Nat):Int)),(5,[],i_ ((p+A.length+1+j:Nat):Int)),(7,[],i_ ((p+A.length+1:Nat):Int))]/\i=[]/\k=b.length-j+1) (hn_ [0,2,3,5,7] U) ⟨0,⟨by omega,by omega⟩,U,U,U⟩ (λfr am an m ac l=>?_);obtain⟨j,⟨hk,S⟩,rfl,rfl,rfl⟩:=l;refine U0 4 [0,2,3,5,7,56] U<|G.cd (λJ=>?_) λJ=>?_
 .have K:j<b.length:=by
   have:p+A.length+1+j<s.length:=by simp at J;omega
   omega
  let⟨c,L⟩:∃c,b[j]?=some c:=⟨b[j],aj K⟩;have ad:s[p+A.length+1+j]?=some c:=by rw[UQ,N,UT 1 j];exact L
  have O:48<=c.toNat/\c.toNat<=57:=by simpa [dZ] using Q c (aK L)
  have hV:=mZ Q S;refine U1 2 U λR a=>Wz _ U U6<|C6 1 [0,2,3,5,7,62] a U<|G.cd (λM=>?_) λM=>?_
  .have r:¬ b.length<=9:=by
    have:((p+A.length+1+j:Nat):Int)-((p+A.length+1:Nat):Int)=9:=by simpa using M
    omega
   refine U0 3 [2,3,4] U<|WE (G.dropAll (Xj U4 ?_));refine⟨?_,U⟩;unfold tt Nq;rw[show(some b).getD []=b from rfl,Te r,Bool.and_false,aF dc_]
  have r:j≠9:=by
   have:¬ ((p+A.length+1+j:Nat):Int)-((p+A.length+1:Nat):Int)=9:=by simpa using M
   omega
  refine U1 1 U λR a=>Wz _ U U6<|Wv 2 U<|W8 U8 (λ_=>⟨by omega,ad⟩) U2<|D.int (((c.toNat:Nat):Int)-48) U4 (by rw[IntKind.wrap_u8];omega) U2<|W7 (c:=((c.toNat:Nat):Int)-48) U8 f_ fl_<|Wz _ U U6<|C6 1 [0,2,3,5,7] a U<|U1 1 U λR a=>Wz _ U U6<|C6 1 [0,2,3,5,7] a U ?_;rw[show 10*((bT (b.take j):Nat):Int)+(((c.toNat:Nat):Int)-48)=((bT (b.take (j+1)):Nat):Int) by rw[pA L];omega];refine WF (m':=b.length-(j+1)+1) om_ ac (hn_ [0,2,3,5,7] U) ⟨j+1,⟨by omega,by omega⟩,U,U,U⟩
 have K:j=b.length:=by
  have:¬ p+A.length+1+j<s.length:=by simp at J;omega
  omega
 subst K;rw[SU];refine U0 5 [2,3,4] U<|WE (G.dropAll (Xj U4 ?_));refine⟨?_,U⟩;unfold tt Nq;rw[show(some b).getD []=b from rfl,S4 v,S4 S];rfl
theorem mh {n:Int}(a:g ∣ n.natAbs):n.tdiv (g:Int)=n / (g:Int):=Int.tdiv_eq_ediv_of_dvd (Vo.1 (Uv.2 a))
theorem xZ {n:Int}(a:d≠0):qtx (mkRat n d)=txt (n / ((Nat.gcd n.natAbs d:Nat):Int))++dy (mY (d / Nat.gcd n.natAbs d)):=by
 rw[qM,(vl n a).1,(vl n a).2]
theorem xA (C:Mem)(e:Tabs C)(n:Int)(d:Nat)(o:0<d)(p:n.natAbs<9000000000000000000)(t:d<9000000000000000000):Gives cx.P 121 [i_ n,i_ d] C (ag (qtx (mkRat n d))):=by
 let⟨g,b⟩:∃g,Nat.gcd n.natAbs d=g:=⟨_,rfl⟩;have u:0<g:=by rw[<- b];exact Ve _ o
 have q:g ∣ n.natAbs:=by rw[<- b];exact VF _ _
 have v:g ∣ d:=by rw[<- b];exact VJ _ _
 have H:g<=d:=V4 o v;rw[xZ om_,b];refine Wy func121 35 U3 λw0=>U0 1 [0,1] U<|U0 4 [0,1,5,6] U<|G.loop (λfr w f h=>∃(x y:Int),(x.natAbs<9000000000000000000/\y.natAbs<9000000000000000000/\Nat.gcd x.natAbs y.natAbs=g)/\fr=[(0,[],i_ n),(1,[],i_ d),(5,[],i_ x),(6,[],i_ y)]/\f=[]/\h=y.natAbs+1) (hn_ [0,1,5,6] U) ⟨n,d,⟨p,by omega,by rw[Tu];exact b⟩,U,U,U⟩ (λfr I J m z i=>?_);obtain⟨x,y,⟨K,A,r⟩,rfl,rfl,rfl⟩:=i;refine U0 2 [0,1,5,6,10] U<|G.cd (λj=>?_) λj=>?_
 .have k:y≠0:=by simpa using j
  have B:(x.tmod y).natAbs=x.natAbs % y.natAbs:=Vy x y;have L:=Ts x.natAbs (show 0<y.natAbs by omega);refine WM [0,1,2,3,4,5] [] U kr_ λR D a=>Wv 3 U<|Xr (x.tmod y) U6 k U3<|C6 2 [0,1,5,6] a U<|WF (m':=(x.tmod y).natAbs+1) om_ z (hn_ [0,1,5,6] U) ⟨y,x.tmod y,⟨A,by omega,by rw[B,<- r,UO x.natAbs,V1 y.natAbs x.natAbs,UO]⟩,U,U,U⟩
 have k:y=0:=by simpa using j
 subst k;rw[show(0:Int).natAbs=0 from rfl,Vs]at r;refine U0 2 [0,1,5,16] U<|G.cut (λfr w f h=>(True)/\fr=[(0,[],i_ n),(1,[],i_ d),(5,[],i_ g)]/\f=[]) ?_ (λfr _ M h _ i=>?_)
 .refine G.cd (λl=>?_) λl=>?_
  .have E:x<0:=by simpa using l
   refine U0 3 [0,1,5] U ?_;rw[show IntKind.i64.wrap (0-x)=(g:Int) by rw[wrap_i64 om_ om_];omega];refine WJ 0 l_ (hn_ [0,1,5] U) ⟨trivial,U,U⟩
  have E:¬ x<0:=by simpa using l
  rw[show x=(g:Int) by omega];refine WJ 0 l_ (hn_ [0,1,5] U) ⟨trivial,U,U⟩
 obtain⟨_,rfl,rfl⟩:=i;have F:(n / (g:Int)).natAbs<=n.natAbs:=by
  rw[UL (Vo.1 (Uv.2 q)),Tu];exact TS _ _
 have s:=TS d g;refine WM [0,1,2,3,4,5,6,7] [] U kr_ λR D a=>Wv 2 U<|Xy (n / (g:Int)) U6 om_ (mh q) (wrap_i64 om_ om_) U2<|Wv 2 U<|Xs (d) (g) U6 u (.inl ⟨U,by omega⟩) U2<|C6 2 [0,1] a U<|U0 2 [0,1,26] U<|G.cd (λc=>?_) λc=>?_
 .have h1:d / g=1:=by
   have h2:(((d / g:Nat):Int))=1:=by simpa using c
   omega
  refine U1 1 U λR a=>WC (ga _ e.m_ _ om_ om_) U7 fl_<|C6 1 [4] a U<|Wx U2<|⟨?_,U⟩;rw[h1,kw rfl];simp[dy]
 have h1:d / g≠1:=by
  intro h2;rw[h2]at c;exact absurd c dc_
 have N:=jp (n / (g:Int));have O:=jp ((d / g:Nat):Int);have Q:(bi (n / (g:Int)).natAbs).length<=20:=dV (TD F (UP p dc_)) dc_;have S:(bi ((d / g:Nat):Int).natAbs).length<=20:=dV (by rw[Tu];exact TD s (UP t dc_)) dc_;refine U1 1 U λR a=>WC (ga _ e.m_ _ om_ om_) U7 fl_<|Xn U6 (λ_=>(by simp only[S5,Tp];omega)) U2<|Wt U6<|WC (ga _ e.m_ ((d / g:Nat):Int) (VV dc_ (Wo _)) (VV (Int.ofNat_le.2 s) om_)) U7 fl_<|Xn U6 (λ_=>(by simp only[SP,S5,Tp];omega)) U2<|C6 1 [4] a U<|Wx U2<|⟨?_,U⟩;rw[fp h1,dh,Tn];rfl
theorem Is (C:Mem)(z:Int)(d:Nat)(k:Nat)(b:0<k)(g:k<=40000)(c:z.natAbs<B9 ^ k)(e:d<B9 ^ k):Gives cx.P 134 [ag (txt z),ag (bi d)] C (ag (txt z++dy (mY d))):=by
 have h:(txt z).length<=9*k+1:=by
  have:=co c b;unfold txt;split
  .simp;omega
  omega
 have i:=co e b;refine Wy func134 12 U3 λw0=>U0 1 [0,1] U<|U0 2 [0,1,6] U<|G.cd (λa=>?_) λa=>?_
 .have h1:d=1:=by rw[rR]at a;exact aT a
  refine U0 2 [4] U<|Wx U2<|⟨?_,U⟩;rw[kw h1];simp[dy]
 have h1:d≠1:=by rw[rR]at a;exact SJ a
 refine U1 1 U λR f=>Xn U6 (λ_=>(by simp only[S5,Tp];omega)) U2<|Wt U6<|Xn U6 (λ_=>(by simp only[SP,S5,Tp];omega)) U2<|C6 1 [4] f U<|Wx U2<|⟨?_,U⟩;rw[fp h1,Tn];rfl
theorem Ha (C:Mem)(s:Str)(c:s.length<1000000):Gives cx.P 122 [ag s] C (.tuple #[ag (ji 47 s).1,ag ((ji 47 s).2.getD [49])]):=by
 refine Wy func122 18 U3 λw0=>U0 2 [0] U<|U1 1 U λR d=>WD (NA _ s 47 c) U7<|C6 7 [4,5,6] d U<|U0 2 [4,5,14] U<|G.cd (λa=>?_) λa=>?_
 .have h1:(ji 47 s).2=none:=by
   cases h:(ji 47 s).2 with
  |none=>rfl
  |some b=>rw[h]at a;simp at a
  refine U0 3 [2,3] U<|WE (zD U3 ?_);refine⟨?_,U⟩;rw[h1];rfl
 let⟨b,h1⟩:∃b,(ji 47 s).2=some b:=by
  cases h:(ji 47 s).2 with
 |some b=>exact⟨b,rfl⟩
 |none=>rw[h]at a;simp at a
 refine U0 4 [2,3] U<|WE (zD U3 ?_);refine⟨?_,U⟩;rw[h1];rfl
theorem D3 {c:UInt8}:∀{a:Str}(b:Str),c ∉ a->ji c (a++c::b)=(a,some b)
|[],b,_=>by simp[ji]
|x::a,b,h=>by
  have d:x≠c:=λe=>h (e ▸ SK);have hr:=D3 (c:=c) (a:=a) b (λh2=>h (SX _ h2));simp only[UA,ji,aF d,hr]
theorem yX {c:UInt8}:∀{a:Str},c ∉ a->ji c a=(a,none)
|[],_=>rfl
|x::a,h=>by
  have b:x≠c:=λe=>h (e ▸ SK);have hr:=yX (c:=c) (a:=a) (λh2=>h (SX _ h2));simp only[ji,aF b,hr]
theorem xq (h:∀c∈s,dZ c=true):(47:UInt8) ∉ s:=λh2=>absurd (h 47 h2) dc_
theorem xp (z:Int):(47:UInt8) ∉ txt z:=by
 unfold txt;split
 .intro h;rcases SY.1 h with h|h
  .cases h
  exact xq (iQ _) h
 exact xq (iQ _)
theorem nh (q:Rat):ji 47 (qtx q)=(txt q.num,mY q.den):=by
 rw[qM];unfold mY;split
 .rw[show dy none=[] from rfl,S8];exact yX (xp _)
 exact D3 _ (xp _)
theorem one_dec:bi 1=[49]:=by rw[bi];rfl
theorem Bh (d:Nat):(mY d).getD [49]=bi d:=by
 unfold mY;split
 .rename_i h;subst h;exact one_dec.symm
 rfl
theorem OX (C:Mem)(q:Rat)(a:(qtx q).length<1000000):Gives cx.P 122 [ag (qtx q)] C (.tuple #[ag (txt q.num),ag (bi q.den)]):=by
 have h:=Ha C (qtx q) a
 rwa [nh,Bh]at h
def kV (z w:Int):Rat:=mkRat (if w<0 then -z else z) w.natAbs
theorem rx (C:Mem)(f:Tabs C)(z w:Int)(k:Nat)(b:0<k)(e:k<=40000)(p:z.natAbs<B9 ^ k)(q:w.natAbs<B9 ^ k)(v:w≠0):Gives cx.P 123 [ag (txt z),ag (txt w)] C (ag (qtx (kV z w))):=by
 have x:=co p b;have A:=co q b;let⟨y,hy⟩:∃y,(if w<0 then -z else z)=y:=⟨_,rfl⟩;let⟨d,hd⟩:∃d,w.natAbs=d:=⟨_,rfl⟩;have r:d≠0:=by omega
 have B:y.natAbs=z.natAbs:=by rw[<- hy];split <;> omega
 let⟨g,c⟩:∃g,Nat.gcd y.natAbs d=g:=⟨_,rfl⟩;have D:0<g:=by rw[<- c];exact Ve _ om_
 have s:g ∣ d:=by rw[<- c];exact VJ _ _
 have E:g<=d:=V4 om_ s;unfold kV;rw[hy,hd,xZ r,c];refine Wy func123 35 U3 λw0=>U0 1 [0,1] U<|U1 1 U λR a=>WD (mK _ w) U7<|C6 1 [0,1,8] a U<|G.cut (λfr t i j=>(True)/\fr=[(0,[],ag (txt y)),(1,[],ag (txt (d:Nat)))]/\i=[]) ?_ (λfr _ F j _ l=>?_)
 .refine G.cd (λm=>?_) λm=>?_
  .have n:w<0:=by
    have h:eA w<0:=by simpa using m
    unfold eA at h;split at h <;> omega
   rw[aL n]at hy;refine U1 1 U λR a=>WC (vz _ z om_) U7 fl_<|Wt U6<|WC (vz _ w om_) U7 fl_<|C6 2 [0,1] a U<|WJ 0 l_ (hn_ [0,1] U) ⟨trivial,by rw[hy,show -w=((d:Nat):Int) by omega],U⟩
  have n:¬ w<0:=by
   intro h2;have h:¬ eA w<0:=by simpa using m
   unfold eA at h;split at h <;> omega
  rw[aF n]at hy;refine WJ 0 l_ (hn_ [0,1] U) ⟨trivial,by rw[hy,show w=((d:Nat):Int) by omega],U⟩
 obtain⟨_,rfl,rfl⟩:=l;refine U1 2 U λR a=>WC (Iz _ f.m_ y (d:Nat) k b e om_ om_) U7 fl_<|C6 1 [0,1,5] a U ?_;rw[Tu,c];refine U0 2 [0,1,5,17] U<|G.cut (λfr t i j=>(True)/\fr=[(0,[],ag (txt (y / (g:Nat)))),(1,[],ag (txt ((d / g:Nat):Int)))]/\i=[]) ?_ (λfr _ H j _ l=>?_)
 .refine G.cd (λo=>?_) λo=>?_
  .refine U1 2 U λR a=>WC (tN _ f.m_ y (g:Nat) k b e om_ om_ om_) U7 fl_<|C6 5 [0,1,5] a U<|U1 2 U λR a=>WC (tN _ f.m_ (d:Nat) (g:Nat) k b e om_ om_ om_) U7 fl_<|C6 5 [0,1] a U<|WJ 0 l_ (hn_ [0,1] U) ⟨trivial,by rw[Int.natCast_ediv],U⟩
  have u:g=1:=by
   rw[dh,rR]at o;simpa using o
  refine WJ 0 l_ (hn_ [0,1] U) ⟨trivial,by rw[u,Nat.div_one,Int.natCast_one,Int.ediv_one],U⟩
 obtain⟨_,rfl,rfl⟩:=l;rw[dh];exact U1 2 U λR a=>WC (Is _ (y / (g:Nat)) (d / g) k b e (by rw[UL (Vo.1 (Uv.2 (by rw[<- c];exact VF _ _))),Tu];exact TD (TS _ _) om_) (TD (TS _ _) om_)) U7 fl_<|C6 1 [4] a U<|Wx U2<|⟨U,U⟩
theorem PI {a b:Nat}(h:bi a=bi b):a=b:=by rw[<- (bB a).2,h,(bB b).2]
theorem Qy (h:txt z=txt w):z=w:=by
 have h1:=dO z;rw[h,dO w]at h1;have h2:=PI (V3 h1).1;have h3:decide (w<0)=decide (z<0):=(V3 h1).2;by_cases a:w<0
 .rw[S4 a]at h3;have:=aT h3.symm;omega
 rw[Te a]at h3;have:=SJ h3.symm;omega
theorem gx (h:qtx a=qtx b):a=b:=by
 have h1:=nh a;rw[h,nh b]at h1;have h2:=Qy (V3 h1).1;have h3:=congrArg Rz (V3 h1).2;rw[mX,mX]at h3;exact Rat.ext h2.symm h3.symm
theorem OJ (a b:Rat):((⟨(qtx a).toArray⟩:ByteArray).data.toList == (⟨(qtx b).toArray⟩:ByteArray).data.toList)=decide (a=b):=by
 show(qtx a == qtx b)=_;rw[Wj,Uo,SS];exact⟨gx,λh=>by rw[h]⟩
theorem qtx_zero:qtx 0=[48]:=by
 rw[show(0:Rat)=((0:Int):Rat) from rfl,nP];unfold txt;rw[aF om_,show bi (0:Int).natAbs=bi 0 from rfl,bi];rfl
theorem fT:qtx 1=[49]:=by
 rw[show(1:Rat)=((1:Int):Rat) from rfl,nP];exact one_val.symm
theorem eV (a:Rat):((⟨(qtx a).toArray⟩:ByteArray).data.toList == (⟨#[48]⟩:ByteArray).data.toList)=decide (a=0):=by
 have h:=OJ a 0
 rwa [qtx_zero]at h
theorem M5 (a:Rat):((⟨(qtx a).toArray⟩:ByteArray).data.toList == (⟨#[49]⟩:ByteArray).data.toList)=decide (a=1):=by
 have h:=OJ a 1
 rwa [fT]at h
theorem tw (a:Rat):0<(qtx a).length:=by
 unfold qtx;rw[SP,SP];have:=Tw.2 (oh a.num.natAbs);omega
theorem aV (h:QB k q)(a:0<k):(qtx q).length<=18*k+2:=by
 unfold qtx;rw[SP,SP];have h1:=co h.1 a;have h2:=co h.2 a;have h3:(E1 (decide (q.num<0))).length<=1:=by cases decide (q.num<0) <;> simp[E1]
 have h4:(dy (mY q.den)).length<=9*k+1:=by
  unfold mY;split
  .simp[dy]
  simp[dy];exact h2
 omega
theorem kf (q:Rat):∃c r,qtx q=c::r/\((((c.toNat:Nat):Int) == 45)=decide (q.num<0)):=by
 by_cases h:q.num<0
 .refine⟨45,bi q.num.natAbs++dy (mY q.den), ?_,by rw[S4 h];decide⟩;unfold qtx;rw[S4 h];rfl
 let⟨c,r,a⟩:∃c r,bi q.num.natAbs=c::r:=List.exists_cons_of_ne_nil (oh _);refine⟨c,r++dy (mY q.den), ?_, ?_⟩
 .unfold qtx;rw[Te h,a];rfl
 have h2:=iQ q.num.natAbs c (by rw[a];exact SK);rw[Te h];unfold dZ at h2;have h3:=aT h2;exact Te om_
theorem fj (h:¬ q.num<0)(a:q≠0):qtx (-q)=45::qtx q:=by
 have b:q.num≠0:=λe=>a (Vz.1 e);unfold qtx;rw[V2,Rat.neg_den,S4 om_,Te h,VL];rfl
theorem gH (h:q.num<0):qtx q=45::qtx (-q):=by
 have h2:=fj (q:=-q) (by rw[V2];omega) (by intro e;have h3:=congrArg Rat.num e;rw[V2]at h3;have h4:(0:Rat).num=0:=rfl;omega)
 rwa [Rat.neg_neg]at h2
def DP (q:Rat):Bool:=Nq (bi q.num.natAbs) (mY q.den)
theorem Np (h:(bi n).length<=9):n<1000000000:=by
 have h1:=dG (iQ n);rw[(bB n).2]at h1;exact TL h1 (SV (Tb dc_ h) dc_)
theorem lE (h:DP q=true):q.num.natAbs<1000000000/\q.den<1000000000:=by
 unfold DP Nq at h;rw[S1,SS,SS]at h;refine⟨Np h.1, ?_⟩;by_cases h1:q.den=1
 .omega
 rw[fp h1]at h;exact Np h.2
theorem G9 (C:Mem)(q:Rat)(a:(qtx q).length<=1000000):Gives cx.P 120 [ag (qtx q)] C (if DP q then .tuple #[i_ q.num,i_ (q.den:Nat),.bool true] else .tuple #[i_ 0,i_ 0,.bool false]):=by
 have h:=ET C (decide (q.num<0)) (bi q.num.natAbs) (mY q.den) (iQ _) (oh _) (DX _) a;unfold tt at h;rw[(bB _).2,mX]at h;have e:sgZ (decide (q.num<0)) q.num.natAbs=q.num:=by
  unfold sgZ;by_cases h:q.num<0
  .rw[S4 h,aL rfl];omega
  rw[Te h,aF dc_];omega
 rw[e]at h;exact h
theorem fu (C:Mem)(q:Rat)(g:(qtx q).length<=1000000):Gives cx.P 78 [ag (qtx q)] C (ag (qtx (-q))):=by
 have h:=tw q;refine Wy func78 13 U3 λw0=>U0 1 [0] U<|U0 2 [0,4] U<|G.cd (λh4=>?_) λh4=>?_
 .have h0:q=0:=by rw[eV]at h4;exact aT h4
  refine U0 2 [2] U<|Wx U2<|⟨?_,U⟩;rw[h0,Rat.neg_zero]
 have h0:q≠0:=by rw[eV]at h4;exact SJ h4
 let⟨c,r,f,e⟩:=kf q;refine U1 1 U λR a=>W8 U8 (λ_=>⟨by omega,by rw[f];rfl⟩) U2<|C6 1 [0,8] a U<|G.cd (λb=>?_) λb=>?_
 .have d:q.num<0:=by rw[e]at b;exact aT b
  refine U1 1 U λR a=>Xk 1 (qtx q).length U9 (λ_=>⟨.inr ⟨_,U⟩,.inl ⟨U,U⟩,.inl ⟨U,U⟩,by omega,SH _,SH _⟩) U2<|C6 1 [2] a U<|Wx U2<|⟨?_,U⟩;rw[SU,gH d];rfl
 have d:¬ q.num<0:=by rw[e]at b;exact SJ b
 refine U1 1 U λR a=>Xn U6 (λ_=>(by simp only[S5,Tp];omega)) U2<|C6 1 [2] a U<|Wx U2<|⟨?_,U⟩;rw[fj d h0];rfl
theorem fE (C:Mem)(q:Rat)(j:(qtx q).length<=1000000):Gives cx.P 94 [ag (qtx q)] C (i_ (eA q.num)):=by
 let⟨c,r,f,d⟩:=kf q;have k:=tw q;refine Wy func94 15 U3 λw0=>U0 1 [0] U<|U0 3 [0,3] U<|G.cd (λh3=>?_) λh3=>?_
 .have h0:q=0:=by rw[eV]at h3;exact aT h3
  refine U0 1 [2] U<|Wx U2<|⟨?_,U⟩;rw[h0];rfl
 have h0:q≠0:=by rw[eV]at h3;exact SJ h3
 have g:q.num≠0:=λe=>h0 (Vz.1 e);refine U1 5 U λR i=>W8 U8 (λ_=>⟨by omega,by rw[f];rfl⟩) U2<|Wt U6<|WR U8<|C6 1 [6] i U<|G.cd (λa=>?_) λa=>?_
 .rw[d]at a;have b:q.num<0:=by
   have h:=(S1 _ _ ▸ a:_/\_).2;exact aT h
  skip
  refine U0 1 [2] U<|Wx U2<|⟨?_,U⟩;unfold eA;rw[aL b]
 rw[d,S4 (show(0:Int)<((⟨(qtx q).toArray⟩:ByteArray).data.toList.length:Int) by show(0:Int)<(((qtx q).length:Nat):Int);omega),VO]at a;have b:¬ q.num<0:=SJ a;refine U0 1 [2] U<|Wx U2<|⟨?_,U⟩;unfold eA;rw[aF b,aF g]
theorem jX (C:Mem)(q:Rat)(b:(qtx q).length<=1000000):Gives cx.P 120 [ag (qtx q)] C (.tuple #[i_ (if DP q then q.num else 0),i_ (if DP q then ((q.den:Nat):Int) else 0),.bool (DP q)]):=by
 have h:=G9 C q b;cases a:DP q with
|true=>rw[a]at h;exact h
|false=>rw[a]at h;exact h
def oo (a b:Rat):Int:=if a<b then -1 else if b<a then 1 else 0
theorem wd :oo a b=wI (a.num*b.den) (b.num*a.den):=by
 unfold oo wI;simp only[Rat.lt_iff]
theorem ff (a:Rat):0<a.den:=UH a.den_nz
theorem kh {a:Int}(b:a.natAbs<1000000000)(c:d<1000000000):-1000000000000000000<a*(d:Int)/\a*(d:Int)<1000000000000000000:=Dd b (by rw[Tu];exact c)
theorem mA {a:Nat}(b:a<1000000000)(c:d<1000000000):a*d<1000000000000000000:=Ub b c
theorem lg (C:Mem)(q:Rat)(a:(qtx q).length<1000000):Gives cx.P 122 [ag (qtx q)] C (.tuple #[ag (txt q.num),ag (txt ((q.den:Nat):Int))]):=by
 have h:=OX C q a
 rwa [<- dh]at h
theorem cR (a:z.natAbs<B9 ^ k)(b:w.natAbs<B9 ^ k):(z*w).natAbs<B9 ^ (k+k):=by
 rw[T8];exact pi a b
theorem pu (a:0<d):kV z ((d:Nat):Int)=mkRat z d:=by
 unfold kV;rw[aF om_,Tu]
theorem jK (h:QB k q):((q.den:Nat):Int).natAbs<B9 ^ k:=by rw[Tu];exact h.2
theorem fR (C:Mem)(m:Tabs C)(a b:Rat)(k:Nat)(f:0<k)(u:k<=20000)(d:QB k a)(e:QB k b):Gives cx.P 218 [ag (qtx a),ag (qtx b)] C (i_ (oo a b)):=by
 have v:=aV d f;have w:=aV e f;refine Wy func218 65 U3 λw0=>U0 1 [0,1] U<|U0 3 [0,1,19] U<|G.cd (λg=>?_) λg=>?_
 .have h0:a=b:=by rw[OJ]at g;exact aT g
  refine U0 1 [4] U<|Wx U2<|⟨?_,U⟩;subst h0;rw[oo,aF (Rat.lt_irrefl),aF (Rat.lt_irrefl)]
 refine U1 1 U λR c=>WC (jX _ a om_) U7 fl_<|C6 7 [0,1,5,6,7] c U<|U0 1 [0,1,5,6,26] U<|G.cut (λfr x r s=>(True)/\fr=[(0,[],ag (qtx a)),(1,[],ag (qtx b))]/\r=[]) ?_ (λfr _ y s _ t=>?_)
 .refine G.cd (λn=>?_) λn=>?_
  .have h:DP a=true:=n;rw[aL h,aL h];have o:=lE h;refine U1 1 U λR c=>WC (jX _ b om_) U7 fl_<|C6 7 [0,1,5,6,8,9,10] c U<|U0 1 [0,1,5,6,8,9,33] U<|G.cd (λp=>?_) λp=>?_
   .have i:DP b=true:=p;rw[aL i,aL i];have q:=lE i;have z:=kh o.1 q.2;have A:=kh q.1 o.2;refine U1 2 U λR c=>Wz _ U U6<|Wv 2 U<|Wz _ U U6<|C6 2 [11,12] c U<|U0 4 [11,12,40] U<|G.cd (λj=>?_) λj=>?_
    .have h1:=aT j;refine U0 1 [4] U<|Wx U2<|⟨?_,U⟩;rw[wd,wI,aL h1]
    have h1:=SJ j;refine U0 4 [44] U<|G.cd (λl=>?_) λl=>?_
    .have h2:=aT l;refine U0 1 [4] U<|Wx U2<|⟨?_,U⟩;rw[wd,wI,aF h1,aL h2]
    have h2:=SJ l;refine U0 1 [4] U<|Wx U2<|⟨?_,U⟩;rw[wd,wI,aF h1,aF h2]
   refine WJ 0 l_ (hn_ [0,1] U) ⟨trivial,U,U⟩
  refine WJ 0 l_ (hn_ [0,1] U) ⟨trivial,U,U⟩
 obtain⟨_,rfl,rfl⟩:=t;exact U1 1 U λR c=>WC (lg _ a om_) U7 fl_<|C6 5 [1,13,14] c U<|U1 1 U λR c=>WC (lg _ b om_) U7 fl_<|C6 5 [13,14,15,16] c U<|U1 2 U λR c=>WC (lA _ m.m_ _ _ k f om_ d.1 (jK e)) U7 fl_<|Wv 2 U<|WC (lA _ m.m_ _ _ k f om_ e.1 (jK d)) U7 fl_<|WC (rC _ _ _ (by have:=co (cR d.1 (jK e)) om_;omega) (by have:=co (cR e.1 (jK d)) om_;omega)) U7 fl_<|C6 1 [4] c U<|Wx U2<|⟨by rw[wd],U⟩
theorem fS (C:Mem)(f:Tabs C)(a b:Rat)(k:Nat)(g:0<k)(w:k<=10000)(d:QB k a)(e:QB k b):Gives cx.P 101 [ag (qtx a),ag (qtx b)] C (ag (qtx (a+b))):=by
 have x:=aV d g;have y:=aV e g;have r:=ff a;have s:=ff b;have o:0<a.den*b.den:=Va r s;refine Wy func101 67 U3 λw0=>U0 1 [0,1] U<|U0 2 [0,1,16] U<|G.cd (λh=>?_) λh=>?_
 .have h0:a=0:=by rw[eV]at h;exact aT h
  refine U0 2 [4] U<|Wx U2<|⟨?_,U⟩;rw[h0,Rat.zero_add]
 refine U0 2 [0,1,19] U<|G.cd (λi=>?_) λi=>?_
 .have h0:b=0:=by rw[eV]at i;exact aT i
  refine U0 2 [4] U<|Wx U2<|⟨?_,U⟩;rw[h0,Rat.add_zero]
 refine U1 1 U λR c=>WC (jX _ a om_) U7 fl_<|C6 7 [0,1,5,6,7] c U<|U0 1 [0,1,5,6,27] U<|G.cut (λfr z t u=>(True)/\fr=[(0,[],ag (qtx a)),(1,[],ag (qtx b))]/\t=[]) ?_ (λfr _ A u _ v=>?_)
 .refine G.cd (λp=>?_) λp=>?_
  .have j:DP a=true:=p;rw[aL j,aL j];have l:=lE j;refine U1 1 U λR c=>WC (jX _ b om_) U7 fl_<|C6 7 [0,1,5,6,8,9,10] c U<|U0 1 [0,1,5,6,8,9,34] U<|G.cd (λq=>?_) λq=>?_
   .have m:DP b=true:=q;rw[aL m,aL m];have n:=lE m;have B:=kh l.1 n.2;have D:=kh n.1 l.2;have E:=mA l.2 n.2;exact U1 2 U λR c=>Wz _ U U6<|Wv 2 U<|Wz _ U U6<|Wz _ U U6<|Wv 2 U<|Wz (((a.den*b.den:Nat):Int)) (Tc _ _).symm U6<|WC (xA _ f.m_ _ _ o om_ om_) U7 fl_<|C6 1 [4] c U<|Wx U2<|⟨by rw[fc],U⟩
   refine WJ 0 l_ (hn_ [0,1] U) ⟨trivial,U,U⟩
  refine WJ 0 l_ (hn_ [0,1] U) ⟨trivial,U,U⟩
 obtain⟨_,rfl,rfl⟩:=v;exact U1 1 U λR c=>WC (lg _ a om_) U7 fl_<|C6 5 [1,11,12] c U<|U1 1 U λR c=>WC (lg _ b om_) U7 fl_<|C6 5 [11,12,13,14] c U<|U1 2 U λR c=>WC (lA _ f.m_ _ _ k g om_ d.1 (jK e)) U7 fl_<|Wv 2 U<|WC (lA _ f.m_ _ _ k g om_ e.1 (jK d)) U7 fl_<|WC (Pm _ f.m_ _ _ (k+k) om_ om_ (cR d.1 (jK e)) (cR e.1 (jK d))) U7 fl_<|Wv 2 U<|WC (lA _ f.m_ _ _ k g om_ (jK d) (jK e)) U7 fl_<|WC (rx _ f.m_ _ _ (k+k+1) om_ om_ (TD (Vh _ _) (uG (cR d.1 (jK e)) (cR e.1 (jK d)))) (dM (cR (jK d) (jK e)) om_) (by rw[<- Tc];omega)) U7 fl_<|C6 1 [4] c U<|Wx U2<|⟨by rw[fc,<- Tc,pu o],U⟩
theorem RN (c:QB k a)(d:QB k b):QB (k+k+1) (a+b):=by
 rw[fc];exact gA (Nat.ne_of_gt (Va (ff a) (ff b))) (TD (Vh _ _) (uG (cR c.1 (jK d)) (cR d.1 (jK c)))) (dM (pi c.2 d.2) om_)
theorem si (c:QB k a)(d:QB k b):QB (k+k) (a*b):=by
 rw[fb];exact gA (Nat.ne_of_gt (Va (ff a) (ff b))) (cR c.1 d.1) (pi c.2 d.2)
theorem eQ (b:QB k a):QB k (-a):=⟨by rw[V2,VL];exact b.1,by rw[Rat.neg_den];exact b.2⟩
theorem kW (c:QB k a)(d:QB k b):QB (k+k+1) (a-b):=by
 rw[VW];exact RN c (eQ d)
theorem Ej (b:QB k a)(d:a≠0):QB k a⁻¹:=by
 have c:a.num≠0:=λe=>d (Vz.1 e);refine⟨?_, ?_⟩
 .rw[Rat.num_inv,T8,Int.natAbs_sign_of_ne_zero c,UU,Tu];exact b.2
 rw[Rat.den_inv,aF c];exact b.1
theorem jP (c:QB k a)(d:QB k b)(e:b≠0):QB (k+k) (a / b):=by
 rw[Rat.div_def];exact si c (Ej d e)
theorem RM (h:z.natAbs<B9 ^ k)(a:0<k):QB k (z:Rat):=⟨h,by
 show 1<B9 ^ k;exact TL (by decide:1<B9 ^ 1) (Tb dc_ a)⟩
theorem cX (C:Mem)(g:Tabs C)(a b:Rat)(k:Nat)(i:0<k)(z:k<=10000)(d:QB k a)(e:QB k b):Gives cx.P 60 [ag (qtx a),ag (qtx b)] C (ag (qtx (a*b))):=by
 have A:=aV d i;have B:=aV e i;have w:=ff a;have x:=ff b;have q:0<a.den*b.den:=Va w x;refine Wy func60 66 U3 λw0=>U0 1 [0,1] U<|U0 3 [0,1,15] U<|G.cut (λfr y L' j=>(True)/\fr=[(0,[],ag (qtx a)),(1,[],ag (qtx b)),(15,[],.bool (decide (a=0∨b=0)))]/\L'=[]) ?_ (λfr _ D j _ l=>?_)
 .refine G.cd (λf=>?_) λf=>?_
  .have h0:a=0:=by rw[eV]at f;exact aT f
   rw[eV,show decide (a=0)=decide (a=0∨b=0) by simp[h0]];refine WJ 0 l_ (hn_ [0,1,15] U) ⟨trivial,U,U⟩
  have h0:¬ a=0:=by rw[eV]at f;exact SJ f
  refine U0 3 [0,1,15] U ?_;rw[eV,show decide (b=0)=decide (a=0∨b=0) by simp[h0]];refine WJ 0 l_ (hn_ [0,1,15] U) ⟨trivial,U,U⟩
 obtain⟨_,rfl,rfl⟩:=l;refine G.cd (λr=>?_) λr=>?_
 .have h0:=aT r;refine U0 1 [4] U<|Wx U2<|⟨?_,U⟩;rw[show a*b=0 by rcases h0 with h|h <;> simp[h],qtx_zero];rfl
 refine U0 3 [0,1,20] U<|G.cd (λm=>?_) λm=>?_
 .have h1:a=1:=by rw[M5]at m;exact aT m
  refine U0 2 [4] U<|Wx U2<|⟨?_,U⟩;rw[h1,Rat.one_mul]
 refine U0 3 [0,1,24] U<|G.cd (λn=>?_) λn=>?_
 .have h1:b=1:=by rw[M5]at n;exact aT n
  refine U0 2 [4] U<|Wx U2<|⟨?_,U⟩;rw[h1,Rat.mul_one]
 refine U1 1 U λR c=>WC (jX _ a om_) U7 fl_<|C6 7 [0,1,5,6,7] c U<|U0 1 [0,1,5,6,34] U<|G.cut (λfr y L' j=>(True)/\fr=[(0,[],ag (qtx a)),(1,[],ag (qtx b))]/\L'=[]) ?_ (λfr _ E j _ l=>?_)
 .refine G.cd (λs=>?_) λs=>?_
  .have o:DP a=true:=s;rw[aL o,aL o];have t:=lE o;refine U1 1 U λR c=>WC (jX _ b om_) U7 fl_<|C6 7 [0,1,5,6,8,9,10] c U<|U0 1 [0,1,5,6,8,9,41] U<|G.cd (λu=>?_) λu=>?_
   .have p:DP b=true:=u;rw[aL p,aL p];have v:=lE p;have F:=Dd t.1 v.1;have H:=mA t.2 v.2;exact U1 2 U λR c=>Wz _ U U6<|Wv 2 U<|Wz (((a.den*b.den:Nat):Int)) (Tc _ _).symm U6<|WC (xA _ g.m_ _ _ q om_ om_) U7 fl_<|C6 1 [4] c U<|Wx U2<|⟨by rw[fb],U⟩
   refine WJ 0 l_ (hn_ [0,1] U) ⟨trivial,U,U⟩
  refine WJ 0 l_ (hn_ [0,1] U) ⟨trivial,U,U⟩
 obtain⟨_,rfl,rfl⟩:=l;exact U1 1 U λR c=>WC (lg _ a om_) U7 fl_<|C6 5 [1,11,12] c U<|U1 1 U λR c=>WC (lg _ b om_) U7 fl_<|C6 5 [11,12,13,14] c U<|U1 2 U λR c=>WC (lA _ g.m_ _ _ k i om_ d.1 e.1) U7 fl_<|Wv 2 U<|WC (lA _ g.m_ _ _ k i om_ (jK d) (jK e)) U7 fl_<|WC (rx _ g.m_ _ _ (k+k) om_ om_ (cR d.1 e.1) (cR (jK d) (jK e)) (by rw[<- Tc];omega)) U7 fl_<|C6 1 [4] c U<|Wx U2<|⟨by rw[fb,<- Tc,pu q],U⟩
theorem ec (C:Mem)(e:Tabs C)(a b:Rat)(k:Nat)(c:0<k)(f:k<=10000)(g:QB k a)(d:QB k b):Gives cx.P 127 [ag (qtx a),ag (qtx b)] C (ag (qtx (a-b))):=by
 have i:=aV d c;exact Wy func127 9 U3 λw0=>U0 1 [0,1] U<|U1 2 U λR h=>WC (fu _ b om_) U7 fl_<|WD (fS _ e.m_ a (-b) k c f g (eQ d)) U7<|C6 1 [4] h U<|Wx U2<|⟨by rw[VW],U⟩
theorem iv (C:Mem)(n:Tabs C)(a b:Rat)(k:Nat)(g:0<k)(o:k<=10000)(p:QB k a)(f:QB k b)(h:b≠0):Gives cx.P 70 [ag (qtx a),ag (qtx b)] C (.tuple #[ag (qtx (a / b)),i_ 0]):=by
 have v:=aV f g;have q:b.num≠0:=λe=>h (Vz.1 e);let⟨c,r,s,l⟩:=kf b;refine Wy func70 27 U3 λw0=>U0 2 [0,1] U<|U0 2 [0,1,9] U<|G.cd (λj=>?_) λj=>?_
 .exfalso;rw[eV]at j;exact h (aT j)
 refine U1 1 U λR d=>WC (lg _ b om_) U7 fl_<|C6 5 [0,1,6,7] d U<|U1 1 U λR d=>W8 U8 (λ_=>⟨by omega,by rw[s];rfl⟩) U2<|C6 1 [0,6,7,17] d U<|G.cut (λfr w L' t=>(True)/\fr=[(0,[],ag (qtx a)),(6,[],ag (txt (b.num.natAbs:Nat))),(7,[],ag (txt (b⁻¹).num))]/\L'=[]) ?_ (λfr _ x t _ u=>?_)
 .refine G.cd (λi=>?_) λi=>?_
  .have m:b.num<0:=by rw[l]at i;exact aT i
   refine U1 1 U λR d=>WC (vz _ b.num (by have:=co f.1 g;omega)) U7 fl_<|Wt U6<|WC (vz _ ((b.den:Nat):Int) (by have:=co (jK f) g;omega)) U7 fl_<|C6 2 [0,6,7] d U ?_;rw[show -b.num=((b.num.natAbs:Nat):Int) by omega,show -((b.den:Nat):Int)=(b⁻¹).num by rw[Rat.num_inv,Int.sign_eq_neg_one_of_neg m,Int.neg_one_mul]];refine WJ 0 l_ (hn_ [0,6,7] U) ⟨trivial,U,U⟩
  have m:¬ b.num<0:=by rw[l]at i;exact SJ i
  rw[show b.num=((b.num.natAbs:Nat):Int) by omega,show((b.den:Nat):Int)=(b⁻¹).num by rw[Rat.num_inv,Int.sign_eq_one_of_pos om_,Int.one_mul]];refine WJ 0 l_ (hn_ [0,6,7] U) ⟨trivial,U,U⟩
 obtain⟨_,rfl,rfl⟩:=u;rw[dh,show b.num.natAbs=(b⁻¹).den by rw[Rat.den_inv,aF q]];refine U1 3 U λR d=>WC (Is _ _ _ k g om_ (Ej f h).1 (Ej f h).2) U7 fl_ ?_;rw[<- qM b⁻¹];refine WD (cX _ n.m_ a b⁻¹ k g o p (Ej f h)) U7<|C6 2 [4,5] d U<|WE (zD U3 ?_);exact⟨by rw[Rat.div_def],U⟩
theorem On (C:Mem)(c:Tabs C)(z w:Int)(k:Nat)(d:0<k)(e:k<=40000)(f:z.natAbs<B9 ^ k)(g:w.natAbs<B9 ^ k)(i:w≠0):Gives cx.P 184 [ag (txt z),ag (txt w)] C (.tuple #[ag (qtx (kV z w)),i_ 0]):=by
 refine Wy func184 12 U3 λw0=>U0 2 [0,1] U<|U1 1 U λR a=>WD (mK _ w) U7<|C6 1 [0,1,8] a U<|G.cd (λb=>?_) λb=>?_
 .exfalso;have h:eA w=0:=by simpa using b
  rcases eE w with h2|h2|h2 <;> omega
 refine U1 2 U λR a=>WD (rx _ c.m_ z w k d e f g i) U7<|C6 2 [4,5] a U<|WE (zD U3 ?_);exact⟨U,U⟩
theorem He (C:Mem)(a:Tabs C)(z w:Int)(d:z.natAbs<9000000000000000000)(e:w.natAbs<9000000000000000000)(b:w≠0):Gives cx.P 118 [i_ z,i_ w] C (.tuple #[ag (qtx (kV z w)),i_ 0]):=by
 have f:9000000000000000000<B9 ^ 3:=by decide
 refine Wy func118 13 U3 λw0=>U0 2 [0,1] U<|U1 1 U λR c=>WC (tJ _ a.m_ z om_ om_) U7 fl_<|Wt U6<|WC (tJ _ a.m_ w om_ om_) U7 fl_<|WC (On _ a.m_ z w 3 dc_ dc_ om_ om_ b) U7 fl_<|C6 4 [4,5] c U<|WE (zD U3 ?_);exact⟨U,U⟩
theorem uC (C:Mem)(a:Tabs C)(z:Int)(c:z.natAbs<9000000000000000000):Gives cx.P 119 [i_ z] C (ag (qtx z)):=by
 exact Wy func119 5 U3 λw0=>U0 1 [0] U<|U1 1 U λR b=>WC (tJ _ a.m_ z om_ om_) U7 fl_<|C6 1 [2] b U<|Wx U2<|⟨by rw[nP],U⟩
theorem pow9 (k:Nat):B9 ^ k=10 ^ (9*k):=by rw[Nat.pow_mul]
theorem fI (h:bU s=true):s=txt (gn s)/\(gn s).natAbs<B9 ^ 23:=by
 have h1:=nO.1 h;refine⟨zl (by unfold bU at h;exact(VN.1 h).1), ?_⟩;rw[DZ];have h2:=vf.1 h1.1;have h3:=dG h2.1.1;exact TL h3 (by rw[pow9];exact Tb dc_ om_)
theorem M4 (h:aS s=true):∃q:Rat,s=qtx q/\QB 23 q:=by
 unfold aS at h;rw[S1,S1]at h;let⟨⟨h1,h2⟩,h3⟩:=h;let⟨a,b⟩:=fI h1;rcases ik 47 s with⟨d,_,_⟩|⟨c,post,d,hs,_⟩
 .rw[d]at a b;exact⟨((gn s:Int):Rat),by rw[nP];exact a,RM b dc_⟩
 rw[d]at h2 h3 a b;simp only[T6]at h2 a b;let⟨e,f⟩:=fI h2;unfold mg at h3;simp only[S1,SS,Uo]at h3;let⟨⟨h4,_⟩,g⟩:=h3;have i:(gn post).natAbs≠0:=by omega
 refine⟨⟨gn c,(gn post).natAbs,i,g⟩, ?_,b,f⟩;rw[qM];show s=txt (gn c)++dy (mY (gn post).natAbs);rw[fp om_,<- a,hs];show c++47::post=c++47::bi (gn post).natAbs;rw[<- dh,show(((gn post).natAbs:Nat):Int)=gn post by omega,<- e]
theorem sI (C:Mem)(b:Str)(a:bU b=true):Gives cx.P 161 [ag b,ag [49]] C (i_ (wI (gn b) 1)):=by
 let⟨h1,h2⟩:=fI a;have h:=rC C (gn b) 1 (by have:=co h2 dc_;omega) (by rw[show bi (1:Int).natAbs=[49] from one_dec];decide)
 rwa [<- one_val,<- h1]at h
theorem Fl (C:Mem)(c:Tabs C)(a b:Str)(d:bU a=true)(e:bU b=true):Gives cx.P 162 [ag a,ag b] C (ag (txt (Nat.gcd (gn a).natAbs (gn b).natAbs:Nat))):=by
 let⟨h1,h2⟩:=fI d;let⟨h3,h4⟩:=fI e;have h:=Iz C c (gn a) (gn b) 23 dc_ dc_ h2 h4
 rwa [<- h1,<- h3]at h
theorem zg {b:Bool}(h:(ot b != 0)=false):b=true:=by cases b <;> first|rfl|(exact absurd h dc_)
theorem dD (C:Mem)(y:Tabs C)(s:Str)(A:s.length<=999998):Gives cx.P 103 [ag s] C (i_ (ot (aS s))):=by
 have u:=xV A;let⟨c,f,l⟩:∃a b,ji 47 s=(a,b):=⟨_,_,rfl⟩;have k:aS s=(bU c && bU (f.getD [49]) && mg (gn c) f):=by
  unfold aS;rw[l]
 rw[l]at u;simp only at u;refine Wy func103 39 U3 λw0=>U0 1 [0] U<|U1 1 U λR g=>WC (by have h:=NA C s 47 om_;rw[l]at h;exact h) U7 fl_<|C6 7 [3,4,5] g U<|U1 1 U λR g=>WD (yE _ c) U7<|C6 1 [3,4,5,16] g U<|G.cd (λi=>?_) λi=>?_
 .have j:aS s=false:=by
   rw[k];cases h1:bU c with
  |false=>rfl
  |true=>rw[h1]at i;exact absurd i dc_
  exact U0 1 [2] U<|Wx U2<|⟨by rw[j];rfl,U⟩
 have m:bU c=true:=by
  cases h1:bU c with
 |true=>rfl
 |false=>rw[h1]at i;exact absurd i dc_
 rw[m,VO]at k;let⟨v,B⟩:=fI m;refine U0 2 [3,4,18] U<|G.cd (λn=>?_) λn=>?_
 .have o:f=none:=by
   cases f with
  |none=>rfl
  |some b=>simp at n
  refine U0 1 [2] U<|Wx U2<|⟨?_,U⟩;rw[k,o];rfl
 let⟨b,o⟩:∃b,f=some b:=by
  cases f with
 |some b=>exact⟨b,rfl⟩
 |none=>simp at n
 subst o;let⟨d,w⟩:∃z,gn c=z:=⟨_,rfl⟩;let⟨e,x⟩:∃z,gn b=z:=⟨_,rfl⟩;have p:aS s=(bU b && mg (gn c) (some b)):=k;unfold mg at p;simp only[w,x]at p v B;have D:(c == [48])=(d == 0):=by
  rw[v];have h:=kO d;rw[show(d == 0)=decide (d=0) by by_cases h:d=0 <;> simp[h]];exact h
 have E:(ot (bU b) != 0)=!bU b:=by cases bU b <;> rfl
 have F:decide (wI e 1<=0)=!decide (1<e):=by
  unfold wI;by_cases h:1<e
  .rw[aF om_,aL h,S4 h];rfl
  rw[Te h];refine S4 ?_;split <;> first|omega|(split <;> omega)
 have q:(ot (bU b) != 0 || decide (wI (gn b) 1<=0) || (c == [48]) || !(bi ((gn c).natAbs.gcd (gn b).natAbs) == [49]))=!aS s:=by
  have H:=rR (d.natAbs.gcd e.natAbs);have I:(bi (d.natAbs.gcd e.natAbs) == [49])=(d.natAbs.gcd e.natAbs == 1):=H;rw[w,x,D,E,F,I,p];cases bU b <;> cases decide (1<e) <;> cases (d == 0) <;> cases (d.natAbs.gcd e.natAbs == 1) <;> rfl
 rw[<- dh]at q;refine U0 4 [6,7] U<|U1 1 U λR g=>WD (yE _ b) U7<|Wv 3 U<|WN (λr=>(sI _ b (by exact zg (show(ot (bU b) != 0)=false/\True from r).1))) U9<|Wt U6<|WX U8<|Wv 3 U<|WX U8<|Wv 3 U<|WN (λr=>(Fl _ y.m_ c b m (by exact zg (Up.1 (Up.1 (show(((ot (bU b) != 0) || decide (wI (gn b) 1<=0)) || (c == [48]))=false/\True from r).1).1).1))) U9<|Wt U6<|WX U8<|Ww [38] g U<|G.cd (λt=>?_) λt=>?_
 .have j:aS s=false:=by
   have h:(!aS s)=true:=q.symm.trans t;simpa using h
  exact U0 1 [2] U<|Wx U2<|⟨by rw[j];rfl,U⟩
 have j:aS s=true:=by
  have h:(!aS s)=false:=q.symm.trans t;simpa using h
 exact U0 1 [2] U<|Wx U2<|⟨by rw[j];rfl,U⟩
theorem wR:∀{l:List Nat}{j y:Nat},j<l.length->bx (l.set j y)+BP ^ j*gP l j=bx l+BP ^ j*y
|[],_,_,h=>absurd h (Nat.not_lt_zero _)
|x::l,0,y,_=>by
  rw[List.set_cons_zero,Nat.pow_zero,UU,UU];show y+BP*bx l+x=x+BP*bx l+y;omega
|x::l,j+1,y,h=>by
  have a:=wR (l:=l) (j:=j) (y:=y) (by simpa using h);rw[List.set_cons_succ,T3];show x+BP*bx (l.set j y)+BP ^ j*BP*gP l j=x+BP*bx l+BP ^ j*BP*y;rw[Tt (BP ^ j) BP,Ur,Ur,UQ,UQ,<- TT,<- TT,a]
theorem yG {j z:Nat}(h:i≠j):gP (l.set i z) j=gP l j:=by
 unfold gP;rw[al,al,VC h]
theorem IM {z:Nat}(h:i<l.length):gP (l.set i z) i=z:=by
 unfold gP;rw[al,Vq h];rfl
theorem LL (n j:Nat):gP (List.replicate n 0) j=0:=by
 unfold gP;rw[al,T4];split <;> rfl
theorem Rr (h:DigP l)(i:Nat):gP l i<=9999:=by
 rcases Th i l.length with h1|h1
 .have h2:=h _ (aK (jf h1).2);have h3:BP=10000:=rfl;omega
 unfold gP;rw[al,SR h1];exact SM _
theorem Cb (l:List Nat)(k:Nat):bx (l.take (k+1))=bx (l.take k)+BP ^ k*gP l k:=by
 rcases Th k l.length with h|h
 .exact gT (jf h).2
 have e:gP l k=0:=by unfold gP;rw[al,SR h];rfl
 rw[e,Td h,Td om_,Wr,Um]
theorem xe (C:Mem)(H I:Value)(a b:List Nat)(n:Sl C 1 H (a.map aX))(p:Sl C 1 I (b.map aX))(W:DigP a)(X:DigP b)(ac:a.length<=5000)(ad:b.length<=5000) :
  Pur cx.P 178 [H,I] C λu s=>PieC s u (bx a*bx b):=by
 obtain⟨J,c0,rfl,_⟩:=id n;obtain⟨K,L,rfl,_⟩:=id p;simp only[ar]at n p⊢;let⟨N,hN⟩:∃N,a.length+b.length=N:=⟨_,rfl⟩;refine Wy func178 45 U3 λw0=>U0 1 [0,1] U<|U1 4 U λR c=>WW (((N:Nat):Int)) U4 om_ om_ om_ U2<|Xq U9 (SH _) (by show 8*N<=281474976710656;omega) y_ fl_ λd=>C6 1 [0,1,5] c U<|U0 1 [0,1,5,6] U<|WK (L':=[.arr (s_ d N N) 3 1 N ((List.replicate N 0).map aX).flatten]) (by rw[<- MJ];rfl)<|G.loop (λfr s f t=>∃(i:Nat)(o:List Nat),(i<=a.length/\o.length=N/\(∀j,gP o j<=i*100000000)/\bx o=bx (a.take i)*bx b)/\fr=[(0,[],.slice J a.length c0),(1,[],.slice K b.length L),(5,[],s_ d N N),(6,[],i_ i)]/\f=[.arr (s_ d N N) 3 1 N (o.map aX).flatten]/\t=a.length-i) (hn_ [0,1,5,6] U) ⟨0,List.replicate N 0,⟨SM _,Tf,λj=>by rw[LL];omega,by rw[sU (λx g=>Uj g)];simp[bx]⟩,U,U,U⟩ (λfr ae af m _ v=>?_);obtain⟨i,o,⟨hi,M,w,O⟩,rfl,rfl,rfl⟩:=v;refine U0 4 [0,1,5,6,17] U<|G.cd (λz=>?_) λz=>?_
 .have A:i<a.length:=by simpa using z
  have g:=Rr W i;refine U0 1 [0,1,5,6,7] U<|G.loop (λfr s f t=>∃(k:Nat)(q:List Nat),(k<=b.length/\q.length=N/\(∀j,gP q j<=(i+1)*100000000)/\(∀j,i+k<=j->gP q j<=i*100000000)/\bx q=bx o+BP ^ i*(gP a i*bx (b.take k)))/\fr=[(0,[],.slice J a.length c0),(1,[],.slice K b.length L),(5,[],s_ d N N),(6,[],i_ i),(7,[],i_ k)]/\f=[.arr (s_ d N N) 3 1 N (q.map aX).flatten]/\t=b.length-k) (hn_ [0,1,5,6,7] U) ⟨0,o,⟨SM _,M,λj=>SV (w j) (To _ om_),λj _=>w j,by simp[bx]⟩,U,U,U⟩ (λfr ag ai m _ v=>?_);obtain⟨k,q,⟨hk,B,Q,S,D⟩,rfl,rfl,rfl⟩:=v;refine U0 4 [0,1,5,6,7,23] U<|G.cd (λE=>?_) λE=>?_
  .have F:k<b.length:=by simpa using E
   have hy:=Rr X k;have Y:=(jf (l:=q) (k:=i+k) om_).2;have hold:=S (i+k) (SH _);have aj:gP a i*gP b k<=100000000:=SV (T2 g hy) dc_;refine WM [0,1,2,3,4,5,6,7,8,9,10,11,12,13,14,15,16,17] [] U kr_ λR hB c=>Wv 3 U<|WW (((i+k:Nat):Int)) U4 om_ om_ om_ U2<|WV ((i+k)*1) U10 w_ U2<|Xa ah U6 (λ_=>(by rw[da eC Y];rfl)) U2<|Wv 2 U<|WG n.m_ U10 om_ (jf A).1 fl_ λak Z=>Ws Z U8<|Wv 2 U<|WG p.m_ U10 om_ (jf F).1 fl_ λam aa=>Ws aa U8<|Wz (((gP a i*gP b k:Nat):Int)) (Tc _ _).symm U6<|WW (((gP q (i+k)+gP a i*gP b k:Nat):Int)) U4 om_ om_ om_ U2<|WV ((i+k)*1) U10 w_ U2<|WZ (j:=0) U11 (by show(i+k)*1+1<=_;rw[bK eC,B];omega)<|Ww [0,1,5,6,7] c U<|U1 1 U λR c=>Wz _ U U6<|C6 1 [0,1,5,6,7] c U<|WK (L':=[.arr (s_ d N N) 3 1 N ((q.set (i+k) (gP q (i+k)+gP a i*gP b k)).map aX).flatten]) (by rw[<- bE eC _ (by omega:i+k<q.length)];rfl)<|WF (m':=b.length-(k+1)) om_ mup (hn_ [0,1,5,6,7] U) ⟨k+1,q.set (i+k) (gP q (i+k)+gP a i*gP b k),⟨by omega,by simp[B],λj=>by
    by_cases h:i+k=j
    .subst h;rw[IM om_,Ug];omega
    .rw[yG h];exact Q j,λj T=>by rw[yG om_];exact S j om_,by
    have h:=wR (l:=q) (j:=i+k) (y:=gP q (i+k)+gP a i*gP b k) om_;rw[TT (BP ^ (i+k))]at h;rw[Cb,TT (gP a i),TT (BP ^ i),<- UQ,<- D];have e:BP ^ i*(gP a i*(BP ^ k*gP b k))=BP ^ (i+k)*(gP a i*gP b k):=by
     rw[UV,<- Ur (gP a i),Tt (gP a i) (BP ^ k),Ur,<- Ur (BP ^ i)]
    rw[e];omega⟩,rfl,rfl,rfl⟩
  have F:k=b.length:=by
   have:¬ k<b.length:=by simpa using E
   omega
  refine U1 1 U λR c=>Wz _ U U6<|C6 1 [0,1,5,6] c U<|WF (m':=a.length-(i+1)) om_ mup (hn_ [0,1,5,6] U) ⟨i+1,q,⟨by omega,B,Q,by
   rw[F,SU]at D;rw[Cb,Ug,<- O,Ur];exact D⟩,U,U,U⟩
 have A:i=a.length:=by
  have:¬ i<a.length:=by simpa using z
  omega
 refine G.freezeArr 0 ((o.map λ(x:Nat)=>(x:Int)).map oc) rfl (by rw[TH];rfl) (by intro r hr;obtain⟨x,_,rfl⟩:=SL.1 hr;rfl) (by simp[M]) λ_ _ ab=>U1 1 U λR c=>WT (Ec _ _ (o.map λ(x:Nat)=>(x:Int)) ab.m_ (by rw[oY];omega) (by
  intro x g;obtain⟨y,hy,rfl⟩:=SL.1 g;let⟨j,T⟩:=Uh hy;have h1:=w j;have h2:gP o j=y:=by unfold gP;rw[al,T];rfl
  rw[h2]at h1;have h3:i*100000000<=5000*100000000:=To _ om_;omega) (by rw[ar];omega)) U7 fl_ (λan _ _ V=>?_)
 refine C6 1 [4] c U<|Wx U2<|⟨U, ?_⟩;rw[oY,UD,O,A,SU]at V;exact V
theorem JL (h:(bi z.natAbs).length<=m):z.natAbs<10 ^ m:=by
 let⟨h2,h3⟩:=bB z.natAbs;have h4:=dG h2.1;rw[h3]at h4;exact TL h4 (Tb dc_ h)
theorem By (h:BS l)(a:bx l<BP ^ m*BP ^ n):l.length<=m+n:=kC h (by rw[UV];exact a)
theorem gc (C:Mem)(d:Tabs C)(z w:Int)(b:z.natAbs<BP ^ 200)(c:w.natAbs<BP ^ 200):Gives cx.P 111 [ag (txt z),ag (txt w)] C (ag (txt (z*w))):=by
 have y:=Tw.2 (oh z.natAbs);have A:=Tw.2 (oh w.natAbs);refine Wy func111 52 U3 λw0=>U0 1 [0,1] U<|U1 1 U λR a=>WD (dK _ z) U7<|C6 5 [0,1,5,6] a U<|U1 1 U λR a=>WD (dK _ w) U7<|C6 5 [0,1,5,6,7,8] a U ?_;have B:=eG b;have D:=eG c;refine U1 4 U λR a=>Wz ((((bi z.natAbs).length+(bi w.natAbs).length:Nat):Int)) (Vw _ _).symm U6<|C6 1 [0,1,5,6,7,8,28] a U<|G.cd (λe=>?_) λe=>?_
 .have l:(bi z.natAbs).length+(bi w.natAbs).length<=18:=by
   have h:=aT e;omega
  have hp:(z*w).natAbs<10 ^ 18:=by
   have h1:=JL (z:=z) (SH _);have h2:=JL (z:=w) (SH _);rw[T8];refine TL (Ub h1 h2) ?_;rw[<- UV];exact Tb dc_ l
  rw[e18]at hp;exact U1 1 U λR a=>WC (uJ _ z om_) U7 fl_<|C6 5 [1,9] a U<|U1 1 U λR a=>WC (uJ _ w om_) U7 fl_<|C6 5 [9,11] a U<|U1 2 U λR a=>Wz _ U U6<|WC (hU _ d.m_ (z*w) om_ om_) U7 fl_<|C6 1 [4] a U<|Wx U2<|⟨U,U⟩
 refine U1 4 U λR a=>WY (gt _ z.natAbs b) U7 λE _ _ o=>Wt U6<|WY (gt _ w.natAbs c) U7 (λF _ _ p=>?_);let⟨q,r,f,H,s⟩:=o;let⟨t,u,g,I,v⟩:=p;refine WT (xe _ _ _ q t s.m_ v.m_ r.1 u.1 om_ om_) U7 fl_ (λJ _ _ x=>?_);let⟨lp,i,j,k⟩:=x;have K:lp.length<=400:=By (m:=200) (n:=200) i (by rw[j,f,g];exact Ub b c);obtain⟨L,M,rfl,_⟩:=id k;refine WC (nW _ d.m_ _ _ lp k.m_ i.1 om_) U7 fl_<|C6 1 [4] a U<|Wx U2<|⟨?_,U⟩;rw[j,f,g];show ag (txt (sgZ (decide (z<0) != decide (w<0)) (z.natAbs*w.natAbs)))=_;rw[G4]
theorem QM (z:Int)(b:g ∣ z.natAbs):sgZ (decide (z<0) != false) (z.natAbs / g)=z / (g:Int):=by
 let⟨m,hm⟩:=b;rcases TY g with h|c
 .subst h;have a:z=0:=by omega
  subst a;rfl
 rw[hm,Nat.mul_div_cancel_left _ c,Bool.bne_false];unfold sgZ;by_cases a:z<0
 .rw[S4 a,aL rfl,show z=(g:Int)*(-(m:Int)) by rw[Int.mul_neg,<- Tc];omega,Int.mul_ediv_cancel_left _ om_]
 rw[Te a,aF dc_,show z=(g:Int)*(m:Int) by rw[<- Tc];omega,Int.mul_ediv_cancel_left _ om_]
theorem yR (C:Mem)(c:Tabs C)(z:Int)(b:Nat)(m:z.natAbs<BP ^ 200)(n:b<BP ^ 200)(F:0<b)(d:b ∣ z.natAbs):Gives cx.P 168 [ag (txt z),ag (bi b)] C (.tuple #[ag (txt (z / (b:Int))),ag (bi 0)]):=by
 have H:=Qc;have o:z.natAbs % b=0:=Nat.mod_eq_zero_of_dvd d;have f:(b:Int) ∣ z:=Vo.1 (Uv.2 d);have I:(z / (b:Int)).natAbs<=z.natAbs:=by
  rw[UL f,Tu];exact TS _ _
 refine Wy func168 93 U3 λw0=>U0 2 [0,1] U<|U1 1 U λR a=>WD (pH C z) U7<|C6 5 [0,1,6,7] a U<|U1 1 U λR a=>WD (rY _ b) U7<|C6 5 [0,1,6,7,8,9] a U<|U1 3 U λR a=>WR U8<|Ww [0,1,6,8,31] a U<|G.cd (λg=>?_) λg=>?_
 .have hs:(bi z.natAbs).length<=17/\(bi b).length<=17:=by simpa using g
  have h1:=pG hs.1;have h2:=rZ hs.2;rw[aL hs.1,aL hs.2];refine WM [0,1,2,3,4,5,6,7] [] U kr_ λR J a=>Wv 2 U<|Xy (z / (b:Int)) U6 om_ (mh d) (wrap_i64 om_ om_) U2<|Wv 2 U<|Xr 0 U6 om_ ⟨(Int.tmod_eq_zero_of_dvd f),U,U⟩<|C6 2 [6,8,10,11] a U<|U0 2 [6,8,10,11,39] U<|G.cd (λh=>?_) λh=>?_
  .exfalso;simp at h
  refine U1 1 U λR a=>WC (hU _ c (z / (b:Int)) om_ om_) U7 fl_<|Wt U6<|WC (HQ _ c 0 om_) U7 fl_<|C6 2 [4,5] a U<|WE (zD U3 ?_);exact⟨U,U⟩
 refine U1 1 U λR a=>WD (dK _ z) U7<|C6 5 [1,12,13] a U<|U1 1 U λR a=>WD (qq _ b) U7<|C6 5 [12,13,14,15] a U<|U1 1 U λR a=>WY (gt _ z.natAbs m) U7 (λK _ _ p=>?_);let⟨lp,q,r,L,s⟩:=p;refine Wt U6<|WY (gt _ b n) U7 (λM _ _ t=>?_);let⟨u,v,w,N,x⟩:=t;refine WT (Dl _ _ _ lp u s.m_ x.m_ q.1 v om_ om_ om_) U7 fl_ (λO _ _ y=>?_);obtain⟨u1,Q,rfl,i,e⟩:=y;rw[r,w]at i e;rw[o]at e;let⟨l1,A,B,S,D⟩:=PieC.take i (by have:=TS z.natAbs b;omega);let⟨l2,j,E,T,k⟩:=PieC.take e om_;obtain⟨A2,c2,rfl,_⟩:=id k;obtain rfl:=(Ed j).1 E;refine C6 5 [12,14,15,16,17] a U<|U1 5 U λR a=>WR U8<|Ww [12,14,15,16,17,78] a U<|G.cd (λl=>?_) λl=>?_
 .exfalso;simp at l
 refine U1 4 U λR a=>WC (nW _ c.m_ _ _ l1 D.m_ A.1 om_) U7 fl_<|Wt U6<|WC (vn _ c.m_ _ [] k.m_ j.1 am) U7 fl_<|C6 2 [4,5] a U<|WE (zD U3 ?_);refine⟨?_,U⟩;show Value.tuple #[ag (txt (sgZ (decide (z<0) != false) (bx l1))),_]=_;rw[B,QM z d];rfl
theorem tI (C:Mem)(e:Tabs C)(n:Int)(d:Nat)(o:0<d)(p:n.natAbs<9000000000000000000)(u:d<9000000000000000000):Gives cx.P 108 [i_ n,i_ d] C (ag (qtx (mkRat n d))):=by
 let⟨g,b⟩:∃g,Nat.gcd n.natAbs d=g:=⟨_,rfl⟩;have v:0<g:=by rw[<- b];exact Ve _ o
 have q:g ∣ n.natAbs:=by rw[<- b];exact VF _ _
 have w:g ∣ d:=by rw[<- b];exact VJ _ _
 have N:g<=d:=V4 o w;have z:(n / (g:Int)).natAbs<=n.natAbs:=by
  rw[UL (Vo.1 (Uv.2 q)),Tu];exact TS _ _
 have r:=TS d g;rw[xZ om_,b];refine Wy func108 36 U3 λw0=>U0 1 [0,1] U<|U0 2 [0,1,8] U<|G.cut (λfr A f i=>(True)/\fr=[(0,[],i_ (n / (g:Int))),(1,[],i_ ((d / g:Nat):Int))]/\f=[]) ?_ (λfr _ O i _ j=>?_)
 .refine G.cd (λs=>?_) λs=>?_
  .skip
   refine U1 3 U λR a=>?_;have Q:IntKind.i64.wrap (0-n)=0-n:=wrap_i64 om_ om_;refine D.max ((n.natAbs:Int)) U6 om_ U2<|C6 3 [0,1,5,6] a U<|G.loop (λfr A f i=>∃(x y:Int),(x.natAbs<9000000000000000000/\0<=x/\0<=y/\y.natAbs<9000000000000000000/\Nat.gcd x.natAbs y.natAbs=g)/\fr=[(0,[],i_ n),(1,[],i_ d),(5,[],i_ x),(6,[],i_ y)]/\f=[]/\i=y.natAbs+1) (hn_ [0,1,5,6] U) ⟨(n.natAbs:Int),d,⟨p,by omega,by omega,by omega,by rw[Tu];exact b⟩,U,U,U⟩ (λfr S T m B j=>?_);obtain⟨x,y,⟨V,E,F,H,t⟩,rfl,rfl,rfl⟩:=j;refine U0 2 [0,1,5,6,15] U<|G.cd (λk=>?_) λk=>?_
   .have l:y≠0:=by simpa using k
    have I:(x.tmod y).natAbs=x.natAbs % y.natAbs:=Vy x y;have W:=Ts x.natAbs (show 0<y.natAbs by omega);have J:=Int.tmod_nonneg y E;refine WM [0,1,2,3,4,5] [] U kr_ λR K a=>Wv 3 U<|Xr (x.tmod y) U6 l U3<|C6 2 [0,1,5,6] a U<|WF (m':=(x.tmod y).natAbs+1) om_ B (hn_ [0,1,5,6] U) ⟨y,x.tmod y,⟨H,F,J,by omega,by rw[I,<- t,UO x.natAbs,V1 y.natAbs x.natAbs,UO]⟩,U,U,U⟩
   have l:y=0:=by simpa using k
   subst l;rw[show(0:Int).natAbs=0 from rfl,Vs]at t;obtain rfl:x=(g:Int):=by omega
   refine WM [0,1,2,3,4,5,6,7] [] U kr_ λR K a=>Wv 2 U<|Xy (n / (g:Int)) U6 om_ (mh q) (wrap_i64 om_ om_) U2<|Wv 2 U<|Xs (d) (g) U6 v (.inl ⟨U,by omega⟩) U2<|C6 2 [0,1] a U<|WJ 0 mup (hn_ [0,1] U) ⟨trivial,U,U⟩
  have L:d=1:=by
   have h:(d:Int)=1:=by simpa using s
   omega
  subst L;have M:g=1:=by omega
  refine WJ 0 l_ (hn_ [0,1] U) ⟨trivial,by rw[M,Nat.div_one,Int.natCast_one,Int.ediv_one],U⟩
 obtain⟨_,rfl,rfl⟩:=j;refine U0 2 [0,1,27] U<|G.cd (λc=>?_) λc=>?_
 .have h1:d / g=1:=by
   have h2:(((d / g:Nat):Int))=1:=by simpa using c
   omega
  refine U1 1 U λR a=>WC (ga _ e.m_ _ om_ om_) U7 fl_<|C6 1 [4] a U<|Wx U2<|⟨?_,U⟩;rw[h1,kw rfl];simp[dy]
 have h1:d / g≠1:=by
  intro h2;rw[h2]at c;exact absurd c dc_
 have X:=jp (n / (g:Int));have Y:=jp ((d / g:Nat):Int);have Z:(bi (n / (g:Int)).natAbs).length<=20:=dV (TD z (UP p dc_)) dc_;have aa:(bi ((d / g:Nat):Int).natAbs).length<=20:=dV (by rw[Tu];exact TD r (UP u dc_)) dc_;refine U1 1 U λR a=>WC (ga _ e.m_ _ om_ om_) U7 fl_<|Xn U6 (λ_=>(by simp only[S5,Tp];omega)) U2<|Wt U6<|WC (ga _ e.m_ ((d / g:Nat):Int) (VV dc_ (Wo _)) (VV (Int.ofNat_le.2 r) om_)) U7 fl_<|Xn U6 (λ_=>(by simp only[SP,S5,Tp];omega)) U2<|C6 1 [4] a U<|Wx U2<|⟨?_,U⟩;rw[fp h1,dh,Tn];rfl
theorem Du (h:(txt z).length<=9):z.natAbs<1000000000:=by
 have h1:=BI h
 rwa [e9]at h1
theorem GQ (C:Mem)(k:Tabs C)(z w:Int)(A:(txt z).length<=9)(B:(txt w).length<=9)(Q:w≠0):Gives cx.P 164 [ag (txt z),ag (txt w)] C (ag (qtx (kV z w))):=by
 have S:=Du A;have T:=Du B;let⟨n,i⟩:∃y,(if w<0 then -z else z)=y:=⟨_,rfl⟩;let⟨d,hd⟩:∃d,w.natAbs=d:=⟨_,rfl⟩;have r:0<d:=by omega
 have D:n.natAbs<1000000000:=by rw[<- i];split <;> omega
 unfold kV;rw[i,hd];let⟨g,b⟩:∃g,Nat.gcd n.natAbs d=g:=⟨_,rfl⟩;have E:0<g:=by rw[<- b];exact Ve _ r
 have s:g ∣ n.natAbs:=by rw[<- b];exact VF _ _
 have F:g ∣ d:=by rw[<- b];exact VJ _ _
 have V:g<=d:=V4 r F;have H:(n / (g:Int)).natAbs<=n.natAbs:=by
  rw[UL (Vo.1 (Uv.2 s)),Tu];exact TS _ _
 have t:=TS d g;rw[xZ om_,b];refine Wy func164 55 U3 λw0=>U0 1 [0,1] U<|U1 1 U λR a=>WC (BF Tryz.atoi z om_ _ kr_) U7 fl_<|C6 5 [1,5] a U<|U1 1 U λR a=>WC (BF Tryz.atoi w om_ _ kr_) U7 fl_<|C6 5 [5,7] a U<|U0 2 [5,7,22] U<|G.cut (λfr u c e=>(True)/\fr=[(5,[],i_ n),(7,[],i_ d)]/\c=[]) ?_ (λfr _ W e _ f=>?_)
 .refine G.cd (λl=>?_) λl=>?_
  .have h:w<0:=by simpa using l
   rw[aL h]at i;refine U0 6 [5,7] U ?_;rw[show IntKind.i64.wrap (0-z)=n by rw[wrap_i64 om_ om_];omega,show IntKind.i64.wrap (0-w)=(d:Int) by rw[wrap_i64 om_ om_];omega];refine WJ 0 l_ (hn_ [5,7] U) ⟨trivial,U,U⟩
  have h:¬ w<0:=by simpa using l
  rw[aF h]at i;rw[show z=n by omega,show w=(d:Int) by omega];refine WJ 0 l_ (hn_ [5,7] U) ⟨trivial,U,U⟩
 obtain⟨_,rfl,rfl⟩:=f;refine U0 4 [5,7,9,10] U<|U0 2 [5,7,9,10,30] U<|G.cut (λfr u c e=>(True)/\fr=[(5,[],i_ n),(7,[],i_ d),(9,[],i_ (n.natAbs:Nat)),(10,[],i_ d)]/\c=[]) ?_ (λfr _ X e _ f=>?_)
 .refine G.cd (λo=>?_) λo=>?_
  .have h:n<0:=by simpa using o
   refine U0 3 [5,7,9,10] U ?_;rw[show IntKind.i64.wrap (0-n)=((n.natAbs:Nat):Int) by rw[wrap_i64 om_ om_];omega];refine WJ 0 l_ (hn_ [5,7,9,10] U) ⟨trivial,U,U⟩
  have h:¬ n<0:=by simpa using o
  refine WJ 0 l_ (hn_ [5,7,9,10] U) ⟨trivial,by rw[show((n.natAbs:Nat):Int)=n by omega],U⟩
 obtain⟨_,rfl,rfl⟩:=f;refine G.loop (λfr u c e=>∃(x y:Int),(x.natAbs<9000000000000000000/\0<=x/\0<=y/\y.natAbs<9000000000000000000/\Nat.gcd x.natAbs y.natAbs=g)/\fr=[(5,[],i_ n),(7,[],i_ d),(9,[],i_ x),(10,[],i_ y)]/\c=[]/\e=y.natAbs+1) (hn_ [5,7,9,10] U) ⟨(n.natAbs:Int),d,⟨by omega,by omega,by omega,by omega,by rw[Tu,Tu];exact b⟩,U,U,U⟩ (λfr Y Z m I f=>?_);obtain⟨x,y,⟨aa,J,K,L,v⟩,rfl,rfl,rfl⟩:=f;refine U0 2 [5,7,9,10,34] U<|G.cd (λp=>?_) λp=>?_
 .have q:y≠0:=by simpa using p
  have M:(x.tmod y).natAbs=x.natAbs % y.natAbs:=Vy x y;have ab:=Ts x.natAbs (show 0<y.natAbs by omega);have N:=Int.tmod_nonneg y J;refine WM [0,1,2,3,4,5] [] U kr_ λR O a=>Wv 3 U<|Xr (x.tmod y) U6 q U3<|C6 2 [5,7,9,10] a U<|WF (m':=(x.tmod y).natAbs+1) om_ I (hn_ [5,7,9,10] U) ⟨y,x.tmod y,⟨L,K,N,by omega,by rw[M,<- v,UO x.natAbs,V1 y.natAbs x.natAbs,UO]⟩,U,U,U⟩
 have q:y=0:=by simpa using p
 subst q;rw[show(0:Int).natAbs=0 from rfl,Vs]at v;obtain rfl:x=(g:Int):=by omega
 refine WM [0,1,2,3,4,5,6,7] [] U kr_ λR O a=>Wv 2 U<|Xy (n / (g:Int)) U6 om_ (mh s) (wrap_i64 om_ om_) U2<|Wv 2 U<|Xs (d) (g) U6 E (.inl ⟨U,by omega⟩) U2<|C6 2 [5,7] a U<|U0 2 [5,7,46] U<|G.cd (λj=>?_) λj=>?_
 .have h1:d / g=1:=by
   have h2:(((d / g:Nat):Int))=1:=by simpa using j
   omega
  refine U1 1 U λR a=>WC (ga _ k.m_ _ om_ om_) U7 fl_<|C6 1 [4] a U<|Wx U2<|⟨?_,U⟩;rw[h1,kw rfl];simp[dy]
 have h1:d / g≠1:=by
  intro h2;rw[h2]at j;exact absurd j dc_
 have ac:=jp (n / (g:Int));have ad:=jp ((d / g:Nat):Int);have ae:(bi (n / (g:Int)).natAbs).length<=20:=dV (TD H (UP D dc_)) dc_;have af:(bi ((d / g:Nat):Int).natAbs).length<=20:=dV (by rw[Tu];exact TD t (UP (show d<1000000000 by omega) dc_)) dc_;refine U1 1 U λR a=>WC (ga _ k.m_ _ om_ om_) U7 fl_<|Xn U6 (λ_=>(by simp only[S5,Tp];omega)) U2<|Wt U6<|WC (ga _ k.m_ ((d / g:Nat):Int) (VV dc_ (Wo _)) (VV (Int.ofNat_le.2 t) om_)) U7 fl_<|Xn U6 (λ_=>(by simp only[SP,S5,Tp];omega)) U2<|C6 1 [4] a U<|Wx U2<|⟨?_,U⟩;rw[fp h1,dh,Tn];rfl
def ND (sg:Bool)(A:Str)(B:Option Str):Value:=.tuple #[.int .i64 (sgZ sg (bT A)),.int .i64 (Rz B),.bool true]
theorem FO (C:Mem)(a:Bool)(A:Str)(B:Option Str)(r:∀c∈A,dZ c=true)(Q:A≠[])(S:∀b,B=some b->∀c∈b,dZ c=true)(T:(E1 a++A++dy B).length<=9) :
  Gives cx.P 107 [ag (E1 a++A++dy B)] C (ND a A B):=by
 let⟨s,hs⟩:∃s,E1 a++A++dy B=s:=⟨_,rfl⟩;let⟨p,hp⟩:∃p,(E1 a).length=p:=⟨_,rfl⟩;have o:p=if a then 1 else 0:=by rw[<- hp];cases a <;> rfl
 have t:∀j c,A[j]?=some c->s[p+j]?=some c:=λj c h=>by rw[<- hs,<- hp];exact Hy _ _ _ h
 have J:∀j,s[p+A.length+j]?=(dy B)[j]?:=λj=>by rw[<- hs,<- hp];exact Df _ _ _ _
 have w:s.length=p+A.length+(dy B).length:=by rw[<- hs,<- hp,SP,SP]
 have V:0<A.length:=Tw.2 Q;rw[hs]at T⊢;have K:∀j,bT (A.take j)<1000000000:=λj=>by
  have h:=mZ r (i:=min j A.length) om_;rcases Nat.le_total j A.length with h1|h1
  .rwa [TJ h1]at h
  rw[Nat.min_eq_right h1,SU]at h
  rwa [Td h1]
 refine Wy func107 57 U3 λw0=>U0 3 [0,2] U<|U0 3 [0,2,9] U<|G.cd (λL=>?_) λL=>?_
 .exfalso;have h:(9:Int)<((s.length:Nat):Int):=aT L;omega
 refine U0 3 [0,2,3,5,6] U<|U1 1 U λR d=>W8 (b:=s.getD 0 0) U8 (λ_=>⟨by omega,(by rw[al,show(0:Int).toNat=0 from rfl];let⟨c,f⟩:∃c,s[0]?=some c:=⟨s[0]'om_,aj om_⟩;rw[f];rfl)⟩) U2<|C6 1 [0,2,3,5,6,12] d U<|G.cut (λfr x g k=>(True)/\fr=[(0,[],ag s),(2,[],i_ 0),(3,[],i_ 1),(5,[],i_ p),(6,[],i_ (if a then -1 else 1))]/\g=[]) ?_ (λfr _ ac k _ l=>?_)
 .refine G.cd (λq=>?_) λq=>?_
  .have y:a=true:=by
    cases a with
   |true=>rfl
   |false =>
     exfalso;rw[aF dc_]at o;subst o;let⟨c,f⟩:∃c,A[0]?=some c:=⟨A[0],aj V⟩;have h1:=t 0 c f;have h2:=r c (aK f);rw[Um]at h1;rw[al,h1]at q;unfold dZ at h2;simp at q h2;omega
   subst y;rw[aL rfl]at o;subst o;refine U0 2 [0,2,3,5,6] U<|WJ 0 l_ (hn_ [0,2,3,5,6] U) ⟨trivial,U,U⟩
  have y:a=false:=by
   cases a with
  |false=>rfl
  |true =>
    exfalso;have h1:s[0]?=some 45:=by rw[<- hs];rfl
    rw[al,h1]at q;exact absurd q dc_
  subst y;rw[aF dc_]at o;subst o;refine WJ 0 l_ (hn_ [0,2,3,5,6] U) ⟨trivial,U,U⟩
 obtain⟨_,rfl,rfl⟩:=l;refine G.loop (λfr x g k=>∃(j:Nat),(j<=A.length)/\fr=[(0,[],ag s),(2,[],i_ ((bT (A.take j):Nat):Int)),(3,[],i_ 1),(5,[],i_ ((p+j:Nat):Int)),(6,[],i_ (if a then -1 else 1))]/\g=[]/\k=A.length-j+1) (hn_ [0,2,3,5,6] U) ⟨0,by omega,U,U,U⟩ (λfr ad ae m W l=>?_);obtain⟨j,hj,rfl,rfl,rfl⟩:=l;let⟨c,f⟩:∃c,p+j<s.length->s[p+j]?=some c:=⟨s.getD (p+j) 0,λh=>by rw[al,aj h];rfl⟩;refine U1 7 U λR d=>W8 (b:=c) U8 (λX=>⟨by omega,f (by have h:decide (((p+j:Nat):Int)<((s.length:Nat):Int))=true:=X.1;have h2:=aT h;omega)⟩) U2<|Wt U6<|WR U8<|Ww [0,2,3,5,6,22] d U<|G.cd (λu=>?_) λu=>?_
 .have z:p+j<s.length/\c.toNat≠47:=by
   simp at u;omega
  have E:j<A.length:=by
   rcases Th j A.length with h|h
   .exact h
   exfalso;obtain rfl:j=A.length:=by omega
   have h1:=f z.1;have h2:=J 0;rw[Um,h1]at h2;cases B with
  |none=>simp[dy]at h2
  |some b =>
    simp[dy]at h2;subst h2;exact z.2 U
  let⟨e,n⟩:∃c,A[j]?=some c:=⟨A[j],aj E⟩;obtain rfl:e=c:=by
   have h1:=f z.1;rw[t j e n]at h1;exact Ue h1
  have M:48<=e.toNat/\e.toNat<=57:=by simpa [dZ] using r e (aK n)
  have N:=K j;refine U1 1 U λR d=>Wz _ U U6<|Wv 2 U<|W8 U8 (λ_=>⟨by omega,t j _ n⟩) U2<|D.int (((e.toNat:Nat):Int)-48) U4 (by rw[IntKind.wrap_u8];omega) U2<|W7 (c:=((e.toNat:Nat):Int)-48) U8 f_ fl_<|Wz _ U U6<|Wt U6<|Wz _ U U6<|C6 2 [0,2,3,5,6] d U ?_;rw[show 10*((bT (A.take j):Nat):Int)+(((e.toNat:Nat):Int)-48)=((bT (A.take (j+1)):Nat):Int) by rw[pA n];omega];refine WF (m':=A.length-(j+1)+1) om_ W (hn_ [0,2,3,5,6] U) ⟨j+1,om_,U,U,U⟩
 have E:j=A.length:=by
  rcases Th j A.length with h|h
  .exfalso;let⟨e,n⟩:∃c,A[j]?=some c:=⟨A[j],aj h⟩;have h1:=f om_;rw[t j e n]at h1;obtain rfl:=Ue h1;have M:48<=e.toNat/\e.toNat<=57:=by simpa [dZ] using r e (aK n)
   simp at u;have:=u om_;omega
  omega
 subst E;have N:=K A.length;rw[SU]at N⊢;refine U0 4 [0,2,3,5,6,36] U<|G.cut (λfr x g k=>(True)/\fr=[(2,[],i_ ((bT A:Nat):Int)),(3,[],i_ ((Rz B:Nat):Int)),(6,[],i_ (if a then -1 else 1))]/\g=[]) ?_ (λfr _ af k _ l=>?_)
 .refine G.cd (λv=>?_) λv=>?_
  .obtain⟨b,rfl⟩:∃b,B=some b:=by
    cases B with
   |some b=>exact⟨b,rfl⟩
   |none =>
     exfalso;rw[w]at v;simp[dy]at v
   have O:=S b rfl;have ah:s.length=p+A.length+1+b.length:=by rw[w];simp[dy];omega
   have Y:∀j,bT (b.take j)<1000000000:=λj=>by
    have h:=mZ O (i:=min j b.length) om_;rcases Nat.le_total j b.length with h1|h1
    .rwa [TJ h1]at h
    rw[Nat.min_eq_right h1,SU]at h
    rwa [Td h1]
   refine U0 1 [0,2,3,5,6] U<|U1 1 U λR d=>Wz _ U U6<|C6 1 [0,2,3,5,6] d U<|G.loop (λfr x g k=>∃(j:Nat),(j<=b.length)/\fr=[(0,[],ag s),(2,[],i_ ((bT A:Nat):Int)),(3,[],i_ ((bT (b.take j):Nat):Int)),(5,[],i_ ((p+A.length+1+j:Nat):Int)),(6,[],i_ (if a then -1 else 1))]/\g=[]/\k=b.length-j+1) (hn_ [0,2,3,5,6] U) ⟨0,om_,U,U,U⟩ (λfr ai ak m Z l=>?_);obtain⟨j,hk,rfl,rfl,rfl⟩:=l;refine U0 4 [0,2,3,5,6,42] U<|G.cd (λF=>?_) λF=>?_
   .have H:j<b.length:=by
     have:p+A.length+1+j<s.length:=by simp at F;omega
     omega
    let⟨c,I⟩:∃c,b[j]?=some c:=⟨b[j],aj H⟩;have aa:s[p+A.length+1+j]?=some c:=by rw[UQ,J,UT 1 j];exact I
    have M:48<=c.toNat/\c.toNat<=57:=by simpa [dZ] using O c (aK I)
    have am:=Y j;refine U1 1 U λR d=>Wz _ U U6<|Wv 2 U<|W8 U8 (λ_=>⟨by omega,aa⟩) U2<|D.int (((c.toNat:Nat):Int)-48) U4 (by rw[IntKind.wrap_u8];omega) U2<|W7 (c:=((c.toNat:Nat):Int)-48) U8 f_ fl_<|Wz _ U U6<|C6 1 [0,2,3,5,6] d U<|U1 1 U λR d=>Wz _ U U6<|C6 1 [0,2,3,5,6] d U ?_;rw[show 10*((bT (b.take j):Nat):Int)+(((c.toNat:Nat):Int)-48)=((bT (b.take (j+1)):Nat):Int) by rw[pA I];omega];refine WF (m':=b.length-(j+1)+1) om_ Z (hn_ [0,2,3,5,6] U) ⟨j+1,om_,U,U,U⟩
   have H:j=b.length:=by
    have:¬ p+A.length+1+j<s.length:=by simp at F;omega
    omega
   subst H;rw[SU];refine WJ 0 mup (hn_ [2,3,6] U) ⟨trivial,U,U⟩
  have ab:B=none:=by
   cases B with
  |none=>rfl
  |some b =>
    exfalso;have h:¬ ((p+A.length:Nat):Int)<((s.length:Nat):Int):=SJ v;rw[w]at h;simp only[dy,S5]at h;omega
  subst ab;refine WJ 0 l_ (hn_ [2,3,6] U) ⟨trivial,U,U⟩
 obtain⟨_,rfl,rfl⟩:=l;have an:-1000000000<sgZ a (bT A)/\sgZ a (bT A)<1000000000:=by unfold sgZ;split <;> omega
 refine U1 2 U λR d=>?_;refine WW (sgZ a (bT A)) U4 (by unfold sgZ;cases a <;> simp) om_ om_ U2 ?_;refine C6 4 [2,3,4] d U<|WE (G.dropAll (Xj U4 ?_));exact⟨U,U⟩
theorem JK (h:z.natAbs<m)(g:Nat)(a:g ∣ z.natAbs):(z / (g:Int)).natAbs<m:=by
 rw[UL (Vo.1 (Uv.2 a)),Tu];exact TD (TS _ _) h
theorem LK (C:Mem)(a:Tabs C)(y:Int)(d:Nat)(b:y.natAbs<BP ^ 200)(c:d<BP ^ 200):Gives cx.P 167 [ag (txt y),ag (bi d)] C (ag (bi (Nat.gcd y.natAbs d))):=by
 have h:=tP C a y (d:Nat) b om_
 rwa [dh,Tu]at h
theorem lC (C:Mem)(e:Tabs C)(z w:Int)(j:z.natAbs<BP ^ 200)(n:w.natAbs<BP ^ 200)(o:w≠0):Gives cx.P 105 [ag (txt z),ag (txt w)] C (ag (qtx (kV z w))):=by
 have A:=eG j;have B:=eG n;let⟨y,hy⟩:∃y,(if w<0 then -z else z)=y:=⟨_,rfl⟩;let⟨d,hd⟩:∃d,w.natAbs=d:=⟨_,rfl⟩;have p:d≠0:=by omega
 have q:y.natAbs=z.natAbs:=by rw[<- hy];split <;> omega
 let⟨g,b⟩:∃g,Nat.gcd y.natAbs d=g:=⟨_,rfl⟩;have k:0<g:=by rw[<- b];exact Ve _ om_
 have r:g ∣ d:=by rw[<- b];exact VJ _ _
 have l:g ∣ y.natAbs:=by rw[<- b];exact VF _ _
 have D:g<=d:=V4 om_ r;refine Wy func105 46 U3 λw0=>U0 1 [0,1] U<|U1 7 U λR a=>WR U8<|Ww [0,1,13] a U<|G.cd (λm=>?_) λm=>?_
 .have h:(txt z).length<=9/\(txt w).length<=9:=by
   have h1:=(S1 _ _ ▸ m:_/\_);have h2:((txt z).length:Int)<=9:=aT h1.1;have h3:((txt w).length:Int)<=9:=aT h1.2;omega
  exact U1 2 U λR a=>WD (GQ _ e.m_ z w h.1 h.2 o) U7<|C6 1 [4] a U<|Wx U2<|⟨U,U⟩
 refine U1 1 U λR a=>WD (qA _ w) U7<|C6 1 [0,1,19] a U<|G.cut (λfr E s t=>(True)/\fr=[(0,[],ag (txt y)),(1,[],ag (bi d))]/\s=[]) ?_ (λfr _ F t _ u=>?_)
 .refine G.cd (λf=>?_) λf=>?_
  .have i:w<0:=by
    have h:=aT f;refine Ti λh2=>?_;rw[aF h2]at h;revert h;split <;> decide
   rw[aL i]at hy;refine U1 1 U λR a=>WC (nT _ z om_) U7 fl_<|Wt U6<|WC (nT _ w om_) U7 fl_<|C6 2 [0,1] a U<|WJ 0 l_ (hn_ [0,1] U) ⟨trivial,by rw[hy,show -w=((d:Nat):Int) by omega,dh],U⟩
  have i:¬ w<0:=by
   intro h2;have h:=SJ f;rw[aL h2]at h;exact h dc_
  rw[aF i]at hy;refine WJ 0 l_ (hn_ [0,1] U) ⟨trivial,by rw[hy,show w=((d:Nat):Int) by omega,dh],U⟩
 obtain⟨_,rfl,rfl⟩:=u;unfold kV;rw[hy,hd,xZ p,b];have v:=JK (z:=y) (by rw[q];exact j) g l;have H:=eG v;have x:d / g<BP ^ 200:=TD (TS _ _) om_;have I:=eG x;have J:=jp (y / (g:Int));refine U1 2 U λR a=>WC (LK _ e.m_ y d om_ om_) U7 fl_<|C6 1 [0,1,5] a U ?_;rw[b];refine U1 2 U λR a=>WC (yR _ e.m_ y g om_ om_ k l) U7 fl_<|C6 4 [0,1,5] a U<|U1 2 U λR a=>WC (mT _ e.m_ d g om_ om_ k) U7 fl_<|C6 4 [0,1] a U<|U0 2 [0,1,40] U<|G.cd (λc=>?_) λc=>?_
 .have h1:d / g=1:=by rw[rR]at c;exact aT c
  refine U0 2 [4] U<|Wx U2<|⟨?_,U⟩;rw[kw h1];simp[dy]
 have h1:d / g≠1:=by rw[rR]at c;exact SJ c
 refine U1 1 U λR a=>Xn U6 (λ_=>(by simp only[S5,Tp];omega)) U2<|Wt U6<|Xn U6 (λ_=>(by simp only[SP,S5,Tp];omega)) U2<|C6 1 [4] a U<|Wx U2<|⟨?_,U⟩;rw[fp h1,Tn];rfl
theorem Nf (C:Mem)(a:Tabs C)(z w:Int)(d:z.natAbs<9000000000000000000)(e:w.natAbs<9000000000000000000)(b:w≠0):Gives cx.P 47 [i_ z,i_ w] C (ag (qtx (kV z w))):=by
 have f:9000000000000000000<BP ^ 200:=by decide +kernel
 exact Wy func47 10 U3 λw0=>U0 1 [0,1] U<|U1 1 U λR c=>WC (hU _ a.m_ z om_ om_) U7 fl_<|Wt U6<|WC (hU _ a.m_ w om_ om_) U7 fl_<|WC (lC _ a.m_ z w om_ om_ b) U7 fl_<|C6 1 [4] c U<|Wx U2<|⟨U,U⟩
theorem CJ (C:Mem)(q:Rat)(_i:(qtx q).length<=1000000):Gives cx.P 83 [ag (qtx q)] C (i_ (eA q.num)):=by
 let⟨c,r,f,d⟩:=kf q;have j:=tw q;refine Wy func83 8 U3 λw0=>U0 1 [0] U<|U0 2 [0,4] U<|G.cd (λh4=>?_) λh4=>?_
 .have h0:q=0:=by rw[eV]at h4;exact aT h4
  refine U0 1 [2] U<|Wx U2<|⟨?_,U⟩;rw[h0];rfl
 have h0:q≠0:=by rw[eV]at h4;exact SJ h4
 have g:q.num≠0:=λe=>h0 (Vz.1 e);refine U1 1 U λR h=>W8 U8 (λ_=>⟨by omega,by rw[f];rfl⟩) U2<|C6 1 [7] h U<|G.cd (λa=>?_) λa=>?_
 .rw[d]at a;have b:q.num<0:=aT a;refine U0 1 [2] U<|Wx U2<|⟨?_,U⟩;unfold eA;rw[aL b]
 rw[d]at a;have b:¬ q.num<0:=SJ a;refine U0 1 [2] U<|Wx U2<|⟨?_,U⟩;unfold eA;rw[aF b,aF g]
theorem AF (C:Mem)(q:Rat)(g:(qtx q).length<=1000000):Gives cx.P 20 [ag (qtx q)] C (ag (qtx (-q))):=by
 have h:=tw q;refine Wy func20 13 U3 λw0=>U0 1 [0] U<|U0 2 [0,4] U<|G.cd (λh4=>?_) λh4=>?_
 .have h0:q=0:=by rw[eV]at h4;exact aT h4
  refine U0 2 [2] U<|Wx U2<|⟨?_,U⟩;rw[h0,Rat.neg_zero]
 have h0:q≠0:=by rw[eV]at h4;exact SJ h4
 let⟨c,r,f,e⟩:=kf q;refine U1 1 U λR a=>W8 U8 (λ_=>⟨by omega,by rw[f];rfl⟩) U2<|C6 1 [0,8] a U<|G.cd (λb=>?_) λb=>?_
 .have d:q.num<0:=by rw[e]at b;exact aT b
  refine U1 1 U λR a=>Xk 1 (qtx q).length U9 (λ_=>⟨.inr ⟨_,U⟩,.inl ⟨U,U⟩,.inl ⟨U,U⟩,by omega,SH _,SH _⟩) U2<|C6 1 [2] a U<|Wx U2<|⟨?_,U⟩;rw[SU,gH d];rfl
 have d:¬ q.num<0:=by rw[e]at b;exact SJ b
 refine U1 1 U λR a=>Xn U6 (λ_=>(by simp only[S5,Tp];omega)) U2<|C6 1 [2] a U<|Wx U2<|⟨?_,U⟩;rw[fj d h0];rfl
end Go.Proofs.YtfjcldheldflbaaGreatDoor
