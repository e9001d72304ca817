/- Laws that the proofs of this seat share, part 7. -/
import Derived.Test.YtfjcldheldflbaaGreatDoorG6
import Derived.Test.YtfjcldheldflbaaGreatDoorShelf
set_option maxHeartbeats 4000000
namespace Go.Proofs.YtfjcldheldflbaaGreatDoor
open Go.Proofs.Tryz
open Go Go.Jog
set_option maxRecDepth 100000
variable {a b:Rat}{d g k m n:Nat}{q:Rat}{s:Str}{w z:Int}
theorem bV (h:n<B9 ^ k)(a:0<k):(bk n).length<=9*k:=eE (by rw [Kk];exact h) om_
theorem zf (h:(txt z).length<=m):z.natAbs<10 ^ m:=by
 have h1:(bk z.natAbs).length<=m:=by
  unfold txt at h;split at h
  ·simp at h;omega
  exact h
 obtain ⟨h2,h3⟩:=bA z.natAbs;have h4:=dS h2.1;rw [h3] at h4;exact QK h4 (PZ dc_ h1)
theorem e18:(10:Nat) ^ 18=1000000000000000000:=by decide
theorem e9:(10:Nat) ^ 9=1000000000:=by decide
theorem xG {a b:Nat}(c:a<B9 ^ k)(d:b<B9 ^ k):a+b<B9 ^ (k+1):=by
 rw [QL];have:B9 ^ k*2<=B9 ^ k*B9:=QW _ dc_;omega
theorem Mp (C:Mem)(l:Tabs C)(z w:Int)(k:Nat)(v:0<k)(hk:k<=40000)(f:z.natAbs<B9 ^ k)(g:w.natAbs<B9 ^ k):Gives cx.P 158 [ah (txt z),ah (txt w)] C (ah (txt (z+w))):=by
 have aa:=bV f v;have ab:=bV g v;refine Tk func158 62 U3 fun w0=>Tb 1 [0,1] Z<|Tc 1 Z fun R a=>To (jy _ z 18 (Py _)) U7<|C6 5 [0,1,5,6] a Z<|Tb 1 [0,1,5,16] Z<|G.cut (fun fr m o p=>(True)/\fr=[(0,[],ah (txt z)),(1,[],ah (txt w))]/\o=[]) ?_ (fun fr _ ac p _ q=>?_)
 ·refine G.cd (fun x=>?_) fun x=>?_
  ·have y:=OQ x;rw [aL y];have L:=zf y;rw [e18] at L;refine Tc 1 Z fun R a=>To (jy _ w 18 (Py _)) U7<|C6 5 [0,1,5,7,8] a Z<|Tb 1 [0,1,5,7,22] Z<|G.cd (fun A=>?_) fun A=>?_
   ·have B:=OQ A;rw [aL B];have M:=zf B;rw [e18] at M;exact Tc 2 Z fun R a=>Tm _ U7<|Ts (rT _ l.m_ (z+w) om_ om_) U7 fl_<|C6 1 [4] a Z<|Tl U2<|⟨Z,Z⟩
   refine Tr 0 (Mem.le.refl _) (hn_ [0,1] Z) ⟨trivial,Z,Z⟩
  refine Tr 0 (Mem.le.refl _) (hn_ [0,1] Z) ⟨trivial,Z,Z⟩
 obtain ⟨_,rfl,rfl⟩:=q;refine Tc 1 Z fun R a=>TG (iR _ z om_) U7 fl_ fun ad _ _ N=>Te U6<|TG (iR _ w om_) U7 fl_ fun ae _ _ O=>Tq U5 fun D=>Tq U5 (fun E=>?_);obtain ⟨pz,rfl,d⟩:=N;obtain ⟨pw,rfl,e⟩:=O;obtain ⟨Az,mz,cz,rfl⟩:=d.form;obtain ⟨Aw,mw,cw,rfl⟩:=e.form;refine Tj (j:=1) U12<|Tj (j:=1) U12<|Th [9,10] a Z<|Tc 1 Z fun R a=>Ti af U9<|Te U6<|Ti ag U9<|C6 1 [9,10,35] a Z<|G.cd (fun r=>?_) fun r=>?_
 ·have i:decide (z<0)=decide (w<0):=by simpa using r
  refine Tx [0,1,2,3,4,5,6,7,8,9] [(8,1)] Z kr_ fun R Q a=>Te U6<|Ti af U9<|Te U6<|Ti af U9<|Te U6<|Ti ag U9<|TG (Kl (k:=k) _ d.m_ e.m_ f g om_) U7 fl_ (fun ai _ _ F=>?_);obtain ⟨S,T,U,rfl⟩:=F.form;exact Tw [.bool (decide (z<0)),_] U8<|TA (fun _=>(jL _ l.m_ _ _ _ F (dH (k:=100000) (n:=k+1) (xG f g) om_))) U9<|C6 1 [4] a Z<|Tl U2<|⟨by rw [Li i],Z⟩
 have i:decide (z<0)≠decide (w<0):=by simpa using r
 refine Tc 1 Z fun R a=>Ti af U9<|Te U6<|Ti ag U9<|To (ph _ d.m_ e.m_) U7<|C6 1 [9,10,50] a Z<|G.cut (fun fr m o p=>∃ (b c:Int)(s t:Value),(NineC m s b.natAbs/\NineC m t c.natAbs/\c.natAbs<=b.natAbs/\b+c=z+w/\decide (b<0)≠decide (c<0)/\b.natAbs<B9 ^ k)/\fr=[(9,[],.pointer (some ⟨D,0,none⟩)),(10,[],.pointer (some ⟨E,0,none⟩))]/\o=[.obj E (.cells ⟨[.bool (decide (c<0)),t]⟩ 273 (0,0)),.obj D (.cells ⟨[.bool (decide (b<0)),s]⟩ 273 (0,0))]) ?_ (fun fr _ aj p _ q=>?_)
 ·refine G.cd (fun u=>?_) fun u=>?_
  ·have H:z.natAbs<w.natAbs:=by
    have:jA z.natAbs w.natAbs<0:=by simpa using u
    exact iQ.1 this
   refine Tf fun R a=>Ti ag U9<|Ti af U9<|Tj (j:=1) U12<|Tj (j:=1) U12<|Th [9,10] a Z<|Tr 0 mup (hn_ [9,10] Z) ⟨w,z,_,_,⟨e.mono mup,d.mono mup,by omega,Int.add_comm w z,Ne.symm i,g⟩,Z,Z⟩
  have H:w.natAbs<=z.natAbs:=by
   have h:¬ jA z.natAbs w.natAbs<0:=by simpa using u
   rw [iQ] at h;omega
  refine Tr 0 mup (hn_ [9,10] Z) ⟨z,w,_,_,⟨d.mono mup,e.mono mup,H,Z,i,f⟩,Z,Z⟩
 obtain ⟨b ,c ,s ,t,⟨I,J,V,W,X,Y⟩,rfl,rfl⟩:=q;obtain ⟨ak,al,am,rfl⟩:=I.form;obtain ⟨an,ao,ap,rfl⟩:=J.form;refine Tx [0,1,2,3,4,5,6,7,8,9] [(8,1)] Z kr_ fun R Q a=>Te U6<|Ti af U9<|Te U6<|Ti af U9<|Te U6<|Ti ag U9<|TG (tS (k:=k) _ I.m_ J.m_ Y V om_) U7 fl_ (fun aq _ _ K=>?_);obtain ⟨S,T,U,rfl⟩:=K.form;exact Tw [.bool (decide (b<0)),_] U8<|TA (fun _=>(jL _ l.m_ _ _ _ K (dH (k:=100000) (n:=k) om_ om_))) U9<|C6 1 [4] a Z<|Tl U2<|⟨by rw [Lj X om_,W],Z⟩
theorem Lk (z w:Int):sgZ (decide (z<0) != decide (w<0)) (z.natAbs*w.natAbs)=z*w:=by
 unfold sgZ;have h1:z=if z<0 then -(z.natAbs:Int) else (z.natAbs:Int):=by split <;> omega
 have h2:w=if w<0 then -(w.natAbs:Int) else (w.natAbs:Int):=by split <;> omega
 by_cases a:z<0 <;> by_cases b:w<0
 ·rw [PV a,PV b,aF dc_];rw [aL a] at h1;rw [aL b] at h2;rw [Qe]
  conv=>rhs;rw [h1,h2]
  rw [Int.neg_mul_neg]
 ·rw [PV a,P7 b,aL dc_];rw [aL a] at h1;rw [aF b] at h2;rw [Qe]
  conv=>rhs;rw [h1,h2]
  rw [Int.neg_mul]
 ·rw [P7 a,PV b,aL dc_];rw [aF a] at h1;rw [aL b] at h2;rw [Qe]
  conv=>rhs;rw [h1,h2]
  rw [Int.mul_neg]
 rw [P7 a,P7 b,aF dc_];rw [aF a] at h1;rw [aF b] at h2;rw [Qe]
 conv=>rhs;rw [h1,h2]
theorem nP {a b:Nat}(c:a<B9 ^ k)(d:b<B9 ^ k):a*b<B9 ^ (k+k):=by
 rw [Sq];exact Rs c d
theorem ES (a:z.natAbs<1000000000)(b:w.natAbs<1000000000):-1000000000000000000<z*w/\z*w<1000000000000000000:=by
 have h:z.natAbs*w.natAbs<=999999999*999999999:=Q1 om_ om_;rw [<- Q7] at h;omega
theorem kB (C:Mem)(d:Tabs C)(z w:Int)(k:Nat)(e:0<k)(x:k<=40000)(b:z.natAbs<B9 ^ k)(c:w.natAbs<B9 ^ k):Gives cx.P 124 [ah (txt z),ah (txt w)] C (ah (txt (z*w))):=by
 have y:=bV b e;have A:=bV c e;refine Tk func124 43 U3 fun w0=>Tb 1 [0,1] Z<|Tc 1 Z fun R a=>Ts (jy _ z 9 om_) U7 fl_<|C6 5 [0,1,5,6] a Z<|Tb 1 [0,1,5,16] Z<|G.cut (fun fr B r s=>(True)/\fr=[(0,[],ah (txt z)),(1,[],ah (txt w))]/\r=[]) ?_ (fun fr _ D s _ t=>?_)
 ·refine G.cd (fun f=>?_) fun f=>?_
  ·have g:=OQ f;rw [aL g];have h:=zf g;rw [e9] at h;refine Tc 1 Z fun R a=>Ts (jy _ w 9 om_) U7 fl_<|C6 5 [0,1,5,7,8] a Z<|Tb 1 [0,1,5,7,22] Z<|G.cd (fun i=>?_) fun i=>?_
   ·have l:=OQ i;rw [aL l];have m:=zf l;rw [e9] at m;have E:=ES h m;exact Tc 2 Z fun R a=>TL ((z*w)) U4 om_ om_ om_ U2<|Ts (rT _ d.m_ (z*w) om_ om_) U7 fl_<|C6 1 [4] a Z<|Tl U2<|⟨Z,Z⟩
   refine Tr 0 (Mem.le.refl _) (hn_ [0,1] Z) ⟨trivial,Z,Z⟩
  refine Tr 0 (Mem.le.refl _) (hn_ [0,1] Z) ⟨trivial,Z,Z⟩
 obtain ⟨_,rfl,rfl⟩:=t;refine Tc 1 Z fun R a=>TG (iR _ z om_) U7 fl_ fun F _ _ u=>Te U6<|TG (iR _ w om_) U7 fl_ fun H _ _ v=>Tq U5 fun I=>Tq U5 (fun J=>?_);obtain ⟨K,rfl,o⟩:=u;obtain ⟨L,rfl,p⟩:=v;obtain ⟨M,N,O,rfl⟩:=o.form;obtain ⟨Q,S,T,rfl⟩:=p.form;refine Tj (j:=1) U12<|Tj (j:=1) U12<|Th [9,10] a Z<|Tx [0,1,2,3,4,5,6,7,8,9,10,11,12] [(11,1)] Z kr_ fun R U a=>Te U6<|Ti af U9<|Te U6<|Ti ag U9<|Tg 2 Z<|Ti af U9<|Te U6<|Ti ag U9<|TG (D1 (k:=k) _ o.m_ p.m_ b c om_) U7 fl_ (fun V _ _ q=>?_);obtain ⟨W,X,Y,rfl⟩:=q.form;exact Tw [.bool (decide (z<0) != decide (w<0)),_] U8<|TA (fun _=>(jL _ d.m_ _ _ _ q (dH (k:=100000) (n:=k+k) (nP b c) om_))) U9<|C6 1 [4] a Z<|Tl U2<|⟨by rw [Lk],Z⟩
def Gm (z w:Int):Nat:=if z<0/\z.natAbs % w.natAbs≠0 then z.natAbs / w.natAbs+1 else z.natAbs / w.natAbs
def Bd (z w:Int):Nat:=if z<0/\z.natAbs % w.natAbs≠0 then w.natAbs-z.natAbs % w.natAbs else z.natAbs % w.natAbs
theorem Gl (i:0<w):sgZ (decide (z<0) != decide (w<0)) (Gm z w)=z / w/\(Bd z w:Int)=z % w:=by
 obtain ⟨n,rfl⟩:∃ n:Nat,w=n:=⟨w.natAbs,by omega⟩;have f:0<n:=by omega
 rw [P7 (by omega:¬ ((n:Nat):Int)<0),Bool.bne_false];have h1:=Su z.natAbs n;have h2:=P2 z.natAbs f;obtain ⟨q,d⟩:∃ q,z.natAbs / n=q:=⟨_,rfl⟩;obtain ⟨r,hr⟩:∃ r,z.natAbs % n=r:=⟨_,rfl⟩;have g:sgZ (decide (z<0)) (Gm z n)=z / n/\(Bd z n:Int)=z % n:=by
  have h3:=(Int.ediv_emod_unique (a:=z) (r:=(Bd z n:Int)) (q:=sgZ (decide (z<0)) (Gm z n)) (by omega:(0:Int)<(n:Int))).2;have h4:(Bd z n:Int)+(n:Int)*sgZ (decide (z<0)) (Gm z n)=z/\0<=(Bd z n:Int)/\(Bd z n:Int)<(n:Int):=by
   unfold Gm Bd sgZ;simp only [Qn];rw [d,hr];rw [hr,d] at h1;rw [hr] at h2;have h5:((r+n*q:Nat):Int)=(z.natAbs:Int):=by rw [h1]
   rw [Sb,Qe] at h5;by_cases b:z<0
   ·rw [PV b,aL rfl];by_cases c:r=0
    ·subst c;rw [aF ap,aF ap];rw [Int.mul_neg];omega
    rw [aL ⟨b,c⟩,aL ⟨b,c⟩];rw [Int.mul_neg,Sb,SE];omega
   rw [P7 b,aF (fun h:z<0/\r≠0=>b h.1),aF (fun h:z<0/\r≠0=>b h.1),aF dc_];omega
  have e:=h3 h4;exact ⟨e.1.symm,e.2.symm⟩
 exact g
theorem rV (C:Mem)(u:Tabs C)(z w:Int)(k:Nat)(f:0<k)(hk:k<=40000)(g:z.natAbs<B9 ^ k)(i:w.natAbs<B9 ^ k)(v:0<w):Gives cx.P 187 [ah (txt z),ah (txt w)] C (.tuple #[ah (txt (z / w)),ah (txt (z % w)),.int .i64 0]):=by
 have aj:=bV g f;have ak:=bV i f;have l:0<w.natAbs:=by omega
 refine Tk func187 50 U3 fun w0=>Tb 3 [0,1] Z<|Tb 2 [0,1,12] Z<|G.cd (fun m=>?_) fun m=>?_
 ·have h:=kS w;rw [h] at m;have:w=0:=OQ m;omega
 refine Tc 1 Z fun R a=>TG (iR _ z om_) U7 fl_ fun al _ _ K=>Te U6<|TG (iR _ w om_) U7 fl_ fun an _ _ L=>Tq U5 fun y=>Tq U5 (fun A=>?_);obtain ⟨pz,rfl,B⟩:=K;obtain ⟨pw,rfl,o⟩:=L;obtain ⟨M,N,O,rfl⟩:=B.form;obtain ⟨Q,S,T,rfl⟩:=o.form;refine Tj (j:=1) U12<|Tj (j:=1) U12<|Th [7,8] a Z<|Tc 1 Z fun R a=>Ti af U9<|Te U6<|Ti ag U9<|TG (wJ _ _ _ _ _ B.m_ o.m_ (dH (k:=100000) (n:=k) g om_) l) U7 fl_ (fun ao _ _ U=>?_);obtain ⟨vq,vr,rfl,D,p⟩:=U;refine C6 5 [7,8,9,10] a Z ?_;obtain ⟨b,V,W,X⟩:=id p;obtain ⟨Ar,cr,E,_⟩:=id X;rw [am] at E;subst E;have F:b.length=0 ↔ z.natAbs % w.natAbs=0:=by
  rw [<- W,Bw V];exact SA
 refine Tc 1 Z fun R a=>Ti af U9<|Tg 4 Z<|TB U8<|Th [7,8,9,10,31] a Z<|G.cut (fun fr H Y μ=>∃ (q r:Value),(NineC H q (Gm z w)/\NineC H r (Bd z w))/\fr=[(7,[],.pointer (some ⟨y,0,none⟩)),(8,[],.pointer (some ⟨A,0,none⟩)),(9,[],q),(10,[],r)]/\Y=[.obj A (.cells ⟨[.bool (decide (w<0)),.slice Q S T]⟩ 273 (0,0)),.obj y (.cells ⟨[.bool (decide (z<0)),.slice M N O]⟩ 273 (0,0))]) ?_ (fun fr _ ap μ _ hI=>?_)
 ·refine G.cd (fun d=>?_) fun d=>?_
  ·have c:z<0/\z.natAbs % w.natAbs≠0:=by
    have h:decide (z<0)=true/\0<b.length:=by simpa using d
    exact ⟨OQ h.1,fun e=>by have:=F.2 e;omega⟩
   have s:Gm z w=z.natAbs / w.natAbs+1:=aL c;have t:Bd z w=w.natAbs-z.natAbs % w.natAbs:=aL c;have aa:z.natAbs / w.natAbs<B9 ^ k:=Qu (QE _ _) g;refine Tx [0,3,4,5,1,2,6,7,8] [] Z kr_ fun R hB a=>Tg 2 Z<|Ti ag U9<|Te U6<|Tz [cM 1] U12 fun aq _ _ ab=>TG (Kl (k:=k) _ D.m_ (⟨[1],⟨(fun x hx=>(by rw [PU.1 hx];decide)),by simp⟩,Z,ab.mono mup⟩:NineC _ _ 1) aa (QK (by decide:1<B9 ^ 1) (PZ dc_ f)) om_) U7 fl_ fun ar _ _ ac=>TG (tS (k:=k) _ o.m_ p.m_ i (Nat.le_of_lt (P2 _ l)) om_) U7 fl_ fun au _ _ ad=>Tg 2 Z<|Th [7,8,9,10] a Z ?_;clear a hB R;refine Tr 0 mup (hn_ [7,8,9,10] Z) ⟨_,_,⟨by rw [s];exact ac.mono mup,by rw [t];exact ad.mono mup⟩,Z,Z⟩
  have c:¬ (z<0/\z.natAbs % w.natAbs≠0):=fun h=>by
   have h2:0<b.length:=by
    rcases Qz b.length with h3 | h3
    ·exact absurd (F.1 h3) h.2
    exact h3
   have h3:(decide (z<0) && decide ((0:Int)<(b.length:Int)))=true:=by
    rw [PV h.1,PV om_];rfl
   rw [h3] at d;cases d
  have s:Gm z w=z.natAbs / w.natAbs:=aF c;have t:Bd z w=z.natAbs % w.natAbs:=aF c;refine Tr 0 mup (hn_ [7,8,9,10] Z) ⟨_,_,⟨by rw [s];exact D.mono mup,by rw [t];exact p.mono mup⟩,Z,Z⟩
 obtain ⟨q ,r,⟨I,J⟩,rfl,rfl⟩:=hI;obtain ⟨A9,m9,c9,rfl⟩:=I.form;obtain ⟨av,aw,ax,rfl⟩:=J.form;have ae:Gm z w<B9 ^ 100000:=by
  have h1:z.natAbs / w.natAbs<=z.natAbs:=QE _ _;have h2:Gm z w<=z.natAbs+1:=by unfold Gm;split <;> omega
  have h3:B9 ^ k*2<=B9 ^ (k+1):=by rw [QL];exact QW _ dc_
  have h4:z.natAbs+1<B9 ^ (k+1):=by have:=RU (n:=k) (show 0<B9 by decide);omega
  exact dH (k:=100000) (n:=k+1) (Qu h2 h4) om_
 have ai:Bd z w<B9 ^ 100000:=by
  have h1:=P2 z.natAbs l;have h2:Bd z w<=w.natAbs:=by unfold Bd;split <;> omega
  exact dH (k:=100000) (n:=k) (Qu h2 i) om_
 refine Tc 1 Z fun R a=>Ti af U9<|Te U6<|Ti ag U9<|Tg 2 Z<|Tw [.bool (decide (z<0) != decide (w<0)),_] U8<|To (jL _ u.m_ _ _ _ I.m_ ae) U7<|Te U6<|Tw [.bool false,_] U8<|To (jL _ u.m_ _ _ _ J.m_ ai) U7<|C6 3 [4,5,6] a Z<|Tn (G.dropAll (Ug U4 ?_));refine ⟨?_,Z⟩;rw [(Gl v).1,show sgZ false (Bd z w)=z % w from (Gl v).2]
theorem JF {l:List Nat}(a:xw l)(b:bu l=n):0<l.length ↔ 0<n:=by
 have h:=Bw a;rw [b] at h;have h2:l.length=0 ↔ n=0:=by rw [h];exact SA
 omega
theorem FT (C:Mem)(s:Tabs C)(z w:Int)(k:Nat)(t:0<k)(hk:k<=40000)(u:z.natAbs<B9 ^ k)(v:w.natAbs<B9 ^ k):Gives cx.P 162 [ah (txt z),ah (txt w)] C (ah (txt (Nat.gcd z.natAbs w.natAbs:Nat))):=by
 have ac:=bV u t;have ad:=bV v t;refine Tk func162 56 U3 fun w0=>Tb 1 [0,1] Z<|Tc 1 Z fun R a=>To (jy _ z 18 (Py _)) U7<|C6 5 [0,1,5,6] a Z<|Tb 1 [0,1,5,18] Z<|G.cut (fun fr g d e=>(True)/\fr=[(0,[],ah (txt z)),(1,[],ah (txt w))]/\d=[]) ?_ (fun fr _ ae e _ f=>?_)
 ·refine G.cd (fun A=>?_) fun A=>?_
  ·have B:=OQ A;rw [aL B];have E:=zf B;rw [e18] at E;refine Tc 1 Z fun R a=>To (jy _ w 18 (Py _)) U7<|C6 5 [0,1,5,7,8] a Z<|Tb 1 [0,1,5,7,24] Z<|G.cd (fun F=>?_) fun F=>?_
   ·have H:=OQ F;rw [aL H];have I:=zf H;rw [e18] at I;refine G.loop (fun fr g d e=>∃ (x y:Int),(x.natAbs<1000000000000000000/\y.natAbs<1000000000000000000/\Nat.gcd x.natAbs y.natAbs=Nat.gcd z.natAbs w.natAbs)/\fr=[(5,[],.int .i64 x),(7,[],.int .i64 y)]/\d=[]/\e=y.natAbs+1) (hn_ [5,7] Z) ⟨z,w,⟨E,I,Z⟩,Z,Z,Z⟩ (fun fr af ag m L f=>?_);obtain ⟨x,y,⟨ai,M,c⟩,rfl,rfl,rfl⟩:=f;refine Tb 2 [5,7,26] Z<|G.cd (fun j=>?_) fun j=>?_
    ·have b:y≠0:=by simpa using j
     have N:(x.tmod y).natAbs=x.natAbs % y.natAbs:=Sf x y;have O:=P2 x.natAbs (show 0<y.natAbs by omega);refine Tx [0,1,2,3,4,5] [] Z kr_ fun R hB a=>Tg 3 Z<|Uo (x.tmod y) U6 b U3<|C6 2 [5,7] a Z<|Tp (m':=(x.tmod y).natAbs+1) om_ L (hn_ [5,7] Z) ⟨y,x.tmod y,⟨M,by omega,by rw [N,<- c,RI x.natAbs,S1 y.natAbs x.natAbs,RI]⟩,Z,Z,Z⟩
    have b:y=0:=by simpa using j
    subst b;rw [show (0:Int).natAbs=0 from rfl,Se] at c;refine Tc 3 Z fun R a=>?_;have aj:IntKind.i64.wrap (0-x)=0-x:=wrap_i64 om_ om_;exact D.max ((x.natAbs:Int)) U6 om_ U2<|Ts (rT _ s.m_ (x.natAbs:Int) om_ om_) U7 fl_<|C6 1 [4] a Z<|Tl U2<|⟨by rw [c],Z⟩
   refine Tr 0 (Mem.le.refl _) (hn_ [0,1] Z) ⟨trivial,Z,Z⟩
  refine Tr 0 (Mem.le.refl _) (hn_ [0,1] Z) ⟨trivial,Z,Z⟩
 obtain ⟨_,rfl,rfl⟩:=f;refine Tc 1 Z fun R a=>TG (iR _ z om_) U7 fl_ (fun ak _ _ Q=>?_);obtain ⟨pz,rfl,S⟩:=Q;refine Uw U12<|Te U6<|TG (iR _ w om_) U7 fl_ (fun al _ _ T=>?_);obtain ⟨pw,rfl,U⟩:=T;refine Uw U12<|C6 2 [9,10] a Z<|G.loop (fun fr g d e=>∃ (x y:Nat)(o p:Value),(NineC g o x/\NineC g p y/\x<B9 ^ k/\y<B9 ^ k/\Nat.gcd x y=Nat.gcd z.natAbs w.natAbs)/\fr=[(9,[],o),(10,[],p)]/\d=[]/\e=y+1) (hn_ [9,10] Z) ⟨_,_,_,_,⟨S.mono mup,U.mono mup,u,v,Z⟩,Z,Z,Z⟩ (fun fr an ao m _ f=>?_);obtain ⟨x,y,o,p,⟨q,i,J,K,c⟩,rfl,rfl,rfl⟩:=f;obtain ⟨l,V,W,X⟩:=id i;obtain ⟨ap,aq,rfl,_⟩:=id X;rw [am] at i ⊢;have Y:=JF V W;refine Tb 3 [9,10,44] Z<|G.cd (fun r=>?_) fun r=>?_
 ·have b:0<y:=Y.1 (by simpa using r);have O:=P2 x b;refine Tc 2 Z fun R a=>TG (wJ _ _ _ _ _ q.m_ i.m_ (dH (k:=100000) (n:=k) J om_) b) U7 fl_ (fun ar _ _ aa=>?_);obtain ⟨vq,vr,rfl,au,ab⟩:=aa;refine C6 5 [10,12] a Z<|Tb 4 [9,10] Z<|Tp (m':=x % y+1) om_ mup (hn_ [9,10] Z) ⟨y,x % y,_,_,⟨i.mono mup,ab.mono mup,K,RJ (P2 _ b) K,by rw [<- c,RI x,S1 y x,RI]⟩,Z,Z,Z⟩
 have b:y=0:=by
  have h:¬ 0<l.length:=by simpa using r
  omega
 subst b;rw [Se] at c;obtain ⟨A9,m9,c9,rfl⟩:=q.form;exact Tc 1 Z fun R a=>Tw [.bool false,_] U8<|Ts (jL _ s.m_ _ _ _ q.m_ (dH (k:=100000) (n:=k) J om_)) U7 fl_<|C6 1 [4] a Z<|Tl U2<|⟨by rw [c];rfl,Z⟩
def rC (sg:Bool)(A:Str)(B:Option Str):Value :=
 if Mv A B then .tuple #[.int .i64 (sgZ sg (bU A)),.int .i64 (Pe B),.bool true] else .tuple #[.int .i64 0,.int .i64 0,.bool false]
theorem Ce (C:Mem)(d:Bool)(A:Str)(B:Option Str)(q:∀ c∈A,eO c=true)(U:A≠[])(V:∀ b,B=some b->∀ c∈b,eO c=true)(W:(Iq d++A++eL B).length<=1000000) :
  Gives cx.P 120 [ah (Iq d++A++eL B)] C (rC d A B):=by
 obtain ⟨s,hs⟩:∃ s,Iq d++A++eL B=s:=⟨_,rfl⟩;obtain ⟨p,t⟩:∃ p,(Iq d).length=p:=⟨_,rfl⟩;have g:p=if d then 1 else 0:=by rw [<- t];cases d <;> rfl
 have u:∀ j c,A[j]?=some c->s[p+j]?=some c:=fun j c h=>by rw [<- hs,<- t];exact LS _ _ _ h
 have O:∀ j,s[p+A.length+j]?=(eL B)[j]?:=fun j=>by rw [<- hs,<- t];exact Is _ _ _ _
 have y:s.length=p+A.length+(eL B).length:=by rw [<- hs,<- t,PH,PH]
 have X:0<A.length:=Qi.2 U;rw [hs] at W ⊢;refine Tk func120 73 U3 fun w0=>Tb 3 [0,2,3] Z<|Tb 2 [0,2,3,5,6] Z<|Tc 5 Z fun R a=>Ue (b:=s.getD 0 0) U8 (fun _=>⟨by omega,(by rw [ay,show (0:Int).toNat=0 from rfl];obtain ⟨c,f⟩:∃ c,s[0]?=some c:=⟨s[0]'om_,al om_⟩;rw [f];rfl)⟩) U2<|Te U6<|TB U8<|Th [0,2,3,5,6,15] a Z<|G.cut (fun fr z i k=>(True)/\fr=[(0,[],ah s),(2,[],.int .i64 0),(3,[],.int .i64 0),(5,[],.int .i64 p),(6,[],.bool d)]/\i=[]) ?_ (fun fr _ ae k _ l=>?_)
 ·refine G.cd (fun v=>?_) fun v=>?_
  ·have n:d=true:=by
    cases d with
    | true=>rfl
    | false =>
     exfalso;rw [aF dc_] at g;subst g;obtain ⟨c,f⟩:∃ c,A[0]?=some c:=⟨A[0],al X⟩;have h1:=u 0 c f;have h2:=q c (Px f);rw [Ru] at h1;rw [ay,h1] at v;unfold eO at h2;simp at v h2;omega
   subst n;rw [aL rfl] at g;subst g;refine Tb 2 [0,2,3,5,6] Z<|Tr 0 (Mem.le.refl _) (hn_ [0,2,3,5,6] Z) ⟨trivial,Z,Z⟩
  have n:d=false:=by
   cases d with
   | false=>rfl
   | true =>
    exfalso;have h1:s[0]?=some 45:=by rw [<- hs];rfl
    rw [aL rfl] at g;have h2:(decide ((0:Int)<((s.length:Nat):Int)) && decide ((((s.getD 0 0).toNat:Nat):Int)=45))=false:=by simpa using v
    rw [ay,h1,PV om_] at h2;exact absurd h2 dc_
  subst n;rw [aF dc_] at g;subst g;refine Tr 0 (Mem.le.refl _) (hn_ [0,2,3,5,6] Z) ⟨trivial,Z,Z⟩
 obtain ⟨_,rfl,rfl⟩:=l;refine Tb 2 [0,2,3,5,6,7] Z<|G.loop (fun fr z i k=>∃ (j:Nat),(j<=A.length/\j<=9)/\fr=[(0,[],ah s),(2,[],.int .i64 ((bU (A.take j):Nat):Int)),(3,[],.int .i64 0),(5,[],.int .i64 ((p+j:Nat):Int)),(6,[],.bool d),(7,[],.int .i64 p)]/\i=[]/\k=A.length-j+1) (hn_ [0,2,3,5,6,7] Z) ⟨0,⟨by omega,by omega⟩,Z,Z,Z⟩ (fun fr af ag m Y l=>?_);obtain ⟨j,⟨hj,w⟩,rfl,rfl,rfl⟩:=l;obtain ⟨c,f⟩:∃ c,p+j<s.length->s[p+j]?=some c:=⟨s.getD (p+j) 0,fun h=>by rw [ay,al h];rfl⟩;refine Tc 7 Z fun R a=>Ue (b:=c) U8 (fun hg=>⟨by omega,f (by have h:decide (((p+j:Nat):Int)<((s.length:Nat):Int))=true:=hg.1;have h2:=OQ h;omega)⟩) U2<|Te U6<|TB U8<|Th [0,2,3,5,6,7,26] a Z<|G.cd (fun x=>?_) fun x=>?_
 ·have E:p+j<s.length/\c.toNat≠47:=by
   simp at x;omega
  have F:j<A.length:=by
   rcases P4 j A.length with h | h
   ·exact h
   exfalso;obtain rfl:j=A.length:=by omega
   have h1:=f E.1;have h2:=O 0;rw [Ru,h1] at h2;cases B with
   | none=>simp [eL] at h2
   | some b =>
    simp [eL] at h2;subst h2;exact E.2 Z
  obtain ⟨e,o⟩:∃ c,A[j]?=some c:=⟨A[j],al F⟩;obtain rfl:e=c:=by
   have h1:=f E.1;rw [u j e o] at h1;exact Q8 h1
  have Q:48<=e.toNat/\e.toNat<=57:=by simpa [eO] using q e (Px o)
  have hV:=ur q w;refine Tc 2 Z fun R a=>Tm _ U7<|C6 1 [0,2,3,5,6,7,32] a Z<|G.cd (fun H=>?_) fun H=>?_
  ·have r:¬ A.length<=9:=by
    have:((p+j:Nat):Int)-p=9:=by simpa using H
    omega
   refine Tb 3 [2,3,4] Z<|Tn (G.dropAll (Ug U4 ?_));refine ⟨?_,Z⟩;unfold rC Mv;rw [P7 r,Bool.false_and,aF dc_]
  have r:j≠9:=by
   have:¬ ((p+j:Nat):Int)-p=9:=by simpa using H
   omega
  refine Tc 1 Z fun R a=>Tm _ U7<|Tg 2 Z<|Ue U8 (fun _=>⟨by omega,u j _ o⟩) U2<|D.int (((e.toNat:Nat):Int)-48) U4 (by rw [IntKind.wrap_u8];omega) U2<|TR (c:=((e.toNat:Nat):Int)-48) U8 (by rw [IntKind.wrap_i64];omega) fl_<|Tm _ U7<|C6 1 [0,2,3,5,6,7] a Z<|Tc 1 Z fun R a=>Tm _ U7<|C6 1 [0,2,3,5,6,7] a Z ?_;rw [show 10*((bU (A.take j):Nat):Int)+(((e.toNat:Nat):Int)-48)=((bU (A.take (j+1)):Nat):Int) by rw [Bg o];omega];refine Tp (m':=A.length-(j+1)+1) om_ Y (hn_ [0,2,3,5,6,7] Z) ⟨j+1,⟨by omega,by omega⟩,Z,Z,Z⟩
 have F:j=A.length:=by
  rcases P4 j A.length with h | h
  ·exfalso;obtain ⟨e,o⟩:∃ c,A[j]?=some c:=⟨A[j],al h⟩;have h1:=f om_;rw [u j e o] at h1;obtain rfl:=Q8 h1;have Q:48<=e.toNat/\e.toNat<=57:=by simpa [eO] using q e (Px o)
   simp at x;have:=x om_;omega
  omega
 subst F;rw [PO];refine Tb 1 [0,2,3,5,41] Z<|G.cut (fun fr z i k=>(True)/\fr=[(0,[],ah s),(2,[],.int .i64 (sgZ d (bU A))),(3,[],.int .i64 0),(5,[],.int .i64 ((p+A.length:Nat):Int))]/\i=[]) ?_ (fun fr _ ai k _ l=>?_)
 ·refine G.cd (fun I=>?_) fun I=>?_
  ·have n:d=true:=I;subst n;have aa:=ur q w;rw [PO] at aa;refine Tb 3 [0,2,3,5] Z ?_;rw [show IntKind.i64.wrap (0-((bU A:Nat):Int))=sgZ true (bU A) by rw [wrap_i64 om_ om_];unfold sgZ;rw [aL rfl];omega];refine Tr 0 (Mem.le.refl _) (hn_ [0,2,3,5] Z) ⟨trivial,Z,Z⟩
  have n:d=false:=by simpa using I
  subst n;refine Tr 0 (Mem.le.refl _) (hn_ [0,2,3,5] Z) ⟨trivial,Z,Z⟩
 obtain ⟨_,rfl,rfl⟩:=l;refine Tb 4 [0,2,3,5,47] Z<|G.cd (fun J=>?_) fun J=>?_
 ·have ab:B=none:=by
   cases B with
   | none=>rfl
   | some b =>
    exfalso;have:p+A.length=s.length:=by simp at J;omega
    rw [y] at this;simp [eL] at this
  subst ab;refine Tb 4 [2,3,4] Z<|Tn (G.dropAll (Ug U4 ?_));refine ⟨?_,Z⟩;unfold rC Mv;rw [PV w];rfl
 obtain ⟨b,rfl⟩:∃ b,B=some b:=by
  cases B with
  | some b=>exact ⟨b,rfl⟩
  | none =>
   exfalso;simp [y,eL] at J
 have S:=V b rfl;have aj:s.length=p+A.length+1+b.length:=by rw [y];simp [eL];omega
 refine Tc 1 Z fun R a=>Tm _ U7<|C6 1 [0,2,3,5,7] a Z<|Tc 1 Z fun R a=>Tm _ U7<|C6 1 [0,2,3,5,7] a Z<|G.loop (fun fr z i k=>∃ (j:Nat),(j<=b.length/\j<=9)/\fr=[(0,[],ah s),(2,[],.int .i64 (sgZ d (bU A))),(3,[],.int .i64 ((bU (b.take j):Nat):Int)),(5,[],.int .i64 ((p+A.length+1+j:Nat):Int)),(7,[],.int .i64 ((p+A.length+1:Nat):Int))]/\i=[]/\k=b.length-j+1) (hn_ [0,2,3,5,7] Z) ⟨0,⟨by omega,by omega⟩,Z,Z,Z⟩ (fun fr ak am m ac l=>?_);obtain ⟨j,⟨hk,T⟩,rfl,rfl,rfl⟩:=l;refine Tb 4 [0,2,3,5,7,56] Z<|G.cd (fun K=>?_) fun K=>?_
 ·have L:j<b.length:=by
   have:p+A.length+1+j<s.length:=by simp at K;omega
   omega
  obtain ⟨c,M⟩:∃ c,b[j]?=some c:=⟨b[j],al L⟩;have ad:s[p+A.length+1+j]?=some c:=by rw [R9,O,RV 1 j];exact M
  have Q:48<=c.toNat/\c.toNat<=57:=by simpa [eO] using S c (Px M)
  have hV:=ur S T;refine Tc 2 Z fun R a=>Tm _ U7<|C6 1 [0,2,3,5,7,62] a Z<|G.cd (fun N=>?_) fun N=>?_
  ·have r:¬ b.length<=9:=by
    have:((p+A.length+1+j:Nat):Int)-((p+A.length+1:Nat):Int)=9:=by simpa using N
    omega
   refine Tb 3 [2,3,4] Z<|Tn (G.dropAll (Ug U4 ?_));refine ⟨?_,Z⟩;unfold rC Mv;rw [show (some b).getD []=b from rfl,P7 r,Bool.and_false,aF dc_]
  have r:j≠9:=by
   have:¬ ((p+A.length+1+j:Nat):Int)-((p+A.length+1:Nat):Int)=9:=by simpa using N
   omega
  refine Tc 1 Z fun R a=>Tm _ U7<|Tg 2 Z<|Ue U8 (fun _=>⟨by omega,ad⟩) U2<|D.int (((c.toNat:Nat):Int)-48) U4 (by rw [IntKind.wrap_u8];omega) U2<|TR (c:=((c.toNat:Nat):Int)-48) U8 (by rw [IntKind.wrap_i64];omega) fl_<|Tm _ U7<|C6 1 [0,2,3,5,7] a Z<|Tc 1 Z fun R a=>Tm _ U7<|C6 1 [0,2,3,5,7] a Z ?_;rw [show 10*((bU (b.take j):Nat):Int)+(((c.toNat:Nat):Int)-48)=((bU (b.take (j+1)):Nat):Int) by rw [Bg M];omega];refine Tp (m':=b.length-(j+1)+1) om_ ac (hn_ [0,2,3,5,7] Z) ⟨j+1,⟨by omega,by omega⟩,Z,Z,Z⟩
 have L:j=b.length:=by
  have:¬ p+A.length+1+j<s.length:=by simp at K;omega
  omega
 subst L;rw [PO];refine Tb 5 [2,3,4] Z<|Tn (G.dropAll (Ug U4 ?_));refine ⟨?_,Z⟩;unfold rC Mv;rw [show (some b).getD []=b from rfl,PV w,PV T];rfl
theorem oT {n:Int}(a:g ∣ n.natAbs):n.tdiv (g:Int)=n / (g:Int):=Int.tdiv_eq_ediv_of_dvd (R3.1 (Rq.2 a))
theorem Aj {n:Int}(a:d≠0):qtx (mkRat n d)=txt (n / ((Nat.gcd n.natAbs d:Nat):Int))++eL (nI (d / Nat.gcd n.natAbs d)):=by
 rw [oU,(tR n a).1,(tR n a).2]
theorem vG (C:Mem)(e:Tabs C)(n:Int)(d:Nat)(o:0<d)(p:n.natAbs<9000000000000000000)(t:d<9000000000000000000):Gives cx.P 121 [.int .i64 n,.int .i64 d] C (ah (qtx (mkRat n d))):=by
 obtain ⟨g,b⟩:∃ g,Nat.gcd n.natAbs d=g:=⟨_,rfl⟩;have u:0<g:=by rw [<- b];exact R7 _ o
 have q:g ∣ n.natAbs:=by rw [<- b];exact Sp _ _
 have v:g ∣ d:=by rw [<- b];exact SB _ _
 have H:g<=d:=S4 o v;rw [Aj om_,b];refine Tk func121 35 U3 fun w0=>Tb 1 [0,1] Z<|Tb 4 [0,1,5,6] Z<|G.loop (fun fr w f h=>∃ (x y:Int),(x.natAbs<9000000000000000000/\y.natAbs<9000000000000000000/\Nat.gcd x.natAbs y.natAbs=g)/\fr=[(0,[],.int .i64 n),(1,[],.int .i64 d),(5,[],.int .i64 x),(6,[],.int .i64 y)]/\f=[]/\h=y.natAbs+1) (hn_ [0,1,5,6] Z) ⟨n,d,⟨p,by omega,by rw [Qn];exact b⟩,Z,Z,Z⟩ (fun fr I J m z i=>?_);obtain ⟨x,y,⟨K,A,r⟩,rfl,rfl,rfl⟩:=i;refine Tb 2 [0,1,5,6,10] Z<|G.cd (fun j=>?_) fun j=>?_
 ·have k:y≠0:=by simpa using j
  have B:(x.tmod y).natAbs=x.natAbs % y.natAbs:=Sf x y;have L:=P2 x.natAbs (show 0<y.natAbs by omega);refine Tx [0,1,2,3,4,5] [] Z kr_ fun R D a=>Tg 3 Z<|Uo (x.tmod y) U6 k U3<|C6 2 [0,1,5,6] a Z<|Tp (m':=(x.tmod y).natAbs+1) om_ z (hn_ [0,1,5,6] Z) ⟨y,x.tmod y,⟨A,by omega,by rw [B,<- r,RI x.natAbs,S1 y.natAbs x.natAbs,RI]⟩,Z,Z,Z⟩
 have k:y=0:=by simpa using j
 subst k;rw [show (0:Int).natAbs=0 from rfl,Se] at r;refine Tb 2 [0,1,5,16] Z<|G.cut (fun fr w f h=>(True)/\fr=[(0,[],.int .i64 n),(1,[],.int .i64 d),(5,[],.int .i64 g)]/\f=[]) ?_ (fun fr _ M h _ i=>?_)
 ·refine G.cd (fun l=>?_) fun l=>?_
  ·have E:x<0:=by simpa using l
   refine Tb 3 [0,1,5] Z ?_;rw [show IntKind.i64.wrap (0-x)=(g:Int) by rw [wrap_i64 om_ om_];omega];refine Tr 0 (Mem.le.refl _) (hn_ [0,1,5] Z) ⟨trivial,Z,Z⟩
  have E:¬ x<0:=by simpa using l
  rw [show x=(g:Int) by omega];refine Tr 0 (Mem.le.refl _) (hn_ [0,1,5] Z) ⟨trivial,Z,Z⟩
 obtain ⟨_,rfl,rfl⟩:=i;have F:(n / (g:Int)).natAbs<=n.natAbs:=by
  rw [RE (R3.1 (Rq.2 q)),Qn];exact QE _ _
 have s:=QE d g;refine Tx [0,1,2,3,4,5,6,7] [] Z kr_ fun R D a=>Tg 2 Z<|Us (n / (g:Int)) U6 om_ (oT q) (wrap_i64 om_ om_) U2<|Tg 2 Z<|Up (d) (g) U6 u (.inl ⟨Z,by omega⟩) U2<|C6 2 [0,1] a Z<|Tb 2 [0,1,26] Z<|G.cd (fun c=>?_) fun c=>?_
 ·have h1:d / g=1:=by
   have h2:(((d / g:Nat):Int))=1:=by simpa using c
   omega
  refine Tc 1 Z fun R a=>Ts (iZ _ e.m_ _ om_ om_) U7 fl_<|C6 1 [4] a Z<|Tl U2<|⟨?_,Z⟩;rw [h1,lU rfl];simp [eL]
 have h1:d / g≠1:=by
  intro h2;rw [h2] at c;exact absurd c dc_
 have N:=ml (n / (g:Int));have O:=ml ((d / g:Nat):Int);have Q:(bk (n / (g:Int)).natAbs).length<=20:=eE (Qu F (RJ p dc_)) dc_;have S:(bk ((d / g:Nat):Int).natAbs).length<=20:=eE (by rw [Qn];exact Qu s (RJ t dc_)) dc_;refine Tc 1 Z fun R a=>Ts (iZ _ e.m_ _ om_ om_) U7 fl_<|Uh U6 (fun _=>(by simp only [PR,P6];omega)) U2<|Te U6<|Ts (iZ _ e.m_ ((d / g:Nat):Int) (S8 dc_ (Int.natCast_nonneg _)) (S8 (Int.ofNat_le.2 s) om_)) U7 fl_<|Uh U6 (fun _=>(by simp only [PH,PR,P6];omega)) U2<|C6 1 [4] a Z<|Tl U2<|⟨?_,Z⟩;rw [fI h1,de,P8];rfl
theorem FO (C:Mem)(z:Int)(d:Nat)(k:Nat)(b:0<k)(g:k<=40000)(c:z.natAbs<B9 ^ k)(e:d<B9 ^ k):Gives cx.P 134 [ah (txt z),ah (bk d)] C (ah (txt z++eL (nI d))):=by
 have h:(txt z).length<=9*k+1:=by
  have:=bV c b;unfold txt;split
  ·simp;omega
  omega
 have i:=bV e b;refine Tk func134 12 U3 fun w0=>Tb 1 [0,1] Z<|Tb 2 [0,1,6] Z<|G.cd (fun a=>?_) fun a=>?_
 ·have h1:d=1:=by rw [so] at a;exact OQ a
  refine Tb 2 [4] Z<|Tl U2<|⟨?_,Z⟩;rw [lU h1];simp [eL]
 have h1:d≠1:=by rw [so] at a;exact PE a
 refine Tc 1 Z fun R f=>Uh U6 (fun _=>(by simp only [PR,P6];omega)) U2<|Te U6<|Uh U6 (fun _=>(by simp only [PH,PR,P6];omega)) U2<|C6 1 [4] f Z<|Tl U2<|⟨?_,Z⟩;rw [fI h1,P8];rfl
theorem Ex (C:Mem)(s:Str)(c:s.length<1000000):Gives cx.P 122 [ah s] C (.tuple #[ah (jK 47 s).1,ah ((jK 47 s).2.getD [49])]):=by
 refine Tk func122 18 U3 fun w0=>Tb 2 [0] Z<|Tc 1 Z fun R d=>To (KK _ s 47 c) U7<|C6 7 [4,5,6] d Z<|Tb 2 [4,5,14] Z<|G.cd (fun a=>?_) fun a=>?_
 ·have h1:(jK 47 s).2=none:=by
   cases h:(jK 47 s).2 with
   | none=>rfl
   | some b=>rw [h] at a;simp at a
  refine Tb 3 [2,3] Z<|Tn (G.dropAll (TD U3 ?_));refine ⟨?_,Z⟩;rw [h1];rfl
 obtain ⟨b,h1⟩:∃ b,(jK 47 s).2=some b:=by
  cases h:(jK 47 s).2 with
  | some b=>exact ⟨b,rfl⟩
  | none=>rw [h] at a;simp at a
 refine Tb 4 [2,3] Z<|Tn (G.dropAll (TD U3 ?_));refine ⟨?_,Z⟩;rw [h1];rfl
theorem Bl {c:UInt8}:∀ {a:Str}(b:Str),c ∉ a->jK c (a++c::b)=(a,some b)
 | [],b,_=>by simp [jK]
 | x::a,b,h=>by
  have d:x≠c:=fun e=>h (e ▸ PB);have hr:=Bl (c:=c) (a:=a) b (fun h2=>h (PK _ h2));simp only [Rh,jK,aF d,hr]
theorem wQ {c:UInt8}:∀ {a:Str},c ∉ a->jK c a=(a,none)
 | [],_=>rfl
 | x::a,h=>by
  have b:x≠c:=fun e=>h (e ▸ PB);have hr:=wQ (c:=c) (a:=a) (fun h2=>h (PK _ h2));simp only [jK,aF b,hr]
theorem vz (h:∀ c∈s,eO c=true):(47:UInt8) ∉ s:=fun h2=>absurd (h 47 h2) dc_
theorem vy (z:Int):(47:UInt8) ∉ txt z:=by
 unfold txt;split
 ·intro h;rcases PN.1 h with h | h
  ·cases h
  exact vz (jI _) h
 exact vz (jI _)
theorem nW (q:Rat):jK 47 (qtx q)=(txt q.num,nI q.den):=by
 rw [oU];unfold nI;split
 ·rw [show eL none=[] from rfl,PY];exact wQ (vy _)
 exact Bl _ (vy _)
theorem one_dec:bk 1=[49]:=by rw [bk];rfl
theorem Gu (d:Nat):(nI d).getD [49]=bk d:=by
 unfold nI;split
 ·rename_i h;subst h;exact one_dec.symm
 rfl
theorem LY (C:Mem)(q:Rat)(a:(qtx q).length<1000000):Gives cx.P 122 [ah (qtx q)] C (.tuple #[ah (txt q.num),ah (bk q.den)]):=by
 have h:=Ex C (qtx q) a
 rwa [nW,Gu] at h
def mO (z w:Int):Rat:=mkRat (if w<0 then -z else z) w.natAbs
theorem pA (C:Mem)(f:Tabs C)(z w:Int)(k:Nat)(b:0<k)(e:k<=40000)(p:z.natAbs<B9 ^ k)(q:w.natAbs<B9 ^ k)(x:w≠0):Gives cx.P 123 [ah (txt z),ah (txt w)] C (ah (qtx (mO z w))):=by
 have A:=bV p b;have B:=bV q b;obtain ⟨y,hy⟩:∃ y,(if w<0 then -z else z)=y:=⟨_,rfl⟩;obtain ⟨d,r⟩:∃ d,w.natAbs=d:=⟨_,rfl⟩;have s:d≠0:=by omega
 have D:y.natAbs=z.natAbs:=by rw [<- hy];split <;> omega
 obtain ⟨g,c⟩:∃ g,Nat.gcd y.natAbs d=g:=⟨_,rfl⟩;have E:0<g:=by rw [<- c];exact R7 _ om_
 have t:g ∣ d:=by rw [<- c];exact SB _ _
 have F:g<=d:=S4 om_ t;unfold mO;rw [hy,r,Aj s,c];refine Tk func123 35 U3 fun w0=>Tb 1 [0,1] Z<|Tc 1 Z fun R a=>To (lH _ w) U7<|C6 1 [0,1,8] a Z<|G.cut (fun fr u i j=>(True)/\fr=[(0,[],ah (txt y)),(1,[],ah (txt (d:Nat)))]/\i=[]) ?_ (fun fr _ H j _ l=>?_)
 ·refine G.cd (fun m=>?_) fun m=>?_
  ·have n:w<0:=by
    have h:dE w<0:=by simpa using m
    unfold dE at h;split at h <;> omega
   rw [aL n] at hy;refine Tc 1 Z fun R a=>Ts (tZ _ z om_) U7 fl_<|Te U6<|Ts (tZ _ w om_) U7 fl_<|C6 2 [0,1] a Z<|Tr 0 (Mem.le.refl _) (hn_ [0,1] Z) ⟨trivial,by rw [hy,show -w=((d:Nat):Int) by omega],Z⟩
  have n:¬ w<0:=by
   intro h2;have h:¬ dE w<0:=by simpa using m
   unfold dE at h;split at h <;> omega
  rw [aF n] at hy;refine Tr 0 (Mem.le.refl _) (hn_ [0,1] Z) ⟨trivial,by rw [hy,show w=((d:Nat):Int) by omega],Z⟩
 obtain ⟨_,rfl,rfl⟩:=l;refine Tc 2 Z fun R a=>Ts (FT _ f.m_ y (d:Nat) k b e om_ om_) U7 fl_<|C6 1 [0,1,5] a Z ?_;rw [Qn,c];refine Tb 2 [0,1,5,17] Z<|G.cut (fun fr u i j=>(True)/\fr=[(0,[],ah (txt (y / (g:Nat)))),(1,[],ah (txt ((d / g:Nat):Int)))]/\i=[]) ?_ (fun fr _ I j _ l=>?_)
 ·refine G.cd (fun o=>?_) fun o=>?_
  ·refine Tc 2 Z fun R a=>Ts (rV _ f.m_ y (g:Nat) k b e om_ om_ om_) U7 fl_<|C6 5 [0,1,5] a Z<|Tc 2 Z fun R a=>Ts (rV _ f.m_ (d:Nat) (g:Nat) k b e om_ om_ om_) U7 fl_<|C6 5 [0,1] a Z<|Tr 0 (Mem.le.refl _) (hn_ [0,1] Z) ⟨trivial,by rw [Int.natCast_ediv],Z⟩
  have v:g=1:=by
   rw [de,so] at o;simpa using o
  refine Tr 0 (Mem.le.refl _) (hn_ [0,1] Z) ⟨trivial,by rw [v,Nat.div_one,Int.natCast_one,Int.ediv_one],Z⟩
 obtain ⟨_,rfl,rfl⟩:=l;rw [de];exact Tc 2 Z fun R a=>Ts (FO _ (y / (g:Nat)) (d / g) k b e (by rw [RE (R3.1 (Rq.2 (by rw [<- c];exact Sp _ _))),Qn];exact Qu (QE _ _) om_) (Qu (QE _ _) om_)) U7 fl_<|C6 1 [4] a Z<|Tl U2<|⟨Z,Z⟩
theorem MI {a b:Nat}(h:bk a=bk b):a=b:=by rw [<- (bA a).2,h,(bA b).2]
theorem Nt (h:txt z=txt w):z=w:=by
 have h1:=dJ z;rw [h,dJ w] at h1;have h2:=MI (Ta h1).1;have h3:decide (w<0)=decide (z<0):=(Ta h1).2;by_cases a:w<0
 ·rw [PV a] at h3;have:=OQ h3.symm;omega
 rw [P7 a] at h3;have:=PE h3.symm;omega
theorem iM (h:qtx a=qtx b):a=b:=by
 have h1:=nW a;rw [h,nW b] at h1;have h2:=Nt (Ta h1).1;have h3:=congrArg Pe (Ta h1).2;rw [pU,pU] at h3;exact Rat.ext h2.symm h3.symm
theorem LJ (a b:Rat):((⟨(qtx a).toArray⟩:ByteArray).data.toList == (⟨(qtx b).toArray⟩:ByteArray).data.toList)=decide (a=b):=by
 show (qtx a == qtx b)=_;rw [Sv,Q0,PI];exact ⟨iM,fun h=>by rw [h]⟩
theorem qtx_zero:qtx 0=[48]:=by
 rw [show (0:Rat)=((0:Int):Rat) from rfl,mF];unfold txt;rw [aF om_,show bk (0:Int).natAbs=bk 0 from rfl,bk];rfl
theorem dG:qtx 1=[49]:=by
 rw [show (1:Rat)=((1:Int):Rat) from rfl,mF];exact one_val.symm
theorem fW (a:Rat):((⟨(qtx a).toArray⟩:ByteArray).data.toList == (⟨#[48]⟩:ByteArray).data.toList)=decide (a=0):=by
 have h:=LJ a 0
 rwa [qtx_zero] at h
theorem Kf (a:Rat):((⟨(qtx a).toArray⟩:ByteArray).data.toList == (⟨#[49]⟩:ByteArray).data.toList)=decide (a=1):=by
 have h:=LJ a 1
 rwa [dG] at h
theorem EJ (a:Rat):0<(qtx a).length:=by
 unfold qtx;rw [PH,PH];have:=Qi.2 (yK a.num.natAbs);omega
theorem bl (h:QB k q)(a:0<k):(qtx q).length<=18*k+2:=by
 unfold qtx;rw [PH,PH];have h1:=bV h.1 a;have h2:=bV h.2 a;have h3:(Iq (decide (q.num<0))).length<=1:=by cases decide (q.num<0) <;> simp [Iq]
 have h4:(eL (nI q.den)).length<=9*k+1:=by
  unfold nI;split
  ·simp [eL]
  simp [eL];exact h2
 omega
theorem tD (q:Rat):∃ c r,qtx q=c::r/\((((c.toNat:Nat):Int) == 45)=decide (q.num<0)):=by
 by_cases h:q.num<0
 ·refine ⟨45,bk q.num.natAbs++eL (nI q.den), ?_,by rw [PV h];decide⟩;unfold qtx;rw [PV h];rfl
 obtain ⟨c,r,a⟩:∃ c r,bk q.num.natAbs=c::r:=List.exists_cons_of_ne_nil (yK _);refine ⟨c,r++eL (nI q.den), ?_, ?_⟩
 ·unfold qtx;rw [P7 h,a];rfl
 have h2:=jI q.num.natAbs c (by rw [a];exact PB);rw [P7 h];unfold eO at h2;have h3:=OQ h2;exact P7 om_
theorem gc (h:¬ q.num<0)(a:q≠0):qtx (-q)=45::qtx q:=by
 have b:q.num≠0:=fun e=>a (Sw.1 e);unfold qtx;rw [S2,Rat.neg_den,PV om_,P7 h,Sz];rfl
theorem qP (h:q.num<0):qtx q=45::qtx (-q):=by
 have h2:=gc (q:=-q) (by rw [S2];omega) (by intro e;have h3:=congrArg Rat.num e;rw [S2] at h3;have h4:(0:Rat).num=0:=rfl;omega)
 rwa [Rat.neg_neg] at h2
def CT (q:Rat):Bool:=Mv (bk q.num.natAbs) (nI q.den)
theorem KA (h:(bk n).length<=9):n<1000000000:=by
 have h1:=dS (jI n);rw [(bA n).2] at h1;exact QK h1 (PP (PZ dc_ h) dc_)
theorem mL (h:CT q=true):q.num.natAbs<1000000000/\q.den<1000000000:=by
 unfold CT Mv at h;rw [PL,PI,PI] at h;refine ⟨KA h.1, ?_⟩;by_cases h1:q.den=1
 ·omega
 rw [fI h1] at h;exact KA h.2
theorem Ew (C:Mem)(q:Rat)(a:(qtx q).length<=1000000):Gives cx.P 120 [ah (qtx q)] C (if CT q then .tuple #[.int .i64 q.num,.int .i64 (q.den:Nat),.bool true] else .tuple #[.int .i64 0,.int .i64 0,.bool false]):=by
 have h:=Ce C (decide (q.num<0)) (bk q.num.natAbs) (nI q.den) (jI _) (yK _) (Jo _) a;unfold rC at h;rw [(bA _).2,pU] at h;have e:sgZ (decide (q.num<0)) q.num.natAbs=q.num:=by
  unfold sgZ;by_cases h:q.num<0
  ·rw [PV h,aL rfl];omega
  rw [P7 h,aF dc_];omega
 rw [e] at h;exact h
theorem eC (C:Mem)(q:Rat)(g:(qtx q).length<=1000000):Gives cx.P 78 [ah (qtx q)] C (ah (qtx (-q))):=by
 have h:=EJ q;refine Tk func78 13 U3 fun w0=>Tb 1 [0] Z<|Tb 2 [0,4] Z<|G.cd (fun h4=>?_) fun h4=>?_
 ·have h0:q=0:=by rw [fW] at h4;exact OQ h4
  refine Tb 2 [2] Z<|Tl U2<|⟨?_,Z⟩;rw [h0,Rat.neg_zero]
 have h0:q≠0:=by rw [fW] at h4;exact PE h4
 obtain ⟨c,r,f,e⟩:=tD q;refine Tc 1 Z fun R a=>Ue U8 (fun _=>⟨by omega,by rw [f];rfl⟩) U2<|C6 1 [0,8] a Z<|G.cd (fun b=>?_) fun b=>?_
 ·have d:q.num<0:=by rw [e] at b;exact OQ b
  refine Tc 1 Z fun R a=>Uj 1 (qtx q).length U9 (fun _=>⟨.inr ⟨_,Z⟩,.inl ⟨Z,Z⟩,.inl ⟨Z,Z⟩,by omega,Py _,Py _⟩) U2<|C6 1 [2] a Z<|Tl U2<|⟨?_,Z⟩;rw [PO,qP d];rfl
 have d:¬ q.num<0:=by rw [e] at b;exact PE b
 refine Tc 1 Z fun R a=>Uh U6 (fun _=>(by simp only [PR,P6];omega)) U2<|C6 1 [2] a Z<|Tl U2<|⟨?_,Z⟩;rw [gc d h0];rfl
theorem er (C:Mem)(q:Rat)(j:(qtx q).length<=1000000):Gives cx.P 94 [ah (qtx q)] C (.int .i64 (dE q.num)):=by
 obtain ⟨c,r,f,d⟩:=tD q;have k:=EJ q;refine Tk func94 15 U3 fun w0=>Tb 1 [0] Z<|Tb 3 [0,3] Z<|G.cd (fun h3=>?_) fun h3=>?_
 ·have h0:q=0:=by rw [fW] at h3;exact OQ h3
  refine Tb 1 [2] Z<|Tl U2<|⟨?_,Z⟩;rw [h0];rfl
 have h0:q≠0:=by rw [fW] at h3;exact PE h3
 have g:q.num≠0:=fun e=>h0 (Sw.1 e);refine Tc 5 Z fun R i=>Ue U8 (fun _=>⟨by omega,by rw [f];rfl⟩) U2<|Te U6<|TB U8<|C6 1 [6] i Z<|G.cd (fun a=>?_) fun a=>?_
 ·rw [d] at a;have b:q.num<0:=by
   have h:=(PL _ _ ▸ a:_/\_).2;exact OQ h
  skip
  refine Tb 1 [2] Z<|Tl U2<|⟨?_,Z⟩;unfold dE;rw [aL b]
 rw [d,PV (show (0:Int)<((⟨(qtx q).toArray⟩:ByteArray).data.toList.length:Int) by show (0:Int)<(((qtx q).length:Nat):Int);omega),SG] at a;have b:¬ q.num<0:=PE a;refine Tb 1 [2] Z<|Tl U2<|⟨?_,Z⟩;unfold dE;rw [aF b,aF g]
theorem jr (C:Mem)(q:Rat)(b:(qtx q).length<=1000000):Gives cx.P 120 [ah (qtx q)] C (.tuple #[.int .i64 (if CT q then q.num else 0),.int .i64 (if CT q then ((q.den:Nat):Int) else 0),.bool (CT q)]):=by
 have h:=Ew C q b;cases a:CT q with
 | true=>rw [a] at h;exact h
 | false=>rw [a] at h;exact h
def su (a b:Rat):Int:=if a<b then -1 else if b<a then 1 else 0
theorem uz :su a b=uS (a.num*b.den) (b.num*a.den):=by
 unfold su uS;simp only [Rat.lt_iff]
theorem gN (a:Rat):0<a.den:=Rx a.den_nz
theorem nQ {a:Int}(b:a.natAbs<1000000000)(c:d<1000000000):-1000000000000000000<a*(d:Int)/\a*(d:Int)<1000000000000000000:=ES b (by rw [Qn];exact c)
theorem wd {a:Nat}(b:a<1000000000)(c:d<1000000000):a*d<1000000000000000000:=Rs b c
theorem kv (C:Mem)(q:Rat)(a:(qtx q).length<1000000):Gives cx.P 122 [ah (qtx q)] C (.tuple #[ah (txt q.num),ah (txt ((q.den:Nat):Int))]):=by
 have h:=LY C q a
 rwa [<- de] at h
theorem dX (a:z.natAbs<B9 ^ k)(b:w.natAbs<B9 ^ k):(z*w).natAbs<B9 ^ (k+k):=by
 rw [Q7];exact nP a b
theorem Bc (a:0<d):mO z ((d:Nat):Int)=mkRat z d:=by
 unfold mO;rw [aF om_,Qn]
theorem qZ (h:QB k q):((q.den:Nat):Int).natAbs<B9 ^ k:=by rw [Qn];exact h.2
theorem gJ (C:Mem)(m:Tabs C)(a b:Rat)(k:Nat)(f:0<k)(u:k<=20000)(d:QB k a)(e:QB k b):Gives cx.P 218 [ah (qtx a),ah (qtx b)] C (.int .i64 (su a b)):=by
 have v:=bl d f;have w:=bl e f;refine Tk func218 65 U3 fun w0=>Tb 1 [0,1] Z<|Tb 3 [0,1,19] Z<|G.cd (fun g=>?_) fun g=>?_
 ·have h0:a=b:=by rw [LJ] at g;exact OQ g
  refine Tb 1 [4] Z<|Tl U2<|⟨?_,Z⟩;subst h0;rw [su,aF (Rat.lt_irrefl),aF (Rat.lt_irrefl)]
 refine Tc 1 Z fun R c=>Ts (jr _ a om_) U7 fl_<|C6 7 [0,1,5,6,7] c Z<|Tb 1 [0,1,5,6,26] Z<|G.cut (fun fr x r s=>(True)/\fr=[(0,[],ah (qtx a)),(1,[],ah (qtx b))]/\r=[]) ?_ (fun fr _ y s _ t=>?_)
 ·refine G.cd (fun n=>?_) fun n=>?_
  ·have h:CT a=true:=n;rw [aL h,aL h];have o:=mL h;refine Tc 1 Z fun R c=>Ts (jr _ b om_) U7 fl_<|C6 7 [0,1,5,6,8,9,10] c Z<|Tb 1 [0,1,5,6,8,9,33] Z<|G.cd (fun p=>?_) fun p=>?_
   ·have i:CT b=true:=p;rw [aL i,aL i];have q:=mL i;have z:=nQ o.1 q.2;have A:=nQ q.1 o.2;refine Tc 2 Z fun R c=>Tm _ U7<|Tg 2 Z<|Tm _ U7<|C6 2 [11,12] c Z<|Tb 4 [11,12,40] Z<|G.cd (fun j=>?_) fun j=>?_
    ·have h1:=OQ j;refine Tb 1 [4] Z<|Tl U2<|⟨?_,Z⟩;rw [uz,uS,aL h1]
    have h1:=PE j;refine Tb 4 [44] Z<|G.cd (fun l=>?_) fun l=>?_
    ·have h2:=OQ l;refine Tb 1 [4] Z<|Tl U2<|⟨?_,Z⟩;rw [uz,uS,aF h1,aL h2]
    have h2:=PE l;refine Tb 1 [4] Z<|Tl U2<|⟨?_,Z⟩;rw [uz,uS,aF h1,aF h2]
   refine Tr 0 (Mem.le.refl _) (hn_ [0,1] Z) ⟨trivial,Z,Z⟩
  refine Tr 0 (Mem.le.refl _) (hn_ [0,1] Z) ⟨trivial,Z,Z⟩
 obtain ⟨_,rfl,rfl⟩:=t;exact Tc 1 Z fun R c=>Ts (kv _ a om_) U7 fl_<|C6 5 [1,13,14] c Z<|Tc 1 Z fun R c=>Ts (kv _ b om_) U7 fl_<|C6 5 [13,14,15,16] c Z<|Tc 2 Z fun R c=>Ts (kB _ m.m_ _ _ k f om_ d.1 (qZ e)) U7 fl_<|Tg 2 Z<|Ts (kB _ m.m_ _ _ k f om_ e.1 (qZ d)) U7 fl_<|Ts (pG _ _ _ (by have:=bV (dX d.1 (qZ e)) om_;omega) (by have:=bV (dX e.1 (qZ d)) om_;omega)) U7 fl_<|C6 1 [4] c Z<|Tl U2<|⟨by rw [uz],Z⟩
theorem iL (C:Mem)(f:Tabs C)(a b:Rat)(k:Nat)(g:0<k)(w:k<=10000)(d:QB k a)(e:QB k b):Gives cx.P 101 [ah (qtx a),ah (qtx b)] C (ah (qtx (a+b))):=by
 have x:=bl d g;have y:=bl e g;have r:=gN a;have s:=gN b;have o:0<a.den*b.den:=R2 r s;refine Tk func101 67 U3 fun w0=>Tb 1 [0,1] Z<|Tb 2 [0,1,16] Z<|G.cd (fun h=>?_) fun h=>?_
 ·have h0:a=0:=by rw [fW] at h;exact OQ h
  refine Tb 2 [4] Z<|Tl U2<|⟨?_,Z⟩;rw [h0,Rat.zero_add]
 refine Tb 2 [0,1,19] Z<|G.cd (fun i=>?_) fun i=>?_
 ·have h0:b=0:=by rw [fW] at i;exact OQ i
  refine Tb 2 [4] Z<|Tl U2<|⟨?_,Z⟩;rw [h0,Rat.add_zero]
 refine Tc 1 Z fun R c=>Ts (jr _ a om_) U7 fl_<|C6 7 [0,1,5,6,7] c Z<|Tb 1 [0,1,5,6,27] Z<|G.cut (fun fr z t u=>(True)/\fr=[(0,[],ah (qtx a)),(1,[],ah (qtx b))]/\t=[]) ?_ (fun fr _ A u _ v=>?_)
 ·refine G.cd (fun p=>?_) fun p=>?_
  ·have j:CT a=true:=p;rw [aL j,aL j];have l:=mL j;refine Tc 1 Z fun R c=>Ts (jr _ b om_) U7 fl_<|C6 7 [0,1,5,6,8,9,10] c Z<|Tb 1 [0,1,5,6,8,9,34] Z<|G.cd (fun q=>?_) fun q=>?_
   ·have m:CT b=true:=q;rw [aL m,aL m];have n:=mL m;have B:=nQ l.1 n.2;have D:=nQ n.1 l.2;have E:=wd l.2 n.2;exact Tc 2 Z fun R c=>Tm _ U7<|Tg 2 Z<|Tm _ U7<|Tm _ U7<|Tg 2 Z<|TL (((a.den*b.den:Nat):Int)) U4 (Qe _ _).symm om_ om_ U2<|Ts (vG _ f.m_ _ _ o om_ om_) U7 fl_<|C6 1 [4] c Z<|Tl U2<|⟨by rw [jx],Z⟩
   refine Tr 0 (Mem.le.refl _) (hn_ [0,1] Z) ⟨trivial,Z,Z⟩
  refine Tr 0 (Mem.le.refl _) (hn_ [0,1] Z) ⟨trivial,Z,Z⟩
 obtain ⟨_,rfl,rfl⟩:=v;exact Tc 1 Z fun R c=>Ts (kv _ a om_) U7 fl_<|C6 5 [1,11,12] c Z<|Tc 1 Z fun R c=>Ts (kv _ b om_) U7 fl_<|C6 5 [11,12,13,14] c Z<|Tc 2 Z fun R c=>Ts (kB _ f.m_ _ _ k g om_ d.1 (qZ e)) U7 fl_<|Tg 2 Z<|Ts (kB _ f.m_ _ _ k g om_ e.1 (qZ d)) U7 fl_<|Ts (Mp _ f.m_ _ _ (k+k) om_ om_ (dX d.1 (qZ e)) (dX e.1 (qZ d))) U7 fl_<|Tg 2 Z<|Ts (kB _ f.m_ _ _ k g om_ (qZ d) (qZ e)) U7 fl_<|Ts (pA _ f.m_ _ _ (k+k+1) om_ om_ (Qu (Si _ _) (xG (dX d.1 (qZ e)) (dX e.1 (qZ d)))) (dH (dX (qZ d) (qZ e)) om_) (by rw [<- Qe];omega)) U7 fl_<|C6 1 [4] c Z<|Tl U2<|⟨by rw [jx,<- Qe,Bc o],Z⟩
theorem OD (c:QB k a)(d:QB k b):QB (k+k+1) (a+b):=by
 rw [jx];exact gT (Nat.ne_of_gt (R2 (gN a) (gN b))) (Qu (Si _ _) (xG (dX c.1 (qZ d)) (dX d.1 (qZ c)))) (dH (nP c.2 d.2) om_)
theorem qF (c:QB k a)(d:QB k b):QB (k+k) (a*b):=by
 rw [gr];exact gT (Nat.ne_of_gt (R2 (gN a) (gN b))) (dX c.1 d.1) (nP c.2 d.2)
theorem fM (b:QB k a):QB k (-a):=⟨by rw [S2,Sz];exact b.1,by rw [Rat.neg_den];exact b.2⟩
theorem iy (c:QB k a)(d:QB k b):QB (k+k+1) (a-b):=by
 rw [S3];exact OD c (fM d)
theorem xm (b:QB k a)(d:a≠0):QB k a⁻¹:=by
 have c:a.num≠0:=fun e=>d (Sw.1 e);refine ⟨?_, ?_⟩
 ·rw [Rat.num_inv,Q7,Int.natAbs_sign_of_ne_zero c,Sg,Qn];exact b.2
 rw [Rat.den_inv,aF c];exact b.1
theorem lY (c:QB k a)(d:QB k b)(e:b≠0):QB (k+k) (a / b):=by
 rw [S9];exact qF c (xm d e)
theorem OC (h:z.natAbs<B9 ^ k)(a:0<k):QB k (z:Rat):=⟨h,by
 show 1<B9 ^ k;exact QK (by decide:1<B9 ^ 1) (PZ dc_ a)⟩
theorem cU (C:Mem)(g:Tabs C)(a b:Rat)(k:Nat)(i:0<k)(z:k<=10000)(d:QB k a)(e:QB k b):Gives cx.P 60 [ah (qtx a),ah (qtx b)] C (ah (qtx (a*b))):=by
 have A:=bl d i;have B:=bl e i;have w:=gN a;have x:=gN b;have q:0<a.den*b.den:=R2 w x;refine Tk func60 66 U3 fun w0=>Tb 1 [0,1] Z<|Tb 3 [0,1,15] Z<|G.cut (fun fr y L' j=>(True)/\fr=[(0,[],ah (qtx a)),(1,[],ah (qtx b)),(15,[],.bool (decide (a=0∨b=0)))]/\L'=[]) ?_ (fun fr _ D j _ l=>?_)
 ·refine G.cd (fun f=>?_) fun f=>?_
  ·have h0:a=0:=by rw [fW] at f;exact OQ f
   rw [fW,show decide (a=0)=decide (a=0∨b=0) by simp [h0]];refine Tr 0 (Mem.le.refl _) (hn_ [0,1,15] Z) ⟨trivial,Z,Z⟩
  have h0:¬ a=0:=by rw [fW] at f;exact PE f
  refine Tb 3 [0,1,15] Z ?_;rw [fW,show decide (b=0)=decide (a=0∨b=0) by simp [h0]];refine Tr 0 (Mem.le.refl _) (hn_ [0,1,15] Z) ⟨trivial,Z,Z⟩
 obtain ⟨_,rfl,rfl⟩:=l;refine G.cd (fun r=>?_) fun r=>?_
 ·have h0:=OQ r;refine Tb 1 [4] Z<|Tl U2<|⟨?_,Z⟩;rw [show a*b=0 by rcases h0 with h | h <;> simp [h],qtx_zero];rfl
 refine Tb 3 [0,1,20] Z<|G.cd (fun m=>?_) fun m=>?_
 ·have h1:a=1:=by rw [Kf] at m;exact OQ m
  refine Tb 2 [4] Z<|Tl U2<|⟨?_,Z⟩;rw [h1,Rat.one_mul]
 refine Tb 3 [0,1,24] Z<|G.cd (fun n=>?_) fun n=>?_
 ·have h1:b=1:=by rw [Kf] at n;exact OQ n
  refine Tb 2 [4] Z<|Tl U2<|⟨?_,Z⟩;rw [h1,Rat.mul_one]
 refine Tc 1 Z fun R c=>Ts (jr _ a om_) U7 fl_<|C6 7 [0,1,5,6,7] c Z<|Tb 1 [0,1,5,6,34] Z<|G.cut (fun fr y L' j=>(True)/\fr=[(0,[],ah (qtx a)),(1,[],ah (qtx b))]/\L'=[]) ?_ (fun fr _ E j _ l=>?_)
 ·refine G.cd (fun s=>?_) fun s=>?_
  ·have o:CT a=true:=s;rw [aL o,aL o];have t:=mL o;refine Tc 1 Z fun R c=>Ts (jr _ b om_) U7 fl_<|C6 7 [0,1,5,6,8,9,10] c Z<|Tb 1 [0,1,5,6,8,9,41] Z<|G.cd (fun u=>?_) fun u=>?_
   ·have p:CT b=true:=u;rw [aL p,aL p];have v:=mL p;have F:=ES t.1 v.1;have H:=wd t.2 v.2;exact Tc 2 Z fun R c=>Tm _ U7<|Tg 2 Z<|TL (((a.den*b.den:Nat):Int)) U4 (Qe _ _).symm om_ om_ U2<|Ts (vG _ g.m_ _ _ q om_ om_) U7 fl_<|C6 1 [4] c Z<|Tl U2<|⟨by rw [gr],Z⟩
   refine Tr 0 (Mem.le.refl _) (hn_ [0,1] Z) ⟨trivial,Z,Z⟩
  refine Tr 0 (Mem.le.refl _) (hn_ [0,1] Z) ⟨trivial,Z,Z⟩
 obtain ⟨_,rfl,rfl⟩:=l;exact Tc 1 Z fun R c=>Ts (kv _ a om_) U7 fl_<|C6 5 [1,11,12] c Z<|Tc 1 Z fun R c=>Ts (kv _ b om_) U7 fl_<|C6 5 [11,12,13,14] c Z<|Tc 2 Z fun R c=>Ts (kB _ g.m_ _ _ k i om_ d.1 e.1) U7 fl_<|Tg 2 Z<|Ts (kB _ g.m_ _ _ k i om_ (qZ d) (qZ e)) U7 fl_<|Ts (pA _ g.m_ _ _ (k+k) om_ om_ (dX d.1 e.1) (dX (qZ d) (qZ e)) (by rw [<- Qe];omega)) U7 fl_<|C6 1 [4] c Z<|Tl U2<|⟨by rw [gr,<- Qe,Bc q],Z⟩
theorem dz (C:Mem)(e:Tabs C)(a b:Rat)(k:Nat)(c:0<k)(f:k<=10000)(g:QB k a)(d:QB k b):Gives cx.P 127 [ah (qtx a),ah (qtx b)] C (ah (qtx (a-b))):=by
 have i:=bl d c;exact Tk func127 9 U3 fun w0=>Tb 1 [0,1] Z<|Tc 2 Z fun R h=>Ts (eC _ b om_) U7 fl_<|To (iL _ e.m_ a (-b) k c f g (fM d)) U7<|C6 1 [4] h Z<|Tl U2<|⟨by rw [S3],Z⟩
theorem gb (C:Mem)(n:Tabs C)(a b:Rat)(k:Nat)(g:0<k)(o:k<=10000)(p:QB k a)(f:QB k b)(h:b≠0):Gives cx.P 70 [ah (qtx a),ah (qtx b)] C (.tuple #[ah (qtx (a / b)),.int .i64 0]):=by
 have v:=bl f g;have q:b.num≠0:=fun e=>h (Sw.1 e);obtain ⟨c,r,s,l⟩:=tD b;refine Tk func70 27 U3 fun w0=>Tb 2 [0,1] Z<|Tb 2 [0,1,9] Z<|G.cd (fun j=>?_) fun j=>?_
 ·exfalso;rw [fW] at j;exact h (OQ j)
 refine Tc 1 Z fun R d=>Ts (kv _ b om_) U7 fl_<|C6 5 [0,1,6,7] d Z<|Tc 1 Z fun R d=>Ue U8 (fun _=>⟨by omega,by rw [s];rfl⟩) U2<|C6 1 [0,6,7,17] d Z<|G.cut (fun fr w L' t=>(True)/\fr=[(0,[],ah (qtx a)),(6,[],ah (txt (b.num.natAbs:Nat))),(7,[],ah (txt (b⁻¹).num))]/\L'=[]) ?_ (fun fr _ x t _ u=>?_)
 ·refine G.cd (fun i=>?_) fun i=>?_
  ·have m:b.num<0:=by rw [l] at i;exact OQ i
   refine Tc 1 Z fun R d=>Ts (tZ _ b.num (by have:=bV f.1 g;omega)) U7 fl_<|Te U6<|Ts (tZ _ ((b.den:Nat):Int) (by have:=bV (qZ f) g;omega)) U7 fl_<|C6 2 [0,6,7] d Z ?_;rw [show -b.num=((b.num.natAbs:Nat):Int) by omega,show -((b.den:Nat):Int)=(b⁻¹).num by rw [Rat.num_inv,Int.sign_eq_neg_one_of_neg m,Int.neg_one_mul]];refine Tr 0 (Mem.le.refl _) (hn_ [0,6,7] Z) ⟨trivial,Z,Z⟩
  have m:¬ b.num<0:=by rw [l] at i;exact PE i
  rw [show b.num=((b.num.natAbs:Nat):Int) by omega,show ((b.den:Nat):Int)=(b⁻¹).num by rw [Rat.num_inv,Int.sign_eq_one_of_pos om_,Int.one_mul]];refine Tr 0 (Mem.le.refl _) (hn_ [0,6,7] Z) ⟨trivial,Z,Z⟩
 obtain ⟨_,rfl,rfl⟩:=u;rw [de,show b.num.natAbs=(b⁻¹).den by rw [Rat.den_inv,aF q]];refine Tc 3 Z fun R d=>Ts (FO _ _ _ k g om_ (xm f h).1 (xm f h).2) U7 fl_ ?_;rw [<- oU b⁻¹];refine To (cU _ n.m_ a b⁻¹ k g o p (xm f h)) U7<|C6 2 [4,5] d Z<|Tn (G.dropAll (TD U3 ?_));exact ⟨by rw [S9],Z⟩
theorem Lu (C:Mem)(c:Tabs C)(z w:Int)(k:Nat)(d:0<k)(e:k<=40000)(f:z.natAbs<B9 ^ k)(g:w.natAbs<B9 ^ k)(i:w≠0):Gives cx.P 184 [ah (txt z),ah (txt w)] C (.tuple #[ah (qtx (mO z w)),.int .i64 0]):=by
 refine Tk func184 12 U3 fun w0=>Tb 2 [0,1] Z<|Tc 1 Z fun R a=>To (lH _ w) U7<|C6 1 [0,1,8] a Z<|G.cd (fun b=>?_) fun b=>?_
 ·exfalso;have h:dE w=0:=by simpa using b
  rcases ec w with h2 | h2 | h2 <;> omega
 refine Tc 2 Z fun R a=>To (pA _ c.m_ z w k d e f g i) U7<|C6 2 [4,5] a Z<|Tn (G.dropAll (TD U3 ?_));exact ⟨Z,Z⟩
theorem EA (C:Mem)(a:Tabs C)(z w:Int)(d:z.natAbs<9000000000000000000)(e:w.natAbs<9000000000000000000)(b:w≠0):Gives cx.P 118 [.int .i64 z,.int .i64 w] C (.tuple #[ah (qtx (mO z w)),.int .i64 0]):=by
 have f:9000000000000000000<B9 ^ 3:=by decide
 refine Tk func118 13 U3 fun w0=>Tb 2 [0,1] Z<|Tc 1 Z fun R c=>Ts (rT _ a.m_ z om_ om_) U7 fl_<|Te U6<|Ts (rT _ a.m_ w om_ om_) U7 fl_<|Ts (Lu _ a.m_ z w 3 dc_ dc_ om_ om_ b) U7 fl_<|C6 4 [4,5] c Z<|Tn (G.dropAll (TD U3 ?_));exact ⟨Z,Z⟩
theorem sX (C:Mem)(a:Tabs C)(z:Int)(c:z.natAbs<9000000000000000000):Gives cx.P 119 [.int .i64 z] C (ah (qtx z)):=by
 exact Tk func119 5 U3 fun w0=>Tb 1 [0] Z<|Tc 1 Z fun R b=>Ts (rT _ a.m_ z om_ om_) U7 fl_<|C6 1 [2] b Z<|Tl U2<|⟨by rw [mF],Z⟩
theorem pow9 (k:Nat):B9 ^ k=10 ^ (9*k):=by rw [Nat.pow_mul]
theorem fq (h:cE s=true):s=txt (ix s)/\(ix s).natAbs<B9 ^ 23:=by
 have h1:=rA.1 h;refine ⟨GY (by unfold cE at h;exact (SX.1 h).1), ?_⟩;rw [Jp];have h2:=yh.1 h1.1;have h3:=dS h2.1.1;exact QK h3 (by rw [pow9];exact PZ dc_ om_)
theorem Ke (h:aV s=true):∃ q:Rat,s=qtx q/\QB 23 q:=by
 unfold aV at h;rw [PL,PL] at h;obtain ⟨⟨h1,h2⟩,h3⟩:=h;obtain ⟨a,b1⟩:=fq h1;rcases gD 47 s with ⟨c,_,_⟩ | ⟨b,post,c,hs,_⟩
 ·rw [c] at a b1;exact ⟨((ix s:Int):Rat),by rw [mF];exact a,OC b1 dc_⟩
 rw [c] at h2 h3 a b1;simp only [QQ] at h2 a b1;obtain ⟨d,b2⟩:=fq h2;unfold oS at h3;simp only [PL,PI,Q0] at h3;obtain ⟨⟨h4,_⟩,e⟩:=h3;have f:(ix post).natAbs≠0:=by omega
 refine ⟨⟨ix b,(ix post).natAbs,f,e⟩, ?_,b1,b2⟩;rw [oU];show s=txt (ix b)++eL (nI (ix post).natAbs);rw [fI om_,<- a,hs];show b++47::post=b++47::bk (ix post).natAbs;rw [<- de,show (((ix post).natAbs:Nat):Int)=ix post by omega,<- d]
theorem qV (C:Mem)(b:Str)(a:cE b=true):Gives cx.P 161 [ah b,ah [49]] C (.int .i64 (uS (ix b) 1)):=by
 obtain ⟨h1,h2⟩:=fq a;have h:=pG C (ix b) 1 (by have:=bV h2 dc_;omega) (by rw [show bk (1:Int).natAbs=[49] from one_dec];decide)
 rwa [<- one_val,<- h1] at h
theorem CI (C:Mem)(c:Tabs C)(a b:Str)(d:cE a=true)(e:cE b=true):Gives cx.P 162 [ah a,ah b] C (ah (txt (Nat.gcd (ix a).natAbs (ix b).natAbs:Nat))):=by
 obtain ⟨h1,h2⟩:=fq d;obtain ⟨h3,h4⟩:=fq e;have h:=FT C c (ix a) (ix b) 23 dc_ dc_ h2 h4
 rwa [<- h1,<- h3] at h
theorem wU {b:Bool}(h:(nC b != 0)=false):b=true:=by cases b <;> first | rfl | (exact absurd h dc_)
theorem dF (C:Mem)(y:Tabs C)(s:Str)(A:s.length<=999998):Gives cx.P 103 [ah s] C (.int .i64 (nC (aV s))):=by
 have u:=ED A;obtain ⟨c,f,l⟩:∃ a b,jK 47 s=(a,b):=⟨_,_,rfl⟩;have k:aV s=(cE c && cE (f.getD [49]) && oS (ix c) f):=by
  unfold aV;rw [l]
 rw [l] at u;simp only at u;refine Tk func103 39 U3 fun w0=>Tb 1 [0] Z<|Tc 1 Z fun R g=>Ts (by have h:=KK C s 47 om_;rw [l] at h;exact h) U7 fl_<|C6 7 [3,4,5] g Z<|Tc 1 Z fun R g=>To (wu _ c) U7<|C6 1 [3,4,5,16] g Z<|G.cd (fun i=>?_) fun i=>?_
 ·have j:aV s=false:=by
   rw [k];cases h1:cE c with
   | false=>rfl
   | true=>rw [h1] at i;exact absurd i dc_
  exact Tb 1 [2] Z<|Tl U2<|⟨by rw [j];rfl,Z⟩
 have m:cE c=true:=by
  cases h1:cE c with
  | true=>rfl
  | false=>rw [h1] at i;exact absurd i dc_
 rw [m,SG] at k;obtain ⟨v,B⟩:=fq m;refine Tb 2 [3,4,18] Z<|G.cd (fun n=>?_) fun n=>?_
 ·have o:f=none:=by
   cases f with
   | none=>rfl
   | some b=>simp at n
  refine Tb 1 [2] Z<|Tl U2<|⟨?_,Z⟩;rw [k,o];rfl
 obtain ⟨b,o⟩:∃ b,f=some b:=by
  cases f with
  | some b=>exact ⟨b,rfl⟩
  | none=>simp at n
 subst o;obtain ⟨d,w⟩:∃ z,ix c=z:=⟨_,rfl⟩;obtain ⟨e,x⟩:∃ z,ix b=z:=⟨_,rfl⟩;have p:aV s=(cE b && oS (ix c) (some b)):=k;unfold oS at p;simp only [w,x] at p v B;have D:(c == [48])=(d == 0):=by
  rw [v];have h:=kS d;rw [show (d == 0)=decide (d=0) by by_cases h:d=0 <;> simp [h]];exact h
 have E:(nC (cE b) != 0)=!cE b:=by cases cE b <;> rfl
 have F:decide (uS e 1<=0)=!decide (1<e):=by
  unfold uS;by_cases h:1<e
  ·rw [aF om_,aL h,PV h];rfl
  rw [P7 h];refine PV ?_;split <;> first | omega | (split <;> omega)
 have q:(nC (cE b) != 0 || decide (uS (ix b) 1<=0) || (c == [48]) || !(bk ((ix c).natAbs.gcd (ix b).natAbs) == [49]))=!aV s:=by
  have H:=so (d.natAbs.gcd e.natAbs);have I:(bk (d.natAbs.gcd e.natAbs) == [49])=(d.natAbs.gcd e.natAbs == 1):=H;rw [w,x,D,E,F,I,p];cases cE b <;> cases decide (1<e) <;> cases (d == 0) <;> cases (d.natAbs.gcd e.natAbs == 1) <;> rfl
 rw [<- de] at q;refine Tb 4 [6,7] Z<|Tc 1 Z fun R g=>To (wu _ b) U7<|Tg 3 Z<|TA (fun r=>(qV _ b (by exact wU (show (nC (cE b) != 0)=false/\True from r).1))) U9<|Te U6<|TN U8<|Tg 3 Z<|TN U8<|Tg 3 Z<|TA (fun r=>(CI _ y.m_ c b m (by exact wU (Rc.1 (Rc.1 (show (((nC (cE b) != 0) || decide (uS (ix b) 1<=0)) || (c == [48]))=false/\True from r).1).1).1))) U9<|Te U6<|TN U8<|Th [38] g Z<|G.cd (fun t=>?_) fun t=>?_
 ·have j:aV s=false:=by
   have h:(!aV s)=true:=q.symm.trans t;simpa using h
  exact Tb 1 [2] Z<|Tl U2<|⟨by rw [j];rfl,Z⟩
 have j:aV s=true:=by
  have h:(!aV s)=false:=q.symm.trans t;simpa using h
 exact Tb 1 [2] Z<|Tl U2<|⟨by rw [j];rfl,Z⟩
theorem NI (z:Int)(b:g ∣ z.natAbs):sgZ (decide (z<0) != false) (z.natAbs / g)=z / (g:Int):=by
 obtain ⟨m,hm⟩:=b;rcases Qz g with h | c
 ·subst h;have a:z=0:=by omega
  subst a;rfl
 rw [hm,Nat.mul_div_cancel_left _ c,Bool.bne_false];unfold sgZ;by_cases a:z<0
 ·rw [PV a,aL rfl,show z=(g:Int)*(-(m:Int)) by rw [Int.mul_neg,<- Qe];omega,Int.mul_ediv_cancel_left _ om_]
 rw [P7 a,aF dc_,show z=(g:Int)*(m:Int) by rw [<- Qe];omega,Int.mul_ediv_cancel_left _ om_]
theorem wI (C:Mem)(c:Tabs C)(z:Int)(b:Nat)(m:z.natAbs<BP ^ 200)(n:b<BP ^ 200)(F:0<b)(d:b ∣ z.natAbs):Gives cx.P 168 [ah (txt z),ah (bk b)] C (.tuple #[ah (txt (z / (b:Int))),ah (bk 0)]):=by
 have H:=OJ;have o:z.natAbs % b=0:=Nat.mod_eq_zero_of_dvd d;have f:(b:Int) ∣ z:=R3.1 (Rq.2 d);have I:(z / (b:Int)).natAbs<=z.natAbs:=by
  rw [RE f,Qn];exact QE _ _
 refine Tk func168 93 U3 fun w0=>Tb 2 [0,1] Z<|Tc 1 Z fun R a=>To (Bz C z) U7<|C6 5 [0,1,6,7] a Z<|Tc 1 Z fun R a=>To (qo _ b) U7<|C6 5 [0,1,6,7,8,9] a Z<|Tc 3 Z fun R a=>TB U8<|Th [0,1,6,8,31] a Z<|G.cd (fun g=>?_) fun g=>?_
 ·have hs:(bk z.natAbs).length<=17/\(bk b).length<=17:=by simpa using g
  have h1:=By hs.1;have h2:=qq hs.2;rw [aL hs.1,aL hs.2];refine Tx [0,1,2,3,4,5,6,7] [] Z kr_ fun R J a=>Tg 2 Z<|Us (z / (b:Int)) U6 om_ (oT d) (wrap_i64 om_ om_) U2<|Tg 2 Z<|Uo 0 U6 om_ ⟨(Int.tmod_eq_zero_of_dvd f),Z,Z⟩<|C6 2 [6,8,10,11] a Z<|Tb 2 [6,8,10,11,39] Z<|G.cd (fun h=>?_) fun h=>?_
  ·exfalso;simp at h
  refine Tc 1 Z fun R a=>Ts (lg _ c (z / (b:Int)) om_ om_) U7 fl_<|Te U6<|Ts (Fa _ c 0 om_) U7 fl_<|C6 2 [4,5] a Z<|Tn (G.dropAll (TD U3 ?_));exact ⟨Z,Z⟩
 refine Tc 1 Z fun R a=>To (fw _ z) U7<|C6 5 [1,12,13] a Z<|Tc 1 Z fun R a=>To (oG _ b) U7<|C6 5 [12,13,14,15] a Z<|Tc 1 Z fun R a=>TM (nJ _ z.natAbs m) U7 (fun K _ _ p=>?_);obtain ⟨lp,q,r,L,s⟩:=p;refine Te U6<|TM (nJ _ b n) U7 (fun M _ _ t=>?_);obtain ⟨u,v,w,N,x⟩:=t;refine TG (AD _ _ _ lp u s.m_ x.m_ q.1 v om_ om_ om_) U7 fl_ (fun O _ _ y=>?_);obtain ⟨u1,Q,rfl,i,e⟩:=y;rw [r,w] at i e;rw [o] at e;obtain ⟨l1,A,B,S,D⟩:=PieC.take i (by have:=QE z.natAbs b;omega);obtain ⟨l2,j,E,T,k⟩:=PieC.take e om_;obtain ⟨A2,c2,rfl,_⟩:=id k;obtain rfl:=(Bv j).1 E;refine C6 5 [12,14,15,16,17] a Z<|Tc 5 Z fun R a=>TB U8<|Th [12,14,15,16,17,78] a Z<|G.cd (fun l=>?_) fun l=>?_
 ·exfalso;simp at l
 refine Tc 4 Z fun R a=>Ts (Fu _ c.m_ _ _ l1 D.m_ A.1 om_) U7 fl_<|Te U6<|Ts (tT _ c.m_ _ [] k.m_ j.1 ap) U7 fl_<|C6 2 [4,5] a Z<|Tn (G.dropAll (TD U3 ?_));refine ⟨?_,Z⟩;show Value.tuple #[ah (txt (sgZ (decide (z<0) != false) (bJ l1))),_]=_;rw [B,NI z d];rfl
theorem AJ (h:(txt z).length<=9):z.natAbs<1000000000:=by
 have h1:=zf h
 rwa [e9] at h1
theorem Ef (C:Mem)(k:Tabs C)(z w:Int)(A:(txt z).length<=9)(B:(txt w).length<=9)(S:w≠0):Gives cx.P 164 [ah (txt z),ah (txt w)] C (ah (qtx (mO z w))):=by
 have T:=AJ A;have U:=AJ B;obtain ⟨n,i⟩:∃ y,(if w<0 then -z else z)=y:=⟨_,rfl⟩;obtain ⟨d,D⟩:∃ d,w.natAbs=d:=⟨_,rfl⟩;have r:0<d:=by omega
 have E:n.natAbs<1000000000:=by rw [<- i];split <;> omega
 unfold mO;rw [i,D];obtain ⟨g,b⟩:∃ g,Nat.gcd n.natAbs d=g:=⟨_,rfl⟩;have F:0<g:=by rw [<- b];exact R7 _ r
 have s:g ∣ n.natAbs:=by rw [<- b];exact Sp _ _
 have H:g ∣ d:=by rw [<- b];exact SB _ _
 have V:g<=d:=S4 r H;have I:(n / (g:Int)).natAbs<=n.natAbs:=by
  rw [RE (R3.1 (Rq.2 s)),Qn];exact QE _ _
 have t:=QE d g;rw [Aj om_,b];refine Tk func164 55 U3 fun w0=>Tb 1 [0,1] Z<|Tc 1 Z fun R a=>Ts (yZ Tryz.atoi z om_ _ kr_) U7 fl_<|C6 5 [1,5] a Z<|Tc 1 Z fun R a=>Ts (yZ Tryz.atoi w om_ _ kr_) U7 fl_<|C6 5 [5,7] a Z<|Tb 2 [5,7,22] Z<|G.cut (fun fr u c e=>(True)/\fr=[(5,[],.int .i64 n),(7,[],.int .i64 d)]/\c=[]) ?_ (fun fr _ W e _ f=>?_)
 ·refine G.cd (fun l=>?_) fun l=>?_
  ·have h:w<0:=by simpa using l
   rw [aL h] at i;refine Tb 6 [5,7] Z ?_;rw [show IntKind.i64.wrap (0-z)=n by rw [wrap_i64 om_ om_];omega,show IntKind.i64.wrap (0-w)=(d:Int) by rw [wrap_i64 om_ om_];omega];refine Tr 0 (Mem.le.refl _) (hn_ [5,7] Z) ⟨trivial,Z,Z⟩
  have h:¬ w<0:=by simpa using l
  rw [aF h] at i;rw [show z=n by omega,show w=(d:Int) by omega];refine Tr 0 (Mem.le.refl _) (hn_ [5,7] Z) ⟨trivial,Z,Z⟩
 obtain ⟨_,rfl,rfl⟩:=f;refine Tb 4 [5,7,9,10] Z<|Tb 2 [5,7,9,10,30] Z<|G.cut (fun fr u c e=>(True)/\fr=[(5,[],.int .i64 n),(7,[],.int .i64 d),(9,[],.int .i64 (n.natAbs:Nat)),(10,[],.int .i64 d)]/\c=[]) ?_ (fun fr _ X e _ f=>?_)
 ·refine G.cd (fun o=>?_) fun o=>?_
  ·have h:n<0:=by simpa using o
   refine Tb 3 [5,7,9,10] Z ?_;rw [show IntKind.i64.wrap (0-n)=((n.natAbs:Nat):Int) by rw [wrap_i64 om_ om_];omega];refine Tr 0 (Mem.le.refl _) (hn_ [5,7,9,10] Z) ⟨trivial,Z,Z⟩
  have h:¬ n<0:=by simpa using o
  refine Tr 0 (Mem.le.refl _) (hn_ [5,7,9,10] Z) ⟨trivial,by rw [show ((n.natAbs:Nat):Int)=n by omega],Z⟩
 obtain ⟨_,rfl,rfl⟩:=f;refine G.loop (fun fr u c e=>∃ (x y:Int),(x.natAbs<9000000000000000000/\0<=x/\0<=y/\y.natAbs<9000000000000000000/\Nat.gcd x.natAbs y.natAbs=g)/\fr=[(5,[],.int .i64 n),(7,[],.int .i64 d),(9,[],.int .i64 x),(10,[],.int .i64 y)]/\c=[]/\e=y.natAbs+1) (hn_ [5,7,9,10] Z) ⟨(n.natAbs:Int),d,⟨by omega,by omega,by omega,by omega,by rw [Qn,Qn];exact b⟩,Z,Z,Z⟩ (fun fr Y aa m J f=>?_);obtain ⟨x,y,⟨ab,K,L,M,v⟩,rfl,rfl,rfl⟩:=f;refine Tb 2 [5,7,9,10,34] Z<|G.cd (fun p=>?_) fun p=>?_
 ·have q:y≠0:=by simpa using p
  have N:(x.tmod y).natAbs=x.natAbs % y.natAbs:=Sf x y;have ac:=P2 x.natAbs (show 0<y.natAbs by omega);have O:=Int.tmod_nonneg y K;refine Tx [0,1,2,3,4,5] [] Z kr_ fun R Q a=>Tg 3 Z<|Uo (x.tmod y) U6 q U3<|C6 2 [5,7,9,10] a Z<|Tp (m':=(x.tmod y).natAbs+1) om_ J (hn_ [5,7,9,10] Z) ⟨y,x.tmod y,⟨M,L,O,by omega,by rw [N,<- v,RI x.natAbs,S1 y.natAbs x.natAbs,RI]⟩,Z,Z,Z⟩
 have q:y=0:=by simpa using p
 subst q;rw [show (0:Int).natAbs=0 from rfl,Se] at v;obtain rfl:x=(g:Int):=by omega
 refine Tx [0,1,2,3,4,5,6,7] [] Z kr_ fun R Q a=>Tg 2 Z<|Us (n / (g:Int)) U6 om_ (oT s) (wrap_i64 om_ om_) U2<|Tg 2 Z<|Up (d) (g) U6 F (.inl ⟨Z,by omega⟩) U2<|C6 2 [5,7] a Z<|Tb 2 [5,7,46] Z<|G.cd (fun j=>?_) fun j=>?_
 ·have h1:d / g=1:=by
   have h2:(((d / g:Nat):Int))=1:=by simpa using j
   omega
  refine Tc 1 Z fun R a=>Ts (iZ _ k.m_ _ om_ om_) U7 fl_<|C6 1 [4] a Z<|Tl U2<|⟨?_,Z⟩;rw [h1,lU rfl];simp [eL]
 have h1:d / g≠1:=by
  intro h2;rw [h2] at j;exact absurd j dc_
 have ad:=ml (n / (g:Int));have ae:=ml ((d / g:Nat):Int);have af:(bk (n / (g:Int)).natAbs).length<=20:=eE (Qu I (RJ E dc_)) dc_;have ag:(bk ((d / g:Nat):Int).natAbs).length<=20:=eE (by rw [Qn];exact Qu t (RJ (show d<1000000000 by omega) dc_)) dc_;refine Tc 1 Z fun R a=>Ts (iZ _ k.m_ _ om_ om_) U7 fl_<|Uh U6 (fun _=>(by simp only [PR,P6];omega)) U2<|Te U6<|Ts (iZ _ k.m_ ((d / g:Nat):Int) (S8 dc_ (Int.natCast_nonneg _)) (S8 (Int.ofNat_le.2 t) om_)) U7 fl_<|Uh U6 (fun _=>(by simp only [PH,PR,P6];omega)) U2<|C6 1 [4] a Z<|Tl U2<|⟨?_,Z⟩;rw [fI h1,de,P8];rfl
theorem Hb (h:z.natAbs<m)(g:Nat)(a:g ∣ z.natAbs):(z / (g:Int)).natAbs<m:=by
 rw [RE (R3.1 (Rq.2 a)),Qn];exact Qu (QE _ _) h
theorem I6 (C:Mem)(a:Tabs C)(y:Int)(d:Nat)(b:y.natAbs<BP ^ 200)(c:d<BP ^ 200):Gives cx.P 167 [ah (txt y),ah (bk d)] C (ah (bk (Nat.gcd y.natAbs d))):=by
 have h:=CP C a y (d:Nat) b om_
 rwa [de,Qn] at h
theorem yz (C:Mem)(e:Tabs C)(z w:Int)(j:z.natAbs<BP ^ 200)(n:w.natAbs<BP ^ 200)(o:w≠0):Gives cx.P 105 [ah (txt z),ah (txt w)] C (ah (qtx (mO z w))):=by
 have B:=gA j;have D:=gA n;obtain ⟨y,hy⟩:∃ y,(if w<0 then -z else z)=y:=⟨_,rfl⟩;obtain ⟨d,p⟩:∃ d,w.natAbs=d:=⟨_,rfl⟩;have q:d≠0:=by omega
 have r:y.natAbs=z.natAbs:=by rw [<- hy];split <;> omega
 obtain ⟨g,b⟩:∃ g,Nat.gcd y.natAbs d=g:=⟨_,rfl⟩;have k:0<g:=by rw [<- b];exact R7 _ om_
 have s:g ∣ d:=by rw [<- b];exact SB _ _
 have l:g ∣ y.natAbs:=by rw [<- b];exact Sp _ _
 have E:g<=d:=S4 om_ s;refine Tk func105 46 U3 fun w0=>Tb 1 [0,1] Z<|Tc 7 Z fun R a=>TB U8<|Th [0,1,13] a Z<|G.cd (fun m=>?_) fun m=>?_
 ·have h:(txt z).length<=9/\(txt w).length<=9:=by
   have h1:=(PL _ _ ▸ m:_/\_);have h2:((txt z).length:Int)<=9:=OQ h1.1;have h3:((txt w).length:Int)<=9:=OQ h1.2;omega
  exact Tc 2 Z fun R a=>To (Ef _ e.m_ z w h.1 h.2 o) U7<|C6 1 [4] a Z<|Tl U2<|⟨Z,Z⟩
 refine Tc 1 Z fun R a=>To (xM _ w) U7<|C6 1 [0,1,19] a Z<|G.cut (fun fr F t u=>(True)/\fr=[(0,[],ah (txt y)),(1,[],ah (bk d))]/\t=[]) ?_ (fun fr _ H u _ v=>?_)
 ·refine G.cd (fun f=>?_) fun f=>?_
  ·have i:w<0:=by
    have h:=OQ f;refine P1 fun h2=>?_;rw [aF h2] at h;revert h;split <;> decide
   rw [aL i] at hy;refine Tc 1 Z fun R a=>Ts (rL _ z om_) U7 fl_<|Te U6<|Ts (rL _ w om_) U7 fl_<|C6 2 [0,1] a Z<|Tr 0 (Mem.le.refl _) (hn_ [0,1] Z) ⟨trivial,by rw [hy,show -w=((d:Nat):Int) by omega,de],Z⟩
  have i:¬ w<0:=by
   intro h2;have h:=PE f;rw [aL h2] at h;exact h dc_
  rw [aF i] at hy;refine Tr 0 (Mem.le.refl _) (hn_ [0,1] Z) ⟨trivial,by rw [hy,show w=((d:Nat):Int) by omega,de],Z⟩
 obtain ⟨_,rfl,rfl⟩:=v;unfold mO;rw [hy,p,Aj q,b];have x:=Hb (z:=y) (by rw [r];exact j) g l;have I:=gA x;have A:d / g<BP ^ 200:=Qu (QE _ _) om_;have J:=gA A;have K:=ml (y / (g:Int));refine Tc 2 Z fun R a=>Ts (I6 _ e.m_ y d om_ om_) U7 fl_<|C6 1 [0,1,5] a Z ?_;rw [b];refine Tc 2 Z fun R a=>Ts (wI _ e.m_ y g om_ om_ k l) U7 fl_<|C6 4 [0,1,5] a Z<|Tc 2 Z fun R a=>Ts (lR _ e.m_ d g om_ om_ k) U7 fl_<|C6 4 [0,1] a Z<|Tb 2 [0,1,40] Z<|G.cd (fun c=>?_) fun c=>?_
 ·have h1:d / g=1:=by rw [so] at c;exact OQ c
  refine Tb 2 [4] Z<|Tl U2<|⟨?_,Z⟩;rw [lU h1];simp [eL]
 have h1:d / g≠1:=by rw [so] at c;exact PE c
 refine Tc 1 Z fun R a=>Uh U6 (fun _=>(by simp only [PR,P6];omega)) U2<|Te U6<|Uh U6 (fun _=>(by simp only [PH,PR,P6];omega)) U2<|C6 1 [4] a Z<|Tl U2<|⟨?_,Z⟩;rw [fI h1,P8];rfl
theorem N7 (C:Mem)(a:Tabs C)(z w:Int)(d:z.natAbs<9000000000000000000)(e:w.natAbs<9000000000000000000)(b:w≠0):Gives cx.P 47 [.int .i64 z,.int .i64 w] C (ah (qtx (mO z w))):=by
 have f:9000000000000000000<BP ^ 200:=by decide +kernel
 exact Tk func47 10 U3 fun w0=>Tb 1 [0,1] Z<|Tc 1 Z fun R c=>Ts (lg _ a.m_ z om_ om_) U7 fl_<|Te U6<|Ts (lg _ a.m_ w om_ om_) U7 fl_<|Ts (yz _ a.m_ z w om_ om_ b) U7 fl_<|C6 1 [4] c Z<|Tl U2<|⟨Z,Z⟩
end Go.Proofs.YtfjcldheldflbaaGreatDoor
