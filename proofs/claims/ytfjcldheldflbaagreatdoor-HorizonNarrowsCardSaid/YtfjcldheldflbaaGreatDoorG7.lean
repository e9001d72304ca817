/- Laws that the proofs of this seat share, part 7. -/
import Derived.Test.YtfjcldheldflbaaGreatDoorG6
import Derived.Test.YtfjcldheldflbaaGreatDoorShelf
set_option maxHeartbeats 4000000
namespace Go.Proofs.YtfjcldheldflbaaGreatDoor
open Go.Proofs.Tryz
open Go Go.Jog
set_option maxRecDepth 100000
variable {a b:Rat}{d g i k:Nat}{l:List Nat}{m n:Nat}{q:Rat}{s:Str}{w z:Int}
theorem bY (h:n<B9 ^ k)(a:0<k):(bj n).length<=9*k:=dR (by rw [Lq];exact h) om_
theorem Ak (h:(txt z).length<=m):z.natAbs<10 ^ m:=by
 have h1:(bj z.natAbs).length<=m:=by
  unfold txt at h;split at h
  ·simp at h;omega
  exact h
 obtain ⟨h2,h3⟩:=bk z.natAbs;have h4:=dz h2.1;rw [h3] at h4;exact RI h4 (QZ dc_ h1)
theorem e18:(10:Nat) ^ 18=1000000000000000000:=by decide
theorem e9:(10:Nat) ^ 9=1000000000:=by decide
theorem tW {a b:Nat}(c:a<B9 ^ k)(d:b<B9 ^ k):a+b<B9 ^ (k+1):=by
 rw [RX];have:B9 ^ k*2<=B9 ^ k*B9:=R3 _ dc_;omega
theorem Nw (C:Mem)(l:Tabs C)(z w:Int)(k:Nat)(v:0<k)(hk:k<=40000)(f:z.natAbs<B9 ^ k)(g:w.natAbs<B9 ^ k):Gives cx.P 158 [af (txt z),af (txt w)] C (af (txt (z+w))):=by
 have aa:=bY f v;have ab:=bY g v;refine Ur func158 62 U3 fun w0=>Uh 1 [0,1] Z<|Ui 1 Z fun R a=>Ut (jN _ z 18 (Qz _)) U7<|C6 5 [0,1,5,6] a Z<|Uh 1 [0,1,5,16] Z<|G.cut (fun fr m o p=>(True)/\fr=[(0,[],af (txt z)),(1,[],af (txt w))]/\o=[]) ?_ (fun fr _ ac p _ q=>?_)
 ·refine G.cd (fun x=>?_) fun x=>?_
  ·have y:=PZ x;rw [aJ y];have L:=Ak y;rw [e18] at L;refine Ui 1 Z fun R a=>Ut (jN _ w 18 (Qz _)) U7<|C6 5 [0,1,5,7,8] a Z<|Uh 1 [0,1,5,7,22] Z<|G.cd (fun A=>?_) fun A=>?_
   ·have B:=PZ A;rw [aJ B];have M:=Ak B;rw [e18] at M;exact Ui 2 Z fun R a=>Uq _ Z U6<|Uu (sG _ l.m_ (z+w) om_ om_) U7 fl_<|C6 1 [4] a Z<|Up U2<|⟨Z,Z⟩
   refine Ux 0 (Mem.le.refl _) (hn_ [0,1] Z) ⟨trivial,Z,Z⟩
  refine Ux 0 (Mem.le.refl _) (hn_ [0,1] Z) ⟨trivial,Z,Z⟩
 obtain ⟨_,rfl,rfl⟩:=q;refine Ui 1 Z fun R a=>UK (jf _ z om_) U7 fl_ fun ad _ _ N=>Uk U6<|UK (jf _ w om_) U7 fl_ fun ah _ _ O=>UB U5 fun D=>UB U5 (fun E=>?_);obtain ⟨pz,rfl,d⟩:=N;obtain ⟨pw,rfl,e⟩:=O;obtain ⟨Az,mz,cz,rfl⟩:=d.form;obtain ⟨Aw,mw,cw,rfl⟩:=e.form;refine Us (j:=1) U12<|Us (j:=1) U12<|Un [9,10] a Z<|Ui 1 Z fun R a=>Uo ae U9<|Uk U6<|Uo ag U9<|C6 1 [9,10,35] a Z<|G.cd (fun r=>?_) fun r=>?_
 ·have i:decide (z<0)=decide (w<0):=by simpa using r
  refine UD [0,1,2,3,4,5,6,7,8,9] [(8,1)] Z kr_ fun R Q a=>Uk U6<|Uo ae U9<|Uk U6<|Uo ae U9<|Uk U6<|Uo ag U9<|UK (Ls (k:=k) _ d.m_ e.m_ f g om_) U7 fl_ (fun ai _ _ F=>?_);obtain ⟨S,T,U,rfl⟩:=F.form;exact UA [.bool (decide (z<0)),_] U8<|UG (fun _=>(kb _ l.m_ _ _ _ F (dG (k:=100000) (n:=k+1) (tW f g) om_))) U9<|C6 1 [4] a Z<|Up U2<|⟨by rw [Fy i],Z⟩
 have i:decide (z<0)≠decide (w<0):=by simpa using r
 refine Ui 1 Z fun R a=>Uo ae U9<|Uk U6<|Uo ag U9<|Ut (pN _ d.m_ e.m_) U7<|C6 1 [9,10,50] a Z<|G.cut (fun fr m o p=>∃ (b c:Int)(s t:Value),(NineC m s b.natAbs/\NineC m t c.natAbs/\c.natAbs<=b.natAbs/\b+c=z+w/\decide (b<0)≠decide (c<0)/\b.natAbs<B9 ^ k)/\fr=[(9,[],.pointer (some ⟨D,0,none⟩)),(10,[],.pointer (some ⟨E,0,none⟩))]/\o=[.obj E (.cells ⟨[.bool (decide (c<0)),t]⟩ 273 (0,0)),.obj D (.cells ⟨[.bool (decide (b<0)),s]⟩ 273 (0,0))]) ?_ (fun fr _ aj p _ q=>?_)
 ·refine G.cd (fun u=>?_) fun u=>?_
  ·have H:z.natAbs<w.natAbs:=by
    have:jO z.natAbs w.natAbs<0:=by simpa using u
    exact je.1 this
   refine Ul fun R a=>Uo ag U9<|Uo ae U9<|Us (j:=1) U12<|Us (j:=1) U12<|Un [9,10] a Z<|Ux 0 mup (hn_ [9,10] Z) ⟨w,z,_,_,⟨e.mono mup,d.mono mup,by omega,Int.add_comm w z,Ne.symm i,g⟩,Z,Z⟩
  have H:w.natAbs<=z.natAbs:=by
   have h:¬ jO z.natAbs w.natAbs<0:=by simpa using u
   rw [je] at h;omega
  refine Ux 0 mup (hn_ [9,10] Z) ⟨z,w,_,_,⟨d.mono mup,e.mono mup,H,Z,i,f⟩,Z,Z⟩
 obtain ⟨b ,c ,s ,t,⟨I,J,V,W,X,Y⟩,rfl,rfl⟩:=q;obtain ⟨ak,al,am,rfl⟩:=I.form;obtain ⟨an,ao,ap,rfl⟩:=J.form;refine UD [0,1,2,3,4,5,6,7,8,9] [(8,1)] Z kr_ fun R Q a=>Uk U6<|Uo ae U9<|Uk U6<|Uo ae U9<|Uk U6<|Uo ag U9<|UK (uF (k:=k) _ I.m_ J.m_ Y V om_) U7 fl_ (fun aq _ _ K=>?_);obtain ⟨S,T,U,rfl⟩:=K.form;exact UA [.bool (decide (b<0)),_] U8<|UG (fun _=>(kb _ l.m_ _ _ _ K (dG (k:=100000) (n:=k) om_ om_))) U9<|C6 1 [4] a Z<|Up U2<|⟨by rw [Fz X om_,W],Z⟩
theorem FA (z w:Int):sgZ (decide (z<0) != decide (w<0)) (z.natAbs*w.natAbs)=z*w:=by
 unfold sgZ;have h1:z=if z<0 then -(z.natAbs:Int) else (z.natAbs:Int):=by split <;> omega
 have h2:w=if w<0 then -(w.natAbs:Int) else (w.natAbs:Int):=by split <;> omega
 by_cases a:z<0 <;> by_cases b:w<0
 ·rw [QV a,QV b,aF dc_];rw [aJ a] at h1;rw [aJ b] at h2;rw [Ra]
  conv=>rhs;rw [h1,h2]
  rw [Int.neg_mul_neg]
 ·rw [QV a,Q6 b,aJ dc_];rw [aJ a] at h1;rw [aF b] at h2;rw [Ra]
  conv=>rhs;rw [h1,h2]
  rw [Int.neg_mul]
 ·rw [Q6 a,QV b,aJ dc_];rw [aF a] at h1;rw [aJ b] at h2;rw [Ra]
  conv=>rhs;rw [h1,h2]
  rw [Int.mul_neg]
 rw [Q6 a,Q6 b,aF dc_];rw [aF a] at h1;rw [aF b] at h2;rw [Ra]
 conv=>rhs;rw [h1,h2]
theorem oq {a b:Nat}(c:a<B9 ^ k)(d:b<B9 ^ k):a*b<B9 ^ (k+k):=by
 rw [S9];exact Si c d
theorem F2 (a:z.natAbs<1000000000)(b:w.natAbs<1000000000):-1000000000000000000<z*w/\z*w<1000000000000000000:=by
 have h:z.natAbs*w.natAbs<=999999999*999999999:=R0 om_ om_;rw [<- R8] at h;omega
theorem kT (C:Mem)(d:Tabs C)(z w:Int)(k:Nat)(e:0<k)(x:k<=40000)(b:z.natAbs<B9 ^ k)(c:w.natAbs<B9 ^ k):Gives cx.P 124 [af (txt z),af (txt w)] C (af (txt (z*w))):=by
 have y:=bY b e;have A:=bY c e;refine Ur func124 43 U3 fun w0=>Uh 1 [0,1] Z<|Ui 1 Z fun R a=>Uu (jN _ z 9 om_) U7 fl_<|C6 5 [0,1,5,6] a Z<|Uh 1 [0,1,5,16] Z<|G.cut (fun fr B r s=>(True)/\fr=[(0,[],af (txt z)),(1,[],af (txt w))]/\r=[]) ?_ (fun fr _ D s _ t=>?_)
 ·refine G.cd (fun f=>?_) fun f=>?_
  ·have g:=PZ f;rw [aJ g];have h:=Ak g;rw [e9] at h;refine Ui 1 Z fun R a=>Uu (jN _ w 9 om_) U7 fl_<|C6 5 [0,1,5,7,8] a Z<|Uh 1 [0,1,5,7,22] Z<|G.cd (fun i=>?_) fun i=>?_
   ·have l:=PZ i;rw [aJ l];have m:=Ak l;rw [e9] at m;have E:=F2 h m;exact Ui 2 Z fun R a=>UQ ((z*w)) U4 om_ om_ om_ U2<|Uu (sG _ d.m_ (z*w) om_ om_) U7 fl_<|C6 1 [4] a Z<|Up U2<|⟨Z,Z⟩
   refine Ux 0 (Mem.le.refl _) (hn_ [0,1] Z) ⟨trivial,Z,Z⟩
  refine Ux 0 (Mem.le.refl _) (hn_ [0,1] Z) ⟨trivial,Z,Z⟩
 obtain ⟨_,rfl,rfl⟩:=t;refine Ui 1 Z fun R a=>UK (jf _ z om_) U7 fl_ fun F _ _ u=>Uk U6<|UK (jf _ w om_) U7 fl_ fun H _ _ v=>UB U5 fun I=>UB U5 (fun J=>?_);obtain ⟨K,rfl,o⟩:=u;obtain ⟨L,rfl,p⟩:=v;obtain ⟨M,N,O,rfl⟩:=o.form;obtain ⟨Q,S,T,rfl⟩:=p.form;refine Us (j:=1) U12<|Us (j:=1) U12<|Un [9,10] a Z<|UD [0,1,2,3,4,5,6,7,8,9,10,11,12] [(11,1)] Z kr_ fun R U a=>Uk U6<|Uo ae U9<|Uk U6<|Uo ag U9<|Um 2 Z<|Uo ae U9<|Uk U6<|Uo ag U9<|UK (E9 (k:=k) _ o.m_ p.m_ b c om_) U7 fl_ (fun V _ _ q=>?_);obtain ⟨W,X,Y,rfl⟩:=q.form;exact UA [.bool (decide (z<0) != decide (w<0)),_] U8<|UG (fun _=>(kb _ d.m_ _ _ _ q (dG (k:=100000) (n:=k+k) (oq b c) om_))) U9<|C6 1 [4] a Z<|Up U2<|⟨by rw [FA],Z⟩
def Hy (z w:Int):Nat:=if z<0/\z.natAbs % w.natAbs≠0 then z.natAbs / w.natAbs+1 else z.natAbs / w.natAbs
def CA (z w:Int):Nat:=if z<0/\z.natAbs % w.natAbs≠0 then w.natAbs-z.natAbs % w.natAbs else z.natAbs % w.natAbs
theorem Hx (i:0<w):sgZ (decide (z<0) != decide (w<0)) (Hy z w)=z / w/\(CA z w:Int)=z % w:=by
 obtain ⟨n,rfl⟩:∃ n:Nat,w=n:=⟨w.natAbs,by omega⟩;have f:0<n:=by omega
 rw [Q6 (by omega:¬ ((n:Nat):Int)<0),Bool.bne_false];have h1:=TE z.natAbs n;have h2:=Rj z.natAbs f;obtain ⟨q,d⟩:∃ q,z.natAbs / n=q:=⟨_,rfl⟩;obtain ⟨r,hr⟩:∃ r,z.natAbs % n=r:=⟨_,rfl⟩;have g:sgZ (decide (z<0)) (Hy z n)=z / n/\(CA z n:Int)=z % n:=by
  have h3:=(Int.ediv_emod_unique (a:=z) (r:=(CA z n:Int)) (q:=sgZ (decide (z<0)) (Hy z n)) (by omega:(0:Int)<(n:Int))).2;have h4:(CA z n:Int)+(n:Int)*sgZ (decide (z<0)) (Hy z n)=z/\0<=(CA z n:Int)/\(CA z n:Int)<(n:Int):=by
   unfold Hy CA sgZ;simp only [Rp];rw [d,hr];rw [hr,d] at h1;rw [hr] at h2;have h5:((r+n*q:Nat):Int)=(z.natAbs:Int):=by rw [h1]
   rw [Tg,Ra] at h5;by_cases b:z<0
   ·rw [QV b,aJ rfl];by_cases c:r=0
    ·subst c;rw [aF al,aF al];rw [Int.mul_neg];omega
    rw [aJ ⟨b,c⟩,aJ ⟨b,c⟩];rw [Int.mul_neg,Tg,TQ];omega
   rw [Q6 b,aF (fun h:z<0/\r≠0=>b h.1),aF (fun h:z<0/\r≠0=>b h.1),aF dc_];omega
  have e:=h3 h4;exact ⟨e.1.symm,e.2.symm⟩
 exact g
theorem sK (C:Mem)(u:Tabs C)(z w:Int)(k:Nat)(f:0<k)(hk:k<=40000)(g:z.natAbs<B9 ^ k)(i:w.natAbs<B9 ^ k)(v:0<w):Gives cx.P 187 [af (txt z),af (txt w)] C (.tuple #[af (txt (z / w)),af (txt (z % w)),.int .i64 0]):=by
 have aj:=bY g f;have ak:=bY i f;have l:0<w.natAbs:=by omega
 refine Ur func187 50 U3 fun w0=>Uh 3 [0,1] Z<|Uh 2 [0,1,12] Z<|G.cd (fun m=>?_) fun m=>?_
 ·have h:=lE w;rw [h] at m;have:w=0:=PZ m;omega
 refine Ui 1 Z fun R a=>UK (jf _ z om_) U7 fl_ fun al _ _ K=>Uk U6<|UK (jf _ w om_) U7 fl_ fun am _ _ L=>UB U5 fun y=>UB U5 (fun A=>?_);obtain ⟨pz,rfl,B⟩:=K;obtain ⟨pw,rfl,o⟩:=L;obtain ⟨M,N,O,rfl⟩:=B.form;obtain ⟨Q,S,T,rfl⟩:=o.form;refine Us (j:=1) U12<|Us (j:=1) U12<|Un [7,8] a Z<|Ui 1 Z fun R a=>Uo ae U9<|Uk U6<|Uo ag U9<|UK (yc _ _ _ _ _ B.m_ o.m_ (dG (k:=100000) (n:=k) g om_) l) U7 fl_ (fun an _ _ U=>?_);obtain ⟨vq,vr,rfl,D,p⟩:=U;refine C6 5 [7,8,9,10] a Z ?_;obtain ⟨b,V,W,X⟩:=id p;obtain ⟨Ar,cr,E,_⟩:=id X;rw [ar] at E;subst E;have F:b.length=0 ↔ z.natAbs % w.natAbs=0:=by
  rw [<- W,CP V];exact TN
 refine Ui 1 Z fun R a=>Uo ae U9<|Um 4 Z<|UJ U8<|Un [7,8,9,10,31] a Z<|G.cut (fun fr H Y μ=>∃ (q r:Value),(NineC H q (Hy z w)/\NineC H r (CA z w))/\fr=[(7,[],.pointer (some ⟨y,0,none⟩)),(8,[],.pointer (some ⟨A,0,none⟩)),(9,[],q),(10,[],r)]/\Y=[.obj A (.cells ⟨[.bool (decide (w<0)),.slice Q S T]⟩ 273 (0,0)),.obj y (.cells ⟨[.bool (decide (z<0)),.slice M N O]⟩ 273 (0,0))]) ?_ (fun fr _ ao μ _ hI=>?_)
 ·refine G.cd (fun d=>?_) fun d=>?_
  ·have c:z<0/\z.natAbs % w.natAbs≠0:=by
    have h:decide (z<0)=true/\0<b.length:=by simpa using d
    exact ⟨PZ h.1,fun e=>by have:=F.2 e;omega⟩
   have s:Hy z w=z.natAbs / w.natAbs+1:=aJ c;have t:CA z w=w.natAbs-z.natAbs % w.natAbs:=aJ c;have aa:z.natAbs / w.natAbs<B9 ^ k:=Rw (RG _ _) g;refine UD [0,3,4,5,1,2,6,7,8] [] Z kr_ fun R hB a=>Um 2 Z<|Uo ag U9<|Uk U6<|UF [cN 1] U12 fun ap _ _ ab=>UK (Ls (k:=k) _ D.m_ (⟨[1],⟨(fun x hx=>(by rw [QY.1 hx];decide)),by simp⟩,Z,ab.mono mup⟩:NineC _ _ 1) aa (RI (by decide:1<B9 ^ 1) (QZ dc_ f)) om_) U7 fl_ fun aq _ _ ac=>UK (uF (k:=k) _ o.m_ p.m_ i (TG (Rj _ l)) om_) U7 fl_ fun au _ _ ad=>Um 2 Z<|Un [7,8,9,10] a Z ?_;clear a hB R;refine Ux 0 mup (hn_ [7,8,9,10] Z) ⟨_,_,⟨by rw [s];exact ac.mono mup,by rw [t];exact ad.mono mup⟩,Z,Z⟩
  have c:¬ (z<0/\z.natAbs % w.natAbs≠0):=fun h=>by
   have h2:0<b.length:=by
    rcases RM b.length with h3 | h3
    ·exact absurd (F.1 h3) h.2
    exact h3
   have h3:(decide (z<0) && decide ((0:Int)<(b.length:Int)))=true:=by
    rw [QV h.1,QV om_];rfl
   rw [h3] at d;cases d
  have s:Hy z w=z.natAbs / w.natAbs:=aF c;have t:CA z w=z.natAbs % w.natAbs:=aF c;refine Ux 0 mup (hn_ [7,8,9,10] Z) ⟨_,_,⟨by rw [s];exact D.mono mup,by rw [t];exact p.mono mup⟩,Z,Z⟩
 obtain ⟨q ,r,⟨I,J⟩,rfl,rfl⟩:=hI;obtain ⟨A9,m9,c9,rfl⟩:=I.form;obtain ⟨av,aw,ax,rfl⟩:=J.form;have ah:Hy z w<B9 ^ 100000:=by
  have h1:z.natAbs / w.natAbs<=z.natAbs:=RG _ _;have h2:Hy z w<=z.natAbs+1:=by unfold Hy;split <;> omega
  have h3:B9 ^ k*2<=B9 ^ (k+1):=by rw [RX];exact R3 _ dc_
  have h4:z.natAbs+1<B9 ^ (k+1):=by have:=S7 (n:=k) (show 0<B9 by decide);omega
  exact dG (k:=100000) (n:=k+1) (Rw h2 h4) om_
 have ai:CA z w<B9 ^ 100000:=by
  have h1:=Rj z.natAbs l;have h2:CA z w<=w.natAbs:=by unfold CA;split <;> omega
  exact dG (k:=100000) (n:=k) (Rw h2 i) om_
 refine Ui 1 Z fun R a=>Uo ae U9<|Uk U6<|Uo ag U9<|Um 2 Z<|UA [.bool (decide (z<0) != decide (w<0)),_] U8<|Ut (kb _ u.m_ _ _ _ I.m_ ah) U7<|Uk U6<|UA [.bool false,_] U8<|Ut (kb _ u.m_ _ _ _ J.m_ ai) U7<|C6 3 [4,5,6] a Z<|Uv (G.dropAll (Vi U4 ?_));refine ⟨?_,Z⟩;rw [(Hx v).1,show sgZ false (CA z w)=z % w from (Hx v).2]
theorem KL (a:yH l)(b:bB l=n):0<l.length ↔ 0<n:=by
 have h:=CP a;rw [b] at h;have h2:l.length=0 ↔ n=0:=by rw [h];exact TN
 omega
theorem G5 (C:Mem)(s:Tabs C)(z w:Int)(k:Nat)(t:0<k)(hk:k<=40000)(u:z.natAbs<B9 ^ k)(v:w.natAbs<B9 ^ k):Gives cx.P 162 [af (txt z),af (txt w)] C (af (txt (Nat.gcd z.natAbs w.natAbs:Nat))):=by
 have ac:=bY u t;have ad:=bY v t;refine Ur func162 56 U3 fun w0=>Uh 1 [0,1] Z<|Ui 1 Z fun R a=>Ut (jN _ z 18 (Qz _)) U7<|C6 5 [0,1,5,6] a Z<|Uh 1 [0,1,5,18] Z<|G.cut (fun fr g d e=>(True)/\fr=[(0,[],af (txt z)),(1,[],af (txt w))]/\d=[]) ?_ (fun fr _ ae e _ f=>?_)
 ·refine G.cd (fun A=>?_) fun A=>?_
  ·have B:=PZ A;rw [aJ B];have E:=Ak B;rw [e18] at E;refine Ui 1 Z fun R a=>Ut (jN _ w 18 (Qz _)) U7<|C6 5 [0,1,5,7,8] a Z<|Uh 1 [0,1,5,7,24] Z<|G.cd (fun F=>?_) fun F=>?_
   ·have H:=PZ F;rw [aJ H];have I:=Ak H;rw [e18] at I;refine G.loop (fun fr g d e=>∃ (x y:Int),(x.natAbs<1000000000000000000/\y.natAbs<1000000000000000000/\Nat.gcd x.natAbs y.natAbs=Nat.gcd z.natAbs w.natAbs)/\fr=[(5,[],.int .i64 x),(7,[],.int .i64 y)]/\d=[]/\e=y.natAbs+1) (hn_ [5,7] Z) ⟨z,w,⟨E,I,Z⟩,Z,Z,Z⟩ (fun fr ag ah m L f=>?_);obtain ⟨x,y,⟨ai,M,c⟩,rfl,rfl,rfl⟩:=f;refine Uh 2 [5,7,26] Z<|G.cd (fun j=>?_) fun j=>?_
    ·have b:y≠0:=by simpa using j
     have N:(x.tmod y).natAbs=x.natAbs % y.natAbs:=Ti x y;have O:=Rj x.natAbs (show 0<y.natAbs by omega);refine UD [0,1,2,3,4,5] [] Z kr_ fun R hB a=>Um 3 Z<|Vo (x.tmod y) U6 b U3<|C6 2 [5,7] a Z<|Uw (m':=(x.tmod y).natAbs+1) om_ L (hn_ [5,7] Z) ⟨y,x.tmod y,⟨M,by omega,by rw [N,<- c,SL x.natAbs,TR y.natAbs x.natAbs,SL]⟩,Z,Z,Z⟩
    have b:y=0:=by simpa using j
    subst b;rw [show (0:Int).natAbs=0 from rfl,Tb] at c;refine Ui 3 Z fun R a=>?_;have aj:IntKind.i64.wrap (0-x)=0-x:=wrap_i64 om_ om_;exact D.max ((x.natAbs:Int)) U6 om_ U2<|Uu (sG _ s.m_ (x.natAbs:Int) om_ om_) U7 fl_<|C6 1 [4] a Z<|Up U2<|⟨by rw [c],Z⟩
   refine Ux 0 (Mem.le.refl _) (hn_ [0,1] Z) ⟨trivial,Z,Z⟩
  refine Ux 0 (Mem.le.refl _) (hn_ [0,1] Z) ⟨trivial,Z,Z⟩
 obtain ⟨_,rfl,rfl⟩:=f;refine Ui 1 Z fun R a=>UK (jf _ z om_) U7 fl_ (fun ak _ _ Q=>?_);obtain ⟨pz,rfl,S⟩:=Q;refine Vx U12<|Uk U6<|UK (jf _ w om_) U7 fl_ (fun al _ _ T=>?_);obtain ⟨pw,rfl,U⟩:=T;refine Vx U12<|C6 2 [9,10] a Z<|G.loop (fun fr g d e=>∃ (x y:Nat)(o p:Value),(NineC g o x/\NineC g p y/\x<B9 ^ k/\y<B9 ^ k/\Nat.gcd x y=Nat.gcd z.natAbs w.natAbs)/\fr=[(9,[],o),(10,[],p)]/\d=[]/\e=y+1) (hn_ [9,10] Z) ⟨_,_,_,_,⟨S.mono mup,U.mono mup,u,v,Z⟩,Z,Z,Z⟩ (fun fr am an m _ f=>?_);obtain ⟨x,y,o,p,⟨q,i,J,K,c⟩,rfl,rfl,rfl⟩:=f;obtain ⟨l,V,W,X⟩:=id i;obtain ⟨ao,ap,rfl,_⟩:=id X;rw [ar] at i ⊢;have Y:=KL V W;refine Uh 3 [9,10,44] Z<|G.cd (fun r=>?_) fun r=>?_
 ·have b:0<y:=Y.1 (by simpa using r);have O:=Rj x b;refine Ui 2 Z fun R a=>UK (yc _ _ _ _ _ q.m_ i.m_ (dG (k:=100000) (n:=k) J om_) b) U7 fl_ (fun aq _ _ aa=>?_);obtain ⟨vq,vr,rfl,au,ab⟩:=aa;refine C6 5 [10,12] a Z<|Uh 4 [9,10] Z<|Uw (m':=x % y+1) om_ mup (hn_ [9,10] Z) ⟨y,x % y,_,_,⟨i.mono mup,ab.mono mup,K,SM (Rj _ b) K,by rw [<- c,SL x,TR y x,SL]⟩,Z,Z,Z⟩
 have b:y=0:=by
  have h:¬ 0<l.length:=by simpa using r
  omega
 subst b;rw [Tb] at c;obtain ⟨A9,m9,c9,rfl⟩:=q.form;exact Ui 1 Z fun R a=>UA [.bool false,_] U8<|Uu (kb _ s.m_ _ _ _ q.m_ (dG (k:=100000) (n:=k) J om_)) U7 fl_<|C6 1 [4] a Z<|Up U2<|⟨by rw [c];rfl,Z⟩
def se (sg:Bool)(A:Str)(B:Option Str):Value :=
 if LI A B then .tuple #[.int .i64 (sgZ sg (bP A)),.int .i64 (PB B),.bool true] else .tuple #[.int .i64 0,.int .i64 0,.bool false]
theorem Dy (C:Mem)(d:Bool)(A:Str)(B:Option Str)(q:∀ c∈A,eG c=true)(U:A≠[])(V:∀ b,B=some b->∀ c∈b,eG c=true)(W:(DH d++A++df B).length<=1000000) :
  Gives cx.P 120 [af (DH d++A++df B)] C (se d A B):=by
 obtain ⟨s,hs⟩:∃ s,DH d++A++df B=s:=⟨_,rfl⟩;obtain ⟨p,t⟩:∃ p,(DH d).length=p:=⟨_,rfl⟩;have g:p=if d then 1 else 0:=by rw [<- t];cases d <;> rfl
 have u:∀ j c,A[j]?=some c->s[p+j]?=some c:=fun j c h=>by rw [<- hs,<- t];exact F4 _ _ _ h
 have O:∀ j,s[p+A.length+j]?=(df B)[j]?:=fun j=>by rw [<- hs,<- t];exact BK _ _ _ _
 have y:s.length=p+A.length+(df B).length:=by rw [<- hs,<- t,QG,QG]
 have X:0<A.length:=Rn.2 U;rw [hs] at W ⊢;refine Ur func120 73 U3 fun w0=>Uh 3 [0,2,3] Z<|Uh 2 [0,2,3,5,6] Z<|Ui 5 Z fun R a=>UZ (b:=s.getD 0 0) U8 (fun _=>⟨by omega,(by rw [am,show (0:Int).toNat=0 from rfl];obtain ⟨c,f⟩:∃ c,s[0]?=some c:=⟨s[0]'om_,aj om_⟩;rw [f];rfl)⟩) U2<|Uk U6<|UJ U8<|Un [0,2,3,5,6,15] a Z<|G.cut (fun fr z i k=>(True)/\fr=[(0,[],af s),(2,[],.int .i64 0),(3,[],.int .i64 0),(5,[],.int .i64 p),(6,[],.bool d)]/\i=[]) ?_ (fun fr _ ae k _ l=>?_)
 ·refine G.cd (fun v=>?_) fun v=>?_
  ·have n:d=true:=by
    cases d with
    | true=>rfl
    | false =>
     exfalso;rw [aF dc_] at g;subst g;obtain ⟨c,f⟩:∃ c,A[0]?=some c:=⟨A[0],aj X⟩;have h1:=u 0 c f;have h2:=q c (aX f);rw [Sh] at h1;rw [am,h1] at v;unfold eG at h2;simp at v h2;omega
   subst n;rw [aJ rfl] at g;subst g;refine Uh 2 [0,2,3,5,6] Z<|Ux 0 (Mem.le.refl _) (hn_ [0,2,3,5,6] Z) ⟨trivial,Z,Z⟩
  have n:d=false:=by
   cases d with
   | false=>rfl
   | true =>
    exfalso;have h1:s[0]?=some 45:=by rw [<- hs];rfl
    rw [aJ rfl] at g;have h2:(decide ((0:Int)<((s.length:Nat):Int)) && decide ((((s.getD 0 0).toNat:Nat):Int)=45))=false:=by simpa using v
    rw [am,h1,QV om_] at h2;exact absurd h2 dc_
  subst n;rw [aF dc_] at g;subst g;refine Ux 0 (Mem.le.refl _) (hn_ [0,2,3,5,6] Z) ⟨trivial,Z,Z⟩
 obtain ⟨_,rfl,rfl⟩:=l;refine Uh 2 [0,2,3,5,6,7] Z<|G.loop (fun fr z i k=>∃ (j:Nat),(j<=A.length/\j<=9)/\fr=[(0,[],af s),(2,[],.int .i64 ((bP (A.take j):Nat):Int)),(3,[],.int .i64 0),(5,[],.int .i64 ((p+j:Nat):Int)),(6,[],.bool d),(7,[],.int .i64 p)]/\i=[]/\k=A.length-j+1) (hn_ [0,2,3,5,6,7] Z) ⟨0,⟨by omega,by omega⟩,Z,Z,Z⟩ (fun fr ag ah m Y l=>?_);obtain ⟨j,⟨hj,w⟩,rfl,rfl,rfl⟩:=l;obtain ⟨c,f⟩:∃ c,p+j<s.length->s[p+j]?=some c:=⟨s.getD (p+j) 0,fun h=>by rw [am,aj h];rfl⟩;refine Ui 7 Z fun R a=>UZ (b:=c) U8 (fun hg=>⟨by omega,f (by have h:decide (((p+j:Nat):Int)<((s.length:Nat):Int))=true:=hg.1;have h2:=PZ h;omega)⟩) U2<|Uk U6<|UJ U8<|Un [0,2,3,5,6,7,26] a Z<|G.cd (fun x=>?_) fun x=>?_
 ·have E:p+j<s.length/\c.toNat≠47:=by
   simp at x;omega
  have F:j<A.length:=by
   rcases Q1 j A.length with h | h
   ·exact h
   exfalso;obtain rfl:j=A.length:=by omega
   have h1:=f E.1;have h2:=O 0;rw [Sh,h1] at h2;cases B with
   | none=>simp [df] at h2
   | some b =>
    simp [df] at h2;subst h2;exact E.2 Z
  obtain ⟨e,o⟩:∃ c,A[j]?=some c:=⟨A[j],aj F⟩;obtain rfl:e=c:=by
   have h1:=f E.1;rw [u j e o] at h1;exact R6 h1
  have Q:48<=e.toNat/\e.toNat<=57:=by simpa [eG] using q e (aX o)
  have hV:=mF q w;refine Ui 2 Z fun R a=>Uq _ Z U6<|C6 1 [0,2,3,5,6,7,32] a Z<|G.cd (fun H=>?_) fun H=>?_
  ·have r:¬ A.length<=9:=by
    have:((p+j:Nat):Int)-p=9:=by simpa using H
    omega
   refine Uh 3 [2,3,4] Z<|Uv (G.dropAll (Vi U4 ?_));refine ⟨?_,Z⟩;unfold se LI;rw [Q6 r,Bool.false_and,aF dc_]
  have r:j≠9:=by
   have:¬ ((p+j:Nat):Int)-p=9:=by simpa using H
   omega
  refine Ui 1 Z fun R a=>Uq _ Z U6<|Um 2 Z<|UZ U8 (fun _=>⟨by omega,u j _ o⟩) U2<|D.int (((e.toNat:Nat):Int)-48) U4 (by rw [IntKind.wrap_u8];omega) U2<|UU (c:=((e.toNat:Nat):Int)-48) U8 (by rw [IntKind.wrap_i64];omega) fl_<|Uq _ Z U6<|C6 1 [0,2,3,5,6,7] a Z<|Ui 1 Z fun R a=>Uq _ Z U6<|C6 1 [0,2,3,5,6,7] a Z ?_;rw [show 10*((bP (A.take j):Nat):Int)+(((e.toNat:Nat):Int)-48)=((bP (A.take (j+1)):Nat):Int) by rw [oA o];omega];refine Uw (m':=A.length-(j+1)+1) om_ Y (hn_ [0,2,3,5,6,7] Z) ⟨j+1,⟨by omega,by omega⟩,Z,Z,Z⟩
 have F:j=A.length:=by
  rcases Q1 j A.length with h | h
  ·exfalso;obtain ⟨e,o⟩:∃ c,A[j]?=some c:=⟨A[j],aj h⟩;have h1:=f om_;rw [u j e o] at h1;obtain rfl:=R6 h1;have Q:48<=e.toNat/\e.toNat<=57:=by simpa [eG] using q e (aX o)
   simp at x;have:=x om_;omega
  omega
 subst F;rw [QM];refine Uh 1 [0,2,3,5,41] Z<|G.cut (fun fr z i k=>(True)/\fr=[(0,[],af s),(2,[],.int .i64 (sgZ d (bP A))),(3,[],.int .i64 0),(5,[],.int .i64 ((p+A.length:Nat):Int))]/\i=[]) ?_ (fun fr _ ai k _ l=>?_)
 ·refine G.cd (fun I=>?_) fun I=>?_
  ·have n:d=true:=I;subst n;have aa:=mF q w;rw [QM] at aa;refine Uh 3 [0,2,3,5] Z ?_;rw [show IntKind.i64.wrap (0-((bP A:Nat):Int))=sgZ true (bP A) by rw [wrap_i64 om_ om_];unfold sgZ;rw [aJ rfl];omega];refine Ux 0 (Mem.le.refl _) (hn_ [0,2,3,5] Z) ⟨trivial,Z,Z⟩
  have n:d=false:=by simpa using I
  subst n;refine Ux 0 (Mem.le.refl _) (hn_ [0,2,3,5] Z) ⟨trivial,Z,Z⟩
 obtain ⟨_,rfl,rfl⟩:=l;refine Uh 4 [0,2,3,5,47] Z<|G.cd (fun J=>?_) fun J=>?_
 ·have ab:B=none:=by
   cases B with
   | none=>rfl
   | some b =>
    exfalso;have:p+A.length=s.length:=by simp at J;omega
    rw [y] at this;simp [df] at this
  subst ab;refine Uh 4 [2,3,4] Z<|Uv (G.dropAll (Vi U4 ?_));refine ⟨?_,Z⟩;unfold se LI;rw [QV w];rfl
 obtain ⟨b,rfl⟩:∃ b,B=some b:=by
  cases B with
  | some b=>exact ⟨b,rfl⟩
  | none =>
   exfalso;simp [y,df] at J
 have S:=V b rfl;have ak:s.length=p+A.length+1+b.length:=by rw [y];simp [df];omega
 refine Ui 1 Z fun R a=>Uq _ Z U6<|C6 1 [0,2,3,5,7] a Z<|Ui 1 Z fun R a=>Uq _ Z U6<|C6 1 [0,2,3,5,7] a Z<|G.loop (fun fr z i k=>∃ (j:Nat),(j<=b.length/\j<=9)/\fr=[(0,[],af s),(2,[],.int .i64 (sgZ d (bP A))),(3,[],.int .i64 ((bP (b.take j):Nat):Int)),(5,[],.int .i64 ((p+A.length+1+j:Nat):Int)),(7,[],.int .i64 ((p+A.length+1:Nat):Int))]/\i=[]/\k=b.length-j+1) (hn_ [0,2,3,5,7] Z) ⟨0,⟨by omega,by omega⟩,Z,Z,Z⟩ (fun fr al an m ac l=>?_);obtain ⟨j,⟨hk,T⟩,rfl,rfl,rfl⟩:=l;refine Uh 4 [0,2,3,5,7,56] Z<|G.cd (fun K=>?_) fun K=>?_
 ·have L:j<b.length:=by
   have:p+A.length+1+j<s.length:=by simp at K;omega
   omega
  obtain ⟨c,M⟩:∃ c,b[j]?=some c:=⟨b[j],aj L⟩;have ad:s[p+A.length+1+j]?=some c:=by rw [SR,O,SP 1 j];exact M
  have Q:48<=c.toNat/\c.toNat<=57:=by simpa [eG] using S c (aX M)
  have hV:=mF S T;refine Ui 2 Z fun R a=>Uq _ Z U6<|C6 1 [0,2,3,5,7,62] a Z<|G.cd (fun N=>?_) fun N=>?_
  ·have r:¬ b.length<=9:=by
    have:((p+A.length+1+j:Nat):Int)-((p+A.length+1:Nat):Int)=9:=by simpa using N
    omega
   refine Uh 3 [2,3,4] Z<|Uv (G.dropAll (Vi U4 ?_));refine ⟨?_,Z⟩;unfold se LI;rw [show (some b).getD []=b from rfl,Q6 r,Bool.and_false,aF dc_]
  have r:j≠9:=by
   have:¬ ((p+A.length+1+j:Nat):Int)-((p+A.length+1:Nat):Int)=9:=by simpa using N
   omega
  refine Ui 1 Z fun R a=>Uq _ Z U6<|Um 2 Z<|UZ U8 (fun _=>⟨by omega,ad⟩) U2<|D.int (((c.toNat:Nat):Int)-48) U4 (by rw [IntKind.wrap_u8];omega) U2<|UU (c:=((c.toNat:Nat):Int)-48) U8 (by rw [IntKind.wrap_i64];omega) fl_<|Uq _ Z U6<|C6 1 [0,2,3,5,7] a Z<|Ui 1 Z fun R a=>Uq _ Z U6<|C6 1 [0,2,3,5,7] a Z ?_;rw [show 10*((bP (b.take j):Nat):Int)+(((c.toNat:Nat):Int)-48)=((bP (b.take (j+1)):Nat):Int) by rw [oA M];omega];refine Uw (m':=b.length-(j+1)+1) om_ ac (hn_ [0,2,3,5,7] Z) ⟨j+1,⟨by omega,by omega⟩,Z,Z,Z⟩
 have L:j=b.length:=by
  have:¬ p+A.length+1+j<s.length:=by simp at K;omega
  omega
 subst L;rw [QM];refine Uh 5 [2,3,4] Z<|Uv (G.dropAll (Vi U4 ?_));refine ⟨?_,Z⟩;unfold se LI;rw [show (some b).getD []=b from rfl,QV w,QV T];rfl
theorem lM {n:Int}(a:g ∣ n.natAbs):n.tdiv (g:Int)=n / (g:Int):=Int.tdiv_eq_ediv_of_dvd (S4.1 (Sn.2 a))
theorem wT {n:Int}(a:d≠0):qtx (mkRat n d)=txt (n / ((Nat.gcd n.natAbs d:Nat):Int))++df (mE (d / Nat.gcd n.natAbs d)):=by
 rw [pB,(uE n a).1,(uE n a).2]
theorem wJ (C:Mem)(e:Tabs C)(n:Int)(d:Nat)(o:0<d)(p:n.natAbs<9000000000000000000)(t:d<9000000000000000000):Gives cx.P 121 [.int .i64 n,.int .i64 d] C (af (qtx (mkRat n d))):=by
 obtain ⟨g,b⟩:∃ g,Nat.gcd n.natAbs d=g:=⟨_,rfl⟩;have u:0<g:=by rw [<- b];exact SZ _ o
 have q:g ∣ n.natAbs:=by rw [<- b];exact Ts _ _
 have v:g ∣ d:=by rw [<- b];exact Tx _ _
 have H:g<=d:=TS o v;rw [wT om_,b];refine Ur func121 35 U3 fun w0=>Uh 1 [0,1] Z<|Uh 4 [0,1,5,6] Z<|G.loop (fun fr w f h=>∃ (x y:Int),(x.natAbs<9000000000000000000/\y.natAbs<9000000000000000000/\Nat.gcd x.natAbs y.natAbs=g)/\fr=[(0,[],.int .i64 n),(1,[],.int .i64 d),(5,[],.int .i64 x),(6,[],.int .i64 y)]/\f=[]/\h=y.natAbs+1) (hn_ [0,1,5,6] Z) ⟨n,d,⟨p,by omega,by rw [Rp];exact b⟩,Z,Z,Z⟩ (fun fr I J m z i=>?_);obtain ⟨x,y,⟨K,A,r⟩,rfl,rfl,rfl⟩:=i;refine Uh 2 [0,1,5,6,10] Z<|G.cd (fun j=>?_) fun j=>?_
 ·have k:y≠0:=by simpa using j
  have B:(x.tmod y).natAbs=x.natAbs % y.natAbs:=Ti x y;have L:=Rj x.natAbs (show 0<y.natAbs by omega);refine UD [0,1,2,3,4,5] [] Z kr_ fun R D a=>Um 3 Z<|Vo (x.tmod y) U6 k U3<|C6 2 [0,1,5,6] a Z<|Uw (m':=(x.tmod y).natAbs+1) om_ z (hn_ [0,1,5,6] Z) ⟨y,x.tmod y,⟨A,by omega,by rw [B,<- r,SL x.natAbs,TR y.natAbs x.natAbs,SL]⟩,Z,Z,Z⟩
 have k:y=0:=by simpa using j
 subst k;rw [show (0:Int).natAbs=0 from rfl,Tb] at r;refine Uh 2 [0,1,5,16] Z<|G.cut (fun fr w f h=>(True)/\fr=[(0,[],.int .i64 n),(1,[],.int .i64 d),(5,[],.int .i64 g)]/\f=[]) ?_ (fun fr _ M h _ i=>?_)
 ·refine G.cd (fun l=>?_) fun l=>?_
  ·have E:x<0:=by simpa using l
   refine Uh 3 [0,1,5] Z ?_;rw [show IntKind.i64.wrap (0-x)=(g:Int) by rw [wrap_i64 om_ om_];omega];refine Ux 0 (Mem.le.refl _) (hn_ [0,1,5] Z) ⟨trivial,Z,Z⟩
  have E:¬ x<0:=by simpa using l
  rw [show x=(g:Int) by omega];refine Ux 0 (Mem.le.refl _) (hn_ [0,1,5] Z) ⟨trivial,Z,Z⟩
 obtain ⟨_,rfl,rfl⟩:=i;have F:(n / (g:Int)).natAbs<=n.natAbs:=by
  rw [SI (S4.1 (Sn.2 q)),Rp];exact RG _ _
 have s:=RG d g;refine UD [0,1,2,3,4,5,6,7] [] Z kr_ fun R D a=>Um 2 Z<|Vs (n / (g:Int)) U6 om_ (lM q) (wrap_i64 om_ om_) U2<|Um 2 Z<|Vn (d) (g) U6 u (.inl ⟨Z,by omega⟩) U2<|C6 2 [0,1] a Z<|Uh 2 [0,1,26] Z<|G.cd (fun c=>?_) fun c=>?_
 ·have h1:d / g=1:=by
   have h2:(((d / g:Nat):Int))=1:=by simpa using c
   omega
  refine Ui 1 Z fun R a=>Uu (fO _ e.m_ _ om_ om_) U7 fl_<|C6 1 [4] a Z<|Up U2<|⟨?_,Z⟩;rw [h1,jY rfl];simp [df]
 have h1:d / g≠1:=by
  intro h2;rw [h2] at c;exact absurd c dc_
 have N:=iV (n / (g:Int));have O:=iV ((d / g:Nat):Int);have Q:(bj (n / (g:Int)).natAbs).length<=20:=dR (Rw F (SM p dc_)) dc_;have S:(bj ((d / g:Nat):Int).natAbs).length<=20:=dR (by rw [Rp];exact Rw s (SM t dc_)) dc_;refine Ui 1 Z fun R a=>Uu (fO _ e.m_ _ om_ om_) U7 fl_<|Vb U6 (fun _=>(by simp only [QT,Re];omega)) U2<|Uk U6<|Uu (fO _ e.m_ ((d / g:Nat):Int) (TH dc_ (Ub _)) (TH (Int.ofNat_le.2 s) om_)) U7 fl_<|Vb U6 (fun _=>(by simp only [QG,QT,Re];omega)) U2<|C6 1 [4] a Z<|Up U2<|⟨?_,Z⟩;rw [eN h1,cW,Q8];rfl
theorem GZ (C:Mem)(z:Int)(d:Nat)(k:Nat)(b:0<k)(g:k<=40000)(c:z.natAbs<B9 ^ k)(e:d<B9 ^ k):Gives cx.P 134 [af (txt z),af (bj d)] C (af (txt z++df (mE d))):=by
 have h:(txt z).length<=9*k+1:=by
  have:=bY c b;unfold txt;split
  ·simp;omega
  omega
 have i:=bY e b;refine Ur func134 12 U3 fun w0=>Uh 1 [0,1] Z<|Uh 2 [0,1,6] Z<|G.cd (fun a=>?_) fun a=>?_
 ·have h1:d=1:=by rw [tg] at a;exact PZ a
  refine Uh 2 [4] Z<|Up U2<|⟨?_,Z⟩;rw [jY h1];simp [df]
 have h1:d≠1:=by rw [tg] at a;exact QF a
 refine Ui 1 Z fun R f=>Vb U6 (fun _=>(by simp only [QT,Re];omega)) U2<|Uk U6<|Vb U6 (fun _=>(by simp only [QG,QT,Re];omega)) U2<|C6 1 [4] f Z<|Up U2<|⟨?_,Z⟩;rw [eN h1,Q8];rfl
theorem FI (C:Mem)(s:Str)(c:s.length<1000000):Gives cx.P 122 [af s] C (.tuple #[af (iP 47 s).1,af ((iP 47 s).2.getD [49])]):=by
 refine Ur func122 18 U3 fun w0=>Uh 2 [0] Z<|Ui 1 Z fun R d=>Ut (LQ _ s 47 c) U7<|C6 7 [4,5,6] d Z<|Uh 2 [4,5,14] Z<|G.cd (fun a=>?_) fun a=>?_
 ·have h1:(iP 47 s).2=none:=by
   cases h:(iP 47 s).2 with
   | none=>rfl
   | some b=>rw [h] at a;simp at a
  refine Uh 3 [2,3] Z<|Uv (G.dropAll (UH U3 ?_));refine ⟨?_,Z⟩;rw [h1];rfl
 obtain ⟨b,h1⟩:∃ b,(iP 47 s).2=some b:=by
  cases h:(iP 47 s).2 with
  | some b=>exact ⟨b,rfl⟩
  | none=>rw [h] at a;simp at a
 refine Uh 4 [2,3] Z<|Uv (G.dropAll (UH U3 ?_));refine ⟨?_,Z⟩;rw [h1];rfl
theorem CH {c:UInt8}:∀ {a:Str}(b:Str),c ∉ a->iP c (a++c::b)=(a,some b)
 | [],b,_=>by simp [iP]
 | x::a,b,h=>by
  have d:x≠c:=fun e=>h (e ▸ QC);have hr:=CH (c:=c) (a:=a) b (fun h2=>h (QL _ h2));simp only [Su,iP,aF d,hr]
theorem yh {c:UInt8}:∀ {a:Str},c ∉ a->iP c a=(a,none)
 | [],_=>rfl
 | x::a,h=>by
  have b:x≠c:=fun e=>h (e ▸ QC);have hr:=yh (c:=c) (a:=a) (fun h2=>h (QL _ h2));simp only [iP,aF b,hr]
theorem wx (h:∀ c∈s,eG c=true):(47:UInt8) ∉ s:=fun h2=>absurd (h 47 h2) dc_
theorem ww (z:Int):(47:UInt8) ∉ txt z:=by
 unfold txt;split
 ·intro h;rcases QQ.1 h with h | h
  ·cases h
  exact wx (iz _) h
 exact wx (iz _)
theorem mH (q:Rat):iP 47 (qtx q)=(txt q.num,mE q.den):=by
 rw [pB];unfold mE;split
 ·rw [show df none=[] from rfl,Q2];exact yh (ww _)
 exact CH _ (ww _)
theorem one_dec:bj 1=[49]:=by rw [bj];rfl
theorem zL (d:Nat):(mE d).getD [49]=bj d:=by
 unfold mE;split
 ·rename_i h;subst h;exact one_dec.symm
 rfl
theorem M7 (C:Mem)(q:Rat)(a:(qtx q).length<1000000):Gives cx.P 122 [af (qtx q)] C (.tuple #[af (txt q.num),af (bj q.den)]):=by
 have h:=FI C (qtx q) a
 rwa [mH,zL] at h
def ld (z w:Int):Rat:=mkRat (if w<0 then -z else z) w.natAbs
theorem pZ (C:Mem)(f:Tabs C)(z w:Int)(k:Nat)(b:0<k)(e:k<=40000)(p:z.natAbs<B9 ^ k)(q:w.natAbs<B9 ^ k)(x:w≠0):Gives cx.P 123 [af (txt z),af (txt w)] C (af (qtx (ld z w))):=by
 have A:=bY p b;have B:=bY q b;obtain ⟨y,hy⟩:∃ y,(if w<0 then -z else z)=y:=⟨_,rfl⟩;obtain ⟨d,r⟩:∃ d,w.natAbs=d:=⟨_,rfl⟩;have s:d≠0:=by omega
 have D:y.natAbs=z.natAbs:=by rw [<- hy];split <;> omega
 obtain ⟨g,c⟩:∃ g,Nat.gcd y.natAbs d=g:=⟨_,rfl⟩;have E:0<g:=by rw [<- c];exact SZ _ om_
 have t:g ∣ d:=by rw [<- c];exact Tx _ _
 have F:g<=d:=TS om_ t;unfold ld;rw [hy,r,wT s,c];refine Ur func123 35 U3 fun w0=>Uh 1 [0,1] Z<|Ui 1 Z fun R a=>Ut (me _ w) U7<|C6 1 [0,1,8] a Z<|G.cut (fun fr u i j=>(True)/\fr=[(0,[],af (txt y)),(1,[],af (txt (d:Nat)))]/\i=[]) ?_ (fun fr _ H j _ l=>?_)
 ·refine G.cd (fun m=>?_) fun m=>?_
  ·have n:w<0:=by
    have h:eH w<0:=by simpa using m
    unfold eH at h;split at h <;> omega
   rw [aJ n] at hy;refine Ui 1 Z fun R a=>Uu (uN _ z om_) U7 fl_<|Uk U6<|Uu (uN _ w om_) U7 fl_<|C6 2 [0,1] a Z<|Ux 0 (Mem.le.refl _) (hn_ [0,1] Z) ⟨trivial,by rw [hy,show -w=((d:Nat):Int) by omega],Z⟩
  have n:¬ w<0:=by
   intro h2;have h:¬ eH w<0:=by simpa using m
   unfold eH at h;split at h <;> omega
  rw [aF n] at hy;refine Ux 0 (Mem.le.refl _) (hn_ [0,1] Z) ⟨trivial,by rw [hy,show w=((d:Nat):Int) by omega],Z⟩
 obtain ⟨_,rfl,rfl⟩:=l;refine Ui 2 Z fun R a=>Uu (G5 _ f.m_ y (d:Nat) k b e om_ om_) U7 fl_<|C6 1 [0,1,5] a Z ?_;rw [Rp,c];refine Uh 2 [0,1,5,17] Z<|G.cut (fun fr u i j=>(True)/\fr=[(0,[],af (txt (y / (g:Nat)))),(1,[],af (txt ((d / g:Nat):Int)))]/\i=[]) ?_ (fun fr _ I j _ l=>?_)
 ·refine G.cd (fun o=>?_) fun o=>?_
  ·refine Ui 2 Z fun R a=>Uu (sK _ f.m_ y (g:Nat) k b e om_ om_ om_) U7 fl_<|C6 5 [0,1,5] a Z<|Ui 2 Z fun R a=>Uu (sK _ f.m_ (d:Nat) (g:Nat) k b e om_ om_ om_) U7 fl_<|C6 5 [0,1] a Z<|Ux 0 (Mem.le.refl _) (hn_ [0,1] Z) ⟨trivial,by rw [Int.natCast_ediv],Z⟩
  have v:g=1:=by
   rw [cW,tg] at o;simpa using o
  refine Ux 0 (Mem.le.refl _) (hn_ [0,1] Z) ⟨trivial,by rw [v,Nat.div_one,Int.natCast_one,Int.ediv_one],Z⟩
 obtain ⟨_,rfl,rfl⟩:=l;rw [cW];exact Ui 2 Z fun R a=>Uu (GZ _ (y / (g:Nat)) (d / g) k b e (by rw [SI (S4.1 (Sn.2 (by rw [<- c];exact Ts _ _))),Rp];exact Rw (RG _ _) om_) (Rw (RG _ _) om_)) U7 fl_<|C6 1 [4] a Z<|Up U2<|⟨Z,Z⟩
theorem NQ {a b:Nat}(h:bj a=bj b):a=b:=by rw [<- (bk a).2,h,(bk b).2]
theorem OF (h:txt z=txt w):z=w:=by
 have h1:=dJ z;rw [h,dJ w] at h1;have h2:=NQ (Ug h1).1;have h3:decide (w<0)=decide (z<0):=(Ug h1).2;by_cases a:w<0
 ·rw [QV a] at h3;have:=PZ h3.symm;omega
 rw [Q6 a] at h3;have:=QF h3.symm;omega
theorem lO (h:qtx a=qtx b):a=b:=by
 have h1:=mH a;rw [h,mH b] at h1;have h2:=OF (Ug h1).1;have h3:=congrArg PB (Ug h1).2;rw [mD,mD] at h3;exact Rat.ext h2.symm h3.symm
theorem MU (a b:Rat):((⟨(qtx a).toArray⟩:ByteArray).data.toList == (⟨(qtx b).toArray⟩:ByteArray).data.toList)=decide (a=b):=by
 show (qtx a == qtx b)=_;rw [T6,Sj,QK];exact ⟨lO,fun h=>by rw [h]⟩
theorem qtx_zero:qtx 0=[48]:=by
 rw [show (0:Rat)=((0:Int):Rat) from rfl,nj];unfold txt;rw [aF om_,show bj (0:Int).natAbs=bj 0 from rfl,bj];rfl
theorem dF:qtx 1=[49]:=by
 rw [show (1:Rat)=((1:Int):Rat) from rfl,nj];exact one_val.symm
theorem eQ (a:Rat):((⟨(qtx a).toArray⟩:ByteArray).data.toList == (⟨#[48]⟩:ByteArray).data.toList)=decide (a=0):=by
 have h:=MU a 0
 rwa [qtx_zero] at h
theorem Ll (a:Rat):((⟨(qtx a).toArray⟩:ByteArray).data.toList == (⟨#[49]⟩:ByteArray).data.toList)=decide (a=1):=by
 have h:=MU a 1
 rwa [dF] at h
theorem sf (a:Rat):0<(qtx a).length:=by
 unfold qtx;rw [QG,QG];have:=Rn.2 (nA a.num.natAbs);omega
theorem bg (h:QB k q)(a:0<k):(qtx q).length<=18*k+2:=by
 unfold qtx;rw [QG,QG];have h1:=bY h.1 a;have h2:=bY h.2 a;have h3:(DH (decide (q.num<0))).length<=1:=by cases decide (q.num<0) <;> simp [DH]
 have h4:(df (mE q.den)).length<=9*k+1:=by
  unfold mE;split
  ·simp [df]
  simp [df];exact h2
 omega
theorem lN (q:Rat):∃ c r,qtx q=c::r/\((((c.toNat:Nat):Int) == 45)=decide (q.num<0)):=by
 by_cases h:q.num<0
 ·refine ⟨45,bj q.num.natAbs++df (mE q.den), ?_,by rw [QV h];decide⟩;unfold qtx;rw [QV h];rfl
 obtain ⟨c,r,a⟩:∃ c r,bj q.num.natAbs=c::r:=List.exists_cons_of_ne_nil (nA _);refine ⟨c,r++df (mE q.den), ?_, ?_⟩
 ·unfold qtx;rw [Q6 h,a];rfl
 have h2:=iz q.num.natAbs c (by rw [a];exact QC);rw [Q6 h];unfold eG at h2;have h3:=PZ h2;exact Q6 om_
theorem eY (h:¬ q.num<0)(a:q≠0):qtx (-q)=45::qtx q:=by
 have b:q.num≠0:=fun e=>a (Tj.1 e);unfold qtx;rw [Ua,Rat.neg_den,QV om_,Q6 h,TM];rfl
theorem kB (h:q.num<0):qtx q=45::qtx (-q):=by
 have h2:=eY (q:=-q) (by rw [Ua];omega) (by intro e;have h3:=congrArg Rat.num e;rw [Ua] at h3;have h4:(0:Rat).num=0:=rfl;omega)
 rwa [Rat.neg_neg] at h2
def Cu (q:Rat):Bool:=LI (bj q.num.natAbs) (mE q.den)
theorem LH (h:(bj n).length<=9):n<1000000000:=by
 have h1:=dz (iz n);rw [(bk n).2] at h1;exact RI h1 (QW (QZ dc_ h) dc_)
theorem kY (h:Cu q=true):q.num.natAbs<1000000000/\q.den<1000000000:=by
 unfold Cu LI at h;rw [QR,QK,QK] at h;refine ⟨LH h.1, ?_⟩;by_cases h1:q.den=1
 ·omega
 rw [eN h1] at h;exact LH h.2
theorem FH (C:Mem)(q:Rat)(a:(qtx q).length<=1000000):Gives cx.P 120 [af (qtx q)] C (if Cu q then .tuple #[.int .i64 q.num,.int .i64 (q.den:Nat),.bool true] else .tuple #[.int .i64 0,.int .i64 0,.bool false]):=by
 have h:=Dy C (decide (q.num<0)) (bj q.num.natAbs) (mE q.den) (iz _) (nA _) (CC _) a;unfold se at h;rw [(bk _).2,mD] at h;have e:sgZ (decide (q.num<0)) q.num.natAbs=q.num:=by
  unfold sgZ;by_cases h:q.num<0
  ·rw [QV h,aJ rfl];omega
  rw [Q6 h,aF dc_];omega
 rw [e] at h;exact h
theorem eK (C:Mem)(q:Rat)(g:(qtx q).length<=1000000):Gives cx.P 78 [af (qtx q)] C (af (qtx (-q))):=by
 have h:=sf q;refine Ur func78 13 U3 fun w0=>Uh 1 [0] Z<|Uh 2 [0,4] Z<|G.cd (fun h4=>?_) fun h4=>?_
 ·have h0:q=0:=by rw [eQ] at h4;exact PZ h4
  refine Uh 2 [2] Z<|Up U2<|⟨?_,Z⟩;rw [h0,Rat.neg_zero]
 have h0:q≠0:=by rw [eQ] at h4;exact QF h4
 obtain ⟨c,r,f,e⟩:=lN q;refine Ui 1 Z fun R a=>UZ U8 (fun _=>⟨by omega,by rw [f];rfl⟩) U2<|C6 1 [0,8] a Z<|G.cd (fun b=>?_) fun b=>?_
 ·have d:q.num<0:=by rw [e] at b;exact PZ b
  refine Ui 1 Z fun R a=>Vf 1 (qtx q).length U9 (fun _=>⟨.inr ⟨_,Z⟩,.inl ⟨Z,Z⟩,.inl ⟨Z,Z⟩,by omega,Qz _,Qz _⟩) U2<|C6 1 [2] a Z<|Up U2<|⟨?_,Z⟩;rw [QM,kB d];rfl
 have d:¬ q.num<0:=by rw [e] at b;exact QF b
 refine Ui 1 Z fun R a=>Vb U6 (fun _=>(by simp only [QT,Re];omega)) U2<|C6 1 [2] a Z<|Up U2<|⟨?_,Z⟩;rw [eY d h0];rfl
theorem gd (C:Mem)(q:Rat)(j:(qtx q).length<=1000000):Gives cx.P 94 [af (qtx q)] C (.int .i64 (eH q.num)):=by
 obtain ⟨c,r,f,d⟩:=lN q;have k:=sf q;refine Ur func94 15 U3 fun w0=>Uh 1 [0] Z<|Uh 3 [0,3] Z<|G.cd (fun h3=>?_) fun h3=>?_
 ·have h0:q=0:=by rw [eQ] at h3;exact PZ h3
  refine Uh 1 [2] Z<|Up U2<|⟨?_,Z⟩;rw [h0];rfl
 have h0:q≠0:=by rw [eQ] at h3;exact QF h3
 have g:q.num≠0:=fun e=>h0 (Tj.1 e);refine Ui 5 Z fun R i=>UZ U8 (fun _=>⟨by omega,by rw [f];rfl⟩) U2<|Uk U6<|UJ U8<|C6 1 [6] i Z<|G.cd (fun a=>?_) fun a=>?_
 ·rw [d] at a;have b:q.num<0:=by
   have h:=(QR _ _ ▸ a:_/\_).2;exact PZ h
  skip
  refine Uh 1 [2] Z<|Up U2<|⟨?_,Z⟩;unfold eH;rw [aJ b]
 rw [d,QV (show (0:Int)<((⟨(qtx q).toArray⟩:ByteArray).data.toList.length:Int) by show (0:Int)<(((qtx q).length:Nat):Int);omega),TT] at a;have b:¬ q.num<0:=QF a;refine Uh 1 [2] Z<|Up U2<|⟨?_,Z⟩;unfold eH;rw [aF b,aF g]
theorem jK (C:Mem)(q:Rat)(b:(qtx q).length<=1000000):Gives cx.P 120 [af (qtx q)] C (.tuple #[.int .i64 (if Cu q then q.num else 0),.int .i64 (if Cu q then ((q.den:Nat):Int) else 0),.bool (Cu q)]):=by
 have h:=FH C q b;cases a:Cu q with
 | true=>rw [a] at h;exact h
 | false=>rw [a] at h;exact h
def jt (a b:Rat):Int:=if a<b then -1 else if b<a then 1 else 0
theorem vo :jt a b=vO (a.num*b.den) (b.num*a.den):=by
 unfold jt vO;simp only [Rat.lt_iff]
theorem fJ (a:Rat):0<a.den:=SB a.den_nz
theorem jQ {a:Int}(b:a.natAbs<1000000000)(c:d<1000000000):-1000000000000000000<a*(d:Int)/\a*(d:Int)<1000000000000000000:=F2 b (by rw [Rp];exact c)
theorem pR {a:Nat}(b:a<1000000000)(c:d<1000000000):a*d<1000000000000000000:=Si b c
theorem kO (C:Mem)(q:Rat)(a:(qtx q).length<1000000):Gives cx.P 122 [af (qtx q)] C (.tuple #[af (txt q.num),af (txt ((q.den:Nat):Int))]):=by
 have h:=M7 C q a
 rwa [<- cW] at h
theorem cU (a:z.natAbs<B9 ^ k)(b:w.natAbs<B9 ^ k):(z*w).natAbs<B9 ^ (k+k):=by
 rw [R8];exact oq a b
theorem ve (a:0<d):ld z ((d:Nat):Int)=mkRat z d:=by
 unfold ld;rw [aF om_,Rp]
theorem lf (h:QB k q):((q.den:Nat):Int).natAbs<B9 ^ k:=by rw [Rp];exact h.2
theorem gX (C:Mem)(m:Tabs C)(a b:Rat)(k:Nat)(f:0<k)(u:k<=20000)(d:QB k a)(e:QB k b):Gives cx.P 218 [af (qtx a),af (qtx b)] C (.int .i64 (jt a b)):=by
 have v:=bg d f;have w:=bg e f;refine Ur func218 65 U3 fun w0=>Uh 1 [0,1] Z<|Uh 3 [0,1,19] Z<|G.cd (fun g=>?_) fun g=>?_
 ·have h0:a=b:=by rw [MU] at g;exact PZ g
  refine Uh 1 [4] Z<|Up U2<|⟨?_,Z⟩;subst h0;rw [jt,aF (Rat.lt_irrefl),aF (Rat.lt_irrefl)]
 refine Ui 1 Z fun R c=>Uu (jK _ a om_) U7 fl_<|C6 7 [0,1,5,6,7] c Z<|Uh 1 [0,1,5,6,26] Z<|G.cut (fun fr x r s=>(True)/\fr=[(0,[],af (qtx a)),(1,[],af (qtx b))]/\r=[]) ?_ (fun fr _ y s _ t=>?_)
 ·refine G.cd (fun n=>?_) fun n=>?_
  ·have h:Cu a=true:=n;rw [aJ h,aJ h];have o:=kY h;refine Ui 1 Z fun R c=>Uu (jK _ b om_) U7 fl_<|C6 7 [0,1,5,6,8,9,10] c Z<|Uh 1 [0,1,5,6,8,9,33] Z<|G.cd (fun p=>?_) fun p=>?_
   ·have i:Cu b=true:=p;rw [aJ i,aJ i];have q:=kY i;have z:=jQ o.1 q.2;have A:=jQ q.1 o.2;refine Ui 2 Z fun R c=>Uq _ Z U6<|Um 2 Z<|Uq _ Z U6<|C6 2 [11,12] c Z<|Uh 4 [11,12,40] Z<|G.cd (fun j=>?_) fun j=>?_
    ·have h1:=PZ j;refine Uh 1 [4] Z<|Up U2<|⟨?_,Z⟩;rw [vo,vO,aJ h1]
    have h1:=QF j;refine Uh 4 [44] Z<|G.cd (fun l=>?_) fun l=>?_
    ·have h2:=PZ l;refine Uh 1 [4] Z<|Up U2<|⟨?_,Z⟩;rw [vo,vO,aF h1,aJ h2]
    have h2:=QF l;refine Uh 1 [4] Z<|Up U2<|⟨?_,Z⟩;rw [vo,vO,aF h1,aF h2]
   refine Ux 0 (Mem.le.refl _) (hn_ [0,1] Z) ⟨trivial,Z,Z⟩
  refine Ux 0 (Mem.le.refl _) (hn_ [0,1] Z) ⟨trivial,Z,Z⟩
 obtain ⟨_,rfl,rfl⟩:=t;exact Ui 1 Z fun R c=>Uu (kO _ a om_) U7 fl_<|C6 5 [1,13,14] c Z<|Ui 1 Z fun R c=>Uu (kO _ b om_) U7 fl_<|C6 5 [13,14,15,16] c Z<|Ui 2 Z fun R c=>Uu (kT _ m.m_ _ _ k f om_ d.1 (lf e)) U7 fl_<|Um 2 Z<|Uu (kT _ m.m_ _ _ k f om_ e.1 (lf d)) U7 fl_<|Uu (qt _ _ _ (by have:=bY (cU d.1 (lf e)) om_;omega) (by have:=bY (cU e.1 (lf d)) om_;omega)) U7 fl_<|C6 1 [4] c Z<|Up U2<|⟨by rw [vo],Z⟩
theorem ni (C:Mem)(f:Tabs C)(a b:Rat)(k:Nat)(g:0<k)(w:k<=10000)(d:QB k a)(e:QB k b):Gives cx.P 101 [af (qtx a),af (qtx b)] C (af (qtx (a+b))):=by
 have x:=bg d g;have y:=bg e g;have r:=fJ a;have s:=fJ b;have o:0<a.den*b.den:=S8 r s;refine Ur func101 67 U3 fun w0=>Uh 1 [0,1] Z<|Uh 2 [0,1,16] Z<|G.cd (fun h=>?_) fun h=>?_
 ·have h0:a=0:=by rw [eQ] at h;exact PZ h
  refine Uh 2 [4] Z<|Up U2<|⟨?_,Z⟩;rw [h0,Rat.zero_add]
 refine Uh 2 [0,1,19] Z<|G.cd (fun i=>?_) fun i=>?_
 ·have h0:b=0:=by rw [eQ] at i;exact PZ i
  refine Uh 2 [4] Z<|Up U2<|⟨?_,Z⟩;rw [h0,Rat.add_zero]
 refine Ui 1 Z fun R c=>Uu (jK _ a om_) U7 fl_<|C6 7 [0,1,5,6,7] c Z<|Uh 1 [0,1,5,6,27] Z<|G.cut (fun fr z t u=>(True)/\fr=[(0,[],af (qtx a)),(1,[],af (qtx b))]/\t=[]) ?_ (fun fr _ A u _ v=>?_)
 ·refine G.cd (fun p=>?_) fun p=>?_
  ·have j:Cu a=true:=p;rw [aJ j,aJ j];have l:=kY j;refine Ui 1 Z fun R c=>Uu (jK _ b om_) U7 fl_<|C6 7 [0,1,5,6,8,9,10] c Z<|Uh 1 [0,1,5,6,8,9,34] Z<|G.cd (fun q=>?_) fun q=>?_
   ·have m:Cu b=true:=q;rw [aJ m,aJ m];have n:=kY m;have B:=jQ l.1 n.2;have D:=jQ n.1 l.2;have E:=pR l.2 n.2;exact Ui 2 Z fun R c=>Uq _ Z U6<|Um 2 Z<|Uq _ Z U6<|Uq _ Z U6<|Um 2 Z<|Uq (((a.den*b.den:Nat):Int)) (Ra _ _).symm U6<|Uu (wJ _ f.m_ _ _ o om_ om_) U7 fl_<|C6 1 [4] c Z<|Up U2<|⟨by rw [fC],Z⟩
   refine Ux 0 (Mem.le.refl _) (hn_ [0,1] Z) ⟨trivial,Z,Z⟩
  refine Ux 0 (Mem.le.refl _) (hn_ [0,1] Z) ⟨trivial,Z,Z⟩
 obtain ⟨_,rfl,rfl⟩:=v;exact Ui 1 Z fun R c=>Uu (kO _ a om_) U7 fl_<|C6 5 [1,11,12] c Z<|Ui 1 Z fun R c=>Uu (kO _ b om_) U7 fl_<|C6 5 [11,12,13,14] c Z<|Ui 2 Z fun R c=>Uu (kT _ f.m_ _ _ k g om_ d.1 (lf e)) U7 fl_<|Um 2 Z<|Uu (kT _ f.m_ _ _ k g om_ e.1 (lf d)) U7 fl_<|Uu (Nw _ f.m_ _ _ (k+k) om_ om_ (cU d.1 (lf e)) (cU e.1 (lf d))) U7 fl_<|Um 2 Z<|Uu (kT _ f.m_ _ _ k g om_ (lf d) (lf e)) U7 fl_<|Uu (pZ _ f.m_ _ _ (k+k+1) om_ om_ (Rw (Tm _ _) (tW (cU d.1 (lf e)) (cU e.1 (lf d)))) (dG (cU (lf d) (lf e)) om_) (by rw [<- Ra];omega)) U7 fl_<|C6 1 [4] c Z<|Up U2<|⟨by rw [fC,<- Ra,ve o],Z⟩
theorem PL (c:QB k a)(d:QB k b):QB (k+k+1) (a+b):=by
 rw [fC];exact ig (Nat.ne_of_gt (S8 (fJ a) (fJ b))) (Rw (Tm _ _) (tW (cU c.1 (lf d)) (cU d.1 (lf c)))) (dG (oq c.2 d.2) om_)
theorem rn (c:QB k a)(d:QB k b):QB (k+k) (a*b):=by
 rw [gC];exact ig (Nat.ne_of_gt (S8 (fJ a) (fJ b))) (cU c.1 d.1) (oq c.2 d.2)
theorem eR (b:QB k a):QB k (-a):=⟨by rw [Ua,TM];exact b.1,by rw [Rat.neg_den];exact b.2⟩
theorem kF (c:QB k a)(d:QB k b):QB (k+k+1) (a-b):=by
 rw [TJ];exact PL c (eR d)
theorem CU (b:QB k a)(d:a≠0):QB k a⁻¹:=by
 have c:a.num≠0:=fun e=>d (Tj.1 e);refine ⟨?_, ?_⟩
 ·rw [Rat.num_inv,R8,Int.natAbs_sign_of_ne_zero c,SV,Rp];exact b.2
 rw [Rat.den_inv,aF c];exact b.1
theorem jy (c:QB k a)(d:QB k b)(e:b≠0):QB (k+k) (a / b):=by
 rw [Rat.div_def];exact rn c (CU d e)
theorem PK (h:z.natAbs<B9 ^ k)(a:0<k):QB k (z:Rat):=⟨h,by
 show 1<B9 ^ k;exact RI (by decide:1<B9 ^ 1) (QZ dc_ a)⟩
theorem dm (C:Mem)(g:Tabs C)(a b:Rat)(k:Nat)(i:0<k)(z:k<=10000)(d:QB k a)(e:QB k b):Gives cx.P 60 [af (qtx a),af (qtx b)] C (af (qtx (a*b))):=by
 have A:=bg d i;have B:=bg e i;have w:=fJ a;have x:=fJ b;have q:0<a.den*b.den:=S8 w x;refine Ur func60 66 U3 fun w0=>Uh 1 [0,1] Z<|Uh 3 [0,1,15] Z<|G.cut (fun fr y L' j=>(True)/\fr=[(0,[],af (qtx a)),(1,[],af (qtx b)),(15,[],.bool (decide (a=0∨b=0)))]/\L'=[]) ?_ (fun fr _ D j _ l=>?_)
 ·refine G.cd (fun f=>?_) fun f=>?_
  ·have h0:a=0:=by rw [eQ] at f;exact PZ f
   rw [eQ,show decide (a=0)=decide (a=0∨b=0) by simp [h0]];refine Ux 0 (Mem.le.refl _) (hn_ [0,1,15] Z) ⟨trivial,Z,Z⟩
  have h0:¬ a=0:=by rw [eQ] at f;exact QF f
  refine Uh 3 [0,1,15] Z ?_;rw [eQ,show decide (b=0)=decide (a=0∨b=0) by simp [h0]];refine Ux 0 (Mem.le.refl _) (hn_ [0,1,15] Z) ⟨trivial,Z,Z⟩
 obtain ⟨_,rfl,rfl⟩:=l;refine G.cd (fun r=>?_) fun r=>?_
 ·have h0:=PZ r;refine Uh 1 [4] Z<|Up U2<|⟨?_,Z⟩;rw [show a*b=0 by rcases h0 with h | h <;> simp [h],qtx_zero];rfl
 refine Uh 3 [0,1,20] Z<|G.cd (fun m=>?_) fun m=>?_
 ·have h1:a=1:=by rw [Ll] at m;exact PZ m
  refine Uh 2 [4] Z<|Up U2<|⟨?_,Z⟩;rw [h1,Rat.one_mul]
 refine Uh 3 [0,1,24] Z<|G.cd (fun n=>?_) fun n=>?_
 ·have h1:b=1:=by rw [Ll] at n;exact PZ n
  refine Uh 2 [4] Z<|Up U2<|⟨?_,Z⟩;rw [h1,Rat.mul_one]
 refine Ui 1 Z fun R c=>Uu (jK _ a om_) U7 fl_<|C6 7 [0,1,5,6,7] c Z<|Uh 1 [0,1,5,6,34] Z<|G.cut (fun fr y L' j=>(True)/\fr=[(0,[],af (qtx a)),(1,[],af (qtx b))]/\L'=[]) ?_ (fun fr _ E j _ l=>?_)
 ·refine G.cd (fun s=>?_) fun s=>?_
  ·have o:Cu a=true:=s;rw [aJ o,aJ o];have t:=kY o;refine Ui 1 Z fun R c=>Uu (jK _ b om_) U7 fl_<|C6 7 [0,1,5,6,8,9,10] c Z<|Uh 1 [0,1,5,6,8,9,41] Z<|G.cd (fun u=>?_) fun u=>?_
   ·have p:Cu b=true:=u;rw [aJ p,aJ p];have v:=kY p;have F:=F2 t.1 v.1;have H:=pR t.2 v.2;exact Ui 2 Z fun R c=>Uq _ Z U6<|Um 2 Z<|Uq (((a.den*b.den:Nat):Int)) (Ra _ _).symm U6<|Uu (wJ _ g.m_ _ _ q om_ om_) U7 fl_<|C6 1 [4] c Z<|Up U2<|⟨by rw [gC],Z⟩
   refine Ux 0 (Mem.le.refl _) (hn_ [0,1] Z) ⟨trivial,Z,Z⟩
  refine Ux 0 (Mem.le.refl _) (hn_ [0,1] Z) ⟨trivial,Z,Z⟩
 obtain ⟨_,rfl,rfl⟩:=l;exact Ui 1 Z fun R c=>Uu (kO _ a om_) U7 fl_<|C6 5 [1,11,12] c Z<|Ui 1 Z fun R c=>Uu (kO _ b om_) U7 fl_<|C6 5 [11,12,13,14] c Z<|Ui 2 Z fun R c=>Uu (kT _ g.m_ _ _ k i om_ d.1 e.1) U7 fl_<|Um 2 Z<|Uu (kT _ g.m_ _ _ k i om_ (lf d) (lf e)) U7 fl_<|Uu (pZ _ g.m_ _ _ (k+k) om_ om_ (cU d.1 e.1) (cU (lf d) (lf e)) (by rw [<- Ra];omega)) U7 fl_<|C6 1 [4] c Z<|Up U2<|⟨by rw [gC,<- Ra,ve q],Z⟩
theorem er (C:Mem)(e:Tabs C)(a b:Rat)(k:Nat)(c:0<k)(f:k<=10000)(g:QB k a)(d:QB k b):Gives cx.P 127 [af (qtx a),af (qtx b)] C (af (qtx (a-b))):=by
 have i:=bg d c;exact Ur func127 9 U3 fun w0=>Uh 1 [0,1] Z<|Ui 2 Z fun R h=>Uu (eK _ b om_) U7 fl_<|Ut (ni _ e.m_ a (-b) k c f g (eR d)) U7<|C6 1 [4] h Z<|Up U2<|⟨by rw [TJ],Z⟩
theorem gW (C:Mem)(n:Tabs C)(a b:Rat)(k:Nat)(g:0<k)(o:k<=10000)(p:QB k a)(f:QB k b)(h:b≠0):Gives cx.P 70 [af (qtx a),af (qtx b)] C (.tuple #[af (qtx (a / b)),.int .i64 0]):=by
 have v:=bg f g;have q:b.num≠0:=fun e=>h (Tj.1 e);obtain ⟨c,r,s,l⟩:=lN b;refine Ur func70 27 U3 fun w0=>Uh 2 [0,1] Z<|Uh 2 [0,1,9] Z<|G.cd (fun j=>?_) fun j=>?_
 ·exfalso;rw [eQ] at j;exact h (PZ j)
 refine Ui 1 Z fun R d=>Uu (kO _ b om_) U7 fl_<|C6 5 [0,1,6,7] d Z<|Ui 1 Z fun R d=>UZ U8 (fun _=>⟨by omega,by rw [s];rfl⟩) U2<|C6 1 [0,6,7,17] d Z<|G.cut (fun fr w L' t=>(True)/\fr=[(0,[],af (qtx a)),(6,[],af (txt (b.num.natAbs:Nat))),(7,[],af (txt (b⁻¹).num))]/\L'=[]) ?_ (fun fr _ x t _ u=>?_)
 ·refine G.cd (fun i=>?_) fun i=>?_
  ·have m:b.num<0:=by rw [l] at i;exact PZ i
   refine Ui 1 Z fun R d=>Uu (uN _ b.num (by have:=bY f.1 g;omega)) U7 fl_<|Uk U6<|Uu (uN _ ((b.den:Nat):Int) (by have:=bY (lf f) g;omega)) U7 fl_<|C6 2 [0,6,7] d Z ?_;rw [show -b.num=((b.num.natAbs:Nat):Int) by omega,show -((b.den:Nat):Int)=(b⁻¹).num by rw [Rat.num_inv,Int.sign_eq_neg_one_of_neg m,Int.neg_one_mul]];refine Ux 0 (Mem.le.refl _) (hn_ [0,6,7] Z) ⟨trivial,Z,Z⟩
  have m:¬ b.num<0:=by rw [l] at i;exact QF i
  rw [show b.num=((b.num.natAbs:Nat):Int) by omega,show ((b.den:Nat):Int)=(b⁻¹).num by rw [Rat.num_inv,Int.sign_eq_one_of_pos om_,Int.one_mul]];refine Ux 0 (Mem.le.refl _) (hn_ [0,6,7] Z) ⟨trivial,Z,Z⟩
 obtain ⟨_,rfl,rfl⟩:=u;rw [cW,show b.num.natAbs=(b⁻¹).den by rw [Rat.den_inv,aF q]];refine Ui 3 Z fun R d=>Uu (GZ _ _ _ k g om_ (CU f h).1 (CU f h).2) U7 fl_ ?_;rw [<- pB b⁻¹];refine Ut (dm _ n.m_ a b⁻¹ k g o p (CU f h)) U7<|C6 2 [4,5] d Z<|Uv (G.dropAll (UH U3 ?_));exact ⟨by rw [Rat.div_def],Z⟩
theorem MH (C:Mem)(c:Tabs C)(z w:Int)(k:Nat)(d:0<k)(e:k<=40000)(f:z.natAbs<B9 ^ k)(g:w.natAbs<B9 ^ k)(i:w≠0):Gives cx.P 184 [af (txt z),af (txt w)] C (.tuple #[af (qtx (ld z w)),.int .i64 0]):=by
 refine Ur func184 12 U3 fun w0=>Uh 2 [0,1] Z<|Ui 1 Z fun R a=>Ut (me _ w) U7<|C6 1 [0,1,8] a Z<|G.cd (fun b=>?_) fun b=>?_
 ·exfalso;have h:eH w=0:=by simpa using b
  rcases eC w with h2 | h2 | h2 <;> omega
 refine Ui 2 Z fun R a=>Ut (pZ _ c.m_ z w k d e f g i) U7<|C6 2 [4,5] a Z<|Uv (G.dropAll (UH U3 ?_));exact ⟨Z,Z⟩
theorem FL (C:Mem)(a:Tabs C)(z w:Int)(d:z.natAbs<9000000000000000000)(e:w.natAbs<9000000000000000000)(b:w≠0):Gives cx.P 118 [.int .i64 z,.int .i64 w] C (.tuple #[af (qtx (ld z w)),.int .i64 0]):=by
 have f:9000000000000000000<B9 ^ 3:=by decide
 refine Ur func118 13 U3 fun w0=>Uh 2 [0,1] Z<|Ui 1 Z fun R c=>Uu (sG _ a.m_ z om_ om_) U7 fl_<|Uk U6<|Uu (sG _ a.m_ w om_ om_) U7 fl_<|Uu (MH _ a.m_ z w 3 dc_ dc_ om_ om_ b) U7 fl_<|C6 4 [4,5] c Z<|Uv (G.dropAll (UH U3 ?_));exact ⟨Z,Z⟩
theorem tP (C:Mem)(a:Tabs C)(z:Int)(c:z.natAbs<9000000000000000000):Gives cx.P 119 [.int .i64 z] C (af (qtx z)):=by
 exact Ur func119 5 U3 fun w0=>Uh 1 [0] Z<|Ui 1 Z fun R b=>Uu (sG _ a.m_ z om_ om_) U7 fl_<|C6 1 [2] b Z<|Up U2<|⟨by rw [nj],Z⟩
theorem pow9 (k:Nat):B9 ^ k=10 ^ (9*k):=by rw [Nat.pow_mul]
theorem fB (h:cH s=true):s=txt (iN s)/\(iN s).natAbs<B9 ^ 23:=by
 have h1:=sa.1 h;refine ⟨H1 (by unfold cH at h;exact (T7.1 h).1), ?_⟩;rw [Kx];have h2:=zg.1 h1.1;have h3:=dz h2.1.1;exact RI h3 (by rw [pow9];exact QZ dc_ om_)
theorem Lk (h:aW s=true):∃ q:Rat,s=qtx q/\QB 23 q:=by
 unfold aW at h;rw [QR,QR] at h;obtain ⟨⟨h1,h2⟩,h3⟩:=h;obtain ⟨a,b⟩:=fB h1;rcases gM 47 s with ⟨d,_,_⟩ | ⟨c,post,d,hs,_⟩
 ·rw [d] at a b;exact ⟨((iN s:Int):Rat),by rw [nj];exact a,PK b dc_⟩
 rw [d] at h2 h3 a b;simp only [RT] at h2 a b;obtain ⟨e,f⟩:=fB h2;unfold pu at h3;simp only [QR,QK,Sj] at h3;obtain ⟨⟨h4,_⟩,g⟩:=h3;have i:(iN post).natAbs≠0:=by omega
 refine ⟨⟨iN c,(iN post).natAbs,i,g⟩, ?_,b,f⟩;rw [pB];show s=txt (iN c)++df (mE (iN post).natAbs);rw [eN om_,<- a,hs];show c++47::post=c++47::bj (iN post).natAbs;rw [<- cW,show (((iN post).natAbs:Nat):Int)=iN post by omega,<- e]
theorem rF (C:Mem)(b:Str)(a:cH b=true):Gives cx.P 161 [af b,af [49]] C (.int .i64 (vO (iN b) 1)):=by
 obtain ⟨h1,h2⟩:=fB a;have h:=qt C (iN b) 1 (by have:=bY h2 dc_;omega) (by rw [show bj (1:Int).natAbs=[49] from one_dec];decide)
 rwa [<- one_val,<- h1] at h
theorem DY (C:Mem)(c:Tabs C)(a b:Str)(d:cH a=true)(e:cH b=true):Gives cx.P 162 [af a,af b] C (af (txt (Nat.gcd (iN a).natAbs (iN b).natAbs:Nat))):=by
 obtain ⟨h1,h2⟩:=fB d;obtain ⟨h3,h4⟩:=fB e;have h:=G5 C c (iN a) (iN b) 23 dc_ dc_ h2 h4
 rwa [<- h1,<- h3] at h
theorem yl {b:Bool}(h:(oC b != 0)=false):b=true:=by cases b <;> first | rfl | (exact absurd h dc_)
theorem dE (C:Mem)(y:Tabs C)(s:Str)(A:s.length<=999998):Gives cx.P 103 [af s] C (.int .i64 (oC (aW s))):=by
 have u:=FO A;obtain ⟨c,f,l⟩:∃ a b,iP 47 s=(a,b):=⟨_,_,rfl⟩;have k:aW s=(cH c && cH (f.getD [49]) && pu (iN c) f):=by
  unfold aW;rw [l]
 rw [l] at u;simp only at u;refine Ur func103 39 U3 fun w0=>Uh 1 [0] Z<|Ui 1 Z fun R g=>Uu (by have h:=LQ C s 47 om_;rw [l] at h;exact h) U7 fl_<|C6 7 [3,4,5] g Z<|Ui 1 Z fun R g=>Ut (xz _ c) U7<|C6 1 [3,4,5,16] g Z<|G.cd (fun i=>?_) fun i=>?_
 ·have j:aW s=false:=by
   rw [k];cases h1:cH c with
   | false=>rfl
   | true=>rw [h1] at i;exact absurd i dc_
  exact Uh 1 [2] Z<|Up U2<|⟨by rw [j];rfl,Z⟩
 have m:cH c=true:=by
  cases h1:cH c with
  | true=>rfl
  | false=>rw [h1] at i;exact absurd i dc_
 rw [m,TT] at k;obtain ⟨v,B⟩:=fB m;refine Uh 2 [3,4,18] Z<|G.cd (fun n=>?_) fun n=>?_
 ·have o:f=none:=by
   cases f with
   | none=>rfl
   | some b=>simp at n
  refine Uh 1 [2] Z<|Up U2<|⟨?_,Z⟩;rw [k,o];rfl
 obtain ⟨b,o⟩:∃ b,f=some b:=by
  cases f with
  | some b=>exact ⟨b,rfl⟩
  | none=>simp at n
 subst o;obtain ⟨d,w⟩:∃ z,iN c=z:=⟨_,rfl⟩;obtain ⟨e,x⟩:∃ z,iN b=z:=⟨_,rfl⟩;have p:aW s=(cH b && pu (iN c) (some b)):=k;unfold pu at p;simp only [w,x] at p v B;have D:(c == [48])=(d == 0):=by
  rw [v];have h:=lE d;rw [show (d == 0)=decide (d=0) by by_cases h:d=0 <;> simp [h]];exact h
 have E:(oC (cH b) != 0)=!cH b:=by cases cH b <;> rfl
 have F:decide (vO e 1<=0)=!decide (1<e):=by
  unfold vO;by_cases h:1<e
  ·rw [aF om_,aJ h,QV h];rfl
  rw [Q6 h];refine QV ?_;split <;> first | omega | (split <;> omega)
 have q:(oC (cH b) != 0 || decide (vO (iN b) 1<=0) || (c == [48]) || !(bj ((iN c).natAbs.gcd (iN b).natAbs) == [49]))=!aW s:=by
  have H:=tg (d.natAbs.gcd e.natAbs);have I:(bj (d.natAbs.gcd e.natAbs) == [49])=(d.natAbs.gcd e.natAbs == 1):=H;rw [w,x,D,E,F,I,p];cases cH b <;> cases decide (1<e) <;> cases (d == 0) <;> cases (d.natAbs.gcd e.natAbs == 1) <;> rfl
 rw [<- cW] at q;refine Uh 4 [6,7] Z<|Ui 1 Z fun R g=>Ut (xz _ b) U7<|Um 3 Z<|UG (fun r=>(rF _ b (by exact yl (show (oC (cH b) != 0)=false/\True from r).1))) U9<|Uk U6<|UN U8<|Um 3 Z<|UN U8<|Um 3 Z<|UG (fun r=>(DY _ y.m_ c b m (by exact yl (Sr.1 (Sr.1 (show (((oC (cH b) != 0) || decide (vO (iN b) 1<=0)) || (c == [48]))=false/\True from r).1).1).1))) U9<|Uk U6<|UN U8<|Un [38] g Z<|G.cd (fun t=>?_) fun t=>?_
 ·have j:aW s=false:=by
   have h:(!aW s)=true:=q.symm.trans t;simpa using h
  exact Uh 1 [2] Z<|Up U2<|⟨by rw [j];rfl,Z⟩
 have j:aW s=true:=by
  have h:(!aW s)=false:=q.symm.trans t;simpa using h
 exact Uh 1 [2] Z<|Up U2<|⟨by rw [j];rfl,Z⟩
theorem vV:∀ {l:List Nat}{j y:Nat},j<l.length->bx (l.set j y)+BP ^ j*gP l j=bx l+BP ^ j*y
 | [],_,_,h=>absurd h (Nat.not_lt_zero _)
 | x::l,0,y,_=>by
  rw [List.set_cons_zero,Nat.pow_zero,SV,SV];show y+BP*bx l+x=x+BP*bx l+y;omega
 | x::l,j+1,y,h=>by
  have a:=vV (l:=l) (j:=j) (y:=y) (by simpa using h);rw [List.set_cons_succ,RX];show x+BP*bx (l.set j y)+BP ^ j*BP*gP l j=x+BP*bx l+BP ^ j*BP*y;rw [Rm (BP ^ j) BP,Sg,Sg,SR,SR,<- RH,<- RH,a]
theorem xH {j z:Nat}(h:i≠j):gP (l.set i z) j=gP l j:=by
 unfold gP;rw [am,am,TC h]
theorem Hd {z:Nat}(h:i<l.length):gP (l.set i z) i=z:=by
 unfold gP;rw [am,Tv h];rfl
theorem Kd (n j:Nat):gP (List.replicate n 0) j=0:=by
 unfold gP;rw [am,RZ];split <;> rfl
theorem Pr (h:DigP l)(i:Nat):gP l i<=9999:=by
 rcases Q1 i l.length with h1 | h1
 ·have h2:=h _ (aX (iM h1).2);have h3:BP=10000:=rfl;omega
 unfold gP;rw [am,QJ h1];exact QH _
theorem AT (l:List Nat)(k:Nat):bx (l.take (k+1))=bx (l.take k)+BP ^ k*gP l k:=by
 rcases Q1 k l.length with h | h
 ·exact gu (iM h).2
 have e:gP l k=0:=by unfold gP;rw [am,QJ h];rfl
 rw [e,Rf h,Rf om_,Uf,Sh]
theorem wh (C:Mem)(H I:Value)(a b:List Nat)(n:Sl C 1 H (a.map aT))(p:Sl C 1 I (b.map aT))(V:DigP a)(W:DigP b)(ac:a.length<=5000)(ad:b.length<=5000) :
  Pur cx.P 178 [H,I] C fun u s=>PieC s u (bx a*bx b):=by
 obtain ⟨J,c0,rfl,_⟩:=id n;obtain ⟨K,L,rfl,_⟩:=id p;simp only [ar] at n p ⊢;obtain ⟨N,hN⟩:∃ N,a.length+b.length=N:=⟨_,rfl⟩;refine Ur func178 45 U3 fun w0=>Uh 1 [0,1] Z<|Ui 4 Z fun R c=>UQ (((N:Nat):Int)) U4 om_ om_ om_ U2<|Vl U9 (Qz _) (by show 8*N<=281474976710656;omega) (by simp only [maxLen];omega) fl_ fun d=>C6 1 [0,1,5] c Z<|Uh 1 [0,1,5,6] Z<|Uz (L':=[.arr (.slice (some ⟨d,0,none⟩) N N) 3 1 N ((List.replicate N 0).map aT).flatten]) (by rw [<- K3];rfl)<|G.loop (fun fr s f t=>∃ (i:Nat)(o:List Nat),(i<=a.length/\o.length=N/\(∀ j,gP o j<=i*100000000)/\bx o=bx (a.take i)*bx b)/\fr=[(0,[],.slice J a.length c0),(1,[],.slice K b.length L),(5,[],.slice (some ⟨d,0,none⟩) N N),(6,[],.int .i64 i)]/\f=[.arr (.slice (some ⟨d,0,none⟩) N N) 3 1 N (o.map aT).flatten]/\t=a.length-i) (hn_ [0,1,5,6] Z) ⟨0,List.replicate N 0,⟨QH _,Rb,fun j=>by rw [Kd];omega,by rw [rR (fun x g=>Sz g)];simp [bx]⟩,Z,Z,Z⟩ (fun fr ae af m _ v=>?_);obtain ⟨i,o,⟨hi,M,w,O⟩,rfl,rfl,rfl⟩:=v;refine Uh 4 [0,1,5,6,17] Z<|G.cd (fun z=>?_) fun z=>?_
 ·have A:i<a.length:=by simpa using z
  have g:=Pr V i;refine Uh 1 [0,1,5,6,7] Z<|G.loop (fun fr s f t=>∃ (k:Nat)(q:List Nat),(k<=b.length/\q.length=N/\(∀ j,gP q j<=(i+1)*100000000)/\(∀ j,i+k<=j->gP q j<=i*100000000)/\bx q=bx o+BP ^ i*(gP a i*bx (b.take k)))/\fr=[(0,[],.slice J a.length c0),(1,[],.slice K b.length L),(5,[],.slice (some ⟨d,0,none⟩) N N),(6,[],.int .i64 i),(7,[],.int .i64 k)]/\f=[.arr (.slice (some ⟨d,0,none⟩) N N) 3 1 N (q.map aT).flatten]/\t=b.length-k) (hn_ [0,1,5,6,7] Z) ⟨0,o,⟨QH _,M,fun j=>QW (w j) (Rq _ om_),fun j _=>w j,by simp [bx]⟩,Z,Z,Z⟩ (fun fr ah aj m _ v=>?_);obtain ⟨k,q,⟨hk,B,Q,S,D⟩,rfl,rfl,rfl⟩:=v;refine Uh 4 [0,1,5,6,7,23] Z<|G.cd (fun E=>?_) fun E=>?_
  ·have F:k<b.length:=by simpa using E
   have hy:=Pr W k;have X:=(iM (l:=q) (k:=i+k) om_).2;have hold:=S (i+k) (Qz _);have ak:gP a i*gP b k<=100000000:=QW (R0 g hy) dc_;refine UD [0,1,2,3,4,5,6,7,8,9,10,11,12,13,14,15,16,17] [] Z kr_ fun R hB c=>Um 3 Z<|UQ (((i+k:Nat):Int)) U4 om_ om_ om_ U2<|UL ((i+k)*1) U10 ai U2<|U1 ag U6 (fun _=>(by rw [eg ek X];rfl)) U2<|Um 2 Z<|Uy n.m_ U10 om_ (iM A).1 fl_ fun al Y=>Uj Y U8<|Um 2 Z<|Uy p.m_ U10 om_ (iM F).1 fl_ fun an aa=>Uj aa U8<|Uq (((gP a i*gP b k:Nat):Int)) (Ra _ _).symm U6<|UQ (((gP q (i+k)+gP a i*gP b k:Nat):Int)) U4 om_ om_ om_ U2<|UL ((i+k)*1) U10 ai U2<|UO (j:=0) U11 (by show (i+k)*1+1<=_;rw [bR ek,B];omega)<|Un [0,1,5,6,7] c Z<|Ui 1 Z fun R c=>Uq _ Z U6<|C6 1 [0,1,5,6,7] c Z<|Uz (L':=[.arr (.slice (some ⟨d,0,none⟩) N N) 3 1 N ((q.set (i+k) (gP q (i+k)+gP a i*gP b k)).map aT).flatten]) (by rw [<- bK ek _ (by omega:i+k<q.length)];rfl)<|Uw (m':=b.length-(k+1)) om_ mup (hn_ [0,1,5,6,7] Z) ⟨k+1,q.set (i+k) (gP q (i+k)+gP a i*gP b k),⟨by omega,by simp [B],fun j=>by
    by_cases h:i+k=j
    ·subst h;rw [Hd om_,Sd];omega
    ·rw [xH h];exact Q j,fun j T=>by rw [xH om_];exact S j om_,by
    have h:=vV (l:=q) (j:=i+k) (y:=gP q (i+k)+gP a i*gP b k) om_;rw [RH (BP ^ (i+k))] at h;rw [AT,RH (gP a i),RH (BP ^ i),<- SR,<- D];have e:BP ^ i*(gP a i*(BP ^ k*gP b k))=BP ^ (i+k)*(gP a i*gP b k):=by
     rw [S9,<- Sg (gP a i),Rm (gP a i) (BP ^ k),Sg,<- Sg (BP ^ i)]
    rw [e];omega⟩,rfl,rfl,rfl⟩
  have F:k=b.length:=by
   have:¬ k<b.length:=by simpa using E
   omega
  refine Ui 1 Z fun R c=>Uq _ Z U6<|C6 1 [0,1,5,6] c Z<|Uw (m':=a.length-(i+1)) om_ mup (hn_ [0,1,5,6] Z) ⟨i+1,q,⟨by omega,B,Q,by
   rw [F,QM] at D;rw [AT,Sd,<- O,Sg];exact D⟩,Z,Z,Z⟩
 have A:i=a.length:=by
  have:¬ i<a.length:=by simpa using z
  omega
 refine G.freezeArr 0 ((o.map fun (x:Nat)=>(x:Int)).map oy) rfl (by rw [RC];rfl) (by intro r hr;obtain ⟨x,_,rfl⟩:=QE.1 hr;rfl) (by simp [M]) fun _ _ ab=>Ui 1 Z fun R c=>UK (CN _ _ (o.map fun (x:Nat)=>(x:Int)) ab.m_ (by rw [oc];omega) (by
  intro x g;obtain ⟨y,hy,rfl⟩:=QE.1 g;obtain ⟨j,T⟩:=Sc hy;have h1:=w j;have h2:gP o j=y:=by unfold gP;rw [am,T];rfl
  rw [h2] at h1;have h3:i*100000000<=5000*100000000:=Rq _ om_;omega) (by rw [ar];omega)) U7 fl_ (fun ao _ _ U=>?_)
 refine C6 1 [4] c Z<|Up U2<|⟨Z, ?_⟩;rw [oc,Sx,O,A,QM] at U;exact U
theorem If (h:(bj z.natAbs).length<=m):z.natAbs<10 ^ m:=by
 obtain ⟨h2,h3⟩:=bk z.natAbs;have h4:=dz h2.1;rw [h3] at h4;exact RI h4 (QZ dc_ h)
theorem zX (h:AE l)(a:bx l<BP ^ m*BP ^ n):l.length<=m+n:=kc h (by rw [S9];exact a)
theorem kS (C:Mem)(d:Tabs C)(z w:Int)(b:z.natAbs<BP ^ 200)(c:w.natAbs<BP ^ 200):Gives cx.P 111 [af (txt z),af (txt w)] C (af (txt (z*w))):=by
 have A:=Rn.2 (nA z.natAbs);have B:=Rn.2 (nA w.natAbs);refine Ur func111 52 U3 fun w0=>Uh 1 [0,1] Z<|Ui 1 Z fun R a=>Ut (dB _ z) U7<|C6 5 [0,1,5,6] a Z<|Ui 1 Z fun R a=>Ut (dB _ w) U7<|C6 5 [0,1,5,6,7,8] a Z ?_;have D:=eW b;have E:=eW c;refine Ui 4 Z fun R a=>Uq ((((bj z.natAbs).length+(bj w.natAbs).length:Nat):Int)) (Tg _ _).symm U6<|C6 1 [0,1,5,6,7,8,28] a Z<|G.cd (fun e=>?_) fun e=>?_
 ·have l:(bj z.natAbs).length+(bj w.natAbs).length<=18:=by
   have h:=PZ e;omega
  have o:(z*w).natAbs<10 ^ 18:=by
   have h1:=If (z:=z) (Qz _);have h2:=If (z:=w) (Qz _);rw [R8];refine RI (Si h1 h2) ?_;rw [<- S9];exact QZ dc_ l
  rw [e18] at o;exact Ui 1 Z fun R a=>Uu (tZ _ z om_) U7 fl_<|C6 5 [1,9] a Z<|Ui 1 Z fun R a=>Uu (tZ _ w om_) U7 fl_<|C6 5 [9,11] a Z<|Ui 2 Z fun R a=>Uq _ Z U6<|Uu (gE _ d.m_ (z*w) om_ om_) U7 fl_<|C6 1 [4] a Z<|Up U2<|⟨Z,Z⟩
 refine Ui 4 Z fun R a=>UR (ga _ z.natAbs b) U7 fun F _ _ p=>Uk U6<|UR (ga _ w.natAbs c) U7 (fun H _ _ q=>?_);obtain ⟨r,s,f,I,t⟩:=p;obtain ⟨u,v,g,J,x⟩:=q;refine UK (wh _ _ _ r u t.m_ x.m_ s.1 v.1 om_ om_) U7 fl_ (fun K _ _ y=>?_);obtain ⟨lp,i,j,k⟩:=y;have L:lp.length<=400:=zX (m:=200) (n:=200) i (by rw [j,f,g];exact Si b c);obtain ⟨M,N,rfl,_⟩:=id k;refine Uu (nq _ d.m_ _ _ lp k.m_ i.1 om_) U7 fl_<|C6 1 [4] a Z<|Up U2<|⟨?_,Z⟩;rw [j,f,g];show af (txt (sgZ (decide (z<0) != decide (w<0)) (z.natAbs*w.natAbs)))=_;rw [FA]
theorem OS (z:Int)(b:g ∣ z.natAbs):sgZ (decide (z<0) != false) (z.natAbs / g)=z / (g:Int):=by
 obtain ⟨m,hm⟩:=b;rcases RM g with h | c
 ·subst h;have a:z=0:=by omega
  subst a;rfl
 rw [hm,Nat.mul_div_cancel_left _ c,Bool.bne_false];unfold sgZ;by_cases a:z<0
 ·rw [QV a,aJ rfl,show z=(g:Int)*(-(m:Int)) by rw [Int.mul_neg,<- Ra];omega,Int.mul_ediv_cancel_left _ om_]
 rw [Q6 a,aF dc_,show z=(g:Int)*(m:Int) by rw [<- Ra];omega,Int.mul_ediv_cancel_left _ om_]
theorem ya (C:Mem)(c:Tabs C)(z:Int)(b:Nat)(m:z.natAbs<BP ^ 200)(n:b<BP ^ 200)(F:0<b)(d:b ∣ z.natAbs):Gives cx.P 168 [af (txt z),af (bj b)] C (.tuple #[af (txt (z / (b:Int))),af (bj 0)]):=by
 have H:=Oe;have o:z.natAbs % b=0:=Nat.mod_eq_zero_of_dvd d;have f:(b:Int) ∣ z:=S4.1 (Sn.2 d);have I:(z / (b:Int)).natAbs<=z.natAbs:=by
  rw [SI f,Rp];exact RG _ _
 refine Ur func168 93 U3 fun w0=>Uh 2 [0,1] Z<|Ui 1 Z fun R a=>Ut (oG C z) U7<|C6 5 [0,1,6,7] a Z<|Ui 1 Z fun R a=>Ut (qZ _ b) U7<|C6 5 [0,1,6,7,8,9] a Z<|Ui 3 Z fun R a=>UJ U8<|Un [0,1,6,8,31] a Z<|G.cd (fun g=>?_) fun g=>?_
 ·have hs:(bj z.natAbs).length<=17/\(bj b).length<=17:=by simpa using g
  have h1:=oF hs.1;have h2:=rb hs.2;rw [aJ hs.1,aJ hs.2];refine UD [0,1,2,3,4,5,6,7] [] Z kr_ fun R J a=>Um 2 Z<|Vs (z / (b:Int)) U6 om_ (lM d) (wrap_i64 om_ om_) U2<|Um 2 Z<|Vo 0 U6 om_ ⟨(Int.tmod_eq_zero_of_dvd f),Z,Z⟩<|C6 2 [6,8,10,11] a Z<|Uh 2 [6,8,10,11,39] Z<|G.cd (fun h=>?_) fun h=>?_
  ·exfalso;simp at h
  refine Ui 1 Z fun R a=>Uu (gE _ c (z / (b:Int)) om_ om_) U7 fl_<|Uk U6<|Uu (Gm _ c 0 om_) U7 fl_<|C6 2 [4,5] a Z<|Uv (G.dropAll (UH U3 ?_));exact ⟨Z,Z⟩
 refine Ui 1 Z fun R a=>Ut (dB _ z) U7<|C6 5 [1,12,13] a Z<|Ui 1 Z fun R a=>Ut (pd _ b) U7<|C6 5 [12,13,14,15] a Z<|Ui 1 Z fun R a=>UR (ga _ z.natAbs m) U7 (fun K _ _ p=>?_);obtain ⟨lp,q,r,L,s⟩:=p;refine Uk U6<|UR (ga _ b n) U7 (fun M _ _ t=>?_);obtain ⟨u,v,w,N,x⟩:=t;refine UK (BS _ _ _ lp u s.m_ x.m_ q.1 v om_ om_ om_) U7 fl_ (fun O _ _ y=>?_);obtain ⟨u1,Q,rfl,i,e⟩:=y;rw [r,w] at i e;rw [o] at e;obtain ⟨l1,A,B,S,D⟩:=PieC.take i (by have:=RG z.natAbs b;omega);obtain ⟨l2,j,E,T,k⟩:=PieC.take e om_;obtain ⟨A2,c2,rfl,_⟩:=id k;obtain rfl:=(CO j).1 E;refine C6 5 [12,14,15,16,17] a Z<|Ui 5 Z fun R a=>UJ U8<|Un [12,14,15,16,17,78] a Z<|G.cd (fun l=>?_) fun l=>?_
 ·exfalso;simp at l
 refine Ui 4 Z fun R a=>Uu (nq _ c.m_ _ _ l1 D.m_ A.1 om_) U7 fl_<|Uk U6<|Uu (uG _ c.m_ _ [] k.m_ j.1 al) U7 fl_<|C6 2 [4,5] a Z<|Uv (G.dropAll (UH U3 ?_));refine ⟨?_,Z⟩;show Value.tuple #[af (txt (sgZ (decide (z<0) != false) (bx l1))),_]=_;rw [B,OS z d];rfl
theorem DS (C:Mem)(e:Tabs C)(n:Int)(d:Nat)(o:0<d)(p:n.natAbs<9000000000000000000)(u:d<9000000000000000000):Gives cx.P 108 [.int .i64 n,.int .i64 d] C (af (qtx (mkRat n d))):=by
 obtain ⟨g,b⟩:∃ g,Nat.gcd n.natAbs d=g:=⟨_,rfl⟩;have v:0<g:=by rw [<- b];exact SZ _ o
 have q:g ∣ n.natAbs:=by rw [<- b];exact Ts _ _
 have w:g ∣ d:=by rw [<- b];exact Tx _ _
 have N:g<=d:=TS o w;have z:(n / (g:Int)).natAbs<=n.natAbs:=by
  rw [SI (S4.1 (Sn.2 q)),Rp];exact RG _ _
 have r:=RG d g;rw [wT om_,b];refine Ur func108 36 U3 fun w0=>Uh 1 [0,1] Z<|Uh 2 [0,1,8] Z<|G.cut (fun fr A f i=>(True)/\fr=[(0,[],.int .i64 (n / (g:Int))),(1,[],.int .i64 ((d / g:Nat):Int))]/\f=[]) ?_ (fun fr _ O i _ j=>?_)
 ·refine G.cd (fun s=>?_) fun s=>?_
  ·skip
   refine Ui 3 Z fun R a=>?_;have Q:IntKind.i64.wrap (0-n)=0-n:=wrap_i64 om_ om_;refine D.max ((n.natAbs:Int)) U6 om_ U2<|C6 3 [0,1,5,6] a Z<|G.loop (fun fr A f i=>∃ (x y:Int),(x.natAbs<9000000000000000000/\0<=x/\0<=y/\y.natAbs<9000000000000000000/\Nat.gcd x.natAbs y.natAbs=g)/\fr=[(0,[],.int .i64 n),(1,[],.int .i64 d),(5,[],.int .i64 x),(6,[],.int .i64 y)]/\f=[]/\i=y.natAbs+1) (hn_ [0,1,5,6] Z) ⟨(n.natAbs:Int),d,⟨p,by omega,by omega,by omega,by rw [Rp];exact b⟩,Z,Z,Z⟩ (fun fr S T m B j=>?_);obtain ⟨x,y,⟨U,E,F,H,t⟩,rfl,rfl,rfl⟩:=j;refine Uh 2 [0,1,5,6,15] Z<|G.cd (fun k=>?_) fun k=>?_
   ·have l:y≠0:=by simpa using k
    have I:(x.tmod y).natAbs=x.natAbs % y.natAbs:=Ti x y;have V:=Rj x.natAbs (show 0<y.natAbs by omega);have J:=Int.tmod_nonneg y E;refine UD [0,1,2,3,4,5] [] Z kr_ fun R K a=>Um 3 Z<|Vo (x.tmod y) U6 l U3<|C6 2 [0,1,5,6] a Z<|Uw (m':=(x.tmod y).natAbs+1) om_ B (hn_ [0,1,5,6] Z) ⟨y,x.tmod y,⟨H,F,J,by omega,by rw [I,<- t,SL x.natAbs,TR y.natAbs x.natAbs,SL]⟩,Z,Z,Z⟩
   have l:y=0:=by simpa using k
   subst l;rw [show (0:Int).natAbs=0 from rfl,Tb] at t;obtain rfl:x=(g:Int):=by omega
   refine UD [0,1,2,3,4,5,6,7] [] Z kr_ fun R K a=>Um 2 Z<|Vs (n / (g:Int)) U6 om_ (lM q) (wrap_i64 om_ om_) U2<|Um 2 Z<|Vn (d) (g) U6 v (.inl ⟨Z,by omega⟩) U2<|C6 2 [0,1] a Z<|Ux 0 mup (hn_ [0,1] Z) ⟨trivial,Z,Z⟩
  have L:d=1:=by
   have h:(d:Int)=1:=by simpa using s
   omega
  subst L;have M:g=1:=by omega
  refine Ux 0 (Mem.le.refl _) (hn_ [0,1] Z) ⟨trivial,by rw [M,Nat.div_one,Int.natCast_one,Int.ediv_one],Z⟩
 obtain ⟨_,rfl,rfl⟩:=j;refine Uh 2 [0,1,27] Z<|G.cd (fun c=>?_) fun c=>?_
 ·have h1:d / g=1:=by
   have h2:(((d / g:Nat):Int))=1:=by simpa using c
   omega
  refine Ui 1 Z fun R a=>Uu (fO _ e.m_ _ om_ om_) U7 fl_<|C6 1 [4] a Z<|Up U2<|⟨?_,Z⟩;rw [h1,jY rfl];simp [df]
 have h1:d / g≠1:=by
  intro h2;rw [h2] at c;exact absurd c dc_
 have W:=iV (n / (g:Int));have X:=iV ((d / g:Nat):Int);have Y:(bj (n / (g:Int)).natAbs).length<=20:=dR (Rw z (SM p dc_)) dc_;have aa:(bj ((d / g:Nat):Int).natAbs).length<=20:=dR (by rw [Rp];exact Rw r (SM u dc_)) dc_;refine Ui 1 Z fun R a=>Uu (fO _ e.m_ _ om_ om_) U7 fl_<|Vb U6 (fun _=>(by simp only [QT,Re];omega)) U2<|Uk U6<|Uu (fO _ e.m_ ((d / g:Nat):Int) (TH dc_ (Ub _)) (TH (Int.ofNat_le.2 r) om_)) U7 fl_<|Vb U6 (fun _=>(by simp only [QG,QT,Re];omega)) U2<|C6 1 [4] a Z<|Up U2<|⟨?_,Z⟩;rw [eN h1,cW,Q8];rfl
theorem B6 (h:(txt z).length<=9):z.natAbs<1000000000:=by
 have h1:=Ak h
 rwa [e9] at h1
theorem Fp (C:Mem)(k:Tabs C)(z w:Int)(A:(txt z).length<=9)(B:(txt w).length<=9)(S:w≠0):Gives cx.P 164 [af (txt z),af (txt w)] C (af (qtx (ld z w))):=by
 have T:=B6 A;have U:=B6 B;obtain ⟨n,i⟩:∃ y,(if w<0 then -z else z)=y:=⟨_,rfl⟩;obtain ⟨d,D⟩:∃ d,w.natAbs=d:=⟨_,rfl⟩;have r:0<d:=by omega
 have E:n.natAbs<1000000000:=by rw [<- i];split <;> omega
 unfold ld;rw [i,D];obtain ⟨g,b⟩:∃ g,Nat.gcd n.natAbs d=g:=⟨_,rfl⟩;have F:0<g:=by rw [<- b];exact SZ _ r
 have s:g ∣ n.natAbs:=by rw [<- b];exact Ts _ _
 have H:g ∣ d:=by rw [<- b];exact Tx _ _
 have V:g<=d:=TS r H;have I:(n / (g:Int)).natAbs<=n.natAbs:=by
  rw [SI (S4.1 (Sn.2 s)),Rp];exact RG _ _
 have t:=RG d g;rw [wT om_,b];refine Ur func164 55 U3 fun w0=>Uh 1 [0,1] Z<|Ui 1 Z fun R a=>Uu (Ai Tryz.atoi z om_ _ kr_) U7 fl_<|C6 5 [1,5] a Z<|Ui 1 Z fun R a=>Uu (Ai Tryz.atoi w om_ _ kr_) U7 fl_<|C6 5 [5,7] a Z<|Uh 2 [5,7,22] Z<|G.cut (fun fr u c e=>(True)/\fr=[(5,[],.int .i64 n),(7,[],.int .i64 d)]/\c=[]) ?_ (fun fr _ W e _ f=>?_)
 ·refine G.cd (fun l=>?_) fun l=>?_
  ·have h:w<0:=by simpa using l
   rw [aJ h] at i;refine Uh 6 [5,7] Z ?_;rw [show IntKind.i64.wrap (0-z)=n by rw [wrap_i64 om_ om_];omega,show IntKind.i64.wrap (0-w)=(d:Int) by rw [wrap_i64 om_ om_];omega];refine Ux 0 (Mem.le.refl _) (hn_ [5,7] Z) ⟨trivial,Z,Z⟩
  have h:¬ w<0:=by simpa using l
  rw [aF h] at i;rw [show z=n by omega,show w=(d:Int) by omega];refine Ux 0 (Mem.le.refl _) (hn_ [5,7] Z) ⟨trivial,Z,Z⟩
 obtain ⟨_,rfl,rfl⟩:=f;refine Uh 4 [5,7,9,10] Z<|Uh 2 [5,7,9,10,30] Z<|G.cut (fun fr u c e=>(True)/\fr=[(5,[],.int .i64 n),(7,[],.int .i64 d),(9,[],.int .i64 (n.natAbs:Nat)),(10,[],.int .i64 d)]/\c=[]) ?_ (fun fr _ X e _ f=>?_)
 ·refine G.cd (fun o=>?_) fun o=>?_
  ·have h:n<0:=by simpa using o
   refine Uh 3 [5,7,9,10] Z ?_;rw [show IntKind.i64.wrap (0-n)=((n.natAbs:Nat):Int) by rw [wrap_i64 om_ om_];omega];refine Ux 0 (Mem.le.refl _) (hn_ [5,7,9,10] Z) ⟨trivial,Z,Z⟩
  have h:¬ n<0:=by simpa using o
  refine Ux 0 (Mem.le.refl _) (hn_ [5,7,9,10] Z) ⟨trivial,by rw [show ((n.natAbs:Nat):Int)=n by omega],Z⟩
 obtain ⟨_,rfl,rfl⟩:=f;refine G.loop (fun fr u c e=>∃ (x y:Int),(x.natAbs<9000000000000000000/\0<=x/\0<=y/\y.natAbs<9000000000000000000/\Nat.gcd x.natAbs y.natAbs=g)/\fr=[(5,[],.int .i64 n),(7,[],.int .i64 d),(9,[],.int .i64 x),(10,[],.int .i64 y)]/\c=[]/\e=y.natAbs+1) (hn_ [5,7,9,10] Z) ⟨(n.natAbs:Int),d,⟨by omega,by omega,by omega,by omega,by rw [Rp,Rp];exact b⟩,Z,Z,Z⟩ (fun fr Y aa m J f=>?_);obtain ⟨x,y,⟨ab,K,L,M,v⟩,rfl,rfl,rfl⟩:=f;refine Uh 2 [5,7,9,10,34] Z<|G.cd (fun p=>?_) fun p=>?_
 ·have q:y≠0:=by simpa using p
  have N:(x.tmod y).natAbs=x.natAbs % y.natAbs:=Ti x y;have ac:=Rj x.natAbs (show 0<y.natAbs by omega);have O:=Int.tmod_nonneg y K;refine UD [0,1,2,3,4,5] [] Z kr_ fun R Q a=>Um 3 Z<|Vo (x.tmod y) U6 q U3<|C6 2 [5,7,9,10] a Z<|Uw (m':=(x.tmod y).natAbs+1) om_ J (hn_ [5,7,9,10] Z) ⟨y,x.tmod y,⟨M,L,O,by omega,by rw [N,<- v,SL x.natAbs,TR y.natAbs x.natAbs,SL]⟩,Z,Z,Z⟩
 have q:y=0:=by simpa using p
 subst q;rw [show (0:Int).natAbs=0 from rfl,Tb] at v;obtain rfl:x=(g:Int):=by omega
 refine UD [0,1,2,3,4,5,6,7] [] Z kr_ fun R Q a=>Um 2 Z<|Vs (n / (g:Int)) U6 om_ (lM s) (wrap_i64 om_ om_) U2<|Um 2 Z<|Vn (d) (g) U6 F (.inl ⟨Z,by omega⟩) U2<|C6 2 [5,7] a Z<|Uh 2 [5,7,46] Z<|G.cd (fun j=>?_) fun j=>?_
 ·have h1:d / g=1:=by
   have h2:(((d / g:Nat):Int))=1:=by simpa using j
   omega
  refine Ui 1 Z fun R a=>Uu (fO _ k.m_ _ om_ om_) U7 fl_<|C6 1 [4] a Z<|Up U2<|⟨?_,Z⟩;rw [h1,jY rfl];simp [df]
 have h1:d / g≠1:=by
  intro h2;rw [h2] at j;exact absurd j dc_
 have ad:=iV (n / (g:Int));have ae:=iV ((d / g:Nat):Int);have ag:(bj (n / (g:Int)).natAbs).length<=20:=dR (Rw I (SM E dc_)) dc_;have ah:(bj ((d / g:Nat):Int).natAbs).length<=20:=dR (by rw [Rp];exact Rw t (SM (show d<1000000000 by omega) dc_)) dc_;refine Ui 1 Z fun R a=>Uu (fO _ k.m_ _ om_ om_) U7 fl_<|Vb U6 (fun _=>(by simp only [QT,Re];omega)) U2<|Uk U6<|Uu (fO _ k.m_ ((d / g:Nat):Int) (TH dc_ (Ub _)) (TH (Int.ofNat_le.2 t) om_)) U7 fl_<|Vb U6 (fun _=>(by simp only [QG,QT,Re];omega)) U2<|C6 1 [4] a Z<|Up U2<|⟨?_,Z⟩;rw [eN h1,cW,Q8];rfl
def LS (sg:Bool)(A:Str)(B:Option Str):Value:=.tuple #[.int .i64 (sgZ sg (bP A)),.int .i64 (PB B),.bool true]
theorem Em (C:Mem)(a:Bool)(A:Str)(B:Option Str)(r:∀ c∈A,eG c=true)(S:A≠[])(T:∀ b,B=some b->∀ c∈b,eG c=true)(U:(DH a++A++df B).length<=9) :
  Gives cx.P 107 [af (DH a++A++df B)] C (LS a A B):=by
 obtain ⟨s,hs⟩:∃ s,DH a++A++df B=s:=⟨_,rfl⟩;obtain ⟨p,t⟩:∃ p,(DH a).length=p:=⟨_,rfl⟩;have o:p=if a then 1 else 0:=by rw [<- t];cases a <;> rfl
 have u:∀ j c,A[j]?=some c->s[p+j]?=some c:=fun j c h=>by rw [<- hs,<- t];exact F4 _ _ _ h
 have K:∀ j,s[p+A.length+j]?=(df B)[j]?:=fun j=>by rw [<- hs,<- t];exact BK _ _ _ _
 have x:s.length=p+A.length+(df B).length:=by rw [<- hs,<- t,QG,QG]
 have V:0<A.length:=Rn.2 S;rw [hs] at U ⊢;have L:∀ j,bP (A.take j)<1000000000:=fun j=>by
  have h:=mF r (i:=min j A.length) om_;rcases Nat.le_total j A.length with h1 | h1
  ·rwa [RD h1] at h
  rw [Nat.min_eq_right h1,QM] at h
  rwa [Rf h1]
 refine Ur func107 57 U3 fun w0=>Uh 3 [0,2] Z<|Uh 3 [0,2,9] Z<|G.cd (fun M=>?_) fun M=>?_
 ·exfalso;have h:(9:Int)<((s.length:Nat):Int):=PZ M;omega
 refine Uh 3 [0,2,3,5,6] Z<|Ui 1 Z fun R d=>UZ (b:=s.getD 0 0) U8 (fun _=>⟨by omega,(by rw [am,show (0:Int).toNat=0 from rfl];obtain ⟨c,f⟩:∃ c,s[0]?=some c:=⟨s[0]'om_,aj om_⟩;rw [f];rfl)⟩) U2<|C6 1 [0,2,3,5,6,12] d Z<|G.cut (fun fr y g k=>(True)/\fr=[(0,[],af s),(2,[],.int .i64 0),(3,[],.int .i64 1),(5,[],.int .i64 p),(6,[],.int .i64 (if a then -1 else 1))]/\g=[]) ?_ (fun fr _ ad k _ l=>?_)
 ·refine G.cd (fun q=>?_) fun q=>?_
  ·have z:a=true:=by
    cases a with
    | true=>rfl
    | false =>
     exfalso;rw [aF dc_] at o;subst o;obtain ⟨c,f⟩:∃ c,A[0]?=some c:=⟨A[0],aj V⟩;have h1:=u 0 c f;have h2:=r c (aX f);rw [Sh] at h1;rw [am,h1] at q;unfold eG at h2;simp at q h2;omega
   subst z;rw [aJ rfl] at o;subst o;refine Uh 2 [0,2,3,5,6] Z<|Ux 0 (Mem.le.refl _) (hn_ [0,2,3,5,6] Z) ⟨trivial,Z,Z⟩
  have z:a=false:=by
   cases a with
   | false=>rfl
   | true =>
    exfalso;have h1:s[0]?=some 45:=by rw [<- hs];rfl
    rw [am,h1] at q;exact absurd q dc_
  subst z;rw [aF dc_] at o;subst o;refine Ux 0 (Mem.le.refl _) (hn_ [0,2,3,5,6] Z) ⟨trivial,Z,Z⟩
 obtain ⟨_,rfl,rfl⟩:=l;refine G.loop (fun fr y g k=>∃ (j:Nat),(j<=A.length)/\fr=[(0,[],af s),(2,[],.int .i64 ((bP (A.take j):Nat):Int)),(3,[],.int .i64 1),(5,[],.int .i64 ((p+j:Nat):Int)),(6,[],.int .i64 (if a then -1 else 1))]/\g=[]/\k=A.length-j+1) (hn_ [0,2,3,5,6] Z) ⟨0,by omega,Z,Z,Z⟩ (fun fr ae ag m W l=>?_);obtain ⟨j,hj,rfl,rfl,rfl⟩:=l;obtain ⟨c,f⟩:∃ c,p+j<s.length->s[p+j]?=some c:=⟨s.getD (p+j) 0,fun h=>by rw [am,aj h];rfl⟩;refine Ui 7 Z fun R d=>UZ (b:=c) U8 (fun X=>⟨by omega,f (by have h:decide (((p+j:Nat):Int)<((s.length:Nat):Int))=true:=X.1;have h2:=PZ h;omega)⟩) U2<|Uk U6<|UJ U8<|Un [0,2,3,5,6,22] d Z<|G.cd (fun v=>?_) fun v=>?_
 ·have E:p+j<s.length/\c.toNat≠47:=by
   simp at v;omega
  have F:j<A.length:=by
   rcases Q1 j A.length with h | h
   ·exact h
   exfalso;obtain rfl:j=A.length:=by omega
   have h1:=f E.1;have h2:=K 0;rw [Sh,h1] at h2;cases B with
   | none=>simp [df] at h2
   | some b =>
    simp [df] at h2;subst h2;exact E.2 Z
  obtain ⟨e,n⟩:∃ c,A[j]?=some c:=⟨A[j],aj F⟩;obtain rfl:e=c:=by
   have h1:=f E.1;rw [u j e n] at h1;exact R6 h1
  have N:48<=e.toNat/\e.toNat<=57:=by simpa [eG] using r e (aX n)
  have O:=L j;refine Ui 1 Z fun R d=>Uq _ Z U6<|Um 2 Z<|UZ U8 (fun _=>⟨by omega,u j _ n⟩) U2<|D.int (((e.toNat:Nat):Int)-48) U4 (by rw [IntKind.wrap_u8];omega) U2<|UU (c:=((e.toNat:Nat):Int)-48) U8 (by rw [IntKind.wrap_i64];omega) fl_<|Uq _ Z U6<|Uk U6<|Uq _ Z U6<|C6 2 [0,2,3,5,6] d Z ?_;rw [show 10*((bP (A.take j):Nat):Int)+(((e.toNat:Nat):Int)-48)=((bP (A.take (j+1)):Nat):Int) by rw [oA n];omega];refine Uw (m':=A.length-(j+1)+1) om_ W (hn_ [0,2,3,5,6] Z) ⟨j+1,om_,Z,Z,Z⟩
 have F:j=A.length:=by
  rcases Q1 j A.length with h | h
  ·exfalso;obtain ⟨e,n⟩:∃ c,A[j]?=some c:=⟨A[j],aj h⟩;have h1:=f om_;rw [u j e n] at h1;obtain rfl:=R6 h1;have N:48<=e.toNat/\e.toNat<=57:=by simpa [eG] using r e (aX n)
   simp at v;have:=v om_;omega
  omega
 subst F;have O:=L A.length;rw [QM] at O ⊢;refine Uh 4 [0,2,3,5,6,36] Z<|G.cut (fun fr y g k=>(True)/\fr=[(2,[],.int .i64 ((bP A:Nat):Int)),(3,[],.int .i64 ((PB B:Nat):Int)),(6,[],.int .i64 (if a then -1 else 1))]/\g=[]) ?_ (fun fr _ ah k _ l=>?_)
 ·refine G.cd (fun w=>?_) fun w=>?_
  ·obtain ⟨b,rfl⟩:∃ b,B=some b:=by
    cases B with
    | some b=>exact ⟨b,rfl⟩
    | none =>
     exfalso;rw [x] at w;simp [df] at w
   have Q:=T b rfl;have ai:s.length=p+A.length+1+b.length:=by rw [x];simp [df];omega
   have Y:∀ j,bP (b.take j)<1000000000:=fun j=>by
    have h:=mF Q (i:=min j b.length) om_;rcases Nat.le_total j b.length with h1 | h1
    ·rwa [RD h1] at h
    rw [Nat.min_eq_right h1,QM] at h
    rwa [Rf h1]
   refine Uh 1 [0,2,3,5,6] Z<|Ui 1 Z fun R d=>Uq _ Z U6<|C6 1 [0,2,3,5,6] d Z<|G.loop (fun fr y g k=>∃ (j:Nat),(j<=b.length)/\fr=[(0,[],af s),(2,[],.int .i64 ((bP A:Nat):Int)),(3,[],.int .i64 ((bP (b.take j):Nat):Int)),(5,[],.int .i64 ((p+A.length+1+j:Nat):Int)),(6,[],.int .i64 (if a then -1 else 1))]/\g=[]/\k=b.length-j+1) (hn_ [0,2,3,5,6] Z) ⟨0,om_,Z,Z,Z⟩ (fun fr ak al m aa l=>?_);obtain ⟨j,hk,rfl,rfl,rfl⟩:=l;refine Uh 4 [0,2,3,5,6,42] Z<|G.cd (fun H=>?_) fun H=>?_
   ·have I:j<b.length:=by
     have:p+A.length+1+j<s.length:=by simp at H;omega
     omega
    obtain ⟨c,J⟩:∃ c,b[j]?=some c:=⟨b[j],aj I⟩;have ab:s[p+A.length+1+j]?=some c:=by rw [SR,K,SP 1 j];exact J
    have N:48<=c.toNat/\c.toNat<=57:=by simpa [eG] using Q c (aX J)
    have an:=Y j;refine Ui 1 Z fun R d=>Uq _ Z U6<|Um 2 Z<|UZ U8 (fun _=>⟨by omega,ab⟩) U2<|D.int (((c.toNat:Nat):Int)-48) U4 (by rw [IntKind.wrap_u8];omega) U2<|UU (c:=((c.toNat:Nat):Int)-48) U8 (by rw [IntKind.wrap_i64];omega) fl_<|Uq _ Z U6<|C6 1 [0,2,3,5,6] d Z<|Ui 1 Z fun R d=>Uq _ Z U6<|C6 1 [0,2,3,5,6] d Z ?_;rw [show 10*((bP (b.take j):Nat):Int)+(((c.toNat:Nat):Int)-48)=((bP (b.take (j+1)):Nat):Int) by rw [oA J];omega];refine Uw (m':=b.length-(j+1)+1) om_ aa (hn_ [0,2,3,5,6] Z) ⟨j+1,om_,Z,Z,Z⟩
   have I:j=b.length:=by
    have:¬ p+A.length+1+j<s.length:=by simp at H;omega
    omega
   subst I;rw [QM];refine Ux 0 mup (hn_ [2,3,6] Z) ⟨trivial,Z,Z⟩
  have ac:B=none:=by
   cases B with
   | none=>rfl
   | some b =>
    exfalso;have h:¬ ((p+A.length:Nat):Int)<((s.length:Nat):Int):=QF w;rw [x] at h;simp only [df,QT] at h;omega
  subst ac;refine Ux 0 (Mem.le.refl _) (hn_ [2,3,6] Z) ⟨trivial,Z,Z⟩
 obtain ⟨_,rfl,rfl⟩:=l;have ao:-1000000000<sgZ a (bP A)/\sgZ a (bP A)<1000000000:=by unfold sgZ;split <;> omega
 refine Ui 2 Z fun R d=>?_;refine UQ (sgZ a (bP A)) U4 (by unfold sgZ;cases a <;> simp) om_ om_ U2 ?_;refine C6 4 [2,3,4] d Z<|Uv (G.dropAll (Vi U4 ?_));exact ⟨Z,Z⟩
theorem Ie (h:z.natAbs<m)(g:Nat)(a:g ∣ z.natAbs):(z / (g:Int)).natAbs<m:=by
 rw [SI (S4.1 (Sn.2 a)),Rp];exact Rw (RG _ _) h
theorem Kc (C:Mem)(a:Tabs C)(y:Int)(d:Nat)(b:y.natAbs<BP ^ 200)(c:d<BP ^ 200):Gives cx.P 167 [af (txt y),af (bj d)] C (af (bj (Nat.gcd y.natAbs d))):=by
 have h:=D4 C a y (d:Nat) b om_
 rwa [cW,Rp] at h
theorem qD (C:Mem)(e:Tabs C)(z w:Int)(j:z.natAbs<BP ^ 200)(n:w.natAbs<BP ^ 200)(o:w≠0):Gives cx.P 105 [af (txt z),af (txt w)] C (af (qtx (ld z w))):=by
 have B:=eW j;have D:=eW n;obtain ⟨y,hy⟩:∃ y,(if w<0 then -z else z)=y:=⟨_,rfl⟩;obtain ⟨d,p⟩:∃ d,w.natAbs=d:=⟨_,rfl⟩;have q:d≠0:=by omega
 have r:y.natAbs=z.natAbs:=by rw [<- hy];split <;> omega
 obtain ⟨g,b⟩:∃ g,Nat.gcd y.natAbs d=g:=⟨_,rfl⟩;have k:0<g:=by rw [<- b];exact SZ _ om_
 have s:g ∣ d:=by rw [<- b];exact Tx _ _
 have l:g ∣ y.natAbs:=by rw [<- b];exact Ts _ _
 have E:g<=d:=TS om_ s;refine Ur func105 46 U3 fun w0=>Uh 1 [0,1] Z<|Ui 7 Z fun R a=>UJ U8<|Un [0,1,13] a Z<|G.cd (fun m=>?_) fun m=>?_
 ·have h:(txt z).length<=9/\(txt w).length<=9:=by
   have h1:=(QR _ _ ▸ m:_/\_);have h2:((txt z).length:Int)<=9:=PZ h1.1;have h3:((txt w).length:Int)<=9:=PZ h1.2;omega
  exact Ui 2 Z fun R a=>Ut (Fp _ e.m_ z w h.1 h.2 o) U7<|C6 1 [4] a Z<|Up U2<|⟨Z,Z⟩
 refine Ui 1 Z fun R a=>Ut (yR _ w) U7<|C6 1 [0,1,19] a Z<|G.cut (fun fr F t u=>(True)/\fr=[(0,[],af (txt y)),(1,[],af (bj d))]/\t=[]) ?_ (fun fr _ H u _ v=>?_)
 ·refine G.cd (fun f=>?_) fun f=>?_
  ·have i:w<0:=by
    have h:=PZ f;refine Q5 fun h2=>?_;rw [aF h2] at h;revert h;split <;> decide
   rw [aJ i] at hy;refine Ui 1 Z fun R a=>Uu (sq _ z om_) U7 fl_<|Uk U6<|Uu (sq _ w om_) U7 fl_<|C6 2 [0,1] a Z<|Ux 0 (Mem.le.refl _) (hn_ [0,1] Z) ⟨trivial,by rw [hy,show -w=((d:Nat):Int) by omega,cW],Z⟩
  have i:¬ w<0:=by
   intro h2;have h:=QF f;rw [aJ h2] at h;exact h dc_
  rw [aF i] at hy;refine Ux 0 (Mem.le.refl _) (hn_ [0,1] Z) ⟨trivial,by rw [hy,show w=((d:Nat):Int) by omega,cW],Z⟩
 obtain ⟨_,rfl,rfl⟩:=v;unfold ld;rw [hy,p,wT q,b];have x:=Ie (z:=y) (by rw [r];exact j) g l;have I:=eW x;have A:d / g<BP ^ 200:=Rw (RG _ _) om_;have J:=eW A;have K:=iV (y / (g:Int));refine Ui 2 Z fun R a=>Uu (Kc _ e.m_ y d om_ om_) U7 fl_<|C6 1 [0,1,5] a Z ?_;rw [b];refine Ui 2 Z fun R a=>Uu (ya _ e.m_ y g om_ om_ k l) U7 fl_<|C6 4 [0,1,5] a Z<|Ui 2 Z fun R a=>Uu (mA _ e.m_ d g om_ om_ k) U7 fl_<|C6 4 [0,1] a Z<|Uh 2 [0,1,40] Z<|G.cd (fun c=>?_) fun c=>?_
 ·have h1:d / g=1:=by rw [tg] at c;exact PZ c
  refine Uh 2 [4] Z<|Up U2<|⟨?_,Z⟩;rw [jY h1];simp [df]
 have h1:d / g≠1:=by rw [tg] at c;exact QF c
 refine Ui 1 Z fun R a=>Vb U6 (fun _=>(by simp only [QT,Re];omega)) U2<|Uk U6<|Vb U6 (fun _=>(by simp only [QG,QT,Re];omega)) U2<|C6 1 [4] a Z<|Up U2<|⟨?_,Z⟩;rw [eN h1,Q8];rfl
theorem Ph (C:Mem)(a:Tabs C)(z w:Int)(d:z.natAbs<9000000000000000000)(e:w.natAbs<9000000000000000000)(b:w≠0):Gives cx.P 47 [.int .i64 z,.int .i64 w] C (af (qtx (ld z w))):=by
 have f:9000000000000000000<BP ^ 200:=by decide +kernel
 exact Ur func47 10 U3 fun w0=>Uh 1 [0,1] Z<|Ui 1 Z fun R c=>Uu (gE _ a.m_ z om_ om_) U7 fl_<|Uk U6<|Uu (gE _ a.m_ w om_ om_) U7 fl_<|Uu (qD _ a.m_ z w om_ om_ b) U7 fl_<|C6 1 [4] c Z<|Up U2<|⟨Z,Z⟩
theorem I2 (C:Mem)(q:Rat)(_i:(qtx q).length<=1000000):Gives cx.P 83 [af (qtx q)] C (.int .i64 (eH q.num)):=by
 obtain ⟨c,r,f,d⟩:=lN q;have j:=sf q;refine Ur func83 8 U3 fun w0=>Uh 1 [0] Z<|Uh 2 [0,4] Z<|G.cd (fun h4=>?_) fun h4=>?_
 ·have h0:q=0:=by rw [eQ] at h4;exact PZ h4
  refine Uh 1 [2] Z<|Up U2<|⟨?_,Z⟩;rw [h0];rfl
 have h0:q≠0:=by rw [eQ] at h4;exact QF h4
 have g:q.num≠0:=fun e=>h0 (Tj.1 e);refine Ui 1 Z fun R h=>UZ U8 (fun _=>⟨by omega,by rw [f];rfl⟩) U2<|C6 1 [7] h Z<|G.cd (fun a=>?_) fun a=>?_
 ·rw [d] at a;have b:q.num<0:=PZ a;refine Uh 1 [2] Z<|Up U2<|⟨?_,Z⟩;unfold eH;rw [aJ b]
 rw [d] at a;have b:¬ q.num<0:=QF a;refine Uh 1 [2] Z<|Up U2<|⟨?_,Z⟩;unfold eH;rw [aF b,aF g]
theorem Nm (C:Mem)(q:Rat)(g:(qtx q).length<=1000000):Gives cx.P 20 [af (qtx q)] C (af (qtx (-q))):=by
 have h:=sf q;refine Ur func20 13 U3 fun w0=>Uh 1 [0] Z<|Uh 2 [0,4] Z<|G.cd (fun h4=>?_) fun h4=>?_
 ·have h0:q=0:=by rw [eQ] at h4;exact PZ h4
  refine Uh 2 [2] Z<|Up U2<|⟨?_,Z⟩;rw [h0,Rat.neg_zero]
 have h0:q≠0:=by rw [eQ] at h4;exact QF h4
 obtain ⟨c,r,f,e⟩:=lN q;refine Ui 1 Z fun R a=>UZ U8 (fun _=>⟨by omega,by rw [f];rfl⟩) U2<|C6 1 [0,8] a Z<|G.cd (fun b=>?_) fun b=>?_
 ·have d:q.num<0:=by rw [e] at b;exact PZ b
  refine Ui 1 Z fun R a=>Vf 1 (qtx q).length U9 (fun _=>⟨.inr ⟨_,Z⟩,.inl ⟨Z,Z⟩,.inl ⟨Z,Z⟩,by omega,Qz _,Qz _⟩) U2<|C6 1 [2] a Z<|Up U2<|⟨?_,Z⟩;rw [QM,kB d];rfl
 have d:¬ q.num<0:=by rw [e] at b;exact QF b
 refine Ui 1 Z fun R a=>Vb U6 (fun _=>(by simp only [QT,Re];omega)) U2<|C6 1 [2] a Z<|Up U2<|⟨?_,Z⟩;rw [eY d h0];rfl
end Go.Proofs.YtfjcldheldflbaaGreatDoor
