/- Laws that the proofs of this seat share, part 7. -/
import Derived.Test.YthnpijdjlddpmaaGreatDoorG6
import Derived.Test.YthnpijdjlddpmaaGreatDoorShelf
import Derived.RangeFuncBox
import Derived.RangeFuncLeaves
import Derived.Shelf.Abstract
import Derived.WalkKit
import Derived.OwnWalkIn
import Derived.TacticsInMore
import Derived.LoopNIn
import Derived.LoopIn
import Derived.Stop.RegionWithIn
import Derived.Test.YthnpijdjlddpmaaGreatDoorProg
set_option maxHeartbeats 4000000
namespace Go.Proofs.YthnpijdjlddpmaaGreatDoor
open Go.Proofs.Tryz
open Go Go.Jog
set_option maxRecDepth 100000
variable {a b:Rat}{d g k m n:Nat}{q:Rat}{s t:Str}{w z:Int}
theorem ci (h:n<B9 ^ k)(a:0<k):(bl n).length<=9*k:=eI (by rw [Lv];exact h) om_
theorem zG (h:(txt z).length<=m):z.natAbs<10 ^ m:=by
 have h1:(bl z.natAbs).length<=m:=by
  unfold txt at h;split at h
  ·simp at h;omega
  exact h
 obtain ⟨h2,h3⟩:=bH z.natAbs;have h4:=dU h2.1;rw [h3] at h4;exact R4 h4 (Q7 dc_ h1)
theorem e18:(10:Nat) ^ 18=1000000000000000000:=by decide
theorem e9:(10:Nat) ^ 9=1000000000:=by decide
theorem yj {a b:Nat}(c:a<B9 ^ k)(d:b<B9 ^ k):a+b<B9 ^ (k+1):=by
 rw [RY];have:B9 ^ k*2<=B9 ^ k*B9:=R6 _ dc_;omega
theorem Nv (C:Mem)(l:Tabs C)(z w:Int)(k:Nat)(u:0<k)(Y:k<=40000)(f:z.natAbs<B9 ^ k)(g:w.natAbs<B9 ^ k):Gives cx.P 145 [ai (txt z),ai (txt w)] C (ai (txt (z+w))):=by
 have aa:=ci f u;have ab:=ci g u;refine Uv func145 62 U3 fun w0=>Um 1 [0,1] Z<|Un 1 Z fun R a=>Uz (jL _ z 18 (QG _)) U7<|C4 5 [0,1,5,6] a Z<|Um 1 [0,1,5,16] Z<|G.cut (fun fr C' m o=>(True)/\fr=[(0,[],ai (txt z)),(1,[],ai (txt w))]/\m=[]) ?_ (fun fr _ ac o _ p=>?_)
 ·refine Up (fun v=>?_) fun v=>?_
  ·have x:=QF v;rw [aJ x];have K:=zG x;rw [e18] at K;refine Un 1 Z fun R a=>Uz (jL _ w 18 (QG _)) U7<|C4 5 [0,1,5,7,8] a Z<|Um 1 [0,1,5,7,22] Z<|Up (fun y=>?_) fun y=>?_
   ·have A:=QF y;rw [aJ A];have L:=zG A;rw [e18] at L;exact Un 2 Z fun R a=>Ux _ U7<|UC (sx _ l.m_ (z+w) om_ om_) U7 fl_<|C4 1 [4] a Z<|Uu U2<|⟨Z,Z⟩
   refine UD 0 (Mem.le.refl _) (hn_ [0,1] Z) ⟨trivial,Z,Z⟩
  refine UD 0 (Mem.le.refl _) (hn_ [0,1] Z) ⟨trivial,Z,Z⟩
 obtain ⟨_,rfl,rfl⟩:=p;refine Un 1 Z fun R a=>US (ji _ z om_) U7 fl_ fun ad _ _ M=>Uq U6<|US (ji _ w om_) U7 fl_ fun ag _ _ N=>UI U5 fun B=>UI U5 (fun D=>?_);obtain ⟨pz,rfl,d⟩:=M;obtain ⟨pw,rfl,e⟩:=N;obtain ⟨Az,mz,cz,rfl⟩:=d.form;obtain ⟨Aw,mw,cw,rfl⟩:=e.form;refine Uy (j:=1) U12<|Uy (j:=1) U12<|Ut [9,10] a Z<|Un 1 Z fun R a=>Uw ae U9<|Uq U6<|Uw af U9<|C4 1 [9,10,35] a Z<|Up (fun q=>?_) fun q=>?_
 ·have i:decide (z<0)=decide (w<0):=by simpa using q
  refine UK [0,1,2,3,4,5,6,7,8,9] [(8,1)] Z kr_ fun R O a=>Uq U6<|Uw ae U9<|Uq U6<|Uw ae U9<|Uq U6<|Uw af U9<|US (Ly (k:=k) _ d.m_ e.m_ f g om_) U7 fl_ (fun ah _ _ E=>?_);obtain ⟨Q,S,T,rfl⟩:=E.form;exact UH [.bool (decide (z<0)),_] U8<|UL (fun _=>(kc _ l.m_ _ _ _ E (dB (k:=100000) (n:=k+1) (yj f g) om_))) U9<|C4 1 [4] a Z<|Uu U2<|⟨by rw [MA i],Z⟩
 have i:decide (z<0)≠decide (w<0):=by simpa using q
 refine Un 1 Z fun R a=>Uw ae U9<|Uq U6<|Uw af U9<|Uz (pE _ d.m_ e.m_) U7<|C4 1 [9,10,50] a Z<|G.cut (fun fr C' m o=>∃ (b c:Int)(r s:Value),(NineC C' r b.natAbs/\NineC C' s c.natAbs/\c.natAbs<=b.natAbs/\b+c=z+w/\decide (b<0)≠decide (c<0)/\b.natAbs<B9 ^ k)/\fr=[(9,[],.pointer (some ⟨B,0,none⟩)),(10,[],.pointer (some ⟨D,0,none⟩))]/\m=[.obj D (.cells ⟨[.bool (decide (c<0)),s]⟩ 307 (0,0)),.obj B (.cells ⟨[.bool (decide (b<0)),r]⟩ 307 (0,0))]) ?_ (fun fr _ aj o _ p=>?_)
 ·refine Up (fun t=>?_) fun t=>?_
  ·have F:z.natAbs<w.natAbs:=by
    have:jN z.natAbs w.natAbs<0:=by simpa using t
    exact jh.1 this
   refine Ur fun R a=>Uw af U9<|Uw ae U9<|Uy (j:=1) U12<|Uy (j:=1) U12<|Ut [9,10] a Z<|UD 0 mup (hn_ [9,10] Z) ⟨w,z,_,_,⟨e.mono mup,d.mono mup,by omega,Int.add_comm w z,Ne.symm i,g⟩,Z,Z⟩
  have F:w.natAbs<=z.natAbs:=by
   have h:¬ jN z.natAbs w.natAbs<0:=by simpa using t
   rw [jh] at h;omega
  refine UD 0 mup (hn_ [9,10] Z) ⟨z,w,_,_,⟨d.mono mup,e.mono mup,F,Z,i,f⟩,Z,Z⟩
 obtain ⟨b ,c ,r ,s,⟨H,I,U,V,W,X⟩,rfl,rfl⟩:=p;obtain ⟨ak,al,am,rfl⟩:=H.form;obtain ⟨an,ao,ap,rfl⟩:=I.form;refine UK [0,1,2,3,4,5,6,7,8,9] [(8,1)] Z kr_ fun R O a=>Uq U6<|Uw ae U9<|Uq U6<|Uw ae U9<|Uq U6<|Uw af U9<|US (uo (k:=k) _ H.m_ I.m_ X U om_) U7 fl_ (fun aq _ _ J=>?_);obtain ⟨Q,S,T,rfl⟩:=J.form;exact UH [.bool (decide (b<0)),_] U8<|UL (fun _=>(kc _ l.m_ _ _ _ J (dB (k:=100000) (n:=k) om_ om_))) U9<|C4 1 [4] a Z<|Uu U2<|⟨by rw [MB W om_,V],Z⟩
theorem MC (z w:Int):sgZ (decide (z<0) != decide (w<0)) (z.natAbs*w.natAbs)=z*w:=by
 unfold sgZ;have h1:z=if z<0 then -(z.natAbs:Int) else (z.natAbs:Int):=by split <;> omega
 have h2:w=if w<0 then -(w.natAbs:Int) else (w.natAbs:Int):=by split <;> omega
 by_cases a:z<0 <;> by_cases b:w<0
 ·rw [Q0 a,Q0 b,aB dc_];rw [aJ a] at h1;rw [aJ b] at h2;rw [RH]
  conv=>rhs;rw [h1,h2]
  rw [Int.neg_mul_neg]
 ·rw [Q0 a,Q6 b,aJ dc_];rw [aJ a] at h1;rw [aB b] at h2;rw [RH]
  conv=>rhs;rw [h1,h2]
  rw [Int.neg_mul]
 ·rw [Q6 a,Q0 b,aJ dc_];rw [aB a] at h1;rw [aJ b] at h2;rw [RH]
  conv=>rhs;rw [h1,h2]
  rw [Int.mul_neg]
 rw [Q6 a,Q6 b,aB dc_];rw [aB a] at h1;rw [aB b] at h2;rw [RH]
 conv=>rhs;rw [h1,h2]
theorem nU {a b:Nat}(c:a<B9 ^ k)(d:b<B9 ^ k):a*b<B9 ^ (k+k):=by
 rw [Ts];exact Si c d
theorem FU (a:z.natAbs<1000000000)(b:w.natAbs<1000000000):-1000000000000000000<z*w/\z*w<1000000000000000000:=by
 have h:z.natAbs*w.natAbs<=999999999*999999999:=Sy om_ om_;rw [<- Se] at h;omega
theorem kS (C:Mem)(d:Tabs C)(z w:Int)(k:Nat)(e:0<k)(x:k<=40000)(b:z.natAbs<B9 ^ k)(c:w.natAbs<B9 ^ k):Gives cx.P 146 [ai (txt z),ai (txt w)] C (ai (txt (z*w))):=by
 have y:=ci b e;have A:=ci c e;refine Uv func146 43 U3 fun w0=>Um 1 [0,1] Z<|Un 1 Z fun R a=>UC (jL _ z 9 om_) U7 fl_<|C4 5 [0,1,5,6] a Z<|Um 1 [0,1,5,16] Z<|G.cut (fun fr C' r s=>(True)/\fr=[(0,[],ai (txt z)),(1,[],ai (txt w))]/\r=[]) ?_ (fun fr _ B s _ t=>?_)
 ·refine Up (fun f=>?_) fun f=>?_
  ·have g:=QF f;rw [aJ g];have h:=zG g;rw [e9] at h;refine Un 1 Z fun R a=>UC (jL _ w 9 om_) U7 fl_<|C4 5 [0,1,5,7,8] a Z<|Um 1 [0,1,5,7,22] Z<|Up (fun i=>?_) fun i=>?_
   ·have l:=QF i;rw [aJ l];have m:=zG l;rw [e9] at m;have D:=FU h m;exact Un 2 Z fun R a=>UY ((z*w)) U4 om_ om_ om_ U2<|UC (sx _ d.m_ (z*w) om_ om_) U7 fl_<|C4 1 [4] a Z<|Uu U2<|⟨Z,Z⟩
   refine UD 0 (Mem.le.refl _) (hn_ [0,1] Z) ⟨trivial,Z,Z⟩
  refine UD 0 (Mem.le.refl _) (hn_ [0,1] Z) ⟨trivial,Z,Z⟩
 obtain ⟨_,rfl,rfl⟩:=t;refine Un 1 Z fun R a=>US (ji _ z om_) U7 fl_ fun E _ _ u=>Uq U6<|US (ji _ w om_) U7 fl_ fun F _ _ v=>UI U5 fun H=>UI U5 (fun I=>?_);obtain ⟨J,rfl,o⟩:=u;obtain ⟨K,rfl,p⟩:=v;obtain ⟨L,M,N,rfl⟩:=o.form;obtain ⟨O,Q,S,rfl⟩:=p.form;refine Uy (j:=1) U12<|Uy (j:=1) U12<|Ut [9,10] a Z<|UK [0,1,2,3,4,5,6,7,8,9,10,11,12] [(11,1)] Z kr_ fun R T a=>Uq U6<|Uw ae U9<|Uq U6<|Uw af U9<|Us 2 Z<|Uw ae U9<|Uq U6<|Uw af U9<|US (E1 (k:=k) _ o.m_ p.m_ b c om_) U7 fl_ (fun U _ _ q=>?_);obtain ⟨V,W,X,rfl⟩:=q.form;exact UH [.bool (decide (z<0) != decide (w<0)),_] U8<|UL (fun _=>(kc _ d.m_ _ _ _ q (dB (k:=100000) (n:=k+k) (nU b c) om_))) U9<|C4 1 [4] a Z<|Uu U2<|⟨by rw [MC],Z⟩
def Hk (z w:Int):Nat:=if z<0/\z.natAbs % w.natAbs≠0 then z.natAbs / w.natAbs+1 else z.natAbs / w.natAbs
def B7 (z w:Int):Nat:=if z<0/\z.natAbs % w.natAbs≠0 then w.natAbs-z.natAbs % w.natAbs else z.natAbs % w.natAbs
theorem Hj (i:0<w):sgZ (decide (z<0) != decide (w<0)) (Hk z w)=z / w/\(B7 z w:Int)=z % w:=by
 obtain ⟨n,rfl⟩:∃ n:Nat,w=n:=⟨w.natAbs,by omega⟩;have f:0<n:=by omega
 rw [Q6 (by omega:¬ ((n:Nat):Int)<0),Bool.bne_false];have h1:=TH z.natAbs n;have h2:=Rs z.natAbs f;obtain ⟨q,d⟩:∃ q,z.natAbs / n=q:=⟨_,rfl⟩;obtain ⟨r,hr⟩:∃ r,z.natAbs % n=r:=⟨_,rfl⟩;have g:sgZ (decide (z<0)) (Hk z n)=z / n/\(B7 z n:Int)=z % n:=by
  have h3:=(Int.ediv_emod_unique (a:=z) (r:=(B7 z n:Int)) (q:=sgZ (decide (z<0)) (Hk z n)) (by omega:(0:Int)<(n:Int))).2;have h4:(B7 z n:Int)+(n:Int)*sgZ (decide (z<0)) (Hk z n)=z/\0<=(B7 z n:Int)/\(B7 z n:Int)<(n:Int):=by
   unfold Hk B7 sgZ;simp only [Rt];rw [d,hr];rw [hr,d] at h1;rw [hr] at h2;have h5:((r+n*q:Nat):Int)=(z.natAbs:Int):=by rw [h1]
   rw [To,RH] at h5;by_cases b:z<0
   ·rw [Q0 b,aJ rfl];by_cases c:r=0
    ·subst c;rw [aB am,aB am];rw [Int.mul_neg];omega
    rw [aJ ⟨b,c⟩,aJ ⟨b,c⟩];rw [Int.mul_neg,To,TU];omega
   rw [Q6 b,aB (fun h:z<0/\r≠0=>b h.1),aB (fun h:z<0/\r≠0=>b h.1),aB dc_];omega
  have e:=h3 h4;exact ⟨e.1.symm,e.2.symm⟩
 exact g
theorem sz (C:Mem)(u:Tabs C)(z w:Int)(k:Nat)(f:0<k)(hk:k<=40000)(g:z.natAbs<B9 ^ k)(i:w.natAbs<B9 ^ k)(v:0<w):Gives cx.P 211 [ai (txt z),ai (txt w)] C (.tuple #[ai (txt (z / w)),ai (txt (z % w)),.int .i64 0]):=by
 have aj:=ci g f;have ak:=ci i f;have l:0<w.natAbs:=by omega
 refine Uv func211 50 U3 fun w0=>Um 3 [0,1] Z<|Um 2 [0,1,12] Z<|Up (fun m=>?_) fun m=>?_
 ·have h:=lu w;rw [h] at m;have:w=0:=QF m;omega
 refine Un 1 Z fun R a=>US (ji _ z om_) U7 fl_ fun al _ _ J=>Uq U6<|US (ji _ w om_) U7 fl_ fun am _ _ K=>UI U5 fun y=>UI U5 (fun A=>?_);obtain ⟨pz,rfl,B⟩:=J;obtain ⟨pw,rfl,o⟩:=K;obtain ⟨L,M,N,rfl⟩:=B.form;obtain ⟨O,Q,S,rfl⟩:=o.form;refine Uy (j:=1) U12<|Uy (j:=1) U12<|Ut [7,8] a Z<|Un 1 Z fun R a=>Uw ae U9<|Uq U6<|Uw af U9<|US (xo _ _ _ _ _ B.m_ o.m_ (dB (k:=100000) (n:=k) g om_) l) U7 fl_ (fun an _ _ T=>?_);obtain ⟨vq,vr,rfl,D,p⟩:=T;refine C4 5 [7,8,9,10] a Z ?_;obtain ⟨b,U,V,W⟩:=id p;obtain ⟨Ar,cr,E,_⟩:=id W;rw [ax] at E;subst E;have F:b.length=0 ↔ z.natAbs % w.natAbs=0:=by
  rw [<- V,Ct U];exact TQ
 refine Un 1 Z fun R a=>Uw ae U9<|Us 4 Z<|UM U8<|Ut [7,8,9,10,31] a Z<|G.cut (fun fr C' X Y=>∃ (q r:Value),(NineC C' q (Hk z w)/\NineC C' r (B7 z w))/\fr=[(7,[],.pointer (some ⟨y,0,none⟩)),(8,[],.pointer (some ⟨A,0,none⟩)),(9,[],q),(10,[],r)]/\X=[.obj A (.cells ⟨[.bool (decide (w<0)),.slice O Q S]⟩ 307 (0,0)),.obj y (.cells ⟨[.bool (decide (z<0)),.slice L M N]⟩ 307 (0,0))]) ?_ (fun fr _ ao Y _ hI=>?_)
 ·refine Up (fun d=>?_) fun d=>?_
  ·have c:z<0/\z.natAbs % w.natAbs≠0:=by
    have h:decide (z<0)=true/\0<b.length:=by simpa using d
    exact ⟨QF h.1,fun e=>by have:=F.2 e;omega⟩
   have s:Hk z w=z.natAbs / w.natAbs+1:=aJ c;have t:B7 z w=w.natAbs-z.natAbs % w.natAbs:=aJ c;have aa:z.natAbs / w.natAbs<B9 ^ k:=RD (RM _ _) g;refine UK [0,3,4,5,1,2,6,7,8] [] Z kr_ fun R hB a=>Us 2 Z<|Uw af U9<|Uq U6<|UJ [cj 1] U12 fun ap _ _ ab=>US (Ly (k:=k) _ D.m_ (⟨[1],⟨(fun x hx=>(by rw [Q4.1 hx];decide)),by simp⟩,Z,ab.mono mup⟩:NineC _ _ 1) aa (R4 (by decide:1<B9 ^ 1) (Q7 dc_ f)) om_) U7 fl_ fun aq _ _ ac=>US (uo (k:=k) _ o.m_ p.m_ i (Nat.le_of_lt (Rs _ l)) om_) U7 fl_ fun ar _ _ ad=>Us 2 Z<|Ut [7,8,9,10] a Z ?_;clear a hB R;refine UD 0 mup (hn_ [7,8,9,10] Z) ⟨_,_,⟨by rw [s];exact ac.mono mup,by rw [t];exact ad.mono mup⟩,Z,Z⟩
  have c:¬ (z<0/\z.natAbs % w.natAbs≠0):=fun h=>by
   have h2:0<b.length:=by
    rcases Sb b.length with h3 | h3
    ·exact absurd (F.1 h3) h.2
    exact h3
   have h3:(decide (z<0) && decide ((0:Int)<(b.length:Int)))=true:=by
    rw [Q0 h.1,Q0 om_];rfl
   rw [h3] at d;cases d
  have s:Hk z w=z.natAbs / w.natAbs:=aB c;have t:B7 z w=z.natAbs % w.natAbs:=aB c;refine UD 0 mup (hn_ [7,8,9,10] Z) ⟨_,_,⟨by rw [s];exact D.mono mup,by rw [t];exact p.mono mup⟩,Z,Z⟩
 obtain ⟨q ,r,⟨H,I⟩,rfl,rfl⟩:=hI;obtain ⟨A9,m9,c9,rfl⟩:=H.form;obtain ⟨au,av,aw,rfl⟩:=I.form;have ag:Hk z w<B9 ^ 100000:=by
  have h1:z.natAbs / w.natAbs<=z.natAbs:=RM _ _;have h2:Hk z w<=z.natAbs+1:=by unfold Hk;split <;> omega
  have h3:B9 ^ k*2<=B9 ^ (k+1):=by rw [RY];exact R6 _ dc_
  have h4:z.natAbs+1<B9 ^ (k+1):=by have:=Tb (n:=k) (show 0<B9 by decide);omega
  exact dB (k:=100000) (n:=k+1) (RD h2 h4) om_
 have ah:B7 z w<B9 ^ 100000:=by
  have h1:=Rs z.natAbs l;have h2:B7 z w<=w.natAbs:=by unfold B7;split <;> omega
  exact dB (k:=100000) (n:=k) (RD h2 i) om_
 refine Un 1 Z fun R a=>Uw ae U9<|Uq U6<|Uw af U9<|Us 2 Z<|UH [.bool (decide (z<0) != decide (w<0)),_] U8<|Uz (kc _ u.m_ _ _ _ H.m_ ag) U7<|Uq U6<|UH [.bool false,_] U8<|Uz (kc _ u.m_ _ _ _ I.m_ ah) U7<|C4 3 [4,5,6] a Z<|UA (G.dropAll (Vm U4 ?_));refine ⟨?_,Z⟩;rw [(Hj v).1,show sgZ false (B7 z w)=z % w from (Hj v).2]
theorem KO {l:List Nat}(a:yf l)(b:bB l=n):0<l.length ↔ 0<n:=by
 have h:=Ct a;rw [b] at h;have h2:l.length=0 ↔ n=0:=by rw [h];exact TQ
 omega
theorem GU (C:Mem)(r:Tabs C)(z w:Int)(k:Nat)(s:0<k)(hk:k<=40000)(t:z.natAbs<B9 ^ k)(u:w.natAbs<B9 ^ k):Gives cx.P 208 [ai (txt z),ai (txt w)] C (ai (txt (Nat.gcd z.natAbs w.natAbs:Nat))):=by
 have ab:=ci t s;have ac:=ci u s;refine Uv func208 56 U3 fun w0=>Um 1 [0,1] Z<|Un 1 Z fun R a=>Uz (jL _ z 18 (QG _)) U7<|C4 5 [0,1,5,6] a Z<|Um 1 [0,1,5,18] Z<|G.cut (fun fr C' d e=>(True)/\fr=[(0,[],ai (txt z)),(1,[],ai (txt w))]/\d=[]) ?_ (fun fr _ ad e _ f=>?_)
 ·refine Up (fun v=>?_) fun v=>?_
  ·have A:=QF v;rw [aJ A];have B:=zG A;rw [e18] at B;refine Un 1 Z fun R a=>Uz (jL _ w 18 (QG _)) U7<|C4 5 [0,1,5,7,8] a Z<|Um 1 [0,1,5,7,24] Z<|Up (fun E=>?_) fun E=>?_
   ·have F:=QF E;rw [aJ F];have H:=zG F;rw [e18] at H;refine G.loop (fun fr C' d e=>∃ (x y:Int),(x.natAbs<1000000000000000000/\y.natAbs<1000000000000000000/\Nat.gcd x.natAbs y.natAbs=Nat.gcd z.natAbs w.natAbs)/\fr=[(5,[],.int .i64 x),(7,[],.int .i64 y)]/\d=[]/\e=y.natAbs+1) (hn_ [5,7] Z) ⟨z,w,⟨B,H,Z⟩,Z,Z,Z⟩ (fun fr ae af m K f=>?_);obtain ⟨x,y,⟨ag,L,c⟩,rfl,rfl,rfl⟩:=f;refine Um 2 [5,7,26] Z<|Up (fun i=>?_) fun i=>?_
    ·have b:y≠0:=by simpa using i
     have M:(x.tmod y).natAbs=x.natAbs % y.natAbs:=Tr x y;have N:=Rs x.natAbs (show 0<y.natAbs by omega);refine UK [0,1,2,3,4,5] [] Z kr_ fun R hB a=>Us 3 Z<|Vs (x.tmod y) U6 b U3<|C4 2 [5,7] a Z<|UB (m':=(x.tmod y).natAbs+1) om_ K (hn_ [5,7] Z) ⟨y,x.tmod y,⟨L,by omega,by rw [M,<- c,SY x.natAbs,Ue y.natAbs x.natAbs,SY]⟩,Z,Z,Z⟩
    have b:y=0:=by simpa using i
    subst b;rw [show (0:Int).natAbs=0 from rfl,Tq] at c;refine Un 3 Z fun R a=>?_;have ah:IntKind.i64.wrap (0-x)=0-x:=wrap_i64 om_ om_;exact D.max ((x.natAbs:Int)) U6 om_ U2<|UC (sx _ r.m_ (x.natAbs:Int) om_ om_) U7 fl_<|C4 1 [4] a Z<|Uu U2<|⟨by rw [c],Z⟩
   refine UD 0 (Mem.le.refl _) (hn_ [0,1] Z) ⟨trivial,Z,Z⟩
  refine UD 0 (Mem.le.refl _) (hn_ [0,1] Z) ⟨trivial,Z,Z⟩
 obtain ⟨_,rfl,rfl⟩:=f;refine Un 1 Z fun R a=>US (ji _ z om_) U7 fl_ (fun aj _ _ O=>?_);obtain ⟨pz,rfl,Q⟩:=O;refine VF U12<|Uq U6<|US (ji _ w om_) U7 fl_ (fun ak _ _ S=>?_);obtain ⟨pw,rfl,T⟩:=S;refine VF U12<|C4 2 [9,10] a Z<|G.loop (fun fr C' d e=>∃ (x y:Nat)(j o:Value),(NineC C' j x/\NineC C' o y/\x<B9 ^ k/\y<B9 ^ k/\Nat.gcd x y=Nat.gcd z.natAbs w.natAbs)/\fr=[(9,[],j),(10,[],o)]/\d=[]/\e=y+1) (hn_ [9,10] Z) ⟨_,_,_,_,⟨Q.mono mup,T.mono mup,t,u,Z⟩,Z,Z,Z⟩ (fun fr al am m _ f=>?_);obtain ⟨x,y,j,o,⟨p,g,I,J,c⟩,rfl,rfl,rfl⟩:=f;obtain ⟨l,U,V,W⟩:=id g;obtain ⟨an,ao,rfl,_⟩:=id W;rw [ax] at g ⊢;have X:=KO U V;refine Um 3 [9,10,44] Z<|Up (fun q=>?_) fun q=>?_
 ·have b:0<y:=X.1 (by simpa using q);have N:=Rs x b;refine Un 2 Z fun R a=>US (xo _ _ _ _ _ p.m_ g.m_ (dB (k:=100000) (n:=k) I om_) b) U7 fl_ (fun ap _ _ Y=>?_);obtain ⟨vq,vr,rfl,aq,aa⟩:=Y;refine C4 5 [10,12] a Z<|Um 4 [9,10] Z<|UB (m':=x % y+1) om_ mup (hn_ [9,10] Z) ⟨y,x % y,_,_,⟨g.mono mup,aa.mono mup,J,SZ (Rs _ b) J,by rw [<- c,SY x,Ue y x,SY]⟩,Z,Z,Z⟩
 have b:y=0:=by
  have h:¬ 0<l.length:=by simpa using q
  omega
 subst b;rw [Tq] at c;obtain ⟨A9,m9,c9,rfl⟩:=p.form;exact Un 1 Z fun R a=>UH [.bool false,_] U8<|UC (kc _ r.m_ _ _ _ p.m_ (dB (k:=100000) (n:=k) I om_)) U7 fl_<|C4 1 [4] a Z<|Uu U2<|⟨by rw [c];rfl,Z⟩
def rY (sg:Bool)(A:Str)(B:Option Str):Value :=
 if NE A B then .tuple #[.int .i64 (sgZ sg (bW A)),.int .i64 (Qv B),.bool true] else .tuple #[.int .i64 0,.int .i64 0,.bool false]
theorem Di (C:Mem)(d:Bool)(A:Str)(B:Option Str)(q:∀ c∈A,eM c=true)(T:A≠[])(U:∀ b,B=some b->∀ c∈b,eM c=true)(V:(Jv d++A++eL B).length<=1000000) :
  Gives cx.P 141 [ai (Jv d++A++eL B)] C (rY d A B):=by
 obtain ⟨s,hs⟩:∃ s,Jv d++A++eL B=s:=⟨_,rfl⟩;obtain ⟨p,t⟩:∃ p,(Jv d).length=p:=⟨_,rfl⟩;have g:p=if d then 1 else 0:=by rw [<- t];cases d <;> rfl
 have u:∀ j c,A[j]?=some c->s[p+j]?=some c:=fun j c h=>by rw [<- hs,<- t];exact MT _ _ _ h
 have N:∀ j,s[p+A.length+j]?=(eL B)[j]?:=fun j=>by rw [<- hs,<- t];exact Jw _ _ _ _
 have y:s.length=p+A.length+(eL B).length:=by rw [<- hs,<- t,QO,QO]
 have W:0<A.length:=Ru.2 T;rw [hs] at V ⊢;refine Uv func141 73 U3 fun w0=>Um 3 [0,2,3] Z<|Um 2 [0,2,3,5,6] Z<|Un 5 Z fun R a=>Vk (b:=s.getD 0 0) U8 (fun _=>⟨by omega,(by rw [al,show (0:Int).toNat=0 from rfl];obtain ⟨c,f⟩:∃ c,s[0]?=some c:=⟨s[0]'om_,aj om_⟩;rw [f];rfl)⟩) U2<|Uq U6<|UM U8<|Ut [0,2,3,5,6,15] a Z<|G.cut (fun fr C' i k=>(True)/\fr=[(0,[],ai s),(2,[],.int .i64 0),(3,[],.int .i64 0),(5,[],.int .i64 p),(6,[],.bool d)]/\i=[]) ?_ (fun fr _ ae k _ l=>?_)
 ·refine Up (fun v=>?_) fun v=>?_
  ·have n:d=true:=by
    cases d with
    | true=>rfl
    | false =>
     exfalso;rw [aB dc_] at g;subst g;obtain ⟨c,f⟩:∃ c,A[0]?=some c:=⟨A[0],aj W⟩;have h1:=u 0 c f;have h2:=q c (PN f);rw [SG] at h1;rw [al,h1] at v;unfold eM at h2;simp at v h2;omega
   subst n;rw [aJ rfl] at g;subst g;refine Um 2 [0,2,3,5,6] Z<|UD 0 (Mem.le.refl _) (hn_ [0,2,3,5,6] Z) ⟨trivial,Z,Z⟩
  have n:d=false:=by
   cases d with
   | false=>rfl
   | true =>
    exfalso;have h1:s[0]?=some 45:=by rw [<- hs];rfl
    rw [aJ rfl] at g;have h2:(decide ((0:Int)<((s.length:Nat):Int)) && decide ((((s.getD 0 0).toNat:Nat):Int)=45))=false:=by simpa using v
    rw [al,h1,Q0 om_] at h2;exact absurd h2 dc_
  subst n;rw [aB dc_] at g;subst g;refine UD 0 (Mem.le.refl _) (hn_ [0,2,3,5,6] Z) ⟨trivial,Z,Z⟩
 obtain ⟨_,rfl,rfl⟩:=l;refine Um 2 [0,2,3,5,6,7] Z<|G.loop (fun fr C' i k=>∃ (j:Nat),(j<=A.length/\j<=9)/\fr=[(0,[],ai s),(2,[],.int .i64 ((bW (A.take j):Nat):Int)),(3,[],.int .i64 0),(5,[],.int .i64 ((p+j:Nat):Int)),(6,[],.bool d),(7,[],.int .i64 p)]/\i=[]/\k=A.length-j+1) (hn_ [0,2,3,5,6,7] Z) ⟨0,⟨by omega,by omega⟩,Z,Z,Z⟩ (fun fr af ag m X l=>?_);obtain ⟨j,⟨hj,w⟩,rfl,rfl,rfl⟩:=l;obtain ⟨c,f⟩:∃ c,p+j<s.length->s[p+j]?=some c:=⟨s.getD (p+j) 0,fun h=>by rw [al,aj h];rfl⟩;refine Un 7 Z fun R a=>Vk (b:=c) U8 (fun Y=>⟨by omega,f (by have h:decide (((p+j:Nat):Int)<((s.length:Nat):Int))=true:=Y.1;have h2:=QF h;omega)⟩) U2<|Uq U6<|UM U8<|Ut [0,2,3,5,6,7,26] a Z<|Up (fun x=>?_) fun x=>?_
 ·have z:p+j<s.length/\c.toNat≠47:=by
   simp at x;omega
  have E:j<A.length:=by
   rcases Rh j A.length with h | h
   ·exact h
   exfalso;obtain rfl:j=A.length:=by omega
   have h1:=f z.1;have h2:=N 0;rw [SG,h1] at h2;cases B with
   | none=>simp [eL] at h2
   | some b =>
    simp [eL] at h2;subst h2;exact z.2 Z
  obtain ⟨e,o⟩:∃ c,A[j]?=some c:=⟨A[j],aj E⟩;obtain rfl:e=c:=by
   have h1:=f z.1;rw [u j e o] at h1;exact Sc h1
  have O:48<=e.toNat/\e.toNat<=57:=by simpa [eM] using q e (PN o)
  have hV:=uL q w;refine Un 2 Z fun R a=>Ux _ U7<|C4 1 [0,2,3,5,6,7,32] a Z<|Up (fun F=>?_) fun F=>?_
  ·have r:¬ A.length<=9:=by
    have:((p+j:Nat):Int)-p=9:=by simpa using F
    omega
   refine Um 3 [2,3,4] Z<|UA (G.dropAll (Vm U4 ?_));refine ⟨?_,Z⟩;unfold rY NE;rw [Q6 r,Bool.false_and,aB dc_]
  have r:j≠9:=by
   have:¬ ((p+j:Nat):Int)-p=9:=by simpa using F
   omega
  refine Un 1 Z fun R a=>Ux _ U7<|Us 2 Z<|Vk U8 (fun _=>⟨by omega,u j _ o⟩) U2<|D.int (((e.toNat:Nat):Int)-48) U4 (by rw [IntKind.wrap_u8];omega) U2<|Vc (c:=((e.toNat:Nat):Int)-48) U8 (by rw [IntKind.wrap_i64];omega) fl_<|Ux _ U7<|C4 1 [0,2,3,5,6,7] a Z<|Un 1 Z fun R a=>Ux _ U7<|C4 1 [0,2,3,5,6,7] a Z ?_;rw [show 10*((bW (A.take j):Nat):Int)+(((e.toNat:Nat):Int)-48)=((bW (A.take (j+1)):Nat):Int) by rw [Cc o];omega];refine UB (m':=A.length-(j+1)+1) om_ X (hn_ [0,2,3,5,6,7] Z) ⟨j+1,⟨by omega,by omega⟩,Z,Z,Z⟩
 have E:j=A.length:=by
  rcases Rh j A.length with h | h
  ·exfalso;obtain ⟨e,o⟩:∃ c,A[j]?=some c:=⟨A[j],aj h⟩;have h1:=f om_;rw [u j e o] at h1;obtain rfl:=Sc h1;have O:48<=e.toNat/\e.toNat<=57:=by simpa [eM] using q e (PN o)
   simp at x;have:=x om_;omega
  omega
 subst E;rw [QV];refine Um 1 [0,2,3,5,41] Z<|G.cut (fun fr C' i k=>(True)/\fr=[(0,[],ai s),(2,[],.int .i64 (sgZ d (bW A))),(3,[],.int .i64 0),(5,[],.int .i64 ((p+A.length:Nat):Int))]/\i=[]) ?_ (fun fr _ ah k _ l=>?_)
 ·refine Up (fun H=>?_) fun H=>?_
  ·have n:d=true:=H;subst n;have aa:=uL q w;rw [QV] at aa;refine Um 3 [0,2,3,5] Z ?_;rw [show IntKind.i64.wrap (0-((bW A:Nat):Int))=sgZ true (bW A) by rw [wrap_i64 om_ om_];unfold sgZ;rw [aJ rfl];omega];refine UD 0 (Mem.le.refl _) (hn_ [0,2,3,5] Z) ⟨trivial,Z,Z⟩
  have n:d=false:=by simpa using H
  subst n;refine UD 0 (Mem.le.refl _) (hn_ [0,2,3,5] Z) ⟨trivial,Z,Z⟩
 obtain ⟨_,rfl,rfl⟩:=l;refine Um 4 [0,2,3,5,47] Z<|Up (fun I=>?_) fun I=>?_
 ·have ab:B=none:=by
   cases B with
   | none=>rfl
   | some b =>
    exfalso;have:p+A.length=s.length:=by simp at I;omega
    rw [y] at this;simp [eL] at this
  subst ab;refine Um 4 [2,3,4] Z<|UA (G.dropAll (Vm U4 ?_));refine ⟨?_,Z⟩;unfold rY NE;rw [Q0 w];rfl
 obtain ⟨b,rfl⟩:∃ b,B=some b:=by
  cases B with
  | some b=>exact ⟨b,rfl⟩
  | none =>
   exfalso;simp [y,eL] at I
 have Q:=U b rfl;have ak:s.length=p+A.length+1+b.length:=by rw [y];simp [eL];omega
 refine Un 1 Z fun R a=>Ux _ U7<|C4 1 [0,2,3,5,7] a Z<|Un 1 Z fun R a=>Ux _ U7<|C4 1 [0,2,3,5,7] a Z<|G.loop (fun fr C' i k=>∃ (j:Nat),(j<=b.length/\j<=9)/\fr=[(0,[],ai s),(2,[],.int .i64 (sgZ d (bW A))),(3,[],.int .i64 ((bW (b.take j):Nat):Int)),(5,[],.int .i64 ((p+A.length+1+j:Nat):Int)),(7,[],.int .i64 ((p+A.length+1:Nat):Int))]/\i=[]/\k=b.length-j+1) (hn_ [0,2,3,5,7] Z) ⟨0,⟨by omega,by omega⟩,Z,Z,Z⟩ (fun fr am an m ac l=>?_);obtain ⟨j,⟨hk,S⟩,rfl,rfl,rfl⟩:=l;refine Um 4 [0,2,3,5,7,56] Z<|Up (fun J=>?_) fun J=>?_
 ·have K:j<b.length:=by
   have:p+A.length+1+j<s.length:=by simp at J;omega
   omega
  obtain ⟨c,L⟩:∃ c,b[j]?=some c:=⟨b[j],aj K⟩;have ad:s[p+A.length+1+j]?=some c:=by rw [TD,N,Tc 1 j];exact L
  have O:48<=c.toNat/\c.toNat<=57:=by simpa [eM] using Q c (PN L)
  have hV:=uL Q S;refine Un 2 Z fun R a=>Ux _ U7<|C4 1 [0,2,3,5,7,62] a Z<|Up (fun M=>?_) fun M=>?_
  ·have r:¬ b.length<=9:=by
    have:((p+A.length+1+j:Nat):Int)-((p+A.length+1:Nat):Int)=9:=by simpa using M
    omega
   refine Um 3 [2,3,4] Z<|UA (G.dropAll (Vm U4 ?_));refine ⟨?_,Z⟩;unfold rY NE;rw [show (some b).getD []=b from rfl,Q6 r,Bool.and_false,aB dc_]
  have r:j≠9:=by
   have:¬ ((p+A.length+1+j:Nat):Int)-((p+A.length+1:Nat):Int)=9:=by simpa using M
   omega
  refine Un 1 Z fun R a=>Ux _ U7<|Us 2 Z<|Vk U8 (fun _=>⟨by omega,ad⟩) U2<|D.int (((c.toNat:Nat):Int)-48) U4 (by rw [IntKind.wrap_u8];omega) U2<|Vc (c:=((c.toNat:Nat):Int)-48) U8 (by rw [IntKind.wrap_i64];omega) fl_<|Ux _ U7<|C4 1 [0,2,3,5,7] a Z<|Un 1 Z fun R a=>Ux _ U7<|C4 1 [0,2,3,5,7] a Z ?_;rw [show 10*((bW (b.take j):Nat):Int)+(((c.toNat:Nat):Int)-48)=((bW (b.take (j+1)):Nat):Int) by rw [Cc L];omega];refine UB (m':=b.length-(j+1)+1) om_ ac (hn_ [0,2,3,5,7] Z) ⟨j+1,⟨by omega,by omega⟩,Z,Z,Z⟩
 have K:j=b.length:=by
  have:¬ p+A.length+1+j<s.length:=by simp at J;omega
  omega
 subst K;rw [QV];refine Um 5 [2,3,4] Z<|UA (G.dropAll (Vm U4 ?_));refine ⟨?_,Z⟩;unfold rY NE;rw [show (some b).getD []=b from rfl,Q0 w,Q0 S];rfl
theorem pj {n:Int}(a:g ∣ n.natAbs):n.tdiv (g:Int)=n / (g:Int):=Int.tdiv_eq_ediv_of_dvd (Tl.1 (SJ.2 a))
theorem Bh {n:Int}(a:d≠0):qtx (mkRat n d)=txt (n / ((Nat.gcd n.natAbs d:Nat):Int))++eL (nN (d / Nat.gcd n.natAbs d)):=by
 rw [pk,(um n a).1,(um n a).2]
theorem wg (C:Mem)(e:Tabs C)(n:Int)(d:Nat)(o:0<d)(p:n.natAbs<9000000000000000000)(t:d<9000000000000000000):Gives cx.P 142 [.int .i64 n,.int .i64 d] C (ai (qtx (mkRat n d))):=by
 obtain ⟨g,b⟩:∃ g,Nat.gcd n.natAbs d=g:=⟨_,rfl⟩;have u:0<g:=by rw [<- b];exact Tm _ o
 have q:g ∣ n.natAbs:=by rw [<- b];exact TB _ _
 have v:g ∣ d:=by rw [<- b];exact TR _ _
 have F:g<=d:=Uh o v;rw [Bh om_,b];refine Uv func142 35 U3 fun w0=>Um 1 [0,1] Z<|Um 4 [0,1,5,6] Z<|G.loop (fun fr C' f h=>∃ (x y:Int),(x.natAbs<9000000000000000000/\y.natAbs<9000000000000000000/\Nat.gcd x.natAbs y.natAbs=g)/\fr=[(0,[],.int .i64 n),(1,[],.int .i64 d),(5,[],.int .i64 x),(6,[],.int .i64 y)]/\f=[]/\h=y.natAbs+1) (hn_ [0,1,5,6] Z) ⟨n,d,⟨p,by omega,by rw [Rt];exact b⟩,Z,Z,Z⟩ (fun fr H I m w i=>?_);obtain ⟨x,y,⟨J,z,r⟩,rfl,rfl,rfl⟩:=i;refine Um 2 [0,1,5,6,10] Z<|Up (fun j=>?_) fun j=>?_
 ·have k:y≠0:=by simpa using j
  have A:(x.tmod y).natAbs=x.natAbs % y.natAbs:=Tr x y;have K:=Rs x.natAbs (show 0<y.natAbs by omega);refine UK [0,1,2,3,4,5] [] Z kr_ fun R B a=>Us 3 Z<|Vs (x.tmod y) U6 k U3<|C4 2 [0,1,5,6] a Z<|UB (m':=(x.tmod y).natAbs+1) om_ w (hn_ [0,1,5,6] Z) ⟨y,x.tmod y,⟨z,by omega,by rw [A,<- r,SY x.natAbs,Ue y.natAbs x.natAbs,SY]⟩,Z,Z,Z⟩
 have k:y=0:=by simpa using j
 subst k;rw [show (0:Int).natAbs=0 from rfl,Tq] at r;refine Um 2 [0,1,5,16] Z<|G.cut (fun fr C' f h=>(True)/\fr=[(0,[],.int .i64 n),(1,[],.int .i64 d),(5,[],.int .i64 g)]/\f=[]) ?_ (fun fr _ L h _ i=>?_)
 ·refine Up (fun l=>?_) fun l=>?_
  ·have D:x<0:=by simpa using l
   refine Um 3 [0,1,5] Z ?_;rw [show IntKind.i64.wrap (0-x)=(g:Int) by rw [wrap_i64 om_ om_];omega];refine UD 0 (Mem.le.refl _) (hn_ [0,1,5] Z) ⟨trivial,Z,Z⟩
  have D:¬ x<0:=by simpa using l
  rw [show x=(g:Int) by omega];refine UD 0 (Mem.le.refl _) (hn_ [0,1,5] Z) ⟨trivial,Z,Z⟩
 obtain ⟨_,rfl,rfl⟩:=i;have E:(n / (g:Int)).natAbs<=n.natAbs:=by
  rw [SQ (Tl.1 (SJ.2 q)),Rt];exact RM _ _
 have s:=RM d g;refine UK [0,1,2,3,4,5,6,7] [] Z kr_ fun R B a=>Us 2 Z<|VC (n / (g:Int)) U6 om_ (pj q) (wrap_i64 om_ om_) U2<|Us 2 Z<|Vu (d) (g) U6 u (.inl ⟨Z,by omega⟩) U2<|C4 2 [0,1] a Z<|Um 2 [0,1,26] Z<|Up (fun c=>?_) fun c=>?_
 ·have h1:d / g=1:=by
   have h2:(((d / g:Nat):Int))=1:=by simpa using c
   omega
  refine Un 1 Z fun R a=>UC (jq _ e.m_ _ om_ om_) U7 fl_<|C4 1 [4] a Z<|Uu U2<|⟨?_,Z⟩;rw [h1,mf rfl];simp [eL]
 have h1:d / g≠1:=by
  intro h2;rw [h2] at c;exact absurd c dc_
 have M:=mI (n / (g:Int));have N:=mI ((d / g:Nat):Int);have O:(bl (n / (g:Int)).natAbs).length<=20:=eI (RD E (SZ p dc_)) dc_;have Q:(bl ((d / g:Nat):Int).natAbs).length<=20:=eI (by rw [Rt];exact RD s (SZ t dc_)) dc_;refine Un 1 Z fun R a=>UC (jq _ e.m_ _ om_ om_) U7 fl_<|Vn U6 (fun _=>(by simp only [QY,Rp];omega)) U2<|Uq U6<|UC (jq _ e.m_ ((d / g:Nat):Int) (Uk dc_ (TL _)) (Uk (Int.ofNat_le.2 s) om_)) U7 fl_<|Vn U6 (fun _=>(by simp only [QO,QY,Rp];omega)) U2<|C4 1 [4] a Z<|Uu U2<|⟨?_,Z⟩;rw [fK h1,da,Ra];rfl
theorem GP (C:Mem)(z:Int)(d:Nat)(k:Nat)(b:0<k)(g:k<=40000)(c:z.natAbs<B9 ^ k)(e:d<B9 ^ k):Gives cx.P 212 [ai (txt z),ai (bl d)] C (ai (txt z++eL (nN d))):=by
 have h:(txt z).length<=9*k+1:=by
  have:=ci c b;unfold txt;split
  ·simp;omega
  omega
 have i:=ci e b;refine Uv func212 12 U3 fun w0=>Um 1 [0,1] Z<|Um 2 [0,1,6] Z<|Up (fun a=>?_) fun a=>?_
 ·have h1:d=1:=by rw [sT] at a;exact QF a
  refine Um 2 [4] Z<|Uu U2<|⟨?_,Z⟩;rw [mf h1];simp [eL]
 have h1:d≠1:=by rw [sT] at a;exact QJ a
 refine Un 1 Z fun R f=>Vn U6 (fun _=>(by simp only [QY,Rp];omega)) U2<|Uq U6<|Vn U6 (fun _=>(by simp only [QO,QY,Rp];omega)) U2<|C4 1 [4] f Z<|Uu U2<|⟨?_,Z⟩;rw [fK h1,Ra];rfl
theorem Fw (C:Mem)(s:Str)(c:s.length<1000000):Gives cx.P 143 [ai s] C (.tuple #[ai (ka 47 s).1,ai ((ka 47 s).2.getD [49])]):=by
 refine Uv func143 18 U3 fun w0=>Um 2 [0] Z<|Un 1 Z fun R d=>Uz (LX _ s 47 c) U7<|C4 7 [4,5,6] d Z<|Um 2 [4,5,14] Z<|Up (fun a=>?_) fun a=>?_
 ·have h1:(ka 47 s).2=none:=by
   cases h:(ka 47 s).2 with
   | none=>rfl
   | some b=>rw [h] at a;simp at a
  refine Um 3 [2,3] Z<|UA (G.dropAll (UP U3 ?_));refine ⟨?_,Z⟩;rw [h1];rfl
 obtain ⟨b,h1⟩:∃ b,(ka 47 s).2=some b:=by
  cases h:(ka 47 s).2 with
  | some b=>exact ⟨b,rfl⟩
  | none=>rw [h] at a;simp at a
 refine Um 4 [2,3] Z<|UA (G.dropAll (UP U3 ?_));refine ⟨?_,Z⟩;rw [h1];rfl
theorem Ch {c:UInt8}:∀ {a:Str}(b:Str),c ∉ a->ka c (a++c::b)=(a,some b)
 | [],b,_=>by simp [ka]
 | x::a,b,h=>by
  have d:x≠c:=fun e=>h (e ▸ aK);have hr:=Ch (c:=c) (a:=a) b (fun h2=>h (QQ _ h2));simp only [Sd,ka,aB d,hr]
theorem xu {c:UInt8}:∀ {a:Str},c ∉ a->ka c a=(a,none)
 | [],_=>rfl
 | x::a,h=>by
  have b:x≠c:=fun e=>h (e ▸ aK);have hr:=xu (c:=c) (a:=a) (fun h2=>h (QQ _ h2));simp only [ka,aB b,hr]
theorem vV (h:∀ c∈s,eM c=true):(47:UInt8) ∉ s:=fun h2=>absurd (h 47 h2) dc_
theorem vU (z:Int):(47:UInt8) ∉ txt z:=by
 unfold txt;split
 ·intro h;rcases QT.1 h with h | h
  ·cases h
  exact vV (jY _) h
 exact vV (jY _)
theorem ol (q:Rat):ka 47 (qtx q)=(txt q.num,nN q.den):=by
 rw [pk];unfold nN;split
 ·rw [show eL none=[] from rfl,Q8];exact xu (vU _)
 exact Ch _ (vU _)
theorem one_dec:bl 1=[49]:=by rw [bl];rfl
theorem Hr (d:Nat):(nN d).getD [49]=bl d:=by
 unfold nN;split
 ·rename_i h;subst h;exact one_dec.symm
 rfl
theorem M1 (C:Mem)(q:Rat)(a:(qtx q).length<1000000):Gives cx.P 143 [ai (qtx q)] C (.tuple #[ai (txt q.num),ai (bl q.den)]):=by
 have h:=Fw C (qtx q) a
 rwa [ol,Hr] at h
def kW (z w:Int):Rat:=mkRat (if w<0 then -z else z) w.natAbs
theorem pN (C:Mem)(f:Tabs C)(z w:Int)(k:Nat)(b:0<k)(e:k<=40000)(p:z.natAbs<B9 ^ k)(q:w.natAbs<B9 ^ k)(v:w≠0):Gives cx.P 144 [ai (txt z),ai (txt w)] C (ai (qtx (kW z w))):=by
 have x:=ci p b;have A:=ci q b;obtain ⟨y,hy⟩:∃ y,(if w<0 then -z else z)=y:=⟨_,rfl⟩;obtain ⟨d,r⟩:∃ d,w.natAbs=d:=⟨_,rfl⟩;have s:d≠0:=by omega
 have B:y.natAbs=z.natAbs:=by rw [<- hy];split <;> omega
 obtain ⟨g,c⟩:∃ g,Nat.gcd y.natAbs d=g:=⟨_,rfl⟩;have D:0<g:=by rw [<- c];exact Tm _ om_
 have t:g ∣ d:=by rw [<- c];exact TR _ _
 have E:g<=d:=Uh om_ t;unfold kW;rw [hy,r,Bh s,c];refine Uv func144 35 U3 fun w0=>Um 1 [0,1] Z<|Un 1 Z fun R a=>Uz (lR _ w) U7<|C4 1 [0,1,8] a Z<|G.cut (fun fr C' i j=>(True)/\fr=[(0,[],ai (txt y)),(1,[],ai (txt (d:Nat)))]/\i=[]) ?_ (fun fr _ F j _ l=>?_)
 ·refine Up (fun m=>?_) fun m=>?_
  ·have n:w<0:=by
    have h:eU w<0:=by simpa using m
    unfold eU at h;split at h <;> omega
   rw [aJ n] at hy;refine Un 1 Z fun R a=>UC (uw _ z om_) U7 fl_<|Uq U6<|UC (uw _ w om_) U7 fl_<|C4 2 [0,1] a Z<|UD 0 (Mem.le.refl _) (hn_ [0,1] Z) ⟨trivial,by rw [hy,show -w=((d:Nat):Int) by omega],Z⟩
  have n:¬ w<0:=by
   intro h2;have h:¬ eU w<0:=by simpa using m
   unfold eU at h;split at h <;> omega
  rw [aB n] at hy;refine UD 0 (Mem.le.refl _) (hn_ [0,1] Z) ⟨trivial,by rw [hy,show w=((d:Nat):Int) by omega],Z⟩
 obtain ⟨_,rfl,rfl⟩:=l;refine Un 2 Z fun R a=>UC (GU _ f.m_ y (d:Nat) k b e om_ om_) U7 fl_<|C4 1 [0,1,5] a Z ?_;rw [Rt,c];refine Um 2 [0,1,5,17] Z<|G.cut (fun fr C' i j=>(True)/\fr=[(0,[],ai (txt (y / (g:Nat)))),(1,[],ai (txt ((d / g:Nat):Int)))]/\i=[]) ?_ (fun fr _ H j _ l=>?_)
 ·refine Up (fun o=>?_) fun o=>?_
  ·refine Un 2 Z fun R a=>UC (sz _ f.m_ y (g:Nat) k b e om_ om_ om_) U7 fl_<|C4 5 [0,1,5] a Z<|Un 2 Z fun R a=>UC (sz _ f.m_ (d:Nat) (g:Nat) k b e om_ om_ om_) U7 fl_<|C4 5 [0,1] a Z<|UD 0 (Mem.le.refl _) (hn_ [0,1] Z) ⟨trivial,by rw [TX],Z⟩
  have u:g=1:=by
   rw [da,sT] at o;simpa using o
  refine UD 0 (Mem.le.refl _) (hn_ [0,1] Z) ⟨trivial,by rw [u,Nat.div_one,Int.natCast_one,Int.ediv_one],Z⟩
 obtain ⟨_,rfl,rfl⟩:=l;rw [da];exact Un 2 Z fun R a=>UC (GP _ (y / (g:Nat)) (d / g) k b e (by rw [SQ (Tl.1 (SJ.2 (by rw [<- c];exact TB _ _))),Rt];exact RD (RM _ _) om_) (RD (RM _ _) om_)) U7 fl_<|C4 1 [4] a Z<|Uu U2<|⟨Z,Z⟩
theorem NP {a b:Nat}(h:bl a=bl b):a=b:=by rw [<- (bH a).2,h,(bH b).2]
theorem Oz (h:txt z=txt w):z=w:=by
 have h1:=dE z;rw [h,dE w] at h1;have h2:=NP (Ul h1).1;have h3:decide (w<0)=decide (z<0):=(Ul h1).2;by_cases a:w<0
 ·rw [Q0 a] at h3;have:=QF h3.symm;omega
 rw [Q6 a] at h3;have:=QJ h3.symm;omega
theorem iG (h:qtx a=qtx b):a=b:=by
 have h1:=ol a;rw [h,ol b] at h1;have h2:=Oz (Ul h1).1;have h3:=congrArg Qv (Ul h1).2;rw [qA,qA] at h3;exact Rat.ext h2.symm h3.symm
theorem MN (a b:Rat):((⟨(qtx a).toArray⟩:ByteArray).data.toList == (⟨(qtx b).toArray⟩:ByteArray).data.toList)=decide (a=b):=by
 show (qtx a == qtx b)=_;rw [Ub,Sn,QR];exact ⟨iG,fun h=>by rw [h]⟩
theorem qtx_zero:qtx 0=[48]:=by
 rw [show (0:Rat)=((0:Int):Rat) from rfl,mN];unfold txt;rw [aB om_,show bl (0:Int).natAbs=bl 0 from rfl,bl];rfl
theorem dA:qtx 1=[49]:=by
 rw [show (1:Rat)=((1:Int):Rat) from rfl,mN];exact one_val.symm
theorem eZ (a:Rat):((⟨(qtx a).toArray⟩:ByteArray).data.toList == (⟨#[48]⟩:ByteArray).data.toList)=decide (a=0):=by
 have h:=MN a 0
 rwa [qtx_zero] at h
theorem Ls (a:Rat):((⟨(qtx a).toArray⟩:ByteArray).data.toList == (⟨#[49]⟩:ByteArray).data.toList)=decide (a=1):=by
 have h:=MN a 1
 rwa [dA] at h
theorem FM (a:Rat):0<(qtx a).length:=by
 unfold qtx;rw [QO,QO];have:=Ru.2 (zk a.num.natAbs);omega
theorem bG (h:QB k q)(a:0<k):(qtx q).length<=18*k+2:=by
 unfold qtx;rw [QO,QO];have h1:=ci h.1 a;have h2:=ci h.2 a;have h3:(Jv (decide (q.num<0))).length<=1:=by cases decide (q.num<0) <;> simp [Jv]
 have h4:(eL (nN q.den)).length<=9*k+1:=by
  unfold nN;split
  ·simp [eL]
  simp [eL];exact h2
 omega
theorem tZ (q:Rat):∃ c r,qtx q=c::r/\((((c.toNat:Nat):Int) == 45)=decide (q.num<0)):=by
 by_cases h:q.num<0
 ·refine ⟨45,bl q.num.natAbs++eL (nN q.den), ?_,by rw [Q0 h];decide⟩;unfold qtx;rw [Q0 h];rfl
 obtain ⟨c,r,a⟩:∃ c r,bl q.num.natAbs=c::r:=List.exists_cons_of_ne_nil (zk _);refine ⟨c,r++eL (nN q.den), ?_, ?_⟩
 ·unfold qtx;rw [Q6 h,a];rfl
 have h2:=jY q.num.natAbs c (by rw [a];exact aK);rw [Q6 h];unfold eM at h2;have h3:=QF h2;exact Q6 om_
theorem gd (h:¬ q.num<0)(a:q≠0):qtx (-q)=45::qtx q:=by
 have b:q.num≠0:=fun e=>a (TJ.1 e);unfold qtx;rw [Uf,Rat.neg_den,Q0 om_,Q6 h,TP];rfl
theorem rn (h:q.num<0):qtx q=45::qtx (-q):=by
 have h2:=gd (q:=-q) (by rw [Uf];omega) (by intro e;have h3:=congrArg Rat.num e;rw [Uf] at h3;have h4:(0:Rat).num=0:=rfl;omega)
 rwa [Rat.neg_neg] at h2
def DW (q:Rat):Bool:=NE (bl q.num.natAbs) (nN q.den)
theorem LP (h:(bl n).length<=9):n<1000000000:=by
 have h1:=dU (jY n);rw [(bH n).2] at h1;exact R4 h1 (Q1 (Q7 dc_ h) dc_)
theorem mV (h:DW q=true):q.num.natAbs<1000000000/\q.den<1000000000:=by
 unfold DW NE at h;rw [QU,QR,QR] at h;refine ⟨LP h.1, ?_⟩;by_cases h1:q.den=1
 ·omega
 rw [fK h1] at h;exact LP h.2
theorem Fv (C:Mem)(q:Rat)(a:(qtx q).length<=1000000):Gives cx.P 141 [ai (qtx q)] C (if DW q then .tuple #[.int .i64 q.num,.int .i64 (q.den:Nat),.bool true] else .tuple #[.int .i64 0,.int .i64 0,.bool false]):=by
 have h:=Di C (decide (q.num<0)) (bl q.num.natAbs) (nN q.den) (jY _) (zk _) (Ku _) a;unfold rY at h;rw [(bH _).2,qA] at h;have e:sgZ (decide (q.num<0)) q.num.natAbs=q.num:=by
  unfold sgZ;by_cases h:q.num<0
  ·rw [Q0 h,aJ rfl];omega
  rw [Q6 h,aB dc_];omega
 rw [e] at h;exact h
theorem eV (C:Mem)(q:Rat)(g:(qtx q).length<=1000000):Gives cx.P 174 [ai (qtx q)] C (ai (qtx (-q))):=by
 have h:=FM q;refine Uv func174 13 U3 fun w0=>Um 1 [0] Z<|Um 2 [0,4] Z<|Up (fun h4=>?_) fun h4=>?_
 ·have h0:q=0:=by rw [eZ] at h4;exact QF h4
  refine Um 2 [2] Z<|Uu U2<|⟨?_,Z⟩;rw [h0,Rat.neg_zero]
 have h0:q≠0:=by rw [eZ] at h4;exact QJ h4
 obtain ⟨c,r,f,e⟩:=tZ q;refine Un 1 Z fun R a=>Vk U8 (fun _=>⟨by omega,by rw [f];rfl⟩) U2<|C4 1 [0,8] a Z<|Up (fun b=>?_) fun b=>?_
 ·have d:q.num<0:=by rw [e] at b;exact QF b
  refine Un 1 Z fun R a=>Vo 1 (qtx q).length U9 (fun _=>⟨.inr ⟨_,Z⟩,.inl ⟨Z,Z⟩,.inl ⟨Z,Z⟩,by omega,QG _,QG _⟩) U2<|C4 1 [2] a Z<|Uu U2<|⟨?_,Z⟩;rw [QV,rn d];rfl
 have d:¬ q.num<0:=by rw [e] at b;exact QJ b
 refine Un 1 Z fun R a=>Vn U6 (fun _=>(by simp only [QY,Rp];omega)) U2<|C4 1 [2] a Z<|Uu U2<|⟨?_,Z⟩;rw [gd d h0];rfl
theorem fT (C:Mem)(q:Rat)(j:(qtx q).length<=1000000):Gives cx.P 58 [ai (qtx q)] C (.int .i64 (eU q.num)):=by
 obtain ⟨c,r,f,d⟩:=tZ q;have k:=FM q;refine Uv func58 15 U3 fun w0=>Um 1 [0] Z<|Um 3 [0,3] Z<|Up (fun h3=>?_) fun h3=>?_
 ·have h0:q=0:=by rw [eZ] at h3;exact QF h3
  refine Um 1 [2] Z<|Uu U2<|⟨?_,Z⟩;rw [h0];rfl
 have h0:q≠0:=by rw [eZ] at h3;exact QJ h3
 have g:q.num≠0:=fun e=>h0 (TJ.1 e);refine Un 5 Z fun R i=>Vk U8 (fun _=>⟨by omega,by rw [f];rfl⟩) U2<|Uq U6<|UM U8<|C4 1 [6] i Z<|Up (fun a=>?_) fun a=>?_
 ·rw [d] at a;have b:q.num<0:=by
   have h:=(QU _ _ ▸ a:_/\_).2;exact QF h
  skip
  refine Um 1 [2] Z<|Uu U2<|⟨?_,Z⟩;unfold eU;rw [aJ b]
 rw [d,Q0 (show (0:Int)<((⟨(qtx q).toArray⟩:ByteArray).data.toList.length:Int) by show (0:Int)<(((qtx q).length:Nat):Int);omega),TW] at a;have b:¬ q.num<0:=QJ a;refine Um 1 [2] Z<|Uu U2<|⟨?_,Z⟩;unfold eU;rw [aB b,aB g]
theorem jJ (C:Mem)(q:Rat)(b:(qtx q).length<=1000000):Gives cx.P 141 [ai (qtx q)] C (.tuple #[.int .i64 (if DW q then q.num else 0),.int .i64 (if DW q then ((q.den:Nat):Int) else 0),.bool (DW q)]):=by
 have h:=Fv C q b;cases a:DW q with
 | true=>rw [a] at h;exact h
 | false=>rw [a] at h;exact h
def EH (a b:Rat):Int:=if a<b then -1 else if b<a then 1 else 0
theorem uT :EH a b=vx (a.num*b.den) (b.num*a.den):=by
 unfold EH vx;simp only [Rat.lt_iff]
theorem ia (a:Rat):0<a.den:=SI a.den_nz
theorem nW {a:Int}(b:a.natAbs<1000000000)(c:d<1000000000):-1000000000000000000<a*(d:Int)/\a*(d:Int)<1000000000000000000:=FU b (by rw [Rt];exact c)
theorem wN {a:Nat}(b:a<1000000000)(c:d<1000000000):a*d<1000000000000000000:=Si b c
theorem kO (C:Mem)(q:Rat)(a:(qtx q).length<1000000):Gives cx.P 143 [ai (qtx q)] C (.tuple #[ai (txt q.num),ai (txt ((q.den:Nat):Int))]):=by
 have h:=M1 C q a
 rwa [<- da] at h
theorem eg (a:z.natAbs<B9 ^ k)(b:w.natAbs<B9 ^ k):(z*w).natAbs<B9 ^ (k+k):=by
 rw [Se];exact nU a b
theorem BZ (a:0<d):kW z ((d:Nat):Int)=mkRat z d:=by
 unfold kW;rw [aB om_,Rt]
theorem rB (h:QB k q):((q.den:Nat):Int).natAbs<B9 ^ k:=by rw [Rt];exact h.2
theorem kM (C:Mem)(m:Tabs C)(a b:Rat)(k:Nat)(f:0<k)(u:k<=20000)(d:QB k a)(e:QB k b):Gives cx.P 107 [ai (qtx a),ai (qtx b)] C (.int .i64 (EH a b)):=by
 have v:=bG d f;have w:=bG e f;refine Uv func107 65 U3 fun w0=>Um 1 [0,1] Z<|Um 3 [0,1,19] Z<|Up (fun g=>?_) fun g=>?_
 ·have h0:a=b:=by rw [MN] at g;exact QF g
  refine Um 1 [4] Z<|Uu U2<|⟨?_,Z⟩;subst h0;rw [EH,aB (Rat.lt_irrefl),aB (Rat.lt_irrefl)]
 refine Un 1 Z fun R c=>UC (jJ _ a om_) U7 fl_<|C4 7 [0,1,5,6,7] c Z<|Um 1 [0,1,5,6,26] Z<|G.cut (fun fr C' r s=>(True)/\fr=[(0,[],ai (qtx a)),(1,[],ai (qtx b))]/\r=[]) ?_ (fun fr _ x s _ t=>?_)
 ·refine Up (fun n=>?_) fun n=>?_
  ·have h:DW a=true:=n;rw [aJ h,aJ h];have o:=mV h;refine Un 1 Z fun R c=>UC (jJ _ b om_) U7 fl_<|C4 7 [0,1,5,6,8,9,10] c Z<|Um 1 [0,1,5,6,8,9,33] Z<|Up (fun p=>?_) fun p=>?_
   ·have i:DW b=true:=p;rw [aJ i,aJ i];have q:=mV i;have y:=nW o.1 q.2;have z:=nW q.1 o.2;refine Un 2 Z fun R c=>Ux _ U7<|Us 2 Z<|Ux _ U7<|C4 2 [11,12] c Z<|Um 4 [11,12,40] Z<|Up (fun j=>?_) fun j=>?_
    ·have h1:=QF j;refine Um 1 [4] Z<|Uu U2<|⟨?_,Z⟩;rw [uT,vx,aJ h1]
    have h1:=QJ j;refine Um 4 [44] Z<|Up (fun l=>?_) fun l=>?_
    ·have h2:=QF l;refine Um 1 [4] Z<|Uu U2<|⟨?_,Z⟩;rw [uT,vx,aB h1,aJ h2]
    have h2:=QJ l;refine Um 1 [4] Z<|Uu U2<|⟨?_,Z⟩;rw [uT,vx,aB h1,aB h2]
   refine UD 0 (Mem.le.refl _) (hn_ [0,1] Z) ⟨trivial,Z,Z⟩
  refine UD 0 (Mem.le.refl _) (hn_ [0,1] Z) ⟨trivial,Z,Z⟩
 obtain ⟨_,rfl,rfl⟩:=t;exact Un 1 Z fun R c=>UC (kO _ a om_) U7 fl_<|C4 5 [1,13,14] c Z<|Un 1 Z fun R c=>UC (kO _ b om_) U7 fl_<|C4 5 [13,14,15,16] c Z<|Un 2 Z fun R c=>UC (kS _ m.m_ _ _ k f om_ d.1 (rB e)) U7 fl_<|Us 2 Z<|UC (kS _ m.m_ _ _ k f om_ e.1 (rB d)) U7 fl_<|UC (pY _ _ _ (by have:=ci (eg d.1 (rB e)) om_;omega) (by have:=ci (eg e.1 (rB d)) om_;omega)) U7 fl_<|C4 1 [4] c Z<|Uu U2<|⟨by rw [uT],Z⟩
theorem jd (C:Mem)(f:Tabs C)(a b:Rat)(k:Nat)(g:0<k)(w:k<=10000)(d:QB k a)(e:QB k b):Gives cx.P 91 [ai (qtx a),ai (qtx b)] C (ai (qtx (a+b))):=by
 have x:=bG d g;have y:=bG e g;have r:=ia a;have s:=ia b;have o:0<a.den*b.den:=Tk r s;refine Uv func91 67 U3 fun w0=>Um 1 [0,1] Z<|Um 2 [0,1,16] Z<|Up (fun h=>?_) fun h=>?_
 ·have h0:a=0:=by rw [eZ] at h;exact QF h
  refine Um 2 [4] Z<|Uu U2<|⟨?_,Z⟩;rw [h0,Rat.zero_add]
 refine Um 2 [0,1,19] Z<|Up (fun i=>?_) fun i=>?_
 ·have h0:b=0:=by rw [eZ] at i;exact QF i
  refine Um 2 [4] Z<|Uu U2<|⟨?_,Z⟩;rw [h0,Rat.add_zero]
 refine Un 1 Z fun R c=>UC (jJ _ a om_) U7 fl_<|C4 7 [0,1,5,6,7] c Z<|Um 1 [0,1,5,6,27] Z<|G.cut (fun fr C' t u=>(True)/\fr=[(0,[],ai (qtx a)),(1,[],ai (qtx b))]/\t=[]) ?_ (fun fr _ z u _ v=>?_)
 ·refine Up (fun p=>?_) fun p=>?_
  ·have j:DW a=true:=p;rw [aJ j,aJ j];have l:=mV j;refine Un 1 Z fun R c=>UC (jJ _ b om_) U7 fl_<|C4 7 [0,1,5,6,8,9,10] c Z<|Um 1 [0,1,5,6,8,9,34] Z<|Up (fun q=>?_) fun q=>?_
   ·have m:DW b=true:=q;rw [aJ m,aJ m];have n:=mV m;have A:=nW l.1 n.2;have B:=nW n.1 l.2;have D:=wN l.2 n.2;exact Un 2 Z fun R c=>Ux _ U7<|Us 2 Z<|Ux _ U7<|Ux _ U7<|Us 2 Z<|UY (((a.den*b.den:Nat):Int)) U4 (RH _ _).symm om_ om_ U2<|UC (wg _ f.m_ _ _ o om_ om_) U7 fl_<|C4 1 [4] c Z<|Uu U2<|⟨by rw [gC],Z⟩
   refine UD 0 (Mem.le.refl _) (hn_ [0,1] Z) ⟨trivial,Z,Z⟩
  refine UD 0 (Mem.le.refl _) (hn_ [0,1] Z) ⟨trivial,Z,Z⟩
 obtain ⟨_,rfl,rfl⟩:=v;exact Un 1 Z fun R c=>UC (kO _ a om_) U7 fl_<|C4 5 [1,11,12] c Z<|Un 1 Z fun R c=>UC (kO _ b om_) U7 fl_<|C4 5 [11,12,13,14] c Z<|Un 2 Z fun R c=>UC (kS _ f.m_ _ _ k g om_ d.1 (rB e)) U7 fl_<|Us 2 Z<|UC (kS _ f.m_ _ _ k g om_ e.1 (rB d)) U7 fl_<|UC (Nv _ f.m_ _ _ (k+k) om_ om_ (eg d.1 (rB e)) (eg e.1 (rB d))) U7 fl_<|Us 2 Z<|UC (kS _ f.m_ _ _ k g om_ (rB d) (rB e)) U7 fl_<|UC (pN _ f.m_ _ _ (k+k+1) om_ om_ (RD (Ti _ _) (yj (eg d.1 (rB e)) (eg e.1 (rB d)))) (dB (eg (rB d) (rB e)) om_) (by rw [<- RH];omega)) U7 fl_<|C4 1 [4] c Z<|Uu U2<|⟨by rw [gC,<- RH,BZ o],Z⟩
theorem PH (c:QB k a)(d:QB k b):QB (k+k+1) (a+b):=by
 rw [gC];exact fV (Nat.ne_of_gt (Tk (ia a) (ia b))) (RD (Ti _ _) (yj (eg c.1 (rB d)) (eg d.1 (rB c)))) (dB (nU c.2 d.2) om_)
theorem qV (c:QB k a)(d:QB k b):QB (k+k) (a*b):=by
 rw [gA];exact fV (Nat.ne_of_gt (Tk (ia a) (ia b))) (eg c.1 d.1) (nU c.2 d.2)
theorem fZ (b:QB k a):QB k (-a):=⟨by rw [Uf,TP];exact b.1,by rw [Rat.neg_den];exact b.2⟩
theorem mr (c:QB k a)(d:QB k b):QB (k+k+1) (a-b):=by
 rw [Ug];exact PH c (fZ d)
theorem CE (b:QB k a)(d:a≠0):QB k a⁻¹:=by
 have c:a.num≠0:=fun e=>d (TJ.1 e);refine ⟨?_, ?_⟩
 ·rw [Rat.num_inv,Se,Int.natAbs_sign_of_ne_zero c,TE,Rt];exact b.2
 rw [Rat.den_inv,aB c];exact b.1
theorem ms (c:QB k a)(d:QB k b)(e:b≠0):QB (k+k) (a / b):=by
 rw [Rat.div_def];exact qV c (CE d e)
theorem PG (h:z.natAbs<B9 ^ k)(a:0<k):QB k (z:Rat):=⟨h,by
 show 1<B9 ^ k;exact R4 (by decide:1<B9 ^ 1) (Q7 dc_ a)⟩
theorem dy (C:Mem)(g:Tabs C)(a b:Rat)(k:Nat)(i:0<k)(y:k<=10000)(d:QB k a)(e:QB k b):Gives cx.P 92 [ai (qtx a),ai (qtx b)] C (ai (qtx (a*b))):=by
 have z:=bG d i;have A:=bG e i;have w:=ia a;have x:=ia b;have q:0<a.den*b.den:=Tk w x;refine Uv func92 66 U3 fun w0=>Um 1 [0,1] Z<|Um 3 [0,1,15] Z<|G.cut (fun fr C' L' j=>(True)/\fr=[(0,[],ai (qtx a)),(1,[],ai (qtx b)),(15,[],.bool (decide (a=0∨b=0)))]/\L'=[]) ?_ (fun fr _ B j _ l=>?_)
 ·refine Up (fun f=>?_) fun f=>?_
  ·have h0:a=0:=by rw [eZ] at f;exact QF f
   rw [eZ,show decide (a=0)=decide (a=0∨b=0) by simp [h0]];refine UD 0 (Mem.le.refl _) (hn_ [0,1,15] Z) ⟨trivial,Z,Z⟩
  have h0:¬ a=0:=by rw [eZ] at f;exact QJ f
  refine Um 3 [0,1,15] Z ?_;rw [eZ,show decide (b=0)=decide (a=0∨b=0) by simp [h0]];refine UD 0 (Mem.le.refl _) (hn_ [0,1,15] Z) ⟨trivial,Z,Z⟩
 obtain ⟨_,rfl,rfl⟩:=l;refine Up (fun r=>?_) fun r=>?_
 ·have h0:=QF r;refine Um 1 [4] Z<|Uu U2<|⟨?_,Z⟩;rw [show a*b=0 by rcases h0 with h | h <;> simp [h],qtx_zero];rfl
 refine Um 3 [0,1,20] Z<|Up (fun m=>?_) fun m=>?_
 ·have h1:a=1:=by rw [Ls] at m;exact QF m
  refine Um 2 [4] Z<|Uu U2<|⟨?_,Z⟩;rw [h1,Rat.one_mul]
 refine Um 3 [0,1,24] Z<|Up (fun n=>?_) fun n=>?_
 ·have h1:b=1:=by rw [Ls] at n;exact QF n
  refine Um 2 [4] Z<|Uu U2<|⟨?_,Z⟩;rw [h1,Rat.mul_one]
 refine Un 1 Z fun R c=>UC (jJ _ a om_) U7 fl_<|C4 7 [0,1,5,6,7] c Z<|Um 1 [0,1,5,6,34] Z<|G.cut (fun fr C' L' j=>(True)/\fr=[(0,[],ai (qtx a)),(1,[],ai (qtx b))]/\L'=[]) ?_ (fun fr _ D j _ l=>?_)
 ·refine Up (fun s=>?_) fun s=>?_
  ·have o:DW a=true:=s;rw [aJ o,aJ o];have t:=mV o;refine Un 1 Z fun R c=>UC (jJ _ b om_) U7 fl_<|C4 7 [0,1,5,6,8,9,10] c Z<|Um 1 [0,1,5,6,8,9,41] Z<|Up (fun u=>?_) fun u=>?_
   ·have p:DW b=true:=u;rw [aJ p,aJ p];have v:=mV p;have E:=FU t.1 v.1;have F:=wN t.2 v.2;exact Un 2 Z fun R c=>Ux _ U7<|Us 2 Z<|UY (((a.den*b.den:Nat):Int)) U4 (RH _ _).symm om_ om_ U2<|UC (wg _ g.m_ _ _ q om_ om_) U7 fl_<|C4 1 [4] c Z<|Uu U2<|⟨by rw [gA],Z⟩
   refine UD 0 (Mem.le.refl _) (hn_ [0,1] Z) ⟨trivial,Z,Z⟩
  refine UD 0 (Mem.le.refl _) (hn_ [0,1] Z) ⟨trivial,Z,Z⟩
 obtain ⟨_,rfl,rfl⟩:=l;exact Un 1 Z fun R c=>UC (kO _ a om_) U7 fl_<|C4 5 [1,11,12] c Z<|Un 1 Z fun R c=>UC (kO _ b om_) U7 fl_<|C4 5 [11,12,13,14] c Z<|Un 2 Z fun R c=>UC (kS _ g.m_ _ _ k i om_ d.1 e.1) U7 fl_<|Us 2 Z<|UC (kS _ g.m_ _ _ k i om_ (rB d) (rB e)) U7 fl_<|UC (pN _ g.m_ _ _ (k+k) om_ om_ (eg d.1 e.1) (eg (rB d) (rB e)) (by rw [<- RH];omega)) U7 fl_<|C4 1 [4] c Z<|Uu U2<|⟨by rw [gA,<- RH,BZ q],Z⟩
theorem ek (C:Mem)(e:Tabs C)(a b:Rat)(k:Nat)(c:0<k)(f:k<=10000)(g:QB k a)(d:QB k b):Gives cx.P 226 [ai (qtx a),ai (qtx b)] C (ai (qtx (a-b))):=by
 have i:=bG d c;exact Uv func226 9 U3 fun w0=>Um 1 [0,1] Z<|Un 2 Z fun R h=>UC (eV _ b om_) U7 fl_<|Uz (jd _ e.m_ a (-b) k c f g (fZ d)) U7<|C4 1 [4] h Z<|Uu U2<|⟨by rw [Ug],Z⟩
theorem jb (C:Mem)(n:Tabs C)(a b:Rat)(k:Nat)(g:0<k)(o:k<=10000)(p:QB k a)(f:QB k b)(h:b≠0):Gives cx.P 199 [ai (qtx a),ai (qtx b)] C (.tuple #[ai (qtx (a / b)),.int .i64 0]):=by
 have v:=bG f g;have q:b.num≠0:=fun e=>h (TJ.1 e);obtain ⟨c,r,s,l⟩:=tZ b;refine Uv func199 27 U3 fun w0=>Um 2 [0,1] Z<|Um 2 [0,1,9] Z<|Up (fun j=>?_) fun j=>?_
 ·exfalso;rw [eZ] at j;exact h (QF j)
 refine Un 1 Z fun R d=>UC (kO _ b om_) U7 fl_<|C4 5 [0,1,6,7] d Z<|Un 1 Z fun R d=>Vk U8 (fun _=>⟨by omega,by rw [s];rfl⟩) U2<|C4 1 [0,6,7,17] d Z<|G.cut (fun fr C' L' t=>(True)/\fr=[(0,[],ai (qtx a)),(6,[],ai (txt (b.num.natAbs:Nat))),(7,[],ai (txt (b⁻¹).num))]/\L'=[]) ?_ (fun fr _ w t _ u=>?_)
 ·refine Up (fun i=>?_) fun i=>?_
  ·have m:b.num<0:=by rw [l] at i;exact QF i
   refine Un 1 Z fun R d=>UC (uw _ b.num (by have:=ci f.1 g;omega)) U7 fl_<|Uq U6<|UC (uw _ ((b.den:Nat):Int) (by have:=ci (rB f) g;omega)) U7 fl_<|C4 2 [0,6,7] d Z ?_;rw [show -b.num=((b.num.natAbs:Nat):Int) by omega,show -((b.den:Nat):Int)=(b⁻¹).num by rw [Rat.num_inv,Int.sign_eq_neg_one_of_neg m,Int.neg_one_mul]];refine UD 0 (Mem.le.refl _) (hn_ [0,6,7] Z) ⟨trivial,Z,Z⟩
  have m:¬ b.num<0:=by rw [l] at i;exact QJ i
  rw [show b.num=((b.num.natAbs:Nat):Int) by omega,show ((b.den:Nat):Int)=(b⁻¹).num by rw [Rat.num_inv,Int.sign_eq_one_of_pos om_,Int.one_mul]];refine UD 0 (Mem.le.refl _) (hn_ [0,6,7] Z) ⟨trivial,Z,Z⟩
 obtain ⟨_,rfl,rfl⟩:=u;rw [da,show b.num.natAbs=(b⁻¹).den by rw [Rat.den_inv,aB q]];refine Un 3 Z fun R d=>UC (GP _ _ _ k g om_ (CE f h).1 (CE f h).2) U7 fl_ ?_;rw [<- pk b⁻¹];refine Uz (dy _ n.m_ a b⁻¹ k g o p (CE f h)) U7<|C4 2 [4,5] d Z<|UA (G.dropAll (UP U3 ?_));exact ⟨by rw [Rat.div_def],Z⟩
theorem MH (C:Mem)(c:Tabs C)(z w:Int)(k:Nat)(d:0<k)(e:k<=40000)(f:z.natAbs<B9 ^ k)(g:w.natAbs<B9 ^ k)(i:w≠0):Gives cx.P 150 [ai (txt z),ai (txt w)] C (.tuple #[ai (qtx (kW z w)),.int .i64 0]):=by
 refine Uv func150 12 U3 fun w0=>Um 2 [0,1] Z<|Un 1 Z fun R a=>Uz (lR _ w) U7<|C4 1 [0,1,8] a Z<|Up (fun b=>?_) fun b=>?_
 ·exfalso;have h:eU w=0:=by simpa using b
  rcases ep w with h2 | h2 | h2 <;> omega
 refine Un 2 Z fun R a=>Uz (pN _ c.m_ z w k d e f g i) U7<|C4 2 [4,5] a Z<|UA (G.dropAll (UP U3 ?_));exact ⟨Z,Z⟩
theorem FC (C:Mem)(a:Tabs C)(z w:Int)(d:z.natAbs<9000000000000000000)(e:w.natAbs<9000000000000000000)(b:w≠0):Gives cx.P 98 [.int .i64 z,.int .i64 w] C (.tuple #[ai (qtx (kW z w)),.int .i64 0]):=by
 have f:9000000000000000000<B9 ^ 3:=by decide
 refine Uv func98 13 U3 fun w0=>Um 2 [0,1] Z<|Un 1 Z fun R c=>UC (sx _ a.m_ z om_ om_) U7 fl_<|Uq U6<|UC (sx _ a.m_ w om_ om_) U7 fl_<|UC (MH _ a.m_ z w 3 dc_ dc_ om_ om_ b) U7 fl_<|C4 4 [4,5] c Z<|UA (G.dropAll (UP U3 ?_));exact ⟨Z,Z⟩
theorem lk (C:Mem)(a:Tabs C)(z:Int)(c:z.natAbs<9000000000000000000):Gives cx.P 45 [.int .i64 z] C (ai (qtx z)):=by
 exact Uv func45 5 U3 fun w0=>Um 1 [0] Z<|Un 1 Z fun R b=>UC (sx _ a.m_ z om_ om_) U7 fl_<|C4 1 [2] b Z<|Uu U2<|⟨by rw [mN],Z⟩
theorem pow9 (k:Nat):B9 ^ k=10 ^ (9*k):=by rw [Nat.pow_mul]
theorem ft (h:cI s=true):s=txt (iK s)/\(iK s).natAbs<B9 ^ 23:=by
 have h1:=rV.1 h;refine ⟨HP (by unfold cI at h;exact (SC.1 h).1), ?_⟩;rw [Kv];have h2:=yC.1 h1.1;have h3:=dU h2.1.1;exact R4 h3 (by rw [pow9];exact Q7 dc_ om_)
theorem Ln (h:aW s=true):∃ q:Rat,s=qtx q/\QB 23 q:=by
 unfold aW at h;rw [QU,QU] at h;obtain ⟨⟨h1,h2⟩,h3⟩:=h;obtain ⟨a,b⟩:=ft h1;rcases gQ 47 s with ⟨d,_,_⟩ | ⟨c,post,d,hs,_⟩
 ·rw [d] at a b;exact ⟨((iK s:Int):Rat),by rw [mN];exact a,PG b dc_⟩
 rw [d] at h2 h3 a b;simp only [R0] at h2 a b;obtain ⟨e,f⟩:=ft h2;unfold pg at h3;simp only [QU,QR,Sn] at h3;obtain ⟨⟨h4,_⟩,g⟩:=h3;have i:(iK post).natAbs≠0:=by omega
 refine ⟨⟨iK c,(iK post).natAbs,i,g⟩, ?_,b,f⟩;rw [pk];show s=txt (iK c)++eL (nN (iK post).natAbs);rw [fK om_,<- a,hs];show c++47::post=c++47::bl (iK post).natAbs;rw [<- da,show (((iK post).natAbs:Nat):Int)=iK post by omega,<- e]
theorem ry (C:Mem)(b:Str)(a:cI b=true):Gives cx.P 161 [ai b,ai [49]] C (.int .i64 (vx (iK b) 1)):=by
 obtain ⟨h1,h2⟩:=ft a;have h:=pY C (iK b) 1 (by have:=ci h2 dc_;omega) (by rw [show bl (1:Int).natAbs=[49] from one_dec];decide)
 rwa [<- one_val,<- h1] at h
theorem DJ (C:Mem)(c:Tabs C)(a b:Str)(d:cI a=true)(e:cI b=true):Gives cx.P 208 [ai a,ai b] C (ai (txt (Nat.gcd (iK a).natAbs (iK b).natAbs:Nat))):=by
 obtain ⟨h1,h2⟩:=ft d;obtain ⟨h3,h4⟩:=ft e;have h:=GU C c (iK a) (iK b) 23 dc_ dc_ h2 h4
 rwa [<- h1,<- h3] at h
theorem xz {b:Bool}(h:(qK b != 0)=false):b=true:=by cases b <;> first | rfl | (exact absurd h dc_)
theorem dW (C:Mem)(y:Tabs C)(s:Str)(A:s.length<=999998):Gives cx.P 140 [ai s] C (.int .i64 (qK (aW s))):=by
 have u:=FH A;obtain ⟨c,f,l⟩:∃ a b,ka 47 s=(a,b):=⟨_,_,rfl⟩;have k:aW s=(cI c && cI (f.getD [49]) && pg (iK c) f):=by
  unfold aW;rw [l]
 rw [l] at u;simp only at u;refine Uv func140 39 U3 fun w0=>Um 1 [0] Z<|Un 1 Z fun R g=>UC (by have h:=LX C s 47 om_;rw [l] at h;exact h) U7 fl_<|C4 7 [3,4,5] g Z<|Un 1 Z fun R g=>Uz (xe _ c) U7<|C4 1 [3,4,5,16] g Z<|Up (fun i=>?_) fun i=>?_
 ·have j:aW s=false:=by
   rw [k];cases h1:cI c with
   | false=>rfl
   | true=>rw [h1] at i;exact absurd i dc_
  exact Um 1 [2] Z<|Uu U2<|⟨by rw [j];rfl,Z⟩
 have m:cI c=true:=by
  cases h1:cI c with
  | true=>rfl
  | false=>rw [h1] at i;exact absurd i dc_
 rw [m,TW] at k;obtain ⟨v,B⟩:=ft m;refine Um 2 [3,4,18] Z<|Up (fun n=>?_) fun n=>?_
 ·have o:f=none:=by
   cases f with
   | none=>rfl
   | some b=>simp at n
  refine Um 1 [2] Z<|Uu U2<|⟨?_,Z⟩;rw [k,o];rfl
 obtain ⟨b,o⟩:∃ b,f=some b:=by
  cases f with
  | some b=>exact ⟨b,rfl⟩
  | none=>simp at n
 subst o;obtain ⟨d,w⟩:∃ z,iK c=z:=⟨_,rfl⟩;obtain ⟨e,x⟩:∃ z,iK b=z:=⟨_,rfl⟩;have p:aW s=(cI b && pg (iK c) (some b)):=k;unfold pg at p;simp only [w,x] at p v B;have D:(c == [48])=(d == 0):=by
  rw [v];have h:=lu d;rw [show (d == 0)=decide (d=0) by by_cases h:d=0 <;> simp [h]];exact h
 have E:(qK (cI b) != 0)=!cI b:=by cases cI b <;> rfl
 have F:decide (vx e 1<=0)=!decide (1<e):=by
  unfold vx;by_cases h:1<e
  ·rw [aB om_,aJ h,Q0 h];rfl
  rw [Q6 h];refine Q0 ?_;split <;> first | omega | (split <;> omega)
 have q:(qK (cI b) != 0 || decide (vx (iK b) 1<=0) || (c == [48]) || !(bl ((iK c).natAbs.gcd (iK b).natAbs) == [49]))=!aW s:=by
  have G:=sT (d.natAbs.gcd e.natAbs);have H:(bl (d.natAbs.gcd e.natAbs) == [49])=(d.natAbs.gcd e.natAbs == 1):=G;rw [w,x,D,E,F,H,p];cases cI b <;> cases decide (1<e) <;> cases (d == 0) <;> cases (d.natAbs.gcd e.natAbs == 1) <;> rfl
 rw [<- da] at q;refine Um 4 [6,7] Z<|Un 1 Z fun R g=>Uz (xe _ b) U7<|Us 3 Z<|UL (fun r=>(ry _ b (by exact xz (show (qK (cI b) != 0)=false/\True from r).1))) U9<|Uq U6<|UU U8<|Us 3 Z<|UU U8<|Us 3 Z<|UL (fun r=>(DJ _ y.m_ c b m (by exact xz (Sq.1 (Sq.1 (show (((qK (cI b) != 0) || decide (vx (iK b) 1<=0)) || (c == [48]))=false/\True from r).1).1).1))) U9<|Uq U6<|UU U8<|Ut [38] g Z<|Up (fun t=>?_) fun t=>?_
 ·have j:aW s=false:=by
   have h:(!aW s)=true:=q.symm.trans t;simpa using h
  exact Um 1 [2] Z<|Uu U2<|⟨by rw [j];rfl,Z⟩
 have j:aW s=true:=by
  have h:(!aW s)=false:=q.symm.trans t;simpa using h
 exact Um 1 [2] Z<|Uu U2<|⟨by rw [j];rfl,Z⟩
theorem ON (z:Int)(b:g ∣ z.natAbs):sgZ (decide (z<0) != false) (z.natAbs / g)=z / (g:Int):=by
 obtain ⟨m,hm⟩:=b;rcases Sb g with h | c
 ·subst h;have a:z=0:=by omega
  subst a;rfl
 rw [hm,Nat.mul_div_cancel_left _ c,Bool.bne_false];unfold sgZ;by_cases a:z<0
 ·rw [Q0 a,aJ rfl,show z=(g:Int)*(-(m:Int)) by rw [Int.mul_neg,<- RH];omega,Int.mul_ediv_cancel_left _ om_]
 rw [Q6 a,aB dc_,show z=(g:Int)*(m:Int) by rw [<- RH];omega,Int.mul_ediv_cancel_left _ om_]
theorem xn (C:Mem)(c:Tabs C)(z:Int)(b:Nat)(m:z.natAbs<BP ^ 200)(n:b<BP ^ 200)(F:0<b)(d:b ∣ z.natAbs):Gives cx.P 224 [ai (txt z),ai (bl b)] C (.tuple #[ai (txt (z / (b:Int))),ai (bl 0)]):=by
 have H:=PR;have o:z.natAbs % b=0:=Nat.mod_eq_zero_of_dvd d;have f:(b:Int) ∣ z:=Tl.1 (SJ.2 d);have I:(z / (b:Int)).natAbs<=z.natAbs:=by
  rw [SQ f,Rt];exact RM _ _
 refine Uv func224 93 U3 fun w0=>Um 2 [0,1] Z<|Un 1 Z fun R a=>Uz (CA C z) U7<|C4 5 [0,1,6,7] a Z<|Un 1 Z fun R a=>Uz (qM _ b) U7<|C4 5 [0,1,6,7,8,9] a Z<|Un 3 Z fun R a=>UM U8<|Ut [0,1,6,8,31] a Z<|Up (fun g=>?_) fun g=>?_
 ·have hs:(bl z.natAbs).length<=17/\(bl b).length<=17:=by simpa using g
  have h1:=Cv hs.1;have h2:=qN hs.2;rw [aJ hs.1,aJ hs.2];refine UK [0,1,2,3,4,5,6,7] [] Z kr_ fun R J a=>Us 2 Z<|VC (z / (b:Int)) U6 om_ (pj d) (wrap_i64 om_ om_) U2<|Us 2 Z<|Vs 0 U6 om_ ⟨(Int.tmod_eq_zero_of_dvd f),Z,Z⟩<|C4 2 [6,8,10,11] a Z<|Um 2 [6,8,10,11,39] Z<|Up (fun h=>?_) fun h=>?_
  ·exfalso;simp at h
  refine Un 1 Z fun R a=>UC (lI _ c (z / (b:Int)) om_ om_) U7 fl_<|Uq U6<|UC (Gd _ c 0 om_) U7 fl_<|C4 2 [4,5] a Z<|UA (G.dropAll (UP U3 ?_));exact ⟨Z,Z⟩
 refine Un 1 Z fun R a=>Uz (fA _ z) U7<|C4 5 [1,12,13] a Z<|Un 1 Z fun R a=>Uz (oP _ b) U7<|C4 5 [12,13,14,15] a Z<|Un 1 Z fun R a=>UW (nP _ z.natAbs m) U7 (fun K _ _ p=>?_);obtain ⟨lp,q,r,L,s⟩:=p;refine Uq U6<|UW (nP _ b n) U7 (fun M _ _ t=>?_);obtain ⟨u,v,w,N,x⟩:=t;refine US (Bv _ _ _ lp u s.m_ x.m_ q.1 v om_ om_ om_) U7 fl_ (fun O _ _ y=>?_);obtain ⟨u1,Q,rfl,i,e⟩:=y;rw [r,w] at i e;rw [o] at e;obtain ⟨l1,A,B,S,D⟩:=PieC.take i (by have:=RM z.natAbs b;omega);obtain ⟨l2,j,E,T,k⟩:=PieC.take e om_;obtain ⟨A2,c2,rfl,_⟩:=id k;obtain rfl:=(Cs j).1 E;refine C4 5 [12,14,15,16,17] a Z<|Un 5 Z fun R a=>UM U8<|Ut [12,14,15,16,17,78] a Z<|Up (fun l=>?_) fun l=>?_
 ·exfalso;simp at l
 refine Un 4 Z fun R a=>UC (Gv _ c.m_ _ _ l1 D.m_ A.1 om_) U7 fl_<|Uq U6<|UC (uq _ c.m_ _ [] k.m_ j.1 am) U7 fl_<|C4 2 [4,5] a Z<|UA (G.dropAll (UP U3 ?_));refine ⟨?_,Z⟩;show Value.tuple #[ai (txt (sgZ (decide (z<0) != false) (bK l1))),_]=_;rw [B,ON z d];rfl
theorem BD (h:(txt z).length<=9):z.natAbs<1000000000:=by
 have h1:=zG h
 rwa [e9] at h1
theorem Ff (C:Mem)(k:Tabs C)(z w:Int)(v:(txt z).length<=9)(A:(txt w).length<=9)(Q:w≠0):Gives cx.P 220 [ai (txt z),ai (txt w)] C (ai (qtx (kW z w))):=by
 have S:=BD v;have T:=BD A;obtain ⟨n,i⟩:∃ y,(if w<0 then -z else z)=y:=⟨_,rfl⟩;obtain ⟨d,B⟩:∃ d,w.natAbs=d:=⟨_,rfl⟩;have r:0<d:=by omega
 have D:n.natAbs<1000000000:=by rw [<- i];split <;> omega
 unfold kW;rw [i,B];obtain ⟨g,b⟩:∃ g,Nat.gcd n.natAbs d=g:=⟨_,rfl⟩;have E:0<g:=by rw [<- b];exact Tm _ r
 have s:g ∣ n.natAbs:=by rw [<- b];exact TB _ _
 have F:g ∣ d:=by rw [<- b];exact TR _ _
 have U:g<=d:=Uh r F;have H:(n / (g:Int)).natAbs<=n.natAbs:=by
  rw [SQ (Tl.1 (SJ.2 s)),Rt];exact RM _ _
 have t:=RM d g;rw [Bh om_,b];refine Uv func220 55 U3 fun w0=>Um 1 [0,1] Z<|Un 1 Z fun R a=>UC (zE Tryz.atoi z om_ _ kr_) U7 fl_<|C4 5 [1,5] a Z<|Un 1 Z fun R a=>UC (zE Tryz.atoi w om_ _ kr_) U7 fl_<|C4 5 [5,7] a Z<|Um 2 [5,7,22] Z<|G.cut (fun fr C' c e=>(True)/\fr=[(5,[],.int .i64 n),(7,[],.int .i64 d)]/\c=[]) ?_ (fun fr _ V e _ f=>?_)
 ·refine Up (fun l=>?_) fun l=>?_
  ·have h:w<0:=by simpa using l
   rw [aJ h] at i;refine Um 6 [5,7] Z ?_;rw [show IntKind.i64.wrap (0-z)=n by rw [wrap_i64 om_ om_];omega,show IntKind.i64.wrap (0-w)=(d:Int) by rw [wrap_i64 om_ om_];omega];refine UD 0 (Mem.le.refl _) (hn_ [5,7] Z) ⟨trivial,Z,Z⟩
  have h:¬ w<0:=by simpa using l
  rw [aB h] at i;rw [show z=n by omega,show w=(d:Int) by omega];refine UD 0 (Mem.le.refl _) (hn_ [5,7] Z) ⟨trivial,Z,Z⟩
 obtain ⟨_,rfl,rfl⟩:=f;refine Um 4 [5,7,9,10] Z<|Um 2 [5,7,9,10,30] Z<|G.cut (fun fr C' c e=>(True)/\fr=[(5,[],.int .i64 n),(7,[],.int .i64 d),(9,[],.int .i64 (n.natAbs:Nat)),(10,[],.int .i64 d)]/\c=[]) ?_ (fun fr _ W e _ f=>?_)
 ·refine Up (fun o=>?_) fun o=>?_
  ·have h:n<0:=by simpa using o
   refine Um 3 [5,7,9,10] Z ?_;rw [show IntKind.i64.wrap (0-n)=((n.natAbs:Nat):Int) by rw [wrap_i64 om_ om_];omega];refine UD 0 (Mem.le.refl _) (hn_ [5,7,9,10] Z) ⟨trivial,Z,Z⟩
  have h:¬ n<0:=by simpa using o
  refine UD 0 (Mem.le.refl _) (hn_ [5,7,9,10] Z) ⟨trivial,by rw [show ((n.natAbs:Nat):Int)=n by omega],Z⟩
 obtain ⟨_,rfl,rfl⟩:=f;refine G.loop (fun fr C' c e=>∃ (x y:Int),(x.natAbs<9000000000000000000/\0<=x/\0<=y/\y.natAbs<9000000000000000000/\Nat.gcd x.natAbs y.natAbs=g)/\fr=[(5,[],.int .i64 n),(7,[],.int .i64 d),(9,[],.int .i64 x),(10,[],.int .i64 y)]/\c=[]/\e=y.natAbs+1) (hn_ [5,7,9,10] Z) ⟨(n.natAbs:Int),d,⟨by omega,by omega,by omega,by omega,by rw [Rt,Rt];exact b⟩,Z,Z,Z⟩ (fun fr X Y m I f=>?_);obtain ⟨x,y,⟨aa,J,K,L,u⟩,rfl,rfl,rfl⟩:=f;refine Um 2 [5,7,9,10,34] Z<|Up (fun p=>?_) fun p=>?_
 ·have q:y≠0:=by simpa using p
  have M:(x.tmod y).natAbs=x.natAbs % y.natAbs:=Tr x y;have ab:=Rs x.natAbs (show 0<y.natAbs by omega);have N:=Int.tmod_nonneg y J;refine UK [0,1,2,3,4,5] [] Z kr_ fun R O a=>Us 3 Z<|Vs (x.tmod y) U6 q U3<|C4 2 [5,7,9,10] a Z<|UB (m':=(x.tmod y).natAbs+1) om_ I (hn_ [5,7,9,10] Z) ⟨y,x.tmod y,⟨L,K,N,by omega,by rw [M,<- u,SY x.natAbs,Ue y.natAbs x.natAbs,SY]⟩,Z,Z,Z⟩
 have q:y=0:=by simpa using p
 subst q;rw [show (0:Int).natAbs=0 from rfl,Tq] at u;obtain rfl:x=(g:Int):=by omega
 refine UK [0,1,2,3,4,5,6,7] [] Z kr_ fun R O a=>Us 2 Z<|VC (n / (g:Int)) U6 om_ (pj s) (wrap_i64 om_ om_) U2<|Us 2 Z<|Vu (d) (g) U6 E (.inl ⟨Z,by omega⟩) U2<|C4 2 [5,7] a Z<|Um 2 [5,7,46] Z<|Up (fun j=>?_) fun j=>?_
 ·have h1:d / g=1:=by
   have h2:(((d / g:Nat):Int))=1:=by simpa using j
   omega
  refine Un 1 Z fun R a=>UC (jq _ k.m_ _ om_ om_) U7 fl_<|C4 1 [4] a Z<|Uu U2<|⟨?_,Z⟩;rw [h1,mf rfl];simp [eL]
 have h1:d / g≠1:=by
  intro h2;rw [h2] at j;exact absurd j dc_
 have ac:=mI (n / (g:Int));have ad:=mI ((d / g:Nat):Int);have ae:(bl (n / (g:Int)).natAbs).length<=20:=eI (RD H (SZ D dc_)) dc_;have af:(bl ((d / g:Nat):Int).natAbs).length<=20:=eI (by rw [Rt];exact RD t (SZ (show d<1000000000 by omega) dc_)) dc_;refine Un 1 Z fun R a=>UC (jq _ k.m_ _ om_ om_) U7 fl_<|Vn U6 (fun _=>(by simp only [QY,Rp];omega)) U2<|Uq U6<|UC (jq _ k.m_ ((d / g:Nat):Int) (Uk dc_ (TL _)) (Uk (Int.ofNat_le.2 t) om_)) U7 fl_<|Vn U6 (fun _=>(by simp only [QO,QY,Rp];omega)) U2<|C4 1 [4] a Z<|Uu U2<|⟨?_,Z⟩;rw [fK h1,da,Ra];rfl
theorem H4 (h:z.natAbs<m)(g:Nat)(a:g ∣ z.natAbs):(z / (g:Int)).natAbs<m:=by
 rw [SQ (Tl.1 (SJ.2 a)),Rt];exact RD (RM _ _) h
theorem Ka (C:Mem)(a:Tabs C)(y:Int)(d:Nat)(b:y.natAbs<BP ^ 200)(c:d<BP ^ 200):Gives cx.P 223 [ai (txt y),ai (bl d)] C (ai (bl (Nat.gcd y.natAbs d))):=by
 have h:=DQ C a y (d:Nat) b om_
 rwa [da,Rt] at h
theorem yR (C:Mem)(e:Tabs C)(z w:Int)(j:z.natAbs<BP ^ 200)(n:w.natAbs<BP ^ 200)(o:w≠0):Gives cx.P 147 [ai (txt z),ai (txt w)] C (ai (qtx (kW z w))):=by
 have B:=gM j;have D:=gM n;obtain ⟨y,hy⟩:∃ y,(if w<0 then -z else z)=y:=⟨_,rfl⟩;obtain ⟨d,p⟩:∃ d,w.natAbs=d:=⟨_,rfl⟩;have q:d≠0:=by omega
 have r:y.natAbs=z.natAbs:=by rw [<- hy];split <;> omega
 obtain ⟨g,b⟩:∃ g,Nat.gcd y.natAbs d=g:=⟨_,rfl⟩;have k:0<g:=by rw [<- b];exact Tm _ om_
 have s:g ∣ d:=by rw [<- b];exact TR _ _
 have l:g ∣ y.natAbs:=by rw [<- b];exact TB _ _
 have E:g<=d:=Uh om_ s;refine Uv func147 46 U3 fun w0=>Um 1 [0,1] Z<|Un 7 Z fun R a=>UM U8<|Ut [0,1,13] a Z<|Up (fun m=>?_) fun m=>?_
 ·have h:(txt z).length<=9/\(txt w).length<=9:=by
   have h1:=(QU _ _ ▸ m:_/\_);have h2:((txt z).length:Int)<=9:=QF h1.1;have h3:((txt w).length:Int)<=9:=QF h1.2;omega
  exact Un 2 Z fun R a=>Uz (Ff _ e.m_ z w h.1 h.2 o) U7<|C4 1 [4] a Z<|Uu U2<|⟨Z,Z⟩
 refine Un 1 Z fun R a=>Uz (yp _ w) U7<|C4 1 [0,1,19] a Z<|G.cut (fun fr C' t u=>(True)/\fr=[(0,[],ai (txt y)),(1,[],ai (bl d))]/\t=[]) ?_ (fun fr _ F u _ v=>?_)
 ·refine Up (fun f=>?_) fun f=>?_
  ·have i:w<0:=by
    have h:=QF f;refine Ro fun h2=>?_;rw [aB h2] at h;revert h;split <;> decide
   rw [aJ i] at hy;refine Un 1 Z fun R a=>UC (si _ z om_) U7 fl_<|Uq U6<|UC (si _ w om_) U7 fl_<|C4 2 [0,1] a Z<|UD 0 (Mem.le.refl _) (hn_ [0,1] Z) ⟨trivial,by rw [hy,show -w=((d:Nat):Int) by omega,da],Z⟩
  have i:¬ w<0:=by
   intro h2;have h:=QJ f;rw [aJ h2] at h;exact h dc_
  rw [aB i] at hy;refine UD 0 (Mem.le.refl _) (hn_ [0,1] Z) ⟨trivial,by rw [hy,show w=((d:Nat):Int) by omega,da],Z⟩
 obtain ⟨_,rfl,rfl⟩:=v;unfold kW;rw [hy,p,Bh q,b];have x:=H4 (z:=y) (by rw [r];exact j) g l;have H:=gM x;have A:d / g<BP ^ 200:=RD (RM _ _) om_;have I:=gM A;have J:=mI (y / (g:Int));refine Un 2 Z fun R a=>UC (Ka _ e.m_ y d om_ om_) U7 fl_<|C4 1 [0,1,5] a Z ?_;rw [b];refine Un 2 Z fun R a=>UC (xn _ e.m_ y g om_ om_ k l) U7 fl_<|C4 4 [0,1,5] a Z<|Un 2 Z fun R a=>UC (ma _ e.m_ d g om_ om_ k) U7 fl_<|C4 4 [0,1] a Z<|Um 2 [0,1,40] Z<|Up (fun c=>?_) fun c=>?_
 ·have h1:d / g=1:=by rw [sT] at c;exact QF c
  refine Um 2 [4] Z<|Uu U2<|⟨?_,Z⟩;rw [mf h1];simp [eL]
 have h1:d / g≠1:=by rw [sT] at c;exact QJ c
 refine Un 1 Z fun R a=>Vn U6 (fun _=>(by simp only [QY,Rp];omega)) U2<|Uq U6<|Vn U6 (fun _=>(by simp only [QO,QY,Rp];omega)) U2<|C4 1 [4] a Z<|Uu U2<|⟨?_,Z⟩;rw [fK h1,Ra];rfl
theorem Pc (C:Mem)(a:Tabs C)(z w:Int)(d:z.natAbs<9000000000000000000)(e:w.natAbs<9000000000000000000)(b:w≠0):Gives cx.P 96 [.int .i64 z,.int .i64 w] C (ai (qtx (kW z w))):=by
 have f:9000000000000000000<BP ^ 200:=by decide +kernel
 exact Uv func96 10 U3 fun w0=>Um 1 [0,1] Z<|Un 1 Z fun R c=>UC (lI _ a.m_ z om_ om_) U7 fl_<|Uq U6<|UC (lI _ a.m_ w om_ om_) U7 fl_<|UC (yR _ a.m_ z w om_ om_ b) U7 fl_<|C4 1 [4] c Z<|Uu U2<|⟨Z,Z⟩
theorem Bi (q:Rat):q.num<0 ↔ q<0:=by
 rw [Rat.lt_iff];simp
theorem wm (h:(bl z.natAbs).length<=200):cI (txt z)=true:=by
 refine rV.2 ?_;rw [dE];refine ⟨yC.2 ⟨(bH _).1,h⟩,fun a=>?_⟩;have h1:=QF a;show 0<bW (bl z.natAbs);rw [(bH _).2];omega
theorem Cb (z:Int):iK (txt z)=z:=by
 unfold iK;rw [dE];show sgZ (decide (z<0)) (bW (bl z.natAbs))=z;rw [(bH _).2];unfold sgZ;by_cases h:z<0
 ·rw [Q0 h,aJ rfl];omega
 rw [Q6 h,aB dc_];omega
theorem bP (h:QB 22 q):aW (qtx q)=true:=by
 have h1:(bl q.num.natAbs).length<=200:=by have:=ci h.1 dc_;omega
 have h2:(bl q.den).length<=200:=by have:=ci h.2 dc_;omega
 unfold aW;rw [ol];show (cI (txt q.num) && cI ((nN q.den).getD [49]) && pg (iK (txt q.num)) (nN q.den))=true;rw [Hr,Cb,wm h1,<- da,wm (by rw [Rt];exact h2),TW,TW];by_cases a:q.den=1
 ·rw [mf a];rfl
 rw [fK a];unfold pg;show (decide (1<iK (bl q.den)) && !(q.num == 0) && (Nat.gcd q.num.natAbs (iK (bl q.den)).natAbs == 1))=true;have b:iK (bl q.den)=((q.den:Nat):Int):=by rw [<- da,Cb]
 have d:=ia q;rw [b,Q0 om_,Rt,show Nat.gcd q.num.natAbs q.den=1 from q.reduced];have c:q.num≠0:=by
  intro e;have h3:=q.reduced;rw [e] at h3;have h4:Nat.gcd 0 q.den=1:=h3;rw [Nat.gcd_zero_left] at h4;exact a h4
 simp [c]
theorem xA (h:QB 22 q):qK (aW (qtx q))=0:=by rw [bP h];rfl
abbrev Pt:=Rat × Rat
def gp (p:Pt):List Value:=[ai (qtx p.1),ai (qtx p.2)]
def ptV (p:Pt):Value:=.agg ⟨gp p⟩
def QP (k:Nat)(p:Pt):Prop:=QB k p.1/\QB k p.2
def dG (a b c:Pt):Rat:=(b.1-a.1)*(c.2-a.2)-(b.2-a.2)*(c.1-a.1)
theorem gS (b:Bool):qK b=0/\b=true∨qK b=2/\b=false:=by cases b <;> simp [qK]
def nM (s:Str):List Value:=[ai s]
theorem sf (C:Mem)(h:Tabs C)(v:Value)(l:List Str)(c:Sl C 1 v (l.map nM))(j:∀ s∈l,s.length<=999998):Gives cx.P 151 [v] C (.int .i64 (qK (l.all aW))):=by
 obtain ⟨k,c0,rfl,n,w,_⟩:=id c;have x:maxLen<=9223372036854775807:=by simp [maxLen]
 simp only [ax] at c n ⊢;refine Uv func151 18 U3 fun w0=>Um 1 [0] Z<|Um 3 [6,7,8] Z<|G.loop (fun fr C' o p=>∃ (i:Nat),(i<=l.length/\(l.take i).all aW=true)/\fr=[(6,[],.slice k l.length c0),(7,[],.int .i64 l.length),(8,[],.int .i64 i)]/\o=[]/\p=l.length-i) (hn_ [6,7,8] Z) ⟨0,⟨QK _,by simp⟩,Z,Z,Z⟩ (fun fr y z m q r=>?_);obtain ⟨i,⟨A,d⟩,rfl,rfl,rfl⟩:=r;refine Um 1 [6,7,8,9] Z<|Up (fun e=>?_) fun e=>?_
 ·have f:i<l.length:=by simpa using e
  obtain ⟨s,hs⟩:∃ s,l[i]?=some s:=⟨l[i],aj f⟩;refine Ur fun R a=>UE c.m_ U10 om_ (by rw [QI,hs];rfl:(l.map nM)[i]?=some (nM s)) fl_ fun B t=>Uo t U8<|C4 1 [4,6,7,8] a Z<|Un 1 Z fun R a=>Uz (dW _ h.m_ s (j s (PN hs))) U7<|C4 1 [5,6,7,8] a Z<|Um 2 [5,6,7,8,15] Z<|Up (fun b=>?_) fun b=>?_
  ·have g:aW s=false:=by
    rcases gS (aW s) with ⟨h1,h2⟩ | ⟨h1,h2⟩
    ·rw [h1] at b;exact absurd b dc_
    exact h2
   refine Um 2 [2] Z<|Uu U2<|⟨?_,Z⟩;rw [g,show l.all aW=false from Tv.2 ⟨s,PN hs,by rw [g];decide⟩]
  have u:aW s=true:=by
   rcases gS (aW s) with ⟨h1,h2⟩ | ⟨h1,h2⟩
   ·exact h2
   rw [h1] at b;exact absurd b dc_
  refine Ur fun R a=>Ux _ U7<|C4 1 [6,7,8] a Z<|UB (m':=l.length-(i+1)) om_ q (hn_ [6,7,8] Z) ⟨i+1,⟨by omega,by rw [Q5,hs,T8,d];simp [u]⟩,Z,Z,Z⟩
 have f:i=l.length:=by
  have:¬ i<l.length:=by simpa using e
  omega
 refine Um 1 [2] Z<|Uu U2<|⟨?_,Z⟩;rw [f,QV] at d;rw [d];rfl
theorem OA (a:s.length<=n)(b:t.length<=n):∀ x∈[s,t],x.length<=n:=by simp [a,b]
theorem IH {u:Str}(a:s.length<=n)(b:t.length<=n)(c:u.length<=n):∀ x∈[s,t,u],x.length<=n:=by simp [a,b,c]
theorem iy (C:Mem)(b:Tabs C)(s t:Str)(c:s.length<=999998)(d:t.length<=999998):Gives cx.P 99 [.agg ⟨[ai s,ai t]⟩] C (.int .i64 (qK (aW s && aW t))):=by
 refine Uv func99 9 U3 fun w0=>Ur fun R a=>UG U6 fun f=>C4 1 [1] a Z<|Un 1 Z fun R a=>Uw af U9<|Uq U6<|Uw af U9<|UJ [nM s,nM t] U12 fun g _ _ e=>Uz (sf _ b.m_ _ [s,t] e.m_ (OA c d)) U7<|C4 1 [2] a Z<|Uu U2<|⟨?_,Z⟩;simp
theorem rE (C:Mem)(b:Tabs C)(s t u:Str)(c:s.length<=999998)(d:t.length<=999998)(e:u.length<=999998):Gives cx.P 162 [.agg ⟨[ai s,ai t,ai u]⟩] C (.int .i64 (qK (aW s && aW t && aW u))):=by
 refine Uv func162 11 U3 fun w0=>Ur fun R a=>UG U6 fun g=>C4 1 [1] a Z<|Un 1 Z fun R a=>Uw af U9<|Uq U6<|Uw af U9<|Uq U6<|Uw af U9<|UJ [nM s,nM t,nM u] U12 fun h _ _ f=>Uz (sf _ b.m_ _ [s,t,u] f.m_ (IH c d e)) U7<|C4 1 [2] a Z<|Uu U2<|⟨?_,Z⟩;simp [Bool.and_assoc]
theorem kZ (C:Mem)(e:Tabs C)(a b c:Pt)(k:Nat)(g:0<k)(l:k<=1000)(d:QP k a)(h:QP k b)(i:QP k c):Gives cx.P 152 [ptV a,ptV b,ptV c] C (ai (qtx (dG a b c))):=by
 have h1:=mr h.1 d.1;have h2:=mr i.2 d.2;have h3:=mr h.2 d.2;have h4:=mr i.1 d.1;exact Uv func152 32 U3 fun w0=>Ur fun R f=>UG U6 fun m=>UG U6 fun n=>UG U6 fun o=>C4 1 [3,4,5] f Z<|UK [0,1,2,3,4,5,6,7,8,9,10,11] [(4,1),(9,1),(10,1)] Z kr_ fun R j f=>Uq U6<|Uw ae U9<|Uq U6<|Uw ac U9<|UL (fun _=>(ek _ e.m_ b.1 a.1 k g om_ h.1 d.1)) U9<|Uq U6<|Uw af U9<|Uq U6<|Uw ac U9<|UL (fun _=>(ek _ e.m_ c.2 a.2 k g om_ i.2 d.2)) U9<|UL (fun _=>(dy _ e.m_ (b.1-a.1) (c.2-a.2) (k+k+1) om_ om_ h1 h2)) U9<|C4 1 [3,4,5,7] f Z<|UK [0,1,2,3,4,5,6,7,8,9,10,11,12,13] [(5,1),(10,1),(11,1),(12,1)] Z kr_ fun R j f=>Us 2 Z<|Uw ae U9<|Uq U6<|Uw ac U9<|UL (fun _=>(ek _ e.m_ b.2 a.2 k g om_ h.2 d.2)) U9<|Uq U6<|Uw af U9<|Uq U6<|Uw ac U9<|UL (fun _=>(ek _ e.m_ c.1 a.1 k g om_ i.1 d.1)) U9<|UL (fun _=>(dy _ e.m_ (b.2-a.2) (c.1-a.1) (k+k+1) om_ om_ h3 h4)) U9<|UL (fun _=>(ek _ e.m_ ((b.1-a.1)*(c.2-a.2)) ((b.2-a.2)*(c.1-a.1)) (k+k+1+(k+k+1)) om_ om_ (qV h1 h2) (qV h3 h4))) U9<|C4 1 [6] f Z<|Uu U2<|⟨Z,Z⟩
theorem zI {a b c:Pt}(d:QP k a)(e:QP k b)(f:QP k c):QB (8*k+5) (dG a b c):=by
 have h:=mr (qV (mr e.1 d.1) (mr f.2 d.2)) (qV (mr e.2 d.2) (mr f.1 d.1));exact h.le om_
theorem oI (C:Mem)(h:Tabs C)(a b c:Pt)(k:Nat)(i:0<k)(j:k<=1000)(e:QP k a)(f:QP k b)(g:QP k c):Gives cx.P 100 [ptV a,ptV b,ptV c] C (.int .i64 (eU (dG a b c).num)):=by
 exact Uv func100 12 U3 fun w0=>Ur fun R d=>UG U6 fun l=>UG U6 fun m=>UG U6 fun n=>C4 1 [3,4,5] d Z<|Ur fun R d=>Uw ac U9<|Uw ae U9<|Uw af U9<|Uz (kZ _ h.m_ a b c k i j e f g) U7<|UC (fT _ (dG a b c) (by have:=bG (zI e f g) om_;omega)) U7 fl_<|C4 1 [6] d Z<|Uu U2<|⟨Z,Z⟩
theorem tU (C:Mem)(c:Tabs C)(q:Rat)(b:QB 22 q):Gives cx.P 274 [ai (qtx q)] C (.tuple #[ai (qtx q),.int .i64 0]):=by
 refine Uv func274 8 U3 fun w0=>Um 2 [0] Z<|Un 1 Z fun R d=>UC (dW _ c.m_ _ (by have:=bG b dc_;omega)) U7 fl_<|C4 1 [0,6] d Z<|Up (fun a=>?_) fun a=>?_
 ·exfalso;rw [xA b] at a;exact absurd a dc_
 refine Um 3 [2,3] Z<|UA (G.dropAll (UP U3 ?_));exact ⟨Z,Z⟩
abbrev Tri:=Nat × Nat × Nat
def kH (t:Tri):List Value:=[.int .i64 (t.1:Nat),.int .i64 (t.2.1:Nat),.int .i64 (t.2.2:Nat)]
def NS (a b c:Pt):Value:=.agg ⟨gp a++gp b++gp c⟩
theorem D8 (C:Mem)(k l:Value)(d:List Pt)(g:List Tri)(i:Nat)(t:Tri)(a b c:Pt)(e:Sl C 2 k (d.map gp))(h:Sl C 3 l (g.map kH))(m:g[i]?=some t)(n:d[t.1]?=some a)(o:d[t.2.1]?=some b)(p:d[t.2.2]?=some c) :
  Gives cx.P 156 [.agg ⟨[k,l]⟩,.int .i64 i] C (NS a b c):=by
 obtain ⟨x,y,rfl,q,z,_⟩:=id e;obtain ⟨A2,c2,rfl,r,A,_⟩:=id h;have B:maxLen<=9223372036854775807:=by simp [maxLen]
 simp only [ax] at e h q r ⊢;have D:=(aE.1 m).1;have E:=(aE.1 n).1;have F:=(aE.1 o).1;have G:=(aE.1 p).1;refine Uv func156 30 U3 fun w0=>Ur fun R f=>UG U6 fun H=>UI U5 fun I=>Ut [1,2,4] f Z<|Un 1 Z fun R f=>Uw ae U9<|Uq U6<|UE h.m_ U10 om_ (by rw [QI,m];rfl:(g.map kH)[i]?=some (kH t)) fl_ fun J s=>Uo s U8<|UI U5 fun K=>Uy (j:=0) U12<|Ut [2,4,5] f Z<|UK [0,1,2,3,4,5,6,7,8,9,10,11,12,13,14,15,16,17,18,19] [] Z kr_ fun R L f=>Uq U6<|Uw ac U9<|UN (0) U9 ag U2<|Uw af U9<|UE e.m_ U10 om_ (by rw [QI,n];rfl:(d.map gp)[t.1]?=some (gp a)) fl_ fun M u=>Uo u U8<|Uq U6<|Uw ac U9<|UN (1) U9 ag U2<|Uw af U9<|UE e.m_ U10 om_ (by rw [QI,o];rfl:(d.map gp)[t.2.1]?=some (gp b)) fl_ fun N v=>Uo v U8<|Uq U6<|Uw ac U9<|UN (2) U9 ag U2<|Uw af U9<|UE e.m_ U10 om_ (by rw [QI,p];rfl:(d.map gp)[t.2.2]?=some (gp c)) fl_ fun O w=>Uo w U8<|UH (gp a++gp b++gp c) U8<|Uy (j:=1) U12<|Ut [4] f Z<|UA (Vj af U4 ?_);exact ⟨Z,Z⟩
theorem GR (C:Mem)(d:Tabs C)(a b c p:Pt)(k:Nat)(e:0<k)(f:k<=1000)(j:QP k a)(l:QP k b)(m:QP k c)(g:QP k p) :
  Gives cx.P 225 [NS a b c,ptV p] C (.bool (decide (0<=dG a b p) && decide (0<=dG b c p) && decide (0<=dG c a p))):=by
 refine Uv func225 30 U3 fun w0=>Ur fun R i=>UG U6 fun n=>UG U6 fun o=>C4 1 [2,3] i Z<|Ur fun R i=>UN (0) U9 ag U2<|Uw ae U9<|UN (2) U9 ag U2<|Uw ae U9<|Uw af U9<|Uz (oI _ d.m_ a b p k e f j l g) U7<|Us 2 Z<|UN (2) U9 ag U2<|Uw ae U9<|UN (4) U9 ag U2<|Uw ae U9<|Uw af U9<|UV (fun _=>(oI _ d.m_ b c p k e f l m g)) U9<|Uq U6<|UM U8<|Uq U6<|UN (4) U9 ag U2<|Uw ae U9<|UN (0) U9 ag U2<|Uw ae U9<|Uw af U9<|UV (fun _=>(oI _ d.m_ c a p k e f m j g)) U9<|Uq U6<|UM U8<|C4 1 [4] i Z<|Uu U2<|⟨?_,Z⟩;have hs:∀ q:Rat,decide (eU q.num ≥ 0)=decide (0<=q):=fun q=>by
  rw [Rv,<- Rat.num_nonneg];rcases ep q.num with h | h | h <;> omega
 rw [<- hs,<- hs,<- hs]
open Go Go.Jog Go.RowKit Go.Shelf
attribute [local go_sem] Oper.semAt_some
def My (zs:Nat->Int)(k:Nat):Value:=.agg #[.int .i64 (zs k),.int .i64 (zs ((k+1) % 3))]
set_option maxRecDepth 100000 in
theorem I0 (l Bs:Nat)(zs:Nat->Int)(J:Nat->World->Prop)
  (hD:∀ k W,J k W->J k W.drew)
  (hJ:∀ k W,J k W->∀ j,j<3->W.cell? ⟨Bs,j,none⟩=some (.int .i64 (zs j)))
  (hY:∀ k W,J k W->k<3->YieldAt Fence.wide 1 Tryz.prog l #[.int .i64 (k:Nat),My zs k] W fun e W'=>e=.returned (.bool true)/\J (k+1) W')
  (W:World) (h0:J 0 W) :
  CallsIn Fence.wide 2 Tryz.prog 265 #[.func (.yield l) #[] #[],.pointer (some ⟨Bs,0,none⟩)] W fun e W'=>(∃ v,e=.returned v)/\J 3 W':=by
 refine callsIn_of_wp func265 Z trivial ?_ Z;simp only [Tryz.ntmps265,Sk,QY,Rp,Nat.reduceAdd,Nat.reduceSub,T9,Ua,List.push_toArray,List.append_toArray,SB,Sd]
 gi_wp2
 gi_loopw [4] (fun i wr=>∃ k:Nat,k<=3/\i=.int .i64 k/\J k wr) (fun i _=>(3-intOf i).toNat)
 case atStart=>exact ⟨0,by omega,rfl,h0⟩
 case round =>
  obtain ⟨k,hk,rfl,hJs⟩:=hrel;by_cases hlt:k<3
  ·have hJd:=hD k wr hJs;have hcd:=hJ k _ hJd;obtain ⟨fn,tmps,assign,body,hy,hR⟩:=hY k _ hJd hlt;rcases (by omega:k=0∨k=1∨k=2) with rfl | rfl | rfl
   ·have hc0:=hcd 0 om_;have hc1:=hcd 1 om_;have hy2:Sem.run Tryz.prog (Instr.yield l #[Value.int .i64 0,Value.agg #[.int .i64 (zs 0),.int .i64 (zs 1)]]) wr.drew=.ok (.round l fn tmps assign body) wr.drew:=hy;clear hy
    gi_wp2
    gi_region_with (refine hR.mono ?_;rintro e W3 ⟨rfl,hJ3⟩)
    all_goals
     gi_wp2
     go_roundw
     case rel=>exact ⟨1,by omega,rfl,hJ3⟩
     case measure=>simp [intOf]
   ·have hc0:=hcd 1 om_;have hc1:=hcd 2 om_;have hy2:Sem.run Tryz.prog (Instr.yield l #[Value.int .i64 1,Value.agg #[.int .i64 (zs 1),.int .i64 (zs 2)]]) wr.drew=.ok (.round l fn tmps assign body) wr.drew:=hy;clear hy
    gi_wp2
    gi_region_with (refine hR.mono ?_;rintro e W3 ⟨rfl,hJ3⟩)
    all_goals
     gi_wp2
     go_roundw
     case rel=>exact ⟨2,by omega,rfl,hJ3⟩
     case measure=>simp [intOf]
   have hc0:=hcd 2 om_;have hc1:=hcd 0 om_;have hy2:Sem.run Tryz.prog (Instr.yield l #[Value.int .i64 2,Value.agg #[.int .i64 (zs 2),.int .i64 (zs 0)]]) wr.drew=.ok (.round l fn tmps assign body) wr.drew:=hy;clear hy
   gi_wp2
   gi_region_with (refine hR.mono ?_;rintro e W3 ⟨rfl,hJ3⟩)
   all_goals
    gi_wp2
    go_roundw
    case rel=>exact ⟨3,by omega,rfl,hJ3⟩
    case measure=>simp [intOf]
  obtain rfl:k=3:=by omega
  gi_wp2
  go_end0
  exact ⟨⟨_,Z⟩,hJs⟩
def EZ (t:Tri)(j:Nat):Int:=if j=0 then (t.1:Nat) else if j=1 then (t.2.1:Nat) else (t.2.2:Nat)
def vX (t:Tri):List (Value × Value):=(List.range 3).map fun k=>(.int .i64 (k:Nat),My (EZ t) k)
theorem mK (t:Tri):(vX t).length=3:=rfl
theorem vW {t:Tri}(h:k<3):(vX t)[k]?=some (.int .i64 (k:Nat),My (EZ t) k):=by
 simp [vX,h]
theorem Dc (C:Mem)(b c:Nat)(t:Tri)(d:C b=some (.cells ⟨kH t⟩ c (0,0))) :
  PY Tryz.prog 265 #[.pointer (some ⟨b,0,none⟩)] C (vX t):=by
 intro l J W hC e f h0;refine I0 l b (EZ t) J e (fun k W a j h=>?_) (fun k W a g=>f k _ W a (vW g)) W h0;have h1:=hC k W a b _ d;rcases (by omega:j=0∨j=1∨j=2) with rfl | rfl | rfl <;> simp [World.cell?,h1,kH,EZ]
theorem I1 (C:Mem)(t:Tri):Pur cx.P 227 [.agg ⟨kH t⟩] C fun r C'=>∃ b,r=.func (.func 265) #[] #[.pointer (some ⟨b,0,none⟩)]/\C' b=some (.cells ⟨kH t⟩ 108 (0,0)):=by
 exact Uv func227 4 U3 fun w0=>Ur fun R a=>UG U6 fun d=>C4 1 [1] a Z<|Um 2 [2] Z<|G.freeze 0 Z fun e f c=>Uu U2<|⟨Z,_,Z,c⟩
def oV (t:Tri)(k:Nat):Int × Int:=(EZ t k,EZ t ((k+1) % 3))
abbrev Oi:=List ((Int × Int) × Value)
def ED (m:Oi)(i:Nat)(t:Tri):Nat->Oi
 | 0=>m
 | k+1=>fQ (ED m i t k) (oV t k) (.int .i64 (i:Nat))
def yg (tris:List Tri):Nat->Oi
 | 0=>[]
 | n+1=>ED (yg tris n) n (tris.getD n (0,0,0)) 3
noncomputable def kI2:KeyP cx.P 183 (Int × Int):=Qo rfl rfl rfl kr_
theorem F6 (C:Mem)(q I:Value)(a:List Tri)(N:a≠[])(x:Sl C 3 I (a.map kH))(O:∀ i t k,a[i]?=some t->k<3->dm (ED (yg a i) i t k) (oV t k)=none) :
  Pur cx.P 153 [.agg ⟨[q,I]⟩] C fun u D=>∃ b,u=.tuple #[.map (some b),.bool true]/\D b=some (aO qt (yg a a.length)):=by
 obtain ⟨A2,c2,rfl,Q,ab,_⟩:=id x;have ad:maxLen<=9223372036854775807:=by simp [maxLen]
 simp only [ax] at x Q ⊢;refine VM kr_ func153 Z 36 Z Z fun w0=>Ur fun R c=>UG U6 fun r=>UI U5 fun h=>UI U5 fun n=>Ut [1,2,3] c Z<|Ur fun R c=>Wm kI2 Z Z Z Z fl_ fun f=>UI U5 fun o=>Uy (j:=0) U12<|Ut [1,2,3,4] c Z<|Un 1 Z fun R c=>Uw (.tail _ aa) U9<|C4 2 [2,3,4,13,14,15] c Z<|G.perm (L':=[.obj o (.cells ⟨[.map (some f)]⟩ 242 (0,0)),.obj f (aO qt []),.obj n (.cells ⟨[.bool false]⟩ 4 (0,0)),.obj h (.cells ⟨[.map none]⟩ 242 (0,0)),.obj r (.cells ⟨[q,.slice A2 a.length c2]⟩ 36 (0,0))]) (QL _)<|Xj (fun dd fr C' d S=>∃ (i:Nat)(g:List Nat),(i<=a.length/\g.length=i)/\dd=g.map zt/\fr=[(2,[],.pointer (some ⟨h,0,none⟩)),(3,[],.pointer (some ⟨n,0,none⟩)),(4,[],.pointer (some ⟨o,0,none⟩)),(13,[],.slice A2 a.length c2),(14,[],.int .i64 a.length),(15,[],.int .i64 i)]/\d=[.obj o (.cells ⟨[.map (some f)]⟩ 242 (0,0)),.obj f (aO qt (yg a i)),.obj n (.cells ⟨[.bool false]⟩ 4 (0,0)),.obj h (.cells ⟨[.map none]⟩ 242 (0,0)),.obj r (.cells ⟨[q,.slice A2 a.length c2]⟩ 36 (0,0))]++g.map rD/\S=a.length-i) (hn_ [2,3,4,13,14,15] Z) ⟨0,[],⟨QK _,Z⟩,Z,Z,Z,Z⟩ (fun dd fr ag ah m _ p=>?_);obtain ⟨i,g,⟨hi,y⟩,rfl,rfl,rfl,rfl⟩:=p;refine Um 1 [2,3,4,13,14,15,16] Z<|Up (fun A=>?_) fun A=>?_
 ·have B:i<a.length:=by simpa using A
  obtain ⟨t,E⟩:∃ t,a[i]?=some t:=⟨a[i],aj B⟩;refine Un 1 Z fun R c=>UE x.m_ U10 om_ (by rw [QI,E];rfl:(a.map kH)[i]?=some (kH t)) fl_ fun ai T=>Uo T U8<|UI U5 fun F=>UI U5 fun J=>Uy (j:=1) U12<|Uy (j:=1) U12<|Ut [2,3,4,5,6,13,14,15] c Z<|Ur fun R c=>Uw af U9<|UW (I1 _ t) U7 fun ak _ _ U=>Ut [2,3,4,5,13,14,15,21] c Z ?_;obtain ⟨V,rfl,W⟩:=U;refine Xq Z Z kr_ (Dc _ V _ t W) (fun j d=>∃ (z:Unit),(j<=3)/\d=[.obj J (.cells ⟨kH t⟩ 108 (0,0)),.obj F (.cells ⟨[.int .i64 i]⟩ 3 (0,0)),.obj o (.cells ⟨[.map (some f)]⟩ 242 (0,0)),.obj f (aO qt (ED (yg a i) i t j)),.obj n (.cells ⟨[.bool false]⟩ 4 (0,0)),.obj h (.cells ⟨[.map none]⟩ 242 (0,0)),.obj r (.cells ⟨[q,.slice A2 a.length c2]⟩ 36 (0,0))]++g.map rD) ⟨(),QK _,Z⟩ Z (fun _ _=>rfl) (fun j d fr LA=>∃ (s:Nat),fr=[(2,[],.pointer (some ⟨h,0,none⟩)),(3,[],.pointer (some ⟨n,0,none⟩)),(4,[],.pointer (some ⟨o,0,none⟩)),(5,[],.pointer (some ⟨F,0,none⟩)),(8,[],.pointer (some ⟨s,0,none⟩))]/\LA=.obj s (.cells ⟨[.int .i64 (oV t j).1,.int .i64 (oV t j).2]⟩ 183 (0,0))::d) (fun l j u v d W1 p w=>?_) (fun l j u v d am LA W1 p w X=>?_) (fun K d p=>?_)
  ·obtain ⟨z,L,rfl⟩:=p;have H:j<3:=by have:=(aE.1 w).1;rwa [mK] at this
   rw [vW H] at w;cases w
   exact Ur fun R c=>UI U5 fun s=>Uy (j:=0) U12<|Ut [2,3,4,5,8] c Z<|Xr (hn_ [2,3,4,5,8] Z) ⟨s,Z,Z⟩
  ·obtain ⟨z,L,rfl⟩:=p;obtain ⟨s,rfl,rfl⟩:=X;have H:j<3:=by have:=(aE.1 w).1;rwa [mK] at this
   refine Ur fun R c=>Uw aa U9<|Uw af U9<|We kI2 (.tail _ aa) Z Z Z Z Z Z Z Z Z (congrArg (kR _ true) (O i t j E H)) Z Z<|C4 5 [2,3,4,5,8,10] c Z<|Um 1 [2,3,4,5,8,30] Z<|Up (fun M=>?_) fun M=>?_
   ·exact absurd M dc_
   refine Ur fun R c=>Uw aa U9<|Uw af U9<|Uw ac U9<|Wd kI2 (j:=4) Z Z Z Z Z Z Z Z Z Z<|Vv [] trivial (c _ _ _ Z ?_);exact Vf 1 Z<|V4 (R:=fun d=>∃ (z:Unit),((j+1)<=3)/\d=[.obj J (.cells ⟨kH t⟩ 108 (0,0)),.obj F (.cells ⟨[.int .i64 i]⟩ 3 (0,0)),.obj o (.cells ⟨[.map (some f)]⟩ 242 (0,0)),.obj f (aO qt (ED (yg a i) i t (j+1))),.obj n (.cells ⟨[.bool false]⟩ 4 (0,0)),.obj h (.cells ⟨[.map none]⟩ 242 (0,0)),.obj r (.cells ⟨[q,.slice A2 a.length c2]⟩ 36 (0,0))]++g.map rD) (List.perm_middle (l₁:=[_,_,_])).symm ⟨(),om_,Z⟩
  obtain ⟨z,L,rfl⟩:=p;refine Ur fun R c=>Ux _ U7<|C4 1 [2,3,4,13,14,15] c Z<|Vf 1 Z<|Vf 1 Z<|G.perm (L':=[.obj o (.cells ⟨[.map (some f)]⟩ 242 (0,0)),.obj f (aO qt (yg a (i+1))),.obj n (.cells ⟨[.bool false]⟩ 4 (0,0)),.obj h (.cells ⟨[.map none]⟩ 242 (0,0)),.obj r (.cells ⟨[q,.slice A2 a.length c2]⟩ 36 (0,0))]++(K::g).map rD) (by
   rw [show yg a (i+1)=ED (yg a i) i t (vX t).length by rw [mK,yg,al,E];rfl];exact (List.perm_middle (l₁:=[_,_,_,_,_])).symm) ?_
  refine Xi (m':=a.length-(i+1)) om_ mup (hn_ [2,3,4,13,14,15] Z) ⟨i+1,K::g,⟨by omega,by simp [y]⟩,Z,Z,Z,Z⟩
 have B:i=a.length:=by
  have:¬ i<a.length:=by simpa using A
  omega
 refine Ur fun R c=>Uw af U9<|Uy (j:=3) U12<|Uy (j:=3) U12<|Ut [2,3] c Z<|G.freeze 3 Z fun Cf an Y=>G.perm (L':=g.map rD++[_,_,_,_]) (Rj (l₁:=[_,_,_,_]))<|UA (Xm (OU ae af Z Z Z Z Z Z Z) ?_ ?_)
 ·exact ⟨Z,f,Z,by rw [<- B];exact Y⟩
 intro e;rw [e] at y;have:=Ru.2 N;simp at y;omega
def Lh (kd a b:Int)(h:Bool):Value:=.agg ⟨[.int .u8 kd,.int .i8 a,.int .i8 b,.bool h]⟩
def dT (h:Bool):Int:=if h then 2 else 1
def dC (a b:Int)(h:Bool)(x y by':Int):Pt:=(kW (x+a.tmod 8*by') (dT h*by'),kW (y+b.tmod 8*by') (dT h*by'))
theorem yh (a:Int):-8<a.tmod 8/\a.tmod 8<8:=by
 have h:(a.tmod 8).natAbs=a.natAbs % 8:=Tr a 8;omega
theorem Bq (C:Mem)(g:Tabs C)(i a b:Int)(h:Bool)(x y n:Int)(v:0<n)(w:n<=4)(A:-128<=x/\x<=127)(B:-128<=y/\y<=127) :
  Gives cx.P 95 [Lh i a b h,.agg ⟨[.int .i8 x,.int .i8 y]⟩,.int .i64 n] C (ptV (dC a b h x y n)):=by
 have k:=yh a;have l:=yh b;have m:∀ z:Int, -8<z->z<8->-32<z*n/\z*n<32:=fun z h1 h2=>by
  rcases (by omega:n=1∨n=2∨n=3∨n=4) with e | e | e | e <;> subst e <;> omega
 have D:=m _ k.1 k.2;have E:=m _ l.1 l.2;have r:dT h=1∨dT h=2:=by cases h <;> simp [dT]
 have F:0<dT h*n/\dT h*n<=8:=by rcases r with e | e <;> rw [e] <;> omega
 refine Uv func95 53 U3 fun w0=>Ur fun R d=>UG U6 fun o=>UG U6 fun p=>UI U5 fun q=>Ut [2,3,4,6] d Z<|Um 1 [2,3,4,6,7] Z<|Un 1 Z fun R d=>Uw ac U9<|Ut [2,3,4,6,7,13] d Z<|G.cut (fun fr C' s t=>(True)/\fr=[(2,[],.int .i64 n),(3,[],.pointer (some ⟨o,0,none⟩)),(4,[],.pointer (some ⟨p,0,none⟩)),(6,[],.pointer (some ⟨q,0,none⟩)),(7,[],.int .i64 (dT h))]/\s=[.obj q (.cells ⟨[ai [],ai []]⟩ 58 (0,0)),.obj p (.cells ⟨[.int .i8 x,.int .i8 y]⟩ 23 (0,0)),.obj o (.cells ⟨[.int .u8 i,.int .i8 a,.int .i8 b,.bool h]⟩ 25 (0,0))]) ?_ (fun fr _ H t _ u=>?_)
 ·refine Up (fun f=>?_) fun f=>?_
  ·have h1:h=true:=f;subst h1;refine Um 1 [2,3,4,6,7] Z<|UD 0 (Mem.le.refl _) (hn_ [2,3,4,6,7] Z) ⟨trivial,Z,Z⟩
  have h1:h=false:=by simpa using f
  subst h1;refine UD 0 (Mem.le.refl _) (hn_ [2,3,4,6,7] Z) ⟨trivial,Z,Z⟩
 obtain ⟨_,rfl,rfl⟩:=u;refine Ur fun R d=>UN (0) U9 ag U2<|Uw ae U9<|Vc (c:=x) U8 (wrap_i64 om_ om_) fl_<|Uq U6<|UN (1) U9 ag U2<|Uw ac U9<|Vs (a.tmod 8) U6 dc_ U3<|Vc (c:=a.tmod 8) U8 (wrap_i64 om_ om_) fl_<|Uq U6<|Ux _ U7<|Ux _ U7<|Us 2 Z<|Ux _ U7<|UC (FC _ g.m_ (x+a.tmod 8*n) (dT h*n) om_ om_ om_) U7 fl_<|C4 5 [2,3,4,6,7,8] d Z<|Ur fun R d=>UN (1) U9 ag U2<|Uw ae U9<|Vc (c:=y) U8 (wrap_i64 om_ om_) fl_<|Uq U6<|UN (2) U9 ag U2<|Uw ac U9<|Vs (b.tmod 8) U6 dc_ U3<|Vc (c:=b.tmod 8) U8 (wrap_i64 om_ om_) fl_<|Uq U6<|Ux _ U7<|Ux _ U7<|Us 2 Z<|Ux _ U7<|UC (FC _ g.m_ (y+b.tmod 8*n) (dT h*n) om_ om_ om_) U7 fl_<|C4 5 [6,8,10] d Z<|Un 2 Z fun R d=>UH (gp (dC a b h x y n)) U8<|Uy (j:=0) U12<|Ut [6] d Z<|UA (Vj af U4 ?_);exact ⟨Z,Z⟩
def gx (s p:Nat):Value:=.agg ⟨[.int .i64 (s:Nat),.int .i64 (p:Nat)]⟩
theorem lC (C:Mem)(s p:Nat)(h:s*p<=1000000000):Gives cx.P 65 [gx s p] C (.int .i64 ((s*p:Nat):Int)):=by
 exact Uv func65 8 U3 fun w0=>Ur fun R a=>UG U6 fun b=>C4 1 [1] a Z<|Un 1 Z fun R a=>Uw af U9<|Uq U6<|Uw af U9<|Ux _ U7<|C4 1 [2] a Z<|Uu U2<|⟨Z,Z⟩
theorem OP (C:Mem)(s p:Nat)(i k:Int)(h:-1000000000000<=i*p/\i*p<=1000000000000)(b:-1000000000<=k/\k<=1000000000):Gives cx.P 190 [gx s p,.int .i64 i,.int .i64 k] C (.int .i64 (i*p+k)):=by
 exact Uv func190 13 U3 fun w0=>Ur fun R a=>UG U6 fun c=>C4 1 [1,2,3] a Z<|Un 2 Z fun R a=>Uw af U9<|Ux _ U7<|Uq U6<|Ux _ U7<|C4 1 [6] a Z<|Uu U2<|⟨Z,Z⟩
end Go.Proofs.YthnpijdjlddpmaaGreatDoor
