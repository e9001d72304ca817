/- Laws that the proofs of this seat share, part 7. -/
import Derived.Test.YthnpijdjlddpmaaGreatDoorG6
import Derived.Test.YthnpijdjlddpmaaGreatDoorShelf
import Derived.RangeFuncBox
import Derived.RangeFuncLeaves
import Derived.Shelf.Abstract
import Derived.WalkKit
import Derived.OwnWalkIn
import Derived.TacticsInMore
import Derived.LoopNIn
import Derived.LoopIn
import Derived.Stop.RegionWithIn
import Derived.Test.YthnpijdjlddpmaaGreatDoorProg
set_option maxHeartbeats 4000000
namespace Go.Proofs.YthnpijdjlddpmaaGreatDoor
open Go.Proofs.Tryz
open Go Go.Jog
set_option maxRecDepth 100000
variable {a b:Rat}{d g k m n:Nat}{q:Rat}{s t:Str}{w z:Int}
theorem ce (h:n<B9 ^ k)(a:0<k):(bq n).length<=9*k:=eH (by rw [LN];exact h) om_
theorem zw (h:(txt z).length<=m):z.natAbs<10 ^ m:=by
 have h1:(bq z.natAbs).length<=m:=by
  unfold txt at h;split at h
  ·simp at h;omega
  exact h
 obtain ⟨h2,h3⟩:=bC z.natAbs;have h4:=dW h2.1;rw [h3] at h4;exact Sc h4 (Rn dc_ h1)
theorem e18:(10:Nat) ^ 18=1000000000000000000:=by decide
theorem e9:(10:Nat) ^ 9=1000000000:=by decide
theorem ye {a b:Nat}(c:a<B9 ^ k)(d:b<B9 ^ k):a+b<B9 ^ (k+1):=by
 rw [R8];have:B9 ^ k*2<=B9 ^ k*B9:=Sk _ dc_;omega
theorem NK (C:Mem)(l:Tabs C)(z w:Int)(k:Nat)(u:0<k)(Y:k<=40000)(f:z.natAbs<B9 ^ k)(g:w.natAbs<B9 ^ k):Gives cx.P 145 [ai (txt z),ai (txt w)] C (ai (txt (z+w))):=by
 have aa:=ce f u;have ab:=ce g u;refine UD func145 62 U3 fun w0=>Uu 1 [0,1] Z<|Uv 1 Z fun R a=>UI (jF _ z 18 (QO _)) U7<|C4 5 [0,1,5,6] a Z<|Uu 1 [0,1,5,16] Z<|G.cut (fun fr C' m o=>(True)/\fr=[(0,[],ai (txt z)),(1,[],ai (txt w))]/\m=[]) ?_ (fun fr _ ac o _ p=>?_)
 ·refine Ux (fun v=>?_) fun v=>?_
  ·have x:=aJ v;rw [aW x];have K:=zw x;rw [e18] at K;refine Uv 1 Z fun R a=>UI (jF _ w 18 (QO _)) U7<|C4 5 [0,1,5,7,8] a Z<|Uu 1 [0,1,5,7,22] Z<|Ux (fun y=>?_) fun y=>?_
   ·have A:=aJ y;rw [aW A];have L:=zw A;rw [e18] at L;exact Uv 2 Z fun R a=>UF _ U7<|UM (so _ l.m_ (z+w) om_ om_) U7 fl_<|C4 1 [4] a Z<|UC U2<|⟨Z,Z⟩
   refine UL 0 (Mem.le.refl _) (hn_ [0,1] Z) ⟨trivial,Z,Z⟩
  refine UL 0 (Mem.le.refl _) (hn_ [0,1] Z) ⟨trivial,Z,Z⟩
 obtain ⟨_,rfl,rfl⟩:=p;refine Uv 1 Z fun R a=>U0 (jb _ z om_) U7 fl_ fun ad _ _ M=>Uy U6<|U0 (jb _ w om_) U7 fl_ fun ag _ _ N=>UP U5 fun B=>UP U5 (fun D=>?_);obtain ⟨pz,rfl,d⟩:=M;obtain ⟨pw,rfl,e⟩:=N;obtain ⟨Az,mz,cz,rfl⟩:=d.form;obtain ⟨Aw,mw,cw,rfl⟩:=e.form;refine UG (j:=1) U12<|UG (j:=1) U12<|UA [9,10] a Z<|Uv 1 Z fun R a=>UE ae U9<|Uy U6<|UE af U9<|C4 1 [9,10,35] a Z<|Ux (fun q=>?_) fun q=>?_
 ·have i:decide (z<0)=decide (w<0):=by simpa using q
  refine US [0,1,2,3,4,5,6,7,8,9] [(8,1)] Z kr_ fun R O a=>Uy U6<|UE ae U9<|Uy U6<|UE ae U9<|Uy U6<|UE af U9<|U0 (LQ (k:=k) _ d.m_ e.m_ f g om_) U7 fl_ (fun ah _ _ E=>?_);obtain ⟨Q,S,T,rfl⟩:=E.form;exact UO [.bool (decide (z<0)),_] U8<|UT (fun _=>(jU _ l.m_ _ _ _ E (dB (k:=100000) (n:=k+1) (ye f g) om_))) U9<|C4 1 [4] a Z<|UC U2<|⟨by rw [MK i],Z⟩
 have i:decide (z<0)≠decide (w<0):=by simpa using q
 refine Uv 1 Z fun R a=>UE ae U9<|Uy U6<|UE af U9<|UI (pG _ d.m_ e.m_) U7<|C4 1 [9,10,50] a Z<|G.cut (fun fr C' m o=>∃ (b c:Int)(r s:Value),(NineC C' r b.natAbs/\NineC C' s c.natAbs/\c.natAbs<=b.natAbs/\b+c=z+w/\decide (b<0)≠decide (c<0)/\b.natAbs<B9 ^ k)/\fr=[(9,[],.pointer (some ⟨B,0,none⟩)),(10,[],.pointer (some ⟨D,0,none⟩))]/\m=[.obj D (.cells ⟨[.bool (decide (c<0)),s]⟩ 307 (0,0)),.obj B (.cells ⟨[.bool (decide (b<0)),r]⟩ 307 (0,0))]) ?_ (fun fr _ aj o _ p=>?_)
 ·refine Ux (fun t=>?_) fun t=>?_
  ·have F:z.natAbs<w.natAbs:=by
    have:jG z.natAbs w.natAbs<0:=by simpa using t
    exact ja.1 this
   refine Uz fun R a=>UE af U9<|UE ae U9<|UG (j:=1) U12<|UG (j:=1) U12<|UA [9,10] a Z<|UL 0 mup (hn_ [9,10] Z) ⟨w,z,_,_,⟨e.mono mup,d.mono mup,by omega,Int.add_comm w z,Ne.symm i,g⟩,Z,Z⟩
  have F:w.natAbs<=z.natAbs:=by
   have h:¬ jG z.natAbs w.natAbs<0:=by simpa using t
   rw [ja] at h;omega
  refine UL 0 mup (hn_ [9,10] Z) ⟨z,w,_,_,⟨d.mono mup,e.mono mup,F,Z,i,f⟩,Z,Z⟩
 obtain ⟨b ,c ,r ,s,⟨H,I,U,V,W,X⟩,rfl,rfl⟩:=p;obtain ⟨ak,al,am,rfl⟩:=H.form;obtain ⟨an,ao,ap,rfl⟩:=I.form;refine US [0,1,2,3,4,5,6,7,8,9] [(8,1)] Z kr_ fun R O a=>Uy U6<|UE ae U9<|Uy U6<|UE ae U9<|Uy U6<|UE af U9<|U0 (ur (k:=k) _ H.m_ I.m_ X U om_) U7 fl_ (fun aq _ _ J=>?_);obtain ⟨Q,S,T,rfl⟩:=J.form;exact UO [.bool (decide (b<0)),_] U8<|UT (fun _=>(jU _ l.m_ _ _ _ J (dB (k:=100000) (n:=k) om_ om_))) U9<|C4 1 [4] a Z<|UC U2<|⟨by rw [ML W om_,V],Z⟩
theorem MM (z w:Int):sgZ (decide (z<0) != decide (w<0)) (z.natAbs*w.natAbs)=z*w:=by
 unfold sgZ;have h1:z=if z<0 then -(z.natAbs:Int) else (z.natAbs:Int):=by split <;> omega
 have h2:w=if w<0 then -(w.natAbs:Int) else (w.natAbs:Int):=by split <;> omega
 by_cases a:z<0 <;> by_cases b:w<0
 ·rw [Ra a,Ra b,az dc_];rw [aW a] at h1;rw [aW b] at h2;rw [RN]
  conv=>rhs;rw [h1,h2]
  rw [Int.neg_mul_neg]
 ·rw [Ra a,Rj b,aW dc_];rw [aW a] at h1;rw [az b] at h2;rw [RN]
  conv=>rhs;rw [h1,h2]
  rw [Int.neg_mul]
 ·rw [Rj a,Ra b,aW dc_];rw [az a] at h1;rw [aW b] at h2;rw [RN]
  conv=>rhs;rw [h1,h2]
  rw [Int.mul_neg]
 rw [Rj a,Rj b,az dc_];rw [az a] at h1;rw [az b] at h2;rw [RN]
 conv=>rhs;rw [h1,h2]
theorem nU {a b:Nat}(c:a<B9 ^ k)(d:b<B9 ^ k):a*b<B9 ^ (k+k):=by
 rw [TR];exact SS c d
theorem FX (a:z.natAbs<1000000000)(b:w.natAbs<1000000000):-1000000000000000000<z*w/\z*w<1000000000000000000:=by
 have h:z.natAbs*w.natAbs<=999999999*999999999:=SA om_ om_;rw [<- SB] at h;omega
theorem kO (C:Mem)(d:Tabs C)(z w:Int)(k:Nat)(e:0<k)(x:k<=40000)(b:z.natAbs<B9 ^ k)(c:w.natAbs<B9 ^ k):Gives cx.P 146 [ai (txt z),ai (txt w)] C (ai (txt (z*w))):=by
 have y:=ce b e;have A:=ce c e;refine UD func146 43 U3 fun w0=>Uu 1 [0,1] Z<|Uv 1 Z fun R a=>UM (jF _ z 9 om_) U7 fl_<|C4 5 [0,1,5,6] a Z<|Uu 1 [0,1,5,16] Z<|G.cut (fun fr C' r s=>(True)/\fr=[(0,[],ai (txt z)),(1,[],ai (txt w))]/\r=[]) ?_ (fun fr _ B s _ t=>?_)
 ·refine Ux (fun f=>?_) fun f=>?_
  ·have g:=aJ f;rw [aW g];have h:=zw g;rw [e9] at h;refine Uv 1 Z fun R a=>UM (jF _ w 9 om_) U7 fl_<|C4 5 [0,1,5,7,8] a Z<|Uu 1 [0,1,5,7,22] Z<|Ux (fun i=>?_) fun i=>?_
   ·have l:=aJ i;rw [aW l];have m:=zw l;rw [e9] at m;have D:=FX h m;exact Uv 2 Z fun R a=>Vf ((z*w)) U4 om_ om_ om_ U2<|UM (so _ d.m_ (z*w) om_ om_) U7 fl_<|C4 1 [4] a Z<|UC U2<|⟨Z,Z⟩
   refine UL 0 (Mem.le.refl _) (hn_ [0,1] Z) ⟨trivial,Z,Z⟩
  refine UL 0 (Mem.le.refl _) (hn_ [0,1] Z) ⟨trivial,Z,Z⟩
 obtain ⟨_,rfl,rfl⟩:=t;refine Uv 1 Z fun R a=>U0 (jb _ z om_) U7 fl_ fun E _ _ u=>Uy U6<|U0 (jb _ w om_) U7 fl_ fun F _ _ v=>UP U5 fun H=>UP U5 (fun I=>?_);obtain ⟨J,rfl,o⟩:=u;obtain ⟨K,rfl,p⟩:=v;obtain ⟨L,M,N,rfl⟩:=o.form;obtain ⟨O,Q,S,rfl⟩:=p.form;refine UG (j:=1) U12<|UG (j:=1) U12<|UA [9,10] a Z<|US [0,1,2,3,4,5,6,7,8,9,10,11,12] [(11,1)] Z kr_ fun R T a=>Uy U6<|UE ae U9<|Uy U6<|UE af U9<|UB 2 Z<|UE ae U9<|Uy U6<|UE af U9<|U0 (E1 (k:=k) _ o.m_ p.m_ b c om_) U7 fl_ (fun U _ _ q=>?_);obtain ⟨V,W,X,rfl⟩:=q.form;exact UO [.bool (decide (z<0) != decide (w<0)),_] U8<|UT (fun _=>(jU _ d.m_ _ _ _ q (dB (k:=100000) (n:=k+k) (nU b c) om_))) U9<|C4 1 [4] a Z<|UC U2<|⟨by rw [MM],Z⟩
def Hv (z w:Int):Nat:=if z<0/\z.natAbs % w.natAbs≠0 then z.natAbs / w.natAbs+1 else z.natAbs / w.natAbs
def BY (z w:Int):Nat:=if z<0/\z.natAbs % w.natAbs≠0 then w.natAbs-z.natAbs % w.natAbs else z.natAbs % w.natAbs
theorem Hu (i:0<w):sgZ (decide (z<0) != decide (w<0)) (Hv z w)=z / w/\(BY z w:Int)=z % w:=by
 obtain ⟨n,rfl⟩:∃ n:Nat,w=n:=⟨w.natAbs,by omega⟩;have f:0<n:=by omega
 rw [Rj (by omega:¬ ((n:Nat):Int)<0),Bool.bne_false];have h1:=TU z.natAbs n;have h2:=Ry z.natAbs f;obtain ⟨q,d⟩:∃ q,z.natAbs / n=q:=⟨_,rfl⟩;obtain ⟨r,hr⟩:∃ r,z.natAbs % n=r:=⟨_,rfl⟩;have g:sgZ (decide (z<0)) (Hv z n)=z / n/\(BY z n:Int)=z % n:=by
  have h3:=(Int.ediv_emod_unique (a:=z) (r:=(BY z n:Int)) (q:=sgZ (decide (z<0)) (Hv z n)) (by omega:(0:Int)<(n:Int))).2;have h4:(BY z n:Int)+(n:Int)*sgZ (decide (z<0)) (Hv z n)=z/\0<=(BY z n:Int)/\(BY z n:Int)<(n:Int):=by
   unfold Hv BY sgZ;simp only [RE];rw [d,hr];rw [hr,d] at h1;rw [hr] at h2;have h5:((r+n*q:Nat):Int)=(z.natAbs:Int):=by rw [h1]
   rw [Tx,RN] at h5;by_cases b:z<0
   ·rw [Ra b,aW rfl];by_cases c:r=0
    ·subst c;rw [az am,az am];rw [Int.mul_neg];omega
    rw [aW ⟨b,c⟩,aW ⟨b,c⟩];rw [Int.mul_neg,Tx,T5];omega
   rw [Rj b,az (fun h:z<0/\r≠0=>b h.1),az (fun h:z<0/\r≠0=>b h.1),az dc_];omega
  have e:=h3 h4;exact ⟨e.1.symm,e.2.symm⟩
 exact g
theorem sr (C:Mem)(u:Tabs C)(z w:Int)(k:Nat)(f:0<k)(hk:k<=40000)(g:z.natAbs<B9 ^ k)(i:w.natAbs<B9 ^ k)(v:0<w):Gives cx.P 211 [ai (txt z),ai (txt w)] C (.tuple #[ai (txt (z / w)),ai (txt (z % w)),.int .i64 0]):=by
 have aj:=ce g f;have ak:=ce i f;have l:0<w.natAbs:=by omega
 refine UD func211 50 U3 fun w0=>Uu 3 [0,1] Z<|Uu 2 [0,1,12] Z<|Ux (fun m=>?_) fun m=>?_
 ·have h:=lj w;rw [h] at m;have:w=0:=aJ m;omega
 refine Uv 1 Z fun R a=>U0 (jb _ z om_) U7 fl_ fun am _ _ J=>Uy U6<|U0 (jb _ w om_) U7 fl_ fun an _ _ K=>UP U5 fun y=>UP U5 (fun A=>?_);obtain ⟨pz,rfl,B⟩:=J;obtain ⟨pw,rfl,o⟩:=K;obtain ⟨L,M,N,rfl⟩:=B.form;obtain ⟨O,Q,S,rfl⟩:=o.form;refine UG (j:=1) U12<|UG (j:=1) U12<|UA [7,8] a Z<|Uv 1 Z fun R a=>UE ae U9<|Uy U6<|UE af U9<|U0 (xj _ _ _ _ _ B.m_ o.m_ (dB (k:=100000) (n:=k) g om_) l) U7 fl_ (fun ao _ _ T=>?_);obtain ⟨vq,vr,rfl,D,p⟩:=T;refine C4 5 [7,8,9,10] a Z ?_;obtain ⟨b,U,V,W⟩:=id p;obtain ⟨Ar,cr,E,_⟩:=id W;rw [al] at E;subst E;have F:b.length=0 ↔ z.natAbs % w.natAbs=0:=by
  rw [<- V,Co U];exact T1
 refine Uv 1 Z fun R a=>UE ae U9<|UB 4 Z<|UU U8<|UA [7,8,9,10,31] a Z<|G.cut (fun fr C' X Y=>∃ (q r:Value),(NineC C' q (Hv z w)/\NineC C' r (BY z w))/\fr=[(7,[],.pointer (some ⟨y,0,none⟩)),(8,[],.pointer (some ⟨A,0,none⟩)),(9,[],q),(10,[],r)]/\X=[.obj A (.cells ⟨[.bool (decide (w<0)),.slice O Q S]⟩ 307 (0,0)),.obj y (.cells ⟨[.bool (decide (z<0)),.slice L M N]⟩ 307 (0,0))]) ?_ (fun fr _ ap Y _ hI=>?_)
 ·refine Ux (fun d=>?_) fun d=>?_
  ·have c:z<0/\z.natAbs % w.natAbs≠0:=by
    have h:decide (z<0)=true/\0<b.length:=by simpa using d
    exact ⟨aJ h.1,fun e=>by have:=F.2 e;omega⟩
   have s:Hv z w=z.natAbs / w.natAbs+1:=aW c;have t:BY z w=w.natAbs-z.natAbs % w.natAbs:=aW c;have aa:z.natAbs / w.natAbs<B9 ^ k:=RJ (RR _ _) g;refine US [0,3,4,5,1,2,6,7,8] [] Z kr_ fun R hB a=>UB 2 Z<|UE af U9<|Uy U6<|UR [cm 1] U12 fun aq _ _ ab=>U0 (LQ (k:=k) _ D.m_ (⟨[1],⟨(fun x hx=>(by rw [Rc.1 hx];decide)),by simp⟩,Z,ab.mono mup⟩:NineC _ _ 1) aa (Sc (by decide:1<B9 ^ 1) (Rn dc_ f)) om_) U7 fl_ fun ar _ _ ac=>U0 (ur (k:=k) _ o.m_ p.m_ i (Nat.le_of_lt (Ry _ l)) om_) U7 fl_ fun au _ _ ad=>UB 2 Z<|UA [7,8,9,10] a Z ?_;clear a hB R;refine UL 0 mup (hn_ [7,8,9,10] Z) ⟨_,_,⟨by rw [s];exact ac.mono mup,by rw [t];exact ad.mono mup⟩,Z,Z⟩
  have c:¬ (z<0/\z.natAbs % w.natAbs≠0):=fun h=>by
   have h2:0<b.length:=by
    rcases Sh b.length with h3 | h3
    ·exact absurd (F.1 h3) h.2
    exact h3
   have h3:(decide (z<0) && decide ((0:Int)<(b.length:Int)))=true:=by
    rw [Ra h.1,Ra om_];rfl
   rw [h3] at d;cases d
  have s:Hv z w=z.natAbs / w.natAbs:=az c;have t:BY z w=z.natAbs % w.natAbs:=az c;refine UL 0 mup (hn_ [7,8,9,10] Z) ⟨_,_,⟨by rw [s];exact D.mono mup,by rw [t];exact p.mono mup⟩,Z,Z⟩
 obtain ⟨q ,r,⟨H,I⟩,rfl,rfl⟩:=hI;obtain ⟨A9,m9,c9,rfl⟩:=H.form;obtain ⟨av,aw,ax,rfl⟩:=I.form;have ag:Hv z w<B9 ^ 100000:=by
  have h1:z.natAbs / w.natAbs<=z.natAbs:=RR _ _;have h2:Hv z w<=z.natAbs+1:=by unfold Hv;split <;> omega
  have h3:B9 ^ k*2<=B9 ^ (k+1):=by rw [R8];exact Sk _ dc_
  have h4:z.natAbs+1<B9 ^ (k+1):=by have:=Tm (n:=k) (show 0<B9 by decide);omega
  exact dB (k:=100000) (n:=k+1) (RJ h2 h4) om_
 have ah:BY z w<B9 ^ 100000:=by
  have h1:=Ry z.natAbs l;have h2:BY z w<=w.natAbs:=by unfold BY;split <;> omega
  exact dB (k:=100000) (n:=k) (RJ h2 i) om_
 refine Uv 1 Z fun R a=>UE ae U9<|Uy U6<|UE af U9<|UB 2 Z<|UO [.bool (decide (z<0) != decide (w<0)),_] U8<|UI (jU _ u.m_ _ _ _ H.m_ ag) U7<|Uy U6<|UO [.bool false,_] U8<|UI (jU _ u.m_ _ _ _ I.m_ ah) U7<|C4 3 [4,5,6] a Z<|UJ (G.dropAll (Vv U4 ?_));refine ⟨?_,Z⟩;rw [(Hu v).1,show sgZ false (BY z w)=z % w from (Hu v).2]
theorem K0 {l:List Nat}(a:xZ l)(b:bB l=n):0<l.length ↔ 0<n:=by
 have h:=Co a;rw [b] at h;have h2:l.length=0 ↔ n=0:=by rw [h];exact T1
 omega
theorem G6 (C:Mem)(r:Tabs C)(z w:Int)(k:Nat)(s:0<k)(hk:k<=40000)(t:z.natAbs<B9 ^ k)(u:w.natAbs<B9 ^ k):Gives cx.P 208 [ai (txt z),ai (txt w)] C (ai (txt (Nat.gcd z.natAbs w.natAbs:Nat))):=by
 have ab:=ce t s;have ac:=ce u s;refine UD func208 56 U3 fun w0=>Uu 1 [0,1] Z<|Uv 1 Z fun R a=>UI (jF _ z 18 (QO _)) U7<|C4 5 [0,1,5,6] a Z<|Uu 1 [0,1,5,18] Z<|G.cut (fun fr C' d e=>(True)/\fr=[(0,[],ai (txt z)),(1,[],ai (txt w))]/\d=[]) ?_ (fun fr _ ad e _ f=>?_)
 ·refine Ux (fun v=>?_) fun v=>?_
  ·have A:=aJ v;rw [aW A];have B:=zw A;rw [e18] at B;refine Uv 1 Z fun R a=>UI (jF _ w 18 (QO _)) U7<|C4 5 [0,1,5,7,8] a Z<|Uu 1 [0,1,5,7,24] Z<|Ux (fun E=>?_) fun E=>?_
   ·have F:=aJ E;rw [aW F];have H:=zw F;rw [e18] at H;refine G.loop (fun fr C' d e=>∃ (x y:Int),(x.natAbs<1000000000000000000/\y.natAbs<1000000000000000000/\Nat.gcd x.natAbs y.natAbs=Nat.gcd z.natAbs w.natAbs)/\fr=[(5,[],.int .i64 x),(7,[],.int .i64 y)]/\d=[]/\e=y.natAbs+1) (hn_ [5,7] Z) ⟨z,w,⟨B,H,Z⟩,Z,Z,Z⟩ (fun fr ae af m K f=>?_);obtain ⟨x,y,⟨ag,L,c⟩,rfl,rfl,rfl⟩:=f;refine Uu 2 [5,7,26] Z<|Ux (fun i=>?_) fun i=>?_
    ·have b:y≠0:=by simpa using i
     have M:(x.tmod y).natAbs=x.natAbs % y.natAbs:=TB x y;have N:=Ry x.natAbs (show 0<y.natAbs by omega);refine US [0,1,2,3,4,5] [] Z kr_ fun R hB a=>UB 3 Z<|VB (x.tmod y) U6 b U3<|C4 2 [5,7] a Z<|UH (m':=(x.tmod y).natAbs+1) om_ K (hn_ [5,7] Z) ⟨y,x.tmod y,⟨L,by omega,by rw [M,<- c,Ta x.natAbs,Um y.natAbs x.natAbs,Ta]⟩,Z,Z,Z⟩
    have b:y=0:=by simpa using i
    subst b;rw [show (0:Int).natAbs=0 from rfl,TA] at c;refine Uv 3 Z fun R a=>?_;have ah:IntKind.i64.wrap (0-x)=0-x:=wrap_i64 om_ om_;exact D.max ((x.natAbs:Int)) U6 om_ U2<|UM (so _ r.m_ (x.natAbs:Int) om_ om_) U7 fl_<|C4 1 [4] a Z<|UC U2<|⟨by rw [c],Z⟩
   refine UL 0 (Mem.le.refl _) (hn_ [0,1] Z) ⟨trivial,Z,Z⟩
  refine UL 0 (Mem.le.refl _) (hn_ [0,1] Z) ⟨trivial,Z,Z⟩
 obtain ⟨_,rfl,rfl⟩:=f;refine Uv 1 Z fun R a=>U0 (jb _ z om_) U7 fl_ (fun aj _ _ O=>?_);obtain ⟨pz,rfl,Q⟩:=O;refine VM U12<|Uy U6<|U0 (jb _ w om_) U7 fl_ (fun ak _ _ S=>?_);obtain ⟨pw,rfl,T⟩:=S;refine VM U12<|C4 2 [9,10] a Z<|G.loop (fun fr C' d e=>∃ (x y:Nat)(j o:Value),(NineC C' j x/\NineC C' o y/\x<B9 ^ k/\y<B9 ^ k/\Nat.gcd x y=Nat.gcd z.natAbs w.natAbs)/\fr=[(9,[],j),(10,[],o)]/\d=[]/\e=y+1) (hn_ [9,10] Z) ⟨_,_,_,_,⟨Q.mono mup,T.mono mup,t,u,Z⟩,Z,Z,Z⟩ (fun fr am an m _ f=>?_);obtain ⟨x,y,j,o,⟨p,g,I,J,c⟩,rfl,rfl,rfl⟩:=f;obtain ⟨l,U,V,W⟩:=id g;obtain ⟨ao,ap,rfl,_⟩:=id W;rw [al] at g ⊢;have X:=K0 U V;refine Uu 3 [9,10,44] Z<|Ux (fun q=>?_) fun q=>?_
 ·have b:0<y:=X.1 (by simpa using q);have N:=Ry x b;refine Uv 2 Z fun R a=>U0 (xj _ _ _ _ _ p.m_ g.m_ (dB (k:=100000) (n:=k) I om_) b) U7 fl_ (fun aq _ _ Y=>?_);obtain ⟨vq,vr,rfl,ar,aa⟩:=Y;refine C4 5 [10,12] a Z<|Uu 4 [9,10] Z<|UH (m':=x % y+1) om_ mup (hn_ [9,10] Z) ⟨y,x % y,_,_,⟨g.mono mup,aa.mono mup,J,Tb (Ry _ b) J,by rw [<- c,Ta x,Um y x,Ta]⟩,Z,Z,Z⟩
 have b:y=0:=by
  have h:¬ 0<l.length:=by simpa using q
  omega
 subst b;rw [TA] at c;obtain ⟨A9,m9,c9,rfl⟩:=p.form;exact Uv 1 Z fun R a=>UO [.bool false,_] U8<|UM (jU _ r.m_ _ _ _ p.m_ (dB (k:=100000) (n:=k) I om_)) U7 fl_<|C4 1 [4] a Z<|UC U2<|⟨by rw [c];rfl,Z⟩
def rV (sg:Bool)(A:Str)(B:Option Str):Value :=
 if NS A B then .tuple #[.int .i64 (sgZ sg (bX A)),.int .i64 (QD B),.bool true] else .tuple #[.int .i64 0,.int .i64 0,.bool false]
theorem Dh (C:Mem)(d:Bool)(A:Str)(B:Option Str)(q:∀ c∈A,eR c=true)(T:A≠[])(U:∀ b,B=some b->∀ c∈b,eR c=true)(V:(JD d++A++eQ B).length<=1000000) :
  Gives cx.P 141 [ai (JD d++A++eQ B)] C (rV d A B):=by
 obtain ⟨s,hs⟩:∃ s,JD d++A++eQ B=s:=⟨_,rfl⟩;obtain ⟨p,t⟩:∃ p,(JD d).length=p:=⟨_,rfl⟩;have g:p=if d then 1 else 0:=by rw [<- t];cases d <;> rfl
 have u:∀ j c,A[j]?=some c->s[p+j]?=some c:=fun j c h=>by rw [<- hs,<- t];exact M7 _ _ _ h
 have N:∀ j,s[p+A.length+j]?=(eQ B)[j]?:=fun j=>by rw [<- hs,<- t];exact JE _ _ _ _
 have y:s.length=p+A.length+(eQ B).length:=by rw [<- hs,<- t,QV,QV]
 have W:0<A.length:=RD.2 T;rw [hs] at V ⊢;refine UD func141 73 U3 fun w0=>Uu 3 [0,2,3] Z<|Uu 2 [0,2,3,5,6] Z<|Uv 5 Z fun R a=>Vs (b:=s.getD 0 0) U8 (fun _=>⟨by omega,(by rw [au,show (0:Int).toNat=0 from rfl];obtain ⟨c,f⟩:∃ c,s[0]?=some c:=⟨s[0]'om_,aj om_⟩;rw [f];rfl)⟩) U2<|Uy U6<|UU U8<|UA [0,2,3,5,6,15] a Z<|G.cut (fun fr C' i k=>(True)/\fr=[(0,[],ai s),(2,[],.int .i64 0),(3,[],.int .i64 0),(5,[],.int .i64 p),(6,[],.bool d)]/\i=[]) ?_ (fun fr _ ae k _ l=>?_)
 ·refine Ux (fun v=>?_) fun v=>?_
  ·have n:d=true:=by
    cases d with
    | true=>rfl
    | false =>
     exfalso;rw [az dc_] at g;subst g;obtain ⟨c,f⟩:∃ c,A[0]?=some c:=⟨A[0],aj W⟩;have h1:=u 0 c f;have h2:=q c (QQ f);rw [SU] at h1;rw [au,h1] at v;unfold eR at h2;simp at v h2;omega
   subst n;rw [aW rfl] at g;subst g;refine Uu 2 [0,2,3,5,6] Z<|UL 0 (Mem.le.refl _) (hn_ [0,2,3,5,6] Z) ⟨trivial,Z,Z⟩
  have n:d=false:=by
   cases d with
   | false=>rfl
   | true =>
    exfalso;have h1:s[0]?=some 45:=by rw [<- hs];rfl
    rw [aW rfl] at g;have h2:(decide ((0:Int)<((s.length:Nat):Int)) && decide ((((s.getD 0 0).toNat:Nat):Int)=45))=false:=by simpa using v
    rw [au,h1,Ra om_] at h2;exact absurd h2 dc_
  subst n;rw [az dc_] at g;subst g;refine UL 0 (Mem.le.refl _) (hn_ [0,2,3,5,6] Z) ⟨trivial,Z,Z⟩
 obtain ⟨_,rfl,rfl⟩:=l;refine Uu 2 [0,2,3,5,6,7] Z<|G.loop (fun fr C' i k=>∃ (j:Nat),(j<=A.length/\j<=9)/\fr=[(0,[],ai s),(2,[],.int .i64 ((bX (A.take j):Nat):Int)),(3,[],.int .i64 0),(5,[],.int .i64 ((p+j:Nat):Int)),(6,[],.bool d),(7,[],.int .i64 p)]/\i=[]/\k=A.length-j+1) (hn_ [0,2,3,5,6,7] Z) ⟨0,⟨by omega,by omega⟩,Z,Z,Z⟩ (fun fr af ag m X l=>?_);obtain ⟨j,⟨hj,w⟩,rfl,rfl,rfl⟩:=l;obtain ⟨c,f⟩:∃ c,p+j<s.length->s[p+j]?=some c:=⟨s.getD (p+j) 0,fun h=>by rw [au,aj h];rfl⟩;refine Uv 7 Z fun R a=>Vs (b:=c) U8 (fun Y=>⟨by omega,f (by have h:decide (((p+j:Nat):Int)<((s.length:Nat):Int))=true:=Y.1;have h2:=aJ h;omega)⟩) U2<|Uy U6<|UU U8<|UA [0,2,3,5,6,7,26] a Z<|Ux (fun x=>?_) fun x=>?_
 ·have z:p+j<s.length/\c.toNat≠47:=by
   simp at x;omega
  have E:j<A.length:=by
   rcases Rr j A.length with h | h
   ·exact h
   exfalso;obtain rfl:j=A.length:=by omega
   have h1:=f z.1;have h2:=N 0;rw [SU,h1] at h2;cases B with
   | none=>simp [eQ] at h2
   | some b =>
    simp [eQ] at h2;subst h2;exact z.2 Z
  obtain ⟨e,o⟩:∃ c,A[j]?=some c:=⟨A[j],aj E⟩;obtain rfl:e=c:=by
   have h1:=f z.1;rw [u j e o] at h1;exact Ss h1
  have O:48<=e.toNat/\e.toNat<=57:=by simpa [eR] using q e (QQ o)
  have hV:=uN q w;refine Uv 2 Z fun R a=>UF _ U7<|C4 1 [0,2,3,5,6,7,32] a Z<|Ux (fun F=>?_) fun F=>?_
  ·have r:¬ A.length<=9:=by
    have:((p+j:Nat):Int)-p=9:=by simpa using F
    omega
   refine Uu 3 [2,3,4] Z<|UJ (G.dropAll (Vv U4 ?_));refine ⟨?_,Z⟩;unfold rV NS;rw [Rj r,Bool.false_and,az dc_]
  have r:j≠9:=by
   have:¬ ((p+j:Nat):Int)-p=9:=by simpa using F
   omega
  refine Uv 1 Z fun R a=>UF _ U7<|UB 2 Z<|Vs U8 (fun _=>⟨by omega,u j _ o⟩) U2<|D.int (((e.toNat:Nat):Int)-48) U4 (by rw [IntKind.wrap_u8];omega) U2<|Vi (c:=((e.toNat:Nat):Int)-48) U8 (by rw [IntKind.wrap_i64];omega) fl_<|UF _ U7<|C4 1 [0,2,3,5,6,7] a Z<|Uv 1 Z fun R a=>UF _ U7<|C4 1 [0,2,3,5,6,7] a Z ?_;rw [show 10*((bX (A.take j):Nat):Int)+(((e.toNat:Nat):Int)-48)=((bX (A.take (j+1)):Nat):Int) by rw [B8 o];omega];refine UH (m':=A.length-(j+1)+1) om_ X (hn_ [0,2,3,5,6,7] Z) ⟨j+1,⟨by omega,by omega⟩,Z,Z,Z⟩
 have E:j=A.length:=by
  rcases Rr j A.length with h | h
  ·exfalso;obtain ⟨e,o⟩:∃ c,A[j]?=some c:=⟨A[j],aj h⟩;have h1:=f om_;rw [u j e o] at h1;obtain rfl:=Ss h1;have O:48<=e.toNat/\e.toNat<=57:=by simpa [eR] using q e (QQ o)
   simp at x;have:=x om_;omega
  omega
 subst E;rw [Q2];refine Uu 1 [0,2,3,5,41] Z<|G.cut (fun fr C' i k=>(True)/\fr=[(0,[],ai s),(2,[],.int .i64 (sgZ d (bX A))),(3,[],.int .i64 0),(5,[],.int .i64 ((p+A.length:Nat):Int))]/\i=[]) ?_ (fun fr _ ah k _ l=>?_)
 ·refine Ux (fun H=>?_) fun H=>?_
  ·have n:d=true:=H;subst n;have aa:=uN q w;rw [Q2] at aa;refine Uu 3 [0,2,3,5] Z ?_;rw [show IntKind.i64.wrap (0-((bX A:Nat):Int))=sgZ true (bX A) by rw [wrap_i64 om_ om_];unfold sgZ;rw [aW rfl];omega];refine UL 0 (Mem.le.refl _) (hn_ [0,2,3,5] Z) ⟨trivial,Z,Z⟩
  have n:d=false:=by simpa using H
  subst n;refine UL 0 (Mem.le.refl _) (hn_ [0,2,3,5] Z) ⟨trivial,Z,Z⟩
 obtain ⟨_,rfl,rfl⟩:=l;refine Uu 4 [0,2,3,5,47] Z<|Ux (fun I=>?_) fun I=>?_
 ·have ab:B=none:=by
   cases B with
   | none=>rfl
   | some b =>
    exfalso;have:p+A.length=s.length:=by simp at I;omega
    rw [y] at this;simp [eQ] at this
  subst ab;refine Uu 4 [2,3,4] Z<|UJ (G.dropAll (Vv U4 ?_));refine ⟨?_,Z⟩;unfold rV NS;rw [Ra w];rfl
 obtain ⟨b,rfl⟩:∃ b,B=some b:=by
  cases B with
  | some b=>exact ⟨b,rfl⟩
  | none =>
   exfalso;simp [y,eQ] at I
 have Q:=U b rfl;have ak:s.length=p+A.length+1+b.length:=by rw [y];simp [eQ];omega
 refine Uv 1 Z fun R a=>UF _ U7<|C4 1 [0,2,3,5,7] a Z<|Uv 1 Z fun R a=>UF _ U7<|C4 1 [0,2,3,5,7] a Z<|G.loop (fun fr C' i k=>∃ (j:Nat),(j<=b.length/\j<=9)/\fr=[(0,[],ai s),(2,[],.int .i64 (sgZ d (bX A))),(3,[],.int .i64 ((bX (b.take j):Nat):Int)),(5,[],.int .i64 ((p+A.length+1+j:Nat):Int)),(7,[],.int .i64 ((p+A.length+1:Nat):Int))]/\i=[]/\k=b.length-j+1) (hn_ [0,2,3,5,7] Z) ⟨0,⟨by omega,by omega⟩,Z,Z,Z⟩ (fun fr al am m ac l=>?_);obtain ⟨j,⟨hk,S⟩,rfl,rfl,rfl⟩:=l;refine Uu 4 [0,2,3,5,7,56] Z<|Ux (fun J=>?_) fun J=>?_
 ·have K:j<b.length:=by
   have:p+A.length+1+j<s.length:=by simp at J;omega
   omega
  obtain ⟨c,L⟩:∃ c,b[j]?=some c:=⟨b[j],aj K⟩;have ad:s[p+A.length+1+j]?=some c:=by rw [TP,N,Tn 1 j];exact L
  have O:48<=c.toNat/\c.toNat<=57:=by simpa [eR] using Q c (QQ L)
  have hV:=uN Q S;refine Uv 2 Z fun R a=>UF _ U7<|C4 1 [0,2,3,5,7,62] a Z<|Ux (fun M=>?_) fun M=>?_
  ·have r:¬ b.length<=9:=by
    have:((p+A.length+1+j:Nat):Int)-((p+A.length+1:Nat):Int)=9:=by simpa using M
    omega
   refine Uu 3 [2,3,4] Z<|UJ (G.dropAll (Vv U4 ?_));refine ⟨?_,Z⟩;unfold rV NS;rw [show (some b).getD []=b from rfl,Rj r,Bool.and_false,az dc_]
  have r:j≠9:=by
   have:¬ ((p+A.length+1+j:Nat):Int)-((p+A.length+1:Nat):Int)=9:=by simpa using M
   omega
  refine Uv 1 Z fun R a=>UF _ U7<|UB 2 Z<|Vs U8 (fun _=>⟨by omega,ad⟩) U2<|D.int (((c.toNat:Nat):Int)-48) U4 (by rw [IntKind.wrap_u8];omega) U2<|Vi (c:=((c.toNat:Nat):Int)-48) U8 (by rw [IntKind.wrap_i64];omega) fl_<|UF _ U7<|C4 1 [0,2,3,5,7] a Z<|Uv 1 Z fun R a=>UF _ U7<|C4 1 [0,2,3,5,7] a Z ?_;rw [show 10*((bX (b.take j):Nat):Int)+(((c.toNat:Nat):Int)-48)=((bX (b.take (j+1)):Nat):Int) by rw [B8 L];omega];refine UH (m':=b.length-(j+1)+1) om_ ac (hn_ [0,2,3,5,7] Z) ⟨j+1,⟨by omega,by omega⟩,Z,Z,Z⟩
 have K:j=b.length:=by
  have:¬ p+A.length+1+j<s.length:=by simp at J;omega
  omega
 subst K;rw [Q2];refine Uu 5 [2,3,4] Z<|UJ (G.dropAll (Vv U4 ?_));refine ⟨?_,Z⟩;unfold rV NS;rw [show (some b).getD []=b from rfl,Ra w,Ra S];rfl
theorem pl {n:Int}(a:g ∣ n.natAbs):n.tdiv (g:Int)=n / (g:Int):=Int.tdiv_eq_ediv_of_dvd (Tu.1 (SR.2 a))
theorem Bc {n:Int}(a:d≠0):qtx (mkRat n d)=txt (n / ((Nat.gcd n.natAbs d:Nat):Int))++eQ (nO (d / Nat.gcd n.natAbs d)):=by
 rw [pm,(uq n a).1,(uq n a).2]
theorem wg (C:Mem)(e:Tabs C)(n:Int)(d:Nat)(o:0<d)(p:n.natAbs<9000000000000000000)(t:d<9000000000000000000):Gives cx.P 142 [.int .i64 n,.int .i64 d] C (ai (qtx (mkRat n d))):=by
 obtain ⟨g,b⟩:∃ g,Nat.gcd n.natAbs d=g:=⟨_,rfl⟩;have u:0<g:=by rw [<- b];exact Tv _ o
 have q:g ∣ n.natAbs:=by rw [<- b];exact TO _ _
 have v:g ∣ d:=by rw [<- b];exact T2 _ _
 have F:g<=d:=Up o v;rw [Bc om_,b];refine UD func142 35 U3 fun w0=>Uu 1 [0,1] Z<|Uu 4 [0,1,5,6] Z<|G.loop (fun fr C' f h=>∃ (x y:Int),(x.natAbs<9000000000000000000/\y.natAbs<9000000000000000000/\Nat.gcd x.natAbs y.natAbs=g)/\fr=[(0,[],.int .i64 n),(1,[],.int .i64 d),(5,[],.int .i64 x),(6,[],.int .i64 y)]/\f=[]/\h=y.natAbs+1) (hn_ [0,1,5,6] Z) ⟨n,d,⟨p,by omega,by rw [RE];exact b⟩,Z,Z,Z⟩ (fun fr H I m w i=>?_);obtain ⟨x,y,⟨J,z,r⟩,rfl,rfl,rfl⟩:=i;refine Uu 2 [0,1,5,6,10] Z<|Ux (fun j=>?_) fun j=>?_
 ·have k:y≠0:=by simpa using j
  have A:(x.tmod y).natAbs=x.natAbs % y.natAbs:=TB x y;have K:=Ry x.natAbs (show 0<y.natAbs by omega);refine US [0,1,2,3,4,5] [] Z kr_ fun R B a=>UB 3 Z<|VB (x.tmod y) U6 k U3<|C4 2 [0,1,5,6] a Z<|UH (m':=(x.tmod y).natAbs+1) om_ w (hn_ [0,1,5,6] Z) ⟨y,x.tmod y,⟨z,by omega,by rw [A,<- r,Ta x.natAbs,Um y.natAbs x.natAbs,Ta]⟩,Z,Z,Z⟩
 have k:y=0:=by simpa using j
 subst k;rw [show (0:Int).natAbs=0 from rfl,TA] at r;refine Uu 2 [0,1,5,16] Z<|G.cut (fun fr C' f h=>(True)/\fr=[(0,[],.int .i64 n),(1,[],.int .i64 d),(5,[],.int .i64 g)]/\f=[]) ?_ (fun fr _ L h _ i=>?_)
 ·refine Ux (fun l=>?_) fun l=>?_
  ·have D:x<0:=by simpa using l
   refine Uu 3 [0,1,5] Z ?_;rw [show IntKind.i64.wrap (0-x)=(g:Int) by rw [wrap_i64 om_ om_];omega];refine UL 0 (Mem.le.refl _) (hn_ [0,1,5] Z) ⟨trivial,Z,Z⟩
  have D:¬ x<0:=by simpa using l
  rw [show x=(g:Int) by omega];refine UL 0 (Mem.le.refl _) (hn_ [0,1,5] Z) ⟨trivial,Z,Z⟩
 obtain ⟨_,rfl,rfl⟩:=i;have E:(n / (g:Int)).natAbs<=n.natAbs:=by
  rw [S5 (Tu.1 (SR.2 q)),RE];exact RR _ _
 have s:=RR d g;refine US [0,1,2,3,4,5,6,7] [] Z kr_ fun R B a=>UB 2 Z<|VK (n / (g:Int)) U6 om_ (pl q) (wrap_i64 om_ om_) U2<|UB 2 Z<|VD (d) (g) U6 u (.inl ⟨Z,by omega⟩) U2<|C4 2 [0,1] a Z<|Uu 2 [0,1,26] Z<|Ux (fun c=>?_) fun c=>?_
 ·have h1:d / g=1:=by
   have h2:(((d / g:Nat):Int))=1:=by simpa using c
   omega
  refine Uv 1 Z fun R a=>UM (jl _ e.m_ _ om_ om_) U7 fl_<|C4 1 [4] a Z<|UC U2<|⟨?_,Z⟩;rw [h1,mi rfl];simp [eQ]
 have h1:d / g≠1:=by
  intro h2;rw [h2] at c;exact absurd c dc_
 have M:=mL (n / (g:Int));have N:=mL ((d / g:Nat):Int);have O:(bq (n / (g:Int)).natAbs).length<=20:=eH (RJ E (Tb p dc_)) dc_;have Q:(bq ((d / g:Nat):Int).natAbs).length<=20:=eH (by rw [RE];exact RJ s (Tb t dc_)) dc_;refine Uv 1 Z fun R a=>UM (jl _ e.m_ _ om_ om_) U7 fl_<|Vu U6 (fun _=>(by simp only [Q8,Q7];omega)) U2<|Uy U6<|UM (jl _ e.m_ ((d / g:Nat):Int) (Us dc_ (Tw _)) (Us (Int.ofNat_le.2 s) om_)) U7 fl_<|Vu U6 (fun _=>(by simp only [QV,Q8,Q7];omega)) U2<|C4 1 [4] a Z<|UC U2<|⟨?_,Z⟩;rw [fP h1,df,Rk];rfl
theorem G1 (C:Mem)(z:Int)(d:Nat)(k:Nat)(b:0<k)(g:k<=40000)(c:z.natAbs<B9 ^ k)(e:d<B9 ^ k):Gives cx.P 212 [ai (txt z),ai (bq d)] C (ai (txt z++eQ (nO d))):=by
 have h:(txt z).length<=9*k+1:=by
  have:=ce c b;unfold txt;split
  ·simp;omega
  omega
 have i:=ce e b;refine UD func212 12 U3 fun w0=>Uu 1 [0,1] Z<|Uu 2 [0,1,6] Z<|Ux (fun a=>?_) fun a=>?_
 ·have h1:d=1:=by rw [sP] at a;exact aJ a
  refine Uu 2 [4] Z<|UC U2<|⟨?_,Z⟩;rw [mi h1];simp [eQ]
 have h1:d≠1:=by rw [sP] at a;exact QS a
 refine Uv 1 Z fun R f=>Vu U6 (fun _=>(by simp only [Q8,Q7];omega)) U2<|Uy U6<|Vu U6 (fun _=>(by simp only [QV,Q8,Q7];omega)) U2<|C4 1 [4] f Z<|UC U2<|⟨?_,Z⟩;rw [fP h1,Rk];rfl
theorem Fz (C:Mem)(s:Str)(c:s.length<1000000):Gives cx.P 143 [ai s] C (.tuple #[ai (jS 47 s).1,ai ((jS 47 s).2.getD [49])]):=by
 refine UD func143 18 U3 fun w0=>Uu 2 [0] Z<|Uv 1 Z fun R d=>UI (Mi _ s 47 c) U7<|C4 7 [4,5,6] d Z<|Uu 2 [4,5,14] Z<|Ux (fun a=>?_) fun a=>?_
 ·have h1:(jS 47 s).2=none:=by
   cases h:(jS 47 s).2 with
   | none=>rfl
   | some b=>rw [h] at a;simp at a
  refine Uu 3 [2,3] Z<|UJ (G.dropAll (UX U3 ?_));refine ⟨?_,Z⟩;rw [h1];rfl
 obtain ⟨b,h1⟩:∃ b,(jS 47 s).2=some b:=by
  cases h:(jS 47 s).2 with
  | some b=>exact ⟨b,rfl⟩
  | none=>rw [h] at a;simp at a
 refine Uu 4 [2,3] Z<|UJ (G.dropAll (UX U3 ?_));refine ⟨?_,Z⟩;rw [h1];rfl
theorem Cc {c:UInt8}:∀ {a:Str}(b:Str),c ∉ a->jS c (a++c::b)=(a,some b)
 | [],b,_=>by simp [jS]
 | x::a,b,h=>by
  have d:x≠c:=fun e=>h (e ▸ Qb);have hr:=Cc (c:=c) (a:=a) b (fun h2=>h (Q0 _ h2));simp only [SD,jS,az d,hr]
theorem xq {c:UInt8}:∀ {a:Str},c ∉ a->jS c a=(a,none)
 | [],_=>rfl
 | x::a,h=>by
  have b:x≠c:=fun e=>h (e ▸ Qb);have hr:=xq (c:=c) (a:=a) (fun h2=>h (Q0 _ h2));simp only [jS,az b,hr]
theorem vW (h:∀ c∈s,eR c=true):(47:UInt8) ∉ s:=fun h2=>absurd (h 47 h2) dc_
theorem vV (z:Int):(47:UInt8) ∉ txt z:=by
 unfold txt;split
 ·intro h;rcases Q3.1 h with h | h
  ·cases h
  exact vW (jQ _) h
 exact vW (jQ _)
theorem om (q:Rat):jS 47 (qtx q)=(txt q.num,nO q.den):=by
 rw [pm];unfold nO;split
 ·rw [show eQ none=[] from rfl,Rf];exact xq (vV _)
 exact Cc _ (vV _)
theorem one_dec:bq 1=[49]:=by rw [bq];rfl
theorem HC (d:Nat):(nO d).getD [49]=bq d:=by
 unfold nO;split
 ·rename_i h;subst h;exact one_dec.symm
 rfl
theorem Nd (C:Mem)(q:Rat)(a:(qtx q).length<1000000):Gives cx.P 143 [ai (qtx q)] C (.tuple #[ai (txt q.num),ai (bq q.den)]):=by
 have h:=Fz C (qtx q) a
 rwa [om,HC] at h
def kS (z w:Int):Rat:=mkRat (if w<0 then -z else z) w.natAbs
theorem pP (C:Mem)(f:Tabs C)(z w:Int)(k:Nat)(b:0<k)(e:k<=40000)(p:z.natAbs<B9 ^ k)(q:w.natAbs<B9 ^ k)(v:w≠0):Gives cx.P 144 [ai (txt z),ai (txt w)] C (ai (qtx (kS z w))):=by
 have x:=ce p b;have A:=ce q b;obtain ⟨y,hy⟩:∃ y,(if w<0 then -z else z)=y:=⟨_,rfl⟩;obtain ⟨d,r⟩:∃ d,w.natAbs=d:=⟨_,rfl⟩;have s:d≠0:=by omega
 have B:y.natAbs=z.natAbs:=by rw [<- hy];split <;> omega
 obtain ⟨g,c⟩:∃ g,Nat.gcd y.natAbs d=g:=⟨_,rfl⟩;have D:0<g:=by rw [<- c];exact Tv _ om_
 have t:g ∣ d:=by rw [<- c];exact T2 _ _
 have E:g<=d:=Up om_ t;unfold kS;rw [hy,r,Bc s,c];refine UD func144 35 U3 fun w0=>Uu 1 [0,1] Z<|Uv 1 Z fun R a=>UI (lT _ w) U7<|C4 1 [0,1,8] a Z<|G.cut (fun fr C' i j=>(True)/\fr=[(0,[],ai (txt y)),(1,[],ai (txt (d:Nat)))]/\i=[]) ?_ (fun fr _ F j _ l=>?_)
 ·refine Ux (fun m=>?_) fun m=>?_
  ·have n:w<0:=by
    have h:eN w<0:=by simpa using m
    unfold eN at h;split at h <;> omega
   rw [aW n] at hy;refine Uv 1 Z fun R a=>UM (uy _ z om_) U7 fl_<|Uy U6<|UM (uy _ w om_) U7 fl_<|C4 2 [0,1] a Z<|UL 0 (Mem.le.refl _) (hn_ [0,1] Z) ⟨trivial,by rw [hy,show -w=((d:Nat):Int) by omega],Z⟩
  have n:¬ w<0:=by
   intro h2;have h:¬ eN w<0:=by simpa using m
   unfold eN at h;split at h <;> omega
  rw [az n] at hy;refine UL 0 (Mem.le.refl _) (hn_ [0,1] Z) ⟨trivial,by rw [hy,show w=((d:Nat):Int) by omega],Z⟩
 obtain ⟨_,rfl,rfl⟩:=l;refine Uv 2 Z fun R a=>UM (G6 _ f.m_ y (d:Nat) k b e om_ om_) U7 fl_<|C4 1 [0,1,5] a Z ?_;rw [RE,c];refine Uu 2 [0,1,5,17] Z<|G.cut (fun fr C' i j=>(True)/\fr=[(0,[],ai (txt (y / (g:Nat)))),(1,[],ai (txt ((d / g:Nat):Int)))]/\i=[]) ?_ (fun fr _ H j _ l=>?_)
 ·refine Ux (fun o=>?_) fun o=>?_
  ·refine Uv 2 Z fun R a=>UM (sr _ f.m_ y (g:Nat) k b e om_ om_ om_) U7 fl_<|C4 5 [0,1,5] a Z<|Uv 2 Z fun R a=>UM (sr _ f.m_ (d:Nat) (g:Nat) k b e om_ om_ om_) U7 fl_<|C4 5 [0,1] a Z<|UL 0 (Mem.le.refl _) (hn_ [0,1] Z) ⟨trivial,by rw [TM],Z⟩
  have u:g=1:=by
   rw [df,sP] at o;simpa using o
  refine UL 0 (Mem.le.refl _) (hn_ [0,1] Z) ⟨trivial,by rw [u,Nat.div_one,Int.natCast_one,Int.ediv_one],Z⟩
 obtain ⟨_,rfl,rfl⟩:=l;rw [df];exact Uv 2 Z fun R a=>UM (G1 _ (y / (g:Nat)) (d / g) k b e (by rw [S5 (Tu.1 (SR.2 (by rw [<- c];exact TO _ _))),RE];exact RJ (RR _ _) om_) (RJ (RR _ _) om_)) U7 fl_<|C4 1 [4] a Z<|UC U2<|⟨Z,Z⟩
theorem N3 {a b:Nat}(h:bq a=bq b):a=b:=by rw [<- (bC a).2,h,(bC b).2]
theorem OI (h:txt z=txt w):z=w:=by
 have h1:=dE z;rw [h,dE w] at h1;have h2:=N3 (Ut h1).1;have h3:decide (w<0)=decide (z<0):=(Ut h1).2;by_cases a:w<0
 ·rw [Ra a] at h3;have:=aJ h3.symm;omega
 rw [Rj a] at h3;have:=QS h3.symm;omega
theorem lD (h:qtx a=qtx b):a=b:=by
 have h1:=om a;rw [h,om b] at h1;have h2:=OI (Ut h1).1;have h3:=congrArg QD (Ut h1).2;rw [qB,qB] at h3;exact Rat.ext h2.symm h3.symm
theorem M1 (a b:Rat):((⟨(qtx a).toArray⟩:ByteArray).data.toList == (⟨(qtx b).toArray⟩:ByteArray).data.toList)=decide (a=b):=by
 show (qtx a == qtx b)=_;rw [Tz,Sr,QZ];exact ⟨lD,fun h=>by rw [h]⟩
theorem qtx_zero:qtx 0=[48]:=by
 rw [show (0:Rat)=((0:Int):Rat) from rfl,mS];unfold txt;rw [az om_,show bq (0:Int).natAbs=bq 0 from rfl,bq];rfl
theorem dA:qtx 1=[49]:=by
 rw [show (1:Rat)=((1:Int):Rat) from rfl,mS];exact one_val.symm
theorem fY (a:Rat):((⟨(qtx a).toArray⟩:ByteArray).data.toList == (⟨#[48]⟩:ByteArray).data.toList)=decide (a=0):=by
 have h:=M1 a 0
 rwa [qtx_zero] at h
theorem LJ (a:Rat):((⟨(qtx a).toArray⟩:ByteArray).data.toList == (⟨#[49]⟩:ByteArray).data.toList)=decide (a=1):=by
 have h:=M1 a 1
 rwa [dA] at h
theorem FP (a:Rat):0<(qtx a).length:=by
 unfold qtx;rw [QV,QV];have:=RD.2 (zc a.num.natAbs);omega
theorem bJ (h:QB k q)(a:0<k):(qtx q).length<=18*k+2:=by
 unfold qtx;rw [QV,QV];have h1:=ce h.1 a;have h2:=ce h.2 a;have h3:(JD (decide (q.num<0))).length<=1:=by cases decide (q.num<0) <;> simp [JD]
 have h4:(eQ (nO q.den)).length<=9*k+1:=by
  unfold nO;split
  ·simp [eQ]
  simp [eQ];exact h2
 omega
theorem tZ (q:Rat):∃ c r,qtx q=c::r/\((((c.toNat:Nat):Int) == 45)=decide (q.num<0)):=by
 by_cases h:q.num<0
 ·refine ⟨45,bq q.num.natAbs++eQ (nO q.den), ?_,by rw [Ra h];decide⟩;unfold qtx;rw [Ra h];rfl
 obtain ⟨c,r,a⟩:∃ c r,bq q.num.natAbs=c::r:=List.exists_cons_of_ne_nil (zc _);refine ⟨c,r++eQ (nO q.den), ?_, ?_⟩
 ·unfold qtx;rw [Rj h,a];rfl
 have h2:=jQ q.num.natAbs c (by rw [a];exact Qb);rw [Rj h];unfold eR at h2;have h3:=aJ h2;exact Rj om_
theorem gi (h:¬ q.num<0)(a:q≠0):qtx (-q)=45::qtx q:=by
 have b:q.num≠0:=fun e=>a (TW.1 e);unfold qtx;rw [Un,Rat.neg_den,Ra om_,Rj h,T0];rfl
theorem rm (h:q.num<0):qtx q=45::qtx (-q):=by
 have h2:=gi (q:=-q) (by rw [Un];omega) (by intro e;have h3:=congrArg Rat.num e;rw [Un] at h3;have h4:(0:Rat).num=0:=rfl;omega)
 rwa [Rat.neg_neg] at h2
def D1 (q:Rat):Bool:=NS (bq q.num.natAbs) (nO q.den)
theorem Mb (h:(bq n).length<=9):n<1000000000:=by
 have h1:=dW (jQ n);rw [(bC n).2] at h1;exact Sc h1 (Rb (Rn dc_ h) dc_)
theorem na (h:D1 q=true):q.num.natAbs<1000000000/\q.den<1000000000:=by
 unfold D1 NS at h;rw [Q1,QZ,QZ] at h;refine ⟨Mb h.1, ?_⟩;by_cases h1:q.den=1
 ·omega
 rw [fP h1] at h;exact Mb h.2
theorem Fy (C:Mem)(q:Rat)(a:(qtx q).length<=1000000):Gives cx.P 141 [ai (qtx q)] C (if D1 q then .tuple #[.int .i64 q.num,.int .i64 (q.den:Nat),.bool true] else .tuple #[.int .i64 0,.int .i64 0,.bool false]):=by
 have h:=Dh C (decide (q.num<0)) (bq q.num.natAbs) (nO q.den) (jQ _) (zc _) (KF _) a;unfold rV at h;rw [(bC _).2,qB] at h;have e:sgZ (decide (q.num<0)) q.num.natAbs=q.num:=by
  unfold sgZ;by_cases h:q.num<0
  ·rw [Ra h,aW rfl];omega
  rw [Rj h,az dc_];omega
 rw [e] at h;exact h
theorem eP (C:Mem)(q:Rat)(g:(qtx q).length<=1000000):Gives cx.P 174 [ai (qtx q)] C (ai (qtx (-q))):=by
 have h:=FP q;refine UD func174 13 U3 fun w0=>Uu 1 [0] Z<|Uu 2 [0,4] Z<|Ux (fun h4=>?_) fun h4=>?_
 ·have h0:q=0:=by rw [fY] at h4;exact aJ h4
  refine Uu 2 [2] Z<|UC U2<|⟨?_,Z⟩;rw [h0,Rat.neg_zero]
 have h0:q≠0:=by rw [fY] at h4;exact QS h4
 obtain ⟨c,r,f,e⟩:=tZ q;refine Uv 1 Z fun R a=>Vs U8 (fun _=>⟨by omega,by rw [f];rfl⟩) U2<|C4 1 [0,8] a Z<|Ux (fun b=>?_) fun b=>?_
 ·have d:q.num<0:=by rw [e] at b;exact aJ b
  refine Uv 1 Z fun R a=>Vw 1 (qtx q).length U9 (fun _=>⟨.inr ⟨_,Z⟩,.inl ⟨Z,Z⟩,.inl ⟨Z,Z⟩,by omega,QO _,QO _⟩) U2<|C4 1 [2] a Z<|UC U2<|⟨?_,Z⟩;rw [Q2,rm d];rfl
 have d:¬ q.num<0:=by rw [e] at b;exact QS b
 refine Uv 1 Z fun R a=>Vu U6 (fun _=>(by simp only [Q8,Q7];omega)) U2<|C4 1 [2] a Z<|UC U2<|⟨?_,Z⟩;rw [gi d h0];rfl
theorem fX (C:Mem)(q:Rat)(j:(qtx q).length<=1000000):Gives cx.P 58 [ai (qtx q)] C (.int .i64 (eN q.num)):=by
 obtain ⟨c,r,f,d⟩:=tZ q;have k:=FP q;refine UD func58 15 U3 fun w0=>Uu 1 [0] Z<|Uu 3 [0,3] Z<|Ux (fun h3=>?_) fun h3=>?_
 ·have h0:q=0:=by rw [fY] at h3;exact aJ h3
  refine Uu 1 [2] Z<|UC U2<|⟨?_,Z⟩;rw [h0];rfl
 have h0:q≠0:=by rw [fY] at h3;exact QS h3
 have g:q.num≠0:=fun e=>h0 (TW.1 e);refine Uv 5 Z fun R i=>Vs U8 (fun _=>⟨by omega,by rw [f];rfl⟩) U2<|Uy U6<|UU U8<|C4 1 [6] i Z<|Ux (fun a=>?_) fun a=>?_
 ·rw [d] at a;have b:q.num<0:=by
   have h:=(Q1 _ _ ▸ a:_/\_).2;exact aJ h
  skip
  refine Uu 1 [2] Z<|UC U2<|⟨?_,Z⟩;unfold eN;rw [aW b]
 rw [d,Ra (show (0:Int)<((⟨(qtx q).toArray⟩:ByteArray).data.toList.length:Int) by show (0:Int)<(((qtx q).length:Nat):Int);omega),T8] at a;have b:¬ q.num<0:=QS a;refine Uu 1 [2] Z<|UC U2<|⟨?_,Z⟩;unfold eN;rw [az b,az g]
theorem jC (C:Mem)(q:Rat)(b:(qtx q).length<=1000000):Gives cx.P 141 [ai (qtx q)] C (.tuple #[.int .i64 (if D1 q then q.num else 0),.int .i64 (if D1 q then ((q.den:Nat):Int) else 0),.bool (D1 q)]):=by
 have h:=Fy C q b;cases a:D1 q with
 | true=>rw [a] at h;exact h
 | false=>rw [a] at h;exact h
def sU (a b:Rat):Int:=if a<b then -1 else if b<a then 1 else 0
theorem uW :sU a b=vz (a.num*b.den) (b.num*a.den):=by
 unfold sU vz;simp only [Rat.lt_iff]
theorem gZ (a:Rat):0<a.den:=SP a.den_nz
theorem nX {a:Int}(b:a.natAbs<1000000000)(c:d<1000000000):-1000000000000000000<a*(d:Int)/\a*(d:Int)<1000000000000000000:=FX b (by rw [RE];exact c)
theorem wK {a:Nat}(b:a<1000000000)(c:d<1000000000):a*d<1000000000000000000:=SS b c
theorem kJ (C:Mem)(q:Rat)(a:(qtx q).length<1000000):Gives cx.P 143 [ai (qtx q)] C (.tuple #[ai (txt q.num),ai (txt ((q.den:Nat):Int))]):=by
 have h:=Nd C q a
 rwa [<- df] at h
theorem ef (a:z.natAbs<B9 ^ k)(b:w.natAbs<B9 ^ k):(z*w).natAbs<B9 ^ (k+k):=by
 rw [SB];exact nU a b
theorem BW (a:0<d):kS z ((d:Nat):Int)=mkRat z d:=by
 unfold kS;rw [az om_,RE]
theorem rz (h:QB k q):((q.den:Nat):Int).natAbs<B9 ^ k:=by rw [RE];exact h.2
theorem gX (C:Mem)(m:Tabs C)(a b:Rat)(k:Nat)(f:0<k)(u:k<=20000)(d:QB k a)(e:QB k b):Gives cx.P 107 [ai (qtx a),ai (qtx b)] C (.int .i64 (sU a b)):=by
 have v:=bJ d f;have w:=bJ e f;refine UD func107 65 U3 fun w0=>Uu 1 [0,1] Z<|Uu 3 [0,1,19] Z<|Ux (fun g=>?_) fun g=>?_
 ·have h0:a=b:=by rw [M1] at g;exact aJ g
  refine Uu 1 [4] Z<|UC U2<|⟨?_,Z⟩;subst h0;rw [sU,az (Rat.lt_irrefl),az (Rat.lt_irrefl)]
 refine Uv 1 Z fun R c=>UM (jC _ a om_) U7 fl_<|C4 7 [0,1,5,6,7] c Z<|Uu 1 [0,1,5,6,26] Z<|G.cut (fun fr C' r s=>(True)/\fr=[(0,[],ai (qtx a)),(1,[],ai (qtx b))]/\r=[]) ?_ (fun fr _ x s _ t=>?_)
 ·refine Ux (fun n=>?_) fun n=>?_
  ·have h:D1 a=true:=n;rw [aW h,aW h];have o:=na h;refine Uv 1 Z fun R c=>UM (jC _ b om_) U7 fl_<|C4 7 [0,1,5,6,8,9,10] c Z<|Uu 1 [0,1,5,6,8,9,33] Z<|Ux (fun p=>?_) fun p=>?_
   ·have i:D1 b=true:=p;rw [aW i,aW i];have q:=na i;have y:=nX o.1 q.2;have z:=nX q.1 o.2;refine Uv 2 Z fun R c=>UF _ U7<|UB 2 Z<|UF _ U7<|C4 2 [11,12] c Z<|Uu 4 [11,12,40] Z<|Ux (fun j=>?_) fun j=>?_
    ·have h1:=aJ j;refine Uu 1 [4] Z<|UC U2<|⟨?_,Z⟩;rw [uW,vz,aW h1]
    have h1:=QS j;refine Uu 4 [44] Z<|Ux (fun l=>?_) fun l=>?_
    ·have h2:=aJ l;refine Uu 1 [4] Z<|UC U2<|⟨?_,Z⟩;rw [uW,vz,az h1,aW h2]
    have h2:=QS l;refine Uu 1 [4] Z<|UC U2<|⟨?_,Z⟩;rw [uW,vz,az h1,az h2]
   refine UL 0 (Mem.le.refl _) (hn_ [0,1] Z) ⟨trivial,Z,Z⟩
  refine UL 0 (Mem.le.refl _) (hn_ [0,1] Z) ⟨trivial,Z,Z⟩
 obtain ⟨_,rfl,rfl⟩:=t;exact Uv 1 Z fun R c=>UM (kJ _ a om_) U7 fl_<|C4 5 [1,13,14] c Z<|Uv 1 Z fun R c=>UM (kJ _ b om_) U7 fl_<|C4 5 [13,14,15,16] c Z<|Uv 2 Z fun R c=>UM (kO _ m.m_ _ _ k f om_ d.1 (rz e)) U7 fl_<|UB 2 Z<|UM (kO _ m.m_ _ _ k f om_ e.1 (rz d)) U7 fl_<|UM (pZ _ _ _ (by have:=ce (ef d.1 (rz e)) om_;omega) (by have:=ce (ef e.1 (rz d)) om_;omega)) U7 fl_<|C4 1 [4] c Z<|UC U2<|⟨by rw [uW],Z⟩
theorem mR (C:Mem)(f:Tabs C)(a b:Rat)(k:Nat)(g:0<k)(w:k<=10000)(d:QB k a)(e:QB k b):Gives cx.P 91 [ai (qtx a),ai (qtx b)] C (ai (qtx (a+b))):=by
 have x:=bJ d g;have y:=bJ e g;have r:=gZ a;have s:=gZ b;have o:0<a.den*b.den:=Tt r s;refine UD func91 67 U3 fun w0=>Uu 1 [0,1] Z<|Uu 2 [0,1,16] Z<|Ux (fun h=>?_) fun h=>?_
 ·have h0:a=0:=by rw [fY] at h;exact aJ h
  refine Uu 2 [4] Z<|UC U2<|⟨?_,Z⟩;rw [h0,Rat.zero_add]
 refine Uu 2 [0,1,19] Z<|Ux (fun i=>?_) fun i=>?_
 ·have h0:b=0:=by rw [fY] at i;exact aJ i
  refine Uu 2 [4] Z<|UC U2<|⟨?_,Z⟩;rw [h0,Rat.add_zero]
 refine Uv 1 Z fun R c=>UM (jC _ a om_) U7 fl_<|C4 7 [0,1,5,6,7] c Z<|Uu 1 [0,1,5,6,27] Z<|G.cut (fun fr C' t u=>(True)/\fr=[(0,[],ai (qtx a)),(1,[],ai (qtx b))]/\t=[]) ?_ (fun fr _ z u _ v=>?_)
 ·refine Ux (fun p=>?_) fun p=>?_
  ·have j:D1 a=true:=p;rw [aW j,aW j];have l:=na j;refine Uv 1 Z fun R c=>UM (jC _ b om_) U7 fl_<|C4 7 [0,1,5,6,8,9,10] c Z<|Uu 1 [0,1,5,6,8,9,34] Z<|Ux (fun q=>?_) fun q=>?_
   ·have m:D1 b=true:=q;rw [aW m,aW m];have n:=na m;have A:=nX l.1 n.2;have B:=nX n.1 l.2;have D:=wK l.2 n.2;exact Uv 2 Z fun R c=>UF _ U7<|UB 2 Z<|UF _ U7<|UF _ U7<|UB 2 Z<|Vf (((a.den*b.den:Nat):Int)) U4 (RN _ _).symm om_ om_ U2<|UM (wg _ f.m_ _ _ o om_ om_) U7 fl_<|C4 1 [4] c Z<|UC U2<|⟨by rw [jE],Z⟩
   refine UL 0 (Mem.le.refl _) (hn_ [0,1] Z) ⟨trivial,Z,Z⟩
  refine UL 0 (Mem.le.refl _) (hn_ [0,1] Z) ⟨trivial,Z,Z⟩
 obtain ⟨_,rfl,rfl⟩:=v;exact Uv 1 Z fun R c=>UM (kJ _ a om_) U7 fl_<|C4 5 [1,11,12] c Z<|Uv 1 Z fun R c=>UM (kJ _ b om_) U7 fl_<|C4 5 [11,12,13,14] c Z<|Uv 2 Z fun R c=>UM (kO _ f.m_ _ _ k g om_ d.1 (rz e)) U7 fl_<|UB 2 Z<|UM (kO _ f.m_ _ _ k g om_ e.1 (rz d)) U7 fl_<|UM (NK _ f.m_ _ _ (k+k) om_ om_ (ef d.1 (rz e)) (ef e.1 (rz d))) U7 fl_<|UB 2 Z<|UM (kO _ f.m_ _ _ k g om_ (rz d) (rz e)) U7 fl_<|UM (pP _ f.m_ _ _ (k+k+1) om_ om_ (RJ (TD _ _) (ye (ef d.1 (rz e)) (ef e.1 (rz d)))) (dB (ef (rz d) (rz e)) om_) (by rw [<- RN];omega)) U7 fl_<|C4 1 [4] c Z<|UC U2<|⟨by rw [jE,<- RN,BW o],Z⟩
theorem PT (c:QB k a)(d:QB k b):QB (k+k+1) (a+b):=by
 rw [jE];exact ic (Nat.ne_of_gt (Tt (gZ a) (gZ b))) (RJ (TD _ _) (ye (ef c.1 (rz d)) (ef d.1 (rz c)))) (dB (nU c.2 d.2) om_)
theorem qV (c:QB k a)(d:QB k b):QB (k+k) (a*b):=by
 rw [gA];exact ic (Nat.ne_of_gt (Tt (gZ a) (gZ b))) (ef c.1 d.1) (nU c.2 d.2)
theorem fe (b:QB k a):QB k (-a):=⟨by rw [Un,T0];exact b.1,by rw [Rat.neg_den];exact b.2⟩
theorem mB (c:QB k a)(d:QB k b):QB (k+k+1) (a-b):=by
 rw [Uo];exact PT c (fe d)
theorem CD (b:QB k a)(d:a≠0):QB k a⁻¹:=by
 have c:a.num≠0:=fun e=>d (TW.1 e);refine ⟨?_, ?_⟩
 ·rw [Rat.num_inv,SB,Int.natAbs_sign_of_ne_zero c,TQ,RE];exact b.2
 rw [Rat.den_inv,az c];exact b.1
theorem js (c:QB k a)(d:QB k b)(e:b≠0):QB (k+k) (a / b):=by
 rw [Rat.div_def];exact qV c (CD d e)
theorem PS (h:z.natAbs<B9 ^ k)(a:0<k):QB k (z:Rat):=⟨h,by
 show 1<B9 ^ k;exact Sc (by decide:1<B9 ^ 1) (Rn dc_ a)⟩
theorem dT (C:Mem)(g:Tabs C)(a b:Rat)(k:Nat)(i:0<k)(y:k<=10000)(d:QB k a)(e:QB k b):Gives cx.P 92 [ai (qtx a),ai (qtx b)] C (ai (qtx (a*b))):=by
 have z:=bJ d i;have A:=bJ e i;have w:=gZ a;have x:=gZ b;have q:0<a.den*b.den:=Tt w x;refine UD func92 66 U3 fun w0=>Uu 1 [0,1] Z<|Uu 3 [0,1,15] Z<|G.cut (fun fr C' L' j=>(True)/\fr=[(0,[],ai (qtx a)),(1,[],ai (qtx b)),(15,[],.bool (decide (a=0∨b=0)))]/\L'=[]) ?_ (fun fr _ B j _ l=>?_)
 ·refine Ux (fun f=>?_) fun f=>?_
  ·have h0:a=0:=by rw [fY] at f;exact aJ f
   rw [fY,show decide (a=0)=decide (a=0∨b=0) by simp [h0]];refine UL 0 (Mem.le.refl _) (hn_ [0,1,15] Z) ⟨trivial,Z,Z⟩
  have h0:¬ a=0:=by rw [fY] at f;exact QS f
  refine Uu 3 [0,1,15] Z ?_;rw [fY,show decide (b=0)=decide (a=0∨b=0) by simp [h0]];refine UL 0 (Mem.le.refl _) (hn_ [0,1,15] Z) ⟨trivial,Z,Z⟩
 obtain ⟨_,rfl,rfl⟩:=l;refine Ux (fun r=>?_) fun r=>?_
 ·have h0:=aJ r;refine Uu 1 [4] Z<|UC U2<|⟨?_,Z⟩;rw [show a*b=0 by rcases h0 with h | h <;> simp [h],qtx_zero];rfl
 refine Uu 3 [0,1,20] Z<|Ux (fun m=>?_) fun m=>?_
 ·have h1:a=1:=by rw [LJ] at m;exact aJ m
  refine Uu 2 [4] Z<|UC U2<|⟨?_,Z⟩;rw [h1,Rat.one_mul]
 refine Uu 3 [0,1,24] Z<|Ux (fun n=>?_) fun n=>?_
 ·have h1:b=1:=by rw [LJ] at n;exact aJ n
  refine Uu 2 [4] Z<|UC U2<|⟨?_,Z⟩;rw [h1,Rat.mul_one]
 refine Uv 1 Z fun R c=>UM (jC _ a om_) U7 fl_<|C4 7 [0,1,5,6,7] c Z<|Uu 1 [0,1,5,6,34] Z<|G.cut (fun fr C' L' j=>(True)/\fr=[(0,[],ai (qtx a)),(1,[],ai (qtx b))]/\L'=[]) ?_ (fun fr _ D j _ l=>?_)
 ·refine Ux (fun s=>?_) fun s=>?_
  ·have o:D1 a=true:=s;rw [aW o,aW o];have t:=na o;refine Uv 1 Z fun R c=>UM (jC _ b om_) U7 fl_<|C4 7 [0,1,5,6,8,9,10] c Z<|Uu 1 [0,1,5,6,8,9,41] Z<|Ux (fun u=>?_) fun u=>?_
   ·have p:D1 b=true:=u;rw [aW p,aW p];have v:=na p;have E:=FX t.1 v.1;have F:=wK t.2 v.2;exact Uv 2 Z fun R c=>UF _ U7<|UB 2 Z<|Vf (((a.den*b.den:Nat):Int)) U4 (RN _ _).symm om_ om_ U2<|UM (wg _ g.m_ _ _ q om_ om_) U7 fl_<|C4 1 [4] c Z<|UC U2<|⟨by rw [gA],Z⟩
   refine UL 0 (Mem.le.refl _) (hn_ [0,1] Z) ⟨trivial,Z,Z⟩
  refine UL 0 (Mem.le.refl _) (hn_ [0,1] Z) ⟨trivial,Z,Z⟩
 obtain ⟨_,rfl,rfl⟩:=l;exact Uv 1 Z fun R c=>UM (kJ _ a om_) U7 fl_<|C4 5 [1,11,12] c Z<|Uv 1 Z fun R c=>UM (kJ _ b om_) U7 fl_<|C4 5 [11,12,13,14] c Z<|Uv 2 Z fun R c=>UM (kO _ g.m_ _ _ k i om_ d.1 e.1) U7 fl_<|UB 2 Z<|UM (kO _ g.m_ _ _ k i om_ (rz d) (rz e)) U7 fl_<|UM (pP _ g.m_ _ _ (k+k) om_ om_ (ef d.1 e.1) (ef (rz d) (rz e)) (by rw [<- RN];omega)) U7 fl_<|C4 1 [4] c Z<|UC U2<|⟨by rw [gA,<- RN,BW q],Z⟩
theorem eg (C:Mem)(e:Tabs C)(a b:Rat)(k:Nat)(c:0<k)(f:k<=10000)(g:QB k a)(d:QB k b):Gives cx.P 226 [ai (qtx a),ai (qtx b)] C (ai (qtx (a-b))):=by
 have i:=bJ d c;exact UD func226 9 U3 fun w0=>Uu 1 [0,1] Z<|Uv 2 Z fun R h=>UM (eP _ b om_) U7 fl_<|UI (mR _ e.m_ a (-b) k c f g (fe d)) U7<|C4 1 [4] h Z<|UC U2<|⟨by rw [Uo],Z⟩
theorem gW (C:Mem)(n:Tabs C)(a b:Rat)(k:Nat)(g:0<k)(o:k<=10000)(p:QB k a)(f:QB k b)(h:b≠0):Gives cx.P 199 [ai (qtx a),ai (qtx b)] C (.tuple #[ai (qtx (a / b)),.int .i64 0]):=by
 have v:=bJ f g;have q:b.num≠0:=fun e=>h (TW.1 e);obtain ⟨c,r,s,l⟩:=tZ b;refine UD func199 27 U3 fun w0=>Uu 2 [0,1] Z<|Uu 2 [0,1,9] Z<|Ux (fun j=>?_) fun j=>?_
 ·exfalso;rw [fY] at j;exact h (aJ j)
 refine Uv 1 Z fun R d=>UM (kJ _ b om_) U7 fl_<|C4 5 [0,1,6,7] d Z<|Uv 1 Z fun R d=>Vs U8 (fun _=>⟨by omega,by rw [s];rfl⟩) U2<|C4 1 [0,6,7,17] d Z<|G.cut (fun fr C' L' t=>(True)/\fr=[(0,[],ai (qtx a)),(6,[],ai (txt (b.num.natAbs:Nat))),(7,[],ai (txt (b⁻¹).num))]/\L'=[]) ?_ (fun fr _ w t _ u=>?_)
 ·refine Ux (fun i=>?_) fun i=>?_
  ·have m:b.num<0:=by rw [l] at i;exact aJ i
   refine Uv 1 Z fun R d=>UM (uy _ b.num (by have:=ce f.1 g;omega)) U7 fl_<|Uy U6<|UM (uy _ ((b.den:Nat):Int) (by have:=ce (rz f) g;omega)) U7 fl_<|C4 2 [0,6,7] d Z ?_;rw [show -b.num=((b.num.natAbs:Nat):Int) by omega,show -((b.den:Nat):Int)=(b⁻¹).num by rw [Rat.num_inv,Int.sign_eq_neg_one_of_neg m,Int.neg_one_mul]];refine UL 0 (Mem.le.refl _) (hn_ [0,6,7] Z) ⟨trivial,Z,Z⟩
  have m:¬ b.num<0:=by rw [l] at i;exact QS i
  rw [show b.num=((b.num.natAbs:Nat):Int) by omega,show ((b.den:Nat):Int)=(b⁻¹).num by rw [Rat.num_inv,Int.sign_eq_one_of_pos om_,Int.one_mul]];refine UL 0 (Mem.le.refl _) (hn_ [0,6,7] Z) ⟨trivial,Z,Z⟩
 obtain ⟨_,rfl,rfl⟩:=u;rw [df,show b.num.natAbs=(b⁻¹).den by rw [Rat.den_inv,az q]];refine Uv 3 Z fun R d=>UM (G1 _ _ _ k g om_ (CD f h).1 (CD f h).2) U7 fl_ ?_;rw [<- pm b⁻¹];refine UI (dT _ n.m_ a b⁻¹ k g o p (CD f h)) U7<|C4 2 [4,5] d Z<|UJ (G.dropAll (UX U3 ?_));exact ⟨by rw [Rat.div_def],Z⟩
theorem MV (C:Mem)(c:Tabs C)(z w:Int)(k:Nat)(d:0<k)(e:k<=40000)(f:z.natAbs<B9 ^ k)(g:w.natAbs<B9 ^ k)(i:w≠0):Gives cx.P 150 [ai (txt z),ai (txt w)] C (.tuple #[ai (qtx (kS z w)),.int .i64 0]):=by
 refine UD func150 12 U3 fun w0=>Uu 2 [0,1] Z<|Uv 1 Z fun R a=>UI (lT _ w) U7<|C4 1 [0,1,8] a Z<|Ux (fun b=>?_) fun b=>?_
 ·exfalso;have h:eN w=0:=by simpa using b
  rcases ep w with h2 | h2 | h2 <;> omega
 refine Uv 2 Z fun R a=>UI (pP _ c.m_ z w k d e f g i) U7<|C4 2 [4,5] a Z<|UJ (G.dropAll (UX U3 ?_));exact ⟨Z,Z⟩
theorem FD (C:Mem)(a:Tabs C)(z w:Int)(d:z.natAbs<9000000000000000000)(e:w.natAbs<9000000000000000000)(b:w≠0):Gives cx.P 98 [.int .i64 z,.int .i64 w] C (.tuple #[ai (qtx (kS z w)),.int .i64 0]):=by
 have f:9000000000000000000<B9 ^ 3:=by decide
 refine UD func98 13 U3 fun w0=>Uu 2 [0,1] Z<|Uv 1 Z fun R c=>UM (so _ a.m_ z om_ om_) U7 fl_<|Uy U6<|UM (so _ a.m_ w om_ om_) U7 fl_<|UM (MV _ a.m_ z w 3 dc_ dc_ om_ om_ b) U7 fl_<|C4 4 [4,5] c Z<|UJ (G.dropAll (UX U3 ?_));exact ⟨Z,Z⟩
theorem lg (C:Mem)(a:Tabs C)(z:Int)(c:z.natAbs<9000000000000000000):Gives cx.P 45 [.int .i64 z] C (ai (qtx z)):=by
 exact UD func45 5 U3 fun w0=>Uu 1 [0] Z<|Uv 1 Z fun R b=>UM (so _ a.m_ z om_ om_) U7 fl_<|C4 1 [2] b Z<|UC U2<|⟨by rw [mS],Z⟩
theorem pow9 (k:Nat):B9 ^ k=10 ^ (9*k):=by rw [Nat.pow_mul]
theorem fC (h:cK s=true):s=txt (iK s)/\(iK s).natAbs<B9 ^ 23:=by
 have h1:=rS.1 h;refine ⟨HZ (by unfold cK at h;exact (R3.1 h).1), ?_⟩;rw [KG];have h2:=yw.1 h1.1;have h3:=dW h2.1.1;exact Sc h3 (by rw [pow9];exact Rn dc_ om_)
theorem LH (h:bg s=true):∃ q:Rat,s=qtx q/\QB 23 q:=by
 unfold bg at h;rw [Q1,Q1] at h;obtain ⟨⟨h1,h2⟩,h3⟩:=h;obtain ⟨a,b⟩:=fC h1;rcases gM 47 s with ⟨d,_,_⟩ | ⟨c,post,d,hs,_⟩
 ·rw [d] at a b;exact ⟨((iK s:Int):Rat),by rw [mS];exact a,PS b dc_⟩
 rw [d] at h2 h3 a b;simp only [R9] at h2 a b;obtain ⟨e,f⟩:=fC h2;unfold pj at h3;simp only [Q1,QZ,Sr] at h3;obtain ⟨⟨h4,_⟩,g⟩:=h3;have i:(iK post).natAbs≠0:=by omega
 refine ⟨⟨iK c,(iK post).natAbs,i,g⟩, ?_,b,f⟩;rw [pm];show s=txt (iK c)++eQ (nO (iK post).natAbs);rw [fP om_,<- a,hs];show c++47::post=c++47::bq (iK post).natAbs;rw [<- df,show (((iK post).natAbs:Nat):Int)=iK post by omega,<- e]
theorem rx (C:Mem)(b:Str)(a:cK b=true):Gives cx.P 161 [ai b,ai [49]] C (.int .i64 (vz (iK b) 1)):=by
 obtain ⟨h1,h2⟩:=fC a;have h:=pZ C (iK b) 1 (by have:=ce h2 dc_;omega) (by rw [show bq (1:Int).natAbs=[49] from one_dec];decide)
 rwa [<- one_val,<- h1] at h
theorem DM (C:Mem)(c:Tabs C)(a b:Str)(d:cK a=true)(e:cK b=true):Gives cx.P 208 [ai a,ai b] C (ai (txt (Nat.gcd (iK a).natAbs (iK b).natAbs:Nat))):=by
 obtain ⟨h1,h2⟩:=fC d;obtain ⟨h3,h4⟩:=fC e;have h:=G6 C c (iK a) (iK b) 23 dc_ dc_ h2 h4
 rwa [<- h1,<- h3] at h
theorem xv {b:Bool}(h:(qK b != 0)=false):b=true:=by cases b <;> first | rfl | (exact absurd h dc_)
theorem dX (C:Mem)(y:Tabs C)(s:Str)(A:s.length<=999998):Gives cx.P 140 [ai s] C (.int .i64 (qK (bg s))):=by
 have u:=FK A;obtain ⟨c,f,l⟩:∃ a b,jS 47 s=(a,b):=⟨_,_,rfl⟩;have k:bg s=(cK c && cK (f.getD [49]) && pj (iK c) f):=by
  unfold bg;rw [l]
 rw [l] at u;simp only at u;refine UD func140 39 U3 fun w0=>Uu 1 [0] Z<|Uv 1 Z fun R g=>UM (by have h:=Mi C s 47 om_;rw [l] at h;exact h) U7 fl_<|C4 7 [3,4,5] g Z<|Uv 1 Z fun R g=>UI (wZ _ c) U7<|C4 1 [3,4,5,16] g Z<|Ux (fun i=>?_) fun i=>?_
 ·have j:bg s=false:=by
   rw [k];cases h1:cK c with
   | false=>rfl
   | true=>rw [h1] at i;exact absurd i dc_
  exact Uu 1 [2] Z<|UC U2<|⟨by rw [j];rfl,Z⟩
 have m:cK c=true:=by
  cases h1:cK c with
  | true=>rfl
  | false=>rw [h1] at i;exact absurd i dc_
 rw [m,T8] at k;obtain ⟨v,B⟩:=fC m;refine Uu 2 [3,4,18] Z<|Ux (fun n=>?_) fun n=>?_
 ·have o:f=none:=by
   cases f with
   | none=>rfl
   | some b=>simp at n
  refine Uu 1 [2] Z<|UC U2<|⟨?_,Z⟩;rw [k,o];rfl
 obtain ⟨b,o⟩:∃ b,f=some b:=by
  cases f with
  | some b=>exact ⟨b,rfl⟩
  | none=>simp at n
 subst o;obtain ⟨d,w⟩:∃ z,iK c=z:=⟨_,rfl⟩;obtain ⟨e,x⟩:∃ z,iK b=z:=⟨_,rfl⟩;have p:bg s=(cK b && pj (iK c) (some b)):=k;unfold pj at p;simp only [w,x] at p v B;have D:(c == [48])=(d == 0):=by
  rw [v];have h:=lj d;rw [show (d == 0)=decide (d=0) by by_cases h:d=0 <;> simp [h]];exact h
 have E:(qK (cK b) != 0)=!cK b:=by cases cK b <;> rfl
 have F:decide (vz e 1<=0)=!decide (1<e):=by
  unfold vz;by_cases h:1<e
  ·rw [az om_,aW h,Ra h];rfl
  rw [Rj h];refine Ra ?_;split <;> first | omega | (split <;> omega)
 have q:(qK (cK b) != 0 || decide (vz (iK b) 1<=0) || (c == [48]) || !(bq ((iK c).natAbs.gcd (iK b).natAbs) == [49]))=!bg s:=by
  have G:=sP (d.natAbs.gcd e.natAbs);have H:(bq (d.natAbs.gcd e.natAbs) == [49])=(d.natAbs.gcd e.natAbs == 1):=G;rw [w,x,D,E,F,H,p];cases cK b <;> cases decide (1<e) <;> cases (d == 0) <;> cases (d.natAbs.gcd e.natAbs == 1) <;> rfl
 rw [<- df] at q;refine Uu 4 [6,7] Z<|Uv 1 Z fun R g=>UI (wZ _ b) U7<|UB 3 Z<|UT (fun r=>(rx _ b (by exact xv (show (qK (cK b) != 0)=false/\True from r).1))) U9<|Uy U6<|U1 U8<|UB 3 Z<|U1 U8<|UB 3 Z<|UT (fun r=>(DM _ y.m_ c b m (by exact xv (Sq.1 (Sq.1 (show (((qK (cK b) != 0) || decide (vz (iK b) 1<=0)) || (c == [48]))=false/\True from r).1).1).1))) U9<|Uy U6<|U1 U8<|UA [38] g Z<|Ux (fun t=>?_) fun t=>?_
 ·have j:bg s=false:=by
   have h:(!bg s)=true:=q.symm.trans t;simpa using h
  exact Uu 1 [2] Z<|UC U2<|⟨by rw [j];rfl,Z⟩
 have j:bg s=true:=by
  have h:(!bg s)=false:=q.symm.trans t;simpa using h
 exact Uu 1 [2] Z<|UC U2<|⟨by rw [j];rfl,Z⟩
theorem OX (z:Int)(b:g ∣ z.natAbs):sgZ (decide (z<0) != false) (z.natAbs / g)=z / (g:Int):=by
 obtain ⟨m,hm⟩:=b;rcases Sh g with h | c
 ·subst h;have a:z=0:=by omega
  subst a;rfl
 rw [hm,Nat.mul_div_cancel_left _ c,Bool.bne_false];unfold sgZ;by_cases a:z<0
 ·rw [Ra a,aW rfl,show z=(g:Int)*(-(m:Int)) by rw [Int.mul_neg,<- RN];omega,Int.mul_ediv_cancel_left _ om_]
 rw [Rj a,az dc_,show z=(g:Int)*(m:Int) by rw [<- RN];omega,Int.mul_ediv_cancel_left _ om_]
theorem xi (C:Mem)(c:Tabs C)(z:Int)(b:Nat)(m:z.natAbs<BP ^ 200)(n:b<BP ^ 200)(F:0<b)(d:b ∣ z.natAbs):Gives cx.P 224 [ai (txt z),ai (bq b)] C (.tuple #[ai (txt (z / (b:Int))),ai (bq 0)]):=by
 have H:=P2;have o:z.natAbs % b=0:=Nat.mod_eq_zero_of_dvd d;have f:(b:Int) ∣ z:=Tu.1 (SR.2 d);have I:(z / (b:Int)).natAbs<=z.natAbs:=by
  rw [S5 f,RE];exact RR _ _
 refine UD func224 93 U3 fun w0=>Uu 2 [0,1] Z<|Uv 1 Z fun R a=>UI (Ct C z) U7<|C4 5 [0,1,6,7] a Z<|Uv 1 Z fun R a=>UI (qM _ b) U7<|C4 5 [0,1,6,7,8,9] a Z<|Uv 3 Z fun R a=>UU U8<|UA [0,1,6,8,31] a Z<|Ux (fun g=>?_) fun g=>?_
 ·have hs:(bq z.natAbs).length<=17/\(bq b).length<=17:=by simpa using g
  have h1:=Cs hs.1;have h2:=qN hs.2;rw [aW hs.1,aW hs.2];refine US [0,1,2,3,4,5,6,7] [] Z kr_ fun R J a=>UB 2 Z<|VK (z / (b:Int)) U6 om_ (pl d) (wrap_i64 om_ om_) U2<|UB 2 Z<|VB 0 U6 om_ ⟨(Int.tmod_eq_zero_of_dvd f),Z,Z⟩<|C4 2 [6,8,10,11] a Z<|Uu 2 [6,8,10,11,39] Z<|Ux (fun h=>?_) fun h=>?_
  ·exfalso;simp at h
  refine Uv 1 Z fun R a=>UM (lI _ c (z / (b:Int)) om_ om_) U7 fl_<|Uy U6<|UM (Gk _ c 0 om_) U7 fl_<|C4 2 [4,5] a Z<|UJ (G.dropAll (UX U3 ?_));exact ⟨Z,Z⟩
 refine Uv 1 Z fun R a=>UI (fF _ z) U7<|C4 5 [1,12,13] a Z<|Uv 1 Z fun R a=>UI (oR _ b) U7<|C4 5 [12,13,14,15] a Z<|Uv 1 Z fun R a=>Ve (nP _ z.natAbs m) U7 (fun K _ _ p=>?_);obtain ⟨lp,q,r,L,s⟩:=p;refine Uy U6<|Ve (nP _ b n) U7 (fun M _ _ t=>?_);obtain ⟨u,v,w,N,x⟩:=t;refine U0 (Bq _ _ _ lp u s.m_ x.m_ q.1 v om_ om_ om_) U7 fl_ (fun O _ _ y=>?_);obtain ⟨u1,Q,rfl,i,e⟩:=y;rw [r,w] at i e;rw [o] at e;obtain ⟨l1,A,B,S,D⟩:=PieC.take i (by have:=RR z.natAbs b;omega);obtain ⟨l2,j,E,T,k⟩:=PieC.take e om_;obtain ⟨A2,c2,rfl,_⟩:=id k;obtain rfl:=(Cl j).1 E;refine C4 5 [12,14,15,16,17] a Z<|Uv 5 Z fun R a=>UU U8<|UA [12,14,15,16,17,78] a Z<|Ux (fun l=>?_) fun l=>?_
 ·exfalso;simp at l
 refine Uv 4 Z fun R a=>UM (GC _ c.m_ _ _ l1 D.m_ A.1 om_) U7 fl_<|Uy U6<|UM (ut _ c.m_ _ [] k.m_ j.1 am) U7 fl_<|C4 2 [4,5] a Z<|UJ (G.dropAll (UX U3 ?_));refine ⟨?_,Z⟩;show Value.tuple #[ai (txt (sgZ (decide (z<0) != false) (bM l1))),_]=_;rw [B,OX z d];rfl
theorem BA (h:(txt z).length<=9):z.natAbs<1000000000:=by
 have h1:=zw h
 rwa [e9] at h1
theorem Fh (C:Mem)(k:Tabs C)(z w:Int)(v:(txt z).length<=9)(A:(txt w).length<=9)(Q:w≠0):Gives cx.P 220 [ai (txt z),ai (txt w)] C (ai (qtx (kS z w))):=by
 have S:=BA v;have T:=BA A;obtain ⟨n,i⟩:∃ y,(if w<0 then -z else z)=y:=⟨_,rfl⟩;obtain ⟨d,B⟩:∃ d,w.natAbs=d:=⟨_,rfl⟩;have r:0<d:=by omega
 have D:n.natAbs<1000000000:=by rw [<- i];split <;> omega
 unfold kS;rw [i,B];obtain ⟨g,b⟩:∃ g,Nat.gcd n.natAbs d=g:=⟨_,rfl⟩;have E:0<g:=by rw [<- b];exact Tv _ r
 have s:g ∣ n.natAbs:=by rw [<- b];exact TO _ _
 have F:g ∣ d:=by rw [<- b];exact T2 _ _
 have U:g<=d:=Up r F;have H:(n / (g:Int)).natAbs<=n.natAbs:=by
  rw [S5 (Tu.1 (SR.2 s)),RE];exact RR _ _
 have t:=RR d g;rw [Bc om_,b];refine UD func220 55 U3 fun w0=>Uu 1 [0,1] Z<|Uv 1 Z fun R a=>UM (zu Tryz.atoi z om_ _ kr_) U7 fl_<|C4 5 [1,5] a Z<|Uv 1 Z fun R a=>UM (zu Tryz.atoi w om_ _ kr_) U7 fl_<|C4 5 [5,7] a Z<|Uu 2 [5,7,22] Z<|G.cut (fun fr C' c e=>(True)/\fr=[(5,[],.int .i64 n),(7,[],.int .i64 d)]/\c=[]) ?_ (fun fr _ V e _ f=>?_)
 ·refine Ux (fun l=>?_) fun l=>?_
  ·have h:w<0:=by simpa using l
   rw [aW h] at i;refine Uu 6 [5,7] Z ?_;rw [show IntKind.i64.wrap (0-z)=n by rw [wrap_i64 om_ om_];omega,show IntKind.i64.wrap (0-w)=(d:Int) by rw [wrap_i64 om_ om_];omega];refine UL 0 (Mem.le.refl _) (hn_ [5,7] Z) ⟨trivial,Z,Z⟩
  have h:¬ w<0:=by simpa using l
  rw [az h] at i;rw [show z=n by omega,show w=(d:Int) by omega];refine UL 0 (Mem.le.refl _) (hn_ [5,7] Z) ⟨trivial,Z,Z⟩
 obtain ⟨_,rfl,rfl⟩:=f;refine Uu 4 [5,7,9,10] Z<|Uu 2 [5,7,9,10,30] Z<|G.cut (fun fr C' c e=>(True)/\fr=[(5,[],.int .i64 n),(7,[],.int .i64 d),(9,[],.int .i64 (n.natAbs:Nat)),(10,[],.int .i64 d)]/\c=[]) ?_ (fun fr _ W e _ f=>?_)
 ·refine Ux (fun o=>?_) fun o=>?_
  ·have h:n<0:=by simpa using o
   refine Uu 3 [5,7,9,10] Z ?_;rw [show IntKind.i64.wrap (0-n)=((n.natAbs:Nat):Int) by rw [wrap_i64 om_ om_];omega];refine UL 0 (Mem.le.refl _) (hn_ [5,7,9,10] Z) ⟨trivial,Z,Z⟩
  have h:¬ n<0:=by simpa using o
  refine UL 0 (Mem.le.refl _) (hn_ [5,7,9,10] Z) ⟨trivial,by rw [show ((n.natAbs:Nat):Int)=n by omega],Z⟩
 obtain ⟨_,rfl,rfl⟩:=f;refine G.loop (fun fr C' c e=>∃ (x y:Int),(x.natAbs<9000000000000000000/\0<=x/\0<=y/\y.natAbs<9000000000000000000/\Nat.gcd x.natAbs y.natAbs=g)/\fr=[(5,[],.int .i64 n),(7,[],.int .i64 d),(9,[],.int .i64 x),(10,[],.int .i64 y)]/\c=[]/\e=y.natAbs+1) (hn_ [5,7,9,10] Z) ⟨(n.natAbs:Int),d,⟨by omega,by omega,by omega,by omega,by rw [RE,RE];exact b⟩,Z,Z,Z⟩ (fun fr X Y m I f=>?_);obtain ⟨x,y,⟨aa,J,K,L,u⟩,rfl,rfl,rfl⟩:=f;refine Uu 2 [5,7,9,10,34] Z<|Ux (fun p=>?_) fun p=>?_
 ·have q:y≠0:=by simpa using p
  have M:(x.tmod y).natAbs=x.natAbs % y.natAbs:=TB x y;have ab:=Ry x.natAbs (show 0<y.natAbs by omega);have N:=Int.tmod_nonneg y J;refine US [0,1,2,3,4,5] [] Z kr_ fun R O a=>UB 3 Z<|VB (x.tmod y) U6 q U3<|C4 2 [5,7,9,10] a Z<|UH (m':=(x.tmod y).natAbs+1) om_ I (hn_ [5,7,9,10] Z) ⟨y,x.tmod y,⟨L,K,N,by omega,by rw [M,<- u,Ta x.natAbs,Um y.natAbs x.natAbs,Ta]⟩,Z,Z,Z⟩
 have q:y=0:=by simpa using p
 subst q;rw [show (0:Int).natAbs=0 from rfl,TA] at u;obtain rfl:x=(g:Int):=by omega
 refine US [0,1,2,3,4,5,6,7] [] Z kr_ fun R O a=>UB 2 Z<|VK (n / (g:Int)) U6 om_ (pl s) (wrap_i64 om_ om_) U2<|UB 2 Z<|VD (d) (g) U6 E (.inl ⟨Z,by omega⟩) U2<|C4 2 [5,7] a Z<|Uu 2 [5,7,46] Z<|Ux (fun j=>?_) fun j=>?_
 ·have h1:d / g=1:=by
   have h2:(((d / g:Nat):Int))=1:=by simpa using j
   omega
  refine Uv 1 Z fun R a=>UM (jl _ k.m_ _ om_ om_) U7 fl_<|C4 1 [4] a Z<|UC U2<|⟨?_,Z⟩;rw [h1,mi rfl];simp [eQ]
 have h1:d / g≠1:=by
  intro h2;rw [h2] at j;exact absurd j dc_
 have ac:=mL (n / (g:Int));have ad:=mL ((d / g:Nat):Int);have ae:(bq (n / (g:Int)).natAbs).length<=20:=eH (RJ H (Tb D dc_)) dc_;have af:(bq ((d / g:Nat):Int).natAbs).length<=20:=eH (by rw [RE];exact RJ t (Tb (show d<1000000000 by omega) dc_)) dc_;refine Uv 1 Z fun R a=>UM (jl _ k.m_ _ om_ om_) U7 fl_<|Vu U6 (fun _=>(by simp only [Q8,Q7];omega)) U2<|Uy U6<|UM (jl _ k.m_ ((d / g:Nat):Int) (Us dc_ (Tw _)) (Us (Int.ofNat_le.2 t) om_)) U7 fl_<|Vu U6 (fun _=>(by simp only [QV,Q8,Q7];omega)) U2<|C4 1 [4] a Z<|UC U2<|⟨?_,Z⟩;rw [fP h1,df,Rk];rfl
theorem If (h:z.natAbs<m)(g:Nat)(a:g ∣ z.natAbs):(z / (g:Int)).natAbs<m:=by
 rw [S5 (Tu.1 (SR.2 a)),RE];exact RJ (RR _ _) h
theorem Km (C:Mem)(a:Tabs C)(y:Int)(d:Nat)(b:y.natAbs<BP ^ 200)(c:d<BP ^ 200):Gives cx.P 223 [ai (txt y),ai (bq d)] C (ai (bq (Nat.gcd y.natAbs d))):=by
 have h:=DV C a y (d:Nat) b om_
 rwa [df,RE] at h
theorem yN (C:Mem)(e:Tabs C)(z w:Int)(j:z.natAbs<BP ^ 200)(n:w.natAbs<BP ^ 200)(o:w≠0):Gives cx.P 147 [ai (txt z),ai (txt w)] C (ai (qtx (kS z w))):=by
 have B:=gJ j;have D:=gJ n;obtain ⟨y,hy⟩:∃ y,(if w<0 then -z else z)=y:=⟨_,rfl⟩;obtain ⟨d,p⟩:∃ d,w.natAbs=d:=⟨_,rfl⟩;have q:d≠0:=by omega
 have r:y.natAbs=z.natAbs:=by rw [<- hy];split <;> omega
 obtain ⟨g,b⟩:∃ g,Nat.gcd y.natAbs d=g:=⟨_,rfl⟩;have k:0<g:=by rw [<- b];exact Tv _ om_
 have s:g ∣ d:=by rw [<- b];exact T2 _ _
 have l:g ∣ y.natAbs:=by rw [<- b];exact TO _ _
 have E:g<=d:=Up om_ s;refine UD func147 46 U3 fun w0=>Uu 1 [0,1] Z<|Uv 7 Z fun R a=>UU U8<|UA [0,1,13] a Z<|Ux (fun m=>?_) fun m=>?_
 ·have h:(txt z).length<=9/\(txt w).length<=9:=by
   have h1:=(Q1 _ _ ▸ m:_/\_);have h2:((txt z).length:Int)<=9:=aJ h1.1;have h3:((txt w).length:Int)<=9:=aJ h1.2;omega
  exact Uv 2 Z fun R a=>UI (Fh _ e.m_ z w h.1 h.2 o) U7<|C4 1 [4] a Z<|UC U2<|⟨Z,Z⟩
 refine Uv 1 Z fun R a=>UI (yk _ w) U7<|C4 1 [0,1,19] a Z<|G.cut (fun fr C' t u=>(True)/\fr=[(0,[],ai (txt y)),(1,[],ai (bq d))]/\t=[]) ?_ (fun fr _ F u _ v=>?_)
 ·refine Ux (fun f=>?_) fun f=>?_
  ·have i:w<0:=by
    have h:=aJ f;refine Rq fun h2=>?_;rw [az h2] at h;revert h;split <;> decide
   rw [aW i] at hy;refine Uv 1 Z fun R a=>UM (se _ z om_) U7 fl_<|Uy U6<|UM (se _ w om_) U7 fl_<|C4 2 [0,1] a Z<|UL 0 (Mem.le.refl _) (hn_ [0,1] Z) ⟨trivial,by rw [hy,show -w=((d:Nat):Int) by omega,df],Z⟩
  have i:¬ w<0:=by
   intro h2;have h:=QS f;rw [aW h2] at h;exact h dc_
  rw [az i] at hy;refine UL 0 (Mem.le.refl _) (hn_ [0,1] Z) ⟨trivial,by rw [hy,show w=((d:Nat):Int) by omega,df],Z⟩
 obtain ⟨_,rfl,rfl⟩:=v;unfold kS;rw [hy,p,Bc q,b];have x:=If (z:=y) (by rw [r];exact j) g l;have H:=gJ x;have A:d / g<BP ^ 200:=RJ (RR _ _) om_;have I:=gJ A;have J:=mL (y / (g:Int));refine Uv 2 Z fun R a=>UM (Km _ e.m_ y d om_ om_) U7 fl_<|C4 1 [0,1,5] a Z ?_;rw [b];refine Uv 2 Z fun R a=>UM (xi _ e.m_ y g om_ om_ k l) U7 fl_<|C4 4 [0,1,5] a Z<|Uv 2 Z fun R a=>UM (mf _ e.m_ d g om_ om_ k) U7 fl_<|C4 4 [0,1] a Z<|Uu 2 [0,1,40] Z<|Ux (fun c=>?_) fun c=>?_
 ·have h1:d / g=1:=by rw [sP] at c;exact aJ c
  refine Uu 2 [4] Z<|UC U2<|⟨?_,Z⟩;rw [mi h1];simp [eQ]
 have h1:d / g≠1:=by rw [sP] at c;exact QS c
 refine Uv 1 Z fun R a=>Vu U6 (fun _=>(by simp only [Q8,Q7];omega)) U2<|Uy U6<|Vu U6 (fun _=>(by simp only [QV,Q8,Q7];omega)) U2<|C4 1 [4] a Z<|UC U2<|⟨?_,Z⟩;rw [fP h1,Rk];rfl
theorem Po (C:Mem)(a:Tabs C)(z w:Int)(d:z.natAbs<9000000000000000000)(e:w.natAbs<9000000000000000000)(b:w≠0):Gives cx.P 96 [.int .i64 z,.int .i64 w] C (ai (qtx (kS z w))):=by
 have f:9000000000000000000<BP ^ 200:=by decide +kernel
 exact UD func96 10 U3 fun w0=>Uu 1 [0,1] Z<|Uv 1 Z fun R c=>UM (lI _ a.m_ z om_ om_) U7 fl_<|Uy U6<|UM (lI _ a.m_ w om_ om_) U7 fl_<|UM (yN _ a.m_ z w om_ om_ b) U7 fl_<|C4 1 [4] c Z<|UC U2<|⟨Z,Z⟩
theorem Bd (q:Rat):q.num<0 ↔ q<0:=by
 rw [Rat.lt_iff];simp
theorem wm (h:(bq z.natAbs).length<=200):cK (txt z)=true:=by
 refine rS.2 ?_;rw [dE];refine ⟨yw.2 ⟨(bC _).1,h⟩,fun a=>?_⟩;have h1:=aJ a;show 0<bX (bq z.natAbs);rw [(bC _).2];omega
theorem B7 (z:Int):iK (txt z)=z:=by
 unfold iK;rw [dE];show sgZ (decide (z<0)) (bX (bq z.natAbs))=z;rw [(bC _).2];unfold sgZ;by_cases h:z<0
 ·rw [Ra h,aW rfl];omega
 rw [Rj h,az dc_];omega
theorem bO (h:QB 22 q):bg (qtx q)=true:=by
 have h1:(bq q.num.natAbs).length<=200:=by have:=ce h.1 dc_;omega
 have h2:(bq q.den).length<=200:=by have:=ce h.2 dc_;omega
 unfold bg;rw [om];show (cK (txt q.num) && cK ((nO q.den).getD [49]) && pj (iK (txt q.num)) (nO q.den))=true;rw [HC,B7,wm h1,<- df,wm (by rw [RE];exact h2),T8,T8];by_cases a:q.den=1
 ·rw [mi a];rfl
 rw [fP a];unfold pj;show (decide (1<iK (bq q.den)) && !(q.num == 0) && (Nat.gcd q.num.natAbs (iK (bq q.den)).natAbs == 1))=true;have b:iK (bq q.den)=((q.den:Nat):Int):=by rw [<- df,B7]
 have d:=gZ q;rw [b,Ra om_,RE,show Nat.gcd q.num.natAbs q.den=1 from q.reduced];have c:q.num≠0:=by
  intro e;have h3:=q.reduced;rw [e] at h3;have h4:Nat.gcd 0 q.den=1:=h3;rw [Nat.gcd_zero_left] at h4;exact a h4
 simp [c]
theorem xw (h:QB 22 q):qK (bg (qtx q))=0:=by rw [bO h];rfl
abbrev Pt:=Rat × Rat
def gt (p:Pt):List Value:=[ai (qtx p.1),ai (qtx p.2)]
def ptV (p:Pt):Value:=.agg ⟨gt p⟩
def QP (k:Nat)(p:Pt):Prop:=QB k p.1/\QB k p.2
def dG (a b c:Pt):Rat:=(b.1-a.1)*(c.2-a.2)-(b.2-a.2)*(c.1-a.1)
theorem gN (b:Bool):qK b=0/\b=true∨qK b=2/\b=false:=by cases b <;> simp [qK]
def nN (s:Str):List Value:=[ai s]
theorem sb (C:Mem)(h:Tabs C)(v:Value)(l:List Str)(c:Sl C 1 v (l.map nN))(j:∀ s∈l,s.length<=999998):Gives cx.P 151 [v] C (.int .i64 (qK (l.all bg))):=by
 obtain ⟨k,c0,rfl,n,w,_⟩:=id c;have x:maxLen<=9223372036854775807:=by simp [maxLen]
 simp only [al] at c n ⊢;refine UD func151 18 U3 fun w0=>Uu 1 [0] Z<|Uu 3 [6,7,8] Z<|G.loop (fun fr C' o p=>∃ (i:Nat),(i<=l.length/\(l.take i).all bg=true)/\fr=[(6,[],.slice k l.length c0),(7,[],.int .i64 l.length),(8,[],.int .i64 i)]/\o=[]/\p=l.length-i) (hn_ [6,7,8] Z) ⟨0,⟨QT _,by simp⟩,Z,Z,Z⟩ (fun fr y z m q r=>?_);obtain ⟨i,⟨A,d⟩,rfl,rfl,rfl⟩:=r;refine Uu 1 [6,7,8,9] Z<|Ux (fun e=>?_) fun e=>?_
 ·have f:i<l.length:=by simpa using e
  obtain ⟨s,hs⟩:∃ s,l[i]?=some s:=⟨l[i],aj f⟩;refine Uz fun R a=>UK c.m_ U10 om_ (by rw [QU,hs];rfl:(l.map nN)[i]?=some (nN s)) fl_ fun B t=>Uw t U8<|C4 1 [4,6,7,8] a Z<|Uv 1 Z fun R a=>UI (dX _ h.m_ s (j s (QQ hs))) U7<|C4 1 [5,6,7,8] a Z<|Uu 2 [5,6,7,8,15] Z<|Ux (fun b=>?_) fun b=>?_
  ·have g:bg s=false:=by
    rcases gN (bg s) with ⟨h1,h2⟩ | ⟨h1,h2⟩
    ·rw [h1] at b;exact absurd b dc_
    exact h2
   refine Uu 2 [2] Z<|UC U2<|⟨?_,Z⟩;rw [g,show l.all bg=false from S3.2 ⟨s,QQ hs,by rw [g];decide⟩]
  have u:bg s=true:=by
   rcases gN (bg s) with ⟨h1,h2⟩ | ⟨h1,h2⟩
   ·exact h2
   rw [h1] at b;exact absurd b dc_
  refine Uz fun R a=>UF _ U7<|C4 1 [6,7,8] a Z<|UH (m':=l.length-(i+1)) om_ q (hn_ [6,7,8] Z) ⟨i+1,⟨by omega,by rw [Rm,hs,Ty,d];simp [u]⟩,Z,Z,Z⟩
 have f:i=l.length:=by
  have:¬ i<l.length:=by simpa using e
  omega
 refine Uu 1 [2] Z<|UC U2<|⟨?_,Z⟩;rw [f,Q2] at d;rw [d];rfl
theorem OJ (a:s.length<=n)(b:t.length<=n):∀ x∈[s,t],x.length<=n:=by simp [a,b]
theorem IS {u:Str}(a:s.length<=n)(b:t.length<=n)(c:u.length<=n):∀ x∈[s,t,u],x.length<=n:=by simp [a,b,c]
theorem iz (C:Mem)(b:Tabs C)(s t:Str)(c:s.length<=999998)(d:t.length<=999998):Gives cx.P 99 [.agg ⟨[ai s,ai t]⟩] C (.int .i64 (qK (bg s && bg t))):=by
 refine UD func99 9 U3 fun w0=>Uz fun R a=>UQ U6 fun f=>C4 1 [1] a Z<|Uv 1 Z fun R a=>UE af U9<|Uy U6<|UE af U9<|UR [nN s,nN t] U12 fun g _ _ e=>UI (sb _ b.m_ _ [s,t] e.m_ (OJ c d)) U7<|C4 1 [2] a Z<|UC U2<|⟨?_,Z⟩;simp
theorem rC (C:Mem)(b:Tabs C)(s t u:Str)(c:s.length<=999998)(d:t.length<=999998)(e:u.length<=999998):Gives cx.P 162 [.agg ⟨[ai s,ai t,ai u]⟩] C (.int .i64 (qK (bg s && bg t && bg u))):=by
 refine UD func162 11 U3 fun w0=>Uz fun R a=>UQ U6 fun g=>C4 1 [1] a Z<|Uv 1 Z fun R a=>UE af U9<|Uy U6<|UE af U9<|Uy U6<|UE af U9<|UR [nN s,nN t,nN u] U12 fun h _ _ f=>UI (sb _ b.m_ _ [s,t,u] f.m_ (IS c d e)) U7<|C4 1 [2] a Z<|UC U2<|⟨?_,Z⟩;simp [Bool.and_assoc]
theorem kV (C:Mem)(e:Tabs C)(a b c:Pt)(k:Nat)(g:0<k)(l:k<=1000)(d:QP k a)(h:QP k b)(i:QP k c):Gives cx.P 152 [ptV a,ptV b,ptV c] C (ai (qtx (dG a b c))):=by
 have h1:=mB h.1 d.1;have h2:=mB i.2 d.2;have h3:=mB h.2 d.2;have h4:=mB i.1 d.1;exact UD func152 32 U3 fun w0=>Uz fun R f=>UQ U6 fun m=>UQ U6 fun n=>UQ U6 fun o=>C4 1 [3,4,5] f Z<|US [0,1,2,3,4,5,6,7,8,9,10,11] [(4,1),(9,1),(10,1)] Z kr_ fun R j f=>Uy U6<|UE ae U9<|Uy U6<|UE ac U9<|UT (fun _=>(eg _ e.m_ b.1 a.1 k g om_ h.1 d.1)) U9<|Uy U6<|UE af U9<|Uy U6<|UE ac U9<|UT (fun _=>(eg _ e.m_ c.2 a.2 k g om_ i.2 d.2)) U9<|UT (fun _=>(dT _ e.m_ (b.1-a.1) (c.2-a.2) (k+k+1) om_ om_ h1 h2)) U9<|C4 1 [3,4,5,7] f Z<|US [0,1,2,3,4,5,6,7,8,9,10,11,12,13] [(5,1),(10,1),(11,1),(12,1)] Z kr_ fun R j f=>UB 2 Z<|UE ae U9<|Uy U6<|UE ac U9<|UT (fun _=>(eg _ e.m_ b.2 a.2 k g om_ h.2 d.2)) U9<|Uy U6<|UE af U9<|Uy U6<|UE ac U9<|UT (fun _=>(eg _ e.m_ c.1 a.1 k g om_ i.1 d.1)) U9<|UT (fun _=>(dT _ e.m_ (b.2-a.2) (c.1-a.1) (k+k+1) om_ om_ h3 h4)) U9<|UT (fun _=>(eg _ e.m_ ((b.1-a.1)*(c.2-a.2)) ((b.2-a.2)*(c.1-a.1)) (k+k+1+(k+k+1)) om_ om_ (qV h1 h2) (qV h3 h4))) U9<|C4 1 [6] f Z<|UC U2<|⟨Z,Z⟩
theorem zy {a b c:Pt}(d:QP k a)(e:QP k b)(f:QP k c):QB (8*k+5) (dG a b c):=by
 have h:=mB (qV (mB e.1 d.1) (mB f.2 d.2)) (qV (mB e.2 d.2) (mB f.1 d.1));exact h.le om_
theorem oL (C:Mem)(h:Tabs C)(a b c:Pt)(k:Nat)(i:0<k)(j:k<=1000)(e:QP k a)(f:QP k b)(g:QP k c):Gives cx.P 100 [ptV a,ptV b,ptV c] C (.int .i64 (eN (dG a b c).num)):=by
 exact UD func100 12 U3 fun w0=>Uz fun R d=>UQ U6 fun l=>UQ U6 fun m=>UQ U6 fun n=>C4 1 [3,4,5] d Z<|Uz fun R d=>UE ac U9<|UE ae U9<|UE af U9<|UI (kV _ h.m_ a b c k i j e f g) U7<|UM (fX _ (dG a b c) (by have:=bJ (zy e f g) om_;omega)) U7 fl_<|C4 1 [6] d Z<|UC U2<|⟨Z,Z⟩
theorem tS (C:Mem)(c:Tabs C)(q:Rat)(b:QB 22 q):Gives cx.P 274 [ai (qtx q)] C (.tuple #[ai (qtx q),.int .i64 0]):=by
 refine UD func274 8 U3 fun w0=>Uu 2 [0] Z<|Uv 1 Z fun R d=>UM (dX _ c.m_ _ (by have:=bJ b dc_;omega)) U7 fl_<|C4 1 [0,6] d Z<|Ux (fun a=>?_) fun a=>?_
 ·exfalso;rw [xw b] at a;exact absurd a dc_
 refine Uu 3 [2,3] Z<|UJ (G.dropAll (UX U3 ?_));exact ⟨Z,Z⟩
abbrev Tri:=Nat × Nat × Nat
def kC (t:Tri):List Value:=[.int .i64 (t.1:Nat),.int .i64 (t.2.1:Nat),.int .i64 (t.2.2:Nat)]
def N5 (a b c:Pt):Value:=.agg ⟨gt a++gt b++gt c⟩
theorem Ea (C:Mem)(k l:Value)(d:List Pt)(g:List Tri)(i:Nat)(t:Tri)(a b c:Pt)(e:Sl C 2 k (d.map gt))(h:Sl C 3 l (g.map kC))(m:g[i]?=some t)(n:d[t.1]?=some a)(o:d[t.2.1]?=some b)(p:d[t.2.2]?=some c) :
  Gives cx.P 156 [.agg ⟨[k,l]⟩,.int .i64 i] C (N5 a b c):=by
 obtain ⟨x,y,rfl,q,z,_⟩:=id e;obtain ⟨A2,c2,rfl,r,A,_⟩:=id h;have B:maxLen<=9223372036854775807:=by simp [maxLen]
 simp only [al] at e h q r ⊢;have D:=(aD.1 m).1;have E:=(aD.1 n).1;have F:=(aD.1 o).1;have G:=(aD.1 p).1;refine UD func156 30 U3 fun w0=>Uz fun R f=>UQ U6 fun H=>UP U5 fun I=>UA [1,2,4] f Z<|Uv 1 Z fun R f=>UE ae U9<|Uy U6<|UK h.m_ U10 om_ (by rw [QU,m];rfl:(g.map kC)[i]?=some (kC t)) fl_ fun J s=>Uw s U8<|UP U5 fun K=>UG (j:=0) U12<|UA [2,4,5] f Z<|US [0,1,2,3,4,5,6,7,8,9,10,11,12,13,14,15,16,17,18,19] [] Z kr_ fun R L f=>Uy U6<|UE ac U9<|UV (0) U9 ag U2<|UE af U9<|UK e.m_ U10 om_ (by rw [QU,n];rfl:(d.map gt)[t.1]?=some (gt a)) fl_ fun M u=>Uw u U8<|Uy U6<|UE ac U9<|UV (1) U9 ag U2<|UE af U9<|UK e.m_ U10 om_ (by rw [QU,o];rfl:(d.map gt)[t.2.1]?=some (gt b)) fl_ fun N v=>Uw v U8<|Uy U6<|UE ac U9<|UV (2) U9 ag U2<|UE af U9<|UK e.m_ U10 om_ (by rw [QU,p];rfl:(d.map gt)[t.2.2]?=some (gt c)) fl_ fun O w=>Uw w U8<|UO (gt a++gt b++gt c) U8<|UG (j:=1) U12<|UA [4] f Z<|UJ (Vm af U4 ?_);exact ⟨Z,Z⟩
theorem G4 (C:Mem)(d:Tabs C)(a b c p:Pt)(k:Nat)(e:0<k)(f:k<=1000)(j:QP k a)(l:QP k b)(m:QP k c)(g:QP k p) :
  Gives cx.P 225 [N5 a b c,ptV p] C (.bool (decide (0<=dG a b p) && decide (0<=dG b c p) && decide (0<=dG c a p))):=by
 refine UD func225 30 U3 fun w0=>Uz fun R i=>UQ U6 fun n=>UQ U6 fun o=>C4 1 [2,3] i Z<|Uz fun R i=>UV (0) U9 ag U2<|UE ae U9<|UV (2) U9 ag U2<|UE ae U9<|UE af U9<|UI (oL _ d.m_ a b p k e f j l g) U7<|UB 2 Z<|UV (2) U9 ag U2<|UE ae U9<|UV (4) U9 ag U2<|UE ae U9<|UE af U9<|Vb (fun _=>(oL _ d.m_ b c p k e f l m g)) U9<|Uy U6<|UU U8<|Uy U6<|UV (4) U9 ag U2<|UE ae U9<|UV (0) U9 ag U2<|UE ae U9<|UE af U9<|Vb (fun _=>(oL _ d.m_ c a p k e f m j g)) U9<|Uy U6<|UU U8<|C4 1 [4] i Z<|UC U2<|⟨?_,Z⟩;have hs:∀ q:Rat,decide (eN q.num ≥ 0)=decide (0<=q):=fun q=>by
  rw [RC,<- Rat.num_nonneg];rcases ep q.num with h | h | h <;> omega
 rw [<- hs,<- hs,<- hs]
open Go Go.Jog Go.RowKit Go.Shelf
attribute [local go_sem] Oper.semAt_some
def MI (zs:Nat->Int)(k:Nat):Value:=.agg #[.int .i64 (zs k),.int .i64 (zs ((k+1) % 3))]
set_option maxRecDepth 100000 in
theorem I9 (l Bs:Nat)(zs:Nat->Int)(J:Nat->World->Prop)
  (hD:∀ k W,J k W->J k W.drew)
  (hJ:∀ k W,J k W->∀ j,j<3->W.cell? ⟨Bs,j,none⟩=some (.int .i64 (zs j)))
  (hY:∀ k W,J k W->k<3->YieldAt Fence.wide 1 Tryz.prog l #[.int .i64 (k:Nat),MI zs k] W fun e W'=>e=.returned (.bool true)/\J (k+1) W')
  (W:World) (h0:J 0 W) :
  CallsIn Fence.wide 2 Tryz.prog 265 #[.func (.yield l) #[] #[],.pointer (some ⟨Bs,0,none⟩)] W fun e W'=>(∃ v,e=.returned v)/\J 3 W':=by
 refine callsIn_of_wp func265 Z trivial ?_ Z;simp only [Tryz.ntmps265,SM,Q8,Q7,Nat.reduceAdd,Nat.reduceSub,Ui,Uj,List.push_toArray,List.append_toArray,SI,SD]
 gi_wp2
 gi_loopw [4] (fun i wr=>∃ k:Nat,k<=3/\i=.int .i64 k/\J k wr) (fun i _=>(3-intOf i).toNat)
 case atStart=>exact ⟨0,by omega,rfl,h0⟩
 case round =>
  obtain ⟨k,hk,rfl,hJs⟩:=hrel;by_cases hlt:k<3
  ·have hJd:=hD k wr hJs;have hcd:=hJ k _ hJd;obtain ⟨fn,tmps,assign,body,hy,hR⟩:=hY k _ hJd hlt;rcases (by omega:k=0∨k=1∨k=2) with rfl | rfl | rfl
   ·have hc0:=hcd 0 om_;have hc1:=hcd 1 om_;have hy2:Sem.run Tryz.prog (Instr.yield l #[Value.int .i64 0,Value.agg #[.int .i64 (zs 0),.int .i64 (zs 1)]]) wr.drew=.ok (.round l fn tmps assign body) wr.drew:=hy;clear hy
    gi_wp2
    gi_region_with (refine hR.mono ?_;rintro e W3 ⟨rfl,hJ3⟩)
    all_goals
     gi_wp2
     go_roundw
     case rel=>exact ⟨1,by omega,rfl,hJ3⟩
     case measure=>simp [intOf]
   ·have hc0:=hcd 1 om_;have hc1:=hcd 2 om_;have hy2:Sem.run Tryz.prog (Instr.yield l #[Value.int .i64 1,Value.agg #[.int .i64 (zs 1),.int .i64 (zs 2)]]) wr.drew=.ok (.round l fn tmps assign body) wr.drew:=hy;clear hy
    gi_wp2
    gi_region_with (refine hR.mono ?_;rintro e W3 ⟨rfl,hJ3⟩)
    all_goals
     gi_wp2
     go_roundw
     case rel=>exact ⟨2,by omega,rfl,hJ3⟩
     case measure=>simp [intOf]
   have hc0:=hcd 2 om_;have hc1:=hcd 0 om_;have hy2:Sem.run Tryz.prog (Instr.yield l #[Value.int .i64 2,Value.agg #[.int .i64 (zs 2),.int .i64 (zs 0)]]) wr.drew=.ok (.round l fn tmps assign body) wr.drew:=hy;clear hy
   gi_wp2
   gi_region_with (refine hR.mono ?_;rintro e W3 ⟨rfl,hJ3⟩)
   all_goals
    gi_wp2
    go_roundw
    case rel=>exact ⟨3,by omega,rfl,hJ3⟩
    case measure=>simp [intOf]
  obtain rfl:k=3:=by omega
  gi_wp2
  go_end0
  exact ⟨⟨_,Z⟩,hJs⟩
def EZ (t:Tri)(j:Nat):Int:=if j=0 then (t.1:Nat) else if j=1 then (t.2.1:Nat) else (t.2.2:Nat)
def vY (t:Tri):List (Value × Value):=(List.range 3).map fun k=>(.int .i64 (k:Nat),MI (EZ t) k)
theorem mN (t:Tri):(vY t).length=3:=rfl
theorem vX {t:Tri}(h:k<3):(vY t)[k]?=some (.int .i64 (k:Nat),MI (EZ t) k):=by
 simp [vY,h]
theorem Db (C:Mem)(b c:Nat)(t:Tri)(d:C b=some (.cells ⟨kC t⟩ c (0,0))) :
  P9 Tryz.prog 265 #[.pointer (some ⟨b,0,none⟩)] C (vY t):=by
 intro l J W hC e f h0;refine I9 l b (EZ t) J e (fun k W a j h=>?_) (fun k W a g=>f k _ W a (vX g)) W h0;have h1:=hC k W a b _ d;rcases (by omega:j=0∨j=1∨j=2) with rfl | rfl | rfl <;> simp [World.cell?,h1,kC,EZ]
theorem Ja (C:Mem)(t:Tri):Pur cx.P 227 [.agg ⟨kC t⟩] C fun r C'=>∃ b,r=.func (.func 265) #[] #[.pointer (some ⟨b,0,none⟩)]/\C' b=some (.cells ⟨kC t⟩ 108 (0,0)):=by
 exact UD func227 4 U3 fun w0=>Uz fun R a=>UQ U6 fun d=>C4 1 [1] a Z<|Uu 2 [2] Z<|G.freeze 0 Z fun e f c=>UC U2<|⟨Z,_,Z,c⟩
def oX (t:Tri)(k:Nat):Int × Int:=(EZ t k,EZ t ((k+1) % 3))
abbrev Oy:=List ((Int × Int) × Value)
def EE (m:Oy)(i:Nat)(t:Tri):Nat->Oy
 | 0=>m
 | k+1=>fU (EE m i t k) (oX t k) (.int .i64 (i:Nat))
def ya (tris:List Tri):Nat->Oy
 | 0=>[]
 | n+1=>EE (ya tris n) n (tris.getD n (0,0,0)) 3
noncomputable def kI2:KeyP cx.P 183 (Int × Int):=Qx rfl rfl rfl kr_
theorem Gd (C:Mem)(q I:Value)(a:List Tri)(N:a≠[])(x:Sl C 3 I (a.map kC))(O:∀ i t k,a[i]?=some t->k<3->dq (EE (ya a i) i t k) (oX t k)=none) :
  Pur cx.P 153 [.agg ⟨[q,I]⟩] C fun u D=>∃ b,u=.tuple #[.map (some b),.bool true]/\D b=some (aR qu (ya a a.length)):=by
 obtain ⟨A2,c2,rfl,Q,ab,_⟩:=id x;have ad:maxLen<=9223372036854775807:=by simp [maxLen]
 simp only [al] at x Q ⊢;refine VS kr_ func153 Z 36 Z Z fun w0=>Uz fun R c=>UQ U6 fun r=>UP U5 fun h=>UP U5 fun n=>UA [1,2,3] c Z<|Uz fun R c=>Wr kI2 Z Z Z Z fl_ fun f=>UP U5 fun o=>UG (j:=0) U12<|UA [1,2,3,4] c Z<|Uv 1 Z fun R c=>UE (.tail _ aa) U9<|C4 2 [2,3,4,13,14,15] c Z<|G.perm (L':=[.obj o (.cells ⟨[.map (some f)]⟩ 242 (0,0)),.obj f (aR qu []),.obj n (.cells ⟨[.bool false]⟩ 4 (0,0)),.obj h (.cells ⟨[.map none]⟩ 242 (0,0)),.obj r (.cells ⟨[q,.slice A2 a.length c2]⟩ 36 (0,0))]) (QW _)<|Xo (fun dd fr C' d S=>∃ (i:Nat)(g:List Nat),(i<=a.length/\g.length=i)/\dd=g.map zi/\fr=[(2,[],.pointer (some ⟨h,0,none⟩)),(3,[],.pointer (some ⟨n,0,none⟩)),(4,[],.pointer (some ⟨o,0,none⟩)),(13,[],.slice A2 a.length c2),(14,[],.int .i64 a.length),(15,[],.int .i64 i)]/\d=[.obj o (.cells ⟨[.map (some f)]⟩ 242 (0,0)),.obj f (aR qu (ya a i)),.obj n (.cells ⟨[.bool false]⟩ 4 (0,0)),.obj h (.cells ⟨[.map none]⟩ 242 (0,0)),.obj r (.cells ⟨[q,.slice A2 a.length c2]⟩ 36 (0,0))]++g.map rB/\S=a.length-i) (hn_ [2,3,4,13,14,15] Z) ⟨0,[],⟨QT _,Z⟩,Z,Z,Z,Z⟩ (fun dd fr ag ah m _ p=>?_);obtain ⟨i,g,⟨hi,y⟩,rfl,rfl,rfl,rfl⟩:=p;refine Uu 1 [2,3,4,13,14,15,16] Z<|Ux (fun A=>?_) fun A=>?_
 ·have B:i<a.length:=by simpa using A
  obtain ⟨t,E⟩:∃ t,a[i]?=some t:=⟨a[i],aj B⟩;refine Uv 1 Z fun R c=>UK x.m_ U10 om_ (by rw [QU,E];rfl:(a.map kC)[i]?=some (kC t)) fl_ fun ai T=>Uw T U8<|UP U5 fun F=>UP U5 fun J=>UG (j:=1) U12<|UG (j:=1) U12<|UA [2,3,4,5,6,13,14,15] c Z<|Uz fun R c=>UE af U9<|Ve (Ja _ t) U7 fun ak _ _ U=>UA [2,3,4,5,13,14,15,21] c Z ?_;obtain ⟨V,rfl,W⟩:=U;refine Xu Z Z kr_ (Db _ V _ t W) (fun j d=>∃ (z:Unit),(j<=3)/\d=[.obj J (.cells ⟨kC t⟩ 108 (0,0)),.obj F (.cells ⟨[.int .i64 i]⟩ 3 (0,0)),.obj o (.cells ⟨[.map (some f)]⟩ 242 (0,0)),.obj f (aR qu (EE (ya a i) i t j)),.obj n (.cells ⟨[.bool false]⟩ 4 (0,0)),.obj h (.cells ⟨[.map none]⟩ 242 (0,0)),.obj r (.cells ⟨[q,.slice A2 a.length c2]⟩ 36 (0,0))]++g.map rB) ⟨(),QT _,Z⟩ Z (fun _ _=>rfl) (fun j d fr LA=>∃ (s:Nat),fr=[(2,[],.pointer (some ⟨h,0,none⟩)),(3,[],.pointer (some ⟨n,0,none⟩)),(4,[],.pointer (some ⟨o,0,none⟩)),(5,[],.pointer (some ⟨F,0,none⟩)),(8,[],.pointer (some ⟨s,0,none⟩))]/\LA=.obj s (.cells ⟨[.int .i64 (oX t j).1,.int .i64 (oX t j).2]⟩ 183 (0,0))::d) (fun l j u v d W1 p w=>?_) (fun l j u v d am LA W1 p w X=>?_) (fun K d p=>?_)
  ·obtain ⟨z,L,rfl⟩:=p;have H:j<3:=by have:=(aD.1 w).1;rwa [mN] at this
   rw [vX H] at w;cases w
   exact Uz fun R c=>UP U5 fun s=>UG (j:=0) U12<|UA [2,3,4,5,8] c Z<|Xv (hn_ [2,3,4,5,8] Z) ⟨s,Z,Z⟩
  ·obtain ⟨z,L,rfl⟩:=p;obtain ⟨s,rfl,rfl⟩:=X;have H:j<3:=by have:=(aD.1 w).1;rwa [mN] at this
   refine Uz fun R c=>UE aa U9<|UE af U9<|Ws kI2 (.tail _ aa) Z Z Z Z Z Z Z Z Z (congrArg (kN _ true) (O i t j E H)) Z Z<|C4 5 [2,3,4,5,8,10] c Z<|Uu 1 [2,3,4,5,8,30] Z<|Ux (fun M=>?_) fun M=>?_
   ·exact absurd M dc_
   refine Uz fun R c=>UE aa U9<|UE af U9<|UE ac U9<|Wn kI2 (j:=4) Z Z Z Z Z Z Z Z Z Z<|VE [] trivial (c _ _ _ Z ?_);exact Vo 1 Z<|Wc (R:=fun d=>∃ (z:Unit),((j+1)<=3)/\d=[.obj J (.cells ⟨kC t⟩ 108 (0,0)),.obj F (.cells ⟨[.int .i64 i]⟩ 3 (0,0)),.obj o (.cells ⟨[.map (some f)]⟩ 242 (0,0)),.obj f (aR qu (EE (ya a i) i t (j+1))),.obj n (.cells ⟨[.bool false]⟩ 4 (0,0)),.obj h (.cells ⟨[.map none]⟩ 242 (0,0)),.obj r (.cells ⟨[q,.slice A2 a.length c2]⟩ 36 (0,0))]++g.map rB) (List.perm_middle (l₁:=[_,_,_])).symm ⟨(),om_,Z⟩
  obtain ⟨z,L,rfl⟩:=p;refine Uz fun R c=>UF _ U7<|C4 1 [2,3,4,13,14,15] c Z<|Vo 1 Z<|Vo 1 Z<|G.perm (L':=[.obj o (.cells ⟨[.map (some f)]⟩ 242 (0,0)),.obj f (aR qu (ya a (i+1))),.obj n (.cells ⟨[.bool false]⟩ 4 (0,0)),.obj h (.cells ⟨[.map none]⟩ 242 (0,0)),.obj r (.cells ⟨[q,.slice A2 a.length c2]⟩ 36 (0,0))]++(K::g).map rB) (by
   rw [show ya a (i+1)=EE (ya a i) i t (vY t).length by rw [mN,ya,au,E];rfl];exact (List.perm_middle (l₁:=[_,_,_,_,_])).symm) ?_
  refine Xn (m':=a.length-(i+1)) om_ mup (hn_ [2,3,4,13,14,15] Z) ⟨i+1,K::g,⟨by omega,by simp [y]⟩,Z,Z,Z,Z⟩
 have B:i=a.length:=by
  have:¬ i<a.length:=by simpa using A
  omega
 refine Uz fun R c=>UE af U9<|UG (j:=3) U12<|UG (j:=3) U12<|UA [2,3] c Z<|G.freeze 3 Z fun Cf an Y=>G.perm (L':=g.map rB++[_,_,_,_]) (Rv (l₁:=[_,_,_,_]))<|UJ (Xq (O5 ae af Z Z Z Z Z Z Z) ?_ ?_)
 ·exact ⟨Z,f,Z,by rw [<- B];exact Y⟩
 intro e;rw [e] at y;have:=RD.2 N;simp at y;omega
def LB (kd a b:Int)(h:Bool):Value:=.agg ⟨[.int .u8 kd,.int .i8 a,.int .i8 b,.bool h]⟩
def dV (h:Bool):Int:=if h then 2 else 1
def dC (a b:Int)(h:Bool)(x y by':Int):Pt:=(kS (x+a.tmod 8*by') (dV h*by'),kS (y+b.tmod 8*by') (dV h*by'))
theorem yc (a:Int):-8<a.tmod 8/\a.tmod 8<8:=by
 have h:(a.tmod 8).natAbs=a.natAbs % 8:=TB a 8;omega
theorem Bn (C:Mem)(g:Tabs C)(i a b:Int)(h:Bool)(x y n:Int)(v:0<n)(w:n<=4)(A:-128<=x/\x<=127)(B:-128<=y/\y<=127) :
  Gives cx.P 95 [LB i a b h,.agg ⟨[.int .i8 x,.int .i8 y]⟩,.int .i64 n] C (ptV (dC a b h x y n)):=by
 have k:=yc a;have l:=yc b;have m:∀ z:Int, -8<z->z<8->-32<z*n/\z*n<32:=fun z h1 h2=>by
  rcases (by omega:n=1∨n=2∨n=3∨n=4) with e | e | e | e <;> subst e <;> omega
 have D:=m _ k.1 k.2;have E:=m _ l.1 l.2;have r:dV h=1∨dV h=2:=by cases h <;> simp [dV]
 have F:0<dV h*n/\dV h*n<=8:=by rcases r with e | e <;> rw [e] <;> omega
 refine UD func95 53 U3 fun w0=>Uz fun R d=>UQ U6 fun o=>UQ U6 fun p=>UP U5 fun q=>UA [2,3,4,6] d Z<|Uu 1 [2,3,4,6,7] Z<|Uv 1 Z fun R d=>UE ac U9<|UA [2,3,4,6,7,13] d Z<|G.cut (fun fr C' s t=>(True)/\fr=[(2,[],.int .i64 n),(3,[],.pointer (some ⟨o,0,none⟩)),(4,[],.pointer (some ⟨p,0,none⟩)),(6,[],.pointer (some ⟨q,0,none⟩)),(7,[],.int .i64 (dV h))]/\s=[.obj q (.cells ⟨[ai [],ai []]⟩ 58 (0,0)),.obj p (.cells ⟨[.int .i8 x,.int .i8 y]⟩ 23 (0,0)),.obj o (.cells ⟨[.int .u8 i,.int .i8 a,.int .i8 b,.bool h]⟩ 25 (0,0))]) ?_ (fun fr _ H t _ u=>?_)
 ·refine Ux (fun f=>?_) fun f=>?_
  ·have h1:h=true:=f;subst h1;refine Uu 1 [2,3,4,6,7] Z<|UL 0 (Mem.le.refl _) (hn_ [2,3,4,6,7] Z) ⟨trivial,Z,Z⟩
  have h1:h=false:=by simpa using f
  subst h1;refine UL 0 (Mem.le.refl _) (hn_ [2,3,4,6,7] Z) ⟨trivial,Z,Z⟩
 obtain ⟨_,rfl,rfl⟩:=u;refine Uz fun R d=>UV (0) U9 ag U2<|UE ae U9<|Vi (c:=x) U8 (wrap_i64 om_ om_) fl_<|Uy U6<|UV (1) U9 ag U2<|UE ac U9<|VB (a.tmod 8) U6 dc_ U3<|Vi (c:=a.tmod 8) U8 (wrap_i64 om_ om_) fl_<|Uy U6<|UF _ U7<|UF _ U7<|UB 2 Z<|UF _ U7<|UM (FD _ g.m_ (x+a.tmod 8*n) (dV h*n) om_ om_ om_) U7 fl_<|C4 5 [2,3,4,6,7,8] d Z<|Uz fun R d=>UV (1) U9 ag U2<|UE ae U9<|Vi (c:=y) U8 (wrap_i64 om_ om_) fl_<|Uy U6<|UV (2) U9 ag U2<|UE ac U9<|VB (b.tmod 8) U6 dc_ U3<|Vi (c:=b.tmod 8) U8 (wrap_i64 om_ om_) fl_<|Uy U6<|UF _ U7<|UF _ U7<|UB 2 Z<|UF _ U7<|UM (FD _ g.m_ (y+b.tmod 8*n) (dV h*n) om_ om_ om_) U7 fl_<|C4 5 [6,8,10] d Z<|Uv 2 Z fun R d=>UO (gt (dC a b h x y n)) U8<|UG (j:=0) U12<|UA [6] d Z<|UJ (Vm af U4 ?_);exact ⟨Z,Z⟩
def gx (s p:Nat):Value:=.agg ⟨[.int .i64 (s:Nat),.int .i64 (p:Nat)]⟩
theorem lB (C:Mem)(s p:Nat)(h:s*p<=1000000000):Gives cx.P 65 [gx s p] C (.int .i64 ((s*p:Nat):Int)):=by
 exact UD func65 8 U3 fun w0=>Uz fun R a=>UQ U6 fun b=>C4 1 [1] a Z<|Uv 1 Z fun R a=>UE af U9<|Uy U6<|UE af U9<|UF _ U7<|C4 1 [2] a Z<|UC U2<|⟨Z,Z⟩
theorem OZ (C:Mem)(s p:Nat)(i k:Int)(h:-1000000000000<=i*p/\i*p<=1000000000000)(b:-1000000000<=k/\k<=1000000000):Gives cx.P 190 [gx s p,.int .i64 i,.int .i64 k] C (.int .i64 (i*p+k)):=by
 exact UD func190 13 U3 fun w0=>Uz fun R a=>UQ U6 fun c=>C4 1 [1,2,3] a Z<|Uv 2 Z fun R a=>UE af U9<|UF _ U7<|Uy U6<|UF _ U7<|C4 1 [6] a Z<|UC U2<|⟨Z,Z⟩
end Go.Proofs.YthnpijdjlddpmaaGreatDoor
