/- Laws that the proofs of this seat share, part 7. -/
import Derived.Test.YthnpijdjlddpmaaGreatDoorG6
import Derived.Test.YthnpijdjlddpmaaGreatDoorShelf
import Derived.RangeFuncBox
import Derived.RangeFuncLeaves
import Derived.Shelf.Abstract
import Derived.WalkKit
import Derived.OwnWalkIn
import Derived.TacticsInMore
import Derived.LoopNIn
import Derived.LoopIn
import Derived.Stop.RegionWithIn
import Derived.Test.YthnpijdjlddpmaaGreatDoorProg
set_option maxHeartbeats 4000000
namespace Go.Proofs.YthnpijdjlddpmaaGreatDoor
open Go.Proofs.Tryz
open Go Go.Jog
set_option maxRecDepth 100000
variable {a b:Rat}{d g k m n:Nat}{q:Rat}{s t:Str}{w z:Int}
theorem bU (h:n<B9 ^ k)(a:0<k):(bj n).length<=9*k:=ek (by rw [JC];exact h) om_
theorem yk (h:(txt z).length<=m):z.natAbs<10 ^ m:=by
 have h1:(bj z.natAbs).length<=m:=by
  unfold txt at h;split at h
  ·simp at h;omega
  exact h
 obtain ⟨h2,h3⟩:=bA z.natAbs;have h4:=dE h2.1;rw [h3] at h4;exact PD h4 (OO dc_ h1)
theorem e18:(10:Nat) ^ 18=1000000000000000000:=by decide
theorem e9:(10:Nat) ^ 9=1000000000:=by decide
theorem wY {a b:Nat}(c:a<B9 ^ k)(d:b<B9 ^ k):a+b<B9 ^ (k+1):=by
 rw [PE];have:B9 ^ k*2<=B9 ^ k*B9:=PO _ dc_;omega
theorem Li (C:Mem)(l:Tabs C)(z w:Int)(k:Nat)(u:0<k)(Y:k<=40000)(f:z.natAbs<B9 ^ k)(g:w.natAbs<B9 ^ k):Gives cx.P 145 [ai (txt z),ai (txt w)] C (ai (txt (z+w))):=by
 have aa:=bU f u;have ab:=bU g u;refine Sc func145 62 U3 fun w0=>C6 1 [0,1] Z<|R4 1 Z fun R a=>Sg (jh _ z 18 (Oo _)) U7<|C4 5 [0,1,5,6] a Z<|C6 1 [0,1,5,16] Z<|G.cut (fun fr C' m o=>(True)/\fr=[(0,[],ai (txt z)),(1,[],ai (txt w))]/\m=[]) ?_ (fun fr _ ac o _ p=>?_)
 ·refine R6 (fun v=>?_) fun v=>?_
  ·have x:=NM v;rw [aI x];have K:=yk x;rw [e18] at K;refine R4 1 Z fun R a=>Sg (jh _ w 18 (Oo _)) U7<|C4 5 [0,1,5,7,8] a Z<|C6 1 [0,1,5,7,22] Z<|R6 (fun y=>?_) fun y=>?_
   ·have A:=NM y;rw [aI A];have L:=yk A;rw [e18] at L;exact R4 2 Z fun R a=>Se _ U7<|Sk (rt _ l.m_ (z+w) om_ om_) U7 fl_<|C4 1 [4] a Z<|Sb U2<|⟨Z,Z⟩
   refine Si 0 (Mem.le.refl _) (hn_ [0,1] Z) ⟨trivial,Z,Z⟩
  refine Si 0 (Mem.le.refl _) (hn_ [0,1] Z) ⟨trivial,Z,Z⟩
 obtain ⟨_,rfl,rfl⟩:=p;refine R4 1 Z fun R a=>SD (iI _ z om_) U7 fl_ fun ad _ _ M=>R7 U6<|SD (iI _ w om_) U7 fl_ fun ag _ _ N=>Sq U5 fun B=>Sq U5 (fun D=>?_);obtain ⟨pz,rfl,d⟩:=M;obtain ⟨pw,rfl,e⟩:=N;obtain ⟨Az,mz,cz,rfl⟩:=d.form;obtain ⟨Aw,mw,cw,rfl⟩:=e.form;refine Sf (j:=1) U12<|Sf (j:=1) U12<|Sa [9,10] a Z<|R4 1 Z fun R a=>Sd ae U9<|R7 U6<|Sd af U9<|C4 1 [9,10,35] a Z<|R6 (fun q=>?_) fun q=>?_
 ·have i:decide (z<0)=decide (w<0):=by simpa using q
  refine Ss [0,1,2,3,4,5,6,7,8,9] [(8,1)] Z kr_ fun R O a=>R7 U6<|Sd ae U9<|R7 U6<|Sd ae U9<|R7 U6<|Sd af U9<|SD (JF (k:=k) _ d.m_ e.m_ f g om_) U7 fl_ (fun ah _ _ E=>?_);obtain ⟨Q,S,T,rfl⟩:=E.form;exact Sn [.bool (decide (z<0)),_] U8<|Su (fun _=>(ju _ l.m_ _ _ _ E (df (k:=100000) (n:=k+1) (wY f g) om_))) U9<|C4 1 [4] a Z<|Sb U2<|⟨by rw [Ks i],Z⟩
 have i:decide (z<0)≠decide (w<0):=by simpa using q
 refine R4 1 Z fun R a=>Sd ae U9<|R7 U6<|Sd af U9<|Sg (oD _ d.m_ e.m_) U7<|C4 1 [9,10,50] a Z<|G.cut (fun fr C' m o=>∃ (b c:Int)(r s:Value),(NineC C' r b.natAbs/\NineC C' s c.natAbs/\c.natAbs<=b.natAbs/\b+c=z+w/\decide (b<0)≠decide (c<0)/\b.natAbs<B9 ^ k)/\fr=[(9,[],.pointer (some ⟨B,0,none⟩)),(10,[],.pointer (some ⟨D,0,none⟩))]/\m=[.obj D (.cells ⟨[.bool (decide (c<0)),s]⟩ 307 (0,0)),.obj B (.cells ⟨[.bool (decide (b<0)),r]⟩ 307 (0,0))]) ?_ (fun fr _ aj o _ p=>?_)
 ·refine R6 (fun t=>?_) fun t=>?_
  ·have F:z.natAbs<w.natAbs:=by
    have:ji z.natAbs w.natAbs<0:=by simpa using t
    exact iH.1 this
   refine R8 fun R a=>Sd af U9<|Sd ae U9<|Sf (j:=1) U12<|Sf (j:=1) U12<|Sa [9,10] a Z<|Si 0 mup (hn_ [9,10] Z) ⟨w,z,_,_,⟨e.mono mup,d.mono mup,by omega,Int.add_comm w z,Ne.symm i,g⟩,Z,Z⟩
  have F:w.natAbs<=z.natAbs:=by
   have h:¬ ji z.natAbs w.natAbs<0:=by simpa using t
   rw [iH] at h;omega
  refine Si 0 mup (hn_ [9,10] Z) ⟨z,w,_,_,⟨d.mono mup,e.mono mup,F,Z,i,f⟩,Z,Z⟩
 obtain ⟨b ,c ,r ,s,⟨H,I,U,V,W,X⟩,rfl,rfl⟩:=p;obtain ⟨ak,al,am,rfl⟩:=H.form;obtain ⟨an,ao,ap,rfl⟩:=I.form;refine Ss [0,1,2,3,4,5,6,7,8,9] [(8,1)] Z kr_ fun R O a=>R7 U6<|Sd ae U9<|R7 U6<|Sd ae U9<|R7 U6<|Sd af U9<|SD (sX (k:=k) _ H.m_ I.m_ X U om_) U7 fl_ (fun aq _ _ J=>?_);obtain ⟨Q,S,T,rfl⟩:=J.form;exact Sn [.bool (decide (b<0)),_] U8<|Su (fun _=>(ju _ l.m_ _ _ _ J (df (k:=100000) (n:=k) om_ om_))) U9<|C4 1 [4] a Z<|Sb U2<|⟨by rw [Kt W om_,V],Z⟩
theorem Ku (z w:Int):sgZ (decide (z<0) != decide (w<0)) (z.natAbs*w.natAbs)=z*w:=by
 unfold sgZ;have h1:z=if z<0 then -(z.natAbs:Int) else (z.natAbs:Int):=by split <;> omega
 have h2:w=if w<0 then -(w.natAbs:Int) else (w.natAbs:Int):=by split <;> omega
 by_cases a:z<0 <;> by_cases hw:w<0
 ·rw [OK a,OK hw,aA dc_];rw [aI a] at h1;rw [aI hw] at h2;rw [Pj]
  conv=>rhs;rw [h1,h2]
  rw [Int.neg_mul_neg]
 ·rw [OK a,OV hw,aI dc_];rw [aI a] at h1;rw [aA hw] at h2;rw [Pj]
  conv=>rhs;rw [h1,h2]
  rw [Int.neg_mul]
 ·rw [OV a,OK hw,aI dc_];rw [aA a] at h1;rw [aI hw] at h2;rw [Pj]
  conv=>rhs;rw [h1,h2]
  rw [Int.mul_neg]
 rw [OV a,OV hw,aA dc_];rw [aA a] at h1;rw [aA hw] at h2;rw [Pj]
 conv=>rhs;rw [h1,h2]
theorem na {a b:Nat}(c:a<B9 ^ k)(d:b<B9 ^ k):a*b<B9 ^ (k+k):=by
 rw [Rf];exact Qf c d
theorem El (a:z.natAbs<1000000000)(b:w.natAbs<1000000000):-1000000000000000000<z*w/\z*w<1000000000000000000:=by
 have h:z.natAbs*w.natAbs<=999999999*999999999:=P4 om_ om_;rw [<- P5] at h;omega
theorem ka (C:Mem)(d:Tabs C)(z w:Int)(k:Nat)(e:0<k)(x:k<=40000)(b:z.natAbs<B9 ^ k)(c:w.natAbs<B9 ^ k):Gives cx.P 146 [ai (txt z),ai (txt w)] C (ai (txt (z*w))):=by
 have y:=bU b e;have A:=bU c e;refine Sc func146 43 U3 fun w0=>C6 1 [0,1] Z<|R4 1 Z fun R a=>Sk (jh _ z 9 om_) U7 fl_<|C4 5 [0,1,5,6] a Z<|C6 1 [0,1,5,16] Z<|G.cut (fun fr C' r s=>(True)/\fr=[(0,[],ai (txt z)),(1,[],ai (txt w))]/\r=[]) ?_ (fun fr _ B s _ t=>?_)
 ·refine R6 (fun f=>?_) fun f=>?_
  ·have g:=NM f;rw [aI g];have h:=yk g;rw [e9] at h;refine R4 1 Z fun R a=>Sk (jh _ w 9 om_) U7 fl_<|C4 5 [0,1,5,7,8] a Z<|C6 1 [0,1,5,7,22] Z<|R6 (fun i=>?_) fun i=>?_
   ·have l:=NM i;rw [aI l];have m:=yk l;rw [e9] at m;have D:=El h m;exact R4 2 Z fun R a=>SH ((z*w)) U4 om_ om_ om_ U2<|Sk (rt _ d.m_ (z*w) om_ om_) U7 fl_<|C4 1 [4] a Z<|Sb U2<|⟨Z,Z⟩
   refine Si 0 (Mem.le.refl _) (hn_ [0,1] Z) ⟨trivial,Z,Z⟩
  refine Si 0 (Mem.le.refl _) (hn_ [0,1] Z) ⟨trivial,Z,Z⟩
 obtain ⟨_,rfl,rfl⟩:=t;refine R4 1 Z fun R a=>SD (iI _ z om_) U7 fl_ fun E _ _ u=>R7 U6<|SD (iI _ w om_) U7 fl_ fun F _ _ v=>Sq U5 fun H=>Sq U5 (fun I=>?_);obtain ⟨J,rfl,o⟩:=u;obtain ⟨K,rfl,p⟩:=v;obtain ⟨L,M,N,rfl⟩:=o.form;obtain ⟨O,Q,S,rfl⟩:=p.form;refine Sf (j:=1) U12<|Sf (j:=1) U12<|Sa [9,10] a Z<|Ss [0,1,2,3,4,5,6,7,8,9,10,11,12] [(11,1)] Z kr_ fun R T a=>R7 U6<|Sd ae U9<|R7 U6<|Sd af U9<|R9 2 Z<|Sd ae U9<|R7 U6<|Sd af U9<|SD (Dy (k:=k) _ o.m_ p.m_ b c om_) U7 fl_ (fun U _ _ q=>?_);obtain ⟨V,W,X,rfl⟩:=q.form;exact Sn [.bool (decide (z<0) != decide (w<0)),_] U8<|Su (fun _=>(ju _ d.m_ _ _ _ q (df (k:=100000) (n:=k+k) (na b c) om_))) U9<|C4 1 [4] a Z<|Sb U2<|⟨by rw [Ku],Z⟩
def FL (z w:Int):Nat:=if z<0/\z.natAbs % w.natAbs≠0 then z.natAbs / w.natAbs+1 else z.natAbs / w.natAbs
def Am (z w:Int):Nat:=if z<0/\z.natAbs % w.natAbs≠0 then w.natAbs-z.natAbs % w.natAbs else z.natAbs % w.natAbs
theorem FK (i:0<w):sgZ (decide (z<0) != decide (w<0)) (FL z w)=z / w/\(Am z w:Int)=z % w:=by
 obtain ⟨n,rfl⟩:∃ n:Nat,w=n:=⟨w.natAbs,by omega⟩;have f:0<n:=by omega
 rw [OV (by omega:¬ ((n:Nat):Int)<0),Bool.bne_false];have h1:=Rj z.natAbs n;have h2:=Pd z.natAbs f;obtain ⟨q,d⟩:∃ q,z.natAbs / n=q:=⟨_,rfl⟩;obtain ⟨r,hr⟩:∃ r,z.natAbs % n=r:=⟨_,rfl⟩;have g:sgZ (decide (z<0)) (FL z n)=z / n/\(Am z n:Int)=z % n:=by
  have h3:=(Int.ediv_emod_unique (a:=z) (r:=(Am z n:Int)) (q:=sgZ (decide (z<0)) (FL z n)) (by omega:(0:Int)<(n:Int))).2;have h4:(Am z n:Int)+(n:Int)*sgZ (decide (z<0)) (FL z n)=z/\0<=(Am z n:Int)/\(Am z n:Int)<(n:Int):=by
   unfold FL Am sgZ;simp only [Pb];rw [d,hr];rw [hr,d] at h1;rw [hr] at h2;have h5:((r+n*q:Nat):Int)=(z.natAbs:Int):=by rw [h1]
   rw [QX,Pj] at h5;by_cases b:z<0
   ·rw [OK b,aI rfl];by_cases c:r=0
    ·subst c;rw [aA am,aA am];rw [Int.mul_neg];omega
    rw [aI ⟨b,c⟩,aI ⟨b,c⟩];rw [Int.mul_neg,QX,Rw];omega
   rw [OV b,aA (fun h:z<0/\r≠0=>b h.1),aA (fun h:z<0/\r≠0=>b h.1),aA dc_];omega
  have e:=h3 h4;exact ⟨e.1.symm,e.2.symm⟩
 exact g
theorem rx (C:Mem)(u:Tabs C)(z w:Int)(k:Nat)(f:0<k)(hk:k<=40000)(g:z.natAbs<B9 ^ k)(i:w.natAbs<B9 ^ k)(v:0<w):Gives cx.P 211 [ai (txt z),ai (txt w)] C (.tuple #[ai (txt (z / w)),ai (txt (z % w)),.int .i64 0]):=by
 have aj:=bU g f;have ak:=bU i f;have l:0<w.natAbs:=by omega
 refine Sc func211 50 U3 fun w0=>C6 3 [0,1] Z<|C6 2 [0,1,12] Z<|R6 (fun m=>?_) fun m=>?_
 ·have h:=kE w;rw [h] at m;have:w=0:=NM m;omega
 refine R4 1 Z fun R a=>SD (iI _ z om_) U7 fl_ fun am _ _ J=>R7 U6<|SD (iI _ w om_) U7 fl_ fun an _ _ K=>Sq U5 fun y=>Sq U5 (fun A=>?_);obtain ⟨pz,rfl,B⟩:=J;obtain ⟨pw,rfl,o⟩:=K;obtain ⟨L,M,N,rfl⟩:=B.form;obtain ⟨O,Q,S,rfl⟩:=o.form;refine Sf (j:=1) U12<|Sf (j:=1) U12<|Sa [7,8] a Z<|R4 1 Z fun R a=>Sd ae U9<|R7 U6<|Sd af U9<|SD (vU _ _ _ _ _ B.m_ o.m_ (df (k:=100000) (n:=k) g om_) l) U7 fl_ (fun ao _ _ T=>?_);obtain ⟨vq,vr,rfl,D,p⟩:=T;refine C4 5 [7,8,9,10] a Z ?_;obtain ⟨b,U,V,W⟩:=id p;obtain ⟨Ar,cr,E,_⟩:=id W;rw [al] at E;subst E;have F:b.length=0 ↔ z.natAbs % w.natAbs=0:=by
  rw [<- V,AM U];exact Rs
 refine R4 1 Z fun R a=>Sd ae U9<|R9 4 Z<|Sv U8<|Sa [7,8,9,10,31] a Z<|G.cut (fun fr C' X Y=>∃ (q r:Value),(NineC C' q (FL z w)/\NineC C' r (Am z w))/\fr=[(7,[],.pointer (some ⟨y,0,none⟩)),(8,[],.pointer (some ⟨A,0,none⟩)),(9,[],q),(10,[],r)]/\X=[.obj A (.cells ⟨[.bool (decide (w<0)),.slice O Q S]⟩ 307 (0,0)),.obj y (.cells ⟨[.bool (decide (z<0)),.slice L M N]⟩ 307 (0,0))]) ?_ (fun fr _ ap Y _ hI=>?_)
 ·refine R6 (fun d=>?_) fun d=>?_
  ·have c:z<0/\z.natAbs % w.natAbs≠0:=by
    have h:decide (z<0)=true/\0<b.length:=by simpa using d
    exact ⟨NM h.1,fun e=>by have:=F.2 e;omega⟩
   have s:FL z w=z.natAbs / w.natAbs+1:=aI c;have t:Am z w=w.natAbs-z.natAbs % w.natAbs:=aI c;have aa:z.natAbs / w.natAbs<B9 ^ k:=Pk (Pv _ _) g;refine Ss [0,3,4,5,1,2,6,7,8] [] Z kr_ fun R hB a=>R9 2 Z<|Sd af U9<|R7 U6<|Sr [bZ 1] U12 fun aq _ _ ab=>SD (JF (k:=k) _ D.m_ (⟨[1],⟨(fun x hx=>(by rw [OP.1 hx];decide)),by simp⟩,Z,ab.mono mup⟩:NineC _ _ 1) aa (PD (by decide:1<B9 ^ 1) (OO dc_ f)) om_) U7 fl_ fun ar _ _ ac=>SD (sX (k:=k) _ o.m_ p.m_ i (Nat.le_of_lt (Pd _ l)) om_) U7 fl_ fun au _ _ ad=>R9 2 Z<|Sa [7,8,9,10] a Z ?_;clear a hB R;refine Si 0 mup (hn_ [7,8,9,10] Z) ⟨_,_,⟨by rw [s];exact ac.mono mup,by rw [t];exact ad.mono mup⟩,Z,Z⟩
  have c:¬ (z<0/\z.natAbs % w.natAbs≠0):=fun h=>by
   have h2:0<b.length:=by
    rcases PM b.length with h3 | h3
    ·exact absurd (F.1 h3) h.2
    exact h3
   have h3:(decide (z<0) && decide ((0:Int)<(b.length:Int)))=true:=by
    rw [OK h.1,OK om_];rfl
   rw [h3] at d;cases d
  have s:FL z w=z.natAbs / w.natAbs:=aA c;have t:Am z w=z.natAbs % w.natAbs:=aA c;refine Si 0 mup (hn_ [7,8,9,10] Z) ⟨_,_,⟨by rw [s];exact D.mono mup,by rw [t];exact p.mono mup⟩,Z,Z⟩
 obtain ⟨q ,r,⟨H,I⟩,rfl,rfl⟩:=hI;obtain ⟨A9,m9,c9,rfl⟩:=H.form;obtain ⟨av,aw,ax,rfl⟩:=I.form;have ag:FL z w<B9 ^ 100000:=by
  have h1:z.natAbs / w.natAbs<=z.natAbs:=Pv _ _;have h2:FL z w<=z.natAbs+1:=by unfold FL;split <;> omega
  have h3:B9 ^ k*2<=B9 ^ (k+1):=by rw [PE];exact PO _ dc_
  have h4:z.natAbs+1<B9 ^ (k+1):=by have:=QI (n:=k) (show 0<B9 by decide);omega
  exact df (k:=100000) (n:=k+1) (Pk h2 h4) om_
 have ah:Am z w<B9 ^ 100000:=by
  have h1:=Pd z.natAbs l;have h2:Am z w<=w.natAbs:=by unfold Am;split <;> omega
  exact df (k:=100000) (n:=k) (Pk h2 i) om_
 refine R4 1 Z fun R a=>Sd ae U9<|R7 U6<|Sd af U9<|R9 2 Z<|Sn [.bool (decide (z<0) != decide (w<0)),_] U8<|Sg (ju _ u.m_ _ _ _ H.m_ ag) U7<|R7 U6<|Sn [.bool false,_] U8<|Sg (ju _ u.m_ _ _ _ I.m_ ah) U7<|C4 3 [4,5,6] a Z<|Sh (G.dropAll (S4 U4 ?_));refine ⟨?_,Z⟩;rw [(FK v).1,show sgZ false (Am z w)=z % w from (FK v).2]
theorem I1 {l:List Nat}(a:wR l)(b:bq l=n):0<l.length ↔ 0<n:=by
 have h:=AM a;rw [b] at h;have h2:l.length=0 ↔ n=0:=by rw [h];exact Rs
 omega
theorem Fh (C:Mem)(r:Tabs C)(z w:Int)(k:Nat)(s:0<k)(hk:k<=40000)(t:z.natAbs<B9 ^ k)(u:w.natAbs<B9 ^ k):Gives cx.P 208 [ai (txt z),ai (txt w)] C (ai (txt (Nat.gcd z.natAbs w.natAbs:Nat))):=by
 have ab:=bU t s;have ac:=bU u s;refine Sc func208 56 U3 fun w0=>C6 1 [0,1] Z<|R4 1 Z fun R a=>Sg (jh _ z 18 (Oo _)) U7<|C4 5 [0,1,5,6] a Z<|C6 1 [0,1,5,18] Z<|G.cut (fun fr C' d e=>(True)/\fr=[(0,[],ai (txt z)),(1,[],ai (txt w))]/\d=[]) ?_ (fun fr _ ad e _ f=>?_)
 ·refine R6 (fun v=>?_) fun v=>?_
  ·have A:=NM v;rw [aI A];have B:=yk A;rw [e18] at B;refine R4 1 Z fun R a=>Sg (jh _ w 18 (Oo _)) U7<|C4 5 [0,1,5,7,8] a Z<|C6 1 [0,1,5,7,24] Z<|R6 (fun E=>?_) fun E=>?_
   ·have F:=NM E;rw [aI F];have H:=yk F;rw [e18] at H;refine G.loop (fun fr C' d e=>∃ (x y:Int),(x.natAbs<1000000000000000000/\y.natAbs<1000000000000000000/\Nat.gcd x.natAbs y.natAbs=Nat.gcd z.natAbs w.natAbs)/\fr=[(5,[],.int .i64 x),(7,[],.int .i64 y)]/\d=[]/\e=y.natAbs+1) (hn_ [5,7] Z) ⟨z,w,⟨B,H,Z⟩,Z,Z,Z⟩ (fun fr ae af m K f=>?_);obtain ⟨x,y,⟨ag,L,c⟩,rfl,rfl,rfl⟩:=f;refine C6 2 [5,7,26] Z<|R6 (fun i=>?_) fun i=>?_
    ·have b:y≠0:=by simpa using i
     have M:(x.tmod y).natAbs=x.natAbs % y.natAbs:=Q0 x y;have N:=Pd x.natAbs (show 0<y.natAbs by omega);refine Ss [0,1,2,3,4,5] [] Z kr_ fun R hB a=>R9 3 Z<|S7 (x.tmod y) U6 b U3<|C4 2 [5,7] a Z<|Sj (m':=(x.tmod y).natAbs+1) om_ K (hn_ [5,7] Z) ⟨y,x.tmod y,⟨L,by omega,by rw [M,<- c,Qy x.natAbs,RS y.natAbs x.natAbs,Qy]⟩,Z,Z,Z⟩
    have b:y=0:=by simpa using i
    subst b;rw [show (0:Int).natAbs=0 from rfl,QZ] at c;refine R4 3 Z fun R a=>?_;have ah:IntKind.i64.wrap (0-x)=0-x:=wrap_i64 om_ om_;exact D.max ((x.natAbs:Int)) U6 om_ U2<|Sk (rt _ r.m_ (x.natAbs:Int) om_ om_) U7 fl_<|C4 1 [4] a Z<|Sb U2<|⟨by rw [c],Z⟩
   refine Si 0 (Mem.le.refl _) (hn_ [0,1] Z) ⟨trivial,Z,Z⟩
  refine Si 0 (Mem.le.refl _) (hn_ [0,1] Z) ⟨trivial,Z,Z⟩
 obtain ⟨_,rfl,rfl⟩:=f;refine R4 1 Z fun R a=>SD (iI _ z om_) U7 fl_ (fun aj _ _ O=>?_);obtain ⟨pz,rfl,Q⟩:=O;refine Tj U12<|R7 U6<|SD (iI _ w om_) U7 fl_ (fun ak _ _ S=>?_);obtain ⟨pw,rfl,T⟩:=S;refine Tj U12<|C4 2 [9,10] a Z<|G.loop (fun fr C' d e=>∃ (x y:Nat)(j o:Value),(NineC C' j x/\NineC C' o y/\x<B9 ^ k/\y<B9 ^ k/\Nat.gcd x y=Nat.gcd z.natAbs w.natAbs)/\fr=[(9,[],j),(10,[],o)]/\d=[]/\e=y+1) (hn_ [9,10] Z) ⟨_,_,_,_,⟨Q.mono mup,T.mono mup,t,u,Z⟩,Z,Z,Z⟩ (fun fr am an m _ f=>?_);obtain ⟨x,y,j,o,⟨p,g,I,J,c⟩,rfl,rfl,rfl⟩:=f;obtain ⟨l,U,V,W⟩:=id g;obtain ⟨ao,ap,rfl,_⟩:=id W;rw [al] at g ⊢;have X:=I1 U V;refine C6 3 [9,10,44] Z<|R6 (fun q=>?_) fun q=>?_
 ·have b:0<y:=X.1 (by simpa using q);have N:=Pd x b;refine R4 2 Z fun R a=>SD (vU _ _ _ _ _ p.m_ g.m_ (df (k:=100000) (n:=k) I om_) b) U7 fl_ (fun aq _ _ Y=>?_);obtain ⟨vq,vr,rfl,ar,aa⟩:=Y;refine C4 5 [10,12] a Z<|C6 4 [9,10] Z<|Sj (m':=x % y+1) om_ mup (hn_ [9,10] Z) ⟨y,x % y,_,_,⟨g.mono mup,aa.mono mup,J,Qz (Pd _ b) J,by rw [<- c,Qy x,RS y x,Qy]⟩,Z,Z,Z⟩
 have b:y=0:=by
  have h:¬ 0<l.length:=by simpa using q
  omega
 subst b;rw [QZ] at c;obtain ⟨A9,m9,c9,rfl⟩:=p.form;exact R4 1 Z fun R a=>Sn [.bool false,_] U8<|Sk (ju _ r.m_ _ _ _ p.m_ (df (k:=100000) (n:=k) I om_)) U7 fl_<|C4 1 [4] a Z<|Sb U2<|⟨by rw [c];rfl,Z⟩
def qQ (sg:Bool)(A:Str)(B:Option Str):Value :=
 if Lt A B then .tuple #[.int .i64 (sgZ sg (bS A)),.int .i64 (Of B),.bool true] else .tuple #[.int .i64 0,.int .i64 0,.bool false]
theorem Bz (C:Mem)(d:Bool)(A:Str)(B:Option Str)(q:∀ c∈A,eB c=true)(T:A≠[])(U:∀ b,B=some b->∀ c∈b,eB c=true)(V:(HM d++A++er B).length<=1000000) :
  Gives cx.P 141 [ai (HM d++A++er B)] C (qQ d A B):=by
 obtain ⟨s,hs⟩:∃ s,HM d++A++er B=s:=⟨_,rfl⟩;obtain ⟨p,t⟩:∃ p,(HM d).length=p:=⟨_,rfl⟩;have g:p=if d then 1 else 0:=by rw [<- t];cases d <;> rfl
 have u:∀ j c,A[j]?=some c->s[p+j]?=some c:=fun j c h=>by rw [<- hs,<- t];exact KO _ _ _ h
 have N:∀ j,s[p+A.length+j]?=(er B)[j]?:=fun j=>by rw [<- hs,<- t];exact HO _ _ _ _
 have y:s.length=p+A.length+(er B).length:=by rw [<- hs,<- t,Oy,Oy]
 have W:0<A.length:=O9.2 T;rw [hs] at V ⊢;refine Sc func141 73 U3 fun w0=>C6 3 [0,2,3] Z<|C6 2 [0,2,3,5,6] Z<|R4 5 Z fun R a=>SY (b:=s.getD 0 0) U8 (fun _=>⟨by omega,(by rw [ax,show (0:Int).toNat=0 from rfl];obtain ⟨c,f⟩:∃ c,s[0]?=some c:=⟨s[0]'om_,ak om_⟩;rw [f];rfl)⟩) U2<|R7 U6<|Sv U8<|Sa [0,2,3,5,6,15] a Z<|G.cut (fun fr C' i k=>(True)/\fr=[(0,[],ai s),(2,[],.int .i64 0),(3,[],.int .i64 0),(5,[],.int .i64 p),(6,[],.bool d)]/\i=[]) ?_ (fun fr _ ae k _ l=>?_)
 ·refine R6 (fun v=>?_) fun v=>?_
  ·have n:d=true:=by
    cases d with
    | true=>rfl
    | false =>
     exfalso;rw [aA dc_] at g;subst g;obtain ⟨c,f⟩:∃ c,A[0]?=some c:=⟨A[0],ak W⟩;have h1:=u 0 c f;have h2:=q c (Oq f);rw [Qh] at h1;rw [ax,h1] at v;unfold eB at h2;simp at v h2;omega
   subst n;rw [aI rfl] at g;subst g;refine C6 2 [0,2,3,5,6] Z<|Si 0 (Mem.le.refl _) (hn_ [0,2,3,5,6] Z) ⟨trivial,Z,Z⟩
  have n:d=false:=by
   cases d with
   | false=>rfl
   | true =>
    exfalso;have h1:s[0]?=some 45:=by rw [<- hs];rfl
    rw [aI rfl] at g;have h2:(decide ((0:Int)<((s.length:Nat):Int)) && decide ((((s.getD 0 0).toNat:Nat):Int)=45))=false:=by simpa using v
    rw [ax,h1,OK om_] at h2;exact absurd h2 dc_
  subst n;rw [aA dc_] at g;subst g;refine Si 0 (Mem.le.refl _) (hn_ [0,2,3,5,6] Z) ⟨trivial,Z,Z⟩
 obtain ⟨_,rfl,rfl⟩:=l;refine C6 2 [0,2,3,5,6,7] Z<|G.loop (fun fr C' i k=>∃ (j:Nat),(j<=A.length/\j<=9)/\fr=[(0,[],ai s),(2,[],.int .i64 ((bS (A.take j):Nat):Int)),(3,[],.int .i64 0),(5,[],.int .i64 ((p+j:Nat):Int)),(6,[],.bool d),(7,[],.int .i64 p)]/\i=[]/\k=A.length-j+1) (hn_ [0,2,3,5,6,7] Z) ⟨0,⟨by omega,by omega⟩,Z,Z,Z⟩ (fun fr af ag m X l=>?_);obtain ⟨j,⟨hj,w⟩,rfl,rfl,rfl⟩:=l;obtain ⟨c,f⟩:∃ c,p+j<s.length->s[p+j]?=some c:=⟨s.getD (p+j) 0,fun h=>by rw [ax,ak h];rfl⟩;refine R4 7 Z fun R a=>SY (b:=c) U8 (fun Y=>⟨by omega,f (by have h:decide (((p+j:Nat):Int)<((s.length:Nat):Int))=true:=Y.1;have h2:=NM h;omega)⟩) U2<|R7 U6<|Sv U8<|Sa [0,2,3,5,6,7,26] a Z<|R6 (fun x=>?_) fun x=>?_
 ·have z:p+j<s.length/\c.toNat≠47:=by
   simp at x;omega
  have E:j<A.length:=by
   rcases OZ j A.length with h | h
   ·exact h
   exfalso;obtain rfl:j=A.length:=by omega
   have h1:=f z.1;have h2:=N 0;rw [Qh,h1] at h2;cases B with
   | none=>simp [er] at h2
   | some b =>
    simp [er] at h2;subst h2;exact z.2 Z
  obtain ⟨e,o⟩:∃ c,A[j]?=some c:=⟨A[j],ak E⟩;obtain rfl:e=c:=by
   have h1:=f z.1;rw [u j e o] at h1;exact PS h1
  have O:48<=e.toNat/\e.toNat<=57:=by simpa [eB] using q e (Oq o)
  have hV:=tF q w;refine R4 2 Z fun R a=>Se _ U7<|C4 1 [0,2,3,5,6,7,32] a Z<|R6 (fun F=>?_) fun F=>?_
  ·have r:¬ A.length<=9:=by
    have:((p+j:Nat):Int)-p=9:=by simpa using F
    omega
   refine C6 3 [2,3,4] Z<|Sh (G.dropAll (S4 U4 ?_));refine ⟨?_,Z⟩;unfold qQ Lt;rw [OV r,Bool.false_and,aA dc_]
  have r:j≠9:=by
   have:¬ ((p+j:Nat):Int)-p=9:=by simpa using F
   omega
  refine R4 1 Z fun R a=>Se _ U7<|R9 2 Z<|SY U8 (fun _=>⟨by omega,u j _ o⟩) U2<|D.int (((e.toNat:Nat):Int)-48) U4 (by rw [IntKind.wrap_u8];omega) U2<|SL (c:=((e.toNat:Nat):Int)-48) U8 (by rw [IntKind.wrap_i64];omega) fl_<|Se _ U7<|C4 1 [0,2,3,5,6,7] a Z<|R4 1 Z fun R a=>Se _ U7<|C4 1 [0,2,3,5,6,7] a Z ?_;rw [show 10*((bS (A.take j):Nat):Int)+(((e.toNat:Nat):Int)-48)=((bS (A.take (j+1)):Nat):Int) by rw [AA o];omega];refine Sj (m':=A.length-(j+1)+1) om_ X (hn_ [0,2,3,5,6,7] Z) ⟨j+1,⟨by omega,by omega⟩,Z,Z,Z⟩
 have E:j=A.length:=by
  rcases OZ j A.length with h | h
  ·exfalso;obtain ⟨e,o⟩:∃ c,A[j]?=some c:=⟨A[j],ak h⟩;have h1:=f om_;rw [u j e o] at h1;obtain rfl:=PS h1;have O:48<=e.toNat/\e.toNat<=57:=by simpa [eB] using q e (Oq o)
   simp at x;have:=x om_;omega
  omega
 subst E;rw [OH];refine C6 1 [0,2,3,5,41] Z<|G.cut (fun fr C' i k=>(True)/\fr=[(0,[],ai s),(2,[],.int .i64 (sgZ d (bS A))),(3,[],.int .i64 0),(5,[],.int .i64 ((p+A.length:Nat):Int))]/\i=[]) ?_ (fun fr _ ah k _ l=>?_)
 ·refine R6 (fun H=>?_) fun H=>?_
  ·have n:d=true:=H;subst n;have aa:=tF q w;rw [OH] at aa;refine C6 3 [0,2,3,5] Z ?_;rw [show IntKind.i64.wrap (0-((bS A:Nat):Int))=sgZ true (bS A) by rw [wrap_i64 om_ om_];unfold sgZ;rw [aI rfl];omega];refine Si 0 (Mem.le.refl _) (hn_ [0,2,3,5] Z) ⟨trivial,Z,Z⟩
  have n:d=false:=by simpa using H
  subst n;refine Si 0 (Mem.le.refl _) (hn_ [0,2,3,5] Z) ⟨trivial,Z,Z⟩
 obtain ⟨_,rfl,rfl⟩:=l;refine C6 4 [0,2,3,5,47] Z<|R6 (fun I=>?_) fun I=>?_
 ·have ab:B=none:=by
   cases B with
   | none=>rfl
   | some b =>
    exfalso;have:p+A.length=s.length:=by simp at I;omega
    rw [y] at this;simp [er] at this
  subst ab;refine C6 4 [2,3,4] Z<|Sh (G.dropAll (S4 U4 ?_));refine ⟨?_,Z⟩;unfold qQ Lt;rw [OK w];rfl
 obtain ⟨b,rfl⟩:∃ b,B=some b:=by
  cases B with
  | some b=>exact ⟨b,rfl⟩
  | none =>
   exfalso;simp [y,er] at I
 have Q:=U b rfl;have aj:s.length=p+A.length+1+b.length:=by rw [y];simp [er];omega
 refine R4 1 Z fun R a=>Se _ U7<|C4 1 [0,2,3,5,7] a Z<|R4 1 Z fun R a=>Se _ U7<|C4 1 [0,2,3,5,7] a Z<|G.loop (fun fr C' i k=>∃ (j:Nat),(j<=b.length/\j<=9)/\fr=[(0,[],ai s),(2,[],.int .i64 (sgZ d (bS A))),(3,[],.int .i64 ((bS (b.take j):Nat):Int)),(5,[],.int .i64 ((p+A.length+1+j:Nat):Int)),(7,[],.int .i64 ((p+A.length+1:Nat):Int))]/\i=[]/\k=b.length-j+1) (hn_ [0,2,3,5,7] Z) ⟨0,⟨by omega,by omega⟩,Z,Z,Z⟩ (fun fr al am m ac l=>?_);obtain ⟨j,⟨hk,S⟩,rfl,rfl,rfl⟩:=l;refine C6 4 [0,2,3,5,7,56] Z<|R6 (fun J=>?_) fun J=>?_
 ·have K:j<b.length:=by
   have:p+A.length+1+j<s.length:=by simp at J;omega
   omega
  obtain ⟨c,L⟩:∃ c,b[j]?=some c:=⟨b[j],ak K⟩;have ad:s[p+A.length+1+j]?=some c:=by rw [Ra,N,QJ 1 j];exact L
  have O:48<=c.toNat/\c.toNat<=57:=by simpa [eB] using Q c (Oq L)
  have hV:=tF Q S;refine R4 2 Z fun R a=>Se _ U7<|C4 1 [0,2,3,5,7,62] a Z<|R6 (fun M=>?_) fun M=>?_
  ·have r:¬ b.length<=9:=by
    have:((p+A.length+1+j:Nat):Int)-((p+A.length+1:Nat):Int)=9:=by simpa using M
    omega
   refine C6 3 [2,3,4] Z<|Sh (G.dropAll (S4 U4 ?_));refine ⟨?_,Z⟩;unfold qQ Lt;rw [show (some b).getD []=b from rfl,OV r,Bool.and_false,aA dc_]
  have r:j≠9:=by
   have:¬ ((p+A.length+1+j:Nat):Int)-((p+A.length+1:Nat):Int)=9:=by simpa using M
   omega
  refine R4 1 Z fun R a=>Se _ U7<|R9 2 Z<|SY U8 (fun _=>⟨by omega,ad⟩) U2<|D.int (((c.toNat:Nat):Int)-48) U4 (by rw [IntKind.wrap_u8];omega) U2<|SL (c:=((c.toNat:Nat):Int)-48) U8 (by rw [IntKind.wrap_i64];omega) fl_<|Se _ U7<|C4 1 [0,2,3,5,7] a Z<|R4 1 Z fun R a=>Se _ U7<|C4 1 [0,2,3,5,7] a Z ?_;rw [show 10*((bS (b.take j):Nat):Int)+(((c.toNat:Nat):Int)-48)=((bS (b.take (j+1)):Nat):Int) by rw [AA L];omega];refine Sj (m':=b.length-(j+1)+1) om_ ac (hn_ [0,2,3,5,7] Z) ⟨j+1,⟨by omega,by omega⟩,Z,Z,Z⟩
 have K:j=b.length:=by
  have:¬ p+A.length+1+j<s.length:=by simp at J;omega
  omega
 subst K;rw [OH];refine C6 5 [2,3,4] Z<|Sh (G.dropAll (S4 U4 ?_));refine ⟨?_,Z⟩;unfold qQ Lt;rw [show (some b).getD []=b from rfl,OK w,OK S];rfl
theorem oq {n:Int}(a:g ∣ n.natAbs):n.tdiv (g:Int)=n / (g:Int):=Int.tdiv_eq_ediv_of_dvd (QS.1 (Qe.2 a))
theorem zt {n:Int}(a:d≠0):qtx (mkRat n d)=txt (n / ((Nat.gcd n.natAbs d:Nat):Int))++er (mT (d / Nat.gcd n.natAbs d)):=by
 rw [ot,(sV n a).1,(sV n a).2]
theorem uX (C:Mem)(e:Tabs C)(n:Int)(d:Nat)(o:0<d)(p:n.natAbs<9000000000000000000)(t:d<9000000000000000000):Gives cx.P 142 [.int .i64 n,.int .i64 d] C (ai (qtx (mkRat n d))):=by
 obtain ⟨g,b⟩:∃ g,Nat.gcd n.natAbs d=g:=⟨_,rfl⟩;have u:0<g:=by rw [<- b];exact QV _ o
 have q:g ∣ n.natAbs:=by rw [<- b];exact Q9 _ _
 have v:g ∣ d:=by rw [<- b];exact Rt _ _
 have F:g<=d:=RW o v;rw [zt om_,b];refine Sc func142 35 U3 fun w0=>C6 1 [0,1] Z<|C6 4 [0,1,5,6] Z<|G.loop (fun fr C' f h=>∃ (x y:Int),(x.natAbs<9000000000000000000/\y.natAbs<9000000000000000000/\Nat.gcd x.natAbs y.natAbs=g)/\fr=[(0,[],.int .i64 n),(1,[],.int .i64 d),(5,[],.int .i64 x),(6,[],.int .i64 y)]/\f=[]/\h=y.natAbs+1) (hn_ [0,1,5,6] Z) ⟨n,d,⟨p,by omega,by rw [Pb];exact b⟩,Z,Z,Z⟩ (fun fr H I m w i=>?_);obtain ⟨x,y,⟨J,z,r⟩,rfl,rfl,rfl⟩:=i;refine C6 2 [0,1,5,6,10] Z<|R6 (fun j=>?_) fun j=>?_
 ·have k:y≠0:=by simpa using j
  have A:(x.tmod y).natAbs=x.natAbs % y.natAbs:=Q0 x y;have K:=Pd x.natAbs (show 0<y.natAbs by omega);refine Ss [0,1,2,3,4,5] [] Z kr_ fun R B a=>R9 3 Z<|S7 (x.tmod y) U6 k U3<|C4 2 [0,1,5,6] a Z<|Sj (m':=(x.tmod y).natAbs+1) om_ w (hn_ [0,1,5,6] Z) ⟨y,x.tmod y,⟨z,by omega,by rw [A,<- r,Qy x.natAbs,RS y.natAbs x.natAbs,Qy]⟩,Z,Z,Z⟩
 have k:y=0:=by simpa using j
 subst k;rw [show (0:Int).natAbs=0 from rfl,QZ] at r;refine C6 2 [0,1,5,16] Z<|G.cut (fun fr C' f h=>(True)/\fr=[(0,[],.int .i64 n),(1,[],.int .i64 d),(5,[],.int .i64 g)]/\f=[]) ?_ (fun fr _ L h _ i=>?_)
 ·refine R6 (fun l=>?_) fun l=>?_
  ·have D:x<0:=by simpa using l
   refine C6 3 [0,1,5] Z ?_;rw [show IntKind.i64.wrap (0-x)=(g:Int) by rw [wrap_i64 om_ om_];omega];refine Si 0 (Mem.le.refl _) (hn_ [0,1,5] Z) ⟨trivial,Z,Z⟩
  have D:¬ x<0:=by simpa using l
  rw [show x=(g:Int) by omega];refine Si 0 (Mem.le.refl _) (hn_ [0,1,5] Z) ⟨trivial,Z,Z⟩
 obtain ⟨_,rfl,rfl⟩:=i;have E:(n / (g:Int)).natAbs<=n.natAbs:=by
  rw [Qu (QS.1 (Qe.2 q)),Pb];exact Pv _ _
 have s:=Pv d g;refine Ss [0,1,2,3,4,5,6,7] [] Z kr_ fun R B a=>R9 2 Z<|Tg (n / (g:Int)) U6 om_ (oq q) (wrap_i64 om_ om_) U2<|R9 2 Z<|S9 (d) (g) U6 u (.inl ⟨Z,by omega⟩) U2<|C4 2 [0,1] a Z<|C6 2 [0,1,26] Z<|R6 (fun c=>?_) fun c=>?_
 ·have h1:d / g=1:=by
   have h2:(((d / g:Nat):Int))=1:=by simpa using c
   omega
  refine R4 1 Z fun R a=>Sk (iO _ e.m_ _ om_ om_) U7 fl_<|C4 1 [4] a Z<|Sb U2<|⟨?_,Z⟩;rw [h1,lm rfl];simp [er]
 have h1:d / g≠1:=by
  intro h2;rw [h2] at c;exact absurd c dc_
 have M:=lL (n / (g:Int));have N:=lL ((d / g:Nat):Int);have O:(bj (n / (g:Int)).natAbs).length<=20:=ek (Pk E (Qz p dc_)) dc_;have Q:(bj ((d / g:Nat):Int).natAbs).length<=20:=ek (by rw [Pb];exact Pk s (Qz t dc_)) dc_;refine R4 1 Z fun R a=>Sk (iO _ e.m_ _ om_ om_) U7 fl_<|S1 U6 (fun _=>(by simp only [OI,O4];omega)) U2<|R7 U6<|Sk (iO _ e.m_ ((d / g:Nat):Int) (R0 dc_ (RU _)) (R0 (Int.ofNat_le.2 s) om_)) U7 fl_<|S1 U6 (fun _=>(by simp only [Oy,OI,O4];omega)) U2<|C4 1 [4] a Z<|Sb U2<|⟨?_,Z⟩;rw [fq h1,cR,OU];rfl
theorem Fc (C:Mem)(z:Int)(d:Nat)(k:Nat)(b:0<k)(g:k<=40000)(c:z.natAbs<B9 ^ k)(e:d<B9 ^ k):Gives cx.P 212 [ai (txt z),ai (bj d)] C (ai (txt z++er (mT d))):=by
 have h:(txt z).length<=9*k+1:=by
  have:=bU c b;unfold txt;split
  ·simp;omega
  omega
 have i:=bU e b;refine Sc func212 12 U3 fun w0=>C6 1 [0,1] Z<|C6 2 [0,1,6] Z<|R6 (fun a=>?_) fun a=>?_
 ·have h1:d=1:=by rw [rL] at a;exact NM a
  refine C6 2 [4] Z<|Sb U2<|⟨?_,Z⟩;rw [lm h1];simp [er]
 have h1:d≠1:=by rw [rL] at a;exact Ox a
 refine R4 1 Z fun R f=>S1 U6 (fun _=>(by simp only [OI,O4];omega)) U2<|R7 U6<|S1 U6 (fun _=>(by simp only [Oy,OI,O4];omega)) U2<|C4 1 [4] f Z<|Sb U2<|⟨?_,Z⟩;rw [fq h1,OU];rfl
theorem D5 (C:Mem)(s:Str)(c:s.length<1000000):Gives cx.P 143 [ai s] C (.tuple #[ai (jt 47 s).1,ai ((jt 47 s).2.getD [49])]):=by
 refine Sc func143 18 U3 fun w0=>C6 2 [0] Z<|R4 1 Z fun R d=>Sg (JZ _ s 47 c) U7<|C4 7 [4,5,6] d Z<|C6 2 [4,5,14] Z<|R6 (fun a=>?_) fun a=>?_
 ·have h1:(jt 47 s).2=none:=by
   cases h:(jt 47 s).2 with
   | none=>rfl
   | some b=>rw [h] at a;simp at a
  refine C6 3 [2,3] Z<|Sh (G.dropAll (Sy U3 ?_));refine ⟨?_,Z⟩;rw [h1];rfl
 obtain ⟨b,h1⟩:∃ b,(jt 47 s).2=some b:=by
  cases h:(jt 47 s).2 with
  | some b=>exact ⟨b,rfl⟩
  | none=>rw [h] at a;simp at a
 refine C6 4 [2,3] Z<|Sh (G.dropAll (Sy U3 ?_));refine ⟨?_,Z⟩;rw [h1];rfl
theorem AE {c:UInt8}:∀ {a:Str}(b:Str),c ∉ a->jt c (a++c::b)=(a,some b)
 | [],b,_=>by simp [jt]
 | x::a,b,h=>by
  have d:x≠c:=fun e=>h (e ▸ aJ);have hr:=AE (c:=c) (a:=a) b (fun h2=>h (OA _ h2));simp only [PZ,jt,aA d,hr]
theorem vZ {c:UInt8}:∀ {a:Str},c ∉ a->jt c a=(a,none)
 | [],_=>rfl
 | x::a,h=>by
  have b:x≠c:=fun e=>h (e ▸ aJ);have hr:=vZ (c:=c) (a:=a) (fun h2=>h (OA _ h2));simp only [jt,aA b,hr]
theorem uL (h:∀ c∈s,eB c=true):(47:UInt8) ∉ s:=fun h2=>absurd (h 47 h2) dc_
theorem uK (z:Int):(47:UInt8) ∉ txt z:=by
 unfold txt;split
 ·intro h;rcases OE.1 h with h | h
  ·cases h
  exact uL (jr _) h
 exact uL (jr _)
theorem np (q:Rat):jt 47 (qtx q)=(txt q.num,mT q.den):=by
 rw [ot];unfold mT;split
 ·rw [show er none=[] from rfl,OX];exact vZ (uK _)
 exact AE _ (uK _)
theorem one_dec:bj 1=[49]:=by rw [bj];rfl
theorem FS (d:Nat):(mT d).getD [49]=bj d:=by
 unfold mT;split
 ·rename_i h;subst h;exact one_dec.symm
 rfl
theorem KV (C:Mem)(q:Rat)(a:(qtx q).length<1000000):Gives cx.P 143 [ai (qtx q)] C (.tuple #[ai (txt q.num),ai (bj q.den)]):=by
 have h:=D5 C (qtx q) a
 rwa [np,FS] at h
def mS (z w:Int):Rat:=mkRat (if w<0 then -z else z) w.natAbs
theorem oM (C:Mem)(f:Tabs C)(z w:Int)(k:Nat)(b:0<k)(e:k<=40000)(p:z.natAbs<B9 ^ k)(q:w.natAbs<B9 ^ k)(v:w≠0):Gives cx.P 144 [ai (txt z),ai (txt w)] C (ai (qtx (mS z w))):=by
 have x:=bU p b;have A:=bU q b;obtain ⟨y,hy⟩:∃ y,(if w<0 then -z else z)=y:=⟨_,rfl⟩;obtain ⟨d,r⟩:∃ d,w.natAbs=d:=⟨_,rfl⟩;have s:d≠0:=by omega
 have B:y.natAbs=z.natAbs:=by rw [<- hy];split <;> omega
 obtain ⟨g,c⟩:∃ g,Nat.gcd y.natAbs d=g:=⟨_,rfl⟩;have D:0<g:=by rw [<- c];exact QV _ om_
 have t:g ∣ d:=by rw [<- c];exact Rt _ _
 have E:g<=d:=RW om_ t;unfold mS;rw [hy,r,zt s,c];refine Sc func144 35 U3 fun w0=>C6 1 [0,1] Z<|R4 1 Z fun R a=>Sg (kV _ w) U7<|C4 1 [0,1,8] a Z<|G.cut (fun fr C' i j=>(True)/\fr=[(0,[],ai (txt y)),(1,[],ai (txt (d:Nat)))]/\i=[]) ?_ (fun fr _ F j _ l=>?_)
 ·refine R6 (fun m=>?_) fun m=>?_
  ·have n:w<0:=by
    have h:eL w<0:=by simpa using m
    unfold eL at h;split at h <;> omega
   rw [aI n] at hy;refine R4 1 Z fun R a=>Sk (tj _ z om_) U7 fl_<|R7 U6<|Sk (tj _ w om_) U7 fl_<|C4 2 [0,1] a Z<|Si 0 (Mem.le.refl _) (hn_ [0,1] Z) ⟨trivial,by rw [hy,show -w=((d:Nat):Int) by omega],Z⟩
  have n:¬ w<0:=by
   intro h2;have h:¬ eL w<0:=by simpa using m
   unfold eL at h;split at h <;> omega
  rw [aA n] at hy;refine Si 0 (Mem.le.refl _) (hn_ [0,1] Z) ⟨trivial,by rw [hy,show w=((d:Nat):Int) by omega],Z⟩
 obtain ⟨_,rfl,rfl⟩:=l;refine R4 2 Z fun R a=>Sk (Fh _ f.m_ y (d:Nat) k b e om_ om_) U7 fl_<|C4 1 [0,1,5] a Z ?_;rw [Pb,c];refine C6 2 [0,1,5,17] Z<|G.cut (fun fr C' i j=>(True)/\fr=[(0,[],ai (txt (y / (g:Nat)))),(1,[],ai (txt ((d / g:Nat):Int)))]/\i=[]) ?_ (fun fr _ H j _ l=>?_)
 ·refine R6 (fun o=>?_) fun o=>?_
  ·refine R4 2 Z fun R a=>Sk (rx _ f.m_ y (g:Nat) k b e om_ om_ om_) U7 fl_<|C4 5 [0,1,5] a Z<|R4 2 Z fun R a=>Sk (rx _ f.m_ (d:Nat) (g:Nat) k b e om_ om_ om_) U7 fl_<|C4 5 [0,1] a Z<|Si 0 (Mem.le.refl _) (hn_ [0,1] Z) ⟨trivial,by rw [RZ],Z⟩
  have u:g=1:=by
   rw [cR,rL] at o;simpa using o
  refine Si 0 (Mem.le.refl _) (hn_ [0,1] Z) ⟨trivial,by rw [u,Nat.div_one,Int.natCast_one,Int.ediv_one],Z⟩
 obtain ⟨_,rfl,rfl⟩:=l;rw [cR];exact R4 2 Z fun R a=>Sk (Fc _ (y / (g:Nat)) (d / g) k b e (by rw [Qu (QS.1 (Qe.2 (by rw [<- c];exact Q9 _ _))),Pb];exact Pk (Pv _ _) om_) (Pk (Pv _ _) om_)) U7 fl_<|C4 1 [4] a Z<|Sb U2<|⟨Z,Z⟩
theorem LF {a b:Nat}(h:bj a=bj b):a=b:=by rw [<- (bA a).2,h,(bA b).2]
theorem Mp (h:txt z=txt w):z=w:=by
 have h1:=di z;rw [h,di w] at h1;have h2:=LF (R3 h1).1;have h3:decide (w<0)=decide (z<0):=(R3 h1).2;by_cases hw:w<0
 ·rw [OK hw] at h3;have:=NM h3.symm;omega
 rw [OV hw] at h3;have:=Ox h3.symm;omega
theorem mD (h:qtx a=qtx b):a=b:=by
 have h1:=np a;rw [h,np b] at h1;have h2:=Mp (R3 h1).1;have h3:=congrArg Of (R3 h1).2;rw [pk,pk] at h3;exact Rat.ext h2.symm h3.symm
theorem KF (a b:Rat):((⟨(qtx a).toArray⟩:ByteArray).data.toList == (⟨(qtx b).toArray⟩:ByteArray).data.toList)=decide (a=b):=by
 show (qtx a == qtx b)=_;rw [RQ,PV,Oz];exact ⟨mD,fun h=>by rw [h]⟩
theorem qtx_zero:qtx 0=[48]:=by
 rw [show (0:Rat)=((0:Int):Rat) from rfl,lU];unfold txt;rw [aA om_,show bj (0:Int).natAbs=bj 0 from rfl,bj];rfl
theorem de:qtx 1=[49]:=by
 rw [show (1:Rat)=((1:Int):Rat) from rfl,lU];exact one_val.symm
theorem fG (a:Rat):((⟨(qtx a).toArray⟩:ByteArray).data.toList == (⟨#[48]⟩:ByteArray).data.toList)=decide (a=0):=by
 have h:=KF a 0
 rwa [qtx_zero] at h
theorem Jz (a:Rat):((⟨(qtx a).toArray⟩:ByteArray).data.toList == (⟨#[49]⟩:ByteArray).data.toList)=decide (a=1):=by
 have h:=KF a 1
 rwa [de] at h
theorem Eh (a:Rat):0<(qtx a).length:=by
 unfold qtx;rw [Oy,Oy];have:=O9.2 (xU a.num.natAbs);omega
theorem bK (h:QB k q)(a:0<k):(qtx q).length<=18*k+2:=by
 unfold qtx;rw [Oy,Oy];have h1:=bU h.1 a;have h2:=bU h.2 a;have h3:(HM (decide (q.num<0))).length<=1:=by cases decide (q.num<0) <;> simp [HM]
 have h4:(er (mT q.den)).length<=9*k+1:=by
  unfold mT;split
  ·simp [er]
  simp [er];exact h2
 omega
theorem sH (q:Rat):∃ c r,qtx q=c::r/\((((c.toNat:Nat):Int) == 45)=decide (q.num<0)):=by
 by_cases h:q.num<0
 ·refine ⟨45,bj q.num.natAbs++er (mT q.den), ?_,by rw [OK h];decide⟩;unfold qtx;rw [OK h];rfl
 obtain ⟨c,r,a⟩:∃ c r,bj q.num.natAbs=c::r:=List.exists_cons_of_ne_nil (xU _);refine ⟨c,r++er (mT q.den), ?_, ?_⟩
 ·unfold qtx;rw [OV h,a];rfl
 have h2:=jr q.num.natAbs c (by rw [a];exact aJ);rw [OV h];unfold eB at h2;have h3:=NM h2;exact OV om_
theorem fL (h:¬ q.num<0)(a:q≠0):qtx (-q)=45::qtx q:=by
 have b:q.num≠0:=fun e=>a (Rk.1 e);unfold qtx;rw [RT,Rat.neg_den,OK om_,OV h,Rr];rfl
theorem pZ (h:q.num<0):qtx q=45::qtx (-q):=by
 have h2:=fL (q:=-q) (by rw [RT];omega) (by intro e;have h3:=congrArg Rat.num e;rw [RT] at h3;have h4:(0:Rat).num=0:=rfl;omega)
 rwa [Rat.neg_neg] at h2
def Ce (q:Rat):Bool:=Lt (bj q.num.natAbs) (mT q.den)
theorem JS (h:(bj n).length<=9):n<1000000000:=by
 have h1:=dE (jr n);rw [(bA n).2] at h1;exact PD h1 (OQ (OO dc_ h) dc_)
theorem mb (h:Ce q=true):q.num.natAbs<1000000000/\q.den<1000000000:=by
 unfold Ce Lt at h;rw [OC,Oz,Oz] at h;refine ⟨JS h.1, ?_⟩;by_cases h1:q.den=1
 ·omega
 rw [fq h1] at h;exact JS h.2
theorem D4 (C:Mem)(q:Rat)(a:(qtx q).length<=1000000):Gives cx.P 141 [ai (qtx q)] C (if Ce q then .tuple #[.int .i64 q.num,.int .i64 (q.den:Nat),.bool true] else .tuple #[.int .i64 0,.int .i64 0,.bool false]):=by
 have h:=Bz C (decide (q.num<0)) (bj q.num.natAbs) (mT q.den) (jr _) (xU _) (IH _) a;unfold qQ at h;rw [(bA _).2,pk] at h;have e:sgZ (decide (q.num<0)) q.num.natAbs=q.num:=by
  unfold sgZ;by_cases h:q.num<0
  ·rw [OK h,aI rfl];omega
  rw [OV h,aA dc_];omega
 rw [e] at h;exact h
theorem eJ (C:Mem)(q:Rat)(g:(qtx q).length<=1000000):Gives cx.P 174 [ai (qtx q)] C (ai (qtx (-q))):=by
 have h:=Eh q;refine Sc func174 13 U3 fun w0=>C6 1 [0] Z<|C6 2 [0,4] Z<|R6 (fun h4=>?_) fun h4=>?_
 ·have h0:q=0:=by rw [fG] at h4;exact NM h4
  refine C6 2 [2] Z<|Sb U2<|⟨?_,Z⟩;rw [h0,Rat.neg_zero]
 have h0:q≠0:=by rw [fG] at h4;exact Ox h4
 obtain ⟨c,r,f,e⟩:=sH q;refine R4 1 Z fun R a=>SY U8 (fun _=>⟨by omega,by rw [f];rfl⟩) U2<|C4 1 [0,8] a Z<|R6 (fun b=>?_) fun b=>?_
 ·have d:q.num<0:=by rw [e] at b;exact NM b
  refine R4 1 Z fun R a=>S2 1 (qtx q).length U9 (fun _=>⟨.inr ⟨_,Z⟩,.inl ⟨Z,Z⟩,.inl ⟨Z,Z⟩,by omega,Oo _,Oo _⟩) U2<|C4 1 [2] a Z<|Sb U2<|⟨?_,Z⟩;rw [OH,pZ d];rfl
 have d:¬ q.num<0:=by rw [e] at b;exact Ox b
 refine R4 1 Z fun R a=>S1 U6 (fun _=>(by simp only [OI,O4];omega)) U2<|C4 1 [2] a Z<|Sb U2<|⟨?_,Z⟩;rw [fL d h0];rfl
theorem jd (C:Mem)(q:Rat)(j:(qtx q).length<=1000000):Gives cx.P 58 [ai (qtx q)] C (.int .i64 (eL q.num)):=by
 obtain ⟨c,r,f,d⟩:=sH q;have k:=Eh q;refine Sc func58 15 U3 fun w0=>C6 1 [0] Z<|C6 3 [0,3] Z<|R6 (fun h3=>?_) fun h3=>?_
 ·have h0:q=0:=by rw [fG] at h3;exact NM h3
  refine C6 1 [2] Z<|Sb U2<|⟨?_,Z⟩;rw [h0];rfl
 have h0:q≠0:=by rw [fG] at h3;exact Ox h3
 have g:q.num≠0:=fun e=>h0 (Rk.1 e);refine R4 5 Z fun R i=>SY U8 (fun _=>⟨by omega,by rw [f];rfl⟩) U2<|R7 U6<|Sv U8<|C4 1 [6] i Z<|R6 (fun a=>?_) fun a=>?_
 ·rw [d] at a;have b:q.num<0:=by
   have h:=(OC _ _ ▸ a:_/\_).2;exact NM h
  skip
  refine C6 1 [2] Z<|Sb U2<|⟨?_,Z⟩;unfold eL;rw [aI b]
 rw [d,OK (show (0:Int)<((⟨(qtx q).toArray⟩:ByteArray).data.toList.length:Int) by show (0:Int)<(((qtx q).length:Nat):Int);omega),Rc] at a;have b:¬ q.num<0:=Ox a;refine C6 1 [2] Z<|Sb U2<|⟨?_,Z⟩;unfold eL;rw [aA b,aA g]
theorem je (C:Mem)(q:Rat)(b:(qtx q).length<=1000000):Gives cx.P 141 [ai (qtx q)] C (.tuple #[.int .i64 (if Ce q then q.num else 0),.int .i64 (if Ce q then ((q.den:Nat):Int) else 0),.bool (Ce q)]):=by
 have h:=D4 C q b;cases a:Ce q with
 | true=>rw [a] at h;exact h
 | false=>rw [a] at h;exact h
def Df (a b:Rat):Int:=if a<b then -1 else if b<a then 1 else 0
theorem tM :Df a b=uh (a.num*b.den) (b.num*a.den):=by
 unfold Df uh;simp only [Rat.lt_iff]
theorem gz (a:Rat):0<a.den:=Qd a.den_nz
theorem ng {a:Int}(b:a.natAbs<1000000000)(c:d<1000000000):-1000000000000000000<a*(d:Int)/\a*(d:Int)<1000000000000000000:=El b (by rw [Pb];exact c)
theorem vw {a:Nat}(b:a<1000000000)(c:d<1000000000):a*d<1000000000000000000:=Qf b c
theorem jX (C:Mem)(q:Rat)(a:(qtx q).length<1000000):Gives cx.P 143 [ai (qtx q)] C (.tuple #[ai (txt q.num),ai (txt ((q.den:Nat):Int))]):=by
 have h:=KV C q a
 rwa [<- cR] at h
theorem dL (a:z.natAbs<B9 ^ k)(b:w.natAbs<B9 ^ k):(z*w).natAbs<B9 ^ (k+k):=by
 rw [P5];exact na a b
theorem Ak (a:0<d):mS z ((d:Nat):Int)=mkRat z d:=by
 unfold mS;rw [aA om_,Pb]
theorem qq (h:QB k q):((q.den:Nat):Int).natAbs<B9 ^ k:=by rw [Pb];exact h.2
theorem jV (C:Mem)(m:Tabs C)(a b:Rat)(k:Nat)(f:0<k)(u:k<=20000)(d:QB k a)(e:QB k b):Gives cx.P 107 [ai (qtx a),ai (qtx b)] C (.int .i64 (Df a b)):=by
 have v:=bK d f;have w:=bK e f;refine Sc func107 65 U3 fun w0=>C6 1 [0,1] Z<|C6 3 [0,1,19] Z<|R6 (fun g=>?_) fun g=>?_
 ·have h0:a=b:=by rw [KF] at g;exact NM g
  refine C6 1 [4] Z<|Sb U2<|⟨?_,Z⟩;subst h0;rw [Df,aA (Rat.lt_irrefl),aA (Rat.lt_irrefl)]
 refine R4 1 Z fun R c=>Sk (je _ a om_) U7 fl_<|C4 7 [0,1,5,6,7] c Z<|C6 1 [0,1,5,6,26] Z<|G.cut (fun fr C' r s=>(True)/\fr=[(0,[],ai (qtx a)),(1,[],ai (qtx b))]/\r=[]) ?_ (fun fr _ x s _ t=>?_)
 ·refine R6 (fun n=>?_) fun n=>?_
  ·have h:Ce a=true:=n;rw [aI h,aI h];have o:=mb h;refine R4 1 Z fun R c=>Sk (je _ b om_) U7 fl_<|C4 7 [0,1,5,6,8,9,10] c Z<|C6 1 [0,1,5,6,8,9,33] Z<|R6 (fun p=>?_) fun p=>?_
   ·have i:Ce b=true:=p;rw [aI i,aI i];have q:=mb i;have y:=ng o.1 q.2;have z:=ng q.1 o.2;refine R4 2 Z fun R c=>Se _ U7<|R9 2 Z<|Se _ U7<|C4 2 [11,12] c Z<|C6 4 [11,12,40] Z<|R6 (fun j=>?_) fun j=>?_
    ·have h1:=NM j;refine C6 1 [4] Z<|Sb U2<|⟨?_,Z⟩;rw [tM,uh,aI h1]
    have h1:=Ox j;refine C6 4 [44] Z<|R6 (fun l=>?_) fun l=>?_
    ·have h2:=NM l;refine C6 1 [4] Z<|Sb U2<|⟨?_,Z⟩;rw [tM,uh,aA h1,aI h2]
    have h2:=Ox l;refine C6 1 [4] Z<|Sb U2<|⟨?_,Z⟩;rw [tM,uh,aA h1,aA h2]
   refine Si 0 (Mem.le.refl _) (hn_ [0,1] Z) ⟨trivial,Z,Z⟩
  refine Si 0 (Mem.le.refl _) (hn_ [0,1] Z) ⟨trivial,Z,Z⟩
 obtain ⟨_,rfl,rfl⟩:=t;exact R4 1 Z fun R c=>Sk (jX _ a om_) U7 fl_<|C4 5 [1,13,14] c Z<|R4 1 Z fun R c=>Sk (jX _ b om_) U7 fl_<|C4 5 [13,14,15,16] c Z<|R4 2 Z fun R c=>Sk (ka _ m.m_ _ _ k f om_ d.1 (qq e)) U7 fl_<|R9 2 Z<|Sk (ka _ m.m_ _ _ k f om_ e.1 (qq d)) U7 fl_<|Sk (oV _ _ _ (by have:=bU (dL d.1 (qq e)) om_;omega) (by have:=bU (dL e.1 (qq d)) om_;omega)) U7 fl_<|C4 1 [4] c Z<|Sb U2<|⟨by rw [tM],Z⟩
theorem lT (C:Mem)(f:Tabs C)(a b:Rat)(k:Nat)(g:0<k)(w:k<=10000)(d:QB k a)(e:QB k b):Gives cx.P 91 [ai (qtx a),ai (qtx b)] C (ai (qtx (a+b))):=by
 have x:=bK d g;have y:=bK e g;have r:=gz a;have s:=gz b;have o:0<a.den*b.den:=QR r s;refine Sc func91 67 U3 fun w0=>C6 1 [0,1] Z<|C6 2 [0,1,16] Z<|R6 (fun h=>?_) fun h=>?_
 ·have h0:a=0:=by rw [fG] at h;exact NM h
  refine C6 2 [4] Z<|Sb U2<|⟨?_,Z⟩;rw [h0,Rat.zero_add]
 refine C6 2 [0,1,19] Z<|R6 (fun i=>?_) fun i=>?_
 ·have h0:b=0:=by rw [fG] at i;exact NM i
  refine C6 2 [4] Z<|Sb U2<|⟨?_,Z⟩;rw [h0,Rat.add_zero]
 refine R4 1 Z fun R c=>Sk (je _ a om_) U7 fl_<|C4 7 [0,1,5,6,7] c Z<|C6 1 [0,1,5,6,27] Z<|G.cut (fun fr C' t u=>(True)/\fr=[(0,[],ai (qtx a)),(1,[],ai (qtx b))]/\t=[]) ?_ (fun fr _ z u _ v=>?_)
 ·refine R6 (fun p=>?_) fun p=>?_
  ·have j:Ce a=true:=p;rw [aI j,aI j];have l:=mb j;refine R4 1 Z fun R c=>Sk (je _ b om_) U7 fl_<|C4 7 [0,1,5,6,8,9,10] c Z<|C6 1 [0,1,5,6,8,9,34] Z<|R6 (fun q=>?_) fun q=>?_
   ·have m:Ce b=true:=q;rw [aI m,aI m];have n:=mb m;have A:=ng l.1 n.2;have B:=ng n.1 l.2;have D:=vw l.2 n.2;exact R4 2 Z fun R c=>Se _ U7<|R9 2 Z<|Se _ U7<|Se _ U7<|R9 2 Z<|SH (((a.den*b.den:Nat):Int)) U4 (Pj _ _).symm om_ om_ U2<|Sk (uX _ f.m_ _ _ o om_ om_) U7 fl_<|C4 1 [4] c Z<|Sb U2<|⟨by rw [jg],Z⟩
   refine Si 0 (Mem.le.refl _) (hn_ [0,1] Z) ⟨trivial,Z,Z⟩
  refine Si 0 (Mem.le.refl _) (hn_ [0,1] Z) ⟨trivial,Z,Z⟩
 obtain ⟨_,rfl,rfl⟩:=v;exact R4 1 Z fun R c=>Sk (jX _ a om_) U7 fl_<|C4 5 [1,11,12] c Z<|R4 1 Z fun R c=>Sk (jX _ b om_) U7 fl_<|C4 5 [11,12,13,14] c Z<|R4 2 Z fun R c=>Sk (ka _ f.m_ _ _ k g om_ d.1 (qq e)) U7 fl_<|R9 2 Z<|Sk (ka _ f.m_ _ _ k g om_ e.1 (qq d)) U7 fl_<|Sk (Li _ f.m_ _ _ (k+k) om_ om_ (dL d.1 (qq e)) (dL e.1 (qq d))) U7 fl_<|R9 2 Z<|Sk (ka _ f.m_ _ _ k g om_ (qq d) (qq e)) U7 fl_<|Sk (oM _ f.m_ _ _ (k+k+1) om_ om_ (Pk (Q2 _ _) (wY (dL d.1 (qq e)) (dL e.1 (qq d)))) (df (dL (qq d) (qq e)) om_) (by rw [<- Pj];omega)) U7 fl_<|C4 1 [4] c Z<|Sb U2<|⟨by rw [jg,<- Pj,Ak o],Z⟩
theorem Nu (c:QB k a)(d:QB k b):QB (k+k+1) (a+b):=by
 rw [jg];exact gE (Nat.ne_of_gt (QR (gz a) (gz b))) (Pk (Q2 _ _) (wY (dL c.1 (qq d)) (dL d.1 (qq c)))) (df (na c.2 d.2) om_)
theorem pM (c:QB k a)(d:QB k b):QB (k+k) (a*b):=by
 rw [fY];exact gE (Nat.ne_of_gt (QR (gz a) (gz b))) (dL c.1 d.1) (na c.2 d.2)
theorem im (b:QB k a):QB k (-a):=⟨by rw [RT,Rr];exact b.1,by rw [Rat.neg_den];exact b.2⟩
theorem lB (c:QB k a)(d:QB k b):QB (k+k+1) (a-b):=by
 rw [RV];exact Nu c (im d)
theorem AT (b:QB k a)(d:a≠0):QB k a⁻¹:=by
 have c:a.num≠0:=fun e=>d (Rk.1 e);refine ⟨?_, ?_⟩
 ·rw [Rat.num_inv,P5,Int.natAbs_sign_of_ne_zero c,Re,Pb];exact b.2
 rw [Rat.den_inv,aA c];exact b.1
theorem pN (c:QB k a)(d:QB k b)(e:b≠0):QB (k+k) (a / b):=by
 rw [Rat.div_def];exact pM c (AT d e)
theorem Nt (h:z.natAbs<B9 ^ k)(a:0<k):QB k (z:Rat):=⟨h,by
 show 1<B9 ^ k;exact PD (by decide:1<B9 ^ 1) (OO dc_ a)⟩
theorem dN (C:Mem)(g:Tabs C)(a b:Rat)(k:Nat)(i:0<k)(y:k<=10000)(d:QB k a)(e:QB k b):Gives cx.P 92 [ai (qtx a),ai (qtx b)] C (ai (qtx (a*b))):=by
 have z:=bK d i;have A:=bK e i;have w:=gz a;have x:=gz b;have q:0<a.den*b.den:=QR w x;refine Sc func92 66 U3 fun w0=>C6 1 [0,1] Z<|C6 3 [0,1,15] Z<|G.cut (fun fr C' L' j=>(True)/\fr=[(0,[],ai (qtx a)),(1,[],ai (qtx b)),(15,[],.bool (decide (a=0∨b=0)))]/\L'=[]) ?_ (fun fr _ B j _ l=>?_)
 ·refine R6 (fun f=>?_) fun f=>?_
  ·have h0:a=0:=by rw [fG] at f;exact NM f
   rw [fG,show decide (a=0)=decide (a=0∨b=0) by simp [h0]];refine Si 0 (Mem.le.refl _) (hn_ [0,1,15] Z) ⟨trivial,Z,Z⟩
  have h0:¬ a=0:=by rw [fG] at f;exact Ox f
  refine C6 3 [0,1,15] Z ?_;rw [fG,show decide (b=0)=decide (a=0∨b=0) by simp [h0]];refine Si 0 (Mem.le.refl _) (hn_ [0,1,15] Z) ⟨trivial,Z,Z⟩
 obtain ⟨_,rfl,rfl⟩:=l;refine R6 (fun r=>?_) fun r=>?_
 ·have h0:=NM r;refine C6 1 [4] Z<|Sb U2<|⟨?_,Z⟩;rw [show a*b=0 by rcases h0 with h | h <;> simp [h],qtx_zero];rfl
 refine C6 3 [0,1,20] Z<|R6 (fun m=>?_) fun m=>?_
 ·have h1:a=1:=by rw [Jz] at m;exact NM m
  refine C6 2 [4] Z<|Sb U2<|⟨?_,Z⟩;rw [h1,Rat.one_mul]
 refine C6 3 [0,1,24] Z<|R6 (fun n=>?_) fun n=>?_
 ·have h1:b=1:=by rw [Jz] at n;exact NM n
  refine C6 2 [4] Z<|Sb U2<|⟨?_,Z⟩;rw [h1,Rat.mul_one]
 refine R4 1 Z fun R c=>Sk (je _ a om_) U7 fl_<|C4 7 [0,1,5,6,7] c Z<|C6 1 [0,1,5,6,34] Z<|G.cut (fun fr C' L' j=>(True)/\fr=[(0,[],ai (qtx a)),(1,[],ai (qtx b))]/\L'=[]) ?_ (fun fr _ D j _ l=>?_)
 ·refine R6 (fun s=>?_) fun s=>?_
  ·have o:Ce a=true:=s;rw [aI o,aI o];have t:=mb o;refine R4 1 Z fun R c=>Sk (je _ b om_) U7 fl_<|C4 7 [0,1,5,6,8,9,10] c Z<|C6 1 [0,1,5,6,8,9,41] Z<|R6 (fun u=>?_) fun u=>?_
   ·have p:Ce b=true:=u;rw [aI p,aI p];have v:=mb p;have E:=El t.1 v.1;have F:=vw t.2 v.2;exact R4 2 Z fun R c=>Se _ U7<|R9 2 Z<|SH (((a.den*b.den:Nat):Int)) U4 (Pj _ _).symm om_ om_ U2<|Sk (uX _ g.m_ _ _ q om_ om_) U7 fl_<|C4 1 [4] c Z<|Sb U2<|⟨by rw [fY],Z⟩
   refine Si 0 (Mem.le.refl _) (hn_ [0,1] Z) ⟨trivial,Z,Z⟩
  refine Si 0 (Mem.le.refl _) (hn_ [0,1] Z) ⟨trivial,Z,Z⟩
 obtain ⟨_,rfl,rfl⟩:=l;exact R4 1 Z fun R c=>Sk (jX _ a om_) U7 fl_<|C4 5 [1,11,12] c Z<|R4 1 Z fun R c=>Sk (jX _ b om_) U7 fl_<|C4 5 [11,12,13,14] c Z<|R4 2 Z fun R c=>Sk (ka _ g.m_ _ _ k i om_ d.1 e.1) U7 fl_<|R9 2 Z<|Sk (ka _ g.m_ _ _ k i om_ (qq d) (qq e)) U7 fl_<|Sk (oM _ g.m_ _ _ (k+k) om_ om_ (dL d.1 e.1) (dL (qq d) (qq e)) (by rw [<- Pj];omega)) U7 fl_<|C4 1 [4] c Z<|Sb U2<|⟨by rw [fY,<- Pj,Ak q],Z⟩
theorem dM (C:Mem)(e:Tabs C)(a b:Rat)(k:Nat)(c:0<k)(f:k<=10000)(g:QB k a)(d:QB k b):Gives cx.P 226 [ai (qtx a),ai (qtx b)] C (ai (qtx (a-b))):=by
 have i:=bK d c;exact Sc func226 9 U3 fun w0=>C6 1 [0,1] Z<|R4 2 Z fun R h=>Sk (eJ _ b om_) U7 fl_<|Sg (lT _ e.m_ a (-b) k c f g (im d)) U7<|C4 1 [4] h Z<|Sb U2<|⟨by rw [RV],Z⟩
theorem iF (C:Mem)(n:Tabs C)(a b:Rat)(k:Nat)(g:0<k)(o:k<=10000)(p:QB k a)(f:QB k b)(h:b≠0):Gives cx.P 199 [ai (qtx a),ai (qtx b)] C (.tuple #[ai (qtx (a / b)),.int .i64 0]):=by
 have v:=bK f g;have q:b.num≠0:=fun e=>h (Rk.1 e);obtain ⟨c,r,s,l⟩:=sH b;refine Sc func199 27 U3 fun w0=>C6 2 [0,1] Z<|C6 2 [0,1,9] Z<|R6 (fun j=>?_) fun j=>?_
 ·exfalso;rw [fG] at j;exact h (NM j)
 refine R4 1 Z fun R d=>Sk (jX _ b om_) U7 fl_<|C4 5 [0,1,6,7] d Z<|R4 1 Z fun R d=>SY U8 (fun _=>⟨by omega,by rw [s];rfl⟩) U2<|C4 1 [0,6,7,17] d Z<|G.cut (fun fr C' L' t=>(True)/\fr=[(0,[],ai (qtx a)),(6,[],ai (txt (b.num.natAbs:Nat))),(7,[],ai (txt (b⁻¹).num))]/\L'=[]) ?_ (fun fr _ w t _ u=>?_)
 ·refine R6 (fun i=>?_) fun i=>?_
  ·have m:b.num<0:=by rw [l] at i;exact NM i
   refine R4 1 Z fun R d=>Sk (tj _ b.num (by have:=bU f.1 g;omega)) U7 fl_<|R7 U6<|Sk (tj _ ((b.den:Nat):Int) (by have:=bU (qq f) g;omega)) U7 fl_<|C4 2 [0,6,7] d Z ?_;rw [show -b.num=((b.num.natAbs:Nat):Int) by omega,show -((b.den:Nat):Int)=(b⁻¹).num by rw [Rat.num_inv,Int.sign_eq_neg_one_of_neg m,Int.neg_one_mul]];refine Si 0 (Mem.le.refl _) (hn_ [0,6,7] Z) ⟨trivial,Z,Z⟩
  have m:¬ b.num<0:=by rw [l] at i;exact Ox i
  rw [show b.num=((b.num.natAbs:Nat):Int) by omega,show ((b.den:Nat):Int)=(b⁻¹).num by rw [Rat.num_inv,Int.sign_eq_one_of_pos om_,Int.one_mul]];refine Si 0 (Mem.le.refl _) (hn_ [0,6,7] Z) ⟨trivial,Z,Z⟩
 obtain ⟨_,rfl,rfl⟩:=u;rw [cR,show b.num.natAbs=(b⁻¹).den by rw [Rat.den_inv,aA q]];refine R4 3 Z fun R d=>Sk (Fc _ _ _ k g om_ (AT f h).1 (AT f h).2) U7 fl_ ?_;rw [<- ot b⁻¹];refine Sg (dN _ n.m_ a b⁻¹ k g o p (AT f h)) U7<|C4 2 [4,5] d Z<|Sh (G.dropAll (Sy U3 ?_));exact ⟨by rw [Rat.div_def],Z⟩
theorem Kz (C:Mem)(c:Tabs C)(z w:Int)(k:Nat)(d:0<k)(e:k<=40000)(f:z.natAbs<B9 ^ k)(g:w.natAbs<B9 ^ k)(i:w≠0):Gives cx.P 150 [ai (txt z),ai (txt w)] C (.tuple #[ai (qtx (mS z w)),.int .i64 0]):=by
 refine Sc func150 12 U3 fun w0=>C6 2 [0,1] Z<|R4 1 Z fun R a=>Sg (kV _ w) U7<|C4 1 [0,1,8] a Z<|R6 (fun b=>?_) fun b=>?_
 ·exfalso;have h:eL w=0:=by simpa using b
  rcases dT w with h2 | h2 | h2 <;> omega
 refine R4 2 Z fun R a=>Sg (oM _ c.m_ z w k d e f g i) U7<|C4 2 [4,5] a Z<|Sh (G.dropAll (Sy U3 ?_));exact ⟨Z,Z⟩
theorem D8 (C:Mem)(a:Tabs C)(z w:Int)(d:z.natAbs<9000000000000000000)(e:w.natAbs<9000000000000000000)(b:w≠0):Gives cx.P 98 [.int .i64 z,.int .i64 w] C (.tuple #[ai (qtx (mS z w)),.int .i64 0]):=by
 have f:9000000000000000000<B9 ^ 3:=by decide
 refine Sc func98 13 U3 fun w0=>C6 2 [0,1] Z<|R4 1 Z fun R c=>Sk (rt _ a.m_ z om_ om_) U7 fl_<|R7 U6<|Sk (rt _ a.m_ w om_ om_) U7 fl_<|Sk (Kz _ a.m_ z w 3 dc_ dc_ om_ om_ b) U7 fl_<|C4 4 [4,5] c Z<|Sh (G.dropAll (Sy U3 ?_));exact ⟨Z,Z⟩
theorem kC (C:Mem)(a:Tabs C)(z:Int)(c:z.natAbs<9000000000000000000):Gives cx.P 45 [.int .i64 z] C (ai (qtx z)):=by
 exact Sc func45 5 U3 fun w0=>C6 1 [0] Z<|R4 1 Z fun R b=>Sk (rt _ a.m_ z om_ om_) U7 fl_<|C4 1 [2] b Z<|Sb U2<|⟨by rw [lU],Z⟩
theorem pow9 (k:Nat):B9 ^ k=10 ^ (9*k):=by rw [Nat.pow_mul]
theorem eV (h:cA s=true):s=txt (ij s)/\(ij s).natAbs<B9 ^ 23:=by
 have h1:=qN.1 h;refine ⟨Gf (by unfold cA at h;exact (RR.1 h).1), ?_⟩;rw [II];have h2:=xt.1 h1.1;have h3:=dE h2.1.1;exact PD h3 (by rw [pow9];exact OO dc_ om_)
theorem Jx (h:bg s=true):∃ q:Rat,s=qtx q/\QB 23 q:=by
 unfold bg at h;rw [OC,OC] at h;obtain ⟨⟨h1,h2⟩,h3⟩:=h;obtain ⟨a,b⟩:=eV h1;rcases gj 47 s with ⟨d,_,_⟩ | ⟨c,post,d,hs,_⟩
 ·rw [d] at a b;exact ⟨((ij s:Int):Rat),by rw [lU];exact a,Nt b dc_⟩
 rw [d] at h2 h3 a b;simp only [Pu] at h2 a b;obtain ⟨e,f⟩:=eV h2;unfold ol at h3;simp only [OC,Oz,PV] at h3;obtain ⟨⟨h4,_⟩,g⟩:=h3;have i:(ij post).natAbs≠0:=by omega
 refine ⟨⟨ij c,(ij post).natAbs,i,g⟩, ?_,b,f⟩;rw [ot];show s=txt (ij c)++er (mT (ij post).natAbs);rw [fq om_,<- a,hs];show c++47::post=c++47::bj (ij post).natAbs;rw [<- cR,show (((ij post).natAbs:Nat):Int)=ij post by omega,<- e]
theorem qm (C:Mem)(b:Str)(a:cA b=true):Gives cx.P 161 [ai b,ai [49]] C (.int .i64 (uh (ij b) 1)):=by
 obtain ⟨h1,h2⟩:=eV a;have h:=oV C (ij b) 1 (by have:=bU h2 dc_;omega) (by rw [show bj (1:Int).natAbs=[49] from one_dec];decide)
 rwa [<- one_val,<- h1] at h
theorem BX (C:Mem)(c:Tabs C)(a b:Str)(d:cA a=true)(e:cA b=true):Gives cx.P 208 [ai a,ai b] C (ai (txt (Nat.gcd (ij a).natAbs (ij b).natAbs:Nat))):=by
 obtain ⟨h1,h2⟩:=eV d;obtain ⟨h3,h4⟩:=eV e;have h:=Fh C c (ij a) (ij b) 23 dc_ dc_ h2 h4
 rwa [<- h1,<- h3] at h
theorem we {b:Bool}(h:(pU b != 0)=false):b=true:=by cases b <;> first | rfl | (exact absurd h dc_)
theorem dF (C:Mem)(y:Tabs C)(s:Str)(A:s.length<=999998):Gives cx.P 140 [ai s] C (.int .i64 (pU (bg s))):=by
 have u:=Eb A;obtain ⟨c,f,l⟩:∃ a b,jt 47 s=(a,b):=⟨_,_,rfl⟩;have k:bg s=(cA c && cA (f.getD [49]) && ol (ij c) f):=by
  unfold bg;rw [l]
 rw [l] at u;simp only at u;refine Sc func140 39 U3 fun w0=>C6 1 [0] Z<|R4 1 Z fun R g=>Sk (by have h:=JZ C s 47 om_;rw [l] at h;exact h) U7 fl_<|C4 7 [3,4,5] g Z<|R4 1 Z fun R g=>Sg (vK _ c) U7<|C4 1 [3,4,5,16] g Z<|R6 (fun i=>?_) fun i=>?_
 ·have j:bg s=false:=by
   rw [k];cases h1:cA c with
   | false=>rfl
   | true=>rw [h1] at i;exact absurd i dc_
  exact C6 1 [2] Z<|Sb U2<|⟨by rw [j];rfl,Z⟩
 have m:cA c=true:=by
  cases h1:cA c with
  | true=>rfl
  | false=>rw [h1] at i;exact absurd i dc_
 rw [m,Rc] at k;obtain ⟨v,B⟩:=eV m;refine C6 2 [3,4,18] Z<|R6 (fun n=>?_) fun n=>?_
 ·have o:f=none:=by
   cases f with
   | none=>rfl
   | some b=>simp at n
  refine C6 1 [2] Z<|Sb U2<|⟨?_,Z⟩;rw [k,o];rfl
 obtain ⟨b,o⟩:∃ b,f=some b:=by
  cases f with
  | some b=>exact ⟨b,rfl⟩
  | none=>simp at n
 subst o;obtain ⟨d,w⟩:∃ z,ij c=z:=⟨_,rfl⟩;obtain ⟨e,x⟩:∃ z,ij b=z:=⟨_,rfl⟩;have p:bg s=(cA b && ol (ij c) (some b)):=k;unfold ol at p;simp only [w,x] at p v B;have D:(c == [48])=(d == 0):=by
  rw [v];have h:=kE d;rw [show (d == 0)=decide (d=0) by by_cases h:d=0 <;> simp [h]];exact h
 have E:(pU (cA b) != 0)=!cA b:=by cases cA b <;> rfl
 have F:decide (uh e 1<=0)=!decide (1<e):=by
  unfold uh;by_cases h:1<e
  ·rw [aA om_,aI h,OK h];rfl
  rw [OV h];refine OK ?_;split <;> first | omega | (split <;> omega)
 have q:(pU (cA b) != 0 || decide (uh (ij b) 1<=0) || (c == [48]) || !(bj ((ij c).natAbs.gcd (ij b).natAbs) == [49]))=!bg s:=by
  have G:=rL (d.natAbs.gcd e.natAbs);have H:(bj (d.natAbs.gcd e.natAbs) == [49])=(d.natAbs.gcd e.natAbs == 1):=G;rw [w,x,D,E,F,H,p];cases cA b <;> cases decide (1<e) <;> cases (d == 0) <;> cases (d.natAbs.gcd e.natAbs == 1) <;> rfl
 rw [<- cR] at q;refine C6 4 [6,7] Z<|R4 1 Z fun R g=>Sg (vK _ b) U7<|R9 3 Z<|Su (fun r=>(qm _ b (by exact we (show (pU (cA b) != 0)=false/\True from r).1))) U9<|R7 U6<|SA U8<|R9 3 Z<|SA U8<|R9 3 Z<|Su (fun r=>(BX _ y.m_ c b m (by exact we (PR.1 (PR.1 (show (((pU (cA b) != 0) || decide (uh (ij b) 1<=0)) || (c == [48]))=false/\True from r).1).1).1))) U9<|R7 U6<|SA U8<|Sa [38] g Z<|R6 (fun t=>?_) fun t=>?_
 ·have j:bg s=false:=by
   have h:(!bg s)=true:=q.symm.trans t;simpa using h
  exact C6 1 [2] Z<|Sb U2<|⟨by rw [j];rfl,Z⟩
 have j:bg s=true:=by
  have h:(!bg s)=false:=q.symm.trans t;simpa using h
 exact C6 1 [2] Z<|Sb U2<|⟨by rw [j];rfl,Z⟩
theorem MF (z:Int)(b:g ∣ z.natAbs):sgZ (decide (z<0) != false) (z.natAbs / g)=z / (g:Int):=by
 obtain ⟨m,hm⟩:=b;rcases PM g with h | c
 ·subst h;have a:z=0:=by omega
  subst a;rfl
 rw [hm,Nat.mul_div_cancel_left _ c,Bool.bne_false];unfold sgZ;by_cases a:z<0
 ·rw [OK a,aI rfl,show z=(g:Int)*(-(m:Int)) by rw [Int.mul_neg,<- Pj];omega,Int.mul_ediv_cancel_left _ om_]
 rw [OV a,aA dc_,show z=(g:Int)*(m:Int) by rw [<- Pj];omega,Int.mul_ediv_cancel_left _ om_]
theorem vT (C:Mem)(c:Tabs C)(z:Int)(b:Nat)(m:z.natAbs<BP ^ 200)(n:b<BP ^ 200)(F:0<b)(d:b ∣ z.natAbs):Gives cx.P 224 [ai (txt z),ai (bj b)] C (.tuple #[ai (txt (z / (b:Int))),ai (bj 0)]):=by
 have H:=NB;have o:z.natAbs % b=0:=Nat.mod_eq_zero_of_dvd d;have f:(b:Int) ∣ z:=QS.1 (Qe.2 d);have I:(z / (b:Int)).natAbs<=z.natAbs:=by
  rw [Qu f,Pb];exact Pv _ _
 refine Sc func224 93 U3 fun w0=>C6 2 [0,1] Z<|R4 1 Z fun R a=>Sg (AP C z) U7<|C4 5 [0,1,6,7] a Z<|R4 1 Z fun R a=>Sg (pC _ b) U7<|C4 5 [0,1,6,7,8,9] a Z<|R4 3 Z fun R a=>Sv U8<|Sa [0,1,6,8,31] a Z<|R6 (fun g=>?_) fun g=>?_
 ·have hs:(bj z.natAbs).length<=17/\(bj b).length<=17:=by simpa using g
  have h1:=AO hs.1;have h2:=pD hs.2;rw [aI hs.1,aI hs.2];refine Ss [0,1,2,3,4,5,6,7] [] Z kr_ fun R J a=>R9 2 Z<|Tg (z / (b:Int)) U6 om_ (oq d) (wrap_i64 om_ om_) U2<|R9 2 Z<|S7 0 U6 om_ ⟨(Int.tmod_eq_zero_of_dvd f),Z,Z⟩<|C4 2 [6,8,10,11] a Z<|C6 2 [6,8,10,11,39] Z<|R6 (fun h=>?_) fun h=>?_
  ·exfalso;simp at h
  refine R4 1 Z fun R a=>Sk (kN _ c (z / (b:Int)) om_ om_) U7 fl_<|R7 U6<|Sk (EH _ c 0 om_) U7 fl_<|C4 2 [4,5] a Z<|Sh (G.dropAll (Sy U3 ?_));exact ⟨Z,Z⟩
 refine R4 1 Z fun R a=>Sg (eZ _ z) U7<|C4 5 [1,12,13] a Z<|R4 1 Z fun R a=>Sg (nT _ b) U7<|C4 5 [12,13,14,15] a Z<|R4 1 Z fun R a=>SI (mV _ z.natAbs m) U7 (fun K _ _ p=>?_);obtain ⟨lp,q,r,L,s⟩:=p;refine R7 U6<|SI (mV _ b n) U7 (fun M _ _ t=>?_);obtain ⟨u,v,w,N,x⟩:=t;refine SD (zE _ _ _ lp u s.m_ x.m_ q.1 v om_ om_ om_) U7 fl_ (fun O _ _ y=>?_);obtain ⟨u1,Q,rfl,i,e⟩:=y;rw [r,w] at i e;rw [o] at e;obtain ⟨l1,A,B,S,D⟩:=PieC.take i (by have:=Pv z.natAbs b;omega);obtain ⟨l2,j,E,T,k⟩:=PieC.take e om_;obtain ⟨A2,c2,rfl,_⟩:=id k;obtain rfl:=(AK j).1 E;refine C4 5 [12,14,15,16,17] a Z<|R4 5 Z fun R a=>Sv U8<|Sa [12,14,15,16,17,78] a Z<|R6 (fun l=>?_) fun l=>?_
 ·exfalso;simp at l
 refine R4 4 Z fun R a=>Sk (EU _ c.m_ _ _ l1 D.m_ A.1 om_) U7 fl_<|R7 U6<|Sk (sY _ c.m_ _ [] k.m_ j.1 am) U7 fl_<|C4 2 [4,5] a Z<|Sh (G.dropAll (Sy U3 ?_));refine ⟨?_,Z⟩;show Value.tuple #[ai (txt (sgZ (decide (z<0) != false) (bI l1))),_]=_;rw [B,MF z d];rfl
theorem zM (h:(txt z).length<=9):z.natAbs<1000000000:=by
 have h1:=yk h
 rwa [e9] at h1
theorem DO (C:Mem)(k:Tabs C)(z w:Int)(v:(txt z).length<=9)(A:(txt w).length<=9)(Q:w≠0):Gives cx.P 220 [ai (txt z),ai (txt w)] C (ai (qtx (mS z w))):=by
 have S:=zM v;have T:=zM A;obtain ⟨n,i⟩:∃ y,(if w<0 then -z else z)=y:=⟨_,rfl⟩;obtain ⟨d,B⟩:∃ d,w.natAbs=d:=⟨_,rfl⟩;have r:0<d:=by omega
 have D:n.natAbs<1000000000:=by rw [<- i];split <;> omega
 unfold mS;rw [i,B];obtain ⟨g,b⟩:∃ g,Nat.gcd n.natAbs d=g:=⟨_,rfl⟩;have E:0<g:=by rw [<- b];exact QV _ r
 have s:g ∣ n.natAbs:=by rw [<- b];exact Q9 _ _
 have F:g ∣ d:=by rw [<- b];exact Rt _ _
 have U:g<=d:=RW r F;have H:(n / (g:Int)).natAbs<=n.natAbs:=by
  rw [Qu (QS.1 (Qe.2 s)),Pb];exact Pv _ _
 have t:=Pv d g;rw [zt om_,b];refine Sc func220 55 U3 fun w0=>C6 1 [0,1] Z<|R4 1 Z fun R a=>Sk (yj Tryz.atoi z om_ _ kr_) U7 fl_<|C4 5 [1,5] a Z<|R4 1 Z fun R a=>Sk (yj Tryz.atoi w om_ _ kr_) U7 fl_<|C4 5 [5,7] a Z<|C6 2 [5,7,22] Z<|G.cut (fun fr C' c e=>(True)/\fr=[(5,[],.int .i64 n),(7,[],.int .i64 d)]/\c=[]) ?_ (fun fr _ V e _ f=>?_)
 ·refine R6 (fun l=>?_) fun l=>?_
  ·have h:w<0:=by simpa using l
   rw [aI h] at i;refine C6 6 [5,7] Z ?_;rw [show IntKind.i64.wrap (0-z)=n by rw [wrap_i64 om_ om_];omega,show IntKind.i64.wrap (0-w)=(d:Int) by rw [wrap_i64 om_ om_];omega];refine Si 0 (Mem.le.refl _) (hn_ [5,7] Z) ⟨trivial,Z,Z⟩
  have h:¬ w<0:=by simpa using l
  rw [aA h] at i;rw [show z=n by omega,show w=(d:Int) by omega];refine Si 0 (Mem.le.refl _) (hn_ [5,7] Z) ⟨trivial,Z,Z⟩
 obtain ⟨_,rfl,rfl⟩:=f;refine C6 4 [5,7,9,10] Z<|C6 2 [5,7,9,10,30] Z<|G.cut (fun fr C' c e=>(True)/\fr=[(5,[],.int .i64 n),(7,[],.int .i64 d),(9,[],.int .i64 (n.natAbs:Nat)),(10,[],.int .i64 d)]/\c=[]) ?_ (fun fr _ W e _ f=>?_)
 ·refine R6 (fun o=>?_) fun o=>?_
  ·have h:n<0:=by simpa using o
   refine C6 3 [5,7,9,10] Z ?_;rw [show IntKind.i64.wrap (0-n)=((n.natAbs:Nat):Int) by rw [wrap_i64 om_ om_];omega];refine Si 0 (Mem.le.refl _) (hn_ [5,7,9,10] Z) ⟨trivial,Z,Z⟩
  have h:¬ n<0:=by simpa using o
  refine Si 0 (Mem.le.refl _) (hn_ [5,7,9,10] Z) ⟨trivial,by rw [show ((n.natAbs:Nat):Int)=n by omega],Z⟩
 obtain ⟨_,rfl,rfl⟩:=f;refine G.loop (fun fr C' c e=>∃ (x y:Int),(x.natAbs<9000000000000000000/\0<=x/\0<=y/\y.natAbs<9000000000000000000/\Nat.gcd x.natAbs y.natAbs=g)/\fr=[(5,[],.int .i64 n),(7,[],.int .i64 d),(9,[],.int .i64 x),(10,[],.int .i64 y)]/\c=[]/\e=y.natAbs+1) (hn_ [5,7,9,10] Z) ⟨(n.natAbs:Int),d,⟨by omega,by omega,by omega,by omega,by rw [Pb,Pb];exact b⟩,Z,Z,Z⟩ (fun fr X Y m I f=>?_);obtain ⟨x,y,⟨aa,J,K,L,u⟩,rfl,rfl,rfl⟩:=f;refine C6 2 [5,7,9,10,34] Z<|R6 (fun p=>?_) fun p=>?_
 ·have q:y≠0:=by simpa using p
  have M:(x.tmod y).natAbs=x.natAbs % y.natAbs:=Q0 x y;have ab:=Pd x.natAbs (show 0<y.natAbs by omega);have N:=Int.tmod_nonneg y J;refine Ss [0,1,2,3,4,5] [] Z kr_ fun R O a=>R9 3 Z<|S7 (x.tmod y) U6 q U3<|C4 2 [5,7,9,10] a Z<|Sj (m':=(x.tmod y).natAbs+1) om_ I (hn_ [5,7,9,10] Z) ⟨y,x.tmod y,⟨L,K,N,by omega,by rw [M,<- u,Qy x.natAbs,RS y.natAbs x.natAbs,Qy]⟩,Z,Z,Z⟩
 have q:y=0:=by simpa using p
 subst q;rw [show (0:Int).natAbs=0 from rfl,QZ] at u;obtain rfl:x=(g:Int):=by omega
 refine Ss [0,1,2,3,4,5,6,7] [] Z kr_ fun R O a=>R9 2 Z<|Tg (n / (g:Int)) U6 om_ (oq s) (wrap_i64 om_ om_) U2<|R9 2 Z<|S9 (d) (g) U6 E (.inl ⟨Z,by omega⟩) U2<|C4 2 [5,7] a Z<|C6 2 [5,7,46] Z<|R6 (fun j=>?_) fun j=>?_
 ·have h1:d / g=1:=by
   have h2:(((d / g:Nat):Int))=1:=by simpa using j
   omega
  refine R4 1 Z fun R a=>Sk (iO _ k.m_ _ om_ om_) U7 fl_<|C4 1 [4] a Z<|Sb U2<|⟨?_,Z⟩;rw [h1,lm rfl];simp [er]
 have h1:d / g≠1:=by
  intro h2;rw [h2] at j;exact absurd j dc_
 have ac:=lL (n / (g:Int));have ad:=lL ((d / g:Nat):Int);have ae:(bj (n / (g:Int)).natAbs).length<=20:=ek (Pk H (Qz D dc_)) dc_;have af:(bj ((d / g:Nat):Int).natAbs).length<=20:=ek (by rw [Pb];exact Pk t (Qz (show d<1000000000 by omega) dc_)) dc_;refine R4 1 Z fun R a=>Sk (iO _ k.m_ _ om_ om_) U7 fl_<|S1 U6 (fun _=>(by simp only [OI,O4];omega)) U2<|R7 U6<|Sk (iO _ k.m_ ((d / g:Nat):Int) (R0 dc_ (RU _)) (R0 (Int.ofNat_le.2 t) om_)) U7 fl_<|S1 U6 (fun _=>(by simp only [Oy,OI,O4];omega)) U2<|C4 1 [4] a Z<|Sb U2<|⟨?_,Z⟩;rw [fq h1,cR,OU];rfl
theorem Gr (h:z.natAbs<m)(g:Nat)(a:g ∣ z.natAbs):(z / (g:Int)).natAbs<m:=by
 rw [Qu (QS.1 (Qe.2 a)),Pb];exact Pk (Pv _ _) h
theorem Ip (C:Mem)(a:Tabs C)(y:Int)(d:Nat)(b:y.natAbs<BP ^ 200)(c:d<BP ^ 200):Gives cx.P 223 [ai (txt y),ai (bj d)] C (ai (bj (Nat.gcd y.natAbs d))):=by
 have h:=Ca C a y (d:Nat) b om_
 rwa [cR,Pb] at h
theorem xF (C:Mem)(e:Tabs C)(z w:Int)(j:z.natAbs<BP ^ 200)(n:w.natAbs<BP ^ 200)(o:w≠0):Gives cx.P 147 [ai (txt z),ai (txt w)] C (ai (qtx (mS z w))):=by
 have B:=gg j;have D:=gg n;obtain ⟨y,hy⟩:∃ y,(if w<0 then -z else z)=y:=⟨_,rfl⟩;obtain ⟨d,p⟩:∃ d,w.natAbs=d:=⟨_,rfl⟩;have q:d≠0:=by omega
 have r:y.natAbs=z.natAbs:=by rw [<- hy];split <;> omega
 obtain ⟨g,b⟩:∃ g,Nat.gcd y.natAbs d=g:=⟨_,rfl⟩;have k:0<g:=by rw [<- b];exact QV _ om_
 have s:g ∣ d:=by rw [<- b];exact Rt _ _
 have l:g ∣ y.natAbs:=by rw [<- b];exact Q9 _ _
 have E:g<=d:=RW om_ s;refine Sc func147 46 U3 fun w0=>C6 1 [0,1] Z<|R4 7 Z fun R a=>Sv U8<|Sa [0,1,13] a Z<|R6 (fun m=>?_) fun m=>?_
 ·have h:(txt z).length<=9/\(txt w).length<=9:=by
   have h1:=(OC _ _ ▸ m:_/\_);have h2:((txt z).length:Int)<=9:=NM h1.1;have h3:((txt w).length:Int)<=9:=NM h1.2;omega
  exact R4 2 Z fun R a=>Sg (DO _ e.m_ z w h.1 h.2 o) U7<|C4 1 [4] a Z<|Sb U2<|⟨Z,Z⟩
 refine R4 1 Z fun R a=>Sg (xg _ w) U7<|C4 1 [0,1,19] a Z<|G.cut (fun fr C' t u=>(True)/\fr=[(0,[],ai (txt y)),(1,[],ai (bj d))]/\t=[]) ?_ (fun fr _ F u _ v=>?_)
 ·refine R6 (fun f=>?_) fun f=>?_
  ·have i:w<0:=by
    have h:=NM f;refine O3 fun h2=>?_;rw [aA h2] at h;revert h;split <;> decide
   rw [aI i] at hy;refine R4 1 Z fun R a=>Sk (rh _ z om_) U7 fl_<|R7 U6<|Sk (rh _ w om_) U7 fl_<|C4 2 [0,1] a Z<|Si 0 (Mem.le.refl _) (hn_ [0,1] Z) ⟨trivial,by rw [hy,show -w=((d:Nat):Int) by omega,cR],Z⟩
  have i:¬ w<0:=by
   intro h2;have h:=Ox f;rw [aI h2] at h;exact h dc_
  rw [aA i] at hy;refine Si 0 (Mem.le.refl _) (hn_ [0,1] Z) ⟨trivial,by rw [hy,show w=((d:Nat):Int) by omega,cR],Z⟩
 obtain ⟨_,rfl,rfl⟩:=v;unfold mS;rw [hy,p,zt q,b];have x:=Gr (z:=y) (by rw [r];exact j) g l;have H:=gg x;have A:d / g<BP ^ 200:=Pk (Pv _ _) om_;have I:=gg A;have J:=lL (y / (g:Int));refine R4 2 Z fun R a=>Sk (Ip _ e.m_ y d om_ om_) U7 fl_<|C4 1 [0,1,5] a Z ?_;rw [b];refine R4 2 Z fun R a=>Sk (vT _ e.m_ y g om_ om_ k l) U7 fl_<|C4 4 [0,1,5] a Z<|R4 2 Z fun R a=>Sk (li _ e.m_ d g om_ om_ k) U7 fl_<|C4 4 [0,1] a Z<|C6 2 [0,1,40] Z<|R6 (fun c=>?_) fun c=>?_
 ·have h1:d / g=1:=by rw [rL] at c;exact NM c
  refine C6 2 [4] Z<|Sb U2<|⟨?_,Z⟩;rw [lm h1];simp [er]
 have h1:d / g≠1:=by rw [rL] at c;exact Ox c
 refine R4 1 Z fun R a=>S1 U6 (fun _=>(by simp only [OI,O4];omega)) U2<|R7 U6<|S1 U6 (fun _=>(by simp only [Oy,OI,O4];omega)) U2<|C4 1 [4] a Z<|Sb U2<|⟨?_,Z⟩;rw [fq h1,OU];rfl
theorem MZ (C:Mem)(a:Tabs C)(z w:Int)(d:z.natAbs<9000000000000000000)(e:w.natAbs<9000000000000000000)(b:w≠0):Gives cx.P 96 [.int .i64 z,.int .i64 w] C (ai (qtx (mS z w))):=by
 have f:9000000000000000000<BP ^ 200:=by decide +kernel
 exact Sc func96 10 U3 fun w0=>C6 1 [0,1] Z<|R4 1 Z fun R c=>Sk (kN _ a.m_ z om_ om_) U7 fl_<|R7 U6<|Sk (kN _ a.m_ w om_ om_) U7 fl_<|Sk (xF _ a.m_ z w om_ om_ b) U7 fl_<|C4 1 [4] c Z<|Sb U2<|⟨Z,Z⟩
theorem zu (q:Rat):q.num<0 ↔ q<0:=by
 rw [Rat.lt_iff];simp
theorem ve (h:(bj z.natAbs).length<=200):cA (txt z)=true:=by
 refine qN.2 ?_;rw [di];refine ⟨xt.2 ⟨(bA _).1,h⟩,fun a=>?_⟩;have h1:=NM a;show 0<bS (bj z.natAbs);rw [(bA _).2];omega
theorem Ay (z:Int):ij (txt z)=z:=by
 unfold ij;rw [di];show sgZ (decide (z<0)) (bS (bj z.natAbs))=z;rw [(bA _).2];unfold sgZ;by_cases h:z<0
 ·rw [OK h,aI rfl];omega
 rw [OV h,aA dc_];omega
theorem bM (h:QB 22 q):bg (qtx q)=true:=by
 have h1:(bj q.num.natAbs).length<=200:=by have:=bU h.1 dc_;omega
 have h2:(bj q.den).length<=200:=by have:=bU h.2 dc_;omega
 unfold bg;rw [np];show (cA (txt q.num) && cA ((mT q.den).getD [49]) && ol (ij (txt q.num)) (mT q.den))=true;rw [FS,Ay,ve h1,<- cR,ve (by rw [Pb];exact h2),Rc,Rc];by_cases a:q.den=1
 ·rw [lm a];rfl
 rw [fq a];unfold ol;show (decide (1<ij (bj q.den)) && !(q.num == 0) && (Nat.gcd q.num.natAbs (ij (bj q.den)).natAbs == 1))=true;have b:ij (bj q.den)=((q.den:Nat):Int):=by rw [<- cR,Ay]
 have d:=gz q;rw [b,OK om_,Pb,show Nat.gcd q.num.natAbs q.den=1 from q.reduced];have c:q.num≠0:=by
  intro e;have h3:=q.reduced;rw [e] at h3;have h4:Nat.gcd 0 q.den=1:=h3;rw [Nat.gcd_zero_left] at h4;exact a h4
 simp [c]
theorem wg (h:QB 22 q):pU (bg (qtx q))=0:=by rw [bM h];rfl
abbrev Pt:=Rat × Rat
def fR (p:Pt):List Value:=[ai (qtx p.1),ai (qtx p.2)]
def ptV (p:Pt):Value:=.agg ⟨fR p⟩
def QP (k:Nat)(p:Pt):Prop:=QB k p.1/\QB k p.2
def fw (a b c:Pt):Rat:=(b.1-a.1)*(c.2-a.2)-(b.2-a.2)*(c.1-a.1)
theorem gk (b:Bool):pU b=0/\b=true∨pU b=2/\b=false:=by cases b <;> simp [pU]
def mR (s:Str):List Value:=[ai s]
theorem qY (C:Mem)(h:Tabs C)(v:Value)(l:List Str)(c:Sl C 1 v (l.map mR))(j:∀ s∈l,s.length<=999998):Gives cx.P 151 [v] C (.int .i64 (pU (l.all bg))):=by
 obtain ⟨k,c0,rfl,n,w,_⟩:=id c;have x:maxLen<=9223372036854775807:=by simp [maxLen]
 simp only [al] at c n ⊢;refine Sc func151 18 U3 fun w0=>C6 1 [0] Z<|C6 3 [6,7,8] Z<|G.loop (fun fr C' o p=>∃ (i:Nat),(i<=l.length/\(l.take i).all bg=true)/\fr=[(6,[],.slice k l.length c0),(7,[],.int .i64 l.length),(8,[],.int .i64 i)]/\o=[]/\p=l.length-i) (hn_ [6,7,8] Z) ⟨0,⟨Ow _,by simp⟩,Z,Z,Z⟩ (fun fr y z m q r=>?_);obtain ⟨i,⟨A,d⟩,rfl,rfl,rfl⟩:=r;refine C6 1 [6,7,8,9] Z<|R6 (fun e=>?_) fun e=>?_
 ·have f:i<l.length:=by simpa using e
  obtain ⟨s,hs⟩:∃ s,l[i]?=some s:=⟨l[i],ak f⟩;refine R8 fun R a=>Sm c.m_ U10 om_ (by rw [Ou,hs];rfl:(l.map mR)[i]?=some (mR s)) fl_ fun B t=>R5 t U8<|C4 1 [4,6,7,8] a Z<|R4 1 Z fun R a=>Sg (dF _ h.m_ s (j s (Oq hs))) U7<|C4 1 [5,6,7,8] a Z<|C6 2 [5,6,7,8,15] Z<|R6 (fun b=>?_) fun b=>?_
  ·have g:bg s=false:=by
    rcases gk (bg s) with ⟨h1,h2⟩ | ⟨h1,h2⟩
    ·rw [h1] at b;exact absurd b dc_
    exact h2
   refine C6 2 [2] Z<|Sb U2<|⟨?_,Z⟩;rw [g,show l.all bg=false from Q3.2 ⟨s,Oq hs,by rw [g];decide⟩]
  have u:bg s=true:=by
   rcases gk (bg s) with ⟨h1,h2⟩ | ⟨h1,h2⟩
   ·exact h2
   rw [h1] at b;exact absurd b dc_
  refine R8 fun R a=>Se _ U7<|C4 1 [6,7,8] a Z<|Sj (m':=l.length-(i+1)) om_ q (hn_ [6,7,8] Z) ⟨i+1,⟨by omega,by rw [OS,hs,RM,d];simp [u]⟩,Z,Z,Z⟩
 have f:i=l.length:=by
  have:¬ i<l.length:=by simpa using e
  omega
 refine C6 1 [2] Z<|Sb U2<|⟨?_,Z⟩;rw [f,OH] at d;rw [d];rfl
theorem Mq (a:s.length<=n)(b:t.length<=n):∀ x∈[s,t],x.length<=n:=by simp [a,b]
theorem G2 {u:Str}(a:s.length<=n)(b:t.length<=n)(c:u.length<=n):∀ x∈[s,t,u],x.length<=n:=by simp [a,b,c]
theorem gZ (C:Mem)(b:Tabs C)(s t:Str)(c:s.length<=999998)(d:t.length<=999998):Gives cx.P 99 [.agg ⟨[ai s,ai t]⟩] C (.int .i64 (pU (bg s && bg t))):=by
 refine Sc func99 9 U3 fun w0=>R8 fun R a=>So U6 fun f=>C4 1 [1] a Z<|R4 1 Z fun R a=>Sd af U9<|R7 U6<|Sd af U9<|Sr [mR s,mR t] U12 fun g _ _ e=>Sg (qY _ b.m_ _ [s,t] e.m_ (Mq c d)) U7<|C4 1 [2] a Z<|Sb U2<|⟨?_,Z⟩;simp
theorem qw (C:Mem)(b:Tabs C)(s t u:Str)(c:s.length<=999998)(d:t.length<=999998)(e:u.length<=999998):Gives cx.P 162 [.agg ⟨[ai s,ai t,ai u]⟩] C (.int .i64 (pU (bg s && bg t && bg u))):=by
 refine Sc func162 11 U3 fun w0=>R8 fun R a=>So U6 fun g=>C4 1 [1] a Z<|R4 1 Z fun R a=>Sd af U9<|R7 U6<|Sd af U9<|R7 U6<|Sd af U9<|Sr [mR s,mR t,mR u] U12 fun h _ _ f=>Sg (qY _ b.m_ _ [s,t,u] f.m_ (G2 c d e)) U7<|C4 1 [2] a Z<|Sb U2<|⟨?_,Z⟩;simp [Bool.and_assoc]
theorem kl (C:Mem)(e:Tabs C)(a b c:Pt)(k:Nat)(g:0<k)(l:k<=1000)(d:QP k a)(h:QP k b)(i:QP k c):Gives cx.P 152 [ptV a,ptV b,ptV c] C (ai (qtx (fw a b c))):=by
 have h1:=lB h.1 d.1;have h2:=lB i.2 d.2;have h3:=lB h.2 d.2;have h4:=lB i.1 d.1;exact Sc func152 32 U3 fun w0=>R8 fun R f=>So U6 fun m=>So U6 fun n=>So U6 fun o=>C4 1 [3,4,5] f Z<|Ss [0,1,2,3,4,5,6,7,8,9,10,11] [(4,1),(9,1),(10,1)] Z kr_ fun R j f=>R7 U6<|Sd ae U9<|R7 U6<|Sd ac U9<|Su (fun _=>(dM _ e.m_ b.1 a.1 k g om_ h.1 d.1)) U9<|R7 U6<|Sd af U9<|R7 U6<|Sd ac U9<|Su (fun _=>(dM _ e.m_ c.2 a.2 k g om_ i.2 d.2)) U9<|Su (fun _=>(dN _ e.m_ (b.1-a.1) (c.2-a.2) (k+k+1) om_ om_ h1 h2)) U9<|C4 1 [3,4,5,7] f Z<|Ss [0,1,2,3,4,5,6,7,8,9,10,11,12,13] [(5,1),(10,1),(11,1),(12,1)] Z kr_ fun R j f=>R9 2 Z<|Sd ae U9<|R7 U6<|Sd ac U9<|Su (fun _=>(dM _ e.m_ b.2 a.2 k g om_ h.2 d.2)) U9<|R7 U6<|Sd af U9<|R7 U6<|Sd ac U9<|Su (fun _=>(dM _ e.m_ c.1 a.1 k g om_ i.1 d.1)) U9<|Su (fun _=>(dN _ e.m_ (b.2-a.2) (c.1-a.1) (k+k+1) om_ om_ h3 h4)) U9<|Su (fun _=>(dM _ e.m_ ((b.1-a.1)*(c.2-a.2)) ((b.2-a.2)*(c.1-a.1)) (k+k+1+(k+k+1)) om_ om_ (pM h1 h2) (pM h3 h4))) U9<|C4 1 [6] f Z<|Sb U2<|⟨Z,Z⟩
theorem yn {a b c:Pt}(d:QP k a)(e:QP k b)(f:QP k c):QB (8*k+5) (fw a b c):=by
 have h:=lB (pM (lB e.1 d.1) (lB f.2 d.2)) (pM (lB e.2 d.2) (lB f.1 d.1));exact h.le om_
theorem nN (C:Mem)(h:Tabs C)(a b c:Pt)(k:Nat)(i:0<k)(j:k<=1000)(e:QP k a)(f:QP k b)(g:QP k c):Gives cx.P 100 [ptV a,ptV b,ptV c] C (.int .i64 (eL (fw a b c).num)):=by
 exact Sc func100 12 U3 fun w0=>R8 fun R d=>So U6 fun l=>So U6 fun m=>So U6 fun n=>C4 1 [3,4,5] d Z<|R8 fun R d=>Sd ac U9<|Sd ae U9<|Sd af U9<|Sg (kl _ h.m_ a b c k i j e f g) U7<|Sk (jd _ (fw a b c) (by have:=bK (yn e f g) om_;omega)) U7 fl_<|C4 1 [6] d Z<|Sb U2<|⟨Z,Z⟩
theorem sz (C:Mem)(c:Tabs C)(q:Rat)(b:QB 22 q):Gives cx.P 274 [ai (qtx q)] C (.tuple #[ai (qtx q),.int .i64 0]):=by
 refine Sc func274 8 U3 fun w0=>C6 2 [0] Z<|R4 1 Z fun R d=>Sk (dF _ c.m_ _ (by have:=bK b dc_;omega)) U7 fl_<|C4 1 [0,6] d Z<|R6 (fun a=>?_) fun a=>?_
 ·exfalso;rw [wg b] at a;exact absurd a dc_
 refine C6 3 [2,3] Z<|Sh (G.dropAll (Sy U3 ?_));exact ⟨Z,Z⟩
abbrev Tri:=Nat × Nat × Nat
def jP (t:Tri):List Value:=[.int .i64 (t.1:Nat),.int .i64 (t.2.1:Nat),.int .i64 (t.2.2:Nat)]
def LH (a b c:Pt):Value:=.agg ⟨fR a++fR b++fR c⟩
theorem Cv (C:Mem)(k l:Value)(d:List Pt)(g:List Tri)(i:Nat)(t:Tri)(a b c:Pt)(e:Sl C 2 k (d.map fR))(h:Sl C 3 l (g.map jP))(m:g[i]?=some t)(n:d[t.1]?=some a)(o:d[t.2.1]?=some b)(p:d[t.2.2]?=some c) :
  Gives cx.P 156 [.agg ⟨[k,l]⟩,.int .i64 i] C (LH a b c):=by
 obtain ⟨x,y,rfl,q,z,_⟩:=id e;obtain ⟨A2,c2,rfl,r,A,_⟩:=id h;have B:maxLen<=9223372036854775807:=by simp [maxLen]
 simp only [al] at e h q r ⊢;have D:=(aF.1 m).1;have E:=(aF.1 n).1;have F:=(aF.1 o).1;have G:=(aF.1 p).1;refine Sc func156 30 U3 fun w0=>R8 fun R f=>So U6 fun H=>Sq U5 fun I=>Sa [1,2,4] f Z<|R4 1 Z fun R f=>Sd ae U9<|R7 U6<|Sm h.m_ U10 om_ (by rw [Ou,m];rfl:(g.map jP)[i]?=some (jP t)) fl_ fun J s=>R5 s U8<|Sq U5 fun K=>Sf (j:=0) U12<|Sa [2,4,5] f Z<|Ss [0,1,2,3,4,5,6,7,8,9,10,11,12,13,14,15,16,17,18,19] [] Z kr_ fun R L f=>R7 U6<|Sd ac U9<|Sw (0) U9 ag U2<|Sd af U9<|Sm e.m_ U10 om_ (by rw [Ou,n];rfl:(d.map fR)[t.1]?=some (fR a)) fl_ fun M u=>R5 u U8<|R7 U6<|Sd ac U9<|Sw (1) U9 ag U2<|Sd af U9<|Sm e.m_ U10 om_ (by rw [Ou,o];rfl:(d.map fR)[t.2.1]?=some (fR b)) fl_ fun N v=>R5 v U8<|R7 U6<|Sd ac U9<|Sw (2) U9 ag U2<|Sd af U9<|Sm e.m_ U10 om_ (by rw [Ou,p];rfl:(d.map fR)[t.2.2]?=some (fR c)) fl_ fun O w=>R5 w U8<|Sn (fR a++fR b++fR c) U8<|Sf (j:=1) U12<|Sa [4] f Z<|Sh (SV af U4 ?_);exact ⟨Z,Z⟩
theorem Ff (C:Mem)(d:Tabs C)(a b c p:Pt)(k:Nat)(e:0<k)(f:k<=1000)(j:QP k a)(l:QP k b)(m:QP k c)(g:QP k p) :
  Gives cx.P 225 [LH a b c,ptV p] C (.bool (decide (0<=fw a b p) && decide (0<=fw b c p) && decide (0<=fw c a p))):=by
 refine Sc func225 30 U3 fun w0=>R8 fun R i=>So U6 fun n=>So U6 fun o=>C4 1 [2,3] i Z<|R8 fun R i=>Sw (0) U9 ag U2<|Sd ae U9<|Sw (2) U9 ag U2<|Sd ae U9<|Sd af U9<|Sg (nN _ d.m_ a b p k e f j l g) U7<|R9 2 Z<|Sw (2) U9 ag U2<|Sd ae U9<|Sw (4) U9 ag U2<|Sd ae U9<|Sd af U9<|SF (fun _=>(nN _ d.m_ b c p k e f l m g)) U9<|R7 U6<|Sv U8<|R7 U6<|Sw (4) U9 ag U2<|Sd ae U9<|Sw (0) U9 ag U2<|Sd ae U9<|Sd af U9<|SF (fun _=>(nN _ d.m_ c a p k e f m j g)) U9<|R7 U6<|Sv U8<|C4 1 [4] i Z<|Sb U2<|⟨?_,Z⟩;have hs:∀ q:Rat,decide (eL q.num ≥ 0)=decide (0<=q):=fun q=>by
  rw [Pp,<- Rat.num_nonneg];rcases dT q.num with h | h | h <;> omega
 rw [<- hs,<- hs,<- hs]
open Go Go.Jog Go.RowKit Go.Shelf
attribute [local go_sem] Oper.semAt_some
def Kp (zs:Nat->Int)(k:Nat):Value:=.agg #[.int .i64 (zs k),.int .i64 (zs ((k+1) % 3))]
set_option maxRecDepth 100000 in
theorem Hj (l Bs:Nat)(zs:Nat->Int)(J:Nat->World->Prop)
  (hD:∀ k W,J k W->J k W.drew)
  (hJ:∀ k W,J k W->∀ j,j<3->W.cell? ⟨Bs,j,none⟩=some (.int .i64 (zs j)))
  (hY:∀ k W,J k W->k<3->YieldAt Fence.wide 1 Tryz.prog l #[.int .i64 (k:Nat),Kp zs k] W fun e W'=>e=.returned (.bool true)/\J (k+1) W')
  (W:World) (h0:J 0 W) :
  CallsIn Fence.wide 2 Tryz.prog 265 #[.func (.yield l) #[] #[],.pointer (some ⟨Bs,0,none⟩)] W fun e W'=>(∃ v,e=.returned v)/\J 3 W':=by
 refine callsIn_of_wp func265 Z trivial ?_ Z;simp only [Tryz.ntmps265,Qj,OI,O4,Nat.reduceAdd,Nat.reduceSub,RN,RP,List.push_toArray,List.append_toArray,P7,PZ]
 gi_wp2
 gi_loopw [4] (fun i wr=>∃ k:Nat,k<=3/\i=.int .i64 k/\J k wr) (fun i _=>(3-intOf i).toNat)
 case atStart=>exact ⟨0,by omega,rfl,h0⟩
 case round =>
  obtain ⟨k,hk,rfl,hJs⟩:=hrel;by_cases hlt:k<3
  ·have hJd:=hD k wr hJs;have hcd:=hJ k _ hJd;obtain ⟨fn,tmps,assign,body,hy,hR⟩:=hY k _ hJd hlt;rcases (by omega:k=0∨k=1∨k=2) with rfl | rfl | rfl
   ·have hc0:=hcd 0 om_;have hc1:=hcd 1 om_;have hy2:Sem.run Tryz.prog (Instr.yield l #[Value.int .i64 0,Value.agg #[.int .i64 (zs 0),.int .i64 (zs 1)]]) wr.drew=.ok (.round l fn tmps assign body) wr.drew:=hy;clear hy
    gi_wp2
    gi_region_with (refine hR.mono ?_;rintro e W3 ⟨rfl,hJ3⟩)
    all_goals
     gi_wp2
     go_roundw
     case rel=>exact ⟨1,by omega,rfl,hJ3⟩
     case measure=>simp [intOf]
   ·have hc0:=hcd 1 om_;have hc1:=hcd 2 om_;have hy2:Sem.run Tryz.prog (Instr.yield l #[Value.int .i64 1,Value.agg #[.int .i64 (zs 1),.int .i64 (zs 2)]]) wr.drew=.ok (.round l fn tmps assign body) wr.drew:=hy;clear hy
    gi_wp2
    gi_region_with (refine hR.mono ?_;rintro e W3 ⟨rfl,hJ3⟩)
    all_goals
     gi_wp2
     go_roundw
     case rel=>exact ⟨2,by omega,rfl,hJ3⟩
     case measure=>simp [intOf]
   have hc0:=hcd 2 om_;have hc1:=hcd 0 om_;have hy2:Sem.run Tryz.prog (Instr.yield l #[Value.int .i64 2,Value.agg #[.int .i64 (zs 2),.int .i64 (zs 0)]]) wr.drew=.ok (.round l fn tmps assign body) wr.drew:=hy;clear hy
   gi_wp2
   gi_region_with (refine hR.mono ?_;rintro e W3 ⟨rfl,hJ3⟩)
   all_goals
    gi_wp2
    go_roundw
    case rel=>exact ⟨3,by omega,rfl,hJ3⟩
    case measure=>simp [intOf]
  obtain rfl:k=3:=by omega
  gi_wp2
  go_end0
  exact ⟨⟨_,Z⟩,hJs⟩
def Dw (t:Tri)(j:Nat):Int:=if j=0 then (t.1:Nat) else if j=1 then (t.2.1:Nat) else (t.2.2:Nat)
def uO (t:Tri):List (Value × Value):=(List.range 3).map fun k=>(.int .i64 (k:Nat),Kp (Dw t) k)
theorem lP (t:Tri):(uO t).length=3:=rfl
theorem uN {t:Tri}(h:k<3):(uO t)[k]?=some (.int .i64 (k:Nat),Kp (Dw t) k):=by
 simp [uO,h]
theorem Bt (C:Mem)(b c:Nat)(t:Tri)(d:C b=some (.cells ⟨jP t⟩ c (0,0))) :
  NK Tryz.prog 265 #[.pointer (some ⟨b,0,none⟩)] C (uO t):=by
 intro l J W hC e f h0;refine Hj l b (Dw t) J e (fun k W a j h=>?_) (fun k W a g=>f k _ W a (uN g)) W h0;have h1:=hC k W a b _ d;rcases (by omega:j=0∨j=1∨j=2) with rfl | rfl | rfl <;> simp [World.cell?,h1,jP,Dw]
theorem Hk (C:Mem)(t:Tri):Pur cx.P 227 [.agg ⟨jP t⟩] C fun r C'=>∃ b,r=.func (.func 265) #[] #[.pointer (some ⟨b,0,none⟩)]/\C' b=some (.cells ⟨jP t⟩ 108 (0,0)):=by
 exact Sc func227 4 U3 fun w0=>R8 fun R a=>So U6 fun d=>C4 1 [1] a Z<|C6 2 [2] Z<|G.freeze 0 Z fun e f c=>Sb U2<|⟨Z,_,Z,c⟩
def nZ (t:Tri)(k:Nat):Int × Int:=(Dw t k,Dw t ((k+1) % 3))
abbrev Mg:=List ((Int × Int) × Value)
def Da (m:Mg)(i:Nat)(t:Tri):Nat->Mg
 | 0=>m
 | k+1=>fD (Da m i t k) (nZ t k) (.int .i64 (i:Nat))
def wS (tris:List Tri):Nat->Mg
 | 0=>[]
 | n+1=>Da (wS tris n) n (tris.getD n (0,0,0)) 3
noncomputable def kI2:KeyP cx.P 183 (Int × Int):=Ob rfl rfl rfl kr_
theorem EA (C:Mem)(q I:Value)(a:List Tri)(N:a≠[])(x:Sl C 3 I (a.map jP))(O:∀ i t k,a[i]?=some t->k<3->cW (Da (wS a i) i t k) (nZ t k)=none) :
  Pur cx.P 153 [.agg ⟨[q,I]⟩] C fun u D=>∃ b,u=.tuple #[.map (some b),.bool true]/\D b=some (aN pi (wS a a.length)):=by
 obtain ⟨A2,c2,rfl,Q,ab,_⟩:=id x;have ad:maxLen<=9223372036854775807:=by simp [maxLen]
 simp only [al] at x Q ⊢;refine Tp kr_ func153 Z 36 Z Z fun w0=>R8 fun R c=>So U6 fun r=>Sq U5 fun h=>Sq U5 fun n=>Sa [1,2,3] c Z<|R8 fun R c=>TW kI2 Z Z Z Z fl_ fun f=>Sq U5 fun o=>Sf (j:=0) U12<|Sa [1,2,3,4] c Z<|R4 1 Z fun R c=>Sd (.tail _ aa) U9<|C4 2 [2,3,4,13,14,15] c Z<|G.perm (L':=[.obj o (.cells ⟨[.map (some f)]⟩ 242 (0,0)),.obj f (aN pi []),.obj n (.cells ⟨[.bool false]⟩ 4 (0,0)),.obj h (.cells ⟨[.map none]⟩ 242 (0,0)),.obj r (.cells ⟨[q,.slice A2 a.length c2]⟩ 36 (0,0))]) (Ov _)<|U0 (fun dd fr C' d S=>∃ (i:Nat)(g:List Nat),(i<=a.length/\g.length=i)/\dd=g.map xZ/\fr=[(2,[],.pointer (some ⟨h,0,none⟩)),(3,[],.pointer (some ⟨n,0,none⟩)),(4,[],.pointer (some ⟨o,0,none⟩)),(13,[],.slice A2 a.length c2),(14,[],.int .i64 a.length),(15,[],.int .i64 i)]/\d=[.obj o (.cells ⟨[.map (some f)]⟩ 242 (0,0)),.obj f (aN pi (wS a i)),.obj n (.cells ⟨[.bool false]⟩ 4 (0,0)),.obj h (.cells ⟨[.map none]⟩ 242 (0,0)),.obj r (.cells ⟨[q,.slice A2 a.length c2]⟩ 36 (0,0))]++g.map qu/\S=a.length-i) (hn_ [2,3,4,13,14,15] Z) ⟨0,[],⟨Ow _,Z⟩,Z,Z,Z,Z⟩ (fun dd fr ag ah m _ p=>?_);obtain ⟨i,g,⟨hi,y⟩,rfl,rfl,rfl,rfl⟩:=p;refine C6 1 [2,3,4,13,14,15,16] Z<|R6 (fun A=>?_) fun A=>?_
 ·have B:i<a.length:=by simpa using A
  obtain ⟨t,E⟩:∃ t,a[i]?=some t:=⟨a[i],ak B⟩;refine R4 1 Z fun R c=>Sm x.m_ U10 om_ (by rw [Ou,E];rfl:(a.map jP)[i]?=some (jP t)) fl_ fun ai T=>R5 T U8<|Sq U5 fun F=>Sq U5 fun J=>Sf (j:=1) U12<|Sf (j:=1) U12<|Sa [2,3,4,5,6,13,14,15] c Z<|R8 fun R c=>Sd af U9<|SI (Hk _ t) U7 fun aj _ _ U=>Sa [2,3,4,5,13,14,15,21] c Z ?_;obtain ⟨V,rfl,W⟩:=U;refine Vd Z Z kr_ (Bt _ V _ t W) (fun j d=>∃ (z:Unit),(j<=3)/\d=[.obj J (.cells ⟨jP t⟩ 108 (0,0)),.obj F (.cells ⟨[.int .i64 i]⟩ 3 (0,0)),.obj o (.cells ⟨[.map (some f)]⟩ 242 (0,0)),.obj f (aN pi (Da (wS a i) i t j)),.obj n (.cells ⟨[.bool false]⟩ 4 (0,0)),.obj h (.cells ⟨[.map none]⟩ 242 (0,0)),.obj r (.cells ⟨[q,.slice A2 a.length c2]⟩ 36 (0,0))]++g.map qu) ⟨(),Ow _,Z⟩ Z (fun _ _=>rfl) (fun j d fr LA=>∃ (s:Nat),fr=[(2,[],.pointer (some ⟨h,0,none⟩)),(3,[],.pointer (some ⟨n,0,none⟩)),(4,[],.pointer (some ⟨o,0,none⟩)),(5,[],.pointer (some ⟨F,0,none⟩)),(8,[],.pointer (some ⟨s,0,none⟩))]/\LA=.obj s (.cells ⟨[.int .i64 (nZ t j).1,.int .i64 (nZ t j).2]⟩ 183 (0,0))::d) (fun l j u v d W1 p w=>?_) (fun l j u v d am LA W1 p w X=>?_) (fun K d p=>?_)
  ·obtain ⟨z,L,rfl⟩:=p;have H:j<3:=by have:=(aF.1 w).1;rwa [lP] at this
   rw [uN H] at w;cases w
   exact R8 fun R c=>Sq U5 fun s=>Sf (j:=0) U12<|Sa [2,3,4,5,8] c Z<|Ve (hn_ [2,3,4,5,8] Z) ⟨s,Z,Z⟩
  ·obtain ⟨z,L,rfl⟩:=p;obtain ⟨s,rfl,rfl⟩:=X;have H:j<3:=by have:=(aF.1 w).1;rwa [lP] at this
   refine R8 fun R c=>Sd aa U9<|Sd af U9<|TX kI2 (.tail _ aa) Z Z Z Z Z Z Z Z Z (congrArg (jZ _ true) (O i t j E H)) Z Z<|C4 5 [2,3,4,5,8,10] c Z<|C6 1 [2,3,4,5,8,30] Z<|R6 (fun M=>?_) fun M=>?_
   ·exact absurd M dc_
   refine R8 fun R c=>Sd aa U9<|Sd af U9<|Sd ac U9<|TT kI2 (j:=4) Z Z Z Z Z Z Z Z Z Z<|Ta [] trivial (c _ _ _ Z ?_);exact SQ 1 Z<|TL (R:=fun d=>∃ (z:Unit),((j+1)<=3)/\d=[.obj J (.cells ⟨jP t⟩ 108 (0,0)),.obj F (.cells ⟨[.int .i64 i]⟩ 3 (0,0)),.obj o (.cells ⟨[.map (some f)]⟩ 242 (0,0)),.obj f (aN pi (Da (wS a i) i t (j+1))),.obj n (.cells ⟨[.bool false]⟩ 4 (0,0)),.obj h (.cells ⟨[.map none]⟩ 242 (0,0)),.obj r (.cells ⟨[q,.slice A2 a.length c2]⟩ 36 (0,0))]++g.map qu) (List.perm_middle (l₁:=[_,_,_])).symm ⟨(),om_,Z⟩
  obtain ⟨z,L,rfl⟩:=p;refine R8 fun R c=>Se _ U7<|C4 1 [2,3,4,13,14,15] c Z<|SQ 1 Z<|SQ 1 Z<|G.perm (L':=[.obj o (.cells ⟨[.map (some f)]⟩ 242 (0,0)),.obj f (aN pi (wS a (i+1))),.obj n (.cells ⟨[.bool false]⟩ 4 (0,0)),.obj h (.cells ⟨[.map none]⟩ 242 (0,0)),.obj r (.cells ⟨[q,.slice A2 a.length c2]⟩ 36 (0,0))]++(K::g).map qu) (by
   rw [show wS a (i+1)=Da (wS a i) i t (uO t).length by rw [lP,wS,ax,E];rfl];exact (List.perm_middle (l₁:=[_,_,_,_,_])).symm) ?_
  refine UY (m':=a.length-(i+1)) om_ mup (hn_ [2,3,4,13,14,15] Z) ⟨i+1,K::g,⟨by omega,by simp [y]⟩,Z,Z,Z,Z⟩
 have B:i=a.length:=by
  have:¬ i<a.length:=by simpa using A
  omega
 refine R8 fun R c=>Sd af U9<|Sf (j:=3) U12<|Sf (j:=3) U12<|Sa [2,3] c Z<|G.freeze 3 Z fun Cf an Y=>G.perm (L':=g.map qu++[_,_,_,_]) (O2 (l₁:=[_,_,_,_]))<|Sh (UZ (Jw ae af Z Z Z Z Z Z Z) ?_ ?_)
 ·exact ⟨Z,f,Z,by rw [<- B];exact Y⟩
 intro e;rw [e] at y;have:=O9.2 N;simp at y;omega
def Js (kd a b:Int)(h:Bool):Value:=.agg ⟨[.int .u8 kd,.int .i8 a,.int .i8 b,.bool h]⟩
def eA (h:Bool):Int:=if h then 2 else 1
def dA (a b:Int)(h:Bool)(x y by':Int):Pt:=(mS (x+a.tmod 8*by') (eA h*by'),mS (y+b.tmod 8*by') (eA h*by'))
theorem Dx (a:Int):-8<a.tmod 8/\a.tmod 8<8:=by
 have h:(a.tmod 8).natAbs=a.natAbs % 8:=Q0 a 8;omega
theorem zB (C:Mem)(g:Tabs C)(i a b:Int)(h:Bool)(x y n:Int)(v:0<n)(w:n<=4)(A:-128<=x/\x<=127)(B:-128<=y/\y<=127) :
  Gives cx.P 95 [Js i a b h,.agg ⟨[.int .i8 x,.int .i8 y]⟩,.int .i64 n] C (ptV (dA a b h x y n)):=by
 have k:=Dx a;have l:=Dx b;have m:∀ z:Int, -8<z->z<8->-32<z*n/\z*n<32:=fun z h1 h2=>by
  rcases (by omega:n=1∨n=2∨n=3∨n=4) with e | e | e | e <;> subst e <;> omega
 have D:=m _ k.1 k.2;have E:=m _ l.1 l.2;have r:eA h=1∨eA h=2:=by cases h <;> simp [eA]
 have F:0<eA h*n/\eA h*n<=8:=by rcases r with e | e <;> rw [e] <;> omega
 refine Sc func95 53 U3 fun w0=>R8 fun R d=>So U6 fun o=>So U6 fun p=>Sq U5 fun q=>Sa [2,3,4,6] d Z<|C6 1 [2,3,4,6,7] Z<|R4 1 Z fun R d=>Sd ac U9<|Sa [2,3,4,6,7,13] d Z<|G.cut (fun fr C' s t=>(True)/\fr=[(2,[],.int .i64 n),(3,[],.pointer (some ⟨o,0,none⟩)),(4,[],.pointer (some ⟨p,0,none⟩)),(6,[],.pointer (some ⟨q,0,none⟩)),(7,[],.int .i64 (eA h))]/\s=[.obj q (.cells ⟨[ai [],ai []]⟩ 58 (0,0)),.obj p (.cells ⟨[.int .i8 x,.int .i8 y]⟩ 23 (0,0)),.obj o (.cells ⟨[.int .u8 i,.int .i8 a,.int .i8 b,.bool h]⟩ 25 (0,0))]) ?_ (fun fr _ H t _ u=>?_)
 ·refine R6 (fun f=>?_) fun f=>?_
  ·have h1:h=true:=f;subst h1;refine C6 1 [2,3,4,6,7] Z<|Si 0 (Mem.le.refl _) (hn_ [2,3,4,6,7] Z) ⟨trivial,Z,Z⟩
  have h1:h=false:=by simpa using f
  subst h1;refine Si 0 (Mem.le.refl _) (hn_ [2,3,4,6,7] Z) ⟨trivial,Z,Z⟩
 obtain ⟨_,rfl,rfl⟩:=u;refine R8 fun R d=>Sw (0) U9 ag U2<|Sd ae U9<|SL (c:=x) U8 (wrap_i64 om_ om_) fl_<|R7 U6<|Sw (1) U9 ag U2<|Sd ac U9<|S7 (a.tmod 8) U6 dc_ U3<|SL (c:=a.tmod 8) U8 (wrap_i64 om_ om_) fl_<|R7 U6<|Se _ U7<|Se _ U7<|R9 2 Z<|Se _ U7<|Sk (D8 _ g.m_ (x+a.tmod 8*n) (eA h*n) om_ om_ om_) U7 fl_<|C4 5 [2,3,4,6,7,8] d Z<|R8 fun R d=>Sw (1) U9 ag U2<|Sd ae U9<|SL (c:=y) U8 (wrap_i64 om_ om_) fl_<|R7 U6<|Sw (2) U9 ag U2<|Sd ac U9<|S7 (b.tmod 8) U6 dc_ U3<|SL (c:=b.tmod 8) U8 (wrap_i64 om_ om_) fl_<|R7 U6<|Se _ U7<|Se _ U7<|R9 2 Z<|Se _ U7<|Sk (D8 _ g.m_ (y+b.tmod 8*n) (eA h*n) om_ om_ om_) U7 fl_<|C4 5 [6,8,10] d Z<|R4 2 Z fun R d=>Sn (fR (dA a b h x y n)) U8<|Sf (j:=0) U12<|Sa [6] d Z<|Sh (SV af U4 ?_);exact ⟨Z,Z⟩
def fW (s p:Nat):Value:=.agg ⟨[.int .i64 (s:Nat),.int .i64 (p:Nat)]⟩
theorem kJ (C:Mem)(s p:Nat)(h:s*p<=1000000000):Gives cx.P 65 [fW s p] C (.int .i64 ((s*p:Nat):Int)):=by
 exact Sc func65 8 U3 fun w0=>R8 fun R a=>So U6 fun b=>C4 1 [1] a Z<|R4 1 Z fun R a=>Sd af U9<|R7 U6<|Sd af U9<|Se _ U7<|C4 1 [2] a Z<|Sb U2<|⟨Z,Z⟩
theorem MH (C:Mem)(s p:Nat)(i k:Int)(h:-1000000000000<=i*p/\i*p<=1000000000000)(b:-1000000000<=k/\k<=1000000000):Gives cx.P 190 [fW s p,.int .i64 i,.int .i64 k] C (.int .i64 (i*p+k)):=by
 exact Sc func190 13 U3 fun w0=>R8 fun R a=>So U6 fun c=>C4 1 [1,2,3] a Z<|R4 2 Z fun R a=>Sd af U9<|Se _ U7<|R7 U6<|Se _ U7<|C4 1 [6] a Z<|Sb U2<|⟨Z,Z⟩
end Go.Proofs.YthnpijdjlddpmaaGreatDoor
