/- Laws that the proofs of this seat share, part 7. -/
import Derived.Test.YthnpijdjlddpmaaGreatDoorG6
import Derived.Test.YthnpijdjlddpmaaGreatDoorShelf
import Derived.RangeFuncBox
import Derived.RangeFuncLeaves
import Derived.Shelf.Abstract
import Derived.WalkKit
import Derived.OwnWalkIn
import Derived.TacticsInMore
import Derived.LoopNIn
import Derived.LoopIn
import Derived.Stop.RegionWithIn
import Derived.Test.YthnpijdjlddpmaaGreatDoorProg
set_option maxHeartbeats 4000000
namespace Go.Proofs.YthnpijdjlddpmaaGreatDoor
open Go.Proofs.Tryz
open Go Go.Jog
set_option maxRecDepth 100000
variable {a b:Rat}{d g k m n:Nat}{q:Rat}{s t:Str}{w z:Int}
theorem cj (h:n<B9 ^ k)(a:0<k):(bq n).length<=9*k:=eI (by rw [Lv];exact h) om_
theorem zJ (h:(txt z).length<=m):z.natAbs<10 ^ m:=by
 have h1:(bq z.natAbs).length<=m:=by
  unfold txt at h;split at h
  ·simp at h;omega
  exact h
 obtain ⟨h2,h3⟩:=bH z.natAbs;have h4:=dW h2.1;rw [h3] at h4;exact R4 h4 (Q6 dc_ h1)
theorem e18:(10:Nat) ^ 18=1000000000000000000:=by decide
theorem e9:(10:Nat) ^ 9=1000000000:=by decide
theorem yl {a b:Nat}(c:a<B9 ^ k)(d:b<B9 ^ k):a+b<B9 ^ (k+1):=by
 rw [RY];have:B9 ^ k*2<=B9 ^ k*B9:=R6 _ dc_;omega
theorem Nu (C:Mem)(l:Tabs C)(z w:Int)(k:Nat)(u:0<k)(Y:k<=40000)(f:z.natAbs<B9 ^ k)(g:w.natAbs<B9 ^ k):Gives cx.P 145 [ai (txt z),ai (txt w)] C (ai (txt (z+w))):=by
 have aa:=cj f u;have ab:=cj g u;refine Uv func145 62 U3 fun w0=>Ul 1 [0,1] Z<|Um 1 Z fun R a=>Uy (jQ _ z 18 (QG _)) U7<|C4 5 [0,1,5,6] a Z<|Ul 1 [0,1,5,16] Z<|G.cut (fun fr C' m o=>(True)/\fr=[(0,[],ai (txt z)),(1,[],ai (txt w))]/\m=[]) ?_ (fun fr _ ac o _ p=>?_)
 ·refine Uo (fun v=>?_) fun v=>?_
  ·have x:=aW v;rw [aJ x];have K:=zJ x;rw [e18] at K;refine Um 1 Z fun R a=>Uy (jQ _ w 18 (QG _)) U7<|C4 5 [0,1,5,7,8] a Z<|Ul 1 [0,1,5,7,22] Z<|Uo (fun y=>?_) fun y=>?_
   ·have A:=aW y;rw [aJ A];have L:=zJ A;rw [e18] at L;exact Um 2 Z fun R a=>Uw _ U7<|UC (sD _ l.m_ (z+w) om_ om_) U7 fl_<|C4 1 [4] a Z<|Ut U2<|⟨Z,Z⟩
   refine UB 0 (Mem.le.refl _) (hn_ [0,1] Z) ⟨trivial,Z,Z⟩
  refine UB 0 (Mem.le.refl _) (hn_ [0,1] Z) ⟨trivial,Z,Z⟩
 obtain ⟨_,rfl,rfl⟩:=p;refine Um 1 Z fun R a=>UT (jo _ z om_) U7 fl_ fun ad _ _ M=>Up U6<|UT (jo _ w om_) U7 fl_ fun ag _ _ N=>UH U5 fun B=>UH U5 (fun D=>?_);obtain ⟨pz,rfl,d⟩:=M;obtain ⟨pw,rfl,e⟩:=N;obtain ⟨Az,mz,cz,rfl⟩:=d.form;obtain ⟨Aw,mw,cw,rfl⟩:=e.form;refine Ux (j:=1) U12<|Ux (j:=1) U12<|Ur [9,10] a Z<|Um 1 Z fun R a=>Uu ae U9<|Up U6<|Uu af U9<|C4 1 [9,10,35] a Z<|Uo (fun q=>?_) fun q=>?_
 ·have i:decide (z<0)=decide (w<0):=by simpa using q
  refine UJ [0,1,2,3,4,5,6,7,8,9] [(8,1)] Z kr_ fun R O a=>Up U6<|Uu ae U9<|Up U6<|Uu ae U9<|Up U6<|Uu af U9<|UT (Ly (k:=k) _ d.m_ e.m_ f g om_) U7 fl_ (fun ah _ _ E=>?_);obtain ⟨Q,S,T,rfl⟩:=E.form;exact UG [.bool (decide (z<0)),_] U8<|UK (fun _=>(kl _ l.m_ _ _ _ E (dE (k:=100000) (n:=k+1) (yl f g) om_))) U9<|C4 1 [4] a Z<|Ut U2<|⟨by rw [Mz i],Z⟩
 have i:decide (z<0)≠decide (w<0):=by simpa using q
 refine Um 1 Z fun R a=>Uu ae U9<|Up U6<|Uu af U9<|Uy (pK _ d.m_ e.m_) U7<|C4 1 [9,10,50] a Z<|G.cut (fun fr C' m o=>∃ (b c:Int)(r s:Value),(NineC C' r b.natAbs/\NineC C' s c.natAbs/\c.natAbs<=b.natAbs/\b+c=z+w/\decide (b<0)≠decide (c<0)/\b.natAbs<B9 ^ k)/\fr=[(9,[],.pointer (some ⟨B,0,none⟩)),(10,[],.pointer (some ⟨D,0,none⟩))]/\m=[.obj D (.cells ⟨[.bool (decide (c<0)),s]⟩ 307 (0,0)),.obj B (.cells ⟨[.bool (decide (b<0)),r]⟩ 307 (0,0))]) ?_ (fun fr _ aj o _ p=>?_)
 ·refine Uo (fun t=>?_) fun t=>?_
  ·have F:z.natAbs<w.natAbs:=by
    have:jS z.natAbs w.natAbs<0:=by simpa using t
    exact jn.1 this
   refine Uq fun R a=>Uu af U9<|Uu ae U9<|Ux (j:=1) U12<|Ux (j:=1) U12<|Ur [9,10] a Z<|UB 0 mup (hn_ [9,10] Z) ⟨w,z,_,_,⟨e.mono mup,d.mono mup,by omega,Int.add_comm w z,Ne.symm i,g⟩,Z,Z⟩
  have F:w.natAbs<=z.natAbs:=by
   have h:¬ jS z.natAbs w.natAbs<0:=by simpa using t
   rw [jn] at h;omega
  refine UB 0 mup (hn_ [9,10] Z) ⟨z,w,_,_,⟨d.mono mup,e.mono mup,F,Z,i,f⟩,Z,Z⟩
 obtain ⟨b ,c ,r ,s,⟨H,I,U,V,W,X⟩,rfl,rfl⟩:=p;obtain ⟨ak,al,am,rfl⟩:=H.form;obtain ⟨an,ao,ap,rfl⟩:=I.form;refine UJ [0,1,2,3,4,5,6,7,8,9] [(8,1)] Z kr_ fun R O a=>Up U6<|Uu ae U9<|Up U6<|Uu ae U9<|Up U6<|Uu af U9<|UT (uu (k:=k) _ H.m_ I.m_ X U om_) U7 fl_ (fun aq _ _ J=>?_);obtain ⟨Q,S,T,rfl⟩:=J.form;exact UG [.bool (decide (b<0)),_] U8<|UK (fun _=>(kl _ l.m_ _ _ _ J (dE (k:=100000) (n:=k) om_ om_))) U9<|C4 1 [4] a Z<|Ut U2<|⟨by rw [MA W om_,V],Z⟩
theorem MB (z w:Int):sgZ (decide (z<0) != decide (w<0)) (z.natAbs*w.natAbs)=z*w:=by
 unfold sgZ;have h1:z=if z<0 then -(z.natAbs:Int) else (z.natAbs:Int):=by split <;> omega
 have h2:w=if w<0 then -(w.natAbs:Int) else (w.natAbs:Int):=by split <;> omega
 by_cases a:z<0 <;> by_cases b:w<0
 ·rw [QZ a,QZ b,aB dc_];rw [aJ a] at h1;rw [aJ b] at h2;rw [RG]
  conv=>rhs;rw [h1,h2]
  rw [Int.neg_mul_neg]
 ·rw [QZ a,Q8 b,aJ dc_];rw [aJ a] at h1;rw [aB b] at h2;rw [RG]
  conv=>rhs;rw [h1,h2]
  rw [Int.neg_mul]
 ·rw [Q8 a,QZ b,aJ dc_];rw [aB a] at h1;rw [aJ b] at h2;rw [RG]
  conv=>rhs;rw [h1,h2]
  rw [Int.mul_neg]
 rw [Q8 a,Q8 b,aB dc_];rw [aB a] at h1;rw [aB b] at h2;rw [RG]
 conv=>rhs;rw [h1,h2]
theorem nY {a b:Nat}(c:a<B9 ^ k)(d:b<B9 ^ k):a*b<B9 ^ (k+k):=by
 rw [Ts];exact Sj c d
theorem FW (a:z.natAbs<1000000000)(b:w.natAbs<1000000000):-1000000000000000000<z*w/\z*w<1000000000000000000:=by
 have h:z.natAbs*w.natAbs<=999999999*999999999:=Sy om_ om_;rw [<- Se] at h;omega
theorem kX (C:Mem)(d:Tabs C)(z w:Int)(k:Nat)(e:0<k)(x:k<=40000)(b:z.natAbs<B9 ^ k)(c:w.natAbs<B9 ^ k):Gives cx.P 146 [ai (txt z),ai (txt w)] C (ai (txt (z*w))):=by
 have y:=cj b e;have A:=cj c e;refine Uv func146 43 U3 fun w0=>Ul 1 [0,1] Z<|Um 1 Z fun R a=>UC (jQ _ z 9 om_) U7 fl_<|C4 5 [0,1,5,6] a Z<|Ul 1 [0,1,5,16] Z<|G.cut (fun fr C' r s=>(True)/\fr=[(0,[],ai (txt z)),(1,[],ai (txt w))]/\r=[]) ?_ (fun fr _ B s _ t=>?_)
 ·refine Uo (fun f=>?_) fun f=>?_
  ·have g:=aW f;rw [aJ g];have h:=zJ g;rw [e9] at h;refine Um 1 Z fun R a=>UC (jQ _ w 9 om_) U7 fl_<|C4 5 [0,1,5,7,8] a Z<|Ul 1 [0,1,5,7,22] Z<|Uo (fun i=>?_) fun i=>?_
   ·have l:=aW i;rw [aJ l];have m:=zJ l;rw [e9] at m;have D:=FW h m;exact Um 2 Z fun R a=>UX ((z*w)) U4 om_ om_ om_ U2<|UC (sD _ d.m_ (z*w) om_ om_) U7 fl_<|C4 1 [4] a Z<|Ut U2<|⟨Z,Z⟩
   refine UB 0 (Mem.le.refl _) (hn_ [0,1] Z) ⟨trivial,Z,Z⟩
  refine UB 0 (Mem.le.refl _) (hn_ [0,1] Z) ⟨trivial,Z,Z⟩
 obtain ⟨_,rfl,rfl⟩:=t;refine Um 1 Z fun R a=>UT (jo _ z om_) U7 fl_ fun E _ _ u=>Up U6<|UT (jo _ w om_) U7 fl_ fun F _ _ v=>UH U5 fun H=>UH U5 (fun I=>?_);obtain ⟨J,rfl,o⟩:=u;obtain ⟨K,rfl,p⟩:=v;obtain ⟨L,M,N,rfl⟩:=o.form;obtain ⟨O,Q,S,rfl⟩:=p.form;refine Ux (j:=1) U12<|Ux (j:=1) U12<|Ur [9,10] a Z<|UJ [0,1,2,3,4,5,6,7,8,9,10,11,12] [(11,1)] Z kr_ fun R T a=>Up U6<|Uu ae U9<|Up U6<|Uu af U9<|Us 2 Z<|Uu ae U9<|Up U6<|Uu af U9<|UT (E0 (k:=k) _ o.m_ p.m_ b c om_) U7 fl_ (fun U _ _ q=>?_);obtain ⟨V,W,X,rfl⟩:=q.form;exact UG [.bool (decide (z<0) != decide (w<0)),_] U8<|UK (fun _=>(kl _ d.m_ _ _ _ q (dE (k:=100000) (n:=k+k) (nY b c) om_))) U9<|C4 1 [4] a Z<|Ut U2<|⟨by rw [MB],Z⟩
def Hm (z w:Int):Nat:=if z<0/\z.natAbs % w.natAbs≠0 then z.natAbs / w.natAbs+1 else z.natAbs / w.natAbs
def B8 (z w:Int):Nat:=if z<0/\z.natAbs % w.natAbs≠0 then w.natAbs-z.natAbs % w.natAbs else z.natAbs % w.natAbs
theorem Hl (i:0<w):sgZ (decide (z<0) != decide (w<0)) (Hm z w)=z / w/\(B8 z w:Int)=z % w:=by
 obtain ⟨n,rfl⟩:∃ n:Nat,w=n:=⟨w.natAbs,by omega⟩;have f:0<n:=by omega
 rw [Q8 (by omega:¬ ((n:Nat):Int)<0),Bool.bne_false];have h1:=TH z.natAbs n;have h2:=Rs z.natAbs f;obtain ⟨q,d⟩:∃ q,z.natAbs / n=q:=⟨_,rfl⟩;obtain ⟨r,hr⟩:∃ r,z.natAbs % n=r:=⟨_,rfl⟩;have g:sgZ (decide (z<0)) (Hm z n)=z / n/\(B8 z n:Int)=z % n:=by
  have h3:=(Int.ediv_emod_unique (a:=z) (r:=(B8 z n:Int)) (q:=sgZ (decide (z<0)) (Hm z n)) (by omega:(0:Int)<(n:Int))).2;have h4:(B8 z n:Int)+(n:Int)*sgZ (decide (z<0)) (Hm z n)=z/\0<=(B8 z n:Int)/\(B8 z n:Int)<(n:Int):=by
   unfold Hm B8 sgZ;simp only [Rt];rw [d,hr];rw [hr,d] at h1;rw [hr] at h2;have h5:((r+n*q:Nat):Int)=(z.natAbs:Int):=by rw [h1]
   rw [To,RG] at h5;by_cases b:z<0
   ·rw [QZ b,aJ rfl];by_cases c:r=0
    ·subst c;rw [aB am,aB am];rw [Int.mul_neg];omega
    rw [aJ ⟨b,c⟩,aJ ⟨b,c⟩];rw [Int.mul_neg,To,TU];omega
   rw [Q8 b,aB (fun h:z<0/\r≠0=>b h.1),aB (fun h:z<0/\r≠0=>b h.1),aB dc_];omega
  have e:=h3 h4;exact ⟨e.1.symm,e.2.symm⟩
 exact g
theorem sG (C:Mem)(u:Tabs C)(z w:Int)(k:Nat)(f:0<k)(hk:k<=40000)(g:z.natAbs<B9 ^ k)(i:w.natAbs<B9 ^ k)(v:0<w):Gives cx.P 211 [ai (txt z),ai (txt w)] C (.tuple #[ai (txt (z / w)),ai (txt (z % w)),.int .i64 0]):=by
 have aj:=cj g f;have ak:=cj i f;have l:0<w.natAbs:=by omega
 refine Uv func211 50 U3 fun w0=>Ul 3 [0,1] Z<|Ul 2 [0,1,12] Z<|Uo (fun m=>?_) fun m=>?_
 ·have h:=lD w;rw [h] at m;have:w=0:=aW m;omega
 refine Um 1 Z fun R a=>UT (jo _ z om_) U7 fl_ fun al _ _ J=>Up U6<|UT (jo _ w om_) U7 fl_ fun am _ _ K=>UH U5 fun y=>UH U5 (fun A=>?_);obtain ⟨pz,rfl,B⟩:=J;obtain ⟨pw,rfl,o⟩:=K;obtain ⟨L,M,N,rfl⟩:=B.form;obtain ⟨O,Q,S,rfl⟩:=o.form;refine Ux (j:=1) U12<|Ux (j:=1) U12<|Ur [7,8] a Z<|Um 1 Z fun R a=>Uu ae U9<|Up U6<|Uu af U9<|UT (xq _ _ _ _ _ B.m_ o.m_ (dE (k:=100000) (n:=k) g om_) l) U7 fl_ (fun an _ _ T=>?_);obtain ⟨vq,vr,rfl,D,p⟩:=T;refine C4 5 [7,8,9,10] a Z ?_;obtain ⟨b,U,V,W⟩:=id p;obtain ⟨Ar,cr,E,_⟩:=id W;rw [aw] at E;subst E;have F:b.length=0 ↔ z.natAbs % w.natAbs=0:=by
  rw [<- V,Ct U];exact TQ
 refine Um 1 Z fun R a=>Uu ae U9<|Us 4 Z<|UM U8<|Ur [7,8,9,10,31] a Z<|G.cut (fun fr C' X Y=>∃ (q r:Value),(NineC C' q (Hm z w)/\NineC C' r (B8 z w))/\fr=[(7,[],.pointer (some ⟨y,0,none⟩)),(8,[],.pointer (some ⟨A,0,none⟩)),(9,[],q),(10,[],r)]/\X=[.obj A (.cells ⟨[.bool (decide (w<0)),.slice O Q S]⟩ 307 (0,0)),.obj y (.cells ⟨[.bool (decide (z<0)),.slice L M N]⟩ 307 (0,0))]) ?_ (fun fr _ ao Y _ hI=>?_)
 ·refine Uo (fun d=>?_) fun d=>?_
  ·have c:z<0/\z.natAbs % w.natAbs≠0:=by
    have h:decide (z<0)=true/\0<b.length:=by simpa using d
    exact ⟨aW h.1,fun e=>by have:=F.2 e;omega⟩
   have s:Hm z w=z.natAbs / w.natAbs+1:=aJ c;have t:B8 z w=w.natAbs-z.natAbs % w.natAbs:=aJ c;have aa:z.natAbs / w.natAbs<B9 ^ k:=RC (RM _ _) g;refine UJ [0,3,4,5,1,2,6,7,8] [] Z kr_ fun R hB a=>Us 2 Z<|Uu af U9<|Up U6<|UI [ck 1] U12 fun ap _ _ ab=>UT (Ly (k:=k) _ D.m_ (⟨[1],⟨(fun x hx=>(by rw [Q3.1 hx];decide)),by simp⟩,Z,ab.mono mup⟩:NineC _ _ 1) aa (R4 (by decide:1<B9 ^ 1) (Q6 dc_ f)) om_) U7 fl_ fun aq _ _ ac=>UT (uu (k:=k) _ o.m_ p.m_ i (Nat.le_of_lt (Rs _ l)) om_) U7 fl_ fun ar _ _ ad=>Us 2 Z<|Ur [7,8,9,10] a Z ?_;clear a hB R;refine UB 0 mup (hn_ [7,8,9,10] Z) ⟨_,_,⟨by rw [s];exact ac.mono mup,by rw [t];exact ad.mono mup⟩,Z,Z⟩
  have c:¬ (z<0/\z.natAbs % w.natAbs≠0):=fun h=>by
   have h2:0<b.length:=by
    rcases Sb b.length with h3 | h3
    ·exact absurd (F.1 h3) h.2
    exact h3
   have h3:(decide (z<0) && decide ((0:Int)<(b.length:Int)))=true:=by
    rw [QZ h.1,QZ om_];rfl
   rw [h3] at d;cases d
  have s:Hm z w=z.natAbs / w.natAbs:=aB c;have t:B8 z w=z.natAbs % w.natAbs:=aB c;refine UB 0 mup (hn_ [7,8,9,10] Z) ⟨_,_,⟨by rw [s];exact D.mono mup,by rw [t];exact p.mono mup⟩,Z,Z⟩
 obtain ⟨q ,r,⟨H,I⟩,rfl,rfl⟩:=hI;obtain ⟨A9,m9,c9,rfl⟩:=H.form;obtain ⟨au,av,ax,rfl⟩:=I.form;have ag:Hm z w<B9 ^ 100000:=by
  have h1:z.natAbs / w.natAbs<=z.natAbs:=RM _ _;have h2:Hm z w<=z.natAbs+1:=by unfold Hm;split <;> omega
  have h3:B9 ^ k*2<=B9 ^ (k+1):=by rw [RY];exact R6 _ dc_
  have h4:z.natAbs+1<B9 ^ (k+1):=by have:=Tb (n:=k) (show 0<B9 by decide);omega
  exact dE (k:=100000) (n:=k+1) (RC h2 h4) om_
 have ah:B8 z w<B9 ^ 100000:=by
  have h1:=Rs z.natAbs l;have h2:B8 z w<=w.natAbs:=by unfold B8;split <;> omega
  exact dE (k:=100000) (n:=k) (RC h2 i) om_
 refine Um 1 Z fun R a=>Uu ae U9<|Up U6<|Uu af U9<|Us 2 Z<|UG [.bool (decide (z<0) != decide (w<0)),_] U8<|Uy (kl _ u.m_ _ _ _ H.m_ ag) U7<|Up U6<|UG [.bool false,_] U8<|Uy (kl _ u.m_ _ _ _ I.m_ ah) U7<|C4 3 [4,5,6] a Z<|Uz (G.dropAll (Vl U4 ?_));refine ⟨?_,Z⟩;rw [(Hl v).1,show sgZ false (B8 z w)=z % w from (Hl v).2]
theorem KO {l:List Nat}(a:yg l)(b:bC l=n):0<l.length ↔ 0<n:=by
 have h:=Ct a;rw [b] at h;have h2:l.length=0 ↔ n=0:=by rw [h];exact TQ
 omega
theorem GV (C:Mem)(r:Tabs C)(z w:Int)(k:Nat)(s:0<k)(hk:k<=40000)(t:z.natAbs<B9 ^ k)(u:w.natAbs<B9 ^ k):Gives cx.P 208 [ai (txt z),ai (txt w)] C (ai (txt (Nat.gcd z.natAbs w.natAbs:Nat))):=by
 have ab:=cj t s;have ac:=cj u s;refine Uv func208 56 U3 fun w0=>Ul 1 [0,1] Z<|Um 1 Z fun R a=>Uy (jQ _ z 18 (QG _)) U7<|C4 5 [0,1,5,6] a Z<|Ul 1 [0,1,5,18] Z<|G.cut (fun fr C' d e=>(True)/\fr=[(0,[],ai (txt z)),(1,[],ai (txt w))]/\d=[]) ?_ (fun fr _ ad e _ f=>?_)
 ·refine Uo (fun v=>?_) fun v=>?_
  ·have A:=aW v;rw [aJ A];have B:=zJ A;rw [e18] at B;refine Um 1 Z fun R a=>Uy (jQ _ w 18 (QG _)) U7<|C4 5 [0,1,5,7,8] a Z<|Ul 1 [0,1,5,7,24] Z<|Uo (fun E=>?_) fun E=>?_
   ·have F:=aW E;rw [aJ F];have H:=zJ F;rw [e18] at H;refine G.loop (fun fr C' d e=>∃ (x y:Int),(x.natAbs<1000000000000000000/\y.natAbs<1000000000000000000/\Nat.gcd x.natAbs y.natAbs=Nat.gcd z.natAbs w.natAbs)/\fr=[(5,[],.int .i64 x),(7,[],.int .i64 y)]/\d=[]/\e=y.natAbs+1) (hn_ [5,7] Z) ⟨z,w,⟨B,H,Z⟩,Z,Z,Z⟩ (fun fr ae af m K f=>?_);obtain ⟨x,y,⟨ag,L,c⟩,rfl,rfl,rfl⟩:=f;refine Ul 2 [5,7,26] Z<|Uo (fun i=>?_) fun i=>?_
    ·have b:y≠0:=by simpa using i
     have M:(x.tmod y).natAbs=x.natAbs % y.natAbs:=Tr x y;have N:=Rs x.natAbs (show 0<y.natAbs by omega);refine UJ [0,1,2,3,4,5] [] Z kr_ fun R hB a=>Us 3 Z<|Vt (x.tmod y) U6 b U3<|C4 2 [5,7] a Z<|UA (m':=(x.tmod y).natAbs+1) om_ K (hn_ [5,7] Z) ⟨y,x.tmod y,⟨L,by omega,by rw [M,<- c,SZ x.natAbs,Ud y.natAbs x.natAbs,SZ]⟩,Z,Z,Z⟩
    have b:y=0:=by simpa using i
    subst b;rw [show (0:Int).natAbs=0 from rfl,Tq] at c;refine Um 3 Z fun R a=>?_;have ah:IntKind.i64.wrap (0-x)=0-x:=wrap_i64 om_ om_;exact D.max ((x.natAbs:Int)) U6 om_ U2<|UC (sD _ r.m_ (x.natAbs:Int) om_ om_) U7 fl_<|C4 1 [4] a Z<|Ut U2<|⟨by rw [c],Z⟩
   refine UB 0 (Mem.le.refl _) (hn_ [0,1] Z) ⟨trivial,Z,Z⟩
  refine UB 0 (Mem.le.refl _) (hn_ [0,1] Z) ⟨trivial,Z,Z⟩
 obtain ⟨_,rfl,rfl⟩:=f;refine Um 1 Z fun R a=>UT (jo _ z om_) U7 fl_ (fun aj _ _ O=>?_);obtain ⟨pz,rfl,Q⟩:=O;refine VE U12<|Up U6<|UT (jo _ w om_) U7 fl_ (fun ak _ _ S=>?_);obtain ⟨pw,rfl,T⟩:=S;refine VE U12<|C4 2 [9,10] a Z<|G.loop (fun fr C' d e=>∃ (x y:Nat)(j o:Value),(NineC C' j x/\NineC C' o y/\x<B9 ^ k/\y<B9 ^ k/\Nat.gcd x y=Nat.gcd z.natAbs w.natAbs)/\fr=[(9,[],j),(10,[],o)]/\d=[]/\e=y+1) (hn_ [9,10] Z) ⟨_,_,_,_,⟨Q.mono mup,T.mono mup,t,u,Z⟩,Z,Z,Z⟩ (fun fr al am m _ f=>?_);obtain ⟨x,y,j,o,⟨p,g,I,J,c⟩,rfl,rfl,rfl⟩:=f;obtain ⟨l,U,V,W⟩:=id g;obtain ⟨an,ao,rfl,_⟩:=id W;rw [aw] at g ⊢;have X:=KO U V;refine Ul 3 [9,10,44] Z<|Uo (fun q=>?_) fun q=>?_
 ·have b:0<y:=X.1 (by simpa using q);have N:=Rs x b;refine Um 2 Z fun R a=>UT (xq _ _ _ _ _ p.m_ g.m_ (dE (k:=100000) (n:=k) I om_) b) U7 fl_ (fun ap _ _ Y=>?_);obtain ⟨vq,vr,rfl,aq,aa⟩:=Y;refine C4 5 [10,12] a Z<|Ul 4 [9,10] Z<|UA (m':=x % y+1) om_ mup (hn_ [9,10] Z) ⟨y,x % y,_,_,⟨g.mono mup,aa.mono mup,J,S1 (Rs _ b) J,by rw [<- c,SZ x,Ud y x,SZ]⟩,Z,Z,Z⟩
 have b:y=0:=by
  have h:¬ 0<l.length:=by simpa using q
  omega
 subst b;rw [Tq] at c;obtain ⟨A9,m9,c9,rfl⟩:=p.form;exact Um 1 Z fun R a=>UG [.bool false,_] U8<|UC (kl _ r.m_ _ _ _ p.m_ (dE (k:=100000) (n:=k) I om_)) U7 fl_<|C4 1 [4] a Z<|Ut U2<|⟨by rw [c];rfl,Z⟩
def sd (sg:Bool)(A:Str)(B:Option Str):Value :=
 if ND A B then .tuple #[.int .i64 (sgZ sg (bX A)),.int .i64 (Qv B),.bool true] else .tuple #[.int .i64 0,.int .i64 0,.bool false]
theorem Dj (C:Mem)(d:Bool)(A:Str)(B:Option Str)(q:∀ c∈A,eO c=true)(T:A≠[])(U:∀ b,B=some b->∀ c∈b,eO c=true)(V:(Ju d++A++eN B).length<=1000000) :
  Gives cx.P 141 [ai (Ju d++A++eN B)] C (sd d A B):=by
 obtain ⟨s,hs⟩:∃ s,Ju d++A++eN B=s:=⟨_,rfl⟩;obtain ⟨p,t⟩:∃ p,(Ju d).length=p:=⟨_,rfl⟩;have g:p=if d then 1 else 0:=by rw [<- t];cases d <;> rfl
 have u:∀ j c,A[j]?=some c->s[p+j]?=some c:=fun j c h=>by rw [<- hs,<- t];exact MS _ _ _ h
 have N:∀ j,s[p+A.length+j]?=(eN B)[j]?:=fun j=>by rw [<- hs,<- t];exact Jv _ _ _ _
 have y:s.length=p+A.length+(eN B).length:=by rw [<- hs,<- t,QM,QM]
 have W:0<A.length:=Ru.2 T;rw [hs] at V ⊢;refine Uv func141 73 U3 fun w0=>Ul 3 [0,2,3] Z<|Ul 2 [0,2,3,5,6] Z<|Um 5 Z fun R a=>Vj (b:=s.getD 0 0) U8 (fun _=>⟨by omega,(by rw [al,show (0:Int).toNat=0 from rfl];obtain ⟨c,f⟩:∃ c,s[0]?=some c:=⟨s[0]'om_,aj om_⟩;rw [f];rfl)⟩) U2<|Up U6<|UM U8<|Ur [0,2,3,5,6,15] a Z<|G.cut (fun fr C' i k=>(True)/\fr=[(0,[],ai s),(2,[],.int .i64 0),(3,[],.int .i64 0),(5,[],.int .i64 p),(6,[],.bool d)]/\i=[]) ?_ (fun fr _ ae k _ l=>?_)
 ·refine Uo (fun v=>?_) fun v=>?_
  ·have n:d=true:=by
    cases d with
    | true=>rfl
    | false =>
     exfalso;rw [aB dc_] at g;subst g;obtain ⟨c,f⟩:∃ c,A[0]?=some c:=⟨A[0],aj W⟩;have h1:=u 0 c f;have h2:=q c (QF f);rw [SG] at h1;rw [al,h1] at v;unfold eO at h2;simp at v h2;omega
   subst n;rw [aJ rfl] at g;subst g;refine Ul 2 [0,2,3,5,6] Z<|UB 0 (Mem.le.refl _) (hn_ [0,2,3,5,6] Z) ⟨trivial,Z,Z⟩
  have n:d=false:=by
   cases d with
   | false=>rfl
   | true =>
    exfalso;have h1:s[0]?=some 45:=by rw [<- hs];rfl
    rw [aJ rfl] at g;have h2:(decide ((0:Int)<((s.length:Nat):Int)) && decide ((((s.getD 0 0).toNat:Nat):Int)=45))=false:=by simpa using v
    rw [al,h1,QZ om_] at h2;exact absurd h2 dc_
  subst n;rw [aB dc_] at g;subst g;refine UB 0 (Mem.le.refl _) (hn_ [0,2,3,5,6] Z) ⟨trivial,Z,Z⟩
 obtain ⟨_,rfl,rfl⟩:=l;refine Ul 2 [0,2,3,5,6,7] Z<|G.loop (fun fr C' i k=>∃ (j:Nat),(j<=A.length/\j<=9)/\fr=[(0,[],ai s),(2,[],.int .i64 ((bX (A.take j):Nat):Int)),(3,[],.int .i64 0),(5,[],.int .i64 ((p+j:Nat):Int)),(6,[],.bool d),(7,[],.int .i64 p)]/\i=[]/\k=A.length-j+1) (hn_ [0,2,3,5,6,7] Z) ⟨0,⟨by omega,by omega⟩,Z,Z,Z⟩ (fun fr af ag m X l=>?_);obtain ⟨j,⟨hj,w⟩,rfl,rfl,rfl⟩:=l;obtain ⟨c,f⟩:∃ c,p+j<s.length->s[p+j]?=some c:=⟨s.getD (p+j) 0,fun h=>by rw [al,aj h];rfl⟩;refine Um 7 Z fun R a=>Vj (b:=c) U8 (fun Y=>⟨by omega,f (by have h:decide (((p+j:Nat):Int)<((s.length:Nat):Int))=true:=Y.1;have h2:=aW h;omega)⟩) U2<|Up U6<|UM U8<|Ur [0,2,3,5,6,7,26] a Z<|Uo (fun x=>?_) fun x=>?_
 ·have z:p+j<s.length/\c.toNat≠47:=by
   simp at x;omega
  have E:j<A.length:=by
   rcases Rh j A.length with h | h
   ·exact h
   exfalso;obtain rfl:j=A.length:=by omega
   have h1:=f z.1;have h2:=N 0;rw [SG,h1] at h2;cases B with
   | none=>simp [eN] at h2
   | some b =>
    simp [eN] at h2;subst h2;exact z.2 Z
  obtain ⟨e,o⟩:∃ c,A[j]?=some c:=⟨A[j],aj E⟩;obtain rfl:e=c:=by
   have h1:=f z.1;rw [u j e o] at h1;exact Si h1
  have O:48<=e.toNat/\e.toNat<=57:=by simpa [eO] using q e (QF o)
  have hV:=uO q w;refine Um 2 Z fun R a=>Uw _ U7<|C4 1 [0,2,3,5,6,7,32] a Z<|Uo (fun F=>?_) fun F=>?_
  ·have r:¬ A.length<=9:=by
    have:((p+j:Nat):Int)-p=9:=by simpa using F
    omega
   refine Ul 3 [2,3,4] Z<|Uz (G.dropAll (Vl U4 ?_));refine ⟨?_,Z⟩;unfold sd ND;rw [Q8 r,Bool.false_and,aB dc_]
  have r:j≠9:=by
   have:¬ ((p+j:Nat):Int)-p=9:=by simpa using F
   omega
  refine Um 1 Z fun R a=>Uw _ U7<|Us 2 Z<|Vj U8 (fun _=>⟨by omega,u j _ o⟩) U2<|D.int (((e.toNat:Nat):Int)-48) U4 (by rw [IntKind.wrap_u8];omega) U2<|Vb (c:=((e.toNat:Nat):Int)-48) U8 (by rw [IntKind.wrap_i64];omega) fl_<|Uw _ U7<|C4 1 [0,2,3,5,6,7] a Z<|Um 1 Z fun R a=>Uw _ U7<|C4 1 [0,2,3,5,6,7] a Z ?_;rw [show 10*((bX (A.take j):Nat):Int)+(((e.toNat:Nat):Int)-48)=((bX (A.take (j+1)):Nat):Int) by rw [Cd o];omega];refine UA (m':=A.length-(j+1)+1) om_ X (hn_ [0,2,3,5,6,7] Z) ⟨j+1,⟨by omega,by omega⟩,Z,Z,Z⟩
 have E:j=A.length:=by
  rcases Rh j A.length with h | h
  ·exfalso;obtain ⟨e,o⟩:∃ c,A[j]?=some c:=⟨A[j],aj h⟩;have h1:=f om_;rw [u j e o] at h1;obtain rfl:=Si h1;have O:48<=e.toNat/\e.toNat<=57:=by simpa [eO] using q e (QF o)
   simp at x;have:=x om_;omega
  omega
 subst E;rw [QV];refine Ul 1 [0,2,3,5,41] Z<|G.cut (fun fr C' i k=>(True)/\fr=[(0,[],ai s),(2,[],.int .i64 (sgZ d (bX A))),(3,[],.int .i64 0),(5,[],.int .i64 ((p+A.length:Nat):Int))]/\i=[]) ?_ (fun fr _ ah k _ l=>?_)
 ·refine Uo (fun H=>?_) fun H=>?_
  ·have n:d=true:=H;subst n;have aa:=uO q w;rw [QV] at aa;refine Ul 3 [0,2,3,5] Z ?_;rw [show IntKind.i64.wrap (0-((bX A:Nat):Int))=sgZ true (bX A) by rw [wrap_i64 om_ om_];unfold sgZ;rw [aJ rfl];omega];refine UB 0 (Mem.le.refl _) (hn_ [0,2,3,5] Z) ⟨trivial,Z,Z⟩
  have n:d=false:=by simpa using H
  subst n;refine UB 0 (Mem.le.refl _) (hn_ [0,2,3,5] Z) ⟨trivial,Z,Z⟩
 obtain ⟨_,rfl,rfl⟩:=l;refine Ul 4 [0,2,3,5,47] Z<|Uo (fun I=>?_) fun I=>?_
 ·have ab:B=none:=by
   cases B with
   | none=>rfl
   | some b =>
    exfalso;have:p+A.length=s.length:=by simp at I;omega
    rw [y] at this;simp [eN] at this
  subst ab;refine Ul 4 [2,3,4] Z<|Uz (G.dropAll (Vl U4 ?_));refine ⟨?_,Z⟩;unfold sd ND;rw [QZ w];rfl
 obtain ⟨b,rfl⟩:∃ b,B=some b:=by
  cases B with
  | some b=>exact ⟨b,rfl⟩
  | none =>
   exfalso;simp [y,eN] at I
 have Q:=U b rfl;have ak:s.length=p+A.length+1+b.length:=by rw [y];simp [eN];omega
 refine Um 1 Z fun R a=>Uw _ U7<|C4 1 [0,2,3,5,7] a Z<|Um 1 Z fun R a=>Uw _ U7<|C4 1 [0,2,3,5,7] a Z<|G.loop (fun fr C' i k=>∃ (j:Nat),(j<=b.length/\j<=9)/\fr=[(0,[],ai s),(2,[],.int .i64 (sgZ d (bX A))),(3,[],.int .i64 ((bX (b.take j):Nat):Int)),(5,[],.int .i64 ((p+A.length+1+j:Nat):Int)),(7,[],.int .i64 ((p+A.length+1:Nat):Int))]/\i=[]/\k=b.length-j+1) (hn_ [0,2,3,5,7] Z) ⟨0,⟨by omega,by omega⟩,Z,Z,Z⟩ (fun fr am an m ac l=>?_);obtain ⟨j,⟨hk,S⟩,rfl,rfl,rfl⟩:=l;refine Ul 4 [0,2,3,5,7,56] Z<|Uo (fun J=>?_) fun J=>?_
 ·have K:j<b.length:=by
   have:p+A.length+1+j<s.length:=by simp at J;omega
   omega
  obtain ⟨c,L⟩:∃ c,b[j]?=some c:=⟨b[j],aj K⟩;have ad:s[p+A.length+1+j]?=some c:=by rw [TD,N,Tc 1 j];exact L
  have O:48<=c.toNat/\c.toNat<=57:=by simpa [eO] using Q c (QF L)
  have hV:=uO Q S;refine Um 2 Z fun R a=>Uw _ U7<|C4 1 [0,2,3,5,7,62] a Z<|Uo (fun M=>?_) fun M=>?_
  ·have r:¬ b.length<=9:=by
    have:((p+A.length+1+j:Nat):Int)-((p+A.length+1:Nat):Int)=9:=by simpa using M
    omega
   refine Ul 3 [2,3,4] Z<|Uz (G.dropAll (Vl U4 ?_));refine ⟨?_,Z⟩;unfold sd ND;rw [show (some b).getD []=b from rfl,Q8 r,Bool.and_false,aB dc_]
  have r:j≠9:=by
   have:¬ ((p+A.length+1+j:Nat):Int)-((p+A.length+1:Nat):Int)=9:=by simpa using M
   omega
  refine Um 1 Z fun R a=>Uw _ U7<|Us 2 Z<|Vj U8 (fun _=>⟨by omega,ad⟩) U2<|D.int (((c.toNat:Nat):Int)-48) U4 (by rw [IntKind.wrap_u8];omega) U2<|Vb (c:=((c.toNat:Nat):Int)-48) U8 (by rw [IntKind.wrap_i64];omega) fl_<|Uw _ U7<|C4 1 [0,2,3,5,7] a Z<|Um 1 Z fun R a=>Uw _ U7<|C4 1 [0,2,3,5,7] a Z ?_;rw [show 10*((bX (b.take j):Nat):Int)+(((c.toNat:Nat):Int)-48)=((bX (b.take (j+1)):Nat):Int) by rw [Cd L];omega];refine UA (m':=b.length-(j+1)+1) om_ ac (hn_ [0,2,3,5,7] Z) ⟨j+1,⟨by omega,by omega⟩,Z,Z,Z⟩
 have K:j=b.length:=by
  have:¬ p+A.length+1+j<s.length:=by simp at J;omega
  omega
 subst K;rw [QV];refine Ul 5 [2,3,4] Z<|Uz (G.dropAll (Vl U4 ?_));refine ⟨?_,Z⟩;unfold sd ND;rw [show (some b).getD []=b from rfl,QZ w,QZ S];rfl
theorem pq {n:Int}(a:g ∣ n.natAbs):n.tdiv (g:Int)=n / (g:Int):=Int.tdiv_eq_ediv_of_dvd (Tk.1 (SJ.2 a))
theorem Bl {n:Int}(a:d≠0):qtx (mkRat n d)=txt (n / ((Nat.gcd n.natAbs d:Nat):Int))++eN (nQ (d / Nat.gcd n.natAbs d)):=by
 rw [pr,(ut n a).1,(ut n a).2]
theorem wh (C:Mem)(e:Tabs C)(n:Int)(d:Nat)(o:0<d)(p:n.natAbs<9000000000000000000)(t:d<9000000000000000000):Gives cx.P 142 [.int .i64 n,.int .i64 d] C (ai (qtx (mkRat n d))):=by
 obtain ⟨g,b⟩:∃ g,Nat.gcd n.natAbs d=g:=⟨_,rfl⟩;have u:0<g:=by rw [<- b];exact Tm _ o
 have q:g ∣ n.natAbs:=by rw [<- b];exact TB _ _
 have v:g ∣ d:=by rw [<- b];exact TR _ _
 have F:g<=d:=Ug o v;rw [Bl om_,b];refine Uv func142 35 U3 fun w0=>Ul 1 [0,1] Z<|Ul 4 [0,1,5,6] Z<|G.loop (fun fr C' f h=>∃ (x y:Int),(x.natAbs<9000000000000000000/\y.natAbs<9000000000000000000/\Nat.gcd x.natAbs y.natAbs=g)/\fr=[(0,[],.int .i64 n),(1,[],.int .i64 d),(5,[],.int .i64 x),(6,[],.int .i64 y)]/\f=[]/\h=y.natAbs+1) (hn_ [0,1,5,6] Z) ⟨n,d,⟨p,by omega,by rw [Rt];exact b⟩,Z,Z,Z⟩ (fun fr H I m w i=>?_);obtain ⟨x,y,⟨J,z,r⟩,rfl,rfl,rfl⟩:=i;refine Ul 2 [0,1,5,6,10] Z<|Uo (fun j=>?_) fun j=>?_
 ·have k:y≠0:=by simpa using j
  have A:(x.tmod y).natAbs=x.natAbs % y.natAbs:=Tr x y;have K:=Rs x.natAbs (show 0<y.natAbs by omega);refine UJ [0,1,2,3,4,5] [] Z kr_ fun R B a=>Us 3 Z<|Vt (x.tmod y) U6 k U3<|C4 2 [0,1,5,6] a Z<|UA (m':=(x.tmod y).natAbs+1) om_ w (hn_ [0,1,5,6] Z) ⟨y,x.tmod y,⟨z,by omega,by rw [A,<- r,SZ x.natAbs,Ud y.natAbs x.natAbs,SZ]⟩,Z,Z,Z⟩
 have k:y=0:=by simpa using j
 subst k;rw [show (0:Int).natAbs=0 from rfl,Tq] at r;refine Ul 2 [0,1,5,16] Z<|G.cut (fun fr C' f h=>(True)/\fr=[(0,[],.int .i64 n),(1,[],.int .i64 d),(5,[],.int .i64 g)]/\f=[]) ?_ (fun fr _ L h _ i=>?_)
 ·refine Uo (fun l=>?_) fun l=>?_
  ·have D:x<0:=by simpa using l
   refine Ul 3 [0,1,5] Z ?_;rw [show IntKind.i64.wrap (0-x)=(g:Int) by rw [wrap_i64 om_ om_];omega];refine UB 0 (Mem.le.refl _) (hn_ [0,1,5] Z) ⟨trivial,Z,Z⟩
  have D:¬ x<0:=by simpa using l
  rw [show x=(g:Int) by omega];refine UB 0 (Mem.le.refl _) (hn_ [0,1,5] Z) ⟨trivial,Z,Z⟩
 obtain ⟨_,rfl,rfl⟩:=i;have E:(n / (g:Int)).natAbs<=n.natAbs:=by
  rw [SR (Tk.1 (SJ.2 q)),Rt];exact RM _ _
 have s:=RM d g;refine UJ [0,1,2,3,4,5,6,7] [] Z kr_ fun R B a=>Us 2 Z<|VB (n / (g:Int)) U6 om_ (pq q) (wrap_i64 om_ om_) U2<|Us 2 Z<|Vu (d) (g) U6 u (.inl ⟨Z,by omega⟩) U2<|C4 2 [0,1] a Z<|Ul 2 [0,1,26] Z<|Uo (fun c=>?_) fun c=>?_
 ·have h1:d / g=1:=by
   have h2:(((d / g:Nat):Int))=1:=by simpa using c
   omega
  refine Um 1 Z fun R a=>UC (jv _ e.m_ _ om_ om_) U7 fl_<|C4 1 [4] a Z<|Ut U2<|⟨?_,Z⟩;rw [h1,mj rfl];simp [eN]
 have h1:d / g≠1:=by
  intro h2;rw [h2] at c;exact absurd c dc_
 have M:=mM (n / (g:Int));have N:=mM ((d / g:Nat):Int);have O:(bq (n / (g:Int)).natAbs).length<=20:=eI (RC E (S1 p dc_)) dc_;have Q:(bq ((d / g:Nat):Int).natAbs).length<=20:=eI (by rw [Rt];exact RC s (S1 t dc_)) dc_;refine Um 1 Z fun R a=>UC (jv _ e.m_ _ om_ om_) U7 fl_<|Vm U6 (fun _=>(by simp only [QY,Rq];omega)) U2<|Up U6<|UC (jv _ e.m_ ((d / g:Nat):Int) (Uj dc_ (TL _)) (Uj (Int.ofNat_le.2 s) om_)) U7 fl_<|Vm U6 (fun _=>(by simp only [QM,QY,Rq];omega)) U2<|C4 1 [4] a Z<|Ut U2<|⟨?_,Z⟩;rw [fN h1,df,Rb];rfl
theorem GQ (C:Mem)(z:Int)(d:Nat)(k:Nat)(b:0<k)(g:k<=40000)(c:z.natAbs<B9 ^ k)(e:d<B9 ^ k):Gives cx.P 212 [ai (txt z),ai (bq d)] C (ai (txt z++eN (nQ d))):=by
 have h:(txt z).length<=9*k+1:=by
  have:=cj c b;unfold txt;split
  ·simp;omega
  omega
 have i:=cj e b;refine Uv func212 12 U3 fun w0=>Ul 1 [0,1] Z<|Ul 2 [0,1,6] Z<|Uo (fun a=>?_) fun a=>?_
 ·have h1:d=1:=by rw [sY] at a;exact aW a
  refine Ul 2 [4] Z<|Ut U2<|⟨?_,Z⟩;rw [mj h1];simp [eN]
 have h1:d≠1:=by rw [sY] at a;exact QJ a
 refine Um 1 Z fun R f=>Vm U6 (fun _=>(by simp only [QY,Rq];omega)) U2<|Up U6<|Vm U6 (fun _=>(by simp only [QM,QY,Rq];omega)) U2<|C4 1 [4] f Z<|Ut U2<|⟨?_,Z⟩;rw [fN h1,Rb];rfl
theorem Fw (C:Mem)(s:Str)(c:s.length<1000000):Gives cx.P 143 [ai s] C (.tuple #[ai (kg 47 s).1,ai ((kg 47 s).2.getD [49])]):=by
 refine Uv func143 18 U3 fun w0=>Ul 2 [0] Z<|Um 1 Z fun R d=>Uy (LW _ s 47 c) U7<|C4 7 [4,5,6] d Z<|Ul 2 [4,5,14] Z<|Uo (fun a=>?_) fun a=>?_
 ·have h1:(kg 47 s).2=none:=by
   cases h:(kg 47 s).2 with
   | none=>rfl
   | some b=>rw [h] at a;simp at a
  refine Ul 3 [2,3] Z<|Uz (G.dropAll (UO U3 ?_));refine ⟨?_,Z⟩;rw [h1];rfl
 obtain ⟨b,h1⟩:∃ b,(kg 47 s).2=some b:=by
  cases h:(kg 47 s).2 with
  | some b=>exact ⟨b,rfl⟩
  | none=>rw [h] at a;simp at a
 refine Ul 4 [2,3] Z<|Uz (G.dropAll (UO U3 ?_));refine ⟨?_,Z⟩;rw [h1];rfl
theorem Ci {c:UInt8}:∀ {a:Str}(b:Str),c ∉ a->kg c (a++c::b)=(a,some b)
 | [],b,_=>by simp [kg]
 | x::a,b,h=>by
  have d:x≠c:=fun e=>h (e ▸ PN);have hr:=Ci (c:=c) (a:=a) b (fun h2=>h (QR _ h2));simp only [Sd,kg,aB d,hr]
theorem xw {c:UInt8}:∀ {a:Str},c ∉ a->kg c a=(a,none)
 | [],_=>rfl
 | x::a,h=>by
  have b:x≠c:=fun e=>h (e ▸ PN);have hr:=xw (c:=c) (a:=a) (fun h2=>h (QR _ h2));simp only [kg,aB b,hr]
theorem vW (h:∀ c∈s,eO c=true):(47:UInt8) ∉ s:=fun h2=>absurd (h 47 h2) dc_
theorem vV (z:Int):(47:UInt8) ∉ txt z:=by
 unfold txt;split
 ·intro h;rcases QU.1 h with h | h
  ·cases h
  exact vW (kc _) h
 exact vW (kc _)
theorem ot (q:Rat):kg 47 (qtx q)=(txt q.num,nQ q.den):=by
 rw [pr];unfold nQ;split
 ·rw [show eN none=[] from rfl,Q7];exact xw (vV _)
 exact Ci _ (vV _)
theorem one_dec:bq 1=[49]:=by rw [bq];rfl
theorem Ht (d:Nat):(nQ d).getD [49]=bq d:=by
 unfold nQ;split
 ·rename_i h;subst h;exact one_dec.symm
 rfl
theorem MZ (C:Mem)(q:Rat)(a:(qtx q).length<1000000):Gives cx.P 143 [ai (qtx q)] C (.tuple #[ai (txt q.num),ai (bq q.den)]):=by
 have h:=Fw C (qtx q) a
 rwa [ot,Ht] at h
def lf (z w:Int):Rat:=mkRat (if w<0 then -z else z) w.natAbs
theorem pT (C:Mem)(f:Tabs C)(z w:Int)(k:Nat)(b:0<k)(e:k<=40000)(p:z.natAbs<B9 ^ k)(q:w.natAbs<B9 ^ k)(v:w≠0):Gives cx.P 144 [ai (txt z),ai (txt w)] C (ai (qtx (lf z w))):=by
 have x:=cj p b;have A:=cj q b;obtain ⟨y,hy⟩:∃ y,(if w<0 then -z else z)=y:=⟨_,rfl⟩;obtain ⟨d,r⟩:∃ d,w.natAbs=d:=⟨_,rfl⟩;have s:d≠0:=by omega
 have B:y.natAbs=z.natAbs:=by rw [<- hy];split <;> omega
 obtain ⟨g,c⟩:∃ g,Nat.gcd y.natAbs d=g:=⟨_,rfl⟩;have D:0<g:=by rw [<- c];exact Tm _ om_
 have t:g ∣ d:=by rw [<- c];exact TR _ _
 have E:g<=d:=Ug om_ t;unfold lf;rw [hy,r,Bl s,c];refine Uv func144 35 U3 fun w0=>Ul 1 [0,1] Z<|Um 1 Z fun R a=>Uy (lV _ w) U7<|C4 1 [0,1,8] a Z<|G.cut (fun fr C' i j=>(True)/\fr=[(0,[],ai (txt y)),(1,[],ai (txt (d:Nat)))]/\i=[]) ?_ (fun fr _ F j _ l=>?_)
 ·refine Uo (fun m=>?_) fun m=>?_
  ·have n:w<0:=by
    have h:eX w<0:=by simpa using m
    unfold eX at h;split at h <;> omega
   rw [aJ n] at hy;refine Um 1 Z fun R a=>UC (uA _ z om_) U7 fl_<|Up U6<|UC (uA _ w om_) U7 fl_<|C4 2 [0,1] a Z<|UB 0 (Mem.le.refl _) (hn_ [0,1] Z) ⟨trivial,by rw [hy,show -w=((d:Nat):Int) by omega],Z⟩
  have n:¬ w<0:=by
   intro h2;have h:¬ eX w<0:=by simpa using m
   unfold eX at h;split at h <;> omega
  rw [aB n] at hy;refine UB 0 (Mem.le.refl _) (hn_ [0,1] Z) ⟨trivial,by rw [hy,show w=((d:Nat):Int) by omega],Z⟩
 obtain ⟨_,rfl,rfl⟩:=l;refine Um 2 Z fun R a=>UC (GV _ f.m_ y (d:Nat) k b e om_ om_) U7 fl_<|C4 1 [0,1,5] a Z ?_;rw [Rt,c];refine Ul 2 [0,1,5,17] Z<|G.cut (fun fr C' i j=>(True)/\fr=[(0,[],ai (txt (y / (g:Nat)))),(1,[],ai (txt ((d / g:Nat):Int)))]/\i=[]) ?_ (fun fr _ H j _ l=>?_)
 ·refine Uo (fun o=>?_) fun o=>?_
  ·refine Um 2 Z fun R a=>UC (sG _ f.m_ y (g:Nat) k b e om_ om_ om_) U7 fl_<|C4 5 [0,1,5] a Z<|Um 2 Z fun R a=>UC (sG _ f.m_ (d:Nat) (g:Nat) k b e om_ om_ om_) U7 fl_<|C4 5 [0,1] a Z<|UB 0 (Mem.le.refl _) (hn_ [0,1] Z) ⟨trivial,by rw [TY],Z⟩
  have u:g=1:=by
   rw [df,sY] at o;simpa using o
  refine UB 0 (Mem.le.refl _) (hn_ [0,1] Z) ⟨trivial,by rw [u,Nat.div_one,Int.natCast_one,Int.ediv_one],Z⟩
 obtain ⟨_,rfl,rfl⟩:=l;rw [df];exact Um 2 Z fun R a=>UC (GQ _ (y / (g:Nat)) (d / g) k b e (by rw [SR (Tk.1 (SJ.2 (by rw [<- c];exact TB _ _))),Rt];exact RC (RM _ _) om_) (RC (RM _ _) om_)) U7 fl_<|C4 1 [4] a Z<|Ut U2<|⟨Z,Z⟩
theorem NP {a b:Nat}(h:bq a=bq b):a=b:=by rw [<- (bH a).2,h,(bH b).2]
theorem Ox (h:txt z=txt w):z=w:=by
 have h1:=dH z;rw [h,dH w] at h1;have h2:=NP (Uk h1).1;have h3:decide (w<0)=decide (z<0):=(Uk h1).2;by_cases a:w<0
 ·rw [QZ a] at h3;have:=aW h3.symm;omega
 rw [Q8 a] at h3;have:=QJ h3.symm;omega
theorem iM (h:qtx a=qtx b):a=b:=by
 have h1:=ot a;rw [h,ot b] at h1;have h2:=Ox (Uk h1).1;have h3:=congrArg Qv (Uk h1).2;rw [qE,qE] at h3;exact Rat.ext h2.symm h3.symm
theorem MM (a b:Rat):((⟨(qtx a).toArray⟩:ByteArray).data.toList == (⟨(qtx b).toArray⟩:ByteArray).data.toList)=decide (a=b):=by
 show (qtx a == qtx b)=_;rw [Uc,Sn,QQ];exact ⟨iM,fun h=>by rw [h]⟩
theorem qtx_zero:qtx 0=[48]:=by
 rw [show (0:Rat)=((0:Int):Rat) from rfl,mR];unfold txt;rw [aB om_,show bq (0:Int).natAbs=bq 0 from rfl,bq];rfl
theorem dD:qtx 1=[49]:=by
 rw [show (1:Rat)=((1:Int):Rat) from rfl,mR];exact one_val.symm
theorem fH (a:Rat):((⟨(qtx a).toArray⟩:ByteArray).data.toList == (⟨#[48]⟩:ByteArray).data.toList)=decide (a=0):=by
 have h:=MM a 0
 rwa [qtx_zero] at h
theorem Ls (a:Rat):((⟨(qtx a).toArray⟩:ByteArray).data.toList == (⟨#[49]⟩:ByteArray).data.toList)=decide (a=1):=by
 have h:=MM a 1
 rwa [dD] at h
theorem FO (a:Rat):0<(qtx a).length:=by
 unfold qtx;rw [QM,QM];have:=Ru.2 (zm a.num.natAbs);omega
theorem bG (h:QB k q)(a:0<k):(qtx q).length<=18*k+2:=by
 unfold qtx;rw [QM,QM];have h1:=cj h.1 a;have h2:=cj h.2 a;have h3:(Ju (decide (q.num<0))).length<=1:=by cases decide (q.num<0) <;> simp [Ju]
 have h4:(eN (nQ q.den)).length<=9*k+1:=by
  unfold nQ;split
  ·simp [eN]
  simp [eN];exact h2
 omega
theorem ud (q:Rat):∃ c r,qtx q=c::r/\((((c.toNat:Nat):Int) == 45)=decide (q.num<0)):=by
 by_cases h:q.num<0
 ·refine ⟨45,bq q.num.natAbs++eN (nQ q.den), ?_,by rw [QZ h];decide⟩;unfold qtx;rw [QZ h];rfl
 obtain ⟨c,r,a⟩:∃ c r,bq q.num.natAbs=c::r:=List.exists_cons_of_ne_nil (zm _);refine ⟨c,r++eN (nQ q.den), ?_, ?_⟩
 ·unfold qtx;rw [Q8 h,a];rfl
 have h2:=kc q.num.natAbs c (by rw [a];exact PN);rw [Q8 h];unfold eO at h2;have h3:=aW h2;exact Q8 om_
theorem gl (h:¬ q.num<0)(a:q≠0):qtx (-q)=45::qtx q:=by
 have b:q.num≠0:=fun e=>a (TJ.1 e);unfold qtx;rw [Ue,Rat.neg_den,QZ om_,Q8 h,TP];rfl
theorem ru (h:q.num<0):qtx q=45::qtx (-q):=by
 have h2:=gl (q:=-q) (by rw [Ue];omega) (by intro e;have h3:=congrArg Rat.num e;rw [Ue] at h3;have h4:(0:Rat).num=0:=rfl;omega)
 rwa [Rat.neg_neg] at h2
def DX (q:Rat):Bool:=ND (bq q.num.natAbs) (nQ q.den)
theorem LO (h:(bq n).length<=9):n<1000000000:=by
 have h1:=dW (kc n);rw [(bH n).2] at h1;exact R4 h1 (Q0 (Q6 dc_ h) dc_)
theorem na (h:DX q=true):q.num.natAbs<1000000000/\q.den<1000000000:=by
 unfold DX ND at h;rw [QT,QQ,QQ] at h;refine ⟨LO h.1, ?_⟩;by_cases h1:q.den=1
 ·omega
 rw [fN h1] at h;exact LO h.2
theorem Fv (C:Mem)(q:Rat)(a:(qtx q).length<=1000000):Gives cx.P 141 [ai (qtx q)] C (if DX q then .tuple #[.int .i64 q.num,.int .i64 (q.den:Nat),.bool true] else .tuple #[.int .i64 0,.int .i64 0,.bool false]):=by
 have h:=Dj C (decide (q.num<0)) (bq q.num.natAbs) (nQ q.den) (kc _) (zm _) (Ku _) a;unfold sd at h;rw [(bH _).2,qE] at h;have e:sgZ (decide (q.num<0)) q.num.natAbs=q.num:=by
  unfold sgZ;by_cases h:q.num<0
  ·rw [QZ h,aJ rfl];omega
  rw [Q8 h,aB dc_];omega
 rw [e] at h;exact h
theorem eY (C:Mem)(q:Rat)(g:(qtx q).length<=1000000):Gives cx.P 174 [ai (qtx q)] C (ai (qtx (-q))):=by
 have h:=FO q;refine Uv func174 13 U3 fun w0=>Ul 1 [0] Z<|Ul 2 [0,4] Z<|Uo (fun h4=>?_) fun h4=>?_
 ·have h0:q=0:=by rw [fH] at h4;exact aW h4
  refine Ul 2 [2] Z<|Ut U2<|⟨?_,Z⟩;rw [h0,Rat.neg_zero]
 have h0:q≠0:=by rw [fH] at h4;exact QJ h4
 obtain ⟨c,r,f,e⟩:=ud q;refine Um 1 Z fun R a=>Vj U8 (fun _=>⟨by omega,by rw [f];rfl⟩) U2<|C4 1 [0,8] a Z<|Uo (fun b=>?_) fun b=>?_
 ·have d:q.num<0:=by rw [e] at b;exact aW b
  refine Um 1 Z fun R a=>Vn 1 (qtx q).length U9 (fun _=>⟨.inr ⟨_,Z⟩,.inl ⟨Z,Z⟩,.inl ⟨Z,Z⟩,by omega,QG _,QG _⟩) U2<|C4 1 [2] a Z<|Ut U2<|⟨?_,Z⟩;rw [QV,ru d];rfl
 have d:¬ q.num<0:=by rw [e] at b;exact QJ b
 refine Um 1 Z fun R a=>Vm U6 (fun _=>(by simp only [QY,Rq];omega)) U2<|C4 1 [2] a Z<|Ut U2<|⟨?_,Z⟩;rw [gl d h0];rfl
theorem fW (C:Mem)(q:Rat)(j:(qtx q).length<=1000000):Gives cx.P 58 [ai (qtx q)] C (.int .i64 (eX q.num)):=by
 obtain ⟨c,r,f,d⟩:=ud q;have k:=FO q;refine Uv func58 15 U3 fun w0=>Ul 1 [0] Z<|Ul 3 [0,3] Z<|Uo (fun h3=>?_) fun h3=>?_
 ·have h0:q=0:=by rw [fH] at h3;exact aW h3
  refine Ul 1 [2] Z<|Ut U2<|⟨?_,Z⟩;rw [h0];rfl
 have h0:q≠0:=by rw [fH] at h3;exact QJ h3
 have g:q.num≠0:=fun e=>h0 (TJ.1 e);refine Um 5 Z fun R i=>Vj U8 (fun _=>⟨by omega,by rw [f];rfl⟩) U2<|Up U6<|UM U8<|C4 1 [6] i Z<|Uo (fun a=>?_) fun a=>?_
 ·rw [d] at a;have b:q.num<0:=by
   have h:=(QT _ _ ▸ a:_/\_).2;exact aW h
  skip
  refine Ul 1 [2] Z<|Ut U2<|⟨?_,Z⟩;unfold eX;rw [aJ b]
 rw [d,QZ (show (0:Int)<((⟨(qtx q).toArray⟩:ByteArray).data.toList.length:Int) by show (0:Int)<(((qtx q).length:Nat):Int);omega),TW] at a;have b:¬ q.num<0:=QJ a;refine Ul 1 [2] Z<|Ut U2<|⟨?_,Z⟩;unfold eX;rw [aB b,aB g]
theorem jO (C:Mem)(q:Rat)(b:(qtx q).length<=1000000):Gives cx.P 141 [ai (qtx q)] C (.tuple #[.int .i64 (if DX q then q.num else 0),.int .i64 (if DX q then ((q.den:Nat):Int) else 0),.bool (DX q)]):=by
 have h:=Fv C q b;cases a:DX q with
 | true=>rw [a] at h;exact h
 | false=>rw [a] at h;exact h
def EF (a b:Rat):Int:=if a<b then -1 else if b<a then 1 else 0
theorem uX :EF a b=vy (a.num*b.den) (b.num*a.den):=by
 unfold EF vy;simp only [Rat.lt_iff]
theorem ik (a:Rat):0<a.den:=SI a.den_nz
theorem oa {a:Int}(b:a.natAbs<1000000000)(c:d<1000000000):-1000000000000000000<a*(d:Int)/\a*(d:Int)<1000000000000000000:=FW b (by rw [Rt];exact c)
theorem wP {a:Nat}(b:a<1000000000)(c:d<1000000000):a*d<1000000000000000000:=Sj b c
theorem kT (C:Mem)(q:Rat)(a:(qtx q).length<1000000):Gives cx.P 143 [ai (qtx q)] C (.tuple #[ai (txt q.num),ai (txt ((q.den:Nat):Int))]):=by
 have h:=MZ C q a
 rwa [<- df] at h
theorem el (a:z.natAbs<B9 ^ k)(b:w.natAbs<B9 ^ k):(z*w).natAbs<B9 ^ (k+k):=by
 rw [Se];exact nY a b
theorem B6 (a:0<d):lf z ((d:Nat):Int)=mkRat z d:=by
 unfold lf;rw [aB om_,Rt]
theorem rF (h:QB k q):((q.den:Nat):Int).natAbs<B9 ^ k:=by rw [Rt];exact h.2
theorem kR (C:Mem)(m:Tabs C)(a b:Rat)(k:Nat)(f:0<k)(u:k<=20000)(d:QB k a)(e:QB k b):Gives cx.P 107 [ai (qtx a),ai (qtx b)] C (.int .i64 (EF a b)):=by
 have v:=bG d f;have w:=bG e f;refine Uv func107 65 U3 fun w0=>Ul 1 [0,1] Z<|Ul 3 [0,1,19] Z<|Uo (fun g=>?_) fun g=>?_
 ·have h0:a=b:=by rw [MM] at g;exact aW g
  refine Ul 1 [4] Z<|Ut U2<|⟨?_,Z⟩;subst h0;rw [EF,aB (Rat.lt_irrefl),aB (Rat.lt_irrefl)]
 refine Um 1 Z fun R c=>UC (jO _ a om_) U7 fl_<|C4 7 [0,1,5,6,7] c Z<|Ul 1 [0,1,5,6,26] Z<|G.cut (fun fr C' r s=>(True)/\fr=[(0,[],ai (qtx a)),(1,[],ai (qtx b))]/\r=[]) ?_ (fun fr _ x s _ t=>?_)
 ·refine Uo (fun n=>?_) fun n=>?_
  ·have h:DX a=true:=n;rw [aJ h,aJ h];have o:=na h;refine Um 1 Z fun R c=>UC (jO _ b om_) U7 fl_<|C4 7 [0,1,5,6,8,9,10] c Z<|Ul 1 [0,1,5,6,8,9,33] Z<|Uo (fun p=>?_) fun p=>?_
   ·have i:DX b=true:=p;rw [aJ i,aJ i];have q:=na i;have y:=oa o.1 q.2;have z:=oa q.1 o.2;refine Um 2 Z fun R c=>Uw _ U7<|Us 2 Z<|Uw _ U7<|C4 2 [11,12] c Z<|Ul 4 [11,12,40] Z<|Uo (fun j=>?_) fun j=>?_
    ·have h1:=aW j;refine Ul 1 [4] Z<|Ut U2<|⟨?_,Z⟩;rw [uX,vy,aJ h1]
    have h1:=QJ j;refine Ul 4 [44] Z<|Uo (fun l=>?_) fun l=>?_
    ·have h2:=aW l;refine Ul 1 [4] Z<|Ut U2<|⟨?_,Z⟩;rw [uX,vy,aB h1,aJ h2]
    have h2:=QJ l;refine Ul 1 [4] Z<|Ut U2<|⟨?_,Z⟩;rw [uX,vy,aB h1,aB h2]
   refine UB 0 (Mem.le.refl _) (hn_ [0,1] Z) ⟨trivial,Z,Z⟩
  refine UB 0 (Mem.le.refl _) (hn_ [0,1] Z) ⟨trivial,Z,Z⟩
 obtain ⟨_,rfl,rfl⟩:=t;exact Um 1 Z fun R c=>UC (kT _ a om_) U7 fl_<|C4 5 [1,13,14] c Z<|Um 1 Z fun R c=>UC (kT _ b om_) U7 fl_<|C4 5 [13,14,15,16] c Z<|Um 2 Z fun R c=>UC (kX _ m.m_ _ _ k f om_ d.1 (rF e)) U7 fl_<|Us 2 Z<|UC (kX _ m.m_ _ _ k f om_ e.1 (rF d)) U7 fl_<|UC (qj _ _ _ (by have:=cj (el d.1 (rF e)) om_;omega) (by have:=cj (el e.1 (rF d)) om_;omega)) U7 fl_<|C4 1 [4] c Z<|Ut U2<|⟨by rw [uX],Z⟩
theorem ji (C:Mem)(f:Tabs C)(a b:Rat)(k:Nat)(g:0<k)(w:k<=10000)(d:QB k a)(e:QB k b):Gives cx.P 91 [ai (qtx a),ai (qtx b)] C (ai (qtx (a+b))):=by
 have x:=bG d g;have y:=bG e g;have r:=ik a;have s:=ik b;have o:0<a.den*b.den:=Tj r s;refine Uv func91 67 U3 fun w0=>Ul 1 [0,1] Z<|Ul 2 [0,1,16] Z<|Uo (fun h=>?_) fun h=>?_
 ·have h0:a=0:=by rw [fH] at h;exact aW h
  refine Ul 2 [4] Z<|Ut U2<|⟨?_,Z⟩;rw [h0,Rat.zero_add]
 refine Ul 2 [0,1,19] Z<|Uo (fun i=>?_) fun i=>?_
 ·have h0:b=0:=by rw [fH] at i;exact aW i
  refine Ul 2 [4] Z<|Ut U2<|⟨?_,Z⟩;rw [h0,Rat.add_zero]
 refine Um 1 Z fun R c=>UC (jO _ a om_) U7 fl_<|C4 7 [0,1,5,6,7] c Z<|Ul 1 [0,1,5,6,27] Z<|G.cut (fun fr C' t u=>(True)/\fr=[(0,[],ai (qtx a)),(1,[],ai (qtx b))]/\t=[]) ?_ (fun fr _ z u _ v=>?_)
 ·refine Uo (fun p=>?_) fun p=>?_
  ·have j:DX a=true:=p;rw [aJ j,aJ j];have l:=na j;refine Um 1 Z fun R c=>UC (jO _ b om_) U7 fl_<|C4 7 [0,1,5,6,8,9,10] c Z<|Ul 1 [0,1,5,6,8,9,34] Z<|Uo (fun q=>?_) fun q=>?_
   ·have m:DX b=true:=q;rw [aJ m,aJ m];have n:=na m;have A:=oa l.1 n.2;have B:=oa n.1 l.2;have D:=wP l.2 n.2;exact Um 2 Z fun R c=>Uw _ U7<|Us 2 Z<|Uw _ U7<|Uw _ U7<|Us 2 Z<|UX (((a.den*b.den:Nat):Int)) U4 (RG _ _).symm om_ om_ U2<|UC (wh _ f.m_ _ _ o om_ om_) U7 fl_<|C4 1 [4] c Z<|Ut U2<|⟨by rw [gJ],Z⟩
   refine UB 0 (Mem.le.refl _) (hn_ [0,1] Z) ⟨trivial,Z,Z⟩
  refine UB 0 (Mem.le.refl _) (hn_ [0,1] Z) ⟨trivial,Z,Z⟩
 obtain ⟨_,rfl,rfl⟩:=v;exact Um 1 Z fun R c=>UC (kT _ a om_) U7 fl_<|C4 5 [1,11,12] c Z<|Um 1 Z fun R c=>UC (kT _ b om_) U7 fl_<|C4 5 [11,12,13,14] c Z<|Um 2 Z fun R c=>UC (kX _ f.m_ _ _ k g om_ d.1 (rF e)) U7 fl_<|Us 2 Z<|UC (kX _ f.m_ _ _ k g om_ e.1 (rF d)) U7 fl_<|UC (Nu _ f.m_ _ _ (k+k) om_ om_ (el d.1 (rF e)) (el e.1 (rF d))) U7 fl_<|Us 2 Z<|UC (kX _ f.m_ _ _ k g om_ (rF d) (rF e)) U7 fl_<|UC (pT _ f.m_ _ _ (k+k+1) om_ om_ (RC (Ti _ _) (yl (el d.1 (rF e)) (el e.1 (rF d)))) (dE (el (rF d) (rF e)) om_) (by rw [<- RG];omega)) U7 fl_<|C4 1 [4] c Z<|Ut U2<|⟨by rw [gJ,<- RG,B6 o],Z⟩
theorem PH (c:QB k a)(d:QB k b):QB (k+k+1) (a+b):=by
 rw [gJ];exact fY (Nat.ne_of_gt (Tj (ik a) (ik b))) (RC (Ti _ _) (yl (el c.1 (rF d)) (el d.1 (rF c)))) (dE (nY c.2 d.2) om_)
theorem qY (c:QB k a)(d:QB k b):QB (k+k) (a*b):=by
 rw [gH];exact fY (Nat.ne_of_gt (Tj (ik a) (ik b))) (el c.1 d.1) (nY c.2 d.2)
theorem gg (b:QB k a):QB k (-a):=⟨by rw [Ue,TP];exact b.1,by rw [Rat.neg_den];exact b.2⟩
theorem mB (c:QB k a)(d:QB k b):QB (k+k+1) (a-b):=by
 rw [Uf];exact PH c (gg d)
theorem CE (b:QB k a)(d:a≠0):QB k a⁻¹:=by
 have c:a.num≠0:=fun e=>d (TJ.1 e);refine ⟨?_, ?_⟩
 ·rw [Rat.num_inv,Se,Int.natAbs_sign_of_ne_zero c,TE,Rt];exact b.2
 rw [Rat.den_inv,aB c];exact b.1
theorem mC (c:QB k a)(d:QB k b)(e:b≠0):QB (k+k) (a / b):=by
 rw [Rat.div_def];exact qY c (CE d e)
theorem PG (h:z.natAbs<B9 ^ k)(a:0<k):QB k (z:Rat):=⟨h,by
 show 1<B9 ^ k;exact R4 (by decide:1<B9 ^ 1) (Q6 dc_ a)⟩
theorem dB (C:Mem)(g:Tabs C)(a b:Rat)(k:Nat)(i:0<k)(y:k<=10000)(d:QB k a)(e:QB k b):Gives cx.P 92 [ai (qtx a),ai (qtx b)] C (ai (qtx (a*b))):=by
 have z:=bG d i;have A:=bG e i;have w:=ik a;have x:=ik b;have q:0<a.den*b.den:=Tj w x;refine Uv func92 66 U3 fun w0=>Ul 1 [0,1] Z<|Ul 3 [0,1,15] Z<|G.cut (fun fr C' L' j=>(True)/\fr=[(0,[],ai (qtx a)),(1,[],ai (qtx b)),(15,[],.bool (decide (a=0∨b=0)))]/\L'=[]) ?_ (fun fr _ B j _ l=>?_)
 ·refine Uo (fun f=>?_) fun f=>?_
  ·have h0:a=0:=by rw [fH] at f;exact aW f
   rw [fH,show decide (a=0)=decide (a=0∨b=0) by simp [h0]];refine UB 0 (Mem.le.refl _) (hn_ [0,1,15] Z) ⟨trivial,Z,Z⟩
  have h0:¬ a=0:=by rw [fH] at f;exact QJ f
  refine Ul 3 [0,1,15] Z ?_;rw [fH,show decide (b=0)=decide (a=0∨b=0) by simp [h0]];refine UB 0 (Mem.le.refl _) (hn_ [0,1,15] Z) ⟨trivial,Z,Z⟩
 obtain ⟨_,rfl,rfl⟩:=l;refine Uo (fun r=>?_) fun r=>?_
 ·have h0:=aW r;refine Ul 1 [4] Z<|Ut U2<|⟨?_,Z⟩;rw [show a*b=0 by rcases h0 with h | h <;> simp [h],qtx_zero];rfl
 refine Ul 3 [0,1,20] Z<|Uo (fun m=>?_) fun m=>?_
 ·have h1:a=1:=by rw [Ls] at m;exact aW m
  refine Ul 2 [4] Z<|Ut U2<|⟨?_,Z⟩;rw [h1,Rat.one_mul]
 refine Ul 3 [0,1,24] Z<|Uo (fun n=>?_) fun n=>?_
 ·have h1:b=1:=by rw [Ls] at n;exact aW n
  refine Ul 2 [4] Z<|Ut U2<|⟨?_,Z⟩;rw [h1,Rat.mul_one]
 refine Um 1 Z fun R c=>UC (jO _ a om_) U7 fl_<|C4 7 [0,1,5,6,7] c Z<|Ul 1 [0,1,5,6,34] Z<|G.cut (fun fr C' L' j=>(True)/\fr=[(0,[],ai (qtx a)),(1,[],ai (qtx b))]/\L'=[]) ?_ (fun fr _ D j _ l=>?_)
 ·refine Uo (fun s=>?_) fun s=>?_
  ·have o:DX a=true:=s;rw [aJ o,aJ o];have t:=na o;refine Um 1 Z fun R c=>UC (jO _ b om_) U7 fl_<|C4 7 [0,1,5,6,8,9,10] c Z<|Ul 1 [0,1,5,6,8,9,41] Z<|Uo (fun u=>?_) fun u=>?_
   ·have p:DX b=true:=u;rw [aJ p,aJ p];have v:=na p;have E:=FW t.1 v.1;have F:=wP t.2 v.2;exact Um 2 Z fun R c=>Uw _ U7<|Us 2 Z<|UX (((a.den*b.den:Nat):Int)) U4 (RG _ _).symm om_ om_ U2<|UC (wh _ g.m_ _ _ q om_ om_) U7 fl_<|C4 1 [4] c Z<|Ut U2<|⟨by rw [gH],Z⟩
   refine UB 0 (Mem.le.refl _) (hn_ [0,1] Z) ⟨trivial,Z,Z⟩
  refine UB 0 (Mem.le.refl _) (hn_ [0,1] Z) ⟨trivial,Z,Z⟩
 obtain ⟨_,rfl,rfl⟩:=l;exact Um 1 Z fun R c=>UC (kT _ a om_) U7 fl_<|C4 5 [1,11,12] c Z<|Um 1 Z fun R c=>UC (kT _ b om_) U7 fl_<|C4 5 [11,12,13,14] c Z<|Um 2 Z fun R c=>UC (kX _ g.m_ _ _ k i om_ d.1 e.1) U7 fl_<|Us 2 Z<|UC (kX _ g.m_ _ _ k i om_ (rF d) (rF e)) U7 fl_<|UC (pT _ g.m_ _ _ (k+k) om_ om_ (el d.1 e.1) (el (rF d) (rF e)) (by rw [<- RG];omega)) U7 fl_<|C4 1 [4] c Z<|Ut U2<|⟨by rw [gH,<- RG,B6 q],Z⟩
theorem ep (C:Mem)(e:Tabs C)(a b:Rat)(k:Nat)(c:0<k)(f:k<=10000)(g:QB k a)(d:QB k b):Gives cx.P 226 [ai (qtx a),ai (qtx b)] C (ai (qtx (a-b))):=by
 have i:=bG d c;exact Uv func226 9 U3 fun w0=>Ul 1 [0,1] Z<|Um 2 Z fun R h=>UC (eY _ b om_) U7 fl_<|Uy (ji _ e.m_ a (-b) k c f g (gg d)) U7<|C4 1 [4] h Z<|Ut U2<|⟨by rw [Uf],Z⟩
theorem jh (C:Mem)(n:Tabs C)(a b:Rat)(k:Nat)(g:0<k)(o:k<=10000)(p:QB k a)(f:QB k b)(h:b≠0):Gives cx.P 199 [ai (qtx a),ai (qtx b)] C (.tuple #[ai (qtx (a / b)),.int .i64 0]):=by
 have v:=bG f g;have q:b.num≠0:=fun e=>h (TJ.1 e);obtain ⟨c,r,s,l⟩:=ud b;refine Uv func199 27 U3 fun w0=>Ul 2 [0,1] Z<|Ul 2 [0,1,9] Z<|Uo (fun j=>?_) fun j=>?_
 ·exfalso;rw [fH] at j;exact h (aW j)
 refine Um 1 Z fun R d=>UC (kT _ b om_) U7 fl_<|C4 5 [0,1,6,7] d Z<|Um 1 Z fun R d=>Vj U8 (fun _=>⟨by omega,by rw [s];rfl⟩) U2<|C4 1 [0,6,7,17] d Z<|G.cut (fun fr C' L' t=>(True)/\fr=[(0,[],ai (qtx a)),(6,[],ai (txt (b.num.natAbs:Nat))),(7,[],ai (txt (b⁻¹).num))]/\L'=[]) ?_ (fun fr _ w t _ u=>?_)
 ·refine Uo (fun i=>?_) fun i=>?_
  ·have m:b.num<0:=by rw [l] at i;exact aW i
   refine Um 1 Z fun R d=>UC (uA _ b.num (by have:=cj f.1 g;omega)) U7 fl_<|Up U6<|UC (uA _ ((b.den:Nat):Int) (by have:=cj (rF f) g;omega)) U7 fl_<|C4 2 [0,6,7] d Z ?_;rw [show -b.num=((b.num.natAbs:Nat):Int) by omega,show -((b.den:Nat):Int)=(b⁻¹).num by rw [Rat.num_inv,Int.sign_eq_neg_one_of_neg m,Int.neg_one_mul]];refine UB 0 (Mem.le.refl _) (hn_ [0,6,7] Z) ⟨trivial,Z,Z⟩
  have m:¬ b.num<0:=by rw [l] at i;exact QJ i
  rw [show b.num=((b.num.natAbs:Nat):Int) by omega,show ((b.den:Nat):Int)=(b⁻¹).num by rw [Rat.num_inv,Int.sign_eq_one_of_pos om_,Int.one_mul]];refine UB 0 (Mem.le.refl _) (hn_ [0,6,7] Z) ⟨trivial,Z,Z⟩
 obtain ⟨_,rfl,rfl⟩:=u;rw [df,show b.num.natAbs=(b⁻¹).den by rw [Rat.den_inv,aB q]];refine Um 3 Z fun R d=>UC (GQ _ _ _ k g om_ (CE f h).1 (CE f h).2) U7 fl_ ?_;rw [<- pr b⁻¹];refine Uy (dB _ n.m_ a b⁻¹ k g o p (CE f h)) U7<|C4 2 [4,5] d Z<|Uz (G.dropAll (UO U3 ?_));exact ⟨by rw [Rat.div_def],Z⟩
theorem MG (C:Mem)(c:Tabs C)(z w:Int)(k:Nat)(d:0<k)(e:k<=40000)(f:z.natAbs<B9 ^ k)(g:w.natAbs<B9 ^ k)(i:w≠0):Gives cx.P 150 [ai (txt z),ai (txt w)] C (.tuple #[ai (qtx (lf z w)),.int .i64 0]):=by
 refine Uv func150 12 U3 fun w0=>Ul 2 [0,1] Z<|Um 1 Z fun R a=>Uy (lV _ w) U7<|C4 1 [0,1,8] a Z<|Uo (fun b=>?_) fun b=>?_
 ·exfalso;have h:eX w=0:=by simpa using b
  rcases eB w with h2 | h2 | h2 <;> omega
 refine Um 2 Z fun R a=>Uy (pT _ c.m_ z w k d e f g i) U7<|C4 2 [4,5] a Z<|Uz (G.dropAll (UO U3 ?_));exact ⟨Z,Z⟩
theorem FC (C:Mem)(a:Tabs C)(z w:Int)(d:z.natAbs<9000000000000000000)(e:w.natAbs<9000000000000000000)(b:w≠0):Gives cx.P 98 [.int .i64 z,.int .i64 w] C (.tuple #[ai (qtx (lf z w)),.int .i64 0]):=by
 have f:9000000000000000000<B9 ^ 3:=by decide
 refine Uv func98 13 U3 fun w0=>Ul 2 [0,1] Z<|Um 1 Z fun R c=>UC (sD _ a.m_ z om_ om_) U7 fl_<|Up U6<|UC (sD _ a.m_ w om_ om_) U7 fl_<|UC (MG _ a.m_ z w 3 dc_ dc_ om_ om_ b) U7 fl_<|C4 4 [4,5] c Z<|Uz (G.dropAll (UO U3 ?_));exact ⟨Z,Z⟩
theorem lB (C:Mem)(a:Tabs C)(z:Int)(c:z.natAbs<9000000000000000000):Gives cx.P 45 [.int .i64 z] C (ai (qtx z)):=by
 exact Uv func45 5 U3 fun w0=>Ul 1 [0] Z<|Um 1 Z fun R b=>UC (sD _ a.m_ z om_ om_) U7 fl_<|C4 1 [2] b Z<|Ut U2<|⟨by rw [mR],Z⟩
theorem pow9 (k:Nat):B9 ^ k=10 ^ (9*k):=by rw [Nat.pow_mul]
theorem fw (h:cK s=true):s=txt (iQ s)/\(iQ s).natAbs<B9 ^ 23:=by
 have h1:=rZ.1 h;refine ⟨HR (by unfold cK at h;exact (SC.1 h).1), ?_⟩;rw [Kv];have h2:=yE.1 h1.1;have h3:=dW h2.1.1;exact R4 h3 (by rw [pow9];exact Q6 dc_ om_)
theorem FH (h:aX s=true):∃ q:Rat,s=qtx q/\QB 23 q:=by
 unfold aX at h;rw [QT,QT] at h;obtain ⟨⟨h1,h2⟩,h3⟩:=h;obtain ⟨a,b⟩:=fw h1;rcases gX 47 s with ⟨d,_,_⟩ | ⟨c,post,d,hs,_⟩
 ·rw [d] at a b;exact ⟨((iQ s:Int):Rat),by rw [mR];exact a,PG b dc_⟩
 rw [d] at h2 h3 a b;simp only [R0] at h2 a b;obtain ⟨e,f⟩:=fw h2;unfold pm at h3;simp only [QT,QQ,Sn] at h3;obtain ⟨⟨h4,_⟩,g⟩:=h3;have i:(iQ post).natAbs≠0:=by omega
 refine ⟨⟨iQ c,(iQ post).natAbs,i,g⟩, ?_,b,f⟩;rw [pr];show s=txt (iQ c)++eN (nQ (iQ post).natAbs);rw [fN om_,<- a,hs];show c++47::post=c++47::bq (iQ post).natAbs;rw [<- df,show (((iQ post).natAbs:Nat):Int)=iQ post by omega,<- e]
theorem rD (C:Mem)(b:Str)(a:cK b=true):Gives cx.P 161 [ai b,ai [49]] C (.int .i64 (vy (iQ b) 1)):=by
 obtain ⟨h1,h2⟩:=fw a;have h:=qj C (iQ b) 1 (by have:=cj h2 dc_;omega) (by rw [show bq (1:Int).natAbs=[49] from one_dec];decide)
 rwa [<- one_val,<- h1] at h
theorem DK (C:Mem)(c:Tabs C)(a b:Str)(d:cK a=true)(e:cK b=true):Gives cx.P 208 [ai a,ai b] C (ai (txt (Nat.gcd (iQ a).natAbs (iQ b).natAbs:Nat))):=by
 obtain ⟨h1,h2⟩:=fw d;obtain ⟨h3,h4⟩:=fw e;have h:=GV C c (iQ a) (iQ b) 23 dc_ dc_ h2 h4
 rwa [<- h1,<- h3] at h
theorem xB {b:Bool}(h:(qM b != 0)=false):b=true:=by cases b <;> first | rfl | (exact absurd h dc_)
theorem dY (C:Mem)(y:Tabs C)(s:Str)(A:s.length<=999998):Gives cx.P 140 [ai s] C (.int .i64 (qM (aX s))):=by
 have u:=FJ A;obtain ⟨c,f,l⟩:∃ a b,kg 47 s=(a,b):=⟨_,_,rfl⟩;have k:aX s=(cK c && cK (f.getD [49]) && pm (iQ c) f):=by
  unfold aX;rw [l]
 rw [l] at u;simp only at u;refine Uv func140 39 U3 fun w0=>Ul 1 [0] Z<|Um 1 Z fun R g=>UC (by have h:=LW C s 47 om_;rw [l] at h;exact h) U7 fl_<|C4 7 [3,4,5] g Z<|Um 1 Z fun R g=>Uy (xf _ c) U7<|C4 1 [3,4,5,16] g Z<|Uo (fun i=>?_) fun i=>?_
 ·have j:aX s=false:=by
   rw [k];cases h1:cK c with
   | false=>rfl
   | true=>rw [h1] at i;exact absurd i dc_
  exact Ul 1 [2] Z<|Ut U2<|⟨by rw [j];rfl,Z⟩
 have m:cK c=true:=by
  cases h1:cK c with
  | true=>rfl
  | false=>rw [h1] at i;exact absurd i dc_
 rw [m,TW] at k;obtain ⟨v,B⟩:=fw m;refine Ul 2 [3,4,18] Z<|Uo (fun n=>?_) fun n=>?_
 ·have o:f=none:=by
   cases f with
   | none=>rfl
   | some b=>simp at n
  refine Ul 1 [2] Z<|Ut U2<|⟨?_,Z⟩;rw [k,o];rfl
 obtain ⟨b,o⟩:∃ b,f=some b:=by
  cases f with
  | some b=>exact ⟨b,rfl⟩
  | none=>simp at n
 subst o;obtain ⟨d,w⟩:∃ z,iQ c=z:=⟨_,rfl⟩;obtain ⟨e,x⟩:∃ z,iQ b=z:=⟨_,rfl⟩;have p:aX s=(cK b && pm (iQ c) (some b)):=k;unfold pm at p;simp only [w,x] at p v B;have D:(c == [48])=(d == 0):=by
  rw [v];have h:=lD d;rw [show (d == 0)=decide (d=0) by by_cases h:d=0 <;> simp [h]];exact h
 have E:(qM (cK b) != 0)=!cK b:=by cases cK b <;> rfl
 have F:decide (vy e 1<=0)=!decide (1<e):=by
  unfold vy;by_cases h:1<e
  ·rw [aB om_,aJ h,QZ h];rfl
  rw [Q8 h];refine QZ ?_;split <;> first | omega | (split <;> omega)
 have q:(qM (cK b) != 0 || decide (vy (iQ b) 1<=0) || (c == [48]) || !(bq ((iQ c).natAbs.gcd (iQ b).natAbs) == [49]))=!aX s:=by
  have G:=sY (d.natAbs.gcd e.natAbs);have H:(bq (d.natAbs.gcd e.natAbs) == [49])=(d.natAbs.gcd e.natAbs == 1):=G;rw [w,x,D,E,F,H,p];cases cK b <;> cases decide (1<e) <;> cases (d == 0) <;> cases (d.natAbs.gcd e.natAbs == 1) <;> rfl
 rw [<- df] at q;refine Ul 4 [6,7] Z<|Um 1 Z fun R g=>Uy (xf _ b) U7<|Us 3 Z<|UK (fun r=>(rD _ b (by exact xB (show (qM (cK b) != 0)=false/\True from r).1))) U9<|Up U6<|US U8<|Us 3 Z<|US U8<|Us 3 Z<|UK (fun r=>(DK _ y.m_ c b m (by exact xB (Sq.1 (Sq.1 (show (((qM (cK b) != 0) || decide (vy (iQ b) 1<=0)) || (c == [48]))=false/\True from r).1).1).1))) U9<|Up U6<|US U8<|Ur [38] g Z<|Uo (fun t=>?_) fun t=>?_
 ·have j:aX s=false:=by
   have h:(!aX s)=true:=q.symm.trans t;simpa using h
  exact Ul 1 [2] Z<|Ut U2<|⟨by rw [j];rfl,Z⟩
 have j:aX s=true:=by
  have h:(!aX s)=false:=q.symm.trans t;simpa using h
 exact Ul 1 [2] Z<|Ut U2<|⟨by rw [j];rfl,Z⟩
theorem OM (z:Int)(b:g ∣ z.natAbs):sgZ (decide (z<0) != false) (z.natAbs / g)=z / (g:Int):=by
 obtain ⟨m,hm⟩:=b;rcases Sb g with h | c
 ·subst h;have a:z=0:=by omega
  subst a;rfl
 rw [hm,Nat.mul_div_cancel_left _ c,Bool.bne_false];unfold sgZ;by_cases a:z<0
 ·rw [QZ a,aJ rfl,show z=(g:Int)*(-(m:Int)) by rw [Int.mul_neg,<- RG];omega,Int.mul_ediv_cancel_left _ om_]
 rw [Q8 a,aB dc_,show z=(g:Int)*(m:Int) by rw [<- RG];omega,Int.mul_ediv_cancel_left _ om_]
theorem xp (C:Mem)(c:Tabs C)(z:Int)(b:Nat)(m:z.natAbs<BP ^ 200)(n:b<BP ^ 200)(F:0<b)(d:b ∣ z.natAbs):Gives cx.P 224 [ai (txt z),ai (bq b)] C (.tuple #[ai (txt (z / (b:Int))),ai (bq 0)]):=by
 have H:=PR;have o:z.natAbs % b=0:=Nat.mod_eq_zero_of_dvd d;have f:(b:Int) ∣ z:=Tk.1 (SJ.2 d);have I:(z / (b:Int)).natAbs<=z.natAbs:=by
  rw [SR f,Rt];exact RM _ _
 refine Uv func224 93 U3 fun w0=>Ul 2 [0,1] Z<|Um 1 Z fun R a=>Uy (CA C z) U7<|C4 5 [0,1,6,7] a Z<|Um 1 Z fun R a=>Uy (qO _ b) U7<|C4 5 [0,1,6,7,8,9] a Z<|Um 3 Z fun R a=>UM U8<|Ur [0,1,6,8,31] a Z<|Uo (fun g=>?_) fun g=>?_
 ·have hs:(bq z.natAbs).length<=17/\(bq b).length<=17:=by simpa using g
  have h1:=Cv hs.1;have h2:=qP hs.2;rw [aJ hs.1,aJ hs.2];refine UJ [0,1,2,3,4,5,6,7] [] Z kr_ fun R J a=>Us 2 Z<|VB (z / (b:Int)) U6 om_ (pq d) (wrap_i64 om_ om_) U2<|Us 2 Z<|Vt 0 U6 om_ ⟨(Int.tmod_eq_zero_of_dvd f),Z,Z⟩<|C4 2 [6,8,10,11] a Z<|Ul 2 [6,8,10,11,39] Z<|Uo (fun h=>?_) fun h=>?_
  ·exfalso;simp at h
  refine Um 1 Z fun R a=>UC (lM _ c (z / (b:Int)) om_ om_) U7 fl_<|Up U6<|UC (Ge _ c 0 om_) U7 fl_<|C4 2 [4,5] a Z<|Uz (G.dropAll (UO U3 ?_));exact ⟨Z,Z⟩
 refine Um 1 Z fun R a=>Uy (fC _ z) U7<|C4 5 [1,12,13] a Z<|Um 1 Z fun R a=>Uy (oV _ b) U7<|C4 5 [12,13,14,15] a Z<|Um 1 Z fun R a=>UV (nS _ z.natAbs m) U7 (fun K _ _ p=>?_);obtain ⟨lp,q,r,L,s⟩:=p;refine Up U6<|UV (nS _ b n) U7 (fun M _ _ t=>?_);obtain ⟨u,v,w,N,x⟩:=t;refine UT (Bx _ _ _ lp u s.m_ x.m_ q.1 v om_ om_ om_) U7 fl_ (fun O _ _ y=>?_);obtain ⟨u1,Q,rfl,i,e⟩:=y;rw [r,w] at i e;rw [o] at e;obtain ⟨l1,A,B,S,D⟩:=PieC.take i (by have:=RM z.natAbs b;omega);obtain ⟨l2,j,E,T,k⟩:=PieC.take e om_;obtain ⟨A2,c2,rfl,_⟩:=id k;obtain rfl:=(Cs j).1 E;refine C4 5 [12,14,15,16,17] a Z<|Um 5 Z fun R a=>UM U8<|Ur [12,14,15,16,17,78] a Z<|Uo (fun l=>?_) fun l=>?_
 ·exfalso;simp at l
 refine Um 4 Z fun R a=>UC (Gx _ c.m_ _ _ l1 D.m_ A.1 om_) U7 fl_<|Up U6<|UC (uv _ c.m_ _ [] k.m_ j.1 am) U7 fl_<|C4 2 [4,5] a Z<|Uz (G.dropAll (UO U3 ?_));refine ⟨?_,Z⟩;show Value.tuple #[ai (txt (sgZ (decide (z<0) != false) (bM l1))),_]=_;rw [B,OM z d];rfl
theorem BF (h:(txt z).length<=9):z.natAbs<1000000000:=by
 have h1:=zJ h
 rwa [e9] at h1
theorem Ff (C:Mem)(k:Tabs C)(z w:Int)(v:(txt z).length<=9)(A:(txt w).length<=9)(Q:w≠0):Gives cx.P 220 [ai (txt z),ai (txt w)] C (ai (qtx (lf z w))):=by
 have S:=BF v;have T:=BF A;obtain ⟨n,i⟩:∃ y,(if w<0 then -z else z)=y:=⟨_,rfl⟩;obtain ⟨d,B⟩:∃ d,w.natAbs=d:=⟨_,rfl⟩;have r:0<d:=by omega
 have D:n.natAbs<1000000000:=by rw [<- i];split <;> omega
 unfold lf;rw [i,B];obtain ⟨g,b⟩:∃ g,Nat.gcd n.natAbs d=g:=⟨_,rfl⟩;have E:0<g:=by rw [<- b];exact Tm _ r
 have s:g ∣ n.natAbs:=by rw [<- b];exact TB _ _
 have F:g ∣ d:=by rw [<- b];exact TR _ _
 have U:g<=d:=Ug r F;have H:(n / (g:Int)).natAbs<=n.natAbs:=by
  rw [SR (Tk.1 (SJ.2 s)),Rt];exact RM _ _
 have t:=RM d g;rw [Bl om_,b];refine Uv func220 55 U3 fun w0=>Ul 1 [0,1] Z<|Um 1 Z fun R a=>UC (zI Tryz.atoi z om_ _ kr_) U7 fl_<|C4 5 [1,5] a Z<|Um 1 Z fun R a=>UC (zI Tryz.atoi w om_ _ kr_) U7 fl_<|C4 5 [5,7] a Z<|Ul 2 [5,7,22] Z<|G.cut (fun fr C' c e=>(True)/\fr=[(5,[],.int .i64 n),(7,[],.int .i64 d)]/\c=[]) ?_ (fun fr _ V e _ f=>?_)
 ·refine Uo (fun l=>?_) fun l=>?_
  ·have h:w<0:=by simpa using l
   rw [aJ h] at i;refine Ul 6 [5,7] Z ?_;rw [show IntKind.i64.wrap (0-z)=n by rw [wrap_i64 om_ om_];omega,show IntKind.i64.wrap (0-w)=(d:Int) by rw [wrap_i64 om_ om_];omega];refine UB 0 (Mem.le.refl _) (hn_ [5,7] Z) ⟨trivial,Z,Z⟩
  have h:¬ w<0:=by simpa using l
  rw [aB h] at i;rw [show z=n by omega,show w=(d:Int) by omega];refine UB 0 (Mem.le.refl _) (hn_ [5,7] Z) ⟨trivial,Z,Z⟩
 obtain ⟨_,rfl,rfl⟩:=f;refine Ul 4 [5,7,9,10] Z<|Ul 2 [5,7,9,10,30] Z<|G.cut (fun fr C' c e=>(True)/\fr=[(5,[],.int .i64 n),(7,[],.int .i64 d),(9,[],.int .i64 (n.natAbs:Nat)),(10,[],.int .i64 d)]/\c=[]) ?_ (fun fr _ W e _ f=>?_)
 ·refine Uo (fun o=>?_) fun o=>?_
  ·have h:n<0:=by simpa using o
   refine Ul 3 [5,7,9,10] Z ?_;rw [show IntKind.i64.wrap (0-n)=((n.natAbs:Nat):Int) by rw [wrap_i64 om_ om_];omega];refine UB 0 (Mem.le.refl _) (hn_ [5,7,9,10] Z) ⟨trivial,Z,Z⟩
  have h:¬ n<0:=by simpa using o
  refine UB 0 (Mem.le.refl _) (hn_ [5,7,9,10] Z) ⟨trivial,by rw [show ((n.natAbs:Nat):Int)=n by omega],Z⟩
 obtain ⟨_,rfl,rfl⟩:=f;refine G.loop (fun fr C' c e=>∃ (x y:Int),(x.natAbs<9000000000000000000/\0<=x/\0<=y/\y.natAbs<9000000000000000000/\Nat.gcd x.natAbs y.natAbs=g)/\fr=[(5,[],.int .i64 n),(7,[],.int .i64 d),(9,[],.int .i64 x),(10,[],.int .i64 y)]/\c=[]/\e=y.natAbs+1) (hn_ [5,7,9,10] Z) ⟨(n.natAbs:Int),d,⟨by omega,by omega,by omega,by omega,by rw [Rt,Rt];exact b⟩,Z,Z,Z⟩ (fun fr X Y m I f=>?_);obtain ⟨x,y,⟨aa,J,K,L,u⟩,rfl,rfl,rfl⟩:=f;refine Ul 2 [5,7,9,10,34] Z<|Uo (fun p=>?_) fun p=>?_
 ·have q:y≠0:=by simpa using p
  have M:(x.tmod y).natAbs=x.natAbs % y.natAbs:=Tr x y;have ab:=Rs x.natAbs (show 0<y.natAbs by omega);have N:=Int.tmod_nonneg y J;refine UJ [0,1,2,3,4,5] [] Z kr_ fun R O a=>Us 3 Z<|Vt (x.tmod y) U6 q U3<|C4 2 [5,7,9,10] a Z<|UA (m':=(x.tmod y).natAbs+1) om_ I (hn_ [5,7,9,10] Z) ⟨y,x.tmod y,⟨L,K,N,by omega,by rw [M,<- u,SZ x.natAbs,Ud y.natAbs x.natAbs,SZ]⟩,Z,Z,Z⟩
 have q:y=0:=by simpa using p
 subst q;rw [show (0:Int).natAbs=0 from rfl,Tq] at u;obtain rfl:x=(g:Int):=by omega
 refine UJ [0,1,2,3,4,5,6,7] [] Z kr_ fun R O a=>Us 2 Z<|VB (n / (g:Int)) U6 om_ (pq s) (wrap_i64 om_ om_) U2<|Us 2 Z<|Vu (d) (g) U6 E (.inl ⟨Z,by omega⟩) U2<|C4 2 [5,7] a Z<|Ul 2 [5,7,46] Z<|Uo (fun j=>?_) fun j=>?_
 ·have h1:d / g=1:=by
   have h2:(((d / g:Nat):Int))=1:=by simpa using j
   omega
  refine Um 1 Z fun R a=>UC (jv _ k.m_ _ om_ om_) U7 fl_<|C4 1 [4] a Z<|Ut U2<|⟨?_,Z⟩;rw [h1,mj rfl];simp [eN]
 have h1:d / g≠1:=by
  intro h2;rw [h2] at j;exact absurd j dc_
 have ac:=mM (n / (g:Int));have ad:=mM ((d / g:Nat):Int);have ae:(bq (n / (g:Int)).natAbs).length<=20:=eI (RC H (S1 D dc_)) dc_;have af:(bq ((d / g:Nat):Int).natAbs).length<=20:=eI (by rw [Rt];exact RC t (S1 (show d<1000000000 by omega) dc_)) dc_;refine Um 1 Z fun R a=>UC (jv _ k.m_ _ om_ om_) U7 fl_<|Vm U6 (fun _=>(by simp only [QY,Rq];omega)) U2<|Up U6<|UC (jv _ k.m_ ((d / g:Nat):Int) (Uj dc_ (TL _)) (Uj (Int.ofNat_le.2 t) om_)) U7 fl_<|Vm U6 (fun _=>(by simp only [QM,QY,Rq];omega)) U2<|C4 1 [4] a Z<|Ut U2<|⟨?_,Z⟩;rw [fN h1,df,Rb];rfl
theorem H6 (h:z.natAbs<m)(g:Nat)(a:g ∣ z.natAbs):(z / (g:Int)).natAbs<m:=by
 rw [SR (Tk.1 (SJ.2 a)),Rt];exact RC (RM _ _) h
theorem Ka (C:Mem)(a:Tabs C)(y:Int)(d:Nat)(b:y.natAbs<BP ^ 200)(c:d<BP ^ 200):Gives cx.P 223 [ai (txt y),ai (bq d)] C (ai (bq (Nat.gcd y.natAbs d))):=by
 have h:=DR C a y (d:Nat) b om_
 rwa [df,Rt] at h
theorem yT (C:Mem)(e:Tabs C)(z w:Int)(j:z.natAbs<BP ^ 200)(n:w.natAbs<BP ^ 200)(o:w≠0):Gives cx.P 147 [ai (txt z),ai (txt w)] C (ai (qtx (lf z w))):=by
 have B:=gV j;have D:=gV n;obtain ⟨y,hy⟩:∃ y,(if w<0 then -z else z)=y:=⟨_,rfl⟩;obtain ⟨d,p⟩:∃ d,w.natAbs=d:=⟨_,rfl⟩;have q:d≠0:=by omega
 have r:y.natAbs=z.natAbs:=by rw [<- hy];split <;> omega
 obtain ⟨g,b⟩:∃ g,Nat.gcd y.natAbs d=g:=⟨_,rfl⟩;have k:0<g:=by rw [<- b];exact Tm _ om_
 have s:g ∣ d:=by rw [<- b];exact TR _ _
 have l:g ∣ y.natAbs:=by rw [<- b];exact TB _ _
 have E:g<=d:=Ug om_ s;refine Uv func147 46 U3 fun w0=>Ul 1 [0,1] Z<|Um 7 Z fun R a=>UM U8<|Ur [0,1,13] a Z<|Uo (fun m=>?_) fun m=>?_
 ·have h:(txt z).length<=9/\(txt w).length<=9:=by
   have h1:=(QT _ _ ▸ m:_/\_);have h2:((txt z).length:Int)<=9:=aW h1.1;have h3:((txt w).length:Int)<=9:=aW h1.2;omega
  exact Um 2 Z fun R a=>Uy (Ff _ e.m_ z w h.1 h.2 o) U7<|C4 1 [4] a Z<|Ut U2<|⟨Z,Z⟩
 refine Um 1 Z fun R a=>Uy (yr _ w) U7<|C4 1 [0,1,19] a Z<|G.cut (fun fr C' t u=>(True)/\fr=[(0,[],ai (txt y)),(1,[],ai (bq d))]/\t=[]) ?_ (fun fr _ F u _ v=>?_)
 ·refine Uo (fun f=>?_) fun f=>?_
  ·have i:w<0:=by
    have h:=aW f;refine Rp fun h2=>?_;rw [aB h2] at h;revert h;split <;> decide
   rw [aJ i] at hy;refine Um 1 Z fun R a=>UC (sq _ z om_) U7 fl_<|Up U6<|UC (sq _ w om_) U7 fl_<|C4 2 [0,1] a Z<|UB 0 (Mem.le.refl _) (hn_ [0,1] Z) ⟨trivial,by rw [hy,show -w=((d:Nat):Int) by omega,df],Z⟩
  have i:¬ w<0:=by
   intro h2;have h:=QJ f;rw [aJ h2] at h;exact h dc_
  rw [aB i] at hy;refine UB 0 (Mem.le.refl _) (hn_ [0,1] Z) ⟨trivial,by rw [hy,show w=((d:Nat):Int) by omega,df],Z⟩
 obtain ⟨_,rfl,rfl⟩:=v;unfold lf;rw [hy,p,Bl q,b];have x:=H6 (z:=y) (by rw [r];exact j) g l;have H:=gV x;have A:d / g<BP ^ 200:=RC (RM _ _) om_;have I:=gV A;have J:=mM (y / (g:Int));refine Um 2 Z fun R a=>UC (Ka _ e.m_ y d om_ om_) U7 fl_<|C4 1 [0,1,5] a Z ?_;rw [b];refine Um 2 Z fun R a=>UC (xp _ e.m_ y g om_ om_ k l) U7 fl_<|C4 4 [0,1,5] a Z<|Um 2 Z fun R a=>UC (mg _ e.m_ d g om_ om_ k) U7 fl_<|C4 4 [0,1] a Z<|Ul 2 [0,1,40] Z<|Uo (fun c=>?_) fun c=>?_
 ·have h1:d / g=1:=by rw [sY] at c;exact aW c
  refine Ul 2 [4] Z<|Ut U2<|⟨?_,Z⟩;rw [mj h1];simp [eN]
 have h1:d / g≠1:=by rw [sY] at c;exact QJ c
 refine Um 1 Z fun R a=>Vm U6 (fun _=>(by simp only [QY,Rq];omega)) U2<|Up U6<|Vm U6 (fun _=>(by simp only [QM,QY,Rq];omega)) U2<|C4 1 [4] a Z<|Ut U2<|⟨?_,Z⟩;rw [fN h1,Rb];rfl
theorem Pb (C:Mem)(a:Tabs C)(z w:Int)(d:z.natAbs<9000000000000000000)(e:w.natAbs<9000000000000000000)(b:w≠0):Gives cx.P 96 [.int .i64 z,.int .i64 w] C (ai (qtx (lf z w))):=by
 have f:9000000000000000000<BP ^ 200:=by decide +kernel
 exact Uv func96 10 U3 fun w0=>Ul 1 [0,1] Z<|Um 1 Z fun R c=>UC (lM _ a.m_ z om_ om_) U7 fl_<|Up U6<|UC (lM _ a.m_ w om_ om_) U7 fl_<|UC (yT _ a.m_ z w om_ om_ b) U7 fl_<|C4 1 [4] c Z<|Ut U2<|⟨Z,Z⟩
theorem Bm (q:Rat):q.num<0 ↔ q<0:=by
 rw [Rat.lt_iff];simp
theorem wn (h:(bq z.natAbs).length<=200):cK (txt z)=true:=by
 refine rZ.2 ?_;rw [dH];refine ⟨yE.2 ⟨(bH _).1,h⟩,fun a=>?_⟩;have h1:=aW a;show 0<bX (bq z.natAbs);rw [(bH _).2];omega
theorem Cc (z:Int):iQ (txt z)=z:=by
 unfold iQ;rw [dH];show sgZ (decide (z<0)) (bX (bq z.natAbs))=z;rw [(bH _).2];unfold sgZ;by_cases h:z<0
 ·rw [QZ h,aJ rfl];omega
 rw [Q8 h,aB dc_];omega
theorem bQ (h:QB 22 q):aX (qtx q)=true:=by
 have h1:(bq q.num.natAbs).length<=200:=by have:=cj h.1 dc_;omega
 have h2:(bq q.den).length<=200:=by have:=cj h.2 dc_;omega
 unfold aX;rw [ot];show (cK (txt q.num) && cK ((nQ q.den).getD [49]) && pm (iQ (txt q.num)) (nQ q.den))=true;rw [Ht,Cc,wn h1,<- df,wn (by rw [Rt];exact h2),TW,TW];by_cases a:q.den=1
 ·rw [mj a];rfl
 rw [fN a];unfold pm;show (decide (1<iQ (bq q.den)) && !(q.num == 0) && (Nat.gcd q.num.natAbs (iQ (bq q.den)).natAbs == 1))=true;have b:iQ (bq q.den)=((q.den:Nat):Int):=by rw [<- df,Cc]
 have d:=ik q;rw [b,QZ om_,Rt,show Nat.gcd q.num.natAbs q.den=1 from q.reduced];have c:q.num≠0:=by
  intro e;have h3:=q.reduced;rw [e] at h3;have h4:Nat.gcd 0 q.den=1:=h3;rw [Nat.gcd_zero_left] at h4;exact a h4
 simp [c]
theorem xC (h:QB 22 q):qM (aX (qtx q))=0:=by rw [bQ h];rfl
abbrev Pt:=Rat × Rat
def gw (p:Pt):List Value:=[ai (qtx p.1),ai (qtx p.2)]
def ptV (p:Pt):Value:=.agg ⟨gw p⟩
def QP (k:Nat)(p:Pt):Prop:=QB k p.1/\QB k p.2
def dJ (a b c:Pt):Rat:=(b.1-a.1)*(c.2-a.2)-(b.2-a.2)*(c.1-a.1)
theorem gZ (b:Bool):qM b=0/\b=true∨qM b=2/\b=false:=by cases b <;> simp [qM]
def nP (s:Str):List Value:=[ai s]
theorem sk (C:Mem)(h:Tabs C)(v:Value)(l:List Str)(c:Sl C 1 v (l.map nP))(j:∀ s∈l,s.length<=999998):Gives cx.P 151 [v] C (.int .i64 (qM (l.all aX))):=by
 obtain ⟨k,c0,rfl,n,w,_⟩:=id c;have x:maxLen<=9223372036854775807:=by simp [maxLen]
 simp only [aw] at c n ⊢;refine Uv func151 18 U3 fun w0=>Ul 1 [0] Z<|Ul 3 [6,7,8] Z<|G.loop (fun fr C' o p=>∃ (i:Nat),(i<=l.length/\(l.take i).all aX=true)/\fr=[(6,[],.slice k l.length c0),(7,[],.int .i64 l.length),(8,[],.int .i64 i)]/\o=[]/\p=l.length-i) (hn_ [6,7,8] Z) ⟨0,⟨QK _,by simp⟩,Z,Z,Z⟩ (fun fr y z m q r=>?_);obtain ⟨i,⟨A,d⟩,rfl,rfl,rfl⟩:=r;refine Ul 1 [6,7,8,9] Z<|Uo (fun e=>?_) fun e=>?_
 ·have f:i<l.length:=by simpa using e
  obtain ⟨s,hs⟩:∃ s,l[i]?=some s:=⟨l[i],aj f⟩;refine Uq fun R a=>UD c.m_ U10 om_ (by rw [QI,hs];rfl:(l.map nP)[i]?=some (nP s)) fl_ fun B t=>Un t U8<|C4 1 [4,6,7,8] a Z<|Um 1 Z fun R a=>Uy (dY _ h.m_ s (j s (QF hs))) U7<|C4 1 [5,6,7,8] a Z<|Ul 2 [5,6,7,8,15] Z<|Uo (fun b=>?_) fun b=>?_
  ·have g:aX s=false:=by
    rcases gZ (aX s) with ⟨h1,h2⟩ | ⟨h1,h2⟩
    ·rw [h1] at b;exact absurd b dc_
    exact h2
   refine Ul 2 [2] Z<|Ut U2<|⟨?_,Z⟩;rw [g,show l.all aX=false from Tv.2 ⟨s,QF hs,by rw [g];decide⟩]
  have u:aX s=true:=by
   rcases gZ (aX s) with ⟨h1,h2⟩ | ⟨h1,h2⟩
   ·exact h2
   rw [h1] at b;exact absurd b dc_
  refine Uq fun R a=>Uw _ U7<|C4 1 [6,7,8] a Z<|UA (m':=l.length-(i+1)) om_ q (hn_ [6,7,8] Z) ⟨i+1,⟨by omega,by rw [Q5,hs,T9,d];simp [u]⟩,Z,Z,Z⟩
 have f:i=l.length:=by
  have:¬ i<l.length:=by simpa using e
  omega
 refine Ul 1 [2] Z<|Ut U2<|⟨?_,Z⟩;rw [f,QV] at d;rw [d];rfl
theorem Oy (a:s.length<=n)(b:t.length<=n):∀ x∈[s,t],x.length<=n:=by simp [a,b]
theorem IH {u:Str}(a:s.length<=n)(b:t.length<=n)(c:u.length<=n):∀ x∈[s,t,u],x.length<=n:=by simp [a,b,c]
theorem iG (C:Mem)(b:Tabs C)(s t:Str)(c:s.length<=999998)(d:t.length<=999998):Gives cx.P 99 [.agg ⟨[ai s,ai t]⟩] C (.int .i64 (qM (aX s && aX t))):=by
 refine Uv func99 9 U3 fun w0=>Uq fun R a=>UF U6 fun f=>C4 1 [1] a Z<|Um 1 Z fun R a=>Uu af U9<|Up U6<|Uu af U9<|UI [nP s,nP t] U12 fun g _ _ e=>Uy (sk _ b.m_ _ [s,t] e.m_ (Oy c d)) U7<|C4 1 [2] a Z<|Ut U2<|⟨?_,Z⟩;simp
theorem rI (C:Mem)(b:Tabs C)(s t u:Str)(c:s.length<=999998)(d:t.length<=999998)(e:u.length<=999998):Gives cx.P 162 [.agg ⟨[ai s,ai t,ai u]⟩] C (.int .i64 (qM (aX s && aX t && aX u))):=by
 refine Uv func162 11 U3 fun w0=>Uq fun R a=>UF U6 fun g=>C4 1 [1] a Z<|Um 1 Z fun R a=>Uu af U9<|Up U6<|Uu af U9<|Up U6<|Uu af U9<|UI [nP s,nP t,nP u] U12 fun h _ _ f=>Uy (sk _ b.m_ _ [s,t,u] f.m_ (IH c d e)) U7<|C4 1 [2] a Z<|Ut U2<|⟨?_,Z⟩;simp [Bool.and_assoc]
theorem lj (C:Mem)(e:Tabs C)(a b c:Pt)(k:Nat)(g:0<k)(l:k<=1000)(d:QP k a)(h:QP k b)(i:QP k c):Gives cx.P 152 [ptV a,ptV b,ptV c] C (ai (qtx (dJ a b c))):=by
 have h1:=mB h.1 d.1;have h2:=mB i.2 d.2;have h3:=mB h.2 d.2;have h4:=mB i.1 d.1;exact Uv func152 32 U3 fun w0=>Uq fun R f=>UF U6 fun m=>UF U6 fun n=>UF U6 fun o=>C4 1 [3,4,5] f Z<|UJ [0,1,2,3,4,5,6,7,8,9,10,11] [(4,1),(9,1),(10,1)] Z kr_ fun R j f=>Up U6<|Uu ae U9<|Up U6<|Uu ac U9<|UK (fun _=>(ep _ e.m_ b.1 a.1 k g om_ h.1 d.1)) U9<|Up U6<|Uu af U9<|Up U6<|Uu ac U9<|UK (fun _=>(ep _ e.m_ c.2 a.2 k g om_ i.2 d.2)) U9<|UK (fun _=>(dB _ e.m_ (b.1-a.1) (c.2-a.2) (k+k+1) om_ om_ h1 h2)) U9<|C4 1 [3,4,5,7] f Z<|UJ [0,1,2,3,4,5,6,7,8,9,10,11,12,13] [(5,1),(10,1),(11,1),(12,1)] Z kr_ fun R j f=>Us 2 Z<|Uu ae U9<|Up U6<|Uu ac U9<|UK (fun _=>(ep _ e.m_ b.2 a.2 k g om_ h.2 d.2)) U9<|Up U6<|Uu af U9<|Up U6<|Uu ac U9<|UK (fun _=>(ep _ e.m_ c.1 a.1 k g om_ i.1 d.1)) U9<|UK (fun _=>(dB _ e.m_ (b.2-a.2) (c.1-a.1) (k+k+1) om_ om_ h3 h4)) U9<|UK (fun _=>(ep _ e.m_ ((b.1-a.1)*(c.2-a.2)) ((b.2-a.2)*(c.1-a.1)) (k+k+1+(k+k+1)) om_ om_ (qY h1 h2) (qY h3 h4))) U9<|C4 1 [6] f Z<|Ut U2<|⟨Z,Z⟩
theorem zM {a b c:Pt}(d:QP k a)(e:QP k b)(f:QP k c):QB (8*k+5) (dJ a b c):=by
 have h:=mB (qY (mB e.1 d.1) (mB f.2 d.2)) (qY (mB e.2 d.2) (mB f.1 d.1));exact h.le om_
theorem oO (C:Mem)(h:Tabs C)(a b c:Pt)(k:Nat)(i:0<k)(j:k<=1000)(e:QP k a)(f:QP k b)(g:QP k c):Gives cx.P 100 [ptV a,ptV b,ptV c] C (.int .i64 (eX (dJ a b c).num)):=by
 exact Uv func100 12 U3 fun w0=>Uq fun R d=>UF U6 fun l=>UF U6 fun m=>UF U6 fun n=>C4 1 [3,4,5] d Z<|Uq fun R d=>Uu ac U9<|Uu ae U9<|Uu af U9<|Uy (lj _ h.m_ a b c k i j e f g) U7<|UC (fW _ (dJ a b c) (by have:=bG (zM e f g) om_;omega)) U7 fl_<|C4 1 [6] d Z<|Ut U2<|⟨Z,Z⟩
theorem tY (C:Mem)(c:Tabs C)(q:Rat)(b:QB 22 q):Gives cx.P 274 [ai (qtx q)] C (.tuple #[ai (qtx q),.int .i64 0]):=by
 refine Uv func274 8 U3 fun w0=>Ul 2 [0] Z<|Um 1 Z fun R d=>UC (dY _ c.m_ _ (by have:=bG b dc_;omega)) U7 fl_<|C4 1 [0,6] d Z<|Uo (fun a=>?_) fun a=>?_
 ·exfalso;rw [xC b] at a;exact absurd a dc_
 refine Ul 3 [2,3] Z<|Uz (G.dropAll (UO U3 ?_));exact ⟨Z,Z⟩
abbrev Tri:=Nat × Nat × Nat
def kM (t:Tri):List Value:=[.int .i64 (t.1:Nat),.int .i64 (t.2.1:Nat),.int .i64 (t.2.2:Nat)]
def NS (a b c:Pt):Value:=.agg ⟨gw a++gw b++gw c⟩
theorem D9 (C:Mem)(k l:Value)(d:List Pt)(g:List Tri)(i:Nat)(t:Tri)(a b c:Pt)(e:Sl C 2 k (d.map gw))(h:Sl C 3 l (g.map kM))(m:g[i]?=some t)(n:d[t.1]?=some a)(o:d[t.2.1]?=some b)(p:d[t.2.2]?=some c) :
  Gives cx.P 156 [.agg ⟨[k,l]⟩,.int .i64 i] C (NS a b c):=by
 obtain ⟨x,y,rfl,q,z,_⟩:=id e;obtain ⟨A2,c2,rfl,r,A,_⟩:=id h;have B:maxLen<=9223372036854775807:=by simp [maxLen]
 simp only [aw] at e h q r ⊢;have D:=(aE.1 m).1;have E:=(aE.1 n).1;have F:=(aE.1 o).1;have G:=(aE.1 p).1;refine Uv func156 30 U3 fun w0=>Uq fun R f=>UF U6 fun H=>UH U5 fun I=>Ur [1,2,4] f Z<|Um 1 Z fun R f=>Uu ae U9<|Up U6<|UD h.m_ U10 om_ (by rw [QI,m];rfl:(g.map kM)[i]?=some (kM t)) fl_ fun J s=>Un s U8<|UH U5 fun K=>Ux (j:=0) U12<|Ur [2,4,5] f Z<|UJ [0,1,2,3,4,5,6,7,8,9,10,11,12,13,14,15,16,17,18,19] [] Z kr_ fun R L f=>Up U6<|Uu ac U9<|UL (0) U9 ag U2<|Uu af U9<|UD e.m_ U10 om_ (by rw [QI,n];rfl:(d.map gw)[t.1]?=some (gw a)) fl_ fun M u=>Un u U8<|Up U6<|Uu ac U9<|UL (1) U9 ag U2<|Uu af U9<|UD e.m_ U10 om_ (by rw [QI,o];rfl:(d.map gw)[t.2.1]?=some (gw b)) fl_ fun N v=>Un v U8<|Up U6<|Uu ac U9<|UL (2) U9 ag U2<|Uu af U9<|UD e.m_ U10 om_ (by rw [QI,p];rfl:(d.map gw)[t.2.2]?=some (gw c)) fl_ fun O w=>Un w U8<|UG (gw a++gw b++gw c) U8<|Ux (j:=1) U12<|Ur [4] f Z<|Uz (Vi af U4 ?_);exact ⟨Z,Z⟩
theorem GS (C:Mem)(d:Tabs C)(a b c p:Pt)(k:Nat)(e:0<k)(f:k<=1000)(j:QP k a)(l:QP k b)(m:QP k c)(g:QP k p) :
  Gives cx.P 225 [NS a b c,ptV p] C (.bool (decide (0<=dJ a b p) && decide (0<=dJ b c p) && decide (0<=dJ c a p))):=by
 refine Uv func225 30 U3 fun w0=>Uq fun R i=>UF U6 fun n=>UF U6 fun o=>C4 1 [2,3] i Z<|Uq fun R i=>UL (0) U9 ag U2<|Uu ae U9<|UL (2) U9 ag U2<|Uu ae U9<|Uu af U9<|Uy (oO _ d.m_ a b p k e f j l g) U7<|Us 2 Z<|UL (2) U9 ag U2<|Uu ae U9<|UL (4) U9 ag U2<|Uu ae U9<|Uu af U9<|UU (fun _=>(oO _ d.m_ b c p k e f l m g)) U9<|Up U6<|UM U8<|Up U6<|UL (4) U9 ag U2<|Uu ae U9<|UL (0) U9 ag U2<|Uu ae U9<|Uu af U9<|UU (fun _=>(oO _ d.m_ c a p k e f m j g)) U9<|Up U6<|UM U8<|C4 1 [4] i Z<|Ut U2<|⟨?_,Z⟩;have hs:∀ q:Rat,decide (eX q.num ≥ 0)=decide (0<=q):=fun q=>by
  rw [Rv,<- Rat.num_nonneg];rcases eB q.num with h | h | h <;> omega
 rw [<- hs,<- hs,<- hs]
open Go Go.Jog Go.RowKit Go.Shelf
attribute [local go_sem] Oper.semAt_some
def Mx (zs:Nat->Int)(k:Nat):Value:=.agg #[.int .i64 (zs k),.int .i64 (zs ((k+1) % 3))]
set_option maxRecDepth 100000 in
theorem I0 (l Bs:Nat)(zs:Nat->Int)(J:Nat->World->Prop)
  (hD:∀ k W,J k W->J k W.drew)
  (hJ:∀ k W,J k W->∀ j,j<3->W.cell? ⟨Bs,j,none⟩=some (.int .i64 (zs j)))
  (hY:∀ k W,J k W->k<3->YieldAt Fence.wide 1 Tryz.prog l #[.int .i64 (k:Nat),Mx zs k] W fun e W'=>e=.returned (.bool true)/\J (k+1) W')
  (W:World) (h0:J 0 W) :
  CallsIn Fence.wide 2 Tryz.prog 265 #[.func (.yield l) #[] #[],.pointer (some ⟨Bs,0,none⟩)] W fun e W'=>(∃ v,e=.returned v)/\J 3 W':=by
 refine callsIn_of_wp func265 Z trivial ?_ Z;simp only [Tryz.ntmps265,Sm,QY,Rq,Nat.reduceAdd,Nat.reduceSub,Ua,Ub,List.push_toArray,List.append_toArray,SB,Sd]
 gi_wp2
 gi_loopw [4] (fun i wr=>∃ k:Nat,k<=3/\i=.int .i64 k/\J k wr) (fun i _=>(3-intOf i).toNat)
 case atStart=>exact ⟨0,by omega,rfl,h0⟩
 case round =>
  obtain ⟨k,hk,rfl,hJs⟩:=hrel;by_cases hlt:k<3
  ·have hJd:=hD k wr hJs;have hcd:=hJ k _ hJd;obtain ⟨fn,tmps,assign,body,hy,hR⟩:=hY k _ hJd hlt;rcases (by omega:k=0∨k=1∨k=2) with rfl | rfl | rfl
   ·have hc0:=hcd 0 om_;have hc1:=hcd 1 om_;have hy2:Sem.run Tryz.prog (Instr.yield l #[Value.int .i64 0,Value.agg #[.int .i64 (zs 0),.int .i64 (zs 1)]]) wr.drew=.ok (.round l fn tmps assign body) wr.drew:=hy;clear hy
    gi_wp2
    gi_region_with (refine hR.mono ?_;rintro e W3 ⟨rfl,hJ3⟩)
    all_goals
     gi_wp2
     go_roundw
     case rel=>exact ⟨1,by omega,rfl,hJ3⟩
     case measure=>simp [intOf]
   ·have hc0:=hcd 1 om_;have hc1:=hcd 2 om_;have hy2:Sem.run Tryz.prog (Instr.yield l #[Value.int .i64 1,Value.agg #[.int .i64 (zs 1),.int .i64 (zs 2)]]) wr.drew=.ok (.round l fn tmps assign body) wr.drew:=hy;clear hy
    gi_wp2
    gi_region_with (refine hR.mono ?_;rintro e W3 ⟨rfl,hJ3⟩)
    all_goals
     gi_wp2
     go_roundw
     case rel=>exact ⟨2,by omega,rfl,hJ3⟩
     case measure=>simp [intOf]
   have hc0:=hcd 2 om_;have hc1:=hcd 0 om_;have hy2:Sem.run Tryz.prog (Instr.yield l #[Value.int .i64 2,Value.agg #[.int .i64 (zs 2),.int .i64 (zs 0)]]) wr.drew=.ok (.round l fn tmps assign body) wr.drew:=hy;clear hy
   gi_wp2
   gi_region_with (refine hR.mono ?_;rintro e W3 ⟨rfl,hJ3⟩)
   all_goals
    gi_wp2
    go_roundw
    case rel=>exact ⟨3,by omega,rfl,hJ3⟩
    case measure=>simp [intOf]
  obtain rfl:k=3:=by omega
  gi_wp2
  go_end0
  exact ⟨⟨_,Z⟩,hJs⟩
def EY (t:Tri)(j:Nat):Int:=if j=0 then (t.1:Nat) else if j=1 then (t.2.1:Nat) else (t.2.2:Nat)
def vY (t:Tri):List (Value × Value):=(List.range 3).map fun k=>(.int .i64 (k:Nat),Mx (EY t) k)
theorem mO (t:Tri):(vY t).length=3:=rfl
theorem vX {t:Tri}(h:k<3):(vY t)[k]?=some (.int .i64 (k:Nat),Mx (EY t) k):=by
 simp [vY,h]
theorem Dd (C:Mem)(b c:Nat)(t:Tri)(d:C b=some (.cells ⟨kM t⟩ c (0,0))) :
  PY Tryz.prog 265 #[.pointer (some ⟨b,0,none⟩)] C (vY t):=by
 intro l J W hC e f h0;refine I0 l b (EY t) J e (fun k W a j h=>?_) (fun k W a g=>f k _ W a (vX g)) W h0;have h1:=hC k W a b _ d;rcases (by omega:j=0∨j=1∨j=2) with rfl | rfl | rfl <;> simp [World.cell?,h1,kM,EY]
theorem I1 (C:Mem)(t:Tri):Pur cx.P 227 [.agg ⟨kM t⟩] C fun r C'=>∃ b,r=.func (.func 265) #[] #[.pointer (some ⟨b,0,none⟩)]/\C' b=some (.cells ⟨kM t⟩ 108 (0,0)):=by
 exact Uv func227 4 U3 fun w0=>Uq fun R a=>UF U6 fun d=>C4 1 [1] a Z<|Ul 2 [2] Z<|G.freeze 0 Z fun e f c=>Ut U2<|⟨Z,_,Z,c⟩
def pf (t:Tri)(k:Nat):Int × Int:=(EY t k,EY t ((k+1) % 3))
abbrev Oi:=List ((Int × Int) × Value)
def EC (m:Oi)(i:Nat)(t:Tri):Nat->Oi
 | 0=>m
 | k+1=>fT (EC m i t k) (pf t k) (.int .i64 (i:Nat))
def yi (tris:List Tri):Nat->Oi
 | 0=>[]
 | n+1=>EC (yi tris n) n (tris.getD n (0,0,0)) 3
noncomputable def kI2:KeyP cx.P 183 (Int × Int):=Qp rfl rfl rfl kr_
theorem F7 (C:Mem)(q I:Value)(a:List Tri)(N:a≠[])(x:Sl C 3 I (a.map kM))(O:∀ i t k,a[i]?=some t->k<3->dq (EC (yi a i) i t k) (pf t k)=none) :
  Pur cx.P 153 [.agg ⟨[q,I]⟩] C fun u D=>∃ b,u=.tuple #[.map (some b),.bool true]/\D b=some (aR qB (yi a a.length)):=by
 obtain ⟨A2,c2,rfl,Q,ab,_⟩:=id x;have ad:maxLen<=9223372036854775807:=by simp [maxLen]
 simp only [aw] at x Q ⊢;refine VL kr_ func153 Z 36 Z Z fun w0=>Uq fun R c=>UF U6 fun r=>UH U5 fun h=>UH U5 fun n=>Ur [1,2,3] c Z<|Uq fun R c=>Wg kI2 Z Z Z Z fl_ fun f=>UH U5 fun o=>Ux (j:=0) U12<|Ur [1,2,3,4] c Z<|Um 1 Z fun R c=>Uu (.tail _ aa) U9<|C4 2 [2,3,4,13,14,15] c Z<|G.perm (L':=[.obj o (.cells ⟨[.map (some f)]⟩ 242 (0,0)),.obj f (aR qB []),.obj n (.cells ⟨[.bool false]⟩ 4 (0,0)),.obj h (.cells ⟨[.map none]⟩ 242 (0,0)),.obj r (.cells ⟨[q,.slice A2 a.length c2]⟩ 36 (0,0))]) (QL _)<|Xj (fun dd fr C' d S=>∃ (i:Nat)(g:List Nat),(i<=a.length/\g.length=i)/\dd=g.map zx/\fr=[(2,[],.pointer (some ⟨h,0,none⟩)),(3,[],.pointer (some ⟨n,0,none⟩)),(4,[],.pointer (some ⟨o,0,none⟩)),(13,[],.slice A2 a.length c2),(14,[],.int .i64 a.length),(15,[],.int .i64 i)]/\d=[.obj o (.cells ⟨[.map (some f)]⟩ 242 (0,0)),.obj f (aR qB (yi a i)),.obj n (.cells ⟨[.bool false]⟩ 4 (0,0)),.obj h (.cells ⟨[.map none]⟩ 242 (0,0)),.obj r (.cells ⟨[q,.slice A2 a.length c2]⟩ 36 (0,0))]++g.map rH/\S=a.length-i) (hn_ [2,3,4,13,14,15] Z) ⟨0,[],⟨QK _,Z⟩,Z,Z,Z,Z⟩ (fun dd fr ag ah m _ p=>?_);obtain ⟨i,g,⟨hi,y⟩,rfl,rfl,rfl,rfl⟩:=p;refine Ul 1 [2,3,4,13,14,15,16] Z<|Uo (fun A=>?_) fun A=>?_
 ·have B:i<a.length:=by simpa using A
  obtain ⟨t,E⟩:∃ t,a[i]?=some t:=⟨a[i],aj B⟩;refine Um 1 Z fun R c=>UD x.m_ U10 om_ (by rw [QI,E];rfl:(a.map kM)[i]?=some (kM t)) fl_ fun ai T=>Un T U8<|UH U5 fun F=>UH U5 fun J=>Ux (j:=1) U12<|Ux (j:=1) U12<|Ur [2,3,4,5,6,13,14,15] c Z<|Uq fun R c=>Uu af U9<|UV (I1 _ t) U7 fun ak _ _ U=>Ur [2,3,4,5,13,14,15,21] c Z ?_;obtain ⟨V,rfl,W⟩:=U;refine Xq Z Z kr_ (Dd _ V _ t W) (fun j d=>∃ (z:Unit),(j<=3)/\d=[.obj J (.cells ⟨kM t⟩ 108 (0,0)),.obj F (.cells ⟨[.int .i64 i]⟩ 3 (0,0)),.obj o (.cells ⟨[.map (some f)]⟩ 242 (0,0)),.obj f (aR qB (EC (yi a i) i t j)),.obj n (.cells ⟨[.bool false]⟩ 4 (0,0)),.obj h (.cells ⟨[.map none]⟩ 242 (0,0)),.obj r (.cells ⟨[q,.slice A2 a.length c2]⟩ 36 (0,0))]++g.map rH) ⟨(),QK _,Z⟩ Z (fun _ _=>rfl) (fun j d fr LA=>∃ (s:Nat),fr=[(2,[],.pointer (some ⟨h,0,none⟩)),(3,[],.pointer (some ⟨n,0,none⟩)),(4,[],.pointer (some ⟨o,0,none⟩)),(5,[],.pointer (some ⟨F,0,none⟩)),(8,[],.pointer (some ⟨s,0,none⟩))]/\LA=.obj s (.cells ⟨[.int .i64 (pf t j).1,.int .i64 (pf t j).2]⟩ 183 (0,0))::d) (fun l j u v d W1 p w=>?_) (fun l j u v d am LA W1 p w X=>?_) (fun K d p=>?_)
  ·obtain ⟨z,L,rfl⟩:=p;have H:j<3:=by have:=(aE.1 w).1;rwa [mO] at this
   rw [vX H] at w;cases w
   exact Uq fun R c=>UH U5 fun s=>Ux (j:=0) U12<|Ur [2,3,4,5,8] c Z<|Xr (hn_ [2,3,4,5,8] Z) ⟨s,Z,Z⟩
  ·obtain ⟨z,L,rfl⟩:=p;obtain ⟨s,rfl,rfl⟩:=X;have H:j<3:=by have:=(aE.1 w).1;rwa [mO] at this
   refine Uq fun R c=>Uu aa U9<|Uu af U9<|Wi kI2 (.tail _ aa) Z Z Z Z Z Z Z Z Z (congrArg (kW _ true) (O i t j E H)) Z Z<|C4 5 [2,3,4,5,8,10] c Z<|Ul 1 [2,3,4,5,8,30] Z<|Uo (fun M=>?_) fun M=>?_
   ·exact absurd M dc_
   refine Uq fun R c=>Uu aa U9<|Uu af U9<|Uu ac U9<|Wd kI2 (j:=4) Z Z Z Z Z Z Z Z Z Z<|Vv [] trivial (c _ _ _ Z ?_);exact Ve 1 Z<|V4 (R:=fun d=>∃ (z:Unit),((j+1)<=3)/\d=[.obj J (.cells ⟨kM t⟩ 108 (0,0)),.obj F (.cells ⟨[.int .i64 i]⟩ 3 (0,0)),.obj o (.cells ⟨[.map (some f)]⟩ 242 (0,0)),.obj f (aR qB (EC (yi a i) i t (j+1))),.obj n (.cells ⟨[.bool false]⟩ 4 (0,0)),.obj h (.cells ⟨[.map none]⟩ 242 (0,0)),.obj r (.cells ⟨[q,.slice A2 a.length c2]⟩ 36 (0,0))]++g.map rH) (List.perm_middle (l₁:=[_,_,_])).symm ⟨(),om_,Z⟩
  obtain ⟨z,L,rfl⟩:=p;refine Uq fun R c=>Uw _ U7<|C4 1 [2,3,4,13,14,15] c Z<|Ve 1 Z<|Ve 1 Z<|G.perm (L':=[.obj o (.cells ⟨[.map (some f)]⟩ 242 (0,0)),.obj f (aR qB (yi a (i+1))),.obj n (.cells ⟨[.bool false]⟩ 4 (0,0)),.obj h (.cells ⟨[.map none]⟩ 242 (0,0)),.obj r (.cells ⟨[q,.slice A2 a.length c2]⟩ 36 (0,0))]++(K::g).map rH) (by
   rw [show yi a (i+1)=EC (yi a i) i t (vY t).length by rw [mO,yi,al,E];rfl];exact (List.perm_middle (l₁:=[_,_,_,_,_])).symm) ?_
  refine Xi (m':=a.length-(i+1)) om_ mup (hn_ [2,3,4,13,14,15] Z) ⟨i+1,K::g,⟨by omega,by simp [y]⟩,Z,Z,Z,Z⟩
 have B:i=a.length:=by
  have:¬ i<a.length:=by simpa using A
  omega
 refine Uq fun R c=>Uu af U9<|Ux (j:=3) U12<|Ux (j:=3) U12<|Ur [2,3] c Z<|G.freeze 3 Z fun Cf an Y=>G.perm (L':=g.map rH++[_,_,_,_]) (Rm (l₁:=[_,_,_,_]))<|Uz (Xm (OS ae af Z Z Z Z Z Z Z) ?_ ?_)
 ·exact ⟨Z,f,Z,by rw [<- B];exact Y⟩
 intro e;rw [e] at y;have:=Ru.2 N;simp at y;omega
def Li (kd a b:Int)(h:Bool):Value:=.agg ⟨[.int .u8 kd,.int .i8 a,.int .i8 b,.bool h]⟩
def dV (h:Bool):Int:=if h then 2 else 1
def dF (a b:Int)(h:Bool)(x y by':Int):Pt:=(lf (x+a.tmod 8*by') (dV h*by'),lf (y+b.tmod 8*by') (dV h*by'))
theorem yj (a:Int):-8<a.tmod 8/\a.tmod 8<8:=by
 have h:(a.tmod 8).natAbs=a.natAbs % 8:=Tr a 8;omega
theorem Bu (C:Mem)(g:Tabs C)(i a b:Int)(h:Bool)(x y n:Int)(v:0<n)(w:n<=4)(A:-128<=x/\x<=127)(B:-128<=y/\y<=127) :
  Gives cx.P 95 [Li i a b h,.agg ⟨[.int .i8 x,.int .i8 y]⟩,.int .i64 n] C (ptV (dF a b h x y n)):=by
 have k:=yj a;have l:=yj b;have m:∀ z:Int, -8<z->z<8->-32<z*n/\z*n<32:=fun z h1 h2=>by
  rcases (by omega:n=1∨n=2∨n=3∨n=4) with e | e | e | e <;> subst e <;> omega
 have D:=m _ k.1 k.2;have E:=m _ l.1 l.2;have r:dV h=1∨dV h=2:=by cases h <;> simp [dV]
 have F:0<dV h*n/\dV h*n<=8:=by rcases r with e | e <;> rw [e] <;> omega
 refine Uv func95 53 U3 fun w0=>Uq fun R d=>UF U6 fun o=>UF U6 fun p=>UH U5 fun q=>Ur [2,3,4,6] d Z<|Ul 1 [2,3,4,6,7] Z<|Um 1 Z fun R d=>Uu ac U9<|Ur [2,3,4,6,7,13] d Z<|G.cut (fun fr C' s t=>(True)/\fr=[(2,[],.int .i64 n),(3,[],.pointer (some ⟨o,0,none⟩)),(4,[],.pointer (some ⟨p,0,none⟩)),(6,[],.pointer (some ⟨q,0,none⟩)),(7,[],.int .i64 (dV h))]/\s=[.obj q (.cells ⟨[ai [],ai []]⟩ 58 (0,0)),.obj p (.cells ⟨[.int .i8 x,.int .i8 y]⟩ 23 (0,0)),.obj o (.cells ⟨[.int .u8 i,.int .i8 a,.int .i8 b,.bool h]⟩ 25 (0,0))]) ?_ (fun fr _ H t _ u=>?_)
 ·refine Uo (fun f=>?_) fun f=>?_
  ·have h1:h=true:=f;subst h1;refine Ul 1 [2,3,4,6,7] Z<|UB 0 (Mem.le.refl _) (hn_ [2,3,4,6,7] Z) ⟨trivial,Z,Z⟩
  have h1:h=false:=by simpa using f
  subst h1;refine UB 0 (Mem.le.refl _) (hn_ [2,3,4,6,7] Z) ⟨trivial,Z,Z⟩
 obtain ⟨_,rfl,rfl⟩:=u;refine Uq fun R d=>UL (0) U9 ag U2<|Uu ae U9<|Vb (c:=x) U8 (wrap_i64 om_ om_) fl_<|Up U6<|UL (1) U9 ag U2<|Uu ac U9<|Vt (a.tmod 8) U6 dc_ U3<|Vb (c:=a.tmod 8) U8 (wrap_i64 om_ om_) fl_<|Up U6<|Uw _ U7<|Uw _ U7<|Us 2 Z<|Uw _ U7<|UC (FC _ g.m_ (x+a.tmod 8*n) (dV h*n) om_ om_ om_) U7 fl_<|C4 5 [2,3,4,6,7,8] d Z<|Uq fun R d=>UL (1) U9 ag U2<|Uu ae U9<|Vb (c:=y) U8 (wrap_i64 om_ om_) fl_<|Up U6<|UL (2) U9 ag U2<|Uu ac U9<|Vt (b.tmod 8) U6 dc_ U3<|Vb (c:=b.tmod 8) U8 (wrap_i64 om_ om_) fl_<|Up U6<|Uw _ U7<|Uw _ U7<|Us 2 Z<|Uw _ U7<|UC (FC _ g.m_ (y+b.tmod 8*n) (dV h*n) om_ om_ om_) U7 fl_<|C4 5 [6,8,10] d Z<|Um 2 Z fun R d=>UG (gw (dF a b h x y n)) U8<|Ux (j:=0) U12<|Ur [6] d Z<|Uz (Vi af U4 ?_);exact ⟨Z,Z⟩
def gE (s p:Nat):Value:=.agg ⟨[.int .i64 (s:Nat),.int .i64 (p:Nat)]⟩
theorem lH (C:Mem)(s p:Nat)(h:s*p<=1000000000):Gives cx.P 65 [gE s p] C (.int .i64 ((s*p:Nat):Int)):=by
 exact Uv func65 8 U3 fun w0=>Uq fun R a=>UF U6 fun b=>C4 1 [1] a Z<|Um 1 Z fun R a=>Uu af U9<|Up U6<|Uu af U9<|Uw _ U7<|C4 1 [2] a Z<|Ut U2<|⟨Z,Z⟩
theorem OO (C:Mem)(s p:Nat)(i k:Int)(h:-1000000000000<=i*p/\i*p<=1000000000000)(b:-1000000000<=k/\k<=1000000000):Gives cx.P 190 [gE s p,.int .i64 i,.int .i64 k] C (.int .i64 (i*p+k)):=by
 exact Uv func190 13 U3 fun w0=>Uq fun R a=>UF U6 fun c=>C4 1 [1,2,3] a Z<|Um 2 Z fun R a=>Uu af U9<|Uw _ U7<|Up U6<|Uw _ U7<|C4 1 [6] a Z<|Ut U2<|⟨Z,Z⟩
end Go.Proofs.YthnpijdjlddpmaaGreatDoor
