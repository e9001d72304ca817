/- Laws that the proofs of this seat share, part 7. -/
import Derived.Test.YthnpijdjlddpmaaGreatDoorG6
import Derived.Test.YthnpijdjlddpmaaGreatDoorShelf
import Derived.RangeFuncBox
import Derived.RangeFuncLeaves
import Derived.Shelf.Abstract
import Derived.WalkKit
import Derived.OwnWalkIn
import Derived.TacticsInMore
import Derived.LoopNIn
import Derived.LoopIn
import Derived.Stop.RegionWithIn
import Derived.Test.YthnpijdjlddpmaaGreatDoorProg
set_option maxHeartbeats 4000000
namespace Go.Proofs.YthnpijdjlddpmaaGreatDoor
open Go.Proofs.Tryz
open Go Go.Jog
set_option maxRecDepth 100000
variable {a b:Rat}{d g k m n:Nat}{q:Rat}{s t:Str}{w z:Int}
theorem bW (h:n<B9 ^ k)(a:0<k):(bl n).length<=9*k:=eH (by rw [Lg];exact h) om_
theorem zp (h:(txt z).length<=m):z.natAbs<10 ^ m:=by
 have h1:(bl z.natAbs).length<=m:=by
  unfold txt at h;split at h
  ·simp at h;omega
  exact h
 obtain ⟨h2,h3⟩:=bC z.natAbs;have h4:=dU h2.1;rw [h3] at h4;exact RB h4 (QH dc_ h1)
theorem e18:(10:Nat) ^ 18=1000000000000000000:=by decide
theorem e9:(10:Nat) ^ 9=1000000000:=by decide
theorem yf {a b:Nat}(c:a<B9 ^ k)(d:b<B9 ^ k):a+b<B9 ^ (k+1):=by
 rw [Rv];have:B9 ^ k*2<=B9 ^ k*B9:=RL _ dc_;omega
theorem Nk (C:Mem)(l:Tabs C)(z w:Int)(k:Nat)(u:0<k)(Y:k<=40000)(f:z.natAbs<B9 ^ k)(g:w.natAbs<B9 ^ k):Gives cx.P 145 [ah (txt z),ah (txt w)] C (ah (txt (z+w))):=by
 have aa:=bW f u;have ab:=bW g u;refine Uk func145 62 U3 fun w0=>Ua 1 [0,1] Z<|Ub 1 Z fun R a=>Uo (jG _ z 18 (Qj _)) U7<|C4 5 [0,1,5,6] a Z<|Ua 1 [0,1,5,16] Z<|G.cut (fun fr C' m o=>(True)/\fr=[(0,[],ah (txt z)),(1,[],ah (txt w))]/\m=[]) ?_ (fun fr _ ac o _ p=>?_)
 ·refine Ud (fun v=>?_) fun v=>?_
  ·have x:=aV v;rw [aH x];have K:=zp x;rw [e18] at K;refine Ub 1 Z fun R a=>Uo (jG _ w 18 (Qj _)) U7<|C4 5 [0,1,5,7,8] a Z<|Ua 1 [0,1,5,7,22] Z<|Ud (fun y=>?_) fun y=>?_
   ·have A:=aV y;rw [aH A];have L:=zp A;rw [e18] at L;exact Ub 2 Z fun R a=>Ul _ U7<|Ur (sh _ l.m_ (z+w) om_ om_) U7 fl_<|C4 1 [4] a Z<|Ui U2<|⟨Z,Z⟩
   refine Uq 0 (Mem.le.refl _) (hn_ [0,1] Z) ⟨trivial,Z,Z⟩
  refine Uq 0 (Mem.le.refl _) (hn_ [0,1] Z) ⟨trivial,Z,Z⟩
 obtain ⟨_,rfl,rfl⟩:=p;refine Ub 1 Z fun R a=>UH (iZ _ z om_) U7 fl_ fun ad _ _ M=>Ue U6<|UH (iZ _ w om_) U7 fl_ fun ag _ _ N=>Uv U5 fun B=>Uv U5 (fun D=>?_);obtain ⟨pz,rfl,d⟩:=M;obtain ⟨pw,rfl,e⟩:=N;obtain ⟨Az,mz,cz,rfl⟩:=d.form;obtain ⟨Aw,mw,cw,rfl⟩:=e.form;refine Um (j:=1) U12<|Um (j:=1) U12<|Ug [9,10] a Z<|Ub 1 Z fun R a=>Uj ae U9<|Ue U6<|Uj af U9<|C4 1 [9,10,35] a Z<|Ud (fun q=>?_) fun q=>?_
 ·have i:decide (z<0)=decide (w<0):=by simpa using q
  refine Uy [0,1,2,3,4,5,6,7,8,9] [(8,1)] Z kr_ fun R O a=>Ue U6<|Uj ae U9<|Ue U6<|Uj ae U9<|Ue U6<|Uj af U9<|UH (Lj (k:=k) _ d.m_ e.m_ f g om_) U7 fl_ (fun ai _ _ E=>?_);obtain ⟨Q,S,T,rfl⟩:=E.form;exact Uu [.bool (decide (z<0)),_] U8<|Uz (fun _=>(jV _ l.m_ _ _ _ E (dz (k:=100000) (n:=k+1) (yf f g) om_))) U9<|C4 1 [4] a Z<|Ui U2<|⟨by rw [Mj i],Z⟩
 have i:decide (z<0)≠decide (w<0):=by simpa using q
 refine Ub 1 Z fun R a=>Uj ae U9<|Ue U6<|Uj af U9<|Uo (pA _ d.m_ e.m_) U7<|C4 1 [9,10,50] a Z<|G.cut (fun fr C' m o=>∃ (b c:Int)(r s:Value),(NineC C' r b.natAbs/\NineC C' s c.natAbs/\c.natAbs<=b.natAbs/\b+c=z+w/\decide (b<0)≠decide (c<0)/\b.natAbs<B9 ^ k)/\fr=[(9,[],.pointer (some ⟨B,0,none⟩)),(10,[],.pointer (some ⟨D,0,none⟩))]/\m=[.obj D (.cells ⟨[.bool (decide (c<0)),s]⟩ 307 (0,0)),.obj B (.cells ⟨[.bool (decide (b<0)),r]⟩ 307 (0,0))]) ?_ (fun fr _ aj o _ p=>?_)
 ·refine Ud (fun t=>?_) fun t=>?_
  ·have F:z.natAbs<w.natAbs:=by
    have:jH z.natAbs w.natAbs<0:=by simpa using t
    exact iY.1 this
   refine Uf fun R a=>Uj af U9<|Uj ae U9<|Um (j:=1) U12<|Um (j:=1) U12<|Ug [9,10] a Z<|Uq 0 mup (hn_ [9,10] Z) ⟨w,z,_,_,⟨e.mono mup,d.mono mup,by omega,Int.add_comm w z,Ne.symm i,g⟩,Z,Z⟩
  have F:w.natAbs<=z.natAbs:=by
   have h:¬ jH z.natAbs w.natAbs<0:=by simpa using t
   rw [iY] at h;omega
  refine Uq 0 mup (hn_ [9,10] Z) ⟨z,w,_,_,⟨d.mono mup,e.mono mup,F,Z,i,f⟩,Z,Z⟩
 obtain ⟨b ,c ,r ,s,⟨H,I,U,V,W,X⟩,rfl,rfl⟩:=p;obtain ⟨ak,al,am,rfl⟩:=H.form;obtain ⟨an,ao,ap,rfl⟩:=I.form;refine Uy [0,1,2,3,4,5,6,7,8,9] [(8,1)] Z kr_ fun R O a=>Ue U6<|Uj ae U9<|Ue U6<|Uj ae U9<|Ue U6<|Uj af U9<|UH (uq (k:=k) _ H.m_ I.m_ X U om_) U7 fl_ (fun aq _ _ J=>?_);obtain ⟨Q,S,T,rfl⟩:=J.form;exact Uu [.bool (decide (b<0)),_] U8<|Uz (fun _=>(jV _ l.m_ _ _ _ J (dz (k:=100000) (n:=k) om_ om_))) U9<|C4 1 [4] a Z<|Ui U2<|⟨by rw [Mk W om_,V],Z⟩
theorem Ml (z w:Int):sgZ (decide (z<0) != decide (w<0)) (z.natAbs*w.natAbs)=z*w:=by
 unfold sgZ;have h1:z=if z<0 then -(z.natAbs:Int) else (z.natAbs:Int):=by split <;> omega
 have h2:w=if w<0 then -(w.natAbs:Int) else (w.natAbs:Int):=by split <;> omega
 by_cases a:z<0 <;> by_cases b:w<0
 ·rw [QD a,QD b,aA dc_];rw [aH a] at h1;rw [aH b] at h2;rw [Rc]
  conv=>rhs;rw [h1,h2]
  rw [Int.neg_mul_neg]
 ·rw [QD a,QK b,aH dc_];rw [aH a] at h1;rw [aA b] at h2;rw [Rc]
  conv=>rhs;rw [h1,h2]
  rw [Int.neg_mul]
 ·rw [QK a,QD b,aH dc_];rw [aA a] at h1;rw [aH b] at h2;rw [Rc]
  conv=>rhs;rw [h1,h2]
  rw [Int.mul_neg]
 rw [QK a,QK b,aA dc_];rw [aA a] at h1;rw [aA b] at h2;rw [Rc]
 conv=>rhs;rw [h1,h2]
theorem nS {a b:Nat}(c:a<B9 ^ k)(d:b<B9 ^ k):a*b<B9 ^ (k+k):=by
 rw [Ti];exact Sg c d
theorem FJ (a:z.natAbs<1000000000)(b:w.natAbs<1000000000):-1000000000000000000<z*w/\z*w<1000000000000000000:=by
 have h:z.natAbs*w.natAbs<=999999999*999999999:=R5 om_ om_;rw [<- RX] at h;omega
theorem kN (C:Mem)(d:Tabs C)(z w:Int)(k:Nat)(e:0<k)(x:k<=40000)(b:z.natAbs<B9 ^ k)(c:w.natAbs<B9 ^ k):Gives cx.P 146 [ah (txt z),ah (txt w)] C (ah (txt (z*w))):=by
 have y:=bW b e;have A:=bW c e;refine Uk func146 43 U3 fun w0=>Ua 1 [0,1] Z<|Ub 1 Z fun R a=>Ur (jG _ z 9 om_) U7 fl_<|C4 5 [0,1,5,6] a Z<|Ua 1 [0,1,5,16] Z<|G.cut (fun fr C' r s=>(True)/\fr=[(0,[],ah (txt z)),(1,[],ah (txt w))]/\r=[]) ?_ (fun fr _ B s _ t=>?_)
 ·refine Ud (fun f=>?_) fun f=>?_
  ·have g:=aV f;rw [aH g];have h:=zp g;rw [e9] at h;refine Ub 1 Z fun R a=>Ur (jG _ w 9 om_) U7 fl_<|C4 5 [0,1,5,7,8] a Z<|Ua 1 [0,1,5,7,22] Z<|Ud (fun i=>?_) fun i=>?_
   ·have l:=aV i;rw [aH l];have m:=zp l;rw [e9] at m;have D:=FJ h m;exact Ub 2 Z fun R a=>UN ((z*w)) U4 om_ om_ om_ U2<|Ur (sh _ d.m_ (z*w) om_ om_) U7 fl_<|C4 1 [4] a Z<|Ui U2<|⟨Z,Z⟩
   refine Uq 0 (Mem.le.refl _) (hn_ [0,1] Z) ⟨trivial,Z,Z⟩
  refine Uq 0 (Mem.le.refl _) (hn_ [0,1] Z) ⟨trivial,Z,Z⟩
 obtain ⟨_,rfl,rfl⟩:=t;refine Ub 1 Z fun R a=>UH (iZ _ z om_) U7 fl_ fun E _ _ u=>Ue U6<|UH (iZ _ w om_) U7 fl_ fun F _ _ v=>Uv U5 fun H=>Uv U5 (fun I=>?_);obtain ⟨J,rfl,o⟩:=u;obtain ⟨K,rfl,p⟩:=v;obtain ⟨L,M,N,rfl⟩:=o.form;obtain ⟨O,Q,S,rfl⟩:=p.form;refine Um (j:=1) U12<|Um (j:=1) U12<|Ug [9,10] a Z<|Uy [0,1,2,3,4,5,6,7,8,9,10,11,12] [(11,1)] Z kr_ fun R T a=>Ue U6<|Uj ae U9<|Ue U6<|Uj af U9<|Uh 2 Z<|Uj ae U9<|Ue U6<|Uj af U9<|UH (EP (k:=k) _ o.m_ p.m_ b c om_) U7 fl_ (fun U _ _ q=>?_);obtain ⟨V,W,X,rfl⟩:=q.form;exact Uu [.bool (decide (z<0) != decide (w<0)),_] U8<|Uz (fun _=>(jV _ d.m_ _ _ _ q (dz (k:=100000) (n:=k+k) (nS b c) om_))) U9<|C4 1 [4] a Z<|Ui U2<|⟨by rw [Ml],Z⟩
def He (z w:Int):Nat:=if z<0/\z.natAbs % w.natAbs≠0 then z.natAbs / w.natAbs+1 else z.natAbs / w.natAbs
def BL (z w:Int):Nat:=if z<0/\z.natAbs % w.natAbs≠0 then w.natAbs-z.natAbs % w.natAbs else z.natAbs % w.natAbs
theorem Hd (i:0<w):sgZ (decide (z<0) != decide (w<0)) (He z w)=z / w/\(BL z w:Int)=z % w:=by
 obtain ⟨n,rfl⟩:∃ n:Nat,w=n:=⟨w.natAbs,by omega⟩;have f:0<n:=by omega
 rw [QK (by omega:¬ ((n:Nat):Int)<0),Bool.bne_false];have h1:=Tl z.natAbs n;have h2:=Q2 z.natAbs f;obtain ⟨q,d⟩:∃ q,z.natAbs / n=q:=⟨_,rfl⟩;obtain ⟨r,hr⟩:∃ r,z.natAbs % n=r:=⟨_,rfl⟩;have g:sgZ (decide (z<0)) (He z n)=z / n/\(BL z n:Int)=z % n:=by
  have h3:=(Int.ediv_emod_unique (a:=z) (r:=(BL z n:Int)) (q:=sgZ (decide (z<0)) (He z n)) (by omega:(0:Int)<(n:Int))).2;have h4:(BL z n:Int)+(n:Int)*sgZ (decide (z<0)) (He z n)=z/\0<=(BL z n:Int)/\(BL z n:Int)<(n:Int):=by
   unfold He BL sgZ;simp only [Q4];rw [d,hr];rw [hr,d] at h1;rw [hr] at h2;have h5:((r+n*q:Nat):Int)=(z.natAbs:Int):=by rw [h1]
   rw [S2,Rc] at h5;by_cases b:z<0
   ·rw [QD b,aH rfl];by_cases c:r=0
    ·subst c;rw [aA am,aA am];rw [Int.mul_neg];omega
    rw [aH ⟨b,c⟩,aH ⟨b,c⟩];rw [Int.mul_neg,S2,Tw];omega
   rw [QK b,aA (fun h:z<0/\r≠0=>b h.1),aA (fun h:z<0/\r≠0=>b h.1),aA dc_];omega
  have e:=h3 h4;exact ⟨e.1.symm,e.2.symm⟩
 exact g
theorem sj (C:Mem)(u:Tabs C)(z w:Int)(k:Nat)(f:0<k)(hk:k<=40000)(g:z.natAbs<B9 ^ k)(i:w.natAbs<B9 ^ k)(v:0<w):Gives cx.P 211 [ah (txt z),ah (txt w)] C (.tuple #[ah (txt (z / w)),ah (txt (z % w)),.int .i64 0]):=by
 have aj:=bW g f;have ak:=bW i f;have l:0<w.natAbs:=by omega
 refine Uk func211 50 U3 fun w0=>Ua 3 [0,1] Z<|Ua 2 [0,1,12] Z<|Ud (fun m=>?_) fun m=>?_
 ·have h:=lk w;rw [h] at m;have:w=0:=aV m;omega
 refine Ub 1 Z fun R a=>UH (iZ _ z om_) U7 fl_ fun al _ _ J=>Ue U6<|UH (iZ _ w om_) U7 fl_ fun am _ _ K=>Uv U5 fun y=>Uv U5 (fun A=>?_);obtain ⟨pz,rfl,B⟩:=J;obtain ⟨pw,rfl,o⟩:=K;obtain ⟨L,M,N,rfl⟩:=B.form;obtain ⟨O,Q,S,rfl⟩:=o.form;refine Um (j:=1) U12<|Um (j:=1) U12<|Ug [7,8] a Z<|Ub 1 Z fun R a=>Uj ae U9<|Ue U6<|Uj af U9<|UH (xl _ _ _ _ _ B.m_ o.m_ (dz (k:=100000) (n:=k) g om_) l) U7 fl_ (fun an _ _ T=>?_);obtain ⟨vq,vr,rfl,D,p⟩:=T;refine C4 5 [7,8,9,10] a Z ?_;obtain ⟨b,U,V,W⟩:=id p;obtain ⟨Ar,cr,E,_⟩:=id W;rw [aw] at E;subst E;have F:b.length=0 ↔ z.natAbs % w.natAbs=0:=by
  rw [<- V,B7 U];exact Ts
 refine Ub 1 Z fun R a=>Uj ae U9<|Uh 4 Z<|UD U8<|Ug [7,8,9,10,31] a Z<|G.cut (fun fr C' X Y=>∃ (q r:Value),(NineC C' q (He z w)/\NineC C' r (BL z w))/\fr=[(7,[],.pointer (some ⟨y,0,none⟩)),(8,[],.pointer (some ⟨A,0,none⟩)),(9,[],q),(10,[],r)]/\X=[.obj A (.cells ⟨[.bool (decide (w<0)),.slice O Q S]⟩ 307 (0,0)),.obj y (.cells ⟨[.bool (decide (z<0)),.slice L M N]⟩ 307 (0,0))]) ?_ (fun fr _ ao Y _ hI=>?_)
 ·refine Ud (fun d=>?_) fun d=>?_
  ·have c:z<0/\z.natAbs % w.natAbs≠0:=by
    have h:decide (z<0)=true/\0<b.length:=by simpa using d
    exact ⟨aV h.1,fun e=>by have:=F.2 e;omega⟩
   have s:He z w=z.natAbs / w.natAbs+1:=aH c;have t:BL z w=w.natAbs-z.natAbs % w.natAbs:=aH c;have aa:z.natAbs / w.natAbs<B9 ^ k:=Re (Rp _ _) g;refine Uy [0,3,4,5,1,2,6,7,8] [] Z kr_ fun R hB a=>Uh 2 Z<|Uj af U9<|Ue U6<|Ux [cj 1] U12 fun ap _ _ ab=>UH (Lj (k:=k) _ D.m_ (⟨[1],⟨(fun x hx=>(by rw [QF.1 hx];decide)),by simp⟩,Z,ab.mono mup⟩:NineC _ _ 1) aa (RB (by decide:1<B9 ^ 1) (QH dc_ f)) om_) U7 fl_ fun aq _ _ ac=>UH (uq (k:=k) _ o.m_ p.m_ i (Nat.le_of_lt (Q2 _ l)) om_) U7 fl_ fun ar _ _ ad=>Uh 2 Z<|Ug [7,8,9,10] a Z ?_;clear a hB R;refine Uq 0 mup (hn_ [7,8,9,10] Z) ⟨_,_,⟨by rw [s];exact ac.mono mup,by rw [t];exact ad.mono mup⟩,Z,Z⟩
  have c:¬ (z<0/\z.natAbs % w.natAbs≠0):=fun h=>by
   have h2:0<b.length:=by
    rcases RJ b.length with h3 | h3
    ·exact absurd (F.1 h3) h.2
    exact h3
   have h3:(decide (z<0) && decide ((0:Int)<(b.length:Int)))=true:=by
    rw [QD h.1,QD om_];rfl
   rw [h3] at d;cases d
  have s:He z w=z.natAbs / w.natAbs:=aA c;have t:BL z w=z.natAbs % w.natAbs:=aA c;refine Uq 0 mup (hn_ [7,8,9,10] Z) ⟨_,_,⟨by rw [s];exact D.mono mup,by rw [t];exact p.mono mup⟩,Z,Z⟩
 obtain ⟨q ,r,⟨H,I⟩,rfl,rfl⟩:=hI;obtain ⟨A9,m9,c9,rfl⟩:=H.form;obtain ⟨au,av,ax,rfl⟩:=I.form;have ag:He z w<B9 ^ 100000:=by
  have h1:z.natAbs / w.natAbs<=z.natAbs:=Rp _ _;have h2:He z w<=z.natAbs+1:=by unfold He;split <;> omega
  have h3:B9 ^ k*2<=B9 ^ (k+1):=by rw [Rv];exact RL _ dc_
  have h4:z.natAbs+1<B9 ^ (k+1):=by have:=SK (n:=k) (show 0<B9 by decide);omega
  exact dz (k:=100000) (n:=k+1) (Re h2 h4) om_
 have ai:BL z w<B9 ^ 100000:=by
  have h1:=Q2 z.natAbs l;have h2:BL z w<=w.natAbs:=by unfold BL;split <;> omega
  exact dz (k:=100000) (n:=k) (Re h2 i) om_
 refine Ub 1 Z fun R a=>Uj ae U9<|Ue U6<|Uj af U9<|Uh 2 Z<|Uu [.bool (decide (z<0) != decide (w<0)),_] U8<|Uo (jV _ u.m_ _ _ _ H.m_ ag) U7<|Ue U6<|Uu [.bool false,_] U8<|Uo (jV _ u.m_ _ _ _ I.m_ ai) U7<|C4 3 [4,5,6] a Z<|Un (G.dropAll (Vg U4 ?_));refine ⟨?_,Z⟩;rw [(Hd v).1,show sgZ false (BL z w)=z % w from (Hd v).2]
theorem KD {l:List Nat}(a:ya l)(b:bB l=n):0<l.length ↔ 0<n:=by
 have h:=B7 a;rw [b] at h;have h2:l.length=0 ↔ n=0:=by rw [h];exact Ts
 omega
theorem GO (C:Mem)(r:Tabs C)(z w:Int)(k:Nat)(s:0<k)(hk:k<=40000)(t:z.natAbs<B9 ^ k)(u:w.natAbs<B9 ^ k):Gives cx.P 208 [ah (txt z),ah (txt w)] C (ah (txt (Nat.gcd z.natAbs w.natAbs:Nat))):=by
 have ab:=bW t s;have ac:=bW u s;refine Uk func208 56 U3 fun w0=>Ua 1 [0,1] Z<|Ub 1 Z fun R a=>Uo (jG _ z 18 (Qj _)) U7<|C4 5 [0,1,5,6] a Z<|Ua 1 [0,1,5,18] Z<|G.cut (fun fr C' d e=>(True)/\fr=[(0,[],ah (txt z)),(1,[],ah (txt w))]/\d=[]) ?_ (fun fr _ ad e _ f=>?_)
 ·refine Ud (fun v=>?_) fun v=>?_
  ·have A:=aV v;rw [aH A];have B:=zp A;rw [e18] at B;refine Ub 1 Z fun R a=>Uo (jG _ w 18 (Qj _)) U7<|C4 5 [0,1,5,7,8] a Z<|Ua 1 [0,1,5,7,24] Z<|Ud (fun E=>?_) fun E=>?_
   ·have F:=aV E;rw [aH F];have H:=zp F;rw [e18] at H;refine G.loop (fun fr C' d e=>∃ (x y:Int),(x.natAbs<1000000000000000000/\y.natAbs<1000000000000000000/\Nat.gcd x.natAbs y.natAbs=Nat.gcd z.natAbs w.natAbs)/\fr=[(5,[],.int .i64 x),(7,[],.int .i64 y)]/\d=[]/\e=y.natAbs+1) (hn_ [5,7] Z) ⟨z,w,⟨B,H,Z⟩,Z,Z,Z⟩ (fun fr ae af m K f=>?_);obtain ⟨x,y,⟨ag,L,c⟩,rfl,rfl,rfl⟩:=f;refine Ua 2 [5,7,26] Z<|Ud (fun i=>?_) fun i=>?_
    ·have b:y≠0:=by simpa using i
     have M:(x.tmod y).natAbs=x.natAbs % y.natAbs:=S5 x y;have N:=Q2 x.natAbs (show 0<y.natAbs by omega);refine Uy [0,1,2,3,4,5] [] Z kr_ fun R hB a=>Uh 3 Z<|Vh (x.tmod y) U6 b U3<|C4 2 [5,7] a Z<|Up (m':=(x.tmod y).natAbs+1) om_ K (hn_ [5,7] Z) ⟨y,x.tmod y,⟨L,by omega,by rw [M,<- c,Sx x.natAbs,TQ y.natAbs x.natAbs,Sx]⟩,Z,Z,Z⟩
    have b:y=0:=by simpa using i
    subst b;rw [show (0:Int).natAbs=0 from rfl,S4] at c;refine Ub 3 Z fun R a=>?_;have ai:IntKind.i64.wrap (0-x)=0-x:=wrap_i64 om_ om_;exact D.max ((x.natAbs:Int)) U6 om_ U2<|Ur (sh _ r.m_ (x.natAbs:Int) om_ om_) U7 fl_<|C4 1 [4] a Z<|Ui U2<|⟨by rw [c],Z⟩
   refine Uq 0 (Mem.le.refl _) (hn_ [0,1] Z) ⟨trivial,Z,Z⟩
  refine Uq 0 (Mem.le.refl _) (hn_ [0,1] Z) ⟨trivial,Z,Z⟩
 obtain ⟨_,rfl,rfl⟩:=f;refine Ub 1 Z fun R a=>UH (iZ _ z om_) U7 fl_ (fun aj _ _ O=>?_);obtain ⟨pz,rfl,Q⟩:=O;refine Vt U12<|Ue U6<|UH (iZ _ w om_) U7 fl_ (fun ak _ _ S=>?_);obtain ⟨pw,rfl,T⟩:=S;refine Vt U12<|C4 2 [9,10] a Z<|G.loop (fun fr C' d e=>∃ (x y:Nat)(j o:Value),(NineC C' j x/\NineC C' o y/\x<B9 ^ k/\y<B9 ^ k/\Nat.gcd x y=Nat.gcd z.natAbs w.natAbs)/\fr=[(9,[],j),(10,[],o)]/\d=[]/\e=y+1) (hn_ [9,10] Z) ⟨_,_,_,_,⟨Q.mono mup,T.mono mup,t,u,Z⟩,Z,Z,Z⟩ (fun fr al am m _ f=>?_);obtain ⟨x,y,j,o,⟨p,g,I,J,c⟩,rfl,rfl,rfl⟩:=f;obtain ⟨l,U,V,W⟩:=id g;obtain ⟨an,ao,rfl,_⟩:=id W;rw [aw] at g ⊢;have X:=KD U V;refine Ua 3 [9,10,44] Z<|Ud (fun q=>?_) fun q=>?_
 ·have b:0<y:=X.1 (by simpa using q);have N:=Q2 x b;refine Ub 2 Z fun R a=>UH (xl _ _ _ _ _ p.m_ g.m_ (dz (k:=100000) (n:=k) I om_) b) U7 fl_ (fun ap _ _ Y=>?_);obtain ⟨vq,vr,rfl,aq,aa⟩:=Y;refine C4 5 [10,12] a Z<|Ua 4 [9,10] Z<|Up (m':=x % y+1) om_ mup (hn_ [9,10] Z) ⟨y,x % y,_,_,⟨g.mono mup,aa.mono mup,J,Sz (Q2 _ b) J,by rw [<- c,Sx x,TQ y x,Sx]⟩,Z,Z,Z⟩
 have b:y=0:=by
  have h:¬ 0<l.length:=by simpa using q
  omega
 subst b;rw [S4] at c;obtain ⟨A9,m9,c9,rfl⟩:=p.form;exact Ub 1 Z fun R a=>Uu [.bool false,_] U8<|Ur (jV _ r.m_ _ _ _ p.m_ (dz (k:=100000) (n:=k) I om_)) U7 fl_<|C4 1 [4] a Z<|Ui U2<|⟨by rw [c];rfl,Z⟩
def rP (sg:Bool)(A:Str)(B:Option Str):Value :=
 if Nt A B then .tuple #[.int .i64 (sgZ sg (bU A)),.int .i64 (P9 B),.bool true] else .tuple #[.int .i64 0,.int .i64 0,.bool false]
theorem CW (C:Mem)(d:Bool)(A:Str)(B:Option Str)(q:∀ c∈A,eP c=true)(T:A≠[])(U:∀ b,B=some b->∀ c∈b,eP c=true)(V:(Ji d++A++eO B).length<=1000000) :
  Gives cx.P 141 [ah (Ji d++A++eO B)] C (rP d A B):=by
 obtain ⟨s,hs⟩:∃ s,Ji d++A++eO B=s:=⟨_,rfl⟩;obtain ⟨p,t⟩:∃ p,(Ji d).length=p:=⟨_,rfl⟩;have g:p=if d then 1 else 0:=by rw [<- t];cases d <;> rfl
 have u:∀ j c,A[j]?=some c->s[p+j]?=some c:=fun j c h=>by rw [<- hs,<- t];exact ME _ _ _ h
 have N:∀ j,s[p+A.length+j]?=(eO B)[j]?:=fun j=>by rw [<- hs,<- t];exact Jk _ _ _ _
 have y:s.length=p+A.length+(eO B).length:=by rw [<- hs,<- t,Qp,Qp]
 have W:0<A.length:=Q3.2 T;rw [hs] at V ⊢;refine Uk func141 73 U3 fun w0=>Ua 3 [0,2,3] Z<|Ua 2 [0,2,3,5,6] Z<|Ub 5 Z fun R a=>UZ (b:=s.getD 0 0) U8 (fun _=>⟨by omega,(by rw [al,show (0:Int).toNat=0 from rfl];obtain ⟨c,f⟩:∃ c,s[0]?=some c:=⟨s[0]'om_,ak om_⟩;rw [f];rfl)⟩) U2<|Ue U6<|UD U8<|Ug [0,2,3,5,6,15] a Z<|G.cut (fun fr C' i k=>(True)/\fr=[(0,[],ah s),(2,[],.int .i64 0),(3,[],.int .i64 0),(5,[],.int .i64 p),(6,[],.bool d)]/\i=[]) ?_ (fun fr _ ae k _ l=>?_)
 ·refine Ud (fun v=>?_) fun v=>?_
  ·have n:d=true:=by
    cases d with
    | true=>rfl
    | false =>
     exfalso;rw [aA dc_] at g;subst g;obtain ⟨c,f⟩:∃ c,A[0]?=some c:=⟨A[0],ak W⟩;have h1:=u 0 c f;have h2:=q c (Qi f);rw [Sh] at h1;rw [al,h1] at v;unfold eP at h2;simp at v h2;omega
   subst n;rw [aH rfl] at g;subst g;refine Ua 2 [0,2,3,5,6] Z<|Uq 0 (Mem.le.refl _) (hn_ [0,2,3,5,6] Z) ⟨trivial,Z,Z⟩
  have n:d=false:=by
   cases d with
   | false=>rfl
   | true =>
    exfalso;have h1:s[0]?=some 45:=by rw [<- hs];rfl
    rw [aH rfl] at g;have h2:(decide ((0:Int)<((s.length:Nat):Int)) && decide ((((s.getD 0 0).toNat:Nat):Int)=45))=false:=by simpa using v
    rw [al,h1,QD om_] at h2;exact absurd h2 dc_
  subst n;rw [aA dc_] at g;subst g;refine Uq 0 (Mem.le.refl _) (hn_ [0,2,3,5,6] Z) ⟨trivial,Z,Z⟩
 obtain ⟨_,rfl,rfl⟩:=l;refine Ua 2 [0,2,3,5,6,7] Z<|G.loop (fun fr C' i k=>∃ (j:Nat),(j<=A.length/\j<=9)/\fr=[(0,[],ah s),(2,[],.int .i64 ((bU (A.take j):Nat):Int)),(3,[],.int .i64 0),(5,[],.int .i64 ((p+j:Nat):Int)),(6,[],.bool d),(7,[],.int .i64 p)]/\i=[]/\k=A.length-j+1) (hn_ [0,2,3,5,6,7] Z) ⟨0,⟨by omega,by omega⟩,Z,Z,Z⟩ (fun fr af ag m X l=>?_);obtain ⟨j,⟨hj,w⟩,rfl,rfl,rfl⟩:=l;obtain ⟨c,f⟩:∃ c,p+j<s.length->s[p+j]?=some c:=⟨s.getD (p+j) 0,fun h=>by rw [al,ak h];rfl⟩;refine Ub 7 Z fun R a=>UZ (b:=c) U8 (fun Y=>⟨by omega,f (by have h:decide (((p+j:Nat):Int)<((s.length:Nat):Int))=true:=Y.1;have h2:=aV h;omega)⟩) U2<|Ue U6<|UD U8<|Ug [0,2,3,5,6,7,26] a Z<|Ud (fun x=>?_) fun x=>?_
 ·have z:p+j<s.length/\c.toNat≠47:=by
   simp at x;omega
  have E:j<A.length:=by
   rcases QQ j A.length with h | h
   ·exact h
   exfalso;obtain rfl:j=A.length:=by omega
   have h1:=f z.1;have h2:=N 0;rw [Sh,h1] at h2;cases B with
   | none=>simp [eO] at h2
   | some b =>
    simp [eO] at h2;subst h2;exact z.2 Z
  obtain ⟨e,o⟩:∃ c,A[j]?=some c:=⟨A[j],ak E⟩;obtain rfl:e=c:=by
   have h1:=f z.1;rw [u j e o] at h1;exact RR h1
  have O:48<=e.toNat/\e.toNat<=57:=by simpa [eP] using q e (Qi o)
  have hV:=uO q w;refine Ub 2 Z fun R a=>Ul _ U7<|C4 1 [0,2,3,5,6,7,32] a Z<|Ud (fun F=>?_) fun F=>?_
  ·have r:¬ A.length<=9:=by
    have:((p+j:Nat):Int)-p=9:=by simpa using F
    omega
   refine Ua 3 [2,3,4] Z<|Un (G.dropAll (Vg U4 ?_));refine ⟨?_,Z⟩;unfold rP Nt;rw [QK r,Bool.false_and,aA dc_]
  have r:j≠9:=by
   have:¬ ((p+j:Nat):Int)-p=9:=by simpa using F
   omega
  refine Ub 1 Z fun R a=>Ul _ U7<|Uh 2 Z<|UZ U8 (fun _=>⟨by omega,u j _ o⟩) U2<|D.int (((e.toNat:Nat):Int)-48) U4 (by rw [IntKind.wrap_u8];omega) U2<|UQ (c:=((e.toNat:Nat):Int)-48) U8 (by rw [IntKind.wrap_i64];omega) fl_<|Ul _ U7<|C4 1 [0,2,3,5,6,7] a Z<|Ub 1 Z fun R a=>Ul _ U7<|C4 1 [0,2,3,5,6,7] a Z ?_;rw [show 10*((bU (A.take j):Nat):Int)+(((e.toNat:Nat):Int)-48)=((bU (A.take (j+1)):Nat):Int) by rw [BQ o];omega];refine Up (m':=A.length-(j+1)+1) om_ X (hn_ [0,2,3,5,6,7] Z) ⟨j+1,⟨by omega,by omega⟩,Z,Z,Z⟩
 have E:j=A.length:=by
  rcases QQ j A.length with h | h
  ·exfalso;obtain ⟨e,o⟩:∃ c,A[j]?=some c:=⟨A[j],ak h⟩;have h1:=f om_;rw [u j e o] at h1;obtain rfl:=RR h1;have O:48<=e.toNat/\e.toNat<=57:=by simpa [eP] using q e (Qi o)
   simp at x;have:=x om_;omega
  omega
 subst E;rw [Qv];refine Ua 1 [0,2,3,5,41] Z<|G.cut (fun fr C' i k=>(True)/\fr=[(0,[],ah s),(2,[],.int .i64 (sgZ d (bU A))),(3,[],.int .i64 0),(5,[],.int .i64 ((p+A.length:Nat):Int))]/\i=[]) ?_ (fun fr _ ai k _ l=>?_)
 ·refine Ud (fun H=>?_) fun H=>?_
  ·have n:d=true:=H;subst n;have aa:=uO q w;rw [Qv] at aa;refine Ua 3 [0,2,3,5] Z ?_;rw [show IntKind.i64.wrap (0-((bU A:Nat):Int))=sgZ true (bU A) by rw [wrap_i64 om_ om_];unfold sgZ;rw [aH rfl];omega];refine Uq 0 (Mem.le.refl _) (hn_ [0,2,3,5] Z) ⟨trivial,Z,Z⟩
  have n:d=false:=by simpa using H
  subst n;refine Uq 0 (Mem.le.refl _) (hn_ [0,2,3,5] Z) ⟨trivial,Z,Z⟩
 obtain ⟨_,rfl,rfl⟩:=l;refine Ua 4 [0,2,3,5,47] Z<|Ud (fun I=>?_) fun I=>?_
 ·have ab:B=none:=by
   cases B with
   | none=>rfl
   | some b =>
    exfalso;have:p+A.length=s.length:=by simp at I;omega
    rw [y] at this;simp [eO] at this
  subst ab;refine Ua 4 [2,3,4] Z<|Un (G.dropAll (Vg U4 ?_));refine ⟨?_,Z⟩;unfold rP Nt;rw [QD w];rfl
 obtain ⟨b,rfl⟩:∃ b,B=some b:=by
  cases B with
  | some b=>exact ⟨b,rfl⟩
  | none =>
   exfalso;simp [y,eO] at I
 have Q:=U b rfl;have aj:s.length=p+A.length+1+b.length:=by rw [y];simp [eO];omega
 refine Ub 1 Z fun R a=>Ul _ U7<|C4 1 [0,2,3,5,7] a Z<|Ub 1 Z fun R a=>Ul _ U7<|C4 1 [0,2,3,5,7] a Z<|G.loop (fun fr C' i k=>∃ (j:Nat),(j<=b.length/\j<=9)/\fr=[(0,[],ah s),(2,[],.int .i64 (sgZ d (bU A))),(3,[],.int .i64 ((bU (b.take j):Nat):Int)),(5,[],.int .i64 ((p+A.length+1+j:Nat):Int)),(7,[],.int .i64 ((p+A.length+1:Nat):Int))]/\i=[]/\k=b.length-j+1) (hn_ [0,2,3,5,7] Z) ⟨0,⟨by omega,by omega⟩,Z,Z,Z⟩ (fun fr am an m ac l=>?_);obtain ⟨j,⟨hk,S⟩,rfl,rfl,rfl⟩:=l;refine Ua 4 [0,2,3,5,7,56] Z<|Ud (fun J=>?_) fun J=>?_
 ·have K:j<b.length:=by
   have:p+A.length+1+j<s.length:=by simp at J;omega
   omega
  obtain ⟨c,L⟩:∃ c,b[j]?=some c:=⟨b[j],ak K⟩;have ad:s[p+A.length+1+j]?=some c:=by rw [Tg,N,SL 1 j];exact L
  have O:48<=c.toNat/\c.toNat<=57:=by simpa [eP] using Q c (Qi L)
  have hV:=uO Q S;refine Ub 2 Z fun R a=>Ul _ U7<|C4 1 [0,2,3,5,7,62] a Z<|Ud (fun M=>?_) fun M=>?_
  ·have r:¬ b.length<=9:=by
    have:((p+A.length+1+j:Nat):Int)-((p+A.length+1:Nat):Int)=9:=by simpa using M
    omega
   refine Ua 3 [2,3,4] Z<|Un (G.dropAll (Vg U4 ?_));refine ⟨?_,Z⟩;unfold rP Nt;rw [show (some b).getD []=b from rfl,QK r,Bool.and_false,aA dc_]
  have r:j≠9:=by
   have:¬ ((p+A.length+1+j:Nat):Int)-((p+A.length+1:Nat):Int)=9:=by simpa using M
   omega
  refine Ub 1 Z fun R a=>Ul _ U7<|Uh 2 Z<|UZ U8 (fun _=>⟨by omega,ad⟩) U2<|D.int (((c.toNat:Nat):Int)-48) U4 (by rw [IntKind.wrap_u8];omega) U2<|UQ (c:=((c.toNat:Nat):Int)-48) U8 (by rw [IntKind.wrap_i64];omega) fl_<|Ul _ U7<|C4 1 [0,2,3,5,7] a Z<|Ub 1 Z fun R a=>Ul _ U7<|C4 1 [0,2,3,5,7] a Z ?_;rw [show 10*((bU (b.take j):Nat):Int)+(((c.toNat:Nat):Int)-48)=((bU (b.take (j+1)):Nat):Int) by rw [BQ L];omega];refine Up (m':=b.length-(j+1)+1) om_ ac (hn_ [0,2,3,5,7] Z) ⟨j+1,⟨by omega,by omega⟩,Z,Z,Z⟩
 have K:j=b.length:=by
  have:¬ p+A.length+1+j<s.length:=by simp at J;omega
  omega
 subst K;rw [Qv];refine Ua 5 [2,3,4] Z<|Un (G.dropAll (Vg U4 ?_));refine ⟨?_,Z⟩;unfold rP Nt;rw [show (some b).getD []=b from rfl,QD w,QD S];rfl
theorem pg {n:Int}(a:g ∣ n.natAbs):n.tdiv (g:Int)=n / (g:Int):=Int.tdiv_eq_ediv_of_dvd (SX.1 (Sf.2 a))
theorem AU {n:Int}(a:d≠0):qtx (mkRat n d)=txt (n / ((Nat.gcd n.natAbs d:Nat):Int))++eO (nM (d / Nat.gcd n.natAbs d)):=by
 rw [ph,(uo n a).1,(uo n a).2]
theorem we (C:Mem)(e:Tabs C)(n:Int)(d:Nat)(o:0<d)(p:n.natAbs<9000000000000000000)(t:d<9000000000000000000):Gives cx.P 142 [.int .i64 n,.int .i64 d] C (ah (qtx (mkRat n d))):=by
 obtain ⟨g,b⟩:∃ g,Nat.gcd n.natAbs d=g:=⟨_,rfl⟩;have u:0<g:=by rw [<- b];exact S1 _ o
 have q:g ∣ n.natAbs:=by rw [<- b];exact Tf _ _
 have v:g ∣ d:=by rw [<- b];exact Tt _ _
 have F:g<=d:=TU o v;rw [AU om_,b];refine Uk func142 35 U3 fun w0=>Ua 1 [0,1] Z<|Ua 4 [0,1,5,6] Z<|G.loop (fun fr C' f h=>∃ (x y:Int),(x.natAbs<9000000000000000000/\y.natAbs<9000000000000000000/\Nat.gcd x.natAbs y.natAbs=g)/\fr=[(0,[],.int .i64 n),(1,[],.int .i64 d),(5,[],.int .i64 x),(6,[],.int .i64 y)]/\f=[]/\h=y.natAbs+1) (hn_ [0,1,5,6] Z) ⟨n,d,⟨p,by omega,by rw [Q4];exact b⟩,Z,Z,Z⟩ (fun fr H I m w i=>?_);obtain ⟨x,y,⟨J,z,r⟩,rfl,rfl,rfl⟩:=i;refine Ua 2 [0,1,5,6,10] Z<|Ud (fun j=>?_) fun j=>?_
 ·have k:y≠0:=by simpa using j
  have A:(x.tmod y).natAbs=x.natAbs % y.natAbs:=S5 x y;have K:=Q2 x.natAbs (show 0<y.natAbs by omega);refine Uy [0,1,2,3,4,5] [] Z kr_ fun R B a=>Uh 3 Z<|Vh (x.tmod y) U6 k U3<|C4 2 [0,1,5,6] a Z<|Up (m':=(x.tmod y).natAbs+1) om_ w (hn_ [0,1,5,6] Z) ⟨y,x.tmod y,⟨z,by omega,by rw [A,<- r,Sx x.natAbs,TQ y.natAbs x.natAbs,Sx]⟩,Z,Z,Z⟩
 have k:y=0:=by simpa using j
 subst k;rw [show (0:Int).natAbs=0 from rfl,S4] at r;refine Ua 2 [0,1,5,16] Z<|G.cut (fun fr C' f h=>(True)/\fr=[(0,[],.int .i64 n),(1,[],.int .i64 d),(5,[],.int .i64 g)]/\f=[]) ?_ (fun fr _ L h _ i=>?_)
 ·refine Ud (fun l=>?_) fun l=>?_
  ·have D:x<0:=by simpa using l
   refine Ua 3 [0,1,5] Z ?_;rw [show IntKind.i64.wrap (0-x)=(g:Int) by rw [wrap_i64 om_ om_];omega];refine Uq 0 (Mem.le.refl _) (hn_ [0,1,5] Z) ⟨trivial,Z,Z⟩
  have D:¬ x<0:=by simpa using l
  rw [show x=(g:Int) by omega];refine Uq 0 (Mem.le.refl _) (hn_ [0,1,5] Z) ⟨trivial,Z,Z⟩
 obtain ⟨_,rfl,rfl⟩:=i;have E:(n / (g:Int)).natAbs<=n.natAbs:=by
  rw [Sr (SX.1 (Sf.2 q)),Q4];exact Rp _ _
 have s:=Rp d g;refine Uy [0,1,2,3,4,5,6,7] [] Z kr_ fun R B a=>Uh 2 Z<|Vq (n / (g:Int)) U6 om_ (pg q) (wrap_i64 om_ om_) U2<|Uh 2 Z<|Vj (d) (g) U6 u (.inl ⟨Z,by omega⟩) U2<|C4 2 [0,1] a Z<|Ua 2 [0,1,26] Z<|Ud (fun c=>?_) fun c=>?_
 ·have h1:d / g=1:=by
   have h2:(((d / g:Nat):Int))=1:=by simpa using c
   omega
  refine Ub 1 Z fun R a=>Ur (ji _ e.m_ _ om_ om_) U7 fl_<|C4 1 [4] a Z<|Ui U2<|⟨?_,Z⟩;rw [h1,mi rfl];simp [eO]
 have h1:d / g≠1:=by
  intro h2;rw [h2] at c;exact absurd c dc_
 have M:=mK (n / (g:Int));have N:=mK ((d / g:Nat):Int);have O:(bl (n / (g:Int)).natAbs).length<=20:=eH (Re E (Sz p dc_)) dc_;have Q:(bl ((d / g:Nat):Int).natAbs).length<=20:=eH (by rw [Q4];exact Re s (Sz t dc_)) dc_;refine Ub 1 Z fun R a=>Ur (ji _ e.m_ _ om_ om_) U7 fl_<|Va U6 (fun _=>(by simp only [QC,QW];omega)) U2<|Ue U6<|Ur (ji _ e.m_ ((d / g:Nat):Int) (TY dc_ (TS _)) (TY (Int.ofNat_le.2 s) om_)) U7 fl_<|Va U6 (fun _=>(by simp only [Qp,QC,QW];omega)) U2<|C4 1 [4] a Z<|Ui U2<|⟨?_,Z⟩;rw [fO h1,de,QO];rfl
theorem GI (C:Mem)(z:Int)(d:Nat)(k:Nat)(b:0<k)(g:k<=40000)(c:z.natAbs<B9 ^ k)(e:d<B9 ^ k):Gives cx.P 212 [ah (txt z),ah (bl d)] C (ah (txt z++eO (nM d))):=by
 have h:(txt z).length<=9*k+1:=by
  have:=bW c b;unfold txt;split
  ·simp;omega
  omega
 have i:=bW e b;refine Uk func212 12 U3 fun w0=>Ua 1 [0,1] Z<|Ua 2 [0,1,6] Z<|Ud (fun a=>?_) fun a=>?_
 ·have h1:d=1:=by rw [sJ] at a;exact aV a
  refine Ua 2 [4] Z<|Ui U2<|⟨?_,Z⟩;rw [mi h1];simp [eO]
 have h1:d≠1:=by rw [sJ] at a;exact Qm a
 refine Ub 1 Z fun R f=>Va U6 (fun _=>(by simp only [QC,QW];omega)) U2<|Ue U6<|Va U6 (fun _=>(by simp only [Qp,QC,QW];omega)) U2<|C4 1 [4] f Z<|Ui U2<|⟨?_,Z⟩;rw [fO h1,QO];rfl
theorem Fk (C:Mem)(s:Str)(c:s.length<1000000):Gives cx.P 143 [ah s] C (.tuple #[ah (jT 47 s).1,ah ((jT 47 s).2.getD [49])]):=by
 refine Uk func143 18 U3 fun w0=>Ua 2 [0] Z<|Ub 1 Z fun R d=>Uo (LI _ s 47 c) U7<|C4 7 [4,5,6] d Z<|Ua 2 [4,5,14] Z<|Ud (fun a=>?_) fun a=>?_
 ·have h1:(jT 47 s).2=none:=by
   cases h:(jT 47 s).2 with
   | none=>rfl
   | some b=>rw [h] at a;simp at a
  refine Ua 3 [2,3] Z<|Un (G.dropAll (UC U3 ?_));refine ⟨?_,Z⟩;rw [h1];rfl
 obtain ⟨b,h1⟩:∃ b,(jT 47 s).2=some b:=by
  cases h:(jT 47 s).2 with
  | some b=>exact ⟨b,rfl⟩
  | none=>rw [h] at a;simp at a
 refine Ua 4 [2,3] Z<|Un (G.dropAll (UC U3 ?_));refine ⟨?_,Z⟩;rw [h1];rfl
theorem BT {c:UInt8}:∀ {a:Str}(b:Str),c ∉ a->jT c (a++c::b)=(a,some b)
 | [],b,_=>by simp [jT]
 | x::a,b,h=>by
  have d:x≠c:=fun e=>h (e ▸ aL);have hr:=BT (c:=c) (a:=a) b (fun h2=>h (Qq _ h2));simp only [RZ,jT,aA d,hr]
theorem xt {c:UInt8}:∀ {a:Str},c ∉ a->jT c a=(a,none)
 | [],_=>rfl
 | x::a,h=>by
  have b:x≠c:=fun e=>h (e ▸ aL);have hr:=xt (c:=c) (a:=a) (fun h2=>h (Qq _ h2));simp only [jT,aA b,hr]
theorem vV (h:∀ c∈s,eP c=true):(47:UInt8) ∉ s:=fun h2=>absurd (h 47 h2) dc_
theorem vU (z:Int):(47:UInt8) ∉ txt z:=by
 unfold txt;split
 ·intro h;rcases Qw.1 h with h | h
  ·cases h
  exact vV (jR _) h
 exact vV (jR _)
theorem og (q:Rat):jT 47 (qtx q)=(txt q.num,nM q.den):=by
 rw [ph];unfold nM;split
 ·rw [show eO none=[] from rfl,QI];exact xt (vU _)
 exact BT _ (vU _)
theorem one_dec:bl 1=[49]:=by rw [bl];rfl
theorem Hl (d:Nat):(nM d).getD [49]=bl d:=by
 unfold nM;split
 ·rename_i h;subst h;exact one_dec.symm
 rfl
theorem MK (C:Mem)(q:Rat)(a:(qtx q).length<1000000):Gives cx.P 143 [ah (qtx q)] C (.tuple #[ah (txt q.num),ah (bl q.den)]):=by
 have h:=Fk C (qtx q) a
 rwa [og,Hl] at h
def kR (z w:Int):Rat:=mkRat (if w<0 then -z else z) w.natAbs
theorem pK (C:Mem)(f:Tabs C)(z w:Int)(k:Nat)(b:0<k)(e:k<=40000)(p:z.natAbs<B9 ^ k)(q:w.natAbs<B9 ^ k)(v:w≠0):Gives cx.P 144 [ah (txt z),ah (txt w)] C (ah (qtx (kR z w))):=by
 have x:=bW p b;have A:=bW q b;obtain ⟨y,hy⟩:∃ y,(if w<0 then -z else z)=y:=⟨_,rfl⟩;obtain ⟨d,r⟩:∃ d,w.natAbs=d:=⟨_,rfl⟩;have s:d≠0:=by omega
 have B:y.natAbs=z.natAbs:=by rw [<- hy];split <;> omega
 obtain ⟨g,c⟩:∃ g,Nat.gcd y.natAbs d=g:=⟨_,rfl⟩;have D:0<g:=by rw [<- c];exact S1 _ om_
 have t:g ∣ d:=by rw [<- c];exact Tt _ _
 have E:g<=d:=TU om_ t;unfold kR;rw [hy,r,AU s,c];refine Uk func144 35 U3 fun w0=>Ua 1 [0,1] Z<|Ub 1 Z fun R a=>Uo (lT _ w) U7<|C4 1 [0,1,8] a Z<|G.cut (fun fr C' i j=>(True)/\fr=[(0,[],ah (txt y)),(1,[],ah (txt (d:Nat)))]/\i=[]) ?_ (fun fr _ F j _ l=>?_)
 ·refine Ud (fun m=>?_) fun m=>?_
  ·have n:w<0:=by
    have h:eL w<0:=by simpa using m
    unfold eL at h;split at h <;> omega
   rw [aH n] at hy;refine Ub 1 Z fun R a=>Ur (uy _ z om_) U7 fl_<|Ue U6<|Ur (uy _ w om_) U7 fl_<|C4 2 [0,1] a Z<|Uq 0 (Mem.le.refl _) (hn_ [0,1] Z) ⟨trivial,by rw [hy,show -w=((d:Nat):Int) by omega],Z⟩
  have n:¬ w<0:=by
   intro h2;have h:¬ eL w<0:=by simpa using m
   unfold eL at h;split at h <;> omega
  rw [aA n] at hy;refine Uq 0 (Mem.le.refl _) (hn_ [0,1] Z) ⟨trivial,by rw [hy,show w=((d:Nat):Int) by omega],Z⟩
 obtain ⟨_,rfl,rfl⟩:=l;refine Ub 2 Z fun R a=>Ur (GO _ f.m_ y (d:Nat) k b e om_ om_) U7 fl_<|C4 1 [0,1,5] a Z ?_;rw [Q4,c];refine Ua 2 [0,1,5,17] Z<|G.cut (fun fr C' i j=>(True)/\fr=[(0,[],ah (txt (y / (g:Nat)))),(1,[],ah (txt ((d / g:Nat):Int)))]/\i=[]) ?_ (fun fr _ H j _ l=>?_)
 ·refine Ud (fun o=>?_) fun o=>?_
  ·refine Ub 2 Z fun R a=>Ur (sj _ f.m_ y (g:Nat) k b e om_ om_ om_) U7 fl_<|C4 5 [0,1,5] a Z<|Ub 2 Z fun R a=>Ur (sj _ f.m_ (d:Nat) (g:Nat) k b e om_ om_ om_) U7 fl_<|C4 5 [0,1] a Z<|Uq 0 (Mem.le.refl _) (hn_ [0,1] Z) ⟨trivial,by rw [TX],Z⟩
  have u:g=1:=by
   rw [de,sJ] at o;simpa using o
  refine Uq 0 (Mem.le.refl _) (hn_ [0,1] Z) ⟨trivial,by rw [u,Nat.div_one,Int.natCast_one,Int.ediv_one],Z⟩
 obtain ⟨_,rfl,rfl⟩:=l;rw [de];exact Ub 2 Z fun R a=>Ur (GI _ (y / (g:Nat)) (d / g) k b e (by rw [Sr (SX.1 (Sf.2 (by rw [<- c];exact Tf _ _))),Q4];exact Re (Rp _ _) om_) (Re (Rp _ _) om_)) U7 fl_<|C4 1 [4] a Z<|Ui U2<|⟨Z,Z⟩
theorem NF {a b:Nat}(h:bl a=bl b):a=b:=by rw [<- (bC a).2,h,(bC b).2]
theorem Of (h:txt z=txt w):z=w:=by
 have h1:=dC z;rw [h,dC w] at h1;have h2:=NF (TZ h1).1;have h3:decide (w<0)=decide (z<0):=(TZ h1).2;by_cases a:w<0
 ·rw [QD a] at h3;have:=aV h3.symm;omega
 rw [QK a] at h3;have:=Qm h3.symm;omega
theorem lF (h:qtx a=qtx b):a=b:=by
 have h1:=og a;rw [h,og b] at h1;have h2:=Of (TZ h1).1;have h3:=congrArg P9 (TZ h1).2;rw [qo,qo] at h3;exact Rat.ext h2.symm h3.symm
theorem My (a b:Rat):((⟨(qtx a).toArray⟩:ByteArray).data.toList == (⟨(qtx b).toArray⟩:ByteArray).data.toList)=decide (a=b):=by
 show (qtx a == qtx b)=_;rw [S3,RU,Qs];exact ⟨lF,fun h=>by rw [h]⟩
theorem qtx_zero:qtx 0=[48]:=by
 rw [show (0:Rat)=((0:Int):Rat) from rfl,mR];unfold txt;rw [aA om_,show bl (0:Int).natAbs=bl 0 from rfl,bl];rfl
theorem dy:qtx 1=[49]:=by
 rw [show (1:Rat)=((1:Int):Rat) from rfl,mR];exact one_val.symm
theorem fX (a:Rat):((⟨(qtx a).toArray⟩:ByteArray).data.toList == (⟨#[48]⟩:ByteArray).data.toList)=decide (a=0):=by
 have h:=My a 0
 rwa [qtx_zero] at h
theorem Lc (a:Rat):((⟨(qtx a).toArray⟩:ByteArray).data.toList == (⟨#[49]⟩:ByteArray).data.toList)=decide (a=1):=by
 have h:=My a 1
 rwa [dy] at h
theorem FC (a:Rat):0<(qtx a).length:=by
 unfold qtx;rw [Qp,Qp];have:=Q3.2 (yW a.num.natAbs);omega
theorem bK (h:QB k q)(a:0<k):(qtx q).length<=18*k+2:=by
 unfold qtx;rw [Qp,Qp];have h1:=bW h.1 a;have h2:=bW h.2 a;have h3:(Ji (decide (q.num<0))).length<=1:=by cases decide (q.num<0) <;> simp [Ji]
 have h4:(eO (nM q.den)).length<=9*k+1:=by
  unfold nM;split
  ·simp [eO]
  simp [eO];exact h2
 omega
theorem tX (q:Rat):∃ c r,qtx q=c::r/\((((c.toNat:Nat):Int) == 45)=decide (q.num<0)):=by
 by_cases h:q.num<0
 ·refine ⟨45,bl q.num.natAbs++eO (nM q.den), ?_,by rw [QD h];decide⟩;unfold qtx;rw [QD h];rfl
 obtain ⟨c,r,a⟩:∃ c r,bl q.num.natAbs=c::r:=List.exists_cons_of_ne_nil (yW _);refine ⟨c,r++eO (nM q.den), ?_, ?_⟩
 ·unfold qtx;rw [QK h,a];rfl
 have h2:=jR q.num.natAbs c (by rw [a];exact aL);rw [QK h];unfold eP at h2;have h3:=aV h2;exact QK om_
theorem gg (h:¬ q.num<0)(a:q≠0):qtx (-q)=45::qtx q:=by
 have b:q.num≠0:=fun e=>a (Tn.1 e);unfold qtx;rw [TR,Rat.neg_den,QD om_,QK h,Tr];rfl
theorem re (h:q.num<0):qtx q=45::qtx (-q):=by
 have h2:=gg (q:=-q) (by rw [TR];omega) (by intro e;have h3:=congrArg Rat.num e;rw [TR] at h3;have h4:(0:Rat).num=0:=rfl;omega)
 rwa [Rat.neg_neg] at h2
def DH (q:Rat):Bool:=Nt (bl q.num.natAbs) (nM q.den)
theorem Lz (h:(bl n).length<=9):n<1000000000:=by
 have h1:=dU (jR n);rw [(bC n).2] at h1;exact RB h1 (QE (QH dc_ h) dc_)
theorem mY (h:DH q=true):q.num.natAbs<1000000000/\q.den<1000000000:=by
 unfold DH Nt at h;rw [Qu,Qs,Qs] at h;refine ⟨Lz h.1, ?_⟩;by_cases h1:q.den=1
 ·omega
 rw [fO h1] at h;exact Lz h.2
theorem Fj (C:Mem)(q:Rat)(a:(qtx q).length<=1000000):Gives cx.P 141 [ah (qtx q)] C (if DH q then .tuple #[.int .i64 q.num,.int .i64 (q.den:Nat),.bool true] else .tuple #[.int .i64 0,.int .i64 0,.bool false]):=by
 have h:=CW C (decide (q.num<0)) (bl q.num.natAbs) (nM q.den) (jR _) (yW _) (Kj _) a;unfold rP at h;rw [(bC _).2,qo] at h;have e:sgZ (decide (q.num<0)) q.num.natAbs=q.num:=by
  unfold sgZ;by_cases h:q.num<0
  ·rw [QD h,aH rfl];omega
  rw [QK h,aA dc_];omega
 rw [e] at h;exact h
theorem eN (C:Mem)(q:Rat)(g:(qtx q).length<=1000000):Gives cx.P 174 [ah (qtx q)] C (ah (qtx (-q))):=by
 have h:=FC q;refine Uk func174 13 U3 fun w0=>Ua 1 [0] Z<|Ua 2 [0,4] Z<|Ud (fun h4=>?_) fun h4=>?_
 ·have h0:q=0:=by rw [fX] at h4;exact aV h4
  refine Ua 2 [2] Z<|Ui U2<|⟨?_,Z⟩;rw [h0,Rat.neg_zero]
 have h0:q≠0:=by rw [fX] at h4;exact Qm h4
 obtain ⟨c,r,f,e⟩:=tX q;refine Ub 1 Z fun R a=>UZ U8 (fun _=>⟨by omega,by rw [f];rfl⟩) U2<|C4 1 [0,8] a Z<|Ud (fun b=>?_) fun b=>?_
 ·have d:q.num<0:=by rw [e] at b;exact aV b
  refine Ub 1 Z fun R a=>Vb 1 (qtx q).length U9 (fun _=>⟨.inr ⟨_,Z⟩,.inl ⟨Z,Z⟩,.inl ⟨Z,Z⟩,by omega,Qj _,Qj _⟩) U2<|C4 1 [2] a Z<|Ui U2<|⟨?_,Z⟩;rw [Qv,re d];rfl
 have d:¬ q.num<0:=by rw [e] at b;exact Qm b
 refine Ub 1 Z fun R a=>Va U6 (fun _=>(by simp only [QC,QW];omega)) U2<|C4 1 [2] a Z<|Ui U2<|⟨?_,Z⟩;rw [gg d h0];rfl
theorem fW (C:Mem)(q:Rat)(j:(qtx q).length<=1000000):Gives cx.P 58 [ah (qtx q)] C (.int .i64 (eL q.num)):=by
 obtain ⟨c,r,f,d⟩:=tX q;have k:=FC q;refine Uk func58 15 U3 fun w0=>Ua 1 [0] Z<|Ua 3 [0,3] Z<|Ud (fun h3=>?_) fun h3=>?_
 ·have h0:q=0:=by rw [fX] at h3;exact aV h3
  refine Ua 1 [2] Z<|Ui U2<|⟨?_,Z⟩;rw [h0];rfl
 have h0:q≠0:=by rw [fX] at h3;exact Qm h3
 have g:q.num≠0:=fun e=>h0 (Tn.1 e);refine Ub 5 Z fun R i=>UZ U8 (fun _=>⟨by omega,by rw [f];rfl⟩) U2<|Ue U6<|UD U8<|C4 1 [6] i Z<|Ud (fun a=>?_) fun a=>?_
 ·rw [d] at a;have b:q.num<0:=by
   have h:=(Qu _ _ ▸ a:_/\_).2;exact aV h
  skip
  refine Ua 1 [2] Z<|Ui U2<|⟨?_,Z⟩;unfold eL;rw [aH b]
 rw [d,QD (show (0:Int)<((⟨(qtx q).toArray⟩:ByteArray).data.toList.length:Int) by show (0:Int)<(((qtx q).length:Nat):Int);omega),Tz] at a;have b:¬ q.num<0:=Qm a;refine Ua 1 [2] Z<|Ui U2<|⟨?_,Z⟩;unfold eL;rw [aA b,aA g]
theorem jD (C:Mem)(q:Rat)(b:(qtx q).length<=1000000):Gives cx.P 141 [ah (qtx q)] C (.tuple #[.int .i64 (if DH q then q.num else 0),.int .i64 (if DH q then ((q.den:Nat):Int) else 0),.bool (DH q)]):=by
 have h:=Fj C q b;cases a:DH q with
 | true=>rw [a] at h;exact h
 | false=>rw [a] at h;exact h
def sP (a b:Rat):Int:=if a<b then -1 else if b<a then 1 else 0
theorem uY :sP a b=vz (a.num*b.den) (b.num*a.den):=by
 unfold sP vz;simp only [Rat.lt_iff]
theorem gW (a:Rat):0<a.den:=Se a.den_nz
theorem nV {a:Int}(b:a.natAbs<1000000000)(c:d<1000000000):-1000000000000000000<a*(d:Int)/\a*(d:Int)<1000000000000000000:=FJ b (by rw [Q4];exact c)
theorem wK {a:Nat}(b:a<1000000000)(c:d<1000000000):a*d<1000000000000000000:=Sg b c
theorem kJ (C:Mem)(q:Rat)(a:(qtx q).length<1000000):Gives cx.P 143 [ah (qtx q)] C (.tuple #[ah (txt q.num),ah (txt ((q.den:Nat):Int))]):=by
 have h:=MK C q a
 rwa [<- de] at h
theorem dZ (a:z.natAbs<B9 ^ k)(b:w.natAbs<B9 ^ k):(z*w).natAbs<B9 ^ (k+k):=by
 rw [RX];exact nS a b
theorem BJ (a:0<d):kR z ((d:Nat):Int)=mkRat z d:=by
 unfold kR;rw [aA om_,Q4]
theorem rr (h:QB k q):((q.den:Nat):Int).natAbs<B9 ^ k:=by rw [Q4];exact h.2
theorem gU (C:Mem)(m:Tabs C)(a b:Rat)(k:Nat)(f:0<k)(u:k<=20000)(d:QB k a)(e:QB k b):Gives cx.P 107 [ah (qtx a),ah (qtx b)] C (.int .i64 (sP a b)):=by
 have v:=bK d f;have w:=bK e f;refine Uk func107 65 U3 fun w0=>Ua 1 [0,1] Z<|Ua 3 [0,1,19] Z<|Ud (fun g=>?_) fun g=>?_
 ·have h0:a=b:=by rw [My] at g;exact aV g
  refine Ua 1 [4] Z<|Ui U2<|⟨?_,Z⟩;subst h0;rw [sP,aA (Rat.lt_irrefl),aA (Rat.lt_irrefl)]
 refine Ub 1 Z fun R c=>Ur (jD _ a om_) U7 fl_<|C4 7 [0,1,5,6,7] c Z<|Ua 1 [0,1,5,6,26] Z<|G.cut (fun fr C' r s=>(True)/\fr=[(0,[],ah (qtx a)),(1,[],ah (qtx b))]/\r=[]) ?_ (fun fr _ x s _ t=>?_)
 ·refine Ud (fun n=>?_) fun n=>?_
  ·have h:DH a=true:=n;rw [aH h,aH h];have o:=mY h;refine Ub 1 Z fun R c=>Ur (jD _ b om_) U7 fl_<|C4 7 [0,1,5,6,8,9,10] c Z<|Ua 1 [0,1,5,6,8,9,33] Z<|Ud (fun p=>?_) fun p=>?_
   ·have i:DH b=true:=p;rw [aH i,aH i];have q:=mY i;have y:=nV o.1 q.2;have z:=nV q.1 o.2;refine Ub 2 Z fun R c=>Ul _ U7<|Uh 2 Z<|Ul _ U7<|C4 2 [11,12] c Z<|Ua 4 [11,12,40] Z<|Ud (fun j=>?_) fun j=>?_
    ·have h1:=aV j;refine Ua 1 [4] Z<|Ui U2<|⟨?_,Z⟩;rw [uY,vz,aH h1]
    have h1:=Qm j;refine Ua 4 [44] Z<|Ud (fun l=>?_) fun l=>?_
    ·have h2:=aV l;refine Ua 1 [4] Z<|Ui U2<|⟨?_,Z⟩;rw [uY,vz,aA h1,aH h2]
    have h2:=Qm l;refine Ua 1 [4] Z<|Ui U2<|⟨?_,Z⟩;rw [uY,vz,aA h1,aA h2]
   refine Uq 0 (Mem.le.refl _) (hn_ [0,1] Z) ⟨trivial,Z,Z⟩
  refine Uq 0 (Mem.le.refl _) (hn_ [0,1] Z) ⟨trivial,Z,Z⟩
 obtain ⟨_,rfl,rfl⟩:=t;exact Ub 1 Z fun R c=>Ur (kJ _ a om_) U7 fl_<|C4 5 [1,13,14] c Z<|Ub 1 Z fun R c=>Ur (kJ _ b om_) U7 fl_<|C4 5 [13,14,15,16] c Z<|Ub 2 Z fun R c=>Ur (kN _ m.m_ _ _ k f om_ d.1 (rr e)) U7 fl_<|Uh 2 Z<|Ur (kN _ m.m_ _ _ k f om_ e.1 (rr d)) U7 fl_<|Ur (pT _ _ _ (by have:=bW (dZ d.1 (rr e)) om_;omega) (by have:=bW (dZ e.1 (rr d)) om_;omega)) U7 fl_<|C4 1 [4] c Z<|Ui U2<|⟨by rw [uY],Z⟩
theorem mQ (C:Mem)(f:Tabs C)(a b:Rat)(k:Nat)(g:0<k)(w:k<=10000)(d:QB k a)(e:QB k b):Gives cx.P 91 [ah (qtx a),ah (qtx b)] C (ah (qtx (a+b))):=by
 have x:=bK d g;have y:=bK e g;have r:=gW a;have s:=gW b;have o:0<a.den*b.den:=SV r s;refine Uk func91 67 U3 fun w0=>Ua 1 [0,1] Z<|Ua 2 [0,1,16] Z<|Ud (fun h=>?_) fun h=>?_
 ·have h0:a=0:=by rw [fX] at h;exact aV h
  refine Ua 2 [4] Z<|Ui U2<|⟨?_,Z⟩;rw [h0,Rat.zero_add]
 refine Ua 2 [0,1,19] Z<|Ud (fun i=>?_) fun i=>?_
 ·have h0:b=0:=by rw [fX] at i;exact aV i
  refine Ua 2 [4] Z<|Ui U2<|⟨?_,Z⟩;rw [h0,Rat.add_zero]
 refine Ub 1 Z fun R c=>Ur (jD _ a om_) U7 fl_<|C4 7 [0,1,5,6,7] c Z<|Ua 1 [0,1,5,6,27] Z<|G.cut (fun fr C' t u=>(True)/\fr=[(0,[],ah (qtx a)),(1,[],ah (qtx b))]/\t=[]) ?_ (fun fr _ z u _ v=>?_)
 ·refine Ud (fun p=>?_) fun p=>?_
  ·have j:DH a=true:=p;rw [aH j,aH j];have l:=mY j;refine Ub 1 Z fun R c=>Ur (jD _ b om_) U7 fl_<|C4 7 [0,1,5,6,8,9,10] c Z<|Ua 1 [0,1,5,6,8,9,34] Z<|Ud (fun q=>?_) fun q=>?_
   ·have m:DH b=true:=q;rw [aH m,aH m];have n:=mY m;have A:=nV l.1 n.2;have B:=nV n.1 l.2;have D:=wK l.2 n.2;exact Ub 2 Z fun R c=>Ul _ U7<|Uh 2 Z<|Ul _ U7<|Ul _ U7<|Uh 2 Z<|UN (((a.den*b.den:Nat):Int)) U4 (Rc _ _).symm om_ om_ U2<|Ur (we _ f.m_ _ _ o om_ om_) U7 fl_<|C4 1 [4] c Z<|Ui U2<|⟨by rw [jF],Z⟩
   refine Uq 0 (Mem.le.refl _) (hn_ [0,1] Z) ⟨trivial,Z,Z⟩
  refine Uq 0 (Mem.le.refl _) (hn_ [0,1] Z) ⟨trivial,Z,Z⟩
 obtain ⟨_,rfl,rfl⟩:=v;exact Ub 1 Z fun R c=>Ur (kJ _ a om_) U7 fl_<|C4 5 [1,11,12] c Z<|Ub 1 Z fun R c=>Ur (kJ _ b om_) U7 fl_<|C4 5 [11,12,13,14] c Z<|Ub 2 Z fun R c=>Ur (kN _ f.m_ _ _ k g om_ d.1 (rr e)) U7 fl_<|Uh 2 Z<|Ur (kN _ f.m_ _ _ k g om_ e.1 (rr d)) U7 fl_<|Ur (Nk _ f.m_ _ _ (k+k) om_ om_ (dZ d.1 (rr e)) (dZ e.1 (rr d))) U7 fl_<|Uh 2 Z<|Ur (kN _ f.m_ _ _ k g om_ (rr d) (rr e)) U7 fl_<|Ur (pK _ f.m_ _ _ (k+k+1) om_ om_ (Re (S7 _ _) (yf (dZ d.1 (rr e)) (dZ e.1 (rr d)))) (dz (dZ (rr d) (rr e)) om_) (by rw [<- Rc];omega)) U7 fl_<|C4 1 [4] c Z<|Ui U2<|⟨by rw [jF,<- Rc,BJ o],Z⟩
theorem Pn (c:QB k a)(d:QB k b):QB (k+k+1) (a+b):=by
 rw [jF];exact hU (Nat.ne_of_gt (SV (gW a) (gW b))) (Re (S7 _ _) (yf (dZ c.1 (rr d)) (dZ d.1 (rr c)))) (dz (nS c.2 d.2) om_)
theorem qP (c:QB k a)(d:QB k b):QB (k+k) (a*b):=by
 rw [gx];exact hU (Nat.ne_of_gt (SV (gW a) (gW b))) (dZ c.1 d.1) (nS c.2 d.2)
theorem fa (b:QB k a):QB k (-a):=⟨by rw [TR,Tr];exact b.1,by rw [Rat.neg_den];exact b.2⟩
theorem mA (c:QB k a)(d:QB k b):QB (k+k+1) (a-b):=by
 rw [TT];exact Pn c (fa d)
theorem Cj (b:QB k a)(d:a≠0):QB k a⁻¹:=by
 have c:a.num≠0:=fun e=>d (Tn.1 e);refine ⟨?_, ?_⟩
 ·rw [Rat.num_inv,RX,Int.natAbs_sign_of_ne_zero c,Th,Q4];exact b.2
 rw [Rat.den_inv,aA c];exact b.1
theorem jr (c:QB k a)(d:QB k b)(e:b≠0):QB (k+k) (a / b):=by
 rw [Rat.div_def];exact qP c (Cj d e)
theorem Pm (h:z.natAbs<B9 ^ k)(a:0<k):QB k (z:Rat):=⟨h,by
 show 1<B9 ^ k;exact RB (by decide:1<B9 ^ 1) (QH dc_ a)⟩
theorem dR (C:Mem)(g:Tabs C)(a b:Rat)(k:Nat)(i:0<k)(y:k<=10000)(d:QB k a)(e:QB k b):Gives cx.P 92 [ah (qtx a),ah (qtx b)] C (ah (qtx (a*b))):=by
 have z:=bK d i;have A:=bK e i;have w:=gW a;have x:=gW b;have q:0<a.den*b.den:=SV w x;refine Uk func92 66 U3 fun w0=>Ua 1 [0,1] Z<|Ua 3 [0,1,15] Z<|G.cut (fun fr C' L' j=>(True)/\fr=[(0,[],ah (qtx a)),(1,[],ah (qtx b)),(15,[],.bool (decide (a=0∨b=0)))]/\L'=[]) ?_ (fun fr _ B j _ l=>?_)
 ·refine Ud (fun f=>?_) fun f=>?_
  ·have h0:a=0:=by rw [fX] at f;exact aV f
   rw [fX,show decide (a=0)=decide (a=0∨b=0) by simp [h0]];refine Uq 0 (Mem.le.refl _) (hn_ [0,1,15] Z) ⟨trivial,Z,Z⟩
  have h0:¬ a=0:=by rw [fX] at f;exact Qm f
  refine Ua 3 [0,1,15] Z ?_;rw [fX,show decide (b=0)=decide (a=0∨b=0) by simp [h0]];refine Uq 0 (Mem.le.refl _) (hn_ [0,1,15] Z) ⟨trivial,Z,Z⟩
 obtain ⟨_,rfl,rfl⟩:=l;refine Ud (fun r=>?_) fun r=>?_
 ·have h0:=aV r;refine Ua 1 [4] Z<|Ui U2<|⟨?_,Z⟩;rw [show a*b=0 by rcases h0 with h | h <;> simp [h],qtx_zero];rfl
 refine Ua 3 [0,1,20] Z<|Ud (fun m=>?_) fun m=>?_
 ·have h1:a=1:=by rw [Lc] at m;exact aV m
  refine Ua 2 [4] Z<|Ui U2<|⟨?_,Z⟩;rw [h1,Rat.one_mul]
 refine Ua 3 [0,1,24] Z<|Ud (fun n=>?_) fun n=>?_
 ·have h1:b=1:=by rw [Lc] at n;exact aV n
  refine Ua 2 [4] Z<|Ui U2<|⟨?_,Z⟩;rw [h1,Rat.mul_one]
 refine Ub 1 Z fun R c=>Ur (jD _ a om_) U7 fl_<|C4 7 [0,1,5,6,7] c Z<|Ua 1 [0,1,5,6,34] Z<|G.cut (fun fr C' L' j=>(True)/\fr=[(0,[],ah (qtx a)),(1,[],ah (qtx b))]/\L'=[]) ?_ (fun fr _ D j _ l=>?_)
 ·refine Ud (fun s=>?_) fun s=>?_
  ·have o:DH a=true:=s;rw [aH o,aH o];have t:=mY o;refine Ub 1 Z fun R c=>Ur (jD _ b om_) U7 fl_<|C4 7 [0,1,5,6,8,9,10] c Z<|Ua 1 [0,1,5,6,8,9,41] Z<|Ud (fun u=>?_) fun u=>?_
   ·have p:DH b=true:=u;rw [aH p,aH p];have v:=mY p;have E:=FJ t.1 v.1;have F:=wK t.2 v.2;exact Ub 2 Z fun R c=>Ul _ U7<|Uh 2 Z<|UN (((a.den*b.den:Nat):Int)) U4 (Rc _ _).symm om_ om_ U2<|Ur (we _ g.m_ _ _ q om_ om_) U7 fl_<|C4 1 [4] c Z<|Ui U2<|⟨by rw [gx],Z⟩
   refine Uq 0 (Mem.le.refl _) (hn_ [0,1] Z) ⟨trivial,Z,Z⟩
  refine Uq 0 (Mem.le.refl _) (hn_ [0,1] Z) ⟨trivial,Z,Z⟩
 obtain ⟨_,rfl,rfl⟩:=l;exact Ub 1 Z fun R c=>Ur (kJ _ a om_) U7 fl_<|C4 5 [1,11,12] c Z<|Ub 1 Z fun R c=>Ur (kJ _ b om_) U7 fl_<|C4 5 [11,12,13,14] c Z<|Ub 2 Z fun R c=>Ur (kN _ g.m_ _ _ k i om_ d.1 e.1) U7 fl_<|Uh 2 Z<|Ur (kN _ g.m_ _ _ k i om_ (rr d) (rr e)) U7 fl_<|Ur (pK _ g.m_ _ _ (k+k) om_ om_ (dZ d.1 e.1) (dZ (rr d) (rr e)) (by rw [<- Rc];omega)) U7 fl_<|C4 1 [4] c Z<|Ui U2<|⟨by rw [gx,<- Rc,BJ q],Z⟩
theorem ec (C:Mem)(e:Tabs C)(a b:Rat)(k:Nat)(c:0<k)(f:k<=10000)(g:QB k a)(d:QB k b):Gives cx.P 226 [ah (qtx a),ah (qtx b)] C (ah (qtx (a-b))):=by
 have i:=bK d c;exact Uk func226 9 U3 fun w0=>Ua 1 [0,1] Z<|Ub 2 Z fun R h=>Ur (eN _ b om_) U7 fl_<|Uo (mQ _ e.m_ a (-b) k c f g (fa d)) U7<|C4 1 [4] h Z<|Ui U2<|⟨by rw [TT],Z⟩
theorem gT (C:Mem)(n:Tabs C)(a b:Rat)(k:Nat)(g:0<k)(o:k<=10000)(p:QB k a)(f:QB k b)(h:b≠0):Gives cx.P 199 [ah (qtx a),ah (qtx b)] C (.tuple #[ah (qtx (a / b)),.int .i64 0]):=by
 have v:=bK f g;have q:b.num≠0:=fun e=>h (Tn.1 e);obtain ⟨c,r,s,l⟩:=tX b;refine Uk func199 27 U3 fun w0=>Ua 2 [0,1] Z<|Ua 2 [0,1,9] Z<|Ud (fun j=>?_) fun j=>?_
 ·exfalso;rw [fX] at j;exact h (aV j)
 refine Ub 1 Z fun R d=>Ur (kJ _ b om_) U7 fl_<|C4 5 [0,1,6,7] d Z<|Ub 1 Z fun R d=>UZ U8 (fun _=>⟨by omega,by rw [s];rfl⟩) U2<|C4 1 [0,6,7,17] d Z<|G.cut (fun fr C' L' t=>(True)/\fr=[(0,[],ah (qtx a)),(6,[],ah (txt (b.num.natAbs:Nat))),(7,[],ah (txt (b⁻¹).num))]/\L'=[]) ?_ (fun fr _ w t _ u=>?_)
 ·refine Ud (fun i=>?_) fun i=>?_
  ·have m:b.num<0:=by rw [l] at i;exact aV i
   refine Ub 1 Z fun R d=>Ur (uy _ b.num (by have:=bW f.1 g;omega)) U7 fl_<|Ue U6<|Ur (uy _ ((b.den:Nat):Int) (by have:=bW (rr f) g;omega)) U7 fl_<|C4 2 [0,6,7] d Z ?_;rw [show -b.num=((b.num.natAbs:Nat):Int) by omega,show -((b.den:Nat):Int)=(b⁻¹).num by rw [Rat.num_inv,Int.sign_eq_neg_one_of_neg m,Int.neg_one_mul]];refine Uq 0 (Mem.le.refl _) (hn_ [0,6,7] Z) ⟨trivial,Z,Z⟩
  have m:¬ b.num<0:=by rw [l] at i;exact Qm i
  rw [show b.num=((b.num.natAbs:Nat):Int) by omega,show ((b.den:Nat):Int)=(b⁻¹).num by rw [Rat.num_inv,Int.sign_eq_one_of_pos om_,Int.one_mul]];refine Uq 0 (Mem.le.refl _) (hn_ [0,6,7] Z) ⟨trivial,Z,Z⟩
 obtain ⟨_,rfl,rfl⟩:=u;rw [de,show b.num.natAbs=(b⁻¹).den by rw [Rat.den_inv,aA q]];refine Ub 3 Z fun R d=>Ur (GI _ _ _ k g om_ (Cj f h).1 (Cj f h).2) U7 fl_ ?_;rw [<- ph b⁻¹];refine Uo (dR _ n.m_ a b⁻¹ k g o p (Cj f h)) U7<|C4 2 [4,5] d Z<|Un (G.dropAll (UC U3 ?_));exact ⟨by rw [Rat.div_def],Z⟩
theorem Mt (C:Mem)(c:Tabs C)(z w:Int)(k:Nat)(d:0<k)(e:k<=40000)(f:z.natAbs<B9 ^ k)(g:w.natAbs<B9 ^ k)(i:w≠0):Gives cx.P 150 [ah (txt z),ah (txt w)] C (.tuple #[ah (qtx (kR z w)),.int .i64 0]):=by
 refine Uk func150 12 U3 fun w0=>Ua 2 [0,1] Z<|Ub 1 Z fun R a=>Uo (lT _ w) U7<|C4 1 [0,1,8] a Z<|Ud (fun b=>?_) fun b=>?_
 ·exfalso;have h:eL w=0:=by simpa using b
  rcases eo w with h2 | h2 | h2 <;> omega
 refine Ub 2 Z fun R a=>Uo (pK _ c.m_ z w k d e f g i) U7<|C4 2 [4,5] a Z<|Un (G.dropAll (UC U3 ?_));exact ⟨Z,Z⟩
theorem Fp (C:Mem)(a:Tabs C)(z w:Int)(d:z.natAbs<9000000000000000000)(e:w.natAbs<9000000000000000000)(b:w≠0):Gives cx.P 98 [.int .i64 z,.int .i64 w] C (.tuple #[ah (qtx (kR z w)),.int .i64 0]):=by
 have f:9000000000000000000<B9 ^ 3:=by decide
 refine Uk func98 13 U3 fun w0=>Ua 2 [0,1] Z<|Ub 1 Z fun R c=>Ur (sh _ a.m_ z om_ om_) U7 fl_<|Ue U6<|Ur (sh _ a.m_ w om_ om_) U7 fl_<|Ur (Mt _ a.m_ z w 3 dc_ dc_ om_ om_ b) U7 fl_<|C4 4 [4,5] c Z<|Un (G.dropAll (UC U3 ?_));exact ⟨Z,Z⟩
theorem li (C:Mem)(a:Tabs C)(z:Int)(c:z.natAbs<9000000000000000000):Gives cx.P 45 [.int .i64 z] C (ah (qtx z)):=by
 exact Uk func45 5 U3 fun w0=>Ua 1 [0] Z<|Ub 1 Z fun R b=>Ur (sh _ a.m_ z om_ om_) U7 fl_<|C4 1 [2] b Z<|Ui U2<|⟨by rw [mR],Z⟩
theorem pow9 (k:Nat):B9 ^ k=10 ^ (9*k):=by rw [Nat.pow_mul]
theorem fB (h:cK s=true):s=txt (iG s)/\(iG s).natAbs<B9 ^ 23:=by
 have h1:=rM.1 h;refine ⟨HI (by unfold cK at h;exact (SU.1 h).1), ?_⟩;rw [Kk];have h2:=yv.1 h1.1;have h3:=dU h2.1.1;exact RB h3 (by rw [pow9];exact QH dc_ om_)
theorem La (h:ba s=true):∃ q:Rat,s=qtx q/\QB 23 q:=by
 unfold ba at h;rw [Qu,Qu] at h;obtain ⟨⟨h1,h2⟩,h3⟩:=h;obtain ⟨a,b⟩:=fB h1;rcases gK 47 s with ⟨d,_,_⟩ | ⟨c,post,d,hs,_⟩
 ·rw [d] at a b;exact ⟨((iG s:Int):Rat),by rw [mR];exact a,Pm b dc_⟩
 rw [d] at h2 h3 a b;simp only [Rx] at h2 a b;obtain ⟨e,f⟩:=fB h2;unfold pf at h3;simp only [Qu,Qs,RU] at h3;obtain ⟨⟨h4,_⟩,g⟩:=h3;have i:(iG post).natAbs≠0:=by omega
 refine ⟨⟨iG c,(iG post).natAbs,i,g⟩, ?_,b,f⟩;rw [ph];show s=txt (iG c)++eO (nM (iG post).natAbs);rw [fO om_,<- a,hs];show c++47::post=c++47::bl (iG post).natAbs;rw [<- de,show (((iG post).natAbs:Nat):Int)=iG post by omega,<- e]
theorem rn (C:Mem)(b:Str)(a:cK b=true):Gives cx.P 161 [ah b,ah [49]] C (.int .i64 (vz (iG b) 1)):=by
 obtain ⟨h1,h2⟩:=fB a;have h:=pT C (iG b) 1 (by have:=bW h2 dc_;omega) (by rw [show bl (1:Int).natAbs=[49] from one_dec];decide)
 rwa [<- one_val,<- h1] at h
theorem Dw (C:Mem)(c:Tabs C)(a b:Str)(d:cK a=true)(e:cK b=true):Gives cx.P 208 [ah a,ah b] C (ah (txt (Nat.gcd (iG a).natAbs (iG b).natAbs:Nat))):=by
 obtain ⟨h1,h2⟩:=fB d;obtain ⟨h3,h4⟩:=fB e;have h:=GO C c (iG a) (iG b) 23 dc_ dc_ h2 h4
 rwa [<- h1,<- h3] at h
theorem xx {b:Bool}(h:(qF b != 0)=false):b=true:=by cases b <;> first | rfl | (exact absurd h dc_)
theorem dV (C:Mem)(y:Tabs C)(s:Str)(A:s.length<=999998):Gives cx.P 140 [ah s] C (.int .i64 (qF (ba s))):=by
 have u:=Fv A;obtain ⟨c,f,l⟩:∃ a b,jT 47 s=(a,b):=⟨_,_,rfl⟩;have k:ba s=(cK c && cK (f.getD [49]) && pf (iG c) f):=by
  unfold ba;rw [l]
 rw [l] at u;simp only at u;refine Uk func140 39 U3 fun w0=>Ua 1 [0] Z<|Ub 1 Z fun R g=>Ur (by have h:=LI C s 47 om_;rw [l] at h;exact h) U7 fl_<|C4 7 [3,4,5] g Z<|Ub 1 Z fun R g=>Uo (xa _ c) U7<|C4 1 [3,4,5,16] g Z<|Ud (fun i=>?_) fun i=>?_
 ·have j:ba s=false:=by
   rw [k];cases h1:cK c with
   | false=>rfl
   | true=>rw [h1] at i;exact absurd i dc_
  exact Ua 1 [2] Z<|Ui U2<|⟨by rw [j];rfl,Z⟩
 have m:cK c=true:=by
  cases h1:cK c with
  | true=>rfl
  | false=>rw [h1] at i;exact absurd i dc_
 rw [m,Tz] at k;obtain ⟨v,B⟩:=fB m;refine Ua 2 [3,4,18] Z<|Ud (fun n=>?_) fun n=>?_
 ·have o:f=none:=by
   cases f with
   | none=>rfl
   | some b=>simp at n
  refine Ua 1 [2] Z<|Ui U2<|⟨?_,Z⟩;rw [k,o];rfl
 obtain ⟨b,o⟩:∃ b,f=some b:=by
  cases f with
  | some b=>exact ⟨b,rfl⟩
  | none=>simp at n
 subst o;obtain ⟨d,w⟩:∃ z,iG c=z:=⟨_,rfl⟩;obtain ⟨e,x⟩:∃ z,iG b=z:=⟨_,rfl⟩;have p:ba s=(cK b && pf (iG c) (some b)):=k;unfold pf at p;simp only [w,x] at p v B;have D:(c == [48])=(d == 0):=by
  rw [v];have h:=lk d;rw [show (d == 0)=decide (d=0) by by_cases h:d=0 <;> simp [h]];exact h
 have E:(qF (cK b) != 0)=!cK b:=by cases cK b <;> rfl
 have F:decide (vz e 1<=0)=!decide (1<e):=by
  unfold vz;by_cases h:1<e
  ·rw [aA om_,aH h,QD h];rfl
  rw [QK h];refine QD ?_;split <;> first | omega | (split <;> omega)
 have q:(qF (cK b) != 0 || decide (vz (iG b) 1<=0) || (c == [48]) || !(bl ((iG c).natAbs.gcd (iG b).natAbs) == [49]))=!ba s:=by
  have G:=sJ (d.natAbs.gcd e.natAbs);have H:(bl (d.natAbs.gcd e.natAbs) == [49])=(d.natAbs.gcd e.natAbs == 1):=G;rw [w,x,D,E,F,H,p];cases cK b <;> cases decide (1<e) <;> cases (d == 0) <;> cases (d.natAbs.gcd e.natAbs == 1) <;> rfl
 rw [<- de] at q;refine Ua 4 [6,7] Z<|Ub 1 Z fun R g=>Uo (xa _ b) U7<|Uh 3 Z<|Uz (fun r=>(rn _ b (by exact xx (show (qF (cK b) != 0)=false/\True from r).1))) U9<|Ue U6<|UF U8<|Uh 3 Z<|UF U8<|Uh 3 Z<|Uz (fun r=>(Dw _ y.m_ c b m (by exact xx (RQ.1 (RQ.1 (show (((qF (cK b) != 0) || decide (vz (iG b) 1<=0)) || (c == [48]))=false/\True from r).1).1).1))) U9<|Ue U6<|UF U8<|Ug [38] g Z<|Ud (fun t=>?_) fun t=>?_
 ·have j:ba s=false:=by
   have h:(!ba s)=true:=q.symm.trans t;simpa using h
  exact Ua 1 [2] Z<|Ui U2<|⟨by rw [j];rfl,Z⟩
 have j:ba s=true:=by
  have h:(!ba s)=false:=q.symm.trans t;simpa using h
 exact Ua 1 [2] Z<|Ui U2<|⟨by rw [j];rfl,Z⟩
theorem Oy (z:Int)(b:g ∣ z.natAbs):sgZ (decide (z<0) != false) (z.natAbs / g)=z / (g:Int):=by
 obtain ⟨m,hm⟩:=b;rcases RJ g with h | c
 ·subst h;have a:z=0:=by omega
  subst a;rfl
 rw [hm,Nat.mul_div_cancel_left _ c,Bool.bne_false];unfold sgZ;by_cases a:z<0
 ·rw [QD a,aH rfl,show z=(g:Int)*(-(m:Int)) by rw [Int.mul_neg,<- Rc];omega,Int.mul_ediv_cancel_left _ om_]
 rw [QK a,aA dc_,show z=(g:Int)*(m:Int) by rw [<- Rc];omega,Int.mul_ediv_cancel_left _ om_]
theorem xk (C:Mem)(c:Tabs C)(z:Int)(b:Nat)(m:z.natAbs<BP ^ 200)(n:b<BP ^ 200)(F:0<b)(d:b ∣ z.natAbs):Gives cx.P 224 [ah (txt z),ah (bl b)] C (.tuple #[ah (txt (z / (b:Int))),ah (bl 0)]):=by
 have H:=Pv;have o:z.natAbs % b=0:=Nat.mod_eq_zero_of_dvd d;have f:(b:Int) ∣ z:=SX.1 (Sf.2 d);have I:(z / (b:Int)).natAbs<=z.natAbs:=by
  rw [Sr f,Q4];exact Rp _ _
 refine Uk func224 93 U3 fun w0=>Ua 2 [0,1] Z<|Ub 1 Z fun R a=>Uo (Cb C z) U7<|C4 5 [0,1,6,7] a Z<|Ub 1 Z fun R a=>Uo (qH _ b) U7<|C4 5 [0,1,6,7,8,9] a Z<|Ub 3 Z fun R a=>UD U8<|Ug [0,1,6,8,31] a Z<|Ud (fun g=>?_) fun g=>?_
 ·have hs:(bl z.natAbs).length<=17/\(bl b).length<=17:=by simpa using g
  have h1:=Ca hs.1;have h2:=qI hs.2;rw [aH hs.1,aH hs.2];refine Uy [0,1,2,3,4,5,6,7] [] Z kr_ fun R J a=>Uh 2 Z<|Vq (z / (b:Int)) U6 om_ (pg d) (wrap_i64 om_ om_) U2<|Uh 2 Z<|Vh 0 U6 om_ ⟨(Int.tmod_eq_zero_of_dvd f),Z,Z⟩<|C4 2 [6,8,10,11] a Z<|Ua 2 [6,8,10,11,39] Z<|Ud (fun h=>?_) fun h=>?_
  ·exfalso;simp at h
  refine Ub 1 Z fun R a=>Ur (lJ _ c (z / (b:Int)) om_ om_) U7 fl_<|Ue U6<|Ur (F5 _ c 0 om_) U7 fl_<|C4 2 [4,5] a Z<|Un (G.dropAll (UC U3 ?_));exact ⟨Z,Z⟩
 refine Ub 1 Z fun R a=>Uo (fE _ z) U7<|C4 5 [1,12,13] a Z<|Ub 1 Z fun R a=>Uo (oO _ b) U7<|C4 5 [12,13,14,15] a Z<|Ub 1 Z fun R a=>UM (nO _ z.natAbs m) U7 (fun K _ _ p=>?_);obtain ⟨lp,q,r,L,s⟩:=p;refine Ue U6<|UM (nO _ b n) U7 (fun M _ _ t=>?_);obtain ⟨u,v,w,N,x⟩:=t;refine UH (Bf _ _ _ lp u s.m_ x.m_ q.1 v om_ om_ om_) U7 fl_ (fun O _ _ y=>?_);obtain ⟨u1,Q,rfl,i,e⟩:=y;rw [r,w] at i e;rw [o] at e;obtain ⟨l1,A,B,S,D⟩:=PieC.take i (by have:=Rp z.natAbs b;omega);obtain ⟨l2,j,E,T,k⟩:=PieC.take e om_;obtain ⟨A2,c2,rfl,_⟩:=id k;obtain rfl:=(B6 j).1 E;refine C4 5 [12,14,15,16,17] a Z<|Ub 5 Z fun R a=>UD U8<|Ug [12,14,15,16,17,78] a Z<|Ud (fun l=>?_) fun l=>?_
 ·exfalso;simp at l
 refine Ub 4 Z fun R a=>Ur (Gn _ c.m_ _ _ l1 D.m_ A.1 om_) U7 fl_<|Ue U6<|Ur (ur _ c.m_ _ [] k.m_ j.1 am) U7 fl_<|C4 2 [4,5] a Z<|Un (G.dropAll (UC U3 ?_));refine ⟨?_,Z⟩;show Value.tuple #[ah (txt (sgZ (decide (z<0) != false) (bN l1))),_]=_;rw [B,Oy z d];rfl
theorem Bn (h:(txt z).length<=9):z.natAbs<1000000000:=by
 have h1:=zp h
 rwa [e9] at h1
theorem E5 (C:Mem)(k:Tabs C)(z w:Int)(v:(txt z).length<=9)(A:(txt w).length<=9)(Q:w≠0):Gives cx.P 220 [ah (txt z),ah (txt w)] C (ah (qtx (kR z w))):=by
 have S:=Bn v;have T:=Bn A;obtain ⟨n,i⟩:∃ y,(if w<0 then -z else z)=y:=⟨_,rfl⟩;obtain ⟨d,B⟩:∃ d,w.natAbs=d:=⟨_,rfl⟩;have r:0<d:=by omega
 have D:n.natAbs<1000000000:=by rw [<- i];split <;> omega
 unfold kR;rw [i,B];obtain ⟨g,b⟩:∃ g,Nat.gcd n.natAbs d=g:=⟨_,rfl⟩;have E:0<g:=by rw [<- b];exact S1 _ r
 have s:g ∣ n.natAbs:=by rw [<- b];exact Tf _ _
 have F:g ∣ d:=by rw [<- b];exact Tt _ _
 have U:g<=d:=TU r F;have H:(n / (g:Int)).natAbs<=n.natAbs:=by
  rw [Sr (SX.1 (Sf.2 s)),Q4];exact Rp _ _
 have t:=Rp d g;rw [AU om_,b];refine Uk func220 55 U3 fun w0=>Ua 1 [0,1] Z<|Ub 1 Z fun R a=>Ur (zo Tryz.atoi z om_ _ kr_) U7 fl_<|C4 5 [1,5] a Z<|Ub 1 Z fun R a=>Ur (zo Tryz.atoi w om_ _ kr_) U7 fl_<|C4 5 [5,7] a Z<|Ua 2 [5,7,22] Z<|G.cut (fun fr C' c e=>(True)/\fr=[(5,[],.int .i64 n),(7,[],.int .i64 d)]/\c=[]) ?_ (fun fr _ V e _ f=>?_)
 ·refine Ud (fun l=>?_) fun l=>?_
  ·have h:w<0:=by simpa using l
   rw [aH h] at i;refine Ua 6 [5,7] Z ?_;rw [show IntKind.i64.wrap (0-z)=n by rw [wrap_i64 om_ om_];omega,show IntKind.i64.wrap (0-w)=(d:Int) by rw [wrap_i64 om_ om_];omega];refine Uq 0 (Mem.le.refl _) (hn_ [5,7] Z) ⟨trivial,Z,Z⟩
  have h:¬ w<0:=by simpa using l
  rw [aA h] at i;rw [show z=n by omega,show w=(d:Int) by omega];refine Uq 0 (Mem.le.refl _) (hn_ [5,7] Z) ⟨trivial,Z,Z⟩
 obtain ⟨_,rfl,rfl⟩:=f;refine Ua 4 [5,7,9,10] Z<|Ua 2 [5,7,9,10,30] Z<|G.cut (fun fr C' c e=>(True)/\fr=[(5,[],.int .i64 n),(7,[],.int .i64 d),(9,[],.int .i64 (n.natAbs:Nat)),(10,[],.int .i64 d)]/\c=[]) ?_ (fun fr _ W e _ f=>?_)
 ·refine Ud (fun o=>?_) fun o=>?_
  ·have h:n<0:=by simpa using o
   refine Ua 3 [5,7,9,10] Z ?_;rw [show IntKind.i64.wrap (0-n)=((n.natAbs:Nat):Int) by rw [wrap_i64 om_ om_];omega];refine Uq 0 (Mem.le.refl _) (hn_ [5,7,9,10] Z) ⟨trivial,Z,Z⟩
  have h:¬ n<0:=by simpa using o
  refine Uq 0 (Mem.le.refl _) (hn_ [5,7,9,10] Z) ⟨trivial,by rw [show ((n.natAbs:Nat):Int)=n by omega],Z⟩
 obtain ⟨_,rfl,rfl⟩:=f;refine G.loop (fun fr C' c e=>∃ (x y:Int),(x.natAbs<9000000000000000000/\0<=x/\0<=y/\y.natAbs<9000000000000000000/\Nat.gcd x.natAbs y.natAbs=g)/\fr=[(5,[],.int .i64 n),(7,[],.int .i64 d),(9,[],.int .i64 x),(10,[],.int .i64 y)]/\c=[]/\e=y.natAbs+1) (hn_ [5,7,9,10] Z) ⟨(n.natAbs:Int),d,⟨by omega,by omega,by omega,by omega,by rw [Q4,Q4];exact b⟩,Z,Z,Z⟩ (fun fr X Y m I f=>?_);obtain ⟨x,y,⟨aa,J,K,L,u⟩,rfl,rfl,rfl⟩:=f;refine Ua 2 [5,7,9,10,34] Z<|Ud (fun p=>?_) fun p=>?_
 ·have q:y≠0:=by simpa using p
  have M:(x.tmod y).natAbs=x.natAbs % y.natAbs:=S5 x y;have ab:=Q2 x.natAbs (show 0<y.natAbs by omega);have N:=Int.tmod_nonneg y J;refine Uy [0,1,2,3,4,5] [] Z kr_ fun R O a=>Uh 3 Z<|Vh (x.tmod y) U6 q U3<|C4 2 [5,7,9,10] a Z<|Up (m':=(x.tmod y).natAbs+1) om_ I (hn_ [5,7,9,10] Z) ⟨y,x.tmod y,⟨L,K,N,by omega,by rw [M,<- u,Sx x.natAbs,TQ y.natAbs x.natAbs,Sx]⟩,Z,Z,Z⟩
 have q:y=0:=by simpa using p
 subst q;rw [show (0:Int).natAbs=0 from rfl,S4] at u;obtain rfl:x=(g:Int):=by omega
 refine Uy [0,1,2,3,4,5,6,7] [] Z kr_ fun R O a=>Uh 2 Z<|Vq (n / (g:Int)) U6 om_ (pg s) (wrap_i64 om_ om_) U2<|Uh 2 Z<|Vj (d) (g) U6 E (.inl ⟨Z,by omega⟩) U2<|C4 2 [5,7] a Z<|Ua 2 [5,7,46] Z<|Ud (fun j=>?_) fun j=>?_
 ·have h1:d / g=1:=by
   have h2:(((d / g:Nat):Int))=1:=by simpa using j
   omega
  refine Ub 1 Z fun R a=>Ur (ji _ k.m_ _ om_ om_) U7 fl_<|C4 1 [4] a Z<|Ui U2<|⟨?_,Z⟩;rw [h1,mi rfl];simp [eO]
 have h1:d / g≠1:=by
  intro h2;rw [h2] at j;exact absurd j dc_
 have ac:=mK (n / (g:Int));have ad:=mK ((d / g:Nat):Int);have ae:(bl (n / (g:Int)).natAbs).length<=20:=eH (Re H (Sz D dc_)) dc_;have af:(bl ((d / g:Nat):Int).natAbs).length<=20:=eH (by rw [Q4];exact Re t (Sz (show d<1000000000 by omega) dc_)) dc_;refine Ub 1 Z fun R a=>Ur (ji _ k.m_ _ om_ om_) U7 fl_<|Va U6 (fun _=>(by simp only [QC,QW];omega)) U2<|Ue U6<|Ur (ji _ k.m_ ((d / g:Nat):Int) (TY dc_ (TS _)) (TY (Int.ofNat_le.2 t) om_)) U7 fl_<|Va U6 (fun _=>(by simp only [Qp,QC,QW];omega)) U2<|C4 1 [4] a Z<|Ui U2<|⟨?_,Z⟩;rw [fO h1,de,QO];rfl
theorem HW (h:z.natAbs<m)(g:Nat)(a:g ∣ z.natAbs):(z / (g:Int)).natAbs<m:=by
 rw [Sr (SX.1 (Sf.2 a)),Q4];exact Re (Rp _ _) h
theorem J0 (C:Mem)(a:Tabs C)(y:Int)(d:Nat)(b:y.natAbs<BP ^ 200)(c:d<BP ^ 200):Gives cx.P 223 [ah (txt y),ah (bl d)] C (ah (bl (Nat.gcd y.natAbs d))):=by
 have h:=DD C a y (d:Nat) b om_
 rwa [de,Q4] at h
theorem yJ (C:Mem)(e:Tabs C)(z w:Int)(j:z.natAbs<BP ^ 200)(n:w.natAbs<BP ^ 200)(o:w≠0):Gives cx.P 147 [ah (txt z),ah (txt w)] C (ah (qtx (kR z w))):=by
 have B:=gH j;have D:=gH n;obtain ⟨y,hy⟩:∃ y,(if w<0 then -z else z)=y:=⟨_,rfl⟩;obtain ⟨d,p⟩:∃ d,w.natAbs=d:=⟨_,rfl⟩;have q:d≠0:=by omega
 have r:y.natAbs=z.natAbs:=by rw [<- hy];split <;> omega
 obtain ⟨g,b⟩:∃ g,Nat.gcd y.natAbs d=g:=⟨_,rfl⟩;have k:0<g:=by rw [<- b];exact S1 _ om_
 have s:g ∣ d:=by rw [<- b];exact Tt _ _
 have l:g ∣ y.natAbs:=by rw [<- b];exact Tf _ _
 have E:g<=d:=TU om_ s;refine Uk func147 46 U3 fun w0=>Ua 1 [0,1] Z<|Ub 7 Z fun R a=>UD U8<|Ug [0,1,13] a Z<|Ud (fun m=>?_) fun m=>?_
 ·have h:(txt z).length<=9/\(txt w).length<=9:=by
   have h1:=(Qu _ _ ▸ m:_/\_);have h2:((txt z).length:Int)<=9:=aV h1.1;have h3:((txt w).length:Int)<=9:=aV h1.2;omega
  exact Ub 2 Z fun R a=>Uo (E5 _ e.m_ z w h.1 h.2 o) U7<|C4 1 [4] a Z<|Ui U2<|⟨Z,Z⟩
 refine Ub 1 Z fun R a=>Uo (yl _ w) U7<|C4 1 [0,1,19] a Z<|G.cut (fun fr C' t u=>(True)/\fr=[(0,[],ah (txt y)),(1,[],ah (bl d))]/\t=[]) ?_ (fun fr _ F u _ v=>?_)
 ·refine Ud (fun f=>?_) fun f=>?_
  ·have i:w<0:=by
    have h:=aV f;refine QM fun h2=>?_;rw [aA h2] at h;revert h;split <;> decide
   rw [aH i] at hy;refine Ub 1 Z fun R a=>Ur (rX _ z om_) U7 fl_<|Ue U6<|Ur (rX _ w om_) U7 fl_<|C4 2 [0,1] a Z<|Uq 0 (Mem.le.refl _) (hn_ [0,1] Z) ⟨trivial,by rw [hy,show -w=((d:Nat):Int) by omega,de],Z⟩
  have i:¬ w<0:=by
   intro h2;have h:=Qm f;rw [aH h2] at h;exact h dc_
  rw [aA i] at hy;refine Uq 0 (Mem.le.refl _) (hn_ [0,1] Z) ⟨trivial,by rw [hy,show w=((d:Nat):Int) by omega,de],Z⟩
 obtain ⟨_,rfl,rfl⟩:=v;unfold kR;rw [hy,p,AU q,b];have x:=HW (z:=y) (by rw [r];exact j) g l;have H:=gH x;have A:d / g<BP ^ 200:=Re (Rp _ _) om_;have I:=gH A;have J:=mK (y / (g:Int));refine Ub 2 Z fun R a=>Ur (J0 _ e.m_ y d om_ om_) U7 fl_<|C4 1 [0,1,5] a Z ?_;rw [b];refine Ub 2 Z fun R a=>Ur (xk _ e.m_ y g om_ om_ k l) U7 fl_<|C4 4 [0,1,5] a Z<|Ub 2 Z fun R a=>Ur (mf _ e.m_ d g om_ om_ k) U7 fl_<|C4 4 [0,1] a Z<|Ua 2 [0,1,40] Z<|Ud (fun c=>?_) fun c=>?_
 ·have h1:d / g=1:=by rw [sJ] at c;exact aV c
  refine Ua 2 [4] Z<|Ui U2<|⟨?_,Z⟩;rw [mi h1];simp [eO]
 have h1:d / g≠1:=by rw [sJ] at c;exact Qm c
 refine Ub 1 Z fun R a=>Va U6 (fun _=>(by simp only [QC,QW];omega)) U2<|Ue U6<|Va U6 (fun _=>(by simp only [Qp,QC,QW];omega)) U2<|C4 1 [4] a Z<|Ui U2<|⟨?_,Z⟩;rw [fO h1,QO];rfl
theorem OW (C:Mem)(a:Tabs C)(z w:Int)(d:z.natAbs<9000000000000000000)(e:w.natAbs<9000000000000000000)(b:w≠0):Gives cx.P 96 [.int .i64 z,.int .i64 w] C (ah (qtx (kR z w))):=by
 have f:9000000000000000000<BP ^ 200:=by decide +kernel
 exact Uk func96 10 U3 fun w0=>Ua 1 [0,1] Z<|Ub 1 Z fun R c=>Ur (lJ _ a.m_ z om_ om_) U7 fl_<|Ue U6<|Ur (lJ _ a.m_ w om_ om_) U7 fl_<|Ur (yJ _ a.m_ z w om_ om_ b) U7 fl_<|C4 1 [4] c Z<|Ui U2<|⟨Z,Z⟩
theorem AV (q:Rat):q.num<0 ↔ q<0:=by
 rw [Rat.lt_iff];simp
theorem wk (h:(bl z.natAbs).length<=200):cK (txt z)=true:=by
 refine rM.2 ?_;rw [dC];refine ⟨yv.2 ⟨(bC _).1,h⟩,fun a=>?_⟩;have h1:=aV a;show 0<bU (bl z.natAbs);rw [(bC _).2];omega
theorem BO (z:Int):iG (txt z)=z:=by
 unfold iG;rw [dC];show sgZ (decide (z<0)) (bU (bl z.natAbs))=z;rw [(bC _).2];unfold sgZ;by_cases h:z<0
 ·rw [QD h,aH rfl];omega
 rw [QK h,aA dc_];omega
theorem bP (h:QB 22 q):ba (qtx q)=true:=by
 have h1:(bl q.num.natAbs).length<=200:=by have:=bW h.1 dc_;omega
 have h2:(bl q.den).length<=200:=by have:=bW h.2 dc_;omega
 unfold ba;rw [og];show (cK (txt q.num) && cK ((nM q.den).getD [49]) && pf (iG (txt q.num)) (nM q.den))=true;rw [Hl,BO,wk h1,<- de,wk (by rw [Q4];exact h2),Tz,Tz];by_cases a:q.den=1
 ·rw [mi a];rfl
 rw [fO a];unfold pf;show (decide (1<iG (bl q.den)) && !(q.num == 0) && (Nat.gcd q.num.natAbs (iG (bl q.den)).natAbs == 1))=true;have b:iG (bl q.den)=((q.den:Nat):Int):=by rw [<- de,BO]
 have d:=gW q;rw [b,QD om_,Q4,show Nat.gcd q.num.natAbs q.den=1 from q.reduced];have c:q.num≠0:=by
  intro e;have h3:=q.reduced;rw [e] at h3;have h4:Nat.gcd 0 q.den=1:=h3;rw [Nat.gcd_zero_left] at h4;exact a h4
 simp [c]
theorem xy (h:QB 22 q):qF (ba (qtx q))=0:=by rw [bP h];rfl
abbrev Pt:=Rat × Rat
def gp (p:Pt):List Value:=[ah (qtx p.1),ah (qtx p.2)]
def ptV (p:Pt):Value:=.agg ⟨gp p⟩
def QP (k:Nat)(p:Pt):Prop:=QB k p.1/\QB k p.2
def dE (a b c:Pt):Rat:=(b.1-a.1)*(c.2-a.2)-(b.2-a.2)*(c.1-a.1)
theorem gM (b:Bool):qF b=0/\b=true∨qF b=2/\b=false:=by cases b <;> simp [qF]
def nL (s:Str):List Value:=[ah s]
theorem rV (C:Mem)(h:Tabs C)(v:Value)(l:List Str)(c:Sl C 1 v (l.map nL))(j:∀ s∈l,s.length<=999998):Gives cx.P 151 [v] C (.int .i64 (qF (l.all ba))):=by
 obtain ⟨k,c0,rfl,n,w,_⟩:=id c;have x:maxLen<=9223372036854775807:=by simp [maxLen]
 simp only [aw] at c n ⊢;refine Uk func151 18 U3 fun w0=>Ua 1 [0] Z<|Ua 3 [6,7,8] Z<|G.loop (fun fr C' o p=>∃ (i:Nat),(i<=l.length/\(l.take i).all ba=true)/\fr=[(6,[],.slice k l.length c0),(7,[],.int .i64 l.length),(8,[],.int .i64 i)]/\o=[]/\p=l.length-i) (hn_ [6,7,8] Z) ⟨0,⟨Qn _,by simp⟩,Z,Z,Z⟩ (fun fr y z m q r=>?_);obtain ⟨i,⟨A,d⟩,rfl,rfl,rfl⟩:=r;refine Ua 1 [6,7,8,9] Z<|Ud (fun e=>?_) fun e=>?_
 ·have f:i<l.length:=by simpa using e
  obtain ⟨s,hs⟩:∃ s,l[i]?=some s:=⟨l[i],ak f⟩;refine Uf fun R a=>Us c.m_ U10 om_ (by rw [Ql,hs];rfl:(l.map nL)[i]?=some (nL s)) fl_ fun B t=>Uc t U8<|C4 1 [4,6,7,8] a Z<|Ub 1 Z fun R a=>Uo (dV _ h.m_ s (j s (Qi hs))) U7<|C4 1 [5,6,7,8] a Z<|Ua 2 [5,6,7,8,15] Z<|Ud (fun b=>?_) fun b=>?_
  ·have g:ba s=false:=by
    rcases gM (ba s) with ⟨h1,h2⟩ | ⟨h1,h2⟩
    ·rw [h1] at b;exact absurd b dc_
    exact h2
   refine Ua 2 [2] Z<|Ui U2<|⟨?_,Z⟩;rw [g,show l.all ba=false from SC.2 ⟨s,Qi hs,by rw [g];decide⟩]
  have u:ba s=true:=by
   rcases gM (ba s) with ⟨h1,h2⟩ | ⟨h1,h2⟩
   ·exact h2
   rw [h1] at b;exact absurd b dc_
  refine Uf fun R a=>Ul _ U7<|C4 1 [6,7,8] a Z<|Up (m':=l.length-(i+1)) om_ q (hn_ [6,7,8] Z) ⟨i+1,⟨by omega,by rw [QJ,hs,Tm,d];simp [u]⟩,Z,Z,Z⟩
 have f:i=l.length:=by
  have:¬ i<l.length:=by simpa using e
  omega
 refine Ua 1 [2] Z<|Ui U2<|⟨?_,Z⟩;rw [f,Qv] at d;rw [d];rfl
theorem Og (a:s.length<=n)(b:t.length<=n):∀ x∈[s,t],x.length<=n:=by simp [a,b]
theorem Is {u:Str}(a:s.length<=n)(b:t.length<=n)(c:u.length<=n):∀ x∈[s,t,u],x.length<=n:=by simp [a,b,c]
theorem iw (C:Mem)(b:Tabs C)(s t:Str)(c:s.length<=999998)(d:t.length<=999998):Gives cx.P 99 [.agg ⟨[ah s,ah t]⟩] C (.int .i64 (qF (ba s && ba t))):=by
 refine Uk func99 9 U3 fun w0=>Uf fun R a=>Uw U6 fun f=>C4 1 [1] a Z<|Ub 1 Z fun R a=>Uj af U9<|Ue U6<|Uj af U9<|Ux [nL s,nL t] U12 fun g _ _ e=>Uo (rV _ b.m_ _ [s,t] e.m_ (Og c d)) U7<|C4 1 [2] a Z<|Ui U2<|⟨?_,Z⟩;simp
theorem ru (C:Mem)(b:Tabs C)(s t u:Str)(c:s.length<=999998)(d:t.length<=999998)(e:u.length<=999998):Gives cx.P 162 [.agg ⟨[ah s,ah t,ah u]⟩] C (.int .i64 (qF (ba s && ba t && ba u))):=by
 refine Uk func162 11 U3 fun w0=>Uf fun R a=>Uw U6 fun g=>C4 1 [1] a Z<|Ub 1 Z fun R a=>Uj af U9<|Ue U6<|Uj af U9<|Ue U6<|Uj af U9<|Ux [nL s,nL t,nL u] U12 fun h _ _ f=>Uo (rV _ b.m_ _ [s,t,u] f.m_ (Is c d e)) U7<|C4 1 [2] a Z<|Ui U2<|⟨?_,Z⟩;simp [Bool.and_assoc]
theorem kV (C:Mem)(e:Tabs C)(a b c:Pt)(k:Nat)(g:0<k)(l:k<=1000)(d:QP k a)(h:QP k b)(i:QP k c):Gives cx.P 152 [ptV a,ptV b,ptV c] C (ah (qtx (dE a b c))):=by
 have h1:=mA h.1 d.1;have h2:=mA i.2 d.2;have h3:=mA h.2 d.2;have h4:=mA i.1 d.1;exact Uk func152 32 U3 fun w0=>Uf fun R f=>Uw U6 fun m=>Uw U6 fun n=>Uw U6 fun o=>C4 1 [3,4,5] f Z<|Uy [0,1,2,3,4,5,6,7,8,9,10,11] [(4,1),(9,1),(10,1)] Z kr_ fun R j f=>Ue U6<|Uj ae U9<|Ue U6<|Uj ac U9<|Uz (fun _=>(ec _ e.m_ b.1 a.1 k g om_ h.1 d.1)) U9<|Ue U6<|Uj af U9<|Ue U6<|Uj ac U9<|Uz (fun _=>(ec _ e.m_ c.2 a.2 k g om_ i.2 d.2)) U9<|Uz (fun _=>(dR _ e.m_ (b.1-a.1) (c.2-a.2) (k+k+1) om_ om_ h1 h2)) U9<|C4 1 [3,4,5,7] f Z<|Uy [0,1,2,3,4,5,6,7,8,9,10,11,12,13] [(5,1),(10,1),(11,1),(12,1)] Z kr_ fun R j f=>Uh 2 Z<|Uj ae U9<|Ue U6<|Uj ac U9<|Uz (fun _=>(ec _ e.m_ b.2 a.2 k g om_ h.2 d.2)) U9<|Ue U6<|Uj af U9<|Ue U6<|Uj ac U9<|Uz (fun _=>(ec _ e.m_ c.1 a.1 k g om_ i.1 d.1)) U9<|Uz (fun _=>(dR _ e.m_ (b.2-a.2) (c.1-a.1) (k+k+1) om_ om_ h3 h4)) U9<|Uz (fun _=>(ec _ e.m_ ((b.1-a.1)*(c.2-a.2)) ((b.2-a.2)*(c.1-a.1)) (k+k+1+(k+k+1)) om_ om_ (qP h1 h2) (qP h3 h4))) U9<|C4 1 [6] f Z<|Ui U2<|⟨Z,Z⟩
theorem zr {a b c:Pt}(d:QP k a)(e:QP k b)(f:QP k c):QB (8*k+5) (dE a b c):=by
 have h:=mA (qP (mA e.1 d.1) (mA f.2 d.2)) (qP (mA e.2 d.2) (mA f.1 d.1));exact h.le om_
theorem oI (C:Mem)(h:Tabs C)(a b c:Pt)(k:Nat)(i:0<k)(j:k<=1000)(e:QP k a)(f:QP k b)(g:QP k c):Gives cx.P 100 [ptV a,ptV b,ptV c] C (.int .i64 (eL (dE a b c).num)):=by
 exact Uk func100 12 U3 fun w0=>Uf fun R d=>Uw U6 fun l=>Uw U6 fun m=>Uw U6 fun n=>C4 1 [3,4,5] d Z<|Uf fun R d=>Uj ac U9<|Uj ae U9<|Uj af U9<|Uo (kV _ h.m_ a b c k i j e f g) U7<|Ur (fW _ (dE a b c) (by have:=bK (zr e f g) om_;omega)) U7 fl_<|C4 1 [6] d Z<|Ui U2<|⟨Z,Z⟩
theorem tP (C:Mem)(c:Tabs C)(q:Rat)(b:QB 22 q):Gives cx.P 274 [ah (qtx q)] C (.tuple #[ah (qtx q),.int .i64 0]):=by
 refine Uk func274 8 U3 fun w0=>Ua 2 [0] Z<|Ub 1 Z fun R d=>Ur (dV _ c.m_ _ (by have:=bK b dc_;omega)) U7 fl_<|C4 1 [0,6] d Z<|Ud (fun a=>?_) fun a=>?_
 ·exfalso;rw [xy b] at a;exact absurd a dc_
 refine Ua 3 [2,3] Z<|Un (G.dropAll (UC U3 ?_));exact ⟨Z,Z⟩
abbrev Tri:=Nat × Nat × Nat
def kC (t:Tri):List Value:=[.int .i64 (t.1:Nat),.int .i64 (t.2.1:Nat),.int .i64 (t.2.2:Nat)]
def NH (a b c:Pt):Value:=.agg ⟨gp a++gp b++gp c⟩
theorem DR (C:Mem)(k l:Value)(d:List Pt)(g:List Tri)(i:Nat)(t:Tri)(a b c:Pt)(e:Sl C 2 k (d.map gp))(h:Sl C 3 l (g.map kC))(m:g[i]?=some t)(n:d[t.1]?=some a)(o:d[t.2.1]?=some b)(p:d[t.2.2]?=some c) :
  Gives cx.P 156 [.agg ⟨[k,l]⟩,.int .i64 i] C (NH a b c):=by
 obtain ⟨x,y,rfl,q,z,_⟩:=id e;obtain ⟨A2,c2,rfl,r,A,_⟩:=id h;have B:maxLen<=9223372036854775807:=by simp [maxLen]
 simp only [aw] at e h q r ⊢;have D:=(aF.1 m).1;have E:=(aF.1 n).1;have F:=(aF.1 o).1;have G:=(aF.1 p).1;refine Uk func156 30 U3 fun w0=>Uf fun R f=>Uw U6 fun H=>Uv U5 fun I=>Ug [1,2,4] f Z<|Ub 1 Z fun R f=>Uj ae U9<|Ue U6<|Us h.m_ U10 om_ (by rw [Ql,m];rfl:(g.map kC)[i]?=some (kC t)) fl_ fun J s=>Uc s U8<|Uv U5 fun K=>Um (j:=0) U12<|Ug [2,4,5] f Z<|Uy [0,1,2,3,4,5,6,7,8,9,10,11,12,13,14,15,16,17,18,19] [] Z kr_ fun R L f=>Ue U6<|Uj ac U9<|UA (0) U9 ag U2<|Uj af U9<|Us e.m_ U10 om_ (by rw [Ql,n];rfl:(d.map gp)[t.1]?=some (gp a)) fl_ fun M u=>Uc u U8<|Ue U6<|Uj ac U9<|UA (1) U9 ag U2<|Uj af U9<|Us e.m_ U10 om_ (by rw [Ql,o];rfl:(d.map gp)[t.2.1]?=some (gp b)) fl_ fun N v=>Uc v U8<|Ue U6<|Uj ac U9<|UA (2) U9 ag U2<|Uj af U9<|Us e.m_ U10 om_ (by rw [Ql,p];rfl:(d.map gp)[t.2.2]?=some (gp c)) fl_ fun O w=>Uc w U8<|Uu (gp a++gp b++gp c) U8<|Um (j:=1) U12<|Ug [4] f Z<|Un (UU af U4 ?_);exact ⟨Z,Z⟩
theorem GM (C:Mem)(d:Tabs C)(a b c p:Pt)(k:Nat)(e:0<k)(f:k<=1000)(j:QP k a)(l:QP k b)(m:QP k c)(g:QP k p) :
  Gives cx.P 225 [NH a b c,ptV p] C (.bool (decide (0<=dE a b p) && decide (0<=dE b c p) && decide (0<=dE c a p))):=by
 refine Uk func225 30 U3 fun w0=>Uf fun R i=>Uw U6 fun n=>Uw U6 fun o=>C4 1 [2,3] i Z<|Uf fun R i=>UA (0) U9 ag U2<|Uj ae U9<|UA (2) U9 ag U2<|Uj ae U9<|Uj af U9<|Uo (oI _ d.m_ a b p k e f j l g) U7<|Uh 2 Z<|UA (2) U9 ag U2<|Uj ae U9<|UA (4) U9 ag U2<|Uj ae U9<|Uj af U9<|UJ (fun _=>(oI _ d.m_ b c p k e f l m g)) U9<|Ue U6<|UD U8<|Ue U6<|UA (4) U9 ag U2<|Uj ae U9<|UA (0) U9 ag U2<|Uj ae U9<|Uj af U9<|UJ (fun _=>(oI _ d.m_ c a p k e f m j g)) U9<|Ue U6<|UD U8<|C4 1 [4] i Z<|Ui U2<|⟨?_,Z⟩;have hs:∀ q:Rat,decide (eL q.num ≥ 0)=decide (0<=q):=fun q=>by
  rw [Q7,<- Rat.num_nonneg];rcases eo q.num with h | h | h <;> omega
 rw [<- hs,<- hs,<- hs]
open Go Go.Jog Go.RowKit Go.Shelf
attribute [local go_sem] Oper.semAt_some
def Mh (zs:Nat->Int)(k:Nat):Value:=.agg #[.int .i64 (zs k),.int .i64 (zs ((k+1) % 3))]
set_option maxRecDepth 100000 in
theorem IL (l Bs:Nat)(zs:Nat->Int)(J:Nat->World->Prop)
  (hD:∀ k W,J k W->J k W.drew)
  (hJ:∀ k W,J k W->∀ j,j<3->W.cell? ⟨Bs,j,none⟩=some (.int .i64 (zs j)))
  (hY:∀ k W,J k W->k<3->YieldAt Fence.wide 1 Tryz.prog l #[.int .i64 (k:Nat),Mh zs k] W fun e W'=>e=.returned (.bool true)/\J (k+1) W')
  (W:World) (h0:J 0 W) :
  CallsIn Fence.wide 2 Tryz.prog 265 #[.func (.yield l) #[] #[],.pointer (some ⟨Bs,0,none⟩)] W fun e W'=>(∃ v,e=.returned v)/\J 3 W':=by
 refine callsIn_of_wp func265 Z trivial ?_ Z;simp only [Tryz.ntmps265,Sa,QC,QW,Nat.reduceAdd,Nat.reduceSub,TM,TN,List.push_toArray,List.append_toArray,R7,RZ]
 gi_wp2
 gi_loopw [4] (fun i wr=>∃ k:Nat,k<=3/\i=.int .i64 k/\J k wr) (fun i _=>(3-intOf i).toNat)
 case atStart=>exact ⟨0,by omega,rfl,h0⟩
 case round =>
  obtain ⟨k,hk,rfl,hJs⟩:=hrel;by_cases hlt:k<3
  ·have hJd:=hD k wr hJs;have hcd:=hJ k _ hJd;obtain ⟨fn,tmps,assign,body,hy,hR⟩:=hY k _ hJd hlt;rcases (by omega:k=0∨k=1∨k=2) with rfl | rfl | rfl
   ·have hc0:=hcd 0 om_;have hc1:=hcd 1 om_;have hy2:Sem.run Tryz.prog (Instr.yield l #[Value.int .i64 0,Value.agg #[.int .i64 (zs 0),.int .i64 (zs 1)]]) wr.drew=.ok (.round l fn tmps assign body) wr.drew:=hy;clear hy
    gi_wp2
    gi_region_with (refine hR.mono ?_;rintro e W3 ⟨rfl,hJ3⟩)
    all_goals
     gi_wp2
     go_roundw
     case rel=>exact ⟨1,by omega,rfl,hJ3⟩
     case measure=>simp [intOf]
   ·have hc0:=hcd 1 om_;have hc1:=hcd 2 om_;have hy2:Sem.run Tryz.prog (Instr.yield l #[Value.int .i64 1,Value.agg #[.int .i64 (zs 1),.int .i64 (zs 2)]]) wr.drew=.ok (.round l fn tmps assign body) wr.drew:=hy;clear hy
    gi_wp2
    gi_region_with (refine hR.mono ?_;rintro e W3 ⟨rfl,hJ3⟩)
    all_goals
     gi_wp2
     go_roundw
     case rel=>exact ⟨2,by omega,rfl,hJ3⟩
     case measure=>simp [intOf]
   have hc0:=hcd 2 om_;have hc1:=hcd 0 om_;have hy2:Sem.run Tryz.prog (Instr.yield l #[Value.int .i64 2,Value.agg #[.int .i64 (zs 2),.int .i64 (zs 0)]]) wr.drew=.ok (.round l fn tmps assign body) wr.drew:=hy;clear hy
   gi_wp2
   gi_region_with (refine hR.mono ?_;rintro e W3 ⟨rfl,hJ3⟩)
   all_goals
    gi_wp2
    go_roundw
    case rel=>exact ⟨3,by omega,rfl,hJ3⟩
    case measure=>simp [intOf]
  obtain rfl:k=3:=by omega
  gi_wp2
  go_end0
  exact ⟨⟨_,Z⟩,hJs⟩
def EN (t:Tri)(j:Nat):Int:=if j=0 then (t.1:Nat) else if j=1 then (t.2.1:Nat) else (t.2.2:Nat)
def vX (t:Tri):List (Value × Value):=(List.range 3).map fun k=>(.int .i64 (k:Nat),Mh (EN t) k)
theorem mM (t:Tri):(vX t).length=3:=rfl
theorem vW {t:Tri}(h:k<3):(vX t)[k]?=some (.int .i64 (k:Nat),Mh (EN t) k):=by
 simp [vX,h]
theorem CQ (C:Mem)(b c:Nat)(t:Tri)(d:C b=some (.cells ⟨kC t⟩ c (0,0))) :
  PF Tryz.prog 265 #[.pointer (some ⟨b,0,none⟩)] C (vX t):=by
 intro l J W hC e f h0;refine IL l b (EN t) J e (fun k W a j h=>?_) (fun k W a g=>f k _ W a (vW g)) W h0;have h1:=hC k W a b _ d;rcases (by omega:j=0∨j=1∨j=2) with rfl | rfl | rfl <;> simp [World.cell?,h1,kC,EN]
theorem IM (C:Mem)(t:Tri):Pur cx.P 227 [.agg ⟨kC t⟩] C fun r C'=>∃ b,r=.func (.func 265) #[] #[.pointer (some ⟨b,0,none⟩)]/\C' b=some (.cells ⟨kC t⟩ 108 (0,0)):=by
 exact Uk func227 4 U3 fun w0=>Uf fun R a=>Uw U6 fun d=>C4 1 [1] a Z<|Ua 2 [2] Z<|G.freeze 0 Z fun e f c=>Ui U2<|⟨Z,_,Z,c⟩
def oU (t:Tri)(k:Nat):Int × Int:=(EN t k,EN t ((k+1) % 3))
abbrev N6:=List ((Int × Int) × Value)
def Em (m:N6)(i:Nat)(t:Tri):Nat->N6
 | 0=>m
 | k+1=>fT (Em m i t k) (oU t k) (.int .i64 (i:Nat))
def yc (tris:List Tri):Nat->N6
 | 0=>[]
 | n+1=>Em (yc tris n) n (tris.getD n (0,0,0)) 3
noncomputable def kI2:KeyP cx.P 183 (Int × Int):=P4 rfl rfl rfl kr_
theorem FX (C:Mem)(q I:Value)(a:List Tri)(N:a≠[])(x:Sl C 3 I (a.map kC))(O:∀ i t k,a[i]?=some t->k<3->dp (Em (yc a i) i t k) (oU t k)=none) :
  Pur cx.P 153 [.agg ⟨[q,I]⟩] C fun u D=>∃ b,u=.tuple #[.map (some b),.bool true]/\D b=some (aQ qi (yc a a.length)):=by
 obtain ⟨A2,c2,rfl,Q,ab,_⟩:=id x;have ad:maxLen<=9223372036854775807:=by simp [maxLen]
 simp only [aw] at x Q ⊢;refine Vv kr_ func153 Z 36 Z Z fun w0=>Uf fun R c=>Uw U6 fun r=>Uv U5 fun h=>Uv U5 fun n=>Ug [1,2,3] c Z<|Uf fun R c=>V4 kI2 Z Z Z Z fl_ fun f=>Uv U5 fun o=>Um (j:=0) U12<|Ug [1,2,3,4] c Z<|Ub 1 Z fun R c=>Uj (.tail _ aa) U9<|C4 2 [2,3,4,13,14,15] c Z<|G.perm (L':=[.obj o (.cells ⟨[.map (some f)]⟩ 242 (0,0)),.obj f (aQ qi []),.obj n (.cells ⟨[.bool false]⟩ 4 (0,0)),.obj h (.cells ⟨[.map none]⟩ 242 (0,0)),.obj r (.cells ⟨[q,.slice A2 a.length c2]⟩ 36 (0,0))]) (Qo _)<|WX (fun dd fr C' d S=>∃ (i:Nat)(g:List Nat),(i<=a.length/\g.length=i)/\dd=g.map zc/\fr=[(2,[],.pointer (some ⟨h,0,none⟩)),(3,[],.pointer (some ⟨n,0,none⟩)),(4,[],.pointer (some ⟨o,0,none⟩)),(13,[],.slice A2 a.length c2),(14,[],.int .i64 a.length),(15,[],.int .i64 i)]/\d=[.obj o (.cells ⟨[.map (some f)]⟩ 242 (0,0)),.obj f (aQ qi (yc a i)),.obj n (.cells ⟨[.bool false]⟩ 4 (0,0)),.obj h (.cells ⟨[.map none]⟩ 242 (0,0)),.obj r (.cells ⟨[q,.slice A2 a.length c2]⟩ 36 (0,0))]++g.map qC/\S=a.length-i) (hn_ [2,3,4,13,14,15] Z) ⟨0,[],⟨Qn _,Z⟩,Z,Z,Z,Z⟩ (fun dd fr ag ah m _ p=>?_);obtain ⟨i,g,⟨hi,y⟩,rfl,rfl,rfl,rfl⟩:=p;refine Ua 1 [2,3,4,13,14,15,16] Z<|Ud (fun A=>?_) fun A=>?_
 ·have B:i<a.length:=by simpa using A
  obtain ⟨t,E⟩:∃ t,a[i]?=some t:=⟨a[i],ak B⟩;refine Ub 1 Z fun R c=>Us x.m_ U10 om_ (by rw [Ql,E];rfl:(a.map kC)[i]?=some (kC t)) fl_ fun ai T=>Uc T U8<|Uv U5 fun F=>Uv U5 fun J=>Um (j:=1) U12<|Um (j:=1) U12<|Ug [2,3,4,5,6,13,14,15] c Z<|Uf fun R c=>Uj af U9<|UM (IM _ t) U7 fun aj _ _ U=>Ug [2,3,4,5,13,14,15,21] c Z ?_;obtain ⟨V,rfl,W⟩:=U;refine W7 Z Z kr_ (CQ _ V _ t W) (fun j d=>∃ (z:Unit),(j<=3)/\d=[.obj J (.cells ⟨kC t⟩ 108 (0,0)),.obj F (.cells ⟨[.int .i64 i]⟩ 3 (0,0)),.obj o (.cells ⟨[.map (some f)]⟩ 242 (0,0)),.obj f (aQ qi (Em (yc a i) i t j)),.obj n (.cells ⟨[.bool false]⟩ 4 (0,0)),.obj h (.cells ⟨[.map none]⟩ 242 (0,0)),.obj r (.cells ⟨[q,.slice A2 a.length c2]⟩ 36 (0,0))]++g.map qC) ⟨(),Qn _,Z⟩ Z (fun _ _=>rfl) (fun j d fr LA=>∃ (s:Nat),fr=[(2,[],.pointer (some ⟨h,0,none⟩)),(3,[],.pointer (some ⟨n,0,none⟩)),(4,[],.pointer (some ⟨o,0,none⟩)),(5,[],.pointer (some ⟨F,0,none⟩)),(8,[],.pointer (some ⟨s,0,none⟩))]/\LA=.obj s (.cells ⟨[.int .i64 (oU t j).1,.int .i64 (oU t j).2]⟩ 183 (0,0))::d) (fun l j u v d W1 p w=>?_) (fun l j u v d am LA W1 p w X=>?_) (fun K d p=>?_)
  ·obtain ⟨z,L,rfl⟩:=p;have H:j<3:=by have:=(aF.1 w).1;rwa [mM] at this
   rw [vW H] at w;cases w
   exact Uf fun R c=>Uv U5 fun s=>Um (j:=0) U12<|Ug [2,3,4,5,8] c Z<|W8 (hn_ [2,3,4,5,8] Z) ⟨s,Z,Z⟩
  ·obtain ⟨z,L,rfl⟩:=p;obtain ⟨s,rfl,rfl⟩:=X;have H:j<3:=by have:=(aF.1 w).1;rwa [mM] at this
   refine Uf fun R c=>Uj aa U9<|Uj af U9<|V5 kI2 (.tail _ aa) Z Z Z Z Z Z Z Z Z (congrArg (kM _ true) (O i t j E H)) Z Z<|C4 5 [2,3,4,5,8,10] c Z<|Ua 1 [2,3,4,5,8,30] Z<|Ud (fun M=>?_) fun M=>?_
   ·exact absurd M dc_
   refine Uf fun R c=>Uj aa U9<|Uj af U9<|Uj ac U9<|V1 kI2 (j:=4) Z Z Z Z Z Z Z Z Z Z<|Vf [] trivial (c _ _ _ Z ?_);exact UV 1 Z<|VR (R:=fun d=>∃ (z:Unit),((j+1)<=3)/\d=[.obj J (.cells ⟨kC t⟩ 108 (0,0)),.obj F (.cells ⟨[.int .i64 i]⟩ 3 (0,0)),.obj o (.cells ⟨[.map (some f)]⟩ 242 (0,0)),.obj f (aQ qi (Em (yc a i) i t (j+1))),.obj n (.cells ⟨[.bool false]⟩ 4 (0,0)),.obj h (.cells ⟨[.map none]⟩ 242 (0,0)),.obj r (.cells ⟨[q,.slice A2 a.length c2]⟩ 36 (0,0))]++g.map qC) (List.perm_middle (l₁:=[_,_,_])).symm ⟨(),om_,Z⟩
  obtain ⟨z,L,rfl⟩:=p;refine Uf fun R c=>Ul _ U7<|C4 1 [2,3,4,13,14,15] c Z<|UV 1 Z<|UV 1 Z<|G.perm (L':=[.obj o (.cells ⟨[.map (some f)]⟩ 242 (0,0)),.obj f (aQ qi (yc a (i+1))),.obj n (.cells ⟨[.bool false]⟩ 4 (0,0)),.obj h (.cells ⟨[.map none]⟩ 242 (0,0)),.obj r (.cells ⟨[q,.slice A2 a.length c2]⟩ 36 (0,0))]++(K::g).map qC) (by
   rw [show yc a (i+1)=Em (yc a i) i t (vX t).length by rw [mM,yc,al,E];rfl];exact (List.perm_middle (l₁:=[_,_,_,_,_])).symm) ?_
  refine WW (m':=a.length-(i+1)) om_ mup (hn_ [2,3,4,13,14,15] Z) ⟨i+1,K::g,⟨by omega,by simp [y]⟩,Z,Z,Z,Z⟩
 have B:i=a.length:=by
  have:¬ i<a.length:=by simpa using A
  omega
 refine Uf fun R c=>Uj af U9<|Um (j:=3) U12<|Um (j:=3) U12<|Ug [2,3] c Z<|G.freeze 3 Z fun Cf an Y=>G.perm (L':=g.map qC++[_,_,_,_]) (QT (l₁:=[_,_,_,_]))<|Un (WZ (K9 ae af Z Z Z Z Z Z Z) ?_ ?_)
 ·exact ⟨Z,f,Z,by rw [<- B];exact Y⟩
 intro e;rw [e] at y;have:=Q3.2 N;simp at y;omega
def K4 (kd a b:Int)(h:Bool):Value:=.agg ⟨[.int .u8 kd,.int .i8 a,.int .i8 b,.bool h]⟩
def dT (h:Bool):Int:=if h then 2 else 1
def dA (a b:Int)(h:Bool)(x y by':Int):Pt:=(kR (x+a.tmod 8*by') (dT h*by'),kR (y+b.tmod 8*by') (dT h*by'))
theorem yd (a:Int):-8<a.tmod 8/\a.tmod 8<8:=by
 have h:(a.tmod 8).natAbs=a.natAbs % 8:=S5 a 8;omega
theorem Bd (C:Mem)(g:Tabs C)(i a b:Int)(h:Bool)(x y n:Int)(v:0<n)(w:n<=4)(A:-128<=x/\x<=127)(B:-128<=y/\y<=127) :
  Gives cx.P 95 [K4 i a b h,.agg ⟨[.int .i8 x,.int .i8 y]⟩,.int .i64 n] C (ptV (dA a b h x y n)):=by
 have k:=yd a;have l:=yd b;have m:∀ z:Int, -8<z->z<8->-32<z*n/\z*n<32:=fun z h1 h2=>by
  rcases (by omega:n=1∨n=2∨n=3∨n=4) with e | e | e | e <;> subst e <;> omega
 have D:=m _ k.1 k.2;have E:=m _ l.1 l.2;have r:dT h=1∨dT h=2:=by cases h <;> simp [dT]
 have F:0<dT h*n/\dT h*n<=8:=by rcases r with e | e <;> rw [e] <;> omega
 refine Uk func95 53 U3 fun w0=>Uf fun R d=>Uw U6 fun o=>Uw U6 fun p=>Uv U5 fun q=>Ug [2,3,4,6] d Z<|Ua 1 [2,3,4,6,7] Z<|Ub 1 Z fun R d=>Uj ac U9<|Ug [2,3,4,6,7,13] d Z<|G.cut (fun fr C' s t=>(True)/\fr=[(2,[],.int .i64 n),(3,[],.pointer (some ⟨o,0,none⟩)),(4,[],.pointer (some ⟨p,0,none⟩)),(6,[],.pointer (some ⟨q,0,none⟩)),(7,[],.int .i64 (dT h))]/\s=[.obj q (.cells ⟨[ah [],ah []]⟩ 58 (0,0)),.obj p (.cells ⟨[.int .i8 x,.int .i8 y]⟩ 23 (0,0)),.obj o (.cells ⟨[.int .u8 i,.int .i8 a,.int .i8 b,.bool h]⟩ 25 (0,0))]) ?_ (fun fr _ H t _ u=>?_)
 ·refine Ud (fun f=>?_) fun f=>?_
  ·have h1:h=true:=f;subst h1;refine Ua 1 [2,3,4,6,7] Z<|Uq 0 (Mem.le.refl _) (hn_ [2,3,4,6,7] Z) ⟨trivial,Z,Z⟩
  have h1:h=false:=by simpa using f
  subst h1;refine Uq 0 (Mem.le.refl _) (hn_ [2,3,4,6,7] Z) ⟨trivial,Z,Z⟩
 obtain ⟨_,rfl,rfl⟩:=u;refine Uf fun R d=>UA (0) U9 ag U2<|Uj ae U9<|UQ (c:=x) U8 (wrap_i64 om_ om_) fl_<|Ue U6<|UA (1) U9 ag U2<|Uj ac U9<|Vh (a.tmod 8) U6 dc_ U3<|UQ (c:=a.tmod 8) U8 (wrap_i64 om_ om_) fl_<|Ue U6<|Ul _ U7<|Ul _ U7<|Uh 2 Z<|Ul _ U7<|Ur (Fp _ g.m_ (x+a.tmod 8*n) (dT h*n) om_ om_ om_) U7 fl_<|C4 5 [2,3,4,6,7,8] d Z<|Uf fun R d=>UA (1) U9 ag U2<|Uj ae U9<|UQ (c:=y) U8 (wrap_i64 om_ om_) fl_<|Ue U6<|UA (2) U9 ag U2<|Uj ac U9<|Vh (b.tmod 8) U6 dc_ U3<|UQ (c:=b.tmod 8) U8 (wrap_i64 om_ om_) fl_<|Ue U6<|Ul _ U7<|Ul _ U7<|Uh 2 Z<|Ul _ U7<|Ur (Fp _ g.m_ (y+b.tmod 8*n) (dT h*n) om_ om_ om_) U7 fl_<|C4 5 [6,8,10] d Z<|Ub 2 Z fun R d=>Uu (gp (dA a b h x y n)) U8<|Um (j:=0) U12<|Ug [6] d Z<|Un (UU af U4 ?_);exact ⟨Z,Z⟩
def gv (s p:Nat):Value:=.agg ⟨[.int .i64 (s:Nat),.int .i64 (p:Nat)]⟩
theorem lD (C:Mem)(s p:Nat)(h:s*p<=1000000000):Gives cx.P 65 [gv s p] C (.int .i64 ((s*p:Nat):Int)):=by
 exact Uk func65 8 U3 fun w0=>Uf fun R a=>Uw U6 fun b=>C4 1 [1] a Z<|Ub 1 Z fun R a=>Uj af U9<|Ue U6<|Uj af U9<|Ul _ U7<|C4 1 [2] a Z<|Ui U2<|⟨Z,Z⟩
theorem OA (C:Mem)(s p:Nat)(i k:Int)(h:-1000000000000<=i*p/\i*p<=1000000000000)(b:-1000000000<=k/\k<=1000000000):Gives cx.P 190 [gv s p,.int .i64 i,.int .i64 k] C (.int .i64 (i*p+k)):=by
 exact Uk func190 13 U3 fun w0=>Uf fun R a=>Uw U6 fun c=>C4 1 [1,2,3] a Z<|Ub 2 Z fun R a=>Uj af U9<|Ul _ U7<|Ue U6<|Ul _ U7<|C4 1 [6] a Z<|Ui U2<|⟨Z,Z⟩
end Go.Proofs.YthnpijdjlddpmaaGreatDoor
