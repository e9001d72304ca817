/- Laws that the proofs of this seat share, part 7. -/
import Derived.Test.YthnpijdjlddpmaaGreatDoorG6
import Derived.Test.YthnpijdjlddpmaaGreatDoorShelf
import Derived.RangeFuncBox
import Derived.RangeFuncLeaves
import Derived.Shelf.Abstract
import Derived.WalkKit
import Derived.OwnWalkIn
import Derived.TacticsInMore
import Derived.LoopNIn
import Derived.LoopIn
import Derived.Stop.RegionWithIn
import Derived.Test.YthnpijdjlddpmaaGreatDoorProg
set_option maxHeartbeats 4000000
namespace Go.Proofs.YthnpijdjlddpmaaGreatDoor
open Go.Proofs.Tryz
open Go Go.Jog
set_option maxRecDepth 100000
variable {a b:Rat}{d g k n:Nat}{q:Rat}{s t:Str}{w z:Int}
def Hc (z w:Int):Nat:=if z<0/\z.natAbs % w.natAbs≠0 then z.natAbs / w.natAbs+1 else z.natAbs / w.natAbs
def BI (z w:Int):Nat:=if z<0/\z.natAbs % w.natAbs≠0 then w.natAbs-z.natAbs % w.natAbs else z.natAbs % w.natAbs
theorem Hb (i:0<w):sgZ (decide (z<0) != decide (w<0)) (Hc z w)=z / w/\(BI z w:Int)=z % w:=by
 obtain ⟨n,rfl⟩:∃ n:Nat,w=n:=⟨w.natAbs,by omega⟩;have f:0<n:=by omega
 rw [QC (by omega:¬ ((n:Nat):Int)<0),Bool.bne_false];have h1:=Ta z.natAbs n;have h2:=QV z.natAbs f;obtain ⟨q,d⟩:∃ q,z.natAbs / n=q:=⟨_,rfl⟩;obtain ⟨r,hr⟩:∃ r,z.natAbs % n=r:=⟨_,rfl⟩;have g:sgZ (decide (z<0)) (Hc z n)=z / n/\(BI z n:Int)=z % n:=by
  have h3:=(Int.ediv_emod_unique (a:=z) (r:=(BI z n:Int)) (q:=sgZ (decide (z<0)) (Hc z n)) (by omega:(0:Int)<(n:Int))).2;have h4:(BI z n:Int)+(n:Int)*sgZ (decide (z<0)) (Hc z n)=z/\0<=(BI z n:Int)/\(BI z n:Int)<(n:Int):=by
   unfold Hc BI sgZ;simp only [QZ];rw [d,hr];rw [hr,d] at h1;rw [hr] at h2;have h5:((r+n*q:Nat):Int)=(z.natAbs:Int):=by rw [h1]
   rw [SR,Q6] at h5;by_cases b:z<0
   ·rw [Qr b,aU rfl];by_cases c:r=0
    ·subst c;rw [az am,az am];rw [Int.mul_neg];omega
    rw [aU ⟨b,c⟩,aU ⟨b,c⟩];rw [Int.mul_neg,SR,Tn];omega
   rw [QC b,az (fun h:z<0/\r≠0=>b h.1),az (fun h:z<0/\r≠0=>b h.1),az dc_];omega
  have e:=h3 h4;exact ⟨e.1.symm,e.2.symm⟩
 exact g
theorem sh (C:Mem)(u:Tabs C)(z w:Int)(k:Nat)(f:0<k)(hk:k<=40000)(g:z.natAbs<B9 ^ k)(i:w.natAbs<B9 ^ k)(v:0<w):Gives cx.P 211 [ah (txt z),ah (txt w)] C (.tuple #[ah (txt (z / w)),ah (txt (z % w)),.int .i64 0]):=by
 have aj:=bZ g f;have ak:=bZ i f;have l:0<w.natAbs:=by omega
 refine Ud func211 50 U3 fun w0=>TT 3 [0,1] Z<|TT 2 [0,1,12] Z<|TW (fun m=>?_) fun m=>?_
 ·have h:=lj w;rw [h] at m;have:w=0:=aJ m;omega
 refine TU 1 Z fun R a=>Uz (iV _ z om_) U7 fl_ fun am _ _ J=>TX U6<|Uz (iV _ w om_) U7 fl_ fun an _ _ K=>Uo U5 fun y=>Uo U5 (fun A=>?_);obtain ⟨pz,rfl,B⟩:=J;obtain ⟨pw,rfl,o⟩:=K;obtain ⟨L,M,N,rfl⟩:=B.form;obtain ⟨O,Q,S,rfl⟩:=o.form;refine Uf (j:=1) U12<|Uf (j:=1) U12<|TZ [7,8] a Z<|TU 1 Z fun R a=>Uc ae U9<|TX U6<|Uc af U9<|Uz (xf _ _ _ _ _ B.m_ o.m_ (dy (k:=100000) (n:=k) g om_) l) U7 fl_ (fun ao _ _ T=>?_);obtain ⟨vq,vr,rfl,D,p⟩:=T;refine C4 5 [7,8,9,10] a Z ?_;obtain ⟨b,U,V,W⟩:=id p;obtain ⟨Ar,cr,E,_⟩:=id W;rw [al] at E;subst E;have F:b.length=0 ↔ z.natAbs % w.natAbs=0:=by
  rw [<- V,BY U];exact Tj
 refine TU 1 Z fun R a=>Uc ae U9<|Ua 4 Z<|Uu U8<|TZ [7,8,9,10,31] a Z<|G.cut (fun fr C' X Y=>∃ (q r:Value),(NineC C' q (Hc z w)/\NineC C' r (BI z w))/\fr=[(7,[],.pointer (some ⟨y,0,none⟩)),(8,[],.pointer (some ⟨A,0,none⟩)),(9,[],q),(10,[],r)]/\X=[.obj A (.cells ⟨[.bool (decide (w<0)),.slice O Q S]⟩ 307 (0,0)),.obj y (.cells ⟨[.bool (decide (z<0)),.slice L M N]⟩ 307 (0,0))]) ?_ (fun fr _ ap Y _ hI=>?_)
 ·refine TW (fun d=>?_) fun d=>?_
  ·have c:z<0/\z.natAbs % w.natAbs≠0:=by
    have h:decide (z<0)=true/\0<b.length:=by simpa using d
    exact ⟨aJ h.1,fun e=>by have:=F.2 e;omega⟩
   have s:Hc z w=z.natAbs / w.natAbs+1:=aU c;have t:BI z w=w.natAbs-z.natAbs % w.natAbs:=aU c;have aa:z.natAbs / w.natAbs<B9 ^ k:=Q7 (Rc _ _) g;refine Ur [0,3,4,5,1,2,6,7,8] [] Z kr_ fun R hB a=>Ua 2 Z<|Uc af U9<|TX U6<|Uq [cj 1] U12 fun aq _ _ ab=>Uz (Li (k:=k) _ D.m_ (⟨[1],⟨(fun x hx=>(by rw [Qx.1 hx];decide)),by simp⟩,Z,ab.mono mup⟩:NineC _ _ 1) aa (Rt (by decide:1<B9 ^ 1) (QD dc_ f)) om_) U7 fl_ fun ar _ _ ac=>Uz (uj (k:=k) _ o.m_ p.m_ i (Nat.le_of_lt (QV _ l)) om_) U7 fl_ fun au _ _ ad=>Ua 2 Z<|TZ [7,8,9,10] a Z ?_;clear a hB R;refine Uj 0 mup (hn_ [7,8,9,10] Z) ⟨_,_,⟨by rw [s];exact ac.mono mup,by rw [t];exact ad.mono mup⟩,Z,Z⟩
  have c:¬ (z<0/\z.natAbs % w.natAbs≠0):=fun h=>by
   have h2:0<b.length:=by
    rcases RD b.length with h3 | h3
    ·exact absurd (F.1 h3) h.2
    exact h3
   have h3:(decide (z<0) && decide ((0:Int)<(b.length:Int)))=true:=by
    rw [Qr h.1,Qr om_];rfl
   rw [h3] at d;cases d
  have s:Hc z w=z.natAbs / w.natAbs:=az c;have t:BI z w=z.natAbs % w.natAbs:=az c;refine Uj 0 mup (hn_ [7,8,9,10] Z) ⟨_,_,⟨by rw [s];exact D.mono mup,by rw [t];exact p.mono mup⟩,Z,Z⟩
 obtain ⟨q ,r,⟨H,I⟩,rfl,rfl⟩:=hI;obtain ⟨A9,m9,c9,rfl⟩:=H.form;obtain ⟨av,aw,ax,rfl⟩:=I.form;have ag:Hc z w<B9 ^ 100000:=by
  have h1:z.natAbs / w.natAbs<=z.natAbs:=Rc _ _;have h2:Hc z w<=z.natAbs+1:=by unfold Hc;split <;> omega
  have h3:B9 ^ k*2<=B9 ^ (k+1):=by rw [Ru];exact RF _ dc_
  have h4:z.natAbs+1<B9 ^ (k+1):=by have:=SC (n:=k) (show 0<B9 by decide);omega
  exact dy (k:=100000) (n:=k+1) (Q7 h2 h4) om_
 have ai:BI z w<B9 ^ 100000:=by
  have h1:=QV z.natAbs l;have h2:BI z w<=w.natAbs:=by unfold BI;split <;> omega
  exact dy (k:=100000) (n:=k) (Q7 h2 i) om_
 refine TU 1 Z fun R a=>Uc ae U9<|TX U6<|Uc af U9<|Ua 2 Z<|Un [.bool (decide (z<0) != decide (w<0)),_] U8<|Uh (jS _ u.m_ _ _ _ H.m_ ag) U7<|TX U6<|Un [.bool false,_] U8<|Uh (jS _ u.m_ _ _ _ I.m_ ai) U7<|C4 3 [4,5,6] a Z<|Ui (G.dropAll (UZ U4 ?_));refine ⟨?_,Z⟩;rw [(Hb v).1,show sgZ false (BI z w)=z % w from (Hb v).2]
theorem KD {l:List Nat}(a:xV l)(b:bB l=n):0<l.length ↔ 0<n:=by
 have h:=BY a;rw [b] at h;have h2:l.length=0 ↔ n=0:=by rw [h];exact Tj
 omega
theorem GM (C:Mem)(r:Tabs C)(z w:Int)(k:Nat)(s:0<k)(hk:k<=40000)(t:z.natAbs<B9 ^ k)(u:w.natAbs<B9 ^ k):Gives cx.P 208 [ah (txt z),ah (txt w)] C (ah (txt (Nat.gcd z.natAbs w.natAbs:Nat))):=by
 have ab:=bZ t s;have ac:=bZ u s;refine Ud func208 56 U3 fun w0=>TT 1 [0,1] Z<|TU 1 Z fun R a=>Uh (jD _ z 18 (Qb _)) U7<|C4 5 [0,1,5,6] a Z<|TT 1 [0,1,5,18] Z<|G.cut (fun fr C' d e=>(True)/\fr=[(0,[],ah (txt z)),(1,[],ah (txt w))]/\d=[]) ?_ (fun fr _ ad e _ f=>?_)
 ·refine TW (fun v=>?_) fun v=>?_
  ·have A:=aJ v;rw [aU A];have B:=zo A;rw [e18] at B;refine TU 1 Z fun R a=>Uh (jD _ w 18 (Qb _)) U7<|C4 5 [0,1,5,7,8] a Z<|TT 1 [0,1,5,7,24] Z<|TW (fun E=>?_) fun E=>?_
   ·have F:=aJ E;rw [aU F];have H:=zo F;rw [e18] at H;refine G.loop (fun fr C' d e=>∃ (x y:Int),(x.natAbs<1000000000000000000/\y.natAbs<1000000000000000000/\Nat.gcd x.natAbs y.natAbs=Nat.gcd z.natAbs w.natAbs)/\fr=[(5,[],.int .i64 x),(7,[],.int .i64 y)]/\d=[]/\e=y.natAbs+1) (hn_ [5,7] Z) ⟨z,w,⟨B,H,Z⟩,Z,Z,Z⟩ (fun fr ae af m K f=>?_);obtain ⟨x,y,⟨ag,L,c⟩,rfl,rfl,rfl⟩:=f;refine TT 2 [5,7,26] Z<|TW (fun i=>?_) fun i=>?_
    ·have b:y≠0:=by simpa using i
     have M:(x.tmod y).natAbs=x.natAbs % y.natAbs:=SU x y;have N:=QV x.natAbs (show 0<y.natAbs by omega);refine Ur [0,1,2,3,4,5] [] Z kr_ fun R hB a=>Ua 3 Z<|U1 (x.tmod y) U6 b U3<|C4 2 [5,7] a Z<|Ug (m':=(x.tmod y).natAbs+1) om_ K (hn_ [5,7] Z) ⟨y,x.tmod y,⟨L,by omega,by rw [M,<- c,Sr x.natAbs,TL y.natAbs x.natAbs,Sr]⟩,Z,Z,Z⟩
    have b:y=0:=by simpa using i
    subst b;rw [show (0:Int).natAbs=0 from rfl,SS] at c;refine TU 3 Z fun R a=>?_;have ai:IntKind.i64.wrap (0-x)=0-x:=wrap_i64 om_ om_;exact D.max ((x.natAbs:Int)) U6 om_ U2<|Uk (se _ r.m_ (x.natAbs:Int) om_ om_) U7 fl_<|C4 1 [4] a Z<|Ub U2<|⟨by rw [c],Z⟩
   refine Uj 0 (Mem.le.refl _) (hn_ [0,1] Z) ⟨trivial,Z,Z⟩
  refine Uj 0 (Mem.le.refl _) (hn_ [0,1] Z) ⟨trivial,Z,Z⟩
 obtain ⟨_,rfl,rfl⟩:=f;refine TU 1 Z fun R a=>Uz (iV _ z om_) U7 fl_ (fun aj _ _ O=>?_);obtain ⟨pz,rfl,Q⟩:=O;refine Vl U12<|TX U6<|Uz (iV _ w om_) U7 fl_ (fun ak _ _ S=>?_);obtain ⟨pw,rfl,T⟩:=S;refine Vl U12<|C4 2 [9,10] a Z<|G.loop (fun fr C' d e=>∃ (x y:Nat)(j o:Value),(NineC C' j x/\NineC C' o y/\x<B9 ^ k/\y<B9 ^ k/\Nat.gcd x y=Nat.gcd z.natAbs w.natAbs)/\fr=[(9,[],j),(10,[],o)]/\d=[]/\e=y+1) (hn_ [9,10] Z) ⟨_,_,_,_,⟨Q.mono mup,T.mono mup,t,u,Z⟩,Z,Z,Z⟩ (fun fr am an m _ f=>?_);obtain ⟨x,y,j,o,⟨p,g,I,J,c⟩,rfl,rfl,rfl⟩:=f;obtain ⟨l,U,V,W⟩:=id g;obtain ⟨ao,ap,rfl,_⟩:=id W;rw [al] at g ⊢;have X:=KD U V;refine TT 3 [9,10,44] Z<|TW (fun q=>?_) fun q=>?_
 ·have b:0<y:=X.1 (by simpa using q);have N:=QV x b;refine TU 2 Z fun R a=>Uz (xf _ _ _ _ _ p.m_ g.m_ (dy (k:=100000) (n:=k) I om_) b) U7 fl_ (fun aq _ _ Y=>?_);obtain ⟨vq,vr,rfl,ar,aa⟩:=Y;refine C4 5 [10,12] a Z<|TT 4 [9,10] Z<|Ug (m':=x % y+1) om_ mup (hn_ [9,10] Z) ⟨y,x % y,_,_,⟨g.mono mup,aa.mono mup,J,Ss (QV _ b) J,by rw [<- c,Sr x,TL y x,Sr]⟩,Z,Z,Z⟩
 have b:y=0:=by
  have h:¬ 0<l.length:=by simpa using q
  omega
 subst b;rw [SS] at c;obtain ⟨A9,m9,c9,rfl⟩:=p.form;exact TU 1 Z fun R a=>Un [.bool false,_] U8<|Uk (jS _ r.m_ _ _ _ p.m_ (dy (k:=100000) (n:=k) I om_)) U7 fl_<|C4 1 [4] a Z<|Ub U2<|⟨by rw [c];rfl,Z⟩
def rO (sg:Bool)(A:Str)(B:Option Str):Value :=
 if Nm A B then .tuple #[.int .i64 (sgZ sg (bV A)),.int .i64 (P2 B),.bool true] else .tuple #[.int .i64 0,.int .i64 0,.bool false]
theorem CS (C:Mem)(d:Bool)(A:Str)(B:Option Str)(q:∀ c∈A,eN c=true)(T:A≠[])(U:∀ b,B=some b->∀ c∈b,eN c=true)(V:(Jj d++A++eM B).length<=1000000) :
  Gives cx.P 141 [ah (Jj d++A++eM B)] C (rO d A B):=by
 obtain ⟨s,hs⟩:∃ s,Jj d++A++eM B=s:=⟨_,rfl⟩;obtain ⟨p,t⟩:∃ p,(Jj d).length=p:=⟨_,rfl⟩;have g:p=if d then 1 else 0:=by rw [<- t];cases d <;> rfl
 have u:∀ j c,A[j]?=some c->s[p+j]?=some c:=fun j c h=>by rw [<- hs,<- t];exact ME _ _ _ h
 have N:∀ j,s[p+A.length+j]?=(eM B)[j]?:=fun j=>by rw [<- hs,<- t];exact Jk _ _ _ _
 have y:s.length=p+A.length+(eM B).length:=by rw [<- hs,<- t,Qi,Qi]
 have W:0<A.length:=QY.2 T;rw [hs] at V ⊢;refine Ud func141 73 U3 fun w0=>TT 3 [0,2,3] Z<|TT 2 [0,2,3,5,6] Z<|TU 5 Z fun R a=>UT (b:=s.getD 0 0) U8 (fun _=>⟨by omega,(by rw [aw,show (0:Int).toNat=0 from rfl];obtain ⟨c,f⟩:∃ c,s[0]?=some c:=⟨s[0]'om_,aj om_⟩;rw [f];rfl)⟩) U2<|TX U6<|Uu U8<|TZ [0,2,3,5,6,15] a Z<|G.cut (fun fr C' i k=>(True)/\fr=[(0,[],ah s),(2,[],.int .i64 0),(3,[],.int .i64 0),(5,[],.int .i64 p),(6,[],.bool d)]/\i=[]) ?_ (fun fr _ ae k _ l=>?_)
 ·refine TW (fun v=>?_) fun v=>?_
  ·have n:d=true:=by
    cases d with
    | true=>rfl
    | false =>
     exfalso;rw [az dc_] at g;subst g;obtain ⟨c,f⟩:∃ c,A[0]?=some c:=⟨A[0],aj W⟩;have h1:=u 0 c f;have h2:=q c (Qc f);rw [Sc] at h1;rw [aw,h1] at v;unfold eN at h2;simp at v h2;omega
   subst n;rw [aU rfl] at g;subst g;refine TT 2 [0,2,3,5,6] Z<|Uj 0 (Mem.le.refl _) (hn_ [0,2,3,5,6] Z) ⟨trivial,Z,Z⟩
  have n:d=false:=by
   cases d with
   | false=>rfl
   | true =>
    exfalso;have h1:s[0]?=some 45:=by rw [<- hs];rfl
    rw [aU rfl] at g;have h2:(decide ((0:Int)<((s.length:Nat):Int)) && decide ((((s.getD 0 0).toNat:Nat):Int)=45))=false:=by simpa using v
    rw [aw,h1,Qr om_] at h2;exact absurd h2 dc_
  subst n;rw [az dc_] at g;subst g;refine Uj 0 (Mem.le.refl _) (hn_ [0,2,3,5,6] Z) ⟨trivial,Z,Z⟩
 obtain ⟨_,rfl,rfl⟩:=l;refine TT 2 [0,2,3,5,6,7] Z<|G.loop (fun fr C' i k=>∃ (j:Nat),(j<=A.length/\j<=9)/\fr=[(0,[],ah s),(2,[],.int .i64 ((bV (A.take j):Nat):Int)),(3,[],.int .i64 0),(5,[],.int .i64 ((p+j:Nat):Int)),(6,[],.bool d),(7,[],.int .i64 p)]/\i=[]/\k=A.length-j+1) (hn_ [0,2,3,5,6,7] Z) ⟨0,⟨by omega,by omega⟩,Z,Z,Z⟩ (fun fr af ag m X l=>?_);obtain ⟨j,⟨hj,w⟩,rfl,rfl,rfl⟩:=l;obtain ⟨c,f⟩:∃ c,p+j<s.length->s[p+j]?=some c:=⟨s.getD (p+j) 0,fun h=>by rw [aw,aj h];rfl⟩;refine TU 7 Z fun R a=>UT (b:=c) U8 (fun Y=>⟨by omega,f (by have h:decide (((p+j:Nat):Int)<((s.length:Nat):Int))=true:=Y.1;have h2:=aJ h;omega)⟩) U2<|TX U6<|Uu U8<|TZ [0,2,3,5,6,7,26] a Z<|TW (fun x=>?_) fun x=>?_
 ·have z:p+j<s.length/\c.toNat≠47:=by
   simp at x;omega
  have E:j<A.length:=by
   rcases QL j A.length with h | h
   ·exact h
   exfalso;obtain rfl:j=A.length:=by omega
   have h1:=f z.1;have h2:=N 0;rw [Sc,h1] at h2;cases B with
   | none=>simp [eM] at h2
   | some b =>
    simp [eM] at h2;subst h2;exact z.2 Z
  obtain ⟨e,o⟩:∃ c,A[j]?=some c:=⟨A[j],aj E⟩;obtain rfl:e=c:=by
   have h1:=f z.1;rw [u j e o] at h1;exact RK h1
  have O:48<=e.toNat/\e.toNat<=57:=by simpa [eN] using q e (Qc o)
  have hV:=uI q w;refine TU 2 Z fun R a=>Ue _ U7<|C4 1 [0,2,3,5,6,7,32] a Z<|TW (fun F=>?_) fun F=>?_
  ·have r:¬ A.length<=9:=by
    have:((p+j:Nat):Int)-p=9:=by simpa using F
    omega
   refine TT 3 [2,3,4] Z<|Ui (G.dropAll (UZ U4 ?_));refine ⟨?_,Z⟩;unfold rO Nm;rw [QC r,Bool.false_and,az dc_]
  have r:j≠9:=by
   have:¬ ((p+j:Nat):Int)-p=9:=by simpa using F
   omega
  refine TU 1 Z fun R a=>Ue _ U7<|Ua 2 Z<|UT U8 (fun _=>⟨by omega,u j _ o⟩) U2<|D.int (((e.toNat:Nat):Int)-48) U4 (by rw [IntKind.wrap_u8];omega) U2<|UJ (c:=((e.toNat:Nat):Int)-48) U8 (by rw [IntKind.wrap_i64];omega) fl_<|Ue _ U7<|C4 1 [0,2,3,5,6,7] a Z<|TU 1 Z fun R a=>Ue _ U7<|C4 1 [0,2,3,5,6,7] a Z ?_;rw [show 10*((bV (A.take j):Nat):Int)+(((e.toNat:Nat):Int)-48)=((bV (A.take (j+1)):Nat):Int) by rw [BM o];omega];refine Ug (m':=A.length-(j+1)+1) om_ X (hn_ [0,2,3,5,6,7] Z) ⟨j+1,⟨by omega,by omega⟩,Z,Z,Z⟩
 have E:j=A.length:=by
  rcases QL j A.length with h | h
  ·exfalso;obtain ⟨e,o⟩:∃ c,A[j]?=some c:=⟨A[j],aj h⟩;have h1:=f om_;rw [u j e o] at h1;obtain rfl:=RK h1;have O:48<=e.toNat/\e.toNat<=57:=by simpa [eN] using q e (Qc o)
   simp at x;have:=x om_;omega
  omega
 subst E;rw [Qo];refine TT 1 [0,2,3,5,41] Z<|G.cut (fun fr C' i k=>(True)/\fr=[(0,[],ah s),(2,[],.int .i64 (sgZ d (bV A))),(3,[],.int .i64 0),(5,[],.int .i64 ((p+A.length:Nat):Int))]/\i=[]) ?_ (fun fr _ ai k _ l=>?_)
 ·refine TW (fun H=>?_) fun H=>?_
  ·have n:d=true:=H;subst n;have aa:=uI q w;rw [Qo] at aa;refine TT 3 [0,2,3,5] Z ?_;rw [show IntKind.i64.wrap (0-((bV A:Nat):Int))=sgZ true (bV A) by rw [wrap_i64 om_ om_];unfold sgZ;rw [aU rfl];omega];refine Uj 0 (Mem.le.refl _) (hn_ [0,2,3,5] Z) ⟨trivial,Z,Z⟩
  have n:d=false:=by simpa using H
  subst n;refine Uj 0 (Mem.le.refl _) (hn_ [0,2,3,5] Z) ⟨trivial,Z,Z⟩
 obtain ⟨_,rfl,rfl⟩:=l;refine TT 4 [0,2,3,5,47] Z<|TW (fun I=>?_) fun I=>?_
 ·have ab:B=none:=by
   cases B with
   | none=>rfl
   | some b =>
    exfalso;have:p+A.length=s.length:=by simp at I;omega
    rw [y] at this;simp [eM] at this
  subst ab;refine TT 4 [2,3,4] Z<|Ui (G.dropAll (UZ U4 ?_));refine ⟨?_,Z⟩;unfold rO Nm;rw [Qr w];rfl
 obtain ⟨b,rfl⟩:∃ b,B=some b:=by
  cases B with
  | some b=>exact ⟨b,rfl⟩
  | none =>
   exfalso;simp [y,eM] at I
 have Q:=U b rfl;have ak:s.length=p+A.length+1+b.length:=by rw [y];simp [eM];omega
 refine TU 1 Z fun R a=>Ue _ U7<|C4 1 [0,2,3,5,7] a Z<|TU 1 Z fun R a=>Ue _ U7<|C4 1 [0,2,3,5,7] a Z<|G.loop (fun fr C' i k=>∃ (j:Nat),(j<=b.length/\j<=9)/\fr=[(0,[],ah s),(2,[],.int .i64 (sgZ d (bV A))),(3,[],.int .i64 ((bV (b.take j):Nat):Int)),(5,[],.int .i64 ((p+A.length+1+j:Nat):Int)),(7,[],.int .i64 ((p+A.length+1:Nat):Int))]/\i=[]/\k=b.length-j+1) (hn_ [0,2,3,5,7] Z) ⟨0,⟨by omega,by omega⟩,Z,Z,Z⟩ (fun fr al am m ac l=>?_);obtain ⟨j,⟨hk,S⟩,rfl,rfl,rfl⟩:=l;refine TT 4 [0,2,3,5,7,56] Z<|TW (fun J=>?_) fun J=>?_
 ·have K:j<b.length:=by
   have:p+A.length+1+j<s.length:=by simp at J;omega
   omega
  obtain ⟨c,L⟩:∃ c,b[j]?=some c:=⟨b[j],aj K⟩;have ad:s[p+A.length+1+j]?=some c:=by rw [S5,N,SD 1 j];exact L
  have O:48<=c.toNat/\c.toNat<=57:=by simpa [eN] using Q c (Qc L)
  have hV:=uI Q S;refine TU 2 Z fun R a=>Ue _ U7<|C4 1 [0,2,3,5,7,62] a Z<|TW (fun M=>?_) fun M=>?_
  ·have r:¬ b.length<=9:=by
    have:((p+A.length+1+j:Nat):Int)-((p+A.length+1:Nat):Int)=9:=by simpa using M
    omega
   refine TT 3 [2,3,4] Z<|Ui (G.dropAll (UZ U4 ?_));refine ⟨?_,Z⟩;unfold rO Nm;rw [show (some b).getD []=b from rfl,QC r,Bool.and_false,az dc_]
  have r:j≠9:=by
   have:¬ ((p+A.length+1+j:Nat):Int)-((p+A.length+1:Nat):Int)=9:=by simpa using M
   omega
  refine TU 1 Z fun R a=>Ue _ U7<|Ua 2 Z<|UT U8 (fun _=>⟨by omega,ad⟩) U2<|D.int (((c.toNat:Nat):Int)-48) U4 (by rw [IntKind.wrap_u8];omega) U2<|UJ (c:=((c.toNat:Nat):Int)-48) U8 (by rw [IntKind.wrap_i64];omega) fl_<|Ue _ U7<|C4 1 [0,2,3,5,7] a Z<|TU 1 Z fun R a=>Ue _ U7<|C4 1 [0,2,3,5,7] a Z ?_;rw [show 10*((bV (b.take j):Nat):Int)+(((c.toNat:Nat):Int)-48)=((bV (b.take (j+1)):Nat):Int) by rw [BM L];omega];refine Ug (m':=b.length-(j+1)+1) om_ ac (hn_ [0,2,3,5,7] Z) ⟨j+1,⟨by omega,by omega⟩,Z,Z,Z⟩
 have K:j=b.length:=by
  have:¬ p+A.length+1+j<s.length:=by simp at J;omega
  omega
 subst K;rw [Qo];refine TT 5 [2,3,4] Z<|Ui (G.dropAll (UZ U4 ?_));refine ⟨?_,Z⟩;unfold rO Nm;rw [show (some b).getD []=b from rfl,Qr w,Qr S];rfl
theorem pf {n:Int}(a:g ∣ n.natAbs):n.tdiv (g:Int)=n / (g:Int):=Int.tdiv_eq_ediv_of_dvd (SM.1 (Sa.2 a))
theorem AR {n:Int}(a:d≠0):qtx (mkRat n d)=txt (n / ((Nat.gcd n.natAbs d:Nat):Int))++eM (nM (d / Nat.gcd n.natAbs d)):=by
 rw [pg,(ui n a).1,(ui n a).2]
theorem vZ (C:Mem)(e:Tabs C)(n:Int)(d:Nat)(o:0<d)(p:n.natAbs<9000000000000000000)(t:d<9000000000000000000):Gives cx.P 142 [.int .i64 n,.int .i64 d] C (ah (qtx (mkRat n d))):=by
 obtain ⟨g,b⟩:∃ g,Nat.gcd n.natAbs d=g:=⟨_,rfl⟩;have u:0<g:=by rw [<- b];exact SQ _ o
 have q:g ∣ n.natAbs:=by rw [<- b];exact S4 _ _
 have v:g ∣ d:=by rw [<- b];exact Tk _ _
 have F:g<=d:=TO o v;rw [AR om_,b];refine Ud func142 35 U3 fun w0=>TT 1 [0,1] Z<|TT 4 [0,1,5,6] Z<|G.loop (fun fr C' f h=>∃ (x y:Int),(x.natAbs<9000000000000000000/\y.natAbs<9000000000000000000/\Nat.gcd x.natAbs y.natAbs=g)/\fr=[(0,[],.int .i64 n),(1,[],.int .i64 d),(5,[],.int .i64 x),(6,[],.int .i64 y)]/\f=[]/\h=y.natAbs+1) (hn_ [0,1,5,6] Z) ⟨n,d,⟨p,by omega,by rw [QZ];exact b⟩,Z,Z,Z⟩ (fun fr H I m w i=>?_);obtain ⟨x,y,⟨J,z,r⟩,rfl,rfl,rfl⟩:=i;refine TT 2 [0,1,5,6,10] Z<|TW (fun j=>?_) fun j=>?_
 ·have k:y≠0:=by simpa using j
  have A:(x.tmod y).natAbs=x.natAbs % y.natAbs:=SU x y;have K:=QV x.natAbs (show 0<y.natAbs by omega);refine Ur [0,1,2,3,4,5] [] Z kr_ fun R B a=>Ua 3 Z<|U1 (x.tmod y) U6 k U3<|C4 2 [0,1,5,6] a Z<|Ug (m':=(x.tmod y).natAbs+1) om_ w (hn_ [0,1,5,6] Z) ⟨y,x.tmod y,⟨z,by omega,by rw [A,<- r,Sr x.natAbs,TL y.natAbs x.natAbs,Sr]⟩,Z,Z,Z⟩
 have k:y=0:=by simpa using j
 subst k;rw [show (0:Int).natAbs=0 from rfl,SS] at r;refine TT 2 [0,1,5,16] Z<|G.cut (fun fr C' f h=>(True)/\fr=[(0,[],.int .i64 n),(1,[],.int .i64 d),(5,[],.int .i64 g)]/\f=[]) ?_ (fun fr _ L h _ i=>?_)
 ·refine TW (fun l=>?_) fun l=>?_
  ·have D:x<0:=by simpa using l
   refine TT 3 [0,1,5] Z ?_;rw [show IntKind.i64.wrap (0-x)=(g:Int) by rw [wrap_i64 om_ om_];omega];refine Uj 0 (Mem.le.refl _) (hn_ [0,1,5] Z) ⟨trivial,Z,Z⟩
  have D:¬ x<0:=by simpa using l
  rw [show x=(g:Int) by omega];refine Uj 0 (Mem.le.refl _) (hn_ [0,1,5] Z) ⟨trivial,Z,Z⟩
 obtain ⟨_,rfl,rfl⟩:=i;have E:(n / (g:Int)).natAbs<=n.natAbs:=by
  rw [Sn (SM.1 (Sa.2 q)),QZ];exact Rc _ _
 have s:=Rc d g;refine Ur [0,1,2,3,4,5,6,7] [] Z kr_ fun R B a=>Ua 2 Z<|Vj (n / (g:Int)) U6 om_ (pf q) (wrap_i64 om_ om_) U2<|Ua 2 Z<|Vd (d) (g) U6 u (.inl ⟨Z,by omega⟩) U2<|C4 2 [0,1] a Z<|TT 2 [0,1,26] Z<|TW (fun c=>?_) fun c=>?_
 ·have h1:d / g=1:=by
   have h2:(((d / g:Nat):Int))=1:=by simpa using c
   omega
  refine TU 1 Z fun R a=>Uk (je _ e.m_ _ om_ om_) U7 fl_<|C4 1 [4] a Z<|Ub U2<|⟨?_,Z⟩;rw [h1,mf rfl];simp [eM]
 have h1:d / g≠1:=by
  intro h2;rw [h2] at c;exact absurd c dc_
 have M:=mI (n / (g:Int));have N:=mI ((d / g:Nat):Int);have O:(bq (n / (g:Int)).natAbs).length<=20:=eE (Q7 E (Ss p dc_)) dc_;have Q:(bq ((d / g:Nat):Int).natAbs).length<=20:=eE (by rw [QZ];exact Q7 s (Ss t dc_)) dc_;refine TU 1 Z fun R a=>Uk (je _ e.m_ _ om_ om_) U7 fl_<|UV U6 (fun _=>(by simp only [Qs,Qu];omega)) U2<|TX U6<|Uk (je _ e.m_ ((d / g:Nat):Int) (TR dc_ (Td _)) (TR (Int.ofNat_le.2 s) om_)) U7 fl_<|UV U6 (fun _=>(by simp only [Qi,Qs,Qu];omega)) U2<|C4 1 [4] a Z<|Ub U2<|⟨?_,Z⟩;rw [fI h1,da,QJ];rfl
theorem GG (C:Mem)(z:Int)(d:Nat)(k:Nat)(b:0<k)(g:k<=40000)(c:z.natAbs<B9 ^ k)(e:d<B9 ^ k):Gives cx.P 212 [ah (txt z),ah (bq d)] C (ah (txt z++eM (nM d))):=by
 have h:(txt z).length<=9*k+1:=by
  have:=bZ c b;unfold txt;split
  ·simp;omega
  omega
 have i:=bZ e b;refine Ud func212 12 U3 fun w0=>TT 1 [0,1] Z<|TT 2 [0,1,6] Z<|TW (fun a=>?_) fun a=>?_
 ·have h1:d=1:=by rw [sG] at a;exact aJ a
  refine TT 2 [4] Z<|Ub U2<|⟨?_,Z⟩;rw [mf h1];simp [eM]
 have h1:d≠1:=by rw [sG] at a;exact Qe a
 refine TU 1 Z fun R f=>UV U6 (fun _=>(by simp only [Qs,Qu];omega)) U2<|TX U6<|UV U6 (fun _=>(by simp only [Qi,Qs,Qu];omega)) U2<|C4 1 [4] f Z<|Ub U2<|⟨?_,Z⟩;rw [fI h1,QJ];rfl
theorem Fe (C:Mem)(s:Str)(c:s.length<1000000):Gives cx.P 143 [ah s] C (.tuple #[ah (jQ 47 s).1,ah ((jQ 47 s).2.getD [49])]):=by
 refine Ud func143 18 U3 fun w0=>TT 2 [0] Z<|TU 1 Z fun R d=>Uh (LH _ s 47 c) U7<|C4 7 [4,5,6] d Z<|TT 2 [4,5,14] Z<|TW (fun a=>?_) fun a=>?_
 ·have h1:(jQ 47 s).2=none:=by
   cases h:(jQ 47 s).2 with
   | none=>rfl
   | some b=>rw [h] at a;simp at a
  refine TT 3 [2,3] Z<|Ui (G.dropAll (Uw U3 ?_));refine ⟨?_,Z⟩;rw [h1];rfl
 obtain ⟨b,h1⟩:∃ b,(jQ 47 s).2=some b:=by
  cases h:(jQ 47 s).2 with
  | some b=>exact ⟨b,rfl⟩
  | none=>rw [h] at a;simp at a
 refine TT 4 [2,3] Z<|Ui (G.dropAll (Uw U3 ?_));refine ⟨?_,Z⟩;rw [h1];rfl
theorem BQ {c:UInt8}:∀ {a:Str}(b:Str),c ∉ a->jQ c (a++c::b)=(a,some b)
 | [],b,_=>by simp [jQ]
 | x::a,b,h=>by
  have d:x≠c:=fun e=>h (e ▸ Pz);have hr:=BQ (c:=c) (a:=a) b (fun h2=>h (Qm _ h2));simp only [RU,jQ,az d,hr]
theorem xk {c:UInt8}:∀ {a:Str},c ∉ a->jQ c a=(a,none)
 | [],_=>rfl
 | x::a,h=>by
  have b:x≠c:=fun e=>h (e ▸ Pz);have hr:=xk (c:=c) (a:=a) (fun h2=>h (Qm _ h2));simp only [jQ,az b,hr]
theorem vP (h:∀ c∈s,eN c=true):(47:UInt8) ∉ s:=fun h2=>absurd (h 47 h2) dc_
theorem vO (z:Int):(47:UInt8) ∉ txt z:=by
 unfold txt;split
 ·intro h;rcases Qp.1 h with h | h
  ·cases h
  exact vP (jO _) h
 exact vP (jO _)
theorem og (q:Rat):jQ 47 (qtx q)=(txt q.num,nM q.den):=by
 rw [pg];unfold nM;split
 ·rw [show eM none=[] from rfl,QA];exact xk (vO _)
 exact BQ _ (vO _)
theorem one_dec:bq 1=[49]:=by rw [bq];rfl
theorem Hj (d:Nat):(nM d).getD [49]=bq d:=by
 unfold nM;split
 ·rename_i h;subst h;exact one_dec.symm
 rfl
theorem MK (C:Mem)(q:Rat)(a:(qtx q).length<1000000):Gives cx.P 143 [ah (qtx q)] C (.tuple #[ah (txt q.num),ah (bq q.den)]):=by
 have h:=Fe C (qtx q) a
 rwa [og,Hj] at h
def kQ (z w:Int):Rat:=mkRat (if w<0 then -z else z) w.natAbs
theorem pJ (C:Mem)(f:Tabs C)(z w:Int)(k:Nat)(b:0<k)(e:k<=40000)(p:z.natAbs<B9 ^ k)(q:w.natAbs<B9 ^ k)(v:w≠0):Gives cx.P 144 [ah (txt z),ah (txt w)] C (ah (qtx (kQ z w))):=by
 have x:=bZ p b;have A:=bZ q b;obtain ⟨y,hy⟩:∃ y,(if w<0 then -z else z)=y:=⟨_,rfl⟩;obtain ⟨d,r⟩:∃ d,w.natAbs=d:=⟨_,rfl⟩;have s:d≠0:=by omega
 have B:y.natAbs=z.natAbs:=by rw [<- hy];split <;> omega
 obtain ⟨g,c⟩:∃ g,Nat.gcd y.natAbs d=g:=⟨_,rfl⟩;have D:0<g:=by rw [<- c];exact SQ _ om_
 have t:g ∣ d:=by rw [<- c];exact Tk _ _
 have E:g<=d:=TO om_ t;unfold kQ;rw [hy,r,AR s,c];refine Ud func144 35 U3 fun w0=>TT 1 [0,1] Z<|TU 1 Z fun R a=>Uh (lQ _ w) U7<|C4 1 [0,1,8] a Z<|G.cut (fun fr C' i j=>(True)/\fr=[(0,[],ah (txt y)),(1,[],ah (txt (d:Nat)))]/\i=[]) ?_ (fun fr _ F j _ l=>?_)
 ·refine TW (fun m=>?_) fun m=>?_
  ·have n:w<0:=by
    have h:eJ w<0:=by simpa using m
    unfold eJ at h;split at h <;> omega
   rw [aU n] at hy;refine TU 1 Z fun R a=>Uk (ut _ z om_) U7 fl_<|TX U6<|Uk (ut _ w om_) U7 fl_<|C4 2 [0,1] a Z<|Uj 0 (Mem.le.refl _) (hn_ [0,1] Z) ⟨trivial,by rw [hy,show -w=((d:Nat):Int) by omega],Z⟩
  have n:¬ w<0:=by
   intro h2;have h:¬ eJ w<0:=by simpa using m
   unfold eJ at h;split at h <;> omega
  rw [az n] at hy;refine Uj 0 (Mem.le.refl _) (hn_ [0,1] Z) ⟨trivial,by rw [hy,show w=((d:Nat):Int) by omega],Z⟩
 obtain ⟨_,rfl,rfl⟩:=l;refine TU 2 Z fun R a=>Uk (GM _ f.m_ y (d:Nat) k b e om_ om_) U7 fl_<|C4 1 [0,1,5] a Z ?_;rw [QZ,c];refine TT 2 [0,1,5,17] Z<|G.cut (fun fr C' i j=>(True)/\fr=[(0,[],ah (txt (y / (g:Nat)))),(1,[],ah (txt ((d / g:Nat):Int)))]/\i=[]) ?_ (fun fr _ H j _ l=>?_)
 ·refine TW (fun o=>?_) fun o=>?_
  ·refine TU 2 Z fun R a=>Uk (sh _ f.m_ y (g:Nat) k b e om_ om_ om_) U7 fl_<|C4 5 [0,1,5] a Z<|TU 2 Z fun R a=>Uk (sh _ f.m_ (d:Nat) (g:Nat) k b e om_ om_ om_) U7 fl_<|C4 5 [0,1] a Z<|Uj 0 (Mem.le.refl _) (hn_ [0,1] Z) ⟨trivial,by rw [Tr],Z⟩
  have u:g=1:=by
   rw [da,sG] at o;simpa using o
  refine Uj 0 (Mem.le.refl _) (hn_ [0,1] Z) ⟨trivial,by rw [u,Nat.div_one,Int.natCast_one,Int.ediv_one],Z⟩
 obtain ⟨_,rfl,rfl⟩:=l;rw [da];exact TU 2 Z fun R a=>Uk (GG _ (y / (g:Nat)) (d / g) k b e (by rw [Sn (SM.1 (Sa.2 (by rw [<- c];exact S4 _ _))),QZ];exact Q7 (Rc _ _) om_) (Q7 (Rc _ _) om_)) U7 fl_<|C4 1 [4] a Z<|Ub U2<|⟨Z,Z⟩
theorem Nx {a b:Nat}(h:bq a=bq b):a=b:=by rw [<- (bC a).2,h,(bC b).2]
theorem N8 (h:txt z=txt w):z=w:=by
 have h1:=dB z;rw [h,dB w] at h1;have h2:=Nx (TS h1).1;have h3:decide (w<0)=decide (z<0):=(TS h1).2;by_cases a:w<0
 ·rw [Qr a] at h3;have:=aJ h3.symm;omega
 rw [QC a] at h3;have:=Qe h3.symm;omega
theorem lC (h:qtx a=qtx b):a=b:=by
 have h1:=og a;rw [h,og b] at h1;have h2:=N8 (TS h1).1;have h3:=congrArg P2 (TS h1).2;rw [qm,qm] at h3;exact Rat.ext h2.symm h3.symm
theorem My (a b:Rat):((⟨(qtx a).toArray⟩:ByteArray).data.toList == (⟨(qtx b).toArray⟩:ByteArray).data.toList)=decide (a=b):=by
 show (qtx a == qtx b)=_;rw [TG,RJ,Qj];exact ⟨lC,fun h=>by rw [h]⟩
theorem qtx_zero:qtx 0=[48]:=by
 rw [show (0:Rat)=((0:Int):Rat) from rfl,mQ];unfold txt;rw [az om_,show bq (0:Int).natAbs=bq 0 from rfl,bq];rfl
theorem dx:qtx 1=[49]:=by
 rw [show (1:Rat)=((1:Int):Rat) from rfl,mQ];exact one_val.symm
theorem fS (a:Rat):((⟨(qtx a).toArray⟩:ByteArray).data.toList == (⟨#[48]⟩:ByteArray).data.toList)=decide (a=0):=by
 have h:=My a 0
 rwa [qtx_zero] at h
theorem Lb (a:Rat):((⟨(qtx a).toArray⟩:ByteArray).data.toList == (⟨#[49]⟩:ByteArray).data.toList)=decide (a=1):=by
 have h:=My a 1
 rwa [dx] at h
theorem Fv (a:Rat):0<(qtx a).length:=by
 unfold qtx;rw [Qi,Qi];have:=QY.2 (yV a.num.natAbs);omega
theorem bJ (h:QB k q)(a:0<k):(qtx q).length<=18*k+2:=by
 unfold qtx;rw [Qi,Qi];have h1:=bZ h.1 a;have h2:=bZ h.2 a;have h3:(Jj (decide (q.num<0))).length<=1:=by cases decide (q.num<0) <;> simp [Jj]
 have h4:(eM (nM q.den)).length<=9*k+1:=by
  unfold nM;split
  ·simp [eM]
  simp [eM];exact h2
 omega
theorem tS (q:Rat):∃ c r,qtx q=c::r/\((((c.toNat:Nat):Int) == 45)=decide (q.num<0)):=by
 by_cases h:q.num<0
 ·refine ⟨45,bq q.num.natAbs++eM (nM q.den), ?_,by rw [Qr h];decide⟩;unfold qtx;rw [Qr h];rfl
 obtain ⟨c,r,a⟩:∃ c r,bq q.num.natAbs=c::r:=List.exists_cons_of_ne_nil (yV _);refine ⟨c,r++eM (nM q.den), ?_, ?_⟩
 ·unfold qtx;rw [QC h,a];rfl
 have h2:=jO q.num.natAbs c (by rw [a];exact Pz);rw [QC h];unfold eN at h2;have h3:=aJ h2;exact QC om_
theorem ga (h:¬ q.num<0)(a:q≠0):qtx (-q)=45::qtx q:=by
 have b:q.num≠0:=fun e=>a (Tc.1 e);unfold qtx;rw [TM,Rat.neg_den,Qr om_,QC h,Ti];rfl
theorem qY (h:q.num<0):qtx q=45::qtx (-q):=by
 have h2:=ga (q:=-q) (by rw [TM];omega) (by intro e;have h3:=congrArg Rat.num e;rw [TM] at h3;have h4:(0:Rat).num=0:=rfl;omega)
 rwa [Rat.neg_neg] at h2
def DF (q:Rat):Bool:=Nm (bq q.num.natAbs) (nM q.den)
theorem Ly (h:(bq n).length<=9):n<1000000000:=by
 have h1:=dU (jO n);rw [(bC n).2] at h1;exact Rt h1 (Qy (QD dc_ h) dc_)
theorem mY (h:DF q=true):q.num.natAbs<1000000000/\q.den<1000000000:=by
 unfold DF Nm at h;rw [Qn,Qj,Qj] at h;refine ⟨Ly h.1, ?_⟩;by_cases h1:q.den=1
 ·omega
 rw [fI h1] at h;exact Ly h.2
theorem Fc (C:Mem)(q:Rat)(a:(qtx q).length<=1000000):Gives cx.P 141 [ah (qtx q)] C (if DF q then .tuple #[.int .i64 q.num,.int .i64 (q.den:Nat),.bool true] else .tuple #[.int .i64 0,.int .i64 0,.bool false]):=by
 have h:=CS C (decide (q.num<0)) (bq q.num.natAbs) (nM q.den) (jO _) (yV _) (Kj _) a;unfold rO at h;rw [(bC _).2,qm] at h;have e:sgZ (decide (q.num<0)) q.num.natAbs=q.num:=by
  unfold sgZ;by_cases h:q.num<0
  ·rw [Qr h,aU rfl];omega
  rw [QC h,az dc_];omega
 rw [e] at h;exact h
theorem eL (C:Mem)(q:Rat)(g:(qtx q).length<=1000000):Gives cx.P 174 [ah (qtx q)] C (ah (qtx (-q))):=by
 have h:=Fv q;refine Ud func174 13 U3 fun w0=>TT 1 [0] Z<|TT 2 [0,4] Z<|TW (fun h4=>?_) fun h4=>?_
 ·have h0:q=0:=by rw [fS] at h4;exact aJ h4
  refine TT 2 [2] Z<|Ub U2<|⟨?_,Z⟩;rw [h0,Rat.neg_zero]
 have h0:q≠0:=by rw [fS] at h4;exact Qe h4
 obtain ⟨c,r,f,e⟩:=tS q;refine TU 1 Z fun R a=>UT U8 (fun _=>⟨by omega,by rw [f];rfl⟩) U2<|C4 1 [0,8] a Z<|TW (fun b=>?_) fun b=>?_
 ·have d:q.num<0:=by rw [e] at b;exact aJ b
  refine TU 1 Z fun R a=>UW 1 (qtx q).length U9 (fun _=>⟨.inr ⟨_,Z⟩,.inl ⟨Z,Z⟩,.inl ⟨Z,Z⟩,by omega,Qb _,Qb _⟩) U2<|C4 1 [2] a Z<|Ub U2<|⟨?_,Z⟩;rw [Qo,qY d];rfl
 have d:¬ q.num<0:=by rw [e] at b;exact Qe b
 refine TU 1 Z fun R a=>UV U6 (fun _=>(by simp only [Qs,Qu];omega)) U2<|C4 1 [2] a Z<|Ub U2<|⟨?_,Z⟩;rw [ga d h0];rfl
theorem fR (C:Mem)(q:Rat)(j:(qtx q).length<=1000000):Gives cx.P 58 [ah (qtx q)] C (.int .i64 (eJ q.num)):=by
 obtain ⟨c,r,f,d⟩:=tS q;have k:=Fv q;refine Ud func58 15 U3 fun w0=>TT 1 [0] Z<|TT 3 [0,3] Z<|TW (fun h3=>?_) fun h3=>?_
 ·have h0:q=0:=by rw [fS] at h3;exact aJ h3
  refine TT 1 [2] Z<|Ub U2<|⟨?_,Z⟩;rw [h0];rfl
 have h0:q≠0:=by rw [fS] at h3;exact Qe h3
 have g:q.num≠0:=fun e=>h0 (Tc.1 e);refine TU 5 Z fun R i=>UT U8 (fun _=>⟨by omega,by rw [f];rfl⟩) U2<|TX U6<|Uu U8<|C4 1 [6] i Z<|TW (fun a=>?_) fun a=>?_
 ·rw [d] at a;have b:q.num<0:=by
   have h:=(Qn _ _ ▸ a:_/\_).2;exact aJ h
  skip
  refine TT 1 [2] Z<|Ub U2<|⟨?_,Z⟩;unfold eJ;rw [aU b]
 rw [d,Qr (show (0:Int)<((⟨(qtx q).toArray⟩:ByteArray).data.toList.length:Int) by show (0:Int)<(((qtx q).length:Nat):Int);omega),Tq] at a;have b:¬ q.num<0:=Qe a;refine TT 1 [2] Z<|Ub U2<|⟨?_,Z⟩;unfold eJ;rw [az b,az g]
theorem jA (C:Mem)(q:Rat)(b:(qtx q).length<=1000000):Gives cx.P 141 [ah (qtx q)] C (.tuple #[.int .i64 (if DF q then q.num else 0),.int .i64 (if DF q then ((q.den:Nat):Int) else 0),.bool (DF q)]):=by
 have h:=Fc C q b;cases a:DF q with
 | true=>rw [a] at h;exact h
 | false=>rw [a] at h;exact h
def sK (a b:Rat):Int:=if a<b then -1 else if b<a then 1 else 0
theorem uQ :sK a b=vo (a.num*b.den) (b.num*a.den):=by
 unfold sK vo;simp only [Rat.lt_iff]
theorem gT (a:Rat):0<a.den:=R8 a.den_nz
theorem nV {a:Int}(b:a.natAbs<1000000000)(c:d<1000000000):-1000000000000000000<a*(d:Int)/\a*(d:Int)<1000000000000000000:=FE b (by rw [QZ];exact c)
theorem wD {a:Nat}(b:a<1000000000)(c:d<1000000000):a*d<1000000000000000000:=Sb b c
theorem kH (C:Mem)(q:Rat)(a:(qtx q).length<1000000):Gives cx.P 143 [ah (qtx q)] C (.tuple #[ah (txt q.num),ah (txt ((q.den:Nat):Int))]):=by
 have h:=MK C q a
 rwa [<- da] at h
theorem dY (a:z.natAbs<B9 ^ k)(b:w.natAbs<B9 ^ k):(z*w).natAbs<B9 ^ (k+k):=by
 rw [RQ];exact nT a b
theorem BG (a:0<d):kQ z ((d:Nat):Int)=mkRat z d:=by
 unfold kQ;rw [az om_,QZ]
theorem rm (h:QB k q):((q.den:Nat):Int).natAbs<B9 ^ k:=by rw [QZ];exact h.2
theorem gR (C:Mem)(m:Tabs C)(a b:Rat)(k:Nat)(f:0<k)(u:k<=20000)(d:QB k a)(e:QB k b):Gives cx.P 107 [ah (qtx a),ah (qtx b)] C (.int .i64 (sK a b)):=by
 have v:=bJ d f;have w:=bJ e f;refine Ud func107 65 U3 fun w0=>TT 1 [0,1] Z<|TT 3 [0,1,19] Z<|TW (fun g=>?_) fun g=>?_
 ·have h0:a=b:=by rw [My] at g;exact aJ g
  refine TT 1 [4] Z<|Ub U2<|⟨?_,Z⟩;subst h0;rw [sK,az (Rat.lt_irrefl),az (Rat.lt_irrefl)]
 refine TU 1 Z fun R c=>Uk (jA _ a om_) U7 fl_<|C4 7 [0,1,5,6,7] c Z<|TT 1 [0,1,5,6,26] Z<|G.cut (fun fr C' r s=>(True)/\fr=[(0,[],ah (qtx a)),(1,[],ah (qtx b))]/\r=[]) ?_ (fun fr _ x s _ t=>?_)
 ·refine TW (fun n=>?_) fun n=>?_
  ·have h:DF a=true:=n;rw [aU h,aU h];have o:=mY h;refine TU 1 Z fun R c=>Uk (jA _ b om_) U7 fl_<|C4 7 [0,1,5,6,8,9,10] c Z<|TT 1 [0,1,5,6,8,9,33] Z<|TW (fun p=>?_) fun p=>?_
   ·have i:DF b=true:=p;rw [aU i,aU i];have q:=mY i;have y:=nV o.1 q.2;have z:=nV q.1 o.2;refine TU 2 Z fun R c=>Ue _ U7<|Ua 2 Z<|Ue _ U7<|C4 2 [11,12] c Z<|TT 4 [11,12,40] Z<|TW (fun j=>?_) fun j=>?_
    ·have h1:=aJ j;refine TT 1 [4] Z<|Ub U2<|⟨?_,Z⟩;rw [uQ,vo,aU h1]
    have h1:=Qe j;refine TT 4 [44] Z<|TW (fun l=>?_) fun l=>?_
    ·have h2:=aJ l;refine TT 1 [4] Z<|Ub U2<|⟨?_,Z⟩;rw [uQ,vo,az h1,aU h2]
    have h2:=Qe l;refine TT 1 [4] Z<|Ub U2<|⟨?_,Z⟩;rw [uQ,vo,az h1,az h2]
   refine Uj 0 (Mem.le.refl _) (hn_ [0,1] Z) ⟨trivial,Z,Z⟩
  refine Uj 0 (Mem.le.refl _) (hn_ [0,1] Z) ⟨trivial,Z,Z⟩
 obtain ⟨_,rfl,rfl⟩:=t;exact TU 1 Z fun R c=>Uk (kH _ a om_) U7 fl_<|C4 5 [1,13,14] c Z<|TU 1 Z fun R c=>Uk (kH _ b om_) U7 fl_<|C4 5 [13,14,15,16] c Z<|TU 2 Z fun R c=>Uk (kM _ m.m_ _ _ k f om_ d.1 (rm e)) U7 fl_<|Ua 2 Z<|Uk (kM _ m.m_ _ _ k f om_ e.1 (rm d)) U7 fl_<|Uk (pS _ _ _ (by have:=bZ (dY d.1 (rm e)) om_;omega) (by have:=bZ (dY e.1 (rm d)) om_;omega)) U7 fl_<|C4 1 [4] c Z<|Ub U2<|⟨by rw [uQ],Z⟩
theorem mP (C:Mem)(f:Tabs C)(a b:Rat)(k:Nat)(g:0<k)(w:k<=10000)(d:QB k a)(e:QB k b):Gives cx.P 91 [ah (qtx a),ah (qtx b)] C (ah (qtx (a+b))):=by
 have x:=bJ d g;have y:=bJ e g;have r:=gT a;have s:=gT b;have o:0<a.den*b.den:=SL r s;refine Ud func91 67 U3 fun w0=>TT 1 [0,1] Z<|TT 2 [0,1,16] Z<|TW (fun h=>?_) fun h=>?_
 ·have h0:a=0:=by rw [fS] at h;exact aJ h
  refine TT 2 [4] Z<|Ub U2<|⟨?_,Z⟩;rw [h0,Rat.zero_add]
 refine TT 2 [0,1,19] Z<|TW (fun i=>?_) fun i=>?_
 ·have h0:b=0:=by rw [fS] at i;exact aJ i
  refine TT 2 [4] Z<|Ub U2<|⟨?_,Z⟩;rw [h0,Rat.add_zero]
 refine TU 1 Z fun R c=>Uk (jA _ a om_) U7 fl_<|C4 7 [0,1,5,6,7] c Z<|TT 1 [0,1,5,6,27] Z<|G.cut (fun fr C' t u=>(True)/\fr=[(0,[],ah (qtx a)),(1,[],ah (qtx b))]/\t=[]) ?_ (fun fr _ z u _ v=>?_)
 ·refine TW (fun p=>?_) fun p=>?_
  ·have j:DF a=true:=p;rw [aU j,aU j];have l:=mY j;refine TU 1 Z fun R c=>Uk (jA _ b om_) U7 fl_<|C4 7 [0,1,5,6,8,9,10] c Z<|TT 1 [0,1,5,6,8,9,34] Z<|TW (fun q=>?_) fun q=>?_
   ·have m:DF b=true:=q;rw [aU m,aU m];have n:=mY m;have A:=nV l.1 n.2;have B:=nV n.1 l.2;have D:=wD l.2 n.2;exact TU 2 Z fun R c=>Ue _ U7<|Ua 2 Z<|Ue _ U7<|Ue _ U7<|Ua 2 Z<|UG (((a.den*b.den:Nat):Int)) U4 (Q6 _ _).symm om_ om_ U2<|Uk (vZ _ f.m_ _ _ o om_ om_) U7 fl_<|C4 1 [4] c Z<|Ub U2<|⟨by rw [jC],Z⟩
   refine Uj 0 (Mem.le.refl _) (hn_ [0,1] Z) ⟨trivial,Z,Z⟩
  refine Uj 0 (Mem.le.refl _) (hn_ [0,1] Z) ⟨trivial,Z,Z⟩
 obtain ⟨_,rfl,rfl⟩:=v;exact TU 1 Z fun R c=>Uk (kH _ a om_) U7 fl_<|C4 5 [1,11,12] c Z<|TU 1 Z fun R c=>Uk (kH _ b om_) U7 fl_<|C4 5 [11,12,13,14] c Z<|TU 2 Z fun R c=>Uk (kM _ f.m_ _ _ k g om_ d.1 (rm e)) U7 fl_<|Ua 2 Z<|Uk (kM _ f.m_ _ _ k g om_ e.1 (rm d)) U7 fl_<|Uk (Nd _ f.m_ _ _ (k+k) om_ om_ (dY d.1 (rm e)) (dY e.1 (rm d))) U7 fl_<|Ua 2 Z<|Uk (kM _ f.m_ _ _ k g om_ (rm d) (rm e)) U7 fl_<|Uk (pJ _ f.m_ _ _ (k+k+1) om_ om_ (Q7 (SX _ _) (xZ (dY d.1 (rm e)) (dY e.1 (rm d)))) (dy (dY (rm d) (rm e)) om_) (by rw [<- Q6];omega)) U7 fl_<|C4 1 [4] c Z<|Ub U2<|⟨by rw [jC,<- Q6,BG o],Z⟩
theorem Ph (c:QB k a)(d:QB k b):QB (k+k+1) (a+b):=by
 rw [jC];exact gX (Nat.ne_of_gt (SL (gT a) (gT b))) (Q7 (SX _ _) (xZ (dY c.1 (rm d)) (dY d.1 (rm c)))) (dy (nT c.2 d.2) om_)
theorem qM (c:QB k a)(d:QB k b):QB (k+k) (a*b):=by
 rw [gu];exact gX (Nat.ne_of_gt (SL (gT a) (gT b))) (dY c.1 d.1) (nT c.2 d.2)
theorem eW (b:QB k a):QB k (-a):=⟨by rw [TM,Ti];exact b.1,by rw [Rat.neg_den];exact b.2⟩
theorem mq (c:QB k a)(d:QB k b):QB (k+k+1) (a-b):=by
 rw [TN];exact Ph c (eW d)
theorem Cd (b:QB k a)(d:a≠0):QB k a⁻¹:=by
 have c:a.num≠0:=fun e=>d (Tc.1 e);refine ⟨?_, ?_⟩
 ·rw [Rat.num_inv,RQ,Int.natAbs_sign_of_ne_zero c,S6,QZ];exact b.2
 rw [Rat.den_inv,az c];exact b.1
theorem jp (c:QB k a)(d:QB k b)(e:b≠0):QB (k+k) (a / b):=by
 rw [Rat.div_def];exact qM c (Cd d e)
theorem Pg (h:z.natAbs<B9 ^ k)(a:0<k):QB k (z:Rat):=⟨h,by
 show 1<B9 ^ k;exact Rt (by decide:1<B9 ^ 1) (QD dc_ a)⟩
theorem dR (C:Mem)(g:Tabs C)(a b:Rat)(k:Nat)(i:0<k)(y:k<=10000)(d:QB k a)(e:QB k b):Gives cx.P 92 [ah (qtx a),ah (qtx b)] C (ah (qtx (a*b))):=by
 have z:=bJ d i;have A:=bJ e i;have w:=gT a;have x:=gT b;have q:0<a.den*b.den:=SL w x;refine Ud func92 66 U3 fun w0=>TT 1 [0,1] Z<|TT 3 [0,1,15] Z<|G.cut (fun fr C' L' j=>(True)/\fr=[(0,[],ah (qtx a)),(1,[],ah (qtx b)),(15,[],.bool (decide (a=0∨b=0)))]/\L'=[]) ?_ (fun fr _ B j _ l=>?_)
 ·refine TW (fun f=>?_) fun f=>?_
  ·have h0:a=0:=by rw [fS] at f;exact aJ f
   rw [fS,show decide (a=0)=decide (a=0∨b=0) by simp [h0]];refine Uj 0 (Mem.le.refl _) (hn_ [0,1,15] Z) ⟨trivial,Z,Z⟩
  have h0:¬ a=0:=by rw [fS] at f;exact Qe f
  refine TT 3 [0,1,15] Z ?_;rw [fS,show decide (b=0)=decide (a=0∨b=0) by simp [h0]];refine Uj 0 (Mem.le.refl _) (hn_ [0,1,15] Z) ⟨trivial,Z,Z⟩
 obtain ⟨_,rfl,rfl⟩:=l;refine TW (fun r=>?_) fun r=>?_
 ·have h0:=aJ r;refine TT 1 [4] Z<|Ub U2<|⟨?_,Z⟩;rw [show a*b=0 by rcases h0 with h | h <;> simp [h],qtx_zero];rfl
 refine TT 3 [0,1,20] Z<|TW (fun m=>?_) fun m=>?_
 ·have h1:a=1:=by rw [Lb] at m;exact aJ m
  refine TT 2 [4] Z<|Ub U2<|⟨?_,Z⟩;rw [h1,Rat.one_mul]
 refine TT 3 [0,1,24] Z<|TW (fun n=>?_) fun n=>?_
 ·have h1:b=1:=by rw [Lb] at n;exact aJ n
  refine TT 2 [4] Z<|Ub U2<|⟨?_,Z⟩;rw [h1,Rat.mul_one]
 refine TU 1 Z fun R c=>Uk (jA _ a om_) U7 fl_<|C4 7 [0,1,5,6,7] c Z<|TT 1 [0,1,5,6,34] Z<|G.cut (fun fr C' L' j=>(True)/\fr=[(0,[],ah (qtx a)),(1,[],ah (qtx b))]/\L'=[]) ?_ (fun fr _ D j _ l=>?_)
 ·refine TW (fun s=>?_) fun s=>?_
  ·have o:DF a=true:=s;rw [aU o,aU o];have t:=mY o;refine TU 1 Z fun R c=>Uk (jA _ b om_) U7 fl_<|C4 7 [0,1,5,6,8,9,10] c Z<|TT 1 [0,1,5,6,8,9,41] Z<|TW (fun u=>?_) fun u=>?_
   ·have p:DF b=true:=u;rw [aU p,aU p];have v:=mY p;have E:=FE t.1 v.1;have F:=wD t.2 v.2;exact TU 2 Z fun R c=>Ue _ U7<|Ua 2 Z<|UG (((a.den*b.den:Nat):Int)) U4 (Q6 _ _).symm om_ om_ U2<|Uk (vZ _ g.m_ _ _ q om_ om_) U7 fl_<|C4 1 [4] c Z<|Ub U2<|⟨by rw [gu],Z⟩
   refine Uj 0 (Mem.le.refl _) (hn_ [0,1] Z) ⟨trivial,Z,Z⟩
  refine Uj 0 (Mem.le.refl _) (hn_ [0,1] Z) ⟨trivial,Z,Z⟩
 obtain ⟨_,rfl,rfl⟩:=l;exact TU 1 Z fun R c=>Uk (kH _ a om_) U7 fl_<|C4 5 [1,11,12] c Z<|TU 1 Z fun R c=>Uk (kH _ b om_) U7 fl_<|C4 5 [11,12,13,14] c Z<|TU 2 Z fun R c=>Uk (kM _ g.m_ _ _ k i om_ d.1 e.1) U7 fl_<|Ua 2 Z<|Uk (kM _ g.m_ _ _ k i om_ (rm d) (rm e)) U7 fl_<|Uk (pJ _ g.m_ _ _ (k+k) om_ om_ (dY d.1 e.1) (dY (rm d) (rm e)) (by rw [<- Q6];omega)) U7 fl_<|C4 1 [4] c Z<|Ub U2<|⟨by rw [gu,<- Q6,BG q],Z⟩
theorem dZ (C:Mem)(e:Tabs C)(a b:Rat)(k:Nat)(c:0<k)(f:k<=10000)(g:QB k a)(d:QB k b):Gives cx.P 226 [ah (qtx a),ah (qtx b)] C (ah (qtx (a-b))):=by
 have i:=bJ d c;exact Ud func226 9 U3 fun w0=>TT 1 [0,1] Z<|TU 2 Z fun R h=>Uk (eL _ b om_) U7 fl_<|Uh (mP _ e.m_ a (-b) k c f g (eW d)) U7<|C4 1 [4] h Z<|Ub U2<|⟨by rw [TN],Z⟩
theorem gQ (C:Mem)(n:Tabs C)(a b:Rat)(k:Nat)(g:0<k)(o:k<=10000)(p:QB k a)(f:QB k b)(h:b≠0):Gives cx.P 199 [ah (qtx a),ah (qtx b)] C (.tuple #[ah (qtx (a / b)),.int .i64 0]):=by
 have v:=bJ f g;have q:b.num≠0:=fun e=>h (Tc.1 e);obtain ⟨c,r,s,l⟩:=tS b;refine Ud func199 27 U3 fun w0=>TT 2 [0,1] Z<|TT 2 [0,1,9] Z<|TW (fun j=>?_) fun j=>?_
 ·exfalso;rw [fS] at j;exact h (aJ j)
 refine TU 1 Z fun R d=>Uk (kH _ b om_) U7 fl_<|C4 5 [0,1,6,7] d Z<|TU 1 Z fun R d=>UT U8 (fun _=>⟨by omega,by rw [s];rfl⟩) U2<|C4 1 [0,6,7,17] d Z<|G.cut (fun fr C' L' t=>(True)/\fr=[(0,[],ah (qtx a)),(6,[],ah (txt (b.num.natAbs:Nat))),(7,[],ah (txt (b⁻¹).num))]/\L'=[]) ?_ (fun fr _ w t _ u=>?_)
 ·refine TW (fun i=>?_) fun i=>?_
  ·have m:b.num<0:=by rw [l] at i;exact aJ i
   refine TU 1 Z fun R d=>Uk (ut _ b.num (by have:=bZ f.1 g;omega)) U7 fl_<|TX U6<|Uk (ut _ ((b.den:Nat):Int) (by have:=bZ (rm f) g;omega)) U7 fl_<|C4 2 [0,6,7] d Z ?_;rw [show -b.num=((b.num.natAbs:Nat):Int) by omega,show -((b.den:Nat):Int)=(b⁻¹).num by rw [Rat.num_inv,Int.sign_eq_neg_one_of_neg m,Int.neg_one_mul]];refine Uj 0 (Mem.le.refl _) (hn_ [0,6,7] Z) ⟨trivial,Z,Z⟩
  have m:¬ b.num<0:=by rw [l] at i;exact Qe i
  rw [show b.num=((b.num.natAbs:Nat):Int) by omega,show ((b.den:Nat):Int)=(b⁻¹).num by rw [Rat.num_inv,Int.sign_eq_one_of_pos om_,Int.one_mul]];refine Uj 0 (Mem.le.refl _) (hn_ [0,6,7] Z) ⟨trivial,Z,Z⟩
 obtain ⟨_,rfl,rfl⟩:=u;rw [da,show b.num.natAbs=(b⁻¹).den by rw [Rat.den_inv,az q]];refine TU 3 Z fun R d=>Uk (GG _ _ _ k g om_ (Cd f h).1 (Cd f h).2) U7 fl_ ?_;rw [<- pg b⁻¹];refine Uh (dR _ n.m_ a b⁻¹ k g o p (Cd f h)) U7<|C4 2 [4,5] d Z<|Ui (G.dropAll (Uw U3 ?_));exact ⟨by rw [Rat.div_def],Z⟩
theorem Mt (C:Mem)(c:Tabs C)(z w:Int)(k:Nat)(d:0<k)(e:k<=40000)(f:z.natAbs<B9 ^ k)(g:w.natAbs<B9 ^ k)(i:w≠0):Gives cx.P 150 [ah (txt z),ah (txt w)] C (.tuple #[ah (qtx (kQ z w)),.int .i64 0]):=by
 refine Ud func150 12 U3 fun w0=>TT 2 [0,1] Z<|TU 1 Z fun R a=>Uh (lQ _ w) U7<|C4 1 [0,1,8] a Z<|TW (fun b=>?_) fun b=>?_
 ·exfalso;have h:eJ w=0:=by simpa using b
  rcases ek w with h2 | h2 | h2 <;> omega
 refine TU 2 Z fun R a=>Uh (pJ _ c.m_ z w k d e f g i) U7<|C4 2 [4,5] a Z<|Ui (G.dropAll (Uw U3 ?_));exact ⟨Z,Z⟩
theorem Fh (C:Mem)(a:Tabs C)(z w:Int)(d:z.natAbs<9000000000000000000)(e:w.natAbs<9000000000000000000)(b:w≠0):Gives cx.P 98 [.int .i64 z,.int .i64 w] C (.tuple #[ah (qtx (kQ z w)),.int .i64 0]):=by
 have f:9000000000000000000<B9 ^ 3:=by decide
 refine Ud func98 13 U3 fun w0=>TT 2 [0,1] Z<|TU 1 Z fun R c=>Uk (se _ a.m_ z om_ om_) U7 fl_<|TX U6<|Uk (se _ a.m_ w om_ om_) U7 fl_<|Uk (Mt _ a.m_ z w 3 dc_ dc_ om_ om_ b) U7 fl_<|C4 4 [4,5] c Z<|Ui (G.dropAll (Uw U3 ?_));exact ⟨Z,Z⟩
theorem ld (C:Mem)(a:Tabs C)(z:Int)(c:z.natAbs<9000000000000000000):Gives cx.P 45 [.int .i64 z] C (ah (qtx z)):=by
 exact Ud func45 5 U3 fun w0=>TT 1 [0] Z<|TU 1 Z fun R b=>Uk (se _ a.m_ z om_ om_) U7 fl_<|C4 1 [2] b Z<|Ub U2<|⟨by rw [mQ],Z⟩
theorem pow9 (k:Nat):B9 ^ k=10 ^ (9*k):=by rw [Nat.pow_mul]
theorem ft (h:cI s=true):s=txt (iD s)/\(iD s).natAbs<B9 ^ 23:=by
 have h1:=rK.1 h;refine ⟨HF (by unfold cI at h;exact (Rp.1 h).1), ?_⟩;rw [Kk];have h2:=yq.1 h1.1;have h3:=dU h2.1.1;exact Rt h3 (by rw [pow9];exact QD dc_ om_)
theorem K9 (h:aZ s=true):∃ q:Rat,s=qtx q/\QB 23 q:=by
 unfold aZ at h;rw [Qn,Qn] at h;obtain ⟨⟨h1,h2⟩,h3⟩:=h;obtain ⟨a,b⟩:=ft h1;rcases gF 47 s with ⟨d,_,_⟩ | ⟨c,post,d,hs,_⟩
 ·rw [d] at a b;exact ⟨((iD s:Int):Rat),by rw [mQ];exact a,Pg b dc_⟩
 rw [d] at h2 h3 a b;simp only [Rr] at h2 a b;obtain ⟨e,f⟩:=ft h2;unfold oZ at h3;simp only [Qn,Qj,RJ] at h3;obtain ⟨⟨h4,_⟩,g⟩:=h3;have i:(iD post).natAbs≠0:=by omega
 refine ⟨⟨iD c,(iD post).natAbs,i,g⟩, ?_,b,f⟩;rw [pg];show s=txt (iD c)++eM (nM (iD post).natAbs);rw [fI om_,<- a,hs];show c++47::post=c++47::bq (iD post).natAbs;rw [<- da,show (((iD post).natAbs:Nat):Int)=iD post by omega,<- e]
theorem rj (C:Mem)(b:Str)(a:cI b=true):Gives cx.P 161 [ah b,ah [49]] C (.int .i64 (vo (iD b) 1)):=by
 obtain ⟨h1,h2⟩:=ft a;have h:=pS C (iD b) 1 (by have:=bZ h2 dc_;omega) (by rw [show bq (1:Int).natAbs=[49] from one_dec];decide)
 rwa [<- one_val,<- h1] at h
theorem Du (C:Mem)(c:Tabs C)(a b:Str)(d:cI a=true)(e:cI b=true):Gives cx.P 208 [ah a,ah b] C (ah (txt (Nat.gcd (iD a).natAbs (iD b).natAbs:Nat))):=by
 obtain ⟨h1,h2⟩:=ft d;obtain ⟨h3,h4⟩:=ft e;have h:=GM C c (iD a) (iD b) 23 dc_ dc_ h2 h4
 rwa [<- h1,<- h3] at h
theorem xp {b:Bool}(h:(qC b != 0)=false):b=true:=by cases b <;> first | rfl | (exact absurd h dc_)
theorem dV (C:Mem)(y:Tabs C)(s:Str)(A:s.length<=999998):Gives cx.P 140 [ah s] C (.int .i64 (qC (aZ s))):=by
 have u:=Fp A;obtain ⟨c,f,l⟩:∃ a b,jQ 47 s=(a,b):=⟨_,_,rfl⟩;have k:aZ s=(cI c && cI (f.getD [49]) && oZ (iD c) f):=by
  unfold aZ;rw [l]
 rw [l] at u;simp only at u;refine Ud func140 39 U3 fun w0=>TT 1 [0] Z<|TU 1 Z fun R g=>Uk (by have h:=LH C s 47 om_;rw [l] at h;exact h) U7 fl_<|C4 7 [3,4,5] g Z<|TU 1 Z fun R g=>Uh (wT _ c) U7<|C4 1 [3,4,5,16] g Z<|TW (fun i=>?_) fun i=>?_
 ·have j:aZ s=false:=by
   rw [k];cases h1:cI c with
   | false=>rfl
   | true=>rw [h1] at i;exact absurd i dc_
  exact TT 1 [2] Z<|Ub U2<|⟨by rw [j];rfl,Z⟩
 have m:cI c=true:=by
  cases h1:cI c with
  | true=>rfl
  | false=>rw [h1] at i;exact absurd i dc_
 rw [m,Tq] at k;obtain ⟨v,B⟩:=ft m;refine TT 2 [3,4,18] Z<|TW (fun n=>?_) fun n=>?_
 ·have o:f=none:=by
   cases f with
   | none=>rfl
   | some b=>simp at n
  refine TT 1 [2] Z<|Ub U2<|⟨?_,Z⟩;rw [k,o];rfl
 obtain ⟨b,o⟩:∃ b,f=some b:=by
  cases f with
  | some b=>exact ⟨b,rfl⟩
  | none=>simp at n
 subst o;obtain ⟨d,w⟩:∃ z,iD c=z:=⟨_,rfl⟩;obtain ⟨e,x⟩:∃ z,iD b=z:=⟨_,rfl⟩;have p:aZ s=(cI b && oZ (iD c) (some b)):=k;unfold oZ at p;simp only [w,x] at p v B;have D:(c == [48])=(d == 0):=by
  rw [v];have h:=lj d;rw [show (d == 0)=decide (d=0) by by_cases h:d=0 <;> simp [h]];exact h
 have E:(qC (cI b) != 0)=!cI b:=by cases cI b <;> rfl
 have F:decide (vo e 1<=0)=!decide (1<e):=by
  unfold vo;by_cases h:1<e
  ·rw [az om_,aU h,Qr h];rfl
  rw [QC h];refine Qr ?_;split <;> first | omega | (split <;> omega)
 have q:(qC (cI b) != 0 || decide (vo (iD b) 1<=0) || (c == [48]) || !(bq ((iD c).natAbs.gcd (iD b).natAbs) == [49]))=!aZ s:=by
  have G:=sG (d.natAbs.gcd e.natAbs);have H:(bq (d.natAbs.gcd e.natAbs) == [49])=(d.natAbs.gcd e.natAbs == 1):=G;rw [w,x,D,E,F,H,p];cases cI b <;> cases decide (1<e) <;> cases (d == 0) <;> cases (d.natAbs.gcd e.natAbs == 1) <;> rfl
 rw [<- da] at q;refine TT 4 [6,7] Z<|TU 1 Z fun R g=>Uh (wT _ b) U7<|Ua 3 Z<|Us (fun r=>(rj _ b (by exact xp (show (qC (cI b) != 0)=false/\True from r).1))) U9<|TX U6<|UB U8<|Ua 3 Z<|UB U8<|Ua 3 Z<|Us (fun r=>(Du _ y.m_ c b m (by exact xp (RH.1 (RH.1 (show (((qC (cI b) != 0) || decide (vo (iD b) 1<=0)) || (c == [48]))=false/\True from r).1).1).1))) U9<|TX U6<|UB U8<|TZ [38] g Z<|TW (fun t=>?_) fun t=>?_
 ·have j:aZ s=false:=by
   have h:(!aZ s)=true:=q.symm.trans t;simpa using h
  exact TT 1 [2] Z<|Ub U2<|⟨by rw [j];rfl,Z⟩
 have j:aZ s=true:=by
  have h:(!aZ s)=false:=q.symm.trans t;simpa using h
 exact TT 1 [2] Z<|Ub U2<|⟨by rw [j];rfl,Z⟩
theorem On (z:Int)(b:g ∣ z.natAbs):sgZ (decide (z<0) != false) (z.natAbs / g)=z / (g:Int):=by
 obtain ⟨m,hm⟩:=b;rcases RD g with h | c
 ·subst h;have a:z=0:=by omega
  subst a;rfl
 rw [hm,Nat.mul_div_cancel_left _ c,Bool.bne_false];unfold sgZ;by_cases a:z<0
 ·rw [Qr a,aU rfl,show z=(g:Int)*(-(m:Int)) by rw [Int.mul_neg,<- Q6];omega,Int.mul_ediv_cancel_left _ om_]
 rw [QC a,az dc_,show z=(g:Int)*(m:Int) by rw [<- Q6];omega,Int.mul_ediv_cancel_left _ om_]
theorem xe (C:Mem)(c:Tabs C)(z:Int)(b:Nat)(m:z.natAbs<BP ^ 200)(n:b<BP ^ 200)(F:0<b)(d:b ∣ z.natAbs):Gives cx.P 224 [ah (txt z),ah (bq b)] C (.tuple #[ah (txt (z / (b:Int))),ah (bq 0)]):=by
 have H:=Pp;have o:z.natAbs % b=0:=Nat.mod_eq_zero_of_dvd d;have f:(b:Int) ∣ z:=SM.1 (Sa.2 d);have I:(z / (b:Int)).natAbs<=z.natAbs:=by
  rw [Sn f,QZ];exact Rc _ _
 refine Ud func224 93 U3 fun w0=>TT 2 [0,1] Z<|TU 1 Z fun R a=>Uh (B7 C z) U7<|C4 5 [0,1,6,7] a Z<|TU 1 Z fun R a=>Uh (qE _ b) U7<|C4 5 [0,1,6,7,8,9] a Z<|TU 3 Z fun R a=>Uu U8<|TZ [0,1,6,8,31] a Z<|TW (fun g=>?_) fun g=>?_
 ·have hs:(bq z.natAbs).length<=17/\(bq b).length<=17:=by simpa using g
  have h1:=B6 hs.1;have h2:=qF hs.2;rw [aU hs.1,aU hs.2];refine Ur [0,1,2,3,4,5,6,7] [] Z kr_ fun R J a=>Ua 2 Z<|Vj (z / (b:Int)) U6 om_ (pf d) (wrap_i64 om_ om_) U2<|Ua 2 Z<|U1 0 U6 om_ ⟨(Int.tmod_eq_zero_of_dvd f),Z,Z⟩<|C4 2 [6,8,10,11] a Z<|TT 2 [6,8,10,11,39] Z<|TW (fun h=>?_) fun h=>?_
  ·exfalso;simp at h
  refine TU 1 Z fun R a=>Uk (lG _ c (z / (b:Int)) om_ om_) U7 fl_<|TX U6<|Uk (F3 _ c 0 om_) U7 fl_<|C4 2 [4,5] a Z<|Ui (G.dropAll (Uw U3 ?_));exact ⟨Z,Z⟩
 refine TU 1 Z fun R a=>Uh (fx _ z) U7<|C4 5 [1,12,13] a Z<|TU 1 Z fun R a=>Uh (oL _ b) U7<|C4 5 [12,13,14,15] a Z<|TU 1 Z fun R a=>UF (nN _ z.natAbs m) U7 (fun K _ _ p=>?_);obtain ⟨lp,q,r,L,s⟩:=p;refine TX U6<|UF (nN _ b n) U7 (fun M _ _ t=>?_);obtain ⟨u,v,w,N,x⟩:=t;refine Uz (Bf _ _ _ lp u s.m_ x.m_ q.1 v om_ om_ om_) U7 fl_ (fun O _ _ y=>?_);obtain ⟨u1,Q,rfl,i,e⟩:=y;rw [r,w] at i e;rw [o] at e;obtain ⟨l1,A,B,S,D⟩:=PieC.take i (by have:=Rc z.natAbs b;omega);obtain ⟨l2,j,E,T,k⟩:=PieC.take e om_;obtain ⟨A2,c2,rfl,_⟩:=id k;obtain rfl:=(BX j).1 E;refine C4 5 [12,14,15,16,17] a Z<|TU 5 Z fun R a=>Uu U8<|TZ [12,14,15,16,17,78] a Z<|TW (fun l=>?_) fun l=>?_
 ·exfalso;simp at l
 refine TU 4 Z fun R a=>Uk (Gk _ c.m_ _ _ l1 D.m_ A.1 om_) U7 fl_<|TX U6<|Uk (uk _ c.m_ _ [] k.m_ j.1 am) U7 fl_<|C4 2 [4,5] a Z<|Ui (G.dropAll (Uw U3 ?_));refine ⟨?_,Z⟩;show Value.tuple #[ah (txt (sgZ (decide (z<0) != false) (bM l1))),_]=_;rw [B,On z d];rfl
theorem Bn (h:(txt z).length<=9):z.natAbs<1000000000:=by
 have h1:=zo h
 rwa [e9] at h1
theorem EZ (C:Mem)(k:Tabs C)(z w:Int)(v:(txt z).length<=9)(A:(txt w).length<=9)(Q:w≠0):Gives cx.P 220 [ah (txt z),ah (txt w)] C (ah (qtx (kQ z w))):=by
 have S:=Bn v;have T:=Bn A;obtain ⟨n,i⟩:∃ y,(if w<0 then -z else z)=y:=⟨_,rfl⟩;obtain ⟨d,B⟩:∃ d,w.natAbs=d:=⟨_,rfl⟩;have r:0<d:=by omega
 have D:n.natAbs<1000000000:=by rw [<- i];split <;> omega
 unfold kQ;rw [i,B];obtain ⟨g,b⟩:∃ g,Nat.gcd n.natAbs d=g:=⟨_,rfl⟩;have E:0<g:=by rw [<- b];exact SQ _ r
 have s:g ∣ n.natAbs:=by rw [<- b];exact S4 _ _
 have F:g ∣ d:=by rw [<- b];exact Tk _ _
 have U:g<=d:=TO r F;have H:(n / (g:Int)).natAbs<=n.natAbs:=by
  rw [Sn (SM.1 (Sa.2 s)),QZ];exact Rc _ _
 have t:=Rc d g;rw [AR om_,b];refine Ud func220 55 U3 fun w0=>TT 1 [0,1] Z<|TU 1 Z fun R a=>Uk (zm Tryz.atoi z om_ _ kr_) U7 fl_<|C4 5 [1,5] a Z<|TU 1 Z fun R a=>Uk (zm Tryz.atoi w om_ _ kr_) U7 fl_<|C4 5 [5,7] a Z<|TT 2 [5,7,22] Z<|G.cut (fun fr C' c e=>(True)/\fr=[(5,[],.int .i64 n),(7,[],.int .i64 d)]/\c=[]) ?_ (fun fr _ V e _ f=>?_)
 ·refine TW (fun l=>?_) fun l=>?_
  ·have h:w<0:=by simpa using l
   rw [aU h] at i;refine TT 6 [5,7] Z ?_;rw [show IntKind.i64.wrap (0-z)=n by rw [wrap_i64 om_ om_];omega,show IntKind.i64.wrap (0-w)=(d:Int) by rw [wrap_i64 om_ om_];omega];refine Uj 0 (Mem.le.refl _) (hn_ [5,7] Z) ⟨trivial,Z,Z⟩
  have h:¬ w<0:=by simpa using l
  rw [az h] at i;rw [show z=n by omega,show w=(d:Int) by omega];refine Uj 0 (Mem.le.refl _) (hn_ [5,7] Z) ⟨trivial,Z,Z⟩
 obtain ⟨_,rfl,rfl⟩:=f;refine TT 4 [5,7,9,10] Z<|TT 2 [5,7,9,10,30] Z<|G.cut (fun fr C' c e=>(True)/\fr=[(5,[],.int .i64 n),(7,[],.int .i64 d),(9,[],.int .i64 (n.natAbs:Nat)),(10,[],.int .i64 d)]/\c=[]) ?_ (fun fr _ W e _ f=>?_)
 ·refine TW (fun o=>?_) fun o=>?_
  ·have h:n<0:=by simpa using o
   refine TT 3 [5,7,9,10] Z ?_;rw [show IntKind.i64.wrap (0-n)=((n.natAbs:Nat):Int) by rw [wrap_i64 om_ om_];omega];refine Uj 0 (Mem.le.refl _) (hn_ [5,7,9,10] Z) ⟨trivial,Z,Z⟩
  have h:¬ n<0:=by simpa using o
  refine Uj 0 (Mem.le.refl _) (hn_ [5,7,9,10] Z) ⟨trivial,by rw [show ((n.natAbs:Nat):Int)=n by omega],Z⟩
 obtain ⟨_,rfl,rfl⟩:=f;refine G.loop (fun fr C' c e=>∃ (x y:Int),(x.natAbs<9000000000000000000/\0<=x/\0<=y/\y.natAbs<9000000000000000000/\Nat.gcd x.natAbs y.natAbs=g)/\fr=[(5,[],.int .i64 n),(7,[],.int .i64 d),(9,[],.int .i64 x),(10,[],.int .i64 y)]/\c=[]/\e=y.natAbs+1) (hn_ [5,7,9,10] Z) ⟨(n.natAbs:Int),d,⟨by omega,by omega,by omega,by omega,by rw [QZ,QZ];exact b⟩,Z,Z,Z⟩ (fun fr X Y m I f=>?_);obtain ⟨x,y,⟨aa,J,K,L,u⟩,rfl,rfl,rfl⟩:=f;refine TT 2 [5,7,9,10,34] Z<|TW (fun p=>?_) fun p=>?_
 ·have q:y≠0:=by simpa using p
  have M:(x.tmod y).natAbs=x.natAbs % y.natAbs:=SU x y;have ab:=QV x.natAbs (show 0<y.natAbs by omega);have N:=Int.tmod_nonneg y J;refine Ur [0,1,2,3,4,5] [] Z kr_ fun R O a=>Ua 3 Z<|U1 (x.tmod y) U6 q U3<|C4 2 [5,7,9,10] a Z<|Ug (m':=(x.tmod y).natAbs+1) om_ I (hn_ [5,7,9,10] Z) ⟨y,x.tmod y,⟨L,K,N,by omega,by rw [M,<- u,Sr x.natAbs,TL y.natAbs x.natAbs,Sr]⟩,Z,Z,Z⟩
 have q:y=0:=by simpa using p
 subst q;rw [show (0:Int).natAbs=0 from rfl,SS] at u;obtain rfl:x=(g:Int):=by omega
 refine Ur [0,1,2,3,4,5,6,7] [] Z kr_ fun R O a=>Ua 2 Z<|Vj (n / (g:Int)) U6 om_ (pf s) (wrap_i64 om_ om_) U2<|Ua 2 Z<|Vd (d) (g) U6 E (.inl ⟨Z,by omega⟩) U2<|C4 2 [5,7] a Z<|TT 2 [5,7,46] Z<|TW (fun j=>?_) fun j=>?_
 ·have h1:d / g=1:=by
   have h2:(((d / g:Nat):Int))=1:=by simpa using j
   omega
  refine TU 1 Z fun R a=>Uk (je _ k.m_ _ om_ om_) U7 fl_<|C4 1 [4] a Z<|Ub U2<|⟨?_,Z⟩;rw [h1,mf rfl];simp [eM]
 have h1:d / g≠1:=by
  intro h2;rw [h2] at j;exact absurd j dc_
 have ac:=mI (n / (g:Int));have ad:=mI ((d / g:Nat):Int);have ae:(bq (n / (g:Int)).natAbs).length<=20:=eE (Q7 H (Ss D dc_)) dc_;have af:(bq ((d / g:Nat):Int).natAbs).length<=20:=eE (by rw [QZ];exact Q7 t (Ss (show d<1000000000 by omega) dc_)) dc_;refine TU 1 Z fun R a=>Uk (je _ k.m_ _ om_ om_) U7 fl_<|UV U6 (fun _=>(by simp only [Qs,Qu];omega)) U2<|TX U6<|Uk (je _ k.m_ ((d / g:Nat):Int) (TR dc_ (Td _)) (TR (Int.ofNat_le.2 t) om_)) U7 fl_<|UV U6 (fun _=>(by simp only [Qi,Qs,Qu];omega)) U2<|C4 1 [4] a Z<|Ub U2<|⟨?_,Z⟩;rw [fI h1,da,QJ];rfl
theorem HV {m:Nat}(h:z.natAbs<m)(g:Nat)(a:g ∣ z.natAbs):(z / (g:Int)).natAbs<m:=by
 rw [Sn (SM.1 (Sa.2 a)),QZ];exact Q7 (Rc _ _) h
theorem JZ (C:Mem)(a:Tabs C)(y:Int)(d:Nat)(b:y.natAbs<BP ^ 200)(c:d<BP ^ 200):Gives cx.P 223 [ah (txt y),ah (bq d)] C (ah (bq (Nat.gcd y.natAbs d))):=by
 have h:=DB C a y (d:Nat) b om_
 rwa [da,QZ] at h
theorem yI (C:Mem)(e:Tabs C)(z w:Int)(j:z.natAbs<BP ^ 200)(n:w.natAbs<BP ^ 200)(o:w≠0):Gives cx.P 147 [ah (txt z),ah (txt w)] C (ah (qtx (kQ z w))):=by
 have B:=gD j;have D:=gD n;obtain ⟨y,hy⟩:∃ y,(if w<0 then -z else z)=y:=⟨_,rfl⟩;obtain ⟨d,p⟩:∃ d,w.natAbs=d:=⟨_,rfl⟩;have q:d≠0:=by omega
 have r:y.natAbs=z.natAbs:=by rw [<- hy];split <;> omega
 obtain ⟨g,b⟩:∃ g,Nat.gcd y.natAbs d=g:=⟨_,rfl⟩;have k:0<g:=by rw [<- b];exact SQ _ om_
 have s:g ∣ d:=by rw [<- b];exact Tk _ _
 have l:g ∣ y.natAbs:=by rw [<- b];exact S4 _ _
 have E:g<=d:=TO om_ s;refine Ud func147 46 U3 fun w0=>TT 1 [0,1] Z<|TU 7 Z fun R a=>Uu U8<|TZ [0,1,13] a Z<|TW (fun m=>?_) fun m=>?_
 ·have h:(txt z).length<=9/\(txt w).length<=9:=by
   have h1:=(Qn _ _ ▸ m:_/\_);have h2:((txt z).length:Int)<=9:=aJ h1.1;have h3:((txt w).length:Int)<=9:=aJ h1.2;omega
  exact TU 2 Z fun R a=>Uh (EZ _ e.m_ z w h.1 h.2 o) U7<|C4 1 [4] a Z<|Ub U2<|⟨Z,Z⟩
 refine TU 1 Z fun R a=>Uh (yg _ w) U7<|C4 1 [0,1,19] a Z<|G.cut (fun fr C' t u=>(True)/\fr=[(0,[],ah (txt y)),(1,[],ah (bq d))]/\t=[]) ?_ (fun fr _ F u _ v=>?_)
 ·refine TW (fun f=>?_) fun f=>?_
  ·have i:w<0:=by
    have h:=aJ f;refine QK fun h2=>?_;rw [az h2] at h;revert h;split <;> decide
   rw [aU i] at hy;refine TU 1 Z fun R a=>Uk (rW _ z om_) U7 fl_<|TX U6<|Uk (rW _ w om_) U7 fl_<|C4 2 [0,1] a Z<|Uj 0 (Mem.le.refl _) (hn_ [0,1] Z) ⟨trivial,by rw [hy,show -w=((d:Nat):Int) by omega,da],Z⟩
  have i:¬ w<0:=by
   intro h2;have h:=Qe f;rw [aU h2] at h;exact h dc_
  rw [az i] at hy;refine Uj 0 (Mem.le.refl _) (hn_ [0,1] Z) ⟨trivial,by rw [hy,show w=((d:Nat):Int) by omega,da],Z⟩
 obtain ⟨_,rfl,rfl⟩:=v;unfold kQ;rw [hy,p,AR q,b];have x:=HV (z:=y) (by rw [r];exact j) g l;have H:=gD x;have A:d / g<BP ^ 200:=Q7 (Rc _ _) om_;have I:=gD A;have J:=mI (y / (g:Int));refine TU 2 Z fun R a=>Uk (JZ _ e.m_ y d om_ om_) U7 fl_<|C4 1 [0,1,5] a Z ?_;rw [b];refine TU 2 Z fun R a=>Uk (xe _ e.m_ y g om_ om_ k l) U7 fl_<|C4 4 [0,1,5] a Z<|TU 2 Z fun R a=>Uk (ma _ e.m_ d g om_ om_ k) U7 fl_<|C4 4 [0,1] a Z<|TT 2 [0,1,40] Z<|TW (fun c=>?_) fun c=>?_
 ·have h1:d / g=1:=by rw [sG] at c;exact aJ c
  refine TT 2 [4] Z<|Ub U2<|⟨?_,Z⟩;rw [mf h1];simp [eM]
 have h1:d / g≠1:=by rw [sG] at c;exact Qe c
 refine TU 1 Z fun R a=>UV U6 (fun _=>(by simp only [Qs,Qu];omega)) U2<|TX U6<|UV U6 (fun _=>(by simp only [Qi,Qs,Qu];omega)) U2<|C4 1 [4] a Z<|Ub U2<|⟨?_,Z⟩;rw [fI h1,QJ];rfl
theorem ON (C:Mem)(a:Tabs C)(z w:Int)(d:z.natAbs<9000000000000000000)(e:w.natAbs<9000000000000000000)(b:w≠0):Gives cx.P 96 [.int .i64 z,.int .i64 w] C (ah (qtx (kQ z w))):=by
 have f:9000000000000000000<BP ^ 200:=by decide +kernel
 exact Ud func96 10 U3 fun w0=>TT 1 [0,1] Z<|TU 1 Z fun R c=>Uk (lG _ a.m_ z om_ om_) U7 fl_<|TX U6<|Uk (lG _ a.m_ w om_ om_) U7 fl_<|Uk (yI _ a.m_ z w om_ om_ b) U7 fl_<|C4 1 [4] c Z<|Ub U2<|⟨Z,Z⟩
theorem AT (q:Rat):q.num<0 ↔ q<0:=by
 rw [Rat.lt_iff];simp
theorem we (h:(bq z.natAbs).length<=200):cI (txt z)=true:=by
 refine rK.2 ?_;rw [dB];refine ⟨yq.2 ⟨(bC _).1,h⟩,fun a=>?_⟩;have h1:=aJ a;show 0<bV (bq z.natAbs);rw [(bC _).2];omega
theorem BL (z:Int):iD (txt z)=z:=by
 unfold iD;rw [dB];show sgZ (decide (z<0)) (bV (bq z.natAbs))=z;rw [(bC _).2];unfold sgZ;by_cases h:z<0
 ·rw [Qr h,aU rfl];omega
 rw [QC h,az dc_];omega
theorem bO (h:QB 22 q):aZ (qtx q)=true:=by
 have h1:(bq q.num.natAbs).length<=200:=by have:=bZ h.1 dc_;omega
 have h2:(bq q.den).length<=200:=by have:=bZ h.2 dc_;omega
 unfold aZ;rw [og];show (cI (txt q.num) && cI ((nM q.den).getD [49]) && oZ (iD (txt q.num)) (nM q.den))=true;rw [Hj,BL,we h1,<- da,we (by rw [QZ];exact h2),Tq,Tq];by_cases a:q.den=1
 ·rw [mf a];rfl
 rw [fI a];unfold oZ;show (decide (1<iD (bq q.den)) && !(q.num == 0) && (Nat.gcd q.num.natAbs (iD (bq q.den)).natAbs == 1))=true;have b:iD (bq q.den)=((q.den:Nat):Int):=by rw [<- da,BL]
 have d:=gT q;rw [b,Qr om_,QZ,show Nat.gcd q.num.natAbs q.den=1 from q.reduced];have c:q.num≠0:=by
  intro e;have h3:=q.reduced;rw [e] at h3;have h4:Nat.gcd 0 q.den=1:=h3;rw [Nat.gcd_zero_left] at h4;exact a h4
 simp [c]
theorem xq (h:QB 22 q):qC (aZ (qtx q))=0:=by rw [bO h];rfl
abbrev Pt:=Rat × Rat
def gl (p:Pt):List Value:=[ah (qtx p.1),ah (qtx p.2)]
def ptV (p:Pt):Value:=.agg ⟨gl p⟩
def QP (k:Nat)(p:Pt):Prop:=QB k p.1/\QB k p.2
def dD (a b c:Pt):Rat:=(b.1-a.1)*(c.2-a.2)-(b.2-a.2)*(c.1-a.1)
theorem gG (b:Bool):qC b=0/\b=true∨qC b=2/\b=false:=by cases b <;> simp [qC]
def nL (s:Str):List Value:=[ah s]
theorem rU (C:Mem)(h:Tabs C)(v:Value)(l:List Str)(c:Sl C 1 v (l.map nL))(j:∀ s∈l,s.length<=999998):Gives cx.P 151 [v] C (.int .i64 (qC (l.all aZ))):=by
 obtain ⟨k,c0,rfl,n,w,_⟩:=id c;have x:maxLen<=9223372036854775807:=by simp [maxLen]
 simp only [al] at c n ⊢;refine Ud func151 18 U3 fun w0=>TT 1 [0] Z<|TT 3 [6,7,8] Z<|G.loop (fun fr C' o p=>∃ (i:Nat),(i<=l.length/\(l.take i).all aZ=true)/\fr=[(6,[],.slice k l.length c0),(7,[],.int .i64 l.length),(8,[],.int .i64 i)]/\o=[]/\p=l.length-i) (hn_ [6,7,8] Z) ⟨0,⟨Qf _,by simp⟩,Z,Z,Z⟩ (fun fr y z m q r=>?_);obtain ⟨i,⟨A,d⟩,rfl,rfl,rfl⟩:=r;refine TT 1 [6,7,8,9] Z<|TW (fun e=>?_) fun e=>?_
 ·have f:i<l.length:=by simpa using e
  obtain ⟨s,hs⟩:∃ s,l[i]?=some s:=⟨l[i],aj f⟩;refine TY fun R a=>Ul c.m_ U10 om_ (by rw [Qg,hs];rfl:(l.map nL)[i]?=some (nL s)) fl_ fun B t=>TV t U8<|C4 1 [4,6,7,8] a Z<|TU 1 Z fun R a=>Uh (dV _ h.m_ s (j s (Qc hs))) U7<|C4 1 [5,6,7,8] a Z<|TT 2 [5,6,7,8,15] Z<|TW (fun b=>?_) fun b=>?_
  ·have g:aZ s=false:=by
    rcases gG (aZ s) with ⟨h1,h2⟩ | ⟨h1,h2⟩
    ·rw [h1] at b;exact absurd b dc_
    exact h2
   refine TT 2 [2] Z<|Ub U2<|⟨?_,Z⟩;rw [g,show l.all aZ=false from SJ.2 ⟨s,Qc hs,by rw [g];decide⟩]
  have u:aZ s=true:=by
   rcases gG (aZ s) with ⟨h1,h2⟩ | ⟨h1,h2⟩
   ·exact h2
   rw [h1] at b;exact absurd b dc_
  refine TY fun R a=>Ue _ U7<|C4 1 [6,7,8] a Z<|Ug (m':=l.length-(i+1)) om_ q (hn_ [6,7,8] Z) ⟨i+1,⟨by omega,by rw [QF,hs,Tb,d];simp [u]⟩,Z,Z,Z⟩
 have f:i=l.length:=by
  have:¬ i<l.length:=by simpa using e
  omega
 refine TT 1 [2] Z<|Ub U2<|⟨?_,Z⟩;rw [f,Qo] at d;rw [d];rfl
theorem N9 (a:s.length<=n)(b:t.length<=n):∀ x∈[s,t],x.length<=n:=by simp [a,b]
theorem Iv {u:Str}(a:s.length<=n)(b:t.length<=n)(c:u.length<=n):∀ x∈[s,t,u],x.length<=n:=by simp [a,b,c]
theorem ir (C:Mem)(b:Tabs C)(s t:Str)(c:s.length<=999998)(d:t.length<=999998):Gives cx.P 99 [.agg ⟨[ah s,ah t]⟩] C (.int .i64 (qC (aZ s && aZ t))):=by
 refine Ud func99 9 U3 fun w0=>TY fun R a=>Up U6 fun f=>C4 1 [1] a Z<|TU 1 Z fun R a=>Uc af U9<|TX U6<|Uc af U9<|Uq [nL s,nL t] U12 fun g _ _ e=>Uh (rU _ b.m_ _ [s,t] e.m_ (N9 c d)) U7<|C4 1 [2] a Z<|Ub U2<|⟨?_,Z⟩;simp
theorem rr (C:Mem)(b:Tabs C)(s t u:Str)(c:s.length<=999998)(d:t.length<=999998)(e:u.length<=999998):Gives cx.P 162 [.agg ⟨[ah s,ah t,ah u]⟩] C (.int .i64 (qC (aZ s && aZ t && aZ u))):=by
 refine Ud func162 11 U3 fun w0=>TY fun R a=>Up U6 fun g=>C4 1 [1] a Z<|TU 1 Z fun R a=>Uc af U9<|TX U6<|Uc af U9<|TX U6<|Uc af U9<|Uq [nL s,nL t,nL u] U12 fun h _ _ f=>Uh (rU _ b.m_ _ [s,t,u] f.m_ (Iv c d e)) U7<|C4 1 [2] a Z<|Ub U2<|⟨?_,Z⟩;simp [Bool.and_assoc]
theorem kT (C:Mem)(e:Tabs C)(a b c:Pt)(k:Nat)(g:0<k)(l:k<=1000)(d:QP k a)(h:QP k b)(i:QP k c):Gives cx.P 152 [ptV a,ptV b,ptV c] C (ah (qtx (dD a b c))):=by
 have h1:=mq h.1 d.1;have h2:=mq i.2 d.2;have h3:=mq h.2 d.2;have h4:=mq i.1 d.1;exact Ud func152 32 U3 fun w0=>TY fun R f=>Up U6 fun m=>Up U6 fun n=>Up U6 fun o=>C4 1 [3,4,5] f Z<|Ur [0,1,2,3,4,5,6,7,8,9,10,11] [(4,1),(9,1),(10,1)] Z kr_ fun R j f=>TX U6<|Uc ae U9<|TX U6<|Uc ac U9<|Us (fun _=>(dZ _ e.m_ b.1 a.1 k g om_ h.1 d.1)) U9<|TX U6<|Uc af U9<|TX U6<|Uc ac U9<|Us (fun _=>(dZ _ e.m_ c.2 a.2 k g om_ i.2 d.2)) U9<|Us (fun _=>(dR _ e.m_ (b.1-a.1) (c.2-a.2) (k+k+1) om_ om_ h1 h2)) U9<|C4 1 [3,4,5,7] f Z<|Ur [0,1,2,3,4,5,6,7,8,9,10,11,12,13] [(5,1),(10,1),(11,1),(12,1)] Z kr_ fun R j f=>Ua 2 Z<|Uc ae U9<|TX U6<|Uc ac U9<|Us (fun _=>(dZ _ e.m_ b.2 a.2 k g om_ h.2 d.2)) U9<|TX U6<|Uc af U9<|TX U6<|Uc ac U9<|Us (fun _=>(dZ _ e.m_ c.1 a.1 k g om_ i.1 d.1)) U9<|Us (fun _=>(dR _ e.m_ (b.2-a.2) (c.1-a.1) (k+k+1) om_ om_ h3 h4)) U9<|Us (fun _=>(dZ _ e.m_ ((b.1-a.1)*(c.2-a.2)) ((b.2-a.2)*(c.1-a.1)) (k+k+1+(k+k+1)) om_ om_ (qM h1 h2) (qM h3 h4))) U9<|C4 1 [6] f Z<|Ub U2<|⟨Z,Z⟩
theorem zq {a b c:Pt}(d:QP k a)(e:QP k b)(f:QP k c):QB (8*k+5) (dD a b c):=by
 have h:=mq (qM (mq e.1 d.1) (mq f.2 d.2)) (qM (mq e.2 d.2) (mq f.1 d.1));exact h.le om_
theorem oF (C:Mem)(h:Tabs C)(a b c:Pt)(k:Nat)(i:0<k)(j:k<=1000)(e:QP k a)(f:QP k b)(g:QP k c):Gives cx.P 100 [ptV a,ptV b,ptV c] C (.int .i64 (eJ (dD a b c).num)):=by
 exact Ud func100 12 U3 fun w0=>TY fun R d=>Up U6 fun l=>Up U6 fun m=>Up U6 fun n=>C4 1 [3,4,5] d Z<|TY fun R d=>Uc ac U9<|Uc ae U9<|Uc af U9<|Uh (kT _ h.m_ a b c k i j e f g) U7<|Uk (fR _ (dD a b c) (by have:=bJ (zq e f g) om_;omega)) U7 fl_<|C4 1 [6] d Z<|Ub U2<|⟨Z,Z⟩
theorem tL (C:Mem)(c:Tabs C)(q:Rat)(b:QB 22 q):Gives cx.P 274 [ah (qtx q)] C (.tuple #[ah (qtx q),.int .i64 0]):=by
 refine Ud func274 8 U3 fun w0=>TT 2 [0] Z<|TU 1 Z fun R d=>Uk (dV _ c.m_ _ (by have:=bJ b dc_;omega)) U7 fl_<|C4 1 [0,6] d Z<|TW (fun a=>?_) fun a=>?_
 ·exfalso;rw [xq b] at a;exact absurd a dc_
 refine TT 3 [2,3] Z<|Ui (G.dropAll (Uw U3 ?_));exact ⟨Z,Z⟩
abbrev Tri:=Nat × Nat × Nat
def kA (t:Tri):List Value:=[.int .i64 (t.1:Nat),.int .i64 (t.2.1:Nat),.int .i64 (t.2.2:Nat)]
def NA (a b c:Pt):Value:=.agg ⟨gl a++gl b++gl c⟩
theorem DP (C:Mem)(k l:Value)(d:List Pt)(g:List Tri)(i:Nat)(t:Tri)(a b c:Pt)(e:Sl C 2 k (d.map gl))(h:Sl C 3 l (g.map kA))(m:g[i]?=some t)(n:d[t.1]?=some a)(o:d[t.2.1]?=some b)(p:d[t.2.2]?=some c) :
  Gives cx.P 156 [.agg ⟨[k,l]⟩,.int .i64 i] C (NA a b c):=by
 obtain ⟨x,y,rfl,q,z,_⟩:=id e;obtain ⟨A2,c2,rfl,r,A,_⟩:=id h;have B:maxLen<=9223372036854775807:=by simp [maxLen]
 simp only [al] at e h q r ⊢;have D:=(aF.1 m).1;have E:=(aF.1 n).1;have F:=(aF.1 o).1;have G:=(aF.1 p).1;refine Ud func156 30 U3 fun w0=>TY fun R f=>Up U6 fun H=>Uo U5 fun I=>TZ [1,2,4] f Z<|TU 1 Z fun R f=>Uc ae U9<|TX U6<|Ul h.m_ U10 om_ (by rw [Qg,m];rfl:(g.map kA)[i]?=some (kA t)) fl_ fun J s=>TV s U8<|Uo U5 fun K=>Uf (j:=0) U12<|TZ [2,4,5] f Z<|Ur [0,1,2,3,4,5,6,7,8,9,10,11,12,13,14,15,16,17,18,19] [] Z kr_ fun R L f=>TX U6<|Uc ac U9<|Ut (0) U9 ag U2<|Uc af U9<|Ul e.m_ U10 om_ (by rw [Qg,n];rfl:(d.map gl)[t.1]?=some (gl a)) fl_ fun M u=>TV u U8<|TX U6<|Uc ac U9<|Ut (1) U9 ag U2<|Uc af U9<|Ul e.m_ U10 om_ (by rw [Qg,o];rfl:(d.map gl)[t.2.1]?=some (gl b)) fl_ fun N v=>TV v U8<|TX U6<|Uc ac U9<|Ut (2) U9 ag U2<|Uc af U9<|Ul e.m_ U10 om_ (by rw [Qg,p];rfl:(d.map gl)[t.2.2]?=some (gl c)) fl_ fun O w=>TV w U8<|Un (gl a++gl b++gl c) U8<|Uf (j:=1) U12<|TZ [4] f Z<|Ui (UN af U4 ?_);exact ⟨Z,Z⟩
theorem GJ (C:Mem)(d:Tabs C)(a b c p:Pt)(k:Nat)(e:0<k)(f:k<=1000)(j:QP k a)(l:QP k b)(m:QP k c)(g:QP k p) :
  Gives cx.P 225 [NA a b c,ptV p] C (.bool (decide (0<=dD a b p) && decide (0<=dD b c p) && decide (0<=dD c a p))):=by
 refine Ud func225 30 U3 fun w0=>TY fun R i=>Up U6 fun n=>Up U6 fun o=>C4 1 [2,3] i Z<|TY fun R i=>Ut (0) U9 ag U2<|Uc ae U9<|Ut (2) U9 ag U2<|Uc ae U9<|Uc af U9<|Uh (oF _ d.m_ a b p k e f j l g) U7<|Ua 2 Z<|Ut (2) U9 ag U2<|Uc ae U9<|Ut (4) U9 ag U2<|Uc ae U9<|Uc af U9<|UC (fun _=>(oF _ d.m_ b c p k e f l m g)) U9<|TX U6<|Uu U8<|TX U6<|Ut (4) U9 ag U2<|Uc ae U9<|Ut (0) U9 ag U2<|Uc ae U9<|Uc af U9<|UC (fun _=>(oF _ d.m_ c a p k e f m j g)) U9<|TX U6<|Uu U8<|C4 1 [4] i Z<|Ub U2<|⟨?_,Z⟩;have hs:∀ q:Rat,decide (eJ q.num ≥ 0)=decide (0<=q):=fun q=>by
  rw [QX,<- Rat.num_nonneg];rcases ek q.num with h | h | h <;> omega
 rw [<- hs,<- hs,<- hs]
open Go Go.Jog Go.RowKit Go.Shelf
attribute [local go_sem] Oper.semAt_some
def Mg (zs:Nat->Int)(k:Nat):Value:=.agg #[.int .i64 (zs k),.int .i64 (zs ((k+1) % 3))]
set_option maxRecDepth 100000 in
theorem IN (l Bs:Nat)(zs:Nat->Int)(J:Nat->World->Prop)
  (hD:∀ k W,J k W->J k W.drew)
  (hJ:∀ k W,J k W->∀ j,j<3->W.cell? ⟨Bs,j,none⟩=some (.int .i64 (zs j)))
  (hY:∀ k W,J k W->k<3->YieldAt Fence.wide 1 Tryz.prog l #[.int .i64 (k:Nat),Mg zs k] W fun e W'=>e=.returned (.bool true)/\J (k+1) W')
  (W:World) (h0:J 0 W) :
  CallsIn Fence.wide 2 Tryz.prog 265 #[.func (.yield l) #[] #[],.pointer (some ⟨Bs,0,none⟩)] W fun e W'=>(∃ v,e=.returned v)/\J 3 W':=by
 refine callsIn_of_wp func265 Z trivial ?_ Z;simp only [Tryz.ntmps265,Se,Qs,Qu,Nat.reduceAdd,Nat.reduceSub,TE,TF,List.push_toArray,List.append_toArray,R3,RU]
 gi_wp2
 gi_loopw [4] (fun i wr=>∃ k:Nat,k<=3/\i=.int .i64 k/\J k wr) (fun i _=>(3-intOf i).toNat)
 case atStart=>exact ⟨0,by omega,rfl,h0⟩
 case round =>
  obtain ⟨k,hk,rfl,hJs⟩:=hrel;by_cases hlt:k<3
  ·have hJd:=hD k wr hJs;have hcd:=hJ k _ hJd;obtain ⟨fn,tmps,assign,body,hy,hR⟩:=hY k _ hJd hlt;rcases (by omega:k=0∨k=1∨k=2) with rfl | rfl | rfl
   ·have hc0:=hcd 0 om_;have hc1:=hcd 1 om_;have hy2:Sem.run Tryz.prog (Instr.yield l #[Value.int .i64 0,Value.agg #[.int .i64 (zs 0),.int .i64 (zs 1)]]) wr.drew=.ok (.round l fn tmps assign body) wr.drew:=hy;clear hy
    gi_wp2
    gi_region_with (refine hR.mono ?_;rintro e W3 ⟨rfl,hJ3⟩)
    all_goals
     gi_wp2
     go_roundw
     case rel=>exact ⟨1,by omega,rfl,hJ3⟩
     case measure=>simp [intOf]
   ·have hc0:=hcd 1 om_;have hc1:=hcd 2 om_;have hy2:Sem.run Tryz.prog (Instr.yield l #[Value.int .i64 1,Value.agg #[.int .i64 (zs 1),.int .i64 (zs 2)]]) wr.drew=.ok (.round l fn tmps assign body) wr.drew:=hy;clear hy
    gi_wp2
    gi_region_with (refine hR.mono ?_;rintro e W3 ⟨rfl,hJ3⟩)
    all_goals
     gi_wp2
     go_roundw
     case rel=>exact ⟨2,by omega,rfl,hJ3⟩
     case measure=>simp [intOf]
   have hc0:=hcd 2 om_;have hc1:=hcd 0 om_;have hy2:Sem.run Tryz.prog (Instr.yield l #[Value.int .i64 2,Value.agg #[.int .i64 (zs 2),.int .i64 (zs 0)]]) wr.drew=.ok (.round l fn tmps assign body) wr.drew:=hy;clear hy
   gi_wp2
   gi_region_with (refine hR.mono ?_;rintro e W3 ⟨rfl,hJ3⟩)
   all_goals
    gi_wp2
    go_roundw
    case rel=>exact ⟨3,by omega,rfl,hJ3⟩
    case measure=>simp [intOf]
  obtain rfl:k=3:=by omega
  gi_wp2
  go_end0
  exact ⟨⟨_,Z⟩,hJs⟩
def EI (t:Tri)(j:Nat):Int:=if j=0 then (t.1:Nat) else if j=1 then (t.2.1:Nat) else (t.2.2:Nat)
def vR (t:Tri):List (Value × Value):=(List.range 3).map fun k=>(.int .i64 (k:Nat),Mg (EI t) k)
theorem mK (t:Tri):(vR t).length=3:=rfl
theorem vQ {t:Tri}(h:k<3):(vR t)[k]?=some (.int .i64 (k:Nat),Mg (EI t) k):=by
 simp [vR,h]
theorem CM (C:Mem)(b c:Nat)(t:Tri)(d:C b=some (.cells ⟨kA t⟩ c (0,0))) :
  Px Tryz.prog 265 #[.pointer (some ⟨b,0,none⟩)] C (vR t):=by
 intro l J W hC e f h0;refine IN l b (EI t) J e (fun k W a j h=>?_) (fun k W a g=>f k _ W a (vQ g)) W h0;have h1:=hC k W a b _ d;rcases (by omega:j=0∨j=1∨j=2) with rfl | rfl | rfl <;> simp [World.cell?,h1,kA,EI]
theorem IP (C:Mem)(t:Tri):Pur cx.P 227 [.agg ⟨kA t⟩] C fun r C'=>∃ b,r=.func (.func 265) #[] #[.pointer (some ⟨b,0,none⟩)]/\C' b=some (.cells ⟨kA t⟩ 108 (0,0)):=by
 exact Ud func227 4 U3 fun w0=>TY fun R a=>Up U6 fun d=>C4 1 [1] a Z<|TT 2 [2] Z<|G.freeze 0 Z fun e f c=>Ub U2<|⟨Z,_,Z,c⟩
def oR (t:Tri)(k:Nat):Int × Int:=(EI t k,EI t ((k+1) % 3))
abbrev NZ:=List ((Int × Int) × Value)
def Ej (m:NZ)(i:Nat)(t:Tri):Nat->NZ
 | 0=>m
 | k+1=>fN (Ej m i t k) (oR t k) (.int .i64 (i:Nat))
def xW (tris:List Tri):Nat->NZ
 | 0=>[]
 | n+1=>Ej (xW tris n) n (tris.getD n (0,0,0)) 3
noncomputable def kI2:KeyP cx.P 183 (Int × Int):=PX rfl rfl rfl kr_
theorem FU (C:Mem)(q I:Value)(a:List Tri)(N:a≠[])(x:Sl C 3 I (a.map kA))(O:∀ i t k,a[i]?=some t->k<3->dm (Ej (xW a i) i t k) (oR t k)=none) :
  Pur cx.P 153 [.agg ⟨[q,I]⟩] C fun u D=>∃ b,u=.tuple #[.map (some b),.bool true]/\D b=some (aP qg (xW a a.length)):=by
 obtain ⟨A2,c2,rfl,Q,ab,_⟩:=id x;have ad:maxLen<=9223372036854775807:=by simp [maxLen]
 simp only [al] at x Q ⊢;refine Vr kr_ func153 Z 36 Z Z fun w0=>TY fun R c=>Up U6 fun r=>Uo U5 fun h=>Uo U5 fun n=>TZ [1,2,3] c Z<|TY fun R c=>VX kI2 Z Z Z Z fl_ fun f=>Uo U5 fun o=>Uf (j:=0) U12<|TZ [1,2,3,4] c Z<|TU 1 Z fun R c=>Uc (.tail _ aa) U9<|C4 2 [2,3,4,13,14,15] c Z<|G.perm (L':=[.obj o (.cells ⟨[.map (some f)]⟩ 242 (0,0)),.obj f (aP qg []),.obj n (.cells ⟨[.bool false]⟩ 4 (0,0)),.obj h (.cells ⟨[.map none]⟩ 242 (0,0)),.obj r (.cells ⟨[q,.slice A2 a.length c2]⟩ 36 (0,0))]) (Qh _)<|WO (fun dd fr C' d S=>∃ (i:Nat)(g:List Nat),(i<=a.length/\g.length=i)/\dd=g.map zc/\fr=[(2,[],.pointer (some ⟨h,0,none⟩)),(3,[],.pointer (some ⟨n,0,none⟩)),(4,[],.pointer (some ⟨o,0,none⟩)),(13,[],.slice A2 a.length c2),(14,[],.int .i64 a.length),(15,[],.int .i64 i)]/\d=[.obj o (.cells ⟨[.map (some f)]⟩ 242 (0,0)),.obj f (aP qg (xW a i)),.obj n (.cells ⟨[.bool false]⟩ 4 (0,0)),.obj h (.cells ⟨[.map none]⟩ 242 (0,0)),.obj r (.cells ⟨[q,.slice A2 a.length c2]⟩ 36 (0,0))]++g.map rq/\S=a.length-i) (hn_ [2,3,4,13,14,15] Z) ⟨0,[],⟨Qf _,Z⟩,Z,Z,Z,Z⟩ (fun dd fr ag ah m _ p=>?_);obtain ⟨i,g,⟨hi,y⟩,rfl,rfl,rfl,rfl⟩:=p;refine TT 1 [2,3,4,13,14,15,16] Z<|TW (fun A=>?_) fun A=>?_
 ·have B:i<a.length:=by simpa using A
  obtain ⟨t,E⟩:∃ t,a[i]?=some t:=⟨a[i],aj B⟩;refine TU 1 Z fun R c=>Ul x.m_ U10 om_ (by rw [Qg,E];rfl:(a.map kA)[i]?=some (kA t)) fl_ fun ai T=>TV T U8<|Uo U5 fun F=>Uo U5 fun J=>Uf (j:=1) U12<|Uf (j:=1) U12<|TZ [2,3,4,5,6,13,14,15] c Z<|TY fun R c=>Uc af U9<|UF (IP _ t) U7 fun ak _ _ U=>TZ [2,3,4,5,13,14,15,21] c Z ?_;obtain ⟨V,rfl,W⟩:=U;refine WU Z Z kr_ (CM _ V _ t W) (fun j d=>∃ (z:Unit),(j<=3)/\d=[.obj J (.cells ⟨kA t⟩ 108 (0,0)),.obj F (.cells ⟨[.int .i64 i]⟩ 3 (0,0)),.obj o (.cells ⟨[.map (some f)]⟩ 242 (0,0)),.obj f (aP qg (Ej (xW a i) i t j)),.obj n (.cells ⟨[.bool false]⟩ 4 (0,0)),.obj h (.cells ⟨[.map none]⟩ 242 (0,0)),.obj r (.cells ⟨[q,.slice A2 a.length c2]⟩ 36 (0,0))]++g.map rq) ⟨(),Qf _,Z⟩ Z (fun _ _=>rfl) (fun j d fr LA=>∃ (s:Nat),fr=[(2,[],.pointer (some ⟨h,0,none⟩)),(3,[],.pointer (some ⟨n,0,none⟩)),(4,[],.pointer (some ⟨o,0,none⟩)),(5,[],.pointer (some ⟨F,0,none⟩)),(8,[],.pointer (some ⟨s,0,none⟩))]/\LA=.obj s (.cells ⟨[.int .i64 (oR t j).1,.int .i64 (oR t j).2]⟩ 183 (0,0))::d) (fun l j u v d W1 p w=>?_) (fun l j u v d am LA W1 p w X=>?_) (fun K d p=>?_)
  ·obtain ⟨z,L,rfl⟩:=p;have H:j<3:=by have:=(aF.1 w).1;rwa [mK] at this
   rw [vQ H] at w;cases w
   exact TY fun R c=>Uo U5 fun s=>Uf (j:=0) U12<|TZ [2,3,4,5,8] c Z<|WV (hn_ [2,3,4,5,8] Z) ⟨s,Z,Z⟩
  ·obtain ⟨z,L,rfl⟩:=p;obtain ⟨s,rfl,rfl⟩:=X;have H:j<3:=by have:=(aF.1 w).1;rwa [mK] at this
   refine TY fun R c=>Uc aa U9<|Uc af U9<|VY kI2 (.tail _ aa) Z Z Z Z Z Z Z Z Z (congrArg (kL _ true) (O i t j E H)) Z Z<|C4 5 [2,3,4,5,8,10] c Z<|TT 1 [2,3,4,5,8,30] Z<|TW (fun M=>?_) fun M=>?_
   ·exact absurd M dc_
   refine TY fun R c=>Uc aa U9<|Uc af U9<|Uc ac U9<|VU kI2 (j:=4) Z Z Z Z Z Z Z Z Z Z<|Vc [] trivial (c _ _ _ Z ?_);exact UO 1 Z<|VM (R:=fun d=>∃ (z:Unit),((j+1)<=3)/\d=[.obj J (.cells ⟨kA t⟩ 108 (0,0)),.obj F (.cells ⟨[.int .i64 i]⟩ 3 (0,0)),.obj o (.cells ⟨[.map (some f)]⟩ 242 (0,0)),.obj f (aP qg (Ej (xW a i) i t (j+1))),.obj n (.cells ⟨[.bool false]⟩ 4 (0,0)),.obj h (.cells ⟨[.map none]⟩ 242 (0,0)),.obj r (.cells ⟨[q,.slice A2 a.length c2]⟩ 36 (0,0))]++g.map rq) (List.perm_middle (l₁:=[_,_,_])).symm ⟨(),om_,Z⟩
  obtain ⟨z,L,rfl⟩:=p;refine TY fun R c=>Ue _ U7<|C4 1 [2,3,4,13,14,15] c Z<|UO 1 Z<|UO 1 Z<|G.perm (L':=[.obj o (.cells ⟨[.map (some f)]⟩ 242 (0,0)),.obj f (aP qg (xW a (i+1))),.obj n (.cells ⟨[.bool false]⟩ 4 (0,0)),.obj h (.cells ⟨[.map none]⟩ 242 (0,0)),.obj r (.cells ⟨[q,.slice A2 a.length c2]⟩ 36 (0,0))]++(K::g).map rq) (by
   rw [show xW a (i+1)=Ej (xW a i) i t (vR t).length by rw [mK,xW,aw,E];rfl];exact (List.perm_middle (l₁:=[_,_,_,_,_])).symm) ?_
  refine WN (m':=a.length-(i+1)) om_ mup (hn_ [2,3,4,13,14,15] Z) ⟨i+1,K::g,⟨by omega,by simp [y]⟩,Z,Z,Z,Z⟩
 have B:i=a.length:=by
  have:¬ i<a.length:=by simpa using A
  omega
 refine TY fun R c=>Uc af U9<|Uf (j:=3) U12<|Uf (j:=3) U12<|TZ [2,3] c Z<|G.freeze 3 Z fun Cf an Y=>G.perm (L':=g.map rq++[_,_,_,_]) (QQ (l₁:=[_,_,_,_]))<|Ui (WQ (Ow ae af Z Z Z Z Z Z Z) ?_ ?_)
 ·exact ⟨Z,f,Z,by rw [<- B];exact Y⟩
 intro e;rw [e] at y;have:=QY.2 N;simp at y;omega
def K4 (kd a b:Int)(h:Bool):Value:=.agg ⟨[.int .u8 kd,.int .i8 a,.int .i8 b,.bool h]⟩
def dT (h:Bool):Int:=if h then 2 else 1
def dz (a b:Int)(h:Bool)(x y by':Int):Pt:=(kQ (x+a.tmod 8*by') (dT h*by'),kQ (y+b.tmod 8*by') (dT h*by'))
theorem xX (a:Int):-8<a.tmod 8/\a.tmod 8<8:=by
 have h:(a.tmod 8).natAbs=a.natAbs % 8:=SU a 8;omega
theorem Bc (C:Mem)(g:Tabs C)(i a b:Int)(h:Bool)(x y n:Int)(v:0<n)(w:n<=4)(A:-128<=x/\x<=127)(B:-128<=y/\y<=127) :
  Gives cx.P 95 [K4 i a b h,.agg ⟨[.int .i8 x,.int .i8 y]⟩,.int .i64 n] C (ptV (dz a b h x y n)):=by
 have k:=xX a;have l:=xX b;have m:∀ z:Int, -8<z->z<8->-32<z*n/\z*n<32:=fun z h1 h2=>by
  rcases (by omega:n=1∨n=2∨n=3∨n=4) with e | e | e | e <;> subst e <;> omega
 have D:=m _ k.1 k.2;have E:=m _ l.1 l.2;have r:dT h=1∨dT h=2:=by cases h <;> simp [dT]
 have F:0<dT h*n/\dT h*n<=8:=by rcases r with e | e <;> rw [e] <;> omega
 refine Ud func95 53 U3 fun w0=>TY fun R d=>Up U6 fun o=>Up U6 fun p=>Uo U5 fun q=>TZ [2,3,4,6] d Z<|TT 1 [2,3,4,6,7] Z<|TU 1 Z fun R d=>Uc ac U9<|TZ [2,3,4,6,7,13] d Z<|G.cut (fun fr C' s t=>(True)/\fr=[(2,[],.int .i64 n),(3,[],.pointer (some ⟨o,0,none⟩)),(4,[],.pointer (some ⟨p,0,none⟩)),(6,[],.pointer (some ⟨q,0,none⟩)),(7,[],.int .i64 (dT h))]/\s=[.obj q (.cells ⟨[ah [],ah []]⟩ 58 (0,0)),.obj p (.cells ⟨[.int .i8 x,.int .i8 y]⟩ 23 (0,0)),.obj o (.cells ⟨[.int .u8 i,.int .i8 a,.int .i8 b,.bool h]⟩ 25 (0,0))]) ?_ (fun fr _ H t _ u=>?_)
 ·refine TW (fun f=>?_) fun f=>?_
  ·have h1:h=true:=f;subst h1;refine TT 1 [2,3,4,6,7] Z<|Uj 0 (Mem.le.refl _) (hn_ [2,3,4,6,7] Z) ⟨trivial,Z,Z⟩
  have h1:h=false:=by simpa using f
  subst h1;refine Uj 0 (Mem.le.refl _) (hn_ [2,3,4,6,7] Z) ⟨trivial,Z,Z⟩
 obtain ⟨_,rfl,rfl⟩:=u;refine TY fun R d=>Ut (0) U9 ag U2<|Uc ae U9<|UJ (c:=x) U8 (wrap_i64 om_ om_) fl_<|TX U6<|Ut (1) U9 ag U2<|Uc ac U9<|U1 (a.tmod 8) U6 dc_ U3<|UJ (c:=a.tmod 8) U8 (wrap_i64 om_ om_) fl_<|TX U6<|Ue _ U7<|Ue _ U7<|Ua 2 Z<|Ue _ U7<|Uk (Fh _ g.m_ (x+a.tmod 8*n) (dT h*n) om_ om_ om_) U7 fl_<|C4 5 [2,3,4,6,7,8] d Z<|TY fun R d=>Ut (1) U9 ag U2<|Uc ae U9<|UJ (c:=y) U8 (wrap_i64 om_ om_) fl_<|TX U6<|Ut (2) U9 ag U2<|Uc ac U9<|U1 (b.tmod 8) U6 dc_ U3<|UJ (c:=b.tmod 8) U8 (wrap_i64 om_ om_) fl_<|TX U6<|Ue _ U7<|Ue _ U7<|Ua 2 Z<|Ue _ U7<|Uk (Fh _ g.m_ (y+b.tmod 8*n) (dT h*n) om_ om_ om_) U7 fl_<|C4 5 [6,8,10] d Z<|TU 2 Z fun R d=>Un (gl (dz a b h x y n)) U8<|Uf (j:=0) U12<|TZ [6] d Z<|Ui (UN af U4 ?_);exact ⟨Z,Z⟩
def gr (s p:Nat):Value:=.agg ⟨[.int .i64 (s:Nat),.int .i64 (p:Nat)]⟩
theorem lB (C:Mem)(s p:Nat)(h:s*p<=1000000000):Gives cx.P 65 [gr s p] C (.int .i64 ((s*p:Nat):Int)):=by
 exact Ud func65 8 U3 fun w0=>TY fun R a=>Up U6 fun b=>C4 1 [1] a Z<|TU 1 Z fun R a=>Uc af U9<|TX U6<|Uc af U9<|Ue _ U7<|C4 1 [2] a Z<|Ub U2<|⟨Z,Z⟩
theorem Oq (C:Mem)(s p:Nat)(i k:Int)(h:-1000000000000<=i*p/\i*p<=1000000000000)(b:-1000000000<=k/\k<=1000000000):Gives cx.P 190 [gr s p,.int .i64 i,.int .i64 k] C (.int .i64 (i*p+k)):=by
 exact Ud func190 13 U3 fun w0=>TY fun R a=>Up U6 fun c=>C4 1 [1,2,3] a Z<|TU 2 Z fun R a=>Uc af U9<|Ue _ U7<|TX U6<|Ue _ U7<|C4 1 [6] a Z<|Ub U2<|⟨Z,Z⟩
theorem Jt {m:NZ}{s:iE}:(dm m (s.2,s.1)).isSome=!kf (m.map (·.1)) s:=by
 unfold kf Od;rw [Bool.not_not];cases h:dm m (s.2,s.1) with
 | none=>rw [cE] at h;simp [h]
 | some v =>
  have:=Sx (f:=(·.1)) (fV h);simp only [Option.isSome_some];exact (Qr this).symm
theorem Jp (C:Mem)(v1 v2:Value)(b:Nat)(m:NZ)(o:C b=some (aP qg m))(hn:(m.map (·.1)).Nodup)(Q:∀ s∈m.map (·.1),0<=s.1)(aF:m.length<=1000000) :
  Pur cx.P 154 [.agg ⟨[v1,v2]⟩,.map (some b)] C fun u D=>∃ v,u=.tuple #[v,.bool (decide (ww (m.map (·.1))≠[]))]/\Sl D 1 v ((ww (m.map (·.1))).map lZ):=by
 have aG:maxLen<=9223372036854775807:=by simp [maxLen]
 have S:=fun s:iE=>Jt (m:=m) (s:=s);obtain ⟨c,K⟩:∃ c,m.map (·.1)=c:=⟨_,rfl⟩;rw [K] at hn Q ⊢;simp only [K] at S;have al:c.length=m.length:=by rw [<- K];simp
 refine Ud func154 93 U3 fun w0=>TY fun R d=>Up U6 fun b2=>C4 2 [1] d Z<|TY fun R d=>D.makeMap keyZ Z Z Z Z fl_ fun n=>C4 1 [1,6] d Z<|TT 1 [1,6,7] Z<|TU 1 Z fun R d=>Wx kI2.enc (Mem.get o mup) Z Z Z Z Z Z Z fl_ fun F=>TZ [1,6,7,19] d Z<|UO 2 Z<|G.loop (fun fr C' x T=>∃ (seen:List Nat)(f:Int),(seen.Nodup/\(∀ j∈seen,j<c.length)/\((fh c seen).map (·.1)).Nodup/\lO (fh c seen) f)/\fr=[(1,[],.map (some b)),(6,[],.map (some n)),(7,[],.int .i64 f),(19,[],.pointer (some ⟨F,0,none⟩))]/\x=[.obj F (bA b m.length seen),.obj n (aP keyZ.enc (uf (fh c seen)))]/\T=c.length-seen.length) (hn_ [1,6,7,19] Z) ⟨[], -1,⟨List.nodup_nil,by simp,by simp [fh],.inl ⟨Z,Z⟩⟩,Z,Z,Z⟩ (fun fr aH aJ m _ U=>?_);obtain ⟨seen,f,⟨an,ao,L,M⟩,rfl,rfl,rfl⟩:=U;refine TY fun R d=>Wf kI2.enc (q:=0) (Mem.get o mup) Z Z Z Z Z Z fl_ fun ap aK N aq=>C4 1 [1,6,7,19,21] d Z<|TW (fun H=>?_) fun H=>?_
 ·obtain ⟨aL,j,hj,aA,rfl⟩:ap=true/\∃ j,j<m.length/\j ∉ seen/\N=seen++[j]:=by
   rcases aq with ⟨h1,_⟩ | h1
   ·rw [h1] at H;cases H
   exact h1
  rw [<- al] at hj;obtain ⟨⟨s,bv⟩,hs⟩:∃ p,m[j]?=some p:=⟨m[j]'om_,aj om_⟩;have ar:c[j]?=some s:=by rw [<- K,Qg,hs];rfl
  have I:(seen++[j]).Nodup:=by
   rw [RX];exact ⟨an,by simp,fun a V b o e=>by rw [Qx.1 o] at e;subst e;exact aA V⟩
  have A:∀ i∈seen++[j],i<c.length:=fun i W=>by
   rcases Qt.1 W with h | h
   ·exact ao i h
   rw [Qx.1 h];exact hj
  have aM:(seen++[j]).length<=c.length:=by
   have:=List.Nodup.length_le_of_subset I (l₂:=List.range c.length) (fun i W=>Qw.2 (A i W));simpa using this
  have aN:(seen++[j]).length=seen.length+1:=by simp
  have g:=CO ar (seen:=seen);have aB:0<=s.1:=Q s (Qc ar);refine TY fun R d=>Wt kI2.enc (Mem.get o mup) hs af Z Z Z Z Z Z Z<|TX U6<|Uo U5 fun b8=>Uf (j:=0) U12<|TZ [1,6,7,8,19] d Z<|TU 1 Z fun R d=>Ut (1) U9 ag U2<|Uc af U9<|Ut (0) U9 ag U2<|Uc af U9<|Un [.int .i64 s.2,.int .i64 s.1] U8<|Wg kI2 (fun _=>(Mem.get o mup)) Z Z Z Z Z Z Z Z Z (pK _ (dm m (s.2,s.1))) Z Z<|C4 5 [1,6,7,8,10,19] d Z<|TT 1 [1,6,7,8,19,34] Z<|TW (fun X=>?_) fun X=>?_
  ·have Y:kf c s=false:=by
    have h:(dm m (s.2,s.1)).isSome=true:=X;rw [S] at h;simpa using h
   rw [Y] at g;simp only [Q2,Rq,QA] at g;refine UO 0 Z<|Um (L':=[.obj F (bA b m.length (seen++[j])),.obj n (aP keyZ.enc (uf (fh c (seen++[j]))))]) (by rw [g];rfl)<|Ug (m':=c.length-(seen++[j]).length) om_ mup (hn_ [1,6,7,19] Z) ⟨seen++[j],f,⟨I,A,by rw [g];exact L,by rw [g];exact M⟩,Z,Z,Z⟩
  have Y:kf c s=true:=by
   have h:(dm m (s.2,s.1)).isSome=false:=X;rw [S] at h;simpa using h
  rw [Y] at g;simp only [R5] at g;refine TU 1 Z fun R d=>Ut (0) U9 ag U2<|Uc af U9<|Vo keyZ ac Z Z Z Z Z Z Z Z kr_ Z (pK _ (dm (uf (fh c seen)) s.1)) Z Z<|C4 5 [1,6,7,8,12,19] d Z<|TT 1 [1,6,7,8,19,42] Z<|TW (fun aa=>?_) fun aa=>?_
  ·have z:(dm (uf (fh c seen)) s.1).isSome=true:=aa;rw [gU] at z;have ab:Ek c=none:=by
    cases l:dm (fh c seen) s.1 with
    | none=>rw [l] at z;cases z
    | some q=>exact Dh (B:=fh c seen) (s:=s) (t:=(s.1,q)) (by rw [<- g];exact yj hn I A) (by rw [<- g];exact E8 A) (fV l) rfl
   have J:ww c=[]:=by unfold ww;rw [ab];rfl
   refine TT 2 [4,5] Z<|Ui (G.dropAll (Uw U3 ?_));exact ⟨Z,.slice none 0 0,by rw [J];rfl,by rw [J];exact Sl.nil _ _⟩
  have z:(dm (uf (fh c seen)) s.1).isSome=false:=aa;have ad:dm (fh c seen) s.1=none:=by
   rw [gU] at z;cases l:dm (fh c seen) s.1 with
   | none=>rfl
   | some q=>rw [l] at z;cases z
  have au:((fh c (seen++[j])).map (·.1)).Nodup:=by
   rw [g,QS,RX];refine ⟨L,by simp,fun a V b o e=>?_⟩;rw [List.map_singleton,Qx] at o;subst o;subst e;exact (cE.1 ad) V
  have O:=pO M s aB;refine TU 1 Z fun R d=>Ut (0) U9 ag U2<|Uc af U9<|Ut (1) U9 ag U2<|Uc af U9<|D.mapUpdate keyZ (j:=2) Z Z Z Z Z Z Z Z Z Z kr_<|TZ [1,6,7,8,19] d Z<|TU 3 Z fun R d=>Ut (0) U9 ag U2<|Uc ae U9<|Ua 2 Z<|UB U8<|TZ [1,6,7,8,19,55] d Z<|TW (fun ah=>?_) fun ah=>?_
  ·have ai:f<0∨s.1<f:=by simpa using ah
   rw [aU ai] at O;refine TY fun R d=>Ut (0) U9 ag U2<|Uc ae U9<|C4 1 [1,6,7,19] d Z<|UO 1 Z<|G.perm (L':=[.obj F (bA b m.length (seen++[j])),.obj n (aP keyZ.enc (uf (fh c (seen++[j]))))]) (by
    rw [g,<- Bl ad];exact List.Perm.swap _ _ _) ?_
   refine Ug (m':=c.length-(seen++[j]).length) om_ mup (hn_ [1,6,7,19] Z) ⟨seen++[j],s.1,⟨I,A,au,by rw [g];exact O⟩,Z,Z,Z⟩
  have ai:¬ (f<0∨s.1<f):=by simpa using ah
  rw [az ai] at O;refine UO 1 Z<|G.perm (L':=[.obj F (bA b m.length (seen++[j])),.obj n (aP keyZ.enc (uf (fh c (seen++[j]))))]) (by
   rw [g,<- Bl ad];exact List.Perm.swap _ _ _) ?_
  refine Ug (m':=c.length-(seen++[j]).length) om_ mup (hn_ [1,6,7,19] Z) ⟨seen++[j],f,⟨I,A,au,by rw [g];exact O⟩,Z,Z,Z⟩
 obtain ⟨aO,rfl,av⟩:ap=false/\N=seen/\∀ j,j<m.length->j∈seen:=by
  rcases aq with h1 | ⟨h1,_⟩
  ·exact h1
  rw [h1] at H;cases H
 rw [<- al] at av;have hp:(fh c N).Perm (c.filter (kf c)):=(vW an ao av).filter _;obtain ⟨B,g⟩:∃ B,fh c N=B:=⟨_,rfl⟩;rw [g] at hp L M;have hO:=Jq hp L Q M;have aQ:B.length<=c.length:=by rw [hp.length_eq];exact Rw _ _
 refine TT 1 [6,7,13] Z<|TT 2 [6,7,13,14] Z<|UO 0 Z<|G.nilArr 3 1<|Um (L':=[.arr (.slice none 0 0) 3 1 0 [],.obj n (aP keyZ.enc (uf B))]) (by rw [g];rfl)<|G.loop (fun fr C' x T=>∃ (out:List Int)(w:Value)(p:Int),(out.length<=B.length/\iF B f (B.length-out.length) p out=Ek c)/\fr=[(6,[],.map (some n)),(7,[],.int .i64 f),(13,[],w),(14,[],.int .i64 p)]/\x=[.arr w 3 1 out.length (out.map (Value.int .i64)),.obj n (aP keyZ.enc (uf B))]/\T=B.length-out.length) (hn_ [6,7,13,14] Z) ⟨[],_,f,⟨Qf _,hO.symm⟩,Z,Z,Z⟩ (fun fr aR aS m _ U=>?_);obtain ⟨out,w,p,⟨aT,E⟩,rfl,rfl,rfl⟩:=U;refine WP af (fun Aw cw hw aV aW aX=>?_);subst hw;refine Uv [(3,1)] Z fun R d=>Ua 3 Z<|V2 keyZ.enc ae Z Z Z Z Z Z Z Z Z<|C4 1 [6,7,13,14,63] d Z<|TW (fun ak=>?_) fun ak=>?_
 ·have aY:out.length<B.length:=by
   simp only [Qj,Bm] at ak;omega
  obtain ⟨r,hr⟩:∃ r,B.length-out.length=r+1:=⟨B.length-out.length-1,by omega⟩;rw [hr] at E;refine TU 2 Z fun R d=>Vo keyZ ae Z Z Z Z Z Z Z Z kr_ Z (pK _ (dm (uf B) p)) Z Z<|C4 5 [6,7,13,14,16] d Z<|TU 10 Z fun R d=>Uu U8<|UB U8<|TZ [6,7,13,14,84] d Z<|TW (fun k=>?_) fun k=>?_
  ·have ab:Ek c=none:=by
    rw [<- E];refine CB ?_;rw [gU] at k;cases l:dm B p with
    | none=>exact .inl rfl
    | some q =>
     rw [l] at k;simp only [RS,Option.isSome_some,Bool.not_true,Bool.false_or,Qn,RJ,Qj] at k;exact .inr ⟨k.1,fun e=>by rw [e] at k;simp at k⟩
   have J:ww c=[]:=by unfold ww;rw [ab];rfl
   refine TT 2 [4,5] Z<|Ui (G.dropAll (Uw U3 ?_));exact ⟨Z,.slice none 0 0,by rw [J];rfl,by rw [J];exact Sl.nil _ _⟩
  obtain ⟨q,l⟩:∃ q,dm B p=some q:=by
   rw [gU] at k;cases l:dm B p with
   | some q=>exact ⟨q,rfl⟩
   | none=>rw [l] at k;simp at k
  have aC:¬ (p=f/\out≠[]):=by
   rintro ⟨e1,e2⟩;rw [gU,l] at k;have:=QY.2 e2;simp [e1] at k;exact e2 k
  rw [CA l aC] at E;have aZ:(out++[p]).length=out.length+1:=by simp
  refine TU 2 Z fun R d=>Uq [lZ p] U12 fun a0 _ _ aD=>D.append (j:=0) U11 aD Z ax (by simp only [aI];omega) fl_ fun aw=>C4 1 [6,7,13,14] d Z<|TU 2 Z fun R d=>Vo keyZ ae Z Z Z Z Z Z Z Z kr_ Z (by rw [gU,l];rfl:kL _ false (dm (uf B) p)=.int .i64 q) Z Z<|C4 1 [6,7,13,14] d Z<|Um (L':=[.arr aw 3 1 (out++[p]).length ((out++[p]).map (Value.int .i64)),.obj n (aP keyZ.enc (uf B))]) (by simp [lZ])<|Ug (m':=B.length-(out++[p]).length) om_ mup (hn_ [6,7,13,14] Z) ⟨out++[p],aw,q,⟨by omega,by rw [show B.length-(out++[p]).length=r by omega];exact E⟩,Z,Z,Z⟩
 have a1:B.length<=out.length:=by
  simp only [Qz,Bm] at ak;omega
 have ay:ww c=out:=by
  rw [show B.length-out.length=0 by omega] at E;unfold ww;rw [<- E];rfl
 refine TT 6 [4,5] Z<|Um (L':=[.arr (.slice Aw out.length cw) 3 1 out.length (out.map lZ).flatten,.obj n (aP keyZ.enc (uf B))]) (by rw [show (out.map lZ).flatten=out.map (Value.int .i64) from eo _ _])<|G.freezeArr 0 (out.map lZ) rfl rfl (by intro r hr;obtain ⟨y,_,rfl⟩:=Qk.1 hr;rfl) am fun Cg hg aE=>Ui (G.dropAll (Uw U3 ?_));refine ⟨Z,_, ?_,by rw [ay];exact aE⟩;rw [ay];have:decide ((out.length:Int) > 0)=decide (out≠[]):=by
  rw [QX,<- QY];omega
 rw [<- this]
end Go.Proofs.YthnpijdjlddpmaaGreatDoor
