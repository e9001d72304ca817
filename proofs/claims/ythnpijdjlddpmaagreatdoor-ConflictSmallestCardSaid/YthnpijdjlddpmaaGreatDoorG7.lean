/- Laws that the proofs of this seat share, part 7. -/
import Derived.Test.YthnpijdjlddpmaaGreatDoorG6
import Derived.Test.YthnpijdjlddpmaaGreatDoorShelf
import Derived.RangeFuncBox
import Derived.RangeFuncLeaves
import Derived.Shelf.Abstract
import Derived.WalkKit
import Derived.OwnWalkIn
import Derived.TacticsInMore
import Derived.LoopNIn
import Derived.LoopIn
import Derived.Stop.RegionWithIn
import Derived.Test.YthnpijdjlddpmaaGreatDoorProg
set_option maxHeartbeats 4000000
namespace Go.Proofs.YthnpijdjlddpmaaGreatDoor
open Go.Proofs.Tryz
open Go Go.Jog
set_option maxRecDepth 100000
variable {a b:Rat}{d g k n:Nat}{q:Rat}{s t:Str}{w z:Int}
def Hk (z w:Int):Nat:=if z<0/\z.natAbs % w.natAbs≠0 then z.natAbs / w.natAbs+1 else z.natAbs / w.natAbs
def BM (z w:Int):Nat:=if z<0/\z.natAbs % w.natAbs≠0 then w.natAbs-z.natAbs % w.natAbs else z.natAbs % w.natAbs
theorem Hj (i:0<w):sgZ (decide (z<0) != decide (w<0)) (Hk z w)=z / w/\(BM z w:Int)=z % w:=by
 obtain ⟨n,rfl⟩:∃ n:Nat,w=n:=⟨w.natAbs,by omega⟩;have f:0<n:=by omega
 rw [QJ (by omega:¬ ((n:Nat):Int)<0),Bool.bne_false];have h1:=Tj z.natAbs n;have h2:=Q2 z.natAbs f;obtain ⟨q,d⟩:∃ q,z.natAbs / n=q:=⟨_,rfl⟩;obtain ⟨r,hr⟩:∃ r,z.natAbs % n=r:=⟨_,rfl⟩;have g:sgZ (decide (z<0)) (Hk z n)=z / n/\(BM z n:Int)=z % n:=by
  have h3:=(Int.ediv_emod_unique (a:=z) (r:=(BM z n:Int)) (q:=sgZ (decide (z<0)) (Hk z n)) (by omega:(0:Int)<(n:Int))).2;have h4:(BM z n:Int)+(n:Int)*sgZ (decide (z<0)) (Hk z n)=z/\0<=(BM z n:Int)/\(BM z n:Int)<(n:Int):=by
   unfold Hk BM sgZ;simp only [Q6];rw [d,hr];rw [hr,d] at h1;rw [hr] at h2;have h5:((r+n*q:Nat):Int)=(z.natAbs:Int):=by rw [h1]
   rw [S1,Rc] at h5;by_cases b:z<0
   ·rw [QC b,aV rfl];by_cases c:r=0
    ·subst c;rw [aA am,aA am];rw [Int.mul_neg];omega
    rw [aV ⟨b,c⟩,aV ⟨b,c⟩];rw [Int.mul_neg,S1,Tv];omega
   rw [QJ b,aA (fun h:z<0/\r≠0=>b h.1),aA (fun h:z<0/\r≠0=>b h.1),aA dc_];omega
  have e:=h3 h4;exact ⟨e.1.symm,e.2.symm⟩
 exact g
theorem sq (C:Mem)(u:Tabs C)(z w:Int)(k:Nat)(f:0<k)(hk:k<=40000)(g:z.natAbs<B9 ^ k)(i:w.natAbs<B9 ^ k)(v:0<w):Gives cx.P 211 [ah (txt z),ah (txt w)] C (.tuple #[ah (txt (z / w)),ah (txt (z % w)),.int .i64 0]):=by
 have aj:=bZ g f;have ak:=bZ i f;have l:0<w.natAbs:=by omega
 refine Uk func211 50 U3 fun w0=>Ua 3 [0,1] Z<|Ua 2 [0,1,12] Z<|Ud (fun m=>?_) fun m=>?_
 ·have h:=lu w;rw [h] at m;have:w=0:=aK m;omega
 refine Ub 1 Z fun R a=>UG (iZ _ z om_) U7 fl_ fun am _ _ J=>Ue U6<|UG (iZ _ w om_) U7 fl_ fun an _ _ K=>Uv U5 fun y=>Uv U5 (fun A=>?_);obtain ⟨pz,rfl,B⟩:=J;obtain ⟨pw,rfl,o⟩:=K;obtain ⟨L,M,N,rfl⟩:=B.form;obtain ⟨O,Q,S,rfl⟩:=o.form;refine Um (j:=1) U12<|Um (j:=1) U12<|Ug [7,8] a Z<|Ub 1 Z fun R a=>Uj ae U9<|Ue U6<|Uj af U9<|UG (xh _ _ _ _ _ B.m_ o.m_ (dA (k:=100000) (n:=k) g om_) l) U7 fl_ (fun ao _ _ T=>?_);obtain ⟨vq,vr,rfl,D,p⟩:=T;refine C4 5 [7,8,9,10] a Z ?_;obtain ⟨b,U,V,W⟩:=id p;obtain ⟨Ar,cr,E,_⟩:=id W;rw [al] at E;subst E;have F:b.length=0 ↔ z.natAbs % w.natAbs=0:=by
  rw [<- V,B8 U];exact Tr
 refine Ub 1 Z fun R a=>Uj ae U9<|Uh 4 Z<|UB U8<|Ug [7,8,9,10,31] a Z<|G.cut (fun fr C' X Y=>∃ (q r:Value),(NineC C' q (Hk z w)/\NineC C' r (BM z w))/\fr=[(7,[],.pointer (some ⟨y,0,none⟩)),(8,[],.pointer (some ⟨A,0,none⟩)),(9,[],q),(10,[],r)]/\X=[.obj A (.cells ⟨[.bool (decide (w<0)),.slice O Q S]⟩ 307 (0,0)),.obj y (.cells ⟨[.bool (decide (z<0)),.slice L M N]⟩ 307 (0,0))]) ?_ (fun fr _ ap Y _ hI=>?_)
 ·refine Ud (fun d=>?_) fun d=>?_
  ·have c:z<0/\z.natAbs % w.natAbs≠0:=by
    have h:decide (z<0)=true/\0<b.length:=by simpa using d
    exact ⟨aK h.1,fun e=>by have:=F.2 e;omega⟩
   have s:Hk z w=z.natAbs / w.natAbs+1:=aV c;have t:BM z w=w.natAbs-z.natAbs % w.natAbs:=aV c;have aa:z.natAbs / w.natAbs<B9 ^ k:=Re (Rm _ _) g;refine Uy [0,3,4,5,1,2,6,7,8] [] Z kr_ fun R hB a=>Uh 2 Z<|Uj af U9<|Ue U6<|Ux [ck 1] U12 fun aq _ _ ab=>UG (Lu (k:=k) _ D.m_ (⟨[1],⟨(fun x hx=>(by rw [QF.1 hx];decide)),by simp⟩,Z,ab.mono mup⟩:NineC _ _ 1) aa (RB (by decide:1<B9 ^ 1) (QL dc_ f)) om_) U7 fl_ fun ar _ _ ac=>UG (um (k:=k) _ o.m_ p.m_ i (Nat.le_of_lt (Q2 _ l)) om_) U7 fl_ fun au _ _ ad=>Uh 2 Z<|Ug [7,8,9,10] a Z ?_;clear a hB R;refine Uq 0 mup (hn_ [7,8,9,10] Z) ⟨_,_,⟨by rw [s];exact ac.mono mup,by rw [t];exact ad.mono mup⟩,Z,Z⟩
  have c:¬ (z<0/\z.natAbs % w.natAbs≠0):=fun h=>by
   have h2:0<b.length:=by
    rcases RJ b.length with h3 | h3
    ·exact absurd (F.1 h3) h.2
    exact h3
   have h3:(decide (z<0) && decide ((0:Int)<(b.length:Int)))=true:=by
    rw [QC h.1,QC om_];rfl
   rw [h3] at d;cases d
  have s:Hk z w=z.natAbs / w.natAbs:=aA c;have t:BM z w=z.natAbs % w.natAbs:=aA c;refine Uq 0 mup (hn_ [7,8,9,10] Z) ⟨_,_,⟨by rw [s];exact D.mono mup,by rw [t];exact p.mono mup⟩,Z,Z⟩
 obtain ⟨q ,r,⟨H,I⟩,rfl,rfl⟩:=hI;obtain ⟨A9,m9,c9,rfl⟩:=H.form;obtain ⟨av,aw,ax,rfl⟩:=I.form;have ag:Hk z w<B9 ^ 100000:=by
  have h1:z.natAbs / w.natAbs<=z.natAbs:=Rm _ _;have h2:Hk z w<=z.natAbs+1:=by unfold Hk;split <;> omega
  have h3:B9 ^ k*2<=B9 ^ (k+1):=by rw [RC];exact RM _ dc_
  have h4:z.natAbs+1<B9 ^ (k+1):=by have:=SL (n:=k) (show 0<B9 by decide);omega
  exact dA (k:=100000) (n:=k+1) (Re h2 h4) om_
 have ai:BM z w<B9 ^ 100000:=by
  have h1:=Q2 z.natAbs l;have h2:BM z w<=w.natAbs:=by unfold BM;split <;> omega
  exact dA (k:=100000) (n:=k) (Re h2 i) om_
 refine Ub 1 Z fun R a=>Uj ae U9<|Ue U6<|Uj af U9<|Uh 2 Z<|Uu [.bool (decide (z<0) != decide (w<0)),_] U8<|Uo (jW _ u.m_ _ _ _ H.m_ ag) U7<|Ue U6<|Uu [.bool false,_] U8<|Uo (jW _ u.m_ _ _ _ I.m_ ai) U7<|C4 3 [4,5,6] a Z<|Up (G.dropAll (Vf U4 ?_));refine ⟨?_,Z⟩;rw [(Hj v).1,show sgZ false (BM z w)=z % w from (Hj v).2]
theorem KK {l:List Nat}(a:xV l)(b:bB l=n):0<l.length ↔ 0<n:=by
 have h:=B8 a;rw [b] at h;have h2:l.length=0 ↔ n=0:=by rw [h];exact Tr
 omega
theorem GV (C:Mem)(r:Tabs C)(z w:Int)(k:Nat)(s:0<k)(hk:k<=40000)(t:z.natAbs<B9 ^ k)(u:w.natAbs<B9 ^ k):Gives cx.P 208 [ah (txt z),ah (txt w)] C (ah (txt (Nat.gcd z.natAbs w.natAbs:Nat))):=by
 have ab:=bZ t s;have ac:=bZ u s;refine Uk func208 56 U3 fun w0=>Ua 1 [0,1] Z<|Ub 1 Z fun R a=>Uo (jH _ z 18 (Qi _)) U7<|C4 5 [0,1,5,6] a Z<|Ua 1 [0,1,5,18] Z<|G.cut (fun fr C' d e=>(True)/\fr=[(0,[],ah (txt z)),(1,[],ah (txt w))]/\d=[]) ?_ (fun fr _ ad e _ f=>?_)
 ·refine Ud (fun v=>?_) fun v=>?_
  ·have A:=aK v;rw [aV A];have B:=zp A;rw [e18] at B;refine Ub 1 Z fun R a=>Uo (jH _ w 18 (Qi _)) U7<|C4 5 [0,1,5,7,8] a Z<|Ua 1 [0,1,5,7,24] Z<|Ud (fun E=>?_) fun E=>?_
   ·have F:=aK E;rw [aV F];have H:=zp F;rw [e18] at H;refine G.loop (fun fr C' d e=>∃ (x y:Int),(x.natAbs<1000000000000000000/\y.natAbs<1000000000000000000/\Nat.gcd x.natAbs y.natAbs=Nat.gcd z.natAbs w.natAbs)/\fr=[(5,[],.int .i64 x),(7,[],.int .i64 y)]/\d=[]/\e=y.natAbs+1) (hn_ [5,7] Z) ⟨z,w,⟨B,H,Z⟩,Z,Z,Z⟩ (fun fr ae af m K f=>?_);obtain ⟨x,y,⟨ag,L,c⟩,rfl,rfl,rfl⟩:=f;refine Ua 2 [5,7,26] Z<|Ud (fun i=>?_) fun i=>?_
    ·have b:y≠0:=by simpa using i
     have M:(x.tmod y).natAbs=x.natAbs % y.natAbs:=S4 x y;have N:=Q2 x.natAbs (show 0<y.natAbs by omega);refine Uy [0,1,2,3,4,5] [] Z kr_ fun R hB a=>Uh 3 Z<|Vh (x.tmod y) U6 b U3<|C4 2 [5,7] a Z<|Un (m':=(x.tmod y).natAbs+1) om_ K (hn_ [5,7] Z) ⟨y,x.tmod y,⟨L,by omega,by rw [M,<- c,Sz x.natAbs,TS y.natAbs x.natAbs,Sz]⟩,Z,Z,Z⟩
    have b:y=0:=by simpa using i
    subst b;rw [show (0:Int).natAbs=0 from rfl,S3] at c;refine Ub 3 Z fun R a=>?_;have ai:IntKind.i64.wrap (0-x)=0-x:=wrap_i64 om_ om_;exact D.max ((x.natAbs:Int)) U6 om_ U2<|Us (sn _ r.m_ (x.natAbs:Int) om_ om_) U7 fl_<|C4 1 [4] a Z<|Ui U2<|⟨by rw [c],Z⟩
   refine Uq 0 (Mem.le.refl _) (hn_ [0,1] Z) ⟨trivial,Z,Z⟩
  refine Uq 0 (Mem.le.refl _) (hn_ [0,1] Z) ⟨trivial,Z,Z⟩
 obtain ⟨_,rfl,rfl⟩:=f;refine Ub 1 Z fun R a=>UG (iZ _ z om_) U7 fl_ (fun aj _ _ O=>?_);obtain ⟨pz,rfl,Q⟩:=O;refine Vs U12<|Ue U6<|UG (iZ _ w om_) U7 fl_ (fun ak _ _ S=>?_);obtain ⟨pw,rfl,T⟩:=S;refine Vs U12<|C4 2 [9,10] a Z<|G.loop (fun fr C' d e=>∃ (x y:Nat)(j o:Value),(NineC C' j x/\NineC C' o y/\x<B9 ^ k/\y<B9 ^ k/\Nat.gcd x y=Nat.gcd z.natAbs w.natAbs)/\fr=[(9,[],j),(10,[],o)]/\d=[]/\e=y+1) (hn_ [9,10] Z) ⟨_,_,_,_,⟨Q.mono mup,T.mono mup,t,u,Z⟩,Z,Z,Z⟩ (fun fr am an m _ f=>?_);obtain ⟨x,y,j,o,⟨p,g,I,J,c⟩,rfl,rfl,rfl⟩:=f;obtain ⟨l,U,V,W⟩:=id g;obtain ⟨ao,ap,rfl,_⟩:=id W;rw [al] at g ⊢;have X:=KK U V;refine Ua 3 [9,10,44] Z<|Ud (fun q=>?_) fun q=>?_
 ·have b:0<y:=X.1 (by simpa using q);have N:=Q2 x b;refine Ub 2 Z fun R a=>UG (xh _ _ _ _ _ p.m_ g.m_ (dA (k:=100000) (n:=k) I om_) b) U7 fl_ (fun aq _ _ Y=>?_);obtain ⟨vq,vr,rfl,ar,aa⟩:=Y;refine C4 5 [10,12] a Z<|Ua 4 [9,10] Z<|Un (m':=x % y+1) om_ mup (hn_ [9,10] Z) ⟨y,x % y,_,_,⟨g.mono mup,aa.mono mup,J,SA (Q2 _ b) J,by rw [<- c,Sz x,TS y x,Sz]⟩,Z,Z,Z⟩
 have b:y=0:=by
  have h:¬ 0<l.length:=by simpa using q
  omega
 subst b;rw [S3] at c;obtain ⟨A9,m9,c9,rfl⟩:=p.form;exact Ub 1 Z fun R a=>Uu [.bool false,_] U8<|Us (jW _ r.m_ _ _ _ p.m_ (dA (k:=100000) (n:=k) I om_)) U7 fl_<|C4 1 [4] a Z<|Ui U2<|⟨by rw [c];rfl,Z⟩
def rT (sg:Bool)(A:Str)(B:Option Str):Value :=
 if Nt A B then .tuple #[.int .i64 (sgZ sg (bV A)),.int .i64 (P9 B),.bool true] else .tuple #[.int .i64 0,.int .i64 0,.bool false]
theorem CX (C:Mem)(d:Bool)(A:Str)(B:Option Str)(q:∀ c∈A,eP c=true)(T:A≠[])(U:∀ b,B=some b->∀ c∈b,eP c=true)(V:(Jp d++A++eO B).length<=1000000) :
  Gives cx.P 141 [ah (Jp d++A++eO B)] C (rT d A B):=by
 obtain ⟨s,hs⟩:∃ s,Jp d++A++eO B=s:=⟨_,rfl⟩;obtain ⟨p,t⟩:∃ p,(Jp d).length=p:=⟨_,rfl⟩;have g:p=if d then 1 else 0:=by rw [<- t];cases d <;> rfl
 have u:∀ j c,A[j]?=some c->s[p+j]?=some c:=fun j c h=>by rw [<- hs,<- t];exact ML _ _ _ h
 have N:∀ j,s[p+A.length+j]?=(eO B)[j]?:=fun j=>by rw [<- hs,<- t];exact Jq _ _ _ _
 have y:s.length=p+A.length+(eO B).length:=by rw [<- hs,<- t,Qp,Qp]
 have W:0<A.length:=Q3.2 T;rw [hs] at V ⊢;refine Uk func141 73 U3 fun w0=>Ua 3 [0,2,3] Z<|Ua 2 [0,2,3,5,6] Z<|Ub 5 Z fun R a=>U0 (b:=s.getD 0 0) U8 (fun _=>⟨by omega,(by rw [ax,show (0:Int).toNat=0 from rfl];obtain ⟨c,f⟩:∃ c,s[0]?=some c:=⟨s[0]'om_,ak om_⟩;rw [f];rfl)⟩) U2<|Ue U6<|UB U8<|Ug [0,2,3,5,6,15] a Z<|G.cut (fun fr C' i k=>(True)/\fr=[(0,[],ah s),(2,[],.int .i64 0),(3,[],.int .i64 0),(5,[],.int .i64 p),(6,[],.bool d)]/\i=[]) ?_ (fun fr _ ae k _ l=>?_)
 ·refine Ud (fun v=>?_) fun v=>?_
  ·have n:d=true:=by
    cases d with
    | true=>rfl
    | false =>
     exfalso;rw [aA dc_] at g;subst g;obtain ⟨c,f⟩:∃ c,A[0]?=some c:=⟨A[0],ak W⟩;have h1:=u 0 c f;have h2:=q c (Qj f);rw [Sk] at h1;rw [ax,h1] at v;unfold eP at h2;simp at v h2;omega
   subst n;rw [aV rfl] at g;subst g;refine Ua 2 [0,2,3,5,6] Z<|Uq 0 (Mem.le.refl _) (hn_ [0,2,3,5,6] Z) ⟨trivial,Z,Z⟩
  have n:d=false:=by
   cases d with
   | false=>rfl
   | true =>
    exfalso;have h1:s[0]?=some 45:=by rw [<- hs];rfl
    rw [aV rfl] at g;have h2:(decide ((0:Int)<((s.length:Nat):Int)) && decide ((((s.getD 0 0).toNat:Nat):Int)=45))=false:=by simpa using v
    rw [ax,h1,QC om_] at h2;exact absurd h2 dc_
  subst n;rw [aA dc_] at g;subst g;refine Uq 0 (Mem.le.refl _) (hn_ [0,2,3,5,6] Z) ⟨trivial,Z,Z⟩
 obtain ⟨_,rfl,rfl⟩:=l;refine Ua 2 [0,2,3,5,6,7] Z<|G.loop (fun fr C' i k=>∃ (j:Nat),(j<=A.length/\j<=9)/\fr=[(0,[],ah s),(2,[],.int .i64 ((bV (A.take j):Nat):Int)),(3,[],.int .i64 0),(5,[],.int .i64 ((p+j:Nat):Int)),(6,[],.bool d),(7,[],.int .i64 p)]/\i=[]/\k=A.length-j+1) (hn_ [0,2,3,5,6,7] Z) ⟨0,⟨by omega,by omega⟩,Z,Z,Z⟩ (fun fr af ag m X l=>?_);obtain ⟨j,⟨hj,w⟩,rfl,rfl,rfl⟩:=l;obtain ⟨c,f⟩:∃ c,p+j<s.length->s[p+j]?=some c:=⟨s.getD (p+j) 0,fun h=>by rw [ax,ak h];rfl⟩;refine Ub 7 Z fun R a=>U0 (b:=c) U8 (fun Y=>⟨by omega,f (by have h:decide (((p+j:Nat):Int)<((s.length:Nat):Int))=true:=Y.1;have h2:=aK h;omega)⟩) U2<|Ue U6<|UB U8<|Ug [0,2,3,5,6,7,26] a Z<|Ud (fun x=>?_) fun x=>?_
 ·have z:p+j<s.length/\c.toNat≠47:=by
   simp at x;omega
  have E:j<A.length:=by
   rcases QU j A.length with h | h
   ·exact h
   exfalso;obtain rfl:j=A.length:=by omega
   have h1:=f z.1;have h2:=N 0;rw [Sk,h1] at h2;cases B with
   | none=>simp [eO] at h2
   | some b =>
    simp [eO] at h2;subst h2;exact z.2 Z
  obtain ⟨e,o⟩:∃ c,A[j]?=some c:=⟨A[j],ak E⟩;obtain rfl:e=c:=by
   have h1:=f z.1;rw [u j e o] at h1;exact RS h1
  have O:48<=e.toNat/\e.toNat<=57:=by simpa [eP] using q e (Qj o)
  have hV:=uL q w;refine Ub 2 Z fun R a=>Ul _ U7<|C4 1 [0,2,3,5,6,7,32] a Z<|Ud (fun F=>?_) fun F=>?_
  ·have r:¬ A.length<=9:=by
    have:((p+j:Nat):Int)-p=9:=by simpa using F
    omega
   refine Ua 3 [2,3,4] Z<|Up (G.dropAll (Vf U4 ?_));refine ⟨?_,Z⟩;unfold rT Nt;rw [QJ r,Bool.false_and,aA dc_]
  have r:j≠9:=by
   have:¬ ((p+j:Nat):Int)-p=9:=by simpa using F
   omega
  refine Ub 1 Z fun R a=>Ul _ U7<|Uh 2 Z<|U0 U8 (fun _=>⟨by omega,u j _ o⟩) U2<|D.int (((e.toNat:Nat):Int)-48) U4 (by rw [IntKind.wrap_u8];omega) U2<|UQ (c:=((e.toNat:Nat):Int)-48) U8 (by rw [IntKind.wrap_i64];omega) fl_<|Ul _ U7<|C4 1 [0,2,3,5,6,7] a Z<|Ub 1 Z fun R a=>Ul _ U7<|C4 1 [0,2,3,5,6,7] a Z ?_;rw [show 10*((bV (A.take j):Nat):Int)+(((e.toNat:Nat):Int)-48)=((bV (A.take (j+1)):Nat):Int) by rw [BR o];omega];refine Un (m':=A.length-(j+1)+1) om_ X (hn_ [0,2,3,5,6,7] Z) ⟨j+1,⟨by omega,by omega⟩,Z,Z,Z⟩
 have E:j=A.length:=by
  rcases QU j A.length with h | h
  ·exfalso;obtain ⟨e,o⟩:∃ c,A[j]?=some c:=⟨A[j],ak h⟩;have h1:=f om_;rw [u j e o] at h1;obtain rfl:=RS h1;have O:48<=e.toNat/\e.toNat<=57:=by simpa [eP] using q e (Qj o)
   simp at x;have:=x om_;omega
  omega
 subst E;rw [Qv];refine Ua 1 [0,2,3,5,41] Z<|G.cut (fun fr C' i k=>(True)/\fr=[(0,[],ah s),(2,[],.int .i64 (sgZ d (bV A))),(3,[],.int .i64 0),(5,[],.int .i64 ((p+A.length:Nat):Int))]/\i=[]) ?_ (fun fr _ ai k _ l=>?_)
 ·refine Ud (fun H=>?_) fun H=>?_
  ·have n:d=true:=H;subst n;have aa:=uL q w;rw [Qv] at aa;refine Ua 3 [0,2,3,5] Z ?_;rw [show IntKind.i64.wrap (0-((bV A:Nat):Int))=sgZ true (bV A) by rw [wrap_i64 om_ om_];unfold sgZ;rw [aV rfl];omega];refine Uq 0 (Mem.le.refl _) (hn_ [0,2,3,5] Z) ⟨trivial,Z,Z⟩
  have n:d=false:=by simpa using H
  subst n;refine Uq 0 (Mem.le.refl _) (hn_ [0,2,3,5] Z) ⟨trivial,Z,Z⟩
 obtain ⟨_,rfl,rfl⟩:=l;refine Ua 4 [0,2,3,5,47] Z<|Ud (fun I=>?_) fun I=>?_
 ·have ab:B=none:=by
   cases B with
   | none=>rfl
   | some b =>
    exfalso;have:p+A.length=s.length:=by simp at I;omega
    rw [y] at this;simp [eO] at this
  subst ab;refine Ua 4 [2,3,4] Z<|Up (G.dropAll (Vf U4 ?_));refine ⟨?_,Z⟩;unfold rT Nt;rw [QC w];rfl
 obtain ⟨b,rfl⟩:∃ b,B=some b:=by
  cases B with
  | some b=>exact ⟨b,rfl⟩
  | none =>
   exfalso;simp [y,eO] at I
 have Q:=U b rfl;have aj:s.length=p+A.length+1+b.length:=by rw [y];simp [eO];omega
 refine Ub 1 Z fun R a=>Ul _ U7<|C4 1 [0,2,3,5,7] a Z<|Ub 1 Z fun R a=>Ul _ U7<|C4 1 [0,2,3,5,7] a Z<|G.loop (fun fr C' i k=>∃ (j:Nat),(j<=b.length/\j<=9)/\fr=[(0,[],ah s),(2,[],.int .i64 (sgZ d (bV A))),(3,[],.int .i64 ((bV (b.take j):Nat):Int)),(5,[],.int .i64 ((p+A.length+1+j:Nat):Int)),(7,[],.int .i64 ((p+A.length+1:Nat):Int))]/\i=[]/\k=b.length-j+1) (hn_ [0,2,3,5,7] Z) ⟨0,⟨by omega,by omega⟩,Z,Z,Z⟩ (fun fr al am m ac l=>?_);obtain ⟨j,⟨hk,S⟩,rfl,rfl,rfl⟩:=l;refine Ua 4 [0,2,3,5,7,56] Z<|Ud (fun J=>?_) fun J=>?_
 ·have K:j<b.length:=by
   have:p+A.length+1+j<s.length:=by simp at J;omega
   omega
  obtain ⟨c,L⟩:∃ c,b[j]?=some c:=⟨b[j],ak K⟩;have ad:s[p+A.length+1+j]?=some c:=by rw [Te,N,SM 1 j];exact L
  have O:48<=c.toNat/\c.toNat<=57:=by simpa [eP] using Q c (Qj L)
  have hV:=uL Q S;refine Ub 2 Z fun R a=>Ul _ U7<|C4 1 [0,2,3,5,7,62] a Z<|Ud (fun M=>?_) fun M=>?_
  ·have r:¬ b.length<=9:=by
    have:((p+A.length+1+j:Nat):Int)-((p+A.length+1:Nat):Int)=9:=by simpa using M
    omega
   refine Ua 3 [2,3,4] Z<|Up (G.dropAll (Vf U4 ?_));refine ⟨?_,Z⟩;unfold rT Nt;rw [show (some b).getD []=b from rfl,QJ r,Bool.and_false,aA dc_]
  have r:j≠9:=by
   have:¬ ((p+A.length+1+j:Nat):Int)-((p+A.length+1:Nat):Int)=9:=by simpa using M
   omega
  refine Ub 1 Z fun R a=>Ul _ U7<|Uh 2 Z<|U0 U8 (fun _=>⟨by omega,ad⟩) U2<|D.int (((c.toNat:Nat):Int)-48) U4 (by rw [IntKind.wrap_u8];omega) U2<|UQ (c:=((c.toNat:Nat):Int)-48) U8 (by rw [IntKind.wrap_i64];omega) fl_<|Ul _ U7<|C4 1 [0,2,3,5,7] a Z<|Ub 1 Z fun R a=>Ul _ U7<|C4 1 [0,2,3,5,7] a Z ?_;rw [show 10*((bV (b.take j):Nat):Int)+(((c.toNat:Nat):Int)-48)=((bV (b.take (j+1)):Nat):Int) by rw [BR L];omega];refine Un (m':=b.length-(j+1)+1) om_ ac (hn_ [0,2,3,5,7] Z) ⟨j+1,⟨by omega,by omega⟩,Z,Z,Z⟩
 have K:j=b.length:=by
  have:¬ p+A.length+1+j<s.length:=by simp at J;omega
  omega
 subst K;rw [Qv];refine Ua 5 [2,3,4] Z<|Up (G.dropAll (Vf U4 ?_));refine ⟨?_,Z⟩;unfold rT Nt;rw [show (some b).getD []=b from rfl,QC w,QC S];rfl
theorem pk {n:Int}(a:g ∣ n.natAbs):n.tdiv (g:Int)=n / (g:Int):=Int.tdiv_eq_ediv_of_dvd (SX.1 (Si.2 a))
theorem AT {n:Int}(a:d≠0):qtx (mkRat n d)=txt (n / ((Nat.gcd n.natAbs d:Nat):Int))++eO (nP (d / Nat.gcd n.natAbs d)):=by
 rw [pl,(ul n a).1,(ul n a).2]
theorem wa (C:Mem)(e:Tabs C)(n:Int)(d:Nat)(o:0<d)(p:n.natAbs<9000000000000000000)(t:d<9000000000000000000):Gives cx.P 142 [.int .i64 n,.int .i64 d] C (ah (qtx (mkRat n d))):=by
 obtain ⟨g,b⟩:∃ g,Nat.gcd n.natAbs d=g:=⟨_,rfl⟩;have u:0<g:=by rw [<- b];exact SZ _ o
 have q:g ∣ n.natAbs:=by rw [<- b];exact Td _ _
 have v:g ∣ d:=by rw [<- b];exact Ts _ _
 have F:g<=d:=TV o v;rw [AT om_,b];refine Uk func142 35 U3 fun w0=>Ua 1 [0,1] Z<|Ua 4 [0,1,5,6] Z<|G.loop (fun fr C' f h=>∃ (x y:Int),(x.natAbs<9000000000000000000/\y.natAbs<9000000000000000000/\Nat.gcd x.natAbs y.natAbs=g)/\fr=[(0,[],.int .i64 n),(1,[],.int .i64 d),(5,[],.int .i64 x),(6,[],.int .i64 y)]/\f=[]/\h=y.natAbs+1) (hn_ [0,1,5,6] Z) ⟨n,d,⟨p,by omega,by rw [Q6];exact b⟩,Z,Z,Z⟩ (fun fr H I m w i=>?_);obtain ⟨x,y,⟨J,z,r⟩,rfl,rfl,rfl⟩:=i;refine Ua 2 [0,1,5,6,10] Z<|Ud (fun j=>?_) fun j=>?_
 ·have k:y≠0:=by simpa using j
  have A:(x.tmod y).natAbs=x.natAbs % y.natAbs:=S4 x y;have K:=Q2 x.natAbs (show 0<y.natAbs by omega);refine Uy [0,1,2,3,4,5] [] Z kr_ fun R B a=>Uh 3 Z<|Vh (x.tmod y) U6 k U3<|C4 2 [0,1,5,6] a Z<|Un (m':=(x.tmod y).natAbs+1) om_ w (hn_ [0,1,5,6] Z) ⟨y,x.tmod y,⟨z,by omega,by rw [A,<- r,Sz x.natAbs,TS y.natAbs x.natAbs,Sz]⟩,Z,Z,Z⟩
 have k:y=0:=by simpa using j
 subst k;rw [show (0:Int).natAbs=0 from rfl,S3] at r;refine Ua 2 [0,1,5,16] Z<|G.cut (fun fr C' f h=>(True)/\fr=[(0,[],.int .i64 n),(1,[],.int .i64 d),(5,[],.int .i64 g)]/\f=[]) ?_ (fun fr _ L h _ i=>?_)
 ·refine Ud (fun l=>?_) fun l=>?_
  ·have D:x<0:=by simpa using l
   refine Ua 3 [0,1,5] Z ?_;rw [show IntKind.i64.wrap (0-x)=(g:Int) by rw [wrap_i64 om_ om_];omega];refine Uq 0 (Mem.le.refl _) (hn_ [0,1,5] Z) ⟨trivial,Z,Z⟩
  have D:¬ x<0:=by simpa using l
  rw [show x=(g:Int) by omega];refine Uq 0 (Mem.le.refl _) (hn_ [0,1,5] Z) ⟨trivial,Z,Z⟩
 obtain ⟨_,rfl,rfl⟩:=i;have E:(n / (g:Int)).natAbs<=n.natAbs:=by
  rw [Sv (SX.1 (Si.2 q)),Q6];exact Rm _ _
 have s:=Rm d g;refine Uy [0,1,2,3,4,5,6,7] [] Z kr_ fun R B a=>Uh 2 Z<|Vq (n / (g:Int)) U6 om_ (pk q) (wrap_i64 om_ om_) U2<|Uh 2 Z<|Vk (d) (g) U6 u (.inl ⟨Z,by omega⟩) U2<|C4 2 [0,1] a Z<|Ua 2 [0,1,26] Z<|Ud (fun c=>?_) fun c=>?_
 ·have h1:d / g=1:=by
   have h2:(((d / g:Nat):Int))=1:=by simpa using c
   omega
  refine Ub 1 Z fun R a=>Us (ji _ e.m_ _ om_ om_) U7 fl_<|C4 1 [4] a Z<|Ui U2<|⟨?_,Z⟩;rw [h1,mi rfl];simp [eO]
 have h1:d / g≠1:=by
  intro h2;rw [h2] at c;exact absurd c dc_
 have M:=mL (n / (g:Int));have N:=mL ((d / g:Nat):Int);have O:(bq (n / (g:Int)).natAbs).length<=20:=eF (Re E (SA p dc_)) dc_;have Q:(bq ((d / g:Nat):Int).natAbs).length<=20:=eF (by rw [Q6];exact Re s (SA t dc_)) dc_;refine Ub 1 Z fun R a=>Us (ji _ e.m_ _ om_ om_) U7 fl_<|Va U6 (fun _=>(by simp only [QA,Qy];omega)) U2<|Ue U6<|Us (ji _ e.m_ ((d / g:Nat):Int) (TY dc_ (Tl _)) (TY (Int.ofNat_le.2 s) om_)) U7 fl_<|Va U6 (fun _=>(by simp only [Qp,QA,Qy];omega)) U2<|C4 1 [4] a Z<|Ui U2<|⟨?_,Z⟩;rw [fN h1,de,QS];rfl
theorem GQ (C:Mem)(z:Int)(d:Nat)(k:Nat)(b:0<k)(g:k<=40000)(c:z.natAbs<B9 ^ k)(e:d<B9 ^ k):Gives cx.P 212 [ah (txt z),ah (bq d)] C (ah (txt z++eO (nP d))):=by
 have h:(txt z).length<=9*k+1:=by
  have:=bZ c b;unfold txt;split
  ·simp;omega
  omega
 have i:=bZ e b;refine Uk func212 12 U3 fun w0=>Ua 1 [0,1] Z<|Ua 2 [0,1,6] Z<|Ud (fun a=>?_) fun a=>?_
 ·have h1:d=1:=by rw [sM] at a;exact aK a
  refine Ua 2 [4] Z<|Ui U2<|⟨?_,Z⟩;rw [mi h1];simp [eO]
 have h1:d≠1:=by rw [sM] at a;exact Ql a
 refine Ub 1 Z fun R f=>Va U6 (fun _=>(by simp only [QA,Qy];omega)) U2<|Ue U6<|Va U6 (fun _=>(by simp only [Qp,QA,Qy];omega)) U2<|C4 1 [4] f Z<|Ui U2<|⟨?_,Z⟩;rw [fN h1,QS];rfl
theorem Fp (C:Mem)(s:Str)(c:s.length<1000000):Gives cx.P 143 [ah s] C (.tuple #[ah (jU 47 s).1,ah ((jU 47 s).2.getD [49])]):=by
 refine Uk func143 18 U3 fun w0=>Ua 2 [0] Z<|Ub 1 Z fun R d=>Uo (LP _ s 47 c) U7<|C4 7 [4,5,6] d Z<|Ua 2 [4,5,14] Z<|Ud (fun a=>?_) fun a=>?_
 ·have h1:(jU 47 s).2=none:=by
   cases h:(jU 47 s).2 with
   | none=>rfl
   | some b=>rw [h] at a;simp at a
  refine Ua 3 [2,3] Z<|Up (G.dropAll (UD U3 ?_));refine ⟨?_,Z⟩;rw [h1];rfl
 obtain ⟨b,h1⟩:∃ b,(jU 47 s).2=some b:=by
  cases h:(jU 47 s).2 with
  | some b=>exact ⟨b,rfl⟩
  | none=>rw [h] at a;simp at a
 refine Ua 4 [2,3] Z<|Up (G.dropAll (UD U3 ?_));refine ⟨?_,Z⟩;rw [h1];rfl
theorem BU {c:UInt8}:∀ {a:Str}(b:Str),c ∉ a->jU c (a++c::b)=(a,some b)
 | [],b,_=>by simp [jU]
 | x::a,b,h=>by
  have d:x≠c:=fun e=>h (e ▸ PH);have hr:=BU (c:=c) (a:=a) b (fun h2=>h (Qt _ h2));simp only [R3,jU,aA d,hr]
theorem xm {c:UInt8}:∀ {a:Str},c ∉ a->jU c a=(a,none)
 | [],_=>rfl
 | x::a,h=>by
  have b:x≠c:=fun e=>h (e ▸ PH);have hr:=xm (c:=c) (a:=a) (fun h2=>h (Qt _ h2));simp only [jU,aA b,hr]
theorem vQ (h:∀ c∈s,eP c=true):(47:UInt8) ∉ s:=fun h2=>absurd (h 47 h2) dc_
theorem vP (z:Int):(47:UInt8) ∉ txt z:=by
 unfold txt;split
 ·intro h;rcases Qw.1 h with h | h
  ·cases h
  exact vQ (jS _) h
 exact vQ (jS _)
theorem oq (q:Rat):jU 47 (qtx q)=(txt q.num,nP q.den):=by
 rw [pl];unfold nP;split
 ·rw [show eO none=[] from rfl,QM];exact xm (vP _)
 exact BU _ (vP _)
theorem one_dec:bq 1=[49]:=by rw [bq];rfl
theorem Hr (d:Nat):(nP d).getD [49]=bq d:=by
 unfold nP;split
 ·rename_i h;subst h;exact one_dec.symm
 rfl
theorem MR (C:Mem)(q:Rat)(a:(qtx q).length<1000000):Gives cx.P 143 [ah (qtx q)] C (.tuple #[ah (txt q.num),ah (bq q.den)]):=by
 have h:=Fp C (qtx q) a
 rwa [oq,Hr] at h
def kT (z w:Int):Rat:=mkRat (if w<0 then -z else z) w.natAbs
theorem pO (C:Mem)(f:Tabs C)(z w:Int)(k:Nat)(b:0<k)(e:k<=40000)(p:z.natAbs<B9 ^ k)(q:w.natAbs<B9 ^ k)(v:w≠0):Gives cx.P 144 [ah (txt z),ah (txt w)] C (ah (qtx (kT z w))):=by
 have x:=bZ p b;have A:=bZ q b;obtain ⟨y,hy⟩:∃ y,(if w<0 then -z else z)=y:=⟨_,rfl⟩;obtain ⟨d,r⟩:∃ d,w.natAbs=d:=⟨_,rfl⟩;have s:d≠0:=by omega
 have B:y.natAbs=z.natAbs:=by rw [<- hy];split <;> omega
 obtain ⟨g,c⟩:∃ g,Nat.gcd y.natAbs d=g:=⟨_,rfl⟩;have D:0<g:=by rw [<- c];exact SZ _ om_
 have t:g ∣ d:=by rw [<- c];exact Ts _ _
 have E:g<=d:=TV om_ t;unfold kT;rw [hy,r,AT s,c];refine Uk func144 35 U3 fun w0=>Ua 1 [0,1] Z<|Ub 1 Z fun R a=>Uo (lT _ w) U7<|C4 1 [0,1,8] a Z<|G.cut (fun fr C' i j=>(True)/\fr=[(0,[],ah (txt y)),(1,[],ah (txt (d:Nat)))]/\i=[]) ?_ (fun fr _ F j _ l=>?_)
 ·refine Ud (fun m=>?_) fun m=>?_
  ·have n:w<0:=by
    have h:eL w<0:=by simpa using m
    unfold eL at h;split at h <;> omega
   rw [aV n] at hy;refine Ub 1 Z fun R a=>Us (uw _ z om_) U7 fl_<|Ue U6<|Us (uw _ w om_) U7 fl_<|C4 2 [0,1] a Z<|Uq 0 (Mem.le.refl _) (hn_ [0,1] Z) ⟨trivial,by rw [hy,show -w=((d:Nat):Int) by omega],Z⟩
  have n:¬ w<0:=by
   intro h2;have h:¬ eL w<0:=by simpa using m
   unfold eL at h;split at h <;> omega
  rw [aA n] at hy;refine Uq 0 (Mem.le.refl _) (hn_ [0,1] Z) ⟨trivial,by rw [hy,show w=((d:Nat):Int) by omega],Z⟩
 obtain ⟨_,rfl,rfl⟩:=l;refine Ub 2 Z fun R a=>Us (GV _ f.m_ y (d:Nat) k b e om_ om_) U7 fl_<|C4 1 [0,1,5] a Z ?_;rw [Q6,c];refine Ua 2 [0,1,5,17] Z<|G.cut (fun fr C' i j=>(True)/\fr=[(0,[],ah (txt (y / (g:Nat)))),(1,[],ah (txt ((d / g:Nat):Int)))]/\i=[]) ?_ (fun fr _ H j _ l=>?_)
 ·refine Ud (fun o=>?_) fun o=>?_
  ·refine Ub 2 Z fun R a=>Us (sq _ f.m_ y (g:Nat) k b e om_ om_ om_) U7 fl_<|C4 5 [0,1,5] a Z<|Ub 2 Z fun R a=>Us (sq _ f.m_ (d:Nat) (g:Nat) k b e om_ om_ om_) U7 fl_<|C4 5 [0,1] a Z<|Uq 0 (Mem.le.refl _) (hn_ [0,1] Z) ⟨trivial,by rw [Tz],Z⟩
  have u:g=1:=by
   rw [de,sM] at o;simpa using o
  refine Uq 0 (Mem.le.refl _) (hn_ [0,1] Z) ⟨trivial,by rw [u,Nat.div_one,Int.natCast_one,Int.ediv_one],Z⟩
 obtain ⟨_,rfl,rfl⟩:=l;rw [de];exact Ub 2 Z fun R a=>Us (GQ _ (y / (g:Nat)) (d / g) k b e (by rw [Sv (SX.1 (Si.2 (by rw [<- c];exact Td _ _))),Q6];exact Re (Rm _ _) om_) (Re (Rm _ _) om_)) U7 fl_<|C4 1 [4] a Z<|Ui U2<|⟨Z,Z⟩
theorem NF {a b:Nat}(h:bq a=bq b):a=b:=by rw [<- (bC a).2,h,(bC b).2]
theorem Oe (h:txt z=txt w):z=w:=by
 have h1:=dD z;rw [h,dD w] at h1;have h2:=NF (TZ h1).1;have h3:decide (w<0)=decide (z<0):=(TZ h1).2;by_cases a:w<0
 ·rw [QC a] at h3;have:=aK h3.symm;omega
 rw [QJ a] at h3;have:=Ql h3.symm;omega
theorem lF (h:qtx a=qtx b):a=b:=by
 have h1:=oq a;rw [h,oq b] at h1;have h2:=Oe (TZ h1).1;have h3:=congrArg P9 (TZ h1).2;rw [qA,qA] at h3;exact Rat.ext h2.symm h3.symm
theorem MF (a b:Rat):((⟨(qtx a).toArray⟩:ByteArray).data.toList == (⟨(qtx b).toArray⟩:ByteArray).data.toList)=decide (a=b):=by
 show (qtx a == qtx b)=_;rw [TP,RR,Qs];exact ⟨lF,fun h=>by rw [h]⟩
theorem qtx_zero:qtx 0=[48]:=by
 rw [show (0:Rat)=((0:Int):Rat) from rfl,mS];unfold txt;rw [aA om_,show bq (0:Int).natAbs=bq 0 from rfl,bq];rfl
theorem dz:qtx 1=[49]:=by
 rw [show (1:Rat)=((1:Int):Rat) from rfl,mS];exact one_val.symm
theorem fV (a:Rat):((⟨(qtx a).toArray⟩:ByteArray).data.toList == (⟨#[48]⟩:ByteArray).data.toList)=decide (a=0):=by
 have h:=MF a 0
 rwa [qtx_zero] at h
theorem Lj (a:Rat):((⟨(qtx a).toArray⟩:ByteArray).data.toList == (⟨#[49]⟩:ByteArray).data.toList)=decide (a=1):=by
 have h:=MF a 1
 rwa [dz] at h
theorem FG (a:Rat):0<(qtx a).length:=by
 unfold qtx;rw [Qp,Qp];have:=Q3.2 (yW a.num.natAbs);omega
theorem bJ (h:QB k q)(a:0<k):(qtx q).length<=18*k+2:=by
 unfold qtx;rw [Qp,Qp];have h1:=bZ h.1 a;have h2:=bZ h.2 a;have h3:(Jp (decide (q.num<0))).length<=1:=by cases decide (q.num<0) <;> simp [Jp]
 have h4:(eO (nP q.den)).length<=9*k+1:=by
  unfold nP;split
  ·simp [eO]
  simp [eO];exact h2
 omega
theorem tW (q:Rat):∃ c r,qtx q=c::r/\((((c.toNat:Nat):Int) == 45)=decide (q.num<0)):=by
 by_cases h:q.num<0
 ·refine ⟨45,bq q.num.natAbs++eO (nP q.den), ?_,by rw [QC h];decide⟩;unfold qtx;rw [QC h];rfl
 obtain ⟨c,r,a⟩:∃ c r,bq q.num.natAbs=c::r:=List.exists_cons_of_ne_nil (yW _);refine ⟨c,r++eO (nP q.den), ?_, ?_⟩
 ·unfold qtx;rw [QJ h,a];rfl
 have h2:=jS q.num.natAbs c (by rw [a];exact PH);rw [QJ h];unfold eP at h2;have h3:=aK h2;exact QJ om_
theorem gc (h:¬ q.num<0)(a:q≠0):qtx (-q)=45::qtx q:=by
 have b:q.num≠0:=fun e=>a (Tk.1 e);unfold qtx;rw [TT,Rat.neg_den,QC om_,QJ h,Tq];rfl
theorem rk (h:q.num<0):qtx q=45::qtx (-q):=by
 have h2:=gc (q:=-q) (by rw [TT];omega) (by intro e;have h3:=congrArg Rat.num e;rw [TT] at h3;have h4:(0:Rat).num=0:=rfl;omega)
 rwa [Rat.neg_neg] at h2
def DK (q:Rat):Bool:=Nt (bq q.num.natAbs) (nP q.den)
theorem LI (h:(bq n).length<=9):n<1000000000:=by
 have h1:=dV (jS n);rw [(bC n).2] at h1;exact RB h1 (QG (QL dc_ h) dc_)
theorem na (h:DK q=true):q.num.natAbs<1000000000/\q.den<1000000000:=by
 unfold DK Nt at h;rw [Qu,Qs,Qs] at h;refine ⟨LI h.1, ?_⟩;by_cases h1:q.den=1
 ·omega
 rw [fN h1] at h;exact LI h.2
theorem Fm (C:Mem)(q:Rat)(a:(qtx q).length<=1000000):Gives cx.P 141 [ah (qtx q)] C (if DK q then .tuple #[.int .i64 q.num,.int .i64 (q.den:Nat),.bool true] else .tuple #[.int .i64 0,.int .i64 0,.bool false]):=by
 have h:=CX C (decide (q.num<0)) (bq q.num.natAbs) (nP q.den) (jS _) (yW _) (Kp _) a;unfold rT at h;rw [(bC _).2,qA] at h;have e:sgZ (decide (q.num<0)) q.num.natAbs=q.num:=by
  unfold sgZ;by_cases h:q.num<0
  ·rw [QC h,aV rfl];omega
  rw [QJ h,aA dc_];omega
 rw [e] at h;exact h
theorem eN (C:Mem)(q:Rat)(g:(qtx q).length<=1000000):Gives cx.P 174 [ah (qtx q)] C (ah (qtx (-q))):=by
 have h:=FG q;refine Uk func174 13 U3 fun w0=>Ua 1 [0] Z<|Ua 2 [0,4] Z<|Ud (fun h4=>?_) fun h4=>?_
 ·have h0:q=0:=by rw [fV] at h4;exact aK h4
  refine Ua 2 [2] Z<|Ui U2<|⟨?_,Z⟩;rw [h0,Rat.neg_zero]
 have h0:q≠0:=by rw [fV] at h4;exact Ql h4
 obtain ⟨c,r,f,e⟩:=tW q;refine Ub 1 Z fun R a=>U0 U8 (fun _=>⟨by omega,by rw [f];rfl⟩) U2<|C4 1 [0,8] a Z<|Ud (fun b=>?_) fun b=>?_
 ·have d:q.num<0:=by rw [e] at b;exact aK b
  refine Ub 1 Z fun R a=>Vb 1 (qtx q).length U9 (fun _=>⟨.inr ⟨_,Z⟩,.inl ⟨Z,Z⟩,.inl ⟨Z,Z⟩,by omega,Qi _,Qi _⟩) U2<|C4 1 [2] a Z<|Ui U2<|⟨?_,Z⟩;rw [Qv,rk d];rfl
 have d:¬ q.num<0:=by rw [e] at b;exact Ql b
 refine Ub 1 Z fun R a=>Va U6 (fun _=>(by simp only [QA,Qy];omega)) U2<|C4 1 [2] a Z<|Ui U2<|⟨?_,Z⟩;rw [gc d h0];rfl
theorem fU (C:Mem)(q:Rat)(j:(qtx q).length<=1000000):Gives cx.P 58 [ah (qtx q)] C (.int .i64 (eL q.num)):=by
 obtain ⟨c,r,f,d⟩:=tW q;have k:=FG q;refine Uk func58 15 U3 fun w0=>Ua 1 [0] Z<|Ua 3 [0,3] Z<|Ud (fun h3=>?_) fun h3=>?_
 ·have h0:q=0:=by rw [fV] at h3;exact aK h3
  refine Ua 1 [2] Z<|Ui U2<|⟨?_,Z⟩;rw [h0];rfl
 have h0:q≠0:=by rw [fV] at h3;exact Ql h3
 have g:q.num≠0:=fun e=>h0 (Tk.1 e);refine Ub 5 Z fun R i=>U0 U8 (fun _=>⟨by omega,by rw [f];rfl⟩) U2<|Ue U6<|UB U8<|C4 1 [6] i Z<|Ud (fun a=>?_) fun a=>?_
 ·rw [d] at a;have b:q.num<0:=by
   have h:=(Qu _ _ ▸ a:_/\_).2;exact aK h
  skip
  refine Ua 1 [2] Z<|Ui U2<|⟨?_,Z⟩;unfold eL;rw [aV b]
 rw [d,QC (show (0:Int)<((⟨(qtx q).toArray⟩:ByteArray).data.toList.length:Int) by show (0:Int)<(((qtx q).length:Nat):Int);omega),Ty] at a;have b:¬ q.num<0:=Ql a;refine Ua 1 [2] Z<|Ui U2<|⟨?_,Z⟩;unfold eL;rw [aA b,aA g]
theorem jE (C:Mem)(q:Rat)(b:(qtx q).length<=1000000):Gives cx.P 141 [ah (qtx q)] C (.tuple #[.int .i64 (if DK q then q.num else 0),.int .i64 (if DK q then ((q.den:Nat):Int) else 0),.bool (DK q)]):=by
 have h:=Fm C q b;cases a:DK q with
 | true=>rw [a] at h;exact h
 | false=>rw [a] at h;exact h
def sR (a b:Rat):Int:=if a<b then -1 else if b<a then 1 else 0
theorem uT :sR a b=vt (a.num*b.den) (b.num*a.den):=by
 unfold sR vt;simp only [Rat.lt_iff]
theorem gV (a:Rat):0<a.den:=Sg a.den_nz
theorem oa {a:Int}(b:a.natAbs<1000000000)(c:d<1000000000):-1000000000000000000<a*(d:Int)/\a*(d:Int)<1000000000000000000:=FN b (by rw [Q6];exact c)
theorem wG {a:Nat}(b:a<1000000000)(c:d<1000000000):a*d<1000000000000000000:=Sj b c
theorem kL (C:Mem)(q:Rat)(a:(qtx q).length<1000000):Gives cx.P 143 [ah (qtx q)] C (.tuple #[ah (txt q.num),ah (txt ((q.den:Nat):Int))]):=by
 have h:=MR C q a
 rwa [<- de] at h
theorem dZ (a:z.natAbs<B9 ^ k)(b:w.natAbs<B9 ^ k):(z*w).natAbs<B9 ^ (k+k):=by
 rw [RY];exact nX a b
theorem BK (a:0<d):kT z ((d:Nat):Int)=mkRat z d:=by
 unfold kT;rw [aA om_,Q6]
theorem ry (h:QB k q):((q.den:Nat):Int).natAbs<B9 ^ k:=by rw [Q6];exact h.2
theorem gT (C:Mem)(m:Tabs C)(a b:Rat)(k:Nat)(f:0<k)(u:k<=20000)(d:QB k a)(e:QB k b):Gives cx.P 107 [ah (qtx a),ah (qtx b)] C (.int .i64 (sR a b)):=by
 have v:=bJ d f;have w:=bJ e f;refine Uk func107 65 U3 fun w0=>Ua 1 [0,1] Z<|Ua 3 [0,1,19] Z<|Ud (fun g=>?_) fun g=>?_
 ·have h0:a=b:=by rw [MF] at g;exact aK g
  refine Ua 1 [4] Z<|Ui U2<|⟨?_,Z⟩;subst h0;rw [sR,aA (Rat.lt_irrefl),aA (Rat.lt_irrefl)]
 refine Ub 1 Z fun R c=>Us (jE _ a om_) U7 fl_<|C4 7 [0,1,5,6,7] c Z<|Ua 1 [0,1,5,6,26] Z<|G.cut (fun fr C' r s=>(True)/\fr=[(0,[],ah (qtx a)),(1,[],ah (qtx b))]/\r=[]) ?_ (fun fr _ x s _ t=>?_)
 ·refine Ud (fun n=>?_) fun n=>?_
  ·have h:DK a=true:=n;rw [aV h,aV h];have o:=na h;refine Ub 1 Z fun R c=>Us (jE _ b om_) U7 fl_<|C4 7 [0,1,5,6,8,9,10] c Z<|Ua 1 [0,1,5,6,8,9,33] Z<|Ud (fun p=>?_) fun p=>?_
   ·have i:DK b=true:=p;rw [aV i,aV i];have q:=na i;have y:=oa o.1 q.2;have z:=oa q.1 o.2;refine Ub 2 Z fun R c=>Ul _ U7<|Uh 2 Z<|Ul _ U7<|C4 2 [11,12] c Z<|Ua 4 [11,12,40] Z<|Ud (fun j=>?_) fun j=>?_
    ·have h1:=aK j;refine Ua 1 [4] Z<|Ui U2<|⟨?_,Z⟩;rw [uT,vt,aV h1]
    have h1:=Ql j;refine Ua 4 [44] Z<|Ud (fun l=>?_) fun l=>?_
    ·have h2:=aK l;refine Ua 1 [4] Z<|Ui U2<|⟨?_,Z⟩;rw [uT,vt,aA h1,aV h2]
    have h2:=Ql l;refine Ua 1 [4] Z<|Ui U2<|⟨?_,Z⟩;rw [uT,vt,aA h1,aA h2]
   refine Uq 0 (Mem.le.refl _) (hn_ [0,1] Z) ⟨trivial,Z,Z⟩
  refine Uq 0 (Mem.le.refl _) (hn_ [0,1] Z) ⟨trivial,Z,Z⟩
 obtain ⟨_,rfl,rfl⟩:=t;exact Ub 1 Z fun R c=>Us (kL _ a om_) U7 fl_<|C4 5 [1,13,14] c Z<|Ub 1 Z fun R c=>Us (kL _ b om_) U7 fl_<|C4 5 [13,14,15,16] c Z<|Ub 2 Z fun R c=>Us (kP _ m.m_ _ _ k f om_ d.1 (ry e)) U7 fl_<|Uh 2 Z<|Us (kP _ m.m_ _ _ k f om_ e.1 (ry d)) U7 fl_<|Us (pY _ _ _ (by have:=bZ (dZ d.1 (ry e)) om_;omega) (by have:=bZ (dZ e.1 (ry d)) om_;omega)) U7 fl_<|C4 1 [4] c Z<|Ui U2<|⟨by rw [uT],Z⟩
theorem mR (C:Mem)(f:Tabs C)(a b:Rat)(k:Nat)(g:0<k)(w:k<=10000)(d:QB k a)(e:QB k b):Gives cx.P 91 [ah (qtx a),ah (qtx b)] C (ah (qtx (a+b))):=by
 have x:=bJ d g;have y:=bJ e g;have r:=gV a;have s:=gV b;have o:0<a.den*b.den:=SV r s;refine Uk func91 67 U3 fun w0=>Ua 1 [0,1] Z<|Ua 2 [0,1,16] Z<|Ud (fun h=>?_) fun h=>?_
 ·have h0:a=0:=by rw [fV] at h;exact aK h
  refine Ua 2 [4] Z<|Ui U2<|⟨?_,Z⟩;rw [h0,Rat.zero_add]
 refine Ua 2 [0,1,19] Z<|Ud (fun i=>?_) fun i=>?_
 ·have h0:b=0:=by rw [fV] at i;exact aK i
  refine Ua 2 [4] Z<|Ui U2<|⟨?_,Z⟩;rw [h0,Rat.add_zero]
 refine Ub 1 Z fun R c=>Us (jE _ a om_) U7 fl_<|C4 7 [0,1,5,6,7] c Z<|Ua 1 [0,1,5,6,27] Z<|G.cut (fun fr C' t u=>(True)/\fr=[(0,[],ah (qtx a)),(1,[],ah (qtx b))]/\t=[]) ?_ (fun fr _ z u _ v=>?_)
 ·refine Ud (fun p=>?_) fun p=>?_
  ·have j:DK a=true:=p;rw [aV j,aV j];have l:=na j;refine Ub 1 Z fun R c=>Us (jE _ b om_) U7 fl_<|C4 7 [0,1,5,6,8,9,10] c Z<|Ua 1 [0,1,5,6,8,9,34] Z<|Ud (fun q=>?_) fun q=>?_
   ·have m:DK b=true:=q;rw [aV m,aV m];have n:=na m;have A:=oa l.1 n.2;have B:=oa n.1 l.2;have D:=wG l.2 n.2;exact Ub 2 Z fun R c=>Ul _ U7<|Uh 2 Z<|Ul _ U7<|Ul _ U7<|Uh 2 Z<|UN (((a.den*b.den:Nat):Int)) U4 (Rc _ _).symm om_ om_ U2<|Us (wa _ f.m_ _ _ o om_ om_) U7 fl_<|C4 1 [4] c Z<|Ui U2<|⟨by rw [jG],Z⟩
   refine Uq 0 (Mem.le.refl _) (hn_ [0,1] Z) ⟨trivial,Z,Z⟩
  refine Uq 0 (Mem.le.refl _) (hn_ [0,1] Z) ⟨trivial,Z,Z⟩
 obtain ⟨_,rfl,rfl⟩:=v;exact Ub 1 Z fun R c=>Us (kL _ a om_) U7 fl_<|C4 5 [1,11,12] c Z<|Ub 1 Z fun R c=>Us (kL _ b om_) U7 fl_<|C4 5 [11,12,13,14] c Z<|Ub 2 Z fun R c=>Us (kP _ f.m_ _ _ k g om_ d.1 (ry e)) U7 fl_<|Uh 2 Z<|Us (kP _ f.m_ _ _ k g om_ e.1 (ry d)) U7 fl_<|Us (Nl _ f.m_ _ _ (k+k) om_ om_ (dZ d.1 (ry e)) (dZ e.1 (ry d))) U7 fl_<|Uh 2 Z<|Us (kP _ f.m_ _ _ k g om_ (ry d) (ry e)) U7 fl_<|Us (pO _ f.m_ _ _ (k+k+1) om_ om_ (Re (S6 _ _) (xZ (dZ d.1 (ry e)) (dZ e.1 (ry d)))) (dA (dZ (ry d) (ry e)) om_) (by rw [<- Rc];omega)) U7 fl_<|C4 1 [4] c Z<|Ui U2<|⟨by rw [jG,<- Rc,BK o],Z⟩
theorem Po (c:QB k a)(d:QB k b):QB (k+k+1) (a+b):=by
 rw [jG];exact gZ (Nat.ne_of_gt (SV (gV a) (gV b))) (Re (S6 _ _) (xZ (dZ c.1 (ry d)) (dZ d.1 (ry c)))) (dA (nX c.2 d.2) om_)
theorem qT (c:QB k a)(d:QB k b):QB (k+k) (a*b):=by
 rw [gw];exact gZ (Nat.ne_of_gt (SV (gV a) (gV b))) (dZ c.1 d.1) (nX c.2 d.2)
theorem eZ (b:QB k a):QB k (-a):=⟨by rw [TT,Tq];exact b.1,by rw [Rat.neg_den];exact b.2⟩
theorem mB (c:QB k a)(d:QB k b):QB (k+k+1) (a-b):=by
 rw [TU];exact Po c (eZ d)
theorem Cj (b:QB k a)(d:a≠0):QB k a⁻¹:=by
 have c:a.num≠0:=fun e=>d (Tk.1 e);refine ⟨?_, ?_⟩
 ·rw [Rat.num_inv,RY,Int.natAbs_sign_of_ne_zero c,Tf,Q6];exact b.2
 rw [Rat.den_inv,aA c];exact b.1
theorem js (c:QB k a)(d:QB k b)(e:b≠0):QB (k+k) (a / b):=by
 rw [Rat.div_def];exact qT c (Cj d e)
theorem Pn (h:z.natAbs<B9 ^ k)(a:0<k):QB k (z:Rat):=⟨h,by
 show 1<B9 ^ k;exact RB (by decide:1<B9 ^ 1) (QL dc_ a)⟩
theorem dS (C:Mem)(g:Tabs C)(a b:Rat)(k:Nat)(i:0<k)(y:k<=10000)(d:QB k a)(e:QB k b):Gives cx.P 92 [ah (qtx a),ah (qtx b)] C (ah (qtx (a*b))):=by
 have z:=bJ d i;have A:=bJ e i;have w:=gV a;have x:=gV b;have q:0<a.den*b.den:=SV w x;refine Uk func92 66 U3 fun w0=>Ua 1 [0,1] Z<|Ua 3 [0,1,15] Z<|G.cut (fun fr C' L' j=>(True)/\fr=[(0,[],ah (qtx a)),(1,[],ah (qtx b)),(15,[],.bool (decide (a=0∨b=0)))]/\L'=[]) ?_ (fun fr _ B j _ l=>?_)
 ·refine Ud (fun f=>?_) fun f=>?_
  ·have h0:a=0:=by rw [fV] at f;exact aK f
   rw [fV,show decide (a=0)=decide (a=0∨b=0) by simp [h0]];refine Uq 0 (Mem.le.refl _) (hn_ [0,1,15] Z) ⟨trivial,Z,Z⟩
  have h0:¬ a=0:=by rw [fV] at f;exact Ql f
  refine Ua 3 [0,1,15] Z ?_;rw [fV,show decide (b=0)=decide (a=0∨b=0) by simp [h0]];refine Uq 0 (Mem.le.refl _) (hn_ [0,1,15] Z) ⟨trivial,Z,Z⟩
 obtain ⟨_,rfl,rfl⟩:=l;refine Ud (fun r=>?_) fun r=>?_
 ·have h0:=aK r;refine Ua 1 [4] Z<|Ui U2<|⟨?_,Z⟩;rw [show a*b=0 by rcases h0 with h | h <;> simp [h],qtx_zero];rfl
 refine Ua 3 [0,1,20] Z<|Ud (fun m=>?_) fun m=>?_
 ·have h1:a=1:=by rw [Lj] at m;exact aK m
  refine Ua 2 [4] Z<|Ui U2<|⟨?_,Z⟩;rw [h1,Rat.one_mul]
 refine Ua 3 [0,1,24] Z<|Ud (fun n=>?_) fun n=>?_
 ·have h1:b=1:=by rw [Lj] at n;exact aK n
  refine Ua 2 [4] Z<|Ui U2<|⟨?_,Z⟩;rw [h1,Rat.mul_one]
 refine Ub 1 Z fun R c=>Us (jE _ a om_) U7 fl_<|C4 7 [0,1,5,6,7] c Z<|Ua 1 [0,1,5,6,34] Z<|G.cut (fun fr C' L' j=>(True)/\fr=[(0,[],ah (qtx a)),(1,[],ah (qtx b))]/\L'=[]) ?_ (fun fr _ D j _ l=>?_)
 ·refine Ud (fun s=>?_) fun s=>?_
  ·have o:DK a=true:=s;rw [aV o,aV o];have t:=na o;refine Ub 1 Z fun R c=>Us (jE _ b om_) U7 fl_<|C4 7 [0,1,5,6,8,9,10] c Z<|Ua 1 [0,1,5,6,8,9,41] Z<|Ud (fun u=>?_) fun u=>?_
   ·have p:DK b=true:=u;rw [aV p,aV p];have v:=na p;have E:=FN t.1 v.1;have F:=wG t.2 v.2;exact Ub 2 Z fun R c=>Ul _ U7<|Uh 2 Z<|UN (((a.den*b.den:Nat):Int)) U4 (Rc _ _).symm om_ om_ U2<|Us (wa _ g.m_ _ _ q om_ om_) U7 fl_<|C4 1 [4] c Z<|Ui U2<|⟨by rw [gw],Z⟩
   refine Uq 0 (Mem.le.refl _) (hn_ [0,1] Z) ⟨trivial,Z,Z⟩
  refine Uq 0 (Mem.le.refl _) (hn_ [0,1] Z) ⟨trivial,Z,Z⟩
 obtain ⟨_,rfl,rfl⟩:=l;exact Ub 1 Z fun R c=>Us (kL _ a om_) U7 fl_<|C4 5 [1,11,12] c Z<|Ub 1 Z fun R c=>Us (kL _ b om_) U7 fl_<|C4 5 [11,12,13,14] c Z<|Ub 2 Z fun R c=>Us (kP _ g.m_ _ _ k i om_ d.1 e.1) U7 fl_<|Uh 2 Z<|Us (kP _ g.m_ _ _ k i om_ (ry d) (ry e)) U7 fl_<|Us (pO _ g.m_ _ _ (k+k) om_ om_ (dZ d.1 e.1) (dZ (ry d) (ry e)) (by rw [<- Rc];omega)) U7 fl_<|C4 1 [4] c Z<|Ui U2<|⟨by rw [gw,<- Rc,BK q],Z⟩
theorem ec (C:Mem)(e:Tabs C)(a b:Rat)(k:Nat)(c:0<k)(f:k<=10000)(g:QB k a)(d:QB k b):Gives cx.P 226 [ah (qtx a),ah (qtx b)] C (ah (qtx (a-b))):=by
 have i:=bJ d c;exact Uk func226 9 U3 fun w0=>Ua 1 [0,1] Z<|Ub 2 Z fun R h=>Us (eN _ b om_) U7 fl_<|Uo (mR _ e.m_ a (-b) k c f g (eZ d)) U7<|C4 1 [4] h Z<|Ui U2<|⟨by rw [TU],Z⟩
theorem gS (C:Mem)(n:Tabs C)(a b:Rat)(k:Nat)(g:0<k)(o:k<=10000)(p:QB k a)(f:QB k b)(h:b≠0):Gives cx.P 199 [ah (qtx a),ah (qtx b)] C (.tuple #[ah (qtx (a / b)),.int .i64 0]):=by
 have v:=bJ f g;have q:b.num≠0:=fun e=>h (Tk.1 e);obtain ⟨c,r,s,l⟩:=tW b;refine Uk func199 27 U3 fun w0=>Ua 2 [0,1] Z<|Ua 2 [0,1,9] Z<|Ud (fun j=>?_) fun j=>?_
 ·exfalso;rw [fV] at j;exact h (aK j)
 refine Ub 1 Z fun R d=>Us (kL _ b om_) U7 fl_<|C4 5 [0,1,6,7] d Z<|Ub 1 Z fun R d=>U0 U8 (fun _=>⟨by omega,by rw [s];rfl⟩) U2<|C4 1 [0,6,7,17] d Z<|G.cut (fun fr C' L' t=>(True)/\fr=[(0,[],ah (qtx a)),(6,[],ah (txt (b.num.natAbs:Nat))),(7,[],ah (txt (b⁻¹).num))]/\L'=[]) ?_ (fun fr _ w t _ u=>?_)
 ·refine Ud (fun i=>?_) fun i=>?_
  ·have m:b.num<0:=by rw [l] at i;exact aK i
   refine Ub 1 Z fun R d=>Us (uw _ b.num (by have:=bZ f.1 g;omega)) U7 fl_<|Ue U6<|Us (uw _ ((b.den:Nat):Int) (by have:=bZ (ry f) g;omega)) U7 fl_<|C4 2 [0,6,7] d Z ?_;rw [show -b.num=((b.num.natAbs:Nat):Int) by omega,show -((b.den:Nat):Int)=(b⁻¹).num by rw [Rat.num_inv,Int.sign_eq_neg_one_of_neg m,Int.neg_one_mul]];refine Uq 0 (Mem.le.refl _) (hn_ [0,6,7] Z) ⟨trivial,Z,Z⟩
  have m:¬ b.num<0:=by rw [l] at i;exact Ql i
  rw [show b.num=((b.num.natAbs:Nat):Int) by omega,show ((b.den:Nat):Int)=(b⁻¹).num by rw [Rat.num_inv,Int.sign_eq_one_of_pos om_,Int.one_mul]];refine Uq 0 (Mem.le.refl _) (hn_ [0,6,7] Z) ⟨trivial,Z,Z⟩
 obtain ⟨_,rfl,rfl⟩:=u;rw [de,show b.num.natAbs=(b⁻¹).den by rw [Rat.den_inv,aA q]];refine Ub 3 Z fun R d=>Us (GQ _ _ _ k g om_ (Cj f h).1 (Cj f h).2) U7 fl_ ?_;rw [<- pl b⁻¹];refine Uo (dS _ n.m_ a b⁻¹ k g o p (Cj f h)) U7<|C4 2 [4,5] d Z<|Up (G.dropAll (UD U3 ?_));exact ⟨by rw [Rat.div_def],Z⟩
theorem MA (C:Mem)(c:Tabs C)(z w:Int)(k:Nat)(d:0<k)(e:k<=40000)(f:z.natAbs<B9 ^ k)(g:w.natAbs<B9 ^ k)(i:w≠0):Gives cx.P 150 [ah (txt z),ah (txt w)] C (.tuple #[ah (qtx (kT z w)),.int .i64 0]):=by
 refine Uk func150 12 U3 fun w0=>Ua 2 [0,1] Z<|Ub 1 Z fun R a=>Uo (lT _ w) U7<|C4 1 [0,1,8] a Z<|Ud (fun b=>?_) fun b=>?_
 ·exfalso;have h:eL w=0:=by simpa using b
  rcases el w with h2 | h2 | h2 <;> omega
 refine Ub 2 Z fun R a=>Uo (pO _ c.m_ z w k d e f g i) U7<|C4 2 [4,5] a Z<|Up (G.dropAll (UD U3 ?_));exact ⟨Z,Z⟩
theorem Ft (C:Mem)(a:Tabs C)(z w:Int)(d:z.natAbs<9000000000000000000)(e:w.natAbs<9000000000000000000)(b:w≠0):Gives cx.P 98 [.int .i64 z,.int .i64 w] C (.tuple #[ah (qtx (kT z w)),.int .i64 0]):=by
 have f:9000000000000000000<B9 ^ 3:=by decide
 refine Uk func98 13 U3 fun w0=>Ua 2 [0,1] Z<|Ub 1 Z fun R c=>Us (sn _ a.m_ z om_ om_) U7 fl_<|Ue U6<|Us (sn _ a.m_ w om_ om_) U7 fl_<|Us (MA _ a.m_ z w 3 dc_ dc_ om_ om_ b) U7 fl_<|C4 4 [4,5] c Z<|Up (G.dropAll (UD U3 ?_));exact ⟨Z,Z⟩
theorem li (C:Mem)(a:Tabs C)(z:Int)(c:z.natAbs<9000000000000000000):Gives cx.P 45 [.int .i64 z] C (ah (qtx z)):=by
 exact Uk func45 5 U3 fun w0=>Ua 1 [0] Z<|Ub 1 Z fun R b=>Us (sn _ a.m_ z om_ om_) U7 fl_<|C4 1 [2] b Z<|Ui U2<|⟨by rw [mS],Z⟩
theorem pow9 (k:Nat):B9 ^ k=10 ^ (9*k):=by rw [Nat.pow_mul]
theorem fA (h:cI s=true):s=txt (iH s)/\(iH s).natAbs<B9 ^ 23:=by
 have h1:=rQ.1 h;refine ⟨HN (by unfold cI at h;exact (Rw.1 h).1), ?_⟩;rw [Kr];have h2:=yr.1 h1.1;have h3:=dV h2.1.1;exact RB h3 (by rw [pow9];exact QL dc_ om_)
theorem Lh (h:ba s=true):∃ q:Rat,s=qtx q/\QB 23 q:=by
 unfold ba at h;rw [Qu,Qu] at h;obtain ⟨⟨h1,h2⟩,h3⟩:=h;obtain ⟨a,b⟩:=fA h1;rcases gH 47 s with ⟨d,_,_⟩ | ⟨c,post,d,hs,_⟩
 ·rw [d] at a b;exact ⟨((iH s:Int):Rat),by rw [mS];exact a,Pn b dc_⟩
 rw [d] at h2 h3 a b;simp only [Ry] at h2 a b;obtain ⟨e,f⟩:=fA h2;unfold pi at h3;simp only [Qu,Qs,RR] at h3;obtain ⟨⟨h4,_⟩,g⟩:=h3;have i:(iH post).natAbs≠0:=by omega
 refine ⟨⟨iH c,(iH post).natAbs,i,g⟩, ?_,b,f⟩;rw [pl];show s=txt (iH c)++eO (nP (iH post).natAbs);rw [fN om_,<- a,hs];show c++47::post=c++47::bq (iH post).natAbs;rw [<- de,show (((iH post).natAbs:Nat):Int)=iH post by omega,<- e]
theorem ru (C:Mem)(b:Str)(a:cI b=true):Gives cx.P 161 [ah b,ah [49]] C (.int .i64 (vt (iH b) 1)):=by
 obtain ⟨h1,h2⟩:=fA a;have h:=pY C (iH b) 1 (by have:=bZ h2 dc_;omega) (by rw [show bq (1:Int).natAbs=[49] from one_dec];decide)
 rwa [<- one_val,<- h1] at h
theorem Dz (C:Mem)(c:Tabs C)(a b:Str)(d:cI a=true)(e:cI b=true):Gives cx.P 208 [ah a,ah b] C (ah (txt (Nat.gcd (iH a).natAbs (iH b).natAbs:Nat))):=by
 obtain ⟨h1,h2⟩:=fA d;obtain ⟨h3,h4⟩:=fA e;have h:=GV C c (iH a) (iH b) 23 dc_ dc_ h2 h4
 rwa [<- h1,<- h3] at h
theorem xq {b:Bool}(h:(qI b != 0)=false):b=true:=by cases b <;> first | rfl | (exact absurd h dc_)
theorem dW (C:Mem)(y:Tabs C)(s:Str)(A:s.length<=999998):Gives cx.P 140 [ah s] C (.int .i64 (qI (ba s))):=by
 have u:=FA A;obtain ⟨c,f,l⟩:∃ a b,jU 47 s=(a,b):=⟨_,_,rfl⟩;have k:ba s=(cI c && cI (f.getD [49]) && pi (iH c) f):=by
  unfold ba;rw [l]
 rw [l] at u;simp only at u;refine Uk func140 39 U3 fun w0=>Ua 1 [0] Z<|Ub 1 Z fun R g=>Us (by have h:=LP C s 47 om_;rw [l] at h;exact h) U7 fl_<|C4 7 [3,4,5] g Z<|Ub 1 Z fun R g=>Uo (wV _ c) U7<|C4 1 [3,4,5,16] g Z<|Ud (fun i=>?_) fun i=>?_
 ·have j:ba s=false:=by
   rw [k];cases h1:cI c with
   | false=>rfl
   | true=>rw [h1] at i;exact absurd i dc_
  exact Ua 1 [2] Z<|Ui U2<|⟨by rw [j];rfl,Z⟩
 have m:cI c=true:=by
  cases h1:cI c with
  | true=>rfl
  | false=>rw [h1] at i;exact absurd i dc_
 rw [m,Ty] at k;obtain ⟨v,B⟩:=fA m;refine Ua 2 [3,4,18] Z<|Ud (fun n=>?_) fun n=>?_
 ·have o:f=none:=by
   cases f with
   | none=>rfl
   | some b=>simp at n
  refine Ua 1 [2] Z<|Ui U2<|⟨?_,Z⟩;rw [k,o];rfl
 obtain ⟨b,o⟩:∃ b,f=some b:=by
  cases f with
  | some b=>exact ⟨b,rfl⟩
  | none=>simp at n
 subst o;obtain ⟨d,w⟩:∃ z,iH c=z:=⟨_,rfl⟩;obtain ⟨e,x⟩:∃ z,iH b=z:=⟨_,rfl⟩;have p:ba s=(cI b && pi (iH c) (some b)):=k;unfold pi at p;simp only [w,x] at p v B;have D:(c == [48])=(d == 0):=by
  rw [v];have h:=lu d;rw [show (d == 0)=decide (d=0) by by_cases h:d=0 <;> simp [h]];exact h
 have E:(qI (cI b) != 0)=!cI b:=by cases cI b <;> rfl
 have F:decide (vt e 1<=0)=!decide (1<e):=by
  unfold vt;by_cases h:1<e
  ·rw [aA om_,aV h,QC h];rfl
  rw [QJ h];refine QC ?_;split <;> first | omega | (split <;> omega)
 have q:(qI (cI b) != 0 || decide (vt (iH b) 1<=0) || (c == [48]) || !(bq ((iH c).natAbs.gcd (iH b).natAbs) == [49]))=!ba s:=by
  have G:=sM (d.natAbs.gcd e.natAbs);have H:(bq (d.natAbs.gcd e.natAbs) == [49])=(d.natAbs.gcd e.natAbs == 1):=G;rw [w,x,D,E,F,H,p];cases cI b <;> cases decide (1<e) <;> cases (d == 0) <;> cases (d.natAbs.gcd e.natAbs == 1) <;> rfl
 rw [<- de] at q;refine Ua 4 [6,7] Z<|Ub 1 Z fun R g=>Uo (wV _ b) U7<|Uh 3 Z<|Uz (fun r=>(ru _ b (by exact xq (show (qI (cI b) != 0)=false/\True from r).1))) U9<|Ue U6<|UH U8<|Uh 3 Z<|UH U8<|Uh 3 Z<|Uz (fun r=>(Dz _ y.m_ c b m (by exact xq (RQ.1 (RQ.1 (show (((qI (cI b) != 0) || decide (vt (iH b) 1<=0)) || (c == [48]))=false/\True from r).1).1).1))) U9<|Ue U6<|UH U8<|Ug [38] g Z<|Ud (fun t=>?_) fun t=>?_
 ·have j:ba s=false:=by
   have h:(!ba s)=true:=q.symm.trans t;simpa using h
  exact Ua 1 [2] Z<|Ui U2<|⟨by rw [j];rfl,Z⟩
 have j:ba s=true:=by
  have h:(!ba s)=false:=q.symm.trans t;simpa using h
 exact Ua 1 [2] Z<|Ui U2<|⟨by rw [j];rfl,Z⟩
theorem Ow (z:Int)(b:g ∣ z.natAbs):sgZ (decide (z<0) != false) (z.natAbs / g)=z / (g:Int):=by
 obtain ⟨m,hm⟩:=b;rcases RJ g with h | c
 ·subst h;have a:z=0:=by omega
  subst a;rfl
 rw [hm,Nat.mul_div_cancel_left _ c,Bool.bne_false];unfold sgZ;by_cases a:z<0
 ·rw [QC a,aV rfl,show z=(g:Int)*(-(m:Int)) by rw [Int.mul_neg,<- Rc];omega,Int.mul_ediv_cancel_left _ om_]
 rw [QJ a,aA dc_,show z=(g:Int)*(m:Int) by rw [<- Rc];omega,Int.mul_ediv_cancel_left _ om_]
theorem xg (C:Mem)(c:Tabs C)(z:Int)(b:Nat)(m:z.natAbs<BP ^ 200)(n:b<BP ^ 200)(F:0<b)(d:b ∣ z.natAbs):Gives cx.P 224 [ah (txt z),ah (bq b)] C (.tuple #[ah (txt (z / (b:Int))),ah (bq 0)]):=by
 have H:=Pw;have o:z.natAbs % b=0:=Nat.mod_eq_zero_of_dvd d;have f:(b:Int) ∣ z:=SX.1 (Si.2 d);have I:(z / (b:Int)).natAbs<=z.natAbs:=by
  rw [Sv f,Q6];exact Rm _ _
 refine Uk func224 93 U3 fun w0=>Ua 2 [0,1] Z<|Ub 1 Z fun R a=>Uo (Cc C z) U7<|C4 5 [0,1,6,7] a Z<|Ub 1 Z fun R a=>Uo (qK _ b) U7<|C4 5 [0,1,6,7,8,9] a Z<|Ub 3 Z fun R a=>UB U8<|Ug [0,1,6,8,31] a Z<|Ud (fun g=>?_) fun g=>?_
 ·have hs:(bq z.natAbs).length<=17/\(bq b).length<=17:=by simpa using g
  have h1:=Cb hs.1;have h2:=qL hs.2;rw [aV hs.1,aV hs.2];refine Uy [0,1,2,3,4,5,6,7] [] Z kr_ fun R J a=>Uh 2 Z<|Vq (z / (b:Int)) U6 om_ (pk d) (wrap_i64 om_ om_) U2<|Uh 2 Z<|Vh 0 U6 om_ ⟨(Int.tmod_eq_zero_of_dvd f),Z,Z⟩<|C4 2 [6,8,10,11] a Z<|Ua 2 [6,8,10,11,39] Z<|Ud (fun h=>?_) fun h=>?_
  ·exfalso;simp at h
  refine Ub 1 Z fun R a=>Us (lJ _ c (z / (b:Int)) om_ om_) U7 fl_<|Ue U6<|Us (Gb _ c 0 om_) U7 fl_<|C4 2 [4,5] a Z<|Up (G.dropAll (UD U3 ?_));exact ⟨Z,Z⟩
 refine Ub 1 Z fun R a=>Uo (fD _ z) U7<|C4 5 [1,12,13] a Z<|Ub 1 Z fun R a=>Uo (oR _ b) U7<|C4 5 [12,13,14,15] a Z<|Ub 1 Z fun R a=>UM (nR _ z.natAbs m) U7 (fun K _ _ p=>?_);obtain ⟨lp,q,r,L,s⟩:=p;refine Ue U6<|UM (nR _ b n) U7 (fun M _ _ t=>?_);obtain ⟨u,v,w,N,x⟩:=t;refine UG (Bh _ _ _ lp u s.m_ x.m_ q.1 v om_ om_ om_) U7 fl_ (fun O _ _ y=>?_);obtain ⟨u1,Q,rfl,i,e⟩:=y;rw [r,w] at i e;rw [o] at e;obtain ⟨l1,A,B,S,D⟩:=PieC.take i (by have:=Rm z.natAbs b;omega);obtain ⟨l2,j,E,T,k⟩:=PieC.take e om_;obtain ⟨A2,c2,rfl,_⟩:=id k;obtain rfl:=(B7 j).1 E;refine C4 5 [12,14,15,16,17] a Z<|Ub 5 Z fun R a=>UB U8<|Ug [12,14,15,16,17,78] a Z<|Ud (fun l=>?_) fun l=>?_
 ·exfalso;simp at l
 refine Ub 4 Z fun R a=>Us (Gt _ c.m_ _ _ l1 D.m_ A.1 om_) U7 fl_<|Ue U6<|Us (uo _ c.m_ _ [] k.m_ j.1 am) U7 fl_<|C4 2 [4,5] a Z<|Up (G.dropAll (UD U3 ?_));refine ⟨?_,Z⟩;show Value.tuple #[ah (txt (sgZ (decide (z<0) != false) (bM l1))),_]=_;rw [B,Ow z d];rfl
theorem Bq (h:(txt z).length<=9):z.natAbs<1000000000:=by
 have h1:=zp h
 rwa [e9] at h1
theorem E8 (C:Mem)(k:Tabs C)(z w:Int)(v:(txt z).length<=9)(A:(txt w).length<=9)(Q:w≠0):Gives cx.P 220 [ah (txt z),ah (txt w)] C (ah (qtx (kT z w))):=by
 have S:=Bq v;have T:=Bq A;obtain ⟨n,i⟩:∃ y,(if w<0 then -z else z)=y:=⟨_,rfl⟩;obtain ⟨d,B⟩:∃ d,w.natAbs=d:=⟨_,rfl⟩;have r:0<d:=by omega
 have D:n.natAbs<1000000000:=by rw [<- i];split <;> omega
 unfold kT;rw [i,B];obtain ⟨g,b⟩:∃ g,Nat.gcd n.natAbs d=g:=⟨_,rfl⟩;have E:0<g:=by rw [<- b];exact SZ _ r
 have s:g ∣ n.natAbs:=by rw [<- b];exact Td _ _
 have F:g ∣ d:=by rw [<- b];exact Ts _ _
 have U:g<=d:=TV r F;have H:(n / (g:Int)).natAbs<=n.natAbs:=by
  rw [Sv (SX.1 (Si.2 s)),Q6];exact Rm _ _
 have t:=Rm d g;rw [AT om_,b];refine Uk func220 55 U3 fun w0=>Ua 1 [0,1] Z<|Ub 1 Z fun R a=>Us (zo Tryz.atoi z om_ _ kr_) U7 fl_<|C4 5 [1,5] a Z<|Ub 1 Z fun R a=>Us (zo Tryz.atoi w om_ _ kr_) U7 fl_<|C4 5 [5,7] a Z<|Ua 2 [5,7,22] Z<|G.cut (fun fr C' c e=>(True)/\fr=[(5,[],.int .i64 n),(7,[],.int .i64 d)]/\c=[]) ?_ (fun fr _ V e _ f=>?_)
 ·refine Ud (fun l=>?_) fun l=>?_
  ·have h:w<0:=by simpa using l
   rw [aV h] at i;refine Ua 6 [5,7] Z ?_;rw [show IntKind.i64.wrap (0-z)=n by rw [wrap_i64 om_ om_];omega,show IntKind.i64.wrap (0-w)=(d:Int) by rw [wrap_i64 om_ om_];omega];refine Uq 0 (Mem.le.refl _) (hn_ [5,7] Z) ⟨trivial,Z,Z⟩
  have h:¬ w<0:=by simpa using l
  rw [aA h] at i;rw [show z=n by omega,show w=(d:Int) by omega];refine Uq 0 (Mem.le.refl _) (hn_ [5,7] Z) ⟨trivial,Z,Z⟩
 obtain ⟨_,rfl,rfl⟩:=f;refine Ua 4 [5,7,9,10] Z<|Ua 2 [5,7,9,10,30] Z<|G.cut (fun fr C' c e=>(True)/\fr=[(5,[],.int .i64 n),(7,[],.int .i64 d),(9,[],.int .i64 (n.natAbs:Nat)),(10,[],.int .i64 d)]/\c=[]) ?_ (fun fr _ W e _ f=>?_)
 ·refine Ud (fun o=>?_) fun o=>?_
  ·have h:n<0:=by simpa using o
   refine Ua 3 [5,7,9,10] Z ?_;rw [show IntKind.i64.wrap (0-n)=((n.natAbs:Nat):Int) by rw [wrap_i64 om_ om_];omega];refine Uq 0 (Mem.le.refl _) (hn_ [5,7,9,10] Z) ⟨trivial,Z,Z⟩
  have h:¬ n<0:=by simpa using o
  refine Uq 0 (Mem.le.refl _) (hn_ [5,7,9,10] Z) ⟨trivial,by rw [show ((n.natAbs:Nat):Int)=n by omega],Z⟩
 obtain ⟨_,rfl,rfl⟩:=f;refine G.loop (fun fr C' c e=>∃ (x y:Int),(x.natAbs<9000000000000000000/\0<=x/\0<=y/\y.natAbs<9000000000000000000/\Nat.gcd x.natAbs y.natAbs=g)/\fr=[(5,[],.int .i64 n),(7,[],.int .i64 d),(9,[],.int .i64 x),(10,[],.int .i64 y)]/\c=[]/\e=y.natAbs+1) (hn_ [5,7,9,10] Z) ⟨(n.natAbs:Int),d,⟨by omega,by omega,by omega,by omega,by rw [Q6,Q6];exact b⟩,Z,Z,Z⟩ (fun fr X Y m I f=>?_);obtain ⟨x,y,⟨aa,J,K,L,u⟩,rfl,rfl,rfl⟩:=f;refine Ua 2 [5,7,9,10,34] Z<|Ud (fun p=>?_) fun p=>?_
 ·have q:y≠0:=by simpa using p
  have M:(x.tmod y).natAbs=x.natAbs % y.natAbs:=S4 x y;have ab:=Q2 x.natAbs (show 0<y.natAbs by omega);have N:=Int.tmod_nonneg y J;refine Uy [0,1,2,3,4,5] [] Z kr_ fun R O a=>Uh 3 Z<|Vh (x.tmod y) U6 q U3<|C4 2 [5,7,9,10] a Z<|Un (m':=(x.tmod y).natAbs+1) om_ I (hn_ [5,7,9,10] Z) ⟨y,x.tmod y,⟨L,K,N,by omega,by rw [M,<- u,Sz x.natAbs,TS y.natAbs x.natAbs,Sz]⟩,Z,Z,Z⟩
 have q:y=0:=by simpa using p
 subst q;rw [show (0:Int).natAbs=0 from rfl,S3] at u;obtain rfl:x=(g:Int):=by omega
 refine Uy [0,1,2,3,4,5,6,7] [] Z kr_ fun R O a=>Uh 2 Z<|Vq (n / (g:Int)) U6 om_ (pk s) (wrap_i64 om_ om_) U2<|Uh 2 Z<|Vk (d) (g) U6 E (.inl ⟨Z,by omega⟩) U2<|C4 2 [5,7] a Z<|Ua 2 [5,7,46] Z<|Ud (fun j=>?_) fun j=>?_
 ·have h1:d / g=1:=by
   have h2:(((d / g:Nat):Int))=1:=by simpa using j
   omega
  refine Ub 1 Z fun R a=>Us (ji _ k.m_ _ om_ om_) U7 fl_<|C4 1 [4] a Z<|Ui U2<|⟨?_,Z⟩;rw [h1,mi rfl];simp [eO]
 have h1:d / g≠1:=by
  intro h2;rw [h2] at j;exact absurd j dc_
 have ac:=mL (n / (g:Int));have ad:=mL ((d / g:Nat):Int);have ae:(bq (n / (g:Int)).natAbs).length<=20:=eF (Re H (SA D dc_)) dc_;have af:(bq ((d / g:Nat):Int).natAbs).length<=20:=eF (by rw [Q6];exact Re t (SA (show d<1000000000 by omega) dc_)) dc_;refine Ub 1 Z fun R a=>Us (ji _ k.m_ _ om_ om_) U7 fl_<|Va U6 (fun _=>(by simp only [QA,Qy];omega)) U2<|Ue U6<|Us (ji _ k.m_ ((d / g:Nat):Int) (TY dc_ (Tl _)) (TY (Int.ofNat_le.2 t) om_)) U7 fl_<|Va U6 (fun _=>(by simp only [Qp,QA,Qy];omega)) U2<|C4 1 [4] a Z<|Ui U2<|⟨?_,Z⟩;rw [fN h1,de,QS];rfl
theorem H3 {m:Nat}(h:z.natAbs<m)(g:Nat)(a:g ∣ z.natAbs):(z / (g:Int)).natAbs<m:=by
 rw [Sv (SX.1 (Si.2 a)),Q6];exact Re (Rm _ _) h
theorem J6 (C:Mem)(a:Tabs C)(y:Int)(d:Nat)(b:y.natAbs<BP ^ 200)(c:d<BP ^ 200):Gives cx.P 223 [ah (txt y),ah (bq d)] C (ah (bq (Nat.gcd y.natAbs d))):=by
 have h:=DG C a y (d:Nat) b om_
 rwa [de,Q6] at h
theorem yJ (C:Mem)(e:Tabs C)(z w:Int)(j:z.natAbs<BP ^ 200)(n:w.natAbs<BP ^ 200)(o:w≠0):Gives cx.P 147 [ah (txt z),ah (txt w)] C (ah (qtx (kT z w))):=by
 have B:=gF j;have D:=gF n;obtain ⟨y,hy⟩:∃ y,(if w<0 then -z else z)=y:=⟨_,rfl⟩;obtain ⟨d,p⟩:∃ d,w.natAbs=d:=⟨_,rfl⟩;have q:d≠0:=by omega
 have r:y.natAbs=z.natAbs:=by rw [<- hy];split <;> omega
 obtain ⟨g,b⟩:∃ g,Nat.gcd y.natAbs d=g:=⟨_,rfl⟩;have k:0<g:=by rw [<- b];exact SZ _ om_
 have s:g ∣ d:=by rw [<- b];exact Ts _ _
 have l:g ∣ y.natAbs:=by rw [<- b];exact Td _ _
 have E:g<=d:=TV om_ s;refine Uk func147 46 U3 fun w0=>Ua 1 [0,1] Z<|Ub 7 Z fun R a=>UB U8<|Ug [0,1,13] a Z<|Ud (fun m=>?_) fun m=>?_
 ·have h:(txt z).length<=9/\(txt w).length<=9:=by
   have h1:=(Qu _ _ ▸ m:_/\_);have h2:((txt z).length:Int)<=9:=aK h1.1;have h3:((txt w).length:Int)<=9:=aK h1.2;omega
  exact Ub 2 Z fun R a=>Uo (E8 _ e.m_ z w h.1 h.2 o) U7<|C4 1 [4] a Z<|Ui U2<|⟨Z,Z⟩
 refine Ub 1 Z fun R a=>Uo (yh _ w) U7<|C4 1 [0,1,19] a Z<|G.cut (fun fr C' t u=>(True)/\fr=[(0,[],ah (txt y)),(1,[],ah (bq d))]/\t=[]) ?_ (fun fr _ F u _ v=>?_)
 ·refine Ud (fun f=>?_) fun f=>?_
  ·have i:w<0:=by
    have h:=aK f;refine QT fun h2=>?_;rw [aA h2] at h;revert h;split <;> decide
   rw [aV i] at hy;refine Ub 1 Z fun R a=>Us (sb _ z om_) U7 fl_<|Ue U6<|Us (sb _ w om_) U7 fl_<|C4 2 [0,1] a Z<|Uq 0 (Mem.le.refl _) (hn_ [0,1] Z) ⟨trivial,by rw [hy,show -w=((d:Nat):Int) by omega,de],Z⟩
  have i:¬ w<0:=by
   intro h2;have h:=Ql f;rw [aV h2] at h;exact h dc_
  rw [aA i] at hy;refine Uq 0 (Mem.le.refl _) (hn_ [0,1] Z) ⟨trivial,by rw [hy,show w=((d:Nat):Int) by omega,de],Z⟩
 obtain ⟨_,rfl,rfl⟩:=v;unfold kT;rw [hy,p,AT q,b];have x:=H3 (z:=y) (by rw [r];exact j) g l;have H:=gF x;have A:d / g<BP ^ 200:=Re (Rm _ _) om_;have I:=gF A;have J:=mL (y / (g:Int));refine Ub 2 Z fun R a=>Us (J6 _ e.m_ y d om_ om_) U7 fl_<|C4 1 [0,1,5] a Z ?_;rw [b];refine Ub 2 Z fun R a=>Us (xg _ e.m_ y g om_ om_ k l) U7 fl_<|C4 4 [0,1,5] a Z<|Ub 2 Z fun R a=>Us (mf _ e.m_ d g om_ om_ k) U7 fl_<|C4 4 [0,1] a Z<|Ua 2 [0,1,40] Z<|Ud (fun c=>?_) fun c=>?_
 ·have h1:d / g=1:=by rw [sM] at c;exact aK c
  refine Ua 2 [4] Z<|Ui U2<|⟨?_,Z⟩;rw [mi h1];simp [eO]
 have h1:d / g≠1:=by rw [sM] at c;exact Ql c
 refine Ub 1 Z fun R a=>Va U6 (fun _=>(by simp only [QA,Qy];omega)) U2<|Ue U6<|Va U6 (fun _=>(by simp only [Qp,QA,Qy];omega)) U2<|C4 1 [4] a Z<|Ui U2<|⟨?_,Z⟩;rw [fN h1,QS];rfl
theorem OU (C:Mem)(a:Tabs C)(z w:Int)(d:z.natAbs<9000000000000000000)(e:w.natAbs<9000000000000000000)(b:w≠0):Gives cx.P 96 [.int .i64 z,.int .i64 w] C (ah (qtx (kT z w))):=by
 have f:9000000000000000000<BP ^ 200:=by decide +kernel
 exact Uk func96 10 U3 fun w0=>Ua 1 [0,1] Z<|Ub 1 Z fun R c=>Us (lJ _ a.m_ z om_ om_) U7 fl_<|Ue U6<|Us (lJ _ a.m_ w om_ om_) U7 fl_<|Us (yJ _ a.m_ z w om_ om_ b) U7 fl_<|C4 1 [4] c Z<|Ui U2<|⟨Z,Z⟩
theorem AU (q:Rat):q.num<0 ↔ q<0:=by
 rw [Rat.lt_iff];simp
theorem wg (h:(bq z.natAbs).length<=200):cI (txt z)=true:=by
 refine rQ.2 ?_;rw [dD];refine ⟨yr.2 ⟨(bC _).1,h⟩,fun a=>?_⟩;have h1:=aK a;show 0<bV (bq z.natAbs);rw [(bC _).2];omega
theorem BQ (z:Int):iH (txt z)=z:=by
 unfold iH;rw [dD];show sgZ (decide (z<0)) (bV (bq z.natAbs))=z;rw [(bC _).2];unfold sgZ;by_cases h:z<0
 ·rw [QC h,aV rfl];omega
 rw [QJ h,aA dc_];omega
theorem bO (h:QB 22 q):ba (qtx q)=true:=by
 have h1:(bq q.num.natAbs).length<=200:=by have:=bZ h.1 dc_;omega
 have h2:(bq q.den).length<=200:=by have:=bZ h.2 dc_;omega
 unfold ba;rw [oq];show (cI (txt q.num) && cI ((nP q.den).getD [49]) && pi (iH (txt q.num)) (nP q.den))=true;rw [Hr,BQ,wg h1,<- de,wg (by rw [Q6];exact h2),Ty,Ty];by_cases a:q.den=1
 ·rw [mi a];rfl
 rw [fN a];unfold pi;show (decide (1<iH (bq q.den)) && !(q.num == 0) && (Nat.gcd q.num.natAbs (iH (bq q.den)).natAbs == 1))=true;have b:iH (bq q.den)=((q.den:Nat):Int):=by rw [<- de,BQ]
 have d:=gV q;rw [b,QC om_,Q6,show Nat.gcd q.num.natAbs q.den=1 from q.reduced];have c:q.num≠0:=by
  intro e;have h3:=q.reduced;rw [e] at h3;have h4:Nat.gcd 0 q.den=1:=h3;rw [Nat.gcd_zero_left] at h4;exact a h4
 simp [c]
theorem xr (h:QB 22 q):qI (ba (qtx q))=0:=by rw [bO h];rfl
abbrev Pt:=Rat × Rat
def gn (p:Pt):List Value:=[ah (qtx p.1),ah (qtx p.2)]
def ptV (p:Pt):Value:=.agg ⟨gn p⟩
def QP (k:Nat)(p:Pt):Prop:=QB k p.1/\QB k p.2
def dF (a b c:Pt):Rat:=(b.1-a.1)*(c.2-a.2)-(b.2-a.2)*(c.1-a.1)
theorem gJ (b:Bool):qI b=0/\b=true∨qI b=2/\b=false:=by cases b <;> simp [qI]
def nO (s:Str):List Value:=[ah s]
theorem rZ (C:Mem)(h:Tabs C)(v:Value)(l:List Str)(c:Sl C 1 v (l.map nO))(j:∀ s∈l,s.length<=999998):Gives cx.P 151 [v] C (.int .i64 (qI (l.all ba))):=by
 obtain ⟨k,c0,rfl,n,w,_⟩:=id c;have x:maxLen<=9223372036854775807:=by simp [maxLen]
 simp only [al] at c n ⊢;refine Uk func151 18 U3 fun w0=>Ua 1 [0] Z<|Ua 3 [6,7,8] Z<|G.loop (fun fr C' o p=>∃ (i:Nat),(i<=l.length/\(l.take i).all ba=true)/\fr=[(6,[],.slice k l.length c0),(7,[],.int .i64 l.length),(8,[],.int .i64 i)]/\o=[]/\p=l.length-i) (hn_ [6,7,8] Z) ⟨0,⟨Qm _,by simp⟩,Z,Z,Z⟩ (fun fr y z m q r=>?_);obtain ⟨i,⟨A,d⟩,rfl,rfl,rfl⟩:=r;refine Ua 1 [6,7,8,9] Z<|Ud (fun e=>?_) fun e=>?_
 ·have f:i<l.length:=by simpa using e
  obtain ⟨s,hs⟩:∃ s,l[i]?=some s:=⟨l[i],ak f⟩;refine Uf fun R a=>Ur c.m_ U10 om_ (by rw [Qn,hs];rfl:(l.map nO)[i]?=some (nO s)) fl_ fun B t=>Uc t U8<|C4 1 [4,6,7,8] a Z<|Ub 1 Z fun R a=>Uo (dW _ h.m_ s (j s (Qj hs))) U7<|C4 1 [5,6,7,8] a Z<|Ua 2 [5,6,7,8,15] Z<|Ud (fun b=>?_) fun b=>?_
  ·have g:ba s=false:=by
    rcases gJ (ba s) with ⟨h1,h2⟩ | ⟨h1,h2⟩
    ·rw [h1] at b;exact absurd b dc_
    exact h2
   refine Ua 2 [2] Z<|Ui U2<|⟨?_,Z⟩;rw [g,show l.all ba=false from SD.2 ⟨s,Qj hs,by rw [g];decide⟩]
  have u:ba s=true:=by
   rcases gJ (ba s) with ⟨h1,h2⟩ | ⟨h1,h2⟩
   ·exact h2
   rw [h1] at b;exact absurd b dc_
  refine Uf fun R a=>Ul _ U7<|C4 1 [6,7,8] a Z<|Un (m':=l.length-(i+1)) om_ q (hn_ [6,7,8] Z) ⟨i+1,⟨by omega,by rw [QO,hs,S2,d];simp [u]⟩,Z,Z,Z⟩
 have f:i=l.length:=by
  have:¬ i<l.length:=by simpa using e
  omega
 refine Ua 1 [2] Z<|Ui U2<|⟨?_,Z⟩;rw [f,Qv] at d;rw [d];rfl
theorem Of (a:s.length<=n)(b:t.length<=n):∀ x∈[s,t],x.length<=n:=by simp [a,b]
theorem IC {u:Str}(a:s.length<=n)(b:t.length<=n)(c:u.length<=n):∀ x∈[s,t,u],x.length<=n:=by simp [a,b,c]
theorem iw (C:Mem)(b:Tabs C)(s t:Str)(c:s.length<=999998)(d:t.length<=999998):Gives cx.P 99 [.agg ⟨[ah s,ah t]⟩] C (.int .i64 (qI (ba s && ba t))):=by
 refine Uk func99 9 U3 fun w0=>Uf fun R a=>Uw U6 fun f=>C4 1 [1] a Z<|Ub 1 Z fun R a=>Uj af U9<|Ue U6<|Uj af U9<|Ux [nO s,nO t] U12 fun g _ _ e=>Uo (rZ _ b.m_ _ [s,t] e.m_ (Of c d)) U7<|C4 1 [2] a Z<|Ui U2<|⟨?_,Z⟩;simp
theorem rA (C:Mem)(b:Tabs C)(s t u:Str)(c:s.length<=999998)(d:t.length<=999998)(e:u.length<=999998):Gives cx.P 162 [.agg ⟨[ah s,ah t,ah u]⟩] C (.int .i64 (qI (ba s && ba t && ba u))):=by
 refine Uk func162 11 U3 fun w0=>Uf fun R a=>Uw U6 fun g=>C4 1 [1] a Z<|Ub 1 Z fun R a=>Uj af U9<|Ue U6<|Uj af U9<|Ue U6<|Uj af U9<|Ux [nO s,nO t,nO u] U12 fun h _ _ f=>Uo (rZ _ b.m_ _ [s,t,u] f.m_ (IC c d e)) U7<|C4 1 [2] a Z<|Ui U2<|⟨?_,Z⟩;simp [Bool.and_assoc]
theorem kW (C:Mem)(e:Tabs C)(a b c:Pt)(k:Nat)(g:0<k)(l:k<=1000)(d:QP k a)(h:QP k b)(i:QP k c):Gives cx.P 152 [ptV a,ptV b,ptV c] C (ah (qtx (dF a b c))):=by
 have h1:=mB h.1 d.1;have h2:=mB i.2 d.2;have h3:=mB h.2 d.2;have h4:=mB i.1 d.1;exact Uk func152 32 U3 fun w0=>Uf fun R f=>Uw U6 fun m=>Uw U6 fun n=>Uw U6 fun o=>C4 1 [3,4,5] f Z<|Uy [0,1,2,3,4,5,6,7,8,9,10,11] [(4,1),(9,1),(10,1)] Z kr_ fun R j f=>Ue U6<|Uj ae U9<|Ue U6<|Uj ac U9<|Uz (fun _=>(ec _ e.m_ b.1 a.1 k g om_ h.1 d.1)) U9<|Ue U6<|Uj af U9<|Ue U6<|Uj ac U9<|Uz (fun _=>(ec _ e.m_ c.2 a.2 k g om_ i.2 d.2)) U9<|Uz (fun _=>(dS _ e.m_ (b.1-a.1) (c.2-a.2) (k+k+1) om_ om_ h1 h2)) U9<|C4 1 [3,4,5,7] f Z<|Uy [0,1,2,3,4,5,6,7,8,9,10,11,12,13] [(5,1),(10,1),(11,1),(12,1)] Z kr_ fun R j f=>Uh 2 Z<|Uj ae U9<|Ue U6<|Uj ac U9<|Uz (fun _=>(ec _ e.m_ b.2 a.2 k g om_ h.2 d.2)) U9<|Ue U6<|Uj af U9<|Ue U6<|Uj ac U9<|Uz (fun _=>(ec _ e.m_ c.1 a.1 k g om_ i.1 d.1)) U9<|Uz (fun _=>(dS _ e.m_ (b.2-a.2) (c.1-a.1) (k+k+1) om_ om_ h3 h4)) U9<|Uz (fun _=>(ec _ e.m_ ((b.1-a.1)*(c.2-a.2)) ((b.2-a.2)*(c.1-a.1)) (k+k+1+(k+k+1)) om_ om_ (qT h1 h2) (qT h3 h4))) U9<|C4 1 [6] f Z<|Ui U2<|⟨Z,Z⟩
theorem zq {a b c:Pt}(d:QP k a)(e:QP k b)(f:QP k c):QB (8*k+5) (dF a b c):=by
 have h:=mB (qT (mB e.1 d.1) (mB f.2 d.2)) (qT (mB e.2 d.2) (mB f.1 d.1));exact h.le om_
theorem oL (C:Mem)(h:Tabs C)(a b c:Pt)(k:Nat)(i:0<k)(j:k<=1000)(e:QP k a)(f:QP k b)(g:QP k c):Gives cx.P 100 [ptV a,ptV b,ptV c] C (.int .i64 (eL (dF a b c).num)):=by
 exact Uk func100 12 U3 fun w0=>Uf fun R d=>Uw U6 fun l=>Uw U6 fun m=>Uw U6 fun n=>C4 1 [3,4,5] d Z<|Uf fun R d=>Uj ac U9<|Uj ae U9<|Uj af U9<|Uo (kW _ h.m_ a b c k i j e f g) U7<|Us (fU _ (dF a b c) (by have:=bJ (zq e f g) om_;omega)) U7 fl_<|C4 1 [6] d Z<|Ui U2<|⟨Z,Z⟩
theorem tQ (C:Mem)(c:Tabs C)(q:Rat)(b:QB 22 q):Gives cx.P 274 [ah (qtx q)] C (.tuple #[ah (qtx q),.int .i64 0]):=by
 refine Uk func274 8 U3 fun w0=>Ua 2 [0] Z<|Ub 1 Z fun R d=>Us (dW _ c.m_ _ (by have:=bJ b dc_;omega)) U7 fl_<|C4 1 [0,6] d Z<|Ud (fun a=>?_) fun a=>?_
 ·exfalso;rw [xr b] at a;exact absurd a dc_
 refine Ua 3 [2,3] Z<|Up (G.dropAll (UD U3 ?_));exact ⟨Z,Z⟩
abbrev Tri:=Nat × Nat × Nat
def kE (t:Tri):List Value:=[.int .i64 (t.1:Nat),.int .i64 (t.2.1:Nat),.int .i64 (t.2.2:Nat)]
def NH (a b c:Pt):Value:=.agg ⟨gn a++gn b++gn c⟩
theorem DW (C:Mem)(k l:Value)(d:List Pt)(g:List Tri)(i:Nat)(t:Tri)(a b c:Pt)(e:Sl C 2 k (d.map gn))(h:Sl C 3 l (g.map kE))(m:g[i]?=some t)(n:d[t.1]?=some a)(o:d[t.2.1]?=some b)(p:d[t.2.2]?=some c) :
  Gives cx.P 156 [.agg ⟨[k,l]⟩,.int .i64 i] C (NH a b c):=by
 obtain ⟨x,y,rfl,q,z,_⟩:=id e;obtain ⟨A2,c2,rfl,r,A,_⟩:=id h;have B:maxLen<=9223372036854775807:=by simp [maxLen]
 simp only [al] at e h q r ⊢;have D:=(aE.1 m).1;have E:=(aE.1 n).1;have F:=(aE.1 o).1;have G:=(aE.1 p).1;refine Uk func156 30 U3 fun w0=>Uf fun R f=>Uw U6 fun H=>Uv U5 fun I=>Ug [1,2,4] f Z<|Ub 1 Z fun R f=>Uj ae U9<|Ue U6<|Ur h.m_ U10 om_ (by rw [Qn,m];rfl:(g.map kE)[i]?=some (kE t)) fl_ fun J s=>Uc s U8<|Uv U5 fun K=>Um (j:=0) U12<|Ug [2,4,5] f Z<|Uy [0,1,2,3,4,5,6,7,8,9,10,11,12,13,14,15,16,17,18,19] [] Z kr_ fun R L f=>Ue U6<|Uj ac U9<|UA (0) U9 ag U2<|Uj af U9<|Ur e.m_ U10 om_ (by rw [Qn,n];rfl:(d.map gn)[t.1]?=some (gn a)) fl_ fun M u=>Uc u U8<|Ue U6<|Uj ac U9<|UA (1) U9 ag U2<|Uj af U9<|Ur e.m_ U10 om_ (by rw [Qn,o];rfl:(d.map gn)[t.2.1]?=some (gn b)) fl_ fun N v=>Uc v U8<|Ue U6<|Uj ac U9<|UA (2) U9 ag U2<|Uj af U9<|Ur e.m_ U10 om_ (by rw [Qn,p];rfl:(d.map gn)[t.2.2]?=some (gn c)) fl_ fun O w=>Uc w U8<|Uu (gn a++gn b++gn c) U8<|Um (j:=1) U12<|Ug [4] f Z<|Up (UU af U4 ?_);exact ⟨Z,Z⟩
theorem GS (C:Mem)(d:Tabs C)(a b c p:Pt)(k:Nat)(e:0<k)(f:k<=1000)(j:QP k a)(l:QP k b)(m:QP k c)(g:QP k p) :
  Gives cx.P 225 [NH a b c,ptV p] C (.bool (decide (0<=dF a b p) && decide (0<=dF b c p) && decide (0<=dF c a p))):=by
 refine Uk func225 30 U3 fun w0=>Uf fun R i=>Uw U6 fun n=>Uw U6 fun o=>C4 1 [2,3] i Z<|Uf fun R i=>UA (0) U9 ag U2<|Uj ae U9<|UA (2) U9 ag U2<|Uj ae U9<|Uj af U9<|Uo (oL _ d.m_ a b p k e f j l g) U7<|Uh 2 Z<|UA (2) U9 ag U2<|Uj ae U9<|UA (4) U9 ag U2<|Uj ae U9<|Uj af U9<|UJ (fun _=>(oL _ d.m_ b c p k e f l m g)) U9<|Ue U6<|UB U8<|Ue U6<|UA (4) U9 ag U2<|Uj ae U9<|UA (0) U9 ag U2<|Uj ae U9<|Uj af U9<|UJ (fun _=>(oL _ d.m_ c a p k e f m j g)) U9<|Ue U6<|UB U8<|C4 1 [4] i Z<|Ui U2<|⟨?_,Z⟩;have hs:∀ q:Rat,decide (eL q.num ≥ 0)=decide (0<=q):=fun q=>by
  rw [Q4,<- Rat.num_nonneg];rcases el q.num with h | h | h <;> omega
 rw [<- hs,<- hs,<- hs]
open Go Go.Jog Go.RowKit Go.Shelf
attribute [local go_sem] Oper.semAt_some
def Mn (zs:Nat->Int)(k:Nat):Value:=.agg #[.int .i64 (zs k),.int .i64 (zs ((k+1) % 3))]
set_option maxRecDepth 100000 in
theorem IV (l Bs:Nat)(zs:Nat->Int)(J:Nat->World->Prop)
  (hD:∀ k W,J k W->J k W.drew)
  (hJ:∀ k W,J k W->∀ j,j<3->W.cell? ⟨Bs,j,none⟩=some (.int .i64 (zs j)))
  (hY:∀ k W,J k W->k<3->YieldAt Fence.wide 1 Tryz.prog l #[.int .i64 (k:Nat),Mn zs k] W fun e W'=>e=.returned (.bool true)/\J (k+1) W')
  (W:World) (h0:J 0 W) :
  CallsIn Fence.wide 2 Tryz.prog 265 #[.func (.yield l) #[] #[],.pointer (some ⟨Bs,0,none⟩)] W fun e W'=>(∃ v,e=.returned v)/\J 3 W':=by
 refine callsIn_of_wp func265 Z trivial ?_ Z;simp only [Tryz.ntmps265,Sm,QA,Qy,Nat.reduceAdd,Nat.reduceSub,TN,TO,List.push_toArray,List.append_toArray,Sa,R3]
 gi_wp2
 gi_loopw [4] (fun i wr=>∃ k:Nat,k<=3/\i=.int .i64 k/\J k wr) (fun i _=>(3-intOf i).toNat)
 case atStart=>exact ⟨0,by omega,rfl,h0⟩
 case round =>
  obtain ⟨k,hk,rfl,hJs⟩:=hrel;by_cases hlt:k<3
  ·have hJd:=hD k wr hJs;have hcd:=hJ k _ hJd;obtain ⟨fn,tmps,assign,body,hy,hR⟩:=hY k _ hJd hlt;rcases (by omega:k=0∨k=1∨k=2) with rfl | rfl | rfl
   ·have hc0:=hcd 0 om_;have hc1:=hcd 1 om_;have hy2:Sem.run Tryz.prog (Instr.yield l #[Value.int .i64 0,Value.agg #[.int .i64 (zs 0),.int .i64 (zs 1)]]) wr.drew=.ok (.round l fn tmps assign body) wr.drew:=hy;clear hy
    gi_wp2
    gi_region_with (refine hR.mono ?_;rintro e W3 ⟨rfl,hJ3⟩)
    all_goals
     gi_wp2
     go_roundw
     case rel=>exact ⟨1,by omega,rfl,hJ3⟩
     case measure=>simp [intOf]
   ·have hc0:=hcd 1 om_;have hc1:=hcd 2 om_;have hy2:Sem.run Tryz.prog (Instr.yield l #[Value.int .i64 1,Value.agg #[.int .i64 (zs 1),.int .i64 (zs 2)]]) wr.drew=.ok (.round l fn tmps assign body) wr.drew:=hy;clear hy
    gi_wp2
    gi_region_with (refine hR.mono ?_;rintro e W3 ⟨rfl,hJ3⟩)
    all_goals
     gi_wp2
     go_roundw
     case rel=>exact ⟨2,by omega,rfl,hJ3⟩
     case measure=>simp [intOf]
   have hc0:=hcd 2 om_;have hc1:=hcd 0 om_;have hy2:Sem.run Tryz.prog (Instr.yield l #[Value.int .i64 2,Value.agg #[.int .i64 (zs 2),.int .i64 (zs 0)]]) wr.drew=.ok (.round l fn tmps assign body) wr.drew:=hy;clear hy
   gi_wp2
   gi_region_with (refine hR.mono ?_;rintro e W3 ⟨rfl,hJ3⟩)
   all_goals
    gi_wp2
    go_roundw
    case rel=>exact ⟨3,by omega,rfl,hJ3⟩
    case measure=>simp [intOf]
  obtain rfl:k=3:=by omega
  gi_wp2
  go_end0
  exact ⟨⟨_,Z⟩,hJs⟩
def ER (t:Tri)(j:Nat):Int:=if j=0 then (t.1:Nat) else if j=1 then (t.2.1:Nat) else (t.2.2:Nat)
def vT (t:Tri):List (Value × Value):=(List.range 3).map fun k=>(.int .i64 (k:Nat),Mn (ER t) k)
theorem mN (t:Tri):(vT t).length=3:=rfl
theorem vR {t:Tri}(h:k<3):(vT t)[k]?=some (.int .i64 (k:Nat),Mn (ER t) k):=by
 simp [vT,h]
theorem CR (C:Mem)(b c:Nat)(t:Tri)(d:C b=some (.cells ⟨kE t⟩ c (0,0))) :
  PF Tryz.prog 265 #[.pointer (some ⟨b,0,none⟩)] C (vT t):=by
 intro l J W hC e f h0;refine IV l b (ER t) J e (fun k W a j h=>?_) (fun k W a g=>f k _ W a (vR g)) W h0;have h1:=hC k W a b _ d;rcases (by omega:j=0∨j=1∨j=2) with rfl | rfl | rfl <;> simp [World.cell?,h1,kE,ER]
theorem IW (C:Mem)(t:Tri):Pur cx.P 227 [.agg ⟨kE t⟩] C fun r C'=>∃ b,r=.func (.func 265) #[] #[.pointer (some ⟨b,0,none⟩)]/\C' b=some (.cells ⟨kE t⟩ 108 (0,0)):=by
 exact Uk func227 4 U3 fun w0=>Uf fun R a=>Uw U6 fun d=>C4 1 [1] a Z<|Ua 2 [2] Z<|G.freeze 0 Z fun e f c=>Ui U2<|⟨Z,_,Z,c⟩
def oX (t:Tri)(k:Nat):Int × Int:=(ER t k,ER t ((k+1) % 3))
abbrev N5:=List ((Int × Int) × Value)
def Er (m:N5)(i:Nat)(t:Tri):Nat->N5
 | 0=>m
 | k+1=>fR (Er m i t k) (oX t k) (.int .i64 (i:Nat))
def xW (tris:List Tri):Nat->N5
 | 0=>[]
 | n+1=>Er (xW tris n) n (tris.getD n (0,0,0)) 3
noncomputable def kI2:KeyP cx.P 183 (Int × Int):=P4 rfl rfl rfl kr_
theorem F4 (C:Mem)(q I:Value)(a:List Tri)(N:a≠[])(x:Sl C 3 I (a.map kE))(O:∀ i t k,a[i]?=some t->k<3->dp (Er (xW a i) i t k) (oX t k)=none) :
  Pur cx.P 153 [.agg ⟨[q,I]⟩] C fun u D=>∃ b,u=.tuple #[.map (some b),.bool true]/\D b=some (aQ qt (xW a a.length)):=by
 obtain ⟨A2,c2,rfl,Q,ab,_⟩:=id x;have ad:maxLen<=9223372036854775807:=by simp [maxLen]
 simp only [al] at x Q ⊢;refine Vu kr_ func153 Z 36 Z Z fun w0=>Uf fun R c=>Uw U6 fun r=>Uv U5 fun h=>Uv U5 fun n=>Ug [1,2,3] c Z<|Uf fun R c=>V5 kI2 Z Z Z Z fl_ fun f=>Uv U5 fun o=>Um (j:=0) U12<|Ug [1,2,3,4] c Z<|Ub 1 Z fun R c=>Uj (.tail _ aa) U9<|C4 2 [2,3,4,13,14,15] c Z<|G.perm (L':=[.obj o (.cells ⟨[.map (some f)]⟩ 242 (0,0)),.obj f (aQ qt []),.obj n (.cells ⟨[.bool false]⟩ 4 (0,0)),.obj h (.cells ⟨[.map none]⟩ 242 (0,0)),.obj r (.cells ⟨[q,.slice A2 a.length c2]⟩ 36 (0,0))]) (Qo _)<|WY (fun dd fr C' d S=>∃ (i:Nat)(g:List Nat),(i<=a.length/\g.length=i)/\dd=g.map ze/\fr=[(2,[],.pointer (some ⟨h,0,none⟩)),(3,[],.pointer (some ⟨n,0,none⟩)),(4,[],.pointer (some ⟨o,0,none⟩)),(13,[],.slice A2 a.length c2),(14,[],.int .i64 a.length),(15,[],.int .i64 i)]/\d=[.obj o (.cells ⟨[.map (some f)]⟩ 242 (0,0)),.obj f (aQ qt (xW a i)),.obj n (.cells ⟨[.bool false]⟩ 4 (0,0)),.obj h (.cells ⟨[.map none]⟩ 242 (0,0)),.obj r (.cells ⟨[q,.slice A2 a.length c2]⟩ 36 (0,0))]++g.map qF/\S=a.length-i) (hn_ [2,3,4,13,14,15] Z) ⟨0,[],⟨Qm _,Z⟩,Z,Z,Z,Z⟩ (fun dd fr ag ah m _ p=>?_);obtain ⟨i,g,⟨hi,y⟩,rfl,rfl,rfl,rfl⟩:=p;refine Ua 1 [2,3,4,13,14,15,16] Z<|Ud (fun A=>?_) fun A=>?_
 ·have B:i<a.length:=by simpa using A
  obtain ⟨t,E⟩:∃ t,a[i]?=some t:=⟨a[i],ak B⟩;refine Ub 1 Z fun R c=>Ur x.m_ U10 om_ (by rw [Qn,E];rfl:(a.map kE)[i]?=some (kE t)) fl_ fun ai T=>Uc T U8<|Uv U5 fun F=>Uv U5 fun J=>Um (j:=1) U12<|Um (j:=1) U12<|Ug [2,3,4,5,6,13,14,15] c Z<|Uf fun R c=>Uj af U9<|UM (IW _ t) U7 fun aj _ _ U=>Ug [2,3,4,5,13,14,15,21] c Z ?_;obtain ⟨V,rfl,W⟩:=U;refine W8 Z Z kr_ (CR _ V _ t W) (fun j d=>∃ (z:Unit),(j<=3)/\d=[.obj J (.cells ⟨kE t⟩ 108 (0,0)),.obj F (.cells ⟨[.int .i64 i]⟩ 3 (0,0)),.obj o (.cells ⟨[.map (some f)]⟩ 242 (0,0)),.obj f (aQ qt (Er (xW a i) i t j)),.obj n (.cells ⟨[.bool false]⟩ 4 (0,0)),.obj h (.cells ⟨[.map none]⟩ 242 (0,0)),.obj r (.cells ⟨[q,.slice A2 a.length c2]⟩ 36 (0,0))]++g.map qF) ⟨(),Qm _,Z⟩ Z (fun _ _=>rfl) (fun j d fr LA=>∃ (s:Nat),fr=[(2,[],.pointer (some ⟨h,0,none⟩)),(3,[],.pointer (some ⟨n,0,none⟩)),(4,[],.pointer (some ⟨o,0,none⟩)),(5,[],.pointer (some ⟨F,0,none⟩)),(8,[],.pointer (some ⟨s,0,none⟩))]/\LA=.obj s (.cells ⟨[.int .i64 (oX t j).1,.int .i64 (oX t j).2]⟩ 183 (0,0))::d) (fun l j u v d W1 p w=>?_) (fun l j u v d am LA W1 p w X=>?_) (fun K d p=>?_)
  ·obtain ⟨z,L,rfl⟩:=p;have H:j<3:=by have:=(aE.1 w).1;rwa [mN] at this
   rw [vR H] at w;cases w
   exact Uf fun R c=>Uv U5 fun s=>Um (j:=0) U12<|Ug [2,3,4,5,8] c Z<|W9 (hn_ [2,3,4,5,8] Z) ⟨s,Z,Z⟩
  ·obtain ⟨z,L,rfl⟩:=p;obtain ⟨s,rfl,rfl⟩:=X;have H:j<3:=by have:=(aE.1 w).1;rwa [mN] at this
   refine Uf fun R c=>Uj aa U9<|Uj af U9<|V6 kI2 (.tail _ aa) Z Z Z Z Z Z Z Z Z (congrArg (kO _ true) (O i t j E H)) Z Z<|C4 5 [2,3,4,5,8,10] c Z<|Ua 1 [2,3,4,5,8,30] Z<|Ud (fun M=>?_) fun M=>?_
   ·exact absurd M dc_
   refine Uf fun R c=>Uj aa U9<|Uj af U9<|Uj ac U9<|V2 kI2 (j:=4) Z Z Z Z Z Z Z Z Z Z<|Ve [] trivial (c _ _ _ Z ?_);exact UX 1 Z<|VT (R:=fun d=>∃ (z:Unit),((j+1)<=3)/\d=[.obj J (.cells ⟨kE t⟩ 108 (0,0)),.obj F (.cells ⟨[.int .i64 i]⟩ 3 (0,0)),.obj o (.cells ⟨[.map (some f)]⟩ 242 (0,0)),.obj f (aQ qt (Er (xW a i) i t (j+1))),.obj n (.cells ⟨[.bool false]⟩ 4 (0,0)),.obj h (.cells ⟨[.map none]⟩ 242 (0,0)),.obj r (.cells ⟨[q,.slice A2 a.length c2]⟩ 36 (0,0))]++g.map qF) (List.perm_middle (l₁:=[_,_,_])).symm ⟨(),om_,Z⟩
  obtain ⟨z,L,rfl⟩:=p;refine Uf fun R c=>Ul _ U7<|C4 1 [2,3,4,13,14,15] c Z<|UX 1 Z<|UX 1 Z<|G.perm (L':=[.obj o (.cells ⟨[.map (some f)]⟩ 242 (0,0)),.obj f (aQ qt (xW a (i+1))),.obj n (.cells ⟨[.bool false]⟩ 4 (0,0)),.obj h (.cells ⟨[.map none]⟩ 242 (0,0)),.obj r (.cells ⟨[q,.slice A2 a.length c2]⟩ 36 (0,0))]++(K::g).map qF) (by
   rw [show xW a (i+1)=Er (xW a i) i t (vT t).length by rw [mN,xW,ax,E];rfl];exact (List.perm_middle (l₁:=[_,_,_,_,_])).symm) ?_
  refine WX (m':=a.length-(i+1)) om_ mup (hn_ [2,3,4,13,14,15] Z) ⟨i+1,K::g,⟨by omega,by simp [y]⟩,Z,Z,Z,Z⟩
 have B:i=a.length:=by
  have:¬ i<a.length:=by simpa using A
  omega
 refine Uf fun R c=>Uj af U9<|Um (j:=3) U12<|Um (j:=3) U12<|Ug [2,3] c Z<|G.freeze 3 Z fun Cf an Y=>G.perm (L':=g.map qF++[_,_,_,_]) (QV (l₁:=[_,_,_,_]))<|Up (W0 (Lg ae af Z Z Z Z Z Z Z) ?_ ?_)
 ·exact ⟨Z,f,Z,by rw [<- B];exact Y⟩
 intro e;rw [e] at y;have:=Q3.2 N;simp at y;omega
def Lb (kd a b:Int)(h:Bool):Value:=.agg ⟨[.int .u8 kd,.int .i8 a,.int .i8 b,.bool h]⟩
def dU (h:Bool):Int:=if h then 2 else 1
def dB (a b:Int)(h:Bool)(x y by':Int):Pt:=(kT (x+a.tmod 8*by') (dU h*by'),kT (y+b.tmod 8*by') (dU h*by'))
theorem xX (a:Int):-8<a.tmod 8/\a.tmod 8<8:=by
 have h:(a.tmod 8).natAbs=a.natAbs % 8:=S4 a 8;omega
theorem Be (C:Mem)(g:Tabs C)(i a b:Int)(h:Bool)(x y n:Int)(v:0<n)(w:n<=4)(A:-128<=x/\x<=127)(B:-128<=y/\y<=127) :
  Gives cx.P 95 [Lb i a b h,.agg ⟨[.int .i8 x,.int .i8 y]⟩,.int .i64 n] C (ptV (dB a b h x y n)):=by
 have k:=xX a;have l:=xX b;have m:∀ z:Int, -8<z->z<8->-32<z*n/\z*n<32:=fun z h1 h2=>by
  rcases (by omega:n=1∨n=2∨n=3∨n=4) with e | e | e | e <;> subst e <;> omega
 have D:=m _ k.1 k.2;have E:=m _ l.1 l.2;have r:dU h=1∨dU h=2:=by cases h <;> simp [dU]
 have F:0<dU h*n/\dU h*n<=8:=by rcases r with e | e <;> rw [e] <;> omega
 refine Uk func95 53 U3 fun w0=>Uf fun R d=>Uw U6 fun o=>Uw U6 fun p=>Uv U5 fun q=>Ug [2,3,4,6] d Z<|Ua 1 [2,3,4,6,7] Z<|Ub 1 Z fun R d=>Uj ac U9<|Ug [2,3,4,6,7,13] d Z<|G.cut (fun fr C' s t=>(True)/\fr=[(2,[],.int .i64 n),(3,[],.pointer (some ⟨o,0,none⟩)),(4,[],.pointer (some ⟨p,0,none⟩)),(6,[],.pointer (some ⟨q,0,none⟩)),(7,[],.int .i64 (dU h))]/\s=[.obj q (.cells ⟨[ah [],ah []]⟩ 58 (0,0)),.obj p (.cells ⟨[.int .i8 x,.int .i8 y]⟩ 23 (0,0)),.obj o (.cells ⟨[.int .u8 i,.int .i8 a,.int .i8 b,.bool h]⟩ 25 (0,0))]) ?_ (fun fr _ H t _ u=>?_)
 ·refine Ud (fun f=>?_) fun f=>?_
  ·have h1:h=true:=f;subst h1;refine Ua 1 [2,3,4,6,7] Z<|Uq 0 (Mem.le.refl _) (hn_ [2,3,4,6,7] Z) ⟨trivial,Z,Z⟩
  have h1:h=false:=by simpa using f
  subst h1;refine Uq 0 (Mem.le.refl _) (hn_ [2,3,4,6,7] Z) ⟨trivial,Z,Z⟩
 obtain ⟨_,rfl,rfl⟩:=u;refine Uf fun R d=>UA (0) U9 ag U2<|Uj ae U9<|UQ (c:=x) U8 (wrap_i64 om_ om_) fl_<|Ue U6<|UA (1) U9 ag U2<|Uj ac U9<|Vh (a.tmod 8) U6 dc_ U3<|UQ (c:=a.tmod 8) U8 (wrap_i64 om_ om_) fl_<|Ue U6<|Ul _ U7<|Ul _ U7<|Uh 2 Z<|Ul _ U7<|Us (Ft _ g.m_ (x+a.tmod 8*n) (dU h*n) om_ om_ om_) U7 fl_<|C4 5 [2,3,4,6,7,8] d Z<|Uf fun R d=>UA (1) U9 ag U2<|Uj ae U9<|UQ (c:=y) U8 (wrap_i64 om_ om_) fl_<|Ue U6<|UA (2) U9 ag U2<|Uj ac U9<|Vh (b.tmod 8) U6 dc_ U3<|UQ (c:=b.tmod 8) U8 (wrap_i64 om_ om_) fl_<|Ue U6<|Ul _ U7<|Ul _ U7<|Uh 2 Z<|Ul _ U7<|Us (Ft _ g.m_ (y+b.tmod 8*n) (dU h*n) om_ om_ om_) U7 fl_<|C4 5 [6,8,10] d Z<|Ub 2 Z fun R d=>Uu (gn (dB a b h x y n)) U8<|Um (j:=0) U12<|Ug [6] d Z<|Up (UU af U4 ?_);exact ⟨Z,Z⟩
def gu (s p:Nat):Value:=.agg ⟨[.int .i64 (s:Nat),.int .i64 (p:Nat)]⟩
theorem lE (C:Mem)(s p:Nat)(h:s*p<=1000000000):Gives cx.P 65 [gu s p] C (.int .i64 ((s*p:Nat):Int)):=by
 exact Uk func65 8 U3 fun w0=>Uf fun R a=>Uw U6 fun b=>C4 1 [1] a Z<|Ub 1 Z fun R a=>Uj af U9<|Ue U6<|Uj af U9<|Ul _ U7<|C4 1 [2] a Z<|Ui U2<|⟨Z,Z⟩
theorem Oy (C:Mem)(s p:Nat)(i k:Int)(h:-1000000000000<=i*p/\i*p<=1000000000000)(b:-1000000000<=k/\k<=1000000000):Gives cx.P 190 [gu s p,.int .i64 i,.int .i64 k] C (.int .i64 (i*p+k)):=by
 exact Uk func190 13 U3 fun w0=>Uf fun R a=>Uw U6 fun c=>C4 1 [1,2,3] a Z<|Ub 2 Z fun R a=>Uj af U9<|Ul _ U7<|Ue U6<|Ul _ U7<|C4 1 [6] a Z<|Ui U2<|⟨Z,Z⟩
theorem JA {m:N5}{s:iI}:(dp m (s.2,s.1)).isSome=!ko (m.map (·.1)) s:=by
 unfold ko Oj;rw [Bool.not_not];cases h:dp m (s.2,s.1) with
 | none=>rw [cE] at h;simp [h]
 | some v =>
  have:=SF (f:=(·.1)) (fX h);simp only [Option.isSome_some];exact (QC this).symm
theorem Jw (C:Mem)(v1 v2:Value)(b:Nat)(m:N5)(o:C b=some (aQ qt m))(hn:(m.map (·.1)).Nodup)(Q:∀ s∈m.map (·.1),0<=s.1)(aF:m.length<=1000000) :
  Pur cx.P 154 [.agg ⟨[v1,v2]⟩,.map (some b)] C fun u D=>∃ v,u=.tuple #[v,.bool (decide (wz (m.map (·.1))≠[]))]/\Sl D 1 v ((wz (m.map (·.1))).map me):=by
 have aG:maxLen<=9223372036854775807:=by simp [maxLen]
 have S:=fun s:iI=>JA (m:=m) (s:=s);obtain ⟨c,K⟩:∃ c,m.map (·.1)=c:=⟨_,rfl⟩;rw [K] at hn Q ⊢;simp only [K] at S;have al:c.length=m.length:=by rw [<- K];simp
 refine Uk func154 93 U3 fun w0=>Uf fun R d=>Uw U6 fun b2=>C4 2 [1] d Z<|Uf fun R d=>D.makeMap keyZ Z Z Z Z fl_ fun n=>C4 1 [1,6] d Z<|Ua 1 [1,6,7] Z<|Ub 1 Z fun R d=>WJ kI2.enc (Mem.get o mup) Z Z Z Z Z Z Z fl_ fun F=>Ug [1,6,7,19] d Z<|UX 2 Z<|G.loop (fun fr C' x T=>∃ (seen:List Nat)(f:Int),(seen.Nodup/\(∀ j∈seen,j<c.length)/\((fp c seen).map (·.1)).Nodup/\lR (fp c seen) f)/\fr=[(1,[],.map (some b)),(6,[],.map (some n)),(7,[],.int .i64 f),(19,[],.pointer (some ⟨F,0,none⟩))]/\x=[.obj F (bA b m.length seen),.obj n (aQ keyZ.enc (ui (fp c seen)))]/\T=c.length-seen.length) (hn_ [1,6,7,19] Z) ⟨[], -1,⟨List.nodup_nil,by simp,by simp [fp],.inl ⟨Z,Z⟩⟩,Z,Z,Z⟩ (fun fr aH aI m _ U=>?_);obtain ⟨seen,f,⟨an,ao,L,M⟩,rfl,rfl,rfl⟩:=U;refine Uf fun R d=>Wp kI2.enc (q:=0) (Mem.get o mup) Z Z Z Z Z Z fl_ fun ap aK N aq=>C4 1 [1,6,7,19,21] d Z<|Ud (fun H=>?_) fun H=>?_
 ·obtain ⟨aL,j,hj,az,rfl⟩:ap=true/\∃ j,j<m.length/\j ∉ seen/\N=seen++[j]:=by
   rcases aq with ⟨h1,_⟩ | h1
   ·rw [h1] at H;cases H
   exact h1
  rw [<- al] at hj;obtain ⟨⟨s,bv⟩,hs⟩:∃ p,m[j]?=some p:=⟨m[j]'om_,ak om_⟩;have ar:c[j]?=some s:=by rw [<- K,Qn,hs];rfl
  have I:(seen++[j]).Nodup:=by
   rw [R6];exact ⟨an,by simp,fun a V b o e=>by rw [QF.1 o] at e;subst e;exact az V⟩
  have A:∀ i∈seen++[j],i<c.length:=fun i W=>by
   rcases Qz.1 W with h | h
   ·exact ao i h
   rw [QF.1 h];exact hj
  have aM:(seen++[j]).length<=c.length:=by
   have:=List.Nodup.length_le_of_subset I (l₂:=List.range c.length) (fun i W=>QE.2 (A i W));simpa using this
  have aN:(seen++[j]).length=seen.length+1:=by simp
  have g:=CT ar (seen:=seen);have aB:0<=s.1:=Q s (Qj ar);refine Uf fun R d=>WF kI2.enc (Mem.get o mup) hs af Z Z Z Z Z Z Z<|Ue U6<|Uv U5 fun b8=>Um (j:=0) U12<|Ug [1,6,7,8,19] d Z<|Ub 1 Z fun R d=>UA (1) U9 ag U2<|Uj af U9<|UA (0) U9 ag U2<|Uj af U9<|Uu [.int .i64 s.2,.int .i64 s.1] U8<|Wq kI2 (fun _=>(Mem.get o mup)) Z Z Z Z Z Z Z Z Z (pP _ (dp m (s.2,s.1))) Z Z<|C4 5 [1,6,7,8,10,19] d Z<|Ua 1 [1,6,7,8,19,34] Z<|Ud (fun X=>?_) fun X=>?_
  ·have Y:ko c s=false:=by
    have h:(dp m (s.2,s.1)).isSome=true:=X;rw [S] at h;simpa using h
   rw [Y] at g;simp only [Q9,Rx,QM] at g;refine UX 0 Z<|Ut (L':=[.obj F (bA b m.length (seen++[j])),.obj n (aQ keyZ.enc (ui (fp c (seen++[j]))))]) (by rw [g];rfl)<|Un (m':=c.length-(seen++[j]).length) om_ mup (hn_ [1,6,7,19] Z) ⟨seen++[j],f,⟨I,A,by rw [g];exact L,by rw [g];exact M⟩,Z,Z,Z⟩
  have Y:ko c s=true:=by
   have h:(dp m (s.2,s.1)).isSome=false:=X;rw [S] at h;simpa using h
  rw [Y] at g;simp only [Sc] at g;refine Ub 1 Z fun R d=>UA (0) U9 ag U2<|Uj af U9<|Vx keyZ ac Z Z Z Z Z Z Z Z kr_ Z (pP _ (dp (ui (fp c seen)) s.1)) Z Z<|C4 5 [1,6,7,8,12,19] d Z<|Ua 1 [1,6,7,8,19,42] Z<|Ud (fun aa=>?_) fun aa=>?_
  ·have z:(dp (ui (fp c seen)) s.1).isSome=true:=aa;rw [gW] at z;have ab:Et c=none:=by
    cases l:dp (fp c seen) s.1 with
    | none=>rw [l] at z;cases z
    | some q=>exact Dn (B:=fp c seen) (s:=s) (t:=(s.1,q)) (by rw [<- g];exact yk hn I A) (by rw [<- g];exact Fi A) (fX l) rfl
   have J:wz c=[]:=by unfold wz;rw [ab];rfl
   refine Ua 2 [4,5] Z<|Up (G.dropAll (UD U3 ?_));exact ⟨Z,.slice none 0 0,by rw [J];rfl,by rw [J];exact Sl.nil _ _⟩
  have z:(dp (ui (fp c seen)) s.1).isSome=false:=aa;have ad:dp (fp c seen) s.1=none:=by
   rw [gW] at z;cases l:dp (fp c seen) s.1 with
   | none=>rfl
   | some q=>rw [l] at z;cases z
  have au:((fp c (seen++[j])).map (·.1)).Nodup:=by
   rw [g,QZ,R6];refine ⟨L,by simp,fun a V b o e=>?_⟩;rw [List.map_singleton,QF] at o;subst o;subst e;exact (cE.1 ad) V
  have O:=pV M s aB;refine Ub 1 Z fun R d=>UA (0) U9 ag U2<|Uj af U9<|UA (1) U9 ag U2<|Uj af U9<|D.mapUpdate keyZ (j:=2) Z Z Z Z Z Z Z Z Z Z kr_<|Ug [1,6,7,8,19] d Z<|Ub 3 Z fun R d=>UA (0) U9 ag U2<|Uj ae U9<|Uh 2 Z<|UH U8<|Ug [1,6,7,8,19,55] d Z<|Ud (fun ah=>?_) fun ah=>?_
  ·have ai:f<0∨s.1<f:=by simpa using ah
   rw [aV ai] at O;refine Uf fun R d=>UA (0) U9 ag U2<|Uj ae U9<|C4 1 [1,6,7,19] d Z<|UX 1 Z<|G.perm (L':=[.obj F (bA b m.length (seen++[j])),.obj n (aQ keyZ.enc (ui (fp c (seen++[j]))))]) (by
    rw [g,<- Bo ad];exact List.Perm.swap _ _ _) ?_
   refine Un (m':=c.length-(seen++[j]).length) om_ mup (hn_ [1,6,7,19] Z) ⟨seen++[j],s.1,⟨I,A,au,by rw [g];exact O⟩,Z,Z,Z⟩
  have ai:¬ (f<0∨s.1<f):=by simpa using ah
  rw [aA ai] at O;refine UX 1 Z<|G.perm (L':=[.obj F (bA b m.length (seen++[j])),.obj n (aQ keyZ.enc (ui (fp c (seen++[j]))))]) (by
   rw [g,<- Bo ad];exact List.Perm.swap _ _ _) ?_
  refine Un (m':=c.length-(seen++[j]).length) om_ mup (hn_ [1,6,7,19] Z) ⟨seen++[j],f,⟨I,A,au,by rw [g];exact O⟩,Z,Z,Z⟩
 obtain ⟨aO,rfl,av⟩:ap=false/\N=seen/\∀ j,j<m.length->j∈seen:=by
  rcases aq with h1 | ⟨h1,_⟩
  ·exact h1
  rw [h1] at H;cases H
 rw [<- al] at av;have hp:(fp c N).Perm (c.filter (ko c)):=(vX an ao av).filter _;obtain ⟨B,g⟩:∃ B,fp c N=B:=⟨_,rfl⟩;rw [g] at hp L M;have hO:=Jx hp L Q M;have aP:B.length<=c.length:=by rw [hp.length_eq];exact RL _ _
 refine Ua 1 [6,7,13] Z<|Ua 2 [6,7,13,14] Z<|UX 0 Z<|G.nilArr 3 1<|Ut (L':=[.arr (.slice none 0 0) 3 1 0 [],.obj n (aQ keyZ.enc (ui B))]) (by rw [g];rfl)<|G.loop (fun fr C' x T=>∃ (out:List Int)(w:Value)(p:Int),(out.length<=B.length/\iJ B f (B.length-out.length) p out=Et c)/\fr=[(6,[],.map (some n)),(7,[],.int .i64 f),(13,[],w),(14,[],.int .i64 p)]/\x=[.arr w 3 1 out.length (out.map (Value.int .i64)),.obj n (aQ keyZ.enc (ui B))]/\T=B.length-out.length) (hn_ [6,7,13,14] Z) ⟨[],_,f,⟨Qm _,hO.symm⟩,Z,Z,Z⟩ (fun fr aR aS m _ U=>?_);obtain ⟨out,w,p,⟨aT,E⟩,rfl,rfl,rfl⟩:=U;refine WZ af (fun Aw cw hw aU aW aX=>?_);subst hw;refine UC [(3,1)] Z fun R d=>Uh 3 Z<|V9 keyZ.enc ae Z Z Z Z Z Z Z Z Z<|C4 1 [6,7,13,14,63] d Z<|Ud (fun aj=>?_) fun aj=>?_
 ·have aY:out.length<B.length:=by
   simp only [Qs,Bp] at aj;omega
  obtain ⟨r,hr⟩:∃ r,B.length-out.length=r+1:=⟨B.length-out.length-1,by omega⟩;rw [hr] at E;refine Ub 2 Z fun R d=>Vx keyZ ae Z Z Z Z Z Z Z Z kr_ Z (pP _ (dp (ui B) p)) Z Z<|C4 5 [6,7,13,14,16] d Z<|Ub 10 Z fun R d=>UB U8<|UH U8<|Ug [6,7,13,14,84] d Z<|Ud (fun k=>?_) fun k=>?_
  ·have ab:Et c=none:=by
    rw [<- E];refine CG ?_;rw [gW] at k;cases l:dp B p with
    | none=>exact .inl rfl
    | some q =>
     rw [l] at k;simp only [RZ,Option.isSome_some,Bool.not_true,Bool.false_or,Qu,RR,Qs] at k;exact .inr ⟨k.1,fun e=>by rw [e] at k;simp at k⟩
   have J:wz c=[]:=by unfold wz;rw [ab];rfl
   refine Ua 2 [4,5] Z<|Up (G.dropAll (UD U3 ?_));exact ⟨Z,.slice none 0 0,by rw [J];rfl,by rw [J];exact Sl.nil _ _⟩
  obtain ⟨q,l⟩:∃ q,dp B p=some q:=by
   rw [gW] at k;cases l:dp B p with
   | some q=>exact ⟨q,rfl⟩
   | none=>rw [l] at k;simp at k
  have aC:¬ (p=f/\out≠[]):=by
   rintro ⟨e1,e2⟩;rw [gW,l] at k;have:=Q3.2 e2;simp [e1] at k;exact e2 k
  rw [CF l aC] at E;have aZ:(out++[p]).length=out.length+1:=by simp
  refine Ub 2 Z fun R d=>Ux [me p] U12 fun a0 _ _ aD=>D.append (j:=0) U11 aD Z aw (by simp only [aJ];omega) fl_ fun ax=>C4 1 [6,7,13,14] d Z<|Ub 2 Z fun R d=>Vx keyZ ae Z Z Z Z Z Z Z Z kr_ Z (by rw [gW,l];rfl:kO _ false (dp (ui B) p)=.int .i64 q) Z Z<|C4 1 [6,7,13,14] d Z<|Ut (L':=[.arr ax 3 1 (out++[p]).length ((out++[p]).map (Value.int .i64)),.obj n (aQ keyZ.enc (ui B))]) (by simp [me])<|Un (m':=B.length-(out++[p]).length) om_ mup (hn_ [6,7,13,14] Z) ⟨out++[p],ax,q,⟨by omega,by rw [show B.length-(out++[p]).length=r by omega];exact E⟩,Z,Z,Z⟩
 have a1:B.length<=out.length:=by
  simp only [QH,Bp] at aj;omega
 have ay:wz c=out:=by
  rw [show B.length-out.length=0 by omega] at E;unfold wz;rw [<- E];rfl
 refine Ua 6 [4,5] Z<|Ut (L':=[.arr (.slice Aw out.length cw) 3 1 out.length (out.map me).flatten,.obj n (aQ keyZ.enc (ui B))]) (by rw [show (out.map me).flatten=out.map (Value.int .i64) from ep _ _])<|G.freezeArr 0 (out.map me) rfl rfl (by intro r hr;obtain ⟨y,_,rfl⟩:=Qq.1 hr;rfl) am fun Cg hg aE=>Up (G.dropAll (UD U3 ?_));refine ⟨Z,_, ?_,by rw [ay];exact aE⟩;rw [ay];have:decide ((out.length:Int) > 0)=decide (out≠[]):=by
  rw [Q4,<- Q3];omega
 rw [<- this]
end Go.Proofs.YthnpijdjlddpmaaGreatDoor
