/- Laws that the proofs of this seat share, part 11. -/
import Derived.Test.YthnpijdjlddpmaaGreatDoorG10
import Derived.Test.YthnpijdjlddpmaaGreatDoorShelf
import Derived.Test.YthnpijdjlddpmaaGreatDoorCards
import Derived.Test.YthnpijdjlddpmaaGreatDoorTie
import Derived.Stop.LaidErr
import Derived.Lib.LaidTab
import Derived.Carry
import Derived.Deep.Strs
import Derived.Laws.IdiomArrays
set_option maxHeartbeats 4000000
namespace Go.Proofs.YthnpijdjlddpmaaGreatDoor
open Go.Proofs.Tryz
open Go Go.Jog
set_option maxRecDepth 100000
variable {i:Nat}{n:Str}{q:Rat}{s u x y:Str}
structure Sgt where
 kind:Nat
 px:Int
 py:Int
 u0:Nat
 u1:Nat
 depth:Nat
 n0:Int
 n1:Int
 n2:Int
def Of (s:Sgt):List Value:=[.int .u8 s.kind,.int .i8 s.px,.int .i8 s.py,.int .u8 s.u0,.int .u8 s.u1,.int .u8 s.depth,.int .i8 s.n0,.int .i8 s.n1,.int .i8 s.n2]
structure SgtR (s:Sgt):Prop where
 kind:s.kind<256
 px:-128<=s.px/\s.px<=127
 py:-128<=s.py/\s.py<=127
 u0:s.u0<256
 u1:s.u1<256
 depth:s.depth<256
 n0:-128<=s.n0/\s.n0<=127
 n1:-128<=s.n1/\s.n1<=127
 n2:-128<=s.n2/\s.n2<=127
structure Sht where
 kd:Nat
 a:Int
 b:Int
 h:Bool
def MW (S:Sht)(H:Hts)(sv:Value):List Value:=[.int .u8 S.kd,.int .i8 S.a,.int .i8 S.b,.bool S.h,.int .i8 H.h0,.int .i8 H.h1,.int .i8 H.h2,.int .i8 H.h3,.int .i8 H.h4,.int .i8 H.h5,.bool H.half,sv]
def rC (i:Nat):Str:=[UInt8.ofNat (65+i)]
def lK (S:Sht)(s:Sgt):Pt :=
 if lS (cE (S.kd % 8) S.a S.b S.h) (shT (S.kd % 8)) (dF S.a S.b S.h s.px s.py 2)≠[] then dF S.a S.b S.h s.px s.py 2
 else (cE (S.kd % 8) S.a S.b S.h).getD (s.depth % (cE (S.kd % 8) S.a S.b S.h).length) (0,0)
def fa (z:Int):Int:=if z.tmod 5=0 then 1 else z.tmod 5
def loU (s:Sgt):Nat:=if s.u0 % 3=s.u1 % 3 then 0 else s.u0 % 3
def upU (s:Sgt):Nat:=if s.u0 % 3=s.u1 % 3 then 1+s.u1 % 3 % 2 else s.u1 % 3
def fJ (S:Sht)(s:Sgt)(i:Nat):Obs :=
 if s.kind % 3=0 then ⟨1,[111,UInt8.ofNat (49+i)],qtx (lK S s).1,qtx (lK S s).2,[],rC (s.u1 % 3),[],[],[],[]⟩
 else if s.kind % 3=1 then ⟨2,[111,UInt8.ofNat (49+i)],qtx (lK S s).1,qtx (lK S s).2,qtx (lf (s.depth % 12:Nat) 2),rC (max (loU s) (upU s)),rC (min (loU s) (upU s)),[],[],[]⟩
 else ⟨3,[111,UInt8.ofNat (49+i)],qtx (lK S s).1,qtx (lK S s).2,[],rC (max (loU s) (upU s)),rC (min (loU s) (upU s)),qtx ((s.n0.tmod 5:Int):Rat),qtx ((s.n1.tmod 5:Int):Rat),qtx ((fa s.n2:Int):Rat)⟩
theorem wrap_u8 {n:Int}(a:0<=n)(b:n<256):IntKind.u8.wrap n=n:=by
 simp only [IntKind.wrap,IntKind.bits,IntKind.signed];simp;omega
theorem mU (i:Nat)(a:i<6):([[.int .u8 111],[.int .u8 (49+(i:Int))]]:List (List Value))=(([111,UInt8.ofNat (49+i)]:Str).map fun b=>[.int .u8 b.toNat]):=by
 rcases (by omega:i=0∨i=1∨i=2∨i=3∨i=4∨i=5) with rfl | rfl | rfl | rfl | rfl | rfl <;> rfl
theorem BS (j:Nat)(a:j<3):(([ai [65],ai [66],ai [67]]:List Value).drop j).take 1=[ai (rC j)]:=by
 rcases (by omega:j=0∨j=1∨j=2) with rfl | rfl | rfl <;> rfl
theorem yu:∀ m:Nat,0<(shP m).length
 | 0=>by decide
 | 1=>by decide
 | 2=>by decide
 | 3=>by decide
 | 4=>by decide
 | 5=>by decide
 | 6=>by decide
 | _+7=>by
  show 0<([(0,0),(6,0),(0,6),(2,2)]:List (Int × Int)).length;decide
theorem nL (a:Int):-5<a.tmod 5/\a.tmod 5<5:=by
 have h:(a.tmod 5).natAbs=a.natAbs % 5:=Tr a 5;omega
theorem No (s:Sgt):loU s<=2:=by unfold loU;split <;> omega
theorem Mj (s:Sgt):upU s<=2:=by unfold upU;split <;> omega
theorem FP {p:Pt}(h:QP 1 p):QP 23 p/\PtR p:=⟨⟨h.1.le dc_,h.2.le dc_⟩,bQ (h.1.le dc_),bQ (h.2.le dc_)⟩
theorem rA (C:Mem)(r:Tabs C)(S:Sht)(s:Sgt)(H:Hts)(sv:Value)(i:Nat)(T:i<6)(hk:S.kd<256)(q:SgtR s)(hG:Good (cE (S.kd % 8) S.a S.b S.h) (shT (S.kd % 8))) :
  Pur cx.P 63 [.agg ⟨MW S H sv⟩,.agg ⟨Of s⟩,.int .i64 i] C fun u _D=>u=.agg ⟨Ik (fJ S s i)⟩:=by
 have aE:=q.kind;have aF:=q.u0;have aG:=q.u1;have aH:=q.depth;have aI:=nL s.n0;have aL:=nL s.n1;have aM:=nL s.n2;have am:=No s;have an:=Mj s;have ao:QP 1 (dF S.a S.b S.h s.px s.py 2):=Bt dc_ dc_ q.px q.py;obtain ⟨ap,aq⟩:=FP ao;obtain ⟨lo,v⟩:∃ n,loU s=n:=⟨_,rfl⟩;obtain ⟨up,w⟩:∃ n,upU s=n:=⟨_,rfl⟩;obtain ⟨p,x⟩:∃ p,lK S s=p:=⟨_,rfl⟩;obtain ⟨t,E⟩:∃ z,fa s.n2=z:=⟨_,rfl⟩;have aN:-5<t/\t<5:=by rw [<- E];unfold fa;split <;> omega
 rw [v] at am;rw [w] at an;have ae:0<(cE (S.kd % 8) S.a S.b S.h).length:=by rw [cE,aw];exact yu _
 have aO:=lJ (S.kd % 8) S.a S.b S.h;refine Uv func63 129 U3 fun w0=>Uq fun R d=>UF U6 fun b3=>UF U6 fun y=>UH U5 fun g=>Ur [2,3,4,6] d Z<|G.freeze 2 Z fun _ _ ah=>G.freeze 1 Z fun _ _ k=>Um 1 Z fun R d=>Un (bkT ah 4) U8<|UV (wS _ r.m_ S.kd S.a S.b S.h hk) U7 (fun aP _ _ U=>?_);obtain ⟨v1,v2,rfl,V,ar⟩:=id U.ex;obtain ⟨A1,c1,rfl,au,aQ,_⟩:=id V;obtain ⟨A2,c2,rfl,_,_,_⟩:=id ar;simp only [aw] at V au U ⊢;refine UH U5 fun b7=>Ux (j:=0) U12<|Ur [2,3,4,6,7] d Z<|G.freeze 0 Z fun _ _ W=>G.cut (fun fr C' l m=>∃ (f:Nat),(True)/\fr=[(4,[],.pointer (some ⟨y,0,none⟩)),(6,[],.pointer (some ⟨g,0,none⟩)),(7,[],.pointer (some ⟨b7,0,none⟩)),(8,[],.pointer (some ⟨f,0,none⟩))]/\l=[.obj f (.cells ⟨[.int .i64 (1+((s.kind % 3:Nat):Int)),ai [111,UInt8.ofNat (49+i)],ai (qtx (dF S.a S.b S.h s.px s.py 2).1),ai (qtx (dF S.a S.b S.h s.px s.py 2).2),ai [],ai [],ai [],ai [],ai [],ai []]⟩ 62 (0,0)),.obj g (.cells ⟨[.int .i64 0,ai [],ai [],ai [],ai [],ai [],ai [],ai [],ai [],ai []]⟩ 62 (0,0))]) ?_ (fun fr aR aS m aT o=>?_)
 ·refine Vg (.cut [0,1,2,3,4,5,6,7,10,11,12,13,14] (.alt 8 (.cut [] (.alt 9 (.fin [15,16,17]) (.alt 16 (.fin [9,15,17]) .stop))) (.alt 16 (.fin [8,9,15,17]) .stop))) [(14,1),(3,0),(6,0)] Z Z kr_ fun R F d I=>Up U6<|Un (bkT k 1) U8<|Vk (s.kind) (3) U6 om_ U2<|Vs (c:=((s.kind % 3:Nat):Int)) U8 (wrap_i64 om_ om_) U2<|Uw _ U7<|Up U6<|Vs (c:=(i:Int)) U8 (wrap_u8 om_ om_) U2<|D.int ((49+(i:Int))) U4 (wrap_u8 om_ om_) U2<|Up U6<|Un (bkT ah 4) U8<|Up U6<|Un (bkT k 2) U8<|UK (fun _=>(Bu _ r.m_ S.kd S.a S.b S.h s.px s.py 2 dc_ dc_ q.px q.py)) U9<|UY I Z ⟨?_, ?_,trivial⟩
  ·refine UI [[.int .u8 111],[.int .u8 (49+(i:Int))]] U12 fun av ax _ J=>UY I Z ⟨?_, ?_,trivial⟩
   ·exact VQ (show Sl _ 1 _ (([111,UInt8.ofNat (49+i)]:Str).map fun b=>[.int .u8 b.toNat]) from by rw [<- mU i T];exact J.mono mup) U11 fl_<|UG [.int .i64 (1+((s.kind % 3:Nat):Int)),ai [111,UInt8.ofNat (49+i)],ai (qtx (dF S.a S.b S.h s.px s.py 2).1),ai (qtx (dF S.a S.b S.h s.px s.py 2).2),ai [],ai [],ai [],ai [],ai [],ai []] U8<|UH U5 fun f=>Ux (j:=0) U12<|Ur [4,6,7,8] d Z<|UB 0 mup (hn_ [4,6,7,8] Z) ⟨f,trivial,Z,Z⟩
   exact UH U5 fun f=>VQ (show Sl _ 1 _ (([111,UInt8.ofNat (49+i)]:Str).map fun b=>[.int .u8 b.toNat]) from by rw [<- mU i T];exact J.mono mup) U11 fl_<|UG [.int .i64 (1+((s.kind % 3:Nat):Int)),ai [111,UInt8.ofNat (49+i)],ai (qtx (dF S.a S.b S.h s.px s.py 2).1),ai (qtx (dF S.a S.b S.h s.px s.py 2).2),ai [],ai [],ai [],ai [],ai [],ai []] U8<|Ux (j:=0) U12<|Ur [4,6,7,8] d Z<|UB 0 mup (hn_ [4,6,7,8] Z) ⟨f,trivial,Z,Z⟩
  exact UH U5 fun f=>UI [[.int .u8 111],[.int .u8 (49+(i:Int))]] U12 fun av ax _ J=>VQ (show Sl _ 1 _ (([111,UInt8.ofNat (49+i)]:Str).map fun b=>[.int .u8 b.toNat]) from by rw [<- mU i T];exact J.mono mup) U11 fl_<|UG [.int .i64 (1+((s.kind % 3:Nat):Int)),ai [111,UInt8.ofNat (49+i)],ai (qtx (dF S.a S.b S.h s.px s.py 2).1),ai (qtx (dF S.a S.b S.h s.px s.py 2).2),ai [],ai [],ai [],ai [],ai [],ai []] U8<|Ux (j:=0) U12<|Ur [4,6,7,8] d Z<|UB 0 mup (hn_ [4,6,7,8] Z) ⟨f,trivial,Z,Z⟩
 obtain ⟨f,_,rfl,rfl⟩:=o;refine Uq fun R d=>Un (bkT W 2) U8<|Up U6<|Uu af U9<|Uy (qJ _ r.m_ _ _ _ (dF S.a S.b S.h s.px s.py 2) U.m_ hG ap aq) U7<|C4 5 [4,6,7,8,9] d Z<|Ul 2 [4,6,7,8,42] Z<|G.cut (fun fr C' l m=>(True)/\fr=[(4,[],.pointer (some ⟨y,0,none⟩)),(6,[],.pointer (some ⟨g,0,none⟩)),(8,[],.pointer (some ⟨f,0,none⟩))]/\l=[.obj f (.cells ⟨[.int .i64 (1+((s.kind % 3:Nat):Int)),ai [111,UInt8.ofNat (49+i)],ai (qtx p.1),ai (qtx p.2),ai [],ai [],ai [],ai [],ai [],ai []]⟩ 62 (0,0)),.obj g (.cells ⟨[.int .i64 0,ai [],ai [],ai [],ai [],ai [],ai [],ai [],ai [],ai []]⟩ 62 (0,0))]) ?_ (fun fr _ aU m _ o=>?_)
 ·refine Uo (fun X=>?_) fun X=>?_
  ·have ay:lS (cE (S.kd % 8) S.a S.b S.h) (shT (S.kd % 8)) (dF S.a S.b S.h s.px s.py 2)=[]:=by simpa using X
   have ak:s.depth % (cE (S.kd % 8) S.a S.b S.h).length<(cE (S.kd % 8) S.a S.b S.h).length:=Rs _ ae;have Y:p=(cE (S.kd % 8) S.a S.b S.h)[s.depth % (cE (S.kd % 8) S.a S.b S.h).length]:=by
    rw [<- x,lK,aB (by rw [ay];simp),al,aj ak,R0]
   have hp:(cE (S.kd % 8) S.a S.b S.h)[s.depth % (cE (S.kd % 8) S.a S.b S.h).length]?=some p:=by rw [Y];exact aj ak
   refine UJ [0,1,2,3,4,5,6,7,8,9,10,11,12] [(4,0)] Z kr_ fun R F d=>Up U6<|Un (bkT W 1) U8<|Up U6<|Un (bkT k 1) U8<|Vs (c:=(s.depth:Int)) U8 (wrap_i64 om_ om_) U2<|Up U6<|Un (bkT W 1) U8<|Up U6<|Vk (s.depth) ((cE (S.kd % 8) S.a S.b S.h).length) U6 ae U2<|UD V.m_ U10 om_ (ci hp) fl_ fun aV az=>Un az U8<|Up U6<|Ux (j:=0) U12<|Ur [4,6,8] d Z<|UB 0 (Mem.le.refl _) (hn_ [4,6,8] Z) ⟨trivial,Z,Z⟩
  have aA:lS (cE (S.kd % 8) S.a S.b S.h) (shT (S.kd % 8)) (dF S.a S.b S.h s.px s.py 2)≠[]:=by simpa using X
  have Y:p=dF S.a S.b S.h s.px s.py 2:=by rw [<- x,lK,aJ aA]
  subst Y;refine UB 0 (Mem.le.refl _) (hn_ [4,6,8] Z) ⟨trivial,Z,Z⟩
 obtain ⟨_,rfl,rfl⟩:=o;refine Uq fun R d=>UG ([ai [65],ai [66],ai [67]]) U8<|UH U5 fun aC=>Ux (j:=0) U12<|Ur [4,6,8,11] d Z<|G.freeze 0 Z fun _ _ K=>UJ [0,1,2,3,4,5,6,7,8,9,10,11] [(4,0),(9,0)] Z kr_ fun R F d=>Up U6<|UL (3) U9 ag U2<|Un (bkT k 1) U8<|Vk (s.u0) (3) U6 om_ U2<|Vs (c:=((s.u0 % 3:Nat):Int)) U8 (wrap_i64 om_ om_) U2<|Up U6<|UL (4) U9 ag U2<|Un (bkT k 1) U8<|Vk (s.u1) (3) U6 om_ U2<|Vs (c:=((s.u1 % 3:Nat):Int)) U8 (wrap_i64 om_ om_) U2<|C4 2 [4,6,8,11,12,13] d Z<|Um 1 Z fun R d=>Uu af U9<|C4 1 [4,6,8,11,12,13,68] d Z<|Uo (fun L=>?_) fun L=>?_
 ·have A:s.kind % 3=0:=by
   have:=dU L;omega
  refine Um 1 Z fun R d=>UL ((s.u1 % 3)) U9 (fun _=>⟨by omega,by omega,(by show s.u1 % 3=0+(s.u1 % 3)*1;omega)⟩) U2<|VD (PtrTo.blockT (Mem.get K mup) (s.u1 % 3) 1) U6 (show bY _ ((([ai [65],ai [66],ai [67]]:List Value).drop (s.u1 % 3)).take 1)=some (ai (rC (s.u1 % 3))) from by rw [BS _ om_];rfl) Z<|Up U6<|Ux (j:=0) U12<|Ur [6,8] d Z<|Uq fun R d=>Uu af U9<|Ux (j:=1) U12<|Ur [6] d Z<|Uz (Vi af U4 ?_);exact ⟨Z,by unfold fJ;rw [aJ A,x,A];rfl⟩
 have A:¬ s.kind % 3=0:=by
  intro e;rw [e] at L;exact absurd L dc_
 refine Ul 3 [4,6,8,11,12,13,76] Z<|G.cut (fun fr C' l m=>(True)/\fr=[(4,[],.pointer (some ⟨y,0,none⟩)),(6,[],.pointer (some ⟨g,0,none⟩)),(8,[],.pointer (some ⟨f,0,none⟩)),(11,[],.pointer (some ⟨aC,0,none⟩)),(12,[],.int .i64 (lo:Nat)),(13,[],.int .i64 (up:Nat))]/\l=[.obj f (.cells ⟨[.int .i64 (1+((s.kind % 3:Nat):Int)),ai [111,UInt8.ofNat (49+i)],ai (qtx p.1),ai (qtx p.2),ai [],ai [],ai [],ai [],ai [],ai []]⟩ 62 (0,0)),.obj g (.cells ⟨[.int .i64 0,ai [],ai [],ai [],ai [],ai [],ai [],ai [],ai [],ai []]⟩ 62 (0,0))]) ?_ (fun fr _ aW m _ o=>?_)
 ·refine Uo (fun M=>?_) fun M=>?_
  ·have B:s.u0 % 3=s.u1 % 3:=by
    have:=dU M;omega
   have aa:lo=0:=by rw [<- v,loU,aJ B]
   have ab:up=1+s.u1 % 3 % 2:=by rw [<- w,upU,aJ B]
   subst aa;subst ab;refine Um 1 Z fun R d=>Vk ((s.u1 % 3)) (2) U6 om_ U2<|Uw _ U7<|C4 2 [4,6,8,11,12,13] d Z<|UB 0 (Mem.le.refl _) (hn_ [4,6,8,11,12,13] Z) ⟨trivial,Z,Z⟩
  have B:¬ s.u0 % 3=s.u1 % 3:=by
   intro e;rw [e,beq_self_eq_true] at M;exact absurd M dc_
  have aa:lo=s.u0 % 3:=by rw [<- v,loU,aB B]
  have ab:up=s.u1 % 3:=by rw [<- w,upU,aB B]
  subst aa;subst ab;refine UB 0 (Mem.le.refl _) (hn_ [4,6,8,11,12,13] Z) ⟨trivial,Z,Z⟩
 obtain ⟨_,rfl,rfl⟩:=o;refine G.cut (fun fr C' l m=>(True)/\fr=[(4,[],.pointer (some ⟨y,0,none⟩)),(6,[],.pointer (some ⟨g,0,none⟩)),(8,[],.pointer (some ⟨f,0,none⟩))]/\l=[.obj f (.cells ⟨[.int .i64 (1+((s.kind % 3:Nat):Int)),ai [111,UInt8.ofNat (49+i)],ai (qtx p.1),ai (qtx p.2),ai [],ai (rC (max lo up)),ai (rC (min lo up)),ai [],ai [],ai []]⟩ 62 (0,0)),.obj g (.cells ⟨[.int .i64 0,ai [],ai [],ai [],ai [],ai [],ai [],ai [],ai [],ai []]⟩ 62 (0,0))]) ?_ (fun fr aX aY m aZ o=>?_)
 ·refine Vg (.cut [0,1,2,3,4,5,6,7,8,10] (.alt 9 (.fin [11,12,13]) (.alt 11 (.fin [9,12,13]) .stop))) [] Z Z kr_ fun R F d I=>Us 2 Z<|D.max (((max lo up:Nat):Int)) U6 om_ U2<|UL ((max lo up)) U9 (fun _=>⟨by omega,by omega,(by show max lo up=0+(max lo up)*1;omega)⟩) U2<|VD (PtrTo.blockT (Mem.get K mup) (max lo up) 1) U6 (show bY _ ((([ai [65],ai [66],ai [67]]:List Value).drop (max lo up)).take 1)=some (ai (rC (max lo up))) from by rw [BS _ om_];rfl) Z<|Us 2 Z<|D.min (((min lo up:Nat):Int)) Z Z Z Z Z Z om_ Z Z<|UL ((min lo up)) U9 (fun _=>⟨by omega,by omega,(by show min lo up=0+(min lo up)*1;omega)⟩) U2<|Up U6<|UY I Z ⟨?_, ?_,trivial⟩
  ·exact VD (PtrTo.blockT (Mem.get K mup) (min lo up) 1) U6 (show bY _ ((([ai [65],ai [66],ai [67]]:List Value).drop (min lo up)).take 1)=some (ai (rC (min lo up))) from by rw [BS _ om_];rfl) Z<|Ux (j:=0) U12<|Up U6<|Ux (j:=0) U12<|Ur [4,6,8] d Z<|UB 0 mup (hn_ [4,6,8] Z) ⟨trivial,Z,Z⟩
  exact Ux (j:=0) U12<|VD (PtrTo.blockT (Mem.get K mup) (min lo up) 1) U6 (show bY _ ((([ai [65],ai [66],ai [67]]:List Value).drop (min lo up)).take 1)=some (ai (rC (min lo up))) from by rw [BS _ om_];rfl) Z<|Up U6<|Ux (j:=0) U12<|Ur [4,6,8] d Z<|UB 0 mup (hn_ [4,6,8] Z) ⟨trivial,Z,Z⟩
 obtain ⟨_,rfl,rfl⟩:=o;refine Um 1 Z fun R d=>Uu af U9<|C4 1 [4,6,8,94] d Z<|Uo (fun N=>?_) fun N=>?_
 ·have O:s.kind % 3=1:=by
   have:=dU N;omega
  refine Um 1 Z fun R d=>Un (bkT k 1) U8<|Vk (s.depth) (12) U6 om_ U2<|Vb (c:=((s.depth % 12:Nat):Int)) U8 (wrap_i64 om_ om_) fl_<|UC (FC _ r.m_ ((s.depth % 12:Nat):Int) 2 om_ om_ om_) U7 fl_<|Us 4 Z<|Ux (j:=0) U12<|Ur [6,8] d Z<|Uq fun R d=>Uu af U9<|Ux (j:=1) U12<|Ur [6] d Z<|Uz (Vi af U4 ?_);exact ⟨Z,by unfold fJ;rw [aB A,aJ O,x,v,w,O];rfl⟩
 have O:¬ s.kind % 3=1:=by
  intro e;rw [e] at N;exact absurd N dc_
 have aD:s.kind % 3=2:=by omega
 refine Um 1 Z fun R d=>UL (8) U9 ag U2<|Un (bkT k 1) U8<|Vt (s.n2.tmod 5) U6 dc_ U3<|Vb (c:=(s.n2.tmod 5)) U8 (wrap_i64 om_ om_) fl_<|C4 1 [4,6,8,14] d Z<|Ul 2 [4,6,8,14,111] Z<|G.cut (fun fr C' l m=>(True)/\fr=[(4,[],.pointer (some ⟨y,0,none⟩)),(6,[],.pointer (some ⟨g,0,none⟩)),(8,[],.pointer (some ⟨f,0,none⟩)),(14,[],.int .i64 t)]/\l=[.obj f (.cells ⟨[.int .i64 (1+((s.kind % 3:Nat):Int)),ai [111,UInt8.ofNat (49+i)],ai (qtx p.1),ai (qtx p.2),ai [],ai (rC (max lo up)),ai (rC (min lo up)),ai [],ai [],ai []]⟩ 62 (0,0)),.obj g (.cells ⟨[.int .i64 0,ai [],ai [],ai [],ai [],ai [],ai [],ai [],ai [],ai []]⟩ 62 (0,0))]) ?_ (fun fr _ a0 m _ o=>?_)
 ·refine Uo (fun Q=>?_) fun Q=>?_
  ·have ac:s.n2.tmod 5=0:=dU Q;have ad:t=1:=by rw [<- E,fa,aJ ac]
   subst ad;refine Ul 1 [4,6,8,14] Z<|UB 0 (Mem.le.refl _) (hn_ [4,6,8,14] Z) ⟨trivial,Z,Z⟩
  have ac:¬ s.n2.tmod 5=0:=by
   intro e;rw [e] at Q;exact absurd Q dc_
  have ad:t=s.n2.tmod 5:=by rw [<- E,fa,aB ac]
  subst ad;refine UB 0 (Mem.le.refl _) (hn_ [4,6,8,14] Z) ⟨trivial,Z,Z⟩
 obtain ⟨_,rfl,rfl⟩:=o;refine UJ [0,1,2,3,4,5,6,7,8,9,10,11,12,13,14,15,16] [(5,1),(11,1),(13,1),(4,0),(10,0)] Z kr_ fun R F d=>Up U6<|UL (6) U9 ag U2<|Un (bkT k 1) U8<|Vt (s.n0.tmod 5) U6 dc_ U3<|Vs (c:=(s.n0.tmod 5)) U8 (wrap_i64 om_ om_) U2<|UK (fun _=>(lB _ r.m_ (s.n0.tmod 5) om_)) U9<|Up U6<|UL (7) U9 ag U2<|Un (bkT k 1) U8<|Vt (s.n1.tmod 5) U6 dc_ U3<|Vs (c:=(s.n1.tmod 5)) U8 (wrap_i64 om_ om_) U2<|UK (fun _=>(lB _ r.m_ (s.n1.tmod 5) om_)) U9<|Up U6<|UK (fun _=>(lB _ r.m_ t om_)) U9<|UG [ai (qtx ((s.n0.tmod 5:Int):Rat)),ai (qtx ((s.n1.tmod 5:Int):Rat)),ai (qtx ((t:Int):Rat))] U8<|Up U6<|Ux (j:=0) U12<|Ur [6,8] d Z<|Uq fun R d=>Uu af U9<|Ux (j:=1) U12<|Ur [6] d Z<|Uz (Vi af U4 ?_);exact ⟨Z,by unfold fJ;rw [aB A,aB O,x,v,w,E,aD];rfl⟩
def DB:Sgt:=⟨0,0,0,0,0,0,0,0,0⟩
def colK:List Lay:=[⟨[65],0,none⟩,⟨[66],0,some 5⟩,⟨[67],1,none⟩]
theorem Jj:qtx 5=[53]:=by
 show qtx ((5:Int):Rat)=_;rw [mR];decide +kernel
theorem KG:colK.map zj=[[ai [65],ai [48],ai []],[ai [66],ai [48],ai [53]],[ai [67],ai [49],ai []]]:=by
 simp only [colK,List.map,zj,vx,qtx_zero,dD,Jj]
def rk (S:Sht)(l:List Sgt):List Obs:=(List.range (min l.length 6)).map fun i=>fJ S (l.getD i DB) i
def cD (S:Sht)(H:Hts)(l:List Sgt):Bk:=⟨cE (S.kd % 8) S.a S.b S.h,shT (S.kd % 8),(fsK (cE (S.kd % 8) S.a S.b S.h).length H).map qtx,colK,rk S l⟩
theorem jT (S:Sht)(l:List Sgt):(rk S l).length=min l.length 6:=by simp [rk]
theorem Gh (S:Sht){l:List Sgt}{s:Sgt}(h:l[i]?=some s)(a:i<6):(rk S l)[i]?=some (fJ S s i):=by
 have h1:=(aE.1 h).1;rw [rk,QI,Ro om_];show some (fJ S (l.getD i DB) i)=_;rw [al,h];rfl
theorem Gw (C:Mem)(q:Tabs C)(S:Sht)(H:Hts)(U:Value)(l:List Sgt)(V:S.kd<256)(A:PZ H)(L:Sl C 9 U (l.map Of))(hs:∀ s∈l,SgtR s)(hG:Good (cE (S.kd % 8) S.a S.b S.h) (shT (S.kd % 8))) :
  Pur cx.P 34 [.agg ⟨MW S H U⟩] C fun u D=>BookIn D u (cD S H l):=by
 obtain ⟨As,cs,rfl,ag,ar,_⟩:=id L;have au:maxLen<=9223372036854775807:=by simp [maxLen]
 simp only [aw] at L ag ⊢;have av:=lJ (S.kd % 8) S.a S.b S.h;refine Uv func34 44 U3 fun w0=>Uq fun R f=>UF U6 fun W=>UH U5 fun v=>Ur [1,2] f Z<|G.freeze 1 Z fun _ _ B=>Um 1 Z fun R f=>Un (bkT B 4) U8<|UV (wS _ q.m_ S.kd S.a S.b S.h V) U7 (fun v8 _ _ X=>?_);obtain ⟨v1,v2,rfl,M,N⟩:=id X.ex;obtain ⟨k,n,rfl,ah,ay,_⟩:=id M;obtain ⟨A2,c2,rfl,_,_,_⟩:=id N;simp only [aw] at M N ah X ⊢;refine UH U5 fun b3=>Ux (j:=0) U12<|Ur [1,2,3] f Z<|G.freeze 0 Z fun _ _ Y=>G.cut (fun fr C' E O=>∃ (c:Option Addr)(d:Nat)(x:Value)(g:Nat),(Sl C' 1 (.slice c (fsK (cE (S.kd % 8) S.a S.b S.h).length H).length d) ((fsK (cE (S.kd % 8) S.a S.b S.h).length H).map fe)/\Sl C' 3 x [[ai [65],ai [48],ai []],[ai [66],ai [48],ai [53]],[ai [67],ai [49],ai []]])/\fr=[(1,[],.pointer (some ⟨W,0,none⟩)),(2,[],.pointer (some ⟨v,0,none⟩)),(4,[],.pointer (some ⟨g,0,none⟩))]/\E=[.obj g (.cells ⟨[.slice k (cE (S.kd % 8) S.a S.b S.h).length n,.slice A2 (shT (S.kd % 8)).length c2,.slice c (fsK (cE (S.kd % 8) S.a S.b S.h).length H).length d,x,.slice none 0 0]⟩ 42 (0,0)),.obj v (.cells ⟨[.slice none 0 0,.slice none 0 0,.slice none 0 0,.slice none 0 0,.slice none 0 0]⟩ 42 (0,0))]) ?_ (fun fr az aA O aB Q=>?_)
 ·refine Vg (.cut [0,1,2,3,5,6,7] (.alt 4 (.cut [] (.alt 8 (.fin [9,10,11]) (.alt 10 (.fin [8,9,11]) .stop))) (.alt 8 (.cut [] (.alt 4 (.fin [9,10,11]) (.alt 10 (.fin [4,9,11]) .stop))) (.alt 10 (.cut [] (.alt 4 (.fin [8,9,11]) (.alt 8 (.fin [4,9,11]) .stop))) .stop)))) [] Z Z kr_ fun R hB f F=>Un (bkT Y 2) U8<|Un (bkT Y 2) U8<|Up U6<|Un (bkT B 7) U8<|UG ([ai [65],ai [48],ai []]) U8<|UG ([ai [66],ai [48],ai [53]]) U8<|UG ([ai [67],ai [49],ai []]) U8<|UY F Z ⟨?_, ?_, ?_,trivial⟩
  ·refine UT (jt _ q.m_ _ _ (cE (S.kd % 8) S.a S.b S.h).length k n H Z om_ A) U7 fl_ fun I J _ e=>UY F Z ⟨?_, ?_,trivial⟩
   ·refine U0 [[ai [65],ai [48],ai []],[ai [66],ai [48],ai [53]],[ai [67],ai [49],ai []]] U12 fl_ (fun o K _ p=>?_);obtain ⟨c,d,rfl,_,_,_⟩:=id e;simp only [aw] at e ⊢;exact UG [.slice k (cE (S.kd % 8) S.a S.b S.h).length n,.slice A2 (shT (S.kd % 8)).length c2,.slice c (fsK (cE (S.kd % 8) S.a S.b S.h).length H).length d,.slice (some ⟨o,0,none⟩) 3 3,.slice none 0 0] U8<|UH U5 fun g=>Ux (j:=0) U12<|Ur [1,2,4] f Z<|UB 0 mup (hn_ [1,2,4] Z) ⟨c,d,_,g,⟨e.mono mup,p.mono mup⟩,Z,Z⟩
   refine UH U5 fun g=>U0 [[ai [65],ai [48],ai []],[ai [66],ai [48],ai [53]],[ai [67],ai [49],ai []]] U12 fl_ (fun o K _ p=>?_);obtain ⟨c,d,rfl,_,_,_⟩:=id e;simp only [aw] at e ⊢;exact UG [.slice k (cE (S.kd % 8) S.a S.b S.h).length n,.slice A2 (shT (S.kd % 8)).length c2,.slice c (fsK (cE (S.kd % 8) S.a S.b S.h).length H).length d,.slice (some ⟨o,0,none⟩) 3 3,.slice none 0 0] U8<|Ux (j:=0) U12<|Ur [1,2,4] f Z<|UB 0 mup (hn_ [1,2,4] Z) ⟨c,d,_,g,⟨e.mono mup,p.mono mup⟩,Z,Z⟩
  ·refine U0 [[ai [65],ai [48],ai []],[ai [66],ai [48],ai [53]],[ai [67],ai [49],ai []]] U12 fl_ fun o K _ p=>UY F Z ⟨?_, ?_,trivial⟩
   ·refine UT (jt _ q.m_ _ _ (cE (S.kd % 8) S.a S.b S.h).length k n H Z om_ A) U7 fl_ (fun I J _ e=>?_);obtain ⟨c,d,rfl,_,_,_⟩:=id e;simp only [aw] at e ⊢;exact UG [.slice k (cE (S.kd % 8) S.a S.b S.h).length n,.slice A2 (shT (S.kd % 8)).length c2,.slice c (fsK (cE (S.kd % 8) S.a S.b S.h).length H).length d,.slice (some ⟨o,0,none⟩) 3 3,.slice none 0 0] U8<|UH U5 fun g=>Ux (j:=0) U12<|Ur [1,2,4] f Z<|UB 0 mup (hn_ [1,2,4] Z) ⟨c,d,_,g,⟨e.mono mup,p.mono mup⟩,Z,Z⟩
   refine UH U5 fun g=>UT (jt _ q.m_ _ _ (cE (S.kd % 8) S.a S.b S.h).length k n H Z om_ A) U7 fl_ (fun I J _ e=>?_);obtain ⟨c,d,rfl,_,_,_⟩:=id e;simp only [aw] at e ⊢;exact UG [.slice k (cE (S.kd % 8) S.a S.b S.h).length n,.slice A2 (shT (S.kd % 8)).length c2,.slice c (fsK (cE (S.kd % 8) S.a S.b S.h).length H).length d,.slice (some ⟨o,0,none⟩) 3 3,.slice none 0 0] U8<|Ux (j:=0) U12<|Ur [1,2,4] f Z<|UB 0 mup (hn_ [1,2,4] Z) ⟨c,d,_,g,⟨e.mono mup,p.mono mup⟩,Z,Z⟩
  refine UH U5 fun g=>UY F Z ⟨?_, ?_,trivial⟩
  ·refine UT (jt _ q.m_ _ _ (cE (S.kd % 8) S.a S.b S.h).length k n H Z om_ A) U7 fl_ fun I J _ e=>U0 [[ai [65],ai [48],ai []],[ai [66],ai [48],ai [53]],[ai [67],ai [49],ai []]] U12 fl_ (fun o K _ p=>?_);obtain ⟨c,d,rfl,_,_,_⟩:=id e;simp only [aw] at e ⊢;exact UG [.slice k (cE (S.kd % 8) S.a S.b S.h).length n,.slice A2 (shT (S.kd % 8)).length c2,.slice c (fsK (cE (S.kd % 8) S.a S.b S.h).length H).length d,.slice (some ⟨o,0,none⟩) 3 3,.slice none 0 0] U8<|Ux (j:=0) U12<|Ur [1,2,4] f Z<|UB 0 mup (hn_ [1,2,4] Z) ⟨c,d,_,g,⟨e.mono mup,p.mono mup⟩,Z,Z⟩
  refine U0 [[ai [65],ai [48],ai []],[ai [66],ai [48],ai [53]],[ai [67],ai [49],ai []]] U12 fl_ fun o K _ p=>UT (jt _ q.m_ _ _ (cE (S.kd % 8) S.a S.b S.h).length k n H Z om_ A) U7 fl_ (fun I J _ e=>?_);obtain ⟨c,d,rfl,_,_,_⟩:=id e;simp only [aw] at e ⊢;exact UG [.slice k (cE (S.kd % 8) S.a S.b S.h).length n,.slice A2 (shT (S.kd % 8)).length c2,.slice c (fsK (cE (S.kd % 8) S.a S.b S.h).length H).length d,.slice (some ⟨o,0,none⟩) 3 3,.slice none 0 0] U8<|Ux (j:=0) U12<|Ur [1,2,4] f Z<|UB 0 mup (hn_ [1,2,4] Z) ⟨c,d,_,g,⟨e.mono mup,p.mono mup⟩,Z,Z⟩
 obtain ⟨c,d,x,g,⟨ak,aa⟩,rfl,rfl⟩:=Q;refine Ul 1 [1,2,4,5] Z<|G.nilArr 62 10<|G.perm (L':=[.obj g (.cells ⟨[.slice k (cE (S.kd % 8) S.a S.b S.h).length n,.slice A2 (shT (S.kd % 8)).length c2,.slice c (fsK (cE (S.kd % 8) S.a S.b S.h).length H).length d,x,.slice none 0 0]⟩ 42 (0,0)),.arr (.slice none 0 0) 62 10 0 [],.obj v (.cells ⟨[.slice none 0 0,.slice none 0 0,.slice none 0 0,.slice none 0 0,.slice none 0 0]⟩ 42 (0,0))]) (List.Perm.swap _ _ _)<|G.loop (fun fr C' E O=>∃ (i:Nat)(w:Value),(i<=l.length/\i<=6)/\fr=[(1,[],.pointer (some ⟨W,0,none⟩)),(2,[],.pointer (some ⟨v,0,none⟩)),(4,[],.pointer (some ⟨g,0,none⟩)),(5,[],.int .i64 i)]/\E=[.obj g (.cells ⟨[.slice k (cE (S.kd % 8) S.a S.b S.h).length n,.slice A2 (shT (S.kd % 8)).length c2,.slice c (fsK (cE (S.kd % 8) S.a S.b S.h).length H).length d,x,w]⟩ 42 (0,0)),.arr w 62 10 ((rk S l).take i).length (((rk S l).take i).map Ik).flatten,.obj v (.cells ⟨[.slice none 0 0,.slice none 0 0,.slice none 0 0,.slice none 0 0,.slice none 0 0]⟩ 42 (0,0))]/\O=6-i) (hn_ [1,2,4,5] Z) ⟨0,.slice none 0 0,⟨QK _,QK _⟩,Z,Z,Z⟩ (fun fr aC aD m _ Q=>?_);obtain ⟨i,w,⟨hi,aE⟩,rfl,rfl,rfl⟩:=Q;refine Um 2 Z fun R f=>Un (bkT B 1) U8<|Us 5 Z<|UM U8<|Ur [1,2,4,5,27] f Z<|Uo (fun t=>?_) fun t=>?_
 ·have z:i<l.length/\i<6:=by
   by_cases h1:((i:Nat):Int)<(l.length:Nat)
   ·rw [QZ h1] at t;have h2:=aW t;omega
   rw [Q8 h1] at t;exact absurd t am
  obtain ⟨s,T⟩:∃ s,l[i]?=some s:=⟨l[i]'z.1,aj z.1⟩;have al:(rk S l).take (i+1)=(rk S l).take i++[fJ S s i]:=by rw [Q5,Gh S T z.2];rfl
  have aF:((rk S l).take i).length<=6:=by rw [QW,jT];omega
  refine UJ [0,1,2,3,4,5,6,7,8,9,10,11,12,13] [] Z kr_ fun R hB f=>Up U6<|Uu af U9<|Un (bkT B 12) U8<|Up U6<|Un (bkT B 1) U8<|Up U6<|UD L.m_ U10 om_ (ci T) fl_ fun aG an=>Un an U8<|Up U6<|UV (rA _ q.m_ S s H _ i z.2 V (hs s (QF T)) hG) U7 (fun aH _ _ ao=>?_);subst ao;refine UI [Ik (fJ S s i)] U12 fun aI _ _ ap=>UP (j:=1) U11 ap.m_ Z ax (by simp only [aK];omega) fl_ fun ab ac ad=>Up U6<|Ux (j:=1) U12<|Ur [1,2,4,5] f Z<|Um 1 Z fun R f=>Uw _ U7<|C4 1 [1,2,4,5] f Z<|UE (L':=[.obj g (.cells ⟨[.slice k (cE (S.kd % 8) S.a S.b S.h).length n,.slice A2 (shT (S.kd % 8)).length c2,.slice c (fsK (cE (S.kd % 8) S.a S.b S.h).length H).length d,x,.slice ab ac ad]⟩ 42 (0,0)),.arr (.slice ab ac ad) 62 10 ((rk S l).take (i+1)).length (((rk S l).take (i+1)).map Ik).flatten,.obj v (.cells ⟨[.slice none 0 0,.slice none 0 0,.slice none 0 0,.slice none 0 0,.slice none 0 0]⟩ 42 (0,0))]) (by rw [al,Rj,Ri,QM];rfl)<|UA (m':=6-(i+1)) om_ mup (hn_ [1,2,4,5] Z) ⟨i+1,_,⟨by omega,by omega⟩,Z,Z,Z⟩
 have z:i=min l.length 6:=by
  by_cases h1:((i:Nat):Int)<(l.length:Nat)
  ·rw [QZ h1] at t;have h2:=QJ t;omega
  omega
 have aq:(rk S l).take i=rk S l:=Rr (by rw [z,jT];exact QG _);rw [aq];refine G.freezeArr 1 ((rk S l).map Ik) rfl rfl (by intro r hr;obtain ⟨y,_,rfl⟩:=QO.1 hr;rfl) (by rw [aw]) (fun Cg hg ae=>?_);obtain ⟨Aw,cw,rfl,_⟩:=id ae;obtain ⟨Ap,cp,rfl,_⟩:=id aa;refine Uq fun R f=>Uu af U9<|Ux (j:=1) U12<|Ur [2] f Z<|Uz (Vi af U4 ?_);exact ⟨Z,_,_,_,_,_,Z,M.mono mup,N.mono mup,(by rw [cD,<- zh];exact ak.mono mup),(by rw [cD,KG];exact aa.mono mup),ae⟩
instance:DecidableEq RowQ:=fun a b=>decidable_of_iff (a.f=b.f/\a.b=b.b) (by cases a;cases b;simp)
instance (k:Nat) (q:Rat):Decidable (QB k q):=by unfold QB;infer_instance
instance (k:Nat) (p:Pt):Decidable (QP k p):=by unfold QP;infer_instance
instance (n:Nat) (t:Tri):Decidable (rK n t):=by unfold rK;infer_instance
theorem uc {z:Int}(h:txt z=s):qtx ((z:Int):Rat)=s:=by rw [mR,h]
theorem ML:qtx 2=[50]:=uc (z:=2) aq
theorem yB (q:Rat)(h:qtx q=s)(a:QB 22 q):dC s=q:=by rw [<- h];exact di (bQ a)
theorem ro0:dC [48]=0:=yB 0 qtx_zero aq
theorem Me (a:List Pt)(t:Tri)(p:Pt)(j:Nat):wgt a t p j=wgt a t p (j % 3):=by
 unfold wgt;rw [show (j+1) % 3=(j % 3+1) % 3 by omega,show (j+2) % 3=(j % 3+2) % 3 by omega]
theorem IF (t:Tri)(j:Nat):mG t j=mG t (min j 2):=by
 unfold mG;rcases (by omega:j=0∨j=1∨2<=j) with h | h | h
 ·subst h;rfl
 ·subst h;rfl
 rw [Nat.min_eq_right h,aB om_,aB om_];rfl
theorem q6:qtx 6=[54]:=by decide +kernel
def Jp (m:Nat)(u v:Int)(h:Bool):List Pt:=(shP m).map fun p=>(lf (p.1+u*1) (dV h*1),lf (p.2+v*1) (dV h*1))
theorem OY (m:Nat)(a b:Int)(h:Bool):cE m a b h=Jp m (a.tmod 8) (b.tmod 8) h:=rfl
def qm (pts:List Pt)(tris:List Tri):Bool :=
 pts.all (fun p=>decide (QP 1 p)) && (decide pts.Nodup && (tris.all (fun t=>decide (rK pts.length t)) && (tris.all (fun t=>decide (0<dJ (pts.getD t.1 (0,0)) (pts.getD t.2.1 (0,0)) (pts.getD t.2.2 (0,0)))) && (decide (cY tris).Nodup && (nq pts tris && pts.all fun p=>decide (lS pts tris p≠[]))))))
theorem all0:∀ i<15,∀ j<15,∀ h:Bool,qm (Jp 0 ((i:Nat)-7) ((j:Nat)-7) h) (shT 0)=true:=by decide +kernel
theorem sh1 (a:cV n=true)(b:cV u=true)(c:aX x=true)(d:aX y=true):dR ⟨1,n,x,y,[],u,[],[],[],[]⟩=0:=by
 unfold dR;rw [aB am,aB (by simp [kV,a,b]),aB (by simp [lO,c,d]),aB (by simp [kZ])]
theorem sh2 {d l:Str}(a:cV n=true)(b:cV u=true)(c:cV l=true)(e:aX x=true)(f:aX y=true)(g:aX d=true):dR ⟨2,n,x,y,d,u,l,[],[],[]⟩=0:=by
 unfold dR;rw [aB am,aB (by simp [kV,a,b,c]),aB (by simp [lO,e,f,g]),aB (by simp [kZ])]
theorem sh3 {l a b c:Str}(d:cV n=true)(e:cV u=true)(f:cV l=true)(g:aX x=true)(h:aX y=true)(i:aX a=true)(j:aX b=true)(k:aX c=true):dR ⟨3,n,x,y,[],u,l,a,b,c⟩=0:=by
 unfold dR;rw [aB am,aB (by simp [kV,d,e,f]),aB (by simp [lO,g,h,i,j,k]),aB (by simp [kZ])]
theorem qi (j:Nat)(a:j<3):kA (isU (rC j)) colK 0=(j:Int):=by
 rcases (by omega:j=0∨j=1∨j=2) with rfl | rfl | rfl <;> decide +kernel
theorem uz (j:Nat)(a:j<3):cV (rC j)=true:=by
 rcases (by omega:j=0∨j=1∨j=2) with rfl | rfl | rfl <;> decide +kernel
theorem Ng (i:Nat)(a:i<6):cV [111,UInt8.ofNat (49+i)]=true:=by
 rcases (by omega:i=0∨i=1∨i=2∨i=3∨i=4∨i=5) with rfl | rfl | rfl | rfl | rfl | rfl <;> decide +kernel
theorem Pe {j:Nat}(c:i<6)(d:j<6)(h:([111,UInt8.ofNat (49+i)]:Str)=[111,UInt8.ofNat (49+j)]):i=j:=by
 have e:∀ a<6,∀ b<6,([111,UInt8.ofNat (49+a)]:Str)=[111,UInt8.ofNat (49+b)]->a=b:=by decide
 exact e i c j d h
theorem JW (s:Sgt):min (loU s) (upU s)<max (loU s) (upU s):=by
 unfold loU upU;split <;> omega
theorem eh (z:Int)(h:z.natAbs<100):QB 1 ((z:Int):Rat):=by
 refine ⟨?_, ?_⟩
 ·show z.natAbs<B9 ^ 1;have:B9 ^ 1=1000000000:=by decide
  omega
 show 1<B9 ^ 1;decide
theorem ux (z:Int):fa z≠0:=by
 unfold fa;split
 ·decide
 assumption
theorem ol (z:Int):-5<fa z/\fa z<5:=by
 have:=nL z;unfold fa;split <;> omega
theorem ok1 (h:QB 1 q):aX (qtx q)=true:=bQ (h.le dc_)
theorem sV (n:Nat):QB 1 (lf ((n % 12:Nat):Int) 2):=qD dc_ om_ dc_
theorem NO (n:Nat):¬ (lf ((n % 12:Nat):Int) 2<0):=by
 have a:∀ k<12,¬ (lf ((k:Nat):Int) 2<0):=by decide +kernel
 exact a _ (Rs _ dc_)
theorem JJ (S:Sht)(s:Sgt)(i:Nat)(m:i<6)(j:QP 1 (lK S s))(n:lS (cE (S.kd % 8) S.a S.b S.h) (shT (S.kd % 8)) (lK S s)≠[]) :
  gM (cE (S.kd % 8) S.a S.b S.h) (shT (S.kd % 8)) colK (fJ S s i)=0:=by
 have f:=Ng i m;have c:=ok1 j.1;have hy:=ok1 j.2;have q:=JW s;have r:=No s;have t:=Mj s;have g:∀ o:Obs,o.x=qtx (lK S s).1->o.y=qtx (lK S s).2->Il (cE (S.kd % 8) S.a S.b S.h) (shT (S.kd % 8)) o=true:=by
  intro o h1 h2;unfold Il ptO;rw [h1,h2,di c,di hy];exact QZ n
 have p:=qi (s.u1 % 3) om_;have d:=qi (max (loU s) (upU s)) om_;have e:=qi (min (loU s) (upU s)) om_;have n1:=uz (s.u1 % 3) om_;have n2:=uz (max (loU s) (upU s)) om_;have k:=uz (min (loU s) (upU s)) om_;unfold fJ gM;split
 ·rw [aB (by rw [sh1 f n1 c hy];decide),aB (by rw [g _ rfl rfl];decide),aB (by simp [Mk,p] <;> omega),aB (by simp [M8]),aB (by simp [Kt]),aB (by simp [Lb])]
 split
 ·have l:=ok1 (sV s.depth);rw [aB (by rw [sh2 f n2 k c hy l];decide),aB (by rw [g _ rfl rfl];decide),aB (by simp only [Mk,d,e];simp <;> omega),aB (by simp only [M8,d,e];simp <;> omega),aB (by simp only [Kt];rw [di l,Q8 (NO s.depth)];decide),aB (by simp [Lb])]
 have h0:=nL s.n0;have h1:=nL s.n1;have h2:=ol s.n2;rw [aB (by rw [sh3 f n2 k c hy (ok1 (eh _ om_)) (ok1 (eh _ om_)) (ok1 (eh _ om_))];decide),aB (by rw [g _ rfl rfl];decide),aB (by simp only [Mk,d,e];simp <;> omega),aB (by simp only [M8,d,e];simp <;> omega),aB (by simp [Kt]),aB ?_];intro h;simp only [Lb,QT,QQ] at h;have h3:=h.2;rw [<- qtx_zero] at h3;have h4:=iM h3;have h5:=ux s.n2;exact h5 (by exact_mod_cast h4)
theorem all1:∀ i<15,∀ j<15,∀ h:Bool,qm (Jp 1 ((i:Nat)-7) ((j:Nat)-7) h) (shT 1)=true:=by decide +kernel
theorem all2:∀ i<15,∀ j<15,∀ h:Bool,qm (Jp 2 ((i:Nat)-7) ((j:Nat)-7) h) (shT 2)=true:=by decide +kernel
theorem all3:∀ i<15,∀ j<15,∀ h:Bool,qm (Jp 3 ((i:Nat)-7) ((j:Nat)-7) h) (shT 3)=true:=by decide +kernel
theorem all4:∀ i<15,∀ j<15,∀ h:Bool,qm (Jp 4 ((i:Nat)-7) ((j:Nat)-7) h) (shT 4)=true:=by decide +kernel
theorem all5:∀ i<15,∀ j<15,∀ h:Bool,qm (Jp 5 ((i:Nat)-7) ((j:Nat)-7) h) (shT 5)=true:=by decide +kernel
theorem all6:∀ i<15,∀ j<15,∀ h:Bool,qm (Jp 6 ((i:Nat)-7) ((j:Nat)-7) h) (shT 6)=true:=by decide +kernel
theorem all7:∀ i<15,∀ j<15,∀ h:Bool,qm (Jp 7 ((i:Nat)-7) ((j:Nat)-7) h) (shT 7)=true:=by decide +kernel
theorem vM (a:Int):∃ i:Nat,i<15/\a.tmod 8=(i:Int)-7:=by
 have h:=yj a;exact ⟨(a.tmod 8+7).toNat,by omega,by omega⟩
theorem yt (m:Nat)(g:m<8)(a b:Int)(h:Bool):qm (cE m a b h) (shT m)=true:=by
 obtain ⟨i,c,e⟩:=vM a;obtain ⟨j,d,f⟩:=vM b;rw [OY,e,f];rcases (by omega:m=0∨m=1∨m=2∨m=3∨m=4∨m=5∨m=6∨m=7) with rfl | rfl | rfl | rfl | rfl | rfl | rfl | rfl
 ·exact all0 i c j d h
 ·exact all1 i c j d h
 ·exact all2 i c j d h
 ·exact all3 i c j d h
 ·exact all4 i c j d h
 ·exact all5 i c j d h
 ·exact all6 i c j d h
 exact all7 i c j d h
theorem My:∀ m:Nat,m<8->shT m≠[]/\(shT m).length<=800:=by decide
theorem G1 {a:List Pt}{b:List Tri}(h:qm a b=true)(c:b≠[])(d:b.length<=800)(e:a.length<=400):Good a b/\∀ p∈a,lS a b p≠[]:=by
 unfold qm at h;simp only [QT,Q4,QQ] at h;obtain ⟨f,g,i,j,k,l,m⟩:=h;exact ⟨⟨⟨f,g,i,j,k,d,e⟩,c,l⟩,m⟩
theorem fu (m:Nat)(c:m<8)(a b:Int)(h:Bool):Good (cE m a b h) (shT m)/\∀ p∈cE m a b h,lS (cE m a b h) (shT m) p≠[]:=by
 have d:=lJ m a b h;obtain ⟨h0,h1⟩:=My m c;exact G1 (yt m c a b h) h0 h1 om_
theorem ug (S:Sht)(s:Sgt)(c:SgtR s):QP 1 (lK S s)/\lS (cE (S.kd % 8) S.a S.b S.h) (shT (S.kd % 8)) (lK S s)≠[]:=by
 obtain ⟨d,e⟩:=fu (S.kd % 8) (Rs _ dc_) S.a S.b S.h;have f:0<(cE (S.kd % 8) S.a S.b S.h).length:=by rw [cE,aw];exact yu _
 unfold lK;split
 ·rename_i h;exact ⟨Bt dc_ dc_ c.px c.py,h⟩
 have g:s.depth % (cE (S.kd % 8) S.a S.b S.h).length<(cE (S.kd % 8) S.a S.b S.h).length:=Rs _ f;rw [al,aj g,R0];exact ⟨d.ok.q _ (RH _),e _ (RH _)⟩
theorem iq (h:QB 1 q):(qtx q).length<=999998:=wu (fs:=[q]) (k:=1) dc_ (by intro y hy;rw [Q3] at hy;rw [hy];exact h) _ (Q3.2 rfl)
theorem Qn (S:Sht)(s:Sgt)(i:Nat)(c:SgtR s):ObsR (fJ S s i):=by
 have b:=(ug S s c).1;have a:=iq b.1;have hy:=iq b.2;have d:=iq (sV s.depth);have h0:=nL s.n0;have h1:=nL s.n1;have h2:=ol s.n2;have e:=iq (eh (s.n0.tmod 5) om_);have l1:=iq (eh (s.n1.tmod 5) om_);have l2:=iq (eh (fa s.n2) om_);unfold fJ;split
 ·exact ⟨by simp,a,hy,by simp,by simp [rC],by simp,by simp,by simp,by simp⟩
 split
 ·exact ⟨by simp,a,hy,d,by simp [rC],by simp [rC],by simp,by simp,by simp⟩
 exact ⟨by simp,a,hy,by simp,by simp [rC],by simp [rC],e,l1,l2⟩
theorem wJ (S:Sht)(s:Sgt)(i:Nat):(fJ S s i).name=[111,UInt8.ofNat (49+i)]:=by
 unfold fJ;split
 ·rfl
 split <;> rfl
theorem ms {S:Sht}{H:Hts}{l:List Sgt}{o:Obs}(h:(cD S H l).obs[i]?=some o):i<6/\∃ s,l[i]?=some s/\o=fJ S s i:=by
 have h1:=(aE.1 h).1;have h2:i<(rk S l).length:=h1;rw [jT] at h2;have h3:=Gh S (aj (show i<l.length by omega)) (show i<6 by omega);have h4:(rk S l)[i]?=some o:=h;rw [h3] at h4;exact ⟨by omega,_,aj om_,(Si h4).symm⟩
theorem tk (S:Sht)(H:Hts)(l:List Sgt)(e:∀ s∈l,SgtR s):iH (cD S H l)=0:=by
 have f:∀ n,n<=(cD S H l).obs.length->rm (cD S H l) n=0:=by
  intro n;induction n with
  | zero=>intro _;rfl
  | succ n g =>
   intro i;have h0:=g om_;have a:(cD S H l).obs[n]?=some (cD S H l).obs[n]:=aj i;rw [um h0 a];obtain ⟨b,s,j,m⟩:=ms a;rw [m];have c:=ug S s (e s (QF j));unfold obZ;rw [aB (by
    have:=JJ S s n b c.1 c.2;intro h;exact h this),aB]
   intro hm;obtain ⟨o,p,d⟩:=QO.1 hm;obtain ⟨k,x,r⟩:=List.mem_take_iff_getElem.1 p;have t:(cD S H l).obs[k]?=some o:=by rw [<- r];exact aj _
   obtain ⟨u,y,_,v⟩:=ms t;rw [v,wJ,wJ] at d;have:=Pe u b d;omega
 unfold iH;have z:(cD S H l).obs.length<=6:=by
  show (rk S l).length<=6;rw [jT];omega
 have h1:BZ (cD S H l).pts.length (cD S H l).terr=0:=by
  unfold BZ;rw [aJ (by show ((fsK _ H).map qtx).length=_;rw [aw,uG];rfl)];show qM (((fsK _ H).map qtx).all aX)=0;rw [xP (fun q w=>ok1 (G9 _ H q w))];rfl
 have h2:tf (cD S H l).col=0:=by
  show tf colK=0;decide +kernel
 rw [aB (by rw [h1];decide),aB (by rw [h2];decide),aB om_];exact f _ (QG _)
theorem Qw:∀ x∈colK,Oj x:=by
 intro x a;simp only [colK,QU,RV,S9] at a;rcases a with rfl | rfl | rfl
 ·exact ⟨by decide +kernel,fun q h=>by simp at h,by decide⟩
 ·exact ⟨by decide +kernel,fun q h=>by simp at h;subst h;decide +kernel,by decide⟩
 exact ⟨by decide +kernel,fun q h=>by simp at h,by decide⟩
theorem HW (S:Sht)(H:Hts)(l:List Sgt)(a:∀ s∈l,SgtR s):BookR (cD S H l):=by
 refine ⟨?_,Qw,(by show colK.length<=1000000;decide), ?_⟩
 ·intro s h;obtain ⟨q,b,rfl⟩:=QO.1 h;exact iq (G9 _ H q b)
 intro o c;obtain ⟨i,d⟩:=List.mem_iff_getElem?.1 c;obtain ⟨_,s,e,rfl⟩:=ms d;exact Qn S s i (a s (QF e))
theorem HV (C:Mem)(i:Tabs C)(c:Value)(S:Sht)(H:Hts)(l:List Sgt)(d:∀ s∈l,SgtR s)(e:BookIn C c (cD S H l)):BookZ C c (cD S H l) 0:=by
 have f:=(fu (S.kd % 8) (Rs _ dc_) S.a S.b S.h).1;refine ⟨e,fun D g=>?_,fun _=>by show colK≠[];decide,by show colK.length<=1000;decide,f.ok.lp⟩;have h2:=lg D (i.mono g) c _ (e.mono g) f (HW S H l d)
 rwa [tk S H l d] at h2
theorem KQ (S:Sht)(H:Hts)(l:List Sgt):bs (cD S H l)=2:=rfl
theorem KR (S:Sht)(H:Hts)(l:List Sgt):0<bp (cD S H l)/\bp (cD S H l)<=6:=by
 refine ⟨?_,lJ _ _ _ _⟩;show 0<(cE (S.kd % 8) S.a S.b S.h).length;rw [cE,aw];exact yu _
def CF (C:Mem)(pv:Value)(S:Sht)(H:Hts)(l:List Sgt):Prop:=∃ A c,pv=.agg ⟨MW S H (.slice A l.length c)⟩/\Sl C 9 (.slice A l.length c) (l.map Of)
structure PlanR (S:Sht)(H:Hts)(l:List Sgt):Prop where
 kd:S.kd<256
 h:PZ H
 s:∀ s∈l,SgtR s
def Ld (s p:Nat)(a b:Int):Prop:=a<0∨(s:Int)<=a∨b<0∨(p:Int)<=b
instance (s p:Nat) (a b:Int):Decidable (Ld s p a b):=by unfold Ld;infer_instance
def Lz (n:Nat)(x:Int):Prop:=x<0∨(n:Int)<=x
instance (n:Nat) (x:Int):Decidable (Lz n x):=by unfold Lz;infer_instance
open Go Go.Jog Go.ChangeShapes Go.WideShapes Go.ChangeAt Go.RowKit
set_option maxRecDepth 100000
theorem own:ownKnob Tryz.prog.godebug=none:=by kernel_rfl
section
variable {H:Type} {enc:TypeId × Value->H} {W:World} {spare:Nat->Bool} {held:Bool}
theorem Ov {n:Nat}{c:Value}{y:DataW H × List MemPlace}(h:DataW.trod enc Tryz.prog W 0 spare held n 5 [c]=some y):∃ b:UInt8,c=.int .u8 b.toNat:=by
 obtain ⟨m,h1,_,h3⟩:=DataW.trod_int Tryz.underlying5 h;simp only [SQ,TX] at h1;subst h1;have a:0<=m/\m<256:=by
  simp [Lit.wf,IntKind.min,IntKind.max,IntKind.signed,IntKind.bits] at h3;omega
 refine ⟨UInt8.ofNat m.toNat, ?_⟩;congr 1;simp only [UInt8.toNat_ofNat'];omega
theorem oN {n:Nat}{c:Value}{y:DataW H × List MemPlace}(h:DataW.trod enc Tryz.prog W 0 spare held n 5 [c]=some y):∃ m:Nat,c=.int .u8 m/\m<256:=by
 obtain ⟨b,rfl⟩:=Ov h;exact ⟨b.toNat,Z,b.toNat_lt⟩
theorem mZ {n:Nat}{c:Value}{y:DataW H × List MemPlace}(h:DataW.trod enc Tryz.prog W 0 spare held n 22 [c]=some y):∃ m:Int,c=.int .i8 m/\-128<=m/\m<=127:=by
 obtain ⟨m,h1,_,h3⟩:=DataW.trod_int Tryz.underlying22 h;simp only [SQ,TX] at h1;refine ⟨m,h1, ?_⟩;simp [Lit.wf,IntKind.min,IntKind.max,IntKind.signed,IntKind.bits] at h3;omega
theorem HU {n:Nat}{c:Value}{y:DataW H × List MemPlace}(h:DataW.trod enc Tryz.prog W 0 spare held n 4 [c]=some y):∃ b:Bool,c=.bool b:=by
 obtain ⟨b,h1,_⟩:=DataW.trod_bool Tryz.underlying4 h;simp only [SQ,TX] at h1;exact ⟨b,h1⟩
theorem xN {t e:TypeId}{k n:Nat}{a:List Value}{y:DataW H × List MemPlace}(b:Tryz.prog.underlying t=some (.array k e))(c:Tryz.prog.cellsOf e=1)(h:DataW.trod enc Tryz.prog W 0 spare held n t a=some y) :
  ∃ m,∀ i,i<k->∃ z,DataW.trod enc Tryz.prog W 0 spare held m e ((a.drop i).take 1)=some z:=by
 obtain ⟨xs,m,_,_,_,g,d⟩:=DataW.trod_array b h;refine ⟨m,fun i f=>?_⟩;have h1:=d i f;rw [c,SL] at h1;rw [h1,aj om_];exact ⟨_,Z⟩
theorem ow:Tryz.prog.cellsOf 5=1:=by kernel_rfl
theorem ox:Tryz.prog.cellsOf 22=1:=by kernel_rfl
theorem tg:Tryz.prog.cellsOf 4=1:=by kernel_rfl
theorem xF:Tryz.prog.cellsOf 23=2:=by kernel_rfl
theorem HL:Tryz.prog.cellsOf 137=2:=by kernel_rfl
theorem KM:Tryz.prog.cellsOf 138=3:=by kernel_rfl
theorem KL:Tryz.prog.cellsOf 26=6:=by kernel_rfl
theorem I4 {n:Nat}{c d e f:Value}{y:DataW H × List MemPlace}(h:DataW.trod enc Tryz.prog W 0 spare held n 25 [c,d,e,f]=some y):∃ S:Sht,[c,d,e,f]=([.int .u8 S.kd,.int .i8 S.a,.int .i8 S.b,.bool S.h]:List Value)/\S.kd<256:=by
 obtain ⟨y0,y1,y2,o,_,p,h0,h1,h2⟩:=Go.Deep.trod_struct3 Tryz.underlying25 h;simp only [ow,xF,tg] at h0 h1 h2;obtain ⟨kd,rfl,i⟩:=oN h0;obtain ⟨m,g⟩:=xN Tryz.underlying23 ox h1;obtain ⟨q,j⟩:=g 0 dc_;obtain ⟨r,k⟩:=g 1 dc_;obtain ⟨a,rfl,_⟩:=mZ j;obtain ⟨b,rfl,_⟩:=mZ k;obtain ⟨l,rfl⟩:=HU h2;exact ⟨⟨kd,a,b,l⟩,Z,i⟩
theorem DM {n:Nat}{b c d e f g i:Value}{y:DataW H × List MemPlace}(h:DataW.trod enc Tryz.prog W 0 spare held n 28 [b,c,d,e,f,g,i]=some y):∃ G:Hts,[b,c,d,e,f,g,i]=Pm G/\PZ G:=by
 obtain ⟨y0,y1,v,_,w,h0,h1⟩:=Go.ChangeShapes.trod_struct2 Tryz.underlying28 h;simp only [KL,tg] at h0 h1;obtain ⟨m,a⟩:=xN Tryz.underlying26 ox h0;obtain ⟨x,k⟩:=a 0 dc_;obtain ⟨A,l⟩:=a 1 dc_;obtain ⟨B,o⟩:=a 2 dc_;obtain ⟨C,p⟩:=a 3 dc_;obtain ⟨D,q⟩:=a 4 dc_;obtain ⟨E,r⟩:=a 5 dc_;obtain ⟨x0,rfl,g0⟩:=mZ k;obtain ⟨x1,rfl,F⟩:=mZ l;obtain ⟨x2,rfl,I⟩:=mZ o;obtain ⟨x3,rfl,J⟩:=mZ p;obtain ⟨s,rfl,K⟩:=mZ q;obtain ⟨t,rfl,L⟩:=mZ r;obtain ⟨u,rfl⟩:=HU h1;refine ⟨⟨x0,x1,x2,x3,s,t,u⟩,Z, ?_⟩;intro z j;simp only [Ij,QU,RV,S9] at j;rcases j with rfl | rfl | rfl | rfl | rfl | rfl <;> assumption
theorem vK {P:Program}{t:TypeId}{b c d e f:Field}{j:Nat}{a:List Value}{x:DataW H × List MemPlace}(k:P.underlying t=some (.struct #[b,c,d,e,f]))(h:DataW.trod enc P W 0 spare held j t a=some x) :
  ∃ y0 y1 y2 y3 i n,DataW.trod enc P W 0 spare held n b.type ((a.drop b.offset).take (P.cellsOf b.type))=some y0/\DataW.trod enc P W 0 spare held n c.type ((a.drop c.offset).take (P.cellsOf c.type))=some y1/\DataW.trod enc P W 0 spare held n d.type ((a.drop d.offset).take (P.cellsOf d.type))=some y2 /\
   DataW.trod enc P W 0 spare held n e.type ((a.drop e.offset).take (P.cellsOf e.type))=some y3/\DataW.trod enc P W 0 spare held n f.type ((a.drop f.offset).take (P.cellsOf f.type))=some i:=by
 obtain ⟨xs,n,_,rfl,m,l,g⟩:=DataW.trod_struct k h
 match xs,l with
 | [y0,y1,y2,y3,i],_=>exact ⟨y0,y1,y2,y3,i,n,by simpa using g 0 b rfl,by simpa using g 1 c rfl,by simpa using g 2 d rfl,by simpa using g 3 e rfl,by simpa using g 4 f rfl⟩
theorem IZ {n:Nat}{a:List Value}{y:DataW H × List MemPlace}(e:a.length=9)(h:DataW.trod enc Tryz.prog W 0 spare held n 140 a=some y):∃ s:{s:Sgt // SgtR s},a=Of s.1:=by
 obtain ⟨y0,y1,y2,y3,z,A,h0,h1,h2,h3,h4⟩:=vK Tryz.underlying140 h
 match a,e with
 | [c0,B,c2,C,D,E,F,G,I],_ =>
   simp only [ow,xF,HL,KM] at h0 h1 h2 h3 h4;obtain ⟨kd,rfl,f⟩:=oN h0;obtain ⟨J,c⟩:=xN Tryz.underlying23 ox h1;obtain ⟨w0,g⟩:=c 0 dc_;obtain ⟨K,i⟩:=c 1 dc_;obtain ⟨px,rfl,j⟩:=mZ g;obtain ⟨py,rfl,k⟩:=mZ i;obtain ⟨L,a2⟩:=xN Tryz.underlying137 ow h2;obtain ⟨M,l⟩:=a2 0 dc_;obtain ⟨N,m⟩:=a2 1 dc_;obtain ⟨u0,rfl,o⟩:=oN l;obtain ⟨u1,rfl,p⟩:=oN m;obtain ⟨d,rfl,q⟩:=oN h3;obtain ⟨O,b⟩:=xN Tryz.underlying138 ox h4;obtain ⟨P,r⟩:=b 0 dc_;obtain ⟨Q,t⟩:=b 1 dc_;obtain ⟨R,u⟩:=b 2 dc_;obtain ⟨n0,rfl,v⟩:=mZ r;obtain ⟨n1,rfl,w⟩:=mZ t;obtain ⟨n2,rfl,x⟩:=mZ u;exact ⟨⟨⟨kd,px,py,u0,u1,d,n0,n1,n2⟩,⟨f,j,k,o,p,q,v,w,x⟩⟩,Z⟩
theorem Fi {b:Nat}{v:Value}{x:DataW H × List MemPlace}(h:DataW.trod enc Tryz.prog W 0 spare held b 29 [v]=some x):∃ l:List Sgt,Sl (rB W) 9 v (l.map Of)/\∀ s∈l,SgtR s:=by
 obtain ⟨l,a⟩:=Fh (fun s:{s:Sgt // SgtR s}=>Of s.1) Tryz.underlying29 kr_ dc_ (fun n cs y a hy=>IZ a hy) h;refine ⟨l.map (·.1),by rw [Ry];exact a,fun s hs=>?_⟩;obtain ⟨z,_,rfl⟩:=QO.1 hs;exact z.2
theorem MV {n:Nat}{a:List Value}{y:DataW H × List MemPlace}(h:DataW.trod enc Tryz.prog W 0 spare held n 31 a=some y):∃ S G l,CF (rB W) (.agg ⟨a⟩) S G l/\PlanR S G l:=by
 obtain ⟨y0,y1,y2,o,_,d,h0,h1,h2⟩:=Go.Deep.trod_struct3 Tryz.underlying31 h;have g:Tryz.prog.cellsOf 31=12:=by kernel_rfl
 have h4:Tryz.prog.cellsOf 25=4:=by kernel_rfl
 have i:Tryz.prog.cellsOf 28=7:=by kernel_rfl
 have hs:Tryz.prog.cellsOf 29=1:=by kernel_rfl
 rw [g] at d
 match a,d with
 | [c0,p,c2,q,r,s,t,u,v,w,x,z],_ =>
  simp only [h4,i,hs] at h0 h1 h2;obtain ⟨S,e,j⟩:=I4 h0;obtain ⟨G,f,k⟩:=DM h1;obtain ⟨l,b,m⟩:=Fi h2;obtain ⟨A,c,rfl,_⟩:=id b;simp only [SQ,TX] at e;obtain ⟨rfl,rfl,rfl,rfl⟩:=e;simp only [Pm,SQ,TX] at f;obtain ⟨rfl,rfl,rfl,rfl,rfl,rfl,rfl⟩:=f;simp only [aw] at b ⊢;exact ⟨S,G,l,⟨A,c,Z,b⟩,j,k,m⟩
end
def lU (cs:Array Value):Obj->Obj
 | .cells _ t frozen=>.cells cs t frozen
 | o=>o
def Hx:Array Value:=(Lib.deBruijn32tab.map fun z:Nat=>Value.int .u8 (z:Int)).toArray
def Hw:Array Value:=(Lib.deBruijn64tab.map fun z:Nat=>Value.int .u8 (z:Int)).toArray
def Dr:Array Value:=(Lib.pow10Tab.map fun z=>Value.int .u64 z).toArray
def FL:ByteArray:=⟨#[118,97,108,117,101,32,111,117,116,32,111,102,32,114,97,110,103,101]⟩
def CU:ByteArray:=⟨#[105,110,118,97,108,105,100,32,115,121,110,116,97,120]⟩
noncomputable def low:Nat:=(World.holding Tryz.prog default ⟨#[],#[],[]⟩).heap.size
noncomputable def qg (os:Os):World :=
 let w0:=World.holding Tryz.prog os ⟨#[.cells #[.string FL] 412,.cells #[.string CU] 412],#[],[]⟩
 { w0 with heap:=((((w0.heap.modify 0 (lU Hx)).modify 1 (lU Hw)).modify 3 (lU Dr)).modify 5 (lU #[.iface 410 (.pointer (some ⟨low,0,none⟩))])).modify 4 (lU #[.iface 410 (.pointer (some ⟨low+1,0,none⟩))]) }
theorem Mr {W : World} (h : laidMet Tryz.prog [("math/bits.deBruijn32tab", Rows.laid_math_bits_deBruijn32tab), ("math/bits.deBruijn64tab", Rows.laid_math_bits_deBruijn64tab), ("internal/strconv.uint64pow10", Rows.laid_internal_strconv_uint64pow10), ("strconv.ErrRange", Rows.laid_strconv_ErrRange), ("strconv.ErrSyntax", Rows.laid_strconv_ErrSyntax)] W) : Tabs (rB W) := by
 have h1:=h.tail;have h2:=h1.tail;have b:(Rows.laid_math_bits_deBruijn64tab:DataW Unit)=Lib.tabData .u8 (Lib.deBruijn64tab.map fun z:Nat=>(z:Int)):=by rfl
 rw [b] at h1;have a:=Lib.tabIs_of_head (g:=1) (t:=265) (e:=5) (n:=64) kr_ kr_ Tryz.underlying265 Tryz.underlying5 kr_ kr_ h1;have c:(Rows.laid_internal_strconv_uint64pow10:DataW Unit)=Lib.tabData .u64 Lib.pow10Tab:=by rfl
 rw [c] at h2;have d:=Lib.tabIs_of_head (g:=3) (t:=386) (e:=160) (n:=20) kr_ kr_ Tryz.underlying386 Tryz.underlying160 kr_ kr_ h2;refine ⟨VarC.ofWorld d, ?_⟩;unfold Lib.TabIs at a;rw [Ry] at a;exact VarC.ofWorld a
theorem uy:laidOutB Tryz.prog=true:=by kernel_rfl
end Go.Proofs.YthnpijdjlddpmaaGreatDoor
namespace Go.Jog
open Go
theorem VN {F:Fx}{k:List KI}{b:Fr}{C:Mem}{L:List Ent}{e:Exit}{v:Value}{t d a:Nat}{f:List Value}(i:Ent.arr v t d a f∈L)(h:∀ A c,v=.slice A a c->(0<a->∃ g,A=some ⟨g,0,none⟩)->G F k e b C L):G F k e b C L :=
 G.form i fun j _=>by
  rcases j with ⟨h1,h2⟩ | ⟨g,c,h1,_,_⟩
  ·exact h none 0 (by rw [h1,h2]) om_
  exact h _ c h1 (fun _=>⟨g,Z⟩)
end Go.Jog
namespace Go.Proofs.YthnpijdjlddpmaaGreatDoor
open Go.Proofs.Tryz
open Go Go.Jog
set_option maxRecDepth 100000
variable {a b:Int}{bf ds fs:List Rat}{h:Bool}{i j k:Nat}{k0 k1 k2:Int}{ls:List (Rat × Value)}{m n:Nat}{p:Rat × Value}{pts:List Pt}{q:Rat}{rows:List (List Str × Str)}{rs:List (List Rat × Rat)}{s:Nat}{t:Tri}{vs:List Value}{w x0 x1 x2 x3 y0 y1 y2 y3 z:Int}{α:Type}{l:List α}
/-! Small parts: numbers of quarters and of halves. -/
theorem Bi (a:w≠0)(h:q*w=z):q=lf z w:=by
 have c:(w:Rat)≠0:=by simpa using a
 unfold lf;rw [Rat.mkRat_eq_div];have b:q=z / w:=by grind
 rw [b];split
 ·rename_i d;have:((w.natAbs:Nat):Int)=-w:=by omega
  rw [show ((w.natAbs:Nat):Rat)=(((w.natAbs:Nat):Int):Rat) from rfl,this];simp only [Rat.intCast_neg];grind
 have:((w.natAbs:Nat):Int)=w:=by omega
 rw [show ((w.natAbs:Nat):Rat)=(((w.natAbs:Nat):Int):Rat) from rfl,this]
theorem oq (a:w≠0):lf z w*w=z:=by
 have b:(w:Rat)≠0:=by simpa using a
 have h:=Bi (q:=(z:Rat) / w) (z:=z) a (by grind);rw [<- h];grind
theorem pu (a:w≠0)(h:q*w=z)(b:z.natAbs<1000000000)(c:w.natAbs<1000000000):QB 1 q:=by
 rw [Bi a h];exact qD a b c
def iA (x0 y0 x1 y1 x2 y2:Int):Int:=(x1-x0)*(y2-y0)-(y1-y0)*(x2-x0)
def At4 (p:Pt)(x y:Int):Prop:=p.1*4=x/\p.2*4=y
def Qtr (p:Pt):Prop:=∃ x y:Int,At4 p x y/\(-600<=x/\x<=600)/\(-600<=y/\y<=600)
def Hlf (z:Rat):Prop:=∃ k:Int,z*2=k/\(-38<=k/\k<=38)
theorem mA {a b c:Pt}(d:At4 a x0 y0)(e:At4 b x1 y1)(f:At4 c x2 y2):dJ a b c*16=(iA x0 y0 x1 y1 x2 y2:Int):=by
 unfold iA dJ;simp only [Tg,RJ];rw [<- d.1,<- d.2,<- e.1,<- e.2,<- f.1,<- f.2];grind
theorem jq {M K:Nat}(c:a.natAbs<=M)(d:b.natAbs<=K):(a*b).natAbs<=M*K:=by
 rw [Se];exact Sy c d
theorem yP (h:(-600<=x0/\x0<=600)/\(-600<=y0/\y0<=600)/\(-600<=x1/\x1<=600)/\(-600<=y1/\y1<=600)/\(-600<=x2/\x2<=600)/\(-600<=y2/\y2<=600)):(iA x0 y0 x1 y1 x2 y2).natAbs<=2880000:=by
 have h1:=jq (a:=x1-x0) (b:=y2-y0) (M:=1200) (K:=1200) om_ om_;have h2:=jq (a:=y1-y0) (b:=x2-x0) (M:=1200) (K:=1200) om_ om_;unfold iA;omega
theorem wt {n d:Rat}{N W:Int}(b:n*16=N)(c:d*16=W)(a:d≠0):W≠0/\n / d*W=N:=by
 constructor
 ·intro h;subst h;exact a (by grind)
 grind
theorem Ot {p:Pt}(a:∀ j,Qtr (cor pts t j))(b:dJ (cor pts t 0) (cor pts t 1) (cor pts t 2)≠0)(c:Qtr p)(j:Nat):QB 1 (wgt pts t p j):=by
 obtain ⟨x0,y0,h0,d,e⟩:=a 0;obtain ⟨x1,y1,h1,f,g⟩:=a 1;obtain ⟨x2,y2,h2,h,i⟩:=a 2;obtain ⟨x3,y3,h3,k,l⟩:=a ((j+1) % 3);obtain ⟨m,n,h4,o,q⟩:=a ((j+2) % 3);obtain ⟨r,s,h5,u,v⟩:=c;obtain ⟨w,x⟩:=wt (mA h5 h3 h4) (mA h0 h1 h2) b;have k1:=yP (x0:=r) (y0:=s) (x1:=x3) (y1:=y3) (x2:=m) (y2:=n) ⟨u,v,k,l,o,q⟩;have k2:=yP (x0:=x0) (y0:=y0) (x1:=x1) (y1:=y1) (x2:=x2) (y2:=y2) ⟨d,e,f,g,h,i⟩;exact pu w x om_ om_
theorem jd {a b c:Pt}{e f g:Rat}(i:At4 a x0 y0)(j:At4 b x1 y1)(k:At4 c x2 y2)(n:e*2=k0)(o:f*2=k1)(p:g*2=k2)(l:dJ a b c≠0) :
  iA x0 y0 x1 y1 x2 y2≠0/\(oX a b c e f g).1*(iA x0 y0 x1 y1 x2 y2:Int)=((2*((k1-k0)*(y2-y0)-(y1-y0)*(k2-k0)):Int):Rat)/\(oX a b c e f g).2*(iA x0 y0 x1 y1 x2 y2:Int)=((2*((x1-x0)*(k2-k0)-(k1-k0)*(x2-x0)):Int):Rat):=by
 have m:=mA i j k;have q:eF (b.1-a.1) (b.2-a.2) (c.1-a.1) (c.2-a.2)=dJ a b c:=by unfold eF dJ;grind
 refine ⟨fun h=>l (by rw [h] at m;grind), ?_, ?_⟩
 ·unfold oX;simp only;rw [q,<- m];unfold eF;simp only [Tg,RJ];rw [<- i.2,<- j.2,<- k.2,<- n,<- o,<- p];generalize dJ a b c=d at l;grind
 unfold oX;simp only;rw [q,<- m];unfold eF;simp only [Tg,RJ];rw [<- i.1,<- j.1,<- k.1,<- n,<- o,<- p];generalize dJ a b c=d at l;grind
theorem kh {c d:Int}(h:a.natAbs<=76/\b.natAbs<=1200/\c.natAbs<=1200/\d.natAbs<=76):(a*b-c*d).natAbs<=182400:=by
 have h1:=jq h.1 h.2.1;have h2:=jq h.2.2.1 h.2.2.2;omega
theorem IW (e:∀ j,Qtr (cor pts t j))(h:dJ (cor pts t 0) (cor pts t 1) (cor pts t 2)≠0)(f:∀ j,Hlf (fz fs t j)):QP 1 (dQ pts fs t):=by
 obtain ⟨x0,y0,h0,i,k⟩:=e 0;obtain ⟨x1,y1,h1,l,m⟩:=e 1;obtain ⟨x2,y2,h2,n,o⟩:=e 2;obtain ⟨k0,p,v⟩:=f 0;obtain ⟨k1,q,w⟩:=f 1;obtain ⟨k2,r,x⟩:=f 2;obtain ⟨g,s,u⟩:=jd h0 h1 h2 p q r h;have y:=yP (x0:=x0) (y0:=y0) (x1:=x1) (y1:=y1) (x2:=x2) (y2:=y2) ⟨i,k,l,m,n,o⟩;have z:=kh (a:=k1-k0) (b:=y2-y0) (c:=y1-y0) (d:=k2-k0) ⟨by omega,by omega,by omega,by omega⟩;have A:=kh (a:=k1-k0) (b:=x2-x0) (c:=x1-x0) (d:=k2-k0) ⟨by omega,by omega,by omega,by omega⟩;unfold dQ;exact ⟨pu g s om_ om_,pu g u om_ om_⟩
theorem LB {p:Pt}(c:At4 (cor pts t 0) x0 y0)(h:At4 (cor pts t 1) x1 y1)(i:At4 (cor pts t 2) x2 y2)(e:At4 p x3 y3)(d:fz fs t 0*2=k0)(j:fz fs t 1*2=k1)(k:fz fs t 2*2=k2)
  (l:dJ (cor pts t 0) (cor pts t 1) (cor pts t 2)≠0):onQ pts fs t p*((2*iA x0 y0 x1 y1 x2 y2:Int):Rat)=((k0*iA x0 y0 x1 y1 x2 y2+((k1-k0)*(y2-y0)-(y1-y0)*(k2-k0))*(x3-x0)+((x1-x0)*(k2-k0)-(k1-k0)*(x2-x0))*(y3-y0):Int):Rat):=by
 obtain ⟨s,f,g⟩:=jd c h i d j k l;unfold onQ If;simp only [SA,List.foldl_nil];have a:=f;have b:=g;unfold dQ;generalize (oX (cor pts t 0) (cor pts t 1) (cor pts t 2) (fz fs t 0) (fz fs t 1) (fz fs t 2)).1=u at a ⊢;generalize (oX (cor pts t 0) (cor pts t 1) (cor pts t 2) (fz fs t 0) (fz fs t 1) (fz fs t 2)).2=v at b ⊢;clear f g;generalize ((k1-k0)*(y2-y0)-(y1-y0)*(k2-k0))=n1 at a ⊢;generalize ((x1-x0)*(k2-k0)-(k1-k0)*(x2-x0))=n2 at b ⊢;generalize iA x0 y0 x1 y1 x2 y2=w at a b ⊢;simp only [Tg,RJ,Rat.intCast_add] at a b ⊢;have m:=c.1;have n:=c.2;have o:=e.1;have q:=e.2;generalize fz fs t 0=x at d ⊢;rw [<- m,<- n,<- o,<- q,<- d];have r:((2:Int):Rat)=2:=rfl;rw [r] at a b ⊢;grind
theorem O9 (b:(-600<=x0/\x0<=600)/\(-600<=y0/\y0<=600)/\(-600<=x1/\x1<=600)/\(-600<=y1/\y1<=600)/\(-600<=x2/\x2<=600)/\(-600<=y2/\y2<=600))(g:(-600<=x3/\x3<=600)/\(-600<=y3/\y3<=600))(h:(-38<=k0/\k0<=38)/\(-38<=k1/\k1<=38)/\(-38<=k2/\k2<=38)) :
  (k0*iA x0 y0 x1 y1 x2 y2+((k1-k0)*(y2-y0)-(y1-y0)*(k2-k0))*(x3-x0)+((x1-x0)*(k2-k0)-(k1-k0)*(x2-x0))*(y3-y0)).natAbs<=600000000:=by
 have e:=yP b;have f:=kh (a:=k1-k0) (b:=y2-y0) (c:=y1-y0) (d:=k2-k0) ⟨by omega,by omega,by omega,by omega⟩;have i:=kh (a:=k1-k0) (b:=x2-x0) (c:=x1-x0) (d:=k2-k0) ⟨by omega,by omega,by omega,by omega⟩;have j:=jq (show k0.natAbs<=38 by omega) e;have k:=jq f (show (x3-x0).natAbs<=1200 by omega);have l:=jq (show ((x1-x0)*(k2-k0)-(k1-k0)*(x2-x0)).natAbs<=182400 by omega) (show (y3-y0).natAbs<=1200 by omega);omega
theorem Qj {p:Pt}(a:∀ j,Qtr (cor pts t j))(c:dJ (cor pts t 0) (cor pts t 1) (cor pts t 2)≠0)(b:∀ j,Hlf (fz fs t j))(n:Qtr p):QB 1 (onQ pts fs t p):=by
 obtain ⟨x0,y0,h0,d,e⟩:=a 0;obtain ⟨x1,y1,h1,f,g⟩:=a 1;obtain ⟨x2,y2,h2,h,i⟩:=a 2;obtain ⟨x3,y3,h3,o⟩:=n;obtain ⟨k0,k,q⟩:=b 0;obtain ⟨k1,l,r⟩:=b 1;obtain ⟨k2,m,s⟩:=b 2;have u:=(jd h0 h1 h2 k l m c).1;have v:=yP (x0:=x0) (y0:=y0) (x1:=x1) (y1:=y1) (x2:=x2) (y2:=y2) ⟨d,e,f,g,h,i⟩;have w:=O9 ⟨d,e,f,g,h,i⟩ o ⟨q,r,s⟩;exact pu om_ (LB h0 h1 h2 h3 k l m c) om_ om_
theorem B7 (a:w=1∨w=2∨w=4)(e:-150<=z/\z<=150):∃ x:Int,lf z w*4=x/\(-600<=x/\x<=600):=by
 have h:=oq (z:=z) (w:=w) om_;have b:((1:Int):Rat)=1:=rfl;have c:((2:Int):Rat)=2:=rfl;have d:((4:Int):Rat)=4:=rfl;rcases a with rfl | rfl | rfl
 ·refine ⟨4*z, ?_,by omega⟩;rw [RJ,<- h,b,d];grind
 ·refine ⟨2*z, ?_,by omega⟩;rw [RJ,<- h,c];grind
 exact ⟨z,h,by omega⟩
theorem wC {x y n:Int}(c:n=1∨n=2)(l:-128<=x/\x<=127)(m:-128<=y/\y<=127):Qtr (dF a b h x y n):=by
 have o:=yj a;have p:=yj b;have g:dV h=1∨dV h=2:=by cases h <;> simp [dV]
 have d:dV h*n=1∨dV h*n=2∨dV h*n=4:=by rcases g with e | e <;> rcases c with f | f <;> rw [e,f] <;> omega
 obtain ⟨u,i,j⟩:=B7 (z:=x+a.tmod 8*n) d (by rcases c with f | f <;> subst f <;> omega);obtain ⟨v,k,bv⟩:=B7 (z:=y+b.tmod 8*n) d (by rcases c with f | f <;> subst f <;> omega);exact ⟨u,v,⟨i,k⟩,j,bv⟩
theorem Bo :∀ p∈cE m a b h,Qtr p:=by
 intro p c;obtain ⟨x,d,rfl⟩:=QO.1 c;have:=Lj m x d;exact wC (.inl Z) om_ om_
theorem Ab:Qtr (0,0):=⟨0,0,⟨by decide +kernel,by decide +kernel⟩,by decide,by decide⟩
theorem oo {P:α->Prop}{d:α}(h:∀ x∈l,P x)(a:P d):P (l.getD i d):=by
 rw [al];cases h1:l[i]? with
 | none=>exact a
 | some x=>exact h x (QF h1)
theorem uR (j:Nat):Qtr (cor (cE m a b h) t j):=oo Bo Ab
theorem NB (n:Nat)(H:Hts):∀ q∈fsK n H,Hlf q:=by
 intro q a;obtain ⟨i,_,rfl⟩:=QO.1 a;have b:=EZ ((Ij H).getD (i % 6) 0);generalize ((Ij H).getD (i % 6) 0).tmod 20=z at b ⊢;have c:((1:Int):Rat)=1:=rfl;have d:((2:Int):Rat)=2:=rfl;rcases uD H.half with e | e
 ·have h:=oq (z:=z) (w:=1) dc_;rw [e];refine ⟨2*z, ?_,by omega⟩;rw [RJ,<- h,c,d];grind
 rw [e];exact ⟨z,oq dc_,by omega⟩
theorem tJ:Hlf 0:=⟨0,by decide +kernel,by decide⟩
theorem Na:Hlf 1:=⟨2,by decide +kernel,by decide⟩
theorem LN {H:Hts}(j:Nat):Hlf (fz (fsK n H) t j):=oo (NB n H) tJ
theorem AD (j:Nat):Hlf (fz (nK n k) t j):=oo (fun q a=>by
 rcases AE q a with rfl | rfl
 ·exact tJ
 exact Na) tJ
theorem Bq (S:Sht)(s:Sgt)(a:SgtR s):Qtr (lK S s):=by
 unfold lK;split
 ·exact wC (.inr Z) a.px a.py
 exact oo Bo Ab
theorem tX {P:Rat->Prop}{m:List (Nat × Rat)}(a:P 0)(h:∀ x∈m,P x.2):∀ q∈rY n m,P q:=by
 intro q b;obtain ⟨j,_,rfl⟩:=QO.1 b;cases h1:dq m j with
 | none=>exact a
 | some v =>
  exact h _ (fZ h1)
theorem pl {p:Nat}{a:List (Nat × Rat)}{b c:Rat}(e:∀ x∈a,QB 1 x.2)(f:QB 3 b)(d:QB 1 c):Oh (iL s p k a b c):=by
 refine ⟨tX (QB_zero.le dc_) ?_,(jG d f).le dc_⟩;intro x g;obtain ⟨y,hy,rfl⟩:=QO.1 g;exact (jG d (e y hy)).le dc_
theorem Jb {B:Bk}{o:Obs}{p:Pt}{z:Rat}(c:∀ j,QB 1 (wgt B.pts t p j))(a:∀ j,QP 1 (slf B.pts t j))(d:QB 3 (kK o z))(f:o.kind≠1->o.kind≠2->QB 3 (qC o)/\QB 3 (jp o)):∀ r∈rowsO B o p t z,Oh r:=by
 have e:∀ x∈atT t (wgt B.pts t p),QB 1 x.2:=gp (c 0) (c 1) (c 2);have g:∀ x∈atT t (fun j=>(slf B.pts t j).1),QB 1 x.2:=gp (a 0).1 (a 1).1 (a 2).1;have i:∀ x∈atT t (fun j=>(slf B.pts t j).2),QB 1 x.2:=gp (a 0).2 (a 1).2 (a 2).2;intro r hr;unfold rowsO at hr;split at hr
 ·rcases QX.1 hr with h | h
  ·split at h
   ·rw [Q3.1 h];exact pl e d QB_one
   simp at h
  split at h
  ·rw [Q3.1 h];exact pl e d mT
  simp at h
 rename_i h1;split at hr
 ·obtain ⟨k,_,h⟩:=List.mem_flatMap.1 hr;obtain ⟨sg,b,rfl⟩:=QO.1 h;exact pl e d (rS sg b)
 rename_i h2;obtain ⟨l,m⟩:=f h1 h2;obtain ⟨k,_,h⟩:=List.mem_flatMap.1 hr;rcases QX.1 h with h | h
 ·obtain ⟨sg,b,rfl⟩:=QO.1 h;exact pl g l (rS sg b)
 obtain ⟨sg,b,rfl⟩:=QO.1 h;exact pl i m (rS sg b)
def tiK (S:Sht)(s:Sgt):Nat:=(lS (cE (S.kd % 8) S.a S.b S.h) (shT (S.kd % 8)) (lK S s)).headD 0
def tK (S:Sht)(s:Sgt):Tri:=(shT (S.kd % 8)).getD (tiK S s) (0,0,0)
def zK (S:Sht)(H:Hts)(s:Sgt):Rat:=onQ (cE (S.kd % 8) S.a S.b S.h) (fsK (cE (S.kd % 8) S.a S.b S.h).length H) (tK S s) (lK S s)
noncomputable def roK (S:Sht)(H:Hts)(l:List Sgt)(i:Nat):List RowQ:=rowsO (cD S H l) (fJ S (l.getD i DB) i) (lK S (l.getD i DB)) (tK S (l.getD i DB)) (zK S H (l.getD i DB))
theorem Nd (S:Sht)(s:Sgt)(i:Nat)(b:SgtR s):ObsAt (fJ S s i) (lK S s):=by
 have a:=(ug S s b).1;refine ⟨?_, ?_,(FP a).1,(FP a).2, ?_⟩
 ·unfold fJ;split
  ·rfl
  split <;> rfl
 ·unfold fJ;split
  ·rfl
  split <;> rfl
 unfold fJ;split
 ·intro h;exact absurd (show (1:Int)=2 from h) dc_
 split
 ·intro _;exact ok1 (sV s.depth)
 intro h;exact absurd (show (3:Int)=2 from h) dc_
theorem Nc (S:Sht)(s:Sgt)(i:Nat):0<=kA (isU (fJ S s i).upper) colK 0:=by
 have c:=No s;have d:=Mj s;have a:=qi (s.u1 % 3) om_;have b:=qi (max (loU s) (upU s)) om_;unfold fJ;split
 ·simp only;rw [a];omega
 split <;> (simp only;rw [b];omega)
theorem Gi (S:Sht)(s:Sgt)(i:Nat):(fJ S s i).kind≠1->(fJ S s i).kind≠2->(aX (fJ S s i).nx=true/\aX (fJ S s i).ny=true/\aX (fJ S s i).nz=true)/\QB 1 (dC (fJ S s i).nx)/\QB 1 (dC (fJ S s i).ny)/\QB 1 (dC (fJ S s i).nz)/\dC (fJ S s i).nz≠0:=by
 have h0:=nL s.n0;have h1:=nL s.n1;have h2:=ol s.n2;have a:=eh (s.n0.tmod 5) om_;have l1:=eh (s.n1.tmod 5) om_;have l2:=eh (fa s.n2) om_;have b:=ux s.n2;unfold fJ;split
 ·intro h;exact absurd rfl h
 split
 ·intro _ h;exact absurd rfl h
 intro _ _;simp only;rw [di (ok1 a),di (ok1 l1),di (ok1 l2)];exact ⟨⟨ok1 a,ok1 l1,ok1 l2⟩,a,l1,l2,by simpa using b⟩
theorem BC (S:Sht)(s:Sgt)(i:Nat):(fJ S s i).kind=2->(fJ S s i).depth=qtx (lf ((s.depth % 12:Nat):Int) 2):=by
 unfold fJ;split
 ·intro h;exact absurd (show (1:Int)=2 from h) dc_
 split
 ·intro _;rfl
 intro h;exact absurd (show (3:Int)=2 from h) dc_
theorem JK (S:Sht)(s:Sgt)(i:Nat){z:Rat}(a:QB 1 z):QB 3 (kK (fJ S s i) z):=by
 unfold kK;split
 ·rename_i h;rw [BC S s i h,di (ok1 (sV s.depth))];have h:=fc a (sV s.depth);exact h.le dc_
 exact a.le dc_
theorem Gj (S:Sht)(s:Sgt)(i:Nat)(b:(fJ S s i).kind≠1)(c:(fJ S s i).kind≠2):QB 3 (qC (fJ S s i))/\QB 3 (jp (fJ S s i)):=by
 obtain ⟨_,d,l1,l2,a⟩:=Gi S s i b c;exact ⟨(mC (gg d) l2 a).le dc_,(mC (gg l1) l2 a).le dc_⟩
theorem locK (S:Sht)(s:Sgt)(c:SgtR s):(∃ r,lS (cE (S.kd % 8) S.a S.b S.h) (shT (S.kd % 8)) (lK S s)=tiK S s::r)/\(shT (S.kd % 8))[tiK S s]?=some (tK S s):=by
 have d:=(ug S s c).2;unfold tK tiK;cases h:lS (cE (S.kd % 8) S.a S.b S.h) (shT (S.kd % 8)) (lK S s) with
 | nil=>exact absurd h d
 | cons i r =>
  have hm:i∈lS (cE (S.kd % 8) S.a S.b S.h) (shT (S.kd % 8)) (lK S s):=by rw [h];exact PN
  unfold lS at hm;have e:=Q2.1 (SH.1 hm).1;refine ⟨⟨r,Z⟩, ?_⟩;simp only [List.headD_cons];rw [al,aj e];rfl
theorem Qr (S:Sht)(H:Hts)(l:List Sgt)(s:Sgt)(i:Nat)(c:SgtR s) :
  Fine (cD S H l) (fsK (cE (S.kd % 8) S.a S.b S.h).length H) (fJ S s i) (lK S s) (tiK S s) (tK S s) (zK S H s):=by
 obtain ⟨o,_⟩:=fu (S.kd % 8) (Rs _ dc_) S.a S.b S.h;obtain ⟨⟨r,hr⟩,f⟩:=locK S s c;have d:=jY o.ok (QF f);have g:=Bq S s c;have k:∀ j,QB 1 (wgt (cE (S.kd % 8) S.a S.b S.h) (tK S s) (lK S s) j):=Ot (fun j=>uR j) d g;have m:∀ j,QP 1 (slf (cE (S.kd % 8) S.a S.b S.h) (tK S s) j):=fun j=>IW (fun j=>uR j) d (fun j=>AD j);have e:QB 1 (zK S H s):=Qj (fun j=>uR j) d (fun j=>LN j) g;have n:=JK S s i e;refine ⟨Nd S s i c,⟨r,hr⟩,f, ?_,e.le dc_,n.le dc_,fun j=>(k j).le dc_,Nc S s i,fun j=>(m j).le dc_, ?_, ?_⟩
 ·show EP (cE (S.kd % 8) S.a S.b S.h) (shT (S.kd % 8)) _ _=_;unfold EP;rw [hr];show Dz (zK S H s)=_;unfold Dz;rw [aJ (ok1 e)]
 ·intro h1 h2;obtain ⟨h0,p,l1,l2,q⟩:=Gi S s i h1 h2;exact ⟨h0,p.le dc_,l1.le dc_,l2.le dc_,q⟩
 exact Jb k m n (Gj S s i)
theorem Eh (S:Sht)(H:Hts)(l:List Sgt)(c:∀ s∈l,SgtR s):Rich (cD S H l) (fsK (cE (S.kd % 8) S.a S.b S.h).length H) (roK S H l):=by
 refine ⟨(fu (S.kd % 8) (Rs _ dc_) S.a S.b S.h).1,HW S H l c,tk S H l c,⟨Z,uG _ _,fun q e=>(G9 _ H q e).le dc_⟩, ?_, ?_⟩
 ·have:=(KR S H l).2;rw [KQ];omega
 intro i o f;obtain ⟨g,s,d,rfl⟩:=ms f;refine ⟨_,_,_,_,Qr S H l s i (c s (QF d)), ?_⟩;unfold roK;rw [al,d];rfl
theorem Dt (x y:Nat)(a:x<18446744073709551616)(b:y<18446744073709551616)(C:Mem):Gives cx.P 125 [.int .u64 x,.int .u64 y] C (.tuple #[.int .u64 ((x*y / 18446744073709551616:Nat):Int),.int .u64 ((x*y % 18446744073709551616:Nat):Int)]) :=
 Gives.ofCalls kr_ (fun w=>Any.bits_Mul Tryz.mul x y a b w) C
theorem FX {a:Value}{b:List Value}(_d:k+m<=n)(c:m<=k)(_e:b.length=n-k) :
  az (List.replicate k a++b) ((List.replicate k a++b).take m) k=List.replicate (k+m) a++b.drop m:=by
 have h1:(List.replicate k a++b).take m=List.replicate m a:=by
  rw [List.take_append_of_le_length (by simpa using c),List.take_replicate,R9 c]
 have h2:(List.replicate k a++b).take k=List.replicate k a:=by
  rw [List.take_append_of_le_length am,List.take_replicate,Nat.min_self]
 have h3:(List.replicate k a++b).drop (k+m)=b.drop m:=by
  rw [Ty,Sc,RX am,SB];congr 1;omega
 unfold az;rw [h1,h2,Sc,h3,List.replicate_append_replicate]
theorem FQ (a:Value)(n:Nat):fq [a] n=List.replicate n a:=by
 rw [de];induction n with
 | zero=>rfl
 | succ n b=>rw [RP,Sa,b,RP];rfl
theorem Jy (n:Nat)(a:n<18446744073709551616)(C:Mem):Gives cx.P 125 [.int .u64 (1:Int),.int .u64 n] C (.tuple #[.int .u64 0,.int .u64 n]):=by
 have h:=Dt 1 n om_ a C;have b:1*n / 18446744073709551616=0:=by omega
 have c:1*n % 18446744073709551616=n:=by omega
 rw [b,c] at h;exact h
theorem Dq (C:Mem)(v:Value)(n:Nat)(s:Str)(g:Sl C 1 v [[ai s]])(y:n<=1000000):Jog.Fn cx.P 83 [v,.int .i64 n] C [] fun u _z e=>∃ b,u=.slice (some ⟨b,0,none⟩) n n/\e=[.arr u 56 1 n (List.replicate n (ai s))]:=by
 have p:=g;obtain ⟨A,c,rfl,_⟩:=p;refine Uv func83 48 U3 fun w0=>Ul 1 [0,1] Z<|Ul 2 [0,1,10] Z<|Uo (fun h=>?_) fun h=>?_
 ·simp at h;omega
 refine Um 2 Z fun R d=>Vb (c:=1) U8 Z fl_<|Up U6<|Vb (c:=(n:Int)) U8 (by rw [IntKind.wrap_u64];omega) fl_<|UC (Jy n om_ _) U7 fl_<|C4 5 [0,5,6] d Z<|Um 5 Z fun R d=>US U8<|Ur [0,6,26] d Z<|Uo (fun i=>?_) fun i=>?_
 ·simp at i;omega
 refine Um 1 Z fun R d=>Vb (c:=(n:Int)) U8 (by rw [IntKind.wrap_i64];omega) fl_<|Vo U9 (QG _) (by show 16*n<=281474976710656;omega) (by simp only [maxLen];omega) fl_ fun a=>C4 1 [0,7] d Z<|Um 2 Z fun R d=>V2 (j:=0) (q:=min 1 n) U12 g U2 (by rw [cC];show 0+min 1 n*1<=n*1;omega) fl_<|C4 1 [7,8] d Z ?_;have r:az (fq [ai []] n) (([[ai s]]:List (List Value)).take (min 1 n)).flatten 0=List.replicate (min 1 n) (ai s)++List.replicate (n-min 1 n) (ai []):=by
  rw [FQ];cases n with
  | zero=>rfl
  | succ n=>rw [show min 1 (n+1)=1 by omega,RP];rfl
 refine UE (L':=[.arr (.slice (some ⟨a,0,none⟩) n n) 56 1 n (List.replicate (min 1 n) (ai s)++List.replicate (n-min 1 n) (ai []))]) (by rw [<- r];rfl)<|G.loop (fun fr C' e t=>∃ (k:Nat),(k<=n/\min 1 n<=k)/\fr=[(7,[],.slice (some ⟨a,0,none⟩) n n),(8,[],.int .i64 k)]/\e=[.arr (.slice (some ⟨a,0,none⟩) n n) 56 1 n (List.replicate k (ai s)++List.replicate (n-k) (ai []))]/\t=n-k) (hn_ [7,8] Z) ⟨min 1 n,⟨Nat.min_le_right _ _,QG _⟩,Z,Z,Z⟩ (fun fr B D m w x=>?_);obtain ⟨k,⟨l,E⟩,rfl,rfl,rfl⟩:=x;refine Ul 4 [7,8,37] Z<|Uo (fun f=>?_) fun f=>?_
 ·simp only [QQ] at f;have o:k<n:=by omega
  have F:1<=k:=by omega
  refine UJ [0,1,2,3,4,5,6,7,8,9] [] Z kr_ fun R H d=>Us 3 Z<|Vf k n n U12 (fun _=>⟨.inr ⟨_,Z⟩,.inl ⟨Z,Z⟩,.inl ⟨Z,Z⟩,l,QG _,QG _⟩) U2<|Us 2 Z<|Vf 0 k n U12 (fun _=>⟨.inl ⟨Z,Z⟩,.inr ⟨_,Z⟩,.inl ⟨Z,Z⟩,QK _,l,QG _⟩) U2 ?_;refine V1 (j:=0) (off:=k) (g0:=a) (dl:=n-k) (dc:=n-k) (sl:=k-0) (sc:=n-0) (q:=min k (n-k)) U8 (by show some (Value.slice (if n=k then some (⟨a,0,none⟩:Addr) else (some (⟨a,0,none⟩:Addr)).map (·.add (k*1))) (n-k) (n-k))=_;rw [aB om_];simp [Addr.add_lit]) (by show some (Value.slice (if n=0 then some (⟨a,0,none⟩:Addr) else (some (⟨a,0,none⟩:Addr)).map (·.add (0*1))) (k-0) (n-0))=_;split <;> simp [Addr.add_lit]) U2 (by simp [nN,ai]) ap fl_ ?_;refine UX (((k+min k (n-k):Nat):Int)) U4 om_ om_ om_ U2<|C4 1 [7,8] d Z<|UE (L':=[.arr (.slice (some ⟨a,0,none⟩) n n) 56 1 n (List.replicate (k+min k (n-k)) (ai s)++List.replicate (n-(k+min k (n-k))) (ai []))]) (by rw [FX (n:=n) om_ (Nat.min_le_left _ _) am,List.drop_replicate,Nat.sub_sub];rfl)<|UA (m':=n-(k+min k (n-k))) om_ w (hn_ [7,8] Z) ⟨k+min k (n-k),⟨by omega,by omega⟩,Z,Z,Z⟩
 simp only [Q1] at f;have o:k=n:=by omega
 subst o;refine Ul 2 [4] Z<|Uz (UZ Z Z ?_);exact ⟨a,Z,by simp⟩
theorem jk (C:Mem)(n:Nat)(a:n<=1000000):Jog.Fn cx.P 76 [.int .i64 n] C [] fun u _g c=>∃ b,u=.slice (some ⟨b,0,none⟩) n n/\c=[.arr u 56 1 n (List.replicate n (ai [48]))]:=by
 refine Uv func76 6 U3 fun w0=>Ul 1 [0] Z<|UN [(2,3)] Z fun R d=>UI [[ai [48]]] U12 fun h _ _ e=>Up U6<|D.call (Dq _ _ n [48] e.m_ a) Z (.inr dc_) U6 (QL _) fl_ fun i _ j _ f=>C4 1 [2] d Z ?_;obtain ⟨b,rfl,rfl⟩:=f;refine Uz (UZ Z Z ?_);exact ⟨b,Z,Z⟩
theorem eZ {f:α->List Value}{x:α}(h:l[i]?=some x):(l.map f)[i]?=some (f x):=by rw [QI,h];rfl
def eL (s:Str):List Value:=[ai s]
def aZ (q:Rat):List Value:=[ai (qtx q)]
theorem jB (l:List Rat):l.map aZ=(l.map qtx).map eL:=by rw [Ry];rfl
def Ii {α:Type}(p:α->Bool):List α->Nat->Int
 | [],_=>-1
 | x::l,k=>if p x then (k:Nat) else Ii p l (k+1)
theorem nZ {a:Type}{p:a->Bool}:∀ {l:List a}{i k:Nat}{x:a},l[i]?=some x->p x=true->(∀ y∈l.take i,p y=false)->Ii p l k=((k+i:Nat):Int)
 | y::l,0,k,x,h,b,_=>by
  simp only [List.getElem?_cons_zero,Rc] at h;subst h;simp [Ii,b]
 | y::l,i+1,k,x,h,b,c=>by
  simp only [SP] at h;have hy:p y=false:=c y am;have:=nZ (k:=k+1) h b (fun z d=>c z (by simp [d]));simp only [Ii,hy,Rx,RU,this];omega
theorem lL {a:Type}{p:a->Bool}:∀ {l:List a}{k:Nat},(∀ y∈l,p y=false)->Ii p l k=-1
 | [],_,_=>rfl
 | y::l,k,h=>by
  simp only [Ii,h y PN,Rx,RU];exact lL fun z b=>h z (QR _ b)
theorem sf (p:α->Bool)(l:List α):(Ii p l 0=-1/\∀ y∈l,p y=false)∨∃ (i:Nat)(x:α),Ii p l 0=(i:Nat)/\l[i]?=some x/\p x=true/\∀ y∈l.take i,p y=false:=by
 by_cases h:∀ y∈l,p y=false
 ·exact .inl ⟨lL h,h⟩
 right;have d:∀ (l:List α),(¬ ∀ y∈l,p y=false)->∃ (i:Nat)(x:α),l[i]?=some x/\p x=true/\∀ y∈l.take i,p y=false:=by
  intro l;induction l with
  | nil=>intro h;exact absurd (fun y hy=>(by cases hy)) h
  | cons a l e =>
   intro h;by_cases b:p a=true
   ·exact ⟨0,a,Z,b,by simp⟩
   have c:p a=false:=by simpa using b
   obtain ⟨i,x,h1,h2,h3⟩:=e (fun h2=>h (fun y hy=>by
    rcases QU.1 hy with rfl | hy
    ·exact c
    exact h2 y hy))
   refine ⟨i+1,x,by simpa using h1,h2,fun y hy=>?_⟩;rw [List.take_succ_cons] at hy;rcases QU.1 hy with rfl | hy
   ·exact c
   exact h3 y hy
 obtain ⟨i,x,h1,h2,h3⟩:=d l h;exact ⟨i,x,by rw [nZ h1 h2 h3,RR],h1,h2,h3⟩
theorem F1 (C:Mem)(v:Value)(l:List Str)(g:Nat)(d:List Value)(a:Str->Bool)(e:Sl C 1 v (l.map eL))(_A:Jog.Enters cx.P g=true)
  (n:∀ x∈l,∀ D:Mem,C.le D->Gives cx.P g (ai x::d) D (.bool (a x))) :
  Gives cx.P 93 [v,.func (.func g) #[] ⟨d⟩] C (.int .i64 (Ii a l 0)):=by
 obtain ⟨o,c0,rfl,p,B,_⟩:=id e;have E:maxLen<=9223372036854775807:=by simp [maxLen]
 simp only [aw] at e p ⊢;refine Uv func93 19 U3 fun w0=>Ul 1 [0,1] Z<|Ul 3 [0,1,7,8] Z<|G.loop (fun fr C' q r=>∃ (i:Nat),(i<=l.length/\∀ y∈l.take i,a y=false)/\fr=[(0,[],.slice o l.length c0),(1,[],.func (.func g) #[] ⟨d⟩),(7,[],.int .i64 l.length),(8,[],.int .i64 i)]/\q=[]/\r=l.length-i) (hn_ [0,1,7,8] Z) ⟨0,⟨QK _,by simp⟩,Z,Z,Z⟩ (fun fr F H m s t=>?_);obtain ⟨i,⟨I,b⟩,rfl,rfl,rfl⟩:=t;refine Ul 1 [0,1,7,8,9] Z<|Uo (fun f=>?_) fun f=>?_
 ·have h:i<l.length:=by simpa using f
  obtain ⟨x,c⟩:∃ x,l[i]?=some x:=⟨l[i],aj h⟩;refine Ul 2 [0,1,5,7,8] Z<|Um 3 Z fun R j=>UD e.m_ U10 om_ (eZ c) fl_ fun J u=>Un u U8<|Uy (n x (QF c) _ mup) U7<|Ur [0,1,5,7,8,16] j Z<|Uo (fun k=>?_) fun k=>?_
  ·have w:a x=true:=k;exact Ul 2 [4] Z<|Ut U2<|⟨by rw [nZ c w b,RR],Z⟩
  have z:a x=false:=k;refine Uq fun R j=>Uw _ U7<|C4 1 [0,1,7,8] j Z<|UA (m':=l.length-(i+1)) om_ s (hn_ [0,1,7,8] Z) ⟨i+1,⟨by omega,fun y hy=>by
   rw [Q5,c] at hy;rcases QX.1 hy with hy | hy
   ·exact b y hy
   simp only [R5,Q3] at hy;subst hy;exact z⟩,Z,Z,Z⟩
 have h:i=l.length:=by
  have:¬ i<l.length:=by simpa using f
  omega
 exact Ul 1 [4] Z<|Ut U2<|⟨by rw [h,QV] at b;rw [lL b],Z⟩
theorem uj (C:Mem)(v:Value)(l:List Str)(g:Nat)(b:List Value)(a:Str->Bool)(c:Sl C 1 v (l.map eL))(d:Jog.Enters cx.P g=true)
  (e:∀ x∈l,∀ D:Mem,C.le D->Gives cx.P g (ai x::b) D (.bool (a x))) :
  Gives cx.P 59 [v,.func (.func g) #[] ⟨b⟩] C (.bool (l.any a)):=by
 refine Uv func59 9 U3 fun w0=>Ul 1 [0,1] Z<|Um 2 Z fun R f=>Uy (F1 _ v l g b a c.m_ d (fun x h D j=>e x h D (Mem.le.trans mup j))) U7<|C4 2 [4] f Z<|Ut U2<|⟨?_,Z⟩;congr 1;rcases sf a l with ⟨h1,h2⟩ | ⟨i,x,h1,h2,h3,_⟩
 ·rw [h1,List.any_eq_false.2 (fun y hy=>by rw [h2 y hy];decide)];rfl
 rw [h1,Tl.2 ⟨x,QF h2,h3⟩];exact QZ om_
theorem pA (C:Mem)(a:Tabs C)(s:Str)(b:s.length<=999998):Gives cx.P 89 [ai s] C (.bool (!aX s)):=by
 refine Uv func89 6 U3 fun w0=>Ul 1 [0] Z<|Um 1 Z fun R c=>Uy (dY _ a.m_ s b) U7<|C4 2 [2] c Z<|Ut U2 ?_;exact ⟨by cases aX s <;> rfl,Z⟩
def eJ (n:Int)(l:List Str):Int:=if (l.length:Int)=n then qM (l.all aX) else 5
theorem ui (C:Mem)(e:Tabs C)(v:Value)(n:Int)(l:List Str)(a:Sl C 1 v (l.map eL))(b:∀ s∈l,s.length<=999998):Gives cx.P 88 [v,.int .i64 n] C (.int .i64 (eJ n l)):=by
 obtain ⟨o,c0,rfl,f,p,_⟩:=id a;have q:maxLen<=9223372036854775807:=by simp [maxLen]
 simp only [aw] at a f ⊢;refine Uv func88 13 U3 fun w0=>Ul 1 [0,1] Z<|Ul 5 [0,5] Z<|Uo (fun h5=>?_) fun h5=>?_
 ·have g:¬ (l.length:Int)=n:=by simpa using h5
  exact Ul 1 [4] Z<|Ut U2<|⟨by unfold eJ;rw [aB g],Z⟩
 have d:(l.length:Int)=n:=by simpa using h5
 refine Um 1 Z fun R h=>Uy (uj _ _ l _ [] (fun s=>!aX s) a.m_ Z (fun s i D j=>pA D (e.mono (Mem.le.trans mup j)) s (b s i))) U7<|C4 1 [10] h Z<|Uo (fun c=>?_) fun c=>?_
 ·have k:l.all aX=false:=by
   obtain ⟨s,h1,h2⟩:=Tl.1 (show (l.any fun s=>!aX s)=true from c);exact Tv.2 ⟨s,h1,by simpa using h2⟩
  exact Ul 1 [4] Z<|Ut U2<|⟨by unfold eJ;rw [aJ d,k];rfl,Z⟩
 have m:l.all aX=true:=by
  have h1:=List.any_eq_false.1 (show (l.any fun s=>!aX s)=false from c);exact Q4.2 fun s b=>by simpa using h1 s b
 exact Ul 1 [4] Z<|Ut U2<|⟨by unfold eJ;rw [aJ d,m];rfl,Z⟩
def RowsT (C:Mem)(v:Value)(rows:List (List Str × Str)):Prop:=∃ vs:List Value,vs.length=rows.length/\(∀ (i:Nat)(w:Value)(r:List Str × Str),vs[i]?=some w->rows[i]?=some r->Sl C 1 w (r.1.map eL))/\Sl C 2 v (List.zipWith (fun w (r:List Str × Str)=>[w,ai r.2]) vs rows)
theorem RowsT.mono {C D:Mem}{v:Value}{a:List (List Str × Str)}(h:RowsT C v a)(b:C.le D):RowsT D v a:=by
 obtain ⟨vs,h1,h2,h3⟩:=h;exact ⟨vs,h1,fun i w r c hr=>(h2 i w r c hr).mono b,h3.mono b⟩
theorem RowsT.m_ {C D:Mem}{v:Value}(h:RowsT C v rows)(a:C.le D:=by exact mup):RowsT D v rows:=RowsT.mono h a
theorem tI {w:Value}{r:List Str × Str}(a:vs[i]?=some w)(b:rows[i]?=some r):(List.zipWith (fun w (r:List Str × Str)=>[w,ai r.2]) vs rows)[i]?=some [w,ai r.2]:=by
 rw [List.getElem?_zipWith,a,b]
theorem nR (h:vs.length=rows.length):(List.zipWith (fun w (r:List Str × Str)=>[w,ai r.2]) vs rows).length=rows.length:=by simp [h]
def FA (n:Int)(r:List Str × Str):Int:=if eJ n r.1≠0 then eJ n r.1 else qM (aX r.2)
def tW (n:Int):List (List Str × Str)->Int
 | []=>0
 | r::l=>if FA n r≠0 then FA n r else tW n l
def uY (n:Int)(rows:List (List Str × Str))(obj:List Str):Int:=if n<0∨60<n then 3 else if 300<rows.length then 4 else if eJ n obj≠0 then eJ n obj else tW n rows
def N4 (rows:List (List Str × Str)):Prop:=∀ r∈rows,(∀ s∈r.1,s.length<=999998)/\r.2.length<=999998
theorem wH (C:Mem)(p:Tabs C)(n:Int)(E F:Value)(a:List (List Str × Str))(c:List Str)(M:RowsT C E a)(q:Sl C 1 F (c.map eL))(H:N4 a)(N:∀ s∈c,s.length<=999998) :
  Gives cx.P 56 [.agg ⟨[.int .i64 n,E,F]⟩] C (.int .i64 (uY n a c)):=by
 obtain ⟨vs,O,Q,t⟩:=M;obtain ⟨S,c0,rfl,T,ae,_⟩:=id t;obtain ⟨A1,c1,rfl,U,af,_⟩:=id q;have ag:maxLen<=9223372036854775807:=by simp [maxLen]
 simp only [nR O,aw] at t q T U ⊢;refine Uv func56 48 U3 fun w0=>Uq fun R b=>UF U6 fun V=>C4 1 [1] b Z<|G.freeze 0 Z fun _ _ d=>Um 1 Z fun R b=>Un (bkT d 1) U8<|Us 3 Z<|UQ U6 (fun _=>PtrTo.blockT (Mem.get d mup) _ 1) U3<|Up U6<|US U8<|C4 1 [1,7] b Z<|Uo (fun u=>?_) fun u=>?_
 ·have f:n<0∨60<n:=by
   simp only [Sr,QQ] at u;omega
  exact Ul 1 [2] Z<|Ut U2<|⟨by unfold uY;rw [aJ f],Z⟩
 have f:¬ (n<0∨60<n):=by
  simp only [Sq,Q1] at u;omega
 refine Um 1 Z fun R b=>Un (bkT d 1) U8<|C4 3 [1,16] b Z<|Uo (fun v=>?_) fun v=>?_
 ·have g:300<a.length:=by
   have:=aW v;omega
  exact Ul 1 [2] Z<|Ut U2<|⟨by unfold uY;rw [aB f,aJ g],Z⟩
 have g:¬ 300<a.length:=by
  have:=QJ v;omega
 refine Um 1 Z fun R b=>Un (bkT d 1) U8<|Up U6<|Un (bkT d 1) U8<|Uy (ui _ p.m_ _ n c q.m_ N) U7<|C4 1 [1,3] b Z<|Ul 2 [1,3,27] Z<|Uo (fun x=>?_) fun x=>?_
 ·have y:eJ n c≠0:=by simpa using x
  exact Ul 2 [2] Z<|Ut U2<|⟨by unfold uY;rw [aB f,aB g,aJ y],Z⟩
 have y:¬ eJ n c≠0:=by simpa using x
 have z:uY n a c=tW n a:=by unfold uY;rw [aB f,aB g,aB y]
 refine Um 1 Z fun R b=>Un (bkT d 1) U8<|C4 2 [1,30,31,32] b Z<|G.loop (fun fr C' W X=>∃ (i:Nat),(i<=a.length/\tW n a=tW n (a.drop i))/\fr=[(1,[],.pointer (some ⟨V,0,none⟩)),(30,[],.slice S a.length c0),(31,[],.int .i64 a.length),(32,[],.int .i64 i)]/\W=[]/\X=a.length-i) (hn_ [1,30,31,32] Z) ⟨0,⟨QK _,Z⟩,Z,Z,Z⟩ (fun fr ah ai m _ Y=>?_);obtain ⟨i,⟨hi,e⟩,rfl,rfl,rfl⟩:=Y;refine Ul 1 [1,30,31,32,33] Z<|Uo (fun A=>?_) fun A=>?_
 ·have h:i<a.length:=by
   have:=aW A;omega
  obtain ⟨r,k⟩:∃ r,a[i]?=some r:=⟨a[i],aj h⟩;obtain ⟨w,I⟩:∃ w,vs[i]?=some w:=⟨vs[i]'om_,aj _⟩;have J:=QF k;have K:=Q i w r I k;obtain ⟨Aw,cw,rfl,_⟩:=id K;have aa:a.drop i=r::a.drop (i+1):=Re h |>.trans (by rw [(aE.1 k).2]);rw [aa] at e;simp only [tW] at e;refine Uq fun R b=>UD t.m_ U10 om_ (tI I k) fl_ fun ak ab=>Un ab U8<|UH U5 fun b5=>Ux (j:=0) U12<|Ur [1,5,30,31,32] b Z<|G.freeze 0 Z fun _ _ L=>Um 1 Z fun R b=>Un (bkT L 1) U8<|Up U6<|Un (bkT d 1) U8<|Uy (ui _ p.m_ _ n r.1 K.m_ (H r J).1) U7<|C4 1 [1,5,6,30,31,32] b Z<|Ul 2 [1,5,6,30,31,32,42] Z<|Uo (fun B=>?_) fun B=>?_
  ·have l:eJ n r.1≠0:=by simpa using B
   have o:FA n r=eJ n r.1:=by unfold FA;rw [aJ l]
   exact Ul 2 [2] Z<|Ut U2<|⟨by rw [z,e,o,aJ l],Z⟩
  have l:¬ eJ n r.1≠0:=by simpa using B
  have o:FA n r=qM (aX r.2):=by unfold FA;rw [aB l]
  refine Um 1 Z fun R b=>Un (bkT L 1) U8<|Uy (pA _ p.m_ r.2 (H r J).2) U7<|Ur [1,30,31,32,46] b Z<|Uo (fun D=>?_) fun D=>?_
  ·have ac:aX r.2=false:=by simpa using D
   exact Ul 1 [2] Z<|Ut U2<|⟨by rw [z,e,o,ac];rfl,Z⟩
  have ad:aX r.2=true:=by simpa using D
  refine Uq fun R b=>Uw _ U7<|C4 1 [1,30,31,32] b Z<|UA (m':=a.length-(i+1)) om_ mup (hn_ [1,30,31,32] Z) ⟨i+1,⟨by omega,by rw [e,o,ad];rfl⟩,Z,Z,Z⟩
 have h:i=a.length:=by
  have:=QJ A;omega
 exact Ul 1 [2] Z<|Ut U2<|⟨by rw [z,e,h,RW];rfl,Z⟩
theorem jm {a b:Rat}(c:QB k a)(d:QB m b):QB (k+m) (a*b):=by
 rw [gH];refine fY (Nat.mul_ne_zero a.den_nz b.den_nz) ?_ ?_
 ·rw [Se,Ts];exact Sj c.1 d.1
 rw [Ts];exact Sj c.2 d.2
theorem F6 {a b:Rat}(c:QB k a)(d:QB m b):QB (k+m+1) (a+b):=by
 rw [gJ];have e:B9 ^ (k+m+1)=B9 ^ k*B9 ^ m*B9:=by rw [RY,Ts]
 have f:(a.num*b.den).natAbs<B9 ^ k*B9 ^ m:=by rw [Se,Rt];exact Sj c.1 d.2
 have g:(b.num*a.den).natAbs<B9 ^ k*B9 ^ m:=by rw [Se,Rt,Rw];exact Sj c.2 d.1
 have h:a.den*b.den<B9 ^ k*B9 ^ m:=Sj c.2 d.2;have i:2*(B9 ^ k*B9 ^ m)<=B9 ^ k*B9 ^ m*B9:=by
  rw [Rw];exact R6 _ dc_
 refine fY (Nat.mul_ne_zero a.den_nz b.den_nz) ?_ ?_
 ·rw [e];have:=Ti (a.num*b.den) (b.num*a.den);omega
 rw [e];omega
def Hd (rs:List (List Rat × Rat))(ds:List Rat)(j n:Nat):Rat:=Lp.sumN (fun k=>ds.getD k 0*(rs.getD k ([],0)).1.getD j 0) n
def EG (rs:List (List Rat × Rat))(ds:List Rat)(n:Nat):Rat:=Lp.sumN (fun k=>ds.getD k 0*(rs.getD k ([],0)).2) n
def dz (r:List Rat × Rat):List Str × Str:=(r.1.map qtx,qtx r.2)
structure RowsQ (n:Nat)(rs:List (List Rat × Rat)):Prop where
 l:∀ r∈rs,r.1.length=n
 q:∀ r∈rs,(∀ x∈r.1,QB 23 x)/\QB 23 r.2
 m:rs.length<=150
theorem BV {l:List Rat}(h:∀ x∈l,QB 23 x):QB 23 (l.getD j 0):=by
 rw [al];cases e:l[j]? with
 | none=>exact ⟨by decide,by decide⟩
 | some x=>exact h x (QF e)
theorem Hc {n:Nat}{b:List (List Rat × Rat)}{c:List Rat}(d:RowsQ n b)(f:∀ x∈c,QB 23 x)(j:Nat):∀ i,QB (48*(i+1)) (Hd b c j i)
 | 0=>(show QB 1 (0:Rat) from ⟨by decide,by decide⟩).le om_
 | i+1=>by
  have h1:=Hc d f j i;have h2:QB 23 ((b.getD i ([],0)).1.getD j 0):=by
   refine BV fun x a=>?_;rw [al] at a;cases e:b[i]? with
   | none=>rw [e] at a;simp at a
   | some r=>rw [e] at a;exact (d.q r (QF e)).1 x a
  exact (F6 h1 (jm (BV (j:=i) f) h2)).le om_
theorem zH {n:Nat}{a:List (List Rat × Rat)}{b:List Rat}(c:RowsQ n a)(d:∀ x∈b,QB 23 x):∀ i,QB (48*(i+1)) (EG a b i)
 | 0=>(show QB 1 (0:Rat) from ⟨by decide,by decide⟩).le om_
 | i+1=>by
  have h1:=zH c d i;have h2:QB 23 (a.getD i ([],0)).2:=by
   rw [al];cases e:a[i]? with
   | none=>exact ⟨by decide,by decide⟩
   | some r=>exact (c.q r (QF e)).2
  exact (F6 h1 (jm (BV (j:=i) d) h2)).le om_
def yh (m:Nat)(d:List Str)(ds:List Rat):Int:=if eJ m d≠0 then eJ m d else if ds.any (fun q=>decide (q<0)) then 3 else 0
theorem nX (q:Rat):decide (eX q.num<0)=decide (q<0):=by
 have h:q.num<0 ↔ q<0:=by rw [Rat.lt_iff];simp
 rw [Rv];unfold eX;by_cases h1:q.num<0
 ·rw [aJ h1];exact ⟨fun _=>h.1 h1,fun _=>by decide⟩
 rw [aB h1];exact ⟨fun h2=>by split at h2 <;> exact absurd h2 dc_,fun h2=>absurd (h.2 h2) h1⟩
theorem MT (C:Mem)(q:Rat)(a:(qtx q).length<=1000000):Gives cx.P 90 [ai (qtx q)] C (.bool (decide (q<0))):=by
 exact Uv func90 6 U3 fun w0=>Ul 1 [0] Z<|Um 1 Z fun R b=>Uy (fW _ q a) U7<|C4 2 [2] b Z<|Ut U2<|⟨by rw [<- nX],Z⟩
theorem Qa (h:QB 23 q):(qtx q).length<=1000000:=Q0 (bG h dc_) dc_
open Classical in
theorem H2 (C:Mem)(v:Value)(a:List Rat)(b:Sl C 1 v (a.map aZ))(c:∀ x∈a,QB 23 x) :
  Gives cx.P 59 [v,.func (.func 90) #[] #[]] C (.bool (a.any fun q=>decide (q<0))):=by
 have h:=uj C v (a.map qtx) 90 [] (fun s=>decide (∃ q:Rat,s=qtx q/\q<0)) (by rw [<- jB];exact b) rfl (fun s hs D f=>by
  obtain ⟨q,d,rfl⟩:=QO.1 hs;have e:decide (∃ p:Rat,qtx q=qtx p/\p<0)=decide (q<0):=by
   rw [Rv];exact ⟨fun ⟨p,h1,h2⟩=>by rw [iM h1];exact h2,fun h2=>⟨q,Z,h2⟩⟩
  rw [e];exact MT D q (Qa (c q d)))
 have e:(a.map qtx).any (fun s=>decide (∃ q:Rat,s=qtx q/\q<0))=a.any fun q=>decide (q<0):=by
  rw [List.any_map];congr 1;funext q;show decide (∃ p:Rat,qtx q=qtx p/\p<0)=decide (q<0);rw [Rv];exact ⟨fun ⟨p,h1,h2⟩=>by rw [iM h1];exact h2,fun h2=>⟨q,Z,h2⟩⟩
 rw [e] at h;exact h
def sw (n:Nat)(rs:List (List Rat × Rat))(ds:List Rat)(i j:Nat):List Rat:=(List.range n).map fun j2=>if j2<j then Hd rs ds j2 (i+1) else Hd rs ds j2 i
theorem ko (b:Bool):qM b=0/\b=true∨qM b=2/\b=false:=by cases b <;> simp [qM]
theorem fk (n:Nat)(a:List (List Rat × Rat))(b:List Rat)(i j:Nat):(sw n a b i j).length=n:=by simp [sw]
theorem mV {a:Nat}(h:a<n):(sw n rs ds i j)[a]?=some (if a<j then Hd rs ds a (i+1) else Hd rs ds a i):=by
 unfold sw;rw [QI,Ro h];rfl
theorem JO (h:j<n):(sw n rs ds i j).set j (Hd rs ds j (i+1))=sw n rs ds i (j+1):=by
 refine List.ext_getElem? fun k=>?_;rw [List.getElem?_set,fk];by_cases a:k<n
 ·rw [mV a,mV a];by_cases e:j=k
  ·subst e;rw [aJ rfl,aJ a,aJ om_]
  rw [aB e];by_cases h1:k<j
  ·rw [aJ h1,aJ om_]
  rw [aB h1,aB om_]
 rw [QS (by rw [fk];omega),QS (by rw [fk];omega)];split
 ·exact absurd om_ a
 rfl
theorem Gr (n:Nat)(b:List (List Rat × Rat))(c:List Rat)(i:Nat):sw n b c i n=sw n b c (i+1) 0:=by
 refine List.ext_getElem? fun k=>?_;by_cases a:k<n
 ·rw [mV a,mV a,aJ a,aB om_]
 rw [QS (by rw [fk];omega),QS (by rw [fk];omega)]
theorem JP (n:Nat)(b:List (List Rat × Rat))(c:List Rat):List.replicate n (ai [48])=((sw n b c 0 0).map aZ).flatten:=by
 have e:sw n b c 0 0=List.replicate n 0:=by
  refine List.ext_getElem? fun k=>?_;by_cases a:k<n
  ·rw [mV a,Sx,aJ a,aB om_];rfl
  rw [QS (by rw [fk];omega),Sx,aB a]
 rw [e,Tp,show aZ 0=[ai [48]] by unfold aZ;rw [qtx_zero]];clear e;induction n with
 | zero=>rfl
 | succ n d=>rw [RP,RP,Sa,<- d];rfl
theorem bP:∀ q:Rat,(aZ q).length=1:=fun _=>rfl
theorem Js (C:Mem)(p:Tabs C)(n:Nat)(rv ov dv:Value)(a:List (List Rat × Rat))(d:List Str)(b:List Rat)(K:RowsT C rv (a.map dz))(e:RowsQ n a)(hn:n<=1000)(z:Sl C 1 dv (d.map eL))(ao:∀ s∈d,s.length<=999998)
  (ap:d.all aX=true->d=b.map qtx/\∀ x∈b,QB 23 x) :
  Pur cx.P 57 [.agg ⟨[.int .i64 n,rv,ov]⟩,.agg ⟨[dv]⟩] C fun u D=>∃ fv bs,u=.tuple #[fv,ai bs,.int .i64 (yh a.length d b)]/\(yh a.length d b=0->Sl D 1 fv ((sw n a b a.length 0).map aZ)/\bs=qtx (EG a b a.length)):=by
 obtain ⟨vs,ac,aq,A⟩:=K;obtain ⟨A0,c0,rfl,ar,aQ,_⟩:=id A;obtain ⟨L,M,rfl,au,aR,_⟩:=id z;have aS:maxLen<=9223372036854775807:=by simp [maxLen]
 have aT:=e.m;simp only [nR ac,aw] at A z ar au ac ⊢;refine Uv func57 72 U3 fun w0=>Uq fun R c=>UF U6 fun b2=>UF U6 fun b3=>C4 3 [2,3] c Z<|G.freeze 1 Z fun _ _ B=>G.freeze 0 Z fun _ _ E=>Um 1 Z fun R c=>Un (bkT E 1) U8<|Up U6<|Un (bkT B 1) U8<|Up U6<|Uy (ui _ p.m_ _ (a.length:Nat) d z.m_ ao) U7<|C4 1 [2,3,7] c Z<|Ul 2 [2,3,7,19] Z<|Uo (fun N=>?_) fun N=>?_
 ·have o:eJ (a.length:Nat) d≠0:=by simpa using N
  have f:yh a.length d b=eJ (a.length:Nat) d:=by unfold yh;rw [aJ o]
  refine Ul 4 [4,5,6] Z<|Uz (G.dropAll (Vl U4 ?_));exact ⟨Z,.slice none 0 0,[],by rw [f];rfl,fun h=>absurd (f.symm.trans h) o⟩
 have o:¬ eJ (a.length:Nat) d≠0:=by simpa using N
 have g:eJ (a.length:Nat) d=0:=by simpa using o
 have O:d.length=a.length:=by
  unfold eJ at g;split at g
  ·omega
  cases g
 have av:d.all aX=true:=by
  unfold eJ at g;rw [aJ om_] at g;rcases ko (d.all aX) with ⟨h1,h2⟩ | ⟨h1,h2⟩
  ·exact h2
  rw [h1] at g;cases g
 obtain ⟨ad,F⟩:=ap av;have aU:b.length=a.length:=by rw [<- O,ad,aw]
 have ae:Sl C 1 (.slice L a.length M) (b.map aZ):=by rw [jB,<- ad,<- O];exact z
 rw [O] at E;refine Um 1 Z fun R c=>Un (bkT E 1) U8<|Uy (H2 _ _ b ae.m_ F) U7<|Ur [2,3,23] c Z<|Uo (fun Q=>?_) fun Q=>?_
 ·have f:yh a.length d b=3:=by unfold yh;rw [aB o,aJ Q]
  refine Ul 3 [4,5,6] Z<|Uz (G.dropAll (Vl U4 ?_));exact ⟨Z,.slice none 0 0,[],by rw [f];rfl,fun h=>absurd (f.symm.trans h) dc_⟩
 have f:yh a.length d b=0:=by unfold yh;rw [aB o,aB (by rw [Q];decide)]
 refine UN [(2,3)] Z fun R c=>Up U6<|Un (bkT B 1) U8<|D.call (jk _ n om_) Z (.inr dc_) U6 (QL _) fl_ (fun aV _ aY _ ax=>?_);obtain ⟨bz,rfl,rfl⟩:=ax;refine C4 2 [2,3,4,5] c Z<|Um 1 Z fun R c=>Un (bkT E 1) U8<|C4 2 [2,4,5,28,29,30] c Z<|UE (L':=[.arr (.slice (some ⟨bz,0,none⟩) n n) 56 1 n ((sw n a b 0 0).map aZ).flatten]) (by rw [JP n a b];rfl)<|G.loop (fun fr C' t S=>∃ (i:Nat)(T:Str),(i<=a.length/\T=qtx (EG a b i))/\fr=[(2,[],.pointer (some ⟨b2,0,none⟩)),(4,[],.slice (some ⟨bz,0,none⟩) n n),(5,[],ai T),(28,[],.slice L a.length M),(29,[],.int .i64 a.length),(30,[],.int .i64 i)]/\t=[.arr (.slice (some ⟨bz,0,none⟩) n n) 56 1 n ((sw n a b i 0).map aZ).flatten]/\S=a.length-i) (hn_ [2,4,5,28,29,30] Z) ⟨0,[48],⟨QK _,qtx_zero.symm⟩,Z,Z,Z⟩ (fun fr a0 a1 m _ U=>?_);obtain ⟨i,T,⟨hi,ag⟩,rfl,rfl,rfl⟩:=U;refine Ul 1 [2,4,5,28,29,30,31] Z<|Uo (fun V=>?_) fun V=>?_
 ·subst ag;have W:i<a.length:=by
   have:=aW V;omega
  obtain ⟨r,X⟩:∃ r,a[i]?=some r:=⟨a[i],aj W⟩;have Y:(a.map dz)[i]?=some (dz r):=by rw [QI,X];rfl
  obtain ⟨w,H⟩:∃ w,vs[i]?=some w:=⟨vs[i]'om_,aj _⟩;obtain ⟨k,hk⟩:∃ k,b[i]?=some k:=⟨b[i]'om_,aj om_⟩;have I:=QF X;have ay:=aq i w _ H Y;have aa:Sl C 1 w (r.1.map aZ):=by rw [jB];exact ay
  obtain ⟨Aw,cw,rfl,_⟩:=id aa;have az:=e.l r I;rw [aw,az] at aa H;have J:QB 23 k:=F k (QF hk);have ak:b.getD i 0=k:=by rw [al,hk];rfl
  have am:a.getD i ([],0)=r:=by rw [al,X];rfl
  have aA:=zH e F i;have aC:EG a b (i+1)=EG a b i+k*r.2:=by
   unfold EG;simp only [Lp.sumN];rw [ak,am]
  refine Um 1 Z fun R c=>UD ae.m_ U10 om_ (eZ hk) fl_ fun a2 aD=>Un aD U8<|C4 2 [2,4,5,8,9,28,29,30] c Z<|Um 3 Z fun R c=>Un (bkT B 1) U8<|Up U6<|UD A.m_ U10 om_ (tI H Y) fl_ fun a3 aE=>Vz aE U10 fl_ fun a4 aF=>Un aF U8<|UC (dB _ p.m_ k r.2 23 dc_ dc_ J (e.q r I).2) U7 fl_<|UC (ji _ p.m_ (EG a b i) (k*r.2) (48*(i+1)) om_ om_ aA ((jm J (e.q r I).2).le om_)) U7 fl_<|C4 1 [2,4,5,8,9,28,29,30] c Z ?_;rw [<- aC];refine Um 1 Z fun R c=>Un (bkT B 1) U8<|Up U6<|UD A.m_ U10 om_ (tI H Y) fl_ fun a5 aG=>Vz aG U10 fl_ fun a6 aH=>Un aH U8<|C4 2 [2,4,5,9,28,29,30,50,51,52] c Z<|G.loop (fun fr C' t S=>∃ (j:Nat),(j<=n)/\fr=[(2,[],.pointer (some ⟨b2,0,none⟩)),(4,[],.slice (some ⟨bz,0,none⟩) n n),(5,[],ai (qtx (EG a b (i+1)))),(9,[],ai (qtx k)),(28,[],.slice L a.length M),(29,[],.int .i64 a.length),(30,[],.int .i64 i),(50,[],.slice Aw n cw),(51,[],.int .i64 n),(52,[],.int .i64 j)]/\t=[.arr (.slice (some ⟨bz,0,none⟩) n n) 56 1 n ((sw n a b i j).map aZ).flatten]/\S=n-j) (hn_ [2,4,5,9,28,29,30,50,51,52] Z) ⟨0,QK _,Z,Z,Z⟩ (fun fr a7 a8 m _ U=>?_);obtain ⟨j,hj,rfl,rfl,rfl⟩:=U;refine Ul 1 [2,4,5,9,28,29,30,50,51,52,53] Z<|Uo (fun ab=>?_) fun ab=>?_
  ·have v:j<n:=by
    have:=aW ab;omega
   obtain ⟨x,hx⟩:∃ x,r.1[j]?=some x:=⟨r.1[j]'om_,aj om_⟩;have an:QB 23 x:=(e.q r I).1 x (QF hx);have aI:r.1.getD j 0=x:=by rw [al,hx];rfl
   have aL:=Hc e F j i;have aM:Hd a b j (i+1)=Hd a b j i+k*x:=by
    unfold Hd;simp only [Lp.sumN];rw [ak,am,aI]
   have aN:(sw n a b i j)[j]?=some (Hd a b j i):=by rw [mV v,aB om_]
   refine Um 1 Z fun R c=>UD aa.m_ U10 om_ (eZ hx) fl_ fun a9 aO=>Un aO U8<|C4 2 [2,4,5,9,10,11,28,29,30,50,51,52] c Z<|UJ [0,1,2,3,4,5,6,7,8,9,10,11] [(8,1),(9,1)] Z kr_ fun R hB c=>Us 4 Z<|UR (j*1) U10 ah U2<|Va af U6 (fun _=>(by rw [cP bP aN];rfl)) U2<|Us 2 Z<|UK (fun _=>(dB _ p.m_ k x 23 dc_ dc_ J an)) U9<|UK (fun _=>(ji _ p.m_ (Hd a b j i) (k*x) (48*(i+1)) om_ om_ aL ((jm J an).le om_))) U9<|UR (j*1) U10 ah U2<|UW (j:=0) U11 (by show j*1+1<=_;rw [bO bP,fk];omega)<|Ur [2,4,5,9,28,29,30,50,51,52] c Z<|Uq fun R c=>Uw _ U7<|C4 1 [2,4,5,9,28,29,30,50,51,52] c Z<|UE (L':=[.arr (.slice (some ⟨bz,0,none⟩) n n) 56 1 n ((sw n a b i (j+1)).map aZ).flatten]) (by rw [<- JO v,aM,<- bK bP _ (by rw [fk];exact v)];rfl)<|UA (m':=n-(j+1)) om_ mup (hn_ [2,4,5,9,28,29,30,50,51,52] Z) ⟨j+1,om_,Z,Z,Z⟩
  have v:j=n:=by
   have:=QJ ab;omega
  refine Uq fun R c=>Uw _ U7<|C4 1 [2,4,5,28,29,30] c Z ?_;rw [v,Gr];refine UA (m':=a.length-(i+1)) om_ mup (hn_ [2,4,5,28,29,30] Z) ⟨i+1,_,⟨by omega,Z⟩,Z,Z,Z⟩
 subst ag;have W:i=a.length:=by
  have:=QJ V;omega
 subst W;refine Ul 5 [4,5,6] Z<|G.freezeArr 0 ((sw n a b a.length 0).map aZ) rfl rfl (by intro r K;obtain ⟨y,_,rfl⟩:=QO.1 K;rfl) (by rw [aw,fk]) fun Cg hg aP=>Uz (G.dropAll (Vl U4 ?_));exact ⟨Z,_,_,by rw [f],fun _=>⟨aP,Z⟩⟩
theorem O2 (C:Mem)(q:Rat):Gives cx.P 60 [ai (qtx q)] C (.bool (!decide (q=0))):=by
 exact Uv func60 5 U3 fun w0=>Ul 1 [0] Z<|Ul 3 [2] Z<|Ut U2<|⟨by rw [<- fH],Z⟩
open Classical in
theorem KX (C:Mem)(v:Value)(a:List Rat)(c:Sl C 1 v (a.map aZ)) :
  Gives cx.P 59 [v,.func (.func 60) #[] #[]] C (.bool (a.any fun q=>!decide (q=0))):=by
 have b:∀ q:Rat,decide (∃ p:Rat,qtx q=qtx p/\¬ p=0)=!decide (q=0):=fun q=>by
  rw [<- decide_not,Rv];exact ⟨fun ⟨p,h1,h2⟩=>by rw [iM h1];exact h2,fun h2=>⟨q,Z,h2⟩⟩
 have h:=uj C v (a.map qtx) 60 [] (fun s=>decide (∃ q:Rat,s=qtx q/\¬ q=0)) (by rw [<- jB];exact c) rfl (fun s hs D d=>by
  obtain ⟨q,f,rfl⟩:=QO.1 hs;rw [b];exact O2 D q)
 have e:(a.map qtx).any (fun s=>decide (∃ q:Rat,s=qtx q/\¬ q=0))=a.any fun q=>!decide (q=0):=by
  rw [List.any_map];congr 1;funext q;exact b q
 rw [e] at h;exact h
theorem FT (q:Rat):decide (eX q.num ≥ 0)=decide (0<=q):=by
 have h:=nX q;have h2:decide (0<=q)=!decide (q<0):=by
  rw [<- decide_not,Rv];grind
 rw [h2,<- h,<- decide_not,Rv];omega
def FG (n:Nat)(rows:List (List Str × Str))(obj d:List Str)(rs:List (List Rat × Rat))(ds:List Rat):Int :=
 if uY n rows obj≠0 then uY n rows obj else if yh rs.length d ds≠0 then yh rs.length d ds else if 0<=EG rs ds rs.length∨(sw n rs ds rs.length 0).any (fun q=>!decide (q=0))=true then 23 else 0
theorem pE (C:Mem)(r:Tabs C)(n:Nat)(t u v:Value)(c:List (List Str × Str))(e d:List Str)(a:List (List Rat × Rat))(b:List Rat)(w:RowsT C t c)(y:Sl C 1 u (e.map eL))(E:N4 c)(F:∀ s∈e,s.length<=999998)
  (z:Sl C 1 v (d.map eL)) (H:∀ s∈d,s.length<=999998) (I:uY n c e=0->c=a.map dz/\RowsQ n a) (A:d.all aX=true->d=b.map qtx/\∀ x∈b,QB 23 x) :
  Gives cx.P 31 [.agg ⟨[.int .i64 n,t,u]⟩,.agg ⟨[v]⟩] C (.int .i64 (FG n c e d a b)):=by
 have B:=w;have J:=y;have K:=z;obtain ⟨vs,W,X,L⟩:=w;obtain ⟨Y,c0,rfl,aa,ab,_⟩:=id L;obtain ⟨A1,c1,rfl,ac,ad,_⟩:=id y;obtain ⟨A2,c2,rfl,ae,af,_⟩:=id z;refine Uv func31 33 U3 fun w0=>Uq fun R f=>UF U6 fun b2=>UF U6 fun b3=>C4 1 [2,3] f Z<|G.freeze 1 Z fun _ _ D=>G.freeze 0 Z fun _ _ M=>Uq fun R f=>Un (bkT D 3) U8<|Uy (wH _ r.m_ (n:Nat) _ _ c e B.m_ J.m_ E F) U7<|C4 1 [2,3,5] f Z<|Ul 2 [2,3,5,12] Z<|Uo (fun k=>?_) fun k=>?_
 ·have g:uY n c e≠0:=by simpa using k
  exact Ul 2 [4] Z<|Ut U2<|⟨by unfold FG;rw [aJ g],Z⟩
 have g:¬ uY n c e≠0:=by simpa using k
 have i:uY n c e=0:=by simpa using g
 obtain ⟨N,l⟩:=I i;have ag:n<=60:=by
  unfold uY at i;split at i
  ·cases i
  omega
 refine Uq fun R f=>Un (bkT D 3) U8<|Un (bkT M 1) U8<|UT (Js _ r.m_ n _ _ _ a d b (by rw [<- N];exact B.mono mup) l om_ K.m_ H A) U7 fl_ (fun ah _ _ O=>?_);obtain ⟨fv,bt,rfl,Q⟩:=O;refine C4 7 [6,7,8] f Z<|Ul 3 [6,7,8,21] Z<|Uo (fun o=>?_) fun o=>?_
 ·have hs:yh a.length d b≠0:=by simpa using o
  exact Ul 2 [4] Z<|Ut U2<|⟨by unfold FG;rw [aB g,aJ hs],Z⟩
 have hs:¬ yh a.length d b≠0:=by simpa using o
 have j:yh a.length d b=0:=by simpa using hs
 obtain ⟨S,T⟩:=Q j;subst T;have U:d.all aX=true:=by
  unfold yh at j;split at j
  ·rename_i h1;exact absurd j h1
  rename_i h1;have h2:eJ (a.length:Nat) d=0:=by simpa using h1
  unfold eJ at h2;split at h2
  ·rcases ko (d.all aX) with ⟨_,h4⟩ | ⟨h3,_⟩
   ·exact h4
   rw [h3] at h2;cases h2
  cases h2
 have V:=zH l (A U).2 a.length;have ai:=l.m;refine Um 1 Z fun R f=>UC (fW _ (EG a b a.length) (Q0 (bG V om_) om_)) U7 fl_<|Us 3 Z<|UU (fun _=>(KX _ _ _ S.m_)) U9<|US U8<|C4 1 [25] f Z<|Uo (fun h=>?_) fun h=>?_
 ·have p:0<=EG a b a.length∨(sw n a b a.length 0).any (fun q=>!decide (q=0))=true:=by
   rw [Sr,FT,QQ] at h;exact h
  exact Ul 1 [4] Z<|Ut U2<|⟨by unfold FG;rw [aB g,aB hs,aJ p],Z⟩
 have p:¬ (0<=EG a b a.length∨(sw n a b a.length 0).any (fun q=>!decide (q=0))=true):=by
  rw [Sq,FT,Q1] at h;rintro (h1 | h1)
  ·exact h.1 h1
  rw [h.2] at h1;cases h1
 exact Ul 1 [4] Z<|Ut U2<|⟨by unfold FG;rw [aB g,aB hs,aB p],Z⟩
theorem PT:qtx 0=[48]:=by decide +kernel
theorem Qt:aZ 0=[Value.string ⟨#[48]⟩]:=by
 show [ai (qtx 0)]=_;rw [PT];rfl
def zF (fs:List Rat)(s q:Nat):Rat:=if q=s then 0 else fs.getD q 0
def kS (fs bf:List Rat)(s:Nat)(k:Rat)(j:Nat):List Rat:=(List.range fs.length).map fun q=>zF fs s q+(if q<j then k*bf.getD q 0 else 0)
theorem ij {k:Rat}:(kS fs bf s k j).length=fs.length:=by simp [kS]
theorem ww {k:Rat}:fs.set s 0=kS fs bf s k 0:=by
 refine List.ext_getElem? fun q=>?_;unfold kS;rw [List.getElem?_set,QI];by_cases a:q<fs.length
 ·rw [Ro a];simp only [R8,Nat.not_lt_zero,RU];unfold zF;split
  ·next e=>rw [aJ om_,aJ e.symm];rw [Rat.add_zero]
  next e=>rw [aB (fun b=>e b.symm),al,aj a];simp only [R0];congr 1;grind
 rw [QS om_,QS ap];split
 ·split
  ·omega
  rfl
 rfl
theorem ue {k:Rat}{q:Nat}(h:q<fs.length):(kS fs bf s k j)[q]?=some (zF fs s q+(if q<j then k*bf.getD q 0 else 0)):=by
 unfold kS;rw [QI,Ro h];rfl
theorem Bn {k:Rat}(h:j<fs.length):(kS fs bf s k j).set j (zF fs s j+k*bf.getD j 0)=kS fs bf s k (j+1):=by
 refine List.ext_getElem? fun q=>?_;rw [List.getElem?_set,ij];by_cases a:q<fs.length
 ·rw [ue a,ue a];by_cases e:j=q
  ·subst e;rw [aJ rfl,aJ a,aJ om_]
  rw [aB e];by_cases h1:q<j
  ·rw [aJ h1,aJ om_]
  rw [aB h1,aB om_]
 rw [QS (by rw [ij];omega),QS (by rw [ij];omega)];split
 ·exact absurd om_ a
 rfl
theorem wz {k:Rat}(a:bf.getD j 0=0):kS fs bf s k j=kS fs bf s k (j+1):=by
 refine List.map_congr_left fun q _=>?_;by_cases e:q=j
 ·subst e;rw [aB om_,aJ om_,a];grind
 by_cases h1:q<j
 ·rw [aJ h1,aJ om_]
 rw [aB h1,aB om_]
theorem wx :kS fs bf s 0 j=kS fs bf s 0 0:=by
 refine List.map_congr_left fun q _=>?_;split <;> split <;> grind
theorem FR {c bc:Rat}(_b:s<fs.length):Lp.putL ⟨c,fs⟩ s ⟨bc,bf⟩=⟨c+fs.getD s 0*bc,kS fs bf s (fs.getD s 0) fs.length⟩:=by
 unfold Lp.putL;congr 1;refine List.map_congr_left fun q a=>?_;rw [aJ (Q2.1 a)];rfl
theorem On {q:Nat}(a:∀ x∈fs,QB 40 x)(b:q<fs.length):QB 40 (zF fs s q):=by
 unfold zF;split
 ·exact ⟨by decide,by decide⟩
 rw [al,aj b];exact a _ (RH _)
def bJ (p:Rat × Value):List Value:=[ai (qtx p.1),p.2]
theorem gU:∀ p,(bJ p).length=2:=fun _=>rfl
theorem og (h:ls[i]?=some p):(ls.map bJ).flatten.drop (i*2)=ai (qtx p.1)::p.2::(ls.map bJ).flatten.drop (i*2+2):=by
 obtain ⟨h1,h2⟩:=aE.1 h;have e:=(ce gU ls i).2;have a:=(ce gU ls (i+1)).2;rw [R7] at a;rw [e,a,Re h1,h2];rfl
theorem I8 (h:ls[i]?=some p):ls.set i p=ls:=by
 refine List.ext_getElem? fun j=>?_;rw [List.getElem?_set];split
 ·next e=>subst e;rw [aJ (aE.1 h).1,h]
 rfl
theorem DE (h:ls[i]?=some p):((ls.map bJ).flatten.drop (i*2)).take 1=[ai (qtx p.1)]:=by rw [og h];rfl
theorem jW (h:ls[i]?=some p):((ls.map bJ).flatten.drop (i*2+1)).take 1=[p.2]:=by rw [<- List.drop_drop,og h];rfl
theorem yL (h:ls[i]?=some p)(c:Rat):az (ls.map bJ).flatten [ai (qtx c)] (i*2)=((ls.set i (c,p.2)).map bJ).flatten:=by
 rw [<- bK gU (c,p.2) (aE.1 h).1];unfold az;have:(ls.map bJ).flatten.drop (i*2+1)=p.2::(ls.map bJ).flatten.drop (i*2+2):=by rw [<- List.drop_drop,og h];rfl
 show _++[_]++List.drop (i*2+1) _=_++[_,_]++List.drop (i*2+2) _;rw [this];simp
theorem MN (C:Mem)(t:Tabs C)(g e f n s:Nat)(i l o p z:Value)(b d:List Rat)(c h:Rat)(ag:b.length=n)(ak:d.length=n)(hs:s<n)(q:Sl C 1 z (d.map aZ))(Q:QB 40 c)(A:∀ x∈b,QB 40 x)(B:QB 40 h)(S:∀ x∈d,QB 40 x) :
  Jog.Fn cx.P 237 [.pointer (some ⟨g,4,none⟩),.int .i64 s,.agg ⟨[ai (qtx h),z]⟩] C [.obj g (.cells ⟨[i,l,o,p,ai (qtx c),.slice (some ⟨e,0,none⟩) n f]⟩ 212 (0,0)),.arr (.slice (some ⟨e,0,none⟩) n f) 56 1 n (b.map aZ).flatten]
   fun u _ r=>u=.tuple #[]/\r=[.obj g (.cells ⟨[i,l,o,p,ai (qtx (c+b.getD s 0*h)),.slice (some ⟨e,0,none⟩) n f]⟩ 212 (0,0)),.arr (.slice (some ⟨e,0,none⟩) n f) 56 1 n ((kS b d s (b.getD s 0) n).map aZ).flatten]:=by
 obtain ⟨T,U,rfl,V,am,_⟩:=id q;simp only [aw] at V q ⊢;have D:s<b.length:=by omega
 have an:maxLen<=9223372036854775807:=by simp [maxLen]
 obtain ⟨k,E⟩:∃ k,b.getD s 0=k:=⟨_,rfl⟩;have F:b[s]?=some k:=by rw [<- E,al,aj D];rfl
 have v:QB 40 k:=A k (QF F);rw [E];refine Uv func237 64 U3 fun w0=>?_;refine UE (L':=[.obj g (.cells ⟨[i,l,o,p,ai (qtx c),.slice (some ⟨e,0,none⟩) n f]⟩ 212 (0,0)),.arr (.slice (some ⟨e,0,none⟩) n f) 56 1 n (b.map aZ).flatten]) Z ?_;refine Uq fun R a=>?_;refine UF U6 (fun b5=>?_);refine Ur [0,1,5] a Z ?_;clear a R;refine G.freeze 0 Z (fun _ _ H=>?_);refine Um 3 Z fun R a=>?_;refine Uu af U9 ?_;refine Up U6 ?_;refine UR (s*1) U10 ah U2 ?_;refine Va ae U6 (fun _=>(by rw [cP bP F];rfl)) U2 ?_;refine C4 1 [0,1,5,6] a Z ?_;clear a R;refine Um 3 Z fun R a=>?_;refine Uu af U9 ?_;refine Up U6 ?_;refine UR (s*1) U10 ah U2 ?_;refine UW (j:=1) U11 (by show s*1+1<=_;rw [bO bP];omega) ?_;refine Ur [0,5,6] a Z ?_;clear a R;refine G.perm (L':=[.obj g (.cells ⟨[i,l,o,p,ai (qtx c),.slice (some ⟨e,0,none⟩) n f]⟩ 212 (0,0)),.arr (.slice (some ⟨e,0,none⟩) n f) 56 1 n ((kS b d s k 0).map aZ).flatten]) (by rw [<- ww,<- bK bP 0 D,Qt];exact List.Perm.swap _ _ _) ?_;refine Ul 2 [0,5,6,23] Z ?_;refine Uo (fun I=>?_) fun I=>?_
 ·have W:qtx k=[48]:=by simpa using I
  have X:k=0:=iM (W.trans (by decide +kernel:([48]:List UInt8)=qtx 0));subst X;have Y:c+0*h=c:=by grind
  refine UE (L':=[.obj g (.cells ⟨[i,l,o,p,ai (qtx (c+0*h)),.slice (some ⟨e,0,none⟩) n f]⟩ 212 (0,0)),.arr (.slice (some ⟨e,0,none⟩) n f) 56 1 n ((kS b d s 0 n).map aZ).flatten]) (by rw [Y,wx (j:=n)]) ?_;refine Uz (V3 Z  ?_);exact ⟨Z,Z⟩
 refine UJ [0,1,2,3,4,5,6,7,8,9,10,11,12] [(8,1),(9,1)] Z kr_ (fun R q a=>?_);refine Us 4 Z ?_;refine Uu af U9 ?_;refine Us 2 Z ?_;refine Un (bkT H 1) U8 ?_;refine UK (fun _=>(dB _ t.m_ k h 40 dc_ dc_ v B)) U9 ?_;refine UK (fun _=>(ji _ t.m_ c (k*h) 80 dc_ dc_ (Q.le dc_) ((jm v B).le dc_))) U9 ?_;refine Us 2 Z ?_;refine Ux (j:=0) U12 ?_;refine Ur [0,5,6] a Z ?_;clear a q R;refine Um 1 Z fun R a=>?_;refine Un (bkT H 1) U8 ?_;refine C4 2 [0,6,37,38,39] a Z ?_;clear a R;refine G.loop (fun fr C' r μ=>∃ (j:Nat),(j<=n)/\fr=[(0,[],.pointer (some ⟨g,4,none⟩)),(6,[],ai (qtx k)),(37,[],.slice T d.length U),(38,[],.int .i64 d.length),(39,[],.int .i64 j)]/\r=[.obj g (.cells ⟨[i,l,o,p,ai (qtx (c+k*h)),.slice (some ⟨e,0,none⟩) n f]⟩ 212 (0,0)),.arr (.slice (some ⟨e,0,none⟩) n f) 56 1 n ((kS b d s k j).map aZ).flatten]/\μ=n-j) (hn_ [0,6,37,38,39] Z) ⟨0,QK _,Z,Z,Z⟩ (fun fr ao ap m J hI=>?_);obtain ⟨j,hj,rfl,rfl,rfl⟩:=hI;refine Ul 1 [0,6,37,38,39,40] Z ?_;refine Uo (fun w=>?_) fun w=>?_
 ·have K:j<n:=by
   have:=aW w;omega
  obtain ⟨x,y⟩:∃ x,d[j]?=some x:=⟨d[j]'om_,aj om_⟩;have L:QB 40 x:=S x (QF y);have M:d.getD j 0=x:=by rw [al,y];rfl
  have aa:(kS b d s k j)[j]?=some (zF b s j):=by
   rw [ue om_,aB (Nat.lt_irrefl _)];congr 1;grind
  have qz:=On (s:=s) A (show j<b.length by omega);have N:=Bn (bf:=d) (s:=s) (k:=k) (show j<b.length by omega);rw [M] at N;refine Um 1 Z fun R a=>?_;refine UD q.m_ U10 om_ (eZ y) fl_ (fun aq ab=>?_);refine Un ab U8 ?_;refine C4 2 [0,6,7,8,37,38,39] a Z ?_;clear a R;refine Ul 2 [0,6,7,8,37,38,39,45] Z ?_;refine Uo (fun O=>?_) fun O=>?_
  ·refine UJ [0,1,2,3,4,5,6,7,8,9,10,11,12,13,14,15,16,17] [(14,1),(15,1)] Z kr_ (fun R q a=>?_);refine Us 3 Z ?_;refine Uu af U9 ?_;refine Us 4 Z ?_;refine Uu af U9 ?_;refine Up U6 ?_;refine UR (j*1) U10 ah U2 ?_;refine Va ae U6 (fun _=>(by rw [cP bP aa];rfl)) U2 ?_;refine Us 2 Z ?_;refine UK (fun _=>(dB _ t.m_ k x 40 dc_ dc_ v L)) U9 ?_;refine UK (fun _=>(ji _ t.m_ (zF b s j) (k*x) 80 dc_ dc_ (qz.le dc_) ((jm v L).le dc_))) U9 ?_;refine UR (j*1) U10 ah U2 ?_;refine UW (j:=1) U11 (by show j*1+1<=_;rw [bO bP,ij];omega) ?_;refine Ur [0,6,37,38,39] a Z ?_;clear a q R;refine Uq fun R a=>?_;refine Uw _ U7 ?_;refine C4 1 [0,6,37,38,39] a Z ?_;clear a R;refine G.perm (L':=[.obj g (.cells ⟨[i,l,o,p,ai (qtx (c+k*h)),.slice (some ⟨e,0,none⟩) n f]⟩ 212 (0,0)),.arr (.slice (some ⟨e,0,none⟩) n f) 56 1 n ((kS b d s k (j+1)).map aZ).flatten]) (by rw [<- N,<- bK bP _ (by rw [ij];omega)];exact List.Perm.swap _ _ _) ?_;refine UA (m':=n-(j+1)) om_ J (hn_ [0,6,37,38,39] Z) ⟨j+1,om_,Z,Z,Z⟩
  have ac:x=0:=by
   have ad:qtx x=[48]:=by simpa using O
   exact iM (ad.trans (by decide +kernel:([48]:List UInt8)=qtx 0))
  rw [wz (j:=j) (by rw [M];exact ac)];refine Uq fun R a=>?_;refine Uw _ U7 ?_;refine C4 1 [0,6,37,38,39] a Z ?_;clear a R;refine UA (m':=n-(j+1)) om_ J (hn_ [0,6,37,38,39] Z) ⟨j+1,om_,Z,Z,Z⟩
 have K:j=n:=by
  have:=QJ w;omega
 rw [K];refine Vx Z ?_;exact ⟨Z,Z⟩
theorem MO (C:Mem)(t:Tabs C)(l m o i e f n s:Nat)(z:Value)(h:List (Rat × Value))(b d:List Rat)(c g:Rat)(ak:h.length=m)(q:h[i]?=some (c,.slice (some ⟨e,0,none⟩) n f))(am:b.length=n)(an:d.length=n)(hs:s<n)(r:Sl C 1 z (d.map aZ))(S:QB 40 c)(A:∀ x∈b,QB 40 x)(B:QB 40 g)(T:∀ x∈d,QB 40 x) :
  Jog.Fn cx.P 237 [.pointer (some ⟨l,i*2,none⟩),.int .i64 s,.agg ⟨[ai (qtx g),z]⟩] C [.arr (.slice (some ⟨l,0,none⟩) m o) 209 2 m (h.map bJ).flatten,.arr (.slice (some ⟨e,0,none⟩) n f) 56 1 n (b.map aZ).flatten]
   fun u _ p=>u=.tuple #[]/\p=[.arr (.slice (some ⟨l,0,none⟩) m o) 209 2 m ((h.set i (c+b.getD s 0*g,.slice (some ⟨e,0,none⟩) n f)).map bJ).flatten,.arr (.slice (some ⟨e,0,none⟩) n f) 56 1 n ((kS b d s (b.getD s 0) n).map aZ).flatten]:=by
 obtain ⟨U,V,rfl,W,ao,_⟩:=id r;simp only [aw] at W r ⊢;have D:s<b.length:=by omega
 have ap:maxLen<=9223372036854775807:=by simp [maxLen]
 obtain ⟨k,E⟩:∃ k,b.getD s 0=k:=⟨_,rfl⟩;have F:b[s]?=some k:=by rw [<- E,al,aj D];rfl
 have v:QB 40 k:=A k (QF F);rw [E];refine Uv func237 64 U3 fun w0=>?_;refine UE (L':=[.arr (.slice (some ⟨l,0,none⟩) m o) 209 2 m (h.map bJ).flatten,.arr (.slice (some ⟨e,0,none⟩) n f) 56 1 n (b.map aZ).flatten]) Z ?_;refine Uq fun R a=>?_;refine UF U6 (fun b5=>?_);refine Ur [0,1,5] a Z ?_;clear a R;refine G.freeze 0 Z (fun _ _ H=>?_);refine Um 3 Z fun R a=>?_;refine Va af U6 (fun _=>(by rw [jW q];rfl)) U2 ?_;refine Up U6 ?_;refine UR (s*1) U10 ah U2 ?_;refine Va ae U6 (fun _=>(by rw [cP bP F];rfl)) U2 ?_;refine C4 1 [0,1,5,6] a Z ?_;clear a R;refine Um 3 Z fun R a=>?_;refine Va af U6 (fun _=>(by rw [jW q];rfl)) U2 ?_;refine Up U6 ?_;refine UR (s*1) U10 ah U2 ?_;refine UW (j:=1) U11 (by show s*1+1<=_;rw [bO bP];omega) ?_;refine Ur [0,5,6] a Z ?_;clear a R;refine G.perm (L':=[.arr (.slice (some ⟨l,0,none⟩) m o) 209 2 m (h.map bJ).flatten,.arr (.slice (some ⟨e,0,none⟩) n f) 56 1 n ((kS b d s k 0).map aZ).flatten]) (by rw [<- ww,<- bK bP 0 D,Qt];exact List.Perm.swap _ _ _) ?_;refine Ul 2 [0,5,6,23] Z ?_;refine Uo (fun I=>?_) fun I=>?_
 ·have X:qtx k=[48]:=by simpa using I
  have Y:k=0:=iM (X.trans (by decide +kernel:([48]:List UInt8)=qtx 0));subst Y;have aa:c+0*g=c:=by grind
  refine UE (L':=[.arr (.slice (some ⟨l,0,none⟩) m o) 209 2 m ((h.set i (c+0*g,.slice (some ⟨e,0,none⟩) n f)).map bJ).flatten,.arr (.slice (some ⟨e,0,none⟩) n f) 56 1 n ((kS b d s 0 n).map aZ).flatten]) (by rw [aa,wx (j:=n),I8 q]) ?_;refine Uz (V3 Z  ?_);exact ⟨Z,Z⟩
 refine UJ [0,1,2,3,4,5,6,7,8,9,10,11,12] [(8,1),(9,1)] Z kr_ (fun R r a=>?_);refine Us 4 Z ?_;refine Va af U6 (fun _=>(by rw [DE q];rfl)) U2 ?_;refine Us 2 Z ?_;refine Un (bkT H 1) U8 ?_;refine UK (fun _=>(dB _ t.m_ k g 40 dc_ dc_ v B)) U9 ?_;refine UK (fun _=>(ji _ t.m_ c (k*g) 80 dc_ dc_ (S.le dc_) ((jm v B).le dc_))) U9 ?_;refine Us 2 Z ?_;refine UW (j:=0) U11 (by show i*2+1<=_;rw [bO gU];have:=(aE.1 q).1;omega) ?_;refine Ur [0,5,6] a Z ?_;clear a r R;refine UE (L':=[.arr (.slice (some ⟨l,0,none⟩) m o) 209 2 m ((h.set i (c+k*g,.slice (some ⟨e,0,none⟩) n f)).map bJ).flatten,.arr (.slice (some ⟨e,0,none⟩) n f) 56 1 n ((kS b d s k 0).map aZ).flatten]) (by rw [<- yL q];rfl) ?_;have J:(h.set i (c+k*g,Value.slice (some ⟨e,0,none⟩) n f))[i]?=some (c+k*g,Value.slice (some ⟨e,0,none⟩) n f):=Tt (aE.1 q).1;refine Um 1 Z fun R a=>?_;refine Un (bkT H 1) U8 ?_;refine C4 2 [0,6,37,38,39] a Z ?_;clear a R;refine G.loop (fun fr C' p μ=>∃ (j:Nat),(j<=n)/\fr=[(0,[],.pointer (some ⟨l,i*2,none⟩)),(6,[],ai (qtx k)),(37,[],.slice U d.length V),(38,[],.int .i64 d.length),(39,[],.int .i64 j)]/\p=[.arr (.slice (some ⟨l,0,none⟩) m o) 209 2 m ((h.set i (c+k*g,.slice (some ⟨e,0,none⟩) n f)).map bJ).flatten,.arr (.slice (some ⟨e,0,none⟩) n f) 56 1 n ((kS b d s k j).map aZ).flatten]/\μ=n-j) (hn_ [0,6,37,38,39] Z) ⟨0,QK _,Z,Z,Z⟩ (fun fr aq ar m K hI=>?_);obtain ⟨j,hj,rfl,rfl,rfl⟩:=hI;refine Ul 1 [0,6,37,38,39,40] Z ?_;refine Uo (fun w=>?_) fun w=>?_
 ·have L:j<n:=by
   have:=aW w;omega
  obtain ⟨x,y⟩:∃ x,d[j]?=some x:=⟨d[j]'om_,aj om_⟩;have M:QB 40 x:=T x (QF y);have N:d.getD j 0=x:=by rw [al,y];rfl
  have ab:(kS b d s k j)[j]?=some (zF b s j):=by
   rw [ue om_,aB (Nat.lt_irrefl _)];congr 1;grind
  have qz:=On (s:=s) A (show j<b.length by omega);have O:=Bn (bf:=d) (s:=s) (k:=k) (show j<b.length by omega);rw [N] at O;refine Um 1 Z fun R a=>?_;refine UD r.m_ U10 om_ (eZ y) fl_ (fun au ac=>?_);refine Un ac U8 ?_;refine C4 2 [0,6,7,8,37,38,39] a Z ?_;clear a R;refine Ul 2 [0,6,7,8,37,38,39,45] Z ?_;refine Uo (fun Q=>?_) fun Q=>?_
  ·refine UJ [0,1,2,3,4,5,6,7,8,9,10,11,12,13,14,15,16,17] [(14,1),(15,1)] Z kr_ (fun R r a=>?_);refine Us 3 Z ?_;refine Va af U6 (fun _=>(by rw [jW J];rfl)) U2 ?_;refine Us 4 Z ?_;refine Va af U6 (fun _=>(by rw [jW J];rfl)) U2 ?_;refine Up U6 ?_;refine UR (j*1) U10 ah U2 ?_;refine Va ae U6 (fun _=>(by rw [cP bP ab];rfl)) U2 ?_;refine Us 2 Z ?_;refine UK (fun _=>(dB _ t.m_ k x 40 dc_ dc_ v M)) U9 ?_;refine UK (fun _=>(ji _ t.m_ (zF b s j) (k*x) 80 dc_ dc_ (qz.le dc_) ((jm v M).le dc_))) U9 ?_;refine UR (j*1) U10 ah U2 ?_;refine UW (j:=1) U11 (by show j*1+1<=_;rw [bO bP,ij];omega) ?_;refine Ur [0,6,37,38,39] a Z ?_;clear a r R;refine Uq fun R a=>?_;refine Uw _ U7 ?_;refine C4 1 [0,6,37,38,39] a Z ?_;clear a R;refine G.perm (L':=[.arr (.slice (some ⟨l,0,none⟩) m o) 209 2 m ((h.set i (c+k*g,.slice (some ⟨e,0,none⟩) n f)).map bJ).flatten,.arr (.slice (some ⟨e,0,none⟩) n f) 56 1 n ((kS b d s k (j+1)).map aZ).flatten]) (by rw [<- O,<- bK bP _ (by rw [ij];omega)];exact List.Perm.swap _ _ _) ?_;refine UA (m':=n-(j+1)) om_ K (hn_ [0,6,37,38,39] Z) ⟨j+1,om_,Z,Z,Z⟩
  have ad:x=0:=by
   have ag:qtx x=[48]:=by simpa using Q
   exact iM (ag.trans (by decide +kernel:([48]:List UInt8)=qtx 0))
  rw [wz (j:=j) (by rw [N];exact ad)];refine Uq fun R a=>?_;refine Uw _ U7 ?_;refine C4 1 [0,6,37,38,39] a Z ?_;clear a R;refine UA (m':=n-(j+1)) om_ K (hn_ [0,6,37,38,39] Z) ⟨j+1,om_,Z,Z,Z⟩
 have L:j=n:=by
  have:=QJ w;omega
 rw [L];refine Vx Z ?_;exact ⟨Z,Z⟩
end Go.Proofs.YthnpijdjlddpmaaGreatDoor
