/- Laws that the proofs of this seat share, part 11. -/
import Derived.Test.YthnpijdjlddpmaaGreatDoorG10
import Derived.Test.YthnpijdjlddpmaaGreatDoorShelf
import Derived.Test.YthnpijdjlddpmaaGreatDoorCards
import Derived.Test.YthnpijdjlddpmaaGreatDoorTie
import Derived.Stop.LaidErr
import Derived.Lib.LaidTab
import Derived.Carry
import Derived.Deep.Strs
import Derived.Laws.IdiomArrays
set_option maxHeartbeats 4000000
namespace Go.Proofs.YthnpijdjlddpmaaGreatDoor
open Go.Proofs.Tryz
open Go Go.Jog
set_option maxRecDepth 100000
structure Sgt where
 kind:Nat
 px:Int
 py:Int
 u0:Nat
 u1:Nat
 depth:Nat
 n0:Int
 n1:Int
 n2:Int
def Me (s:Sgt):List Value:=[.int .u8 s.kind,.int .i8 s.px,.int .i8 s.py,.int .u8 s.u0,.int .u8 s.u1,.int .u8 s.depth,.int .i8 s.n0,.int .i8 s.n1,.int .i8 s.n2]
structure SgtR (s:Sgt):Prop where
 kind:s.kind<256
 px:-128<=s.px/\s.px<=127
 py:-128<=s.py/\s.py<=127
 u0:s.u0<256
 u1:s.u1<256
 depth:s.depth<256
 n0:-128<=s.n0/\s.n0<=127
 n1:-128<=s.n1/\s.n1<=127
 n2:-128<=s.n2/\s.n2<=127
structure Sht where
 kd:Nat
 a:Int
 b:Int
 h:Bool
def KS (S:Sht)(H:Hts)(sv:Value):List Value:=[.int .u8 S.kd,.int .i8 S.a,.int .i8 S.b,.bool S.h,.int .i8 H.h0,.int .i8 H.h1,.int .i8 H.h2,.int .i8 H.h3,.int .i8 H.h4,.int .i8 H.h5,.bool H.half,sv]
def tg (i:Nat):Str:=[UInt8.ofNat (65+i)]
def CZ (S:Sht)(s:Sgt):Pt :=
 if oP (da (S.kd % 8) S.a S.b S.h) (shT (S.kd % 8)) (dA S.a S.b S.h s.px s.py 2)≠[] then dA S.a S.b S.h s.px s.py 2
 else (da (S.kd % 8) S.a S.b S.h).getD (s.depth % (da (S.kd % 8) S.a S.b S.h).length) (0,0)
def ta (z:Int):Int:=if z.tmod 5=0 then 1 else z.tmod 5
def loU (s:Sgt):Nat:=if s.u0 % 3=s.u1 % 3 then 0 else s.u0 % 3
def upU (s:Sgt):Nat:=if s.u0 % 3=s.u1 % 3 then 1+s.u1 % 3 % 2 else s.u1 % 3
def Dc (S:Sht)(s:Sgt)(i:Nat):Obs :=
 if s.kind % 3=0 then ⟨1,[111,UInt8.ofNat (49+i)],qtx (CZ S s).1,qtx (CZ S s).2,[],tg (s.u1 % 3),[],[],[],[]⟩
 else if s.kind % 3=1 then ⟨2,[111,UInt8.ofNat (49+i)],qtx (CZ S s).1,qtx (CZ S s).2,qtx (mS (s.depth % 12:Nat) 2),tg (max (loU s) (upU s)),tg (min (loU s) (upU s)),[],[],[]⟩
 else ⟨3,[111,UInt8.ofNat (49+i)],qtx (CZ S s).1,qtx (CZ S s).2,[],tg (max (loU s) (upU s)),tg (min (loU s) (upU s)),qtx ((s.n0.tmod 5:Int):Rat),qtx ((s.n1.tmod 5:Int):Rat),qtx ((ta s.n2:Int):Rat)⟩
theorem wrap_u8 {n:Int}(a:0<=n)(b:n<256):IntKind.u8.wrap n=n:=by
 simp only [IntKind.wrap,IntKind.bits,IntKind.signed];simp;omega
theorem lW (i:Nat)(a:i<6):([[.int .u8 111],[.int .u8 (49+(i:Int))]]:List (List Value))=(([111,UInt8.ofNat (49+i)]:Str).map fun b=>[.int .u8 b.toNat]):=by
 rcases (by omega:i=0∨i=1∨i=2∨i=3∨i=4∨i=5) with rfl | rfl | rfl | rfl | rfl | rfl <;> rfl
theorem zY (j:Nat)(a:j<3):(([ai [65],ai [66],ai [67]]:List Value).drop j).take 1=[ai (tg j)]:=by
 rcases (by omega:j=0∨j=1∨j=2) with rfl | rfl | rfl <;> rfl
theorem xi:∀ m:Nat,0<(shP m).length
 | 0=>by decide
 | 1=>by decide
 | 2=>by decide
 | 3=>by decide
 | 4=>by decide
 | 5=>by decide
 | 6=>by decide
 | _+7=>by
  show 0<([(0,0),(6,0),(0,6),(2,2)]:List (Int × Int)).length;decide
theorem Bh (a:Int):-5<a.tmod 5/\a.tmod 5<5:=by
 have h:(a.tmod 5).natAbs=a.natAbs % 5:=Q0 a 5;omega
theorem N9 (s:Sgt):loU s<=2:=by unfold loU;split <;> omega
theorem NP (s:Sgt):upU s<=2:=by unfold upU;split <;> omega
theorem ML {p:Pt}(h:QP 1 p):QP 23 p/\PtR p:=⟨⟨h.1.le dc_,h.2.le dc_⟩,bM (h.1.le dc_),bM (h.2.le dc_)⟩
theorem qi (C:Mem)(r:Tabs C)(S:Sht)(s:Sgt)(H:Hts)(sv:Value)(i:Nat)(T:i<6)(hk:S.kd<256)(q:SgtR s)(hG:Good (da (S.kd % 8) S.a S.b S.h) (shT (S.kd % 8))) :
  Pur cx.P 63 [.agg ⟨KS S H sv⟩,.agg ⟨Me s⟩,.int .i64 i] C fun u _D=>u=.agg ⟨vS (Dc S s i)⟩:=by
 have aE:=q.kind;have aF:=q.u0;have aG:=q.u1;have aH:=q.depth;have aJ:=Bh s.n0;have aK:=Bh s.n1;have aL:=Bh s.n2;have am:=N9 s;have an:=NP s;have ao:QP 1 (dA S.a S.b S.h s.px s.py 2):=zA dc_ dc_ q.px q.py;obtain ⟨ap,aq⟩:=ML ao;obtain ⟨lo,v⟩:∃ n,loU s=n:=⟨_,rfl⟩;obtain ⟨up,w⟩:∃ n,upU s=n:=⟨_,rfl⟩;obtain ⟨p,x⟩:∃ p,CZ S s=p:=⟨_,rfl⟩;obtain ⟨t,E⟩:∃ z,ta s.n2=z:=⟨_,rfl⟩;have aM:-5<t/\t<5:=by rw [<- E];unfold ta;split <;> omega
 rw [v] at am;rw [w] at an;have ae:0<(da (S.kd % 8) S.a S.b S.h).length:=by rw [da,al];exact xi _
 have aN:=kL (S.kd % 8) S.a S.b S.h;refine Sc func63 129 U3 fun w0=>R8 fun R d=>So U6 fun b3=>So U6 fun y=>Sq U5 fun g=>Sa [2,3,4,6] d Z<|G.freeze 2 Z fun _ _ ah=>G.freeze 1 Z fun _ _ k=>R4 1 Z fun R d=>R5 (bkT ah 4) U8<|SI (vz _ r.m_ S.kd S.a S.b S.h hk) U7 (fun aO _ _ U=>?_);obtain ⟨v1,v2,rfl,V,ar⟩:=id U.ex;obtain ⟨A1,c1,rfl,au,aP,_⟩:=id V;obtain ⟨A2,c2,rfl,_,_,_⟩:=id ar;simp only [al] at V au U ⊢;refine Sq U5 fun b7=>Sf (j:=0) U12<|Sa [2,3,4,6,7] d Z<|G.freeze 0 Z fun _ _ W=>G.cut (fun fr C' l m=>∃ (f:Nat),(True)/\fr=[(4,[],.pointer (some ⟨y,0,none⟩)),(6,[],.pointer (some ⟨g,0,none⟩)),(7,[],.pointer (some ⟨b7,0,none⟩)),(8,[],.pointer (some ⟨f,0,none⟩))]/\l=[.obj f (.cells ⟨[.int .i64 (1+((s.kind % 3:Nat):Int)),ai [111,UInt8.ofNat (49+i)],ai (qtx (dA S.a S.b S.h s.px s.py 2).1),ai (qtx (dA S.a S.b S.h s.px s.py 2).2),ai [],ai [],ai [],ai [],ai [],ai []]⟩ 62 (0,0)),.obj g (.cells ⟨[.int .i64 0,ai [],ai [],ai [],ai [],ai [],ai [],ai [],ai [],ai []]⟩ 62 (0,0))]) ?_ (fun fr aQ aR m aS o=>?_)
 ·refine SR (.cut [0,1,2,3,4,5,6,7,10,11,12,13,14] (.alt 8 (.cut [] (.alt 9 (.fin [15,16,17]) (.alt 16 (.fin [9,15,17]) .stop))) (.alt 16 (.fin [8,9,15,17]) .stop))) [(14,1),(3,0),(6,0)] Z Z kr_ fun R F d I=>R7 U6<|R5 (bkT k 1) U8<|SZ (s.kind) (3) U6 om_ U2<|S8 (c:=((s.kind % 3:Nat):Int)) U8 (wrap_i64 om_ om_) U2<|Se _ U7<|R7 U6<|S8 (c:=(i:Int)) U8 (wrap_u8 om_ om_) U2<|D.int ((49+(i:Int))) U4 (wrap_u8 om_ om_) U2<|R7 U6<|R5 (bkT ah 4) U8<|R7 U6<|R5 (bkT k 2) U8<|Su (fun _=>(zB _ r.m_ S.kd S.a S.b S.h s.px s.py 2 dc_ dc_ q.px q.py)) U9<|SE I Z ⟨?_, ?_,trivial⟩
  ·refine Sr [[.int .u8 111],[.int .u8 (49+(i:Int))]] U12 fun av aw _ J=>SE I Z ⟨?_, ?_,trivial⟩
   ·exact Tw (show Sl _ 1 _ (([111,UInt8.ofNat (49+i)]:Str).map fun b=>[.int .u8 b.toNat]) from by rw [<- lW i T];exact J.mono mup) U11 fl_<|Sn [.int .i64 (1+((s.kind % 3:Nat):Int)),ai [111,UInt8.ofNat (49+i)],ai (qtx (dA S.a S.b S.h s.px s.py 2).1),ai (qtx (dA S.a S.b S.h s.px s.py 2).2),ai [],ai [],ai [],ai [],ai [],ai []] U8<|Sq U5 fun f=>Sf (j:=0) U12<|Sa [4,6,7,8] d Z<|Si 0 mup (hn_ [4,6,7,8] Z) ⟨f,trivial,Z,Z⟩
   exact Sq U5 fun f=>Tw (show Sl _ 1 _ (([111,UInt8.ofNat (49+i)]:Str).map fun b=>[.int .u8 b.toNat]) from by rw [<- lW i T];exact J.mono mup) U11 fl_<|Sn [.int .i64 (1+((s.kind % 3:Nat):Int)),ai [111,UInt8.ofNat (49+i)],ai (qtx (dA S.a S.b S.h s.px s.py 2).1),ai (qtx (dA S.a S.b S.h s.px s.py 2).2),ai [],ai [],ai [],ai [],ai [],ai []] U8<|Sf (j:=0) U12<|Sa [4,6,7,8] d Z<|Si 0 mup (hn_ [4,6,7,8] Z) ⟨f,trivial,Z,Z⟩
  exact Sq U5 fun f=>Sr [[.int .u8 111],[.int .u8 (49+(i:Int))]] U12 fun av aw _ J=>Tw (show Sl _ 1 _ (([111,UInt8.ofNat (49+i)]:Str).map fun b=>[.int .u8 b.toNat]) from by rw [<- lW i T];exact J.mono mup) U11 fl_<|Sn [.int .i64 (1+((s.kind % 3:Nat):Int)),ai [111,UInt8.ofNat (49+i)],ai (qtx (dA S.a S.b S.h s.px s.py 2).1),ai (qtx (dA S.a S.b S.h s.px s.py 2).2),ai [],ai [],ai [],ai [],ai [],ai []] U8<|Sf (j:=0) U12<|Sa [4,6,7,8] d Z<|Si 0 mup (hn_ [4,6,7,8] Z) ⟨f,trivial,Z,Z⟩
 obtain ⟨f,_,rfl,rfl⟩:=o;refine R8 fun R d=>R5 (bkT W 2) U8<|R7 U6<|Sd af U9<|Sg (pq _ r.m_ _ _ _ (dA S.a S.b S.h s.px s.py 2) U.m_ hG ap aq) U7<|C4 5 [4,6,7,8,9] d Z<|C6 2 [4,6,7,8,42] Z<|G.cut (fun fr C' l m=>(True)/\fr=[(4,[],.pointer (some ⟨y,0,none⟩)),(6,[],.pointer (some ⟨g,0,none⟩)),(8,[],.pointer (some ⟨f,0,none⟩))]/\l=[.obj f (.cells ⟨[.int .i64 (1+((s.kind % 3:Nat):Int)),ai [111,UInt8.ofNat (49+i)],ai (qtx p.1),ai (qtx p.2),ai [],ai [],ai [],ai [],ai [],ai []]⟩ 62 (0,0)),.obj g (.cells ⟨[.int .i64 0,ai [],ai [],ai [],ai [],ai [],ai [],ai [],ai [],ai []]⟩ 62 (0,0))]) ?_ (fun fr _ aT m _ o=>?_)
 ·refine R6 (fun X=>?_) fun X=>?_
  ·have ay:oP (da (S.kd % 8) S.a S.b S.h) (shT (S.kd % 8)) (dA S.a S.b S.h s.px s.py 2)=[]:=by simpa using X
   have aj:s.depth % (da (S.kd % 8) S.a S.b S.h).length<(da (S.kd % 8) S.a S.b S.h).length:=Pd _ ae;have Y:p=(da (S.kd % 8) S.a S.b S.h)[s.depth % (da (S.kd % 8) S.a S.b S.h).length]:=by
    rw [<- x,CZ,aA (by rw [ay];simp),ax,ak aj,Pu]
   have hp:(da (S.kd % 8) S.a S.b S.h)[s.depth % (da (S.kd % 8) S.a S.b S.h).length]?=some p:=by rw [Y];exact ak aj
   refine Ss [0,1,2,3,4,5,6,7,8,9,10,11,12] [(4,0)] Z kr_ fun R F d=>R7 U6<|R5 (bkT W 1) U8<|R7 U6<|R5 (bkT k 1) U8<|S8 (c:=(s.depth:Int)) U8 (wrap_i64 om_ om_) U2<|R7 U6<|R5 (bkT W 1) U8<|R7 U6<|SZ (s.depth) ((da (S.kd % 8) S.a S.b S.h).length) U6 ae U2<|Sm V.m_ U10 om_ (bO hp) fl_ fun aU az=>R5 az U8<|R7 U6<|Sf (j:=0) U12<|Sa [4,6,8] d Z<|Si 0 (Mem.le.refl _) (hn_ [4,6,8] Z) ⟨trivial,Z,Z⟩
  have aB:oP (da (S.kd % 8) S.a S.b S.h) (shT (S.kd % 8)) (dA S.a S.b S.h s.px s.py 2)≠[]:=by simpa using X
  have Y:p=dA S.a S.b S.h s.px s.py 2:=by rw [<- x,CZ,aI aB]
  subst Y;refine Si 0 (Mem.le.refl _) (hn_ [4,6,8] Z) ⟨trivial,Z,Z⟩
 obtain ⟨_,rfl,rfl⟩:=o;refine R8 fun R d=>Sn ([ai [65],ai [66],ai [67]]) U8<|Sq U5 fun aC=>Sf (j:=0) U12<|Sa [4,6,8,11] d Z<|G.freeze 0 Z fun _ _ K=>Ss [0,1,2,3,4,5,6,7,8,9,10,11] [(4,0),(9,0)] Z kr_ fun R F d=>R7 U6<|Sw (3) U9 ag U2<|R5 (bkT k 1) U8<|SZ (s.u0) (3) U6 om_ U2<|S8 (c:=((s.u0 % 3:Nat):Int)) U8 (wrap_i64 om_ om_) U2<|R7 U6<|Sw (4) U9 ag U2<|R5 (bkT k 1) U8<|SZ (s.u1) (3) U6 om_ U2<|S8 (c:=((s.u1 % 3:Nat):Int)) U8 (wrap_i64 om_ om_) U2<|C4 2 [4,6,8,11,12,13] d Z<|R4 1 Z fun R d=>Sd af U9<|C4 1 [4,6,8,11,12,13,68] d Z<|R6 (fun L=>?_) fun L=>?_
 ·have A:s.kind % 3=0:=by
   have:=dD L;omega
  refine R4 1 Z fun R d=>Sw ((s.u1 % 3)) U9 (fun _=>⟨by omega,by omega,(by show s.u1 % 3=0+(s.u1 % 3)*1;omega)⟩) U2<|Ti (PtrTo.blockT (Mem.get K mup) (s.u1 % 3) 1) U6 (show bV _ ((([ai [65],ai [66],ai [67]]:List Value).drop (s.u1 % 3)).take 1)=some (ai (tg (s.u1 % 3))) from by rw [zY _ om_];rfl) Z<|R7 U6<|Sf (j:=0) U12<|Sa [6,8] d Z<|R8 fun R d=>Sd af U9<|Sf (j:=1) U12<|Sa [6] d Z<|Sh (SV af U4 ?_);exact ⟨Z,by unfold Dc;rw [aI A,x,A];rfl⟩
 have A:¬ s.kind % 3=0:=by
  intro e;rw [e] at L;exact absurd L dc_
 refine C6 3 [4,6,8,11,12,13,76] Z<|G.cut (fun fr C' l m=>(True)/\fr=[(4,[],.pointer (some ⟨y,0,none⟩)),(6,[],.pointer (some ⟨g,0,none⟩)),(8,[],.pointer (some ⟨f,0,none⟩)),(11,[],.pointer (some ⟨aC,0,none⟩)),(12,[],.int .i64 (lo:Nat)),(13,[],.int .i64 (up:Nat))]/\l=[.obj f (.cells ⟨[.int .i64 (1+((s.kind % 3:Nat):Int)),ai [111,UInt8.ofNat (49+i)],ai (qtx p.1),ai (qtx p.2),ai [],ai [],ai [],ai [],ai [],ai []]⟩ 62 (0,0)),.obj g (.cells ⟨[.int .i64 0,ai [],ai [],ai [],ai [],ai [],ai [],ai [],ai [],ai []]⟩ 62 (0,0))]) ?_ (fun fr _ aW m _ o=>?_)
 ·refine R6 (fun M=>?_) fun M=>?_
  ·have B:s.u0 % 3=s.u1 % 3:=by
    have:=dD M;omega
   have aa:lo=0:=by rw [<- v,loU,aI B]
   have ab:up=1+s.u1 % 3 % 2:=by rw [<- w,upU,aI B]
   subst aa;subst ab;refine R4 1 Z fun R d=>SZ ((s.u1 % 3)) (2) U6 om_ U2<|Se _ U7<|C4 2 [4,6,8,11,12,13] d Z<|Si 0 (Mem.le.refl _) (hn_ [4,6,8,11,12,13] Z) ⟨trivial,Z,Z⟩
  have B:¬ s.u0 % 3=s.u1 % 3:=by
   intro e;rw [e,beq_self_eq_true] at M;exact absurd M dc_
  have aa:lo=s.u0 % 3:=by rw [<- v,loU,aA B]
  have ab:up=s.u1 % 3:=by rw [<- w,upU,aA B]
  subst aa;subst ab;refine Si 0 (Mem.le.refl _) (hn_ [4,6,8,11,12,13] Z) ⟨trivial,Z,Z⟩
 obtain ⟨_,rfl,rfl⟩:=o;refine G.cut (fun fr C' l m=>(True)/\fr=[(4,[],.pointer (some ⟨y,0,none⟩)),(6,[],.pointer (some ⟨g,0,none⟩)),(8,[],.pointer (some ⟨f,0,none⟩))]/\l=[.obj f (.cells ⟨[.int .i64 (1+((s.kind % 3:Nat):Int)),ai [111,UInt8.ofNat (49+i)],ai (qtx p.1),ai (qtx p.2),ai [],ai (tg (max lo up)),ai (tg (min lo up)),ai [],ai [],ai []]⟩ 62 (0,0)),.obj g (.cells ⟨[.int .i64 0,ai [],ai [],ai [],ai [],ai [],ai [],ai [],ai [],ai []]⟩ 62 (0,0))]) ?_ (fun fr aX aY m aZ o=>?_)
 ·refine SR (.cut [0,1,2,3,4,5,6,7,8,10] (.alt 9 (.fin [11,12,13]) (.alt 11 (.fin [9,12,13]) .stop))) [] Z Z kr_ fun R F d I=>R9 2 Z<|D.max (((max lo up:Nat):Int)) U6 om_ U2<|Sw ((max lo up)) U9 (fun _=>⟨by omega,by omega,(by show max lo up=0+(max lo up)*1;omega)⟩) U2<|Ti (PtrTo.blockT (Mem.get K mup) (max lo up) 1) U6 (show bV _ ((([ai [65],ai [66],ai [67]]:List Value).drop (max lo up)).take 1)=some (ai (tg (max lo up))) from by rw [zY _ om_];rfl) Z<|R9 2 Z<|D.min (((min lo up:Nat):Int)) Z Z Z Z Z Z om_ Z Z<|Sw ((min lo up)) U9 (fun _=>⟨by omega,by omega,(by show min lo up=0+(min lo up)*1;omega)⟩) U2<|R7 U6<|SE I Z ⟨?_, ?_,trivial⟩
  ·exact Ti (PtrTo.blockT (Mem.get K mup) (min lo up) 1) U6 (show bV _ ((([ai [65],ai [66],ai [67]]:List Value).drop (min lo up)).take 1)=some (ai (tg (min lo up))) from by rw [zY _ om_];rfl) Z<|Sf (j:=0) U12<|R7 U6<|Sf (j:=0) U12<|Sa [4,6,8] d Z<|Si 0 mup (hn_ [4,6,8] Z) ⟨trivial,Z,Z⟩
  exact Sf (j:=0) U12<|Ti (PtrTo.blockT (Mem.get K mup) (min lo up) 1) U6 (show bV _ ((([ai [65],ai [66],ai [67]]:List Value).drop (min lo up)).take 1)=some (ai (tg (min lo up))) from by rw [zY _ om_];rfl) Z<|R7 U6<|Sf (j:=0) U12<|Sa [4,6,8] d Z<|Si 0 mup (hn_ [4,6,8] Z) ⟨trivial,Z,Z⟩
 obtain ⟨_,rfl,rfl⟩:=o;refine R4 1 Z fun R d=>Sd af U9<|C4 1 [4,6,8,94] d Z<|R6 (fun N=>?_) fun N=>?_
 ·have O:s.kind % 3=1:=by
   have:=dD N;omega
  refine R4 1 Z fun R d=>R5 (bkT k 1) U8<|SZ (s.depth) (12) U6 om_ U2<|SL (c:=((s.depth % 12:Nat):Int)) U8 (wrap_i64 om_ om_) fl_<|Sk (D8 _ r.m_ ((s.depth % 12:Nat):Int) 2 om_ om_ om_) U7 fl_<|R9 4 Z<|Sf (j:=0) U12<|Sa [6,8] d Z<|R8 fun R d=>Sd af U9<|Sf (j:=1) U12<|Sa [6] d Z<|Sh (SV af U4 ?_);exact ⟨Z,by unfold Dc;rw [aA A,aI O,x,v,w,O];rfl⟩
 have O:¬ s.kind % 3=1:=by
  intro e;rw [e] at N;exact absurd N dc_
 have aD:s.kind % 3=2:=by omega
 refine R4 1 Z fun R d=>Sw (8) U9 ag U2<|R5 (bkT k 1) U8<|S7 (s.n2.tmod 5) U6 dc_ U3<|SL (c:=(s.n2.tmod 5)) U8 (wrap_i64 om_ om_) fl_<|C4 1 [4,6,8,14] d Z<|C6 2 [4,6,8,14,111] Z<|G.cut (fun fr C' l m=>(True)/\fr=[(4,[],.pointer (some ⟨y,0,none⟩)),(6,[],.pointer (some ⟨g,0,none⟩)),(8,[],.pointer (some ⟨f,0,none⟩)),(14,[],.int .i64 t)]/\l=[.obj f (.cells ⟨[.int .i64 (1+((s.kind % 3:Nat):Int)),ai [111,UInt8.ofNat (49+i)],ai (qtx p.1),ai (qtx p.2),ai [],ai (tg (max lo up)),ai (tg (min lo up)),ai [],ai [],ai []]⟩ 62 (0,0)),.obj g (.cells ⟨[.int .i64 0,ai [],ai [],ai [],ai [],ai [],ai [],ai [],ai [],ai []]⟩ 62 (0,0))]) ?_ (fun fr _ a0 m _ o=>?_)
 ·refine R6 (fun Q=>?_) fun Q=>?_
  ·have ac:s.n2.tmod 5=0:=dD Q;have ad:t=1:=by rw [<- E,ta,aI ac]
   subst ad;refine C6 1 [4,6,8,14] Z<|Si 0 (Mem.le.refl _) (hn_ [4,6,8,14] Z) ⟨trivial,Z,Z⟩
  have ac:¬ s.n2.tmod 5=0:=by
   intro e;rw [e] at Q;exact absurd Q dc_
  have ad:t=s.n2.tmod 5:=by rw [<- E,ta,aA ac]
  subst ad;refine Si 0 (Mem.le.refl _) (hn_ [4,6,8,14] Z) ⟨trivial,Z,Z⟩
 obtain ⟨_,rfl,rfl⟩:=o;refine Ss [0,1,2,3,4,5,6,7,8,9,10,11,12,13,14,15,16] [(5,1),(11,1),(13,1),(4,0),(10,0)] Z kr_ fun R F d=>R7 U6<|Sw (6) U9 ag U2<|R5 (bkT k 1) U8<|S7 (s.n0.tmod 5) U6 dc_ U3<|S8 (c:=(s.n0.tmod 5)) U8 (wrap_i64 om_ om_) U2<|Su (fun _=>(kC _ r.m_ (s.n0.tmod 5) om_)) U9<|R7 U6<|Sw (7) U9 ag U2<|R5 (bkT k 1) U8<|S7 (s.n1.tmod 5) U6 dc_ U3<|S8 (c:=(s.n1.tmod 5)) U8 (wrap_i64 om_ om_) U2<|Su (fun _=>(kC _ r.m_ (s.n1.tmod 5) om_)) U9<|R7 U6<|Su (fun _=>(kC _ r.m_ t om_)) U9<|Sn [ai (qtx ((s.n0.tmod 5:Int):Rat)),ai (qtx ((s.n1.tmod 5:Int):Rat)),ai (qtx ((t:Int):Rat))] U8<|R7 U6<|Sf (j:=0) U12<|Sa [6,8] d Z<|R8 fun R d=>Sd af U9<|Sf (j:=1) U12<|Sa [6] d Z<|Sh (SV af U4 ?_);exact ⟨Z,by unfold Dc;rw [aA A,aA O,x,v,w,E,aD];rfl⟩
def M3:Sgt:=⟨0,0,0,0,0,0,0,0,0⟩
def colK:List Lay:=[⟨[65],0,none⟩,⟨[66],0,some 5⟩,⟨[67],1,none⟩]
theorem HC:qtx 5=[53]:=by
 show qtx ((5:Int):Rat)=_;rw [lU];decide +kernel
theorem IU:colK.map xR=[[ai [65],ai [48],ai []],[ai [66],ai [48],ai [53]],[ai [67],ai [49],ai []]]:=by
 simp only [colK,List.map,xR,uf,qtx_zero,de,HC]
def sQ (S:Sht)(l:List Sgt):List Obs:=(List.range (min l.length 6)).map fun i=>Dc S (l.getD i M3) i
def el (S:Sht)(H:Hts)(l:List Sgt):Bk:=⟨da (S.kd % 8) S.a S.b S.h,shT (S.kd % 8),(fsK (da (S.kd % 8) S.a S.b S.h).length H).map qtx,colK,sQ S l⟩
theorem kP (S:Sht)(l:List Sgt):(sQ S l).length=min l.length 6:=by simp [sQ]
theorem EJ (S:Sht){l:List Sgt}{i:Nat}{s:Sgt}(h:l[i]?=some s)(a:i<6):(sQ S l)[i]?=some (Dc S s i):=by
 have h1:=(aF.1 h).1;rw [sQ,Ou,O5 om_];show some (Dc S (l.getD i M3) i)=_;rw [ax,h];rfl
theorem ET (C:Mem)(q:Tabs C)(S:Sht)(H:Hts)(U:Value)(l:List Sgt)(V:S.kd<256)(A:NL H)(L:Sl C 9 U (l.map Me))(hs:∀ s∈l,SgtR s)(hG:Good (da (S.kd % 8) S.a S.b S.h) (shT (S.kd % 8))) :
  Pur cx.P 34 [.agg ⟨KS S H U⟩] C fun u D=>BookIn D u (el S H l):=by
 obtain ⟨As,cs,rfl,ag,au,_⟩:=id L;have av:maxLen<=9223372036854775807:=by simp [maxLen]
 simp only [al] at L ag ⊢;have ax:=kL (S.kd % 8) S.a S.b S.h;refine Sc func34 44 U3 fun w0=>R8 fun R f=>So U6 fun W=>Sq U5 fun v=>Sa [1,2] f Z<|G.freeze 1 Z fun _ _ B=>R4 1 Z fun R f=>R5 (bkT B 4) U8<|SI (vz _ q.m_ S.kd S.a S.b S.h V) U7 (fun v8 _ _ X=>?_);obtain ⟨v1,v2,rfl,M,N⟩:=id X.ex;obtain ⟨k,n,rfl,ah,ay,_⟩:=id M;obtain ⟨A2,c2,rfl,_,_,_⟩:=id N;simp only [al] at M N ah X ⊢;refine Sq U5 fun b3=>Sf (j:=0) U12<|Sa [1,2,3] f Z<|G.freeze 0 Z fun _ _ Y=>G.cut (fun fr C' E O=>∃ (c:Option Addr)(d:Nat)(x:Value)(g:Nat),(Sl C' 1 (.slice c (fsK (da (S.kd % 8) S.a S.b S.h).length H).length d) ((fsK (da (S.kd % 8) S.a S.b S.h).length H).map eR)/\Sl C' 3 x [[ai [65],ai [48],ai []],[ai [66],ai [48],ai [53]],[ai [67],ai [49],ai []]])/\fr=[(1,[],.pointer (some ⟨W,0,none⟩)),(2,[],.pointer (some ⟨v,0,none⟩)),(4,[],.pointer (some ⟨g,0,none⟩))]/\E=[.obj g (.cells ⟨[.slice k (da (S.kd % 8) S.a S.b S.h).length n,.slice A2 (shT (S.kd % 8)).length c2,.slice c (fsK (da (S.kd % 8) S.a S.b S.h).length H).length d,x,.slice none 0 0]⟩ 42 (0,0)),.obj v (.cells ⟨[.slice none 0 0,.slice none 0 0,.slice none 0 0,.slice none 0 0,.slice none 0 0]⟩ 42 (0,0))]) ?_ (fun fr az aA O aB Q=>?_)
 ·refine SR (.cut [0,1,2,3,5,6,7] (.alt 4 (.cut [] (.alt 8 (.fin [9,10,11]) (.alt 10 (.fin [8,9,11]) .stop))) (.alt 8 (.cut [] (.alt 4 (.fin [9,10,11]) (.alt 10 (.fin [4,9,11]) .stop))) (.alt 10 (.cut [] (.alt 4 (.fin [8,9,11]) (.alt 8 (.fin [4,9,11]) .stop))) .stop)))) [] Z Z kr_ fun R hB f F=>R5 (bkT Y 2) U8<|R5 (bkT Y 2) U8<|R7 U6<|R5 (bkT B 7) U8<|Sn ([ai [65],ai [48],ai []]) U8<|Sn ([ai [66],ai [48],ai [53]]) U8<|Sn ([ai [67],ai [49],ai []]) U8<|SE F Z ⟨?_, ?_, ?_,trivial⟩
  ·refine SD (iM _ q.m_ _ _ (da (S.kd % 8) S.a S.b S.h).length k n H Z om_ A) U7 fl_ fun I J _ e=>SE F Z ⟨?_, ?_,trivial⟩
   ·refine SJ [[ai [65],ai [48],ai []],[ai [66],ai [48],ai [53]],[ai [67],ai [49],ai []]] U12 fl_ (fun o K _ p=>?_);obtain ⟨c,d,rfl,_,_,_⟩:=id e;simp only [al] at e ⊢;exact Sn [.slice k (da (S.kd % 8) S.a S.b S.h).length n,.slice A2 (shT (S.kd % 8)).length c2,.slice c (fsK (da (S.kd % 8) S.a S.b S.h).length H).length d,.slice (some ⟨o,0,none⟩) 3 3,.slice none 0 0] U8<|Sq U5 fun g=>Sf (j:=0) U12<|Sa [1,2,4] f Z<|Si 0 mup (hn_ [1,2,4] Z) ⟨c,d,_,g,⟨e.mono mup,p.mono mup⟩,Z,Z⟩
   refine Sq U5 fun g=>SJ [[ai [65],ai [48],ai []],[ai [66],ai [48],ai [53]],[ai [67],ai [49],ai []]] U12 fl_ (fun o K _ p=>?_);obtain ⟨c,d,rfl,_,_,_⟩:=id e;simp only [al] at e ⊢;exact Sn [.slice k (da (S.kd % 8) S.a S.b S.h).length n,.slice A2 (shT (S.kd % 8)).length c2,.slice c (fsK (da (S.kd % 8) S.a S.b S.h).length H).length d,.slice (some ⟨o,0,none⟩) 3 3,.slice none 0 0] U8<|Sf (j:=0) U12<|Sa [1,2,4] f Z<|Si 0 mup (hn_ [1,2,4] Z) ⟨c,d,_,g,⟨e.mono mup,p.mono mup⟩,Z,Z⟩
  ·refine SJ [[ai [65],ai [48],ai []],[ai [66],ai [48],ai [53]],[ai [67],ai [49],ai []]] U12 fl_ fun o K _ p=>SE F Z ⟨?_, ?_,trivial⟩
   ·refine SD (iM _ q.m_ _ _ (da (S.kd % 8) S.a S.b S.h).length k n H Z om_ A) U7 fl_ (fun I J _ e=>?_);obtain ⟨c,d,rfl,_,_,_⟩:=id e;simp only [al] at e ⊢;exact Sn [.slice k (da (S.kd % 8) S.a S.b S.h).length n,.slice A2 (shT (S.kd % 8)).length c2,.slice c (fsK (da (S.kd % 8) S.a S.b S.h).length H).length d,.slice (some ⟨o,0,none⟩) 3 3,.slice none 0 0] U8<|Sq U5 fun g=>Sf (j:=0) U12<|Sa [1,2,4] f Z<|Si 0 mup (hn_ [1,2,4] Z) ⟨c,d,_,g,⟨e.mono mup,p.mono mup⟩,Z,Z⟩
   refine Sq U5 fun g=>SD (iM _ q.m_ _ _ (da (S.kd % 8) S.a S.b S.h).length k n H Z om_ A) U7 fl_ (fun I J _ e=>?_);obtain ⟨c,d,rfl,_,_,_⟩:=id e;simp only [al] at e ⊢;exact Sn [.slice k (da (S.kd % 8) S.a S.b S.h).length n,.slice A2 (shT (S.kd % 8)).length c2,.slice c (fsK (da (S.kd % 8) S.a S.b S.h).length H).length d,.slice (some ⟨o,0,none⟩) 3 3,.slice none 0 0] U8<|Sf (j:=0) U12<|Sa [1,2,4] f Z<|Si 0 mup (hn_ [1,2,4] Z) ⟨c,d,_,g,⟨e.mono mup,p.mono mup⟩,Z,Z⟩
  refine Sq U5 fun g=>SE F Z ⟨?_, ?_,trivial⟩
  ·refine SD (iM _ q.m_ _ _ (da (S.kd % 8) S.a S.b S.h).length k n H Z om_ A) U7 fl_ fun I J _ e=>SJ [[ai [65],ai [48],ai []],[ai [66],ai [48],ai [53]],[ai [67],ai [49],ai []]] U12 fl_ (fun o K _ p=>?_);obtain ⟨c,d,rfl,_,_,_⟩:=id e;simp only [al] at e ⊢;exact Sn [.slice k (da (S.kd % 8) S.a S.b S.h).length n,.slice A2 (shT (S.kd % 8)).length c2,.slice c (fsK (da (S.kd % 8) S.a S.b S.h).length H).length d,.slice (some ⟨o,0,none⟩) 3 3,.slice none 0 0] U8<|Sf (j:=0) U12<|Sa [1,2,4] f Z<|Si 0 mup (hn_ [1,2,4] Z) ⟨c,d,_,g,⟨e.mono mup,p.mono mup⟩,Z,Z⟩
  refine SJ [[ai [65],ai [48],ai []],[ai [66],ai [48],ai [53]],[ai [67],ai [49],ai []]] U12 fl_ fun o K _ p=>SD (iM _ q.m_ _ _ (da (S.kd % 8) S.a S.b S.h).length k n H Z om_ A) U7 fl_ (fun I J _ e=>?_);obtain ⟨c,d,rfl,_,_,_⟩:=id e;simp only [al] at e ⊢;exact Sn [.slice k (da (S.kd % 8) S.a S.b S.h).length n,.slice A2 (shT (S.kd % 8)).length c2,.slice c (fsK (da (S.kd % 8) S.a S.b S.h).length H).length d,.slice (some ⟨o,0,none⟩) 3 3,.slice none 0 0] U8<|Sf (j:=0) U12<|Sa [1,2,4] f Z<|Si 0 mup (hn_ [1,2,4] Z) ⟨c,d,_,g,⟨e.mono mup,p.mono mup⟩,Z,Z⟩
 obtain ⟨c,d,x,g,⟨aj,aa⟩,rfl,rfl⟩:=Q;refine C6 1 [1,2,4,5] Z<|G.nilArr 62 10<|G.perm (L':=[.obj g (.cells ⟨[.slice k (da (S.kd % 8) S.a S.b S.h).length n,.slice A2 (shT (S.kd % 8)).length c2,.slice c (fsK (da (S.kd % 8) S.a S.b S.h).length H).length d,x,.slice none 0 0]⟩ 42 (0,0)),.arr (.slice none 0 0) 62 10 0 [],.obj v (.cells ⟨[.slice none 0 0,.slice none 0 0,.slice none 0 0,.slice none 0 0,.slice none 0 0]⟩ 42 (0,0))]) (List.Perm.swap _ _ _)<|G.loop (fun fr C' E O=>∃ (i:Nat)(w:Value),(i<=l.length/\i<=6)/\fr=[(1,[],.pointer (some ⟨W,0,none⟩)),(2,[],.pointer (some ⟨v,0,none⟩)),(4,[],.pointer (some ⟨g,0,none⟩)),(5,[],.int .i64 i)]/\E=[.obj g (.cells ⟨[.slice k (da (S.kd % 8) S.a S.b S.h).length n,.slice A2 (shT (S.kd % 8)).length c2,.slice c (fsK (da (S.kd % 8) S.a S.b S.h).length H).length d,x,w]⟩ 42 (0,0)),.arr w 62 10 ((sQ S l).take i).length (((sQ S l).take i).map vS).flatten,.obj v (.cells ⟨[.slice none 0 0,.slice none 0 0,.slice none 0 0,.slice none 0 0,.slice none 0 0]⟩ 42 (0,0))]/\O=6-i) (hn_ [1,2,4,5] Z) ⟨0,.slice none 0 0,⟨Ow _,Ow _⟩,Z,Z,Z⟩ (fun fr aC aD m _ Q=>?_);obtain ⟨i,w,⟨hi,aE⟩,rfl,rfl,rfl⟩:=Q;refine R4 2 Z fun R f=>R5 (bkT B 1) U8<|R9 5 Z<|Sv U8<|Sa [1,2,4,5,27] f Z<|R6 (fun t=>?_) fun t=>?_
 ·have z:i<l.length/\i<6:=by
   by_cases h1:((i:Nat):Int)<(l.length:Nat)
   ·rw [OK h1] at t;have h2:=NM t;omega
   rw [OV h1] at t;exact absurd t am
  obtain ⟨s,T⟩:∃ s,l[i]?=some s:=⟨l[i]'z.1,ak z.1⟩;have an:(sQ S l).take (i+1)=(sQ S l).take i++[Dc S s i]:=by rw [OS,EJ S T z.2];rfl
  have aF:((sQ S l).take i).length<=6:=by rw [OG,kP];omega
  refine Ss [0,1,2,3,4,5,6,7,8,9,10,11,12,13] [] Z kr_ fun R hB f=>R7 U6<|Sd af U9<|R5 (bkT B 12) U8<|R7 U6<|R5 (bkT B 1) U8<|R7 U6<|Sm L.m_ U10 om_ (bO T) fl_ fun aG ao=>R5 ao U8<|R7 U6<|SI (qi _ q.m_ S s H _ i z.2 V (hs s (Oq T)) hG) U7 (fun aH _ _ ap=>?_);subst ap;refine Sr [vS (Dc S s i)] U12 fun aI _ _ aq=>SB (j:=1) U11 aq.m_ Z aw (by simp only [aV];omega) fl_ fun ab ac ad=>R7 U6<|Sf (j:=1) U12<|Sa [1,2,4,5] f Z<|R4 1 Z fun R f=>Se _ U7<|C4 1 [1,2,4,5] f Z<|Sp (L':=[.obj g (.cells ⟨[.slice k (da (S.kd % 8) S.a S.b S.h).length n,.slice A2 (shT (S.kd % 8)).length c2,.slice c (fsK (da (S.kd % 8) S.a S.b S.h).length H).length d,x,.slice ab ac ad]⟩ 42 (0,0)),.arr (.slice ab ac ad) 62 10 ((sQ S l).take (i+1)).length (((sQ S l).take (i+1)).map vS).flatten,.obj v (.cells ⟨[.slice none 0 0,.slice none 0 0,.slice none 0 0,.slice none 0 0,.slice none 0 0]⟩ 42 (0,0))]) (by rw [an,O7,Pg,Oy];rfl)<|Sj (m':=6-(i+1)) om_ mup (hn_ [1,2,4,5] Z) ⟨i+1,_,⟨by omega,by omega⟩,Z,Z,Z⟩
 have z:i=min l.length 6:=by
  by_cases h1:((i:Nat):Int)<(l.length:Nat)
  ·rw [OK h1] at t;have h2:=Ox t;omega
  omega
 have ar:(sQ S l).take i=sQ S l:=Pa (by rw [z,kP];exact Oo _);rw [ar];refine G.freezeArr 1 ((sQ S l).map vS) rfl rfl (by intro r hr;obtain ⟨y,_,rfl⟩:=OB.1 hr;rfl) (by rw [al]) (fun Cg hg ae=>?_);obtain ⟨Aw,cw,rfl,_⟩:=id ae;obtain ⟨Ap,cp,rfl,_⟩:=id aa;refine R8 fun R f=>Sd af U9<|Sf (j:=1) U12<|Sa [2] f Z<|Sh (SV af U4 ?_);exact ⟨Z,_,_,_,_,_,Z,M.mono mup,N.mono mup,(by rw [el,<- xQ];exact aj.mono mup),(by rw [el,IU];exact aa.mono mup),ae⟩
instance:DecidableEq RowQ:=fun a b=>decidable_of_iff (a.f=b.f/\a.b=b.b) (by cases a;cases b;simp)
instance (k:Nat) (q:Rat):Decidable (QB k q):=by unfold QB;infer_instance
instance (k:Nat) (p:Pt):Decidable (QP k p):=by unfold QP;infer_instance
instance (n:Nat) (t:Tri):Decidable (qB n t):=by unfold qB;infer_instance
theorem sG {z:Int}{s:Str}(h:txt z=s):qtx ((z:Int):Rat)=s:=by rw [lU,h]
theorem KE:qtx 2=[50]:=sG (z:=2) aq
theorem xp (q:Rat){s:Str}(h:qtx q=s)(a:QB 22 q):dO s=q:=by rw [<- h];exact Ec (bM a)
theorem ro0:dO [48]=0:=xp 0 qtx_zero aq
theorem Ka (a:List Pt)(t:Tri)(p:Pt)(j:Nat):wgt a t p j=wgt a t p (j % 3):=by
 unfold wgt;rw [show (j+1) % 3=(j % 3+1) % 3 by omega,show (j+2) % 3=(j % 3+2) % 3 by omega]
theorem GZ (t:Tri)(j:Nat):lM t j=lM t (min j 2):=by
 unfold lM;rcases (by omega:j=0∨j=1∨2<=j) with h | h | h
 ·subst h;rfl
 ·subst h;rfl
 rw [Nat.min_eq_right h,aA om_,aA om_];rfl
theorem q6:qtx 6=[54]:=by decide +kernel
def HI (m:Nat)(u v:Int)(h:Bool):List Pt:=(shP m).map fun p=>(mS (p.1+u*1) (eA h*1),mS (p.2+v*1) (eA h*1))
theorem MO (m:Nat)(a b:Int)(h:Bool):da m a b h=HI m (a.tmod 8) (b.tmod 8) h:=rfl
def oW (pts:List Pt)(tris:List Tri):Bool :=
 pts.all (fun p=>decide (QP 1 p)) && (decide pts.Nodup && (tris.all (fun t=>decide (qB pts.length t)) && (tris.all (fun t=>decide (0<fw (pts.getD t.1 (0,0)) (pts.getD t.2.1 (0,0)) (pts.getD t.2.2 (0,0)))) && (decide (cP tris).Nodup && (mr pts tris && pts.all fun p=>decide (oP pts tris p≠[]))))))
theorem all0:∀ i<15,∀ j<15,∀ h:Bool,oW (HI 0 ((i:Nat)-7) ((j:Nat)-7) h) (shT 0)=true:=by decide +kernel
theorem sI (z:Int)(h:z.natAbs<100):QB 1 ((z:Int):Rat):=by
 refine ⟨?_, ?_⟩
 ·show z.natAbs<B9 ^ 1;have:B9 ^ 1=1000000000:=by decide
  omega
 show 1<B9 ^ 1;decide
theorem Ig (z:Int):-5<ta z/\ta z<5:=by
 have:=Bh z;unfold ta;split <;> omega
theorem Nj (n:Nat):QB 1 (mS ((n % 12:Nat):Int) 2):=pj dc_ om_ dc_
theorem all1:∀ i<15,∀ j<15,∀ h:Bool,oW (HI 1 ((i:Nat)-7) ((j:Nat)-7) h) (shT 1)=true:=by decide +kernel
theorem all2:∀ i<15,∀ j<15,∀ h:Bool,oW (HI 2 ((i:Nat)-7) ((j:Nat)-7) h) (shT 2)=true:=by decide +kernel
theorem all3:∀ i<15,∀ j<15,∀ h:Bool,oW (HI 3 ((i:Nat)-7) ((j:Nat)-7) h) (shT 3)=true:=by decide +kernel
theorem all4:∀ i<15,∀ j<15,∀ h:Bool,oW (HI 4 ((i:Nat)-7) ((j:Nat)-7) h) (shT 4)=true:=by decide +kernel
theorem all5:∀ i<15,∀ j<15,∀ h:Bool,oW (HI 5 ((i:Nat)-7) ((j:Nat)-7) h) (shT 5)=true:=by decide +kernel
theorem all6:∀ i<15,∀ j<15,∀ h:Bool,oW (HI 6 ((i:Nat)-7) ((j:Nat)-7) h) (shT 6)=true:=by decide +kernel
theorem all7:∀ i<15,∀ j<15,∀ h:Bool,oW (HI 7 ((i:Nat)-7) ((j:Nat)-7) h) (shT 7)=true:=by decide +kernel
theorem uC (a:Int):∃ i:Nat,i<15/\a.tmod 8=(i:Int)-7:=by
 have h:=Dx a;exact ⟨(a.tmod 8+7).toNat,by omega,by omega⟩
theorem xh (m:Nat)(g:m<8)(a b:Int)(h:Bool):oW (da m a b h) (shT m)=true:=by
 obtain ⟨i,c,e⟩:=uC a;obtain ⟨j,d,f⟩:=uC b;rw [MO,e,f];rcases (by omega:m=0∨m=1∨m=2∨m=3∨m=4∨m=5∨m=6∨m=7) with rfl | rfl | rfl | rfl | rfl | rfl | rfl | rfl
 ·exact all0 i c j d h
 ·exact all1 i c j d h
 ·exact all2 i c j d h
 ·exact all3 i c j d h
 ·exact all4 i c j d h
 ·exact all5 i c j d h
 ·exact all6 i c j d h
 exact all7 i c j d h
theorem Kr:∀ m:Nat,m<8->shT m≠[]/\(shT m).length<=800:=by decide
theorem Fm {a:List Pt}{b:List Tri}(h:oW a b=true)(c:b≠[])(d:b.length<=800)(e:a.length<=400):Good a b/\∀ p∈a,oP a b p≠[]:=by
 unfold oW at h;simp only [OC,OM,Oz] at h;obtain ⟨f,g,i,j,k,l,m⟩:=h;exact ⟨⟨⟨f,g,i,j,k,d,e⟩,c,l⟩,m⟩
theorem lQ (m:Nat)(c:m<8)(a b:Int)(h:Bool):Good (da m a b h) (shT m)/\∀ p∈da m a b h,oP (da m a b h) (shT m) p≠[]:=by
 have d:=kL m a b h;obtain ⟨h0,h1⟩:=Kr m c;exact Fm (xh m c a b h) h0 h1 om_
theorem KN (S:Sht)(s:Sgt)(c:SgtR s):QP 1 (CZ S s)/\oP (da (S.kd % 8) S.a S.b S.h) (shT (S.kd % 8)) (CZ S s)≠[]:=by
 obtain ⟨d,e⟩:=lQ (S.kd % 8) (Pd _ dc_) S.a S.b S.h;have f:0<(da (S.kd % 8) S.a S.b S.h).length:=by rw [da,al];exact xi _
 unfold CZ;split
 ·rename_i h;exact ⟨zA dc_ dc_ c.px c.py,h⟩
 have g:s.depth % (da (S.kd % 8) S.a S.b S.h).length<(da (S.kd % 8) S.a S.b S.h).length:=Pd _ f;rw [ax,ak g,Pu];exact ⟨d.ok.q _ (Pn _),e _ (Pn _)⟩
theorem gH {q:Rat}(h:QB 1 q):(qtx q).length<=999998:=vh (fs:=[q]) (k:=1) dc_ (by intro y hy;rw [OP] at hy;rw [hy];exact h) _ (OP.2 rfl)
theorem N8 (S:Sht)(s:Sgt)(i:Nat)(c:SgtR s):ObsR (Dc S s i):=by
 have b:=(KN S s c).1;have a:=gH b.1;have hy:=gH b.2;have d:=gH (Nj s.depth);have h0:=Bh s.n0;have h1:=Bh s.n1;have h2:=Ig s.n2;have e:=gH (sI (s.n0.tmod 5) om_);have l1:=gH (sI (s.n1.tmod 5) om_);have l2:=gH (sI (ta s.n2) om_);unfold Dc;split
 ·exact ⟨by simp,a,hy,by simp,by simp [tg],by simp,by simp,by simp,by simp⟩
 split
 ·exact ⟨by simp,a,hy,d,by simp [tg],by simp [tg],by simp,by simp,by simp⟩
 exact ⟨by simp,a,hy,by simp,by simp [tg],by simp [tg],e,l1,l2⟩
theorem Gj {S:Sht}{H:Hts}{l:List Sgt}{i:Nat}{o:Obs}(h:(el S H l).obs[i]?=some o):i<6/\∃ s,l[i]?=some s/\o=Dc S s i:=by
 have h1:=(aF.1 h).1;have h2:i<(sQ S l).length:=h1;rw [kP] at h2;have h3:=EJ S (ak (show i<l.length by omega)) (show i<6 by omega);have h4:(sQ S l)[i]?=some o:=h;rw [h3] at h4;exact ⟨by omega,_,ak om_,(PS h4).symm⟩
theorem Og:∀ x∈colK,Mh x:=by
 intro x a;simp only [colK,OE,PL,QW] at a;rcases a with rfl | rfl | rfl
 ·exact ⟨by decide +kernel,fun q h=>by simp at h,by decide⟩
 ·exact ⟨by decide +kernel,fun q h=>by simp at h;subst h;decide +kernel,by decide⟩
 exact ⟨by decide +kernel,fun q h=>by simp at h,by decide⟩
theorem LR (S:Sht)(H:Hts)(l:List Sgt)(a:∀ s∈l,SgtR s):BookR (el S H l):=by
 refine ⟨?_,Og,(by show colK.length<=1000000;decide), ?_⟩
 ·intro s h;obtain ⟨q,b,rfl⟩:=OB.1 h;exact gH (Nd _ H q b)
 intro o c;obtain ⟨i,d⟩:=List.mem_iff_getElem?.1 c;obtain ⟨_,s,e,rfl⟩:=Gj d;exact N8 S s i (a s (Oq e))
theorem I3 (S:Sht)(H:Hts)(l:List Sgt):0<bp (el S H l)/\bp (el S H l)<=6:=by
 refine ⟨?_,kL _ _ _ _⟩;show 0<(da (S.kd % 8) S.a S.b S.h).length;rw [da,al];exact xi _
def Gt (C:Mem)(pv:Value)(S:Sht)(H:Hts)(l:List Sgt):Prop:=∃ A c,pv=.agg ⟨KS S H (.slice A l.length c)⟩/\Sl C 9 (.slice A l.length c) (l.map Me)
structure PlanR (S:Sht)(H:Hts)(l:List Sgt):Prop where
 kd:S.kd<256
 h:NL H
 s:∀ s∈l,SgtR s
def Jm (s p:Nat)(a b:Int):Prop:=a<0∨(s:Int)<=a∨b<0∨(p:Int)<=b
instance (s p:Nat) (a b:Int):Decidable (Jm s p a b):=by unfold Jm;infer_instance
def JG (n:Nat)(x:Int):Prop:=x<0∨(n:Int)<=x
instance (n:Nat) (x:Int):Decidable (JG n x):=by unfold JG;infer_instance
open Go Go.Jog Go.ChangeShapes Go.WideShapes Go.ChangeAt Go.RowKit
set_option maxRecDepth 100000
theorem own:ownKnob Tryz.prog.godebug=none:=by kernel_rfl
section
variable {H:Type} {enc:TypeId × Value->H} {W:World} {spare:Nat->Bool} {held:Bool}
theorem NQ {n:Nat}{c:Value}{y:DataW H × List MemPlace}(h:DataW.trod enc Tryz.prog W 0 spare held n 5 [c]=some y):∃ b:UInt8,c=.int .u8 b.toNat:=by
 obtain ⟨m,h1,_,h3⟩:=DataW.trod_int Tryz.underlying5 h;simp only [Ql,Rm] at h1;subst h1;have a:0<=m/\m<256:=by
  simp [Lit.wf,IntKind.min,IntKind.max,IntKind.signed,IntKind.bits] at h3;omega
 refine ⟨UInt8.ofNat m.toNat, ?_⟩;congr 1;simp only [UInt8.toNat_ofNat'];omega
theorem uy {n:Nat}{c:Value}{y:DataW H × List MemPlace}(h:DataW.trod enc Tryz.prog W 0 spare held n 5 [c]=some y):∃ m:Nat,c=.int .u8 m/\m<256:=by
 obtain ⟨b,rfl⟩:=NQ h;exact ⟨b.toNat,Z,b.toNat_lt⟩
theorem lZ {n:Nat}{c:Value}{y:DataW H × List MemPlace}(h:DataW.trod enc Tryz.prog W 0 spare held n 22 [c]=some y):∃ m:Int,c=.int .i8 m/\-128<=m/\m<=127:=by
 obtain ⟨m,h1,_,h3⟩:=DataW.trod_int Tryz.underlying22 h;simp only [Ql,Rm] at h1;refine ⟨m,h1, ?_⟩;simp [Lit.wf,IntKind.min,IntKind.max,IntKind.signed,IntKind.bits] at h3;omega
theorem Gi {n:Nat}{c:Value}{y:DataW H × List MemPlace}(h:DataW.trod enc Tryz.prog W 0 spare held n 4 [c]=some y):∃ b:Bool,c=.bool b:=by
 obtain ⟨b,h1,_⟩:=DataW.trod_bool Tryz.underlying4 h;simp only [Ql,Rm] at h1;exact ⟨b,h1⟩
theorem wx {t e:TypeId}{k n:Nat}{a:List Value}{y:DataW H × List MemPlace}(b:Tryz.prog.underlying t=some (.array k e))(c:Tryz.prog.cellsOf e=1)(h:DataW.trod enc Tryz.prog W 0 spare held n t a=some y) :
  ∃ m,∀ i,i<k->∃ z,DataW.trod enc Tryz.prog W 0 spare held m e ((a.drop i).take 1)=some z:=by
 obtain ⟨xs,m,_,_,_,g,d⟩:=DataW.trod_array b h;refine ⟨m,fun i f=>?_⟩;have h1:=d i f;rw [c,Qi] at h1;rw [h1,ak om_];exact ⟨_,Z⟩
theorem tQ:Tryz.prog.cellsOf 5=1:=by kernel_rfl
theorem nt:Tryz.prog.cellsOf 22=1:=by kernel_rfl
theorem rQ:Tryz.prog.cellsOf 4=1:=by kernel_rfl
theorem wk:Tryz.prog.cellsOf 23=2:=by kernel_rfl
theorem F9:Tryz.prog.cellsOf 137=2:=by kernel_rfl
theorem IZ:Tryz.prog.cellsOf 138=3:=by kernel_rfl
theorem IY:Tryz.prog.cellsOf 26=6:=by kernel_rfl
theorem Hn {n:Nat}{c d e f:Value}{y:DataW H × List MemPlace}(h:DataW.trod enc Tryz.prog W 0 spare held n 25 [c,d,e,f]=some y):∃ S:Sht,[c,d,e,f]=([.int .u8 S.kd,.int .i8 S.a,.int .i8 S.b,.bool S.h]:List Value)/\S.kd<256:=by
 obtain ⟨o,p,q,r,_,s,h0,h1,h2⟩:=Go.Deep.trod_struct3 Tryz.underlying25 h;simp only [tQ,wk,rQ] at h0 h1 h2;obtain ⟨kd,rfl,i⟩:=uy h0;obtain ⟨m,g⟩:=wx Tryz.underlying23 nt h1;obtain ⟨t,j⟩:=g 0 dc_;obtain ⟨u,k⟩:=g 1 dc_;obtain ⟨a,rfl,_⟩:=lZ j;obtain ⟨b,rfl,_⟩:=lZ k;obtain ⟨l,rfl⟩:=Gi h2;exact ⟨⟨kd,a,b,l⟩,Z,i⟩
theorem BZ {n:Nat}{b c d e f g i:Value}{y:DataW H × List MemPlace}(h:DataW.trod enc Tryz.prog W 0 spare held n 28 [b,c,d,e,f,g,i]=some y):∃ G:Hts,[b,c,d,e,f,g,i]=Na G/\NL G:=by
 obtain ⟨B,C,D,_,E,h0,h1⟩:=Go.ChangeShapes.trod_struct2 Tryz.underlying28 h;simp only [IY,rQ] at h0 h1;obtain ⟨m,a⟩:=wx Tryz.underlying26 nt h0;obtain ⟨F,k⟩:=a 0 dc_;obtain ⟨I,l⟩:=a 1 dc_;obtain ⟨J,o⟩:=a 2 dc_;obtain ⟨K,p⟩:=a 3 dc_;obtain ⟨L,q⟩:=a 4 dc_;obtain ⟨M,r⟩:=a 5 dc_;obtain ⟨s,rfl,g0⟩:=lZ k;obtain ⟨t,rfl,N⟩:=lZ l;obtain ⟨u,rfl,O⟩:=lZ o;obtain ⟨v,rfl,P⟩:=lZ p;obtain ⟨w,rfl,Q⟩:=lZ q;obtain ⟨x,rfl,R⟩:=lZ r;obtain ⟨A,rfl⟩:=Gi h1;refine ⟨⟨s,t,u,v,w,x,A⟩,Z, ?_⟩;intro z j;simp only [JQ,OE,PL,QW] at j;rcases j with rfl | rfl | rfl | rfl | rfl | rfl <;> assumption
theorem uA {P:Program}{t:TypeId}{b c d e f:Field}{o:Nat}{a:List Value}{x:DataW H × List MemPlace}(p:P.underlying t=some (.struct #[b,c,d,e,f]))(h:DataW.trod enc P W 0 spare held o t a=some x) :
  ∃ i j k l m n,DataW.trod enc P W 0 spare held n b.type ((a.drop b.offset).take (P.cellsOf b.type))=some i/\DataW.trod enc P W 0 spare held n c.type ((a.drop c.offset).take (P.cellsOf c.type))=some j/\DataW.trod enc P W 0 spare held n d.type ((a.drop d.offset).take (P.cellsOf d.type))=some k /\
   DataW.trod enc P W 0 spare held n e.type ((a.drop e.offset).take (P.cellsOf e.type))=some l/\DataW.trod enc P W 0 spare held n f.type ((a.drop f.offset).take (P.cellsOf f.type))=some m:=by
 obtain ⟨xs,n,_,rfl,r,q,g⟩:=DataW.trod_struct p h
 match xs,q with
 | [i,j,k,l,m],_=>exact ⟨i,j,k,l,m,n,by simpa using g 0 b rfl,by simpa using g 1 c rfl,by simpa using g 2 d rfl,by simpa using g 3 e rfl,by simpa using g 4 f rfl⟩
theorem Hi {n:Nat}{a:List Value}{y:DataW H × List MemPlace}(b:a.length=9)(h:DataW.trod enc Tryz.prog W 0 spare held n 140 a=some y):∃ s:{s:Sgt // SgtR s},a=Me s.1:=by
 obtain ⟨w,x,z,A,B,C,h0,h1,h2,h3,h4⟩:=uA Tryz.underlying140 h
 match a,b with
 | [c0,D,c2,E,F,G,I,J,K],_ =>
   simp only [tQ,wk,F9,IZ] at h0 h1 h2 h3 h4;obtain ⟨kd,rfl,c⟩:=uy h0;obtain ⟨L,a1⟩:=wx Tryz.underlying23 nt h1;obtain ⟨w0,e⟩:=a1 0 dc_;obtain ⟨M,f⟩:=a1 1 dc_;obtain ⟨px,rfl,g⟩:=lZ e;obtain ⟨py,rfl,i⟩:=lZ f;obtain ⟨N,a2⟩:=wx Tryz.underlying137 tQ h2;obtain ⟨O,j⟩:=a2 0 dc_;obtain ⟨P,k⟩:=a2 1 dc_;obtain ⟨u0,rfl,l⟩:=uy j;obtain ⟨u1,rfl,m⟩:=uy k;obtain ⟨d,rfl,o⟩:=uy h3;obtain ⟨Q,a4⟩:=wx Tryz.underlying138 nt h4;obtain ⟨R,p⟩:=a4 0 dc_;obtain ⟨S,q⟩:=a4 1 dc_;obtain ⟨T,r⟩:=a4 2 dc_;obtain ⟨n0,rfl,t⟩:=lZ p;obtain ⟨n1,rfl,u⟩:=lZ q;obtain ⟨n2,rfl,v⟩:=lZ r;exact ⟨⟨⟨kd,px,py,u0,u1,d,n0,n1,n2⟩,⟨c,g,i,l,m,o,t,u,v⟩⟩,Z⟩
theorem DQ {b:Nat}{v:Value}{x:DataW H × List MemPlace}(h:DataW.trod enc Tryz.prog W 0 spare held b 29 [v]=some x):∃ l:List Sgt,Sl (mP W) 9 v (l.map Me)/\∀ s∈l,SgtR s:=by
 obtain ⟨l,a⟩:=uM (fun s:{s:Sgt // SgtR s}=>Me s.1) Tryz.underlying29 kr_ dc_ (fun n cs y a hy=>Hi a hy) h;refine ⟨l.map (·.1),by rw [Pc];exact a,fun s hs=>?_⟩;obtain ⟨z,_,rfl⟩:=OB.1 hs;exact z.2
theorem KR {n:Nat}{a:List Value}{y:DataW H × List MemPlace}(h:DataW.trod enc Tryz.prog W 0 spare held n 31 a=some y):∃ S G l,Gt (mP W) (.agg ⟨a⟩) S G l/\PlanR S G l:=by
 obtain ⟨o,p,q,r,_,d,h0,h1,h2⟩:=Go.Deep.trod_struct3 Tryz.underlying31 h;have g:Tryz.prog.cellsOf 31=12:=by kernel_rfl
 have h4:Tryz.prog.cellsOf 25=4:=by kernel_rfl
 have i:Tryz.prog.cellsOf 28=7:=by kernel_rfl
 have hs:Tryz.prog.cellsOf 29=1:=by kernel_rfl
 rw [g] at d
 match a,d with
 | [c0,s,c2,t,u,v,w,x,z,B,C,D],_ =>
  simp only [h4,i,hs] at h0 h1 h2;obtain ⟨S,e,j⟩:=Hn h0;obtain ⟨G,f,k⟩:=BZ h1;obtain ⟨l,b,m⟩:=DQ h2;obtain ⟨A,c,rfl,_⟩:=id b;simp only [Ql,Rm] at e;obtain ⟨rfl,rfl,rfl,rfl⟩:=e;simp only [Na,Ql,Rm] at f;obtain ⟨rfl,rfl,rfl,rfl,rfl,rfl,rfl⟩:=f;simp only [al] at b ⊢;exact ⟨S,G,l,⟨A,c,Z,b⟩,j,k,m⟩
end
def kU (cs:Array Value):Obj->Obj
 | .cells _ t frozen=>.cells cs t frozen
 | o=>o
def FX:Array Value:=(Lib.deBruijn32tab.map fun z:Nat=>Value.int .u8 (z:Int)).toArray
def FW:Array Value:=(Lib.deBruijn64tab.map fun z:Nat=>Value.int .u8 (z:Int)).toArray
def BH:Array Value:=(Lib.pow10Tab.map fun z=>Value.int .u64 z).toArray
def Ee:ByteArray:=⟨#[118,97,108,117,101,32,111,117,116,32,111,102,32,114,97,110,103,101]⟩
def Bl:ByteArray:=⟨#[105,110,118,97,108,105,100,32,115,121,110,116,97,120]⟩
noncomputable def low:Nat:=(World.holding Tryz.prog default ⟨#[],#[],[]⟩).heap.size
noncomputable def oU (os:Os):World :=
 let w0:=World.holding Tryz.prog os ⟨#[.cells #[.string Ee] 412,.cells #[.string Bl] 412],#[],[]⟩
 { w0 with heap:=((((w0.heap.modify 0 (kU FX)).modify 1 (kU FW)).modify 3 (kU BH)).modify 5 (kU #[.iface 410 (.pointer (some ⟨low,0,none⟩))])).modify 4 (kU #[.iface 410 (.pointer (some ⟨low+1,0,none⟩))]) }
theorem Kk {W : World} (h : laidMet Tryz.prog [("math/bits.deBruijn32tab", Rows.laid_math_bits_deBruijn32tab), ("math/bits.deBruijn64tab", Rows.laid_math_bits_deBruijn64tab), ("internal/strconv.uint64pow10", Rows.laid_internal_strconv_uint64pow10), ("strconv.ErrRange", Rows.laid_strconv_ErrRange), ("strconv.ErrSyntax", Rows.laid_strconv_ErrSyntax)] W) : Tabs (mP W) := by
 have h1:=h.tail;have h2:=h1.tail;have b:(Rows.laid_math_bits_deBruijn64tab:DataW Unit)=Lib.tabData .u8 (Lib.deBruijn64tab.map fun z:Nat=>(z:Int)):=by rfl
 rw [b] at h1;have a:=Lib.tabIs_of_head (g:=1) (t:=265) (e:=5) (n:=64) kr_ kr_ Tryz.underlying265 Tryz.underlying5 kr_ kr_ h1;have c:(Rows.laid_internal_strconv_uint64pow10:DataW Unit)=Lib.tabData .u64 Lib.pow10Tab:=by rfl
 rw [c] at h2;have d:=Lib.tabIs_of_head (g:=3) (t:=386) (e:=160) (n:=20) kr_ kr_ Tryz.underlying386 Tryz.underlying160 kr_ kr_ h2;refine ⟨VarC.ofWorld d, ?_⟩;unfold Lib.TabIs at a;rw [Pc] at a;exact VarC.ofWorld a
theorem tf:laidOutB Tryz.prog=true:=by kernel_rfl
section
variable {H:Type} {enc:TypeId × Value->H} {W:World} {spare:Nat->Bool} {held:Bool}
theorem JP {n:Nat}{c:Value}{y:DataW H × List MemPlace}(h:DataW.trod enc Tryz.prog W 0 spare held n 3 [c]=some y):∃ m:Int,c=.int .i64 m:=by
 obtain ⟨m,h1,_⟩:=DataW.trod_int Tryz.underlying3 h;simp only [Ql,Rm] at h1;exact ⟨m,h1⟩
end
end Go.Proofs.YthnpijdjlddpmaaGreatDoor
namespace Go.Jog
open Go
theorem Ud {F:Fx}{k:List KI}{b:Fr}{C:Mem}{L:List Ent}{e:Exit}{v:Value}{t d a:Nat}{f:List Value}(i:Ent.arr v t d a f∈L)(h:∀ A c,v=.slice A a c->(0<a->∃ g,A=some ⟨g,0,none⟩)->G F k e b C L):G F k e b C L :=
 G.form i fun j _=>by
  rcases j with ⟨h1,h2⟩ | ⟨g,c,h1,_,_⟩
  ·exact h none 0 (by rw [h1,h2]) om_
  exact h _ c h1 (fun _=>⟨g,Z⟩)
end Go.Jog
namespace Go.Proofs.YthnpijdjlddpmaaGreatDoor
open Go.Proofs.Tryz
open Go Go.Jog
set_option maxRecDepth 100000
variable {bf fs:List Rat}{i j:Nat}{k:Rat}{ls:List (Rat × Value)}{m:Nat}{p:Rat × Value}{q:Rat}{rows:List (List Str × Str)}{s:Nat}{vs:List Value}{w z:Int}{α:Type}
/-! Small parts: numbers of quarters and of halves. -/
theorem Hz (a:w≠0)(h:q*w=z):q=mS z w:=by
 have c:(w:Rat)≠0:=by simpa using a
 unfold mS;rw [Rat.mkRat_eq_div];have b:q=z / w:=by grind
 rw [b];split
 ·rename_i d;have:((w.natAbs:Nat):Int)=-w:=by omega
  rw [show ((w.natAbs:Nat):Rat)=(((w.natAbs:Nat):Int):Rat) from rfl,this];simp only [Rat.intCast_neg];grind
 have:((w.natAbs:Nat):Int)=w:=by omega
 rw [show ((w.natAbs:Nat):Rat)=(((w.natAbs:Nat):Int):Rat) from rfl,this]
theorem KG (a:w≠0)(h:q*w=z)(b:z.natAbs<1000000000)(c:w.natAbs<1000000000):QB 1 q:=by
 rw [Hz a h];exact pj a b c
theorem BI (x y:Nat)(a:x<18446744073709551616)(b:y<18446744073709551616)(C:Mem):Gives cx.P 125 [.int .u64 x,.int .u64 y] C (.tuple #[.int .u64 ((x*y / 18446744073709551616:Nat):Int),.int .u64 ((x*y % 18446744073709551616:Nat):Int)]) :=
 Gives.ofCalls kr_ (fun w=>Any.bits_Mul Tryz.mul x y a b w) C
theorem Em {a:Value}{n k:Nat}{b:List Value}(_d:k+m<=n)(c:m<=k)(_e:b.length=n-k) :
  aD (List.replicate k a++b) ((List.replicate k a++b).take m) k=List.replicate (k+m) a++b.drop m:=by
 have h1:(List.replicate k a++b).take m=List.replicate m a:=by
  rw [List.take_append_of_le_length (by simpa using c),List.take_replicate,PK c]
 have h2:(List.replicate k a++b).take k=List.replicate k a:=by
  rw [List.take_append_of_le_length am,List.take_replicate,Nat.min_self]
 have h3:(List.replicate k a++b).drop (k+m)=b.drop m:=by
  rw [Q6,P1,PI am,P7];congr 1;omega
 unfold aD;rw [h1,h2,P1,h3,List.replicate_append_replicate]
theorem Ei (a:Value)(n:Nat):jH [a] n=List.replicate n a:=by
 rw [dQ];induction n with
 | zero=>rfl
 | succ n b=>rw [PH,PU,b,PH];rfl
theorem HR (n:Nat)(a:n<18446744073709551616)(C:Mem):Gives cx.P 125 [.int .u64 (1:Int),.int .u64 n] C (.tuple #[.int .u64 0,.int .u64 n]):=by
 have h:=BI 1 n om_ a C;have b:1*n / 18446744073709551616=0:=by omega
 have c:1*n % 18446744073709551616=n:=by omega
 rw [b,c] at h;exact h
theorem BG (C:Mem)(v:Value)(n:Nat)(s:Str)(g:Sl C 1 v [[ai s]])(y:n<=1000000):Jog.Fn cx.P 83 [v,.int .i64 n] C [] fun u _z e=>∃ b,u=.slice (some ⟨b,0,none⟩) n n/\e=[.arr u 56 1 n (List.replicate n (ai s))]:=by
 have p:=g;obtain ⟨A,c,rfl,_⟩:=p;refine Sc func83 48 U3 fun w0=>C6 1 [0,1] Z<|C6 2 [0,1,10] Z<|R6 (fun h=>?_) fun h=>?_
 ·simp at h;omega
 refine R4 2 Z fun R d=>SL (c:=1) U8 Z fl_<|R7 U6<|SL (c:=(n:Int)) U8 (by rw [IntKind.wrap_u64];omega) fl_<|Sk (HR n om_ _) U7 fl_<|C4 5 [0,5,6] d Z<|R4 5 Z fun R d=>SA U8<|Sa [0,6,26] d Z<|R6 (fun i=>?_) fun i=>?_
 ·simp at i;omega
 refine R4 1 Z fun R d=>SL (c:=(n:Int)) U8 (by rw [IntKind.wrap_i64];omega) fl_<|S3 U9 (Oo _) (by show 16*n<=281474976710656;omega) (by simp only [maxLen];omega) fl_ fun a=>C4 1 [0,7] d Z<|R4 2 Z fun R d=>TH (j:=0) (q:=min 1 n) U12 g U2 (by rw [cI];show 0+min 1 n*1<=n*1;omega) fl_<|C4 1 [7,8] d Z ?_;have r:aD (jH [ai []] n) (([[ai s]]:List (List Value)).take (min 1 n)).flatten 0=List.replicate (min 1 n) (ai s)++List.replicate (n-min 1 n) (ai []):=by
  rw [Ei];cases n with
  | zero=>rfl
  | succ n=>rw [show min 1 (n+1)=1 by omega,PH];rfl
 refine Sp (L':=[.arr (.slice (some ⟨a,0,none⟩) n n) 56 1 n (List.replicate (min 1 n) (ai s)++List.replicate (n-min 1 n) (ai []))]) (by rw [<- r];rfl)<|G.loop (fun fr C' e t=>∃ (k:Nat),(k<=n/\min 1 n<=k)/\fr=[(7,[],.slice (some ⟨a,0,none⟩) n n),(8,[],.int .i64 k)]/\e=[.arr (.slice (some ⟨a,0,none⟩) n n) 56 1 n (List.replicate k (ai s)++List.replicate (n-k) (ai []))]/\t=n-k) (hn_ [7,8] Z) ⟨min 1 n,⟨Nat.min_le_right _ _,Oo _⟩,Z,Z,Z⟩ (fun fr B D m w x=>?_);obtain ⟨k,⟨l,E⟩,rfl,rfl,rfl⟩:=x;refine C6 4 [7,8,37] Z<|R6 (fun f=>?_) fun f=>?_
 ·simp only [Oz] at f;have o:k<n:=by omega
  have F:1<=k:=by omega
  refine Ss [0,1,2,3,4,5,6,7,8,9] [] Z kr_ fun R H d=>R9 3 Z<|SX k n n U12 (fun _=>⟨.inr ⟨_,Z⟩,.inl ⟨Z,Z⟩,.inl ⟨Z,Z⟩,l,Oo _,Oo _⟩) U2<|R9 2 Z<|SX 0 k n U12 (fun _=>⟨.inl ⟨Z,Z⟩,.inr ⟨_,Z⟩,.inl ⟨Z,Z⟩,Ow _,l,Oo _⟩) U2 ?_;refine TG (j:=0) (off:=k) (g0:=a) (dl:=n-k) (dc:=n-k) (sl:=k-0) (sc:=n-0) (q:=min k (n-k)) U8 (by show some (Value.slice (if n=k then some (⟨a,0,none⟩:Addr) else (some (⟨a,0,none⟩:Addr)).map (·.add (k*1))) (n-k) (n-k))=_;rw [aA om_];simp [Addr.add_lit]) (by show some (Value.slice (if n=0 then some (⟨a,0,none⟩:Addr) else (some (⟨a,0,none⟩:Addr)).map (·.add (0*1))) (k-0) (n-0))=_;split <;> simp [Addr.add_lit]) U2 (by simp [oF,ai]) ap fl_ ?_;refine SH (((k+min k (n-k):Nat):Int)) U4 om_ om_ om_ U2<|C4 1 [7,8] d Z<|Sp (L':=[.arr (.slice (some ⟨a,0,none⟩) n n) 56 1 n (List.replicate (k+min k (n-k)) (ai s)++List.replicate (n-(k+min k (n-k))) (ai []))]) (by rw [Em (n:=n) om_ (Nat.min_le_left _ _) am,List.drop_replicate,Nat.sub_sub];rfl)<|Sj (m':=n-(k+min k (n-k))) om_ w (hn_ [7,8] Z) ⟨k+min k (n-k),⟨by omega,by omega⟩,Z,Z,Z⟩
 simp only [OL] at f;have o:k=n:=by omega
 subst o;refine C6 2 [4] Z<|Sh (SP Z Z ?_);exact ⟨a,Z,by simp⟩
theorem kK (C:Mem)(n:Nat)(a:n<=1000000):Jog.Fn cx.P 76 [.int .i64 n] C [] fun u _g c=>∃ b,u=.slice (some ⟨b,0,none⟩) n n/\c=[.arr u 56 1 n (List.replicate n (ai [48]))]:=by
 refine Sc func76 6 U3 fun w0=>C6 1 [0] Z<|Sx [(2,3)] Z fun R d=>Sr [[ai [48]]] U12 fun h _ _ e=>R7 U6<|D.call (BG _ _ n [48] e.m_ a) Z (.inr dc_) U6 (Ov _) fl_ fun i _ j _ f=>C4 1 [2] d Z ?_;obtain ⟨b,rfl,rfl⟩:=f;refine Sh (SP Z Z ?_);exact ⟨b,Z,Z⟩
theorem fM {f:α->List Value}{l:List α}{x:α}(h:l[i]?=some x):(l.map f)[i]?=some (f x):=by rw [Ou,h];rfl
def xP (s:Str):List Value:=[ai s]
def aZ (q:Rat):List Value:=[ai (qtx q)]
theorem Aj (l:List Rat):l.map aZ=(l.map qtx).map xP:=by rw [Pc];rfl
def GG {α:Type}(p:α->Bool):List α->Nat->Int
 | [],_=>-1
 | x::l,k=>if p x then (k:Nat) else GG p l (k+1)
theorem nf {a:Type}{p:a->Bool}:∀ {l:List a}{i k:Nat}{x:a},l[i]?=some x->p x=true->(∀ y∈l.take i,p y=false)->GG p l k=((k+i:Nat):Int)
 | y::l,0,k,x,h,b,_=>by
  simp only [List.getElem?_cons_zero,O0] at h;subst h;simp [GG,b]
 | y::l,i+1,k,x,h,b,c=>by
  simp only [Qq] at h;have hy:p y=false:=c y am;have:=nf (k:=k+1) h b (fun z d=>c z (by simp [d]));simp only [GG,hy,Pf,PG,this];omega
theorem kM {a:Type}{p:a->Bool}:∀ {l:List a}{k:Nat},(∀ y∈l,p y=false)->GG p l k=-1
 | [],_,_=>rfl
 | y::l,k,h=>by
  simp only [GG,h y aJ,Pf,PG];exact kM fun z b=>h z (OA _ b)
theorem qS (p:α->Bool)(l:List α):(GG p l 0=-1/\∀ y∈l,p y=false)∨∃ (i:Nat)(x:α),GG p l 0=(i:Nat)/\l[i]?=some x/\p x=true/\∀ y∈l.take i,p y=false:=by
 by_cases h:∀ y∈l,p y=false
 ·exact .inl ⟨kM h,h⟩
 right;have d:∀ (l:List α),(¬ ∀ y∈l,p y=false)->∃ (i:Nat)(x:α),l[i]?=some x/\p x=true/\∀ y∈l.take i,p y=false:=by
  intro l;induction l with
  | nil=>intro h;exact absurd (fun y hy=>(by cases hy)) h
  | cons a l e =>
   intro h;by_cases b:p a=true
   ·exact ⟨0,a,Z,b,by simp⟩
   have c:p a=false:=by simpa using b
   obtain ⟨i,x,h1,h2,h3⟩:=e (fun h2=>h (fun y hy=>by
    rcases OE.1 hy with rfl | hy
    ·exact c
    exact h2 y hy))
   refine ⟨i+1,x,by simpa using h1,h2,fun y hy=>?_⟩;rw [List.take_succ_cons] at hy;rcases OE.1 hy with rfl | hy
   ·exact c
   exact h3 y hy
 obtain ⟨i,x,h1,h2,h3⟩:=d l h;exact ⟨i,x,by rw [nf h1 h2 h3,PJ],h1,h2,h3⟩
theorem Ep (C:Mem)(v:Value)(l:List Str)(g:Nat)(d:List Value)(a:Str->Bool)(e:Sl C 1 v (l.map xP))(_A:Jog.Enters cx.P g=true)
  (n:∀ x∈l,∀ D:Mem,C.le D->Gives cx.P g (ai x::d) D (.bool (a x))) :
  Gives cx.P 93 [v,.func (.func g) #[] ⟨d⟩] C (.int .i64 (GG a l 0)):=by
 obtain ⟨o,c0,rfl,p,B,_⟩:=id e;have E:maxLen<=9223372036854775807:=by simp [maxLen]
 simp only [al] at e p ⊢;refine Sc func93 19 U3 fun w0=>C6 1 [0,1] Z<|C6 3 [0,1,7,8] Z<|G.loop (fun fr C' q r=>∃ (i:Nat),(i<=l.length/\∀ y∈l.take i,a y=false)/\fr=[(0,[],.slice o l.length c0),(1,[],.func (.func g) #[] ⟨d⟩),(7,[],.int .i64 l.length),(8,[],.int .i64 i)]/\q=[]/\r=l.length-i) (hn_ [0,1,7,8] Z) ⟨0,⟨Ow _,by simp⟩,Z,Z,Z⟩ (fun fr F H m s t=>?_);obtain ⟨i,⟨I,b⟩,rfl,rfl,rfl⟩:=t;refine C6 1 [0,1,7,8,9] Z<|R6 (fun f=>?_) fun f=>?_
 ·have h:i<l.length:=by simpa using f
  obtain ⟨x,c⟩:∃ x,l[i]?=some x:=⟨l[i],ak h⟩;refine C6 2 [0,1,5,7,8] Z<|R4 3 Z fun R j=>Sm e.m_ U10 om_ (fM c) fl_ fun J u=>R5 u U8<|Sg (n x (Oq c) _ mup) U7<|Sa [0,1,5,7,8,16] j Z<|R6 (fun k=>?_) fun k=>?_
  ·have w:a x=true:=k;exact C6 2 [4] Z<|Sb U2<|⟨by rw [nf c w b,PJ],Z⟩
  have z:a x=false:=k;refine R8 fun R j=>Se _ U7<|C4 1 [0,1,7,8] j Z<|Sj (m':=l.length-(i+1)) om_ s (hn_ [0,1,7,8] Z) ⟨i+1,⟨by omega,fun y hy=>by
   rw [OS,c] at hy;rcases OJ.1 hy with hy | hy
   ·exact b y hy
   simp only [PF,OP] at hy;subst hy;exact z⟩,Z,Z,Z⟩
 have h:i=l.length:=by
  have:¬ i<l.length:=by simpa using f
  omega
 exact C6 1 [4] Z<|Sb U2<|⟨by rw [h,OH] at b;rw [kM b],Z⟩
theorem Ex (C:Mem)(v:Value)(l:List Str)(g:Nat)(b:List Value)(a:Str->Bool)(c:Sl C 1 v (l.map xP))(d:Jog.Enters cx.P g=true)
  (e:∀ x∈l,∀ D:Mem,C.le D->Gives cx.P g (ai x::b) D (.bool (a x))) :
  Gives cx.P 59 [v,.func (.func g) #[] ⟨b⟩] C (.bool (l.any a)):=by
 refine Sc func59 9 U3 fun w0=>C6 1 [0,1] Z<|R4 2 Z fun R f=>Sg (Ep _ v l g b a c.m_ d (fun x h D j=>e x h D (Mem.le.trans mup j))) U7<|C4 2 [4] f Z<|Sb U2<|⟨?_,Z⟩;congr 1;rcases qS a l with ⟨h1,h2⟩ | ⟨i,x,h1,h2,h3,_⟩
 ·rw [h1,List.any_eq_false.2 (fun y hy=>by rw [h2 y hy];decide)];rfl
 rw [h1,QT.2 ⟨x,Oq h2,h3⟩];exact OK om_
theorem ou (C:Mem)(a:Tabs C)(s:Str)(b:s.length<=999998):Gives cx.P 89 [ai s] C (.bool (!bg s)):=by
 refine Sc func89 6 U3 fun w0=>C6 1 [0] Z<|R4 1 Z fun R c=>Sg (dF _ a.m_ s b) U7<|C4 2 [2] c Z<|Sb U2 ?_;exact ⟨by cases bg s <;> rfl,Z⟩
def iN (n:Int)(l:List Str):Int:=if (l.length:Int)=n then pU (l.all bg) else 5
theorem zz (C:Mem)(e:Tabs C)(v:Value)(n:Int)(l:List Str)(a:Sl C 1 v (l.map xP))(b:∀ s∈l,s.length<=999998):Gives cx.P 88 [v,.int .i64 n] C (.int .i64 (iN n l)):=by
 obtain ⟨o,c0,rfl,f,p,_⟩:=id a;have q:maxLen<=9223372036854775807:=by simp [maxLen]
 simp only [al] at a f ⊢;refine Sc func88 13 U3 fun w0=>C6 1 [0,1] Z<|C6 5 [0,5] Z<|R6 (fun h5=>?_) fun h5=>?_
 ·have g:¬ (l.length:Int)=n:=by simpa using h5
  exact C6 1 [4] Z<|Sb U2<|⟨by unfold iN;rw [aA g],Z⟩
 have d:(l.length:Int)=n:=by simpa using h5
 refine R4 1 Z fun R h=>Sg (Ex _ _ l _ [] (fun s=>!bg s) a.m_ Z (fun s i D j=>ou D (e.mono (Mem.le.trans mup j)) s (b s i))) U7<|C4 1 [10] h Z<|R6 (fun c=>?_) fun c=>?_
 ·have k:l.all bg=false:=by
   obtain ⟨s,h1,h2⟩:=QT.1 (show (l.any fun s=>!bg s)=true from c);exact Q3.2 ⟨s,h1,by simpa using h2⟩
  exact C6 1 [4] Z<|Sb U2<|⟨by unfold iN;rw [aI d,k];rfl,Z⟩
 have m:l.all bg=true:=by
  have h1:=List.any_eq_false.1 (show (l.any fun s=>!bg s)=false from c);exact OM.2 fun s b=>by simpa using h1 s b
 exact C6 1 [4] Z<|Sb U2<|⟨by unfold iN;rw [aI d,m];rfl,Z⟩
def RowsT (C:Mem)(v:Value)(rows:List (List Str × Str)):Prop:=∃ vs:List Value,vs.length=rows.length/\(∀ (i:Nat)(w:Value)(r:List Str × Str),vs[i]?=some w->rows[i]?=some r->Sl C 1 w (r.1.map xP))/\Sl C 2 v (List.zipWith (fun w (r:List Str × Str)=>[w,ai r.2]) vs rows)
theorem RowsT.mono {C D:Mem}{v:Value}{a:List (List Str × Str)}(h:RowsT C v a)(b:C.le D):RowsT D v a:=by
 obtain ⟨vs,h1,h2,h3⟩:=h;exact ⟨vs,h1,fun i w r hw hr=>(h2 i w r hw hr).mono b,h3.mono b⟩
theorem RowsT.m_ {C D:Mem}{v:Value}(h:RowsT C v rows)(a:C.le D:=by exact mup):RowsT D v rows:=RowsT.mono h a
theorem Di {w:Value}{r:List Str × Str}(a:vs[i]?=some w)(b:rows[i]?=some r):(List.zipWith (fun w (r:List Str × Str)=>[w,ai r.2]) vs rows)[i]?=some [w,ai r.2]:=by
 rw [List.getElem?_zipWith,a,b]
theorem sf (h:vs.length=rows.length):(List.zipWith (fun w (r:List Str × Str)=>[w,ai r.2]) vs rows).length=rows.length:=by simp [h]
def D7 (n:Int)(r:List Str × Str):Int:=if iN n r.1≠0 then iN n r.1 else pU (bg r.2)
def sy (n:Int):List (List Str × Str)->Int
 | []=>0
 | r::l=>if D7 n r≠0 then D7 n r else sy n l
def IX (n:Int)(rows:List (List Str × Str))(obj:List Str):Int:=if n<0∨60<n then 3 else if 300<rows.length then 4 else if iN n obj≠0 then iN n obj else sy n rows
def On (rows:List (List Str × Str)):Prop:=∀ r∈rows,(∀ s∈r.1,s.length<=999998)/\r.2.length<=999998
theorem Et (C:Mem)(p:Tabs C)(n:Int)(E F:Value)(a:List (List Str × Str))(c:List Str)(L:RowsT C E a)(q:Sl C 1 F (c.map xP))(H:On a)(M:∀ s∈c,s.length<=999998) :
  Gives cx.P 56 [.agg ⟨[.int .i64 n,E,F]⟩] C (.int .i64 (IX n a c)):=by
 obtain ⟨vs,N,O,t⟩:=L;obtain ⟨Q,c0,rfl,S,ad,_⟩:=id t;obtain ⟨A1,c1,rfl,T,ae,_⟩:=id q;have af:maxLen<=9223372036854775807:=by simp [maxLen]
 simp only [sf N,al] at t q S T ⊢;refine Sc func56 48 U3 fun w0=>R8 fun R b=>So U6 fun U=>C4 1 [1] b Z<|G.freeze 0 Z fun _ _ d=>R4 1 Z fun R b=>R5 (bkT d 1) U8<|R9 3 Z<|Sz U6 (fun _=>PtrTo.blockT (Mem.get d mup) _ 1) U3<|R7 U6<|SA U8<|C4 1 [1,7] b Z<|R6 (fun u=>?_) fun u=>?_
 ·have f:n<0∨60<n:=by
   simp only [PX,Oz] at u;omega
  exact C6 1 [2] Z<|Sb U2<|⟨by unfold IX;rw [aI f],Z⟩
 have f:¬ (n<0∨60<n):=by
  simp only [PR,OL] at u;omega
 refine R4 1 Z fun R b=>R5 (bkT d 1) U8<|C4 3 [1,16] b Z<|R6 (fun v=>?_) fun v=>?_
 ·have g:300<a.length:=by
   have:=NM v;omega
  exact C6 1 [2] Z<|Sb U2<|⟨by unfold IX;rw [aA f,aI g],Z⟩
 have g:¬ 300<a.length:=by
  have:=Ox v;omega
 refine R4 1 Z fun R b=>R5 (bkT d 1) U8<|R7 U6<|R5 (bkT d 1) U8<|Sg (zz _ p.m_ _ n c q.m_ M) U7<|C4 1 [1,3] b Z<|C6 2 [1,3,27] Z<|R6 (fun x=>?_) fun x=>?_
 ·have y:iN n c≠0:=by simpa using x
  exact C6 2 [2] Z<|Sb U2<|⟨by unfold IX;rw [aA f,aA g,aI y],Z⟩
 have y:¬ iN n c≠0:=by simpa using x
 have z:IX n a c=sy n a:=by unfold IX;rw [aA f,aA g,aA y]
 refine R4 1 Z fun R b=>R5 (bkT d 1) U8<|C4 2 [1,30,31,32] b Z<|G.loop (fun fr C' V W=>∃ (i:Nat),(i<=a.length/\sy n a=sy n (a.drop i))/\fr=[(1,[],.pointer (some ⟨U,0,none⟩)),(30,[],.slice Q a.length c0),(31,[],.int .i64 a.length),(32,[],.int .i64 i)]/\V=[]/\W=a.length-i) (hn_ [1,30,31,32] Z) ⟨0,⟨Ow _,Z⟩,Z,Z,Z⟩ (fun fr ag ah m _ X=>?_);obtain ⟨i,⟨hi,e⟩,rfl,rfl,rfl⟩:=X;refine C6 1 [1,30,31,32,33] Z<|R6 (fun A=>?_) fun A=>?_
 ·have h:i<a.length:=by
   have:=NM A;omega
  obtain ⟨r,k⟩:∃ r,a[i]?=some r:=⟨a[i],ak h⟩;obtain ⟨w,hw⟩:∃ w,vs[i]?=some w:=⟨vs[i]'om_,ak _⟩;have I:=Oq k;have J:=O i w r hw k;obtain ⟨Aw,cw,rfl,_⟩:=id J;have Y:a.drop i=r::a.drop (i+1):=OW h |>.trans (by rw [(aF.1 k).2]);rw [Y] at e;simp only [sy] at e;refine R8 fun R b=>Sm t.m_ U10 om_ (Di hw k) fl_ fun ai aa=>R5 aa U8<|Sq U5 fun b5=>Sf (j:=0) U12<|Sa [1,5,30,31,32] b Z<|G.freeze 0 Z fun _ _ K=>R4 1 Z fun R b=>R5 (bkT K 1) U8<|R7 U6<|R5 (bkT d 1) U8<|Sg (zz _ p.m_ _ n r.1 J.m_ (H r I).1) U7<|C4 1 [1,5,6,30,31,32] b Z<|C6 2 [1,5,6,30,31,32,42] Z<|R6 (fun B=>?_) fun B=>?_
  ·have l:iN n r.1≠0:=by simpa using B
   have o:D7 n r=iN n r.1:=by unfold D7;rw [aI l]
   exact C6 2 [2] Z<|Sb U2<|⟨by rw [z,e,o,aI l],Z⟩
  have l:¬ iN n r.1≠0:=by simpa using B
  have o:D7 n r=pU (bg r.2):=by unfold D7;rw [aA l]
  refine R4 1 Z fun R b=>R5 (bkT K 1) U8<|Sg (ou _ p.m_ r.2 (H r I).2) U7<|Sa [1,30,31,32,46] b Z<|R6 (fun D=>?_) fun D=>?_
  ·have ab:bg r.2=false:=by simpa using D
   exact C6 1 [2] Z<|Sb U2<|⟨by rw [z,e,o,ab];rfl,Z⟩
  have ac:bg r.2=true:=by simpa using D
  refine R8 fun R b=>Se _ U7<|C4 1 [1,30,31,32] b Z<|Sj (m':=a.length-(i+1)) om_ mup (hn_ [1,30,31,32] Z) ⟨i+1,⟨by omega,by rw [e,o,ac];rfl⟩,Z,Z,Z⟩
 have h:i=a.length:=by
  have:=Ox A;omega
 exact C6 1 [2] Z<|Sb U2<|⟨by rw [z,e,h,Py];rfl,Z⟩
theorem sN {a b:Rat}{k:Nat}(c:QB k a)(d:QB m b):QB (k+m) (a*b):=by
 rw [fY];refine gE (Nat.mul_ne_zero a.den_nz b.den_nz) ?_ ?_
 ·rw [P5,Rf];exact Qf c.1 d.1
 rw [Rf];exact Qf c.2 d.2
def gw (r:List Rat × Rat):List Str × Str:=(r.1.map qtx,qtx r.2)
structure RowsQ (n:Nat)(rs:List (List Rat × Rat)):Prop where
 l:∀ r∈rs,r.1.length=n
 q:∀ r∈rs,(∀ x∈r.1,QB 23 x)/\QB 23 r.2
 m:rs.length<=150
theorem Nb {l:List Rat}(h:∀ x∈l,QB 23 x):QB 23 (l.getD j 0):=by
 rw [ax];cases e:l[j]? with
 | none=>exact ⟨by decide,by decide⟩
 | some x=>exact h x (Oq e)
theorem zy (q:Rat):decide (eL q.num<0)=decide (q<0):=by
 have h:q.num<0 ↔ q<0:=by rw [Rat.lt_iff];simp
 rw [Pp];unfold eL;by_cases h1:q.num<0
 ·rw [aI h1];exact ⟨fun _=>h.1 h1,fun _=>by decide⟩
 rw [aA h1];exact ⟨fun h2=>by split at h2 <;> exact absurd h2 dc_,fun h2=>absurd (h.2 h2) h1⟩
open Classical in
theorem rP (b:Bool):pU b=0/\b=true∨pU b=2/\b=false:=by cases b <;> simp [pU]
theorem bP:∀ q:Rat,(aZ q).length=1:=fun _=>rfl
theorem NE:qtx 0=[48]:=by decide +kernel
theorem Oe:aZ 0=[Value.string ⟨#[48]⟩]:=by
 show [ai (qtx 0)]=_;rw [NE];rfl
def zF (fs:List Rat)(s q:Nat):Rat:=if q=s then 0 else fs.getD q 0
def jW (fs bf:List Rat)(s:Nat)(k:Rat)(j:Nat):List Rat:=(List.range fs.length).map fun q=>zF fs s q+(if q<j then k*bf.getD q 0 else 0)
theorem gx :(jW fs bf s k j).length=fs.length:=by simp [jW]
theorem vi :fs.set s 0=jW fs bf s k 0:=by
 refine List.ext_getElem? fun q=>?_;unfold jW;rw [List.getElem?_set,Ou];by_cases a:q<fs.length
 ·rw [O5 a];simp only [PY,Nat.not_lt_zero,PG];unfold zF;split
  ·next e=>rw [aI om_,aI e.symm];rw [Rat.add_zero]
  next e=>rw [aA (fun b=>e b.symm),ax,ak a];simp only [Pu];congr 1;grind
 rw [OD om_,OD ap];split
 ·split
  ·omega
  rfl
 rfl
theorem sJ {q:Nat}(h:q<fs.length):(jW fs bf s k j)[q]?=some (zF fs s q+(if q<j then k*bf.getD q 0 else 0)):=by
 unfold jW;rw [Ou,O5 h];rfl
theorem zw (h:j<fs.length):(jW fs bf s k j).set j (zF fs s j+k*bf.getD j 0)=jW fs bf s k (j+1):=by
 refine List.ext_getElem? fun q=>?_;rw [List.getElem?_set,gx];by_cases a:q<fs.length
 ·rw [sJ a,sJ a];by_cases e:j=q
  ·subst e;rw [aI rfl,aI a,aI om_]
  rw [aA e];by_cases h1:q<j
  ·rw [aI h1,aI om_]
  rw [aA h1,aA om_]
 rw [OD (by rw [gx];omega),OD (by rw [gx];omega)];split
 ·exact absurd om_ a
 rfl
theorem vk (a:bf.getD j 0=0):jW fs bf s k j=jW fs bf s k (j+1):=by
 refine List.map_congr_left fun q _=>?_;by_cases e:q=j
 ·subst e;rw [aA om_,aI om_,a];grind
 by_cases h1:q<j
 ·rw [aI h1,aI om_]
 rw [aA h1,aA om_]
theorem vj :jW fs bf s 0 j=jW fs bf s 0 0:=by
 refine List.map_congr_left fun q _=>?_;split <;> split <;> grind
theorem Ej {c bc:Rat}(_b:s<fs.length):Lp.putL ⟨c,fs⟩ s ⟨bc,bf⟩=⟨c+fs.getD s 0*bc,jW fs bf s (fs.getD s 0) fs.length⟩:=by
 unfold Lp.putL;congr 1;refine List.map_congr_left fun q a=>?_;rw [aI (ON.1 a)];rfl
theorem Ml {q:Nat}(a:∀ x∈fs,QB 40 x)(b:q<fs.length):QB 40 (zF fs s q):=by
 unfold zF;split
 ·exact ⟨by decide,by decide⟩
 rw [ax,ak b];exact a _ (Pn _)
def bE (p:Rat × Value):List Value:=[ai (qtx p.1),p.2]
theorem gd:∀ p,(bE p).length=2:=fun _=>rfl
theorem nj (h:ls[i]?=some p):(ls.map bE).flatten.drop (i*2)=ai (qtx p.1)::p.2::(ls.map bE).flatten.drop (i*2+2):=by
 obtain ⟨h1,h2⟩:=aF.1 h;have e:=(cm gd ls i).2;have a:=(cm gd ls (i+1)).2;rw [P9] at a;rw [e,a,OW h1,h2];rfl
theorem Hr (h:ls[i]?=some p):ls.set i p=ls:=by
 refine List.ext_getElem? fun j=>?_;rw [List.getElem?_set];split
 ·next e=>subst e;rw [aI (aF.1 h).1,h]
 rfl
theorem BR (h:ls[i]?=some p):((ls.map bE).flatten.drop (i*2)).take 1=[ai (qtx p.1)]:=by rw [nj h];rfl
theorem jm (h:ls[i]?=some p):((ls.map bE).flatten.drop (i*2+1)).take 1=[p.2]:=by rw [<- List.drop_drop,nj h];rfl
theorem xy (h:ls[i]?=some p)(c:Rat):aD (ls.map bE).flatten [ai (qtx c)] (i*2)=((ls.set i (c,p.2)).map bE).flatten:=by
 rw [<- bJ gd (c,p.2) (aF.1 h).1];unfold aD;have:(ls.map bE).flatten.drop (i*2+1)=p.2::(ls.map bE).flatten.drop (i*2+2):=by rw [<- List.drop_drop,nj h];rfl
 show _++[_]++List.drop (i*2+1) _=_++[_,_]++List.drop (i*2+2) _;rw [this];simp
theorem KH (C:Mem)(t:Tabs C)(g e f n s:Nat)(i l o p z:Value)(b d:List Rat)(c h:Rat)(ag:b.length=n)(aj:d.length=n)(hs:s<n)(q:Sl C 1 z (d.map aZ))(Q:QB 40 c)(A:∀ x∈b,QB 40 x)(B:QB 40 h)(S:∀ x∈d,QB 40 x) :
  Jog.Fn cx.P 237 [.pointer (some ⟨g,4,none⟩),.int .i64 s,.agg ⟨[ai (qtx h),z]⟩] C [.obj g (.cells ⟨[i,l,o,p,ai (qtx c),.slice (some ⟨e,0,none⟩) n f]⟩ 212 (0,0)),.arr (.slice (some ⟨e,0,none⟩) n f) 56 1 n (b.map aZ).flatten]
   fun u _ r=>u=.tuple #[]/\r=[.obj g (.cells ⟨[i,l,o,p,ai (qtx (c+b.getD s 0*h)),.slice (some ⟨e,0,none⟩) n f]⟩ 212 (0,0)),.arr (.slice (some ⟨e,0,none⟩) n f) 56 1 n ((jW b d s (b.getD s 0) n).map aZ).flatten]:=by
 obtain ⟨T,U,rfl,V,am,_⟩:=id q;simp only [al] at V q ⊢;have D:s<b.length:=by omega
 have an:maxLen<=9223372036854775807:=by simp [maxLen]
 obtain ⟨k,E⟩:∃ k,b.getD s 0=k:=⟨_,rfl⟩;have F:b[s]?=some k:=by rw [<- E,ax,ak D];rfl
 have v:QB 40 k:=A k (Oq F);rw [E];refine Sc func237 64 U3 fun w0=>?_;refine Sp (L':=[.obj g (.cells ⟨[i,l,o,p,ai (qtx c),.slice (some ⟨e,0,none⟩) n f]⟩ 212 (0,0)),.arr (.slice (some ⟨e,0,none⟩) n f) 56 1 n (b.map aZ).flatten]) Z ?_;refine R8 fun R a=>?_;refine So U6 (fun b5=>?_);refine Sa [0,1,5] a Z ?_;clear a R;refine G.freeze 0 Z (fun _ _ H=>?_);refine R4 3 Z fun R a=>?_;refine Sd af U9 ?_;refine R7 U6 ?_;refine SC (s*1) U10 ah U2 ?_;refine SS ae U6 (fun _=>(by rw [ec bP F];rfl)) U2 ?_;refine C4 1 [0,1,5,6] a Z ?_;clear a R;refine R4 3 Z fun R a=>?_;refine Sd af U9 ?_;refine R7 U6 ?_;refine SC (s*1) U10 ah U2 ?_;refine SG (j:=1) U11 (by show s*1+1<=_;rw [bQ bP];omega) ?_;refine Sa [0,5,6] a Z ?_;clear a R;refine G.perm (L':=[.obj g (.cells ⟨[i,l,o,p,ai (qtx c),.slice (some ⟨e,0,none⟩) n f]⟩ 212 (0,0)),.arr (.slice (some ⟨e,0,none⟩) n f) 56 1 n ((jW b d s k 0).map aZ).flatten]) (by rw [<- vi,<- bJ bP 0 D,Oe];exact List.Perm.swap _ _ _) ?_;refine C6 2 [0,5,6,23] Z ?_;refine R6 (fun I=>?_) fun I=>?_
 ·have W:qtx k=[48]:=by simpa using I
  have X:k=0:=mD (W.trans (by decide +kernel:([48]:List UInt8)=qtx 0));subst X;have Y:c+0*h=c:=by grind
  refine Sp (L':=[.obj g (.cells ⟨[i,l,o,p,ai (qtx (c+0*h)),.slice (some ⟨e,0,none⟩) n f]⟩ 212 (0,0)),.arr (.slice (some ⟨e,0,none⟩) n f) 56 1 n ((jW b d s 0 n).map aZ).flatten]) (by rw [Y,vj (j:=n)]) ?_;refine Sh (TJ Z  ?_);exact ⟨Z,Z⟩
 refine Ss [0,1,2,3,4,5,6,7,8,9,10,11,12] [(8,1),(9,1)] Z kr_ (fun R q a=>?_);refine R9 4 Z ?_;refine Sd af U9 ?_;refine R9 2 Z ?_;refine R5 (bkT H 1) U8 ?_;refine Su (fun _=>(dN _ t.m_ k h 40 dc_ dc_ v B)) U9 ?_;refine Su (fun _=>(lT _ t.m_ c (k*h) 80 dc_ dc_ (Q.le dc_) ((sN v B).le dc_))) U9 ?_;refine R9 2 Z ?_;refine Sf (j:=0) U12 ?_;refine Sa [0,5,6] a Z ?_;clear a q R;refine R4 1 Z fun R a=>?_;refine R5 (bkT H 1) U8 ?_;refine C4 2 [0,6,37,38,39] a Z ?_;clear a R;refine G.loop (fun fr C' r μ=>∃ (j:Nat),(j<=n)/\fr=[(0,[],.pointer (some ⟨g,4,none⟩)),(6,[],ai (qtx k)),(37,[],.slice T d.length U),(38,[],.int .i64 d.length),(39,[],.int .i64 j)]/\r=[.obj g (.cells ⟨[i,l,o,p,ai (qtx (c+k*h)),.slice (some ⟨e,0,none⟩) n f]⟩ 212 (0,0)),.arr (.slice (some ⟨e,0,none⟩) n f) 56 1 n ((jW b d s k j).map aZ).flatten]/\μ=n-j) (hn_ [0,6,37,38,39] Z) ⟨0,Ow _,Z,Z,Z⟩ (fun fr ao ap m J hI=>?_);obtain ⟨j,hj,rfl,rfl,rfl⟩:=hI;refine C6 1 [0,6,37,38,39,40] Z ?_;refine R6 (fun w=>?_) fun w=>?_
 ·have K:j<n:=by
   have:=NM w;omega
  obtain ⟨x,y⟩:∃ x,d[j]?=some x:=⟨d[j]'om_,ak om_⟩;have L:QB 40 x:=S x (Oq y);have M:d.getD j 0=x:=by rw [ax,y];rfl
  have aa:(jW b d s k j)[j]?=some (zF b s j):=by
   rw [sJ om_,aA (Nat.lt_irrefl _)];congr 1;grind
  have qz:=Ml (s:=s) A (show j<b.length by omega);have N:=zw (bf:=d) (s:=s) (k:=k) (show j<b.length by omega);rw [M] at N;refine R4 1 Z fun R a=>?_;refine Sm q.m_ U10 om_ (fM y) fl_ (fun aq ab=>?_);refine R5 ab U8 ?_;refine C4 2 [0,6,7,8,37,38,39] a Z ?_;clear a R;refine C6 2 [0,6,7,8,37,38,39,45] Z ?_;refine R6 (fun O=>?_) fun O=>?_
  ·refine Ss [0,1,2,3,4,5,6,7,8,9,10,11,12,13,14,15,16,17] [(14,1),(15,1)] Z kr_ (fun R q a=>?_);refine R9 3 Z ?_;refine Sd af U9 ?_;refine R9 4 Z ?_;refine Sd af U9 ?_;refine R7 U6 ?_;refine SC (j*1) U10 ah U2 ?_;refine SS ae U6 (fun _=>(by rw [ec bP aa];rfl)) U2 ?_;refine R9 2 Z ?_;refine Su (fun _=>(dN _ t.m_ k x 40 dc_ dc_ v L)) U9 ?_;refine Su (fun _=>(lT _ t.m_ (zF b s j) (k*x) 80 dc_ dc_ (qz.le dc_) ((sN v L).le dc_))) U9 ?_;refine SC (j*1) U10 ah U2 ?_;refine SG (j:=1) U11 (by show j*1+1<=_;rw [bQ bP,gx];omega) ?_;refine Sa [0,6,37,38,39] a Z ?_;clear a q R;refine R8 fun R a=>?_;refine Se _ U7 ?_;refine C4 1 [0,6,37,38,39] a Z ?_;clear a R;refine G.perm (L':=[.obj g (.cells ⟨[i,l,o,p,ai (qtx (c+k*h)),.slice (some ⟨e,0,none⟩) n f]⟩ 212 (0,0)),.arr (.slice (some ⟨e,0,none⟩) n f) 56 1 n ((jW b d s k (j+1)).map aZ).flatten]) (by rw [<- N,<- bJ bP _ (by rw [gx];omega)];exact List.Perm.swap _ _ _) ?_;refine Sj (m':=n-(j+1)) om_ J (hn_ [0,6,37,38,39] Z) ⟨j+1,om_,Z,Z,Z⟩
  have ac:x=0:=by
   have ad:qtx x=[48]:=by simpa using O
   exact mD (ad.trans (by decide +kernel:([48]:List UInt8)=qtx 0))
  rw [vk (j:=j) (by rw [M];exact ac)];refine R8 fun R a=>?_;refine Se _ U7 ?_;refine C4 1 [0,6,37,38,39] a Z ?_;clear a R;refine Sj (m':=n-(j+1)) om_ J (hn_ [0,6,37,38,39] Z) ⟨j+1,om_,Z,Z,Z⟩
 have K:j=n:=by
  have:=Ox w;omega
 rw [K];refine Td Z ?_;exact ⟨Z,Z⟩
theorem KJ (C:Mem)(t:Tabs C)(l m o i e f n s:Nat)(z:Value)(h:List (Rat × Value))(b d:List Rat)(c g:Rat)(aj:h.length=m)(q:h[i]?=some (c,.slice (some ⟨e,0,none⟩) n f))(am:b.length=n)(an:d.length=n)(hs:s<n)(r:Sl C 1 z (d.map aZ))(S:QB 40 c)(A:∀ x∈b,QB 40 x)(B:QB 40 g)(T:∀ x∈d,QB 40 x) :
  Jog.Fn cx.P 237 [.pointer (some ⟨l,i*2,none⟩),.int .i64 s,.agg ⟨[ai (qtx g),z]⟩] C [.arr (.slice (some ⟨l,0,none⟩) m o) 209 2 m (h.map bE).flatten,.arr (.slice (some ⟨e,0,none⟩) n f) 56 1 n (b.map aZ).flatten]
   fun u _ p=>u=.tuple #[]/\p=[.arr (.slice (some ⟨l,0,none⟩) m o) 209 2 m ((h.set i (c+b.getD s 0*g,.slice (some ⟨e,0,none⟩) n f)).map bE).flatten,.arr (.slice (some ⟨e,0,none⟩) n f) 56 1 n ((jW b d s (b.getD s 0) n).map aZ).flatten]:=by
 obtain ⟨U,V,rfl,W,ao,_⟩:=id r;simp only [al] at W r ⊢;have D:s<b.length:=by omega
 have ap:maxLen<=9223372036854775807:=by simp [maxLen]
 obtain ⟨k,E⟩:∃ k,b.getD s 0=k:=⟨_,rfl⟩;have F:b[s]?=some k:=by rw [<- E,ax,ak D];rfl
 have v:QB 40 k:=A k (Oq F);rw [E];refine Sc func237 64 U3 fun w0=>?_;refine Sp (L':=[.arr (.slice (some ⟨l,0,none⟩) m o) 209 2 m (h.map bE).flatten,.arr (.slice (some ⟨e,0,none⟩) n f) 56 1 n (b.map aZ).flatten]) Z ?_;refine R8 fun R a=>?_;refine So U6 (fun b5=>?_);refine Sa [0,1,5] a Z ?_;clear a R;refine G.freeze 0 Z (fun _ _ H=>?_);refine R4 3 Z fun R a=>?_;refine SS af U6 (fun _=>(by rw [jm q];rfl)) U2 ?_;refine R7 U6 ?_;refine SC (s*1) U10 ah U2 ?_;refine SS ae U6 (fun _=>(by rw [ec bP F];rfl)) U2 ?_;refine C4 1 [0,1,5,6] a Z ?_;clear a R;refine R4 3 Z fun R a=>?_;refine SS af U6 (fun _=>(by rw [jm q];rfl)) U2 ?_;refine R7 U6 ?_;refine SC (s*1) U10 ah U2 ?_;refine SG (j:=1) U11 (by show s*1+1<=_;rw [bQ bP];omega) ?_;refine Sa [0,5,6] a Z ?_;clear a R;refine G.perm (L':=[.arr (.slice (some ⟨l,0,none⟩) m o) 209 2 m (h.map bE).flatten,.arr (.slice (some ⟨e,0,none⟩) n f) 56 1 n ((jW b d s k 0).map aZ).flatten]) (by rw [<- vi,<- bJ bP 0 D,Oe];exact List.Perm.swap _ _ _) ?_;refine C6 2 [0,5,6,23] Z ?_;refine R6 (fun I=>?_) fun I=>?_
 ·have X:qtx k=[48]:=by simpa using I
  have Y:k=0:=mD (X.trans (by decide +kernel:([48]:List UInt8)=qtx 0));subst Y;have aa:c+0*g=c:=by grind
  refine Sp (L':=[.arr (.slice (some ⟨l,0,none⟩) m o) 209 2 m ((h.set i (c+0*g,.slice (some ⟨e,0,none⟩) n f)).map bE).flatten,.arr (.slice (some ⟨e,0,none⟩) n f) 56 1 n ((jW b d s 0 n).map aZ).flatten]) (by rw [aa,vj (j:=n),Hr q]) ?_;refine Sh (TJ Z  ?_);exact ⟨Z,Z⟩
 refine Ss [0,1,2,3,4,5,6,7,8,9,10,11,12] [(8,1),(9,1)] Z kr_ (fun R r a=>?_);refine R9 4 Z ?_;refine SS af U6 (fun _=>(by rw [BR q];rfl)) U2 ?_;refine R9 2 Z ?_;refine R5 (bkT H 1) U8 ?_;refine Su (fun _=>(dN _ t.m_ k g 40 dc_ dc_ v B)) U9 ?_;refine Su (fun _=>(lT _ t.m_ c (k*g) 80 dc_ dc_ (S.le dc_) ((sN v B).le dc_))) U9 ?_;refine R9 2 Z ?_;refine SG (j:=0) U11 (by show i*2+1<=_;rw [bQ gd];have:=(aF.1 q).1;omega) ?_;refine Sa [0,5,6] a Z ?_;clear a r R;refine Sp (L':=[.arr (.slice (some ⟨l,0,none⟩) m o) 209 2 m ((h.set i (c+k*g,.slice (some ⟨e,0,none⟩) n f)).map bE).flatten,.arr (.slice (some ⟨e,0,none⟩) n f) 56 1 n ((jW b d s k 0).map aZ).flatten]) (by rw [<- xy q];rfl) ?_;have J:(h.set i (c+k*g,Value.slice (some ⟨e,0,none⟩) n f))[i]?=some (c+k*g,Value.slice (some ⟨e,0,none⟩) n f):=Rx (aF.1 q).1;refine R4 1 Z fun R a=>?_;refine R5 (bkT H 1) U8 ?_;refine C4 2 [0,6,37,38,39] a Z ?_;clear a R;refine G.loop (fun fr C' p μ=>∃ (j:Nat),(j<=n)/\fr=[(0,[],.pointer (some ⟨l,i*2,none⟩)),(6,[],ai (qtx k)),(37,[],.slice U d.length V),(38,[],.int .i64 d.length),(39,[],.int .i64 j)]/\p=[.arr (.slice (some ⟨l,0,none⟩) m o) 209 2 m ((h.set i (c+k*g,.slice (some ⟨e,0,none⟩) n f)).map bE).flatten,.arr (.slice (some ⟨e,0,none⟩) n f) 56 1 n ((jW b d s k j).map aZ).flatten]/\μ=n-j) (hn_ [0,6,37,38,39] Z) ⟨0,Ow _,Z,Z,Z⟩ (fun fr aq ar m K hI=>?_);obtain ⟨j,hj,rfl,rfl,rfl⟩:=hI;refine C6 1 [0,6,37,38,39,40] Z ?_;refine R6 (fun w=>?_) fun w=>?_
 ·have L:j<n:=by
   have:=NM w;omega
  obtain ⟨x,y⟩:∃ x,d[j]?=some x:=⟨d[j]'om_,ak om_⟩;have M:QB 40 x:=T x (Oq y);have N:d.getD j 0=x:=by rw [ax,y];rfl
  have ab:(jW b d s k j)[j]?=some (zF b s j):=by
   rw [sJ om_,aA (Nat.lt_irrefl _)];congr 1;grind
  have qz:=Ml (s:=s) A (show j<b.length by omega);have O:=zw (bf:=d) (s:=s) (k:=k) (show j<b.length by omega);rw [N] at O;refine R4 1 Z fun R a=>?_;refine Sm r.m_ U10 om_ (fM y) fl_ (fun au ac=>?_);refine R5 ac U8 ?_;refine C4 2 [0,6,7,8,37,38,39] a Z ?_;clear a R;refine C6 2 [0,6,7,8,37,38,39,45] Z ?_;refine R6 (fun Q=>?_) fun Q=>?_
  ·refine Ss [0,1,2,3,4,5,6,7,8,9,10,11,12,13,14,15,16,17] [(14,1),(15,1)] Z kr_ (fun R r a=>?_);refine R9 3 Z ?_;refine SS af U6 (fun _=>(by rw [jm J];rfl)) U2 ?_;refine R9 4 Z ?_;refine SS af U6 (fun _=>(by rw [jm J];rfl)) U2 ?_;refine R7 U6 ?_;refine SC (j*1) U10 ah U2 ?_;refine SS ae U6 (fun _=>(by rw [ec bP ab];rfl)) U2 ?_;refine R9 2 Z ?_;refine Su (fun _=>(dN _ t.m_ k x 40 dc_ dc_ v M)) U9 ?_;refine Su (fun _=>(lT _ t.m_ (zF b s j) (k*x) 80 dc_ dc_ (qz.le dc_) ((sN v M).le dc_))) U9 ?_;refine SC (j*1) U10 ah U2 ?_;refine SG (j:=1) U11 (by show j*1+1<=_;rw [bQ bP,gx];omega) ?_;refine Sa [0,6,37,38,39] a Z ?_;clear a r R;refine R8 fun R a=>?_;refine Se _ U7 ?_;refine C4 1 [0,6,37,38,39] a Z ?_;clear a R;refine G.perm (L':=[.arr (.slice (some ⟨l,0,none⟩) m o) 209 2 m ((h.set i (c+k*g,.slice (some ⟨e,0,none⟩) n f)).map bE).flatten,.arr (.slice (some ⟨e,0,none⟩) n f) 56 1 n ((jW b d s k (j+1)).map aZ).flatten]) (by rw [<- O,<- bJ bP _ (by rw [gx];omega)];exact List.Perm.swap _ _ _) ?_;refine Sj (m':=n-(j+1)) om_ K (hn_ [0,6,37,38,39] Z) ⟨j+1,om_,Z,Z,Z⟩
  have ad:x=0:=by
   have ag:qtx x=[48]:=by simpa using Q
   exact mD (ag.trans (by decide +kernel:([48]:List UInt8)=qtx 0))
  rw [vk (j:=j) (by rw [N];exact ad)];refine R8 fun R a=>?_;refine Se _ U7 ?_;refine C4 1 [0,6,37,38,39] a Z ?_;clear a R;refine Sj (m':=n-(j+1)) om_ K (hn_ [0,6,37,38,39] Z) ⟨j+1,om_,Z,Z,Z⟩
 have L:j=n:=by
  have:=Ox w;omega
 rw [L];refine Td Z ?_;exact ⟨Z,Z⟩
end Go.Proofs.YthnpijdjlddpmaaGreatDoor
