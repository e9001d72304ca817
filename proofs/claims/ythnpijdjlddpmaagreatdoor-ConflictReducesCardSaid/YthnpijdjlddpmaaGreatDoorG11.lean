/- Laws that the proofs of this seat share, part 11. -/
import Derived.Test.YthnpijdjlddpmaaGreatDoorG10
import Derived.Test.YthnpijdjlddpmaaGreatDoorShelf
import Derived.Test.YthnpijdjlddpmaaGreatDoorCards
import Derived.Test.YthnpijdjlddpmaaGreatDoorTie
import Derived.Stop.LaidErr
import Derived.Lib.LaidTab
import Derived.Carry
import Derived.Deep.Strs
import Derived.Laws.IdiomArrays
set_option maxHeartbeats 4000000
namespace Go.Proofs.YthnpijdjlddpmaaGreatDoor
open Go.Proofs.Tryz
open Go Go.Jog
set_option maxRecDepth 100000
variable {i:Nat}{n:Str}{q:Rat}{s u x y:Str}
structure Sgt where
 kind:Nat
 px:Int
 py:Int
 u0:Nat
 u1:Nat
 depth:Nat
 n0:Int
 n1:Int
 n2:Int
def Ou (s:Sgt):List Value:=[.int .u8 s.kind,.int .i8 s.px,.int .i8 s.py,.int .u8 s.u0,.int .u8 s.u1,.int .u8 s.depth,.int .i8 s.n0,.int .i8 s.n1,.int .i8 s.n2]
structure SgtR (s:Sgt):Prop where
 kind:s.kind<256
 px:-128<=s.px/\s.px<=127
 py:-128<=s.py/\s.py<=127
 u0:s.u0<256
 u1:s.u1<256
 depth:s.depth<256
 n0:-128<=s.n0/\s.n0<=127
 n1:-128<=s.n1/\s.n1<=127
 n2:-128<=s.n2/\s.n2<=127
structure Sht where
 kd:Nat
 a:Int
 b:Int
 h:Bool
def Nb (S:Sht)(H:Hts)(sv:Value):List Value:=[.int .u8 S.kd,.int .i8 S.a,.int .i8 S.b,.bool S.h,.int .i8 H.h0,.int .i8 H.h1,.int .i8 H.h2,.int .i8 H.h3,.int .i8 H.h4,.int .i8 H.h5,.bool H.half,sv]
def ru (i:Nat):Str:=[UInt8.ofNat (65+i)]
def lF (S:Sht)(s:Sgt):Pt :=
 if lO (cE (S.kd % 8) S.a S.b S.h) (shT (S.kd % 8)) (dC S.a S.b S.h s.px s.py 2)≠[] then dC S.a S.b S.h s.px s.py 2
 else (cE (S.kd % 8) S.a S.b S.h).getD (s.depth % (cE (S.kd % 8) S.a S.b S.h).length) (0,0)
def fj (z:Int):Int:=if z.tmod 5=0 then 1 else z.tmod 5
def loU (s:Sgt):Nat:=if s.u0 % 3=s.u1 % 3 then 0 else s.u0 % 3
def upU (s:Sgt):Nat:=if s.u0 % 3=s.u1 % 3 then 1+s.u1 % 3 % 2 else s.u1 % 3
def fL (S:Sht)(s:Sgt)(i:Nat):Obs :=
 if s.kind % 3=0 then ⟨1,[111,UInt8.ofNat (49+i)],qtx (lF S s).1,qtx (lF S s).2,[],ru (s.u1 % 3),[],[],[],[]⟩
 else if s.kind % 3=1 then ⟨2,[111,UInt8.ofNat (49+i)],qtx (lF S s).1,qtx (lF S s).2,qtx (kS (s.depth % 12:Nat) 2),ru (max (loU s) (upU s)),ru (min (loU s) (upU s)),[],[],[]⟩
 else ⟨3,[111,UInt8.ofNat (49+i)],qtx (lF S s).1,qtx (lF S s).2,[],ru (max (loU s) (upU s)),ru (min (loU s) (upU s)),qtx ((s.n0.tmod 5:Int):Rat),qtx ((s.n1.tmod 5:Int):Rat),qtx ((fj s.n2:Int):Rat)⟩
theorem wrap_u8 {n:Int}(a:0<=n)(b:n<256):IntKind.u8.wrap n=n:=by
 simp only [IntKind.wrap,IntKind.bits,IntKind.signed];simp;omega
theorem mW (i:Nat)(a:i<6):([[.int .u8 111],[.int .u8 (49+(i:Int))]]:List (List Value))=(([111,UInt8.ofNat (49+i)]:Str).map fun b=>[.int .u8 b.toNat]):=by
 rcases (by omega:i=0∨i=1∨i=2∨i=3∨i=4∨i=5) with rfl | rfl | rfl | rfl | rfl | rfl <;> rfl
theorem BL (j:Nat)(a:j<3):(([ai [65],ai [66],ai [67]]:List Value).drop j).take 1=[ai (ru j)]:=by
 rcases (by omega:j=0∨j=1∨j=2) with rfl | rfl | rfl <;> rfl
theorem ym:∀ m:Nat,0<(shP m).length
 | 0=>by decide
 | 1=>by decide
 | 2=>by decide
 | 3=>by decide
 | 4=>by decide
 | 5=>by decide
 | 6=>by decide
 | _+7=>by
  show 0<([(0,0),(6,0),(0,6),(2,2)]:List (Int × Int)).length;decide
theorem nK (a:Int):-5<a.tmod 5/\a.tmod 5<5:=by
 have h:(a.tmod 5).natAbs=a.natAbs % 5:=TB a 5;omega
theorem ND (s:Sgt):loU s<=2:=by unfold loU;split <;> omega
theorem Mv (s:Sgt):upU s<=2:=by unfold upU;split <;> omega
theorem FQ {p:Pt}(h:QP 1 p):QP 23 p/\PtR p:=⟨⟨h.1.le dc_,h.2.le dc_⟩,bO (h.1.le dc_),bO (h.2.le dc_)⟩
theorem rr (C:Mem)(r:Tabs C)(S:Sht)(s:Sgt)(H:Hts)(sv:Value)(i:Nat)(T:i<6)(hk:S.kd<256)(q:SgtR s)(hG:Good (cE (S.kd % 8) S.a S.b S.h) (shT (S.kd % 8))) :
  Pur cx.P 63 [.agg ⟨Nb S H sv⟩,.agg ⟨Ou s⟩,.int .i64 i] C fun u _D=>u=.agg ⟨Ix (fL S s i)⟩:=by
 have aE:=q.kind;have aF:=q.u0;have aG:=q.u1;have aH:=q.depth;have aI:=nK s.n0;have aJ:=nK s.n1;have aK:=nK s.n2;have am:=ND s;have an:=Mv s;have ao:QP 1 (dC S.a S.b S.h s.px s.py 2):=Bm dc_ dc_ q.px q.py;obtain ⟨ap,aq⟩:=FQ ao;obtain ⟨lo,v⟩:∃ n,loU s=n:=⟨_,rfl⟩;obtain ⟨up,w⟩:∃ n,upU s=n:=⟨_,rfl⟩;obtain ⟨p,x⟩:∃ p,lF S s=p:=⟨_,rfl⟩;obtain ⟨t,E⟩:∃ z,fj s.n2=z:=⟨_,rfl⟩;have aL:-5<t/\t<5:=by rw [<- E];unfold fj;split <;> omega
 rw [v] at am;rw [w] at an;have ae:0<(cE (S.kd % 8) S.a S.b S.h).length:=by rw [cE,al];exact ym _
 have aM:=lE (S.kd % 8) S.a S.b S.h;refine UD func63 129 U3 fun w0=>?_;refine Uz fun R d=>?_;refine UQ U6 (fun b3=>?_);refine UQ U6 (fun y=>?_);refine UP U5 (fun g=>?_);refine UA [2,3,4,6] d Z ?_;refine G.freeze 2 Z (fun _ _ ah=>?_);refine G.freeze 1 Z (fun _ _ k=>?_);refine Uv 1 Z fun R d=>?_;refine Uw (bkT ah 4) U8 ?_;refine Ve (wP _ r.m_ S.kd S.a S.b S.h hk) U7 (fun aN _ _ U=>?_);obtain ⟨v1,v2,rfl,V,ar⟩:=id U.ex;obtain ⟨A1,c1,rfl,av,aO,_⟩:=id V;obtain ⟨A2,c2,rfl,_,_,_⟩:=id ar;simp only [al] at V av U ⊢;refine UP U5 (fun b7=>?_);refine UG (j:=0) U12 ?_;refine UA [2,3,4,6,7] d Z ?_;refine G.freeze 0 Z (fun _ _ W=>?_);refine G.cut (fun fr C' l m=>∃ (f:Nat),(True)/\fr=[(4,[],.pointer (some ⟨y,0,none⟩)),(6,[],.pointer (some ⟨g,0,none⟩)),(7,[],.pointer (some ⟨b7,0,none⟩)),(8,[],.pointer (some ⟨f,0,none⟩))]/\l=[.obj f (.cells ⟨[.int .i64 (1+((s.kind % 3:Nat):Int)),ai [111,UInt8.ofNat (49+i)],ai (qtx (dC S.a S.b S.h s.px s.py 2).1),ai (qtx (dC S.a S.b S.h s.px s.py 2).2),ai [],ai [],ai [],ai [],ai [],ai []]⟩ 62 (0,0)),.obj g (.cells ⟨[.int .i64 0,ai [],ai [],ai [],ai [],ai [],ai [],ai [],ai [],ai []]⟩ 62 (0,0))]) ?_ (fun fr aP aQ m aR o=>?_)
 ·refine Vp (.cut [0,1,2,3,4,5,6,7,10,11,12,13,14] (.alt 8 (.cut [] (.alt 9 (.fin [15,16,17]) (.alt 16 (.fin [9,15,17]) .stop))) (.alt 16 (.fin [8,9,15,17]) .stop))) [(14,1),(3,0),(6,0)] Z Z kr_ (fun R F d I=>?_);refine Uy U6 ?_;refine Uw (bkT k 1) U8 ?_;refine Vt (s.kind) (3) U6 om_ U2 ?_;refine VC (c:=((s.kind % 3:Nat):Int)) U8 (wrap_i64 om_ om_) U2 ?_;refine UF _ U7 ?_;refine Uy U6 ?_;refine VC (c:=(i:Int)) U8 (wrap_u8 om_ om_) U2 ?_;refine D.int ((49+(i:Int))) U4 (wrap_u8 om_ om_) U2 ?_;refine Uy U6 ?_;refine Uw (bkT ah 4) U8 ?_;refine Uy U6 ?_;refine Uw (bkT k 2) U8 ?_;refine UT (fun _=>(Bn _ r.m_ S.kd S.a S.b S.h s.px s.py 2 dc_ dc_ q.px q.py)) U9 ?_;refine Vd I Z ⟨?_, ?_,trivial⟩
  ·refine UR [[.int .u8 111],[.int .u8 (49+(i:Int))]] U12 (fun aw ax _ J=>?_);refine Vd I Z ⟨?_, ?_,trivial⟩
   ·refine VY (show Sl _ 1 _ (([111,UInt8.ofNat (49+i)]:Str).map fun b=>[.int .u8 b.toNat]) from by rw [<- mW i T];exact J.mono mup) U11 fl_ ?_;refine UO [.int .i64 (1+((s.kind % 3:Nat):Int)),ai [111,UInt8.ofNat (49+i)],ai (qtx (dC S.a S.b S.h s.px s.py 2).1),ai (qtx (dC S.a S.b S.h s.px s.py 2).2),ai [],ai [],ai [],ai [],ai [],ai []] U8 ?_;refine UP U5 (fun f=>?_);refine UG (j:=0) U12 ?_;refine UA [4,6,7,8] d Z ?_;exact UL 0 mup (hn_ [4,6,7,8] Z) ⟨f,trivial,Z,Z⟩
   refine UP U5 (fun f=>?_);refine VY (show Sl _ 1 _ (([111,UInt8.ofNat (49+i)]:Str).map fun b=>[.int .u8 b.toNat]) from by rw [<- mW i T];exact J.mono mup) U11 fl_ ?_;refine UO [.int .i64 (1+((s.kind % 3:Nat):Int)),ai [111,UInt8.ofNat (49+i)],ai (qtx (dC S.a S.b S.h s.px s.py 2).1),ai (qtx (dC S.a S.b S.h s.px s.py 2).2),ai [],ai [],ai [],ai [],ai [],ai []] U8 ?_;refine UG (j:=0) U12 ?_;refine UA [4,6,7,8] d Z ?_;exact UL 0 mup (hn_ [4,6,7,8] Z) ⟨f,trivial,Z,Z⟩
  refine UP U5 (fun f=>?_);refine UR [[.int .u8 111],[.int .u8 (49+(i:Int))]] U12 (fun aw ax _ J=>?_);refine VY (show Sl _ 1 _ (([111,UInt8.ofNat (49+i)]:Str).map fun b=>[.int .u8 b.toNat]) from by rw [<- mW i T];exact J.mono mup) U11 fl_ ?_;refine UO [.int .i64 (1+((s.kind % 3:Nat):Int)),ai [111,UInt8.ofNat (49+i)],ai (qtx (dC S.a S.b S.h s.px s.py 2).1),ai (qtx (dC S.a S.b S.h s.px s.py 2).2),ai [],ai [],ai [],ai [],ai [],ai []] U8 ?_;refine UG (j:=0) U12 ?_;refine UA [4,6,7,8] d Z ?_;exact UL 0 mup (hn_ [4,6,7,8] Z) ⟨f,trivial,Z,Z⟩
 obtain ⟨f,_,rfl,rfl⟩:=o;refine Uz fun R d=>?_;refine Uw (bkT W 2) U8 ?_;refine Uy U6 ?_;refine UE af U9 ?_;refine UI (qH _ r.m_ _ _ _ (dC S.a S.b S.h s.px s.py 2) U.m_ hG ap aq) U7 ?_;refine C4 5 [4,6,7,8,9] d Z ?_;refine Uu 2 [4,6,7,8,42] Z ?_;refine G.cut (fun fr C' l m=>(True)/\fr=[(4,[],.pointer (some ⟨y,0,none⟩)),(6,[],.pointer (some ⟨g,0,none⟩)),(8,[],.pointer (some ⟨f,0,none⟩))]/\l=[.obj f (.cells ⟨[.int .i64 (1+((s.kind % 3:Nat):Int)),ai [111,UInt8.ofNat (49+i)],ai (qtx p.1),ai (qtx p.2),ai [],ai [],ai [],ai [],ai [],ai []]⟩ 62 (0,0)),.obj g (.cells ⟨[.int .i64 0,ai [],ai [],ai [],ai [],ai [],ai [],ai [],ai [],ai []]⟩ 62 (0,0))]) ?_ (fun fr _ aS m _ o=>?_)
 ·refine Ux (fun X=>?_) fun X=>?_
  ·have ay:lO (cE (S.kd % 8) S.a S.b S.h) (shT (S.kd % 8)) (dC S.a S.b S.h s.px s.py 2)=[]:=by simpa using X
   have ak:s.depth % (cE (S.kd % 8) S.a S.b S.h).length<(cE (S.kd % 8) S.a S.b S.h).length:=Ry _ ae;have Y:p=(cE (S.kd % 8) S.a S.b S.h)[s.depth % (cE (S.kd % 8) S.a S.b S.h).length]:=by
    rw [<- x,lF,az (by rw [ay];simp),au,aj ak,R9]
   have hp:(cE (S.kd % 8) S.a S.b S.h)[s.depth % (cE (S.kd % 8) S.a S.b S.h).length]?=some p:=by rw [Y];exact aj ak
   refine US [0,1,2,3,4,5,6,7,8,9,10,11,12] [(4,0)] Z kr_ (fun R F d=>?_);refine Uy U6 ?_;refine Uw (bkT W 1) U8 ?_;refine Uy U6 ?_;refine Uw (bkT k 1) U8 ?_;refine VC (c:=(s.depth:Int)) U8 (wrap_i64 om_ om_) U2 ?_;refine Uy U6 ?_;refine Uw (bkT W 1) U8 ?_;refine Uy U6 ?_;refine Vt (s.depth) ((cE (S.kd % 8) S.a S.b S.h).length) U6 ae U2 ?_;refine UK V.m_ U10 om_ (bY hp) fl_ (fun aT aA=>?_);refine Uw aA U8 ?_;refine Uy U6 ?_;refine UG (j:=0) U12 ?_;refine UA [4,6,8] d Z ?_;refine UL 0 (Mem.le.refl _) (hn_ [4,6,8] Z) ⟨trivial,Z,Z⟩
  have aB:lO (cE (S.kd % 8) S.a S.b S.h) (shT (S.kd % 8)) (dC S.a S.b S.h s.px s.py 2)≠[]:=by simpa using X
  have Y:p=dC S.a S.b S.h s.px s.py 2:=by rw [<- x,lF,aW aB]
  subst Y;refine UL 0 (Mem.le.refl _) (hn_ [4,6,8] Z) ⟨trivial,Z,Z⟩
 obtain ⟨_,rfl,rfl⟩:=o;refine Uz fun R d=>?_;refine UO ([ai [65],ai [66],ai [67]]) U8 ?_;refine UP U5 (fun aC=>?_);refine UG (j:=0) U12 ?_;refine UA [4,6,8,11] d Z ?_;refine G.freeze 0 Z (fun _ _ K=>?_);refine US [0,1,2,3,4,5,6,7,8,9,10,11] [(4,0),(9,0)] Z kr_ (fun R F d=>?_);refine Uy U6 ?_;refine UV (3) U9 ag U2 ?_;refine Uw (bkT k 1) U8 ?_;refine Vt (s.u0) (3) U6 om_ U2 ?_;refine VC (c:=((s.u0 % 3:Nat):Int)) U8 (wrap_i64 om_ om_) U2 ?_;refine Uy U6 ?_;refine UV (4) U9 ag U2 ?_;refine Uw (bkT k 1) U8 ?_;refine Vt (s.u1) (3) U6 om_ U2 ?_;refine VC (c:=((s.u1 % 3:Nat):Int)) U8 (wrap_i64 om_ om_) U2 ?_;refine C4 2 [4,6,8,11,12,13] d Z ?_;refine Uv 1 Z fun R d=>?_;refine UE af U9 ?_;refine C4 1 [4,6,8,11,12,13,68] d Z ?_;refine Ux (fun L=>?_) fun L=>?_
 ·have A:s.kind % 3=0:=by
   have:=dU L;omega
  refine Uv 1 Z fun R d=>?_;refine UV ((s.u1 % 3)) U9 (fun _=>⟨by omega,by omega,(by show s.u1 % 3=0+(s.u1 % 3)*1;omega)⟩) U2 ?_;refine VL (PtrTo.blockT (Mem.get K mup) (s.u1 % 3) 1) U6 (show cA _ ((([ai [65],ai [66],ai [67]]:List Value).drop (s.u1 % 3)).take 1)=some (ai (ru (s.u1 % 3))) from by rw [BL _ om_];rfl) Z ?_;refine Uy U6 ?_;refine UG (j:=0) U12 ?_;refine UA [6,8] d Z ?_;refine Uz fun R d=>?_;refine UE af U9 ?_;refine UG (j:=1) U12 ?_;refine UA [6] d Z ?_;refine UJ (Vm af U4 ?_);exact ⟨Z,by unfold fL;rw [aW A,x,A];rfl⟩
 have A:¬ s.kind % 3=0:=by
  intro e;rw [e] at L;exact absurd L dc_
 refine Uu 3 [4,6,8,11,12,13,76] Z ?_;refine G.cut (fun fr C' l m=>(True)/\fr=[(4,[],.pointer (some ⟨y,0,none⟩)),(6,[],.pointer (some ⟨g,0,none⟩)),(8,[],.pointer (some ⟨f,0,none⟩)),(11,[],.pointer (some ⟨aC,0,none⟩)),(12,[],.int .i64 (lo:Nat)),(13,[],.int .i64 (up:Nat))]/\l=[.obj f (.cells ⟨[.int .i64 (1+((s.kind % 3:Nat):Int)),ai [111,UInt8.ofNat (49+i)],ai (qtx p.1),ai (qtx p.2),ai [],ai [],ai [],ai [],ai [],ai []]⟩ 62 (0,0)),.obj g (.cells ⟨[.int .i64 0,ai [],ai [],ai [],ai [],ai [],ai [],ai [],ai [],ai []]⟩ 62 (0,0))]) ?_ (fun fr _ aU m _ o=>?_)
 ·refine Ux (fun M=>?_) fun M=>?_
  ·have B:s.u0 % 3=s.u1 % 3:=by
    have:=dU M;omega
   have aa:lo=0:=by rw [<- v,loU,aW B]
   have ab:up=1+s.u1 % 3 % 2:=by rw [<- w,upU,aW B]
   subst aa;subst ab;refine Uv 1 Z fun R d=>?_;refine Vt ((s.u1 % 3)) (2) U6 om_ U2 ?_;refine UF _ U7 ?_;refine C4 2 [4,6,8,11,12,13] d Z ?_;refine UL 0 (Mem.le.refl _) (hn_ [4,6,8,11,12,13] Z) ⟨trivial,Z,Z⟩
  have B:¬ s.u0 % 3=s.u1 % 3:=by
   intro e;rw [e,beq_self_eq_true] at M;exact absurd M dc_
  have aa:lo=s.u0 % 3:=by rw [<- v,loU,az B]
  have ab:up=s.u1 % 3:=by rw [<- w,upU,az B]
  subst aa;subst ab;refine UL 0 (Mem.le.refl _) (hn_ [4,6,8,11,12,13] Z) ⟨trivial,Z,Z⟩
 obtain ⟨_,rfl,rfl⟩:=o;refine G.cut (fun fr C' l m=>(True)/\fr=[(4,[],.pointer (some ⟨y,0,none⟩)),(6,[],.pointer (some ⟨g,0,none⟩)),(8,[],.pointer (some ⟨f,0,none⟩))]/\l=[.obj f (.cells ⟨[.int .i64 (1+((s.kind % 3:Nat):Int)),ai [111,UInt8.ofNat (49+i)],ai (qtx p.1),ai (qtx p.2),ai [],ai (ru (max lo up)),ai (ru (min lo up)),ai [],ai [],ai []]⟩ 62 (0,0)),.obj g (.cells ⟨[.int .i64 0,ai [],ai [],ai [],ai [],ai [],ai [],ai [],ai [],ai []]⟩ 62 (0,0))]) ?_ (fun fr aV aX m aY o=>?_)
 ·refine Vp (.cut [0,1,2,3,4,5,6,7,8,10] (.alt 9 (.fin [11,12,13]) (.alt 11 (.fin [9,12,13]) .stop))) [] Z Z kr_ (fun R F d I=>?_);refine UB 2 Z ?_;refine D.max (((max lo up:Nat):Int)) U6 om_ U2 ?_;refine UV ((max lo up)) U9 (fun _=>⟨by omega,by omega,(by show max lo up=0+(max lo up)*1;omega)⟩) U2 ?_;refine VL (PtrTo.blockT (Mem.get K mup) (max lo up) 1) U6 (show cA _ ((([ai [65],ai [66],ai [67]]:List Value).drop (max lo up)).take 1)=some (ai (ru (max lo up))) from by rw [BL _ om_];rfl) Z ?_;refine UB 2 Z ?_;refine D.min (((min lo up:Nat):Int)) Z Z Z Z Z Z om_ Z Z ?_;refine UV ((min lo up)) U9 (fun _=>⟨by omega,by omega,(by show min lo up=0+(min lo up)*1;omega)⟩) U2 ?_;refine Uy U6 ?_;refine Vd I Z ⟨?_, ?_,trivial⟩
  ·refine VL (PtrTo.blockT (Mem.get K mup) (min lo up) 1) U6 (show cA _ ((([ai [65],ai [66],ai [67]]:List Value).drop (min lo up)).take 1)=some (ai (ru (min lo up))) from by rw [BL _ om_];rfl) Z ?_;refine UG (j:=0) U12 ?_;refine Uy U6 ?_;refine UG (j:=0) U12 ?_;refine UA [4,6,8] d Z ?_;exact UL 0 mup (hn_ [4,6,8] Z) ⟨trivial,Z,Z⟩
  refine UG (j:=0) U12 ?_;refine VL (PtrTo.blockT (Mem.get K mup) (min lo up) 1) U6 (show cA _ ((([ai [65],ai [66],ai [67]]:List Value).drop (min lo up)).take 1)=some (ai (ru (min lo up))) from by rw [BL _ om_];rfl) Z ?_;refine Uy U6 ?_;refine UG (j:=0) U12 ?_;refine UA [4,6,8] d Z ?_;exact UL 0 mup (hn_ [4,6,8] Z) ⟨trivial,Z,Z⟩
 obtain ⟨_,rfl,rfl⟩:=o;refine Uv 1 Z fun R d=>?_;refine UE af U9 ?_;refine C4 1 [4,6,8,94] d Z ?_;refine Ux (fun N=>?_) fun N=>?_
 ·have O:s.kind % 3=1:=by
   have:=dU N;omega
  refine Uv 1 Z fun R d=>?_;refine Uw (bkT k 1) U8 ?_;refine Vt (s.depth) (12) U6 om_ U2 ?_;refine Vi (c:=((s.depth % 12:Nat):Int)) U8 (wrap_i64 om_ om_) fl_ ?_;refine UM (FD _ r.m_ ((s.depth % 12:Nat):Int) 2 om_ om_ om_) U7 fl_ ?_;refine UB 4 Z ?_;refine UG (j:=0) U12 ?_;refine UA [6,8] d Z ?_;refine Uz fun R d=>?_;refine UE af U9 ?_;refine UG (j:=1) U12 ?_;refine UA [6] d Z ?_;refine UJ (Vm af U4 ?_);exact ⟨Z,by unfold fL;rw [az A,aW O,x,v,w,O];rfl⟩
 have O:¬ s.kind % 3=1:=by
  intro e;rw [e] at N;exact absurd N dc_
 have aD:s.kind % 3=2:=by omega
 refine Uv 1 Z fun R d=>?_;refine UV (8) U9 ag U2 ?_;refine Uw (bkT k 1) U8 ?_;refine VB (s.n2.tmod 5) U6 dc_ U3 ?_;refine Vi (c:=(s.n2.tmod 5)) U8 (wrap_i64 om_ om_) fl_ ?_;refine C4 1 [4,6,8,14] d Z ?_;refine Uu 2 [4,6,8,14,111] Z ?_;refine G.cut (fun fr C' l m=>(True)/\fr=[(4,[],.pointer (some ⟨y,0,none⟩)),(6,[],.pointer (some ⟨g,0,none⟩)),(8,[],.pointer (some ⟨f,0,none⟩)),(14,[],.int .i64 t)]/\l=[.obj f (.cells ⟨[.int .i64 (1+((s.kind % 3:Nat):Int)),ai [111,UInt8.ofNat (49+i)],ai (qtx p.1),ai (qtx p.2),ai [],ai (ru (max lo up)),ai (ru (min lo up)),ai [],ai [],ai []]⟩ 62 (0,0)),.obj g (.cells ⟨[.int .i64 0,ai [],ai [],ai [],ai [],ai [],ai [],ai [],ai [],ai []]⟩ 62 (0,0))]) ?_ (fun fr _ aZ m _ o=>?_)
 ·refine Ux (fun Q=>?_) fun Q=>?_
  ·have ac:s.n2.tmod 5=0:=dU Q;have ad:t=1:=by rw [<- E,fj,aW ac]
   subst ad;refine Uu 1 [4,6,8,14] Z ?_;refine UL 0 (Mem.le.refl _) (hn_ [4,6,8,14] Z) ⟨trivial,Z,Z⟩
  have ac:¬ s.n2.tmod 5=0:=by
   intro e;rw [e] at Q;exact absurd Q dc_
  have ad:t=s.n2.tmod 5:=by rw [<- E,fj,az ac]
  subst ad;refine UL 0 (Mem.le.refl _) (hn_ [4,6,8,14] Z) ⟨trivial,Z,Z⟩
 obtain ⟨_,rfl,rfl⟩:=o;refine US [0,1,2,3,4,5,6,7,8,9,10,11,12,13,14,15,16] [(5,1),(11,1),(13,1),(4,0),(10,0)] Z kr_ (fun R F d=>?_);refine Uy U6 ?_;refine UV (6) U9 ag U2 ?_;refine Uw (bkT k 1) U8 ?_;refine VB (s.n0.tmod 5) U6 dc_ U3 ?_;refine VC (c:=(s.n0.tmod 5)) U8 (wrap_i64 om_ om_) U2 ?_;refine UT (fun _=>(lg _ r.m_ (s.n0.tmod 5) om_)) U9 ?_;refine Uy U6 ?_;refine UV (7) U9 ag U2 ?_;refine Uw (bkT k 1) U8 ?_;refine VB (s.n1.tmod 5) U6 dc_ U3 ?_;refine VC (c:=(s.n1.tmod 5)) U8 (wrap_i64 om_ om_) U2 ?_;refine UT (fun _=>(lg _ r.m_ (s.n1.tmod 5) om_)) U9 ?_;refine Uy U6 ?_;refine UT (fun _=>(lg _ r.m_ t om_)) U9 ?_;refine UO [ai (qtx ((s.n0.tmod 5:Int):Rat)),ai (qtx ((s.n1.tmod 5:Int):Rat)),ai (qtx ((t:Int):Rat))] U8 ?_;refine Uy U6 ?_;refine UG (j:=0) U12 ?_;refine UA [6,8] d Z ?_;refine Uz fun R d=>?_;refine UE af U9 ?_;refine UG (j:=1) U12 ?_;refine UA [6] d Z ?_;refine UJ (Vm af U4 ?_);exact ⟨Z,by unfold fL;rw [az A,az O,x,v,w,E,aD];rfl⟩
def DD:Sgt:=⟨0,0,0,0,0,0,0,0,0⟩
def colK:List Lay:=[⟨[65],0,none⟩,⟨[66],0,some 5⟩,⟨[67],1,none⟩]
theorem Ju:qtx 5=[53]:=by
 show qtx ((5:Int):Rat)=_;rw [mS];decide +kernel
theorem KR:colK.map yX=[[ai [65],ai [48],ai []],[ai [66],ai [48],ai [53]],[ai [67],ai [49],ai []]]:=by
 simp only [colK,List.map,yX,vy,qtx_zero,dA,Ju]
def rb (S:Sht)(l:List Sgt):List Obs:=(List.range (min l.length 6)).map fun i=>fL S (l.getD i DD) i
def cC (S:Sht)(H:Hts)(l:List Sgt):Bk:=⟨cE (S.kd % 8) S.a S.b S.h,shT (S.kd % 8),(fsK (cE (S.kd % 8) S.a S.b S.h).length H).map qtx,colK,rb S l⟩
theorem jH (S:Sht)(l:List Sgt):(rb S l).length=min l.length 6:=by simp [rb]
theorem Gn (S:Sht){l:List Sgt}{s:Sgt}(h:l[i]?=some s)(a:i<6):(rb S l)[i]?=some (fL S s i):=by
 have h1:=(aD.1 h).1;rw [rb,QU,Rw om_];show some (fL S (l.getD i DD) i)=_;rw [au,h];rfl
theorem GB (C:Mem)(q:Tabs C)(S:Sht)(H:Hts)(U:Value)(l:List Sgt)(V:S.kd<256)(A:Qa H)(L:Sl C 9 U (l.map Ou))(hs:∀ s∈l,SgtR s)(hG:Good (cE (S.kd % 8) S.a S.b S.h) (shT (S.kd % 8))) :
  Pur cx.P 34 [.agg ⟨Nb S H U⟩] C fun u D=>BookIn D u (cC S H l):=by
 obtain ⟨As,cs,rfl,ag,au,_⟩:=id L;have av:maxLen<=9223372036854775807:=by simp [maxLen]
 simp only [al] at L ag ⊢;have aw:=lE (S.kd % 8) S.a S.b S.h;refine UD func34 44 U3 fun w0=>?_;refine Uz fun R f=>?_;refine UQ U6 (fun W=>?_);refine UP U5 (fun v=>?_);refine UA [1,2] f Z ?_;refine G.freeze 1 Z (fun _ _ B=>?_);refine Uv 1 Z fun R f=>?_;refine Uw (bkT B 4) U8 ?_;refine Ve (wP _ q.m_ S.kd S.a S.b S.h V) U7 (fun v8 _ _ X=>?_);obtain ⟨v1,v2,rfl,M,N⟩:=id X.ex;obtain ⟨k,n,rfl,ah,ay,_⟩:=id M;obtain ⟨A2,c2,rfl,_,_,_⟩:=id N;simp only [al] at M N ah X ⊢;refine UP U5 (fun b3=>?_);refine UG (j:=0) U12 ?_;refine UA [1,2,3] f Z ?_;refine G.freeze 0 Z (fun _ _ Y=>?_);refine G.cut (fun fr C' E O=>∃ (c:Option Addr)(d:Nat)(x:Value)(g:Nat),(Sl C' 1 (.slice c (fsK (cE (S.kd % 8) S.a S.b S.h).length H).length d) ((fsK (cE (S.kd % 8) S.a S.b S.h).length H).map fp)/\Sl C' 3 x [[ai [65],ai [48],ai []],[ai [66],ai [48],ai [53]],[ai [67],ai [49],ai []]])/\fr=[(1,[],.pointer (some ⟨W,0,none⟩)),(2,[],.pointer (some ⟨v,0,none⟩)),(4,[],.pointer (some ⟨g,0,none⟩))]/\E=[.obj g (.cells ⟨[.slice k (cE (S.kd % 8) S.a S.b S.h).length n,.slice A2 (shT (S.kd % 8)).length c2,.slice c (fsK (cE (S.kd % 8) S.a S.b S.h).length H).length d,x,.slice none 0 0]⟩ 42 (0,0)),.obj v (.cells ⟨[.slice none 0 0,.slice none 0 0,.slice none 0 0,.slice none 0 0,.slice none 0 0]⟩ 42 (0,0))]) ?_ (fun fr az aA O aB Q=>?_)
 ·refine Vp (.cut [0,1,2,3,5,6,7] (.alt 4 (.cut [] (.alt 8 (.fin [9,10,11]) (.alt 10 (.fin [8,9,11]) .stop))) (.alt 8 (.cut [] (.alt 4 (.fin [9,10,11]) (.alt 10 (.fin [4,9,11]) .stop))) (.alt 10 (.cut [] (.alt 4 (.fin [8,9,11]) (.alt 8 (.fin [4,9,11]) .stop))) .stop)))) [] Z Z kr_ (fun R hB f F=>?_);refine Uw (bkT Y 2) U8 ?_;refine Uw (bkT Y 2) U8 ?_;refine Uy U6 ?_;refine Uw (bkT B 7) U8 ?_;refine UO ([ai [65],ai [48],ai []]) U8 ?_;refine UO ([ai [66],ai [48],ai [53]]) U8 ?_;refine UO ([ai [67],ai [49],ai []]) U8 ?_;refine Vd F Z ⟨?_, ?_, ?_,trivial⟩
  ·refine U0 (ji _ q.m_ _ _ (cE (S.kd % 8) S.a S.b S.h).length k n H Z om_ A) U7 fl_ (fun I J _ e=>?_);refine Vd F Z ⟨?_, ?_,trivial⟩
   ·refine Vg [[ai [65],ai [48],ai []],[ai [66],ai [48],ai [53]],[ai [67],ai [49],ai []]] U12 fl_ (fun o K _ p=>?_);obtain ⟨c,d,rfl,_,_,_⟩:=id e;simp only [al] at e ⊢;refine UO [.slice k (cE (S.kd % 8) S.a S.b S.h).length n,.slice A2 (shT (S.kd % 8)).length c2,.slice c (fsK (cE (S.kd % 8) S.a S.b S.h).length H).length d,.slice (some ⟨o,0,none⟩) 3 3,.slice none 0 0] U8 ?_;refine UP U5 (fun g=>?_);refine UG (j:=0) U12 ?_;refine UA [1,2,4] f Z ?_;exact UL 0 mup (hn_ [1,2,4] Z) ⟨c,d,_,g,⟨e.mono mup,p.mono mup⟩,Z,Z⟩
   refine UP U5 (fun g=>?_);refine Vg [[ai [65],ai [48],ai []],[ai [66],ai [48],ai [53]],[ai [67],ai [49],ai []]] U12 fl_ (fun o K _ p=>?_);obtain ⟨c,d,rfl,_,_,_⟩:=id e;simp only [al] at e ⊢;refine UO [.slice k (cE (S.kd % 8) S.a S.b S.h).length n,.slice A2 (shT (S.kd % 8)).length c2,.slice c (fsK (cE (S.kd % 8) S.a S.b S.h).length H).length d,.slice (some ⟨o,0,none⟩) 3 3,.slice none 0 0] U8 ?_;refine UG (j:=0) U12 ?_;refine UA [1,2,4] f Z ?_;exact UL 0 mup (hn_ [1,2,4] Z) ⟨c,d,_,g,⟨e.mono mup,p.mono mup⟩,Z,Z⟩
  ·refine Vg [[ai [65],ai [48],ai []],[ai [66],ai [48],ai [53]],[ai [67],ai [49],ai []]] U12 fl_ (fun o K _ p=>?_);refine Vd F Z ⟨?_, ?_,trivial⟩
   ·refine U0 (ji _ q.m_ _ _ (cE (S.kd % 8) S.a S.b S.h).length k n H Z om_ A) U7 fl_ (fun I J _ e=>?_);obtain ⟨c,d,rfl,_,_,_⟩:=id e;simp only [al] at e ⊢;refine UO [.slice k (cE (S.kd % 8) S.a S.b S.h).length n,.slice A2 (shT (S.kd % 8)).length c2,.slice c (fsK (cE (S.kd % 8) S.a S.b S.h).length H).length d,.slice (some ⟨o,0,none⟩) 3 3,.slice none 0 0] U8 ?_;refine UP U5 (fun g=>?_);refine UG (j:=0) U12 ?_;refine UA [1,2,4] f Z ?_;exact UL 0 mup (hn_ [1,2,4] Z) ⟨c,d,_,g,⟨e.mono mup,p.mono mup⟩,Z,Z⟩
   refine UP U5 (fun g=>?_);refine U0 (ji _ q.m_ _ _ (cE (S.kd % 8) S.a S.b S.h).length k n H Z om_ A) U7 fl_ (fun I J _ e=>?_);obtain ⟨c,d,rfl,_,_,_⟩:=id e;simp only [al] at e ⊢;refine UO [.slice k (cE (S.kd % 8) S.a S.b S.h).length n,.slice A2 (shT (S.kd % 8)).length c2,.slice c (fsK (cE (S.kd % 8) S.a S.b S.h).length H).length d,.slice (some ⟨o,0,none⟩) 3 3,.slice none 0 0] U8 ?_;refine UG (j:=0) U12 ?_;refine UA [1,2,4] f Z ?_;exact UL 0 mup (hn_ [1,2,4] Z) ⟨c,d,_,g,⟨e.mono mup,p.mono mup⟩,Z,Z⟩
  refine UP U5 (fun g=>?_);refine Vd F Z ⟨?_, ?_,trivial⟩
  ·refine U0 (ji _ q.m_ _ _ (cE (S.kd % 8) S.a S.b S.h).length k n H Z om_ A) U7 fl_ (fun I J _ e=>?_);refine Vg [[ai [65],ai [48],ai []],[ai [66],ai [48],ai [53]],[ai [67],ai [49],ai []]] U12 fl_ (fun o K _ p=>?_);obtain ⟨c,d,rfl,_,_,_⟩:=id e;simp only [al] at e ⊢;refine UO [.slice k (cE (S.kd % 8) S.a S.b S.h).length n,.slice A2 (shT (S.kd % 8)).length c2,.slice c (fsK (cE (S.kd % 8) S.a S.b S.h).length H).length d,.slice (some ⟨o,0,none⟩) 3 3,.slice none 0 0] U8 ?_;refine UG (j:=0) U12 ?_;refine UA [1,2,4] f Z ?_;exact UL 0 mup (hn_ [1,2,4] Z) ⟨c,d,_,g,⟨e.mono mup,p.mono mup⟩,Z,Z⟩
  refine Vg [[ai [65],ai [48],ai []],[ai [66],ai [48],ai [53]],[ai [67],ai [49],ai []]] U12 fl_ (fun o K _ p=>?_);refine U0 (ji _ q.m_ _ _ (cE (S.kd % 8) S.a S.b S.h).length k n H Z om_ A) U7 fl_ (fun I J _ e=>?_);obtain ⟨c,d,rfl,_,_,_⟩:=id e;simp only [al] at e ⊢;refine UO [.slice k (cE (S.kd % 8) S.a S.b S.h).length n,.slice A2 (shT (S.kd % 8)).length c2,.slice c (fsK (cE (S.kd % 8) S.a S.b S.h).length H).length d,.slice (some ⟨o,0,none⟩) 3 3,.slice none 0 0] U8 ?_;refine UG (j:=0) U12 ?_;refine UA [1,2,4] f Z ?_;exact UL 0 mup (hn_ [1,2,4] Z) ⟨c,d,_,g,⟨e.mono mup,p.mono mup⟩,Z,Z⟩
 obtain ⟨c,d,x,g,⟨ak,aa⟩,rfl,rfl⟩:=Q;refine Uu 1 [1,2,4,5] Z ?_;refine G.nilArr 62 10 ?_;refine G.perm (L':=[.obj g (.cells ⟨[.slice k (cE (S.kd % 8) S.a S.b S.h).length n,.slice A2 (shT (S.kd % 8)).length c2,.slice c (fsK (cE (S.kd % 8) S.a S.b S.h).length H).length d,x,.slice none 0 0]⟩ 42 (0,0)),.arr (.slice none 0 0) 62 10 0 [],.obj v (.cells ⟨[.slice none 0 0,.slice none 0 0,.slice none 0 0,.slice none 0 0,.slice none 0 0]⟩ 42 (0,0))]) (List.Perm.swap _ _ _) ?_;refine G.loop (fun fr C' E O=>∃ (i:Nat)(w:Value),(i<=l.length/\i<=6)/\fr=[(1,[],.pointer (some ⟨W,0,none⟩)),(2,[],.pointer (some ⟨v,0,none⟩)),(4,[],.pointer (some ⟨g,0,none⟩)),(5,[],.int .i64 i)]/\E=[.obj g (.cells ⟨[.slice k (cE (S.kd % 8) S.a S.b S.h).length n,.slice A2 (shT (S.kd % 8)).length c2,.slice c (fsK (cE (S.kd % 8) S.a S.b S.h).length H).length d,x,w]⟩ 42 (0,0)),.arr w 62 10 ((rb S l).take i).length (((rb S l).take i).map Ix).flatten,.obj v (.cells ⟨[.slice none 0 0,.slice none 0 0,.slice none 0 0,.slice none 0 0,.slice none 0 0]⟩ 42 (0,0))]/\O=6-i) (hn_ [1,2,4,5] Z) ⟨0,.slice none 0 0,⟨QT _,QT _⟩,Z,Z,Z⟩ (fun fr aC aD m _ Q=>?_);obtain ⟨i,w,⟨hi,aE⟩,rfl,rfl,rfl⟩:=Q;refine Uv 2 Z fun R f=>?_;refine Uw (bkT B 1) U8 ?_;refine UB 5 Z ?_;refine UU U8 ?_;refine UA [1,2,4,5,27] f Z ?_;refine Ux (fun t=>?_) fun t=>?_
 ·have z:i<l.length/\i<6:=by
   by_cases h1:((i:Nat):Int)<(l.length:Nat)
   ·rw [Ra h1] at t;have h2:=aJ t;omega
   rw [Rj h1] at t;exact absurd t am
  obtain ⟨s,T⟩:∃ s,l[i]?=some s:=⟨l[i]'z.1,aj z.1⟩;have an:(rb S l).take (i+1)=(rb S l).take i++[fL S s i]:=by rw [Rm,Gn S T z.2];rfl
  have aF:((rb S l).take i).length<=6:=by rw [Q5,jH];omega
  refine US [0,1,2,3,4,5,6,7,8,9,10,11,12,13] [] Z kr_ (fun R hB f=>?_);refine Uy U6 ?_;refine UE af U9 ?_;refine Uw (bkT B 12) U8 ?_;refine Uy U6 ?_;refine Uw (bkT B 1) U8 ?_;refine Uy U6 ?_;refine UK L.m_ U10 om_ (bY T) fl_ (fun aG ao=>?_);refine Uw ao U8 ?_;refine Uy U6 ?_;refine Ve (rr _ q.m_ S s H _ i z.2 V (hs s (QQ T)) hG) U7 (fun aH _ _ ap=>?_);subst ap;refine UR [Ix (fL S s i)] U12 (fun aI _ _ aq=>?_);refine UZ (j:=1) U11 aq.m_ Z ax (by simp only [aK];omega) fl_ (fun ab ac ad=>?_);refine Uy U6 ?_;refine UG (j:=1) U12 ?_;refine UA [1,2,4,5] f Z ?_;refine Uv 1 Z fun R f=>?_;refine UF _ U7 ?_;refine C4 1 [1,2,4,5] f Z ?_;refine UN (L':=[.obj g (.cells ⟨[.slice k (cE (S.kd % 8) S.a S.b S.h).length n,.slice A2 (shT (S.kd % 8)).length c2,.slice c (fsK (cE (S.kd % 8) S.a S.b S.h).length H).length d,x,.slice ab ac ad]⟩ 42 (0,0)),.arr (.slice ab ac ad) 62 10 ((rb S l).take (i+1)).length (((rb S l).take (i+1)).map Ix).flatten,.obj v (.cells ⟨[.slice none 0 0,.slice none 0 0,.slice none 0 0,.slice none 0 0,.slice none 0 0]⟩ 42 (0,0))]) (by rw [an,Ru,Rz,QV];rfl) ?_;refine UH (m':=6-(i+1)) om_ mup (hn_ [1,2,4,5] Z) ⟨i+1,_,⟨by omega,by omega⟩,Z,Z,Z⟩
 have z:i=min l.length 6:=by
  by_cases h1:((i:Nat):Int)<(l.length:Nat)
  ·rw [Ra h1] at t;have h2:=QS t;omega
  omega
 have ar:(rb S l).take i=rb S l:=Re (by rw [z,jH];exact QO _);rw [ar];refine G.freezeArr 1 ((rb S l).map Ix) rfl rfl (by intro r hr;obtain ⟨y,_,rfl⟩:=QX.1 hr;rfl) (by rw [al]) (fun Cg hg ae=>?_);obtain ⟨Aw,cw,rfl,_⟩:=id ae;obtain ⟨Ap,cp,rfl,_⟩:=id aa;refine Uz fun R f=>?_;refine UE af U9 ?_;refine UG (j:=1) U12 ?_;refine UA [2] f Z ?_;refine UJ (Vm af U4 ?_);exact ⟨Z,_,_,_,_,_,Z,M.mono mup,N.mono mup,(by rw [cC,<- yW];exact ak.mono mup),(by rw [cC,KR];exact aa.mono mup),ae⟩
instance:DecidableEq RowQ:=fun a b=>decidable_of_iff (a.f=b.f/\a.b=b.b) (by cases a;cases b;simp)
instance (k:Nat) (q:Rat):Decidable (QB k q):=by unfold QB;infer_instance
instance (k:Nat) (p:Pt):Decidable (QP k p):=by unfold QP;infer_instance
instance (n:Nat) (t:Tri):Decidable (rE n t):=by unfold rE;infer_instance
theorem tY {z:Int}(h:txt z=s):qtx ((z:Int):Rat)=s:=by rw [mS,h]
theorem MZ:qtx 2=[50]:=tY (z:=2) aq
theorem yt (q:Rat)(h:qtx q=s)(a:QB 22 q):dz s=q:=by rw [<- h];exact di (bO a)
theorem ro0:dz [48]=0:=yt 0 qtx_zero aq
theorem Mr (a:List Pt)(t:Tri)(p:Pt)(j:Nat):wgt a t p j=wgt a t p (j % 3):=by
 unfold wgt;rw [show (j+1) % 3=(j % 3+1) % 3 by omega,show (j+2) % 3=(j % 3+2) % 3 by omega]
theorem IQ (t:Tri)(j:Nat):mF t j=mF t (min j 2):=by
 unfold mF;rcases (by omega:j=0∨j=1∨2<=j) with h | h | h
 ·subst h;rfl
 ·subst h;rfl
 rw [Nat.min_eq_right h,az om_,az om_];rfl
theorem q6:qtx 6=[54]:=by decide +kernel
def JA (m:Nat)(u v:Int)(h:Bool):List Pt:=(shP m).map fun p=>(kS (p.1+u*1) (dV h*1),kS (p.2+v*1) (dV h*1))
theorem Pb (m:Nat)(a b:Int)(h:Bool):cE m a b h=JA m (a.tmod 8) (b.tmod 8) h:=rfl
def qe (pts:List Pt)(tris:List Tri):Bool :=
 pts.all (fun p=>decide (QP 1 p)) && (decide pts.Nodup && (tris.all (fun t=>decide (rE pts.length t)) && (tris.all (fun t=>decide (0<dG (pts.getD t.1 (0,0)) (pts.getD t.2.1 (0,0)) (pts.getD t.2.2 (0,0)))) && (decide (da tris).Nodup && (np pts tris && pts.all fun p=>decide (lO pts tris p≠[]))))))
theorem all0:∀ i<15,∀ j<15,∀ h:Bool,qe (JA 0 ((i:Nat)-7) ((j:Nat)-7) h) (shT 0)=true:=by decide +kernel
theorem sh1 (a:cY n=true)(b:cY u=true)(c:bg x=true)(d:bg y=true):dQ ⟨1,n,x,y,[],u,[],[],[],[]⟩=0:=by
 unfold dQ;rw [az am,az (by simp [kM,a,b]),az (by simp [lK,c,d]),az (by simp [kQ])]
theorem sh2 {d l:Str}(a:cY n=true)(b:cY u=true)(c:cY l=true)(e:bg x=true)(f:bg y=true)(g:bg d=true):dQ ⟨2,n,x,y,d,u,l,[],[],[]⟩=0:=by
 unfold dQ;rw [az am,az (by simp [kM,a,b,c]),az (by simp [lK,e,f,g]),az (by simp [kQ])]
theorem sh3 {l a b c:Str}(d:cY n=true)(e:cY u=true)(f:cY l=true)(g:bg x=true)(h:bg y=true)(i:bg a=true)(j:bg b=true)(k:bg c=true):dQ ⟨3,n,x,y,[],u,l,a,b,c⟩=0:=by
 unfold dQ;rw [az am,az (by simp [kM,d,e,f]),az (by simp [lK,g,h,i,j,k]),az (by simp [kQ])]
theorem pY (j:Nat)(a:j<3):kf (isU (ru j)) colK 0=(j:Int):=by
 rcases (by omega:j=0∨j=1∨j=2) with rfl | rfl | rfl <;> decide +kernel
theorem ux (j:Nat)(a:j<3):cY (ru j)=true:=by
 rcases (by omega:j=0∨j=1∨j=2) with rfl | rfl | rfl <;> decide +kernel
theorem Nu (i:Nat)(a:i<6):cY [111,UInt8.ofNat (49+i)]=true:=by
 rcases (by omega:i=0∨i=1∨i=2∨i=3∨i=4∨i=5) with rfl | rfl | rfl | rfl | rfl | rfl <;> decide +kernel
theorem Pq {j:Nat}(c:i<6)(d:j<6)(h:([111,UInt8.ofNat (49+i)]:Str)=[111,UInt8.ofNat (49+j)]):i=j:=by
 have e:∀ a<6,∀ b<6,([111,UInt8.ofNat (49+a)]:Str)=[111,UInt8.ofNat (49+b)]->a=b:=by decide
 exact e i c j d h
theorem J5 (s:Sgt):min (loU s) (upU s)<max (loU s) (upU s):=by
 unfold loU upU;split <;> omega
theorem ec (z:Int)(h:z.natAbs<100):QB 1 ((z:Int):Rat):=by
 refine ⟨?_, ?_⟩
 ·show z.natAbs<B9 ^ 1;have:B9 ^ 1=1000000000:=by decide
  omega
 show 1<B9 ^ 1;decide
theorem uw (z:Int):fj z≠0:=by
 unfold fj;split
 ·decide
 assumption
theorem oc (z:Int):-5<fj z/\fj z<5:=by
 have:=nK z;unfold fj;split <;> omega
theorem ok1 (h:QB 1 q):bg (qtx q)=true:=bO (h.le dc_)
theorem sM (n:Nat):QB 1 (kS ((n % 12:Nat):Int) 2):=qA dc_ om_ dc_
theorem N2 (n:Nat):¬ (kS ((n % 12:Nat):Int) 2<0):=by
 have a:∀ k<12,¬ (kS ((k:Nat):Int) 2<0):=by decide +kernel
 exact a _ (Ry _ dc_)
theorem JS (S:Sht)(s:Sgt)(i:Nat)(m:i<6)(j:QP 1 (lF S s))(n:lO (cE (S.kd % 8) S.a S.b S.h) (shT (S.kd % 8)) (lF S s)≠[]) :
  gD (cE (S.kd % 8) S.a S.b S.h) (shT (S.kd % 8)) colK (fL S s i)=0:=by
 have f:=Nu i m;have c:=ok1 j.1;have hy:=ok1 j.2;have q:=J5 s;have r:=ND s;have t:=Mv s;have g:∀ o:Obs,o.x=qtx (lF S s).1->o.y=qtx (lF S s).2->Iy (cE (S.kd % 8) S.a S.b S.h) (shT (S.kd % 8)) o=true:=by
  intro o h1 h2;unfold Iy ptO;rw [h1,h2,di c,di hy];exact Ra n
 have p:=pY (s.u1 % 3) om_;have d:=pY (max (loU s) (upU s)) om_;have e:=pY (min (loU s) (upU s)) om_;have n1:=ux (s.u1 % 3) om_;have n2:=ux (max (loU s) (upU s)) om_;have k:=ux (min (loU s) (upU s)) om_;unfold fL gD;split
 ·rw [az (by rw [sh1 f n1 c hy];decide),az (by rw [g _ rfl rfl];decide),az (by simp [Mw,p] <;> omega),az (by simp [Nn]),az (by simp [KE]),az (by simp [Lq])]
 split
 ·have l:=ok1 (sM s.depth);rw [az (by rw [sh2 f n2 k c hy l];decide),az (by rw [g _ rfl rfl];decide),az (by simp only [Mw,d,e];simp <;> omega),az (by simp only [Nn,d,e];simp <;> omega),az (by simp only [KE];rw [di l,Rj (N2 s.depth)];decide),az (by simp [Lq])]
 have h0:=nK s.n0;have h1:=nK s.n1;have h2:=oc s.n2;rw [az (by rw [sh3 f n2 k c hy (ok1 (ec _ om_)) (ok1 (ec _ om_)) (ok1 (ec _ om_))];decide),az (by rw [g _ rfl rfl];decide),az (by simp only [Mw,d,e];simp <;> omega),az (by simp only [Nn,d,e];simp <;> omega),az (by simp [KE]),az ?_];intro h;simp only [Lq,Q1,QZ] at h;have h3:=h.2;rw [<- qtx_zero] at h3;have h4:=lD h3;have h5:=uw s.n2;exact h5 (by exact_mod_cast h4)
theorem all1:∀ i<15,∀ j<15,∀ h:Bool,qe (JA 1 ((i:Nat)-7) ((j:Nat)-7) h) (shT 1)=true:=by decide +kernel
theorem all2:∀ i<15,∀ j<15,∀ h:Bool,qe (JA 2 ((i:Nat)-7) ((j:Nat)-7) h) (shT 2)=true:=by decide +kernel
theorem all3:∀ i<15,∀ j<15,∀ h:Bool,qe (JA 3 ((i:Nat)-7) ((j:Nat)-7) h) (shT 3)=true:=by decide +kernel
theorem all4:∀ i<15,∀ j<15,∀ h:Bool,qe (JA 4 ((i:Nat)-7) ((j:Nat)-7) h) (shT 4)=true:=by decide +kernel
theorem all5:∀ i<15,∀ j<15,∀ h:Bool,qe (JA 5 ((i:Nat)-7) ((j:Nat)-7) h) (shT 5)=true:=by decide +kernel
theorem all6:∀ i<15,∀ j<15,∀ h:Bool,qe (JA 6 ((i:Nat)-7) ((j:Nat)-7) h) (shT 6)=true:=by decide +kernel
theorem all7:∀ i<15,∀ j<15,∀ h:Bool,qe (JA 7 ((i:Nat)-7) ((j:Nat)-7) h) (shT 7)=true:=by decide +kernel
theorem vM (a:Int):∃ i:Nat,i<15/\a.tmod 8=(i:Int)-7:=by
 have h:=yc a;exact ⟨(a.tmod 8+7).toNat,by omega,by omega⟩
theorem yl (m:Nat)(g:m<8)(a b:Int)(h:Bool):qe (cE m a b h) (shT m)=true:=by
 obtain ⟨i,c,e⟩:=vM a;obtain ⟨j,d,f⟩:=vM b;rw [Pb,e,f];rcases (by omega:m=0∨m=1∨m=2∨m=3∨m=4∨m=5∨m=6∨m=7) with rfl | rfl | rfl | rfl | rfl | rfl | rfl | rfl
 ·exact all0 i c j d h
 ·exact all1 i c j d h
 ·exact all2 i c j d h
 ·exact all3 i c j d h
 ·exact all4 i c j d h
 ·exact all5 i c j d h
 ·exact all6 i c j d h
 exact all7 i c j d h
theorem MJ:∀ m:Nat,m<8->shT m≠[]/\(shT m).length<=800:=by decide
theorem Hb {a:List Pt}{b:List Tri}(h:qe a b=true)(c:b≠[])(d:b.length<=800)(e:a.length<=400):Good a b/\∀ p∈a,lO a b p≠[]:=by
 unfold qe at h;simp only [Q1,Q4,QZ] at h;obtain ⟨f,g,i,j,k,l,m⟩:=h;exact ⟨⟨⟨f,g,i,j,k,d,e⟩,c,l⟩,m⟩
theorem fB (m:Nat)(c:m<8)(a b:Int)(h:Bool):Good (cE m a b h) (shT m)/\∀ p∈cE m a b h,lO (cE m a b h) (shT m) p≠[]:=by
 have d:=lE m a b h;obtain ⟨h0,h1⟩:=MJ m c;exact Hb (yl m c a b h) h0 h1 om_
theorem uc (S:Sht)(s:Sgt)(c:SgtR s):QP 1 (lF S s)/\lO (cE (S.kd % 8) S.a S.b S.h) (shT (S.kd % 8)) (lF S s)≠[]:=by
 obtain ⟨d,e⟩:=fB (S.kd % 8) (Ry _ dc_) S.a S.b S.h;have f:0<(cE (S.kd % 8) S.a S.b S.h).length:=by rw [cE,al];exact ym _
 unfold lF;split
 ·rename_i h;exact ⟨Bm dc_ dc_ c.px c.py,h⟩
 have g:s.depth % (cE (S.kd % 8) S.a S.b S.h).length<(cE (S.kd % 8) S.a S.b S.h).length:=Ry _ f;rw [au,aj g,R9];exact ⟨d.ok.q _ (RP _),e _ (RP _)⟩
theorem ii (h:QB 1 q):(qtx q).length<=999998:=wt (fs:=[q]) (k:=1) dc_ (by intro y hy;rw [Rc] at hy;rw [hy];exact h) _ (Rc.2 rfl)
theorem Qv (S:Sht)(s:Sgt)(i:Nat)(c:SgtR s):ObsR (fL S s i):=by
 have b:=(uc S s c).1;have a:=ii b.1;have hy:=ii b.2;have d:=ii (sM s.depth);have h0:=nK s.n0;have h1:=nK s.n1;have h2:=oc s.n2;have e:=ii (ec (s.n0.tmod 5) om_);have l1:=ii (ec (s.n1.tmod 5) om_);have l2:=ii (ec (fj s.n2) om_);unfold fL;split
 ·exact ⟨by simp,a,hy,by simp,by simp [ru],by simp,by simp,by simp,by simp⟩
 split
 ·exact ⟨by simp,a,hy,d,by simp [ru],by simp [ru],by simp,by simp,by simp⟩
 exact ⟨by simp,a,hy,by simp,by simp [ru],by simp [ru],e,l1,l2⟩
theorem wG (S:Sht)(s:Sgt)(i:Nat):(fL S s i).name=[111,UInt8.ofNat (49+i)]:=by
 unfold fL;split
 ·rfl
 split <;> rfl
theorem mr {S:Sht}{H:Hts}{l:List Sgt}{o:Obs}(h:(cC S H l).obs[i]?=some o):i<6/\∃ s,l[i]?=some s/\o=fL S s i:=by
 have h1:=(aD.1 h).1;have h2:i<(rb S l).length:=h1;rw [jH] at h2;have h3:=Gn S (aj (show i<l.length by omega)) (show i<6 by omega);have h4:(rb S l)[i]?=some o:=h;rw [h3] at h4;exact ⟨by omega,_,aj om_,(Ss h4).symm⟩
theorem sZ (S:Sht)(H:Hts)(l:List Sgt)(e:∀ s∈l,SgtR s):iB (cC S H l)=0:=by
 have f:∀ n,n<=(cC S H l).obs.length->re (cC S H l) n=0:=by
  intro n;induction n with
  | zero=>intro _;rfl
  | succ n g =>
   intro i;have h0:=g om_;have a:(cC S H l).obs[n]?=some (cC S H l).obs[n]:=aj i;rw [uk h0 a];obtain ⟨b,s,j,m⟩:=mr a;rw [m];have c:=uc S s (e s (QQ j));unfold obZ;rw [az (by
    have:=JS S s n b c.1 c.2;intro h;exact h this),az]
   intro hm;obtain ⟨o,p,d⟩:=QX.1 hm;obtain ⟨k,x,r⟩:=List.mem_take_iff_getElem.1 p;have t:(cC S H l).obs[k]?=some o:=by rw [<- r];exact aj _
   obtain ⟨u,y,_,v⟩:=mr t;rw [v,wG,wG] at d;have:=Pq u b d;omega
 unfold iB;have z:(cC S H l).obs.length<=6:=by
  show (rb S l).length<=6;rw [jH];omega
 have h1:BU (cC S H l).pts.length (cC S H l).terr=0:=by
  unfold BU;rw [aW (by show ((fsK _ H).map qtx).length=_;rw [al,uE];rfl)];show qK (((fsK _ H).map qtx).all bg)=0;rw [xK (fun q w=>ok1 (Hj _ H q w))];rfl
 have h2:sS (cC S H l).col=0:=by
  show sS colK=0;decide +kernel
 rw [az (by rw [h1];decide),az (by rw [h2];decide),az om_];exact f _ (QO _)
theorem QE:∀ x∈colK,Oz x:=by
 intro x a;simp only [colK,Q3,RU,Tk] at a;rcases a with rfl | rfl | rfl
 ·exact ⟨by decide +kernel,fun q h=>by simp at h,by decide⟩
 ·exact ⟨by decide +kernel,fun q h=>by simp at h;subst h;decide +kernel,by decide⟩
 exact ⟨by decide +kernel,fun q h=>by simp at h,by decide⟩
theorem H4 (S:Sht)(H:Hts)(l:List Sgt)(a:∀ s∈l,SgtR s):BookR (cC S H l):=by
 refine ⟨?_,QE,(by show colK.length<=1000000;decide), ?_⟩
 ·intro s h;obtain ⟨q,b,rfl⟩:=QX.1 h;exact ii (Hj _ H q b)
 intro o c;obtain ⟨i,d⟩:=List.mem_iff_getElem?.1 c;obtain ⟨_,s,e,rfl⟩:=mr d;exact Qv S s i (a s (QQ e))
theorem H3 (C:Mem)(i:Tabs C)(c:Value)(S:Sht)(H:Hts)(l:List Sgt)(d:∀ s∈l,SgtR s)(e:BookIn C c (cC S H l)):BookZ C c (cC S H l) 0:=by
 have f:=(fB (S.kd % 8) (Ry _ dc_) S.a S.b S.h).1;refine ⟨e,fun D g=>?_,fun _=>by show colK≠[];decide,by show colK.length<=1000;decide,f.ok.lp⟩;have h2:=kT D (i.mono g) c _ (e.mono g) f (H4 S H l d)
 rwa [sZ S H l d] at h2
theorem K2 (S:Sht)(H:Hts)(l:List Sgt):bs (cC S H l)=2:=rfl
theorem K3 (S:Sht)(H:Hts)(l:List Sgt):0<bp (cC S H l)/\bp (cC S H l)<=6:=by
 refine ⟨?_,lE _ _ _ _⟩;show 0<(cE (S.kd % 8) S.a S.b S.h).length;rw [cE,al];exact ym _
def CE (C:Mem)(pv:Value)(S:Sht)(H:Hts)(l:List Sgt):Prop:=∃ A c,pv=.agg ⟨Nb S H (.slice A l.length c)⟩/\Sl C 9 (.slice A l.length c) (l.map Ou)
structure PlanR (S:Sht)(H:Hts)(l:List Sgt):Prop where
 kd:S.kd<256
 h:Qa H
 s:∀ s∈l,SgtR s
def Lt (s p:Nat)(a b:Int):Prop:=a<0∨(s:Int)<=a∨b<0∨(p:Int)<=b
instance (s p:Nat) (a b:Int):Decidable (Lt s p a b):=by unfold Lt;infer_instance
def LR (n:Nat)(x:Int):Prop:=x<0∨(n:Int)<=x
instance (n:Nat) (x:Int):Decidable (LR n x):=by unfold LR;infer_instance
open Go Go.Jog Go.ChangeShapes Go.WideShapes Go.ChangeAt Go.RowKit
set_option maxRecDepth 100000
theorem own:ownKnob Tryz.prog.godebug=none:=by kernel_rfl
section
variable {H:Type} {enc:TypeId × Value->H} {W:World} {spare:Nat->Bool} {held:Bool}
theorem OG {n:Nat}{c:Value}{y:DataW H × List MemPlace}(h:DataW.trod enc Tryz.prog W 0 spare held n 5 [c]=some y):∃ b:UInt8,c=.int .u8 b.toNat:=by
 obtain ⟨m,h1,_,h3⟩:=DataW.trod_int Tryz.underlying5 h;simp only [S9,Ul] at h1;subst h1;have a:0<=m/\m<256:=by
  simp [Lit.wf,IntKind.min,IntKind.max,IntKind.signed,IntKind.bits] at h3;omega
 refine ⟨UInt8.ofNat m.toNat, ?_⟩;congr 1;simp only [UInt8.toNat_ofNat'];omega
theorem vJ {n:Nat}{c:Value}{y:DataW H × List MemPlace}(h:DataW.trod enc Tryz.prog W 0 spare held n 5 [c]=some y):∃ m:Nat,c=.int .u8 m/\m<256:=by
 obtain ⟨b,rfl⟩:=OG h;exact ⟨b.toNat,Z,b.toNat_lt⟩
theorem mZ {n:Nat}{c:Value}{y:DataW H × List MemPlace}(h:DataW.trod enc Tryz.prog W 0 spare held n 22 [c]=some y):∃ m:Int,c=.int .i8 m/\-128<=m/\m<=127:=by
 obtain ⟨m,h1,_,h3⟩:=DataW.trod_int Tryz.underlying22 h;simp only [S9,Ul] at h1;refine ⟨m,h1, ?_⟩;simp [Lit.wf,IntKind.min,IntKind.max,IntKind.signed,IntKind.bits] at h3;omega
theorem H2 {n:Nat}{c:Value}{y:DataW H × List MemPlace}(h:DataW.trod enc Tryz.prog W 0 spare held n 4 [c]=some y):∃ b:Bool,c=.bool b:=by
 obtain ⟨b,h1,_⟩:=DataW.trod_bool Tryz.underlying4 h;simp only [S9,Ul] at h1;exact ⟨b,h1⟩
theorem xI {t e:TypeId}{k n:Nat}{a:List Value}{y:DataW H × List MemPlace}(b:Tryz.prog.underlying t=some (.array k e))(c:Tryz.prog.cellsOf e=1)(h:DataW.trod enc Tryz.prog W 0 spare held n t a=some y) :
  ∃ m,∀ i,i<k->∃ z,DataW.trod enc Tryz.prog W 0 spare held m e ((a.drop i).take 1)=some z:=by
 obtain ⟨xs,m,_,_,_,g,d⟩:=DataW.trod_array b h;refine ⟨m,fun i f=>?_⟩;have h1:=d i f;rw [c,SK] at h1;rw [h1,aj om_];exact ⟨_,Z⟩
theorem uZ:Tryz.prog.cellsOf 5=1:=by kernel_rfl
theorem oq:Tryz.prog.cellsOf 22=1:=by kernel_rfl
theorem sX:Tryz.prog.cellsOf 4=1:=by kernel_rfl
theorem xA:Tryz.prog.cellsOf 23=2:=by kernel_rfl
theorem HT:Tryz.prog.cellsOf 137=2:=by kernel_rfl
theorem KY:Tryz.prog.cellsOf 138=3:=by kernel_rfl
theorem KX:Tryz.prog.cellsOf 26=6:=by kernel_rfl
theorem Jd {n:Nat}{c d e f:Value}{y:DataW H × List MemPlace}(h:DataW.trod enc Tryz.prog W 0 spare held n 25 [c,d,e,f]=some y):∃ S:Sht,[c,d,e,f]=([.int .u8 S.kd,.int .i8 S.a,.int .i8 S.b,.bool S.h]:List Value)/\S.kd<256:=by
 obtain ⟨y0,y1,y2,o,_,p,h0,h1,h2⟩:=Go.Deep.trod_struct3 Tryz.underlying25 h;simp only [uZ,xA,sX] at h0 h1 h2;obtain ⟨kd,rfl,i⟩:=vJ h0;obtain ⟨m,g⟩:=xI Tryz.underlying23 oq h1;obtain ⟨q,j⟩:=g 0 dc_;obtain ⟨r,k⟩:=g 1 dc_;obtain ⟨a,rfl,_⟩:=mZ j;obtain ⟨b,rfl,_⟩:=mZ k;obtain ⟨l,rfl⟩:=H2 h2;exact ⟨⟨kd,a,b,l⟩,Z,i⟩
theorem DP {n:Nat}{b c d e f g i:Value}{y:DataW H × List MemPlace}(h:DataW.trod enc Tryz.prog W 0 spare held n 28 [b,c,d,e,f,g,i]=some y):∃ G:Hts,[b,c,d,e,f,g,i]=PC G/\Qa G:=by
 obtain ⟨y0,y1,v,_,w,h0,h1⟩:=Go.ChangeShapes.trod_struct2 Tryz.underlying28 h;simp only [KX,sX] at h0 h1;obtain ⟨m,a⟩:=xI Tryz.underlying26 oq h0;obtain ⟨x,k⟩:=a 0 dc_;obtain ⟨A,l⟩:=a 1 dc_;obtain ⟨B,o⟩:=a 2 dc_;obtain ⟨C,p⟩:=a 3 dc_;obtain ⟨D,q⟩:=a 4 dc_;obtain ⟨E,r⟩:=a 5 dc_;obtain ⟨x0,rfl,g0⟩:=mZ k;obtain ⟨x1,rfl,F⟩:=mZ l;obtain ⟨x2,rfl,I⟩:=mZ o;obtain ⟨x3,rfl,J⟩:=mZ p;obtain ⟨s,rfl,K⟩:=mZ q;obtain ⟨t,rfl,L⟩:=mZ r;obtain ⟨u,rfl⟩:=H2 h1;refine ⟨⟨x0,x1,x2,x3,s,t,u⟩,Z, ?_⟩;intro z j;simp only [Iw,Q3,RU,Tk] at j;rcases j with rfl | rfl | rfl | rfl | rfl | rfl <;> assumption
theorem vK {P:Program}{t:TypeId}{b c d e f:Field}{j:Nat}{a:List Value}{x:DataW H × List MemPlace}(k:P.underlying t=some (.struct #[b,c,d,e,f]))(h:DataW.trod enc P W 0 spare held j t a=some x) :
  ∃ y0 y1 y2 y3 i n,DataW.trod enc P W 0 spare held n b.type ((a.drop b.offset).take (P.cellsOf b.type))=some y0/\DataW.trod enc P W 0 spare held n c.type ((a.drop c.offset).take (P.cellsOf c.type))=some y1/\DataW.trod enc P W 0 spare held n d.type ((a.drop d.offset).take (P.cellsOf d.type))=some y2 /\
   DataW.trod enc P W 0 spare held n e.type ((a.drop e.offset).take (P.cellsOf e.type))=some y3/\DataW.trod enc P W 0 spare held n f.type ((a.drop f.offset).take (P.cellsOf f.type))=some i:=by
 obtain ⟨xs,n,_,rfl,m,l,g⟩:=DataW.trod_struct k h
 match xs,l with
 | [y0,y1,y2,y3,i],_=>exact ⟨y0,y1,y2,y3,i,n,by simpa using g 0 b rfl,by simpa using g 1 c rfl,by simpa using g 2 d rfl,by simpa using g 3 e rfl,by simpa using g 4 f rfl⟩
theorem I8 {n:Nat}{a:List Value}{y:DataW H × List MemPlace}(e:a.length=9)(h:DataW.trod enc Tryz.prog W 0 spare held n 140 a=some y):∃ s:{s:Sgt // SgtR s},a=Ou s.1:=by
 obtain ⟨y0,y1,y2,y3,z,A,h0,h1,h2,h3,h4⟩:=vK Tryz.underlying140 h
 match a,e with
 | [c0,B,c2,C,D,E,F,G,I],_ =>
   simp only [uZ,xA,HT,KY] at h0 h1 h2 h3 h4;obtain ⟨kd,rfl,f⟩:=vJ h0;obtain ⟨J,c⟩:=xI Tryz.underlying23 oq h1;obtain ⟨w0,g⟩:=c 0 dc_;obtain ⟨w1,i⟩:=c 1 dc_;obtain ⟨px,rfl,j⟩:=mZ g;obtain ⟨py,rfl,k⟩:=mZ i;obtain ⟨K,a2⟩:=xI Tryz.underlying137 uZ h2;obtain ⟨L,l⟩:=a2 0 dc_;obtain ⟨M,m⟩:=a2 1 dc_;obtain ⟨u0,rfl,o⟩:=vJ l;obtain ⟨u1,rfl,p⟩:=vJ m;obtain ⟨d,rfl,q⟩:=vJ h3;obtain ⟨N,b⟩:=xI Tryz.underlying138 oq h4;obtain ⟨O,r⟩:=b 0 dc_;obtain ⟨P,t⟩:=b 1 dc_;obtain ⟨Q,u⟩:=b 2 dc_;obtain ⟨n0,rfl,v⟩:=mZ r;obtain ⟨n1,rfl,w⟩:=mZ t;obtain ⟨n2,rfl,x⟩:=mZ u;exact ⟨⟨⟨kd,px,py,u0,u1,d,n0,n1,n2⟩,⟨f,j,k,o,p,q,v,w,x⟩⟩,Z⟩
theorem Fk {b:Nat}{v:Value}{x:DataW H × List MemPlace}(h:DataW.trod enc Tryz.prog W 0 spare held b 29 [v]=some x):∃ l:List Sgt,Sl (rt W) 9 v (l.map Ou)/\∀ s∈l,SgtR s:=by
 obtain ⟨l,a⟩:=Fj (fun s:{s:Sgt // SgtR s}=>Ou s.1) Tryz.underlying29 kr_ dc_ (fun n cs y a hy=>I8 a hy) h;refine ⟨l.map (·.1),by rw [RG];exact a,fun s hs=>?_⟩;obtain ⟨z,_,rfl⟩:=QX.1 hs;exact z.2
theorem Na {n:Nat}{a:List Value}{y:DataW H × List MemPlace}(h:DataW.trod enc Tryz.prog W 0 spare held n 31 a=some y):∃ S G l,CE (rt W) (.agg ⟨a⟩) S G l/\PlanR S G l:=by
 obtain ⟨y0,y1,y2,o,_,d,h0,h1,h2⟩:=Go.Deep.trod_struct3 Tryz.underlying31 h;have g:Tryz.prog.cellsOf 31=12:=by kernel_rfl
 have h4:Tryz.prog.cellsOf 25=4:=by kernel_rfl
 have i:Tryz.prog.cellsOf 28=7:=by kernel_rfl
 have hs:Tryz.prog.cellsOf 29=1:=by kernel_rfl
 rw [g] at d
 match a,d with
 | [c0,p,c2,q,r,s,t,u,v,w,x,z],_ =>
  simp only [h4,i,hs] at h0 h1 h2;obtain ⟨S,e,j⟩:=Jd h0;obtain ⟨G,f,k⟩:=DP h1;obtain ⟨l,b,m⟩:=Fk h2;obtain ⟨A,c,rfl,_⟩:=id b;simp only [S9,Ul] at e;obtain ⟨rfl,rfl,rfl,rfl⟩:=e;simp only [PC,S9,Ul] at f;obtain ⟨rfl,rfl,rfl,rfl,rfl,rfl,rfl⟩:=f;simp only [al] at b ⊢;exact ⟨S,G,l,⟨A,c,Z,b⟩,j,k,m⟩
end
def lS (cs:Array Value):Obj->Obj
 | .cells _ t frozen=>.cells cs t frozen
 | o=>o
def HG:Array Value:=(Lib.deBruijn32tab.map fun z:Nat=>Value.int .u8 (z:Int)).toArray
def HF:Array Value:=(Lib.deBruijn64tab.map fun z:Nat=>Value.int .u8 (z:Int)).toArray
def Dr:Array Value:=(Lib.pow10Tab.map fun z=>Value.int .u64 z).toArray
def FM:ByteArray:=⟨#[118,97,108,117,101,32,111,117,116,32,111,102,32,114,97,110,103,101]⟩
def CT:ByteArray:=⟨#[105,110,118,97,108,105,100,32,115,121,110,116,97,120]⟩
noncomputable def low:Nat:=(World.holding Tryz.prog default ⟨#[],#[],[]⟩).heap.size
noncomputable def pX (os:Os):World :=
 let w0:=World.holding Tryz.prog os ⟨#[.cells #[.string FM] 412,.cells #[.string CT] 412],#[],[]⟩
 { w0 with heap:=((((w0.heap.modify 0 (lS HG)).modify 1 (lS HF)).modify 3 (lS Dr)).modify 5 (lS #[.iface 410 (.pointer (some ⟨low,0,none⟩))])).modify 4 (lS #[.iface 410 (.pointer (some ⟨low+1,0,none⟩))]) }
theorem MD {W : World} (h : laidMet Tryz.prog [("math/bits.deBruijn32tab", Rows.laid_math_bits_deBruijn32tab), ("math/bits.deBruijn64tab", Rows.laid_math_bits_deBruijn64tab), ("internal/strconv.uint64pow10", Rows.laid_internal_strconv_uint64pow10), ("strconv.ErrRange", Rows.laid_strconv_ErrRange), ("strconv.ErrSyntax", Rows.laid_strconv_ErrSyntax)] W) : Tabs (rt W) := by
 have h1:=h.tail;have h2:=h1.tail;have b:(Rows.laid_math_bits_deBruijn64tab:DataW Unit)=Lib.tabData .u8 (Lib.deBruijn64tab.map fun z:Nat=>(z:Int)):=by rfl
 rw [b] at h1;have a:=Lib.tabIs_of_head (g:=1) (t:=265) (e:=5) (n:=64) kr_ kr_ Tryz.underlying265 Tryz.underlying5 kr_ kr_ h1;have c:(Rows.laid_internal_strconv_uint64pow10:DataW Unit)=Lib.tabData .u64 Lib.pow10Tab:=by rfl
 rw [c] at h2;have d:=Lib.tabIs_of_head (g:=3) (t:=386) (e:=160) (n:=20) kr_ kr_ Tryz.underlying386 Tryz.underlying160 kr_ kr_ h2;refine ⟨VarC.ofWorld d, ?_⟩;unfold Lib.TabIs at a;rw [RG] at a;exact VarC.ofWorld a
theorem BK:laidOutB Tryz.prog=true:=by kernel_rfl
end Go.Proofs.YthnpijdjlddpmaaGreatDoor
namespace Go.Jog
open Go
theorem Wf {F:Fx}{k:List KI}{b:Fr}{C:Mem}{L:List Ent}{e:Exit}{v:Value}{t d a:Nat}{f:List Value}(i:Ent.arr v t d a f∈L)(h:∀ A c,v=.slice A a c->(0<a->∃ g,A=some ⟨g,0,none⟩)->G F k e b C L):G F k e b C L :=
 G.form i fun j _=>by
  rcases j with ⟨h1,h2⟩ | ⟨g,c,h1,_,_⟩
  ·exact h none 0 (by rw [h1,h2]) om_
  exact h _ c h1 (fun _=>⟨g,Z⟩)
end Go.Jog
namespace Go.Proofs.YthnpijdjlddpmaaGreatDoor
open Go.Proofs.Tryz
open Go Go.Jog
set_option maxRecDepth 100000
variable {a b:Int}{bf fs:List Rat}{h:Bool}{i j:Nat}{k:Rat}{k0 k1 k2:Int}{ls:List (Rat × Value)}{m n:Nat}{p:Rat × Value}{pts:List Pt}{q:Rat}{rows:List (List Str × Str)}{s:Nat}{t:Tri}{vs:List Value}{w x0 x1 x2 x3 y0 y1 y2 y3 z:Int}{α:Type}{l:List α}
/-! Small parts: numbers of quarters and of halves. -/
theorem Ba (a:w≠0)(h:q*w=z):q=kS z w:=by
 have c:(w:Rat)≠0:=by simpa using a
 unfold kS;rw [Rat.mkRat_eq_div];have b:q=z / w:=by grind
 rw [b];split
 ·rename_i d;have:((w.natAbs:Nat):Int)=-w:=by omega
  rw [show ((w.natAbs:Nat):Rat)=(((w.natAbs:Nat):Int):Rat) from rfl,this];simp only [Rat.intCast_neg];grind
 have:((w.natAbs:Nat):Int)=w:=by omega
 rw [show ((w.natAbs:Nat):Rat)=(((w.natAbs:Nat):Int):Rat) from rfl,this]
theorem ol (a:w≠0):kS z w*w=z:=by
 have b:(w:Rat)≠0:=by simpa using a
 have h:=Ba (q:=(z:Rat) / w) (z:=z) a (by grind);rw [<- h];grind
theorem pn (a:w≠0)(h:q*w=z)(b:z.natAbs<1000000000)(c:w.natAbs<1000000000):QB 1 q:=by
 rw [Ba a h];exact qA a b c
def iA (x0 y0 x1 y1 x2 y2:Int):Int:=(x1-x0)*(y2-y0)-(y1-y0)*(x2-x0)
def At4 (p:Pt)(x y:Int):Prop:=p.1*4=x/\p.2*4=y
def Qtr (p:Pt):Prop:=∃ x y:Int,At4 p x y/\(-600<=x/\x<=600)/\(-600<=y/\y<=600)
def Hlf (z:Rat):Prop:=∃ k:Int,z*2=k/\(-38<=k/\k<=38)
theorem mA {a b c:Pt}(d:At4 a x0 y0)(e:At4 b x1 y1)(f:At4 c x2 y2):dG a b c*16=(iA x0 y0 x1 y1 x2 y2:Int):=by
 unfold iA dG;simp only [Tq,RS];rw [<- d.1,<- d.2,<- e.1,<- e.2,<- f.1,<- f.2];grind
theorem jf {M K:Nat}(c:a.natAbs<=M)(d:b.natAbs<=K):(a*b).natAbs<=M*K:=by
 rw [SB];exact SA c d
theorem yJ (h:(-600<=x0/\x0<=600)/\(-600<=y0/\y0<=600)/\(-600<=x1/\x1<=600)/\(-600<=y1/\y1<=600)/\(-600<=x2/\x2<=600)/\(-600<=y2/\y2<=600)):(iA x0 y0 x1 y1 x2 y2).natAbs<=2880000:=by
 have h1:=jf (a:=x1-x0) (b:=y2-y0) (M:=1200) (K:=1200) om_ om_;have h2:=jf (a:=y1-y0) (b:=x2-x0) (M:=1200) (K:=1200) om_ om_;unfold iA;omega
theorem wq {n d:Rat}{N W:Int}(b:n*16=N)(c:d*16=W)(a:d≠0):W≠0/\n / d*W=N:=by
 constructor
 ·intro h;subst h;exact a (by grind)
 grind
theorem OF {p:Pt}(a:∀ j,Qtr (cor pts t j))(b:dG (cor pts t 0) (cor pts t 1) (cor pts t 2)≠0)(c:Qtr p)(j:Nat):QB 1 (wgt pts t p j):=by
 obtain ⟨x0,y0,h0,d,e⟩:=a 0;obtain ⟨x1,y1,h1,f,g⟩:=a 1;obtain ⟨x2,y2,h2,h,i⟩:=a 2;obtain ⟨x3,y3,h3,k,l⟩:=a ((j+1) % 3);obtain ⟨m,n,h4,o,q⟩:=a ((j+2) % 3);obtain ⟨r,s,h5,u,v⟩:=c;obtain ⟨w,x⟩:=wq (mA h5 h3 h4) (mA h0 h1 h2) b;have k1:=yJ (x0:=r) (y0:=s) (x1:=x3) (y1:=y3) (x2:=m) (y2:=n) ⟨u,v,k,l,o,q⟩;have k2:=yJ (x0:=x0) (y0:=y0) (x1:=x1) (y1:=y1) (x2:=x2) (y2:=y2) ⟨d,e,f,g,h,i⟩;exact pn w x om_ om_
theorem iU {a b c:Pt}{e f g:Rat}(i:At4 a x0 y0)(j:At4 b x1 y1)(k:At4 c x2 y2)(n:e*2=k0)(o:f*2=k1)(p:g*2=k2)(l:dG a b c≠0) :
  iA x0 y0 x1 y1 x2 y2≠0/\(oT a b c e f g).1*(iA x0 y0 x1 y1 x2 y2:Int)=((2*((k1-k0)*(y2-y0)-(y1-y0)*(k2-k0)):Int):Rat)/\(oT a b c e f g).2*(iA x0 y0 x1 y1 x2 y2:Int)=((2*((x1-x0)*(k2-k0)-(k1-k0)*(x2-x0)):Int):Rat):=by
 have m:=mA i j k;have q:eF (b.1-a.1) (b.2-a.2) (c.1-a.1) (c.2-a.2)=dG a b c:=by unfold eF dG;grind
 refine ⟨fun h=>l (by rw [h] at m;grind), ?_, ?_⟩
 ·unfold oT;simp only;rw [q,<- m];unfold eF;simp only [Tq,RS];rw [<- i.2,<- j.2,<- k.2,<- n,<- o,<- p];generalize dG a b c=d at l;grind
 unfold oT;simp only;rw [q,<- m];unfold eF;simp only [Tq,RS];rw [<- i.1,<- j.1,<- k.1,<- n,<- o,<- p];generalize dG a b c=d at l;grind
theorem jT {c d:Int}(h:a.natAbs<=76/\b.natAbs<=1200/\c.natAbs<=1200/\d.natAbs<=76):(a*b-c*d).natAbs<=182400:=by
 have h1:=jf h.1 h.2.1;have h2:=jf h.2.2.1 h.2.2.2;omega
theorem I5 (e:∀ j,Qtr (cor pts t j))(h:dG (cor pts t 0) (cor pts t 1) (cor pts t 2)≠0)(f:∀ j,Hlf (fz fs t j)):QP 1 (dP pts fs t):=by
 obtain ⟨x0,y0,h0,i,k⟩:=e 0;obtain ⟨x1,y1,h1,l,m⟩:=e 1;obtain ⟨x2,y2,h2,n,o⟩:=e 2;obtain ⟨k0,p,v⟩:=f 0;obtain ⟨k1,q,w⟩:=f 1;obtain ⟨k2,r,x⟩:=f 2;obtain ⟨g,s,u⟩:=iU h0 h1 h2 p q r h;have y:=yJ (x0:=x0) (y0:=y0) (x1:=x1) (y1:=y1) (x2:=x2) (y2:=y2) ⟨i,k,l,m,n,o⟩;have z:=jT (a:=k1-k0) (b:=y2-y0) (c:=y1-y0) (d:=k2-k0) ⟨by omega,by omega,by omega,by omega⟩;have A:=jT (a:=k1-k0) (b:=x2-x0) (c:=x1-x0) (d:=k2-k0) ⟨by omega,by omega,by omega,by omega⟩;unfold dP;exact ⟨pn g s om_ om_,pn g u om_ om_⟩
theorem LS {p:Pt}(c:At4 (cor pts t 0) x0 y0)(h:At4 (cor pts t 1) x1 y1)(i:At4 (cor pts t 2) x2 y2)(e:At4 p x3 y3)(d:fz fs t 0*2=k0)(j:fz fs t 1*2=k1)(k:fz fs t 2*2=k2)
  (l:dG (cor pts t 0) (cor pts t 1) (cor pts t 2)≠0):onQ pts fs t p*((2*iA x0 y0 x1 y1 x2 y2:Int):Rat)=((k0*iA x0 y0 x1 y1 x2 y2+((k1-k0)*(y2-y0)-(y1-y0)*(k2-k0))*(x3-x0)+((x1-x0)*(k2-k0)-(k1-k0)*(x2-x0))*(y3-y0):Int):Rat):=by
 obtain ⟨s,f,g⟩:=iU c h i d j k l;unfold onQ Ir;simp only [Sn,List.foldl_nil];have a:=f;have b:=g;unfold dP;generalize (oT (cor pts t 0) (cor pts t 1) (cor pts t 2) (fz fs t 0) (fz fs t 1) (fz fs t 2)).1=u at a ⊢;generalize (oT (cor pts t 0) (cor pts t 1) (cor pts t 2) (fz fs t 0) (fz fs t 1) (fz fs t 2)).2=v at b ⊢;clear f g;generalize ((k1-k0)*(y2-y0)-(y1-y0)*(k2-k0))=n1 at a ⊢;generalize ((x1-x0)*(k2-k0)-(k1-k0)*(x2-x0))=n2 at b ⊢;generalize iA x0 y0 x1 y1 x2 y2=w at a b ⊢;simp only [Tq,RS,Rat.intCast_add] at a b ⊢;have m:=c.1;have n:=c.2;have o:=e.1;have q:=e.2;generalize fz fs t 0=x at d ⊢;rw [<- m,<- n,<- o,<- q,<- d];have r:((2:Int):Rat)=2:=rfl;rw [r] at a b ⊢;grind
theorem Pm (b:(-600<=x0/\x0<=600)/\(-600<=y0/\y0<=600)/\(-600<=x1/\x1<=600)/\(-600<=y1/\y1<=600)/\(-600<=x2/\x2<=600)/\(-600<=y2/\y2<=600))(g:(-600<=x3/\x3<=600)/\(-600<=y3/\y3<=600))(h:(-38<=k0/\k0<=38)/\(-38<=k1/\k1<=38)/\(-38<=k2/\k2<=38)) :
  (k0*iA x0 y0 x1 y1 x2 y2+((k1-k0)*(y2-y0)-(y1-y0)*(k2-k0))*(x3-x0)+((x1-x0)*(k2-k0)-(k1-k0)*(x2-x0))*(y3-y0)).natAbs<=600000000:=by
 have e:=yJ b;have f:=jT (a:=k1-k0) (b:=y2-y0) (c:=y1-y0) (d:=k2-k0) ⟨by omega,by omega,by omega,by omega⟩;have i:=jT (a:=k1-k0) (b:=x2-x0) (c:=x1-x0) (d:=k2-k0) ⟨by omega,by omega,by omega,by omega⟩;have j:=jf (show k0.natAbs<=38 by omega) e;have k:=jf f (show (x3-x0).natAbs<=1200 by omega);have l:=jf (show ((x1-x0)*(k2-k0)-(k1-k0)*(x2-x0)).natAbs<=182400 by omega) (show (y3-y0).natAbs<=1200 by omega);omega
theorem Qr {p:Pt}(a:∀ j,Qtr (cor pts t j))(c:dG (cor pts t 0) (cor pts t 1) (cor pts t 2)≠0)(b:∀ j,Hlf (fz fs t j))(n:Qtr p):QB 1 (onQ pts fs t p):=by
 obtain ⟨x0,y0,h0,d,e⟩:=a 0;obtain ⟨x1,y1,h1,f,g⟩:=a 1;obtain ⟨x2,y2,h2,h,i⟩:=a 2;obtain ⟨x3,y3,h3,o⟩:=n;obtain ⟨k0,k,q⟩:=b 0;obtain ⟨k1,l,r⟩:=b 1;obtain ⟨k2,m,s⟩:=b 2;have u:=(iU h0 h1 h2 k l m c).1;have v:=yJ (x0:=x0) (y0:=y0) (x1:=x1) (y1:=y1) (x2:=x2) (y2:=y2) ⟨d,e,f,g,h,i⟩;have w:=Pm ⟨d,e,f,g,h,i⟩ o ⟨q,r,s⟩;exact pn om_ (LS h0 h1 h2 h3 k l m c) om_ om_
theorem BX (a:w=1∨w=2∨w=4)(e:-150<=z/\z<=150):∃ x:Int,kS z w*4=x/\(-600<=x/\x<=600):=by
 have h:=ol (z:=z) (w:=w) om_;have b:((1:Int):Rat)=1:=rfl;have c:((2:Int):Rat)=2:=rfl;have d:((4:Int):Rat)=4:=rfl;rcases a with rfl | rfl | rfl
 ·refine ⟨4*z, ?_,by omega⟩;rw [RS,<- h,b,d];grind
 ·refine ⟨2*z, ?_,by omega⟩;rw [RS,<- h,c];grind
 exact ⟨z,h,by omega⟩
theorem wA {x y n:Int}(c:n=1∨n=2)(l:-128<=x/\x<=127)(m:-128<=y/\y<=127):Qtr (dC a b h x y n):=by
 have o:=yc a;have p:=yc b;have g:dV h=1∨dV h=2:=by cases h <;> simp [dV]
 have d:dV h*n=1∨dV h*n=2∨dV h*n=4:=by rcases g with e | e <;> rcases c with f | f <;> rw [e,f] <;> omega
 obtain ⟨u,i,j⟩:=BX (z:=x+a.tmod 8*n) d (by rcases c with f | f <;> subst f <;> omega);obtain ⟨v,k,bv⟩:=BX (z:=y+b.tmod 8*n) d (by rcases c with f | f <;> subst f <;> omega);exact ⟨u,v,⟨i,k⟩,j,bv⟩
theorem Bf :∀ p∈cE m a b h,Qtr p:=by
 intro p c;obtain ⟨x,d,rfl⟩:=QX.1 c;have:=LC m x d;exact wA (.inl Z) om_ om_
theorem zQ:Qtr (0,0):=⟨0,0,⟨by decide +kernel,by decide +kernel⟩,by decide,by decide⟩
theorem oh {P:α->Prop}{d:α}(h:∀ x∈l,P x)(a:P d):P (l.getD i d):=by
 rw [au];cases h1:l[i]? with
 | none=>exact a
 | some x=>exact h x (QQ h1)
theorem uQ (j:Nat):Qtr (cor (cE m a b h) t j):=oh Bf zQ
theorem NQ (n:Nat)(H:Hts):∀ q∈fsK n H,Hlf q:=by
 intro q a;obtain ⟨i,_,rfl⟩:=QX.1 a;have b:=E0 ((Iw H).getD (i % 6) 0);generalize ((Iw H).getD (i % 6) 0).tmod 20=z at b ⊢;have c:((1:Int):Rat)=1:=rfl;have d:((2:Int):Rat)=2:=rfl;rcases uB H.half with e | e
 ·have h:=ol (z:=z) (w:=1) dc_;rw [e];refine ⟨2*z, ?_,by omega⟩;rw [RS,<- h,c,d];grind
 rw [e];exact ⟨z,ol dc_,by omega⟩
theorem tD:Hlf 0:=⟨0,by decide +kernel,by decide⟩
theorem Np:Hlf 1:=⟨2,by decide +kernel,by decide⟩
theorem Ma {H:Hts}(j:Nat):Hlf (fz (fsK n H) t j):=oh (NQ n H) tD
theorem Ae {k:Nat}(j:Nat):Hlf (fz (nJ n k) t j):=oh (fun q a=>by
 rcases Ah q a with rfl | rfl
 ·exact tD
 exact Np) tD
theorem Bh (S:Sht)(s:Sgt)(a:SgtR s):Qtr (lF S s):=by
 unfold lF;split
 ·exact wA (.inr Z) a.px a.py
 exact oh Bf zQ
theorem tQ {P:Rat->Prop}{m:List (Nat × Rat)}(a:P 0)(h:∀ x∈m,P x.2):∀ q∈rR n m,P q:=by
 intro q b;obtain ⟨j,_,rfl⟩:=QX.1 b;cases h1:dq m j with
 | none=>exact a
 | some v =>
  exact h _ (ga h1)
theorem pi {p k:Nat}{a:List (Nat × Rat)}{b c:Rat}(e:∀ x∈a,QB 1 x.2)(f:QB 3 b)(d:QB 1 c):Ox (iG s p k a b c):=by
 refine ⟨tQ (QB_zero.le dc_) ?_,(jr d f).le dc_⟩;intro x g;obtain ⟨y,hy,rfl⟩:=QX.1 g;exact (jr d (e y hy)).le dc_
theorem Jm {B:Bk}{o:Obs}{p:Pt}{z:Rat}(c:∀ j,QB 1 (wgt B.pts t p j))(a:∀ j,QP 1 (slf B.pts t j))(d:QB 3 (kA o z))(f:o.kind≠1->o.kind≠2->QB 3 (qw o)/\QB 3 (je o)):∀ r∈rowsO B o p t z,Ox r:=by
 have e:∀ x∈atT t (wgt B.pts t p),QB 1 x.2:=gn (c 0) (c 1) (c 2);have g:∀ x∈atT t (fun j=>(slf B.pts t j).1),QB 1 x.2:=gn (a 0).1 (a 1).1 (a 2).1;have i:∀ x∈atT t (fun j=>(slf B.pts t j).2),QB 1 x.2:=gn (a 0).2 (a 1).2 (a 2).2;intro r hr;unfold rowsO at hr;split at hr
 ·rcases Q6.1 hr with h | h
  ·split at h
   ·rw [Rc.1 h];exact pi e d QB_one
   simp at h
  split at h
  ·rw [Rc.1 h];exact pi e d mV
  simp at h
 rename_i h1;split at hr
 ·obtain ⟨k,_,h⟩:=List.mem_flatMap.1 hr;obtain ⟨sg,b,rfl⟩:=QX.1 h;exact pi e d (rL sg b)
 rename_i h2;obtain ⟨l,m⟩:=f h1 h2;obtain ⟨k,_,h⟩:=List.mem_flatMap.1 hr;rcases Q6.1 h with h | h
 ·obtain ⟨sg,b,rfl⟩:=QX.1 h;exact pi g l (rL sg b)
 obtain ⟨sg,b,rfl⟩:=QX.1 h;exact pi i m (rL sg b)
def tiK (S:Sht)(s:Sgt):Nat:=(lO (cE (S.kd % 8) S.a S.b S.h) (shT (S.kd % 8)) (lF S s)).headD 0
def tK (S:Sht)(s:Sgt):Tri:=(shT (S.kd % 8)).getD (tiK S s) (0,0,0)
def zK (S:Sht)(H:Hts)(s:Sgt):Rat:=onQ (cE (S.kd % 8) S.a S.b S.h) (fsK (cE (S.kd % 8) S.a S.b S.h).length H) (tK S s) (lF S s)
noncomputable def roK (S:Sht)(H:Hts)(l:List Sgt)(i:Nat):List RowQ:=rowsO (cC S H l) (fL S (l.getD i DD) i) (lF S (l.getD i DD)) (tK S (l.getD i DD)) (zK S H (l.getD i DD))
theorem Ns (S:Sht)(s:Sgt)(i:Nat)(b:SgtR s):ObsAt (fL S s i) (lF S s):=by
 have a:=(uc S s b).1;refine ⟨?_, ?_,(FQ a).1,(FQ a).2, ?_⟩
 ·unfold fL;split
  ·rfl
  split <;> rfl
 ·unfold fL;split
  ·rfl
  split <;> rfl
 unfold fL;split
 ·intro h;exact absurd (show (1:Int)=2 from h) dc_
 split
 ·intro _;exact ok1 (sM s.depth)
 intro h;exact absurd (show (3:Int)=2 from h) dc_
theorem Nr (S:Sht)(s:Sgt)(i:Nat):0<=kf (isU (fL S s i).upper) colK 0:=by
 have c:=ND s;have d:=Mv s;have a:=pY (s.u1 % 3) om_;have b:=pY (max (loU s) (upU s)) om_;unfold fL;split
 ·simp only;rw [a];omega
 split <;> (simp only;rw [b];omega)
theorem Gp (S:Sht)(s:Sgt)(i:Nat):(fL S s i).kind≠1->(fL S s i).kind≠2->(bg (fL S s i).nx=true/\bg (fL S s i).ny=true/\bg (fL S s i).nz=true)/\QB 1 (dz (fL S s i).nx)/\QB 1 (dz (fL S s i).ny)/\QB 1 (dz (fL S s i).nz)/\dz (fL S s i).nz≠0:=by
 have h0:=nK s.n0;have h1:=nK s.n1;have h2:=oc s.n2;have a:=ec (s.n0.tmod 5) om_;have l1:=ec (s.n1.tmod 5) om_;have l2:=ec (fj s.n2) om_;have b:=uw s.n2;unfold fL;split
 ·intro h;exact absurd rfl h
 split
 ·intro _ h;exact absurd rfl h
 intro _ _;simp only;rw [di (ok1 a),di (ok1 l1),di (ok1 l2)];exact ⟨⟨ok1 a,ok1 l1,ok1 l2⟩,a,l1,l2,by simpa using b⟩
theorem Bx (S:Sht)(s:Sgt)(i:Nat):(fL S s i).kind=2->(fL S s i).depth=qtx (kS ((s.depth % 12:Nat):Int) 2):=by
 unfold fL;split
 ·intro h;exact absurd (show (1:Int)=2 from h) dc_
 split
 ·intro _;rfl
 intro h;exact absurd (show (3:Int)=2 from h) dc_
theorem JT (S:Sht)(s:Sgt)(i:Nat){z:Rat}(a:QB 1 z):QB 3 (kA (fL S s i) z):=by
 unfold kA;split
 ·rename_i h;rw [Bx S s i h,di (ok1 (sM s.depth))];have h:=fk a (sM s.depth);exact h.le dc_
 exact a.le dc_
theorem Gq (S:Sht)(s:Sgt)(i:Nat)(b:(fL S s i).kind≠1)(c:(fL S s i).kind≠2):QB 3 (qw (fL S s i))/\QB 3 (je (fL S s i)):=by
 obtain ⟨_,d,l1,l2,a⟩:=Gp S s i b c;exact ⟨(js (fe d) l2 a).le dc_,(js (fe l1) l2 a).le dc_⟩
theorem locK (S:Sht)(s:Sgt)(c:SgtR s):(∃ r,lO (cE (S.kd % 8) S.a S.b S.h) (shT (S.kd % 8)) (lF S s)=tiK S s::r)/\(shT (S.kd % 8))[tiK S s]?=some (tK S s):=by
 have d:=(uc S s c).2;unfold tK tiK;cases h:lO (cE (S.kd % 8) S.a S.b S.h) (shT (S.kd % 8)) (lF S s) with
 | nil=>exact absurd h d
 | cons i r =>
  have hm:i∈lO (cE (S.kd % 8) S.a S.b S.h) (shT (S.kd % 8)) (lF S s):=by rw [h];exact Qb
  unfold lO at hm;have e:=Q9.1 (SV.1 hm).1;refine ⟨⟨r,Z⟩, ?_⟩;simp only [List.headD_cons];rw [au,aj e];rfl
theorem Qz (S:Sht)(H:Hts)(l:List Sgt)(s:Sgt)(i:Nat)(c:SgtR s) :
  Fine (cC S H l) (fsK (cE (S.kd % 8) S.a S.b S.h).length H) (fL S s i) (lF S s) (tiK S s) (tK S s) (zK S H s):=by
 obtain ⟨o,_⟩:=fB (S.kd % 8) (Ry _ dc_) S.a S.b S.h;obtain ⟨⟨r,hr⟩,f⟩:=locK S s c;have d:=jM o.ok (QQ f);have g:=Bh S s c;have k:∀ j,QB 1 (wgt (cE (S.kd % 8) S.a S.b S.h) (tK S s) (lF S s) j):=OF (fun j=>uQ j) d g;have m:∀ j,QP 1 (slf (cE (S.kd % 8) S.a S.b S.h) (tK S s) j):=fun j=>I5 (fun j=>uQ j) d (fun j=>Ae j);have e:QB 1 (zK S H s):=Qr (fun j=>uQ j) d (fun j=>Ma j) g;have n:=JT S s i e;refine ⟨Ns S s i c,⟨r,hr⟩,f, ?_,e.le dc_,n.le dc_,fun j=>(k j).le dc_,Nr S s i,fun j=>(m j).le dc_, ?_, ?_⟩
 ·show EQ (cE (S.kd % 8) S.a S.b S.h) (shT (S.kd % 8)) _ _=_;unfold EQ;rw [hr];show DC (zK S H s)=_;unfold DC;rw [aW (ok1 e)]
 ·intro h1 h2;obtain ⟨h0,p,l1,l2,q⟩:=Gp S s i h1 h2;exact ⟨h0,p.le dc_,l1.le dc_,l2.le dc_,q⟩
 exact Jm k m n (Gq S s i)
theorem Ej (S:Sht)(H:Hts)(l:List Sgt)(c:∀ s∈l,SgtR s):Rich (cC S H l) (fsK (cE (S.kd % 8) S.a S.b S.h).length H) (roK S H l):=by
 refine ⟨(fB (S.kd % 8) (Ry _ dc_) S.a S.b S.h).1,H4 S H l c,sZ S H l c,⟨Z,uE _ _,fun q e=>(Hj _ H q e).le dc_⟩, ?_, ?_⟩
 ·have:=(K3 S H l).2;rw [K2];omega
 intro i o f;obtain ⟨g,s,d,rfl⟩:=mr f;refine ⟨_,_,_,_,Qz S H l s i (c s (QQ d)), ?_⟩;unfold roK;rw [au,d];rfl
theorem Du (x y:Nat)(a:x<18446744073709551616)(b:y<18446744073709551616)(C:Mem):Gives cx.P 125 [.int .u64 x,.int .u64 y] C (.tuple #[.int .u64 ((x*y / 18446744073709551616:Nat):Int),.int .u64 ((x*y % 18446744073709551616:Nat):Int)]) :=
 Gives.ofCalls kr_ (fun w=>Any.bits_Mul Tryz.mul x y a b w) C
theorem FY {a:Value}{k:Nat}{b:List Value}(_d:k+m<=n)(c:m<=k)(_e:b.length=n-k) :
  aE (List.replicate k a++b) ((List.replicate k a++b).take m) k=List.replicate (k+m) a++b.drop m:=by
 have h1:(List.replicate k a++b).take m=List.replicate m a:=by
  rw [List.take_append_of_le_length (by simpa using c),List.take_replicate,Sa c]
 have h2:(List.replicate k a++b).take k=List.replicate k a:=by
  rw [List.take_append_of_le_length am,List.take_replicate,Nat.min_self]
 have h3:(List.replicate k a++b).drop (k+m)=b.drop m:=by
  rw [TJ,Sj,Sf am,SI];congr 1;omega
 unfold aE;rw [h1,h2,Sj,h3,List.replicate_append_replicate]
theorem FR (a:Value)(n:Nat):kl [a] n=List.replicate n a:=by
 rw [ek];induction n with
 | zero=>rfl
 | succ n b=>rw [Se,So,b,Se];rfl
theorem JG (n:Nat)(a:n<18446744073709551616)(C:Mem):Gives cx.P 125 [.int .u64 (1:Int),.int .u64 n] C (.tuple #[.int .u64 0,.int .u64 n]):=by
 have h:=Du 1 n om_ a C;have b:1*n / 18446744073709551616=0:=by omega
 have c:1*n % 18446744073709551616=n:=by omega
 rw [b,c] at h;exact h
theorem Dq (C:Mem)(v:Value)(n:Nat)(s:Str)(g:Sl C 1 v [[ai s]])(y:n<=1000000):Jog.Fn cx.P 83 [v,.int .i64 n] C [] fun u _z e=>∃ b,u=.slice (some ⟨b,0,none⟩) n n/\e=[.arr u 56 1 n (List.replicate n (ai s))]:=by
 have p:=g;obtain ⟨A,c,rfl,_⟩:=p;refine UD func83 48 U3 fun w0=>?_;refine Uu 1 [0,1] Z ?_;refine Uu 2 [0,1,10] Z ?_;refine Ux (fun h=>?_) fun h=>?_
 ·simp at h;omega
 refine Uv 2 Z fun R d=>?_;refine Vi (c:=1) U8 Z fl_ ?_;refine Uy U6 ?_;refine Vi (c:=(n:Int)) U8 (by rw [IntKind.wrap_u64];omega) fl_ ?_;refine UM (JG n om_ _) U7 fl_ ?_;refine C4 5 [0,5,6] d Z ?_;refine Uv 5 Z fun R d=>?_;refine U1 U8 ?_;refine UA [0,6,26] d Z ?_;refine Ux (fun i=>?_) fun i=>?_
 ·simp at i;omega
 refine Uv 1 Z fun R d=>?_;refine Vi (c:=(n:Int)) U8 (by rw [IntKind.wrap_i64];omega) fl_ ?_;refine Vy U9 (QO _) (by show 16*n<=281474976710656;omega) (by simp only [maxLen];omega) fl_ (fun a=>?_);refine C4 1 [0,7] d Z ?_;refine Uv 2 Z fun R d=>?_;refine Wa (j:=0) (q:=min 1 n) U12 g U2 (by rw [cV];show 0+min 1 n*1<=n*1;omega) fl_ ?_;refine C4 1 [7,8] d Z ?_;have r:aE (kl [ai []] n) (([[ai s]]:List (List Value)).take (min 1 n)).flatten 0=List.replicate (min 1 n) (ai s)++List.replicate (n-min 1 n) (ai []):=by
  rw [FR];cases n with
  | zero=>rfl
  | succ n=>rw [show min 1 (n+1)=1 by omega,Se];rfl
 refine UN (L':=[.arr (.slice (some ⟨a,0,none⟩) n n) 56 1 n (List.replicate (min 1 n) (ai s)++List.replicate (n-min 1 n) (ai []))]) (by rw [<- r];rfl) ?_;refine G.loop (fun fr C' e t=>∃ (k:Nat),(k<=n/\min 1 n<=k)/\fr=[(7,[],.slice (some ⟨a,0,none⟩) n n),(8,[],.int .i64 k)]/\e=[.arr (.slice (some ⟨a,0,none⟩) n n) 56 1 n (List.replicate k (ai s)++List.replicate (n-k) (ai []))]/\t=n-k) (hn_ [7,8] Z) ⟨min 1 n,⟨Nat.min_le_right _ _,QO _⟩,Z,Z,Z⟩ (fun fr B D m w x=>?_);obtain ⟨k,⟨l,E⟩,rfl,rfl,rfl⟩:=x;refine Uu 4 [7,8,37] Z ?_;refine Ux (fun f=>?_) fun f=>?_
 ·simp only [QZ] at f;have o:k<n:=by omega
  have F:1<=k:=by omega
  refine US [0,1,2,3,4,5,6,7,8,9] [] Z kr_ (fun R H d=>?_);refine UB 3 Z ?_;refine Vq k n n U12 (fun _=>⟨.inr ⟨_,Z⟩,.inl ⟨Z,Z⟩,.inl ⟨Z,Z⟩,l,QO _,QO _⟩) U2 ?_;refine UB 2 Z ?_;refine Vq 0 k n U12 (fun _=>⟨.inl ⟨Z,Z⟩,.inr ⟨_,Z⟩,.inl ⟨Z,Z⟩,QT _,l,QO _⟩) U2 ?_;refine V9 (j:=0) (off:=k) (g0:=a) (dl:=n-k) (dc:=n-k) (sl:=k-0) (sc:=n-0) (q:=min k (n-k)) U8 (by show some (Value.slice (if n=k then some (⟨a,0,none⟩:Addr) else (some (⟨a,0,none⟩:Addr)).map (·.add (k*1))) (n-k) (n-k))=_;rw [az om_];simp [Addr.add_lit]) (by show some (Value.slice (if n=0 then some (⟨a,0,none⟩:Addr) else (some (⟨a,0,none⟩:Addr)).map (·.add (0*1))) (k-0) (n-0))=_;split <;> simp [Addr.add_lit]) U2 (by simp [lH,ai]) ap fl_ ?_;refine Vf (((k+min k (n-k):Nat):Int)) U4 om_ om_ om_ U2 ?_;refine C4 1 [7,8] d Z ?_;refine UN (L':=[.arr (.slice (some ⟨a,0,none⟩) n n) 56 1 n (List.replicate (k+min k (n-k)) (ai s)++List.replicate (n-(k+min k (n-k))) (ai []))]) (by rw [FY (n:=n) om_ (Nat.min_le_left _ _) am,List.drop_replicate,Nat.sub_sub];rfl) ?_;refine UH (m':=n-(k+min k (n-k))) om_ w (hn_ [7,8] Z) ⟨k+min k (n-k),⟨by omega,by omega⟩,Z,Z,Z⟩
 simp only [Ri] at f;have o:k=n:=by omega
 subst o;refine Uu 2 [4] Z ?_;refine UJ (Vj Z Z ?_);exact ⟨a,Z,by simp⟩
theorem iY (C:Mem)(n:Nat)(a:n<=1000000):Jog.Fn cx.P 76 [.int .i64 n] C [] fun u _g c=>∃ b,u=.slice (some ⟨b,0,none⟩) n n/\c=[.arr u 56 1 n (List.replicate n (ai [48]))]:=by
 refine UD func76 6 U3 fun w0=>?_;refine Uu 1 [0] Z ?_;refine UW [(2,3)] Z (fun R d=>?_);refine UR [[ai [48]]] U12 (fun h _ _ e=>?_);refine Uy U6 ?_;refine D.call (Dq _ _ n [48] e.m_ a) Z (.inr dc_) U6 (QW _) fl_ (fun i _ j _ f=>?_);refine C4 1 [2] d Z ?_;obtain ⟨b,rfl,rfl⟩:=f;refine UJ (Vj Z Z ?_);exact ⟨b,Z,Z⟩
theorem gj {f:α->List Value}{x:α}(h:l[i]?=some x):(l.map f)[i]?=some (f x):=by rw [QU,h];rfl
def yV (s:Str):List Value:=[ai s]
def aZ (q:Rat):List Value:=[ai (qtx q)]
theorem BV (l:List Rat):l.map aZ=(l.map qtx).map yV:=by rw [RG];rfl
def Iv {α:Type}(p:α->Bool):List α->Nat->Int
 | [],_=>-1
 | x::l,k=>if p x then (k:Nat) else Iv p l (k+1)
theorem nV {a:Type}{p:a->Bool}:∀ {l:List a}{i k:Nat}{x:a},l[i]?=some x->p x=true->(∀ y∈l.take i,p y=false)->Iv p l k=((k+i:Nat):Int)
 | y::l,0,k,x,h,b,_=>by
  simp only [List.getElem?_cons_zero,Rt] at h;subst h;simp [Iv,b]
 | y::l,i+1,k,x,h,b,c=>by
  simp only [SF] at h;have hy:p y=false:=c y am;have:=nV (k:=k+1) h b (fun z d=>c z (by simp [d]));simp only [Iv,hy,RH,R7,this];omega
theorem lG {a:Type}{p:a->Bool}:∀ {l:List a}{k:Nat},(∀ y∈l,p y=false)->Iv p l k=-1
 | [],_,_=>rfl
 | y::l,k,h=>by
  simp only [Iv,h y Qb,RH,R7];exact lG fun z b=>h z (Q0 _ b)
theorem rX (p:α->Bool)(l:List α):(Iv p l 0=-1/\∀ y∈l,p y=false)∨∃ (i:Nat)(x:α),Iv p l 0=(i:Nat)/\l[i]?=some x/\p x=true/\∀ y∈l.take i,p y=false:=by
 by_cases h:∀ y∈l,p y=false
 ·exact .inl ⟨lG h,h⟩
 right;have d:∀ (l:List α),(¬ ∀ y∈l,p y=false)->∃ (i:Nat)(x:α),l[i]?=some x/\p x=true/\∀ y∈l.take i,p y=false:=by
  intro l;induction l with
  | nil=>intro h;exact absurd (fun y hy=>(by cases hy)) h
  | cons a l e =>
   intro h;by_cases b:p a=true
   ·exact ⟨0,a,Z,b,by simp⟩
   have c:p a=false:=by simpa using b
   obtain ⟨i,x,h1,h2,h3⟩:=e (fun h2=>h (fun y hy=>by
    rcases Q3.1 hy with rfl | hy
    ·exact c
    exact h2 y hy))
   refine ⟨i+1,x,by simpa using h1,h2,fun y hy=>?_⟩;rw [List.take_succ_cons] at hy;rcases Q3.1 hy with rfl | hy
   ·exact c
   exact h3 y hy
 obtain ⟨i,x,h1,h2,h3⟩:=d l h;exact ⟨i,x,by rw [nV h1 h2 h3,Sd],h1,h2,h3⟩
theorem F4 (C:Mem)(v:Value)(l:List Str)(g:Nat)(d:List Value)(a:Str->Bool)(e:Sl C 1 v (l.map yV))(_A:Jog.Enters cx.P g=true)
  (n:∀ x∈l,∀ D:Mem,C.le D->Gives cx.P g (ai x::d) D (.bool (a x))) :
  Gives cx.P 93 [v,.func (.func g) #[] ⟨d⟩] C (.int .i64 (Iv a l 0)):=by
 obtain ⟨o,c0,rfl,p,B,_⟩:=id e;have E:maxLen<=9223372036854775807:=by simp [maxLen]
 simp only [al] at e p ⊢;refine UD func93 19 U3 fun w0=>?_;refine Uu 1 [0,1] Z ?_;refine Uu 3 [0,1,7,8] Z ?_;refine G.loop (fun fr C' q r=>∃ (i:Nat),(i<=l.length/\∀ y∈l.take i,a y=false)/\fr=[(0,[],.slice o l.length c0),(1,[],.func (.func g) #[] ⟨d⟩),(7,[],.int .i64 l.length),(8,[],.int .i64 i)]/\q=[]/\r=l.length-i) (hn_ [0,1,7,8] Z) ⟨0,⟨QT _,by simp⟩,Z,Z,Z⟩ (fun fr F H m s t=>?_);obtain ⟨i,⟨I,b⟩,rfl,rfl,rfl⟩:=t;refine Uu 1 [0,1,7,8,9] Z ?_;refine Ux (fun f=>?_) fun f=>?_
 ·have h:i<l.length:=by simpa using f
  obtain ⟨x,c⟩:∃ x,l[i]?=some x:=⟨l[i],aj h⟩;refine Uu 2 [0,1,5,7,8] Z ?_;refine Uv 3 Z fun R j=>?_;refine UK e.m_ U10 om_ (gj c) fl_ (fun J u=>?_);refine Uw u U8 ?_;refine UI (n x (QQ c) _ mup) U7 ?_;refine UA [0,1,5,7,8,16] j Z ?_;refine Ux (fun k=>?_) fun k=>?_
  ·have w:a x=true:=k;refine Uu 2 [4] Z ?_;refine UC U2 ?_;exact ⟨by rw [nV c w b,Sd],Z⟩
  have z:a x=false:=k;refine Uz fun R j=>?_;refine UF _ U7 ?_;refine C4 1 [0,1,7,8] j Z ?_;refine UH (m':=l.length-(i+1)) om_ s (hn_ [0,1,7,8] Z) ⟨i+1,⟨by omega,fun y hy=>by
   rw [Rm,c] at hy;rcases Q6.1 hy with hy | hy
   ·exact b y hy
   simp only [R6,Rc] at hy;subst hy;exact z⟩,Z,Z,Z⟩
 have h:i=l.length:=by
  have:¬ i<l.length:=by simpa using f
  omega
 refine Uu 1 [4] Z ?_;refine UC U2 ?_;exact ⟨by rw [h,Q2] at b;rw [lG b],Z⟩
theorem Ga (C:Mem)(v:Value)(l:List Str)(g:Nat)(b:List Value)(a:Str->Bool)(c:Sl C 1 v (l.map yV))(d:Jog.Enters cx.P g=true)
  (e:∀ x∈l,∀ D:Mem,C.le D->Gives cx.P g (ai x::b) D (.bool (a x))) :
  Gives cx.P 59 [v,.func (.func g) #[] ⟨b⟩] C (.bool (l.any a)):=by
 refine UD func59 9 U3 fun w0=>?_;refine Uu 1 [0,1] Z ?_;refine Uv 2 Z fun R f=>?_;refine UI (F4 _ v l g b a c.m_ d (fun x h D j=>e x h D (Mem.le.trans mup j))) U7 ?_;refine C4 2 [4] f Z ?_;refine UC U2 ?_;refine ⟨?_,Z⟩;congr 1;rcases rX a l with ⟨h1,h2⟩ | ⟨i,x,h1,h2,h3,_⟩
 ·rw [h1,List.any_eq_false.2 (fun y hy=>by rw [h2 y hy];decide)];rfl
 rw [h1,Tg.2 ⟨x,QQ h2,h3⟩];exact Ra om_
theorem pp (C:Mem)(a:Tabs C)(s:Str)(b:s.length<=999998):Gives cx.P 89 [ai s] C (.bool (!bg s)):=by
 refine UD func89 6 U3 fun w0=>?_;refine Uu 1 [0] Z ?_;refine Uv 1 Z fun R c=>?_;refine UI (dX _ a.m_ s b) U7 ?_;refine C4 2 [2] c Z ?_;refine UC U2 ?_;exact ⟨by cases bg s <;> rfl,Z⟩
def jk (n:Int)(l:List Str):Int:=if (l.length:Int)=n then qK (l.all bg) else 5
theorem Bl (C:Mem)(e:Tabs C)(v:Value)(n:Int)(l:List Str)(a:Sl C 1 v (l.map yV))(b:∀ s∈l,s.length<=999998):Gives cx.P 88 [v,.int .i64 n] C (.int .i64 (jk n l)):=by
 obtain ⟨o,c0,rfl,f,p,_⟩:=id a;have q:maxLen<=9223372036854775807:=by simp [maxLen]
 simp only [al] at a f ⊢;refine UD func88 13 U3 fun w0=>?_;refine Uu 1 [0,1] Z ?_;refine Uu 5 [0,5] Z ?_;refine Ux (fun h5=>?_) fun h5=>?_
 ·have g:¬ (l.length:Int)=n:=by simpa using h5
  refine Uu 1 [4] Z ?_;refine UC U2 ?_;exact ⟨by unfold jk;rw [az g],Z⟩
 have d:(l.length:Int)=n:=by simpa using h5
 refine Uv 1 Z fun R h=>?_;refine UI (Ga _ _ l _ [] (fun s=>!bg s) a.m_ Z (fun s i D j=>pp D (e.mono (Mem.le.trans mup j)) s (b s i))) U7 ?_;refine C4 1 [10] h Z ?_;refine Ux (fun c=>?_) fun c=>?_
 ·have k:l.all bg=false:=by
   obtain ⟨s,h1,h2⟩:=Tg.1 (show (l.any fun s=>!bg s)=true from c);exact S3.2 ⟨s,h1,by simpa using h2⟩
  refine Uu 1 [4] Z ?_;refine UC U2 ?_;exact ⟨by unfold jk;rw [aW d,k];rfl,Z⟩
 have m:l.all bg=true:=by
  have h1:=List.any_eq_false.1 (show (l.any fun s=>!bg s)=false from c);exact Q4.2 fun s b=>by simpa using h1 s b
 refine Uu 1 [4] Z ?_;refine UC U2 ?_;exact ⟨by unfold jk;rw [aW d,m];rfl,Z⟩
def RowsT (C:Mem)(v:Value)(rows:List (List Str × Str)):Prop:=∃ vs:List Value,vs.length=rows.length/\(∀ (i:Nat)(w:Value)(r:List Str × Str),vs[i]?=some w->rows[i]?=some r->Sl C 1 w (r.1.map yV))/\Sl C 2 v (List.zipWith (fun w (r:List Str × Str)=>[w,ai r.2]) vs rows)
theorem RowsT.mono {C D:Mem}{v:Value}{a:List (List Str × Str)}(h:RowsT C v a)(b:C.le D):RowsT D v a:=by
 obtain ⟨vs,h1,h2,h3⟩:=h;exact ⟨vs,h1,fun i w r c hr=>(h2 i w r c hr).mono b,h3.mono b⟩
theorem RowsT.m_ {C D:Mem}{v:Value}(h:RowsT C v rows)(a:C.le D:=by exact mup):RowsT D v rows:=RowsT.mono h a
theorem EJ {w:Value}{r:List Str × Str}(a:vs[i]?=some w)(b:rows[i]?=some r):(List.zipWith (fun w (r:List Str × Str)=>[w,ai r.2]) vs rows)[i]?=some [w,ai r.2]:=by
 rw [List.getElem?_zipWith,a,b]
theorem tB (h:vs.length=rows.length):(List.zipWith (fun w (r:List Str × Str)=>[w,ai r.2]) vs rows).length=rows.length:=by simp [h]
def FC (n:Int)(r:List Str × Str):Int:=if jk n r.1≠0 then jk n r.1 else qK (bg r.2)
def tP (n:Int):List (List Str × Str)->Int
 | []=>0
 | r::l=>if FC n r≠0 then FC n r else tP n l
def KV (n:Int)(rows:List (List Str × Str))(obj:List Str):Int:=if n<0∨60<n then 3 else if 300<rows.length then 4 else if jk n obj≠0 then jk n obj else tP n rows
def QL (rows:List (List Str × Str)):Prop:=∀ r∈rows,(∀ s∈r.1,s.length<=999998)/\r.2.length<=999998
theorem F7 (C:Mem)(p:Tabs C)(n:Int)(E F:Value)(a:List (List Str × Str))(c:List Str)(M:RowsT C E a)(q:Sl C 1 F (c.map yV))(H:QL a)(N:∀ s∈c,s.length<=999998) :
  Gives cx.P 56 [.agg ⟨[.int .i64 n,E,F]⟩] C (.int .i64 (KV n a c)):=by
 obtain ⟨vs,O,Q,t⟩:=M;obtain ⟨S,c0,rfl,T,ae,_⟩:=id t;obtain ⟨A1,c1,rfl,U,af,_⟩:=id q;have ag:maxLen<=9223372036854775807:=by simp [maxLen]
 simp only [tB O,al] at t q T U ⊢;refine UD func56 48 U3 fun w0=>?_;refine Uz fun R b=>?_;refine UQ U6 (fun V=>?_);refine C4 1 [1] b Z ?_;refine G.freeze 0 Z (fun _ _ d=>?_);refine Uv 1 Z fun R b=>?_;refine Uw (bkT d 1) U8 ?_;refine UB 3 Z ?_;refine UY U6 (fun _=>PtrTo.blockT (Mem.get d mup) _ 1) U3 ?_;refine Uy U6 ?_;refine U1 U8 ?_;refine C4 1 [1,7] b Z ?_;refine Ux (fun u=>?_) fun u=>?_
 ·have f:n<0∨60<n:=by
   simp only [Sm,QZ] at u;omega
  refine Uu 1 [2] Z ?_;refine UC U2 ?_;exact ⟨by unfold KV;rw [aW f],Z⟩
 have f:¬ (n<0∨60<n):=by
  simp only [Sq,Ri] at u;omega
 refine Uv 1 Z fun R b=>?_;refine Uw (bkT d 1) U8 ?_;refine C4 3 [1,16] b Z ?_;refine Ux (fun v=>?_) fun v=>?_
 ·have g:300<a.length:=by
   have:=aJ v;omega
  refine Uu 1 [2] Z ?_;refine UC U2 ?_;exact ⟨by unfold KV;rw [az f,aW g],Z⟩
 have g:¬ 300<a.length:=by
  have:=QS v;omega
 refine Uv 1 Z fun R b=>?_;refine Uw (bkT d 1) U8 ?_;refine Uy U6 ?_;refine Uw (bkT d 1) U8 ?_;refine UI (Bl _ p.m_ _ n c q.m_ N) U7 ?_;refine C4 1 [1,3] b Z ?_;refine Uu 2 [1,3,27] Z ?_;refine Ux (fun x=>?_) fun x=>?_
 ·have y:jk n c≠0:=by simpa using x
  refine Uu 2 [2] Z ?_;refine UC U2 ?_;exact ⟨by unfold KV;rw [az f,az g,aW y],Z⟩
 have y:¬ jk n c≠0:=by simpa using x
 have z:KV n a c=tP n a:=by unfold KV;rw [az f,az g,az y]
 refine Uv 1 Z fun R b=>?_;refine Uw (bkT d 1) U8 ?_;refine C4 2 [1,30,31,32] b Z ?_;refine G.loop (fun fr C' W X=>∃ (i:Nat),(i<=a.length/\tP n a=tP n (a.drop i))/\fr=[(1,[],.pointer (some ⟨V,0,none⟩)),(30,[],.slice S a.length c0),(31,[],.int .i64 a.length),(32,[],.int .i64 i)]/\W=[]/\X=a.length-i) (hn_ [1,30,31,32] Z) ⟨0,⟨QT _,Z⟩,Z,Z,Z⟩ (fun fr ah ai m _ Y=>?_);obtain ⟨i,⟨hi,e⟩,rfl,rfl,rfl⟩:=Y;refine Uu 1 [1,30,31,32,33] Z ?_;refine Ux (fun A=>?_) fun A=>?_
 ·have h:i<a.length:=by
   have:=aJ A;omega
  obtain ⟨r,k⟩:∃ r,a[i]?=some r:=⟨a[i],aj h⟩;obtain ⟨w,I⟩:∃ w,vs[i]?=some w:=⟨vs[i]'om_,aj _⟩;have J:=QQ k;have K:=Q i w r I k;obtain ⟨Aw,cw,rfl,_⟩:=id K;have aa:a.drop i=r::a.drop (i+1):=Rh h |>.trans (by rw [(aD.1 k).2]);rw [aa] at e;simp only [tP] at e;refine Uz fun R b=>?_;refine UK t.m_ U10 om_ (EJ I k) fl_ (fun ak ab=>?_);refine Uw ab U8 ?_;refine UP U5 (fun b5=>?_);refine UG (j:=0) U12 ?_;refine UA [1,5,30,31,32] b Z ?_;refine G.freeze 0 Z (fun _ _ L=>?_);refine Uv 1 Z fun R b=>?_;refine Uw (bkT L 1) U8 ?_;refine Uy U6 ?_;refine Uw (bkT d 1) U8 ?_;refine UI (Bl _ p.m_ _ n r.1 K.m_ (H r J).1) U7 ?_;refine C4 1 [1,5,6,30,31,32] b Z ?_;refine Uu 2 [1,5,6,30,31,32,42] Z ?_;refine Ux (fun B=>?_) fun B=>?_
  ·have l:jk n r.1≠0:=by simpa using B
   have o:FC n r=jk n r.1:=by unfold FC;rw [aW l]
   refine Uu 2 [2] Z ?_;refine UC U2 ?_;exact ⟨by rw [z,e,o,aW l],Z⟩
  have l:¬ jk n r.1≠0:=by simpa using B
  have o:FC n r=qK (bg r.2):=by unfold FC;rw [az l]
  refine Uv 1 Z fun R b=>?_;refine Uw (bkT L 1) U8 ?_;refine UI (pp _ p.m_ r.2 (H r J).2) U7 ?_;refine UA [1,30,31,32,46] b Z ?_;refine Ux (fun D=>?_) fun D=>?_
  ·have ac:bg r.2=false:=by simpa using D
   refine Uu 1 [2] Z ?_;refine UC U2 ?_;exact ⟨by rw [z,e,o,ac];rfl,Z⟩
  have ad:bg r.2=true:=by simpa using D
  refine Uz fun R b=>?_;refine UF _ U7 ?_;refine C4 1 [1,30,31,32] b Z ?_;refine UH (m':=a.length-(i+1)) om_ mup (hn_ [1,30,31,32] Z) ⟨i+1,⟨by omega,by rw [e,o,ad];rfl⟩,Z,Z,Z⟩
 have h:i=a.length:=by
  have:=QS A;omega
 refine Uu 1 [2] Z ?_;refine UC U2 ?_;exact ⟨by rw [z,e,h,RM];rfl,Z⟩
theorem ui {a b:Rat}{k:Nat}(c:QB k a)(d:QB m b):QB (k+m) (a*b):=by
 rw [gA];refine ic (Nat.mul_ne_zero a.den_nz b.den_nz) ?_ ?_
 ·rw [SB,TR];exact SS c.1 d.1
 rw [TR];exact SS c.2 d.2
def gV (r:List Rat × Rat):List Str × Str:=(r.1.map qtx,qtx r.2)
structure RowsQ (n:Nat)(rs:List (List Rat × Rat)):Prop where
 l:∀ r∈rs,r.1.length=n
 q:∀ r∈rs,(∀ x∈r.1,QB 23 x)/\QB 23 r.2
 m:rs.length<=150
theorem PD {l:List Rat}(h:∀ x∈l,QB 23 x):QB 23 (l.getD j 0):=by
 rw [au];cases e:l[j]? with
 | none=>exact ⟨by decide,by decide⟩
 | some x=>exact h x (QQ e)
theorem ue (q:Rat):decide (eN q.num<0)=decide (q<0):=by
 have h:q.num<0 ↔ q<0:=by rw [Rat.lt_iff];simp
 rw [RC];unfold eN;by_cases h1:q.num<0
 ·rw [aW h1];exact ⟨fun _=>h.1 h1,fun _=>by decide⟩
 rw [az h1];exact ⟨fun h2=>by split at h2 <;> exact absurd h2 dc_,fun h2=>absurd (h.2 h2) h1⟩
open Classical in
theorem sV (b:Bool):qK b=0/\b=true∨qK b=2/\b=false:=by cases b <;> simp [qK]
theorem bK:∀ q:Rat,(aZ q).length=1:=fun _=>rfl
open Classical in
theorem FW (q:Rat):decide (eN q.num ≥ 0)=decide (0<=q):=by
 have h:=ue q;have h2:decide (0<=q)=!decide (q<0):=by
  rw [<- decide_not,RC];grind
 rw [h2,<- h,<- decide_not,RC];omega
theorem P4:qtx 0=[48]:=by decide +kernel
theorem QC:aZ 0=[Value.string ⟨#[48]⟩]:=by
 show [ai (qtx 0)]=_;rw [P4];rfl
def zF (fs:List Rat)(s q:Nat):Rat:=if q=s then 0 else fs.getD q 0
def kI (fs bf:List Rat)(s:Nat)(k:Rat)(j:Nat):List Rat:=(List.range fs.length).map fun q=>zF fs s q+(if q<j then k*bf.getD q 0 else 0)
theorem gY :(kI fs bf s k j).length=fs.length:=by simp [kI]
theorem wu :fs.set s 0=kI fs bf s k 0:=by
 refine List.ext_getElem? fun q=>?_;unfold kI;rw [List.getElem?_set,QU];by_cases a:q<fs.length
 ·rw [Rw a];simp only [Su,Nat.not_lt_zero,R7];unfold zF;split
  ·next e=>rw [aW om_,aW e.symm];rw [Rat.add_zero]
  next e=>rw [az (fun b=>e b.symm),au,aj a];simp only [R9];congr 1;grind
 rw [QY om_,QY ap];split
 ·split
  ·omega
  rfl
 rfl
theorem ua {q:Nat}(h:q<fs.length):(kI fs bf s k j)[q]?=some (zF fs s q+(if q<j then k*bf.getD q 0 else 0)):=by
 unfold kI;rw [QU,Rw h];rfl
theorem Be (h:j<fs.length):(kI fs bf s k j).set j (zF fs s j+k*bf.getD j 0)=kI fs bf s k (j+1):=by
 refine List.ext_getElem? fun q=>?_;rw [List.getElem?_set,gY];by_cases a:q<fs.length
 ·rw [ua a,ua a];by_cases e:j=q
  ·subst e;rw [aW rfl,aW a,aW om_]
  rw [az e];by_cases h1:q<j
  ·rw [aW h1,aW om_]
  rw [az h1,az om_]
 rw [QY (by rw [gY];omega),QY (by rw [gY];omega)];split
 ·exact absurd om_ a
 rfl
theorem wx (a:bf.getD j 0=0):kI fs bf s k j=kI fs bf s k (j+1):=by
 refine List.map_congr_left fun q _=>?_;by_cases e:q=j
 ·subst e;rw [az om_,aW om_,a];grind
 by_cases h1:q<j
 ·rw [aW h1,aW om_]
 rw [az h1,az om_]
theorem ww :kI fs bf s 0 j=kI fs bf s 0 0:=by
 refine List.map_congr_left fun q _=>?_;split <;> split <;> grind
theorem FS {c bc:Rat}(_b:s<fs.length):Lp.putL ⟨c,fs⟩ s ⟨bc,bf⟩=⟨c+fs.getD s 0*bc,kI fs bf s (fs.getD s 0) fs.length⟩:=by
 unfold Lp.putL;congr 1;refine List.map_congr_left fun q a=>?_;rw [aW (Q9.1 a)];rfl
theorem OC {q:Nat}(a:∀ x∈fs,QB 40 x)(b:q<fs.length):QB 40 (zF fs s q):=by
 unfold zF;split
 ·exact ⟨by decide,by decide⟩
 rw [au,aj b];exact a _ (RP _)
def bE (p:Rat × Value):List Value:=[ai (qtx p.1),p.2]
theorem gH:∀ p,(bE p).length=2:=fun _=>rfl
theorem nZ (h:ls[i]?=some p):(ls.map bE).flatten.drop (i*2)=ai (qtx p.1)::p.2::(ls.map bE).flatten.drop (i*2+2):=by
 obtain ⟨h1,h2⟩:=aD.1 h;have e:=(cI gH ls i).2;have a:=(cI gH ls (i+1)).2;rw [SJ] at a;rw [e,a,Rh h1,h2];rfl
theorem Jh (h:ls[i]?=some p):ls.set i p=ls:=by
 refine List.ext_getElem? fun j=>?_;rw [List.getElem?_set];split
 ·next e=>subst e;rw [aW (aD.1 h).1,h]
 rfl
theorem DG (h:ls[i]?=some p):((ls.map bE).flatten.drop (i*2)).take 1=[ai (qtx p.1)]:=by rw [nZ h];rfl
theorem jL (h:ls[i]?=some p):((ls.map bE).flatten.drop (i*2+1)).take 1=[p.2]:=by rw [<- List.drop_drop,nZ h];rfl
theorem yB (h:ls[i]?=some p)(c:Rat):aE (ls.map bE).flatten [ai (qtx c)] (i*2)=((ls.set i (c,p.2)).map bE).flatten:=by
 rw [<- bN gH (c,p.2) (aD.1 h).1];unfold aE;have:(ls.map bE).flatten.drop (i*2+1)=p.2::(ls.map bE).flatten.drop (i*2+2):=by rw [<- List.drop_drop,nZ h];rfl
 show _++[_]++List.drop (i*2+1) _=_++[_,_]++List.drop (i*2+2) _;rw [this];simp
theorem M2 (C:Mem)(t:Tabs C)(g e f n s:Nat)(i l o p z:Value)(b d:List Rat)(c h:Rat)(ag:b.length=n)(ak:d.length=n)(hs:s<n)(q:Sl C 1 z (d.map aZ))(Q:QB 40 c)(A:∀ x∈b,QB 40 x)(B:QB 40 h)(S:∀ x∈d,QB 40 x) :
  Jog.Fn cx.P 237 [.pointer (some ⟨g,4,none⟩),.int .i64 s,.agg ⟨[ai (qtx h),z]⟩] C [.obj g (.cells ⟨[i,l,o,p,ai (qtx c),.slice (some ⟨e,0,none⟩) n f]⟩ 212 (0,0)),.arr (.slice (some ⟨e,0,none⟩) n f) 56 1 n (b.map aZ).flatten]
   fun u _ r=>u=.tuple #[]/\r=[.obj g (.cells ⟨[i,l,o,p,ai (qtx (c+b.getD s 0*h)),.slice (some ⟨e,0,none⟩) n f]⟩ 212 (0,0)),.arr (.slice (some ⟨e,0,none⟩) n f) 56 1 n ((kI b d s (b.getD s 0) n).map aZ).flatten]:=by
 obtain ⟨T,U,rfl,V,am,_⟩:=id q;simp only [al] at V q ⊢;have D:s<b.length:=by omega
 have an:maxLen<=9223372036854775807:=by simp [maxLen]
 obtain ⟨k,E⟩:∃ k,b.getD s 0=k:=⟨_,rfl⟩;have F:b[s]?=some k:=by rw [<- E,au,aj D];rfl
 have v:QB 40 k:=A k (QQ F);rw [E];refine UD func237 64 U3 fun w0=>?_;refine UN (L':=[.obj g (.cells ⟨[i,l,o,p,ai (qtx c),.slice (some ⟨e,0,none⟩) n f]⟩ 212 (0,0)),.arr (.slice (some ⟨e,0,none⟩) n f) 56 1 n (b.map aZ).flatten]) Z ?_;refine Uz fun R a=>?_;refine UQ U6 (fun b5=>?_);refine UA [0,1,5] a Z ?_;clear a R;refine G.freeze 0 Z (fun _ _ H=>?_);refine Uv 3 Z fun R a=>?_;refine UE af U9 ?_;refine Uy U6 ?_;refine Va (s*1) U10 ah U2 ?_;refine Vn ae U6 (fun _=>(by rw [eE bK F];rfl)) U2 ?_;refine C4 1 [0,1,5,6] a Z ?_;clear a R;refine Uv 3 Z fun R a=>?_;refine UE af U9 ?_;refine Uy U6 ?_;refine Va (s*1) U10 ah U2 ?_;refine Vc (j:=1) U11 (by show s*1+1<=_;rw [bS bK];omega) ?_;refine UA [0,5,6] a Z ?_;clear a R;refine G.perm (L':=[.obj g (.cells ⟨[i,l,o,p,ai (qtx c),.slice (some ⟨e,0,none⟩) n f]⟩ 212 (0,0)),.arr (.slice (some ⟨e,0,none⟩) n f) 56 1 n ((kI b d s k 0).map aZ).flatten]) (by rw [<- wu,<- bN bK 0 D,QC];exact List.Perm.swap _ _ _) ?_;refine Uu 2 [0,5,6,23] Z ?_;refine Ux (fun I=>?_) fun I=>?_
 ·have W:qtx k=[48]:=by simpa using I
  have X:k=0:=lD (W.trans (by decide +kernel:([48]:List UInt8)=qtx 0));subst X;have Y:c+0*h=c:=by grind
  refine UN (L':=[.obj g (.cells ⟨[i,l,o,p,ai (qtx (c+0*h)),.slice (some ⟨e,0,none⟩) n f]⟩ 212 (0,0)),.arr (.slice (some ⟨e,0,none⟩) n f) 56 1 n ((kI b d s 0 n).map aZ).flatten]) (by rw [Y,ww (j:=n)]) ?_;refine UJ (Wb Z  ?_);exact ⟨Z,Z⟩
 refine US [0,1,2,3,4,5,6,7,8,9,10,11,12] [(8,1),(9,1)] Z kr_ (fun R q a=>?_);refine UB 4 Z ?_;refine UE af U9 ?_;refine UB 2 Z ?_;refine Uw (bkT H 1) U8 ?_;refine UT (fun _=>(dT _ t.m_ k h 40 dc_ dc_ v B)) U9 ?_;refine UT (fun _=>(mR _ t.m_ c (k*h) 80 dc_ dc_ (Q.le dc_) ((ui v B).le dc_))) U9 ?_;refine UB 2 Z ?_;refine UG (j:=0) U12 ?_;refine UA [0,5,6] a Z ?_;clear a q R;refine Uv 1 Z fun R a=>?_;refine Uw (bkT H 1) U8 ?_;refine C4 2 [0,6,37,38,39] a Z ?_;clear a R;refine G.loop (fun fr C' r μ=>∃ (j:Nat),(j<=n)/\fr=[(0,[],.pointer (some ⟨g,4,none⟩)),(6,[],ai (qtx k)),(37,[],.slice T d.length U),(38,[],.int .i64 d.length),(39,[],.int .i64 j)]/\r=[.obj g (.cells ⟨[i,l,o,p,ai (qtx (c+k*h)),.slice (some ⟨e,0,none⟩) n f]⟩ 212 (0,0)),.arr (.slice (some ⟨e,0,none⟩) n f) 56 1 n ((kI b d s k j).map aZ).flatten]/\μ=n-j) (hn_ [0,6,37,38,39] Z) ⟨0,QT _,Z,Z,Z⟩ (fun fr ao ap m J hI=>?_);obtain ⟨j,hj,rfl,rfl,rfl⟩:=hI;refine Uu 1 [0,6,37,38,39,40] Z ?_;refine Ux (fun w=>?_) fun w=>?_
 ·have K:j<n:=by
   have:=aJ w;omega
  obtain ⟨x,y⟩:∃ x,d[j]?=some x:=⟨d[j]'om_,aj om_⟩;have L:QB 40 x:=S x (QQ y);have M:d.getD j 0=x:=by rw [au,y];rfl
  have aa:(kI b d s k j)[j]?=some (zF b s j):=by
   rw [ua om_,az (Nat.lt_irrefl _)];congr 1;grind
  have qz:=OC (s:=s) A (show j<b.length by omega);have N:=Be (bf:=d) (s:=s) (k:=k) (show j<b.length by omega);rw [M] at N;refine Uv 1 Z fun R a=>?_;refine UK q.m_ U10 om_ (gj y) fl_ (fun aq ab=>?_);refine Uw ab U8 ?_;refine C4 2 [0,6,7,8,37,38,39] a Z ?_;clear a R;refine Uu 2 [0,6,7,8,37,38,39,45] Z ?_;refine Ux (fun O=>?_) fun O=>?_
  ·refine US [0,1,2,3,4,5,6,7,8,9,10,11,12,13,14,15,16,17] [(14,1),(15,1)] Z kr_ (fun R q a=>?_);refine UB 3 Z ?_;refine UE af U9 ?_;refine UB 4 Z ?_;refine UE af U9 ?_;refine Uy U6 ?_;refine Va (j*1) U10 ah U2 ?_;refine Vn ae U6 (fun _=>(by rw [eE bK aa];rfl)) U2 ?_;refine UB 2 Z ?_;refine UT (fun _=>(dT _ t.m_ k x 40 dc_ dc_ v L)) U9 ?_;refine UT (fun _=>(mR _ t.m_ (zF b s j) (k*x) 80 dc_ dc_ (qz.le dc_) ((ui v L).le dc_))) U9 ?_;refine Va (j*1) U10 ah U2 ?_;refine Vc (j:=1) U11 (by show j*1+1<=_;rw [bS bK,gY];omega) ?_;refine UA [0,6,37,38,39] a Z ?_;clear a q R;refine Uz fun R a=>?_;refine UF _ U7 ?_;refine C4 1 [0,6,37,38,39] a Z ?_;clear a R;refine G.perm (L':=[.obj g (.cells ⟨[i,l,o,p,ai (qtx (c+k*h)),.slice (some ⟨e,0,none⟩) n f]⟩ 212 (0,0)),.arr (.slice (some ⟨e,0,none⟩) n f) 56 1 n ((kI b d s k (j+1)).map aZ).flatten]) (by rw [<- N,<- bN bK _ (by rw [gY];omega)];exact List.Perm.swap _ _ _) ?_;refine UH (m':=n-(j+1)) om_ J (hn_ [0,6,37,38,39] Z) ⟨j+1,om_,Z,Z,Z⟩
  have ac:x=0:=by
   have ad:qtx x=[48]:=by simpa using O
   exact lD (ad.trans (by decide +kernel:([48]:List UInt8)=qtx 0))
  rw [wx (j:=j) (by rw [M];exact ac)];refine Uz fun R a=>?_;refine UF _ U7 ?_;refine C4 1 [0,6,37,38,39] a Z ?_;clear a R;refine UH (m':=n-(j+1)) om_ J (hn_ [0,6,37,38,39] Z) ⟨j+1,om_,Z,Z,Z⟩
 have K:j=n:=by
  have:=QS w;omega
 rw [K];refine VI Z ?_;exact ⟨Z,Z⟩
theorem M3 (C:Mem)(t:Tabs C)(l m o i e f n s:Nat)(z:Value)(h:List (Rat × Value))(b d:List Rat)(c g:Rat)(ak:h.length=m)(q:h[i]?=some (c,.slice (some ⟨e,0,none⟩) n f))(am:b.length=n)(an:d.length=n)(hs:s<n)(r:Sl C 1 z (d.map aZ))(S:QB 40 c)(A:∀ x∈b,QB 40 x)(B:QB 40 g)(T:∀ x∈d,QB 40 x) :
  Jog.Fn cx.P 237 [.pointer (some ⟨l,i*2,none⟩),.int .i64 s,.agg ⟨[ai (qtx g),z]⟩] C [.arr (.slice (some ⟨l,0,none⟩) m o) 209 2 m (h.map bE).flatten,.arr (.slice (some ⟨e,0,none⟩) n f) 56 1 n (b.map aZ).flatten]
   fun u _ p=>u=.tuple #[]/\p=[.arr (.slice (some ⟨l,0,none⟩) m o) 209 2 m ((h.set i (c+b.getD s 0*g,.slice (some ⟨e,0,none⟩) n f)).map bE).flatten,.arr (.slice (some ⟨e,0,none⟩) n f) 56 1 n ((kI b d s (b.getD s 0) n).map aZ).flatten]:=by
 obtain ⟨U,V,rfl,W,ao,_⟩:=id r;simp only [al] at W r ⊢;have D:s<b.length:=by omega
 have ap:maxLen<=9223372036854775807:=by simp [maxLen]
 obtain ⟨k,E⟩:∃ k,b.getD s 0=k:=⟨_,rfl⟩;have F:b[s]?=some k:=by rw [<- E,au,aj D];rfl
 have v:QB 40 k:=A k (QQ F);rw [E];refine UD func237 64 U3 fun w0=>?_;refine UN (L':=[.arr (.slice (some ⟨l,0,none⟩) m o) 209 2 m (h.map bE).flatten,.arr (.slice (some ⟨e,0,none⟩) n f) 56 1 n (b.map aZ).flatten]) Z ?_;refine Uz fun R a=>?_;refine UQ U6 (fun b5=>?_);refine UA [0,1,5] a Z ?_;clear a R;refine G.freeze 0 Z (fun _ _ H=>?_);refine Uv 3 Z fun R a=>?_;refine Vn af U6 (fun _=>(by rw [jL q];rfl)) U2 ?_;refine Uy U6 ?_;refine Va (s*1) U10 ah U2 ?_;refine Vn ae U6 (fun _=>(by rw [eE bK F];rfl)) U2 ?_;refine C4 1 [0,1,5,6] a Z ?_;clear a R;refine Uv 3 Z fun R a=>?_;refine Vn af U6 (fun _=>(by rw [jL q];rfl)) U2 ?_;refine Uy U6 ?_;refine Va (s*1) U10 ah U2 ?_;refine Vc (j:=1) U11 (by show s*1+1<=_;rw [bS bK];omega) ?_;refine UA [0,5,6] a Z ?_;clear a R;refine G.perm (L':=[.arr (.slice (some ⟨l,0,none⟩) m o) 209 2 m (h.map bE).flatten,.arr (.slice (some ⟨e,0,none⟩) n f) 56 1 n ((kI b d s k 0).map aZ).flatten]) (by rw [<- wu,<- bN bK 0 D,QC];exact List.Perm.swap _ _ _) ?_;refine Uu 2 [0,5,6,23] Z ?_;refine Ux (fun I=>?_) fun I=>?_
 ·have X:qtx k=[48]:=by simpa using I
  have Y:k=0:=lD (X.trans (by decide +kernel:([48]:List UInt8)=qtx 0));subst Y;have aa:c+0*g=c:=by grind
  refine UN (L':=[.arr (.slice (some ⟨l,0,none⟩) m o) 209 2 m ((h.set i (c+0*g,.slice (some ⟨e,0,none⟩) n f)).map bE).flatten,.arr (.slice (some ⟨e,0,none⟩) n f) 56 1 n ((kI b d s 0 n).map aZ).flatten]) (by rw [aa,ww (j:=n),Jh q]) ?_;refine UJ (Wb Z  ?_);exact ⟨Z,Z⟩
 refine US [0,1,2,3,4,5,6,7,8,9,10,11,12] [(8,1),(9,1)] Z kr_ (fun R r a=>?_);refine UB 4 Z ?_;refine Vn af U6 (fun _=>(by rw [DG q];rfl)) U2 ?_;refine UB 2 Z ?_;refine Uw (bkT H 1) U8 ?_;refine UT (fun _=>(dT _ t.m_ k g 40 dc_ dc_ v B)) U9 ?_;refine UT (fun _=>(mR _ t.m_ c (k*g) 80 dc_ dc_ (S.le dc_) ((ui v B).le dc_))) U9 ?_;refine UB 2 Z ?_;refine Vc (j:=0) U11 (by show i*2+1<=_;rw [bS gH];have:=(aD.1 q).1;omega) ?_;refine UA [0,5,6] a Z ?_;clear a r R;refine UN (L':=[.arr (.slice (some ⟨l,0,none⟩) m o) 209 2 m ((h.set i (c+k*g,.slice (some ⟨e,0,none⟩) n f)).map bE).flatten,.arr (.slice (some ⟨e,0,none⟩) n f) 56 1 n ((kI b d s k 0).map aZ).flatten]) (by rw [<- yB q];rfl) ?_;have J:(h.set i (c+k*g,Value.slice (some ⟨e,0,none⟩) n f))[i]?=some (c+k*g,Value.slice (some ⟨e,0,none⟩) n f):=T6 (aD.1 q).1;refine Uv 1 Z fun R a=>?_;refine Uw (bkT H 1) U8 ?_;refine C4 2 [0,6,37,38,39] a Z ?_;clear a R;refine G.loop (fun fr C' p μ=>∃ (j:Nat),(j<=n)/\fr=[(0,[],.pointer (some ⟨l,i*2,none⟩)),(6,[],ai (qtx k)),(37,[],.slice U d.length V),(38,[],.int .i64 d.length),(39,[],.int .i64 j)]/\p=[.arr (.slice (some ⟨l,0,none⟩) m o) 209 2 m ((h.set i (c+k*g,.slice (some ⟨e,0,none⟩) n f)).map bE).flatten,.arr (.slice (some ⟨e,0,none⟩) n f) 56 1 n ((kI b d s k j).map aZ).flatten]/\μ=n-j) (hn_ [0,6,37,38,39] Z) ⟨0,QT _,Z,Z,Z⟩ (fun fr aq ar m K hI=>?_);obtain ⟨j,hj,rfl,rfl,rfl⟩:=hI;refine Uu 1 [0,6,37,38,39,40] Z ?_;refine Ux (fun w=>?_) fun w=>?_
 ·have L:j<n:=by
   have:=aJ w;omega
  obtain ⟨x,y⟩:∃ x,d[j]?=some x:=⟨d[j]'om_,aj om_⟩;have M:QB 40 x:=T x (QQ y);have N:d.getD j 0=x:=by rw [au,y];rfl
  have ab:(kI b d s k j)[j]?=some (zF b s j):=by
   rw [ua om_,az (Nat.lt_irrefl _)];congr 1;grind
  have qz:=OC (s:=s) A (show j<b.length by omega);have O:=Be (bf:=d) (s:=s) (k:=k) (show j<b.length by omega);rw [N] at O;refine Uv 1 Z fun R a=>?_;refine UK r.m_ U10 om_ (gj y) fl_ (fun av ac=>?_);refine Uw ac U8 ?_;refine C4 2 [0,6,7,8,37,38,39] a Z ?_;clear a R;refine Uu 2 [0,6,7,8,37,38,39,45] Z ?_;refine Ux (fun Q=>?_) fun Q=>?_
  ·refine US [0,1,2,3,4,5,6,7,8,9,10,11,12,13,14,15,16,17] [(14,1),(15,1)] Z kr_ (fun R r a=>?_);refine UB 3 Z ?_;refine Vn af U6 (fun _=>(by rw [jL J];rfl)) U2 ?_;refine UB 4 Z ?_;refine Vn af U6 (fun _=>(by rw [jL J];rfl)) U2 ?_;refine Uy U6 ?_;refine Va (j*1) U10 ah U2 ?_;refine Vn ae U6 (fun _=>(by rw [eE bK ab];rfl)) U2 ?_;refine UB 2 Z ?_;refine UT (fun _=>(dT _ t.m_ k x 40 dc_ dc_ v M)) U9 ?_;refine UT (fun _=>(mR _ t.m_ (zF b s j) (k*x) 80 dc_ dc_ (qz.le dc_) ((ui v M).le dc_))) U9 ?_;refine Va (j*1) U10 ah U2 ?_;refine Vc (j:=1) U11 (by show j*1+1<=_;rw [bS bK,gY];omega) ?_;refine UA [0,6,37,38,39] a Z ?_;clear a r R;refine Uz fun R a=>?_;refine UF _ U7 ?_;refine C4 1 [0,6,37,38,39] a Z ?_;clear a R;refine G.perm (L':=[.arr (.slice (some ⟨l,0,none⟩) m o) 209 2 m ((h.set i (c+k*g,.slice (some ⟨e,0,none⟩) n f)).map bE).flatten,.arr (.slice (some ⟨e,0,none⟩) n f) 56 1 n ((kI b d s k (j+1)).map aZ).flatten]) (by rw [<- O,<- bN bK _ (by rw [gY];omega)];exact List.Perm.swap _ _ _) ?_;refine UH (m':=n-(j+1)) om_ K (hn_ [0,6,37,38,39] Z) ⟨j+1,om_,Z,Z,Z⟩
  have ad:x=0:=by
   have ag:qtx x=[48]:=by simpa using Q
   exact lD (ag.trans (by decide +kernel:([48]:List UInt8)=qtx 0))
  rw [wx (j:=j) (by rw [N];exact ad)];refine Uz fun R a=>?_;refine UF _ U7 ?_;refine C4 1 [0,6,37,38,39] a Z ?_;clear a R;refine UH (m':=n-(j+1)) om_ K (hn_ [0,6,37,38,39] Z) ⟨j+1,om_,Z,Z,Z⟩
 have L:j=n:=by
  have:=QS w;omega
 rw [L];refine VI Z ?_;exact ⟨Z,Z⟩
end Go.Proofs.YthnpijdjlddpmaaGreatDoor
