/- Laws that the proofs of this seat share, part 11. -/
import Derived.Test.YthnpijdjlddpmaaGreatDoorG10
import Derived.Test.YthnpijdjlddpmaaGreatDoorShelf
import Derived.Test.YthnpijdjlddpmaaGreatDoorCards
import Derived.Test.YthnpijdjlddpmaaGreatDoorTie
import Derived.Stop.LaidErr
import Derived.Lib.LaidTab
import Derived.Carry
import Derived.Deep.Strs
import Derived.Laws.IdiomArrays
set_option maxHeartbeats 4000000
namespace Go.Proofs.YthnpijdjlddpmaaGreatDoor
open Go.Proofs.Tryz
open Go Go.Jog
set_option maxRecDepth 100000
variable {i:Nat}{n:Str}{q:Rat}{s u x y:Str}
structure Sgt where
 kind:Nat
 px:Int
 py:Int
 u0:Nat
 u1:Nat
 depth:Nat
 n0:Int
 n1:Int
 n2:Int
def N2 (s:Sgt):List Value:=[.int .u8 s.kind,.int .i8 s.px,.int .i8 s.py,.int .u8 s.u0,.int .u8 s.u1,.int .u8 s.depth,.int .i8 s.n0,.int .i8 s.n1,.int .i8 s.n2]
structure SgtR (s:Sgt):Prop where
 kind:s.kind<256
 px:-128<=s.px/\s.px<=127
 py:-128<=s.py/\s.py<=127
 u0:s.u0<256
 u1:s.u1<256
 depth:s.depth<256
 n0:-128<=s.n0/\s.n0<=127
 n1:-128<=s.n1/\s.n1<=127
 n2:-128<=s.n2/\s.n2<=127
structure Sht where
 kd:Nat
 a:Int
 b:Int
 h:Bool
def MI (S:Sht)(H:Hts)(sv:Value):List Value:=[.int .u8 S.kd,.int .i8 S.a,.int .i8 S.b,.bool S.h,.int .i8 H.h0,.int .i8 H.h1,.int .i8 H.h2,.int .i8 H.h3,.int .i8 H.h4,.int .i8 H.h5,.bool H.half,sv]
def rm (i:Nat):Str:=[UInt8.ofNat (65+i)]
def lH (S:Sht)(s:Sgt):Pt :=
 if lP (cD (S.kd % 8) S.a S.b S.h) (shT (S.kd % 8)) (dA S.a S.b S.h s.px s.py 2)≠[] then dA S.a S.b S.h s.px s.py 2
 else (cD (S.kd % 8) S.a S.b S.h).getD (s.depth % (cD (S.kd % 8) S.a S.b S.h).length) (0,0)
def fg (z:Int):Int:=if z.tmod 5=0 then 1 else z.tmod 5
def loU (s:Sgt):Nat:=if s.u0 % 3=s.u1 % 3 then 0 else s.u0 % 3
def upU (s:Sgt):Nat:=if s.u0 % 3=s.u1 % 3 then 1+s.u1 % 3 % 2 else s.u1 % 3
def fK (S:Sht)(s:Sgt)(i:Nat):Obs :=
 if s.kind % 3=0 then ⟨1,[111,UInt8.ofNat (49+i)],qtx (lH S s).1,qtx (lH S s).2,[],rm (s.u1 % 3),[],[],[],[]⟩
 else if s.kind % 3=1 then ⟨2,[111,UInt8.ofNat (49+i)],qtx (lH S s).1,qtx (lH S s).2,qtx (kR (s.depth % 12:Nat) 2),rm (max (loU s) (upU s)),rm (min (loU s) (upU s)),[],[],[]⟩
 else ⟨3,[111,UInt8.ofNat (49+i)],qtx (lH S s).1,qtx (lH S s).2,[],rm (max (loU s) (upU s)),rm (min (loU s) (upU s)),qtx ((s.n0.tmod 5:Int):Rat),qtx ((s.n1.tmod 5:Int):Rat),qtx ((fg s.n2:Int):Rat)⟩
theorem wrap_u8 {n:Int}(a:0<=n)(b:n<256):IntKind.u8.wrap n=n:=by
 simp only [IntKind.wrap,IntKind.bits,IntKind.signed];simp;omega
theorem mU (i:Nat)(a:i<6):([[.int .u8 111],[.int .u8 (49+(i:Int))]]:List (List Value))=(([111,UInt8.ofNat (49+i)]:Str).map fun b=>[.int .u8 b.toNat]):=by
 rcases (by omega:i=0∨i=1∨i=2∨i=3∨i=4∨i=5) with rfl | rfl | rfl | rfl | rfl | rfl <;> rfl
theorem BB (j:Nat)(a:j<3):(([ah [65],ah [66],ah [67]]:List Value).drop j).take 1=[ah (rm j)]:=by
 rcases (by omega:j=0∨j=1∨j=2) with rfl | rfl | rfl <;> rfl
theorem yn:∀ m:Nat,0<(shP m).length
 | 0=>by decide
 | 1=>by decide
 | 2=>by decide
 | 3=>by decide
 | 4=>by decide
 | 5=>by decide
 | 6=>by decide
 | _+7=>by
  show 0<([(0,0),(6,0),(0,6),(2,2)]:List (Int × Int)).length;decide
theorem nI (a:Int):-5<a.tmod 5/\a.tmod 5<5:=by
 have h:(a.tmod 5).natAbs=a.natAbs % 5:=S5 a 5;omega
theorem M8 (s:Sgt):loU s<=2:=by unfold loU;split <;> omega
theorem LW (s:Sgt):upU s<=2:=by unfold upU;split <;> omega
theorem FD {p:Pt}(h:QP 1 p):QP 23 p/\PtR p:=⟨⟨h.1.le dc_,h.2.le dc_⟩,bP (h.1.le dc_),bP (h.2.le dc_)⟩
theorem rj (C:Mem)(r:Tabs C)(S:Sht)(s:Sgt)(H:Hts)(sv:Value)(i:Nat)(T:i<6)(hk:S.kd<256)(q:SgtR s)(hG:Good (cD (S.kd % 8) S.a S.b S.h) (shT (S.kd % 8))) :
  Pur cx.P 63 [.agg ⟨MI S H sv⟩,.agg ⟨N2 s⟩,.int .i64 i] C fun u _D=>u=.agg ⟨Ia (fK S s i)⟩:=by
 have aE:=q.kind;have aF:=q.u0;have aG:=q.u1;have aI:=q.depth;have aJ:=nI s.n0;have aK:=nI s.n1;have aL:=nI s.n2;have am:=M8 s;have an:=LW s;have ao:QP 1 (dA S.a S.b S.h s.px s.py 2):=Bc dc_ dc_ q.px q.py;obtain ⟨ap,aq⟩:=FD ao;obtain ⟨lo,v⟩:∃ n,loU s=n:=⟨_,rfl⟩;obtain ⟨up,w⟩:∃ n,upU s=n:=⟨_,rfl⟩;obtain ⟨p,x⟩:∃ p,lH S s=p:=⟨_,rfl⟩;obtain ⟨t,E⟩:∃ z,fg s.n2=z:=⟨_,rfl⟩;have aM:-5<t/\t<5:=by rw [<- E];unfold fg;split <;> omega
 rw [v] at am;rw [w] at an;have ae:0<(cD (S.kd % 8) S.a S.b S.h).length:=by rw [cD,aw];exact yn _
 have aN:=lG (S.kd % 8) S.a S.b S.h;refine Uk func63 129 U3 fun w0=>?_;refine Uf fun R d=>?_;refine Uw U6 (fun b3=>?_);refine Uw U6 (fun y=>?_);refine Uv U5 (fun g=>?_);refine Ug [2,3,4,6] d Z ?_;refine G.freeze 2 Z (fun _ _ ai=>?_);refine G.freeze 1 Z (fun _ _ k=>?_);refine Ub 1 Z fun R d=>?_;refine Uc (bkT ai 4) U8 ?_;refine UM (wP _ r.m_ S.kd S.a S.b S.h hk) U7 (fun aO _ _ U=>?_);obtain ⟨v1,v2,rfl,V,ar⟩:=id U.ex;obtain ⟨A1,c1,rfl,au,aP,_⟩:=id V;obtain ⟨A2,c2,rfl,_,_,_⟩:=id ar;simp only [aw] at V au U ⊢;refine Uv U5 (fun b7=>?_);refine Um (j:=0) U12 ?_;refine Ug [2,3,4,6,7] d Z ?_;refine G.freeze 0 Z (fun _ _ W=>?_);refine G.cut (fun fr C' l m=>∃ (f:Nat),(True)/\fr=[(4,[],.pointer (some ⟨y,0,none⟩)),(6,[],.pointer (some ⟨g,0,none⟩)),(7,[],.pointer (some ⟨b7,0,none⟩)),(8,[],.pointer (some ⟨f,0,none⟩))]/\l=[.obj f (.cells ⟨[.int .i64 (1+((s.kind % 3:Nat):Int)),ah [111,UInt8.ofNat (49+i)],ah (qtx (dA S.a S.b S.h s.px s.py 2).1),ah (qtx (dA S.a S.b S.h s.px s.py 2).2),ah [],ah [],ah [],ah [],ah [],ah []]⟩ 62 (0,0)),.obj g (.cells ⟨[.int .i64 0,ah [],ah [],ah [],ah [],ah [],ah [],ah [],ah [],ah []]⟩ 62 (0,0))]) ?_ (fun fr aQ aR m aS o=>?_)
 ·refine UW (.cut [0,1,2,3,4,5,6,7,10,11,12,13,14] (.alt 8 (.cut [] (.alt 9 (.fin [15,16,17]) (.alt 16 (.fin [9,15,17]) .stop))) (.alt 16 (.fin [8,9,15,17]) .stop))) [(14,1),(3,0),(6,0)] Z Z kr_ (fun R F d I=>?_);refine Ue U6 ?_;refine Uc (bkT k 1) U8 ?_;refine U1 (s.kind) (3) U6 om_ U2 ?_;refine Vi (c:=((s.kind % 3:Nat):Int)) U8 (wrap_i64 om_ om_) U2 ?_;refine Ul _ U7 ?_;refine Ue U6 ?_;refine Vi (c:=(i:Int)) U8 (wrap_u8 om_ om_) U2 ?_;refine D.int ((49+(i:Int))) U4 (wrap_u8 om_ om_) U2 ?_;refine Ue U6 ?_;refine Uc (bkT ai 4) U8 ?_;refine Ue U6 ?_;refine Uc (bkT k 2) U8 ?_;refine Uz (fun _=>(Bd _ r.m_ S.kd S.a S.b S.h s.px s.py 2 dc_ dc_ q.px q.py)) U9 ?_;refine UL I Z ⟨?_, ?_,trivial⟩
  ·refine Ux [[.int .u8 111],[.int .u8 (49+(i:Int))]] U12 (fun av ax _ J=>?_);refine UL I Z ⟨?_, ?_,trivial⟩
   ·refine VE (show Sl _ 1 _ (([111,UInt8.ofNat (49+i)]:Str).map fun b=>[.int .u8 b.toNat]) from by rw [<- mU i T];exact J.mono mup) U11 fl_ ?_;refine Uu [.int .i64 (1+((s.kind % 3:Nat):Int)),ah [111,UInt8.ofNat (49+i)],ah (qtx (dA S.a S.b S.h s.px s.py 2).1),ah (qtx (dA S.a S.b S.h s.px s.py 2).2),ah [],ah [],ah [],ah [],ah [],ah []] U8 ?_;refine Uv U5 (fun f=>?_);refine Um (j:=0) U12 ?_;refine Ug [4,6,7,8] d Z ?_;exact Uq 0 mup (hn_ [4,6,7,8] Z) ⟨f,trivial,Z,Z⟩
   refine Uv U5 (fun f=>?_);refine VE (show Sl _ 1 _ (([111,UInt8.ofNat (49+i)]:Str).map fun b=>[.int .u8 b.toNat]) from by rw [<- mU i T];exact J.mono mup) U11 fl_ ?_;refine Uu [.int .i64 (1+((s.kind % 3:Nat):Int)),ah [111,UInt8.ofNat (49+i)],ah (qtx (dA S.a S.b S.h s.px s.py 2).1),ah (qtx (dA S.a S.b S.h s.px s.py 2).2),ah [],ah [],ah [],ah [],ah [],ah []] U8 ?_;refine Um (j:=0) U12 ?_;refine Ug [4,6,7,8] d Z ?_;exact Uq 0 mup (hn_ [4,6,7,8] Z) ⟨f,trivial,Z,Z⟩
  refine Uv U5 (fun f=>?_);refine Ux [[.int .u8 111],[.int .u8 (49+(i:Int))]] U12 (fun av ax _ J=>?_);refine VE (show Sl _ 1 _ (([111,UInt8.ofNat (49+i)]:Str).map fun b=>[.int .u8 b.toNat]) from by rw [<- mU i T];exact J.mono mup) U11 fl_ ?_;refine Uu [.int .i64 (1+((s.kind % 3:Nat):Int)),ah [111,UInt8.ofNat (49+i)],ah (qtx (dA S.a S.b S.h s.px s.py 2).1),ah (qtx (dA S.a S.b S.h s.px s.py 2).2),ah [],ah [],ah [],ah [],ah [],ah []] U8 ?_;refine Um (j:=0) U12 ?_;refine Ug [4,6,7,8] d Z ?_;exact Uq 0 mup (hn_ [4,6,7,8] Z) ⟨f,trivial,Z,Z⟩
 obtain ⟨f,_,rfl,rfl⟩:=o;refine Uf fun R d=>?_;refine Uc (bkT W 2) U8 ?_;refine Ue U6 ?_;refine Uj af U9 ?_;refine Uo (qB _ r.m_ _ _ _ (dA S.a S.b S.h s.px s.py 2) U.m_ hG ap aq) U7 ?_;refine C4 5 [4,6,7,8,9] d Z ?_;refine Ua 2 [4,6,7,8,42] Z ?_;refine G.cut (fun fr C' l m=>(True)/\fr=[(4,[],.pointer (some ⟨y,0,none⟩)),(6,[],.pointer (some ⟨g,0,none⟩)),(8,[],.pointer (some ⟨f,0,none⟩))]/\l=[.obj f (.cells ⟨[.int .i64 (1+((s.kind % 3:Nat):Int)),ah [111,UInt8.ofNat (49+i)],ah (qtx p.1),ah (qtx p.2),ah [],ah [],ah [],ah [],ah [],ah []]⟩ 62 (0,0)),.obj g (.cells ⟨[.int .i64 0,ah [],ah [],ah [],ah [],ah [],ah [],ah [],ah [],ah []]⟩ 62 (0,0))]) ?_ (fun fr _ aT m _ o=>?_)
 ·refine Ud (fun X=>?_) fun X=>?_
  ·have ay:lP (cD (S.kd % 8) S.a S.b S.h) (shT (S.kd % 8)) (dA S.a S.b S.h s.px s.py 2)=[]:=by simpa using X
   have aj:s.depth % (cD (S.kd % 8) S.a S.b S.h).length<(cD (S.kd % 8) S.a S.b S.h).length:=Q2 _ ae;have Y:p=(cD (S.kd % 8) S.a S.b S.h)[s.depth % (cD (S.kd % 8) S.a S.b S.h).length]:=by
    rw [<- x,lH,aA (by rw [ay];simp),al,ak aj,Rx]
   have hp:(cD (S.kd % 8) S.a S.b S.h)[s.depth % (cD (S.kd % 8) S.a S.b S.h).length]?=some p:=by rw [Y];exact ak aj
   refine Uy [0,1,2,3,4,5,6,7,8,9,10,11,12] [(4,0)] Z kr_ (fun R F d=>?_);refine Ue U6 ?_;refine Uc (bkT W 1) U8 ?_;refine Ue U6 ?_;refine Uc (bkT k 1) U8 ?_;refine Vi (c:=(s.depth:Int)) U8 (wrap_i64 om_ om_) U2 ?_;refine Ue U6 ?_;refine Uc (bkT W 1) U8 ?_;refine Ue U6 ?_;refine U1 (s.depth) ((cD (S.kd % 8) S.a S.b S.h).length) U6 ae U2 ?_;refine Us V.m_ U10 om_ (bV hp) fl_ (fun aU az=>?_);refine Uc az U8 ?_;refine Ue U6 ?_;refine Um (j:=0) U12 ?_;refine Ug [4,6,8] d Z ?_;refine Uq 0 (Mem.le.refl _) (hn_ [4,6,8] Z) ⟨trivial,Z,Z⟩
  have aB:lP (cD (S.kd % 8) S.a S.b S.h) (shT (S.kd % 8)) (dA S.a S.b S.h s.px s.py 2)≠[]:=by simpa using X
  have Y:p=dA S.a S.b S.h s.px s.py 2:=by rw [<- x,lH,aH aB]
  subst Y;refine Uq 0 (Mem.le.refl _) (hn_ [4,6,8] Z) ⟨trivial,Z,Z⟩
 obtain ⟨_,rfl,rfl⟩:=o;refine Uf fun R d=>?_;refine Uu ([ah [65],ah [66],ah [67]]) U8 ?_;refine Uv U5 (fun aC=>?_);refine Um (j:=0) U12 ?_;refine Ug [4,6,8,11] d Z ?_;refine G.freeze 0 Z (fun _ _ K=>?_);refine Uy [0,1,2,3,4,5,6,7,8,9,10,11] [(4,0),(9,0)] Z kr_ (fun R F d=>?_);refine Ue U6 ?_;refine UA (3) U9 ag U2 ?_;refine Uc (bkT k 1) U8 ?_;refine U1 (s.u0) (3) U6 om_ U2 ?_;refine Vi (c:=((s.u0 % 3:Nat):Int)) U8 (wrap_i64 om_ om_) U2 ?_;refine Ue U6 ?_;refine UA (4) U9 ag U2 ?_;refine Uc (bkT k 1) U8 ?_;refine U1 (s.u1) (3) U6 om_ U2 ?_;refine Vi (c:=((s.u1 % 3:Nat):Int)) U8 (wrap_i64 om_ om_) U2 ?_;refine C4 2 [4,6,8,11,12,13] d Z ?_;refine Ub 1 Z fun R d=>?_;refine Uj af U9 ?_;refine C4 1 [4,6,8,11,12,13,68] d Z ?_;refine Ud (fun L=>?_) fun L=>?_
 ·have A:s.kind % 3=0:=by
   have:=dS L;omega
  refine Ub 1 Z fun R d=>?_;refine UA ((s.u1 % 3)) U9 (fun _=>⟨by omega,by omega,(by show s.u1 % 3=0+(s.u1 % 3)*1;omega)⟩) U2 ?_;refine Vs (PtrTo.blockT (Mem.get K mup) (s.u1 % 3) 1) U6 (show cG _ ((([ah [65],ah [66],ah [67]]:List Value).drop (s.u1 % 3)).take 1)=some (ah (rm (s.u1 % 3))) from by rw [BB _ om_];rfl) Z ?_;refine Ue U6 ?_;refine Um (j:=0) U12 ?_;refine Ug [6,8] d Z ?_;refine Uf fun R d=>?_;refine Uj af U9 ?_;refine Um (j:=1) U12 ?_;refine Ug [6] d Z ?_;refine Un (UU af U4 ?_);exact ⟨Z,by unfold fK;rw [aH A,x,A];rfl⟩
 have A:¬ s.kind % 3=0:=by
  intro e;rw [e] at L;exact absurd L dc_
 refine Ua 3 [4,6,8,11,12,13,76] Z ?_;refine G.cut (fun fr C' l m=>(True)/\fr=[(4,[],.pointer (some ⟨y,0,none⟩)),(6,[],.pointer (some ⟨g,0,none⟩)),(8,[],.pointer (some ⟨f,0,none⟩)),(11,[],.pointer (some ⟨aC,0,none⟩)),(12,[],.int .i64 (lo:Nat)),(13,[],.int .i64 (up:Nat))]/\l=[.obj f (.cells ⟨[.int .i64 (1+((s.kind % 3:Nat):Int)),ah [111,UInt8.ofNat (49+i)],ah (qtx p.1),ah (qtx p.2),ah [],ah [],ah [],ah [],ah [],ah []]⟩ 62 (0,0)),.obj g (.cells ⟨[.int .i64 0,ah [],ah [],ah [],ah [],ah [],ah [],ah [],ah [],ah []]⟩ 62 (0,0))]) ?_ (fun fr _ aV m _ o=>?_)
 ·refine Ud (fun M=>?_) fun M=>?_
  ·have B:s.u0 % 3=s.u1 % 3:=by
    have:=dS M;omega
   have aa:lo=0:=by rw [<- v,loU,aH B]
   have ab:up=1+s.u1 % 3 % 2:=by rw [<- w,upU,aH B]
   subst aa;subst ab;refine Ub 1 Z fun R d=>?_;refine U1 ((s.u1 % 3)) (2) U6 om_ U2 ?_;refine Ul _ U7 ?_;refine C4 2 [4,6,8,11,12,13] d Z ?_;refine Uq 0 (Mem.le.refl _) (hn_ [4,6,8,11,12,13] Z) ⟨trivial,Z,Z⟩
  have B:¬ s.u0 % 3=s.u1 % 3:=by
   intro e;rw [e,beq_self_eq_true] at M;exact absurd M dc_
  have aa:lo=s.u0 % 3:=by rw [<- v,loU,aA B]
  have ab:up=s.u1 % 3:=by rw [<- w,upU,aA B]
  subst aa;subst ab;refine Uq 0 (Mem.le.refl _) (hn_ [4,6,8,11,12,13] Z) ⟨trivial,Z,Z⟩
 obtain ⟨_,rfl,rfl⟩:=o;refine G.cut (fun fr C' l m=>(True)/\fr=[(4,[],.pointer (some ⟨y,0,none⟩)),(6,[],.pointer (some ⟨g,0,none⟩)),(8,[],.pointer (some ⟨f,0,none⟩))]/\l=[.obj f (.cells ⟨[.int .i64 (1+((s.kind % 3:Nat):Int)),ah [111,UInt8.ofNat (49+i)],ah (qtx p.1),ah (qtx p.2),ah [],ah (rm (max lo up)),ah (rm (min lo up)),ah [],ah [],ah []]⟩ 62 (0,0)),.obj g (.cells ⟨[.int .i64 0,ah [],ah [],ah [],ah [],ah [],ah [],ah [],ah [],ah []]⟩ 62 (0,0))]) ?_ (fun fr aW aX m aY o=>?_)
 ·refine UW (.cut [0,1,2,3,4,5,6,7,8,10] (.alt 9 (.fin [11,12,13]) (.alt 11 (.fin [9,12,13]) .stop))) [] Z Z kr_ (fun R F d I=>?_);refine Uh 2 Z ?_;refine D.max (((max lo up:Nat):Int)) U6 om_ U2 ?_;refine UA ((max lo up)) U9 (fun _=>⟨by omega,by omega,(by show max lo up=0+(max lo up)*1;omega)⟩) U2 ?_;refine Vs (PtrTo.blockT (Mem.get K mup) (max lo up) 1) U6 (show cG _ ((([ah [65],ah [66],ah [67]]:List Value).drop (max lo up)).take 1)=some (ah (rm (max lo up))) from by rw [BB _ om_];rfl) Z ?_;refine Uh 2 Z ?_;refine D.min (((min lo up:Nat):Int)) Z Z Z Z Z Z om_ Z Z ?_;refine UA ((min lo up)) U9 (fun _=>⟨by omega,by omega,(by show min lo up=0+(min lo up)*1;omega)⟩) U2 ?_;refine Ue U6 ?_;refine UL I Z ⟨?_, ?_,trivial⟩
  ·refine Vs (PtrTo.blockT (Mem.get K mup) (min lo up) 1) U6 (show cG _ ((([ah [65],ah [66],ah [67]]:List Value).drop (min lo up)).take 1)=some (ah (rm (min lo up))) from by rw [BB _ om_];rfl) Z ?_;refine Um (j:=0) U12 ?_;refine Ue U6 ?_;refine Um (j:=0) U12 ?_;refine Ug [4,6,8] d Z ?_;exact Uq 0 mup (hn_ [4,6,8] Z) ⟨trivial,Z,Z⟩
  refine Um (j:=0) U12 ?_;refine Vs (PtrTo.blockT (Mem.get K mup) (min lo up) 1) U6 (show cG _ ((([ah [65],ah [66],ah [67]]:List Value).drop (min lo up)).take 1)=some (ah (rm (min lo up))) from by rw [BB _ om_];rfl) Z ?_;refine Ue U6 ?_;refine Um (j:=0) U12 ?_;refine Ug [4,6,8] d Z ?_;exact Uq 0 mup (hn_ [4,6,8] Z) ⟨trivial,Z,Z⟩
 obtain ⟨_,rfl,rfl⟩:=o;refine Ub 1 Z fun R d=>?_;refine Uj af U9 ?_;refine C4 1 [4,6,8,94] d Z ?_;refine Ud (fun N=>?_) fun N=>?_
 ·have O:s.kind % 3=1:=by
   have:=dS N;omega
  refine Ub 1 Z fun R d=>?_;refine Uc (bkT k 1) U8 ?_;refine U1 (s.depth) (12) U6 om_ U2 ?_;refine UQ (c:=((s.depth % 12:Nat):Int)) U8 (wrap_i64 om_ om_) fl_ ?_;refine Ur (Fp _ r.m_ ((s.depth % 12:Nat):Int) 2 om_ om_ om_) U7 fl_ ?_;refine Uh 4 Z ?_;refine Um (j:=0) U12 ?_;refine Ug [6,8] d Z ?_;refine Uf fun R d=>?_;refine Uj af U9 ?_;refine Um (j:=1) U12 ?_;refine Ug [6] d Z ?_;refine Un (UU af U4 ?_);exact ⟨Z,by unfold fK;rw [aA A,aH O,x,v,w,O];rfl⟩
 have O:¬ s.kind % 3=1:=by
  intro e;rw [e] at N;exact absurd N dc_
 have aD:s.kind % 3=2:=by omega
 refine Ub 1 Z fun R d=>?_;refine UA (8) U9 ag U2 ?_;refine Uc (bkT k 1) U8 ?_;refine Vh (s.n2.tmod 5) U6 dc_ U3 ?_;refine UQ (c:=(s.n2.tmod 5)) U8 (wrap_i64 om_ om_) fl_ ?_;refine C4 1 [4,6,8,14] d Z ?_;refine Ua 2 [4,6,8,14,111] Z ?_;refine G.cut (fun fr C' l m=>(True)/\fr=[(4,[],.pointer (some ⟨y,0,none⟩)),(6,[],.pointer (some ⟨g,0,none⟩)),(8,[],.pointer (some ⟨f,0,none⟩)),(14,[],.int .i64 t)]/\l=[.obj f (.cells ⟨[.int .i64 (1+((s.kind % 3:Nat):Int)),ah [111,UInt8.ofNat (49+i)],ah (qtx p.1),ah (qtx p.2),ah [],ah (rm (max lo up)),ah (rm (min lo up)),ah [],ah [],ah []]⟩ 62 (0,0)),.obj g (.cells ⟨[.int .i64 0,ah [],ah [],ah [],ah [],ah [],ah [],ah [],ah [],ah []]⟩ 62 (0,0))]) ?_ (fun fr _ aZ m _ o=>?_)
 ·refine Ud (fun Q=>?_) fun Q=>?_
  ·have ac:s.n2.tmod 5=0:=dS Q;have ad:t=1:=by rw [<- E,fg,aH ac]
   subst ad;refine Ua 1 [4,6,8,14] Z ?_;refine Uq 0 (Mem.le.refl _) (hn_ [4,6,8,14] Z) ⟨trivial,Z,Z⟩
  have ac:¬ s.n2.tmod 5=0:=by
   intro e;rw [e] at Q;exact absurd Q dc_
  have ad:t=s.n2.tmod 5:=by rw [<- E,fg,aA ac]
  subst ad;refine Uq 0 (Mem.le.refl _) (hn_ [4,6,8,14] Z) ⟨trivial,Z,Z⟩
 obtain ⟨_,rfl,rfl⟩:=o;refine Uy [0,1,2,3,4,5,6,7,8,9,10,11,12,13,14,15,16] [(5,1),(11,1),(13,1),(4,0),(10,0)] Z kr_ (fun R F d=>?_);refine Ue U6 ?_;refine UA (6) U9 ag U2 ?_;refine Uc (bkT k 1) U8 ?_;refine Vh (s.n0.tmod 5) U6 dc_ U3 ?_;refine Vi (c:=(s.n0.tmod 5)) U8 (wrap_i64 om_ om_) U2 ?_;refine Uz (fun _=>(li _ r.m_ (s.n0.tmod 5) om_)) U9 ?_;refine Ue U6 ?_;refine UA (7) U9 ag U2 ?_;refine Uc (bkT k 1) U8 ?_;refine Vh (s.n1.tmod 5) U6 dc_ U3 ?_;refine Vi (c:=(s.n1.tmod 5)) U8 (wrap_i64 om_ om_) U2 ?_;refine Uz (fun _=>(li _ r.m_ (s.n1.tmod 5) om_)) U9 ?_;refine Ue U6 ?_;refine Uz (fun _=>(li _ r.m_ t om_)) U9 ?_;refine Uu [ah (qtx ((s.n0.tmod 5:Int):Rat)),ah (qtx ((s.n1.tmod 5:Int):Rat)),ah (qtx ((t:Int):Rat))] U8 ?_;refine Ue U6 ?_;refine Um (j:=0) U12 ?_;refine Ug [6,8] d Z ?_;refine Uf fun R d=>?_;refine Uj af U9 ?_;refine Um (j:=1) U12 ?_;refine Ug [6] d Z ?_;refine Un (UU af U4 ?_);exact ⟨Z,by unfold fK;rw [aA A,aA O,x,v,w,E,aD];rfl⟩
def Dn:Sgt:=⟨0,0,0,0,0,0,0,0,0⟩
def colK:List Lay:=[⟨[65],0,none⟩,⟨[66],0,some 5⟩,⟨[67],1,none⟩]
theorem I9:qtx 5=[53]:=by
 show qtx ((5:Int):Rat)=_;rw [mR];decide +kernel
theorem Ku:colK.map yT=[[ah [65],ah [48],ah []],[ah [66],ah [48],ah [53]],[ah [67],ah [49],ah []]]:=by
 simp only [colK,List.map,yT,vy,qtx_zero,dy,I9]
def qT (S:Sht)(l:List Sgt):List Obs:=(List.range (min l.length 6)).map fun i=>fK S (l.getD i Dn) i
def cm (S:Sht)(H:Hts)(l:List Sgt):Bk:=⟨cD (S.kd % 8) S.a S.b S.h,shT (S.kd % 8),(fsK (cD (S.kd % 8) S.a S.b S.h).length H).map qtx,colK,qT S l⟩
theorem jI (S:Sht)(l:List Sgt):(qT S l).length=min l.length 6:=by simp [qT]
theorem F8 (S:Sht){l:List Sgt}{s:Sgt}(h:l[i]?=some s)(a:i<6):(qT S l)[i]?=some (fK S s i):=by
 have h1:=(aF.1 h).1;rw [qT,Ql,QY om_];show some (fK S (l.getD i Dn) i)=_;rw [al,h];rfl
theorem Gm (C:Mem)(q:Tabs C)(S:Sht)(H:Hts)(U:Value)(l:List Sgt)(V:S.kd<256)(A:PG H)(L:Sl C 9 U (l.map N2))(hs:∀ s∈l,SgtR s)(hG:Good (cD (S.kd % 8) S.a S.b S.h) (shT (S.kd % 8))) :
  Pur cx.P 34 [.agg ⟨MI S H U⟩] C fun u D=>BookIn D u (cm S H l):=by
 obtain ⟨As,cs,rfl,ag,ar,_⟩:=id L;have au:maxLen<=9223372036854775807:=by simp [maxLen]
 simp only [aw] at L ag ⊢;have av:=lG (S.kd % 8) S.a S.b S.h;refine Uk func34 44 U3 fun w0=>?_;refine Uf fun R f=>?_;refine Uw U6 (fun W=>?_);refine Uv U5 (fun v=>?_);refine Ug [1,2] f Z ?_;refine G.freeze 1 Z (fun _ _ B=>?_);refine Ub 1 Z fun R f=>?_;refine Uc (bkT B 4) U8 ?_;refine UM (wP _ q.m_ S.kd S.a S.b S.h V) U7 (fun v8 _ _ X=>?_);obtain ⟨v1,v2,rfl,M,N⟩:=id X.ex;obtain ⟨k,n,rfl,ai,ay,_⟩:=id M;obtain ⟨A2,c2,rfl,_,_,_⟩:=id N;simp only [aw] at M N ai X ⊢;refine Uv U5 (fun b3=>?_);refine Um (j:=0) U12 ?_;refine Ug [1,2,3] f Z ?_;refine G.freeze 0 Z (fun _ _ Y=>?_);refine G.cut (fun fr C' E O=>∃ (c:Option Addr)(d:Nat)(x:Value)(g:Nat),(Sl C' 1 (.slice c (fsK (cD (S.kd % 8) S.a S.b S.h).length H).length d) ((fsK (cD (S.kd % 8) S.a S.b S.h).length H).map fw)/\Sl C' 3 x [[ah [65],ah [48],ah []],[ah [66],ah [48],ah [53]],[ah [67],ah [49],ah []]])/\fr=[(1,[],.pointer (some ⟨W,0,none⟩)),(2,[],.pointer (some ⟨v,0,none⟩)),(4,[],.pointer (some ⟨g,0,none⟩))]/\E=[.obj g (.cells ⟨[.slice k (cD (S.kd % 8) S.a S.b S.h).length n,.slice A2 (shT (S.kd % 8)).length c2,.slice c (fsK (cD (S.kd % 8) S.a S.b S.h).length H).length d,x,.slice none 0 0]⟩ 42 (0,0)),.obj v (.cells ⟨[.slice none 0 0,.slice none 0 0,.slice none 0 0,.slice none 0 0,.slice none 0 0]⟩ 42 (0,0))]) ?_ (fun fr az aA O aB Q=>?_)
 ·refine UW (.cut [0,1,2,3,5,6,7] (.alt 4 (.cut [] (.alt 8 (.fin [9,10,11]) (.alt 10 (.fin [8,9,11]) .stop))) (.alt 8 (.cut [] (.alt 4 (.fin [9,10,11]) (.alt 10 (.fin [4,9,11]) .stop))) (.alt 10 (.cut [] (.alt 4 (.fin [8,9,11]) (.alt 8 (.fin [4,9,11]) .stop))) .stop)))) [] Z Z kr_ (fun R hB f F=>?_);refine Uc (bkT Y 2) U8 ?_;refine Uc (bkT Y 2) U8 ?_;refine Ue U6 ?_;refine Uc (bkT B 7) U8 ?_;refine Uu ([ah [65],ah [48],ah []]) U8 ?_;refine Uu ([ah [66],ah [48],ah [53]]) U8 ?_;refine Uu ([ah [67],ah [49],ah []]) U8 ?_;refine UL F Z ⟨?_, ?_, ?_,trivial⟩
  ·refine UH (jg _ q.m_ _ _ (cD (S.kd % 8) S.a S.b S.h).length k n H Z om_ A) U7 fl_ (fun I J _ e=>?_);refine UL F Z ⟨?_, ?_,trivial⟩
   ·refine UO [[ah [65],ah [48],ah []],[ah [66],ah [48],ah [53]],[ah [67],ah [49],ah []]] U12 fl_ (fun o K _ p=>?_);obtain ⟨c,d,rfl,_,_,_⟩:=id e;simp only [aw] at e ⊢;refine Uu [.slice k (cD (S.kd % 8) S.a S.b S.h).length n,.slice A2 (shT (S.kd % 8)).length c2,.slice c (fsK (cD (S.kd % 8) S.a S.b S.h).length H).length d,.slice (some ⟨o,0,none⟩) 3 3,.slice none 0 0] U8 ?_;refine Uv U5 (fun g=>?_);refine Um (j:=0) U12 ?_;refine Ug [1,2,4] f Z ?_;exact Uq 0 mup (hn_ [1,2,4] Z) ⟨c,d,_,g,⟨e.mono mup,p.mono mup⟩,Z,Z⟩
   refine Uv U5 (fun g=>?_);refine UO [[ah [65],ah [48],ah []],[ah [66],ah [48],ah [53]],[ah [67],ah [49],ah []]] U12 fl_ (fun o K _ p=>?_);obtain ⟨c,d,rfl,_,_,_⟩:=id e;simp only [aw] at e ⊢;refine Uu [.slice k (cD (S.kd % 8) S.a S.b S.h).length n,.slice A2 (shT (S.kd % 8)).length c2,.slice c (fsK (cD (S.kd % 8) S.a S.b S.h).length H).length d,.slice (some ⟨o,0,none⟩) 3 3,.slice none 0 0] U8 ?_;refine Um (j:=0) U12 ?_;refine Ug [1,2,4] f Z ?_;exact Uq 0 mup (hn_ [1,2,4] Z) ⟨c,d,_,g,⟨e.mono mup,p.mono mup⟩,Z,Z⟩
  ·refine UO [[ah [65],ah [48],ah []],[ah [66],ah [48],ah [53]],[ah [67],ah [49],ah []]] U12 fl_ (fun o K _ p=>?_);refine UL F Z ⟨?_, ?_,trivial⟩
   ·refine UH (jg _ q.m_ _ _ (cD (S.kd % 8) S.a S.b S.h).length k n H Z om_ A) U7 fl_ (fun I J _ e=>?_);obtain ⟨c,d,rfl,_,_,_⟩:=id e;simp only [aw] at e ⊢;refine Uu [.slice k (cD (S.kd % 8) S.a S.b S.h).length n,.slice A2 (shT (S.kd % 8)).length c2,.slice c (fsK (cD (S.kd % 8) S.a S.b S.h).length H).length d,.slice (some ⟨o,0,none⟩) 3 3,.slice none 0 0] U8 ?_;refine Uv U5 (fun g=>?_);refine Um (j:=0) U12 ?_;refine Ug [1,2,4] f Z ?_;exact Uq 0 mup (hn_ [1,2,4] Z) ⟨c,d,_,g,⟨e.mono mup,p.mono mup⟩,Z,Z⟩
   refine Uv U5 (fun g=>?_);refine UH (jg _ q.m_ _ _ (cD (S.kd % 8) S.a S.b S.h).length k n H Z om_ A) U7 fl_ (fun I J _ e=>?_);obtain ⟨c,d,rfl,_,_,_⟩:=id e;simp only [aw] at e ⊢;refine Uu [.slice k (cD (S.kd % 8) S.a S.b S.h).length n,.slice A2 (shT (S.kd % 8)).length c2,.slice c (fsK (cD (S.kd % 8) S.a S.b S.h).length H).length d,.slice (some ⟨o,0,none⟩) 3 3,.slice none 0 0] U8 ?_;refine Um (j:=0) U12 ?_;refine Ug [1,2,4] f Z ?_;exact Uq 0 mup (hn_ [1,2,4] Z) ⟨c,d,_,g,⟨e.mono mup,p.mono mup⟩,Z,Z⟩
  refine Uv U5 (fun g=>?_);refine UL F Z ⟨?_, ?_,trivial⟩
  ·refine UH (jg _ q.m_ _ _ (cD (S.kd % 8) S.a S.b S.h).length k n H Z om_ A) U7 fl_ (fun I J _ e=>?_);refine UO [[ah [65],ah [48],ah []],[ah [66],ah [48],ah [53]],[ah [67],ah [49],ah []]] U12 fl_ (fun o K _ p=>?_);obtain ⟨c,d,rfl,_,_,_⟩:=id e;simp only [aw] at e ⊢;refine Uu [.slice k (cD (S.kd % 8) S.a S.b S.h).length n,.slice A2 (shT (S.kd % 8)).length c2,.slice c (fsK (cD (S.kd % 8) S.a S.b S.h).length H).length d,.slice (some ⟨o,0,none⟩) 3 3,.slice none 0 0] U8 ?_;refine Um (j:=0) U12 ?_;refine Ug [1,2,4] f Z ?_;exact Uq 0 mup (hn_ [1,2,4] Z) ⟨c,d,_,g,⟨e.mono mup,p.mono mup⟩,Z,Z⟩
  refine UO [[ah [65],ah [48],ah []],[ah [66],ah [48],ah [53]],[ah [67],ah [49],ah []]] U12 fl_ (fun o K _ p=>?_);refine UH (jg _ q.m_ _ _ (cD (S.kd % 8) S.a S.b S.h).length k n H Z om_ A) U7 fl_ (fun I J _ e=>?_);obtain ⟨c,d,rfl,_,_,_⟩:=id e;simp only [aw] at e ⊢;refine Uu [.slice k (cD (S.kd % 8) S.a S.b S.h).length n,.slice A2 (shT (S.kd % 8)).length c2,.slice c (fsK (cD (S.kd % 8) S.a S.b S.h).length H).length d,.slice (some ⟨o,0,none⟩) 3 3,.slice none 0 0] U8 ?_;refine Um (j:=0) U12 ?_;refine Ug [1,2,4] f Z ?_;exact Uq 0 mup (hn_ [1,2,4] Z) ⟨c,d,_,g,⟨e.mono mup,p.mono mup⟩,Z,Z⟩
 obtain ⟨c,d,x,g,⟨aj,aa⟩,rfl,rfl⟩:=Q;refine Ua 1 [1,2,4,5] Z ?_;refine G.nilArr 62 10 ?_;refine G.perm (L':=[.obj g (.cells ⟨[.slice k (cD (S.kd % 8) S.a S.b S.h).length n,.slice A2 (shT (S.kd % 8)).length c2,.slice c (fsK (cD (S.kd % 8) S.a S.b S.h).length H).length d,x,.slice none 0 0]⟩ 42 (0,0)),.arr (.slice none 0 0) 62 10 0 [],.obj v (.cells ⟨[.slice none 0 0,.slice none 0 0,.slice none 0 0,.slice none 0 0,.slice none 0 0]⟩ 42 (0,0))]) (List.Perm.swap _ _ _) ?_;refine G.loop (fun fr C' E O=>∃ (i:Nat)(w:Value),(i<=l.length/\i<=6)/\fr=[(1,[],.pointer (some ⟨W,0,none⟩)),(2,[],.pointer (some ⟨v,0,none⟩)),(4,[],.pointer (some ⟨g,0,none⟩)),(5,[],.int .i64 i)]/\E=[.obj g (.cells ⟨[.slice k (cD (S.kd % 8) S.a S.b S.h).length n,.slice A2 (shT (S.kd % 8)).length c2,.slice c (fsK (cD (S.kd % 8) S.a S.b S.h).length H).length d,x,w]⟩ 42 (0,0)),.arr w 62 10 ((qT S l).take i).length (((qT S l).take i).map Ia).flatten,.obj v (.cells ⟨[.slice none 0 0,.slice none 0 0,.slice none 0 0,.slice none 0 0,.slice none 0 0]⟩ 42 (0,0))]/\O=6-i) (hn_ [1,2,4,5] Z) ⟨0,.slice none 0 0,⟨Qn _,Qn _⟩,Z,Z,Z⟩ (fun fr aC aD m _ Q=>?_);obtain ⟨i,w,⟨hi,aE⟩,rfl,rfl,rfl⟩:=Q;refine Ub 2 Z fun R f=>?_;refine Uc (bkT B 1) U8 ?_;refine Uh 5 Z ?_;refine UD U8 ?_;refine Ug [1,2,4,5,27] f Z ?_;refine Ud (fun t=>?_) fun t=>?_
 ·have z:i<l.length/\i<6:=by
   by_cases h1:((i:Nat):Int)<(l.length:Nat)
   ·rw [QD h1] at t;have h2:=aV t;omega
   rw [QK h1] at t;exact absurd t am
  obtain ⟨s,T⟩:∃ s,l[i]?=some s:=⟨l[i]'z.1,ak z.1⟩;have al:(qT S l).take (i+1)=(qT S l).take i++[fK S s i]:=by rw [QJ,F8 S T z.2];rfl
  have aF:((qT S l).take i).length<=6:=by rw [Qz,jI];omega
  refine Uy [0,1,2,3,4,5,6,7,8,9,10,11,12,13] [] Z kr_ (fun R hB f=>?_);refine Ue U6 ?_;refine Uj af U9 ?_;refine Uc (bkT B 12) U8 ?_;refine Ue U6 ?_;refine Uc (bkT B 1) U8 ?_;refine Ue U6 ?_;refine Us L.m_ U10 om_ (bV T) fl_ (fun aG an=>?_);refine Uc an U8 ?_;refine Ue U6 ?_;refine UM (rj _ q.m_ S s H _ i z.2 V (hs s (Qi T)) hG) U7 (fun aH _ _ ao=>?_);subst ao;refine Ux [Ia (fK S s i)] U12 (fun aI _ _ ap=>?_);refine UG (j:=1) U11 ap.m_ Z ax (by simp only [PH];omega) fl_ (fun ab ac ad=>?_);refine Ue U6 ?_;refine Um (j:=1) U12 ?_;refine Ug [1,2,4,5] f Z ?_;refine Ub 1 Z fun R f=>?_;refine Ul _ U7 ?_;refine C4 1 [1,2,4,5] f Z ?_;refine Ut (L':=[.obj g (.cells ⟨[.slice k (cD (S.kd % 8) S.a S.b S.h).length n,.slice A2 (shT (S.kd % 8)).length c2,.slice c (fsK (cD (S.kd % 8) S.a S.b S.h).length H).length d,x,.slice ab ac ad]⟩ 42 (0,0)),.arr (.slice ab ac ad) 62 10 ((qT S l).take (i+1)).length (((qT S l).take (i+1)).map Ia).flatten,.obj v (.cells ⟨[.slice none 0 0,.slice none 0 0,.slice none 0 0,.slice none 0 0,.slice none 0 0]⟩ 42 (0,0))]) (by rw [al,QX,Q8,Qp];rfl) ?_;refine Up (m':=6-(i+1)) om_ mup (hn_ [1,2,4,5] Z) ⟨i+1,_,⟨by omega,by omega⟩,Z,Z,Z⟩
 have z:i=min l.length 6:=by
  by_cases h1:((i:Nat):Int)<(l.length:Nat)
  ·rw [QD h1] at t;have h2:=Qm t;omega
  omega
 have aq:(qT S l).take i=qT S l:=Q0 (by rw [z,jI];exact Qj _);rw [aq];refine G.freezeArr 1 ((qT S l).map Ia) rfl rfl (by intro r hr;obtain ⟨y,_,rfl⟩:=Qt.1 hr;rfl) (by rw [aw]) (fun Cg hg ae=>?_);obtain ⟨Aw,cw,rfl,_⟩:=id ae;obtain ⟨Ap,cp,rfl,_⟩:=id aa;refine Uf fun R f=>?_;refine Uj af U9 ?_;refine Um (j:=1) U12 ?_;refine Ug [2] f Z ?_;refine Un (UU af U4 ?_);exact ⟨Z,_,_,_,_,_,Z,M.mono mup,N.mono mup,(by rw [cm,<- yS];exact aj.mono mup),(by rw [cm,Ku];exact aa.mono mup),ae⟩
instance:DecidableEq RowQ:=fun a b=>decidable_of_iff (a.f=b.f/\a.b=b.b) (by cases a;cases b;simp)
instance (k:Nat) (q:Rat):Decidable (QB k q):=by unfold QB;infer_instance
instance (k:Nat) (p:Pt):Decidable (QP k p):=by unfold QP;infer_instance
instance (n:Nat) (t:Tri):Decidable (ry n t):=by unfold ry;infer_instance
theorem tW {z:Int}(h:txt z=s):qtx ((z:Int):Rat)=s:=by rw [mR,h]
theorem Mx:qtx 2=[50]:=tW (z:=2) aq
theorem yt (q:Rat)(h:qtx q=s)(a:QB 22 q):dx s=q:=by rw [<- h];exact dh (bP a)
theorem ro0:dx [48]=0:=yt 0 qtx_zero aq
theorem LS (a:List Pt)(t:Tri)(p:Pt)(j:Nat):wgt a t p j=wgt a t p (j % 3):=by
 unfold wgt;rw [show (j+1) % 3=(j % 3+1) % 3 by omega,show (j+2) % 3=(j % 3+2) % 3 by omega]
theorem Iq (t:Tri)(j:Nat):mD t j=mD t (min j 2):=by
 unfold mD;rcases (by omega:j=0∨j=1∨2<=j) with h | h | h
 ·subst h;rfl
 ·subst h;rfl
 rw [Nat.min_eq_right h,aA om_,aA om_];rfl
theorem q6:qtx 6=[54]:=by decide +kernel
def Jf (m:Nat)(u v:Int)(h:Bool):List Pt:=(shP m).map fun p=>(kR (p.1+u*1) (dT h*1),kR (p.2+v*1) (dT h*1))
theorem OI (m:Nat)(a b:Int)(h:Bool):cD m a b h=Jf m (a.tmod 8) (b.tmod 8) h:=rfl
def pU (pts:List Pt)(tris:List Tri):Bool :=
 pts.all (fun p=>decide (QP 1 p)) && (decide pts.Nodup && (tris.all (fun t=>decide (ry pts.length t)) && (tris.all (fun t=>decide (0<dE (pts.getD t.1 (0,0)) (pts.getD t.2.1 (0,0)) (pts.getD t.2.2 (0,0)))) && (decide (cY tris).Nodup && (nk pts tris && pts.all fun p=>decide (lP pts tris p≠[]))))))
theorem all0:∀ i<15,∀ j<15,∀ h:Bool,pU (Jf 0 ((i:Nat)-7) ((j:Nat)-7) h) (shT 0)=true:=by decide +kernel
theorem sh1 (a:cX n=true)(b:cX u=true)(c:ba x=true)(d:ba y=true):dO ⟨1,n,x,y,[],u,[],[],[],[]⟩=0:=by
 unfold dO;rw [aA am,aA (by simp [kL,a,b]),aA (by simp [lL,c,d]),aA (by simp [kP])]
theorem sh2 {d l:Str}(a:cX n=true)(b:cX u=true)(c:cX l=true)(e:ba x=true)(f:ba y=true)(g:ba d=true):dO ⟨2,n,x,y,d,u,l,[],[],[]⟩=0:=by
 unfold dO;rw [aA am,aA (by simp [kL,a,b,c]),aA (by simp [lL,e,f,g]),aA (by simp [kP])]
theorem sh3 {l a b c:Str}(d:cX n=true)(e:cX u=true)(f:cX l=true)(g:ba x=true)(h:ba y=true)(i:ba a=true)(j:ba b=true)(k:ba c=true):dO ⟨3,n,x,y,[],u,l,a,b,c⟩=0:=by
 unfold dO;rw [aA am,aA (by simp [kL,d,e,f]),aA (by simp [lL,g,h,i,j,k]),aA (by simp [kP])]
theorem pS (j:Nat)(a:j<3):kf (isU (rm j)) colK 0=(j:Int):=by
 rcases (by omega:j=0∨j=1∨j=2) with rfl | rfl | rfl <;> decide +kernel
theorem ux (j:Nat)(a:j<3):cX (rm j)=true:=by
 rcases (by omega:j=0∨j=1∨j=2) with rfl | rfl | rfl <;> decide +kernel
theorem MZ (i:Nat)(a:i<6):cX [111,UInt8.ofNat (49+i)]=true:=by
 rcases (by omega:i=0∨i=1∨i=2∨i=3∨i=4∨i=5) with rfl | rfl | rfl | rfl | rfl | rfl <;> decide +kernel
theorem OY {j:Nat}(c:i<6)(d:j<6)(h:([111,UInt8.ofNat (49+i)]:Str)=[111,UInt8.ofNat (49+j)]):i=j:=by
 have e:∀ a<6,∀ b<6,([111,UInt8.ofNat (49+a)]:Str)=[111,UInt8.ofNat (49+b)]->a=b:=by decide
 exact e i c j d h
theorem JH (s:Sgt):min (loU s) (upU s)<max (loU s) (upU s):=by
 unfold loU upU;split <;> omega
theorem dX (z:Int)(h:z.natAbs<100):QB 1 ((z:Int):Rat):=by
 refine ⟨?_, ?_⟩
 ·show z.natAbs<B9 ^ 1;have:B9 ^ 1=1000000000:=by decide
  omega
 show 1<B9 ^ 1;decide
theorem uw (z:Int):fg z≠0:=by
 unfold fg;split
 ·decide
 assumption
theorem nZ (z:Int):-5<fg z/\fg z<5:=by
 have:=nI z;unfold fg;split <;> omega
theorem ok1 (h:QB 1 q):ba (qtx q)=true:=bP (h.le dc_)
theorem sH (n:Nat):QB 1 (kR ((n % 12:Nat):Int) 2):=qm dc_ om_ dc_
theorem NE (n:Nat):¬ (kR ((n % 12:Nat):Int) 2<0):=by
 have a:∀ k<12,¬ (kR ((k:Nat):Int) 2<0):=by decide +kernel
 exact a _ (Q2 _ dc_)
theorem Jy (S:Sht)(s:Sgt)(i:Nat)(m:i<6)(j:QP 1 (lH S s))(n:lP (cD (S.kd % 8) S.a S.b S.h) (shT (S.kd % 8)) (lH S s)≠[]) :
  gC (cD (S.kd % 8) S.a S.b S.h) (shT (S.kd % 8)) colK (fK S s i)=0:=by
 have f:=MZ i m;have c:=ok1 j.1;have hy:=ok1 j.2;have q:=JH s;have r:=M8 s;have t:=LW s;have g:∀ o:Obs,o.x=qtx (lH S s).1->o.y=qtx (lH S s).2->Ib (cD (S.kd % 8) S.a S.b S.h) (shT (S.kd % 8)) o=true:=by
  intro o h1 h2;unfold Ib ptO;rw [h1,h2,dh c,dh hy];exact QD n
 have p:=pS (s.u1 % 3) om_;have d:=pS (max (loU s) (upU s)) om_;have e:=pS (min (loU s) (upU s)) om_;have n1:=ux (s.u1 % 3) om_;have n2:=ux (max (loU s) (upU s)) om_;have k:=ux (min (loU s) (upU s)) om_;unfold fK gC;split
 ·rw [aA (by rw [sh1 f n1 c hy];decide),aA (by rw [g _ rfl rfl];decide),aA (by simp [LX,p] <;> omega),aA (by simp [MS]),aA (by simp [Ki]),aA (by simp [KX])]
 split
 ·have l:=ok1 (sH s.depth);rw [aA (by rw [sh2 f n2 k c hy l];decide),aA (by rw [g _ rfl rfl];decide),aA (by simp only [LX,d,e];simp <;> omega),aA (by simp only [MS,d,e];simp <;> omega),aA (by simp only [Ki];rw [dh l,QK (NE s.depth)];decide),aA (by simp [KX])]
 have h0:=nI s.n0;have h1:=nI s.n1;have h2:=nZ s.n2;rw [aA (by rw [sh3 f n2 k c hy (ok1 (dX _ om_)) (ok1 (dX _ om_)) (ok1 (dX _ om_))];decide),aA (by rw [g _ rfl rfl];decide),aA (by simp only [LX,d,e];simp <;> omega),aA (by simp only [MS,d,e];simp <;> omega),aA (by simp [Ki]),aA ?_];intro h;simp only [KX,Qu,Qs] at h;have h3:=h.2;rw [<- qtx_zero] at h3;have h4:=lF h3;have h5:=uw s.n2;exact h5 (by exact_mod_cast h4)
theorem all1:∀ i<15,∀ j<15,∀ h:Bool,pU (Jf 1 ((i:Nat)-7) ((j:Nat)-7) h) (shT 1)=true:=by decide +kernel
theorem all2:∀ i<15,∀ j<15,∀ h:Bool,pU (Jf 2 ((i:Nat)-7) ((j:Nat)-7) h) (shT 2)=true:=by decide +kernel
theorem all3:∀ i<15,∀ j<15,∀ h:Bool,pU (Jf 3 ((i:Nat)-7) ((j:Nat)-7) h) (shT 3)=true:=by decide +kernel
theorem all4:∀ i<15,∀ j<15,∀ h:Bool,pU (Jf 4 ((i:Nat)-7) ((j:Nat)-7) h) (shT 4)=true:=by decide +kernel
theorem all5:∀ i<15,∀ j<15,∀ h:Bool,pU (Jf 5 ((i:Nat)-7) ((j:Nat)-7) h) (shT 5)=true:=by decide +kernel
theorem all6:∀ i<15,∀ j<15,∀ h:Bool,pU (Jf 6 ((i:Nat)-7) ((j:Nat)-7) h) (shT 6)=true:=by decide +kernel
theorem all7:∀ i<15,∀ j<15,∀ h:Bool,pU (Jf 7 ((i:Nat)-7) ((j:Nat)-7) h) (shT 7)=true:=by decide +kernel
theorem vM (a:Int):∃ i:Nat,i<15/\a.tmod 8=(i:Int)-7:=by
 have h:=yd a;exact ⟨(a.tmod 8+7).toNat,by omega,by omega⟩
theorem ym (m:Nat)(g:m<8)(a b:Int)(h:Bool):pU (cD m a b h) (shT m)=true:=by
 obtain ⟨i,c,e⟩:=vM a;obtain ⟨j,d,f⟩:=vM b;rw [OI,e,f];rcases (by omega:m=0∨m=1∨m=2∨m=3∨m=4∨m=5∨m=6∨m=7) with rfl | rfl | rfl | rfl | rfl | rfl | rfl | rfl
 ·exact all0 i c j d h
 ·exact all1 i c j d h
 ·exact all2 i c j d h
 ·exact all3 i c j d h
 ·exact all4 i c j d h
 ·exact all5 i c j d h
 ·exact all6 i c j d h
 exact all7 i c j d h
theorem Mi:∀ m:Nat,m<8->shT m≠[]/\(shT m).length<=800:=by decide
theorem GU {a:List Pt}{b:List Tri}(h:pU a b=true)(c:b≠[])(d:b.length<=800)(e:a.length<=400):Good a b/\∀ p∈a,lP a b p≠[]:=by
 unfold pU at h;simp only [Qu,Qx,Qs] at h;obtain ⟨f,g,i,j,k,l,m⟩:=h;exact ⟨⟨⟨f,g,i,j,k,d,e⟩,c,l⟩,m⟩
theorem fA (m:Nat)(c:m<8)(a b:Int)(h:Bool):Good (cD m a b h) (shT m)/\∀ p∈cD m a b h,lP (cD m a b h) (shT m) p≠[]:=by
 have d:=lG m a b h;obtain ⟨h0,h1⟩:=Mi m c;exact GU (ym m c a b h) h0 h1 om_
theorem ua (S:Sht)(s:Sgt)(c:SgtR s):QP 1 (lH S s)/\lP (cD (S.kd % 8) S.a S.b S.h) (shT (S.kd % 8)) (lH S s)≠[]:=by
 obtain ⟨d,e⟩:=fA (S.kd % 8) (Q2 _ dc_) S.a S.b S.h;have f:0<(cD (S.kd % 8) S.a S.b S.h).length:=by rw [cD,aw];exact yn _
 unfold lH;split
 ·rename_i h;exact ⟨Bc dc_ dc_ c.px c.py,h⟩
 have g:s.depth % (cD (S.kd % 8) S.a S.b S.h).length<(cD (S.kd % 8) S.a S.b S.h).length:=Q2 _ f;rw [al,ak g,Rx];exact ⟨d.ok.q _ (Rf _),e _ (Rf _)⟩
theorem ic (h:QB 1 q):(qtx q).length<=999998:=wq (fs:=[q]) (k:=1) dc_ (by intro y hy;rw [QF] at hy;rw [hy];exact h) _ (QF.2 rfl)
theorem P2 (S:Sht)(s:Sgt)(i:Nat)(c:SgtR s):ObsR (fK S s i):=by
 have b:=(ua S s c).1;have a:=ic b.1;have hy:=ic b.2;have d:=ic (sH s.depth);have h0:=nI s.n0;have h1:=nI s.n1;have h2:=nZ s.n2;have e:=ic (dX (s.n0.tmod 5) om_);have l1:=ic (dX (s.n1.tmod 5) om_);have l2:=ic (dX (fg s.n2) om_);unfold fK;split
 ·exact ⟨by simp,a,hy,by simp,by simp [rm],by simp,by simp,by simp,by simp⟩
 split
 ·exact ⟨by simp,a,hy,d,by simp [rm],by simp [rm],by simp,by simp,by simp⟩
 exact ⟨by simp,a,hy,by simp,by simp [rm],by simp [rm],e,l1,l2⟩
theorem wG (S:Sht)(s:Sgt)(i:Nat):(fK S s i).name=[111,UInt8.ofNat (49+i)]:=by
 unfold fK;split
 ·rfl
 split <;> rfl
theorem mq {S:Sht}{H:Hts}{l:List Sgt}{o:Obs}(h:(cm S H l).obs[i]?=some o):i<6/\∃ s,l[i]?=some s/\o=fK S s i:=by
 have h1:=(aF.1 h).1;have h2:i<(qT S l).length:=h1;rw [jI] at h2;have h3:=F8 S (ak (show i<l.length by omega)) (show i<6 by omega);have h4:(qT S l)[i]?=some o:=h;rw [h3] at h4;exact ⟨by omega,_,ak om_,(RR h4).symm⟩
theorem sU (S:Sht)(H:Hts)(l:List Sgt)(e:∀ s∈l,SgtR s):ix (cm S H l)=0:=by
 have f:∀ n,n<=(cm S H l).obs.length->qV (cm S H l) n=0:=by
  intro n;induction n with
  | zero=>intro _;rfl
  | succ n g =>
   intro i;have h0:=g om_;have a:(cm S H l).obs[n]?=some (cm S H l).obs[n]:=ak i;rw [uj h0 a];obtain ⟨b,s,j,m⟩:=mq a;rw [m];have c:=ua S s (e s (Qi j));unfold obZ;rw [aA (by
    have:=Jy S s n b c.1 c.2;intro h;exact h this),aA]
   intro hm;obtain ⟨o,p,d⟩:=Qt.1 hm;obtain ⟨k,x,r⟩:=List.mem_take_iff_getElem.1 p;have t:(cm S H l).obs[k]?=some o:=by rw [<- r];exact ak _
   obtain ⟨u,y,_,v⟩:=mq t;rw [v,wG,wG] at d;have:=OY u b d;omega
 unfold ix;have z:(cm S H l).obs.length<=6:=by
  show (qT S l).length<=6;rw [jI];omega
 have h1:BH (cm S H l).pts.length (cm S H l).terr=0:=by
  unfold BH;rw [aH (by show ((fsK _ H).map qtx).length=_;rw [aw,uF];rfl)];show qF (((fsK _ H).map qtx).all ba)=0;rw [xM (fun q w=>ok1 (G3 _ H q w))];rfl
 have h2:sM (cm S H l).col=0:=by
  show sM colK=0;decide +kernel
 rw [aA (by rw [h1];decide),aA (by rw [h2];decide),aA om_];exact f _ (Qj _)
theorem Qa:∀ x∈colK,N7 x:=by
 intro x a;simp only [colK,Qw,Rk,SI] at a;rcases a with rfl | rfl | rfl
 ·exact ⟨by decide +kernel,fun q h=>by simp at h,by decide⟩
 ·exact ⟨by decide +kernel,fun q h=>by simp at h;subst h;decide +kernel,by decide⟩
 exact ⟨by decide +kernel,fun q h=>by simp at h,by decide⟩
theorem HN (S:Sht)(H:Hts)(l:List Sgt)(a:∀ s∈l,SgtR s):BookR (cm S H l):=by
 refine ⟨?_,Qa,(by show colK.length<=1000000;decide), ?_⟩
 ·intro s h;obtain ⟨q,b,rfl⟩:=Qt.1 h;exact ic (G3 _ H q b)
 intro o c;obtain ⟨i,d⟩:=List.mem_iff_getElem?.1 c;obtain ⟨_,s,e,rfl⟩:=mq d;exact P2 S s i (a s (Qi e))
theorem HM (C:Mem)(i:Tabs C)(c:Value)(S:Sht)(H:Hts)(l:List Sgt)(d:∀ s∈l,SgtR s)(e:BookIn C c (cm S H l)):BookZ C c (cm S H l) 0:=by
 have f:=(fA (S.kd % 8) (Q2 _ dc_) S.a S.b S.h).1;refine ⟨e,fun D g=>?_,fun _=>by show colK≠[];decide,by show colK.length<=1000;decide,f.ok.lp⟩;have h2:=kT D (i.mono g) c _ (e.mono g) f (HN S H l d)
 rwa [sU S H l d] at h2
theorem KF (S:Sht)(H:Hts)(l:List Sgt):bs (cm S H l)=2:=rfl
theorem KG (S:Sht)(H:Hts)(l:List Sgt):0<bp (cm S H l)/\bp (cm S H l)<=6:=by
 refine ⟨?_,lG _ _ _ _⟩;show 0<(cD (S.kd % 8) S.a S.b S.h).length;rw [cD,aw];exact yn _
def Ck (C:Mem)(pv:Value)(S:Sht)(H:Hts)(l:List Sgt):Prop:=∃ A c,pv=.agg ⟨MI S H (.slice A l.length c)⟩/\Sl C 9 (.slice A l.length c) (l.map N2)
structure PlanR (S:Sht)(H:Hts)(l:List Sgt):Prop where
 kd:S.kd<256
 h:PG H
 s:∀ s∈l,SgtR s
def KZ (s p:Nat)(a b:Int):Prop:=a<0∨(s:Int)<=a∨b<0∨(p:Int)<=b
instance (s p:Nat) (a b:Int):Decidable (KZ s p a b):=by unfold KZ;infer_instance
def Ll (n:Nat)(x:Int):Prop:=x<0∨(n:Int)<=x
instance (n:Nat) (x:Int):Decidable (Ll n x):=by unfold Ll;infer_instance
open Go Go.Jog Go.ChangeShapes Go.WideShapes Go.ChangeAt Go.RowKit
set_option maxRecDepth 100000
theorem own:ownKnob Tryz.prog.godebug=none:=by kernel_rfl
section
variable {H:Type} {enc:TypeId × Value->H} {W:World} {spare:Nat->Bool} {held:Bool}
theorem PK {n:Nat}{c:Value}{y:DataW H × List MemPlace}(h:DataW.trod enc Tryz.prog W 0 spare held n 5 [c]=some y):∃ b:UInt8,c=.int .u8 b.toNat:=by
 obtain ⟨m,h1,_,h3⟩:=DataW.trod_int Tryz.underlying5 h;simp only [Sw,TP] at h1;subst h1;have a:0<=m/\m<256:=by
  simp [Lit.wf,IntKind.min,IntKind.max,IntKind.signed,IntKind.bits] at h3;omega
 refine ⟨UInt8.ofNat m.toNat, ?_⟩;congr 1;simp only [UInt8.toNat_ofNat'];omega
theorem vJ {n:Nat}{c:Value}{y:DataW H × List MemPlace}(h:DataW.trod enc Tryz.prog W 0 spare held n 5 [c]=some y):∃ m:Nat,c=.int .u8 m/\m<256:=by
 obtain ⟨b,rfl⟩:=PK h;exact ⟨b.toNat,Z,b.toNat_lt⟩
theorem mX {n:Nat}{c:Value}{y:DataW H × List MemPlace}(h:DataW.trod enc Tryz.prog W 0 spare held n 22 [c]=some y):∃ m:Int,c=.int .i8 m/\-128<=m/\m<=127:=by
 obtain ⟨m,h1,_,h3⟩:=DataW.trod_int Tryz.underlying22 h;simp only [Sw,TP] at h1;refine ⟨m,h1, ?_⟩;simp [Lit.wf,IntKind.min,IntKind.max,IntKind.signed,IntKind.bits] at h3;omega
theorem HL {n:Nat}{c:Value}{y:DataW H × List MemPlace}(h:DataW.trod enc Tryz.prog W 0 spare held n 4 [c]=some y):∃ b:Bool,c=.bool b:=by
 obtain ⟨b,h1,_⟩:=DataW.trod_bool Tryz.underlying4 h;simp only [Sw,TP] at h1;exact ⟨b,h1⟩
theorem xK {t e:TypeId}{k n:Nat}{a:List Value}{y:DataW H × List MemPlace}(b:Tryz.prog.underlying t=some (.array k e))(c:Tryz.prog.cellsOf e=1)(h:DataW.trod enc Tryz.prog W 0 spare held n t a=some y) :
  ∃ m,∀ i,i<k->∃ z,DataW.trod enc Tryz.prog W 0 spare held m e ((a.drop i).take 1)=some z:=by
 obtain ⟨xs,m,_,_,_,g,d⟩:=DataW.trod_array b h;refine ⟨m,fun i f=>?_⟩;have h1:=d i f;rw [c,Sd] at h1;rw [h1,ak om_];exact ⟨_,Z⟩
theorem ve:Tryz.prog.cellsOf 5=1:=by kernel_rfl
theorem ol:Tryz.prog.cellsOf 22=1:=by kernel_rfl
theorem sS:Tryz.prog.cellsOf 4=1:=by kernel_rfl
theorem xC:Tryz.prog.cellsOf 23=2:=by kernel_rfl
theorem HC:Tryz.prog.cellsOf 137=2:=by kernel_rfl
theorem KB:Tryz.prog.cellsOf 138=3:=by kernel_rfl
theorem KA:Tryz.prog.cellsOf 26=6:=by kernel_rfl
theorem IQ {n:Nat}{c d e f:Value}{y:DataW H × List MemPlace}(h:DataW.trod enc Tryz.prog W 0 spare held n 25 [c,d,e,f]=some y):∃ S:Sht,[c,d,e,f]=([.int .u8 S.kd,.int .i8 S.a,.int .i8 S.b,.bool S.h]:List Value)/\S.kd<256:=by
 obtain ⟨y0,y1,y2,o,_,p,h0,h1,h2⟩:=Go.Deep.trod_struct3 Tryz.underlying25 h;simp only [ve,xC,sS] at h0 h1 h2;obtain ⟨kd,rfl,i⟩:=vJ h0;obtain ⟨m,g⟩:=xK Tryz.underlying23 ol h1;obtain ⟨q,j⟩:=g 0 dc_;obtain ⟨r,k⟩:=g 1 dc_;obtain ⟨a,rfl,_⟩:=mX j;obtain ⟨b,rfl,_⟩:=mX k;obtain ⟨l,rfl⟩:=HL h2;exact ⟨⟨kd,a,b,l⟩,Z,i⟩
theorem Dy {n:Nat}{b c d e f g i:Value}{y:DataW H × List MemPlace}(h:DataW.trod enc Tryz.prog W 0 spare held n 28 [b,c,d,e,f,g,i]=some y):∃ G:Hts,[b,c,d,e,f,g,i]=O6 G/\PG G:=by
 obtain ⟨y0,y1,v,_,w,h0,h1⟩:=Go.ChangeShapes.trod_struct2 Tryz.underlying28 h;simp only [KA,sS] at h0 h1;obtain ⟨m,a⟩:=xK Tryz.underlying26 ol h0;obtain ⟨x,k⟩:=a 0 dc_;obtain ⟨A,l⟩:=a 1 dc_;obtain ⟨B,o⟩:=a 2 dc_;obtain ⟨C,p⟩:=a 3 dc_;obtain ⟨D,q⟩:=a 4 dc_;obtain ⟨E,r⟩:=a 5 dc_;obtain ⟨x0,rfl,g0⟩:=mX k;obtain ⟨x1,rfl,F⟩:=mX l;obtain ⟨x2,rfl,I⟩:=mX o;obtain ⟨x3,rfl,J⟩:=mX p;obtain ⟨s,rfl,K⟩:=mX q;obtain ⟨t,rfl,L⟩:=mX r;obtain ⟨u,rfl⟩:=HL h1;refine ⟨⟨x0,x1,x2,x3,s,t,u⟩,Z, ?_⟩;intro z j;simp only [H9,Qw,Rk,SI] at j;rcases j with rfl | rfl | rfl | rfl | rfl | rfl <;> assumption
theorem vK {P:Program}{t:TypeId}{b c d e f:Field}{j:Nat}{a:List Value}{x:DataW H × List MemPlace}(k:P.underlying t=some (.struct #[b,c,d,e,f]))(h:DataW.trod enc P W 0 spare held j t a=some x) :
  ∃ y0 y1 y2 y3 i n,DataW.trod enc P W 0 spare held n b.type ((a.drop b.offset).take (P.cellsOf b.type))=some y0/\DataW.trod enc P W 0 spare held n c.type ((a.drop c.offset).take (P.cellsOf c.type))=some y1/\DataW.trod enc P W 0 spare held n d.type ((a.drop d.offset).take (P.cellsOf d.type))=some y2 /\
   DataW.trod enc P W 0 spare held n e.type ((a.drop e.offset).take (P.cellsOf e.type))=some y3/\DataW.trod enc P W 0 spare held n f.type ((a.drop f.offset).take (P.cellsOf f.type))=some i:=by
 obtain ⟨xs,n,_,rfl,m,l,g⟩:=DataW.trod_struct k h
 match xs,l with
 | [y0,y1,y2,y3,i],_=>exact ⟨y0,y1,y2,y3,i,n,by simpa using g 0 b rfl,by simpa using g 1 c rfl,by simpa using g 2 d rfl,by simpa using g 3 e rfl,by simpa using g 4 f rfl⟩
theorem IK {n:Nat}{a:List Value}{y:DataW H × List MemPlace}(b:a.length=9)(h:DataW.trod enc Tryz.prog W 0 spare held n 140 a=some y):∃ s:{s:Sgt // SgtR s},a=N2 s.1:=by
 obtain ⟨y0,y1,y2,y3,w,x,h0,h1,h2,h3,h4⟩:=vK Tryz.underlying140 h
 match a,b with
 | [c0,z,c2,A,B,C,D,E,F],_ =>
   simp only [ve,xC,HC,KB] at h0 h1 h2 h3 h4;obtain ⟨kd,rfl,c⟩:=vJ h0;obtain ⟨G,a1⟩:=xK Tryz.underlying23 ol h1;obtain ⟨w0,e⟩:=a1 0 dc_;obtain ⟨w1,f⟩:=a1 1 dc_;obtain ⟨px,rfl,g⟩:=mX e;obtain ⟨py,rfl,i⟩:=mX f;obtain ⟨I,a2⟩:=xK Tryz.underlying137 ve h2;obtain ⟨J,j⟩:=a2 0 dc_;obtain ⟨K,k⟩:=a2 1 dc_;obtain ⟨u0,rfl,l⟩:=vJ j;obtain ⟨u1,rfl,m⟩:=vJ k;obtain ⟨d,rfl,o⟩:=vJ h3;obtain ⟨L,a4⟩:=xK Tryz.underlying138 ol h4;obtain ⟨M,p⟩:=a4 0 dc_;obtain ⟨N,q⟩:=a4 1 dc_;obtain ⟨O,r⟩:=a4 2 dc_;obtain ⟨n0,rfl,t⟩:=mX p;obtain ⟨n1,rfl,u⟩:=mX q;obtain ⟨n2,rfl,v⟩:=mX r;exact ⟨⟨⟨kd,px,py,u0,u1,d,n0,n1,n2⟩,⟨c,g,i,l,m,o,t,u,v⟩⟩,Z⟩
theorem E8 {b:Nat}{v:Value}{x:DataW H × List MemPlace}(h:DataW.trod enc Tryz.prog W 0 spare held b 29 [v]=some x):∃ l:List Sgt,Sl (rk W) 9 v (l.map N2)/\∀ s∈l,SgtR s:=by
 obtain ⟨l,a⟩:=E7 (fun s:{s:Sgt // SgtR s}=>N2 s.1) Tryz.underlying29 kr_ dc_ (fun n cs y a hy=>IK a hy) h;refine ⟨l.map (·.1),by rw [Q6];exact a,fun s hs=>?_⟩;obtain ⟨z,_,rfl⟩:=Qt.1 hs;exact z.2
theorem MH {n:Nat}{a:List Value}{y:DataW H × List MemPlace}(h:DataW.trod enc Tryz.prog W 0 spare held n 31 a=some y):∃ S G l,Ck (rk W) (.agg ⟨a⟩) S G l/\PlanR S G l:=by
 obtain ⟨y0,y1,y2,o,_,d,h0,h1,h2⟩:=Go.Deep.trod_struct3 Tryz.underlying31 h;have g:Tryz.prog.cellsOf 31=12:=by kernel_rfl
 have h4:Tryz.prog.cellsOf 25=4:=by kernel_rfl
 have i:Tryz.prog.cellsOf 28=7:=by kernel_rfl
 have hs:Tryz.prog.cellsOf 29=1:=by kernel_rfl
 rw [g] at d
 match a,d with
 | [c0,p,c2,q,r,s,t,u,v,w,x,z],_ =>
  simp only [h4,i,hs] at h0 h1 h2;obtain ⟨S,e,j⟩:=IQ h0;obtain ⟨G,f,k⟩:=Dy h1;obtain ⟨l,b,m⟩:=E8 h2;obtain ⟨A,c,rfl,_⟩:=id b;simp only [Sw,TP] at e;obtain ⟨rfl,rfl,rfl,rfl⟩:=e;simp only [O6,Sw,TP] at f;obtain ⟨rfl,rfl,rfl,rfl,rfl,rfl,rfl⟩:=f;simp only [aw] at b ⊢;exact ⟨S,G,l,⟨A,c,Z,b⟩,j,k,m⟩
end
def lS (cs:Array Value):Obj->Obj
 | .cells _ t frozen=>.cells cs t frozen
 | o=>o
def Hp:Array Value:=(Lib.deBruijn32tab.map fun z:Nat=>Value.int .u8 (z:Int)).toArray
def Ho:Array Value:=(Lib.deBruijn64tab.map fun z:Nat=>Value.int .u8 (z:Int)).toArray
def Df:Array Value:=(Lib.pow10Tab.map fun z=>Value.int .u64 z).toArray
def Fy:ByteArray:=⟨#[118,97,108,117,101,32,111,117,116,32,111,102,32,114,97,110,103,101]⟩
def CI:ByteArray:=⟨#[105,110,118,97,108,105,100,32,115,121,110,116,97,120]⟩
noncomputable def low:Nat:=(World.holding Tryz.prog default ⟨#[],#[],[]⟩).heap.size
noncomputable def pQ (os:Os):World :=
 let w0:=World.holding Tryz.prog os ⟨#[.cells #[.string Fy] 412,.cells #[.string CI] 412],#[],[]⟩
 { w0 with heap:=((((w0.heap.modify 0 (lS Hp)).modify 1 (lS Ho)).modify 3 (lS Df)).modify 5 (lS #[.iface 410 (.pointer (some ⟨low,0,none⟩))])).modify 4 (lS #[.iface 410 (.pointer (some ⟨low+1,0,none⟩))]) }
theorem Mc {W : World} (h : laidMet Tryz.prog [("math/bits.deBruijn32tab", Rows.laid_math_bits_deBruijn32tab), ("math/bits.deBruijn64tab", Rows.laid_math_bits_deBruijn64tab), ("internal/strconv.uint64pow10", Rows.laid_internal_strconv_uint64pow10), ("strconv.ErrRange", Rows.laid_strconv_ErrRange), ("strconv.ErrSyntax", Rows.laid_strconv_ErrSyntax)] W) : Tabs (rk W) := by
 have h1:=h.tail;have h2:=h1.tail;have b:(Rows.laid_math_bits_deBruijn64tab:DataW Unit)=Lib.tabData .u8 (Lib.deBruijn64tab.map fun z:Nat=>(z:Int)):=by rfl
 rw [b] at h1;have a:=Lib.tabIs_of_head (g:=1) (t:=265) (e:=5) (n:=64) kr_ kr_ Tryz.underlying265 Tryz.underlying5 kr_ kr_ h1;have c:(Rows.laid_internal_strconv_uint64pow10:DataW Unit)=Lib.tabData .u64 Lib.pow10Tab:=by rfl
 rw [c] at h2;have d:=Lib.tabIs_of_head (g:=3) (t:=386) (e:=160) (n:=20) kr_ kr_ Tryz.underlying386 Tryz.underlying160 kr_ kr_ h2;refine ⟨VarC.ofWorld d, ?_⟩;unfold Lib.TabIs at a;rw [Q6] at a;exact VarC.ofWorld a
theorem JR:laidOutB Tryz.prog=true:=by kernel_rfl
end Go.Proofs.YthnpijdjlddpmaaGreatDoor
namespace Go.Jog
open Go
theorem VU {F:Fx}{k:List KI}{b:Fr}{C:Mem}{L:List Ent}{e:Exit}{v:Value}{t d a:Nat}{f:List Value}(i:Ent.arr v t d a f∈L)(h:∀ A c,v=.slice A a c->(0<a->∃ g,A=some ⟨g,0,none⟩)->G F k e b C L):G F k e b C L :=
 G.form i fun j _=>by
  rcases j with ⟨h1,h2⟩ | ⟨g,c,h1,_,_⟩
  ·exact h none 0 (by rw [h1,h2]) om_
  exact h _ c h1 (fun _=>⟨g,Z⟩)
end Go.Jog
namespace Go.Proofs.YthnpijdjlddpmaaGreatDoor
open Go.Proofs.Tryz
open Go Go.Jog
set_option maxRecDepth 100000
variable {a b:Int}{bf fs:List Rat}{h:Bool}{i j:Nat}{k:Rat}{k0 k1 k2:Int}{ls:List (Rat × Value)}{m n:Nat}{p:Rat × Value}{pts:List Pt}{q:Rat}{rows:List (List Str × Str)}{s:Nat}{t:Tri}{vs:List Value}{w x0 x1 x2 x3 y0 y1 y2 y3 z:Int}{α:Type}{l:List α}
/-! Small parts: numbers of quarters and of halves. -/
theorem AS (a:w≠0)(h:q*w=z):q=kR z w:=by
 have c:(w:Rat)≠0:=by simpa using a
 unfold kR;rw [Rat.mkRat_eq_div];have b:q=z / w:=by grind
 rw [b];split
 ·rename_i d;have:((w.natAbs:Nat):Int)=-w:=by omega
  rw [show ((w.natAbs:Nat):Rat)=(((w.natAbs:Nat):Int):Rat) from rfl,this];simp only [Rat.intCast_neg];grind
 have:((w.natAbs:Nat):Int)=w:=by omega
 rw [show ((w.natAbs:Nat):Rat)=(((w.natAbs:Nat):Int):Rat) from rfl,this]
theorem od (a:w≠0):kR z w*w=z:=by
 have b:(w:Rat)≠0:=by simpa using a
 have h:=AS (q:=(z:Rat) / w) (z:=z) a (by grind);rw [<- h];grind
theorem pi (a:w≠0)(h:q*w=z)(b:z.natAbs<1000000000)(c:w.natAbs<1000000000):QB 1 q:=by
 rw [AS a h];exact qm a b c
def iA (x0 y0 x1 y1 x2 y2:Int):Int:=(x1-x0)*(y2-y0)-(y1-y0)*(x2-x0)
def At4 (p:Pt)(x y:Int):Prop:=p.1*4=x/\p.2*4=y
def Qtr (p:Pt):Prop:=∃ x y:Int,At4 p x y/\(-600<=x/\x<=600)/\(-600<=y/\y<=600)
def Hlf (z:Rat):Prop:=∃ k:Int,z*2=k/\(-38<=k/\k<=38)
theorem my {a b c:Pt}(d:At4 a x0 y0)(e:At4 b x1 y1)(f:At4 c x2 y2):dE a b c*16=(iA x0 y0 x1 y1 x2 y2:Int):=by
 unfold iA dE;simp only [SQ,Rj];rw [<- d.1,<- d.2,<- e.1,<- e.2,<- f.1,<- f.2];grind
theorem jd {M K:Nat}(c:a.natAbs<=M)(d:b.natAbs<=K):(a*b).natAbs<=M*K:=by
 rw [RX];exact R5 c d
theorem yF (h:(-600<=x0/\x0<=600)/\(-600<=y0/\y0<=600)/\(-600<=x1/\x1<=600)/\(-600<=y1/\y1<=600)/\(-600<=x2/\x2<=600)/\(-600<=y2/\y2<=600)):(iA x0 y0 x1 y1 x2 y2).natAbs<=2880000:=by
 have h1:=jd (a:=x1-x0) (b:=y2-y0) (M:=1200) (K:=1200) om_ om_;have h2:=jd (a:=y1-y0) (b:=x2-x0) (M:=1200) (K:=1200) om_ om_;unfold iA;omega
theorem wo {n d:Rat}{N W:Int}(b:n*16=N)(c:d*16=W)(a:d≠0):W≠0/\n / d*W=N:=by
 constructor
 ·intro h;subst h;exact a (by grind)
 grind
theorem Od {p:Pt}(a:∀ j,Qtr (cor pts t j))(b:dE (cor pts t 0) (cor pts t 1) (cor pts t 2)≠0)(c:Qtr p)(j:Nat):QB 1 (wgt pts t p j):=by
 obtain ⟨x0,y0,h0,d,e⟩:=a 0;obtain ⟨x1,y1,h1,f,g⟩:=a 1;obtain ⟨x2,y2,h2,h,i⟩:=a 2;obtain ⟨x3,y3,h3,k,l⟩:=a ((j+1) % 3);obtain ⟨m,n,h4,o,q⟩:=a ((j+2) % 3);obtain ⟨r,s,h5,u,v⟩:=c;obtain ⟨w,x⟩:=wo (my h5 h3 h4) (my h0 h1 h2) b;have k1:=yF (x0:=r) (y0:=s) (x1:=x3) (y1:=y3) (x2:=m) (y2:=n) ⟨u,v,k,l,o,q⟩;have k2:=yF (x0:=x0) (y0:=y0) (x1:=x1) (y1:=y1) (x2:=x2) (y2:=y2) ⟨d,e,f,g,h,i⟩;exact pi w x om_ om_
theorem iR {a b c:Pt}{e f g:Rat}(i:At4 a x0 y0)(j:At4 b x1 y1)(k:At4 c x2 y2)(n:e*2=k0)(o:f*2=k1)(p:g*2=k2)(l:dE a b c≠0) :
  iA x0 y0 x1 y1 x2 y2≠0/\(oQ a b c e f g).1*(iA x0 y0 x1 y1 x2 y2:Int)=((2*((k1-k0)*(y2-y0)-(y1-y0)*(k2-k0)):Int):Rat)/\(oQ a b c e f g).2*(iA x0 y0 x1 y1 x2 y2:Int)=((2*((x1-x0)*(k2-k0)-(k1-k0)*(x2-x0)):Int):Rat):=by
 have m:=my i j k;have q:eF (b.1-a.1) (b.2-a.2) (c.1-a.1) (c.2-a.2)=dE a b c:=by unfold eF dE;grind
 refine ⟨fun h=>l (by rw [h] at m;grind), ?_, ?_⟩
 ·unfold oQ;simp only;rw [q,<- m];unfold eF;simp only [SQ,Rj];rw [<- i.2,<- j.2,<- k.2,<- n,<- o,<- p];generalize dE a b c=d at l;grind
 unfold oQ;simp only;rw [q,<- m];unfold eF;simp only [SQ,Rj];rw [<- i.1,<- j.1,<- k.1,<- n,<- o,<- p];generalize dE a b c=d at l;grind
theorem jU {c d:Int}(h:a.natAbs<=76/\b.natAbs<=1200/\c.natAbs<=1200/\d.natAbs<=76):(a*b-c*d).natAbs<=182400:=by
 have h1:=jd h.1 h.2.1;have h2:=jd h.2.2.1 h.2.2.2;omega
theorem IH (e:∀ j,Qtr (cor pts t j))(h:dE (cor pts t 0) (cor pts t 1) (cor pts t 2)≠0)(f:∀ j,Hlf (fz fs t j)):QP 1 (dN pts fs t):=by
 obtain ⟨x0,y0,h0,i,k⟩:=e 0;obtain ⟨x1,y1,h1,l,m⟩:=e 1;obtain ⟨x2,y2,h2,n,o⟩:=e 2;obtain ⟨k0,p,v⟩:=f 0;obtain ⟨k1,q,w⟩:=f 1;obtain ⟨k2,r,x⟩:=f 2;obtain ⟨g,s,u⟩:=iR h0 h1 h2 p q r h;have y:=yF (x0:=x0) (y0:=y0) (x1:=x1) (y1:=y1) (x2:=x2) (y2:=y2) ⟨i,k,l,m,n,o⟩;have z:=jU (a:=k1-k0) (b:=y2-y0) (c:=y1-y0) (d:=k2-k0) ⟨by omega,by omega,by omega,by omega⟩;have A:=jU (a:=k1-k0) (b:=x2-x0) (c:=x1-x0) (d:=k2-k0) ⟨by omega,by omega,by omega,by omega⟩;unfold dN;exact ⟨pi g s om_ om_,pi g u om_ om_⟩
theorem Lm {p:Pt}(c:At4 (cor pts t 0) x0 y0)(h:At4 (cor pts t 1) x1 y1)(i:At4 (cor pts t 2) x2 y2)(e:At4 p x3 y3)(d:fz fs t 0*2=k0)(j:fz fs t 1*2=k1)(k:fz fs t 2*2=k2)
  (l:dE (cor pts t 0) (cor pts t 1) (cor pts t 2)≠0):onQ pts fs t p*((2*iA x0 y0 x1 y1 x2 y2:Int):Rat)=((k0*iA x0 y0 x1 y1 x2 y2+((k1-k0)*(y2-y0)-(y1-y0)*(k2-k0))*(x3-x0)+((x1-x0)*(k2-k0)-(k1-k0)*(x2-x0))*(y3-y0):Int):Rat):=by
 obtain ⟨s,f,g⟩:=iR c h i d j k l;unfold onQ H5;simp only [RI,List.foldl_nil];have a:=f;have b:=g;unfold dN;generalize (oQ (cor pts t 0) (cor pts t 1) (cor pts t 2) (fz fs t 0) (fz fs t 1) (fz fs t 2)).1=u at a ⊢;generalize (oQ (cor pts t 0) (cor pts t 1) (cor pts t 2) (fz fs t 0) (fz fs t 1) (fz fs t 2)).2=v at b ⊢;clear f g;generalize ((k1-k0)*(y2-y0)-(y1-y0)*(k2-k0))=n1 at a ⊢;generalize ((x1-x0)*(k2-k0)-(k1-k0)*(x2-x0))=n2 at b ⊢;generalize iA x0 y0 x1 y1 x2 y2=w at a b ⊢;simp only [SQ,Rj,Rat.intCast_add] at a b ⊢;have m:=c.1;have n:=c.2;have o:=e.1;have q:=e.2;generalize fz fs t 0=x at d ⊢;rw [<- m,<- n,<- o,<- q,<- d];have r:((2:Int):Rat)=2:=rfl;rw [r] at a b ⊢;grind
theorem OU (b:(-600<=x0/\x0<=600)/\(-600<=y0/\y0<=600)/\(-600<=x1/\x1<=600)/\(-600<=y1/\y1<=600)/\(-600<=x2/\x2<=600)/\(-600<=y2/\y2<=600))(g:(-600<=x3/\x3<=600)/\(-600<=y3/\y3<=600))(h:(-38<=k0/\k0<=38)/\(-38<=k1/\k1<=38)/\(-38<=k2/\k2<=38)) :
  (k0*iA x0 y0 x1 y1 x2 y2+((k1-k0)*(y2-y0)-(y1-y0)*(k2-k0))*(x3-x0)+((x1-x0)*(k2-k0)-(k1-k0)*(x2-x0))*(y3-y0)).natAbs<=600000000:=by
 have e:=yF b;have f:=jU (a:=k1-k0) (b:=y2-y0) (c:=y1-y0) (d:=k2-k0) ⟨by omega,by omega,by omega,by omega⟩;have i:=jU (a:=k1-k0) (b:=x2-x0) (c:=x1-x0) (d:=k2-k0) ⟨by omega,by omega,by omega,by omega⟩;have j:=jd (show k0.natAbs<=38 by omega) e;have k:=jd f (show (x3-x0).natAbs<=1200 by omega);have l:=jd (show ((x1-x0)*(k2-k0)-(k1-k0)*(x2-x0)).natAbs<=182400 by omega) (show (y3-y0).natAbs<=1200 by omega);omega
theorem PY {p:Pt}(a:∀ j,Qtr (cor pts t j))(c:dE (cor pts t 0) (cor pts t 1) (cor pts t 2)≠0)(b:∀ j,Hlf (fz fs t j))(n:Qtr p):QB 1 (onQ pts fs t p):=by
 obtain ⟨x0,y0,h0,d,e⟩:=a 0;obtain ⟨x1,y1,h1,f,g⟩:=a 1;obtain ⟨x2,y2,h2,h,i⟩:=a 2;obtain ⟨x3,y3,h3,o⟩:=n;obtain ⟨k0,k,q⟩:=b 0;obtain ⟨k1,l,r⟩:=b 1;obtain ⟨k2,m,s⟩:=b 2;have u:=(iR h0 h1 h2 k l m c).1;have v:=yF (x0:=x0) (y0:=y0) (x1:=x1) (y1:=y1) (x2:=x2) (y2:=y2) ⟨d,e,f,g,h,i⟩;have w:=OU ⟨d,e,f,g,h,i⟩ o ⟨q,r,s⟩;exact pi om_ (Lm h0 h1 h2 h3 k l m c) om_ om_
theorem BK (a:w=1∨w=2∨w=4)(e:-150<=z/\z<=150):∃ x:Int,kR z w*4=x/\(-600<=x/\x<=600):=by
 have h:=od (z:=z) (w:=w) om_;have b:((1:Int):Rat)=1:=rfl;have c:((2:Int):Rat)=2:=rfl;have d:((4:Int):Rat)=4:=rfl;rcases a with rfl | rfl | rfl
 ·refine ⟨4*z, ?_,by omega⟩;rw [Rj,<- h,b,d];grind
 ·refine ⟨2*z, ?_,by omega⟩;rw [Rj,<- h,c];grind
 exact ⟨z,h,by omega⟩
theorem wA {x y n:Int}(c:n=1∨n=2)(l:-128<=x/\x<=127)(m:-128<=y/\y<=127):Qtr (dA a b h x y n):=by
 have o:=yd a;have p:=yd b;have g:dT h=1∨dT h=2:=by cases h <;> simp [dT]
 have d:dT h*n=1∨dT h*n=2∨dT h*n=4:=by rcases g with e | e <;> rcases c with f | f <;> rw [e,f] <;> omega
 obtain ⟨u,i,j⟩:=BK (z:=x+a.tmod 8*n) d (by rcases c with f | f <;> subst f <;> omega);obtain ⟨v,k,bv⟩:=BK (z:=y+b.tmod 8*n) d (by rcases c with f | f <;> subst f <;> omega);exact ⟨u,v,⟨i,k⟩,j,bv⟩
theorem AX :∀ p∈cD m a b h,Qtr p:=by
 intro p c;obtain ⟨x,d,rfl⟩:=Qt.1 c;have:=K5 m x d;exact wA (.inl Z) om_ om_
theorem zL:Qtr (0,0):=⟨0,0,⟨by decide +kernel,by decide +kernel⟩,by decide,by decide⟩
theorem oc {P:α->Prop}{d:α}(h:∀ x∈l,P x)(a:P d):P (l.getD i d):=by
 rw [al];cases h1:l[i]? with
 | none=>exact a
 | some x=>exact h x (Qi h1)
theorem uS (j:Nat):Qtr (cor (cD m a b h) t j):=oc AX zL
theorem Nr (n:Nat)(H:Hts):∀ q∈fsK n H,Hlf q:=by
 intro q a;obtain ⟨i,_,rfl⟩:=Qt.1 a;have b:=EO ((H9 H).getD (i % 6) 0);generalize ((H9 H).getD (i % 6) 0).tmod 20=z at b ⊢;have c:((1:Int):Rat)=1:=rfl;have d:((2:Int):Rat)=2:=rfl;rcases uC H.half with e | e
 ·have h:=od (z:=z) (w:=1) dc_;rw [e];refine ⟨2*z, ?_,by omega⟩;rw [Rj,<- h,c,d];grind
 rw [e];exact ⟨z,od dc_,by omega⟩
theorem tA:Hlf 0:=⟨0,by decide +kernel,by decide⟩
theorem MU:Hlf 1:=⟨2,by decide +kernel,by decide⟩
theorem Ly {H:Hts}(j:Nat):Hlf (fz (fsK n H) t j):=oc (Nr n H) tA
theorem zW {k:Nat}(j:Nat):Hlf (fz (nH n k) t j):=oc (fun q a=>by
 rcases zX q a with rfl | rfl
 ·exact tA
 exact MU) tA
theorem AZ (S:Sht)(s:Sgt)(a:SgtR s):Qtr (lH S s):=by
 unfold lH;split
 ·exact wA (.inr Z) a.px a.py
 exact oc AX zL
theorem tO {P:Rat->Prop}{m:List (Nat × Rat)}(a:P 0)(h:∀ x∈m,P x.2):∀ q∈rL n m,P q:=by
 intro q b;obtain ⟨j,_,rfl⟩:=Qt.1 b;cases h1:dp m j with
 | none=>exact a
 | some v =>
  exact h _ (fZ h1)
theorem pd {p k:Nat}{a:List (Nat × Rat)}{b c:Rat}(e:∀ x∈a,QB 1 x.2)(f:QB 3 b)(d:QB 1 c):N5 (iC s p k a b c):=by
 refine ⟨tO (QB_zero.le dc_) ?_,(jq d f).le dc_⟩;intro x g;obtain ⟨y,hy,rfl⟩:=Qt.1 g;exact (jq d (e y hy)).le dc_
theorem I0 {B:Bk}{o:Obs}{p:Pt}{z:Rat}(c:∀ j,QB 1 (wgt B.pts t p j))(a:∀ j,QP 1 (slf B.pts t j))(d:QB 3 (kA o z))(f:o.kind≠1->o.kind≠2->QB 3 (qj o)/\QB 3 (jb o)):∀ r∈rowsO B o p t z,N5 r:=by
 have e:∀ x∈atT t (wgt B.pts t p),QB 1 x.2:=gl (c 0) (c 1) (c 2);have g:∀ x∈atT t (fun j=>(slf B.pts t j).1),QB 1 x.2:=gl (a 0).1 (a 1).1 (a 2).1;have i:∀ x∈atT t (fun j=>(slf B.pts t j).2),QB 1 x.2:=gl (a 0).2 (a 1).2 (a 2).2;intro r hr;unfold rowsO at hr;split at hr
 ·rcases Qy.1 hr with h | h
  ·split at h
   ·rw [QF.1 h];exact pd e d QB_one
   simp at h
  split at h
  ·rw [QF.1 h];exact pd e d mT
  simp at h
 rename_i h1;split at hr
 ·obtain ⟨k,_,h⟩:=List.mem_flatMap.1 hr;obtain ⟨sg,b,rfl⟩:=Qt.1 h;exact pd e d (rF sg b)
 rename_i h2;obtain ⟨l,m⟩:=f h1 h2;obtain ⟨k,_,h⟩:=List.mem_flatMap.1 hr;rcases Qy.1 h with h | h
 ·obtain ⟨sg,b,rfl⟩:=Qt.1 h;exact pd g l (rF sg b)
 obtain ⟨sg,b,rfl⟩:=Qt.1 h;exact pd i m (rF sg b)
def tiK (S:Sht)(s:Sgt):Nat:=(lP (cD (S.kd % 8) S.a S.b S.h) (shT (S.kd % 8)) (lH S s)).headD 0
def tK (S:Sht)(s:Sgt):Tri:=(shT (S.kd % 8)).getD (tiK S s) (0,0,0)
def zK (S:Sht)(H:Hts)(s:Sgt):Rat:=onQ (cD (S.kd % 8) S.a S.b S.h) (fsK (cD (S.kd % 8) S.a S.b S.h).length H) (tK S s) (lH S s)
noncomputable def roK (S:Sht)(H:Hts)(l:List Sgt)(i:Nat):List RowQ:=rowsO (cm S H l) (fK S (l.getD i Dn) i) (lH S (l.getD i Dn)) (tK S (l.getD i Dn)) (zK S H (l.getD i Dn))
theorem MX (S:Sht)(s:Sgt)(i:Nat)(b:SgtR s):ObsAt (fK S s i) (lH S s):=by
 have a:=(ua S s b).1;refine ⟨?_, ?_,(FD a).1,(FD a).2, ?_⟩
 ·unfold fK;split
  ·rfl
  split <;> rfl
 ·unfold fK;split
  ·rfl
  split <;> rfl
 unfold fK;split
 ·intro h;exact absurd (show (1:Int)=2 from h) dc_
 split
 ·intro _;exact ok1 (sH s.depth)
 intro h;exact absurd (show (3:Int)=2 from h) dc_
theorem MW (S:Sht)(s:Sgt)(i:Nat):0<=kf (isU (fK S s i).upper) colK 0:=by
 have c:=M8 s;have d:=LW s;have a:=pS (s.u1 % 3) om_;have b:=pS (max (loU s) (upU s)) om_;unfold fK;split
 ·simp only;rw [a];omega
 split <;> (simp only;rw [b];omega)
theorem F9 (S:Sht)(s:Sgt)(i:Nat):(fK S s i).kind≠1->(fK S s i).kind≠2->(ba (fK S s i).nx=true/\ba (fK S s i).ny=true/\ba (fK S s i).nz=true)/\QB 1 (dx (fK S s i).nx)/\QB 1 (dx (fK S s i).ny)/\QB 1 (dx (fK S s i).nz)/\dx (fK S s i).nz≠0:=by
 have h0:=nI s.n0;have h1:=nI s.n1;have h2:=nZ s.n2;have a:=dX (s.n0.tmod 5) om_;have l1:=dX (s.n1.tmod 5) om_;have l2:=dX (fg s.n2) om_;have b:=uw s.n2;unfold fK;split
 ·intro h;exact absurd rfl h
 split
 ·intro _ h;exact absurd rfl h
 intro _ _;simp only;rw [dh (ok1 a),dh (ok1 l1),dh (ok1 l2)];exact ⟨⟨ok1 a,ok1 l1,ok1 l2⟩,a,l1,l2,by simpa using b⟩
theorem Bj (S:Sht)(s:Sgt)(i:Nat):(fK S s i).kind=2->(fK S s i).depth=qtx (kR ((s.depth % 12:Nat):Int) 2):=by
 unfold fK;split
 ·intro h;exact absurd (show (1:Int)=2 from h) dc_
 split
 ·intro _;rfl
 intro h;exact absurd (show (3:Int)=2 from h) dc_
theorem Jz (S:Sht)(s:Sgt)(i:Nat){z:Rat}(a:QB 1 z):QB 3 (kA (fK S s i) z):=by
 unfold kA;split
 ·rename_i h;rw [Bj S s i h,dh (ok1 (sH s.depth))];have h:=fh a (sH s.depth);exact h.le dc_
 exact a.le dc_
theorem Ga (S:Sht)(s:Sgt)(i:Nat)(b:(fK S s i).kind≠1)(c:(fK S s i).kind≠2):QB 3 (qj (fK S s i))/\QB 3 (jb (fK S s i)):=by
 obtain ⟨_,d,l1,l2,a⟩:=F9 S s i b c;exact ⟨(jr (fa d) l2 a).le dc_,(jr (fa l1) l2 a).le dc_⟩
theorem locK (S:Sht)(s:Sgt)(c:SgtR s):(∃ r,lP (cD (S.kd % 8) S.a S.b S.h) (shT (S.kd % 8)) (lH S s)=tiK S s::r)/\(shT (S.kd % 8))[tiK S s]?=some (tK S s):=by
 have d:=(ua S s c).2;unfold tK tiK;cases h:lP (cD (S.kd % 8) S.a S.b S.h) (shT (S.kd % 8)) (lH S s) with
 | nil=>exact absurd h d
 | cons i r =>
  have hm:i∈lP (cD (S.kd % 8) S.a S.b S.h) (shT (S.kd % 8)) (lH S s):=by rw [h];exact aL
  unfold lP at hm;have e:=QA.1 (Si.1 hm).1;refine ⟨⟨r,Z⟩, ?_⟩;simp only [List.headD_cons];rw [al,ak e];rfl
theorem P6 (S:Sht)(H:Hts)(l:List Sgt)(s:Sgt)(i:Nat)(c:SgtR s) :
  Fine (cm S H l) (fsK (cD (S.kd % 8) S.a S.b S.h).length H) (fK S s i) (lH S s) (tiK S s) (tK S s) (zK S H s):=by
 obtain ⟨o,_⟩:=fA (S.kd % 8) (Q2 _ dc_) S.a S.b S.h;obtain ⟨⟨r,hr⟩,f⟩:=locK S s c;have d:=jN o.ok (Qi f);have g:=AZ S s c;have k:∀ j,QB 1 (wgt (cD (S.kd % 8) S.a S.b S.h) (tK S s) (lH S s) j):=Od (fun j=>uS j) d g;have m:∀ j,QP 1 (slf (cD (S.kd % 8) S.a S.b S.h) (tK S s) j):=fun j=>IH (fun j=>uS j) d (fun j=>zW j);have e:QB 1 (zK S H s):=PY (fun j=>uS j) d (fun j=>Ly j) g;have n:=Jz S s i e;refine ⟨MX S s i c,⟨r,hr⟩,f, ?_,e.le dc_,n.le dc_,fun j=>(k j).le dc_,MW S s i,fun j=>(m j).le dc_, ?_, ?_⟩
 ·show EE (cD (S.kd % 8) S.a S.b S.h) (shT (S.kd % 8)) _ _=_;unfold EE;rw [hr];show Dm (zK S H s)=_;unfold Dm;rw [aH (ok1 e)]
 ·intro h1 h2;obtain ⟨h0,p,l1,l2,q⟩:=F9 S s i h1 h2;exact ⟨h0,p.le dc_,l1.le dc_,l2.le dc_,q⟩
 exact I0 k m n (Ga S s i)
theorem D4 (S:Sht)(H:Hts)(l:List Sgt)(c:∀ s∈l,SgtR s):Rich (cm S H l) (fsK (cD (S.kd % 8) S.a S.b S.h).length H) (roK S H l):=by
 refine ⟨(fA (S.kd % 8) (Q2 _ dc_) S.a S.b S.h).1,HN S H l c,sU S H l c,⟨Z,uF _ _,fun q e=>(G3 _ H q e).le dc_⟩, ?_, ?_⟩
 ·have:=(KG S H l).2;rw [KF];omega
 intro i o f;obtain ⟨g,s,d,rfl⟩:=mq f;refine ⟨_,_,_,_,P6 S H l s i (c s (Qi d)), ?_⟩;unfold roK;rw [al,d];rfl
theorem Dg (x y:Nat)(a:x<18446744073709551616)(b:y<18446744073709551616)(C:Mem):Gives cx.P 125 [.int .u64 x,.int .u64 y] C (.tuple #[.int .u64 ((x*y / 18446744073709551616:Nat):Int),.int .u64 ((x*y % 18446744073709551616:Nat):Int)]) :=
 Gives.ofCalls kr_ (fun w=>Any.bits_Mul Tryz.mul x y a b w) C
theorem FK {a:Value}{k:Nat}{b:List Value}(_d:k+m<=n)(c:m<=k)(_e:b.length=n-k) :
  aD (List.replicate k a++b) ((List.replicate k a++b).take m) k=List.replicate (k+m) a++b.drop m:=by
 have h1:(List.replicate k a++b).take m=List.replicate m a:=by
  rw [List.take_append_of_le_length (by simpa using c),List.take_replicate,Ry c]
 have h2:(List.replicate k a++b).take k=List.replicate k a:=by
  rw [List.take_append_of_le_length am,List.take_replicate,Nat.min_self]
 have h3:(List.replicate k a++b).drop (k+m)=b.drop m:=by
  rw [Tc,RK,RH am,R7];congr 1;omega
 unfold aD;rw [h1,h2,RK,h3,List.replicate_append_replicate]
theorem FE (a:Value)(n:Nat):kl [a] n=List.replicate n a:=by
 rw [eh];induction n with
 | zero=>rfl
 | succ n b=>rw [RG,RM,b,RG];rfl
theorem Jm (n:Nat)(a:n<18446744073709551616)(C:Mem):Gives cx.P 125 [.int .u64 (1:Int),.int .u64 n] C (.tuple #[.int .u64 0,.int .u64 n]):=by
 have h:=Dg 1 n om_ a C;have b:1*n / 18446744073709551616=0:=by omega
 have c:1*n % 18446744073709551616=n:=by omega
 rw [b,c] at h;exact h
theorem De (C:Mem)(v:Value)(n:Nat)(s:Str)(g:Sl C 1 v [[ah s]])(y:n<=1000000):Jog.Fn cx.P 83 [v,.int .i64 n] C [] fun u _z e=>∃ b,u=.slice (some ⟨b,0,none⟩) n n/\e=[.arr u 56 1 n (List.replicate n (ah s))]:=by
 have p:=g;obtain ⟨A,c,rfl,_⟩:=p;refine Uk func83 48 U3 fun w0=>?_;refine Ua 1 [0,1] Z ?_;refine Ua 2 [0,1,10] Z ?_;refine Ud (fun h=>?_) fun h=>?_
 ·simp at h;omega
 refine Ub 2 Z fun R d=>?_;refine UQ (c:=1) U8 Z fl_ ?_;refine Ue U6 ?_;refine UQ (c:=(n:Int)) U8 (by rw [IntKind.wrap_u64];omega) fl_ ?_;refine Ur (Jm n om_ _) U7 fl_ ?_;refine C4 5 [0,5,6] d Z ?_;refine Ub 5 Z fun R d=>?_;refine UF U8 ?_;refine Ug [0,6,26] d Z ?_;refine Ud (fun i=>?_) fun i=>?_
 ·simp at i;omega
 refine Ub 1 Z fun R d=>?_;refine UQ (c:=(n:Int)) U8 (by rw [IntKind.wrap_i64];omega) fl_ ?_;refine Vd U9 (Qj _) (by show 16*n<=281474976710656;omega) (by simp only [maxLen];omega) fl_ (fun a=>?_);refine C4 1 [0,7] d Z ?_;refine Ub 2 Z fun R d=>?_;refine VP (j:=0) (q:=min 1 n) U12 g U2 (by rw [cV];show 0+min 1 n*1<=n*1;omega) fl_ ?_;refine C4 1 [7,8] d Z ?_;have r:aD (kl [ah []] n) (([[ah s]]:List (List Value)).take (min 1 n)).flatten 0=List.replicate (min 1 n) (ah s)++List.replicate (n-min 1 n) (ah []):=by
  rw [FE];cases n with
  | zero=>rfl
  | succ n=>rw [show min 1 (n+1)=1 by omega,RG];rfl
 refine Ut (L':=[.arr (.slice (some ⟨a,0,none⟩) n n) 56 1 n (List.replicate (min 1 n) (ah s)++List.replicate (n-min 1 n) (ah []))]) (by rw [<- r];rfl) ?_;refine G.loop (fun fr C' e t=>∃ (k:Nat),(k<=n/\min 1 n<=k)/\fr=[(7,[],.slice (some ⟨a,0,none⟩) n n),(8,[],.int .i64 k)]/\e=[.arr (.slice (some ⟨a,0,none⟩) n n) 56 1 n (List.replicate k (ah s)++List.replicate (n-k) (ah []))]/\t=n-k) (hn_ [7,8] Z) ⟨min 1 n,⟨Nat.min_le_right _ _,Qj _⟩,Z,Z,Z⟩ (fun fr B D m w x=>?_);obtain ⟨k,⟨l,E⟩,rfl,rfl,rfl⟩:=x;refine Ua 4 [7,8,37] Z ?_;refine Ud (fun f=>?_) fun f=>?_
 ·simp only [Qs] at f;have o:k<n:=by omega
  have F:1<=k:=by omega
  refine Uy [0,1,2,3,4,5,6,7,8,9] [] Z kr_ (fun R H d=>?_);refine Uh 3 Z ?_;refine U0 k n n U12 (fun _=>⟨.inr ⟨_,Z⟩,.inl ⟨Z,Z⟩,.inl ⟨Z,Z⟩,l,Qj _,Qj _⟩) U2 ?_;refine Uh 2 Z ?_;refine U0 0 k n U12 (fun _=>⟨.inl ⟨Z,Z⟩,.inr ⟨_,Z⟩,.inl ⟨Z,Z⟩,Qn _,l,Qj _⟩) U2 ?_;refine VO (j:=0) (off:=k) (g0:=a) (dl:=n-k) (dc:=n-k) (sl:=k-0) (sc:=n-0) (q:=min k (n-k)) U8 (by show some (Value.slice (if n=k then some (⟨a,0,none⟩:Addr) else (some (⟨a,0,none⟩:Addr)).map (·.add (k*1))) (n-k) (n-k))=_;rw [aA om_];simp [Addr.add_lit]) (by show some (Value.slice (if n=0 then some (⟨a,0,none⟩:Addr) else (some (⟨a,0,none⟩:Addr)).map (·.add (0*1))) (k-0) (n-0))=_;split <;> simp [Addr.add_lit]) U2 (by simp [nU,ah]) ap fl_ ?_;refine UN (((k+min k (n-k):Nat):Int)) U4 om_ om_ om_ U2 ?_;refine C4 1 [7,8] d Z ?_;refine Ut (L':=[.arr (.slice (some ⟨a,0,none⟩) n n) 56 1 n (List.replicate (k+min k (n-k)) (ah s)++List.replicate (n-(k+min k (n-k))) (ah []))]) (by rw [FK (n:=n) om_ (Nat.min_le_left _ _) am,List.drop_replicate,Nat.sub_sub];rfl) ?_;refine Up (m':=n-(k+min k (n-k))) om_ w (hn_ [7,8] Z) ⟨k+min k (n-k),⟨by omega,by omega⟩,Z,Z,Z⟩
 simp only [QG] at f;have o:k=n:=by omega
 subst o;refine Ua 2 [4] Z ?_;refine Un (UR Z Z ?_);exact ⟨a,Z,by simp⟩
theorem iW (C:Mem)(n:Nat)(a:n<=1000000):Jog.Fn cx.P 76 [.int .i64 n] C [] fun u _g c=>∃ b,u=.slice (some ⟨b,0,none⟩) n n/\c=[.arr u 56 1 n (List.replicate n (ah [48]))]:=by
 refine Uk func76 6 U3 fun w0=>?_;refine Ua 1 [0] Z ?_;refine UB [(2,3)] Z (fun R d=>?_);refine Ux [[ah [48]]] U12 (fun h _ _ e=>?_);refine Ue U6 ?_;refine D.call (De _ _ n [48] e.m_ a) Z (.inr dc_) U6 (Qo _) fl_ (fun i _ j _ f=>?_);refine C4 1 [2] d Z ?_;obtain ⟨b,rfl,rfl⟩:=f;refine Un (UR Z Z ?_);exact ⟨b,Z,Z⟩
theorem gi {f:α->List Value}{x:α}(h:l[i]?=some x):(l.map f)[i]?=some (f x):=by rw [Ql,h];rfl
def yR (s:Str):List Value:=[ah s]
def aY (q:Rat):List Value:=[ah (qtx q)]
theorem BI (l:List Rat):l.map aY=(l.map qtx).map yR:=by rw [Q6];rfl
def H8 {α:Type}(p:α->Bool):List α->Nat->Int
 | [],_=>-1
 | x::l,k=>if p x then (k:Nat) else H8 p l (k+1)
theorem nT {a:Type}{p:a->Bool}:∀ {l:List a}{i k:Nat}{x:a},l[i]?=some x->p x=true->(∀ y∈l.take i,p y=false)->H8 p l k=((k+i:Nat):Int)
 | y::l,0,k,x,h,b,_=>by
  simp only [List.getElem?_cons_zero,QR] at h;subst h;simp [H8,b]
 | y::l,i+1,k,x,h,b,c=>by
  simp only [Sp] at h;have hy:p y=false:=c y am;have:=nT (k:=k+1) h b (fun z d=>c z (by simp [d]));simp only [H8,hy,Q9,RF,this];omega
theorem lI {a:Type}{p:a->Bool}:∀ {l:List a}{k:Nat},(∀ y∈l,p y=false)->H8 p l k=-1
 | [],_,_=>rfl
 | y::l,k,h=>by
  simp only [H8,h y aL,Q9,RF];exact lI fun z b=>h z (Qq _ b)
theorem rR (p:α->Bool)(l:List α):(H8 p l 0=-1/\∀ y∈l,p y=false)∨∃ (i:Nat)(x:α),H8 p l 0=(i:Nat)/\l[i]?=some x/\p x=true/\∀ y∈l.take i,p y=false:=by
 by_cases h:∀ y∈l,p y=false
 ·exact .inl ⟨lI h,h⟩
 right;have d:∀ (l:List α),(¬ ∀ y∈l,p y=false)->∃ (i:Nat)(x:α),l[i]?=some x/\p x=true/\∀ y∈l.take i,p y=false:=by
  intro l;induction l with
  | nil=>intro h;exact absurd (fun y hy=>(by cases hy)) h
  | cons a l e =>
   intro h;by_cases b:p a=true
   ·exact ⟨0,a,Z,b,by simp⟩
   have c:p a=false:=by simpa using b
   obtain ⟨i,x,h1,h2,h3⟩:=e (fun h2=>h (fun y hy=>by
    rcases Qw.1 hy with rfl | hy
    ·exact c
    exact h2 y hy))
   refine ⟨i+1,x,by simpa using h1,h2,fun y hy=>?_⟩;rw [List.take_succ_cons] at hy;rcases Qw.1 hy with rfl | hy
   ·exact c
   exact h3 y hy
 obtain ⟨i,x,h1,h2,h3⟩:=d l h;exact ⟨i,x,by rw [nT h1 h2 h3,RC],h1,h2,h3⟩
theorem FN (C:Mem)(v:Value)(l:List Str)(g:Nat)(d:List Value)(a:Str->Bool)(e:Sl C 1 v (l.map yR))(_A:Jog.Enters cx.P g=true)
  (n:∀ x∈l,∀ D:Mem,C.le D->Gives cx.P g (ah x::d) D (.bool (a x))) :
  Gives cx.P 93 [v,.func (.func g) #[] ⟨d⟩] C (.int .i64 (H8 a l 0)):=by
 obtain ⟨o,c0,rfl,p,B,_⟩:=id e;have E:maxLen<=9223372036854775807:=by simp [maxLen]
 simp only [aw] at e p ⊢;refine Uk func93 19 U3 fun w0=>?_;refine Ua 1 [0,1] Z ?_;refine Ua 3 [0,1,7,8] Z ?_;refine G.loop (fun fr C' q r=>∃ (i:Nat),(i<=l.length/\∀ y∈l.take i,a y=false)/\fr=[(0,[],.slice o l.length c0),(1,[],.func (.func g) #[] ⟨d⟩),(7,[],.int .i64 l.length),(8,[],.int .i64 i)]/\q=[]/\r=l.length-i) (hn_ [0,1,7,8] Z) ⟨0,⟨Qn _,by simp⟩,Z,Z,Z⟩ (fun fr F H m s t=>?_);obtain ⟨i,⟨I,b⟩,rfl,rfl,rfl⟩:=t;refine Ua 1 [0,1,7,8,9] Z ?_;refine Ud (fun f=>?_) fun f=>?_
 ·have h:i<l.length:=by simpa using f
  obtain ⟨x,c⟩:∃ x,l[i]?=some x:=⟨l[i],ak h⟩;refine Ua 2 [0,1,5,7,8] Z ?_;refine Ub 3 Z fun R j=>?_;refine Us e.m_ U10 om_ (gi c) fl_ (fun J u=>?_);refine Uc u U8 ?_;refine Uo (n x (Qi c) _ mup) U7 ?_;refine Ug [0,1,5,7,8,16] j Z ?_;refine Ud (fun k=>?_) fun k=>?_
  ·have w:a x=true:=k;refine Ua 2 [4] Z ?_;refine Ui U2 ?_;exact ⟨by rw [nT c w b,RC],Z⟩
  have z:a x=false:=k;refine Uf fun R j=>?_;refine Ul _ U7 ?_;refine C4 1 [0,1,7,8] j Z ?_;refine Up (m':=l.length-(i+1)) om_ s (hn_ [0,1,7,8] Z) ⟨i+1,⟨by omega,fun y hy=>by
   rw [QJ,c] at hy;rcases Qy.1 hy with hy | hy
   ·exact b y hy
   simp only [RD,QF] at hy;subst hy;exact z⟩,Z,Z,Z⟩
 have h:i=l.length:=by
  have:¬ i<l.length:=by simpa using f
  omega
 refine Ua 1 [4] Z ?_;refine Ui U2 ?_;exact ⟨by rw [h,Qv] at b;rw [lI b],Z⟩
theorem FT (C:Mem)(v:Value)(l:List Str)(g:Nat)(b:List Value)(a:Str->Bool)(c:Sl C 1 v (l.map yR))(d:Jog.Enters cx.P g=true)
  (e:∀ x∈l,∀ D:Mem,C.le D->Gives cx.P g (ah x::b) D (.bool (a x))) :
  Gives cx.P 59 [v,.func (.func g) #[] ⟨b⟩] C (.bool (l.any a)):=by
 refine Uk func59 9 U3 fun w0=>?_;refine Ua 1 [0,1] Z ?_;refine Ub 2 Z fun R f=>?_;refine Uo (FN _ v l g b a c.m_ d (fun x h D j=>e x h D (Mem.le.trans mup j))) U7 ?_;refine C4 2 [4] f Z ?_;refine Ui U2 ?_;refine ⟨?_,Z⟩;congr 1;rcases rR a l with ⟨h1,h2⟩ | ⟨i,x,h1,h2,h3,_⟩
 ·rw [h1,List.any_eq_false.2 (fun y hy=>by rw [h2 y hy];decide)];rfl
 rw [h1,SY.2 ⟨x,Qi h2,h3⟩];exact QD om_
theorem pj (C:Mem)(a:Tabs C)(s:Str)(b:s.length<=999998):Gives cx.P 89 [ah s] C (.bool (!ba s)):=by
 refine Uk func89 6 U3 fun w0=>?_;refine Ua 1 [0] Z ?_;refine Ub 1 Z fun R c=>?_;refine Uo (dV _ a.m_ s b) U7 ?_;refine C4 2 [2] c Z ?_;refine Ui U2 ?_;exact ⟨by cases ba s <;> rfl,Z⟩
def jh (n:Int)(l:List Str):Int:=if (l.length:Int)=n then qF (l.all ba) else 5
theorem Bb (C:Mem)(e:Tabs C)(v:Value)(n:Int)(l:List Str)(a:Sl C 1 v (l.map yR))(b:∀ s∈l,s.length<=999998):Gives cx.P 88 [v,.int .i64 n] C (.int .i64 (jh n l)):=by
 obtain ⟨o,c0,rfl,f,p,_⟩:=id a;have q:maxLen<=9223372036854775807:=by simp [maxLen]
 simp only [aw] at a f ⊢;refine Uk func88 13 U3 fun w0=>?_;refine Ua 1 [0,1] Z ?_;refine Ua 5 [0,5] Z ?_;refine Ud (fun h5=>?_) fun h5=>?_
 ·have g:¬ (l.length:Int)=n:=by simpa using h5
  refine Ua 1 [4] Z ?_;refine Ui U2 ?_;exact ⟨by unfold jh;rw [aA g],Z⟩
 have d:(l.length:Int)=n:=by simpa using h5
 refine Ub 1 Z fun R h=>?_;refine Uo (FT _ _ l _ [] (fun s=>!ba s) a.m_ Z (fun s i D j=>pj D (e.mono (Mem.le.trans mup j)) s (b s i))) U7 ?_;refine C4 1 [10] h Z ?_;refine Ud (fun c=>?_) fun c=>?_
 ·have k:l.all ba=false:=by
   obtain ⟨s,h1,h2⟩:=SY.1 (show (l.any fun s=>!ba s)=true from c);exact SC.2 ⟨s,h1,by simpa using h2⟩
  refine Ua 1 [4] Z ?_;refine Ui U2 ?_;exact ⟨by unfold jh;rw [aH d,k];rfl,Z⟩
 have m:l.all ba=true:=by
  have h1:=List.any_eq_false.1 (show (l.any fun s=>!ba s)=false from c);exact Qx.2 fun s b=>by simpa using h1 s b
 refine Ua 1 [4] Z ?_;refine Ui U2 ?_;exact ⟨by unfold jh;rw [aH d,m];rfl,Z⟩
def RowsT (C:Mem)(v:Value)(rows:List (List Str × Str)):Prop:=∃ vs:List Value,vs.length=rows.length/\(∀ (i:Nat)(w:Value)(r:List Str × Str),vs[i]?=some w->rows[i]?=some r->Sl C 1 w (r.1.map yR))/\Sl C 2 v (List.zipWith (fun w (r:List Str × Str)=>[w,ah r.2]) vs rows)
theorem RowsT.mono {C D:Mem}{v:Value}{a:List (List Str × Str)}(h:RowsT C v a)(b:C.le D):RowsT D v a:=by
 obtain ⟨vs,h1,h2,h3⟩:=h;exact ⟨vs,h1,fun i w r c hr=>(h2 i w r c hr).mono b,h3.mono b⟩
theorem RowsT.m_ {C D:Mem}{v:Value}(h:RowsT C v rows)(a:C.le D:=by exact mup):RowsT D v rows:=RowsT.mono h a
theorem Et {w:Value}{r:List Str × Str}(a:vs[i]?=some w)(b:rows[i]?=some r):(List.zipWith (fun w (r:List Str × Str)=>[w,ah r.2]) vs rows)[i]?=some [w,ah r.2]:=by
 rw [List.getElem?_zipWith,a,b]
theorem tw (h:vs.length=rows.length):(List.zipWith (fun w (r:List Str × Str)=>[w,ah r.2]) vs rows).length=rows.length:=by simp [h]
def Fm (n:Int)(r:List Str × Str):Int:=if jh n r.1≠0 then jh n r.1 else qF (ba r.2)
def tN (n:Int):List (List Str × Str)->Int
 | []=>0
 | r::l=>if Fm n r≠0 then Fm n r else tN n l
def Ky (n:Int)(rows:List (List Str × Str))(obj:List Str):Int:=if n<0∨60<n then 3 else if 300<rows.length then 4 else if jh n obj≠0 then jh n obj else tN n rows
def Qh (rows:List (List Str × Str)):Prop:=∀ r∈rows,(∀ s∈r.1,s.length<=999998)/\r.2.length<=999998
theorem FQ (C:Mem)(p:Tabs C)(n:Int)(E F:Value)(a:List (List Str × Str))(c:List Str)(M:RowsT C E a)(q:Sl C 1 F (c.map yR))(H:Qh a)(N:∀ s∈c,s.length<=999998) :
  Gives cx.P 56 [.agg ⟨[.int .i64 n,E,F]⟩] C (.int .i64 (Ky n a c)):=by
 obtain ⟨vs,O,Q,t⟩:=M;obtain ⟨S,c0,rfl,T,ae,_⟩:=id t;obtain ⟨A1,c1,rfl,U,af,_⟩:=id q;have ag:maxLen<=9223372036854775807:=by simp [maxLen]
 simp only [tw O,aw] at t q T U ⊢;refine Uk func56 48 U3 fun w0=>?_;refine Uf fun R b=>?_;refine Uw U6 (fun V=>?_);refine C4 1 [1] b Z ?_;refine G.freeze 0 Z (fun _ _ d=>?_);refine Ub 1 Z fun R b=>?_;refine Uc (bkT d 1) U8 ?_;refine Uh 3 Z ?_;refine UE U6 (fun _=>PtrTo.blockT (Mem.get d mup) _ 1) U3 ?_;refine Ue U6 ?_;refine UF U8 ?_;refine C4 1 [1,7] b Z ?_;refine Ud (fun u=>?_) fun u=>?_
 ·have f:n<0∨60<n:=by
   simp only [RY,Qs] at u;omega
  refine Ua 1 [2] Z ?_;refine Ui U2 ?_;exact ⟨by unfold Ky;rw [aH f],Z⟩
 have f:¬ (n<0∨60<n):=by
  simp only [RQ,QG] at u;omega
 refine Ub 1 Z fun R b=>?_;refine Uc (bkT d 1) U8 ?_;refine C4 3 [1,16] b Z ?_;refine Ud (fun v=>?_) fun v=>?_
 ·have g:300<a.length:=by
   have:=aV v;omega
  refine Ua 1 [2] Z ?_;refine Ui U2 ?_;exact ⟨by unfold Ky;rw [aA f,aH g],Z⟩
 have g:¬ 300<a.length:=by
  have:=Qm v;omega
 refine Ub 1 Z fun R b=>?_;refine Uc (bkT d 1) U8 ?_;refine Ue U6 ?_;refine Uc (bkT d 1) U8 ?_;refine Uo (Bb _ p.m_ _ n c q.m_ N) U7 ?_;refine C4 1 [1,3] b Z ?_;refine Ua 2 [1,3,27] Z ?_;refine Ud (fun x=>?_) fun x=>?_
 ·have y:jh n c≠0:=by simpa using x
  refine Ua 2 [2] Z ?_;refine Ui U2 ?_;exact ⟨by unfold Ky;rw [aA f,aA g,aH y],Z⟩
 have y:¬ jh n c≠0:=by simpa using x
 have z:Ky n a c=tN n a:=by unfold Ky;rw [aA f,aA g,aA y]
 refine Ub 1 Z fun R b=>?_;refine Uc (bkT d 1) U8 ?_;refine C4 2 [1,30,31,32] b Z ?_;refine G.loop (fun fr C' W X=>∃ (i:Nat),(i<=a.length/\tN n a=tN n (a.drop i))/\fr=[(1,[],.pointer (some ⟨V,0,none⟩)),(30,[],.slice S a.length c0),(31,[],.int .i64 a.length),(32,[],.int .i64 i)]/\W=[]/\X=a.length-i) (hn_ [1,30,31,32] Z) ⟨0,⟨Qn _,Z⟩,Z,Z,Z⟩ (fun fr ah ai m _ Y=>?_);obtain ⟨i,⟨hi,e⟩,rfl,rfl,rfl⟩:=Y;refine Ua 1 [1,30,31,32,33] Z ?_;refine Ud (fun A=>?_) fun A=>?_
 ·have h:i<a.length:=by
   have:=aV A;omega
  obtain ⟨r,k⟩:∃ r,a[i]?=some r:=⟨a[i],ak h⟩;obtain ⟨w,I⟩:∃ w,vs[i]?=some w:=⟨vs[i]'om_,ak _⟩;have J:=Qi k;have K:=Q i w r I k;obtain ⟨Aw,cw,rfl,_⟩:=id K;have aa:a.drop i=r::a.drop (i+1):=QS h |>.trans (by rw [(aF.1 k).2]);rw [aa] at e;simp only [tN] at e;refine Uf fun R b=>?_;refine Us t.m_ U10 om_ (Et I k) fl_ (fun aj ab=>?_);refine Uc ab U8 ?_;refine Uv U5 (fun b5=>?_);refine Um (j:=0) U12 ?_;refine Ug [1,5,30,31,32] b Z ?_;refine G.freeze 0 Z (fun _ _ L=>?_);refine Ub 1 Z fun R b=>?_;refine Uc (bkT L 1) U8 ?_;refine Ue U6 ?_;refine Uc (bkT d 1) U8 ?_;refine Uo (Bb _ p.m_ _ n r.1 K.m_ (H r J).1) U7 ?_;refine C4 1 [1,5,6,30,31,32] b Z ?_;refine Ua 2 [1,5,6,30,31,32,42] Z ?_;refine Ud (fun B=>?_) fun B=>?_
  ·have l:jh n r.1≠0:=by simpa using B
   have o:Fm n r=jh n r.1:=by unfold Fm;rw [aH l]
   refine Ua 2 [2] Z ?_;refine Ui U2 ?_;exact ⟨by rw [z,e,o,aH l],Z⟩
  have l:¬ jh n r.1≠0:=by simpa using B
  have o:Fm n r=qF (ba r.2):=by unfold Fm;rw [aA l]
  refine Ub 1 Z fun R b=>?_;refine Uc (bkT L 1) U8 ?_;refine Uo (pj _ p.m_ r.2 (H r J).2) U7 ?_;refine Ug [1,30,31,32,46] b Z ?_;refine Ud (fun D=>?_) fun D=>?_
  ·have ac:ba r.2=false:=by simpa using D
   refine Ua 1 [2] Z ?_;refine Ui U2 ?_;exact ⟨by rw [z,e,o,ac];rfl,Z⟩
  have ad:ba r.2=true:=by simpa using D
  refine Uf fun R b=>?_;refine Ul _ U7 ?_;refine C4 1 [1,30,31,32] b Z ?_;refine Up (m':=a.length-(i+1)) om_ mup (hn_ [1,30,31,32] Z) ⟨i+1,⟨by omega,by rw [e,o,ad];rfl⟩,Z,Z,Z⟩
 have h:i=a.length:=by
  have:=Qm A;omega
 refine Ua 1 [2] Z ?_;refine Ui U2 ?_;exact ⟨by rw [z,e,h,Rr];rfl,Z⟩
theorem ug {a b:Rat}{k:Nat}(c:QB k a)(d:QB m b):QB (k+m) (a*b):=by
 rw [gx];refine hU (Nat.mul_ne_zero a.den_nz b.den_nz) ?_ ?_
 ·rw [RX,Ti];exact Sg c.1 d.1
 rw [Ti];exact Sg c.2 d.2
def iJ (r:List Rat × Rat):List Str × Str:=(r.1.map qtx,qtx r.2)
structure RowsQ (n:Nat)(rs:List (List Rat × Rat)):Prop where
 l:∀ r∈rs,r.1.length=n
 q:∀ r∈rs,(∀ x∈r.1,QB 23 x)/\QB 23 r.2
 m:rs.length<=150
theorem O7 {l:List Rat}(h:∀ x∈l,QB 23 x):QB 23 (l.getD j 0):=by
 rw [al];cases e:l[j]? with
 | none=>exact ⟨by decide,by decide⟩
 | some x=>exact h x (Qi e)
theorem uc (q:Rat):decide (eL q.num<0)=decide (q<0):=by
 have h:q.num<0 ↔ q<0:=by rw [Rat.lt_iff];simp
 rw [Q7];unfold eL;by_cases h1:q.num<0
 ·rw [aH h1];exact ⟨fun _=>h.1 h1,fun _=>by decide⟩
 rw [aA h1];exact ⟨fun h2=>by split at h2 <;> exact absurd h2 dc_,fun h2=>absurd (h.2 h2) h1⟩
open Classical in
theorem sR (b:Bool):qF b=0/\b=true∨qF b=2/\b=false:=by cases b <;> simp [qF]
theorem bM:∀ q:Rat,(aY q).length=1:=fun _=>rfl
open Classical in
theorem FI (q:Rat):decide (eL q.num ≥ 0)=decide (0<=q):=by
 have h:=uc q;have h2:decide (0<=q)=!decide (q<0):=by
  rw [<- decide_not,Q7];grind
 rw [h2,<- h,<- decide_not,Q7];omega
theorem Py:qtx 0=[48]:=by decide +kernel
theorem P8:aY 0=[Value.string ⟨#[48]⟩]:=by
 show [ah (qtx 0)]=_;rw [Py];rfl
def zF (fs:List Rat)(s q:Nat):Rat:=if q=s then 0 else fs.getD q 0
def kI (fs bf:List Rat)(s:Nat)(k:Rat)(j:Nat):List Rat:=(List.range fs.length).map fun q=>zF fs s q+(if q<j then k*bf.getD q 0 else 0)
theorem gV :(kI fs bf s k j).length=fs.length:=by simp [kI]
theorem wt :fs.set s 0=kI fs bf s k 0:=by
 refine List.ext_getElem? fun q=>?_;unfold kI;rw [List.getElem?_set,Ql];by_cases a:q<fs.length
 ·rw [QY a];simp only [RS,Nat.not_lt_zero,RF];unfold zF;split
  ·next e=>rw [aH om_,aH e.symm];rw [Rat.add_zero]
  next e=>rw [aA (fun b=>e b.symm),al,ak a];simp only [Rx];congr 1;grind
 rw [Qr om_,Qr ap];split
 ·split
  ·omega
  rfl
 rfl
theorem tY {q:Nat}(h:q<fs.length):(kI fs bf s k j)[q]?=some (zF fs s q+(if q<j then k*bf.getD q 0 else 0)):=by
 unfold kI;rw [Ql,QY h];rfl
theorem AW (h:j<fs.length):(kI fs bf s k j).set j (zF fs s j+k*bf.getD j 0)=kI fs bf s k (j+1):=by
 refine List.ext_getElem? fun q=>?_;rw [List.getElem?_set,gV];by_cases a:q<fs.length
 ·rw [tY a,tY a];by_cases e:j=q
  ·subst e;rw [aH rfl,aH a,aH om_]
  rw [aA e];by_cases h1:q<j
  ·rw [aH h1,aH om_]
  rw [aA h1,aA om_]
 rw [Qr (by rw [gV];omega),Qr (by rw [gV];omega)];split
 ·exact absurd om_ a
 rfl
theorem ww (a:bf.getD j 0=0):kI fs bf s k j=kI fs bf s k (j+1):=by
 refine List.map_congr_left fun q _=>?_;by_cases e:q=j
 ·subst e;rw [aA om_,aH om_,a];grind
 by_cases h1:q<j
 ·rw [aH h1,aH om_]
 rw [aA h1,aA om_]
theorem wu :kI fs bf s 0 j=kI fs bf s 0 0:=by
 refine List.map_congr_left fun q _=>?_;split <;> split <;> grind
theorem FF {c bc:Rat}(_b:s<fs.length):Lp.putL ⟨c,fs⟩ s ⟨bc,bf⟩=⟨c+fs.getD s 0*bc,kI fs bf s (fs.getD s 0) fs.length⟩:=by
 unfold Lp.putL;congr 1;refine List.map_congr_left fun q a=>?_;rw [aH (QA.1 a)];rfl
theorem Oa {q:Nat}(a:∀ x∈fs,QB 40 x)(b:q<fs.length):QB 40 (zF fs s q):=by
 unfold zF;split
 ·exact ⟨by decide,by decide⟩
 rw [al,ak b];exact a _ (Rf _)
def bE (p:Rat × Value):List Value:=[ah (qtx p.1),p.2]
theorem gG:∀ p,(bE p).length=2:=fun _=>rfl
theorem nX (h:ls[i]?=some p):(ls.map bE).flatten.drop (i*2)=ah (qtx p.1)::p.2::(ls.map bE).flatten.drop (i*2+2):=by
 obtain ⟨h1,h2⟩:=aF.1 h;have e:=(cI gG ls i).2;have a:=(cI gG ls (i+1)).2;rw [R8] at a;rw [e,a,QS h1,h2];rfl
theorem IU (h:ls[i]?=some p):ls.set i p=ls:=by
 refine List.ext_getElem? fun j=>?_;rw [List.getElem?_set];split
 ·next e=>subst e;rw [aH (aF.1 h).1,h]
 rfl
theorem Dq (h:ls[i]?=some p):((ls.map bE).flatten.drop (i*2)).take 1=[ah (qtx p.1)]:=by rw [nX h];rfl
theorem jM (h:ls[i]?=some p):((ls.map bE).flatten.drop (i*2+1)).take 1=[p.2]:=by rw [<- List.drop_drop,nX h];rfl
theorem yz (h:ls[i]?=some p)(c:Rat):aD (ls.map bE).flatten [ah (qtx c)] (i*2)=((ls.set i (c,p.2)).map bE).flatten:=by
 rw [<- bO gG (c,p.2) (aF.1 h).1];unfold aD;have:(ls.map bE).flatten.drop (i*2+1)=p.2::(ls.map bE).flatten.drop (i*2+2):=by rw [<- List.drop_drop,nX h];rfl
 show _++[_]++List.drop (i*2+1) _=_++[_,_]++List.drop (i*2+2) _;rw [this];simp
theorem Mz (C:Mem)(t:Tabs C)(g e f n s:Nat)(i l o p z:Value)(b d:List Rat)(c h:Rat)(ag:b.length=n)(aj:d.length=n)(hs:s<n)(q:Sl C 1 z (d.map aY))(Q:QB 40 c)(A:∀ x∈b,QB 40 x)(B:QB 40 h)(S:∀ x∈d,QB 40 x) :
  Jog.Fn cx.P 237 [.pointer (some ⟨g,4,none⟩),.int .i64 s,.agg ⟨[ah (qtx h),z]⟩] C [.obj g (.cells ⟨[i,l,o,p,ah (qtx c),.slice (some ⟨e,0,none⟩) n f]⟩ 212 (0,0)),.arr (.slice (some ⟨e,0,none⟩) n f) 56 1 n (b.map aY).flatten]
   fun u _ r=>u=.tuple #[]/\r=[.obj g (.cells ⟨[i,l,o,p,ah (qtx (c+b.getD s 0*h)),.slice (some ⟨e,0,none⟩) n f]⟩ 212 (0,0)),.arr (.slice (some ⟨e,0,none⟩) n f) 56 1 n ((kI b d s (b.getD s 0) n).map aY).flatten]:=by
 obtain ⟨T,U,rfl,V,am,_⟩:=id q;simp only [aw] at V q ⊢;have D:s<b.length:=by omega
 have an:maxLen<=9223372036854775807:=by simp [maxLen]
 obtain ⟨k,E⟩:∃ k,b.getD s 0=k:=⟨_,rfl⟩;have F:b[s]?=some k:=by rw [<- E,al,ak D];rfl
 have v:QB 40 k:=A k (Qi F);rw [E];refine Uk func237 64 U3 fun w0=>?_;refine Ut (L':=[.obj g (.cells ⟨[i,l,o,p,ah (qtx c),.slice (some ⟨e,0,none⟩) n f]⟩ 212 (0,0)),.arr (.slice (some ⟨e,0,none⟩) n f) 56 1 n (b.map aY).flatten]) Z ?_;refine Uf fun R a=>?_;refine Uw U6 (fun b5=>?_);refine Ug [0,1,5] a Z ?_;clear a R;refine G.freeze 0 Z (fun _ _ H=>?_);refine Ub 3 Z fun R a=>?_;refine Uj af U9 ?_;refine Ue U6 ?_;refine UI (s*1) U10 ai U2 ?_;refine UX ae U6 (fun _=>(by rw [eE bM F];rfl)) U2 ?_;refine C4 1 [0,1,5,6] a Z ?_;clear a R;refine Ub 3 Z fun R a=>?_;refine Uj af U9 ?_;refine Ue U6 ?_;refine UI (s*1) U10 ai U2 ?_;refine UK (j:=1) U11 (by show s*1+1<=_;rw [bR bM];omega) ?_;refine Ug [0,5,6] a Z ?_;clear a R;refine G.perm (L':=[.obj g (.cells ⟨[i,l,o,p,ah (qtx c),.slice (some ⟨e,0,none⟩) n f]⟩ 212 (0,0)),.arr (.slice (some ⟨e,0,none⟩) n f) 56 1 n ((kI b d s k 0).map aY).flatten]) (by rw [<- wt,<- bO bM 0 D,P8];exact List.Perm.swap _ _ _) ?_;refine Ua 2 [0,5,6,23] Z ?_;refine Ud (fun I=>?_) fun I=>?_
 ·have W:qtx k=[48]:=by simpa using I
  have X:k=0:=lF (W.trans (by decide +kernel:([48]:List UInt8)=qtx 0));subst X;have Y:c+0*h=c:=by grind
  refine Ut (L':=[.obj g (.cells ⟨[i,l,o,p,ah (qtx (c+0*h)),.slice (some ⟨e,0,none⟩) n f]⟩ 212 (0,0)),.arr (.slice (some ⟨e,0,none⟩) n f) 56 1 n ((kI b d s 0 n).map aY).flatten]) (by rw [Y,wu (j:=n)]) ?_;refine Un (VQ Z  ?_);exact ⟨Z,Z⟩
 refine Uy [0,1,2,3,4,5,6,7,8,9,10,11,12] [(8,1),(9,1)] Z kr_ (fun R q a=>?_);refine Uh 4 Z ?_;refine Uj af U9 ?_;refine Uh 2 Z ?_;refine Uc (bkT H 1) U8 ?_;refine Uz (fun _=>(dR _ t.m_ k h 40 dc_ dc_ v B)) U9 ?_;refine Uz (fun _=>(mQ _ t.m_ c (k*h) 80 dc_ dc_ (Q.le dc_) ((ug v B).le dc_))) U9 ?_;refine Uh 2 Z ?_;refine Um (j:=0) U12 ?_;refine Ug [0,5,6] a Z ?_;clear a q R;refine Ub 1 Z fun R a=>?_;refine Uc (bkT H 1) U8 ?_;refine C4 2 [0,6,37,38,39] a Z ?_;clear a R;refine G.loop (fun fr C' r μ=>∃ (j:Nat),(j<=n)/\fr=[(0,[],.pointer (some ⟨g,4,none⟩)),(6,[],ah (qtx k)),(37,[],.slice T d.length U),(38,[],.int .i64 d.length),(39,[],.int .i64 j)]/\r=[.obj g (.cells ⟨[i,l,o,p,ah (qtx (c+k*h)),.slice (some ⟨e,0,none⟩) n f]⟩ 212 (0,0)),.arr (.slice (some ⟨e,0,none⟩) n f) 56 1 n ((kI b d s k j).map aY).flatten]/\μ=n-j) (hn_ [0,6,37,38,39] Z) ⟨0,Qn _,Z,Z,Z⟩ (fun fr ao ap m J hI=>?_);obtain ⟨j,hj,rfl,rfl,rfl⟩:=hI;refine Ua 1 [0,6,37,38,39,40] Z ?_;refine Ud (fun w=>?_) fun w=>?_
 ·have K:j<n:=by
   have:=aV w;omega
  obtain ⟨x,y⟩:∃ x,d[j]?=some x:=⟨d[j]'om_,ak om_⟩;have L:QB 40 x:=S x (Qi y);have M:d.getD j 0=x:=by rw [al,y];rfl
  have aa:(kI b d s k j)[j]?=some (zF b s j):=by
   rw [tY om_,aA (Nat.lt_irrefl _)];congr 1;grind
  have qz:=Oa (s:=s) A (show j<b.length by omega);have N:=AW (bf:=d) (s:=s) (k:=k) (show j<b.length by omega);rw [M] at N;refine Ub 1 Z fun R a=>?_;refine Us q.m_ U10 om_ (gi y) fl_ (fun aq ab=>?_);refine Uc ab U8 ?_;refine C4 2 [0,6,7,8,37,38,39] a Z ?_;clear a R;refine Ua 2 [0,6,7,8,37,38,39,45] Z ?_;refine Ud (fun O=>?_) fun O=>?_
  ·refine Uy [0,1,2,3,4,5,6,7,8,9,10,11,12,13,14,15,16,17] [(14,1),(15,1)] Z kr_ (fun R q a=>?_);refine Uh 3 Z ?_;refine Uj af U9 ?_;refine Uh 4 Z ?_;refine Uj af U9 ?_;refine Ue U6 ?_;refine UI (j*1) U10 ai U2 ?_;refine UX ae U6 (fun _=>(by rw [eE bM aa];rfl)) U2 ?_;refine Uh 2 Z ?_;refine Uz (fun _=>(dR _ t.m_ k x 40 dc_ dc_ v L)) U9 ?_;refine Uz (fun _=>(mQ _ t.m_ (zF b s j) (k*x) 80 dc_ dc_ (qz.le dc_) ((ug v L).le dc_))) U9 ?_;refine UI (j*1) U10 ai U2 ?_;refine UK (j:=1) U11 (by show j*1+1<=_;rw [bR bM,gV];omega) ?_;refine Ug [0,6,37,38,39] a Z ?_;clear a q R;refine Uf fun R a=>?_;refine Ul _ U7 ?_;refine C4 1 [0,6,37,38,39] a Z ?_;clear a R;refine G.perm (L':=[.obj g (.cells ⟨[i,l,o,p,ah (qtx (c+k*h)),.slice (some ⟨e,0,none⟩) n f]⟩ 212 (0,0)),.arr (.slice (some ⟨e,0,none⟩) n f) 56 1 n ((kI b d s k (j+1)).map aY).flatten]) (by rw [<- N,<- bO bM _ (by rw [gV];omega)];exact List.Perm.swap _ _ _) ?_;refine Up (m':=n-(j+1)) om_ J (hn_ [0,6,37,38,39] Z) ⟨j+1,om_,Z,Z,Z⟩
  have ac:x=0:=by
   have ad:qtx x=[48]:=by simpa using O
   exact lF (ad.trans (by decide +kernel:([48]:List UInt8)=qtx 0))
  rw [ww (j:=j) (by rw [M];exact ac)];refine Uf fun R a=>?_;refine Ul _ U7 ?_;refine C4 1 [0,6,37,38,39] a Z ?_;clear a R;refine Up (m':=n-(j+1)) om_ J (hn_ [0,6,37,38,39] Z) ⟨j+1,om_,Z,Z,Z⟩
 have K:j=n:=by
  have:=Qm w;omega
 rw [K];refine Vn Z ?_;exact ⟨Z,Z⟩
theorem MA (C:Mem)(t:Tabs C)(l m o i e f n s:Nat)(z:Value)(h:List (Rat × Value))(b d:List Rat)(c g:Rat)(aj:h.length=m)(q:h[i]?=some (c,.slice (some ⟨e,0,none⟩) n f))(am:b.length=n)(an:d.length=n)(hs:s<n)(r:Sl C 1 z (d.map aY))(S:QB 40 c)(A:∀ x∈b,QB 40 x)(B:QB 40 g)(T:∀ x∈d,QB 40 x) :
  Jog.Fn cx.P 237 [.pointer (some ⟨l,i*2,none⟩),.int .i64 s,.agg ⟨[ah (qtx g),z]⟩] C [.arr (.slice (some ⟨l,0,none⟩) m o) 209 2 m (h.map bE).flatten,.arr (.slice (some ⟨e,0,none⟩) n f) 56 1 n (b.map aY).flatten]
   fun u _ p=>u=.tuple #[]/\p=[.arr (.slice (some ⟨l,0,none⟩) m o) 209 2 m ((h.set i (c+b.getD s 0*g,.slice (some ⟨e,0,none⟩) n f)).map bE).flatten,.arr (.slice (some ⟨e,0,none⟩) n f) 56 1 n ((kI b d s (b.getD s 0) n).map aY).flatten]:=by
 obtain ⟨U,V,rfl,W,ao,_⟩:=id r;simp only [aw] at W r ⊢;have D:s<b.length:=by omega
 have ap:maxLen<=9223372036854775807:=by simp [maxLen]
 obtain ⟨k,E⟩:∃ k,b.getD s 0=k:=⟨_,rfl⟩;have F:b[s]?=some k:=by rw [<- E,al,ak D];rfl
 have v:QB 40 k:=A k (Qi F);rw [E];refine Uk func237 64 U3 fun w0=>?_;refine Ut (L':=[.arr (.slice (some ⟨l,0,none⟩) m o) 209 2 m (h.map bE).flatten,.arr (.slice (some ⟨e,0,none⟩) n f) 56 1 n (b.map aY).flatten]) Z ?_;refine Uf fun R a=>?_;refine Uw U6 (fun b5=>?_);refine Ug [0,1,5] a Z ?_;clear a R;refine G.freeze 0 Z (fun _ _ H=>?_);refine Ub 3 Z fun R a=>?_;refine UX af U6 (fun _=>(by rw [jM q];rfl)) U2 ?_;refine Ue U6 ?_;refine UI (s*1) U10 ai U2 ?_;refine UX ae U6 (fun _=>(by rw [eE bM F];rfl)) U2 ?_;refine C4 1 [0,1,5,6] a Z ?_;clear a R;refine Ub 3 Z fun R a=>?_;refine UX af U6 (fun _=>(by rw [jM q];rfl)) U2 ?_;refine Ue U6 ?_;refine UI (s*1) U10 ai U2 ?_;refine UK (j:=1) U11 (by show s*1+1<=_;rw [bR bM];omega) ?_;refine Ug [0,5,6] a Z ?_;clear a R;refine G.perm (L':=[.arr (.slice (some ⟨l,0,none⟩) m o) 209 2 m (h.map bE).flatten,.arr (.slice (some ⟨e,0,none⟩) n f) 56 1 n ((kI b d s k 0).map aY).flatten]) (by rw [<- wt,<- bO bM 0 D,P8];exact List.Perm.swap _ _ _) ?_;refine Ua 2 [0,5,6,23] Z ?_;refine Ud (fun I=>?_) fun I=>?_
 ·have X:qtx k=[48]:=by simpa using I
  have Y:k=0:=lF (X.trans (by decide +kernel:([48]:List UInt8)=qtx 0));subst Y;have aa:c+0*g=c:=by grind
  refine Ut (L':=[.arr (.slice (some ⟨l,0,none⟩) m o) 209 2 m ((h.set i (c+0*g,.slice (some ⟨e,0,none⟩) n f)).map bE).flatten,.arr (.slice (some ⟨e,0,none⟩) n f) 56 1 n ((kI b d s 0 n).map aY).flatten]) (by rw [aa,wu (j:=n),IU q]) ?_;refine Un (VQ Z  ?_);exact ⟨Z,Z⟩
 refine Uy [0,1,2,3,4,5,6,7,8,9,10,11,12] [(8,1),(9,1)] Z kr_ (fun R r a=>?_);refine Uh 4 Z ?_;refine UX af U6 (fun _=>(by rw [Dq q];rfl)) U2 ?_;refine Uh 2 Z ?_;refine Uc (bkT H 1) U8 ?_;refine Uz (fun _=>(dR _ t.m_ k g 40 dc_ dc_ v B)) U9 ?_;refine Uz (fun _=>(mQ _ t.m_ c (k*g) 80 dc_ dc_ (S.le dc_) ((ug v B).le dc_))) U9 ?_;refine Uh 2 Z ?_;refine UK (j:=0) U11 (by show i*2+1<=_;rw [bR gG];have:=(aF.1 q).1;omega) ?_;refine Ug [0,5,6] a Z ?_;clear a r R;refine Ut (L':=[.arr (.slice (some ⟨l,0,none⟩) m o) 209 2 m ((h.set i (c+k*g,.slice (some ⟨e,0,none⟩) n f)).map bE).flatten,.arr (.slice (some ⟨e,0,none⟩) n f) 56 1 n ((kI b d s k 0).map aY).flatten]) (by rw [<- yz q];rfl) ?_;have J:(h.set i (c+k*g,Value.slice (some ⟨e,0,none⟩) n f))[i]?=some (c+k*g,Value.slice (some ⟨e,0,none⟩) n f):=Tx (aF.1 q).1;refine Ub 1 Z fun R a=>?_;refine Uc (bkT H 1) U8 ?_;refine C4 2 [0,6,37,38,39] a Z ?_;clear a R;refine G.loop (fun fr C' p μ=>∃ (j:Nat),(j<=n)/\fr=[(0,[],.pointer (some ⟨l,i*2,none⟩)),(6,[],ah (qtx k)),(37,[],.slice U d.length V),(38,[],.int .i64 d.length),(39,[],.int .i64 j)]/\p=[.arr (.slice (some ⟨l,0,none⟩) m o) 209 2 m ((h.set i (c+k*g,.slice (some ⟨e,0,none⟩) n f)).map bE).flatten,.arr (.slice (some ⟨e,0,none⟩) n f) 56 1 n ((kI b d s k j).map aY).flatten]/\μ=n-j) (hn_ [0,6,37,38,39] Z) ⟨0,Qn _,Z,Z,Z⟩ (fun fr aq ar m K hI=>?_);obtain ⟨j,hj,rfl,rfl,rfl⟩:=hI;refine Ua 1 [0,6,37,38,39,40] Z ?_;refine Ud (fun w=>?_) fun w=>?_
 ·have L:j<n:=by
   have:=aV w;omega
  obtain ⟨x,y⟩:∃ x,d[j]?=some x:=⟨d[j]'om_,ak om_⟩;have M:QB 40 x:=T x (Qi y);have N:d.getD j 0=x:=by rw [al,y];rfl
  have ab:(kI b d s k j)[j]?=some (zF b s j):=by
   rw [tY om_,aA (Nat.lt_irrefl _)];congr 1;grind
  have qz:=Oa (s:=s) A (show j<b.length by omega);have O:=AW (bf:=d) (s:=s) (k:=k) (show j<b.length by omega);rw [N] at O;refine Ub 1 Z fun R a=>?_;refine Us r.m_ U10 om_ (gi y) fl_ (fun au ac=>?_);refine Uc ac U8 ?_;refine C4 2 [0,6,7,8,37,38,39] a Z ?_;clear a R;refine Ua 2 [0,6,7,8,37,38,39,45] Z ?_;refine Ud (fun Q=>?_) fun Q=>?_
  ·refine Uy [0,1,2,3,4,5,6,7,8,9,10,11,12,13,14,15,16,17] [(14,1),(15,1)] Z kr_ (fun R r a=>?_);refine Uh 3 Z ?_;refine UX af U6 (fun _=>(by rw [jM J];rfl)) U2 ?_;refine Uh 4 Z ?_;refine UX af U6 (fun _=>(by rw [jM J];rfl)) U2 ?_;refine Ue U6 ?_;refine UI (j*1) U10 ai U2 ?_;refine UX ae U6 (fun _=>(by rw [eE bM ab];rfl)) U2 ?_;refine Uh 2 Z ?_;refine Uz (fun _=>(dR _ t.m_ k x 40 dc_ dc_ v M)) U9 ?_;refine Uz (fun _=>(mQ _ t.m_ (zF b s j) (k*x) 80 dc_ dc_ (qz.le dc_) ((ug v M).le dc_))) U9 ?_;refine UI (j*1) U10 ai U2 ?_;refine UK (j:=1) U11 (by show j*1+1<=_;rw [bR bM,gV];omega) ?_;refine Ug [0,6,37,38,39] a Z ?_;clear a r R;refine Uf fun R a=>?_;refine Ul _ U7 ?_;refine C4 1 [0,6,37,38,39] a Z ?_;clear a R;refine G.perm (L':=[.arr (.slice (some ⟨l,0,none⟩) m o) 209 2 m ((h.set i (c+k*g,.slice (some ⟨e,0,none⟩) n f)).map bE).flatten,.arr (.slice (some ⟨e,0,none⟩) n f) 56 1 n ((kI b d s k (j+1)).map aY).flatten]) (by rw [<- O,<- bO bM _ (by rw [gV];omega)];exact List.Perm.swap _ _ _) ?_;refine Up (m':=n-(j+1)) om_ K (hn_ [0,6,37,38,39] Z) ⟨j+1,om_,Z,Z,Z⟩
  have ad:x=0:=by
   have ag:qtx x=[48]:=by simpa using Q
   exact lF (ag.trans (by decide +kernel:([48]:List UInt8)=qtx 0))
  rw [ww (j:=j) (by rw [N];exact ad)];refine Uf fun R a=>?_;refine Ul _ U7 ?_;refine C4 1 [0,6,37,38,39] a Z ?_;clear a R;refine Up (m':=n-(j+1)) om_ K (hn_ [0,6,37,38,39] Z) ⟨j+1,om_,Z,Z,Z⟩
 have L:j=n:=by
  have:=Qm w;omega
 rw [L];refine Vn Z ?_;exact ⟨Z,Z⟩
end Go.Proofs.YthnpijdjlddpmaaGreatDoor
