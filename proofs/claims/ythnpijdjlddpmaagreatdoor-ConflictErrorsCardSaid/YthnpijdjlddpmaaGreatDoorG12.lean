/- Laws that the proofs of this seat share, part 12. -/
import Derived.Test.YthnpijdjlddpmaaGreatDoorG11
import Derived.Test.YthnpijdjlddpmaaGreatDoorShelf
set_option maxHeartbeats 4000000
namespace Go.Proofs.YthnpijdjlddpmaaGreatDoor
open Go.Proofs.Tryz
open Go Go.Jog
set_option maxRecDepth 100000
variable {C:Mem}{N b:Nat}{cc:Nat->Rat}{i j:Nat}{l:Lp.Line}{m n:Nat}{o:Int}{p:Lp.Sys}{q:Nat->Prop}{r s:Nat}{t:Lp.Tab}{vs:List Nat}{wB:Value}{wF:Nat->Value}{wL wO wW wy:Value}
theorem sS {l:List Nat}{x:Nat}(h:l[i]?=some x):(l.map aQ)[i]?=some (aQ x):=by rw [Ou,h];rfl
theorem vE {l:List Nat}(h:Lp.LeastR l q n o):o=-1∨∃ i:Nat,o=i/\i<n:=by
 cases h with
 | none _=>exact .inl rfl
 | some i a _ _=>exact .inr ⟨i,rfl,a⟩
theorem nk (C:Mem)(v:Value)(l:List Nat)(g:Nat)(f:List Value)(q:Nat->Bool)(d:Sl C 1 v (l.map aQ))(_O:Jog.Enters cx.P g=true)
  (E:∀ i,i<l.length->∀ D:Mem,C.le D->Gives cx.P g (.int .i64 i::f) D (.bool (q i))) :
  Pur cx.P 180 [v,.func (.func g) #[] ⟨f⟩] C fun u _=>∃ o:Int,u=.int .i64 o/\Lp.LeastR l (fun i=>q i=true) l.length o:=by
 obtain ⟨s,c0,rfl,F,Q,_⟩:=id d;have S:maxLen<=9223372036854775807:=by simp [maxLen]
 simp only [al] at d F ⊢;refine Sc func180 33 U3 fun w0=>C6 1 [0,1] Z<|C6 1 [0,1,5] Z<|C6 3 [0,1,5,8,9,10] Z<|G.loop (fun fr C' H I=>∃ (i:Nat)(o:Int),(i<=l.length/\Lp.LeastR l (fun i=>q i=true) i o)/\fr=[(0,[],.slice s l.length c0),(1,[],.func (.func g) #[] ⟨f⟩),(5,[],.int .i64 o),(8,[],.slice s l.length c0),(9,[],.int .i64 l.length),(10,[],.int .i64 i)]/\H=[]/\I=l.length-i) (hn_ [0,1,5,8,9,10] Z) ⟨0, -1,⟨Ow _,.none fun j J=>absurd J (Nat.not_lt_zero _)⟩,Z,Z,Z⟩ (fun fr T U m t K=>?_);obtain ⟨i,o,⟨V,a⟩,rfl,rfl,rfl⟩:=K;refine C6 1 [0,1,5,8,9,10,11] Z<|R6 (fun k=>?_) fun k=>?_
 ·have e:i<l.length:=by
   have:=NM k;omega
  obtain ⟨x,w⟩:∃ x,l[i]?=some x:=⟨l[i],ak e⟩;have y:l.getD i 0=x:=by rw [ax,w];rfl
  have n:=vE a;have L:¬ o<0->(l.map aQ)[o.toNat]?=some (aQ (l.getD o.toNat 0)):=fun h=>by
   rcases n with h1 | ⟨z,h1,h2⟩
   ·omega
   rw [h1,Qk];exact sS (by rw [ax,ak om_];rfl)
  refine R4 1 Z fun R b=>Sm d.m_ U10 om_ (sS w) fl_ fun W M=>R5 M U8<|C4 2 [0,1,5,6,7,8,9,10] b Z<|R4 2 Z fun R b=>Sg (E i e _ mup) U7<|R9 7 Z<|D.index U10 (fun A=>⟨d.mono mup,(by have h:decide (o<0)=false:=A.1;have:=Ox h;omega),L (by have h:decide (o<0)=false:=A.1;exact Ox h)⟩) fl_ Z fun X N=>Sz U6 N U3<|R7 U6<|SA U8<|Sv U8<|Sa [0,1,5,6,8,9,10,29] b Z<|R6 (fun p=>?_) fun p=>?_
  ·have c:q i=true/\(o<0∨x<l.getD o.toNat 0):=by
    simpa using p
   have r:Lp.LeastR l (fun i=>q i=true) (i+1) i:=by
    rcases n with h1 | ⟨z,h1,h2⟩
    ·rw [h1] at a;exact a.first c.1
    rw [h1] at a c;refine a.less c.1 ?_;rw [y];rcases c.2 with h3 | h3
    ·omega
    exact h3
   refine C6 2 [0,1,5,8,9,10] Z<|R8 fun R b=>Se _ U7<|C4 1 [0,1,5,8,9,10] b Z<|Sj (m':=l.length-(i+1)) om_ t (hn_ [0,1,5,8,9,10] Z) ⟨i+1,_,⟨by omega,r⟩,Z,Z,Z⟩
  have c:q i=true->¬ (o<0∨x<l.getD o.toNat 0):=by
   simpa using p
  have r:Lp.LeastR l (fun i=>q i=true) (i+1) o:=by
   by_cases B:q i=true
   ·have h3:=c B;rcases n with h1 | ⟨z,h1,h2⟩
    ·exact absurd (.inl om_) h3
    rw [h1] at a h3 ⊢;refine a.keep ?_;rw [y];exact fun h=>h3 (.inr h)
   exact a.no B
  refine R8 fun R b=>Se _ U7<|C4 1 [0,1,5,8,9,10] b Z<|Sj (m':=l.length-(i+1)) om_ t (hn_ [0,1,5,8,9,10] Z) ⟨i+1,_,⟨by omega,r⟩,Z,Z,Z⟩
 have e:i=l.length:=by
  have:=Ox k;omega
 exact C6 2 [4] Z<|Sb U2<|⟨Z,o,Z,by rw [<- e];exact a⟩
structure TabV (D:Mem)(b n:Nat)(t:Lp.Tab)(wB wL wO wW:Value)(wF:List Value):Prop where
 o:D b=some (.cells ⟨[.int .i64 n,wB,wL,wO,ai (qtx t.worth.c),wW]⟩ 212 (0,0))
 B:Sl D 1 wB (t.basic.map aQ)
 O:Sl D 1 wO (t.others.map aQ)
 W:Sl D 1 wW (t.worth.f.map aZ)
 L:Sl D 2 wL (List.zipWith (fun (l:Lp.Line) w=>[ai (qtx l.c),w]) t.lines wF)
 fl:wF.length=t.lines.length
 F:∀ (i:Nat)(l:Lp.Line)(w:Value),t.lines[i]?=some l->wF[i]?=some w->Sl D 1 w (l.f.map aZ)
theorem TabV.mono {D E:Mem}{b n:Nat}{t:Lp.Tab}{c d e f:Value}{g:List Value}(h:TabV D b n t c d e f g)(a:D.le E):TabV E b n t c d e f g :=
 ⟨a _ _ h.o,h.B.mono a,h.O.mono a,h.W.mono a,h.L.mono a,h.fl,fun i l w h1 h2=>(h.F i l w h1 h2).mono a⟩
theorem TabV.m_ {D E:Mem}{a:List Value}(h:TabV D b n t wB wL wO wW a)(c:D.le E:=by exact mup):TabV E b n t wB wL wO wW a:=TabV.mono h c
theorem jb (C:Mem)(b n v:Nat)(t:Lp.Tab)(a c d e:Value)(f:List Value)(h:TabV C b n t a c d e f) :
  Gives cx.P 177 [.pointer (some ⟨b,0,none⟩),.int .i64 v] C (.bool (decide (n<=v))):=by
 refine Sc func177 11 U3 fun w0=>C6 1 [0,1] Z<|R4 4 Z fun R g=>R5 (PtrTo.blockT (h.m_.o) _ 1) U8<|C4 2 [4] g Z<|Sb U2<|⟨?_,Z⟩;congr 1;rw [Pp];omega
theorem jS {l:List Nat}(h:i<l.length):(l.map aQ)[i]?=some (aQ (l.getD i 0)):=sS (by rw [ax,ak h];rfl)
theorem eO {l:List Rat}(h:i<l.length):(l.map aZ)[i]?=some (aZ (l.getD i 0)):=fM (by rw [ax,ak h];rfl)
theorem nh {ls:List Lp.Line}{ws:List Value}(h:i<ls.length)(a:ws.length=ls.length):(List.zipWith (fun (l:Lp.Line) w=>[ai (qtx l.c),w]) ls ws)[i]?=some [ai (qtx (ls.getD i ⟨0,[]⟩).c),ws.getD i (.slice none 0 0)]:=by
 rw [List.getElem?_zipWith,ak h,ak (show i<ws.length by omega),ax,ax,ak h,ak (show i<ws.length by omega)];rfl
theorem Iz (C:Mem)(a b n i N:Nat)(t:Lp.Tab)(j k e f:Value)(g:List Value)(h:TabV C b n t j k e f g)(l:t.Ok N)(d:C a=some (.cells ⟨[.pointer (some ⟨b,0,none⟩)]⟩ 202 (0,0)))(m:i<t.basic.length)(p:QB 40 (t.line i).c) :
  Gives cx.P 181 [.int .i64 i,.pointer (some ⟨a,0,none⟩)] C (.bool (decide (n<=t.bas i) && decide ((t.line i).c<0))):=by
 obtain ⟨v,w,rfl,x,y,_⟩:=id h.B;obtain ⟨A2,c2,rfl,z,A,_⟩:=id h.L;have E:maxLen<=9223372036854775807:=by simp [maxLen]
 have F:=l.ll;exact Sc func181 25 U3 fun w0=>C6 1 [0,1] Z<|Ss [0,1,2,3,4,5,6,7,8,9,10,11,12,13,14,15,16,17,18,19,20,21] [(8,1)] Z kr_ fun R G q=>R5 (bkT d 1) U8<|R5 (bkT d 1) U8<|R9 2 Z<|R5 (PtrTo.blockT (h.m_.o) _ 1) U8<|R7 U6<|Sm h.B.m_ U10 om_ (jS m) fl_ fun H r=>R5 r U8<|SF (fun _=>(jb _ b n (t.bas i) t _ _ e f g h.m_)) U9<|R7 U6<|Sz U6 (fun _=>PtrTo.blockT (Mem.get d mup) _ 1) U3<|R9 2 Z<|Sz U6 (fun _=>PtrTo.blockT (h.m_.o) _ 1) U3<|R7 U6<|D.index U10 (fun I=>⟨h.L.mono mup,by omega,nh om_ h.fl⟩) fl_ Z fun J s=>TE Z Z Z Z Z Z Z Z Z Z s fl_ Z fun K u=>Sz U6 u U3<|Su (fun _=>(jd _ (t.line i).c (OQ (bK p dc_) dc_))) U9<|R7 U6<|Sv U8<|C4 1 [3] q Z<|Sb U2<|⟨by rw [zy],Z⟩
theorem HL (q:Rat):decide (0<eL q.num)=decide (0<q):=by
 have h:0<q.num ↔ 0<q:=by rw [Rat.lt_iff];simp
 rw [Pp];unfold eL;by_cases h1:q.num<0
 ·rw [aI h1];exact ⟨fun h2=>absurd h2 dc_,fun h2=>absurd (h.2 h2) om_⟩
 rw [aA h1];by_cases h2:q.num=0
 ·rw [aI h2];exact ⟨fun h3=>absurd h3 dc_,fun h3=>absurd (h.2 h3) om_⟩
 rw [aA h2];exact ⟨fun _=>h.1 om_,fun _=>by decide⟩
theorem vB {a:List Value}(h:TabV C b n t wB wL wO wW a)(c:t.Ok N)(d:i<t.basic.length):Sl C 1 (a.getD i (.slice none 0 0)) ((t.line i).f.map aZ)/\(t.line i).f.length=t.others.length:=by
 have e:=c.ll;have g:=h.fl;refine ⟨?_,c.fl _ (Lp.line_mem c d)⟩;refine h.F i _ _ (show t.lines[i]?=some (t.line i) from ?_) (show a[i]?=some _ from ?_)
 ·unfold Lp.Tab.line;rw [ax,ak om_];rfl
 rw [ax,ak om_];rfl
theorem Iy (C:Mem)(a j b n i r N:Nat)(t:Lp.Tab)(p q s k:Value)(c:List Value)(h:TabV C b n t p q s k c)(d:t.Ok N)(e:C a=some (.cells ⟨[.pointer (some ⟨b,0,none⟩)]⟩ 202 (0,0)))(u:C j=some (.cells ⟨[.int .i64 r]⟩ 3 (0,0)))
  (l:r<t.basic.length) (v:i<t.others.length) (w:QB 40 ((t.line r).g i)) :
  Gives cx.P 182 [.int .i64 i,.pointer (some ⟨a,0,none⟩),.pointer (some ⟨j,0,none⟩)] C (.bool (decide (n<=t.oth i) && decide (0<(t.line r).g i))):=by
 obtain ⟨G,H,rfl,I,J,_⟩:=id h.O;obtain ⟨A2,c2,rfl,K,M,_⟩:=id h.L;obtain ⟨f,Q⟩:=vB h d l;obtain ⟨S,T,x,U,V,_⟩:=id f;have m:=nh (ls:=t.lines) (ws:=c) (i:=r) (by rw [d.ll];exact l) h.fl;rw [x] at m f;have W:maxLen<=9223372036854775807:=by simp [maxLen]
 have X:=d.ll;exact Sc func182 29 U3 fun w0=>C6 1 [0,1,2] Z<|Ss [0,1,2,3,4,5,6,7,8,9,10,11,12,13,14,15,16,17,18,19,20,21,22,23,24] [(8,1)] Z kr_ fun R Y y=>R5 (bkT e 1) U8<|R5 (bkT e 1) U8<|R9 2 Z<|R5 (PtrTo.blockT (h.m_.o) _ 1) U8<|R7 U6<|Sm h.O.m_ U10 om_ (jS v) fl_ fun aa z=>R5 z U8<|SF (fun _=>(jb _ b n (t.oth i) t _ _ _ k c h.m_)) U9<|R7 U6<|Sz U6 (fun _=>PtrTo.blockT (Mem.get e mup) _ 1) U3<|R9 2 Z<|Sz U6 (fun _=>PtrTo.blockT (h.m_.o) _ 1) U3<|Sz U6 (fun _=>PtrTo.blockT (Mem.get u mup) _ 1) U3<|D.index U10 (fun A=>⟨h.L.mono mup,by omega,m⟩) fl_ Z fun ab B=>TE Z Z Z Z Z Z Z Z Z Z B fl_ Z fun ac E=>Sz U6 E U3<|R7 U6<|D.index U10 (fun A=>⟨f.mono mup,by omega,eO om_⟩) fl_ Z fun ad F=>Sz U6 F U3<|Su (fun _=>(jd _ ((t.line r).g i) (OQ (bK w dc_) dc_))) U9<|R7 U6<|Sv U8<|C4 1 [4] y Z<|Sb U2<|⟨by rw [<- HL],Z⟩
theorem K9 (C:Mem)(a b n i N:Nat)(t:Lp.Tab)(e f j k:Value)(d:List Value)(h:TabV C b n t e f j k d)(l:t.Ok N)(c:C a=some (.cells ⟨[.pointer (some ⟨b,0,none⟩)]⟩ 202 (0,0)))(m:i<t.others.length) :
  Gives cx.P 183 [.int .i64 i,.pointer (some ⟨a,0,none⟩)] C (.bool (!decide (n<=t.oth i) && !decide (t.worth.g i=0))):=by
 obtain ⟨s,u,rfl,v,w,_⟩:=id h.O;obtain ⟨A2,c2,rfl,x,y,_⟩:=id h.W;have z:maxLen<=9223372036854775807:=by simp [maxLen]
 have A:=l.wl;refine Sc func183 25 U3 fun w0=>C6 1 [0,1] Z<|Ss [0,1,2,3,4,5,6,7,8,9,10,11,12,13,14,15,16,17,18,19,20,21] [(8,1)] Z kr_ fun R B p=>R5 (bkT c 1) U8<|R5 (bkT c 1) U8<|R9 2 Z<|R5 (PtrTo.blockT (h.m_.o) _ 1) U8<|R7 U6<|Sm h.O.m_ U10 om_ (jS m) fl_ fun E q=>R5 q U8<|SF (fun _=>(jb _ b n (t.oth i) t _ _ _ _ d h.m_)) U9<|R9 2 Z<|Sz U6 (fun _=>PtrTo.blockT (Mem.get c mup) _ 1) U3<|R9 3 Z<|Sz U6 (fun _=>PtrTo.blockT (h.m_.o) _ 1) U3<|R7 U6<|D.index U10 (fun F=>⟨h.W.mono mup,by omega,eO om_⟩) fl_ Z fun G r=>Sz U6 r U3<|R7 U6<|Sv U8<|C4 1 [3] p Z<|Sb U2<|⟨?_,Z⟩;show Value.bool _=Value.bool _;congr 1;congr 1;show (!((⟨(qtx (t.worth.g i)).toArray⟩:ByteArray).data.toList == (⟨#[48]⟩:ByteArray).data.toList))=_;rw [fG]
theorem K8 (C:Mem)(a b n i N:Nat)(t:Lp.Tab)(e f j k:Value)(d:List Value)(h:TabV C b n t e f j k d)(l:t.Ok N)(c:C a=some (.cells ⟨[.pointer (some ⟨b,0,none⟩)]⟩ 202 (0,0)))(m:i<t.others.length)(p:QB 40 (t.worth.g i)) :
  Gives cx.P 184 [.int .i64 i,.pointer (some ⟨a,0,none⟩)] C (.bool (decide (n<=t.oth i) && decide (t.worth.g i<0))):=by
 obtain ⟨u,v,rfl,w,x,_⟩:=id h.O;obtain ⟨A2,c2,rfl,y,z,_⟩:=id h.W;have A:maxLen<=9223372036854775807:=by simp [maxLen]
 have B:=l.wl;exact Sc func184 25 U3 fun w0=>C6 1 [0,1] Z<|Ss [0,1,2,3,4,5,6,7,8,9,10,11,12,13,14,15,16,17,18,19,20,21] [(8,1)] Z kr_ fun R E q=>R5 (bkT c 1) U8<|R5 (bkT c 1) U8<|R9 2 Z<|R5 (PtrTo.blockT (h.m_.o) _ 1) U8<|R7 U6<|Sm h.O.m_ U10 om_ (jS m) fl_ fun F r=>R5 r U8<|SF (fun _=>(jb _ b n (t.oth i) t _ _ _ _ d h.m_)) U9<|R7 U6<|Sz U6 (fun _=>PtrTo.blockT (Mem.get c mup) _ 1) U3<|R9 3 Z<|Sz U6 (fun _=>PtrTo.blockT (h.m_.o) _ 1) U3<|R7 U6<|D.index U10 (fun G=>⟨h.W.mono mup,by omega,eO om_⟩) fl_ Z fun H s=>Sz U6 s U3<|Su (fun _=>(jd _ (t.worth.g i) (OQ (bK p dc_) dc_))) U9<|R7 U6<|Sv U8<|C4 1 [3] q Z<|Sb U2<|⟨by rw [zy],Z⟩
theorem xo (n:Nat):List.replicate n (ai [48])=((List.replicate n (0:Rat)).map aZ).flatten:=by
 rw [Ro,show aZ 0=[ai [48]] by unfold aZ;rw [NE]];induction n with
 | zero=>rfl
 | succ n a=>rw [PH,PH,PU,<- a];rfl
def ptF (t:Lp.Tab)(n i:Nat):List Rat:=(List.range n).map fun v=>if v∈t.basic.take i then t.sol v else 0
theorem lV :(ptF t n i).length=n:=by simp [ptF]
theorem Ek {v:Nat}(h:v<n):(ptF t n i)[v]?=some (if v∈t.basic.take i then t.sol v else 0):=by
 unfold ptF;rw [Ou,O5 h];rfl
theorem HJ (t:Lp.Tab)(n:Nat):ptF t n 0=List.replicate n 0:=by
 refine List.ext_getElem? fun v=>?_;by_cases h:v<n
 ·rw [Ek h,Qr,aI h,List.take_zero,aA PL]
 rw [OD (by rw [lV];omega),OD ap]
theorem uF (h:i<t.basic.length):t.basic.take (i+1)=t.basic.take i++[t.bas i]:=by
 rw [OS];congr 1;unfold Lp.Tab.bas;rw [ax,ak h];rfl
theorem KL (b:t.Ok N)(h:i<t.basic.length)(d:t.bas i<n):(ptF t n i).set (t.bas i) (t.line i).c=ptF t n (i+1):=by
 refine List.ext_getElem? fun v=>?_;rw [List.getElem?_set,lV];by_cases a:v<n
 ·rw [Ek a,Ek a,uF h];by_cases e:t.bas i=v
  ·subst e;rw [aI rfl,aI a,aI am,Lp.sol_bas b h]
  rw [aA e];by_cases hm:v∈t.basic.take i
  ·rw [aI hm,aI (by simp [hm])]
  rw [aA hm,aA (by simp [hm];exact fun h2=>e h2.symm)]
 rw [aA om_,OD (by rw [lV];omega),OD (by rw [lV];omega)]
theorem HK (h:i<t.basic.length)(a:n<=t.bas i):ptF t n i=ptF t n (i+1):=by
 refine List.map_congr_left fun v hm=>?_;have b:=ON.1 hm;rw [uF h];by_cases hm:v∈t.basic.take i
 ·rw [aI hm,aI (by simp [hm])]
 rw [aA hm,aA (by simp [hm];omega)]
theorem KM (a:t.Ok N):ptF t n t.basic.length=(List.range n).map t.sol:=by
 refine List.map_congr_left fun v _=>?_;rw [OH];split
 ·rfl
 next h=>exact (Lp.sol_oth a h).symm
theorem HQ (C:Mem)(b n N:Nat)(t:Lp.Tab)(w x p q:Value)(r:List Value)(h:TabV C b n t w x p q r)(f:t.Ok N)(y:n<=1000000) :
  Jog.Fn cx.P 119 [.pointer (some ⟨b,0,none⟩)] C [] fun u _ c=>∃ g,u=.slice (some ⟨g,0,none⟩) n n/\c=[.arr u 56 1 n (((List.range n).map t.sol).map aZ).flatten]:=by
 obtain ⟨z,s,rfl,A,Q,_⟩:=id h.B;obtain ⟨A2,c2,rfl,S,T,_⟩:=id h.L;have E:=h.B;have U:t.basic.length<=s:=by rwa [al] at A
 have V:maxLen<=9223372036854775807:=by simp [maxLen]
 have W:=f.ll;have F:=h.fl;refine Sc func119 38 U3 fun w0=>C6 1 [0] Z<|Sx [(4,3)] Z fun R a=>R9 3 Z<|R5 (PtrTo.blockT (h.m_.o) _ 1) U8<|D.call (kK _ n y) Z (.inr dc_) U6 (Ov _) fl_ (fun X _ Y _ H=>?_);obtain ⟨g,rfl,rfl⟩:=H;refine C4 1 [0,3] a Z<|R4 3 Z fun R a=>R5 (PtrTo.blockT (h.m_.o) _ 1) U8<|C4 2 [0,3,14,15,16] a Z<|Sp (L':=[.arr (.slice (some ⟨g,0,none⟩) n n) 56 1 n ((ptF t n 0).map aZ).flatten]) (by rw [HJ,<- xo];rfl)<|G.loop (fun fr C' c I=>∃ (i:Nat),(i<=t.basic.length)/\fr=[(0,[],.pointer (some ⟨b,0,none⟩)),(3,[],.slice (some ⟨g,0,none⟩) n n),(14,[],.slice z (t.basic.map aQ).length s),(15,[],.int .i64 (t.basic.map aQ).length),(16,[],.int .i64 i)]/\c=[.arr (.slice (some ⟨g,0,none⟩) n n) 56 1 n ((ptF t n i).map aZ).flatten]/\I=t.basic.length-i) (hn_ [0,3,14,15,16] Z) ⟨0,Ow _,Z,Z,Z⟩ (fun fr aa ab m v J=>?_);obtain ⟨i,hi,rfl,rfl,rfl⟩:=J;refine C6 1 [0,3,14,15,16,17] Z<|R6 (fun k=>?_) fun k=>?_
 ·have d:i<t.basic.length:=by
   have:=NM k;rw [al] at this;omega
  refine R4 1 Z fun R a=>Sm E.m_ U10 om_ (show (t.basic.map aQ)[i]?=some (aQ (t.bas i)) from jS d) fl_ fun ac K=>R5 K U8<|C4 2 [0,3,4,5,14,15,16] a Z<|R4 2 Z fun R a=>Sg (jb _ b n (t.bas i) t _ _ p q r h.m_) U7<|C4 1 [0,3,4,5,14,15,16,24] a Z<|R6 (fun l=>?_) fun l=>?_
  ·have e:t.bas i<n:=by
    have ad:¬ n<=t.bas i:=by simpa using l
    omega
   refine R4 5 Z fun R a=>R5 (PtrTo.blockT (h.m_.o) _ 1) U8<|R7 U6<|Sm h.L.m_ U10 om_ (nh om_ F) fl_ fun ae M=>Tu M U10 fl_ fun af O=>R5 O U8<|SC (t.bas i*1) U10 ah U2<|SG (j:=0) U11 (by show t.bas i*1+1<=_;rw [bQ bP,lV];omega)<|Sa [0,3,14,15,16] a Z<|R8 fun R a=>Se _ U7<|C4 1 [0,3,14,15,16] a Z<|Sp (L':=[.arr (.slice (some ⟨g,0,none⟩) n n) 56 1 n ((ptF t n (i+1)).map aZ).flatten]) (by rw [<- KL f d e,<- bJ bP _ (by rw [lV];exact e)];rfl)<|Sj (m':=t.basic.length-(i+1)) om_ v (hn_ [0,3,14,15,16] Z) ⟨i+1,om_,Z,Z,Z⟩
  have e:n<=t.bas i:=by simpa using l
  rw [HK d e];refine R8 fun R a=>Se _ U7<|C4 1 [0,3,14,15,16] a Z<|Sj (m':=t.basic.length-(i+1)) om_ v (hn_ [0,3,14,15,16] Z) ⟨i+1,om_,Z,Z,Z⟩
 have d:i=t.basic.length:=by
  have:=Ox k;rw [al] at this;omega
 refine C6 2 [2] Z<|Sh (SP Z Z ?_);exact ⟨g,Z,by rw [d,KM f]⟩
def duF (p:Lp.Sys)(t:Lp.Tab)(l:Lp.Line)(i:Nat):List Rat:=(List.range p.m).map fun r=>if p.n+r∈t.others.take i then Lp.dualV p t l r else 0
theorem me :(duF p t l i).length=p.m:=by simp [duF]
theorem FG (h:r<p.m):(duF p t l i)[r]?=some (if p.n+r∈t.others.take i then Lp.dualV p t l r else 0):=by
 unfold duF;rw [Ou,O5 h];rfl
theorem IE (p:Lp.Sys)(t:Lp.Tab)(l:Lp.Line):duF p t l 0=List.replicate p.m 0:=by
 refine List.ext_getElem? fun v=>?_;by_cases h:v<p.m
 ·rw [FG h,Qr,aI h,List.take_zero,aA PL]
 rw [OD (by rw [me];omega),OD ap]
theorem yS (h:i<t.others.length):t.others.take (i+1)=t.others.take i++[t.oth i]:=by
 rw [OS];congr 1;unfold Lp.Tab.oth;rw [ax,ak h];rfl
theorem Lw (b:Lp.TabOf p t)(h:i<t.others.length)(c:p.n<=t.oth i):(duF p t l i).set (t.oth i-p.n) (l.g i)=duF p t l (i+1):=by
 refine List.ext_getElem? fun v=>?_;rw [List.getElem?_set,me];by_cases a:v<p.m
 ·rw [FG a,FG a,yS h];by_cases e:t.oth i-p.n=v
  ·subst e;rw [aI rfl,aI a,aI (by rw [show p.n+(t.oth i-p.n)=t.oth i by omega];simp),Lp.dualV_at b h c]
  rw [aA e];by_cases hm:p.n+v∈t.others.take i
  ·rw [aI hm,aI (by simp [hm])]
  rw [aA hm,aA (by simp [hm];omega)]
 rw [OD (by rw [me];omega),OD (by rw [me];omega)];have:=b.ok.lt _ (OJ.2 (.inr (Lp.oth_mem h)));split
 ·exact aA om_
 rfl
theorem IF (h:i<t.others.length)(a:t.oth i<p.n):duF p t l i=duF p t l (i+1):=by
 refine List.map_congr_left fun v _=>?_;rw [yS h];by_cases hm:p.n+v∈t.others.take i
 ·rw [aI hm,aI (by simp [hm])]
 rw [aA hm,aA (by simp [hm];omega)]
theorem Lx :duF p t l t.others.length=(List.range p.m).map (Lp.dualV p t l):=by
 refine List.map_congr_left fun v _=>?_;rw [OH];split
 ·rfl
 next h=>exact (Lp.dualV_none h).symm
theorem FF (C:Mem)(p:Lp.Sys)(b:Nat)(t:Lp.Tab)(l:Lp.Line)(E F H s w:Value)(v:List Value)(h:TabV C b p.n t E F H s v)(x:Lp.TabOf p t)(I:p.m<=1000000)(y:Sl C 1 w (l.f.map aZ))(X:l.f.length=t.others.length) :
  Jog.Fn cx.P 121 [.pointer (some ⟨b,0,none⟩),.agg ⟨[ai (qtx l.c),w]⟩,.int .i64 p.m] C [] fun u _ e=>∃ g,u=.slice (some ⟨g,0,none⟩) p.m p.m/\e=[.arr u 56 1 p.m (((List.range p.m).map (Lp.dualV p t l)).map aZ).flatten]:=by
 obtain ⟨J,z,rfl,K,Y,_⟩:=id h.O;obtain ⟨A3,c3,rfl,aa,ab,_⟩:=id y;have L:=h.O;have ac:t.others.length<=z:=by rwa [al] at K
 have ad:maxLen<=9223372036854775807:=by simp [maxLen]
 refine Sc func121 40 U3 fun w0=>R8 fun R a=>So U6 fun M=>C4 1 [0,2,4] a Z<|G.freeze 0 Z fun _ _ N=>Sx [(1,3)] Z fun R a=>R7 U6<|D.call (kK _ p.m I) Z (.inr dc_) U6 (Ov _) fl_ (fun ae _ af _ Q=>?_);obtain ⟨g,rfl,rfl⟩:=Q;refine C4 1 [0,4,7] a Z<|R4 3 Z fun R a=>R5 (PtrTo.blockT (h.m_.o) _ 1) U8<|C4 2 [0,4,7,15,16,17] a Z<|Sp (L':=[.arr (.slice (some ⟨g,0,none⟩) p.m p.m) 56 1 p.m ((duF p t l 0).map aZ).flatten]) (by rw [IE,<- xo];rfl)<|G.loop (fun fr C' e S=>∃ (i:Nat),(i<=t.others.length)/\fr=[(0,[],.pointer (some ⟨b,0,none⟩)),(4,[],.pointer (some ⟨M,0,none⟩)),(7,[],.slice (some ⟨g,0,none⟩) p.m p.m),(15,[],.slice J (t.others.map aQ).length z),(16,[],.int .i64 (t.others.map aQ).length),(17,[],.int .i64 i)]/\e=[.arr (.slice (some ⟨g,0,none⟩) p.m p.m) 56 1 p.m ((duF p t l i).map aZ).flatten]/\S=t.others.length-i) (hn_ [0,4,7,15,16,17] Z) ⟨0,Ow _,Z,Z,Z⟩ (fun fr ag aj m A T=>?_);obtain ⟨i,hi,rfl,rfl,rfl⟩:=T;refine C6 1 [0,4,7,15,16,17,18] Z<|R6 (fun k=>?_) fun k=>?_
 ·have d:i<t.others.length:=by
   have:=NM k;rw [al] at this;omega
  have ak:=x.ok.lt _ (OJ.2 (.inr (Lp.oth_mem d)));refine R4 1 Z fun R a=>Sm L.m_ U10 om_ (show (t.others.map aQ)[i]?=some (aQ (t.oth i)) from jS d) fl_ fun am U=>R5 U U8<|C4 2 [0,4,7,8,9,15,16,17] a Z<|R4 2 Z fun R a=>Sg (jb _ b p.n (t.oth i) t _ _ _ s v h.m_) U7<|Sa [0,4,7,8,9,15,16,17,24] a Z<|R6 (fun q=>?_) fun q=>?_
  ·have r:p.n<=t.oth i:=by simpa using q
   have B:((t.oth i:Int)-(p.n:Int)).toNat=t.oth i-p.n:=by omega
   have V:=Lw (l:=l) x d r;refine Ss [0,1,2,3,4,5,6,7,8,9,10,11,12,13] [] Z kr_ fun R hB a=>R9 5 Z<|R5 (PtrTo.blockT (h.m_.o) _ 1) U8<|Se _ U7<|R7 U6<|R5 (bkT N 1) U8<|R7 U6<|Sm y.m_ U10 om_ (eO om_) fl_ fun an W=>R5 W U8<|SC (((t.oth i:Int)-(p.n:Int)).toNat*1) U10 ah U2<|SG (j:=0) U11 (by show ((t.oth i:Int)-(p.n:Int)).toNat*1+1<=_;rw [B,bQ bP,me];omega)<|Sa [0,4,7,15,16,17] a Z<|R8 fun R a=>Se _ U7<|C4 1 [0,4,7,15,16,17] a Z<|Sp (L':=[.arr (.slice (some ⟨g,0,none⟩) p.m p.m) 56 1 p.m ((duF p t l (i+1)).map aZ).flatten]) (by rw [B,<- V,<- bJ bP _ (by rw [me];omega)];rfl)<|Sj (m':=t.others.length-(i+1)) om_ A (hn_ [0,4,7,15,16,17] Z) ⟨i+1,om_,Z,Z,Z⟩
  have r:t.oth i<p.n:=by
   have ao:¬ p.n<=t.oth i:=by simpa using q
   omega
  rw [IF d r];refine R8 fun R a=>Se _ U7<|C4 1 [0,4,7,15,16,17] a Z<|Sj (m':=t.others.length-(i+1)) om_ A (hn_ [0,4,7,15,16,17] Z) ⟨i+1,om_,Z,Z,Z⟩
 have d:i=t.others.length:=by
  have:=Ox k;rw [al] at this;omega
 refine C6 2 [6] Z<|Sh (SP Z Z ?_);exact ⟨g,Z,by rw [d,Lx]⟩
def ngF (p:Lp.Sys)(t:Lp.Tab)(l:Lp.Line)(i:Nat):List Rat:=(List.range p.m).map fun r=>if r<i then -Lp.dualV p t l r else Lp.dualV p t l r
theorem gC :(ngF p t l i).length=p.m:=by simp [ngF]
theorem zN (h:r<p.m):(ngF p t l i)[r]?=some (if r<i then -Lp.dualV p t l r else Lp.dualV p t l r):=by
 unfold ngF;rw [Ou,O5 h];rfl
theorem H3 (p:Lp.Sys)(t:Lp.Tab)(l:Lp.Line):(List.range p.m).map (Lp.dualV p t l)=ngF p t l 0:=List.map_congr_left fun r _=>by rw [aA (Nat.not_lt_zero _)]
theorem K6 (h:i<p.m):(ngF p t l i).set i (-Lp.dualV p t l i)=ngF p t l (i+1):=by
 refine List.ext_getElem? fun v=>?_;rw [List.getElem?_set,gC];by_cases a:v<p.m
 ·rw [zN a,zN a];by_cases e:i=v
  ·subst e;rw [aI rfl,aI a,aI om_]
  rw [aA e];by_cases hm:v<i
  ·rw [aI hm,aI om_]
  rw [aA hm,aA om_]
 rw [aA om_,OD (by rw [gC];omega),OD (by rw [gC];omega)]
theorem K7 (h:t.bas i-p.n<p.m):(ngF p t (t.line i) p.m).set (t.bas i-p.n) 1=(List.range p.m).map (Lp.refV p t i):=by
 refine List.ext_getElem? fun v=>?_;rw [List.getElem?_set,gC,Ou];by_cases a:v<p.m
 ·rw [zN a,O5 a,aI a];unfold Lp.refV;by_cases e:t.bas i-p.n=v
  ·subst e;rw [aI rfl,aI h,PY,aI rfl]
  rw [aA e,PY,aA (fun b=>e b.symm)]
 rw [aA om_,OD (by rw [gC];omega),OD ap];rfl
theorem qtx1:qtx 1=[49]:=by decide +kernel
theorem enc1:aZ 1=[Value.string ⟨#[49]⟩]:=by
 show [ai (qtx 1)]=_;rw [qtx1];rfl
theorem Hy (C:Mem)(p:Lp.Sys)(b i:Nat)(t:Lp.Tab)(z A s v:Value)(f:List Value)(h:TabV C b p.n t z A s v f)(w:Lp.TabOf p t)(E:p.m<=1000000)(k:i<t.basic.length)(U:p.n<=t.bas i)(F:∀ r,QB 40 (Lp.dualV p t (t.line i) r)) :
  Jog.Fn cx.P 117 [.pointer (some ⟨b,0,none⟩),.int .i64 i,.int .i64 p.m] C [] fun u _ c=>∃ g,u=.agg ⟨[.slice (some ⟨g,0,none⟩) p.m p.m]⟩/\c=[.arr (.slice (some ⟨g,0,none⟩) p.m p.m) 56 1 p.m (((List.range p.m).map (Lp.refV p t i)).map aZ).flatten]:=by
 have ok:=w.ok;obtain ⟨V,W,rfl,X,Y,_⟩:=id h.B;obtain ⟨A2,c2,rfl,aa,ab,_⟩:=id h.L;obtain ⟨l,H⟩:=vB h ok k;obtain ⟨A3,c3,I,ac,ad,_⟩:=id l;have ae:=ok.ll;have x:=nh (ls:=t.lines) (ws:=f) (i:=i) om_ h.fl;rw [I] at x l;have ag:maxLen<=9223372036854775807:=by simp [maxLen]
 have ai:=ok.lt _ (OJ.2 (.inl (Lp.bas_mem k)));have J:t.bas i-p.n<p.m:=by omega
 have y:((t.bas i:Int)-(p.n:Int)).toNat=t.bas i-p.n:=by omega
 refine Sc func117 49 U3 fun w0=>R8 fun R a=>Sq U5 fun d=>Sa [0,1,2,6] a Z<|Sx [(9,3)] Z fun R a=>R9 4 Z<|R5 (PtrTo.blockT (h.m_.o) _ 1) U8<|R7 U6<|Sm h.L.m_ U10 om_ x fl_ fun aj K=>R5 K U8<|R7 U6<|D.call (FF _ p b t (t.line i) _ _ s v _ f h.m_ w E l.m_ H) Z (.inr dc_) U6 (Ov _) fl_ (fun ak _ al _ M=>?_);obtain ⟨g,rfl,rfl⟩:=M;refine C4 1 [0,1,6,7] a Z<|C6 3 [0,1,6,7,20,21,22] Z<|Sp (L':=[.arr (.slice (some ⟨g,0,none⟩) p.m p.m) 56 1 p.m ((ngF p t (t.line i) 0).map aZ).flatten,.obj d (.cells ⟨[.slice none 0 0]⟩ 75 (0,0))]) (by rw [<- H3];rfl)<|G.loop (fun fr C' c N=>∃ (j:Nat),(j<=p.m)/\fr=[(0,[],.pointer (some ⟨b,0,none⟩)),(1,[],.int .i64 i),(6,[],.pointer (some ⟨d,0,none⟩)),(7,[],.slice (some ⟨g,0,none⟩) p.m p.m),(20,[],.slice (some ⟨g,0,none⟩) p.m p.m),(21,[],.int .i64 p.m),(22,[],.int .i64 j)]/\c=[.arr (.slice (some ⟨g,0,none⟩) p.m p.m) 56 1 p.m ((ngF p t (t.line i) j).map aZ).flatten,.obj d (.cells ⟨[.slice none 0 0]⟩ 75 (0,0))]/\N=p.m-j) (hn_ [0,1,6,7,20,21,22] Z) ⟨0,Ow _,Z,Z,Z⟩ (fun fr am an m O Q=>?_);obtain ⟨j,hj,rfl,rfl,rfl⟩:=Q;refine C6 1 [0,1,6,7,20,21,22,23] Z<|R6 (fun q=>?_) fun q=>?_
 ·have e:j<p.m:=by
   have:=NM q;omega
  have S:(ngF p t (t.line i) j)[j]?=some (Lp.dualV p t (t.line i) j):=by rw [zN e,aA (Nat.lt_irrefl _)]
  refine R4 1 Z fun R a=>SC (j*1) U10 ah U2<|SS af U6 (fun _=>(by rw [ec bP S];rfl)) U2<|C4 2 [0,1,6,7,8,9,20,21,22] a Z<|R4 3 Z fun R a=>Sk (eJ _ _ (OQ (bK (F j) dc_) dc_)) U7 fl_<|SC (j*1) U10 ah U2<|SG (j:=0) U11 (by show j*1+1<=_;rw [bQ bP,gC];omega)<|Sa [0,1,6,7,20,21,22] a Z<|R8 fun R a=>Se _ U7<|C4 1 [0,1,6,7,20,21,22] a Z<|Sp (L':=[.arr (.slice (some ⟨g,0,none⟩) p.m p.m) 56 1 p.m ((ngF p t (t.line i) (j+1)).map aZ).flatten,.obj d (.cells ⟨[.slice none 0 0]⟩ 75 (0,0))]) (by rw [<- K6 e,<- bJ bP _ (by rw [gC];omega)];rfl)<|Sj (m':=p.m-(j+1)) om_ O (hn_ [0,1,6,7,20,21,22] Z) ⟨j+1,om_,Z,Z,Z⟩
 have e:j=p.m:=by
  have:=Ox q;omega
 subst e;refine Ss [0,1,2,3,4,5,6,7,8,9,10,11,12,13,14] [] Z kr_ fun R hB a=>R9 4 Z<|R5 (PtrTo.blockT (h.m_.o) _ 1) U8<|R7 U6<|Sm h.B.m_ U10 om_ (show (t.basic.map aQ)[i]?=some (aQ (t.bas i)) from jS k) fl_ fun ao T=>R5 T U8<|R9 3 Z<|R5 (PtrTo.blockT (h.m_.o) _ 1) U8<|Se _ U7<|SC (((t.bas i:Int)-(p.n:Int)).toNat*1) U10 ah U2<|SG (j:=0) U11 (by show ((t.bas i:Int)-(p.n:Int)).toNat*1+1<=_;rw [y,bQ bP,gC];omega)<|Sa [6,7] a Z<|R4 1 Z fun R a=>Sn [.slice (some ⟨g,0,none⟩) p.m p.m] U8<|Sf (j:=1) U12<|Sa [6] a Z<|Sh (TN 0 Z Z Z Z Z ?_);refine ⟨g,Z, ?_⟩;rw [y,<- K7 J,<- bJ bP 1 (by rw [gC];omega),enc1];rfl
def cK (t:Lp.Tab)(wF:Nat->Value):List (Rat × Value):=(List.range t.basic.length).map fun i=>((t.line i).c,wF i)
theorem fe :(cK t wF).length=t.basic.length:=by simp [cK]
theorem mY (h:i<t.basic.length):(cK t wF)[i]?=some ((t.line i).c,wF i):=by
 unfold cK;rw [Ou,O5 h];rfl
def Ju (t:Lp.Tab)(wF:Nat->Value)(i:Nat):Lent:=.arr (wF i) t.others.length 1 56 ((t.line i).f.map aZ)
def fB (b n:Nat)(t:Lp.Tab)(wB wL wO wW:Value)(wF:Nat->Value):List Lent :=
 .obj b [.int .i64 n,wB,wL,wO,ai (qtx t.worth.c),wW] 212::.arr wB t.basic.length 1 3 (t.basic.map aQ)::.arr wL t.basic.length 2 209 ((cK t wF).map bE)
  :: .arr wO t.others.length 1 3 (t.others.map aQ)::.arr wW t.others.length 1 56 (t.worth.f.map aZ)::(List.range t.basic.length).map (Ju t wF)
theorem jn (a:t.Ok N)(h:i<t.basic.length):(t.line i).f.length=t.others.length:=a.fl _ (Lp.line_mem a h)
theorem eh {l:List Rat}:∀ r∈l.map aZ,r.length=1:=fun r hr=>by
 obtain ⟨x,_,rfl⟩:=OB.1 hr;rfl
theorem tA {l:List Nat}:∀ r∈l.map aQ,r.length=1:=fun r hr=>by
 obtain ⟨x,_,rfl⟩:=OB.1 hr;rfl
theorem iA (c:t.Ok N):∀ x∈fB b n t wB wL wO wW wF,x.wf:=by
 intro x a;unfold fB at a;simp only [OE,OB,ON] at a;rcases a with rfl | rfl | rfl | rfl | rfl | ⟨i,d,rfl⟩
 ·trivial
 ·exact ⟨by simp,tA⟩
 ·exact ⟨by simp [fe],fun r hr=>by obtain ⟨y,_,rfl⟩:=OB.1 hr;rfl⟩
 ·exact ⟨by simp,tA⟩
 ·exact ⟨by simp [c.wl],eh⟩
 exact ⟨by simp [jn c d],eh⟩
theorem Dh {b:Type}{f:Lp.Line->Value->b}(a:t.Ok N):List.zipWith f t.lines ((List.range t.basic.length).map wF)=(List.range t.basic.length).map fun i=>f (t.line i) (wF i):=by
 refine List.ext_getElem? fun i=>?_;rw [List.getElem?_zipWith,Ou,Ou];by_cases h:i<t.basic.length
 ·have h2:t.lines[i]?=some (t.line i):=by
   unfold Lp.Tab.line;rw [ax,ak (by rw [a.ll];exact h)];rfl
  rw [h2,O5 h];rfl
 rw [OD (show (List.range t.basic.length).length<=i by simp;omega),OD (show t.lines.length<=i by rw [a.ll];omega)];rfl
theorem fU (c:t.Ok N)(h:∀ x∈fB b n t wB wL wO wW wF,x.seen C):TabV C b n t wB wL wO wW ((List.range t.basic.length).map wF):=by
 have h1:=h _ (aJ ..);have h2:=h _ (OA _ (aJ ..));have h3:=h _ (OA _ (OA _ (aJ ..)));have h4:=h _ (OA _ (OA _ (OA _ (aJ ..))));have h5:=h _ (OA _ (OA _ (OA _ (OA _ (aJ ..)))));have j:∀ i,i<t.basic.length->Sl C 1 (wF i) ((t.line i).f.map aZ):=fun i a =>
  h (Ju t wF i) (OA _ (OA _ (OA _ (OA _ (OA _ (OB.2 ⟨i,ON.2 a,rfl⟩))))))
 refine ⟨h1,h2,h4,h5, ?_,by simp [c.ll],fun i l w e g=>?_⟩
 ·rw [Dh c];have d:Sl C 2 wL ((cK t wF).map bE):=h3;unfold cK at d;rw [Pc] at d;exact d
 have a:i<t.lines.length:=(aF.1 e).1;rw [c.ll] at a;rw [Ou,O5 a] at g;cases g
 have:t.line i=l:=by unfold Lp.Tab.line;rw [ax,e];rfl
 rw [<- this];exact j i a
theorem HH (C:Mem)(o:Tabs C)(e m f i n s:Nat)(w g:Value)(d:List (Rat × Value))(a b:List Rat)(c h:Rat)(p:d.length=m)(q:d[i]?=some (c,w))(r:a.length=n)(k:b.length=n)(t:s<n)(v:QB 40 c)(y:∀ x∈a,QB 40 x)(z:QB 40 h)(A:∀ x∈b,QB 40 x) :
  Jog.Fn cx.P 237 [.pointer (some ⟨e,i*2,none⟩),.int .i64 s,.agg ⟨[ai (qtx h),g]⟩] C [.arr g 56 1 n (b.map aZ).flatten,.arr (.slice (some ⟨e,0,none⟩) m f) 209 2 m (d.map bE).flatten,.arr w 56 1 n (a.map aZ).flatten]
   fun u _ j=>u=.tuple #[]/\j=[.arr g 56 1 n (b.map aZ).flatten,.arr (.slice (some ⟨e,0,none⟩) m f) 209 2 m ((d.set i (c+a.getD s 0*h,w)).map bE).flatten,.arr w 56 1 n ((jW a b s (a.getD s 0) n).map aZ).flatten]:=by
 have l:Jog.Enters cx.P 237=true:=by kernel_rfl
 refine Fn.perm (L2:=[.arr w 56 1 n (a.map aZ).flatten,.arr g 56 1 n (b.map aZ).flatten,.arr (.slice (some ⟨e,0,none⟩) m f) 209 2 m (d.map bE).flatten]) (O2 (l₁:=[_,_]) (l₂:=[_]))<|Fn.form l om_ fun D E hw=>?_;subst hw;refine Fn.perm (O2 (l₁:=[_]) (l₂:=[_,_]))<|(Tq (post:=fun u j=>u=.tuple #[]/\j=[.arr (.slice (some ⟨e,0,none⟩) m f) 209 2 m ((d.set i (c+a.getD s 0*h,_)).map bE).flatten,.arr _ 56 1 n ((jW a b s (a.getD s 0) n).map aZ).flatten]) l eh (by simp [k]) fun C' F G=>KJ C' (o.mono F) e m f i D E n s g d a b c h p q r k t G v y z A).mono ?_;rintro u C' j _ ⟨B,rfl,h1,rfl⟩;exact ⟨h1,Z⟩
theorem HF (C:Mem)(o:Tabs C)(d n s:Nat)(e f g h w i:Value)(a b:List Rat)(c j:Rat)(p:a.length=n)(l:b.length=n)(q:s<n)(r:QB 40 c)(t:∀ x∈a,QB 40 x)(v:QB 40 j)(y:∀ x∈b,QB 40 x) :
  Jog.Fn cx.P 237 [.pointer (some ⟨d,4,none⟩),.int .i64 s,.agg ⟨[ai (qtx j),i]⟩] C [.arr i 56 1 n (b.map aZ).flatten,.obj d (.cells ⟨[e,f,g,h,ai (qtx c),w]⟩ 212 (0,0)),.arr w 56 1 n (a.map aZ).flatten]
   fun u _ k=>u=.tuple #[]/\k=[.arr i 56 1 n (b.map aZ).flatten,.obj d (.cells ⟨[e,f,g,h,ai (qtx (c+a.getD s 0*j)),w]⟩ 212 (0,0)),.arr w 56 1 n ((jW a b s (a.getD s 0) n).map aZ).flatten]:=by
 have m:Jog.Enters cx.P 237=true:=by kernel_rfl
 refine Fn.perm (L2:=[.arr w 56 1 n (a.map aZ).flatten,.arr i 56 1 n (b.map aZ).flatten,.obj d (.cells ⟨[e,f,g,h,ai (qtx c),w]⟩ 212 (0,0))]) (O2 (l₁:=[_,_]) (l₂:=[_]))<|Fn.form m om_ fun A B hw=>?_;subst hw;refine Fn.perm (O2 (l₁:=[_]) (l₂:=[_,_]))<|(Tq (post:=fun u k=>u=.tuple #[]/\k=[.obj d (.cells ⟨[e,f,g,h,ai (qtx (c+a.getD s 0*j)),_]⟩ 212 (0,0)),.arr _ 56 1 n ((jW a b s (a.getD s 0) n).map aZ).flatten]) m eh (by simp [l]) fun C' D E=>KH C' (o.mono D) d A B n s e f g h i a b c j p l q E r t v y).mono ?_;rintro u C' k _ ⟨z,rfl,h1,rfl⟩;exact ⟨h1,Z⟩
theorem NX:qtx (-1)=[45,49]:=by decide +kernel
theorem vl {y:Lp.Line}(a:s<l.f.length):jW l.f y.f s (l.f.getD s 0) l.f.length=(Lp.putL l s y).f/\l.c+l.f.getD s 0*y.c=(Lp.putL l s y).c:=by
 have h:=Ej (c:=l.c) (bc:=y.c) (bf:=y.f) a;exact ⟨(congrArg Lp.Line.f h).symm,(congrArg Lp.Line.c h).symm⟩
theorem HG (C:Mem)(k:Tabs C)(b m e i n s:Nat)(w d:Value)(a:List (Rat × Value))(l y:Lp.Line)(o:a.length=m)(p:a[i]?=some (l.c,w))(g:l.f.length=n)(q:y.f.length=n)(r:s<n)(h:QB 40 l.c/\∀ x∈l.f,QB 40 x)(j:QB 40 y.c/\∀ x∈y.f,QB 40 x) :
  Jog.Fn cx.P 237 [.pointer (some ⟨b,i*2,none⟩),.int .i64 s,.agg ⟨[ai (qtx y.c),d]⟩] C [.arr d 56 1 n (y.f.map aZ).flatten,.arr (.slice (some ⟨b,0,none⟩) m e) 209 2 m (a.map bE).flatten,.arr w 56 1 n (l.f.map aZ).flatten]
   fun u _ t=>u=.tuple #[]/\t=[.arr d 56 1 n (y.f.map aZ).flatten,.arr (.slice (some ⟨b,0,none⟩) m e) 209 2 m ((a.set i ((Lp.putL l s y).c,w)).map bE).flatten,.arr w 56 1 n ((Lp.putL l s y).f.map aZ).flatten]:=by
 obtain ⟨h1,h2⟩:=vl (l:=l) (y:=y) (s:=s) om_;rw [<- h1,<- h2,g];exact HH C k b m e i n s w d a l.f y.f l.c y.c o p g q r h.1 h.2 j.1 j.2
theorem HE (C:Mem)(m:Tabs C)(a n s:Nat)(d e g h w b:Value)(l y:Lp.Line)(i:l.f.length=n)(o:y.f.length=n)(p:s<n)(j:QB 40 l.c/\∀ x∈l.f,QB 40 x)(k:QB 40 y.c/\∀ x∈y.f,QB 40 x) :
  Jog.Fn cx.P 237 [.pointer (some ⟨a,4,none⟩),.int .i64 s,.agg ⟨[ai (qtx y.c),b]⟩] C [.arr b 56 1 n (y.f.map aZ).flatten,.obj a (.cells ⟨[d,e,g,h,ai (qtx l.c),w]⟩ 212 (0,0)),.arr w 56 1 n (l.f.map aZ).flatten]
   fun u _ q=>u=.tuple #[]/\q=[.arr b 56 1 n (y.f.map aZ).flatten,.obj a (.cells ⟨[d,e,g,h,ai (qtx (Lp.putL l s y).c),w]⟩ 212 (0,0)),.arr w 56 1 n ((Lp.putL l s y).f.map aZ).flatten]:=by
 obtain ⟨h1,h2⟩:=vl (l:=l) (y:=y) (s:=s) om_;rw [<- h1,<- h2,i];exact HF C m a n s d e g h w b l.f y.f l.c y.c i o p j.1 j.2 k.1 k.2
def byF (l:Lp.Line)(s j:Nat):List Rat:=(List.range l.f.length).map fun q=>if q<j then (Lp.byL l s).g q else 0
theorem kh :(byF l s j).length=l.f.length:=by simp [byF]
theorem AN {q:Nat}(h:q<l.f.length):(byF l s j)[q]?=some (if q<j then (Lp.byL l s).g q else 0):=by
 unfold byF;rw [Ou,O5 h];rfl
theorem I2 :List.replicate l.f.length 0=byF l s 0:=by
 refine List.ext_getElem? fun v=>?_;by_cases a:v<l.f.length
 ·rw [AN a,Qr,aI a,aA (Nat.not_lt_zero _)]
 rw [OD ap,OD (by rw [kh];omega)]
theorem LO (h:j<l.f.length):(byF l s j).set j (-(if j=s then -1 else l.g j) / l.g s)=byF l s (j+1):=by
 refine List.ext_getElem? fun q=>?_;rw [List.getElem?_set,kh];by_cases a:q<l.f.length
 ·rw [AN a,AN a];by_cases e:j=q
  ·subst e;rw [aI rfl,aI a,aI (Nat.lt_succ_self j),Lp.byL_g a];congr 1;split <;> grind
  rw [aA e];by_cases h1:q<j
  ·rw [aI h1,aI om_]
  rw [aA h1,aA om_]
 rw [aA om_,OD (by rw [kh];omega),OD (by rw [kh];omega)]
theorem tT :(Lp.byL l s).f.length=l.f.length:=by simp [Lp.byL]
theorem LP :byF l s l.f.length=(Lp.byL l s).f:=by
 refine List.ext_getElem? fun q=>?_;by_cases a:q<l.f.length
 ·rw [AN a,aI a];unfold Lp.Line.g;rw [ax,ak (by rw [tT];exact a)];rfl
 rw [OD (by rw [kh];omega),OD (by rw [tT];omega)]
def stL (t:Lp.Tab)(r s i q:Nat):Lp.Line:=if q<i/\q≠r then Lp.putL (t.line q) s (Lp.byL (t.line r) s) else t.line q
def stV (t:Lp.Tab)(wF:Nat->Value)(r s i:Nat):List (Rat × Value):=(List.range t.basic.length).map fun q=>((stL t r s i q).c,wF q)
def stE (t:Lp.Tab)(wF:Nat->Value)(r s i q:Nat):Ent:=.arr (wF q) 56 1 t.others.length ((stL t r s i q).f.map aZ).flatten
theorem iB :(stV t wF r s i).length=t.basic.length:=by simp [stV]
theorem yX {q:Nat}(h:q<t.basic.length):(stV t wF r s i)[q]?=some ((stL t r s i q).c,wF q):=by
 unfold stV;rw [Ou,O5 h];rfl
theorem sr {q:Nat}:stL t r s 0 q=t.line q:=aA fun h=>Nat.not_lt_zero _ h.1
theorem nS {q:Nat}(h:q≠i):stL t r s (i+1) q=stL t r s i q:=by
 unfold stL;by_cases h1:q<i/\q≠r
 ·rw [aI h1,aI ⟨by omega,h1.2⟩]
 rw [aA h1,aA fun h2=>h1 ⟨by omega,h2.2⟩]
theorem mW (h:i≠r):stL t r s i i=t.line i/\stL t r s (i+1) i=Lp.putL (t.line i) s (Lp.byL (t.line r) s) :=
 ⟨aA fun h2=>Nat.lt_irrefl _ h2.1,aI ⟨Nat.lt_succ_self _,h⟩⟩
theorem yY {q:Nat}:stL t r s (r+1) q=stL t r s r q:=by
 by_cases h:q=r
 ·subst h;unfold stL;rw [aA fun h=>h.2 rfl,aA fun h=>h.2 rfl]
 exact nS h
theorem Km (b:i<t.basic.length)(h:i≠r):(stV t wF r s i).set i ((Lp.putL (t.line i) s (Lp.byL (t.line r) s)).c,wF i)=stV t wF r s (i+1):=by
 refine List.ext_getElem? fun q=>?_;rw [List.getElem?_set,iB];by_cases a:q<t.basic.length
 ·rw [yX a,yX a];by_cases e:i=q
  ·subst e;rw [aI rfl,aI a,(mW h).2]
  rw [aA e,nS (Ne.symm e)]
 rw [aA om_,OD (by rw [iB];omega),OD (by rw [iB];omega)]
theorem G9 :stV t wF r s (r+1)=stV t wF r s r:=by
 unfold stV;simp only [yY]
theorem G8 :stV t wF r s 0=cK t wF:=by
 unfold stV cK;simp only [sr]
theorem Kn (d:t.Ok N)(f:r<t.basic.length):(stV t wF r s t.basic.length).set r ((Lp.byL (t.line r) s).c,wy)=cK (t.pivot r s) fun q=>if q=r then wy else wF q:=by
 have b:(t.pivot r s).basic.length=t.basic.length:=Pm;refine List.ext_getElem? fun q=>?_;rw [List.getElem?_set,iB];by_cases a:q<t.basic.length
 ·rw [yX a,mY (by rw [b];exact a),Lp.pivot_line (by rw [d.ll];exact a)];by_cases e:r=q
  ·subst e;rw [aI rfl,aI a,aI rfl,aI rfl]
  rw [aA e,aA (Ne.symm e),aA (Ne.symm e)];unfold stL;rw [aI ⟨a,Ne.symm e⟩]
 rw [aA om_,OD (by rw [iB];omega),OD (by rw [fe,b];omega)]
theorem range_nd :(List.range m).Nodup:=List.nodup_range
theorem Ko (b:t.Ok N)(c:r<t.basic.length) :
  (.arr wy 56 1 t.others.length ((Lp.byL (t.line r) s).f.map aZ).flatten::((List.range t.basic.length).erase r).map (stE t wF r s t.basic.length)).Perm (((List.range (t.pivot r s).basic.length).map (Ju (t.pivot r s) fun q=>if q=r then wy else wF q)).map Lent.ent):=by
 have g:(t.pivot r s).basic.length=t.basic.length:=Pm;have d:(t.pivot r s).others.length=t.others.length:=Pm;rw [g,Pc];have h0:(Lent.ent ∘ Ju (t.pivot r s) fun q=>if q=r then wy else wF q) r=.arr wy 56 1 t.others.length ((Lp.byL (t.line r) s).f.map aZ).flatten:=by
  show Ent.arr (if r=r then wy else wF r) _ 1 (t.pivot r s).others.length _=_;rw [aI rfl,d,Lp.pivot_line (by rw [b.ll];exact c),aI rfl]
 have h1:=kR range_nd (ON.2 c) (Lent.ent ∘ Ju (t.pivot r s) fun q=>if q=r then wy else wF q) (stE t wF r s t.basic.length) (fun q h a=>by
  have e:=ON.1 h;show Ent.arr (if q=r then wy else wF q) _ 1 (t.pivot r s).others.length _=_;rw [aA a,d,Lp.pivot_line (by rw [b.ll];exact e),aA a];unfold stE stL;rw [aI ⟨e,a⟩])
 rw [h0] at h1;exact h1.symm
theorem Kl (a:t.Ok N)(d:r<t.basic.length) :
  (([.obj b (.cells ⟨[.int .i64 n,wB,wL,wO,ai (qtx (Lp.putL t.worth s (Lp.byL (t.line r) s)).c),wW]⟩ 212 (0,0)),.arr wB 3 1 t.basic.length ((t.basic.set r (t.oth s)).map aQ).flatten,.arr wL 209 2 t.basic.length (((stV t wF r s t.basic.length).set r ((Lp.byL (t.line r) s).c,wy)).map bE).flatten,.arr wO 3 1 t.others.length ((t.others.set s (t.bas r)).map aQ).flatten,.arr wW 56 1 t.others.length (((Lp.putL t.worth s (Lp.byL (t.line r) s)).f).map aZ).flatten]:List Ent)++(.arr wy 56 1 t.others.length ((Lp.byL (t.line r) s).f.map aZ).flatten::((List.range t.basic.length).erase r).map (stE t wF r s t.basic.length))).Perm ((fB b n (t.pivot r s) wB wL wO wW fun q=>if q=r then wy else wF q).map Lent.ent):=by
 have e:(t.pivot r s).basic.length=t.basic.length:=Pm;have g:(t.pivot r s).others.length=t.others.length:=Pm;rw [Kn a d];refine (List.Perm.append_left _ (Ko a d)).trans (List.Perm.of_eq ?_);unfold fB;simp only [O1,Lent.ent,e,g];rfl
theorem xu {l:List Nat}(h:i<l.length):l[i]?=some (l.getD i 0):=by
 rw [ax,ak h];rfl
theorem bu (r s:Nat):(fB b n t wB wL wO wW wF).map Lent.ent=[.obj b (.cells ⟨[.int .i64 n,wB,wL,wO,ai (qtx t.worth.c),wW]⟩ 212 (0,0)),.arr wB 3 1 t.basic.length ((t.basic).map aQ).flatten,.arr wL 209 2 t.basic.length ((cK t wF).map bE).flatten,.arr wO 3 1 t.others.length ((t.others).map aQ).flatten,.arr wW 56 1 t.others.length ((t.worth.f).map aZ).flatten]++(List.range t.basic.length).map (stE t wF r s 0):=by
 have e:stE t wF r s 0=Lent.ent ∘ Ju t wF:=funext fun q=>by
  unfold stE;rw [sr];rfl
 rw [e,<- Pc];rfl
def LineQ (k:Nat)(l:Lp.Line):Prop:=QB k l.c/\∀ x∈l.f,QB k x
theorem LineQ.le {k m:Nat}{l:Lp.Line}(h:LineQ k l)(a:k<=m):LineQ m l:=⟨h.1.le a,fun x b=>(h.2 x b).le a⟩
theorem LineQ.g {k:Nat}{l:Lp.Line}(h:LineQ k l){j:Nat}(a:j<l.f.length):QB k (l.g j):=by
 unfold Lp.Line.g;rw [ax,ak a];exact h.2 _ (Pn _)
theorem Oh (h:LineQ 16 l)(c:s<l.f.length)(a:l.g s≠0):LineQ 32 (Lp.byL l s):=by
 have b:=h.g c;refine ⟨pN (im h.1) b a,fun x d=>?_⟩;obtain ⟨q,e,rfl⟩:=OB.1 d;have i:=ON.1 e;split
 ·exact pN ⟨by decide,by decide⟩ b a
 exact pN (im (h.g i)) b a
theorem zD (C:Mem)(O:Tabs C)(b n r s N:Nat)(t:Lp.Tab)(Q S T d:Value)(a:Nat->Value)(U:t.Ok N)(hm:t.basic.length<=1000000)(aO:t.others.length<=1000000)(B:r<t.basic.length)(V:s<t.others.length)(hk:(t.line r).g s≠0)(hq:∀ i,i<t.basic.length->LineQ 16 (t.line i))(az:LineQ 16 t.worth) :
  Jog.Fn cx.P 179 [.pointer (some ⟨b,0,none⟩),.int .i64 r,.int .i64 s] C ((fB b n t Q S T d a).map Lent.ent) fun u _ A=>u=.tuple #[]/\∃ aB,A=(fB b n (t.pivot r s) Q S T d aB).map Lent.ent:=by
 have aP:maxLen<=9223372036854775807:=by simp [maxLen]
 have W:=jn U B;have aC:=U.wl;have J:=hq r B;have ag:s<(t.line r).f.length:=by omega
 have ar:=J.g ag;have au:=Oh J ag hk;refine Sc func179 123 U3 fun w0=>?_;rw [bu r s];refine Sp (L':=[.obj b (.cells ⟨[.int .i64 n,Q,S,T,ai (qtx t.worth.c),d]⟩ 212 (0,0)),.arr Q 3 1 t.basic.length ((t.basic).map aQ).flatten,.arr S 209 2 t.basic.length ((cK t a).map bE).flatten,.arr T 3 1 t.others.length ((t.others).map aQ).flatten,.arr d 56 1 t.others.length ((t.worth.f).map aZ).flatten]++(List.range t.basic.length).map (stE t a r s 0)) Z<|TM 1 Z om_ (fun o p hw=>?_);subst hw;refine TM 2 Z om_ (fun k l hw=>?_);subst hw;refine TM 3 Z om_ (fun w x hw=>?_);subst hw;refine G.perm (L':=[.arr (a r) 56 1 t.others.length ((t.line r).f.map aZ).flatten,.obj b (.cells ⟨[.int .i64 n,.slice (some ⟨o,0,none⟩) t.basic.length p,.slice (some ⟨k,0,none⟩) t.basic.length l,.slice (some ⟨w,0,none⟩) t.others.length x,ai (qtx t.worth.c),d]⟩ 212 (0,0)),.arr (.slice (some ⟨o,0,none⟩) t.basic.length p) 3 1 t.basic.length ((t.basic).map aQ).flatten,.arr (.slice (some ⟨k,0,none⟩) t.basic.length l) 209 2 t.basic.length ((cK t a).map bE).flatten,.arr (.slice (some ⟨w,0,none⟩) t.others.length x) 3 1 t.others.length ((t.others).map aQ).flatten,.arr d 56 1 t.others.length ((t.worth.f).map aZ).flatten]++((List.range t.basic.length).erase r).map (stE t a r s 0)) (by
  have h1:=kR range_nd (ON.2 B) (stE t a r s 0) (stE t a r s 0) (fun _ _ _=>rfl);refine (List.Perm.append_left _ h1).trans ?_;have e:stE t a r s 0 r=.arr (a r) 56 1 t.others.length ((t.line r).f.map aZ).flatten:=by unfold stE;rw [sr]
  rw [e]
  (exact pkL [5] rfl)) ?_
 refine G.freezeArr 0 ((t.line r).f.map aZ) Z Z eh (by simp [W]) (fun _ _ K=>?_);obtain ⟨X,Y,av,aD,aR,_⟩:=id K;rw [av] at K;simp only [al] at K aD;have aE:(cK t a)[r]?=some ((t.line r).c,.slice X (t.line r).f.length Y):=by rw [mY B,av,al]
 refine R4 3 Z fun R y=>Sd af U9<|R7 U6<|SC (r*2) U10 ah U2<|SS (v:=.agg ⟨[ai (qtx (t.line r).c),.slice X (t.line r).f.length Y]⟩) ac U6 (fun _=>(by rw [nj aE];rfl)) U2<|Sq U5 fun b6=>Sf (j:=0) U12<|Sa [0,1,2,6] y Z<|G.freeze 0 Z fun _ _ aj=>R4 1 Z fun R y=>R5 (bkT aj 1) U8<|R7 U6<|Sm K.m_ U10 om_ (eO ag) fl_ fun aS aF=>R5 aF U8<|C4 1 [0,1,2,6,7] y Z<|Sx [(5,3)] Z fun R y=>R9 3 Z<|Sd af U9<|R7 U6<|D.call (kK _ t.others.length om_) Z (.inr dc_) U6 (Ov _) fl_ (fun aT _ aU _ aG=>?_);obtain ⟨z,rfl,rfl⟩:=aG;refine Sn [ai [],.slice (some ⟨z,0,none⟩) t.others.length t.others.length] U8<|Sq U5 fun E=>Sf (j:=0) U12<|Sa [0,1,2,6,7,8] y Z<|R4 1 Z fun R y=>R5 (bkT aj 1) U8<|Sk (eJ _ (t.line r).c (OQ (bK J.1 dc_) dc_)) U7 fl_<|R7 U6<|Sk (iF _ O.m_ (-(t.line r).c) ((t.line r).g s) 16 dc_ dc_ (im J.1) ar hk) U7 fl_<|R9 4 Z<|Sf (j:=0) U12<|Sa [0,1,2,6,7,8] y Z<|R4 1 Z fun R y=>R5 (bkT aj 1) U8<|C4 2 [0,1,2,7,8,41,42,43] y Z<|Sp (L':=[.obj E (.cells ⟨[ai (qtx (Lp.byL (t.line r) s).c),.slice (some ⟨z,0,none⟩) t.others.length t.others.length]⟩ 209 (0,0)),.arr (.slice (some ⟨z,0,none⟩) t.others.length t.others.length) 56 1 t.others.length ((byF (t.line r) s 0).map aZ).flatten,.obj b (.cells ⟨[.int .i64 n,.slice (some ⟨o,0,none⟩) t.basic.length p,.slice (some ⟨k,0,none⟩) t.basic.length l,.slice (some ⟨w,0,none⟩) t.others.length x,ai (qtx t.worth.c),d]⟩ 212 (0,0)),.arr (.slice (some ⟨o,0,none⟩) t.basic.length p) 3 1 t.basic.length ((t.basic).map aQ).flatten,.arr (.slice (some ⟨k,0,none⟩) t.basic.length l) 209 2 t.basic.length ((cK t a).map bE).flatten,.arr (.slice (some ⟨w,0,none⟩) t.others.length x) 3 1 t.others.length ((t.others).map aQ).flatten,.arr d 56 1 t.others.length ((t.worth.f).map aZ).flatten]++((List.range t.basic.length).erase r).map (stE t a r s 0)) (by rw [<- I2,W,<- xo];rfl)<|G.loop (fun fr C' A L=>∃ (j:Nat),(j<=(t.line r).f.length)/\fr=[(0,[],.pointer (some ⟨b,0,none⟩)),(1,[],.int .i64 r),(2,[],.int .i64 s),(7,[],ai (qtx ((t.line r).g s))),(8,[],.pointer (some ⟨E,0,none⟩)),(41,[],.slice X (t.line r).f.length Y),(42,[],.int .i64 (t.line r).f.length),(43,[],.int .i64 j)]/\A=[.obj E (.cells ⟨[ai (qtx (Lp.byL (t.line r) s).c),.slice (some ⟨z,0,none⟩) t.others.length t.others.length]⟩ 209 (0,0)),.arr (.slice (some ⟨z,0,none⟩) t.others.length t.others.length) 56 1 t.others.length ((byF (t.line r) s j).map aZ).flatten,.obj b (.cells ⟨[.int .i64 n,.slice (some ⟨o,0,none⟩) t.basic.length p,.slice (some ⟨k,0,none⟩) t.basic.length l,.slice (some ⟨w,0,none⟩) t.others.length x,ai (qtx t.worth.c),d]⟩ 212 (0,0)),.arr (.slice (some ⟨o,0,none⟩) t.basic.length p) 3 1 t.basic.length ((t.basic).map aQ).flatten,.arr (.slice (some ⟨k,0,none⟩) t.basic.length l) 209 2 t.basic.length ((cK t a).map bE).flatten,.arr (.slice (some ⟨w,0,none⟩) t.others.length x) 3 1 t.others.length ((t.others).map aQ).flatten,.arr d 56 1 t.others.length ((t.worth.f).map aZ).flatten]++((List.range t.basic.length).erase r).map (stE t a r s 0)/\L=(t.line r).f.length-j) (hn_ [0,1,2,7,8,41,42,43] Z) ⟨0,Ow _,Z,Z,Z⟩ (fun fr aW aX m _ M=>?_);obtain ⟨j,hj,rfl,rfl,rfl⟩:=M;refine C6 1 [0,1,2,7,8,41,42,43,44] Z<|R6 (fun ak=>?_) fun ak=>?_
 ·have I:j<(t.line r).f.length:=by
   have:=NM ak;omega
  have aw:QB 16 (if j=s then (-1:Rat) else (t.line r).g j):=by
   split
   ·exact ⟨by decide,by decide⟩
   exact J.g I
  refine R4 1 Z fun R y=>Sm K.m_ U10 om_ (show ((t.line r).f.map aZ)[j]?=some (aZ ((t.line r).g j)) from eO I) fl_ fun aY aH=>R5 aH U8<|C4 2 [0,1,2,7,8,9,10,41,42,43] y Z<|C6 3 [0,1,2,7,8,9,10,41,42,43,50] Z<|G.cut (fun fr C' A L=>(True)/\fr=[(0,[],.pointer (some ⟨b,0,none⟩)),(1,[],.int .i64 r),(2,[],.int .i64 s),(7,[],ai (qtx ((t.line r).g s))),(8,[],.pointer (some ⟨E,0,none⟩)),(9,[],.int .i64 j),(10,[],ai (qtx (if j=s then (-1:Rat) else (t.line r).g j))),(41,[],.slice X (t.line r).f.length Y),(42,[],.int .i64 (t.line r).f.length),(43,[],.int .i64 j)]/\A=[.obj E (.cells ⟨[ai (qtx (Lp.byL (t.line r) s).c),.slice (some ⟨z,0,none⟩) t.others.length t.others.length]⟩ 209 (0,0)),.arr (.slice (some ⟨z,0,none⟩) t.others.length t.others.length) 56 1 t.others.length ((byF (t.line r) s j).map aZ).flatten,.obj b (.cells ⟨[.int .i64 n,.slice (some ⟨o,0,none⟩) t.basic.length p,.slice (some ⟨k,0,none⟩) t.basic.length l,.slice (some ⟨w,0,none⟩) t.others.length x,ai (qtx t.worth.c),d]⟩ 212 (0,0)),.arr (.slice (some ⟨o,0,none⟩) t.basic.length p) 3 1 t.basic.length ((t.basic).map aQ).flatten,.arr (.slice (some ⟨k,0,none⟩) t.basic.length l) 209 2 t.basic.length ((cK t a).map bE).flatten,.arr (.slice (some ⟨w,0,none⟩) t.others.length x) 3 1 t.others.length ((t.others).map aQ).flatten,.arr d 56 1 t.others.length ((t.worth.f).map aZ).flatten]++((List.range t.basic.length).erase r).map (stE t a r s 0)) ?_ (fun fr _ a0 L _ M=>?_)
  ·refine R6 (fun am=>?_) fun am=>?_
   ·have an:j=s:=by
     have ab:((j:Int) == (s:Int))=true:=am;have:=eq_of_beq ab;omega
    refine C6 1 [0,1,2,7,8,9,10,41,42,43] Z<|Si 0 (Mem.le.refl _) (hn_ [0,1,2,7,8,9,10,41,42,43] Z) ⟨trivial,by rw [aI an,NX];rfl,Z⟩
   have an:¬ j=s:=by
    have ab:((j:Int) == (s:Int))=false:=am;intro h;rw [h] at ab;simp at ab
   refine Si 0 (Mem.le.refl _) (hn_ [0,1,2,7,8,9,10,41,42,43] Z) ⟨trivial,by rw [aA an],Z⟩
  obtain ⟨a1,rfl,rfl⟩:=M;refine Ss [0,1,2,3,4,5,6,7,8,9,10,11] [(4,1),(6,1)] Z kr_ fun R hB y=>R7 U6<|Sd af U9<|R9 2 Z<|Su (fun _=>(eJ _ (if j=s then (-1:Rat) else (t.line r).g j) (OQ (bK aw dc_) dc_))) U9<|R7 U6<|Su (fun _=>(iF _ O.m_ (-(if j=s then (-1:Rat) else (t.line r).g j)) ((t.line r).g s) 16 dc_ dc_ (im aw) ar hk)) U9<|R9 3 Z<|SC (j*1) U10 ah U2<|SG (j:=1) U11 (by show j*1+1<=_;rw [bQ bP,kh];omega)<|Sa [0,1,2,7,8,41,42,43] y Z<|R8 fun R y=>Se _ U7<|C4 1 [0,1,2,7,8,41,42,43] y Z<|G.perm (L':=[.obj E (.cells ⟨[ai (qtx (Lp.byL (t.line r) s).c),.slice (some ⟨z,0,none⟩) t.others.length t.others.length]⟩ 209 (0,0)),.arr (.slice (some ⟨z,0,none⟩) t.others.length t.others.length) 56 1 t.others.length ((byF (t.line r) s (j+1)).map aZ).flatten,.obj b (.cells ⟨[.int .i64 n,.slice (some ⟨o,0,none⟩) t.basic.length p,.slice (some ⟨k,0,none⟩) t.basic.length l,.slice (some ⟨w,0,none⟩) t.others.length x,ai (qtx t.worth.c),d]⟩ 212 (0,0)),.arr (.slice (some ⟨o,0,none⟩) t.basic.length p) 3 1 t.basic.length ((t.basic).map aQ).flatten,.arr (.slice (some ⟨k,0,none⟩) t.basic.length l) 209 2 t.basic.length ((cK t a).map bE).flatten,.arr (.slice (some ⟨w,0,none⟩) t.others.length x) 3 1 t.others.length ((t.others).map aQ).flatten,.arr d 56 1 t.others.length ((t.worth.f).map aZ).flatten]++((List.range t.basic.length).erase r).map (stE t a r s 0)) (by rw [<- LO I,<- bJ bP _ (by rw [kh];exact I)];exact List.Perm.swap _ _ _)<|Sj (m':=(t.line r).f.length-(j+1)) om_ mup (hn_ [0,1,2,7,8,41,42,43] Z) ⟨j+1,om_,Z,Z,Z⟩
 have I:j=(t.line r).f.length:=by
  have:=Ox ak;omega
 rw [I,LP];refine G.freeze 0 Z fun _ _ ao=>R4 3 Z fun R y=>Sd ae U9<|C4 2 [0,1,2,8,67,68] y Z<|G.perm (L':=[.arr (.slice (some ⟨z,0,none⟩) t.others.length t.others.length) 56 1 t.others.length (((Lp.byL (t.line r) s).f).map aZ).flatten,.arr (.slice (some ⟨k,0,none⟩) t.basic.length l) 209 2 t.basic.length ((stV t a r s 0).map bE).flatten,.obj b (.cells ⟨[.int .i64 n,.slice (some ⟨o,0,none⟩) t.basic.length p,.slice (some ⟨k,0,none⟩) t.basic.length l,.slice (some ⟨w,0,none⟩) t.others.length x,ai (qtx t.worth.c),d]⟩ 212 (0,0)),.arr (.slice (some ⟨o,0,none⟩) t.basic.length p) 3 1 t.basic.length ((t.basic).map aQ).flatten,.arr (.slice (some ⟨w,0,none⟩) t.others.length x) 3 1 t.others.length ((t.others).map aQ).flatten,.arr d 56 1 t.others.length ((t.worth.f).map aZ).flatten]++((List.range t.basic.length).erase r).map (stE t a r s 0)) (by rw [G8];(exact pkL [0,2] Z))<|G.loop (fun fr C' A L=>∃ (i:Nat),(i<=t.basic.length)/\fr=[(0,[],.pointer (some ⟨b,0,none⟩)),(1,[],.int .i64 r),(2,[],.int .i64 s),(8,[],.pointer (some ⟨E,0,none⟩)),(67,[],.int .i64 t.basic.length),(68,[],.int .i64 i)]/\A=[.arr (.slice (some ⟨z,0,none⟩) t.others.length t.others.length) 56 1 t.others.length (((Lp.byL (t.line r) s).f).map aZ).flatten,.arr (.slice (some ⟨k,0,none⟩) t.basic.length l) 209 2 t.basic.length ((stV t a r s i).map bE).flatten,.obj b (.cells ⟨[.int .i64 n,.slice (some ⟨o,0,none⟩) t.basic.length p,.slice (some ⟨k,0,none⟩) t.basic.length l,.slice (some ⟨w,0,none⟩) t.others.length x,ai (qtx t.worth.c),d]⟩ 212 (0,0)),.arr (.slice (some ⟨o,0,none⟩) t.basic.length p) 3 1 t.basic.length ((t.basic).map aQ).flatten,.arr (.slice (some ⟨w,0,none⟩) t.others.length x) 3 1 t.others.length ((t.others).map aQ).flatten,.arr d 56 1 t.others.length ((t.worth.f).map aZ).flatten]++((List.range t.basic.length).erase r).map (stE t a r s i)/\L=t.basic.length-i) (hn_ [0,1,2,8,67,68] Z) ⟨0,Ow _,Z,Z,Z⟩ (fun fr a2 a3 m _ M=>?_);obtain ⟨i,hi,rfl,rfl,rfl⟩:=M;refine C6 1 [0,1,2,8,67,68,69] Z<|R6 (fun ap=>?_) fun ap=>?_
 ·have F:i<t.basic.length:=by
   have:=NM ap;omega
  refine C6 2 [0,1,2,8,11,67,68] Z<|C6 3 [0,1,2,8,11,67,68,73] Z<|R6 (fun aq=>?_) fun aq=>?_
  ·have H:i≠r:=by
    have ad:(!((i:Int) == (r:Int)))=true:=aq;intro h;rw [h] at ad;simp at ad
   have ax:i∈(List.range t.basic.length).erase r:=(List.Nodup.mem_erase_iff range_nd).2 ⟨H,ON.2 F⟩;have ay:=kR (range_nd.erase r) ax (stE t a r s i) (stE t a r s (i+1)) (fun q _ aJ=>by unfold stE;rw [nS aJ]);have he:stE t a r s i i=.arr (a i) 56 1 t.others.length ((t.line i).f.map aZ).flatten:=by unfold stE;rw [(mW H).1]
   have aK:stE t a r s (i+1) i=.arr (a i) 56 1 t.others.length ((Lp.putL (t.line i) s (Lp.byL (t.line r) s)).f.map aZ).flatten:=by unfold stE;rw [(mW H).2]
   have aL:(stV t a r s i)[i]?=some ((t.line i).c,a i):=by rw [yX F,(mW H).1]
   rw [he] at ay;refine G.perm (L':=[.arr (.slice (some ⟨z,0,none⟩) t.others.length t.others.length) 56 1 t.others.length (((Lp.byL (t.line r) s).f).map aZ).flatten,.arr (.slice (some ⟨k,0,none⟩) t.basic.length l) 209 2 t.basic.length ((stV t a r s i).map bE).flatten,.arr (a i) 56 1 t.others.length ((t.line i).f.map aZ).flatten,.obj b (.cells ⟨[.int .i64 n,.slice (some ⟨o,0,none⟩) t.basic.length p,.slice (some ⟨k,0,none⟩) t.basic.length l,.slice (some ⟨w,0,none⟩) t.others.length x,ai (qtx t.worth.c),d]⟩ 212 (0,0)),.arr (.slice (some ⟨o,0,none⟩) t.basic.length p) 3 1 t.basic.length ((t.basic).map aQ).flatten,.arr (.slice (some ⟨w,0,none⟩) t.others.length x) 3 1 t.others.length ((t.others).map aQ).flatten,.arr d 56 1 t.others.length ((t.worth.f).map aZ).flatten]++(((List.range t.basic.length).erase r).erase i).map (stE t a r s (i+1))) ((List.Perm.append_left _ ay).trans (pkL [0,0,4] Z))<|Ss [0,1,2,3,4,5,6,7,8] [(8,3)] Z kr_ fun R hB y=>R9 3 Z<|Sd aa U9<|R7 U6<|SC (i*2) U10 ah U2<|R7 U6<|R5 (bkT ao 2) U8<|D.call (HG _ O.m_ k t.basic.length l i t.others.length s (a i) (.slice (some ⟨z,0,none⟩) t.others.length t.others.length) (stV t a r s i) (t.line i) (Lp.byL (t.line r) s) iB aL (jn U F) (by rw [tT];exact W) V ((hq i F).le dc_) (au.le dc_)) Z (.inr dc_) U6 (pkL [0,0,0] Z) fl_ fun a4 _ a5 _ aM=>Sa [0,1,2,8,67,68] y Z ?_;obtain ⟨-,rfl⟩:=aM;refine G.perm (L':=[.arr (.slice (some ⟨z,0,none⟩) t.others.length t.others.length) 56 1 t.others.length (((Lp.byL (t.line r) s).f).map aZ).flatten,.arr (.slice (some ⟨k,0,none⟩) t.basic.length l) 209 2 t.basic.length ((stV t a r s (i+1)).map bE).flatten,.obj b (.cells ⟨[.int .i64 n,.slice (some ⟨o,0,none⟩) t.basic.length p,.slice (some ⟨k,0,none⟩) t.basic.length l,.slice (some ⟨w,0,none⟩) t.others.length x,ai (qtx t.worth.c),d]⟩ 212 (0,0)),.arr (.slice (some ⟨o,0,none⟩) t.basic.length p) 3 1 t.basic.length ((t.basic).map aQ).flatten,.arr (.slice (some ⟨w,0,none⟩) t.others.length x) 3 1 t.others.length ((t.others).map aQ).flatten,.arr d 56 1 t.others.length ((t.worth.f).map aZ).flatten]++((List.range t.basic.length).erase r).map (stE t a r s (i+1))) (by
    rw [<- Km F H];refine List.Perm.trans (l₂:=[.arr (.slice (some ⟨z,0,none⟩) t.others.length t.others.length) 56 1 t.others.length (((Lp.byL (t.line r) s).f).map aZ).flatten,.arr (.slice (some ⟨k,0,none⟩) t.basic.length l) 209 2 t.basic.length (((stV t a r s i).set i ((Lp.putL (t.line i) s (Lp.byL (t.line r) s)).c,a i)).map bE).flatten,.obj b (.cells ⟨[.int .i64 n,.slice (some ⟨o,0,none⟩) t.basic.length p,.slice (some ⟨k,0,none⟩) t.basic.length l,.slice (some ⟨w,0,none⟩) t.others.length x,ai (qtx t.worth.c),d]⟩ 212 (0,0)),.arr (.slice (some ⟨o,0,none⟩) t.basic.length p) 3 1 t.basic.length ((t.basic).map aQ).flatten,.arr (.slice (some ⟨w,0,none⟩) t.others.length x) 3 1 t.others.length ((t.others).map aQ).flatten,.arr d 56 1 t.others.length ((t.worth.f).map aZ).flatten]++(.arr (a i) 56 1 t.others.length ((Lp.putL (t.line i) s (Lp.byL (t.line r) s)).f.map aZ).flatten::(((List.range t.basic.length).erase r).erase i).map (stE t a r s (i+1)))) (pkL [0,0,1,1,1,1] Z) (List.Perm.append_left _ ?_);rw [<- aK];exact (kR (range_nd.erase r) ax (stE t a r s (i+1)) (stE t a r s (i+1)) (fun _ _ _=>rfl)).symm) ?_
   refine R8 fun R y=>Se _ U7<|C4 1 [0,1,2,8,67,68] y Z<|Sj (m':=t.basic.length-(i+1)) om_ mup (hn_ [0,1,2,8,67,68] Z) ⟨i+1,om_,Z,Z,Z⟩
  have H:i=r:=by
   have ad:(!((i:Int) == (r:Int)))=false:=aq;simp at ad;omega
  refine Sp (L':=[.arr (.slice (some ⟨z,0,none⟩) t.others.length t.others.length) 56 1 t.others.length (((Lp.byL (t.line r) s).f).map aZ).flatten,.arr (.slice (some ⟨k,0,none⟩) t.basic.length l) 209 2 t.basic.length ((stV t a r s (i+1)).map bE).flatten,.obj b (.cells ⟨[.int .i64 n,.slice (some ⟨o,0,none⟩) t.basic.length p,.slice (some ⟨k,0,none⟩) t.basic.length l,.slice (some ⟨w,0,none⟩) t.others.length x,ai (qtx t.worth.c),d]⟩ 212 (0,0)),.arr (.slice (some ⟨o,0,none⟩) t.basic.length p) 3 1 t.basic.length ((t.basic).map aQ).flatten,.arr (.slice (some ⟨w,0,none⟩) t.others.length x) 3 1 t.others.length ((t.others).map aQ).flatten,.arr d 56 1 t.others.length ((t.worth.f).map aZ).flatten]++((List.range t.basic.length).erase r).map (stE t a r s (i+1))) (by
   have e:stE t a r s (r+1)=stE t a r s r:=funext fun q=>by unfold stE;rw [yY]
   rw [H,G9,e]) ?_
  refine R8 fun R y=>Se _ U7<|C4 1 [0,1,2,8,67,68] y Z<|Sj (m':=t.basic.length-(i+1)) om_ mup (hn_ [0,1,2,8,67,68] Z) ⟨i+1,om_,Z,Z,Z⟩
 have F:i=t.basic.length:=by
  have:=Ox ap;omega
 rw [F];refine G.perm (L':=[.arr (.slice (some ⟨z,0,none⟩) t.others.length t.others.length) 56 1 t.others.length (((Lp.byL (t.line r) s).f).map aZ).flatten,.obj b (.cells ⟨[.int .i64 n,.slice (some ⟨o,0,none⟩) t.basic.length p,.slice (some ⟨k,0,none⟩) t.basic.length l,.slice (some ⟨w,0,none⟩) t.others.length x,ai (qtx t.worth.c),d]⟩ 212 (0,0)),.arr d 56 1 t.others.length ((t.worth.f).map aZ).flatten,.arr (.slice (some ⟨k,0,none⟩) t.basic.length l) 209 2 t.basic.length ((stV t a r s t.basic.length).map bE).flatten,.arr (.slice (some ⟨o,0,none⟩) t.basic.length p) 3 1 t.basic.length ((t.basic).map aQ).flatten,.arr (.slice (some ⟨w,0,none⟩) t.others.length x) 3 1 t.others.length ((t.others).map aQ).flatten]++((List.range t.basic.length).erase r).map (stE t a r s t.basic.length)) (pkL [0,1,3,0,0,0] Z)<|Ss [0,1,2,3,4,5] [(5,3)] Z kr_ fun R hB y=>R9 4 Z<|R5 (bkT ao 2) U8<|D.call (HE _ O.m_ b t.others.length s (.int .i64 n) (.slice (some ⟨o,0,none⟩) t.basic.length p) (.slice (some ⟨k,0,none⟩) t.basic.length l) (.slice (some ⟨w,0,none⟩) t.others.length x) d (.slice (some ⟨z,0,none⟩) t.others.length t.others.length) t.worth (Lp.byL (t.line r) s) aC (by rw [tT];exact W) V (az.le dc_) (au.le dc_)) Z (.inr dc_) U6 (pkL [0,0,0] Z) fl_ fun a6 _ a7 _ aN=>Sa [0,1,2,8] y Z ?_;obtain ⟨-,rfl⟩:=aN;refine G.perm (L':=[.obj b (.cells ⟨[.int .i64 n,.slice (some ⟨o,0,none⟩) t.basic.length p,.slice (some ⟨k,0,none⟩) t.basic.length l,.slice (some ⟨w,0,none⟩) t.others.length x,ai (qtx (Lp.putL t.worth s (Lp.byL (t.line r) s)).c),d]⟩ 212 (0,0)),.arr (.slice (some ⟨o,0,none⟩) t.basic.length p) 3 1 t.basic.length ((t.basic).map aQ).flatten,.arr (.slice (some ⟨k,0,none⟩) t.basic.length l) 209 2 t.basic.length ((stV t a r s t.basic.length).map bE).flatten,.arr (.slice (some ⟨w,0,none⟩) t.others.length x) 3 1 t.others.length ((t.others).map aQ).flatten,.arr d 56 1 t.others.length (((Lp.putL t.worth s (Lp.byL (t.line r) s)).f).map aZ).flatten,.arr (.slice (some ⟨z,0,none⟩) t.others.length t.others.length) 56 1 t.others.length (((Lp.byL (t.line r) s).f).map aZ).flatten]++((List.range t.basic.length).erase r).map (stE t a r s t.basic.length)) (pkL [1,3,2,2,1] Z)<|Ss [0,1,2,3,4,5,6,7] [] Z kr_ fun R hB y=>R9 3 Z<|Sd af U9<|R7 U6<|R5 (bkT ao 2) U8<|SC (r*2) U10 ah U2<|SG (j:=2) U11 (by show r*2+2<=_;rw [bQ gd,iB];omega)<|Sa [0,1,2] y Z<|Sp (L':=[.arr (.slice (some ⟨k,0,none⟩) t.basic.length l) 209 2 t.basic.length (((stV t a r s t.basic.length).set r ((Lp.byL (t.line r) s).c,.slice (some ⟨z,0,none⟩) t.others.length t.others.length)).map bE).flatten,.obj b (.cells ⟨[.int .i64 n,.slice (some ⟨o,0,none⟩) t.basic.length p,.slice (some ⟨k,0,none⟩) t.basic.length l,.slice (some ⟨w,0,none⟩) t.others.length x,ai (qtx (Lp.putL t.worth s (Lp.byL (t.line r) s)).c),d]⟩ 212 (0,0)),.arr (.slice (some ⟨o,0,none⟩) t.basic.length p) 3 1 t.basic.length ((t.basic).map aQ).flatten,.arr (.slice (some ⟨w,0,none⟩) t.others.length x) 3 1 t.others.length ((t.others).map aQ).flatten,.arr d 56 1 t.others.length (((Lp.putL t.worth s (Lp.byL (t.line r) s)).f).map aZ).flatten,.arr (.slice (some ⟨z,0,none⟩) t.others.length t.others.length) 56 1 t.others.length (((Lp.byL (t.line r) s).f).map aZ).flatten]++((List.range t.basic.length).erase r).map (stE t a r s t.basic.length)) (by rw [<- bJ gd _ (by rw [iB];exact B)];rfl)<|Ss [0,1,2,3,4,5,6,7,8,9,10,11,12,13,14,15,16,17,18,19,20,21,22,23,24,25,26,27] [] Z kr_ fun R hB y=>R9 3 Z<|Sd ae U9<|R9 4 Z<|Sd ae U9<|R9 4 Z<|Sd ae U9<|R7 U6<|SC (s*1) U10 ah U2<|SS aa U6 (fun _=>(by rw [ec eS (show t.others[s]?=some (t.oth s) from xu V)];rfl)) U2<|R9 3 Z<|Sd ae U9<|R7 U6<|SC (r*1) U10 ah U2<|SS ac U6 (fun _=>(by rw [ec eS (show t.basic[r]?=some (t.bas r) from xu B)];rfl)) U2<|SC (r*1) U10 ah U2<|SG (j:=2) U11 (by show r*1+1<=_;rw [bQ eS];omega)<|SC (s*1) U10 ah U2<|SG (j:=3) U11 (by show s*1+1<=_;rw [bQ eS];omega)<|Ta [] trivial (y _ _ _ Z ?_);refine G.perm (L':=(fB b n (t.pivot r s) (.slice (some ⟨o,0,none⟩) t.basic.length p) (.slice (some ⟨k,0,none⟩) t.basic.length l) (.slice (some ⟨w,0,none⟩) t.others.length x) d (fun q=>if q=r then (.slice (some ⟨z,0,none⟩) t.others.length t.others.length) else a q)).map Lent.ent) (by
  refine List.Perm.trans ?_ (Kl U B);rw [<- bJ eS _ B,<- bJ eS _ V]
  (exact pkL [3,1,1,0,0,0] rfl)) ?_
 exact Td Z<|⟨Z,_,Z⟩
theorem zV (h:Lp.Inv p cc t)(b:Lp.Lim p cc 16)(a:i<t.basic.length):LineQ 16 (t.line i):=by
 refine ⟨h.con b a,fun x c=>?_⟩;obtain ⟨s,hs,rfl⟩:=List.mem_iff_getElem.1 c;have d:=jn h.tab.ok a;have h1:=h.fac b a (s:=s) om_;unfold Lp.Line.g at h1;rw [ax,ak hs] at h1;exact h1
theorem nE (h:Lp.Inv p cc t)(a:Lp.Lim p cc 16):LineQ 16 t.worth:=by
 refine ⟨h.wcon a,fun x b=>?_⟩;obtain ⟨s,hs,rfl⟩:=List.mem_iff_getElem.1 b;have c:=h.tab.ok.wl;have h1:=h.wfac a (s:=s) om_;unfold Lp.Line.g at h1;rw [ax,ak hs] at h1;exact h1
theorem LineQ.g0 {k:Nat}(h:LineQ k l)(a:k<=m)(b:1<=m)(j:Nat):QB m (l.g j):=by
 unfold Lp.Line.g;rw [ax];by_cases c:j<l.f.length
 ·rw [ak c];exact (h.2 _ (Pn _)).le a
 rw [OD om_];exact Lp.qb_zero b
theorem lC {c:Nat->Prop}(h:Lp.LeastR vs q n o)(e:∀ i,i<n->(q i ↔ c i)):Lp.LeastR vs c n o:=by
 cases h with
 | none h=>exact .none fun i a b=>h i a ((e i a).2 b)
 | some i a b hm=>exact .some i a ((e i a).1 b) fun j d f=>hm j d ((e j d).2 f)
theorem gJ (h:Lp.LeastR vs q n o)(a:¬ o<0):∃ i:Nat,o=i/\i<n/\q i/\∀ j,j<n->q j->vs.getD i 0<=vs.getD j 0:=by
 cases h with
 | none h=>exact absurd dc_ a
 | some i b c hm=>exact ⟨i,rfl,b,c,hm⟩
theorem oS (h:Lp.LeastR vs q n o)(a:o<0):∀ i,i<n->¬ q i:=by
 cases h with
 | none h=>exact h
 | some i b c hm=>omega
section
variable {C:Mem} {a a2 b n N:Nat} {r:Int} {t:Lp.Tab} {wB wL wO wW:Value} {wF:Nat->Value}
theorem yT (c:t.Ok N):∀ x∈.obj a2 [.int .i64 r] 3::fB b n t wB wL wO wW wF,x.wf:=fun x a=>by
 rcases OE.1 a with rfl | a
 ·trivial
 exact iA c x a
theorem E9 (d:t.Ok N)(j:C a=some (.cells ⟨[.pointer (some ⟨b,0,none⟩)]⟩ 202 (0,0)))(k:∀ i,i<t.basic.length->LineQ 16 (t.line i)) :
  Jog.Fn cx.P 180 [wB,.func (.func 181) #[] #[.pointer (some ⟨a,0,none⟩)]] C ((.obj a2 [.int .i64 r] 3::fB b n t wB wL wO wW wF).map Lent.ent)
   fun u _ e=>(∃ o:Int,u=.int .i64 o/\Lp.LeastR t.basic (fun i=>n<=t.bas i/\(t.line i).c<0) t.basic.length o)/\e=(.obj a2 [.int .i64 r] 3::fB b n t wB wL wO wW wF).map Lent.ent:=by
 refine Th kr_ _ (yT d) fun C' l hs=>?_;have f:=fU d fun x m=>hs x (OA _ m);refine (nk C' wB t.basic 181 [.pointer (some ⟨a,0,none⟩)] (fun i=>decide (n<=t.bas i) && decide ((t.line i).c<0)) f.B kr_ fun i g D h =>
  Iz D a b n i N t wB wL wO wW _ (f.mono h) d ((l.trans h) _ _ j) g ((k i g).1.le dc_)).mono ?_
 rintro u D e _ ⟨h1,o,rfl,h2⟩;exact ⟨h1,o,Z,lC h2 fun i _=>by simp⟩
theorem E8 {r:Nat}(c:t.Ok N)(h:C a=some (.cells ⟨[.pointer (some ⟨b,0,none⟩)]⟩ 202 (0,0)))(j:r<t.basic.length)(k:LineQ 16 (t.line r)) :
  Jog.Fn cx.P 180 [wO,.func (.func 182) #[] #[.pointer (some ⟨a,0,none⟩),.pointer (some ⟨a2,0,none⟩)]] C ((.obj a2 [.int .i64 r] 3::fB b n t wB wL wO wW wF).map Lent.ent)
   fun u _ e=>(∃ o:Int,u=.int .i64 o/\Lp.LeastR t.others (fun i=>n<=t.oth i/\0<(t.line r).g i) t.others.length o)/\e=(.obj a2 [.int .i64 r] 3::fB b n t wB wL wO wW wF).map Lent.ent:=by
 refine Th kr_ _ (yT c) fun C' l hs=>?_;have f:=fU c fun x m=>hs x (OA _ m);have h2:=hs _ (aJ ..);refine (nk C' wO t.others 182 [.pointer (some ⟨a,0,none⟩),.pointer (some ⟨a2,0,none⟩)] (fun i=>decide (n<=t.oth i) && decide (0<(t.line r).g i)) f.O kr_ fun i p D d =>
  Iy D a a2 b n i r N t wB wL wO wW _ (f.mono d) c ((l.trans d) _ _ h) (d _ _ h2) j p (k.g0 dc_ dc_ i)).mono ?_
 rintro u D e _ ⟨h1,o,rfl,h2⟩;exact ⟨h1,o,Z,lC h2 fun i _=>by simp⟩
end
inductive FeasO (p:Lp.Sys) (t:Lp.Tab):Value->Prop where
 | yes:t.Feas p.n->FeasO p t (.tuple #[.int .i64 0,.bool true])
 | no (r:Nat):r<t.basic.length->p.n<=t.bas r->(t.line r).c<0->(∀ s,s<t.others.length->p.n<=t.oth s->(t.line r).g s<=0)->FeasO p t (.tuple #[.int .i64 r,.bool false])
theorem xL (C:Mem)(X:Tabs C)(p:Lp.Sys)(A:Nat->Rat)(b:Nat)(d:Lp.Tab)(e h k l:Value)(B:Nat->Value)(q:Lp.Inv p A d)(a:Lp.Rel p.n d p.n)(S:Lp.Lim p A 16)(Y:p.m<=1000000)(hn:p.n<=1000000) :
  Jog.Fn cx.P 116 [.pointer (some ⟨b,0,none⟩)] C ((fB b p.n d e h k l B).map Lent.ent) fun u _ w=>∃ t wF,Lp.Inv p A t/\Lp.Rel p.n t p.n/\FeasO p t u/\w=(fB b p.n t e h k l wF).map Lent.ent:=by
 have an:maxLen<=9223372036854775807:=by simp [maxLen]
 refine Sc func116 26 U3 fun w0=>?_;refine R8 fun R a=>?_;refine So U6 (fun b1=>?_);refine Sq U5 (fun v=>?_);refine C4 1 [1,2] a Z ?_;clear a R;refine G.freeze 1 Z (fun _ _ x=>?_);refine Sp (L':=[.obj v (.cells ⟨[.int .i64 0]⟩ 3 (0,0)),.obj b (.cells ⟨[.int .i64 p.n,e,h,k,ai (qtx d.worth.c),l]⟩ 212 (0,0)),.arr e 3 1 d.basic.length ((d.basic).map aQ).flatten,.arr h 209 2 d.basic.length ((cK d B).map bE).flatten,.arr k 3 1 d.others.length ((d.others).map aQ).flatten,.arr l 56 1 d.others.length ((d.worth.f).map aZ).flatten]++(List.range d.basic.length).map (stE d B 0 0 0)) (by rw [bu 0 0];rfl) ?_;refine G.loop (fun fr C' w μ=>∃ (t:Lp.Tab)(wF:Nat->Value)(o:Int)(E:Nat),(Lp.Inv p A t/\Lp.Rel p.n t p.n/\∀ K,Lp.Reach (Lp.FeasP p.n) t K->K<=E)/\fr=[(1,[],.pointer (some ⟨b1,0,none⟩)),(2,[],.pointer (some ⟨v,0,none⟩))]/\w=[.obj v (.cells ⟨[.int .i64 o]⟩ 3 (0,0)),.obj b (.cells ⟨[.int .i64 p.n,e,h,k,ai (qtx t.worth.c),l]⟩ 212 (0,0)),.arr e 3 1 t.basic.length ((t.basic).map aQ).flatten,.arr h 209 2 t.basic.length ((cK t wF).map bE).flatten,.arr k 3 1 t.others.length ((t.others).map aQ).flatten,.arr l 56 1 t.others.length ((t.worth.f).map aZ).flatten]++(List.range t.basic.length).map (stE t wF 0 0 0)/\μ=E) (hn_ [1,2] Z) ⟨d,B,0,2 ^ (p.n+p.m),⟨q,a,fun K F=>Lp.feas_len q.tab.ok F⟩,Z,Z,Z⟩ (fun fr ao ap m _ q=>?_);obtain ⟨t,wF,o,E,⟨q,a,F⟩,rfl,rfl,rfl⟩:=q;have ok:=q.tab.ok;have aa:t.basic.length<=1000000:=by rw [q.tab.lb];exact Y
 have ab:t.others.length<=1000000:=by rw [q.tab.lo];exact hn
 have H:∀ i,i<t.basic.length->LineQ 16 (t.line i):=fun i y=>zV q S y;refine Sx [(5,3)] Z (fun R a=>?_);refine R5 (bkT x 1) U8 ?_;refine R9 2 Z ?_;refine Sd ae U9 ?_;refine R7 U6 ?_;refine D.call (E9 ok (Mem.get x mup) H) Z (.inr dc_) U6 (show List.Perm _ (((.obj v [.int .i64 o] 3::fB b p.n t e h k l wF).map Lent.ent)++[]) from List.Perm.of_eq (by rw [OX,O1,bu 0 0];rfl)) fl_ (fun aq _ ar _ ac=>?_);obtain ⟨⟨o1,rfl,T⟩,rfl⟩:=ac;refine Sf (j:=0) U12 ?_;refine Sa [1,2] a Z ?_;clear a R;refine Sp (L':=[.obj v (.cells ⟨[.int .i64 o1]⟩ 3 (0,0)),.obj b (.cells ⟨[.int .i64 p.n,e,h,k,ai (qtx t.worth.c),l]⟩ 212 (0,0)),.arr e 3 1 t.basic.length ((t.basic).map aQ).flatten,.arr h 209 2 t.basic.length ((cK t wF).map bE).flatten,.arr k 3 1 t.others.length ((t.others).map aQ).flatten,.arr l 56 1 t.others.length ((t.worth.f).map aZ).flatten]++(List.range t.basic.length).map (stE t wF 0 0 0)) (by rw [OX,O1,bu 0 0];rfl) ?_;refine R8 fun R a=>?_;refine Sd af U9 ?_;refine C4 1 [1,2,12] a Z ?_;clear a R;refine R6 (fun I=>?_) fun I=>?_
 ·have J:o1<0:=NM I;have L:=oS T J;refine R8 fun R a=>?_;refine Sf (j:=0) U12 ?_;refine C4 1 [2,3] a Z ?_;clear a R;refine Sh (Uc 0 Z Z Z Z Z Z ?_);exact ⟨t,wF,q,a,.yes (fun i y z=>by have:=L i y;grind),by rw [bu 0 0];rfl⟩
 have J:¬ o1<0:=Ox I;obtain ⟨r,rfl,hr,⟨M,U⟩,ad⟩:=gJ T J;refine Sx [(5,3)] Z (fun R a=>?_);refine R5 (bkT x 1) U8 ?_;refine R9 2 Z ?_;refine Sd ae U9 ?_;refine R7 U6 ?_;refine D.call (E8 ok (Mem.get x mup) hr (H r hr)) Z (.inr dc_) U6 (show List.Perm _ (((.obj v [.int .i64 (r:Nat)] 3::fB b p.n t e h k l wF).map Lent.ent)++[]) from List.Perm.of_eq (by rw [OX,O1,bu 0 0];rfl)) fl_ (fun au _ av _ ag=>?_);refine C4 1 [1,2,4] a Z ?_;clear a R;obtain ⟨⟨o2,rfl,V⟩,rfl⟩:=ag;refine Sp (L':=[.obj v (.cells ⟨[.int .i64 (r:Nat)]⟩ 3 (0,0)),.obj b (.cells ⟨[.int .i64 p.n,e,h,k,ai (qtx t.worth.c),l]⟩ 212 (0,0)),.arr e 3 1 t.basic.length ((t.basic).map aQ).flatten,.arr h 209 2 t.basic.length ((cK t wF).map bE).flatten,.arr k 3 1 t.others.length ((t.others).map aQ).flatten,.arr l 56 1 t.others.length ((t.worth.f).map aZ).flatten]++(List.range t.basic.length).map (stE t wF 0 0 0)) (by rw [OX,O1,bu 0 0];rfl) ?_;refine C6 2 [1,2,4,20] Z ?_;refine R6 (fun N=>?_) fun N=>?_
 ·have O:o2<0:=NM N;have L:=oS V O;refine R8 fun R a=>?_;refine Sd af U9 ?_;refine Sf (j:=0) U12 ?_;refine C4 1 [2,3] a Z ?_;clear a R;refine Sh (Uc 0 Z Z Z Z Z Z ?_);exact ⟨t,wF,q,a,.no r hr M U (fun s hs z=>by have:=L s hs;grind),by rw [bu 0 0];rfl⟩
 have O:¬ o2<0:=Ox N;obtain ⟨s,rfl,hs,⟨ah,aj⟩,ak⟩:=gJ V O;have hP:Lp.FeasP p.n t r s:=⟨hr,hs,M,ah,U,fun i y z hc=>ad i y ⟨z,hc⟩,aj,fun j hj z hg=>ak j hj ⟨z,hg⟩⟩;have W:(t.line r).g s≠0:=by grind
 obtain ⟨aw,al⟩:=Lp.Reach.fall hP F;refine Sx [(3,3)] Z (fun R a=>?_);refine R5 (bkT x 1) U8 ?_;refine Sd af U9 ?_;refine R7 U6 ?_;refine D.call (zD _ X.m_ b p.n r s (p.n+p.m) t e h k l wF ok aa ab hr hs W H (nE q S)) Z (.inr dc_) U6 (by rw [bu 0 0];exact (List.perm_append_singleton _ _).symm) fl_ (fun ax _ ay _ am=>?_);refine Sa [1,2] a Z ?_;clear a R;obtain ⟨-,Q,rfl⟩:=am;refine G.perm (L':=[.obj v (.cells ⟨[.int .i64 (r:Nat)]⟩ 3 (0,0)),.obj b (.cells ⟨[.int .i64 p.n,e,h,k,ai (qtx (t.pivot r s).worth.c),l]⟩ 212 (0,0)),.arr e 3 1 (t.pivot r s).basic.length (((t.pivot r s).basic).map aQ).flatten,.arr h 209 2 (t.pivot r s).basic.length ((cK (t.pivot r s) Q).map bE).flatten,.arr k 3 1 (t.pivot r s).others.length (((t.pivot r s).others).map aQ).flatten,.arr l 56 1 (t.pivot r s).others.length (((t.pivot r s).worth.f).map aZ).flatten]++(List.range (t.pivot r s).basic.length).map (stE (t.pivot r s) Q 0 0 0)) (by rw [bu 0 0];exact List.perm_append_singleton _ _) ?_;refine Sj (m':=m-1) om_ mup (hn_ [1,2] Z) ⟨t.pivot r s,Q,(r:Int),m-1,⟨q.pivot hr hs W,Lp.rel_pivot ok a hr hs M,al⟩,Z,Z,Z⟩
section
variable {C:Mem} {a b n N:Nat} {t:Lp.Tab} {wB wL wO wW:Value} {wF:Nat->Value}
theorem E7 (c:t.Ok N)(h:C a=some (.cells ⟨[.pointer (some ⟨b,0,none⟩)]⟩ 202 (0,0))) :
  Jog.Fn cx.P 180 [wO,.func (.func 183) #[] #[.pointer (some ⟨a,0,none⟩)]] C ((fB b n t wB wL wO wW wF).map Lent.ent)
   fun u _ d=>(∃ o:Int,u=.int .i64 o/\Lp.LeastR t.others (fun i=>¬ n<=t.oth i/\¬ t.worth.g i=0) t.others.length o)/\d=(fB b n t wB wL wO wW wF).map Lent.ent:=by
 refine Th kr_ _ (iA c) fun C' j hs=>?_;have e:=fU c hs;refine (nk C' wO t.others 183 [.pointer (some ⟨a,0,none⟩)] (fun i=>!decide (n<=t.oth i) && !decide (t.worth.g i=0)) e.O kr_ fun i k D f =>
  K9 D a b n i N t wB wL wO wW _ (e.mono f) c ((j.trans f) _ _ h) k).mono ?_
 rintro u D d _ ⟨h1,o,rfl,h2⟩;exact ⟨h1,o,Z,lC h2 fun i _=>by simp⟩
theorem E6 (c:t.Ok N)(h:C a=some (.cells ⟨[.pointer (some ⟨b,0,none⟩)]⟩ 202 (0,0)))(j:LineQ 16 t.worth) :
  Jog.Fn cx.P 180 [wO,.func (.func 184) #[] #[.pointer (some ⟨a,0,none⟩)]] C ((fB b n t wB wL wO wW wF).map Lent.ent)
   fun u _ d=>(∃ o:Int,u=.int .i64 o/\Lp.LeastR t.others (fun i=>n<=t.oth i/\t.worth.g i<0) t.others.length o)/\d=(fB b n t wB wL wO wW wF).map Lent.ent:=by
 refine Th kr_ _ (iA c) fun C' k hs=>?_;have e:=fU c hs;refine (nk C' wO t.others 184 [.pointer (some ⟨a,0,none⟩)] (fun i=>decide (n<=t.oth i) && decide (t.worth.g i<0)) e.O kr_ fun i l D f =>
  K8 D a b n i N t wB wL wO wW _ (e.mono f) c ((k.trans f) _ _ h) l (j.g0 dc_ dc_ i)).mono ?_
 rintro u D d _ ⟨h1,o,rfl,h2⟩;exact ⟨h1,o,Z,lC h2 fun i _=>by simp⟩
end
theorem yG (a:Lp.Inv p (fun _=>0) t)(b:s<t.others.length):t.worth.g s=0:=by
 have h:=Lp.dir_worth a.tab a.obj b;rw [<- h];exact Lp.sumN_zero fun j _=>by grind
theorem xv (C:Mem)(_J:Tabs C)(p:Lp.Sys)(b:Nat)(a:Lp.Tab)(d e g h:Value)(i:Nat->Value)(j:Lp.Inv p (fun _=>0) a)(x:Lp.Lim p (fun _=>0) 16)(_K:p.m<=1000000)(_L:p.n<=1000000) :
  Jog.Fn cx.P 118 [.pointer (some ⟨b,0,none⟩)] C ((fB b p.n a d e g h i).map Lent.ent) fun u _ l=>u=.tuple #[.int .i64 0,.bool true]/\l=(fB b p.n a d e g h i).map Lent.ent:=by
 have M:maxLen<=9223372036854775807:=by simp [maxLen]
 refine Sc func118 32 U3 fun w0=>R8 fun R o=>So U6 fun y=>C4 2 [1] o Z<|G.freeze 0 Z fun _ _ q=>Sp (L':=[.obj b (.cells ⟨[.int .i64 p.n,d,e,g,ai (qtx a.worth.c),h]⟩ 212 (0,0)),.arr d 3 1 a.basic.length ((a.basic).map aQ).flatten,.arr e 209 2 a.basic.length ((cK a i).map bE).flatten,.arr g 3 1 a.others.length ((a.others).map aQ).flatten,.arr h 56 1 a.others.length ((a.worth.f).map aZ).flatten]++(List.range a.basic.length).map (stE a i 0 0 0)) (by rw [bu 0 0];rfl)<|Sx [(5,3)] Z fun R o=>R5 (bkT q 1) U8<|R9 2 Z<|Sd af U9<|R7 U6<|D.call (E7 j.tab.ok (Mem.get q mup)) Z (.inr dc_) U6 (show List.Perm _ (((fB b p.n a d e g h i).map Lent.ent)++[]) from List.Perm.of_eq (by rw [OX,bu 0 0])) fl_ fun N _ O _ z=>C4 1 [1,2] o Z ?_;obtain ⟨⟨A,rfl,B⟩,rfl⟩:=z;refine Sp (L':=[.obj b (.cells ⟨[.int .i64 p.n,d,e,g,ai (qtx a.worth.c),h]⟩ 212 (0,0)),.arr d 3 1 a.basic.length ((a.basic).map aQ).flatten,.arr e 209 2 a.basic.length ((cK a i).map bE).flatten,.arr g 3 1 a.others.length ((a.others).map aQ).flatten,.arr h 56 1 a.others.length ((a.worth.f).map aZ).flatten]++(List.range a.basic.length).map (stE a i 0 0 0)) (by rw [OX,bu 0 0])<|C6 2 [1,2,12] Z<|R6 (fun v=>?_) fun v=>?_
 ·have r:¬ A<0:=by
   have:=NM v;omega
  obtain ⟨s,rfl,hs,⟨E,t⟩,_⟩:=gJ B r;exact absurd (yG j hs) t
 refine G.loop (fun fr C' l F=>∃ (k:Nat),(k=0)/\fr=[(1,[],.pointer (some ⟨y,0,none⟩))]/\l=[.obj b (.cells ⟨[.int .i64 p.n,d,e,g,ai (qtx a.worth.c),h]⟩ 212 (0,0)),.arr d 3 1 a.basic.length ((a.basic).map aQ).flatten,.arr e 209 2 a.basic.length ((cK a i).map bE).flatten,.arr g 3 1 a.others.length ((a.others).map aQ).flatten,.arr h 56 1 a.others.length ((a.worth.f).map aZ).flatten]++(List.range a.basic.length).map (stE a i 0 0 0)/\F=1) (hn_ [1] Z) ⟨0,Z,Z,Z,Z⟩ (fun fr Q S m _ j=>?_);obtain ⟨k,T,rfl,rfl,rfl⟩:=j;refine Sx [(5,3)] Z fun R o=>R5 (bkT q 1) U8<|R9 2 Z<|Sd af U9<|R7 U6<|D.call (E6 j.tab.ok (Mem.get q mup) (nE j x)) Z (.inr dc_) U6 (show List.Perm _ (((fB b p.n a d e g h i).map Lent.ent)++[]) from List.Perm.of_eq (by rw [OX,bu 0 0])) fl_ fun U _ V _ H=>C4 1 [1,2] o Z ?_;obtain ⟨⟨o1,rfl,I⟩,rfl⟩:=H;refine Sp (L':=[.obj b (.cells ⟨[.int .i64 p.n,d,e,g,ai (qtx a.worth.c),h]⟩ 212 (0,0)),.arr d 3 1 a.basic.length ((a.basic).map aQ).flatten,.arr e 209 2 a.basic.length ((cK a i).map bE).flatten,.arr g 3 1 a.others.length ((a.others).map aQ).flatten,.arr h 56 1 a.others.length ((a.worth.f).map aZ).flatten]++(List.range a.basic.length).map (stE a i 0 0 0)) (by rw [OX,bu 0 0])<|C6 2 [1,2,21] Z<|R6 (fun w=>?_) fun w=>?_
 ·refine C6 2 [2,3] Z<|Sh (Sy U3 ?_);exact ⟨Z,by rw [bu 0 0]⟩
 have r:¬ o1<0:=Ox w;obtain ⟨s,rfl,hs,⟨E,t⟩,W⟩:=gJ I r;exact absurd t (by rw [yG j hs];decide)
theorem Nn (C:Mem)(v:Value)(l:List Nat)(b:Sl C 1 v (l.map aQ))(t:l.length<=1000000):Jog.Fn cx.P 50 [v] C [] fun u _w e=>∃ A n c,u=.slice A n c/\e=[.arr (.slice A n c) 3 1 l.length (l.map aQ).flatten]:=by
 obtain ⟨f,c0,rfl,m,x,y,o⟩:=id b;have z:maxLen<=9223372036854775807:=by simp [maxLen]
 simp only [al] at b m ⊢;refine Sc func50 8 U3 fun w0=>C6 1 [0] Z<|R4 1 Z fun R d=>TF U9<|Sa [0,4] d Z<|R6 (fun h4=>?_) fun h4=>?_
 ·have p:f=none:=by
   cases f with
   | none=>rfl
   | some a=>cases h4
  have s:l=[]:=by
   cases l with
   | nil=>rfl
   | cons q r =>
    obtain ⟨a,g,_⟩:=o 0 (aQ q) rfl;rw [p] at g;cases g
  refine C6 1 [2] Z<|G.nilArr 3 1<|Sh (SP Z Z ?_);exact ⟨none,0,0,Z,by rw [s];rfl⟩
 refine R8 fun R d=>Te [] U12 fl_ fun B=>R7 U6<|SB (j:=0) U11 b.m_ (by simp [aQ,oF]) (by simp only [al,O4,maxLen];omega) (by simp only [al,O4];omega) fl_ fun h i k=>C4 1 [2] d Z<|Sp (L':=[.arr (.slice h i k) 3 1 l.length (l.map aQ).flatten]) am<|Sh (SP Z Z ?_);exact ⟨h,i,k,Z,Z⟩
theorem KC (C:Mem)(b s:Nat)(q:Rat)(w:Value)(l:List Rat)(c:Sl C 1 w (l.map aZ))(d:C b=some (.cells ⟨[.int .i64 s]⟩ 3 (0,0)))(e:s<l.length) :
  Gives cx.P 176 [.agg ⟨[ai (qtx q),w]⟩,.pointer (some ⟨b,0,none⟩)] C (.bool (!decide (l.getD s 0=0))):=by
 obtain ⟨h,i,rfl,j,k,_⟩:=id c;have m:maxLen<=9223372036854775807:=by simp [maxLen]
 refine Sc func176 10 U3 fun w0=>R8 fun R a=>So U6 fun n=>C4 1 [1,2] a Z<|G.freeze 0 Z fun _ _ f=>R4 1 Z fun R a=>R5 (bkT f 1) U8<|R5 (bkT d 1) U8<|Sm c.m_ U10 om_ (eO e) fl_ fun o g=>R5 g U8<|C4 2 [3] a Z<|Sb U2<|⟨?_,Z⟩;show Value.bool _=Value.bool _;congr 1;show (!((⟨(qtx (l.getD s 0)).toArray⟩:ByteArray).data.toList == (⟨#[48]⟩:ByteArray).data.toList))=_;rw [fG]
theorem KB (C:Mem)(b s:Nat)(q:Rat)(w:Value)(l:List Rat)(c:Sl C 1 w (l.map aZ))(d:C b=some (.cells ⟨[.int .i64 s]⟩ 3 (0,0)))(e:s<l.length) :
  Gives cx.P 178 [.agg ⟨[ai (qtx q),w]⟩,.pointer (some ⟨b,0,none⟩)] C (.bool (!decide (l.getD s 0=0))):=by
 obtain ⟨h,i,rfl,j,k,_⟩:=id c;have m:maxLen<=9223372036854775807:=by simp [maxLen]
 refine Sc func178 10 U3 fun w0=>R8 fun R a=>So U6 fun n=>C4 1 [1,2] a Z<|G.freeze 0 Z fun _ _ f=>R4 1 Z fun R a=>R5 (bkT f 1) U8<|R5 (bkT d 1) U8<|Sm c.m_ U10 om_ (eO e) fl_ fun o g=>R5 g U8<|C4 2 [3] a Z<|Sb U2<|⟨?_,Z⟩;show Value.bool _=Value.bool _;congr 1;show (!((⟨(qtx (l.getD s 0)).toArray⟩:ByteArray).data.toList == (⟨#[48]⟩:ByteArray).data.toList))=_;rw [fG]
inductive FirstR (q:Nat->Prop) (n:Nat):Int->Prop where
 | none:(∀ i,i<n->¬ q i)->FirstR q n (-1)
 | some (r:Nat):r<n->q r->(∀ i,i<r->¬ q i)->FirstR q n r
theorem E2 (C:Mem)(v:Value)(a:List (Rat × Value))(g:Nat)(c:List Value)(q:Nat->Prop)[DecidablePred q](d:Sl C 2 v (a.map bE))(_E:Jog.Enters cx.P g=true)
  (p:∀ i x,a[i]?=some x->∀ D:Mem,C.le D->Gives cx.P g (.agg ⟨bE x⟩::c) D (.bool (decide (q i)))) :
  Pur cx.P 175 [v,.func (.func g) #[] ⟨c⟩] C fun u _=>∃ o:Int,u=.int .i64 o/\FirstR q a.length o:=by
 obtain ⟨r,c0,rfl,s,F,_⟩:=id d;have H:maxLen<=9223372036854775807:=by simp [maxLen]
 simp only [al] at d s ⊢;refine Sc func175 19 U3 fun w0=>C6 1 [0,1] Z<|C6 3 [0,1,7,8] Z<|G.loop (fun fr C' t w=>∃ (i:Nat),(i<=a.length/\∀ j,j<i->¬ q j)/\fr=[(0,[],.slice r a.length c0),(1,[],.func (.func g) #[] ⟨c⟩),(7,[],.int .i64 a.length),(8,[],.int .i64 i)]/\t=[]/\w=a.length-i) (hn_ [0,1,7,8] Z) ⟨0,⟨Ow _,fun j e=>absurd e (Nat.not_lt_zero _)⟩,Z,Z,Z⟩ (fun fr I J m _ y=>?_);obtain ⟨i,⟨K,f⟩,rfl,rfl,rfl⟩:=y;refine C6 1 [0,1,7,8,9] Z<|R6 (fun h=>?_) fun h=>?_
 ·have b:i<a.length:=by simpa using h
  obtain ⟨x,n⟩:∃ x,a[i]?=some x:=⟨a[i],ak b⟩;refine C6 2 [0,1,5,7,8] Z<|R4 3 Z fun R k=>Sm d.m_ U10 om_ (show (a.map bE)[i]?=some [ai (qtx x.1),x.2] from fM n) fl_ fun L z=>R5 z U8<|Sg (p i x n _ mup) U7<|Sa [0,1,5,7,8,16] k Z<|R6 (fun l=>?_) fun l=>?_
  ·have A:q i:=NM l;exact C6 2 [4] Z<|Sb U2<|⟨Z,(i:Int),Z,.some i b A f⟩
  have B:¬ q i:=Ox l;refine R8 fun R k=>Se _ U7<|C4 1 [0,1,7,8] k Z<|Sj (m':=a.length-(i+1)) om_ mup (hn_ [0,1,7,8] Z) ⟨i+1,⟨by omega,fun j e=>by
   rcases Nat.lt_or_eq_of_le (Nat.le_of_lt_succ e) with h1 | h1
   ·exact f j h1
   rw [h1];exact B⟩,rfl,rfl,rfl⟩
 have b:i=a.length:=by
  have:¬ i<a.length:=by simpa using h
  omega
 exact C6 1 [4] Z<|Sb U2<|⟨Z, -1,Z,.none (by rw [<- b];exact f)⟩
theorem DP (C:Mem)(b n v:Nat)(a:List Value)(c:C b=some (.cells ⟨.int .i64 n::a⟩ 212 (0,0))) :
  Gives cx.P 177 [.pointer (some ⟨b,0,none⟩),.int .i64 v] C (.bool (decide (n<=v))):=by
 refine Sc func177 11 U3 fun w0=>C6 1 [0,1] Z<|R4 4 Z fun R d=>R5 (bkT c 1) U8<|C4 2 [4] d Z<|Sb U2<|⟨?_,Z⟩;congr 1;rw [Pp];omega
theorem nW (C:Mem)(b n v:Nat)(a:List Value):Jog.Fn cx.P 177 [.pointer (some ⟨b,0,none⟩),.int .i64 v] C [.obj b (.cells ⟨.int .i64 n::a⟩ 212 (0,0))]
   fun u _ d=>u=.bool (decide (n<=v))/\d=[.obj b (.cells ⟨.int .i64 n::a⟩ 212 (0,0))]:=by
 have h:=Th (P:=cx.P) (f:=177) (args:=[.pointer (some ⟨b,0,none⟩),.int .i64 v]) (C:=C) (q:=fun u=>u=.bool (decide (n<=v))) kr_ [.obj b (.int .i64 n::a) 212] (fun x c=>by
  rcases OE.1 c with rfl | c
  ·trivial
  cases c) fun C' e hs=>(DP C' b n v a (hs _ (aJ ..))).mono fun u _ g _ ⟨h1,h2⟩=>⟨h2,h1⟩
 exact h
theorem nO (h:∀ x∈fB b n t wB wL wO wW wF,x.seen C):Sl C 1 wO (t.others.map aQ)/\Sl C 2 wL ((cK t wF).map bE)/\∀ i,i<t.basic.length->Sl C 1 (wF i) ((t.line i).f.map aZ) :=
 ⟨h _ (OA _ (OA _ (OA _ (aJ ..)))),h _ (OA _ (OA _ (aJ ..))),fun i a =>
  h (Ju t wF i) (OA _ (OA _ (OA _ (OA _ (OA _ (OB.2 ⟨i,ON.2 a,rfl⟩))))))⟩
section
variable {C:Mem} {a2 b n N s:Nat} {t:Lp.Tab} {wB wO wW:Value} {wF:Nat->Value}
theorem Nm {d:Value}(g:t.Ok N)(i:t.others.length<=1000000):Jog.Fn cx.P 50 [wO] C ((fB b n t wB d wO wW wF).map Lent.ent)
   fun u _ a=>∃ A n2 c,u=.slice A n2 c/\a=.arr (.slice A n2 c) 3 1 t.others.length (t.others.map aQ).flatten::(fB b n t wB d wO wW wF).map Lent.ent:=by
 have h:=Tx (P:=cx.P) (f:=50) (args:=[wO]) (L:=[]) (C:=C) (post:=fun u a=>∃ A n2 c,u=.slice A n2 c/\a=[.arr (.slice A n2 c) 3 1 t.others.length (t.others.map aQ).flatten]) kr_ (fB b n t wB d wO wW wF) (iA g) fun C' l hs=>Nn C' wO t.others (nO hs).1 i;rw [OX] at h;refine ⟨h.1,fun w hw=>(h.2 w hw).mono ?_⟩;rintro e w' ⟨v,C',a,j,k,m,rfl,A,n2,c,rfl,rfl⟩;exact ⟨_,C',_,j,St.perm k (List.perm_append_singleton _ _),A,n2,c,Z,Z⟩
theorem Lh {a:Value}(h:t.Ok N)(l:C a2=some (.cells ⟨[.int .i64 s]⟩ 3 (0,0)))(m:s<t.others.length) :
  Jog.Fn cx.P 175 [a,.func (.func 176) #[] #[.pointer (some ⟨a2,0,none⟩)]] C ((fB b n t wB a wO wW wF).map Lent.ent)
   fun u _ j=>(∃ o:Int,u=.int .i64 o/\FirstR (fun i=>¬ (t.line i).g s=0) t.basic.length o)/\j=(fB b n t wB a wO wW wF).map Lent.ent:=by
 refine Th kr_ _ (iA h) fun C' p q=>?_;obtain ⟨_,r,v⟩:=nO q;refine (E2 C' a (cK t wF) 176 [.pointer (some ⟨a2,0,none⟩)] (fun i=>¬ (t.line i).g s=0) r kr_ fun i x d D k=>?_).mono ?_
 ·have e:i<t.basic.length:=by rw [<- fe (wF:=wF)];exact (aF.1 d).1
  rw [mY e] at d;cases d
  rw [decide_not];exact KC D a2 s (t.line i).c (wF i) (t.line i).f ((v i e).mono k) ((p.trans k) _ _ l) (by rw [jn h e];exact m)
 rintro u D j _ ⟨h1,o,rfl,h2⟩;rw [fe] at h2;exact ⟨h1,o,Z,h2⟩
theorem Lg {A:Option Addr}{c r M:Nat}(v:t.basic.length=M)(j:t.Ok N)(w:C a2=some (.cells ⟨[.int .i64 s]⟩ 3 (0,0)))(y:s<t.others.length)(I:r<t.basic.length)(z:M<=c) :
  Jog.Fn cx.P 175 [.slice (if c=r+1 then A else A.map (·.add ((r+1)*2))) (M-(r+1)) (c-(r+1)),.func (.func 178) #[] #[.pointer (some ⟨a2,0,none⟩)]] C ((fB b n t wB (.slice A M c) wO wW wF).map Lent.ent)
   fun u _ k=>(∃ o:Int,u=.int .i64 o/\FirstR (fun i=>¬ (t.line (r+1+i)).g s=0) (t.basic.length-(r+1)) o)/\k=(fB b n t wB (.slice A M c) wO wW wF).map Lent.ent:=by
 subst v;refine Th kr_ _ (iA j) fun C' B E=>?_;obtain ⟨_,F,G⟩:=nO E;have p:=Sl.sub (l:=r+1) (h:=t.basic.length) (m:=c) F om_ (by rw [al,fe];exact Oo _) z (Oo _);have e:((cK t wF).map bE).take t.basic.length=(cK t wF).map bE:=Pa (by rw [al,fe];exact Oo _);rw [e,<- List.map_drop] at p;have H:((cK t wF).drop (r+1)).length=t.basic.length-(r+1):=by rw [Qv,fe]
 refine (E2 C' _ ((cK t wF).drop (r+1)) 178 [.pointer (some ⟨a2,0,none⟩)] (fun i=>¬ (t.line (r+1+i)).g s=0) p kr_ fun i x a D q=>?_).mono ?_
 ·have d:r+1+i<t.basic.length:=by have:=(aF.1 a).1;omega
  rw [List.getElem?_drop,mY d] at a;cases a
  rw [decide_not];exact KB D a2 s (t.line (r+1+i)).c (wF (r+1+i)) (t.line (r+1+i)).f ((G _ d).mono q) ((B.trans q) _ _ w) (by rw [jn j d];exact y)
 rintro u D k _ ⟨h1,o,rfl,h2⟩;rw [H] at h2;exact ⟨h1,o,Z,h2⟩
end
def Om (p:Lp.Sys)(t:Lp.Tab)(s:Nat)(o:Int):Prop:=(o=-1/\∀ i,i<t.basic.length->p.n<=t.bas i->(t.line i).g s=0)∨∃ r:Nat,o=r/\r<t.basic.length/\¬ (t.line r).g s=0/\∀ i,i<r->p.n<=t.bas i->(t.line i).g s=0
theorem xJ (h:FirstR q n o)(a:o<0):∀ i,i<n->¬ q i:=by
 cases h with
 | none h=>exact h
 | some r _ _ _=>omega
theorem xI (h:FirstR q n o)(a:¬ o<0):∃ r:Nat,o=r/\r<n/\q r/\∀ i,i<r->¬ q i:=by
 cases h with
 | none h=>exact absurd dc_ a
 | some r h1 h2 h3=>exact ⟨r,rfl,h1,h2,h3⟩
theorem Bn (h:FirstR (fun i=>¬ (t.line i).g s=0) t.basic.length o):Om p t s o:=by
 cases h with
 | none h=>exact .inl ⟨rfl,fun i a _=>Decidable.not_not.1 (h i a)⟩
 | some r h1 h2 h3=>exact .inr ⟨r,rfl,h1,h2,fun i a _=>Decidable.not_not.1 (h3 i a)⟩
theorem BB (C:Mem)(hT:Tabs C)(p:Lp.Sys)(L:Nat->Rat)(b:Nat)(a:Lp.Tab)(M N e l:Value)(B:Nat->Value)(q:Lp.Inv p L a)(ho:a.others=List.range p.n)(hl:Lp.Lim p L 16)(hm:p.m<=1000000)(hn:p.n<=1000000) :
  Jog.Fn cx.P 115 [.pointer (some ⟨b,0,none⟩)] C ((fB b p.n a M N e l B).map Lent.ent) fun u _ A=>u=.tuple #[]/\∃ t wF,Lp.Inv p L t/\Lp.Rel p.n t p.n/\A=(fB b p.n t M N e l wF).map Lent.ent:=by
 have aL:maxLen<=9223372036854775807:=by simp [maxLen]
 have ar:a.others.length=p.n:=q.tab.lo;refine Sc func115 65 U3 fun w0=>?_;refine Sp (L':=[.obj b (.cells ⟨[.int .i64 p.n,M,N,e,ai (qtx a.worth.c),l]⟩ 212 (0,0)),.arr M 3 1 a.basic.length ((a.basic).map aQ).flatten,.arr N 209 2 a.basic.length ((cK a B).map bE).flatten,.arr e 3 1 a.others.length ((a.others).map aQ).flatten,.arr l 56 1 a.others.length ((a.worth.f).map aZ).flatten]++(List.range a.basic.length).map (stE a B 0 0 0)) (by rw [bu 0 0]) ?_;refine Ub 1 Z (fun w y hw Q au _=>?_);rw [q.tab.lb] at hw Q au;subst hw;refine Ub 2 Z (fun z x hw _ S _=>?_);rw [q.tab.lb] at hw S;subst hw;refine Sp (L':=[.obj b (.cells ⟨[.int .i64 p.n,(.slice w p.m y),(.slice z p.m x),e,ai (qtx a.worth.c),l]⟩ 212 (0,0)),.arr (.slice w p.m y) 3 1 a.basic.length ((a.basic).map aQ).flatten,.arr (.slice z p.m x) 209 2 a.basic.length ((cK a B).map bE).flatten,.arr e 3 1 a.others.length ((a.others).map aQ).flatten,.arr l 56 1 a.others.length ((a.worth.f).map aZ).flatten]++(List.range a.basic.length).map (stE a B 0 0 0)) Z ?_;refine Sx [(4,3)] Z (fun R d=>?_);refine R9 3 Z ?_;refine Sd af U9 ?_;refine D.call (Nm q.tab.ok om_) Z (.inr dc_) U6 (show List.Perm _ (((fB b p.n a (.slice w p.m y) (.slice z p.m x) e l B).map Lent.ent)++[]) from List.Perm.of_eq (by rw [OX,bu 0 0] <;> rfl)) fl_ (fun aM av aN _ aw=>?_);obtain ⟨Ac,n2,c2,rfl,rfl⟩:=aw;refine C4 2 [0,10,11,12] d Z ?_;clear d R;refine G.freezeArr 0 (a.others.map aQ) Z Z tA am (fun av _ an=>?_);have ax:n2=p.n:=by
  obtain ⟨A9,c9,ay,_⟩:=id an;injection ay with e1 e2 e3;rw [e2,al,ar]
 subst ax;refine Sp (L':=[.obj b (.cells ⟨[.int .i64 p.n,(.slice w p.m y),(.slice z p.m x),e,ai (qtx a.worth.c),l]⟩ 212 (0,0)),.arr (.slice w p.m y) 3 1 a.basic.length ((a.basic).map aQ).flatten,.arr (.slice z p.m x) 209 2 a.basic.length ((cK a B).map bE).flatten,.arr e 3 1 a.others.length ((a.others).map aQ).flatten,.arr l 56 1 a.others.length ((a.worth.f).map aZ).flatten]++(List.range a.basic.length).map (stE a B 0 0 0)) (by rw [bu 0 0,OX];rfl) ?_;refine G.loop (fun fr C' A T=>∃ (k:Nat)(t:Lp.Tab)(wF:Nat->Value),(k<=p.n/\Lp.Inv p L t/\Lp.Rel p.n t k)/\fr=[(0,[],.pointer (some ⟨b,0,none⟩)),(10,[],.slice Ac p.n c2),(11,[],.int .i64 p.n),(12,[],.int .i64 k)]/\A=[.obj b (.cells ⟨[.int .i64 p.n,(.slice w p.m y),(.slice z p.m x),e,ai (qtx t.worth.c),l]⟩ 212 (0,0)),.arr (.slice w p.m y) 3 1 t.basic.length ((t.basic).map aQ).flatten,.arr (.slice z p.m x) 209 2 t.basic.length ((cK t wF).map bE).flatten,.arr e 3 1 t.others.length ((t.others).map aQ).flatten,.arr l 56 1 t.others.length ((t.worth.f).map aZ).flatten]++(List.range t.basic.length).map (stE t wF 0 0 0)/\T=p.n-k) (hn_ [0,10,11,12] Z) ⟨0,a,B,⟨Ow _,q,fun s hs=>absurd hs (Nat.not_lt_zero _)⟩,Z,Z,Z⟩ (fun fr aO aP m _ q=>?_);obtain ⟨k,t,wF,⟨hk,q,d⟩,rfl,rfl,rfl⟩:=q;refine C6 1 [0,10,11,12,13] Z ?_;refine R6 (fun U=>?_) fun U=>?_
 ·have ao:k<p.n:=by
   have:=NM U;omega
  have ok:=q.tab.ok;have az:=q.tab.lb;have aA:t.basic.length<=1000000:=by rw [q.tab.lb];exact hm
  have aB:t.others.length<=1000000:=by rw [q.tab.lo];exact hn
  have hq:∀ i,i<t.basic.length->LineQ 16 (t.line i):=fun i V=>zV q hl V;have J:k<t.others.length:=by rw [q.tab.lo];exact ao
  refine R4 1 Z fun R d=>?_;refine Sm an.m_ U10 om_ (show (a.others.map aQ)[k]?=some (aQ k) from sS (by rw [ho,O5 ao])) fl_ (fun aR aC=>?_);refine R5 aC U8 ?_;refine Sq U5 (fun b2=>?_);refine Sf (j:=0) U12 ?_;refine C4 1 [0,2,3,10,11,12] d Z ?_;clear d R;refine G.freeze 0 Z (fun _ _ W=>?_);refine Sx [(5,3)] Z (fun R d=>?_);refine R9 3 Z ?_;refine Sd af U9 ?_;refine R7 U6 ?_;refine D.call (Lh ok (Mem.get W mup) J) Z (.inr dc_) U6 (show List.Perm _ (((fB b p.n t (.slice w p.m y) (.slice z p.m x) e l wF).map Lent.ent)++[]) from List.Perm.of_eq (by rw [OX,bu 0 0] <;> rfl)) fl_ (fun aS _ aT _ aD=>?_);refine C4 1 [0,2,3,4,10,11,12] d Z ?_;clear d R;obtain ⟨⟨o0,rfl,aE⟩,rfl⟩:=aD;refine Sp (L':=[.obj b (.cells ⟨[.int .i64 p.n,(.slice w p.m y),(.slice z p.m x),e,ai (qtx t.worth.c),l]⟩ 212 (0,0)),.arr (.slice w p.m y) 3 1 t.basic.length ((t.basic).map aQ).flatten,.arr (.slice z p.m x) 209 2 t.basic.length ((cK t wF).map bE).flatten,.arr e 3 1 t.others.length ((t.others).map aQ).flatten,.arr l 56 1 t.others.length ((t.worth.f).map aZ).flatten]++(List.range t.basic.length).map (stE t wF 0 0 0)) (by rw [OX,bu 0 0]) ?_;refine G.loop (fun fr C' A T=>∃ (o:Int),(Om p t k o)/\fr=[(0,[],.pointer (some ⟨b,0,none⟩)),(2,[],.pointer (some ⟨b2,0,none⟩)),(3,[],.int .i64 k),(4,[],.int .i64 o),(10,[],.slice Ac p.n c2),(11,[],.int .i64 p.n),(12,[],.int .i64 k)]/\A=[.obj b (.cells ⟨[.int .i64 p.n,(.slice w p.m y),(.slice z p.m x),e,ai (qtx t.worth.c),l]⟩ 212 (0,0)),.arr (.slice w p.m y) 3 1 t.basic.length ((t.basic).map aQ).flatten,.arr (.slice z p.m x) 209 2 t.basic.length ((cK t wF).map bE).flatten,.arr e 3 1 t.others.length ((t.others).map aQ).flatten,.arr l 56 1 t.others.length ((t.worth.f).map aZ).flatten]++(List.range t.basic.length).map (stE t wF 0 0 0)/\T=t.basic.length-o.toNat) (hn_ [0,2,3,4,10,11,12] Z) ⟨o0,Bn aE,Z,Z,Z⟩ (fun fr aU aW m _ q=>?_);obtain ⟨o,hS,rfl,rfl,rfl⟩:=q;refine R4 7 Z fun R d=>?_;refine Sd af U9 ?_;refine R7 U6 ?_;refine Uu (w.getD ⟨0,0,none⟩).block (o.toNat*1) Z Z Z Z Z Z Z Z Z Z (fun X=>by
   have h:decide (o ≥ 0)=true:=X.1;have h2:=NM h;obtain ⟨r,K,E,_⟩:=hS.resolve_left om_;exact ⟨Q om_,by omega,by omega,Z⟩) Z Z ?_
  refine Up (v:=.int .i64 (t.bas o.toNat)) ae Z Z Z Z Z Z (fun X=>by
   have h:decide (o ≥ 0)=true:=X.1;have h2:=NM h;obtain ⟨r,K,E,_⟩:=hS.resolve_left om_;refine ⟨Q om_, ?_⟩;rw [ec eS (show t.basic[o.toNat]?=some (t.bas o.toNat) from xu om_)];rfl) rfl rfl ?_
  refine TD af (fun _=>nW _ b p.n (t.bas o.toNat) _) U9 ?_;refine R7 U6 ?_;refine Sv U8 ?_;refine Sa [0,2,3,4,10,11,12,36] d Z ?_;clear d R;refine R6 (fun Y=>?_) fun Y=>?_
  ·have O:o ≥ 0/\¬ p.n<=t.bas o.toNat:=by simpa using Y
   obtain ⟨aX,aa⟩:=O;obtain ⟨r,K,E,ab,ac⟩:=hS.resolve_left om_;subst K;rw [Qk] at aa;refine Sx [(8,3)] Z (fun R d=>?_);refine R9 3 Z ?_;refine Sd af U9 ?_;refine R7 U6 ?_;refine Se _ U7 ?_;refine SX (r+1) p.m x U12 (fun _=>⟨.inr ⟨_,Z⟩,.inl ⟨Z,Z⟩,.inl ⟨Z,Z⟩,by omega,S,Oo _⟩) U2 ?_;refine R7 U6 ?_;refine D.call (Lg az ok (Mem.get W mup) J E S) Z (.inr dc_) U6 (show List.Perm _ (((fB b p.n t (.slice w p.m y) (.slice z p.m x) e l wF).map Lent.ent)++[]) from List.Perm.of_eq (by rw [OX,bu 0 0] <;> rfl)) fl_ (fun aY _ a0 _ aF=>?_);refine C4 1 [0,2,3,4,5,10,11,12] d Z ?_;clear d R;obtain ⟨⟨o2,rfl,ap⟩,rfl⟩:=aF;refine Sp (L':=[.obj b (.cells ⟨[.int .i64 p.n,(.slice w p.m y),(.slice z p.m x),e,ai (qtx t.worth.c),l]⟩ 212 (0,0)),.arr (.slice w p.m y) 3 1 t.basic.length ((t.basic).map aQ).flatten,.arr (.slice z p.m x) 209 2 t.basic.length ((cK t wF).map bE).flatten,.arr e 3 1 t.others.length ((t.others).map aQ).flatten,.arr l 56 1 t.others.length ((t.worth.f).map aZ).flatten]++(List.range t.basic.length).map (stE t wF 0 0 0)) (by rw [OX,bu 0 0]) ?_;refine C6 2 [0,2,3,4,5,10,11,12,47] Z ?_;refine R6 (fun ad=>?_) fun ad=>?_
   ·have ag:o2<0:=NM ad;have hz:∀ i,i<t.basic.length->p.n<=t.bas i->(t.line i).g k=0:=fun i V F=>by
     rcases Nat.lt_trichotomy i r with h1 | h1 | h1
     ·exact ac i h1 F
     ·rw [h1] at F;exact absurd F aa
     have:=xJ ap ag (i-(r+1)) om_;rw [show r+1+(i-(r+1))=i by omega] at this;exact Decidable.not_not.1 this
    refine C6 1 [0,2,3,4,10,11,12] Z ?_;refine R4 5 Z fun R d=>?_;refine TD af (fun _=>nW _ b p.n k _) U9 ?_;refine R7 U6 ?_;refine Sv U8 ?_;refine Sa [0,2,4,10,11,12,59] d Z ?_;clear d R;refine R6 (fun aq=>?_) fun aq=>?_
    ·exact absurd aq am
    refine R8 fun R d=>?_;refine Se _ U7 ?_;refine C4 1 [0,10,11,12] d Z ?_;clear d R;refine Sj (m':=p.n-(k+1)) om_ mup (hn_ [0,10,11,12] Z) ⟨k+1,t,wF,⟨by omega,q,Lp.rel_none d hz⟩,Z,Z,Z⟩
   have ag:¬ o2<0:=Ox ad;obtain ⟨H,rfl,a1,aG,aH⟩:=xI ap ag;have aI:Om p t k ((r+(1+H):Nat):Int):=.inr ⟨r+(1+H),rfl,by omega,by rw [show r+(1+H)=r+1+H by omega];exact aG,fun i V F=>by
    rcases Nat.lt_trichotomy i r with h1 | h1 | h1
    ·exact ac i h1 F
    ·rw [h1] at F;exact absurd F aa
    have:=aH (i-(r+1)) om_;rw [show r+1+(i-(r+1))=i by omega] at this;exact Decidable.not_not.1 this⟩
   refine R4 2 Z fun R d=>?_;refine Se _ U7 ?_;refine Se _ U7 ?_;refine C4 1 [0,2,3,4,10,11,12] d Z ?_;clear d R;refine Sj (m':=t.basic.length-((r+(1+H):Nat):Int).toNat) om_ mup (hn_ [0,2,3,4,10,11,12] Z) ⟨((r+(1+H):Nat):Int),aI,Z,Z,Z⟩
  have O:¬ (o ≥ 0/\¬ p.n<=t.bas o.toNat):=by simpa using Y
  refine R4 5 Z fun R d=>?_;refine TD af (fun _=>nW _ b p.n k _) U9 ?_;refine R7 U6 ?_;refine Sv U8 ?_;refine Sa [0,2,4,10,11,12,59] d Z ?_;clear d R;refine R6 (fun ah=>?_) fun ah=>?_
  ·have I:0<=o:=by
    have I:(decide (0<=o) && !decide (p.n<=k))=true:=ah;simp only [OC,Oz] at I;exact I.1
   obtain ⟨r,K,E,ab,ac⟩:=hS.resolve_left om_;subst K;rw [Qk] at O;have aJ:p.n<=t.bas r:=by
    apply Decidable.byContradiction;intro h;exact O ⟨by omega,h⟩
   refine Sx [(3,3)] Z (fun R d=>?_);refine R9 2 Z ?_;refine R5 (bkT W 1) U8 ?_;refine D.call (zD _ hT.m_ b p.n r k (p.n+p.m) t (.slice w p.m y) (.slice z p.m x) e l wF ok aA aB E J ab hq (nE q hl)) Z (.inr dc_) U6 (show List.Perm _ (((fB b p.n t (.slice w p.m y) (.slice z p.m x) e l wF).map Lent.ent)++[]) from List.Perm.of_eq (by rw [OX,bu 0 0] <;> rfl)) fl_ (fun a2 _ a3 _ aK=>?_);refine Sa [0,10,11,12] d Z ?_;clear d R;refine R8 fun R d=>?_;refine Se _ U7 ?_;refine C4 1 [0,10,11,12] d Z ?_;clear d R;obtain ⟨-,aj,rfl⟩:=aK;refine Sp (L':=[.obj b (.cells ⟨[.int .i64 p.n,(.slice w p.m y),(.slice z p.m x),e,ai (qtx (t.pivot r k).worth.c),l]⟩ 212 (0,0)),.arr (.slice w p.m y) 3 1 (t.pivot r k).basic.length (((t.pivot r k).basic).map aQ).flatten,.arr (.slice z p.m x) 209 2 (t.pivot r k).basic.length ((cK (t.pivot r k) aj).map bE).flatten,.arr e 3 1 (t.pivot r k).others.length (((t.pivot r k).others).map aQ).flatten,.arr l 56 1 (t.pivot r k).others.length (((t.pivot r k).worth.f).map aZ).flatten]++(List.range (t.pivot r k).basic.length).map (stE (t.pivot r k) aj 0 0 0)) (by rw [OX,bu 0 0]) ?_;refine Sj (m':=p.n-(k+1)) om_ mup (hn_ [0,10,11,12] Z) ⟨k+1,t.pivot r k,aj,⟨by omega,q.pivot E J ab,Lp.rel_next ok d E J aJ⟩,Z,Z,Z⟩
  have I:¬ 0<=o:=by
   have I:(decide (0<=o) && !decide (p.n<=k))=false:=ah;have ak:¬ p.n<=k:=by omega
   simpa [ak] using I
  have hz:∀ i,i<t.basic.length->p.n<=t.bas i->(t.line i).g k=0:=by
   rcases hS with ⟨_,h2⟩ | ⟨r,h1,_⟩
   ·exact h2
   omega
  refine R8 fun R d=>?_;refine Se _ U7 ?_;refine C4 1 [0,10,11,12] d Z ?_;clear d R;refine Sj (m':=p.n-(k+1)) om_ mup (hn_ [0,10,11,12] Z) ⟨k+1,t,wF,⟨by omega,q,Lp.rel_none d hz⟩,Z,Z,Z⟩
 have ak:k=p.n:=by
  have:=Ox U;omega
 refine Td Z ?_;exact ⟨Z,t,wF,q,by rw [ak] at d;exact d,by rw [bu 0 0]⟩
end Go.Proofs.YthnpijdjlddpmaaGreatDoor
