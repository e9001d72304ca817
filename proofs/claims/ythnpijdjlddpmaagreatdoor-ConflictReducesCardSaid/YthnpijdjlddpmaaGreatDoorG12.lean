/- Laws that the proofs of this seat share, part 12. -/
import Derived.Test.YthnpijdjlddpmaaGreatDoorG11
import Derived.Test.YthnpijdjlddpmaaGreatDoorShelf
set_option maxHeartbeats 4000000
namespace Go.Proofs.YthnpijdjlddpmaaGreatDoor
open Go.Proofs.Tryz
open Go Go.Jog
set_option maxRecDepth 100000
variable {C:Mem}{F N b:Nat}{cc:Nat->Rat}{i j:Nat}{k:Rat}{l:Lp.Line}{m n:Nat}{o:Int}{p:Lp.Sys}{q:Nat->Prop}{r s:Nat}{t:Lp.Tab}{v:Nat}{vs:List Nat}{wB:Value}{wF:Nat->Value}{wL wO wW wy:Value}
theorem um {l:List Nat}{x:Nat}(h:l[i]?=some x):(l.map aM)[i]?=some (aM x):=by rw [QU,h];rfl
theorem wS {l:List Nat}(h:Lp.LeastR l q n o):o=-1∨∃ i:Nat,o=i/\i<n:=by
 cases h with
 | none _=>exact .inl rfl
 | some i a _ _=>exact .inr ⟨i,rfl,a⟩
theorem oa (C:Mem)(v:Value)(l:List Nat)(g:Nat)(f:List Value)(q:Nat->Bool)(d:Sl C 1 v (l.map aM))(_O:Jog.Enters cx.P g=true)
  (E:∀ i,i<l.length->∀ D:Mem,C.le D->Gives cx.P g (.int .i64 i::f) D (.bool (q i))) :
  Pur cx.P 180 [v,.func (.func g) #[] ⟨f⟩] C fun u _=>∃ o:Int,u=.int .i64 o/\Lp.LeastR l (fun i=>q i=true) l.length o:=by
 obtain ⟨s,c0,rfl,F,Q,_⟩:=id d;have S:maxLen<=9223372036854775807:=by simp [maxLen]
 simp only [al] at d F ⊢;refine UD func180 33 U3 fun w0=>Uu 1 [0,1] Z<|Uu 1 [0,1,5] Z<|Uu 3 [0,1,5,8,9,10] Z<|G.loop (fun fr C' H I=>∃ (i:Nat)(o:Int),(i<=l.length/\Lp.LeastR l (fun i=>q i=true) i o)/\fr=[(0,[],.slice s l.length c0),(1,[],.func (.func g) #[] ⟨f⟩),(5,[],.int .i64 o),(8,[],.slice s l.length c0),(9,[],.int .i64 l.length),(10,[],.int .i64 i)]/\H=[]/\I=l.length-i) (hn_ [0,1,5,8,9,10] Z) ⟨0, -1,⟨QT _,.none fun j J=>absurd J (Nat.not_lt_zero _)⟩,Z,Z,Z⟩ (fun fr T U m t K=>?_);obtain ⟨i,o,⟨V,a⟩,rfl,rfl,rfl⟩:=K;refine Uu 1 [0,1,5,8,9,10,11] Z<|Ux (fun k=>?_) fun k=>?_
 ·have e:i<l.length:=by
   have:=aJ k;omega
  obtain ⟨x,w⟩:∃ x,l[i]?=some x:=⟨l[i],aj e⟩;have y:l.getD i 0=x:=by rw [au,w];rfl
  have n:=wS a;have L:¬ o<0->(l.map aM)[o.toNat]?=some (aM (l.getD o.toNat 0)):=fun h=>by
   rcases n with h1 | ⟨z,h1,h2⟩
   ·omega
   rw [h1,Sx];exact um (by rw [au,aj om_];rfl)
  refine Uv 1 Z fun R b=>UK d.m_ U10 om_ (um w) fl_ fun W M=>Uw M U8<|C4 2 [0,1,5,6,7,8,9,10] b Z<|Uv 2 Z fun R b=>UI (E i e _ mup) U7<|UB 7 Z<|D.index U10 (fun A=>⟨d.mono mup,(by have h:decide (o<0)=false:=A.1;have:=QS h;omega),L (by have h:decide (o<0)=false:=A.1;exact QS h)⟩) fl_ Z fun X N=>UY U6 N U3<|Uy U6<|U1 U8<|UU U8<|UA [0,1,5,6,8,9,10,29] b Z<|Ux (fun p=>?_) fun p=>?_
  ·have c:q i=true/\(o<0∨x<l.getD o.toNat 0):=by
    simpa using p
   have r:Lp.LeastR l (fun i=>q i=true) (i+1) i:=by
    rcases n with h1 | ⟨z,h1,h2⟩
    ·rw [h1] at a;exact a.first c.1
    rw [h1] at a c;refine a.less c.1 ?_;rw [y];rcases c.2 with h3 | h3
    ·omega
    exact h3
   refine Uu 2 [0,1,5,8,9,10] Z<|Uz fun R b=>UF _ U7<|C4 1 [0,1,5,8,9,10] b Z<|UH (m':=l.length-(i+1)) om_ t (hn_ [0,1,5,8,9,10] Z) ⟨i+1,_,⟨by omega,r⟩,Z,Z,Z⟩
  have c:q i=true->¬ (o<0∨x<l.getD o.toNat 0):=by
   simpa using p
  have r:Lp.LeastR l (fun i=>q i=true) (i+1) o:=by
   by_cases B:q i=true
   ·have h3:=c B;rcases n with h1 | ⟨z,h1,h2⟩
    ·exact absurd (.inl om_) h3
    rw [h1] at a h3 ⊢;refine a.keep ?_;rw [y];exact fun h=>h3 (.inr h)
   exact a.no B
  refine Uz fun R b=>UF _ U7<|C4 1 [0,1,5,8,9,10] b Z<|UH (m':=l.length-(i+1)) om_ t (hn_ [0,1,5,8,9,10] Z) ⟨i+1,_,⟨by omega,r⟩,Z,Z,Z⟩
 have e:i=l.length:=by
  have:=QS k;omega
 exact Uu 2 [4] Z<|UC U2<|⟨Z,o,Z,by rw [<- e];exact a⟩
structure TabV (D:Mem)(b n:Nat)(t:Lp.Tab)(wB wL wO wW:Value)(wF:List Value):Prop where
 o:D b=some (.cells ⟨[.int .i64 n,wB,wL,wO,ai (qtx t.worth.c),wW]⟩ 212 (0,0))
 B:Sl D 1 wB (t.basic.map aM)
 O:Sl D 1 wO (t.others.map aM)
 W:Sl D 1 wW (t.worth.f.map aZ)
 L:Sl D 2 wL (List.zipWith (fun (l:Lp.Line) w=>[ai (qtx l.c),w]) t.lines wF)
 fl:wF.length=t.lines.length
 F:∀ (i:Nat)(l:Lp.Line)(w:Value),t.lines[i]?=some l->wF[i]?=some w->Sl D 1 w (l.f.map aZ)
theorem TabV.mono {D E:Mem}{b n:Nat}{t:Lp.Tab}{c d e f:Value}{g:List Value}(h:TabV D b n t c d e f g)(a:D.le E):TabV E b n t c d e f g :=
 ⟨a _ _ h.o,h.B.mono a,h.O.mono a,h.W.mono a,h.L.mono a,h.fl,fun i l w h1 h2=>(h.F i l w h1 h2).mono a⟩
theorem TabV.m_ {D E:Mem}{a:List Value}(h:TabV D b n t wB wL wO wW a)(c:D.le E:=by exact mup):TabV E b n t wB wL wO wW a:=TabV.mono h c
theorem ft (C:Mem)(b n v:Nat)(t:Lp.Tab)(a c d e:Value)(f:List Value)(h:TabV C b n t a c d e f) :
  Gives cx.P 177 [.pointer (some ⟨b,0,none⟩),.int .i64 v] C (.bool (decide (n<=v))):=by
 refine UD func177 11 U3 fun w0=>Uu 1 [0,1] Z<|Uv 4 Z fun R g=>Uw (PtrTo.blockT (h.m_.o) _ 1) U8<|C4 2 [4] g Z<|UC U2<|⟨?_,Z⟩;congr 1;rw [RC];omega
theorem fh {l:List Nat}(h:i<l.length):(l.map aM)[i]?=some (aM (l.getD i 0)):=um (by rw [au,aj h];rfl)
theorem dK {l:List Rat}(h:i<l.length):(l.map aZ)[i]?=some (aZ (l.getD i 0)):=gj (by rw [au,aj h];rfl)
theorem jK {ls:List Lp.Line}{ws:List Value}(h:i<ls.length)(a:ws.length=ls.length):(List.zipWith (fun (l:Lp.Line) w=>[ai (qtx l.c),w]) ls ws)[i]?=some [ai (qtx (ls.getD i ⟨0,[]⟩).c),ws.getD i (.slice none 0 0)]:=by
 rw [List.getElem?_zipWith,aj h,aj (show i<ws.length by omega),au,au,aj h,aj (show i<ws.length by omega)];rfl
theorem Kw (C:Mem)(a b n i N:Nat)(t:Lp.Tab)(j k e f:Value)(g:List Value)(h:TabV C b n t j k e f g)(l:t.Ok N)(d:C a=some (.cells ⟨[.pointer (some ⟨b,0,none⟩)]⟩ 202 (0,0)))(m:i<t.basic.length)(p:QB 40 (t.line i).c) :
  Gives cx.P 181 [.int .i64 i,.pointer (some ⟨a,0,none⟩)] C (.bool (decide (n<=t.bas i) && decide ((t.line i).c<0))):=by
 obtain ⟨v,w,rfl,x,y,_⟩:=id h.B;obtain ⟨A2,c2,rfl,z,A,_⟩:=id h.L;have E:maxLen<=9223372036854775807:=by simp [maxLen]
 have F:=l.ll;exact UD func181 25 U3 fun w0=>Uu 1 [0,1] Z<|US [0,1,2,3,4,5,6,7,8,9,10,11,12,13,14,15,16,17,18,19,20,21] [(8,1)] Z kr_ fun R G q=>Uw (bkT d 1) U8<|Uw (bkT d 1) U8<|UB 2 Z<|Uw (PtrTo.blockT (h.m_.o) _ 1) U8<|Uy U6<|UK h.B.m_ U10 om_ (fh m) fl_ fun H r=>Uw r U8<|Vb (fun _=>(ft _ b n (t.bas i) t _ _ e f g h.m_)) U9<|Uy U6<|UY U6 (fun _=>PtrTo.blockT (Mem.get d mup) _ 1) U3<|UB 2 Z<|UY U6 (fun _=>PtrTo.blockT (h.m_.o) _ 1) U3<|Uy U6<|D.index U10 (fun I=>⟨h.L.mono mup,by omega,jK om_ h.fl⟩) fl_ Z fun J s=>V7 Z Z Z Z Z Z Z Z Z Z s fl_ Z fun K u=>UY U6 u U3<|UT (fun _=>(fX _ (t.line i).c (Rb (bJ p dc_) dc_))) U9<|Uy U6<|UU U8<|C4 1 [3] q Z<|UC U2<|⟨by rw [ue],Z⟩
theorem ud (q:Rat):decide (0<eN q.num)=decide (0<q):=by
 have h:0<q.num ↔ 0<q:=by rw [Rat.lt_iff];simp
 rw [RC];unfold eN;by_cases h1:q.num<0
 ·rw [aW h1];exact ⟨fun h2=>absurd h2 dc_,fun h2=>absurd (h.2 h2) om_⟩
 rw [az h1];by_cases h2:q.num=0
 ·rw [aW h2];exact ⟨fun h3=>absurd h3 dc_,fun h3=>absurd (h.2 h3) om_⟩
 rw [az h2];exact ⟨fun _=>h.1 om_,fun _=>by decide⟩
theorem lP {a:List Value}(h:TabV C b n t wB wL wO wW a)(c:t.Ok N)(d:i<t.basic.length):Sl C 1 (a.getD i (.slice none 0 0)) ((t.line i).f.map aZ)/\(t.line i).f.length=t.others.length:=by
 have e:=c.ll;have g:=h.fl;refine ⟨?_,c.fl _ (Lp.line_mem c d)⟩;refine h.F i _ _ (show t.lines[i]?=some (t.line i) from ?_) (show a[i]?=some _ from ?_)
 ·unfold Lp.Tab.line;rw [au,aj om_];rfl
 rw [au,aj om_];rfl
theorem Kv (C:Mem)(a j b n i r N:Nat)(t:Lp.Tab)(p q s k:Value)(c:List Value)(h:TabV C b n t p q s k c)(d:t.Ok N)(e:C a=some (.cells ⟨[.pointer (some ⟨b,0,none⟩)]⟩ 202 (0,0)))(u:C j=some (.cells ⟨[.int .i64 r]⟩ 3 (0,0)))
  (l:r<t.basic.length) (v:i<t.others.length) (w:QB 40 ((t.line r).g i)) :
  Gives cx.P 182 [.int .i64 i,.pointer (some ⟨a,0,none⟩),.pointer (some ⟨j,0,none⟩)] C (.bool (decide (n<=t.oth i) && decide (0<(t.line r).g i))):=by
 obtain ⟨G,H,rfl,I,J,_⟩:=id h.O;obtain ⟨A2,c2,rfl,K,M,_⟩:=id h.L;obtain ⟨f,Q⟩:=lP h d l;obtain ⟨S,T,x,U,V,_⟩:=id f;have m:=jK (ls:=t.lines) (ws:=c) (i:=r) (by rw [d.ll];exact l) h.fl;rw [x] at m f;have W:maxLen<=9223372036854775807:=by simp [maxLen]
 have X:=d.ll;exact UD func182 29 U3 fun w0=>Uu 1 [0,1,2] Z<|US [0,1,2,3,4,5,6,7,8,9,10,11,12,13,14,15,16,17,18,19,20,21,22,23,24] [(8,1)] Z kr_ fun R Y y=>Uw (bkT e 1) U8<|Uw (bkT e 1) U8<|UB 2 Z<|Uw (PtrTo.blockT (h.m_.o) _ 1) U8<|Uy U6<|UK h.O.m_ U10 om_ (fh v) fl_ fun aa z=>Uw z U8<|Vb (fun _=>(ft _ b n (t.oth i) t _ _ _ k c h.m_)) U9<|Uy U6<|UY U6 (fun _=>PtrTo.blockT (Mem.get e mup) _ 1) U3<|UB 2 Z<|UY U6 (fun _=>PtrTo.blockT (h.m_.o) _ 1) U3<|UY U6 (fun _=>PtrTo.blockT (Mem.get u mup) _ 1) U3<|D.index U10 (fun A=>⟨h.L.mono mup,by omega,m⟩) fl_ Z fun ab B=>V7 Z Z Z Z Z Z Z Z Z Z B fl_ Z fun ac E=>UY U6 E U3<|Uy U6<|D.index U10 (fun A=>⟨f.mono mup,by omega,dK om_⟩) fl_ Z fun ad F=>UY U6 F U3<|UT (fun _=>(fX _ ((t.line r).g i) (Rb (bJ w dc_) dc_))) U9<|Uy U6<|UU U8<|C4 1 [4] y Z<|UC U2<|⟨by rw [<- ud],Z⟩
theorem NA (C:Mem)(a b n i N:Nat)(t:Lp.Tab)(e f j k:Value)(d:List Value)(h:TabV C b n t e f j k d)(l:t.Ok N)(c:C a=some (.cells ⟨[.pointer (some ⟨b,0,none⟩)]⟩ 202 (0,0)))(m:i<t.others.length) :
  Gives cx.P 183 [.int .i64 i,.pointer (some ⟨a,0,none⟩)] C (.bool (!decide (n<=t.oth i) && !decide (t.worth.g i=0))):=by
 obtain ⟨s,u,rfl,v,w,_⟩:=id h.O;obtain ⟨A2,c2,rfl,x,y,_⟩:=id h.W;have z:maxLen<=9223372036854775807:=by simp [maxLen]
 have A:=l.wl;refine UD func183 25 U3 fun w0=>Uu 1 [0,1] Z<|US [0,1,2,3,4,5,6,7,8,9,10,11,12,13,14,15,16,17,18,19,20,21] [(8,1)] Z kr_ fun R B p=>Uw (bkT c 1) U8<|Uw (bkT c 1) U8<|UB 2 Z<|Uw (PtrTo.blockT (h.m_.o) _ 1) U8<|Uy U6<|UK h.O.m_ U10 om_ (fh m) fl_ fun E q=>Uw q U8<|Vb (fun _=>(ft _ b n (t.oth i) t _ _ _ _ d h.m_)) U9<|UB 2 Z<|UY U6 (fun _=>PtrTo.blockT (Mem.get c mup) _ 1) U3<|UB 3 Z<|UY U6 (fun _=>PtrTo.blockT (h.m_.o) _ 1) U3<|Uy U6<|D.index U10 (fun F=>⟨h.W.mono mup,by omega,dK om_⟩) fl_ Z fun G r=>UY U6 r U3<|Uy U6<|UU U8<|C4 1 [3] p Z<|UC U2<|⟨?_,Z⟩;show Value.bool _=Value.bool _;congr 1;congr 1;show (!((⟨(qtx (t.worth.g i)).toArray⟩:ByteArray).data.toList == (⟨#[48]⟩:ByteArray).data.toList))=_;rw [fY]
theorem Ny (C:Mem)(a b n i N:Nat)(t:Lp.Tab)(e f j k:Value)(d:List Value)(h:TabV C b n t e f j k d)(l:t.Ok N)(c:C a=some (.cells ⟨[.pointer (some ⟨b,0,none⟩)]⟩ 202 (0,0)))(m:i<t.others.length)(p:QB 40 (t.worth.g i)) :
  Gives cx.P 184 [.int .i64 i,.pointer (some ⟨a,0,none⟩)] C (.bool (decide (n<=t.oth i) && decide (t.worth.g i<0))):=by
 obtain ⟨u,v,rfl,w,x,_⟩:=id h.O;obtain ⟨A2,c2,rfl,y,z,_⟩:=id h.W;have A:maxLen<=9223372036854775807:=by simp [maxLen]
 have B:=l.wl;exact UD func184 25 U3 fun w0=>Uu 1 [0,1] Z<|US [0,1,2,3,4,5,6,7,8,9,10,11,12,13,14,15,16,17,18,19,20,21] [(8,1)] Z kr_ fun R E q=>Uw (bkT c 1) U8<|Uw (bkT c 1) U8<|UB 2 Z<|Uw (PtrTo.blockT (h.m_.o) _ 1) U8<|Uy U6<|UK h.O.m_ U10 om_ (fh m) fl_ fun F r=>Uw r U8<|Vb (fun _=>(ft _ b n (t.oth i) t _ _ _ _ d h.m_)) U9<|Uy U6<|UY U6 (fun _=>PtrTo.blockT (Mem.get c mup) _ 1) U3<|UB 3 Z<|UY U6 (fun _=>PtrTo.blockT (h.m_.o) _ 1) U3<|Uy U6<|D.index U10 (fun G=>⟨h.W.mono mup,by omega,dK om_⟩) fl_ Z fun H s=>UY U6 s U3<|UT (fun _=>(fX _ (t.worth.g i) (Rb (bJ p dc_) dc_))) U9<|Uy U6<|UU U8<|C4 1 [3] q Z<|UC U2<|⟨by rw [ue],Z⟩
theorem tT (n:Nat):List.replicate n (ai [48])=((List.replicate n (0:Rat)).map aZ).flatten:=by
 rw [TY,show aZ 0=[ai [48]] by unfold aZ;rw [P4]];induction n with
 | zero=>rfl
 | succ n a=>rw [Se,Se,So,<- a];rfl
def ptF (t:Lp.Tab)(n i:Nat):List Rat:=(List.range n).map fun v=>if v∈t.basic.take i then t.sol v else 0
theorem mT :(ptF t n i).length=n:=by simp [ptF]
theorem FU (h:v<n):(ptF t n i)[v]?=some (if v∈t.basic.take i then t.sol v else 0):=by
 unfold ptF;rw [QU,Rw h];rfl
theorem JB (t:Lp.Tab)(n:Nat):ptF t n 0=List.replicate n 0:=by
 refine List.ext_getElem? fun v=>?_;by_cases h:v<n
 ·rw [FU h,SG,aW h,List.take_zero,az RU]
 rw [QY (by rw [mT];omega),QY ap]
theorem lk (h:i<t.basic.length):t.basic.take (i+1)=t.basic.take i++[t.bas i]:=by
 rw [Rm];congr 1;unfold Lp.Tab.bas;rw [au,aj h];rfl
theorem M5 (b:t.Ok N)(h:i<t.basic.length)(d:t.bas i<n):(ptF t n i).set (t.bas i) (t.line i).c=ptF t n (i+1):=by
 refine List.ext_getElem? fun v=>?_;rw [List.getElem?_set,mT];by_cases a:v<n
 ·rw [FU a,FU a,lk h];by_cases e:t.bas i=v
  ·subst e;rw [aW rfl,aW a,aW am,Lp.sol_bas b h]
  rw [az e];by_cases hm:v∈t.basic.take i
  ·rw [aW hm,aW (by simp [hm])]
  rw [az hm,az (by simp [hm];exact fun h2=>e h2.symm)]
 rw [az om_,QY (by rw [mT];omega),QY (by rw [mT];omega)]
theorem JC (h:i<t.basic.length)(a:n<=t.bas i):ptF t n i=ptF t n (i+1):=by
 refine List.map_congr_left fun v hm=>?_;have b:=Q9.1 hm;rw [lk h];by_cases hm:v∈t.basic.take i
 ·rw [aW hm,aW (by simp [hm])]
 rw [az hm,az (by simp [hm];omega)]
theorem M6 (a:t.Ok N):ptF t n t.basic.length=(List.range n).map t.sol:=by
 refine List.map_congr_left fun v _=>?_;rw [Q2];split
 ·rfl
 next h=>exact (Lp.sol_oth a h).symm
theorem Bj (C:Mem)(b n N:Nat)(t:Lp.Tab)(w x p q:Value)(r:List Value)(h:TabV C b n t w x p q r)(f:t.Ok N)(y:n<=1000000) :
  Jog.Fn cx.P 119 [.pointer (some ⟨b,0,none⟩)] C [] fun u _ c=>∃ g,u=.slice (some ⟨g,0,none⟩) n n/\c=[.arr u 56 1 n (((List.range n).map t.sol).map aZ).flatten]:=by
 obtain ⟨z,s,rfl,A,Q,_⟩:=id h.B;obtain ⟨A2,c2,rfl,S,T,_⟩:=id h.L;have E:=h.B;have U:t.basic.length<=s:=by rwa [al] at A
 have V:maxLen<=9223372036854775807:=by simp [maxLen]
 have W:=f.ll;have F:=h.fl;refine UD func119 38 U3 fun w0=>Uu 1 [0] Z<|UW [(4,3)] Z fun R a=>UB 3 Z<|Uw (PtrTo.blockT (h.m_.o) _ 1) U8<|D.call (iY _ n y) Z (.inr dc_) U6 (QW _) fl_ (fun X _ Y _ H=>?_);obtain ⟨g,rfl,rfl⟩:=H;refine C4 1 [0,3] a Z<|Uv 3 Z fun R a=>Uw (PtrTo.blockT (h.m_.o) _ 1) U8<|C4 2 [0,3,14,15,16] a Z<|UN (L':=[.arr (.slice (some ⟨g,0,none⟩) n n) 56 1 n ((ptF t n 0).map aZ).flatten]) (by rw [JB,<- tT];rfl)<|G.loop (fun fr C' c I=>∃ (i:Nat),(i<=t.basic.length)/\fr=[(0,[],.pointer (some ⟨b,0,none⟩)),(3,[],.slice (some ⟨g,0,none⟩) n n),(14,[],.slice z (t.basic.map aM).length s),(15,[],.int .i64 (t.basic.map aM).length),(16,[],.int .i64 i)]/\c=[.arr (.slice (some ⟨g,0,none⟩) n n) 56 1 n ((ptF t n i).map aZ).flatten]/\I=t.basic.length-i) (hn_ [0,3,14,15,16] Z) ⟨0,QT _,Z,Z,Z⟩ (fun fr aa ab m v J=>?_);obtain ⟨i,hi,rfl,rfl,rfl⟩:=J;refine Uu 1 [0,3,14,15,16,17] Z<|Ux (fun k=>?_) fun k=>?_
 ·have d:i<t.basic.length:=by
   have:=aJ k;rw [al] at this;omega
  refine Uv 1 Z fun R a=>UK E.m_ U10 om_ (show (t.basic.map aM)[i]?=some (aM (t.bas i)) from fh d) fl_ fun ac K=>Uw K U8<|C4 2 [0,3,4,5,14,15,16] a Z<|Uv 2 Z fun R a=>UI (ft _ b n (t.bas i) t _ _ p q r h.m_) U7<|C4 1 [0,3,4,5,14,15,16,24] a Z<|Ux (fun l=>?_) fun l=>?_
  ·have e:t.bas i<n:=by
    have ad:¬ n<=t.bas i:=by simpa using l
    omega
   refine Uv 5 Z fun R a=>Uw (PtrTo.blockT (h.m_.o) _ 1) U8<|Uy U6<|UK h.L.m_ U10 om_ (jK om_ F) fl_ fun ae M=>VQ M U10 fl_ fun af O=>Uw O U8<|Va (t.bas i*1) U10 ah U2<|Vc (j:=0) U11 (by show t.bas i*1+1<=_;rw [bS bK,mT];omega)<|UA [0,3,14,15,16] a Z<|Uz fun R a=>UF _ U7<|C4 1 [0,3,14,15,16] a Z<|UN (L':=[.arr (.slice (some ⟨g,0,none⟩) n n) 56 1 n ((ptF t n (i+1)).map aZ).flatten]) (by rw [<- M5 f d e,<- bN bK _ (by rw [mT];exact e)];rfl)<|UH (m':=t.basic.length-(i+1)) om_ v (hn_ [0,3,14,15,16] Z) ⟨i+1,om_,Z,Z,Z⟩
  have e:n<=t.bas i:=by simpa using l
  rw [JC d e];refine Uz fun R a=>UF _ U7<|C4 1 [0,3,14,15,16] a Z<|UH (m':=t.basic.length-(i+1)) om_ v (hn_ [0,3,14,15,16] Z) ⟨i+1,om_,Z,Z,Z⟩
 have d:i=t.basic.length:=by
  have:=QS k;rw [al] at this;omega
 refine Uu 2 [2] Z<|UJ (Vj Z Z ?_);exact ⟨g,Z,by rw [d,M6 f]⟩
def duF (p:Lp.Sys)(t:Lp.Tab)(l:Lp.Line)(i:Nat):List Rat:=(List.range p.m).map fun r=>if p.n+r∈t.others.take i then Lp.dualV p t l r else 0
theorem ng :(duF p t l i).length=p.m:=by simp [duF]
theorem Hq (h:r<p.m):(duF p t l i)[r]?=some (if p.n+r∈t.others.take i then Lp.dualV p t l r else 0):=by
 unfold duF;rw [QU,Rw h];rfl
theorem KA (p:Lp.Sys)(t:Lp.Tab)(l:Lp.Line):duF p t l 0=List.replicate p.m 0:=by
 refine List.ext_getElem? fun v=>?_;by_cases h:v<p.m
 ·rw [Hq h,SG,aW h,List.take_zero,az RU]
 rw [QY (by rw [ng];omega),QY ap]
theorem Ay (h:i<t.others.length):t.others.take (i+1)=t.others.take i++[t.oth i]:=by
 rw [Rm];congr 1;unfold Lp.Tab.oth;rw [au,aj h];rfl
theorem NV (b:Lp.TabOf p t)(h:i<t.others.length)(c:p.n<=t.oth i):(duF p t l i).set (t.oth i-p.n) (l.g i)=duF p t l (i+1):=by
 refine List.ext_getElem? fun v=>?_;rw [List.getElem?_set,ng];by_cases a:v<p.m
 ·rw [Hq a,Hq a,Ay h];by_cases e:t.oth i-p.n=v
  ·subst e;rw [aW rfl,aW a,aW (by rw [show p.n+(t.oth i-p.n)=t.oth i by omega];simp),Lp.dualV_at b h c]
  rw [az e];by_cases hm:p.n+v∈t.others.take i
  ·rw [aW hm,aW (by simp [hm])]
  rw [az hm,az (by simp [hm];omega)]
 rw [QY (by rw [ng];omega),QY (by rw [ng];omega)];have:=b.ok.lt _ (Q6.2 (.inr (Lp.oth_mem h)));split
 ·exact az om_
 rfl
theorem KB (h:i<t.others.length)(a:t.oth i<p.n):duF p t l i=duF p t l (i+1):=by
 refine List.map_congr_left fun v _=>?_;rw [Ay h];by_cases hm:p.n+v∈t.others.take i
 ·rw [aW hm,aW (by simp [hm])]
 rw [az hm,az (by simp [hm];omega)]
theorem NW :duF p t l t.others.length=(List.range p.m).map (Lp.dualV p t l):=by
 refine List.map_congr_left fun v _=>?_;rw [Q2];split
 ·rfl
 next h=>exact (Lp.dualV_none h).symm
theorem Hp (C:Mem)(p:Lp.Sys)(b:Nat)(t:Lp.Tab)(l:Lp.Line)(E F H s w:Value)(v:List Value)(h:TabV C b p.n t E F H s v)(x:Lp.TabOf p t)(I:p.m<=1000000)(y:Sl C 1 w (l.f.map aZ))(X:l.f.length=t.others.length) :
  Jog.Fn cx.P 121 [.pointer (some ⟨b,0,none⟩),.agg ⟨[ai (qtx l.c),w]⟩,.int .i64 p.m] C [] fun u _ e=>∃ g,u=.slice (some ⟨g,0,none⟩) p.m p.m/\e=[.arr u 56 1 p.m (((List.range p.m).map (Lp.dualV p t l)).map aZ).flatten]:=by
 obtain ⟨J,z,rfl,K,Y,_⟩:=id h.O;obtain ⟨A3,c3,rfl,aa,ab,_⟩:=id y;have L:=h.O;have ac:t.others.length<=z:=by rwa [al] at K
 have ad:maxLen<=9223372036854775807:=by simp [maxLen]
 refine UD func121 40 U3 fun w0=>Uz fun R a=>UQ U6 fun M=>C4 1 [0,2,4] a Z<|G.freeze 0 Z fun _ _ N=>UW [(1,3)] Z fun R a=>Uy U6<|D.call (iY _ p.m I) Z (.inr dc_) U6 (QW _) fl_ (fun ae _ af _ Q=>?_);obtain ⟨g,rfl,rfl⟩:=Q;refine C4 1 [0,4,7] a Z<|Uv 3 Z fun R a=>Uw (PtrTo.blockT (h.m_.o) _ 1) U8<|C4 2 [0,4,7,15,16,17] a Z<|UN (L':=[.arr (.slice (some ⟨g,0,none⟩) p.m p.m) 56 1 p.m ((duF p t l 0).map aZ).flatten]) (by rw [KA,<- tT];rfl)<|G.loop (fun fr C' e S=>∃ (i:Nat),(i<=t.others.length)/\fr=[(0,[],.pointer (some ⟨b,0,none⟩)),(4,[],.pointer (some ⟨M,0,none⟩)),(7,[],.slice (some ⟨g,0,none⟩) p.m p.m),(15,[],.slice J (t.others.map aM).length z),(16,[],.int .i64 (t.others.map aM).length),(17,[],.int .i64 i)]/\e=[.arr (.slice (some ⟨g,0,none⟩) p.m p.m) 56 1 p.m ((duF p t l i).map aZ).flatten]/\S=t.others.length-i) (hn_ [0,4,7,15,16,17] Z) ⟨0,QT _,Z,Z,Z⟩ (fun fr ag aj m A T=>?_);obtain ⟨i,hi,rfl,rfl,rfl⟩:=T;refine Uu 1 [0,4,7,15,16,17,18] Z<|Ux (fun k=>?_) fun k=>?_
 ·have d:i<t.others.length:=by
   have:=aJ k;rw [al] at this;omega
  have ak:=x.ok.lt _ (Q6.2 (.inr (Lp.oth_mem d)));refine Uv 1 Z fun R a=>UK L.m_ U10 om_ (show (t.others.map aM)[i]?=some (aM (t.oth i)) from fh d) fl_ fun am U=>Uw U U8<|C4 2 [0,4,7,8,9,15,16,17] a Z<|Uv 2 Z fun R a=>UI (ft _ b p.n (t.oth i) t _ _ _ s v h.m_) U7<|UA [0,4,7,8,9,15,16,17,24] a Z<|Ux (fun q=>?_) fun q=>?_
  ·have r:p.n<=t.oth i:=by simpa using q
   have B:((t.oth i:Int)-(p.n:Int)).toNat=t.oth i-p.n:=by omega
   have V:=NV (l:=l) x d r;refine US [0,1,2,3,4,5,6,7,8,9,10,11,12,13] [] Z kr_ fun R hB a=>UB 5 Z<|Uw (PtrTo.blockT (h.m_.o) _ 1) U8<|UF _ U7<|Uy U6<|Uw (bkT N 1) U8<|Uy U6<|UK y.m_ U10 om_ (dK om_) fl_ fun an W=>Uw W U8<|Va (((t.oth i:Int)-(p.n:Int)).toNat*1) U10 ah U2<|Vc (j:=0) U11 (by show ((t.oth i:Int)-(p.n:Int)).toNat*1+1<=_;rw [B,bS bK,ng];omega)<|UA [0,4,7,15,16,17] a Z<|Uz fun R a=>UF _ U7<|C4 1 [0,4,7,15,16,17] a Z<|UN (L':=[.arr (.slice (some ⟨g,0,none⟩) p.m p.m) 56 1 p.m ((duF p t l (i+1)).map aZ).flatten]) (by rw [B,<- V,<- bN bK _ (by rw [ng];omega)];rfl)<|UH (m':=t.others.length-(i+1)) om_ A (hn_ [0,4,7,15,16,17] Z) ⟨i+1,om_,Z,Z,Z⟩
  have r:t.oth i<p.n:=by
   have ao:¬ p.n<=t.oth i:=by simpa using q
   omega
  rw [KB d r];refine Uz fun R a=>UF _ U7<|C4 1 [0,4,7,15,16,17] a Z<|UH (m':=t.others.length-(i+1)) om_ A (hn_ [0,4,7,15,16,17] Z) ⟨i+1,om_,Z,Z,Z⟩
 have d:i=t.others.length:=by
  have:=QS k;rw [al] at this;omega
 refine Uu 2 [6] Z<|UJ (Vj Z Z ?_);exact ⟨g,Z,by rw [d,NW]⟩
def ngF (p:Lp.Sys)(t:Lp.Tab)(l:Lp.Line)(i:Nat):List Rat:=(List.range p.m).map fun r=>if r<i then -Lp.dualV p t l r else Lp.dualV p t l r
theorem ia :(ngF p t l i).length=p.m:=by simp [ngF]
theorem BB (h:r<p.m):(ngF p t l i)[r]?=some (if r<i then -Lp.dualV p t l r else Lp.dualV p t l r):=by
 unfold ngF;rw [QU,Rw h];rfl
theorem JV (p:Lp.Sys)(t:Lp.Tab)(l:Lp.Line):(List.range p.m).map (Lp.dualV p t l)=ngF p t l 0:=List.map_congr_left fun r _=>by rw [az (Nat.not_lt_zero _)]
theorem Nv (h:i<p.m):(ngF p t l i).set i (-Lp.dualV p t l i)=ngF p t l (i+1):=by
 refine List.ext_getElem? fun v=>?_;rw [List.getElem?_set,ia];by_cases a:v<p.m
 ·rw [BB a,BB a];by_cases e:i=v
  ·subst e;rw [aW rfl,aW a,aW om_]
  rw [az e];by_cases hm:v<i
  ·rw [aW hm,aW om_]
  rw [az hm,az om_]
 rw [az om_,QY (by rw [ia];omega),QY (by rw [ia];omega)]
theorem Nw (h:t.bas i-p.n<p.m):(ngF p t (t.line i) p.m).set (t.bas i-p.n) 1=(List.range p.m).map (Lp.refV p t i):=by
 refine List.ext_getElem? fun v=>?_;rw [List.getElem?_set,ia,QU];by_cases a:v<p.m
 ·rw [BB a,Rw a,aW a];unfold Lp.refV;by_cases e:t.bas i-p.n=v
  ·subst e;rw [aW rfl,aW h,Su,aW rfl]
  rw [az e,Su,az (fun b=>e b.symm)]
 rw [az om_,QY (by rw [ia];omega),QY ap];rfl
theorem qtx1:qtx 1=[49]:=by decide +kernel
theorem enc1:aZ 1=[Value.string ⟨#[49]⟩]:=by
 show [ai (qtx 1)]=_;rw [qtx1];rfl
theorem Jq (C:Mem)(p:Lp.Sys)(b i:Nat)(t:Lp.Tab)(A E s v:Value)(e:List Value)(h:TabV C b p.n t A E s v e)(w:Lp.TabOf p t)(F:p.m<=1000000)(f:i<t.basic.length)(W:p.n<=t.bas i)(H:∀ r,QB 40 (Lp.dualV p t (t.line i) r)) :
  Pur cx.P 117 [.pointer (some ⟨b,0,none⟩),.int .i64 i,.int .i64 p.m] C fun u D=>∃ g,u=.agg ⟨[.slice (some ⟨g,0,none⟩) p.m p.m]⟩/\Sl D 1 (.slice (some ⟨g,0,none⟩) p.m p.m) (((List.range p.m).map (Lp.refV p t i)).map aZ):=by
 have ok:=w.ok;obtain ⟨X,Y,rfl,aa,ab,_⟩:=id h.B;obtain ⟨A2,c2,rfl,ac,ad,_⟩:=id h.L;obtain ⟨k,I⟩:=lP h ok f;obtain ⟨A3,c3,J,ae,ag,_⟩:=id k;have ai:=ok.ll;have x:=jK (ls:=t.lines) (ws:=e) (i:=i) om_ h.fl;rw [J] at x k;have aj:maxLen<=9223372036854775807:=by simp [maxLen]
 have ak:=ok.lt _ (Q6.2 (.inl (Lp.bas_mem f)));have K:t.bas i-p.n<p.m:=by omega
 have z:((t.bas i:Int)-(p.n:Int)).toNat=t.bas i-p.n:=by omega
 refine UD func117 49 U3 fun w0=>Uz fun R a=>UP U5 fun c=>UA [0,1,2,6] a Z<|UW [(9,3)] Z fun R a=>UB 4 Z<|Uw (PtrTo.blockT (h.m_.o) _ 1) U8<|Uy U6<|UK h.L.m_ U10 om_ x fl_ fun al M=>Uw M U8<|Uy U6<|D.call (Hp _ p b t (t.line i) _ _ s v _ e h.m_ w F k.m_ I) Z (.inr dc_) U6 (QW _) fl_ (fun an _ ao _ N=>?_);obtain ⟨g,rfl,rfl⟩:=N;refine C4 1 [0,1,6,7] a Z<|Uu 3 [0,1,6,7,20,21,22] Z<|UN (L':=[.arr (.slice (some ⟨g,0,none⟩) p.m p.m) 56 1 p.m ((ngF p t (t.line i) 0).map aZ).flatten,.obj c (.cells ⟨[.slice none 0 0]⟩ 75 (0,0))]) (by rw [<- JV];rfl)<|G.loop (fun fr C' l O=>∃ (j:Nat),(j<=p.m)/\fr=[(0,[],.pointer (some ⟨b,0,none⟩)),(1,[],.int .i64 i),(6,[],.pointer (some ⟨c,0,none⟩)),(7,[],.slice (some ⟨g,0,none⟩) p.m p.m),(20,[],.slice (some ⟨g,0,none⟩) p.m p.m),(21,[],.int .i64 p.m),(22,[],.int .i64 j)]/\l=[.arr (.slice (some ⟨g,0,none⟩) p.m p.m) 56 1 p.m ((ngF p t (t.line i) j).map aZ).flatten,.obj c (.cells ⟨[.slice none 0 0]⟩ 75 (0,0))]/\O=p.m-j) (hn_ [0,1,6,7,20,21,22] Z) ⟨0,QT _,Z,Z,Z⟩ (fun fr ap aq m Q S=>?_);obtain ⟨j,hj,rfl,rfl,rfl⟩:=S;refine Uu 1 [0,1,6,7,20,21,22,23] Z<|Ux (fun q=>?_) fun q=>?_
 ·have d:j<p.m:=by
   have:=aJ q;omega
  have T:(ngF p t (t.line i) j)[j]?=some (Lp.dualV p t (t.line i) j):=by rw [BB d,az (Nat.lt_irrefl _)]
  refine Uv 1 Z fun R a=>Va (j*1) U10 ah U2<|Vn af U6 (fun _=>(by rw [eE bK T];rfl)) U2<|C4 2 [0,1,6,7,8,9,20,21,22] a Z<|Uv 3 Z fun R a=>UM (eP _ _ (Rb (bJ (H j) dc_) dc_)) U7 fl_<|Va (j*1) U10 ah U2<|Vc (j:=0) U11 (by show j*1+1<=_;rw [bS bK,ia];omega)<|UA [0,1,6,7,20,21,22] a Z<|Uz fun R a=>UF _ U7<|C4 1 [0,1,6,7,20,21,22] a Z<|UN (L':=[.arr (.slice (some ⟨g,0,none⟩) p.m p.m) 56 1 p.m ((ngF p t (t.line i) (j+1)).map aZ).flatten,.obj c (.cells ⟨[.slice none 0 0]⟩ 75 (0,0))]) (by rw [<- Nv d,<- bN bK _ (by rw [ia];omega)];rfl)<|UH (m':=p.m-(j+1)) om_ Q (hn_ [0,1,6,7,20,21,22] Z) ⟨j+1,om_,Z,Z,Z⟩
 have d:j=p.m:=by
  have:=QS q;omega
 subst d;refine US [0,1,2,3,4,5,6,7,8,9,10,11,12,13,14] [] Z kr_ fun R hB a=>UB 4 Z<|Uw (PtrTo.blockT (h.m_.o) _ 1) U8<|Uy U6<|UK h.B.m_ U10 om_ (show (t.basic.map aM)[i]?=some (aM (t.bas i)) from fh f) fl_ fun ar U=>Uw U U8<|UB 3 Z<|Uw (PtrTo.blockT (h.m_.o) _ 1) U8<|UF _ U7<|Va (((t.bas i:Int)-(p.n:Int)).toNat*1) U10 ah U2<|Vc (j:=0) U11 (by show ((t.bas i:Int)-(p.n:Int)).toNat*1+1<=_;rw [z,bS bK,ia];omega)<|UA [6,7] a Z<|Uv 1 Z fun R a=>UO [.slice (some ⟨g,0,none⟩) p.m p.m] U8<|UG (j:=1) U12<|UA [6] a Z<|G.freezeArr 1 (((List.range p.m).map (Lp.refV p t i)).map aZ) rfl (by rw [z,<- Nw K,<- bN bK 1 (by rw [ia];omega),enc1]) (by intro r hr;obtain ⟨y,_,rfl⟩:=QX.1 hr;rfl) am fun Cg hg V=>UJ (Vm af U4 ?_);exact ⟨Z,g,Z,V⟩
def cQ (t:Lp.Tab)(wF:Nat->Value):List (Rat × Value):=(List.range t.basic.length).map fun i=>((t.line i).c,wF i)
theorem fI :(cQ t wF).length=t.basic.length:=by simp [cQ]
theorem nS (h:i<t.basic.length):(cQ t wF)[i]?=some ((t.line i).c,wF i):=by
 unfold cQ;rw [QU,Rw h];rfl
def LF (t:Lp.Tab)(wF:Nat->Value)(i:Nat):Lent:=.arr (wF i) t.others.length 1 56 ((t.line i).f.map aZ)
def fg (b n:Nat)(t:Lp.Tab)(wB wL wO wW:Value)(wF:Nat->Value):List Lent :=
 .obj b [.int .i64 n,wB,wL,wO,ai (qtx t.worth.c),wW] 212::.arr wB t.basic.length 1 3 (t.basic.map aM)::.arr wL t.basic.length 2 209 ((cQ t wF).map bE)
  :: .arr wO t.others.length 1 3 (t.others.map aM)::.arr wW t.others.length 1 56 (t.worth.f.map aZ)::(List.range t.basic.length).map (LF t wF)
theorem ig (a:t.Ok N)(h:i<t.basic.length):(t.line i).f.length=t.others.length:=a.fl _ (Lp.line_mem a h)
theorem dM {l:List Rat}:∀ r∈l.map aZ,r.length=1:=fun r hr=>by
 obtain ⟨x,_,rfl⟩:=QX.1 hr;rfl
theorem uI {l:List Nat}:∀ r∈l.map aM,r.length=1:=fun r hr=>by
 obtain ⟨x,_,rfl⟩:=QX.1 hr;rfl
theorem gg (c:t.Ok N):∀ x∈fg b n t wB wL wO wW wF,x.wf:=by
 intro x a;unfold fg at a;simp only [Q3,QX,Q9] at a;rcases a with rfl | rfl | rfl | rfl | rfl | ⟨i,d,rfl⟩
 ·trivial
 ·exact ⟨by simp,uI⟩
 ·exact ⟨by simp [fI],fun r hr=>by obtain ⟨y,_,rfl⟩:=QX.1 hr;rfl⟩
 ·exact ⟨by simp,uI⟩
 ·exact ⟨by simp [c.wl],dM⟩
 exact ⟨by simp [ig c d],dM⟩
theorem EI {b:Type}{f:Lp.Line->Value->b}(a:t.Ok N):List.zipWith f t.lines ((List.range t.basic.length).map wF)=(List.range t.basic.length).map fun i=>f (t.line i) (wF i):=by
 refine List.ext_getElem? fun i=>?_;rw [List.getElem?_zipWith,QU,QU];by_cases h:i<t.basic.length
 ·have h2:t.lines[i]?=some (t.line i):=by
   unfold Lp.Tab.line;rw [au,aj (by rw [a.ll];exact h)];rfl
  rw [h2,Rw h];rfl
 rw [QY (show (List.range t.basic.length).length<=i by simp;omega),QY (show t.lines.length<=i by rw [a.ll];omega)];rfl
theorem eX (c:t.Ok N)(h:∀ x∈fg b n t wB wL wO wW wF,x.seen C):TabV C b n t wB wL wO wW ((List.range t.basic.length).map wF):=by
 have h1:=h _ (Qb ..);have h2:=h _ (Q0 _ (Qb ..));have h3:=h _ (Q0 _ (Q0 _ (Qb ..)));have h4:=h _ (Q0 _ (Q0 _ (Q0 _ (Qb ..))));have h5:=h _ (Q0 _ (Q0 _ (Q0 _ (Q0 _ (Qb ..)))));have j:∀ i,i<t.basic.length->Sl C 1 (wF i) ((t.line i).f.map aZ):=fun i a =>
  h (LF t wF i) (Q0 _ (Q0 _ (Q0 _ (Q0 _ (Q0 _ (QX.2 ⟨i,Q9.2 a,rfl⟩))))))
 refine ⟨h1,h2,h4,h5, ?_,by simp [c.ll],fun i l w e g=>?_⟩
 ·rw [EI c];have d:Sl C 2 wL ((cQ t wF).map bE):=h3;unfold cQ at d;rw [RG] at d;exact d
 have a:i<t.lines.length:=(aD.1 e).1;rw [c.ll] at a;rw [QU,Rw a] at g;cases g
 have:t.line i=l:=by unfold Lp.Tab.line;rw [au,e];rfl
 rw [<- this];exact j i a
theorem Jz (C:Mem)(o:Tabs C)(e m f i n s:Nat)(w g:Value)(d:List (Rat × Value))(a b:List Rat)(c h:Rat)(p:d.length=m)(q:d[i]?=some (c,w))(r:a.length=n)(k:b.length=n)(t:s<n)(v:QB 40 c)(y:∀ x∈a,QB 40 x)(z:QB 40 h)(A:∀ x∈b,QB 40 x) :
  Jog.Fn cx.P 237 [.pointer (some ⟨e,i*2,none⟩),.int .i64 s,.agg ⟨[ai (qtx h),g]⟩] C [.arr g 56 1 n (b.map aZ).flatten,.arr (.slice (some ⟨e,0,none⟩) m f) 209 2 m (d.map bE).flatten,.arr w 56 1 n (a.map aZ).flatten]
   fun u _ j=>u=.tuple #[]/\j=[.arr g 56 1 n (b.map aZ).flatten,.arr (.slice (some ⟨e,0,none⟩) m f) 209 2 m ((d.set i (c+a.getD s 0*h,w)).map bE).flatten,.arr w 56 1 n ((kI a b s (a.getD s 0) n).map aZ).flatten]:=by
 have l:Jog.Enters cx.P 237=true:=by kernel_rfl
 refine Fn.perm (L2:=[.arr w 56 1 n (a.map aZ).flatten,.arr g 56 1 n (b.map aZ).flatten,.arr (.slice (some ⟨e,0,none⟩) m f) 209 2 m (d.map bE).flatten]) (Rv (l₁:=[_,_]) (l₂:=[_]))<|Fn.form l om_ fun D E F=>?_;subst F;refine Fn.perm (Rv (l₁:=[_]) (l₂:=[_,_]))<|(V0 (post:=fun u j=>u=.tuple #[]/\j=[.arr (.slice (some ⟨e,0,none⟩) m f) 209 2 m ((d.set i (c+a.getD s 0*h,_)).map bE).flatten,.arr _ 56 1 n ((kI a b s (a.getD s 0) n).map aZ).flatten]) l dM (by simp [k]) fun C' G H=>M3 C' (o.mono G) e m f i D E n s g d a b c h p q r k t H v y z A).mono ?_;rintro u C' j _ ⟨B,rfl,h1,rfl⟩;exact ⟨h1,Z⟩
theorem Jx (C:Mem)(o:Tabs C)(d n s:Nat)(e f g h w i:Value)(a b:List Rat)(c j:Rat)(p:a.length=n)(l:b.length=n)(q:s<n)(r:QB 40 c)(t:∀ x∈a,QB 40 x)(v:QB 40 j)(y:∀ x∈b,QB 40 x) :
  Jog.Fn cx.P 237 [.pointer (some ⟨d,4,none⟩),.int .i64 s,.agg ⟨[ai (qtx j),i]⟩] C [.arr i 56 1 n (b.map aZ).flatten,.obj d (.cells ⟨[e,f,g,h,ai (qtx c),w]⟩ 212 (0,0)),.arr w 56 1 n (a.map aZ).flatten]
   fun u _ k=>u=.tuple #[]/\k=[.arr i 56 1 n (b.map aZ).flatten,.obj d (.cells ⟨[e,f,g,h,ai (qtx (c+a.getD s 0*j)),w]⟩ 212 (0,0)),.arr w 56 1 n ((kI a b s (a.getD s 0) n).map aZ).flatten]:=by
 have m:Jog.Enters cx.P 237=true:=by kernel_rfl
 refine Fn.perm (L2:=[.arr w 56 1 n (a.map aZ).flatten,.arr i 56 1 n (b.map aZ).flatten,.obj d (.cells ⟨[e,f,g,h,ai (qtx c),w]⟩ 212 (0,0))]) (Rv (l₁:=[_,_]) (l₂:=[_]))<|Fn.form m om_ fun A B D=>?_;subst D;refine Fn.perm (Rv (l₁:=[_]) (l₂:=[_,_]))<|(V0 (post:=fun u k=>u=.tuple #[]/\k=[.obj d (.cells ⟨[e,f,g,h,ai (qtx (c+a.getD s 0*j)),_]⟩ 212 (0,0)),.arr _ 56 1 n ((kI a b s (a.getD s 0) n).map aZ).flatten]) m dM (by simp [l]) fun C' E F=>M2 C' (o.mono E) d A B n s e f g h i a b c j p l q F r t v y).mono ?_;rintro u C' k _ ⟨z,rfl,h1,rfl⟩;exact ⟨h1,Z⟩
theorem nD (h:Lp.LeaveR F t s n o):o=-1∨∃ r:Nat,o=r/\r<n/\F<=t.bas r/\(t.line r).g s<0:=by
 cases h with
 | none _=>exact .inl rfl
 | some r h1 h2 h3 _=>exact .inr ⟨r,rfl,h1,h2,h3⟩
theorem F5 (a b:Rat):decide (sU a b > 0)=decide (b<a):=by
 unfold sU;rw [RC];split
 ·next h=>exact ⟨fun h2=>absurd h2 dc_,fun h2=>by grind⟩
 split
 ·next h=>exact ⟨fun _=>h,fun _=>by decide⟩
 next h=>exact ⟨fun h2=>absurd h2 dc_,fun h2=>absurd h2 h⟩
theorem F6 (a b:Rat):(sU a b == 0)=decide (b=a):=by
 unfold sU;split
 ·next h=>rw [Rj (by grind)];rfl
 split
 ·next h=>rw [Rj (by grind)];rfl
 next h=>rw [Ra (by grind)];rfl
theorem J9 (C:Mem)(T:Tabs C)(b n s N:Nat)(t:Lp.Tab)(wB wL U V:Value)(k:List Value)(h:TabV C b n t wB wL U V k)(W:t.Ok N)(hs:s<t.others.length)(X:∀ i,i<t.basic.length->QB 16 (t.line i).c/\QB 16 ((t.line i).g s)) :
  Pur cx.P 185 [.pointer (some ⟨b,0,none⟩),.int .i64 s] C fun u _=>∃ o:Int,u=.int .i64 o/\Lp.LeaveR n t s t.basic.length o:=by
 obtain ⟨A1,c1,rfl,ax,ay,_⟩:=id h.B;obtain ⟨A2,c2,rfl,az,aA,_⟩:=id h.L;have E:=h.B;have aB:maxLen<=9223372036854775807:=by simp [maxLen]
 have aC:=W.ll;have ad:=h.fl;have aD:(List.zipWith (fun (l:Lp.Line) w=>[ai (qtx l.c),w]) t.lines k).length=t.basic.length:=by simp;omega
 refine UD func185 85 U3 fun w0=>Uu 1 [0,1] Z<|Uu 1 [0,1,5] Z<|Uu 1 [0,1,5,6] Z<|Uv 3 Z fun R a=>Uw (PtrTo.blockT (h.m_.o) _ 1) U8<|C4 2 [0,1,5,6,15,16,17] a Z<|G.loop (fun fr C' L' μ=>∃ (i:Nat)(o:Int)(v:Str),(i<=t.basic.length/\Lp.LeaveR n t s i o/\∀ r:Nat,o=r->v=qtx ((t.line r).c / -(t.line r).g s))/\fr=[(0,[],.pointer (some ⟨b,0,none⟩)),(1,[],.int .i64 s),(5,[],.int .i64 o),(6,[],ai v),(15,[],.slice A2 (List.zipWith (fun (l:Lp.Line) w=>[ai (qtx l.c),w]) t.lines k).length c2),(16,[],.int .i64 (List.zipWith (fun (l:Lp.Line) w=>[ai (qtx l.c),w]) t.lines k).length),(17,[],.int .i64 i)]/\L'=[]/\μ=t.basic.length-i) (hn_ [0,1,5,6,15,16,17] Z) ⟨0, -1,[],⟨QT _,.none fun j hj=>absurd hj (Nat.not_lt_zero _),fun r hr=>by omega⟩,Z,Z,Z⟩ (fun fr aE aF m _ hI=>?_);obtain ⟨i,o,v,⟨hi,f,F⟩,rfl,rfl,rfl⟩:=hI;refine Uu 1 [0,1,5,6,15,16,17,18] Z<|Ux (fun H=>?_) fun H=>?_
 ·have p:i<t.basic.length:=by
   have:=aJ H;omega
  obtain ⟨z,aG⟩:=lP h W p;obtain ⟨A3,c3,ae,aH,aI,_⟩:=id z;obtain ⟨Y,I⟩:=X i p;have aa:=jK (ls:=t.lines) (ws:=k) (i:=i) om_ ad;rw [ae] at aa z;have ab:(qtx ((t.line i).g s)).length<=1000000:=Rb (bJ I dc_) dc_;refine Uv 1 Z fun R a=>UK h.L.m_ U10 om_ aa fl_ fun aL af=>Uw af U8<|UP U5 fun b8=>Uy U6<|UG (j:=0) U12<|UA [0,1,5,6,7,8,15,16,17] a Z<|G.freeze 0 Z fun _ _ J=>Uv 4 Z fun R a=>Uw (PtrTo.blockT (h.m_.o) _ 1) U8<|Uy U6<|UK E.m_ U10 om_ (fh p) fl_ fun aM ag=>Uw ag U8<|UI (ft _ b n (t.bas i) t _ _ U V k h.m_) U7<|UB 3 Z<|UY U6 (fun _=>PtrTo.blockT (Mem.get J mup) _ 1) U3<|Uy U6<|D.index U10 (fun hg=>⟨z.mono mup,by omega,dK om_⟩) fl_ Z fun aN ah=>UY U6 ah U3<|Vb (fun _=>(fX _ ((t.line i).g s) ab)) U9<|Uy U6<|U1 U8<|UA [0,1,5,6,7,8,15,16,17,40] a Z<|Ux (fun K=>?_) fun K=>?_
  ·have d:n<=t.bas i->0<=(t.line i).g s:=by
    intro h1;have d:(!decide (n<=t.bas i) || decide (eN ((t.line i).g s).num ≥ 0))=true:=K;rw [FW,Ra h1] at d;simpa using d
   refine Uz fun R a=>UF _ U7<|C4 1 [0,1,5,6,15,16,17] a Z<|UH (m':=t.basic.length-(i+1)) om_ mup (hn_ [0,1,5,6,15,16,17] Z) ⟨i+1,o,v,⟨by omega,f.no d,F⟩,Z,Z,Z⟩
  have d:n<=t.bas i/\(t.line i).g s<0:=by
   have d:(!decide (n<=t.bas i) || decide (eN ((t.line i).g s).num ≥ 0))=false:=K;rw [FW] at d;simp only [Sq,Bool.not_eq_false',QZ,Ri] at d;exact ⟨d.1,by have:=d.2;grind⟩
  have ac:-(t.line i).g s≠0:=by have:=d.2;grind
  have aj:=js Y (fe I) ac;refine US [0,1,2,3,4,5,6,7,8,9,10,11,12,13] [(7,1),(8,1)] Z kr_ fun R hB a=>Uy U6<|Uw (bkT J 1) U8<|Uy U6<|Uw (bkT J 1) U8<|Uy U6<|UK z.m_ U10 om_ (dK om_) fl_ fun aO ak=>Uw ak U8<|Vb (fun _=>(eP _ ((t.line i).g s) ab)) U9<|UT (fun _=>(gW _ T.m_ (t.line i).c (-(t.line i).g s) 16 dc_ dc_ Y (fe I) ac)) U9<|C4 5 [0,1,5,6,7,9,15,16,17] a Z<|Uu 1 [0,1,5,6,7,9,15,16,17] Z<|Uu 2 [0,1,5,6,7,9,15,16,17,54] Z<|Ux (fun M=>?_) fun M=>?_
  ·have al:0<=o:=by simpa using aJ M
   obtain ⟨r,O,aP,aQ,aR⟩:=(nD f).resolve_left om_;obtain ⟨am,an⟩:=X r om_;have ao:-(t.line r).g s≠0:=by grind
   have ap:=js am (fe an) ao;have aq:=F r O;rw [O] at f;subst O;subst aq;obtain ⟨x,A⟩:∃ x,(t.line i).c / -(t.line i).g s=x:=⟨_,rfl⟩;obtain ⟨y,hy⟩:∃ y,(t.line r).c / -(t.line r).g s=y:=⟨_,rfl⟩;refine Uv 2 Z fun R a=>UM (gX _ T.m_ _ _ 32 dc_ dc_ aj ap) U7 fl_<|C4 1 [0,1,5,6,7,9,11,15,16,17] a Z<|US [0,1,2,3,4,5,6,7,8,9,10,11,12,13,14,15,16,17,18,19,20,21,22] [] Z kr_ fun R hB a=>UB 9 Z<|UY U6 (fun _=>PtrTo.blockT (h.m_.o) _ 1) U3<|Uy U6<|D.index U10 (fun hg=>⟨E.mono mup,by omega,fh p⟩) fl_ Z fun aS ar=>UY U6 ar U3<|UB 3 Z<|UY U6 (fun _=>PtrTo.blockT (h.m_.o) _ 1) U3<|Uy U6<|D.index U10 (fun hg=>⟨E.mono mup,by omega,by rw [Sx];exact fh om_⟩) fl_ Z fun aT au=>UY U6 au U3<|Uy U6<|UU U8<|U1 U8<|UA [0,1,5,6,7,9,15,16,17,80] a Z<|Ux (fun Q=>?_) fun Q=>?_
   ·have e:y<x∨y=x/\t.bas r<t.bas i:=by
     have e:(decide (sU ((t.line i).c / -(t.line i).g s) ((t.line r).c / -(t.line r).g s) > 0) || (sU ((t.line i).c / -(t.line i).g s) ((t.line r).c / -(t.line r).g s) == 0 && decide ((t.bas i:Int) > (t.bas r:Int))))=true:=Q;rw [A,hy,F5,F6] at e;simp only [Sm,Q1,QZ] at e;rcases e with h1 | ⟨h1,h2⟩
     ·exact .inl h1
     exact .inr ⟨h1,by omega⟩
    have q:=f.keep (by rw [A,hy];exact e.elim .inl (fun h1=>.inr ⟨h1.1,by have:=h1.2;omega⟩));refine Uz fun R a=>UF _ U7<|C4 1 [0,1,5,6,15,16,17] a Z<|UH (m':=t.basic.length-(i+1)) om_ mup (hn_ [0,1,5,6,15,16,17] Z) ⟨i+1,(r:Int),qtx ((t.line r).c / -(t.line r).g s),⟨by omega,q,F⟩,Z,Z,Z⟩
   have e:x<y∨x=y/\t.bas i<=t.bas r:=by
    have e:(decide (sU ((t.line i).c / -(t.line i).g s) ((t.line r).c / -(t.line r).g s) > 0) || (sU ((t.line i).c / -(t.line i).g s) ((t.line r).c / -(t.line r).g s) == 0 && decide ((t.bas i:Int) > (t.bas r:Int))))=false:=Q;rw [A,hy,F5,F6] at e;simp only [Sq,S7,Ri] at e;obtain ⟨h1,h2⟩:=e;by_cases h3:x<y
    ·exact .inl h3
    have h4:y=x:=by grind
    rcases h2 with h2 | h2
    ·exact absurd h4 h2
    exact .inr ⟨h4.symm,by omega⟩
   have q:=f.less d.1 d.2 (by rw [A,hy];exact e);refine Uu 4 [0,1,5,6,15,16,17] Z<|Uz fun R a=>UF _ U7<|C4 1 [0,1,5,6,15,16,17] a Z<|UH (m':=t.basic.length-(i+1)) om_ mup (hn_ [0,1,5,6,15,16,17] Z) ⟨i+1,(i:Int),qtx ((t.line i).c / -(t.line i).g s),⟨by omega,q,fun S av=>by rw [show S=i by omega]⟩,Z,Z,Z⟩
  have al:¬ 0<=o:=by simpa using QS M
  have aw:o=-1:=by
   rcases nD f with h1 | ⟨r,h1,_⟩
   ·exact h1
   omega
  subst aw;have q:=f.first d.1 d.2;refine Uu 4 [0,1,5,6,15,16,17] Z<|Uz fun R a=>UF _ U7<|C4 1 [0,1,5,6,15,16,17] a Z<|UH (m':=t.basic.length-(i+1)) om_ mup (hn_ [0,1,5,6,15,16,17] Z) ⟨i+1,(i:Int),qtx ((t.line i).c / -(t.line i).g s),⟨by omega,q,fun S av=>by rw [show S=i by omega]⟩,Z,Z,Z⟩
 have p:i=t.basic.length:=by
  have:=QS H;omega
 exact Uu 2 [4] Z<|UC U2<|⟨Z,o,Z,by rw [<- p];exact f⟩
def ryF (t:Lp.Tab)(s n:Nat)(k:Rat)(i:Nat):List Rat:=(List.range n).map fun v=>if v∈t.basic.take i then k*t.dir s v else if v=t.oth s then k else 0
theorem kF :(ryF t s n k i).length=n:=by simp [ryF]
theorem AN (h:v<n):(ryF t s n k i)[v]?=some (if v∈t.basic.take i then k*t.dir s v else if v=t.oth s then k else 0):=by
 unfold ryF;rw [QU,Rw h];rfl
theorem Jk (h:n<=t.oth s):List.replicate n 0=ryF t s n k 0:=by
 refine List.ext_getElem? fun v=>?_;by_cases a:v<n
 ·rw [AN a,SG,aW a,List.take_zero,az RU,az om_]
 rw [QY ap,QY (by rw [kF];omega)]
theorem MQ (h:t.oth s<n):(List.replicate n 0).set (t.oth s) k=ryF t s n k 0:=by
 refine List.ext_getElem? fun v=>?_;rw [List.getElem?_set];by_cases a:v<n
 ·rw [AN a,SG,aW a,List.take_zero,az RU];by_cases e:t.oth s=v
  ·rw [aW e,aW (by simpa using h),aW e.symm]
  rw [az e,az (fun b=>e b.symm)]
 rw [az om_,QY ap,QY (by rw [kF];omega)]
theorem MP (b:Lp.TabOf p t)(c:s<t.others.length)(h:i<t.basic.length)(d:t.bas i<n):(ryF t s n k i).set (t.bas i) (k*(t.line i).g s)=ryF t s n k (i+1):=by
 refine List.ext_getElem? fun v=>?_;rw [List.getElem?_set,kF];by_cases a:v<n
 ·rw [AN a,AN a,lk h];by_cases e:t.bas i=v
  ·subst e;rw [aW rfl,aW a,aW am,Lp.dir_bas b c h]
  rw [az e];by_cases hm:v∈t.basic.take i
  ·rw [aW hm,aW (by simp [hm])]
  rw [az hm,az (show ¬ v∈t.basic.take i++[t.bas i] by simp [hm];exact fun h2=>e h2.symm)]
 rw [az om_,QY (by rw [kF];omega),QY (by rw [kF];omega)]
theorem Jl (h:i<t.basic.length)(a:n<=t.bas i):ryF t s n k i=ryF t s n k (i+1):=by
 refine List.map_congr_left fun v hm=>?_;have b:=Q9.1 hm;rw [lk h];by_cases hm:v∈t.basic.take i
 ·rw [aW hm,aW (by simp [hm])]
 rw [az hm,az (show ¬ v∈t.basic.take i++[t.bas i] by simp [hm];omega)]
theorem MR (a:Lp.TabOf p t):ryF t s n k t.basic.length=(List.range n).map fun v=>k*t.dir s v:=by
 refine List.map_congr_left fun v _=>?_;rw [Q2];split
 ·rfl
 next h =>
 rw [Lp.dir_oth a h];split <;> grind
def kX (t:Lp.Tab)(s:Nat):Rat:=if 0<t.worth.g s then -1 else 1
theorem Pa:qtx (-1)=[45,49]:=by decide +kernel
theorem O9 (C:Mem)(N:Tabs C)(p:Lp.Sys)(b s:Nat)(t:Lp.Tab)(Q S T U:Value)(r:List Value)(h:TabV C b p.n t Q S T U r)(x:Lp.TabOf p t)(I:s<t.others.length)(V:p.n<=1000000)(X:∀ i,i<t.basic.length->QB 16 ((t.line i).g s))(Y:QB 16 (t.worth.g s)) :
  Jog.Fn cx.P 120 [.pointer (some ⟨b,0,none⟩),.int .i64 s] C [] fun u _ c=>∃ g,u=.slice (some ⟨g,0,none⟩) p.n p.n/\c=[.arr u 56 1 p.n (((List.range p.n).map fun v=>kX t s*t.dir s v).map aZ).flatten]:=by
 have ok:=x.ok;obtain ⟨A1,J,rfl,aa,aq,_⟩:=id h.B;obtain ⟨A2,c2,rfl,ar,au,_⟩:=id h.L;obtain ⟨A3,c3,rfl,av,aw,_⟩:=id h.O;obtain ⟨A4,c4,rfl,ax,ay,_⟩:=id h.W;have ab:=h.B;have aA:t.basic.length<=J:=by rwa [al] at aa
 have aB:maxLen<=9223372036854775807:=by simp [maxLen]
 have aC:=ok.ll;have ac:=h.fl;have aD:=ok.wl;have ad:QB 16 (kX t s):=by unfold kX;split <;> exact ⟨by decide,by decide⟩
 refine UD func120 72 U3 fun w0=>Uu 1 [0,1] Z<|Uu 1 [0,1,5] Z<|Uv 4 Z fun R a=>Uw (PtrTo.blockT (h.m_.o) _ 1) U8<|Uy U6<|UK h.W.m_ U10 om_ (dK om_) fl_ fun aE ae=>Uw ae U8<|UM (fX _ (t.worth.g s) (Rb (bJ Y dc_) dc_)) U7 fl_<|C4 1 [0,1,5,19] a Z<|G.cut (fun fr C' c f=>(True)/\fr=[(0,[],.pointer (some ⟨b,0,none⟩)),(1,[],.int .i64 s),(5,[],ai (qtx (kX t s)))]/\c=[]) ?_ (fun fr _ aF f _ l=>?_)
 ·refine Ux (fun y=>?_) fun y=>?_
  ·have z:kX t s=-1:=by
    have d:0<t.worth.g s:=by
     have d:decide (0<eN (t.worth.g s).num)=true:=y;rw [ud] at d;exact aJ d
    unfold kX;rw [aW d]
   refine Uu 1 [0,1,5] Z<|UL 0 (Mem.le.refl _) (hn_ [0,1,5] Z) ⟨trivial,by rw [z,Pa];rfl,Z⟩
  have z:kX t s=1:=by
   have d:¬ 0<t.worth.g s:=by
    have d:decide (0<eN (t.worth.g s).num)=false:=y;rw [ud] at d;exact QS d
   unfold kX;rw [az d]
  refine UL 0 (Mem.le.refl _) (hn_ [0,1,5] Z) ⟨trivial,by rw [z,qtx1];rfl,Z⟩
 obtain ⟨af,rfl,rfl⟩:=l;refine UW [(4,3)] Z fun R a=>UB 3 Z<|Uw (PtrTo.blockT (h.m_.o) _ 1) U8<|D.call (iY _ p.n V) Z (.inr dc_) U6 (QW _) fl_ fun aG _ aH _ ag=>C4 1 [0,1,5,6] a Z ?_;obtain ⟨g,rfl,rfl⟩:=ag;refine UN (L':=[.arr (.slice (some ⟨g,0,none⟩) p.n p.n) 56 1 p.n ((List.replicate p.n (0:Rat)).map aZ).flatten]) (by rw [<- tT];rfl)<|Uv 3 Z fun R a=>Uw (PtrTo.blockT (h.m_.o) _ 1) U8<|Uy U6<|UK h.O.m_ U10 om_ (show (t.others.map aM)[s]?=some (aM (t.oth s)) from fh I) fl_ fun aI aj=>Uw aj U8<|C4 1 [0,1,5,6,7] a Z<|Uv 2 Z fun R a=>UI (ft _ b p.n (t.oth s) t _ _ _ _ r h.m_) U7<|C4 1 [0,1,5,6,7,35] a Z<|G.cut (fun fr C' c f=>(True)/\fr=[(0,[],.pointer (some ⟨b,0,none⟩)),(1,[],.int .i64 s),(5,[],ai (qtx (kX t s))),(6,[],.slice (some ⟨g,0,none⟩) p.n p.n)]/\c=[.arr (.slice (some ⟨g,0,none⟩) p.n p.n) 56 1 p.n ((ryF t s p.n (kX t s) 0).map aZ).flatten]) ?_ (fun fr _ aL f _ l=>?_)
 ·refine Ux (fun A=>?_) fun A=>?_
  ·have q:t.oth s<p.n:=by
    have q:¬ p.n<=t.oth s:=by simpa using A
    omega
   refine Uv 3 Z fun R a=>Va (t.oth s*1) U10 ah U2<|Vc (j:=0) U11 (by show t.oth s*1+1<=_;rw [bS bK,Sj];omega)<|UA [0,1,5,6] a Z<|UN (L':=[.arr (.slice (some ⟨g,0,none⟩) p.n p.n) 56 1 p.n ((ryF t s p.n (kX t s) 0).map aZ).flatten]) (by rw [<- MQ q,<- bN bK _ (by rw [Sj];exact q)];rfl)<|UL 0 (Mem.le.refl _) (hn_ [0,1,5,6] Z) ⟨trivial,Z,Z⟩
  have q:p.n<=t.oth s:=by simpa using A
  rw [Jk (k:=kX t s) q];refine UL 0 (Mem.le.refl _) (hn_ [0,1,5,6] Z) ⟨trivial,Z,Z⟩
 obtain ⟨af,rfl,rfl⟩:=l;refine Uv 3 Z fun R a=>Uw (PtrTo.blockT (h.m_.o) _ 1) U8<|C4 2 [0,1,5,6,43,44,45] a Z<|G.loop (fun fr C' c f=>∃ (i:Nat),(i<=t.basic.length)/\fr=[(0,[],.pointer (some ⟨b,0,none⟩)),(1,[],.int .i64 s),(5,[],ai (qtx (kX t s))),(6,[],.slice (some ⟨g,0,none⟩) p.n p.n),(43,[],.slice A1 (t.basic.map aM).length J),(44,[],.int .i64 (t.basic.map aM).length),(45,[],.int .i64 i)]/\c=[.arr (.slice (some ⟨g,0,none⟩) p.n p.n) 56 1 p.n ((ryF t s p.n (kX t s) i).map aZ).flatten]/\f=t.basic.length-i) (hn_ [0,1,5,6,43,44,45] Z) ⟨0,QT _,Z,Z,Z⟩ (fun fr aN aO m K l=>?_);obtain ⟨i,hi,rfl,rfl,rfl⟩:=l;refine Uu 1 [0,1,5,6,43,44,45,46] Z<|Ux (fun E=>?_) fun E=>?_
 ·have e:i<t.basic.length:=by
   have:=aJ E;rw [al] at this;omega
  obtain ⟨F,aP⟩:=lP h ok e;obtain ⟨A5,c5,ak,aQ,aR,_⟩:=id F;have M:=jK (ls:=t.lines) (ws:=r) (i:=i) om_ ac;rw [ak] at M F;refine Uv 1 Z fun R a=>UK ab.m_ U10 om_ (show (t.basic.map aM)[i]?=some (aM (t.bas i)) from fh e) fl_ fun aS am=>Uw am U8<|C4 2 [0,1,5,6,8,9,43,44,45] a Z<|Uv 2 Z fun R a=>UI (ft _ b p.n (t.bas i) t _ _ _ _ r h.m_) U7<|C4 1 [0,1,5,6,8,9,43,44,45,53] a Z<|Ux (fun H=>?_) fun H=>?_
  ·have w:t.bas i<p.n:=by
    have aT:¬ p.n<=t.bas i:=by simpa using H
    omega
   refine Uv 6 Z fun R a=>Uw (PtrTo.blockT (h.m_.o) _ 1) U8<|Uy U6<|UK h.L.m_ U10 om_ M fl_ fun aU an=>VQ an U10 fl_ fun aV ao=>Uw ao U8<|Uy U6<|UK F.m_ U10 om_ (dK om_) fl_ fun aX ap=>Uw ap U8<|UM (dT _ N.m_ (kX t s) ((t.line i).g s) 16 dc_ dc_ ad (X i e)) U7 fl_<|Va (t.bas i*1) U10 ah U2<|Vc (j:=0) U11 (by show t.bas i*1+1<=_;rw [bS bK,kF];omega)<|UA [0,1,5,6,43,44,45] a Z<|Uz fun R a=>UF _ U7<|C4 1 [0,1,5,6,43,44,45] a Z<|UN (L':=[.arr (.slice (some ⟨g,0,none⟩) p.n p.n) 56 1 p.n ((ryF t s p.n (kX t s) (i+1)).map aZ).flatten]) (by rw [<- MP x I e w,<- bN bK _ (by rw [kF];exact w)];rfl)<|UH (m':=t.basic.length-(i+1)) om_ K (hn_ [0,1,5,6,43,44,45] Z) ⟨i+1,om_,Z,Z,Z⟩
  have w:p.n<=t.bas i:=by simpa using H
  rw [Jl e w];refine Uz fun R a=>UF _ U7<|C4 1 [0,1,5,6,43,44,45] a Z<|UH (m':=t.basic.length-(i+1)) om_ K (hn_ [0,1,5,6,43,44,45] Z) ⟨i+1,om_,Z,Z,Z⟩
 have e:i=t.basic.length:=by
  have:=QS E;rw [al] at this;omega
 refine Uu 2 [4] Z<|UJ (Vj Z Z ?_);exact ⟨g,Z,by rw [e,MR x]⟩
theorem wz {y:Lp.Line}(a:s<l.f.length):kI l.f y.f s (l.f.getD s 0) l.f.length=(Lp.putL l s y).f/\l.c+l.f.getD s 0*y.c=(Lp.putL l s y).c:=by
 have h:=FS (c:=l.c) (bc:=y.c) (bf:=y.f) a;exact ⟨(congrArg Lp.Line.f h).symm,(congrArg Lp.Line.c h).symm⟩
theorem Jy (C:Mem)(k:Tabs C)(b m e i n s:Nat)(w d:Value)(a:List (Rat × Value))(l y:Lp.Line)(o:a.length=m)(p:a[i]?=some (l.c,w))(g:l.f.length=n)(q:y.f.length=n)(r:s<n)(h:QB 40 l.c/\∀ x∈l.f,QB 40 x)(j:QB 40 y.c/\∀ x∈y.f,QB 40 x) :
  Jog.Fn cx.P 237 [.pointer (some ⟨b,i*2,none⟩),.int .i64 s,.agg ⟨[ai (qtx y.c),d]⟩] C [.arr d 56 1 n (y.f.map aZ).flatten,.arr (.slice (some ⟨b,0,none⟩) m e) 209 2 m (a.map bE).flatten,.arr w 56 1 n (l.f.map aZ).flatten]
   fun u _ t=>u=.tuple #[]/\t=[.arr d 56 1 n (y.f.map aZ).flatten,.arr (.slice (some ⟨b,0,none⟩) m e) 209 2 m ((a.set i ((Lp.putL l s y).c,w)).map bE).flatten,.arr w 56 1 n ((Lp.putL l s y).f.map aZ).flatten]:=by
 obtain ⟨h1,h2⟩:=wz (l:=l) (y:=y) (s:=s) om_;rw [<- h1,<- h2,g];exact Jz C k b m e i n s w d a l.f y.f l.c y.c o p g q r h.1 h.2 j.1 j.2
theorem Jw (C:Mem)(m:Tabs C)(a n s:Nat)(d e g h w b:Value)(l y:Lp.Line)(i:l.f.length=n)(o:y.f.length=n)(p:s<n)(j:QB 40 l.c/\∀ x∈l.f,QB 40 x)(k:QB 40 y.c/\∀ x∈y.f,QB 40 x) :
  Jog.Fn cx.P 237 [.pointer (some ⟨a,4,none⟩),.int .i64 s,.agg ⟨[ai (qtx y.c),b]⟩] C [.arr b 56 1 n (y.f.map aZ).flatten,.obj a (.cells ⟨[d,e,g,h,ai (qtx l.c),w]⟩ 212 (0,0)),.arr w 56 1 n (l.f.map aZ).flatten]
   fun u _ q=>u=.tuple #[]/\q=[.arr b 56 1 n (y.f.map aZ).flatten,.obj a (.cells ⟨[d,e,g,h,ai (qtx (Lp.putL l s y).c),w]⟩ 212 (0,0)),.arr w 56 1 n ((Lp.putL l s y).f.map aZ).flatten]:=by
 obtain ⟨h1,h2⟩:=wz (l:=l) (y:=y) (s:=s) om_;rw [<- h1,<- h2,i];exact Jx C m a n s d e g h w b l.f y.f l.c y.c i o p j.1 j.2 k.1 k.2
def byF (l:Lp.Line)(s j:Nat):List Rat:=(List.range l.f.length).map fun q=>if q<j then (Lp.byL l s).g q else 0
theorem kU :(byF l s j).length=l.f.length:=by simp [byF]
theorem Cp {q:Nat}(h:q<l.f.length):(byF l s j)[q]?=some (if q<j then (Lp.byL l s).g q else 0):=by
 unfold byF;rw [QU,Rw h];rfl
theorem K1 :List.replicate l.f.length 0=byF l s 0:=by
 refine List.ext_getElem? fun v=>?_;by_cases a:v<l.f.length
 ·rw [Cp a,SG,aW a,az (Nat.not_lt_zero _)]
 rw [QY ap,QY (by rw [kU];omega)]
theorem Oc (h:j<l.f.length):(byF l s j).set j (-(if j=s then -1 else l.g j) / l.g s)=byF l s (j+1):=by
 refine List.ext_getElem? fun q=>?_;rw [List.getElem?_set,kU];by_cases a:q<l.f.length
 ·rw [Cp a,Cp a];by_cases e:j=q
  ·subst e;rw [aW rfl,aW a,aW (Nat.lt_succ_self j),Lp.byL_g a];congr 1;split <;> grind
  rw [az e];by_cases h1:q<j
  ·rw [aW h1,aW om_]
  rw [az h1,az om_]
 rw [az om_,QY (by rw [kU];omega),QY (by rw [kU];omega)]
theorem vf :(Lp.byL l s).f.length=l.f.length:=by simp [Lp.byL]
theorem Od :byF l s l.f.length=(Lp.byL l s).f:=by
 refine List.ext_getElem? fun q=>?_;by_cases a:q<l.f.length
 ·rw [Cp a,aW a];unfold Lp.Line.g;rw [au,aj (by rw [vf];exact a)];rfl
 rw [QY (by rw [kU];omega),QY (by rw [vf];omega)]
def stL (t:Lp.Tab)(r s i q:Nat):Lp.Line:=if q<i/\q≠r then Lp.putL (t.line q) s (Lp.byL (t.line r) s) else t.line q
def stV (t:Lp.Tab)(wF:Nat->Value)(r s i:Nat):List (Rat × Value):=(List.range t.basic.length).map fun q=>((stL t r s i q).c,wF q)
def stE (t:Lp.Tab)(wF:Nat->Value)(r s i q:Nat):Ent:=.arr (wF q) 56 1 t.others.length ((stL t r s i q).f.map aZ).flatten
theorem iT :(stV t wF r s i).length=t.basic.length:=by simp [stV]
theorem AF {q:Nat}(h:q<t.basic.length):(stV t wF r s i)[q]?=some ((stL t r s i q).c,wF q):=by
 unfold stV;rw [QU,Rw h];rfl
theorem tL {q:Nat}:stL t r s 0 q=t.line q:=az fun h=>Nat.not_lt_zero _ h.1
theorem oQ {q:Nat}(h:q≠i):stL t r s (i+1) q=stL t r s i q:=by
 unfold stL;by_cases h1:q<i/\q≠r
 ·rw [aW h1,aW ⟨by omega,h1.2⟩]
 rw [az h1,az fun h2=>h1 ⟨by omega,h2.2⟩]
theorem nQ (h:i≠r):stL t r s i i=t.line i/\stL t r s (i+1) i=Lp.putL (t.line i) s (Lp.byL (t.line r) s) :=
 ⟨az fun h2=>Nat.lt_irrefl _ h2.1,aW ⟨Nat.lt_succ_self _,h⟩⟩
theorem AG {q:Nat}:stL t r s (r+1) q=stL t r s r q:=by
 by_cases h:q=r
 ·subst h;unfold stL;rw [az fun h=>h.2 rfl,az fun h=>h.2 rfl]
 exact oQ h
theorem MF (b:i<t.basic.length)(h:i≠r):(stV t wF r s i).set i ((Lp.putL (t.line i) s (Lp.byL (t.line r) s)).c,wF i)=stV t wF r s (i+1):=by
 refine List.ext_getElem? fun q=>?_;rw [List.getElem?_set,iT];by_cases a:q<t.basic.length
 ·rw [AF a,AF a];by_cases e:i=q
  ·subst e;rw [aW rfl,aW a,(nQ h).2]
  rw [az e,oQ (Ne.symm e)]
 rw [az om_,QY (by rw [iT];omega),QY (by rw [iT];omega)]
theorem IZ :stV t wF r s (r+1)=stV t wF r s r:=by
 unfold stV;simp only [AG]
theorem IY :stV t wF r s 0=cQ t wF:=by
 unfold stV cQ;simp only [tL]
theorem MG (d:t.Ok N)(f:r<t.basic.length):(stV t wF r s t.basic.length).set r ((Lp.byL (t.line r) s).c,wy)=cQ (t.pivot r s) fun q=>if q=r then wy else wF q:=by
 have b:(t.pivot r s).basic.length=t.basic.length:=RK;refine List.ext_getElem? fun q=>?_;rw [List.getElem?_set,iT];by_cases a:q<t.basic.length
 ·rw [AF a,nS (by rw [b];exact a),Lp.pivot_line (by rw [d.ll];exact a)];by_cases e:r=q
  ·subst e;rw [aW rfl,aW a,aW rfl,aW rfl]
  rw [az e,az (Ne.symm e),az (Ne.symm e)];unfold stL;rw [aW ⟨a,Ne.symm e⟩]
 rw [az om_,QY (by rw [iT];omega),QY (by rw [fI,b];omega)]
theorem range_nd :(List.range m).Nodup:=List.nodup_range
theorem MH (b:t.Ok N)(c:r<t.basic.length) :
  (.arr wy 56 1 t.others.length ((Lp.byL (t.line r) s).f.map aZ).flatten::((List.range t.basic.length).erase r).map (stE t wF r s t.basic.length)).Perm (((List.range (t.pivot r s).basic.length).map (LF (t.pivot r s) fun q=>if q=r then wy else wF q)).map Lent.ent):=by
 have g:(t.pivot r s).basic.length=t.basic.length:=RK;have d:(t.pivot r s).others.length=t.others.length:=RK;rw [g,RG];have h0:(Lent.ent ∘ LF (t.pivot r s) fun q=>if q=r then wy else wF q) r=.arr wy 56 1 t.others.length ((Lp.byL (t.line r) s).f.map aZ).flatten:=by
  show Ent.arr (if r=r then wy else wF r) _ 1 (t.pivot r s).others.length _=_;rw [aW rfl,d,Lp.pivot_line (by rw [b.ll];exact c),aW rfl]
 have h1:=lM range_nd (Q9.2 c) (Lent.ent ∘ LF (t.pivot r s) fun q=>if q=r then wy else wF q) (stE t wF r s t.basic.length) (fun q h a=>by
  have e:=Q9.1 h;show Ent.arr (if q=r then wy else wF q) _ 1 (t.pivot r s).others.length _=_;rw [az a,d,Lp.pivot_line (by rw [b.ll];exact e),az a];unfold stE stL;rw [aW ⟨e,a⟩])
 rw [h0] at h1;exact h1.symm
theorem ME (a:t.Ok N)(d:r<t.basic.length) :
  (([.obj b (.cells ⟨[.int .i64 n,wB,wL,wO,ai (qtx (Lp.putL t.worth s (Lp.byL (t.line r) s)).c),wW]⟩ 212 (0,0)),.arr wB 3 1 t.basic.length ((t.basic.set r (t.oth s)).map aM).flatten,.arr wL 209 2 t.basic.length (((stV t wF r s t.basic.length).set r ((Lp.byL (t.line r) s).c,wy)).map bE).flatten,.arr wO 3 1 t.others.length ((t.others.set s (t.bas r)).map aM).flatten,.arr wW 56 1 t.others.length (((Lp.putL t.worth s (Lp.byL (t.line r) s)).f).map aZ).flatten]:List Ent)++(.arr wy 56 1 t.others.length ((Lp.byL (t.line r) s).f.map aZ).flatten::((List.range t.basic.length).erase r).map (stE t wF r s t.basic.length))).Perm ((fg b n (t.pivot r s) wB wL wO wW fun q=>if q=r then wy else wF q).map Lent.ent):=by
 have e:(t.pivot r s).basic.length=t.basic.length:=RK;have g:(t.pivot r s).others.length=t.others.length:=RK;rw [MG a d];refine (List.Perm.append_left _ (MH a d)).trans (List.Perm.of_eq ?_);unfold fg;simp only [Rs,Lent.ent,e,g];rfl
theorem yx {l:List Nat}(h:i<l.length):l[i]?=some (l.getD i 0):=by
 rw [au,aj h];rfl
theorem bi (r s:Nat):(fg b n t wB wL wO wW wF).map Lent.ent=[.obj b (.cells ⟨[.int .i64 n,wB,wL,wO,ai (qtx t.worth.c),wW]⟩ 212 (0,0)),.arr wB 3 1 t.basic.length ((t.basic).map aM).flatten,.arr wL 209 2 t.basic.length ((cQ t wF).map bE).flatten,.arr wO 3 1 t.others.length ((t.others).map aM).flatten,.arr wW 56 1 t.others.length ((t.worth.f).map aZ).flatten]++(List.range t.basic.length).map (stE t wF r s 0):=by
 have e:stE t wF r s 0=Lent.ent ∘ LF t wF:=funext fun q=>by
  unfold stE;rw [tL];rfl
 rw [e,<- RG];rfl
def LineQ (k:Nat)(l:Lp.Line):Prop:=QB k l.c/\∀ x∈l.f,QB k x
theorem LineQ.le {k m:Nat}{l:Lp.Line}(h:LineQ k l)(a:k<=m):LineQ m l:=⟨h.1.le a,fun x b=>(h.2 x b).le a⟩
theorem LineQ.g {k:Nat}{l:Lp.Line}(h:LineQ k l){j:Nat}(a:j<l.f.length):QB k (l.g j):=by
 unfold Lp.Line.g;rw [au,aj a];exact h.2 _ (RP _)
theorem QG (h:LineQ 16 l)(c:s<l.f.length)(a:l.g s≠0):LineQ 32 (Lp.byL l s):=by
 have b:=h.g c;refine ⟨js (fe h.1) b a,fun x d=>?_⟩;obtain ⟨q,e,rfl⟩:=QX.1 d;have i:=Q9.1 e;split
 ·exact js ⟨by decide,by decide⟩ b a
 exact js (fe (h.g i)) b a
theorem ug (C:Mem)(Q:Tabs C)(b n r s N:Nat)(t:Lp.Tab)(S T U d:Value)(a:Nat->Value)(V:t.Ok N)(hm:t.basic.length<=1000000)(aQ:t.others.length<=1000000)(B:r<t.basic.length)(W:s<t.others.length)(hk:(t.line r).g s≠0)(hq:∀ i,i<t.basic.length->LineQ 16 (t.line i))(aA:LineQ 16 t.worth) :
  Jog.Fn cx.P 179 [.pointer (some ⟨b,0,none⟩),.int .i64 r,.int .i64 s] C ((fg b n t S T U d a).map Lent.ent) fun u _ A=>u=.tuple #[]/\∃ aB,A=(fg b n (t.pivot r s) S T U d aB).map Lent.ent:=by
 have aR:maxLen<=9223372036854775807:=by simp [maxLen]
 have X:=ig V B;have aC:=V.wl;have J:=hq r B;have ag:s<(t.line r).f.length:=by omega
 have ar:=J.g ag;have au:=QG J ag hk;refine UD func179 123 U3 fun w0=>?_;rw [bi r s];refine UN (L':=[.obj b (.cells ⟨[.int .i64 n,S,T,U,ai (qtx t.worth.c),d]⟩ 212 (0,0)),.arr S 3 1 t.basic.length ((t.basic).map aM).flatten,.arr T 209 2 t.basic.length ((cQ t a).map bE).flatten,.arr U 3 1 t.others.length ((t.others).map aM).flatten,.arr d 56 1 t.others.length ((t.worth.f).map aZ).flatten]++(List.range t.basic.length).map (stE t a r s 0)) Z<|Wd 1 Z om_ (fun o p K=>?_);subst K;refine Wd 2 Z om_ (fun k l K=>?_);subst K;refine Wd 3 Z om_ (fun w x K=>?_);subst K;refine G.perm (L':=[.arr (a r) 56 1 t.others.length ((t.line r).f.map aZ).flatten,.obj b (.cells ⟨[.int .i64 n,.slice (some ⟨o,0,none⟩) t.basic.length p,.slice (some ⟨k,0,none⟩) t.basic.length l,.slice (some ⟨w,0,none⟩) t.others.length x,ai (qtx t.worth.c),d]⟩ 212 (0,0)),.arr (.slice (some ⟨o,0,none⟩) t.basic.length p) 3 1 t.basic.length ((t.basic).map aM).flatten,.arr (.slice (some ⟨k,0,none⟩) t.basic.length l) 209 2 t.basic.length ((cQ t a).map bE).flatten,.arr (.slice (some ⟨w,0,none⟩) t.others.length x) 3 1 t.others.length ((t.others).map aM).flatten,.arr d 56 1 t.others.length ((t.worth.f).map aZ).flatten]++((List.range t.basic.length).erase r).map (stE t a r s 0)) (by
  have h1:=lM range_nd (Q9.2 B) (stE t a r s 0) (stE t a r s 0) (fun _ _ _=>rfl);refine (List.Perm.append_left _ h1).trans ?_;have e:stE t a r s 0 r=.arr (a r) 56 1 t.others.length ((t.line r).f.map aZ).flatten:=by unfold stE;rw [tL]
  rw [e]
  (exact pkL [5] rfl)) ?_
 refine G.freezeArr 0 ((t.line r).f.map aZ) Z Z dM (by simp [X]) (fun _ _ L=>?_);obtain ⟨Y,c3,av,aD,aS,_⟩:=id L;rw [av] at L;simp only [al] at L aD;have aE:(cQ t a)[r]?=some ((t.line r).c,.slice Y (t.line r).f.length c3):=by rw [nS B,av,al]
 refine Uv 3 Z fun R y=>UE af U9<|Uy U6<|Va (r*2) U10 ah U2<|Vn (v:=.agg ⟨[ai (qtx (t.line r).c),.slice Y (t.line r).f.length c3]⟩) ac U6 (fun _=>(by rw [nZ aE];rfl)) U2<|UP U5 fun b6=>UG (j:=0) U12<|UA [0,1,2,6] y Z<|G.freeze 0 Z fun _ _ aj=>Uv 1 Z fun R y=>Uw (bkT aj 1) U8<|Uy U6<|UK L.m_ U10 om_ (dK ag) fl_ fun aT aF=>Uw aF U8<|C4 1 [0,1,2,6,7] y Z<|UW [(5,3)] Z fun R y=>UB 3 Z<|UE af U9<|Uy U6<|D.call (iY _ t.others.length om_) Z (.inr dc_) U6 (QW _) fl_ (fun aU _ aV _ aG=>?_);obtain ⟨z,rfl,rfl⟩:=aG;refine UO [ai [],.slice (some ⟨z,0,none⟩) t.others.length t.others.length] U8<|UP U5 fun E=>UG (j:=0) U12<|UA [0,1,2,6,7,8] y Z<|Uv 1 Z fun R y=>Uw (bkT aj 1) U8<|UM (eP _ (t.line r).c (Rb (bJ J.1 dc_) dc_)) U7 fl_<|Uy U6<|UM (gW _ Q.m_ (-(t.line r).c) ((t.line r).g s) 16 dc_ dc_ (fe J.1) ar hk) U7 fl_<|UB 4 Z<|UG (j:=0) U12<|UA [0,1,2,6,7,8] y Z<|Uv 1 Z fun R y=>Uw (bkT aj 1) U8<|C4 2 [0,1,2,7,8,41,42,43] y Z<|UN (L':=[.obj E (.cells ⟨[ai (qtx (Lp.byL (t.line r) s).c),.slice (some ⟨z,0,none⟩) t.others.length t.others.length]⟩ 209 (0,0)),.arr (.slice (some ⟨z,0,none⟩) t.others.length t.others.length) 56 1 t.others.length ((byF (t.line r) s 0).map aZ).flatten,.obj b (.cells ⟨[.int .i64 n,.slice (some ⟨o,0,none⟩) t.basic.length p,.slice (some ⟨k,0,none⟩) t.basic.length l,.slice (some ⟨w,0,none⟩) t.others.length x,ai (qtx t.worth.c),d]⟩ 212 (0,0)),.arr (.slice (some ⟨o,0,none⟩) t.basic.length p) 3 1 t.basic.length ((t.basic).map aM).flatten,.arr (.slice (some ⟨k,0,none⟩) t.basic.length l) 209 2 t.basic.length ((cQ t a).map bE).flatten,.arr (.slice (some ⟨w,0,none⟩) t.others.length x) 3 1 t.others.length ((t.others).map aM).flatten,.arr d 56 1 t.others.length ((t.worth.f).map aZ).flatten]++((List.range t.basic.length).erase r).map (stE t a r s 0)) (by rw [<- K1,X,<- tT];rfl)<|G.loop (fun fr C' A M=>∃ (j:Nat),(j<=(t.line r).f.length)/\fr=[(0,[],.pointer (some ⟨b,0,none⟩)),(1,[],.int .i64 r),(2,[],.int .i64 s),(7,[],ai (qtx ((t.line r).g s))),(8,[],.pointer (some ⟨E,0,none⟩)),(41,[],.slice Y (t.line r).f.length c3),(42,[],.int .i64 (t.line r).f.length),(43,[],.int .i64 j)]/\A=[.obj E (.cells ⟨[ai (qtx (Lp.byL (t.line r) s).c),.slice (some ⟨z,0,none⟩) t.others.length t.others.length]⟩ 209 (0,0)),.arr (.slice (some ⟨z,0,none⟩) t.others.length t.others.length) 56 1 t.others.length ((byF (t.line r) s j).map aZ).flatten,.obj b (.cells ⟨[.int .i64 n,.slice (some ⟨o,0,none⟩) t.basic.length p,.slice (some ⟨k,0,none⟩) t.basic.length l,.slice (some ⟨w,0,none⟩) t.others.length x,ai (qtx t.worth.c),d]⟩ 212 (0,0)),.arr (.slice (some ⟨o,0,none⟩) t.basic.length p) 3 1 t.basic.length ((t.basic).map aM).flatten,.arr (.slice (some ⟨k,0,none⟩) t.basic.length l) 209 2 t.basic.length ((cQ t a).map bE).flatten,.arr (.slice (some ⟨w,0,none⟩) t.others.length x) 3 1 t.others.length ((t.others).map aM).flatten,.arr d 56 1 t.others.length ((t.worth.f).map aZ).flatten]++((List.range t.basic.length).erase r).map (stE t a r s 0)/\M=(t.line r).f.length-j) (hn_ [0,1,2,7,8,41,42,43] Z) ⟨0,QT _,Z,Z,Z⟩ (fun fr aX aY m _ O=>?_);obtain ⟨j,hj,rfl,rfl,rfl⟩:=O;refine Uu 1 [0,1,2,7,8,41,42,43,44] Z<|Ux (fun ak=>?_) fun ak=>?_
 ·have I:j<(t.line r).f.length:=by
   have:=aJ ak;omega
  have aw:QB 16 (if j=s then (-1:Rat) else (t.line r).g j):=by
   split
   ·exact ⟨by decide,by decide⟩
   exact J.g I
  refine Uv 1 Z fun R y=>UK L.m_ U10 om_ (show ((t.line r).f.map aZ)[j]?=some (aZ ((t.line r).g j)) from dK I) fl_ fun a0 aH=>Uw aH U8<|C4 2 [0,1,2,7,8,9,10,41,42,43] y Z<|Uu 3 [0,1,2,7,8,9,10,41,42,43,50] Z<|G.cut (fun fr C' A M=>(True)/\fr=[(0,[],.pointer (some ⟨b,0,none⟩)),(1,[],.int .i64 r),(2,[],.int .i64 s),(7,[],ai (qtx ((t.line r).g s))),(8,[],.pointer (some ⟨E,0,none⟩)),(9,[],.int .i64 j),(10,[],ai (qtx (if j=s then (-1:Rat) else (t.line r).g j))),(41,[],.slice Y (t.line r).f.length c3),(42,[],.int .i64 (t.line r).f.length),(43,[],.int .i64 j)]/\A=[.obj E (.cells ⟨[ai (qtx (Lp.byL (t.line r) s).c),.slice (some ⟨z,0,none⟩) t.others.length t.others.length]⟩ 209 (0,0)),.arr (.slice (some ⟨z,0,none⟩) t.others.length t.others.length) 56 1 t.others.length ((byF (t.line r) s j).map aZ).flatten,.obj b (.cells ⟨[.int .i64 n,.slice (some ⟨o,0,none⟩) t.basic.length p,.slice (some ⟨k,0,none⟩) t.basic.length l,.slice (some ⟨w,0,none⟩) t.others.length x,ai (qtx t.worth.c),d]⟩ 212 (0,0)),.arr (.slice (some ⟨o,0,none⟩) t.basic.length p) 3 1 t.basic.length ((t.basic).map aM).flatten,.arr (.slice (some ⟨k,0,none⟩) t.basic.length l) 209 2 t.basic.length ((cQ t a).map bE).flatten,.arr (.slice (some ⟨w,0,none⟩) t.others.length x) 3 1 t.others.length ((t.others).map aM).flatten,.arr d 56 1 t.others.length ((t.worth.f).map aZ).flatten]++((List.range t.basic.length).erase r).map (stE t a r s 0)) ?_ (fun fr _ a1 M _ O=>?_)
  ·refine Ux (fun am=>?_) fun am=>?_
   ·have an:j=s:=by
     have ab:((j:Int) == (s:Int))=true:=am;have:=eq_of_beq ab;omega
    refine Uu 1 [0,1,2,7,8,9,10,41,42,43] Z<|UL 0 (Mem.le.refl _) (hn_ [0,1,2,7,8,9,10,41,42,43] Z) ⟨trivial,by rw [aW an,Pa];rfl,Z⟩
   have an:¬ j=s:=by
    have ab:((j:Int) == (s:Int))=false:=am;intro h;rw [h] at ab;simp at ab
   refine UL 0 (Mem.le.refl _) (hn_ [0,1,2,7,8,9,10,41,42,43] Z) ⟨trivial,by rw [az an],Z⟩
  obtain ⟨a2,rfl,rfl⟩:=O;refine US [0,1,2,3,4,5,6,7,8,9,10,11] [(4,1),(6,1)] Z kr_ fun R hB y=>Uy U6<|UE af U9<|UB 2 Z<|UT (fun _=>(eP _ (if j=s then (-1:Rat) else (t.line r).g j) (Rb (bJ aw dc_) dc_))) U9<|Uy U6<|UT (fun _=>(gW _ Q.m_ (-(if j=s then (-1:Rat) else (t.line r).g j)) ((t.line r).g s) 16 dc_ dc_ (fe aw) ar hk)) U9<|UB 3 Z<|Va (j*1) U10 ah U2<|Vc (j:=1) U11 (by show j*1+1<=_;rw [bS bK,kU];omega)<|UA [0,1,2,7,8,41,42,43] y Z<|Uz fun R y=>UF _ U7<|C4 1 [0,1,2,7,8,41,42,43] y Z<|G.perm (L':=[.obj E (.cells ⟨[ai (qtx (Lp.byL (t.line r) s).c),.slice (some ⟨z,0,none⟩) t.others.length t.others.length]⟩ 209 (0,0)),.arr (.slice (some ⟨z,0,none⟩) t.others.length t.others.length) 56 1 t.others.length ((byF (t.line r) s (j+1)).map aZ).flatten,.obj b (.cells ⟨[.int .i64 n,.slice (some ⟨o,0,none⟩) t.basic.length p,.slice (some ⟨k,0,none⟩) t.basic.length l,.slice (some ⟨w,0,none⟩) t.others.length x,ai (qtx t.worth.c),d]⟩ 212 (0,0)),.arr (.slice (some ⟨o,0,none⟩) t.basic.length p) 3 1 t.basic.length ((t.basic).map aM).flatten,.arr (.slice (some ⟨k,0,none⟩) t.basic.length l) 209 2 t.basic.length ((cQ t a).map bE).flatten,.arr (.slice (some ⟨w,0,none⟩) t.others.length x) 3 1 t.others.length ((t.others).map aM).flatten,.arr d 56 1 t.others.length ((t.worth.f).map aZ).flatten]++((List.range t.basic.length).erase r).map (stE t a r s 0)) (by rw [<- Oc I,<- bN bK _ (by rw [kU];exact I)];exact List.Perm.swap _ _ _)<|UH (m':=(t.line r).f.length-(j+1)) om_ mup (hn_ [0,1,2,7,8,41,42,43] Z) ⟨j+1,om_,Z,Z,Z⟩
 have I:j=(t.line r).f.length:=by
  have:=QS ak;omega
 rw [I,Od];refine G.freeze 0 Z fun _ _ ao=>Uv 3 Z fun R y=>UE ae U9<|C4 2 [0,1,2,8,67,68] y Z<|G.perm (L':=[.arr (.slice (some ⟨z,0,none⟩) t.others.length t.others.length) 56 1 t.others.length (((Lp.byL (t.line r) s).f).map aZ).flatten,.arr (.slice (some ⟨k,0,none⟩) t.basic.length l) 209 2 t.basic.length ((stV t a r s 0).map bE).flatten,.obj b (.cells ⟨[.int .i64 n,.slice (some ⟨o,0,none⟩) t.basic.length p,.slice (some ⟨k,0,none⟩) t.basic.length l,.slice (some ⟨w,0,none⟩) t.others.length x,ai (qtx t.worth.c),d]⟩ 212 (0,0)),.arr (.slice (some ⟨o,0,none⟩) t.basic.length p) 3 1 t.basic.length ((t.basic).map aM).flatten,.arr (.slice (some ⟨w,0,none⟩) t.others.length x) 3 1 t.others.length ((t.others).map aM).flatten,.arr d 56 1 t.others.length ((t.worth.f).map aZ).flatten]++((List.range t.basic.length).erase r).map (stE t a r s 0)) (by rw [IY];(exact pkL [0,2] Z))<|G.loop (fun fr C' A M=>∃ (i:Nat),(i<=t.basic.length)/\fr=[(0,[],.pointer (some ⟨b,0,none⟩)),(1,[],.int .i64 r),(2,[],.int .i64 s),(8,[],.pointer (some ⟨E,0,none⟩)),(67,[],.int .i64 t.basic.length),(68,[],.int .i64 i)]/\A=[.arr (.slice (some ⟨z,0,none⟩) t.others.length t.others.length) 56 1 t.others.length (((Lp.byL (t.line r) s).f).map aZ).flatten,.arr (.slice (some ⟨k,0,none⟩) t.basic.length l) 209 2 t.basic.length ((stV t a r s i).map bE).flatten,.obj b (.cells ⟨[.int .i64 n,.slice (some ⟨o,0,none⟩) t.basic.length p,.slice (some ⟨k,0,none⟩) t.basic.length l,.slice (some ⟨w,0,none⟩) t.others.length x,ai (qtx t.worth.c),d]⟩ 212 (0,0)),.arr (.slice (some ⟨o,0,none⟩) t.basic.length p) 3 1 t.basic.length ((t.basic).map aM).flatten,.arr (.slice (some ⟨w,0,none⟩) t.others.length x) 3 1 t.others.length ((t.others).map aM).flatten,.arr d 56 1 t.others.length ((t.worth.f).map aZ).flatten]++((List.range t.basic.length).erase r).map (stE t a r s i)/\M=t.basic.length-i) (hn_ [0,1,2,8,67,68] Z) ⟨0,QT _,Z,Z,Z⟩ (fun fr a3 a4 m _ O=>?_);obtain ⟨i,hi,rfl,rfl,rfl⟩:=O;refine Uu 1 [0,1,2,8,67,68,69] Z<|Ux (fun ap=>?_) fun ap=>?_
 ·have F:i<t.basic.length:=by
   have:=aJ ap;omega
  refine Uu 2 [0,1,2,8,11,67,68] Z<|Uu 3 [0,1,2,8,11,67,68,73] Z<|Ux (fun aq=>?_) fun aq=>?_
  ·have H:i≠r:=by
    have ad:(!((i:Int) == (r:Int)))=true:=aq;intro h;rw [h] at ad;simp at ad
   have ax:i∈(List.range t.basic.length).erase r:=(List.Nodup.mem_erase_iff range_nd).2 ⟨H,Q9.2 F⟩;have ay:=lM (range_nd.erase r) ax (stE t a r s i) (stE t a r s (i+1)) (fun q _ aI=>by unfold stE;rw [oQ aI]);have he:stE t a r s i i=.arr (a i) 56 1 t.others.length ((t.line i).f.map aZ).flatten:=by unfold stE;rw [(nQ H).1]
   have aL:stE t a r s (i+1) i=.arr (a i) 56 1 t.others.length ((Lp.putL (t.line i) s (Lp.byL (t.line r) s)).f.map aZ).flatten:=by unfold stE;rw [(nQ H).2]
   have aN:(stV t a r s i)[i]?=some ((t.line i).c,a i):=by rw [AF F,(nQ H).1]
   rw [he] at ay;refine G.perm (L':=[.arr (.slice (some ⟨z,0,none⟩) t.others.length t.others.length) 56 1 t.others.length (((Lp.byL (t.line r) s).f).map aZ).flatten,.arr (.slice (some ⟨k,0,none⟩) t.basic.length l) 209 2 t.basic.length ((stV t a r s i).map bE).flatten,.arr (a i) 56 1 t.others.length ((t.line i).f.map aZ).flatten,.obj b (.cells ⟨[.int .i64 n,.slice (some ⟨o,0,none⟩) t.basic.length p,.slice (some ⟨k,0,none⟩) t.basic.length l,.slice (some ⟨w,0,none⟩) t.others.length x,ai (qtx t.worth.c),d]⟩ 212 (0,0)),.arr (.slice (some ⟨o,0,none⟩) t.basic.length p) 3 1 t.basic.length ((t.basic).map aM).flatten,.arr (.slice (some ⟨w,0,none⟩) t.others.length x) 3 1 t.others.length ((t.others).map aM).flatten,.arr d 56 1 t.others.length ((t.worth.f).map aZ).flatten]++(((List.range t.basic.length).erase r).erase i).map (stE t a r s (i+1))) ((List.Perm.append_left _ ay).trans (pkL [0,0,4] Z))<|US [0,1,2,3,4,5,6,7,8] [(8,3)] Z kr_ fun R hB y=>UB 3 Z<|UE aa U9<|Uy U6<|Va (i*2) U10 ah U2<|Uy U6<|Uw (bkT ao 2) U8<|D.call (Jy _ Q.m_ k t.basic.length l i t.others.length s (a i) (.slice (some ⟨z,0,none⟩) t.others.length t.others.length) (stV t a r s i) (t.line i) (Lp.byL (t.line r) s) iT aN (ig V F) (by rw [vf];exact X) W ((hq i F).le dc_) (au.le dc_)) Z (.inr dc_) U6 (pkL [0,0,0] Z) fl_ fun a5 _ a6 _ aO=>UA [0,1,2,8,67,68] y Z ?_;obtain ⟨-,rfl⟩:=aO;refine G.perm (L':=[.arr (.slice (some ⟨z,0,none⟩) t.others.length t.others.length) 56 1 t.others.length (((Lp.byL (t.line r) s).f).map aZ).flatten,.arr (.slice (some ⟨k,0,none⟩) t.basic.length l) 209 2 t.basic.length ((stV t a r s (i+1)).map bE).flatten,.obj b (.cells ⟨[.int .i64 n,.slice (some ⟨o,0,none⟩) t.basic.length p,.slice (some ⟨k,0,none⟩) t.basic.length l,.slice (some ⟨w,0,none⟩) t.others.length x,ai (qtx t.worth.c),d]⟩ 212 (0,0)),.arr (.slice (some ⟨o,0,none⟩) t.basic.length p) 3 1 t.basic.length ((t.basic).map aM).flatten,.arr (.slice (some ⟨w,0,none⟩) t.others.length x) 3 1 t.others.length ((t.others).map aM).flatten,.arr d 56 1 t.others.length ((t.worth.f).map aZ).flatten]++((List.range t.basic.length).erase r).map (stE t a r s (i+1))) (by
    rw [<- MF F H];refine List.Perm.trans (l₂:=[.arr (.slice (some ⟨z,0,none⟩) t.others.length t.others.length) 56 1 t.others.length (((Lp.byL (t.line r) s).f).map aZ).flatten,.arr (.slice (some ⟨k,0,none⟩) t.basic.length l) 209 2 t.basic.length (((stV t a r s i).set i ((Lp.putL (t.line i) s (Lp.byL (t.line r) s)).c,a i)).map bE).flatten,.obj b (.cells ⟨[.int .i64 n,.slice (some ⟨o,0,none⟩) t.basic.length p,.slice (some ⟨k,0,none⟩) t.basic.length l,.slice (some ⟨w,0,none⟩) t.others.length x,ai (qtx t.worth.c),d]⟩ 212 (0,0)),.arr (.slice (some ⟨o,0,none⟩) t.basic.length p) 3 1 t.basic.length ((t.basic).map aM).flatten,.arr (.slice (some ⟨w,0,none⟩) t.others.length x) 3 1 t.others.length ((t.others).map aM).flatten,.arr d 56 1 t.others.length ((t.worth.f).map aZ).flatten]++(.arr (a i) 56 1 t.others.length ((Lp.putL (t.line i) s (Lp.byL (t.line r) s)).f.map aZ).flatten::(((List.range t.basic.length).erase r).erase i).map (stE t a r s (i+1)))) (pkL [0,0,1,1,1,1] Z) (List.Perm.append_left _ ?_);rw [<- aL];exact (lM (range_nd.erase r) ax (stE t a r s (i+1)) (stE t a r s (i+1)) (fun _ _ _=>rfl)).symm) ?_
   refine Uz fun R y=>UF _ U7<|C4 1 [0,1,2,8,67,68] y Z<|UH (m':=t.basic.length-(i+1)) om_ mup (hn_ [0,1,2,8,67,68] Z) ⟨i+1,om_,Z,Z,Z⟩
  have H:i=r:=by
   have ad:(!((i:Int) == (r:Int)))=false:=aq;simp at ad;omega
  refine UN (L':=[.arr (.slice (some ⟨z,0,none⟩) t.others.length t.others.length) 56 1 t.others.length (((Lp.byL (t.line r) s).f).map aZ).flatten,.arr (.slice (some ⟨k,0,none⟩) t.basic.length l) 209 2 t.basic.length ((stV t a r s (i+1)).map bE).flatten,.obj b (.cells ⟨[.int .i64 n,.slice (some ⟨o,0,none⟩) t.basic.length p,.slice (some ⟨k,0,none⟩) t.basic.length l,.slice (some ⟨w,0,none⟩) t.others.length x,ai (qtx t.worth.c),d]⟩ 212 (0,0)),.arr (.slice (some ⟨o,0,none⟩) t.basic.length p) 3 1 t.basic.length ((t.basic).map aM).flatten,.arr (.slice (some ⟨w,0,none⟩) t.others.length x) 3 1 t.others.length ((t.others).map aM).flatten,.arr d 56 1 t.others.length ((t.worth.f).map aZ).flatten]++((List.range t.basic.length).erase r).map (stE t a r s (i+1))) (by
   have e:stE t a r s (r+1)=stE t a r s r:=funext fun q=>by unfold stE;rw [AG]
   rw [H,IZ,e]) ?_
  refine Uz fun R y=>UF _ U7<|C4 1 [0,1,2,8,67,68] y Z<|UH (m':=t.basic.length-(i+1)) om_ mup (hn_ [0,1,2,8,67,68] Z) ⟨i+1,om_,Z,Z,Z⟩
 have F:i=t.basic.length:=by
  have:=QS ap;omega
 rw [F];refine G.perm (L':=[.arr (.slice (some ⟨z,0,none⟩) t.others.length t.others.length) 56 1 t.others.length (((Lp.byL (t.line r) s).f).map aZ).flatten,.obj b (.cells ⟨[.int .i64 n,.slice (some ⟨o,0,none⟩) t.basic.length p,.slice (some ⟨k,0,none⟩) t.basic.length l,.slice (some ⟨w,0,none⟩) t.others.length x,ai (qtx t.worth.c),d]⟩ 212 (0,0)),.arr d 56 1 t.others.length ((t.worth.f).map aZ).flatten,.arr (.slice (some ⟨k,0,none⟩) t.basic.length l) 209 2 t.basic.length ((stV t a r s t.basic.length).map bE).flatten,.arr (.slice (some ⟨o,0,none⟩) t.basic.length p) 3 1 t.basic.length ((t.basic).map aM).flatten,.arr (.slice (some ⟨w,0,none⟩) t.others.length x) 3 1 t.others.length ((t.others).map aM).flatten]++((List.range t.basic.length).erase r).map (stE t a r s t.basic.length)) (pkL [0,1,3,0,0,0] Z)<|US [0,1,2,3,4,5] [(5,3)] Z kr_ fun R hB y=>UB 4 Z<|Uw (bkT ao 2) U8<|D.call (Jw _ Q.m_ b t.others.length s (.int .i64 n) (.slice (some ⟨o,0,none⟩) t.basic.length p) (.slice (some ⟨k,0,none⟩) t.basic.length l) (.slice (some ⟨w,0,none⟩) t.others.length x) d (.slice (some ⟨z,0,none⟩) t.others.length t.others.length) t.worth (Lp.byL (t.line r) s) aC (by rw [vf];exact X) W (aA.le dc_) (au.le dc_)) Z (.inr dc_) U6 (pkL [0,0,0] Z) fl_ fun a7 _ a8 _ aP=>UA [0,1,2,8] y Z ?_;obtain ⟨-,rfl⟩:=aP;refine G.perm (L':=[.obj b (.cells ⟨[.int .i64 n,.slice (some ⟨o,0,none⟩) t.basic.length p,.slice (some ⟨k,0,none⟩) t.basic.length l,.slice (some ⟨w,0,none⟩) t.others.length x,ai (qtx (Lp.putL t.worth s (Lp.byL (t.line r) s)).c),d]⟩ 212 (0,0)),.arr (.slice (some ⟨o,0,none⟩) t.basic.length p) 3 1 t.basic.length ((t.basic).map aM).flatten,.arr (.slice (some ⟨k,0,none⟩) t.basic.length l) 209 2 t.basic.length ((stV t a r s t.basic.length).map bE).flatten,.arr (.slice (some ⟨w,0,none⟩) t.others.length x) 3 1 t.others.length ((t.others).map aM).flatten,.arr d 56 1 t.others.length (((Lp.putL t.worth s (Lp.byL (t.line r) s)).f).map aZ).flatten,.arr (.slice (some ⟨z,0,none⟩) t.others.length t.others.length) 56 1 t.others.length (((Lp.byL (t.line r) s).f).map aZ).flatten]++((List.range t.basic.length).erase r).map (stE t a r s t.basic.length)) (pkL [1,3,2,2,1] Z)<|US [0,1,2,3,4,5,6,7] [] Z kr_ fun R hB y=>UB 3 Z<|UE af U9<|Uy U6<|Uw (bkT ao 2) U8<|Va (r*2) U10 ah U2<|Vc (j:=2) U11 (by show r*2+2<=_;rw [bS gH,iT];omega)<|UA [0,1,2] y Z<|UN (L':=[.arr (.slice (some ⟨k,0,none⟩) t.basic.length l) 209 2 t.basic.length (((stV t a r s t.basic.length).set r ((Lp.byL (t.line r) s).c,.slice (some ⟨z,0,none⟩) t.others.length t.others.length)).map bE).flatten,.obj b (.cells ⟨[.int .i64 n,.slice (some ⟨o,0,none⟩) t.basic.length p,.slice (some ⟨k,0,none⟩) t.basic.length l,.slice (some ⟨w,0,none⟩) t.others.length x,ai (qtx (Lp.putL t.worth s (Lp.byL (t.line r) s)).c),d]⟩ 212 (0,0)),.arr (.slice (some ⟨o,0,none⟩) t.basic.length p) 3 1 t.basic.length ((t.basic).map aM).flatten,.arr (.slice (some ⟨w,0,none⟩) t.others.length x) 3 1 t.others.length ((t.others).map aM).flatten,.arr d 56 1 t.others.length (((Lp.putL t.worth s (Lp.byL (t.line r) s)).f).map aZ).flatten,.arr (.slice (some ⟨z,0,none⟩) t.others.length t.others.length) 56 1 t.others.length (((Lp.byL (t.line r) s).f).map aZ).flatten]++((List.range t.basic.length).erase r).map (stE t a r s t.basic.length)) (by rw [<- bN gH _ (by rw [iT];exact B)];rfl)<|US [0,1,2,3,4,5,6,7,8,9,10,11,12,13,14,15,16,17,18,19,20,21,22,23,24,25,26,27] [] Z kr_ fun R hB y=>UB 3 Z<|UE ae U9<|UB 4 Z<|UE ae U9<|UB 4 Z<|UE ae U9<|Uy U6<|Va (s*1) U10 ah U2<|Vn aa U6 (fun _=>(by rw [eE fx (show t.others[s]?=some (t.oth s) from yx W)];rfl)) U2<|UB 3 Z<|UE ae U9<|Uy U6<|Va (r*1) U10 ah U2<|Vn ac U6 (fun _=>(by rw [eE fx (show t.basic[r]?=some (t.bas r) from yx B)];rfl)) U2<|Va (r*1) U10 ah U2<|Vc (j:=2) U11 (by show r*1+1<=_;rw [bS fx];omega)<|Va (s*1) U10 ah U2<|Vc (j:=3) U11 (by show s*1+1<=_;rw [bS fx];omega)<|VE [] trivial (y _ _ _ Z ?_);refine G.perm (L':=(fg b n (t.pivot r s) (.slice (some ⟨o,0,none⟩) t.basic.length p) (.slice (some ⟨k,0,none⟩) t.basic.length l) (.slice (some ⟨w,0,none⟩) t.others.length x) d (fun q=>if q=r then (.slice (some ⟨z,0,none⟩) t.others.length t.others.length) else a q)).map Lent.ent) (by
  refine List.Perm.trans ?_ (ME V B);rw [<- bN fx _ B,<- bN fx _ W]
  (exact pkL [3,1,1,0,0,0] rfl)) ?_
 exact VI Z<|⟨Z,_,Z⟩
theorem uu (h:Lp.Inv p cc t)(b:Lp.Lim p cc 16)(a:i<t.basic.length):LineQ 16 (t.line i):=by
 refine ⟨h.con b a,fun x c=>?_⟩;obtain ⟨s,hs,rfl⟩:=List.mem_iff_getElem.1 c;have d:=ig h.tab.ok a;have h1:=h.fac b a (s:=s) om_;unfold Lp.Line.g at h1;rw [au,aj hs] at h1;exact h1
theorem oB (h:Lp.Inv p cc t)(a:Lp.Lim p cc 16):LineQ 16 t.worth:=by
 refine ⟨h.wcon a,fun x b=>?_⟩;obtain ⟨s,hs,rfl⟩:=List.mem_iff_getElem.1 b;have c:=h.tab.ok.wl;have h1:=h.wfac a (s:=s) om_;unfold Lp.Line.g at h1;rw [au,aj hs] at h1;exact h1
theorem LineQ.g0 {k:Nat}(h:LineQ k l)(a:k<=m)(b:1<=m)(j:Nat):QB m (l.g j):=by
 unfold Lp.Line.g;rw [au];by_cases c:j<l.f.length
 ·rw [aj c];exact (h.2 _ (RP _)).le a
 rw [QY om_];exact Lp.qb_zero b
theorem mC {c:Nat->Prop}(h:Lp.LeastR vs q n o)(e:∀ i,i<n->(q i ↔ c i)):Lp.LeastR vs c n o:=by
 cases h with
 | none h=>exact .none fun i a b=>h i a ((e i a).2 b)
 | some i a b hm=>exact .some i a ((e i a).1 b) fun j d f=>hm j d ((e j d).2 f)
theorem ij (h:Lp.LeastR vs q n o)(a:¬ o<0):∃ i:Nat,o=i/\i<n/\q i/\∀ j,j<n->q j->vs.getD i 0<=vs.getD j 0:=by
 cases h with
 | none h=>exact absurd dc_ a
 | some i b c hm=>exact ⟨i,rfl,b,c,hm⟩
theorem ik (h:Lp.LeastR vs q n o)(a:o<0):∀ i,i<n->¬ q i:=by
 cases h with
 | none h=>exact h
 | some i b c hm=>omega
section
variable {C:Mem} {a a2 b n N:Nat} {r:Int} {t:Lp.Tab} {wB wL wO wW:Value} {wF:Nat->Value}
theorem AA (c:t.Ok N):∀ x∈.obj a2 [.int .i64 r] 3::fg b n t wB wL wO wW wF,x.wf:=fun x a=>by
 rcases Q3.1 a with rfl | a
 ·trivial
 exact gg c x a
theorem GW (d:t.Ok N)(j:C a=some (.cells ⟨[.pointer (some ⟨b,0,none⟩)]⟩ 202 (0,0)))(k:∀ i,i<t.basic.length->LineQ 16 (t.line i)) :
  Jog.Fn cx.P 180 [wB,.func (.func 181) #[] #[.pointer (some ⟨a,0,none⟩)]] C ((.obj a2 [.int .i64 r] 3::fg b n t wB wL wO wW wF).map Lent.ent)
   fun u _ e=>(∃ o:Int,u=.int .i64 o/\Lp.LeastR t.basic (fun i=>n<=t.bas i/\(t.line i).c<0) t.basic.length o)/\e=(.obj a2 [.int .i64 r] 3::fg b n t wB wL wO wW wF).map Lent.ent:=by
 refine VH kr_ _ (AA d) fun C' l hs=>?_;have f:=eX d fun x m=>hs x (Q0 _ m);refine (oa C' wB t.basic 181 [.pointer (some ⟨a,0,none⟩)] (fun i=>decide (n<=t.bas i) && decide ((t.line i).c<0)) f.B kr_ fun i g D h =>
  Kw D a b n i N t wB wL wO wW _ (f.mono h) d ((l.trans h) _ _ j) g ((k i g).1.le dc_)).mono ?_
 rintro u D e _ ⟨h1,o,rfl,h2⟩;exact ⟨h1,o,Z,mC h2 fun i _=>by simp⟩
theorem GV {r:Nat}(c:t.Ok N)(h:C a=some (.cells ⟨[.pointer (some ⟨b,0,none⟩)]⟩ 202 (0,0)))(j:r<t.basic.length)(k:LineQ 16 (t.line r)) :
  Jog.Fn cx.P 180 [wO,.func (.func 182) #[] #[.pointer (some ⟨a,0,none⟩),.pointer (some ⟨a2,0,none⟩)]] C ((.obj a2 [.int .i64 r] 3::fg b n t wB wL wO wW wF).map Lent.ent)
   fun u _ e=>(∃ o:Int,u=.int .i64 o/\Lp.LeastR t.others (fun i=>n<=t.oth i/\0<(t.line r).g i) t.others.length o)/\e=(.obj a2 [.int .i64 r] 3::fg b n t wB wL wO wW wF).map Lent.ent:=by
 refine VH kr_ _ (AA c) fun C' l hs=>?_;have f:=eX c fun x m=>hs x (Q0 _ m);have h2:=hs _ (Qb ..);refine (oa C' wO t.others 182 [.pointer (some ⟨a,0,none⟩),.pointer (some ⟨a2,0,none⟩)] (fun i=>decide (n<=t.oth i) && decide (0<(t.line r).g i)) f.O kr_ fun i p D d =>
  Kv D a a2 b n i r N t wB wL wO wW _ (f.mono d) c ((l.trans d) _ _ h) (d _ _ h2) j p (k.g0 dc_ dc_ i)).mono ?_
 rintro u D e _ ⟨h1,o,rfl,h2⟩;exact ⟨h1,o,Z,mC h2 fun i _=>by simp⟩
end
inductive FeasO (p:Lp.Sys) (t:Lp.Tab):Value->Prop where
 | yes:t.Feas p.n->FeasO p t (.tuple #[.int .i64 0,.bool true])
 | no (r:Nat):r<t.basic.length->p.n<=t.bas r->(t.line r).c<0->(∀ s,s<t.others.length->p.n<=t.oth s->(t.line r).g s<=0)->FeasO p t (.tuple #[.int .i64 r,.bool false])
theorem yT (C:Mem)(X:Tabs C)(p:Lp.Sys)(A:Nat->Rat)(b:Nat)(d:Lp.Tab)(e h k l:Value)(B:Nat->Value)(q:Lp.Inv p A d)(a:Lp.Rel p.n d p.n)(S:Lp.Lim p A 16)(Y:p.m<=1000000)(hn:p.n<=1000000) :
  Jog.Fn cx.P 116 [.pointer (some ⟨b,0,none⟩)] C ((fg b p.n d e h k l B).map Lent.ent) fun u _ w=>∃ t wF,Lp.Inv p A t/\Lp.Rel p.n t p.n/\FeasO p t u/\w=(fg b p.n t e h k l wF).map Lent.ent:=by
 have an:maxLen<=9223372036854775807:=by simp [maxLen]
 refine UD func116 26 U3 fun w0=>?_;refine Uz fun R a=>?_;refine UQ U6 (fun b1=>?_);refine UP U5 (fun v=>?_);refine C4 1 [1,2] a Z ?_;clear a R;refine G.freeze 1 Z (fun _ _ x=>?_);refine UN (L':=[.obj v (.cells ⟨[.int .i64 0]⟩ 3 (0,0)),.obj b (.cells ⟨[.int .i64 p.n,e,h,k,ai (qtx d.worth.c),l]⟩ 212 (0,0)),.arr e 3 1 d.basic.length ((d.basic).map aM).flatten,.arr h 209 2 d.basic.length ((cQ d B).map bE).flatten,.arr k 3 1 d.others.length ((d.others).map aM).flatten,.arr l 56 1 d.others.length ((d.worth.f).map aZ).flatten]++(List.range d.basic.length).map (stE d B 0 0 0)) (by rw [bi 0 0];rfl) ?_;refine G.loop (fun fr C' w μ=>∃ (t:Lp.Tab)(wF:Nat->Value)(o:Int)(E:Nat),(Lp.Inv p A t/\Lp.Rel p.n t p.n/\∀ K,Lp.Reach (Lp.FeasP p.n) t K->K<=E)/\fr=[(1,[],.pointer (some ⟨b1,0,none⟩)),(2,[],.pointer (some ⟨v,0,none⟩))]/\w=[.obj v (.cells ⟨[.int .i64 o]⟩ 3 (0,0)),.obj b (.cells ⟨[.int .i64 p.n,e,h,k,ai (qtx t.worth.c),l]⟩ 212 (0,0)),.arr e 3 1 t.basic.length ((t.basic).map aM).flatten,.arr h 209 2 t.basic.length ((cQ t wF).map bE).flatten,.arr k 3 1 t.others.length ((t.others).map aM).flatten,.arr l 56 1 t.others.length ((t.worth.f).map aZ).flatten]++(List.range t.basic.length).map (stE t wF 0 0 0)/\μ=E) (hn_ [1,2] Z) ⟨d,B,0,2 ^ (p.n+p.m),⟨q,a,fun K F=>Lp.feas_len q.tab.ok F⟩,Z,Z,Z⟩ (fun fr ao ap m _ q=>?_);obtain ⟨t,wF,o,E,⟨q,a,F⟩,rfl,rfl,rfl⟩:=q;have ok:=q.tab.ok;have aa:t.basic.length<=1000000:=by rw [q.tab.lb];exact Y
 have ab:t.others.length<=1000000:=by rw [q.tab.lo];exact hn
 have H:∀ i,i<t.basic.length->LineQ 16 (t.line i):=fun i y=>uu q S y;refine UW [(5,3)] Z (fun R a=>?_);refine Uw (bkT x 1) U8 ?_;refine UB 2 Z ?_;refine UE ae U9 ?_;refine Uy U6 ?_;refine D.call (GW ok (Mem.get x mup) H) Z (.inr dc_) U6 (show List.Perm _ (((.obj v [.int .i64 o] 3::fg b p.n t e h k l wF).map Lent.ent)++[]) from List.Perm.of_eq (by rw [Rf,Rs,bi 0 0];rfl)) fl_ (fun aq _ ar _ ac=>?_);obtain ⟨⟨o1,rfl,T⟩,rfl⟩:=ac;refine UG (j:=0) U12 ?_;refine UA [1,2] a Z ?_;clear a R;refine UN (L':=[.obj v (.cells ⟨[.int .i64 o1]⟩ 3 (0,0)),.obj b (.cells ⟨[.int .i64 p.n,e,h,k,ai (qtx t.worth.c),l]⟩ 212 (0,0)),.arr e 3 1 t.basic.length ((t.basic).map aM).flatten,.arr h 209 2 t.basic.length ((cQ t wF).map bE).flatten,.arr k 3 1 t.others.length ((t.others).map aM).flatten,.arr l 56 1 t.others.length ((t.worth.f).map aZ).flatten]++(List.range t.basic.length).map (stE t wF 0 0 0)) (by rw [Rf,Rs,bi 0 0];rfl) ?_;refine Uz fun R a=>?_;refine UE af U9 ?_;refine C4 1 [1,2,12] a Z ?_;clear a R;refine Ux (fun I=>?_) fun I=>?_
 ·have J:o1<0:=aJ I;have L:=ik T J;refine Uz fun R a=>?_;refine UG (j:=0) U12 ?_;refine C4 1 [2,3] a Z ?_;clear a R;refine UJ (Ww 0 Z Z Z Z Z Z ?_);exact ⟨t,wF,q,a,.yes (fun i y z=>by have:=L i y;grind),by rw [bi 0 0];rfl⟩
 have J:¬ o1<0:=QS I;obtain ⟨r,rfl,hr,⟨M,U⟩,ad⟩:=ij T J;refine UW [(5,3)] Z (fun R a=>?_);refine Uw (bkT x 1) U8 ?_;refine UB 2 Z ?_;refine UE ae U9 ?_;refine Uy U6 ?_;refine D.call (GV ok (Mem.get x mup) hr (H r hr)) Z (.inr dc_) U6 (show List.Perm _ (((.obj v [.int .i64 (r:Nat)] 3::fg b p.n t e h k l wF).map Lent.ent)++[]) from List.Perm.of_eq (by rw [Rf,Rs,bi 0 0];rfl)) fl_ (fun au _ av _ ag=>?_);refine C4 1 [1,2,4] a Z ?_;clear a R;obtain ⟨⟨o2,rfl,V⟩,rfl⟩:=ag;refine UN (L':=[.obj v (.cells ⟨[.int .i64 (r:Nat)]⟩ 3 (0,0)),.obj b (.cells ⟨[.int .i64 p.n,e,h,k,ai (qtx t.worth.c),l]⟩ 212 (0,0)),.arr e 3 1 t.basic.length ((t.basic).map aM).flatten,.arr h 209 2 t.basic.length ((cQ t wF).map bE).flatten,.arr k 3 1 t.others.length ((t.others).map aM).flatten,.arr l 56 1 t.others.length ((t.worth.f).map aZ).flatten]++(List.range t.basic.length).map (stE t wF 0 0 0)) (by rw [Rf,Rs,bi 0 0];rfl) ?_;refine Uu 2 [1,2,4,20] Z ?_;refine Ux (fun N=>?_) fun N=>?_
 ·have O:o2<0:=aJ N;have L:=ik V O;refine Uz fun R a=>?_;refine UE af U9 ?_;refine UG (j:=0) U12 ?_;refine C4 1 [2,3] a Z ?_;clear a R;refine UJ (Ww 0 Z Z Z Z Z Z ?_);exact ⟨t,wF,q,a,.no r hr M U (fun s hs z=>by have:=L s hs;grind),by rw [bi 0 0];rfl⟩
 have O:¬ o2<0:=QS N;obtain ⟨s,rfl,hs,⟨ah,aj⟩,ak⟩:=ij V O;have hP:Lp.FeasP p.n t r s:=⟨hr,hs,M,ah,U,fun i y z hc=>ad i y ⟨z,hc⟩,aj,fun j hj z hg=>ak j hj ⟨z,hg⟩⟩;have W:(t.line r).g s≠0:=by grind
 obtain ⟨aw,al⟩:=Lp.Reach.fall hP F;refine UW [(3,3)] Z (fun R a=>?_);refine Uw (bkT x 1) U8 ?_;refine UE af U9 ?_;refine Uy U6 ?_;refine D.call (ug _ X.m_ b p.n r s (p.n+p.m) t e h k l wF ok aa ab hr hs W H (oB q S)) Z (.inr dc_) U6 (by rw [bi 0 0];exact (List.perm_append_singleton _ _).symm) fl_ (fun ax _ ay _ am=>?_);refine UA [1,2] a Z ?_;clear a R;obtain ⟨-,Q,rfl⟩:=am;refine G.perm (L':=[.obj v (.cells ⟨[.int .i64 (r:Nat)]⟩ 3 (0,0)),.obj b (.cells ⟨[.int .i64 p.n,e,h,k,ai (qtx (t.pivot r s).worth.c),l]⟩ 212 (0,0)),.arr e 3 1 (t.pivot r s).basic.length (((t.pivot r s).basic).map aM).flatten,.arr h 209 2 (t.pivot r s).basic.length ((cQ (t.pivot r s) Q).map bE).flatten,.arr k 3 1 (t.pivot r s).others.length (((t.pivot r s).others).map aM).flatten,.arr l 56 1 (t.pivot r s).others.length (((t.pivot r s).worth.f).map aZ).flatten]++(List.range (t.pivot r s).basic.length).map (stE (t.pivot r s) Q 0 0 0)) (by rw [bi 0 0];exact List.perm_append_singleton _ _) ?_;refine UH (m':=m-1) om_ mup (hn_ [1,2] Z) ⟨t.pivot r s,Q,(r:Int),m-1,⟨q.pivot hr hs W,Lp.rel_pivot ok a hr hs M,al⟩,Z,Z,Z⟩
section
variable {C:Mem} {a b n N:Nat} {t:Lp.Tab} {wB wL wO wW:Value} {wF:Nat->Value}
theorem GU (c:t.Ok N)(h:C a=some (.cells ⟨[.pointer (some ⟨b,0,none⟩)]⟩ 202 (0,0))) :
  Jog.Fn cx.P 180 [wO,.func (.func 183) #[] #[.pointer (some ⟨a,0,none⟩)]] C ((fg b n t wB wL wO wW wF).map Lent.ent)
   fun u _ d=>(∃ o:Int,u=.int .i64 o/\Lp.LeastR t.others (fun i=>¬ n<=t.oth i/\¬ t.worth.g i=0) t.others.length o)/\d=(fg b n t wB wL wO wW wF).map Lent.ent:=by
 refine VH kr_ _ (gg c) fun C' j hs=>?_;have e:=eX c hs;refine (oa C' wO t.others 183 [.pointer (some ⟨a,0,none⟩)] (fun i=>!decide (n<=t.oth i) && !decide (t.worth.g i=0)) e.O kr_ fun i k D f =>
  NA D a b n i N t wB wL wO wW _ (e.mono f) c ((j.trans f) _ _ h) k).mono ?_
 rintro u D d _ ⟨h1,o,rfl,h2⟩;exact ⟨h1,o,Z,mC h2 fun i _=>by simp⟩
theorem GS (c:t.Ok N)(h:C a=some (.cells ⟨[.pointer (some ⟨b,0,none⟩)]⟩ 202 (0,0)))(j:LineQ 16 t.worth) :
  Jog.Fn cx.P 180 [wO,.func (.func 184) #[] #[.pointer (some ⟨a,0,none⟩)]] C ((fg b n t wB wL wO wW wF).map Lent.ent)
   fun u _ d=>(∃ o:Int,u=.int .i64 o/\Lp.LeastR t.others (fun i=>n<=t.oth i/\t.worth.g i<0) t.others.length o)/\d=(fg b n t wB wL wO wW wF).map Lent.ent:=by
 refine VH kr_ _ (gg c) fun C' k hs=>?_;have e:=eX c hs;refine (oa C' wO t.others 184 [.pointer (some ⟨a,0,none⟩)] (fun i=>decide (n<=t.oth i) && decide (t.worth.g i<0)) e.O kr_ fun i l D f =>
  Ny D a b n i N t wB wL wO wW _ (e.mono f) c ((k.trans f) _ _ h) l (j.g0 dc_ dc_ i)).mono ?_
 rintro u D d _ ⟨h1,o,rfl,h2⟩;exact ⟨h1,o,Z,mC h2 fun i _=>by simp⟩
theorem GR {s:Nat}(f:Tabs C)(a:t.Ok N)(d:s<t.others.length)(e:∀ i,i<t.basic.length->LineQ 16 (t.line i)) :
  Jog.Fn cx.P 185 [.pointer (some ⟨b,0,none⟩),.int .i64 s] C ((fg b n t wB wL wO wW wF).map Lent.ent)
   fun u _ h=>(∃ o:Int,u=.int .i64 o/\Lp.LeaveR n t s t.basic.length o)/\h=(fg b n t wB wL wO wW wF).map Lent.ent :=
 VH kr_ _ (gg a) fun C' j k=>J9 C' (f.mono j) b n s N t wB wL wO wW _ (eX a k) a d fun i c=>⟨(e i c).1,(e i c).g (by rw [ig a c];exact d)⟩
end
theorem yF (h:Lp.LeaveR F t s n o)(a:o<0):∀ i,i<n->F<=t.bas i->0<=(t.line i).g s:=by
 cases h with
 | none h=>exact h
 | some r _ _ _ _=>omega
theorem yE (h:Lp.LeaveR F t s n o)(a:¬ o<0):∃ r:Nat,o=r/\r<n/\F<=t.bas r/\(t.line r).g s<0 /\
  ∀ i,i<n->F<=t.bas i->(t.line i).g s<0->(t.line r).c / -(t.line r).g s<(t.line i).c / -(t.line i).g s∨(t.line r).c / -(t.line r).g s=(t.line i).c / -(t.line i).g s/\t.bas r<=t.bas i:=by
 cases h with
 | none h=>exact absurd dc_ a
 | some r h1 h2 h3 h4=>exact ⟨r,rfl,h1,h2,h3,h4⟩
inductive MinO (p:Lp.Sys) (t:Lp.Tab):Value->Prop where
 | yes:Lp.RelW p.n t->(∀ s,s<t.others.length->p.n<=t.oth s->0<=t.worth.g s)->MinO p t (.tuple #[.int .i64 0,.bool true])
 | no (s:Nat):s<t.others.length->kX t s*t.worth.g s<0->(∀ i,i<t.basic.length->p.n<=t.bas i->0<=kX t s*(t.line i).g s)->(p.n<=t.oth s->0<=kX t s)->MinO p t (.tuple #[.int .i64 s,.bool false])
theorem yy (C:Mem)(U:Tabs C)(p:Lp.Sys)(F:Nat->Rat)(b:Nat)(a:Lp.Tab)(e k l o:Value)(v:Nat->Value)(q:Lp.Inv p F a)(d:Lp.Rel p.n a p.n)(A:a.Feas p.n)(V:Lp.Lim p F 16)(hm:p.m<=1000000)(hn:p.n<=1000000) :
  Jog.Fn cx.P 118 [.pointer (some ⟨b,0,none⟩)] C ((fg b p.n a e k l o v).map Lent.ent) fun u _ w=>∃ t wF,Lp.Inv p F t/\t.Feas p.n/\MinO p t u/\w=(fg b p.n t e k l o wF).map Lent.ent:=by
 have aw:maxLen<=9223372036854775807:=by simp [maxLen]
 refine UD func118 32 U3 fun w0=>?_;refine Uz fun R d=>?_;refine UQ U6 (fun b1=>?_);refine C4 2 [1] d Z ?_;clear d R;refine G.freeze 0 Z (fun _ _ B=>?_);refine UN (L':=[.obj b (.cells ⟨[.int .i64 p.n,e,k,l,ai (qtx a.worth.c),o]⟩ 212 (0,0)),.arr e 3 1 a.basic.length ((a.basic).map aM).flatten,.arr k 209 2 a.basic.length ((cQ a v).map bE).flatten,.arr l 3 1 a.others.length ((a.others).map aM).flatten,.arr o 56 1 a.others.length ((a.worth.f).map aZ).flatten]++(List.range a.basic.length).map (stE a v 0 0 0)) (by rw [bi 0 0];rfl) ?_;refine UW [(5,3)] Z (fun R d=>?_);refine Uw (bkT B 1) U8 ?_;refine UB 2 Z ?_;refine UE af U9 ?_;refine Uy U6 ?_;refine D.call (GU q.tab.ok (Mem.get B mup)) Z (.inr dc_) U6 (show List.Perm _ (((fg b p.n a e k l o v).map Lent.ent)++[]) from List.Perm.of_eq (by rw [Rf,bi 0 0])) fl_ (fun ax _ ay _ ag=>?_);refine C4 1 [1,2] d Z ?_;clear d R;obtain ⟨⟨W,rfl,X⟩,rfl⟩:=ag;refine UN (L':=[.obj b (.cells ⟨[.int .i64 p.n,e,k,l,ai (qtx a.worth.c),o]⟩ 212 (0,0)),.arr e 3 1 a.basic.length ((a.basic).map aM).flatten,.arr k 209 2 a.basic.length ((cQ a v).map bE).flatten,.arr l 3 1 a.others.length ((a.others).map aM).flatten,.arr o 56 1 a.others.length ((a.worth.f).map aZ).flatten]++(List.range a.basic.length).map (stE a v 0 0 0)) (by rw [Rf,bi 0 0]) ?_;refine Uu 2 [1,2,12] Z ?_;refine Ux (fun H=>?_) fun H=>?_
 ·have y:¬ W<0:=by
   have:=aJ H;omega
  obtain ⟨s,rfl,hs,⟨I,Y⟩,_⟩:=ij X y;have ah:kX a s*a.worth.g s<0:=by
   unfold kX;split <;> grind
  refine Uu 3 [2,3] Z ?_;refine UJ (UX U3 ?_);refine ⟨a,v,q,A,.no s hs ah (fun i z x=>?_) (fun h=>absurd h I),by rw [bi 0 0]⟩;rw [d s (by rw [<- q.tab.lo];exact hs) hs om_ i z x,Rat.mul_zero];exact Rat.le_refl
 have y:W<0:=by
  have:=QS H;omega
 have E:=ik X y;have aj:Lp.RelW p.n a:=fun s hs aA=>by
  have:=E s hs;have h2:¬ p.n<=a.oth s:=by omega
  grind
 refine G.loop (fun fr C' w μ=>∃ (t:Lp.Tab)(wF:Nat->Value)(J:Nat),(Lp.Inv p F t/\Lp.Rel p.n t p.n/\t.Feas p.n/\Lp.RelW p.n t/\∀ K,Lp.Reach (Lp.MinP p.n) t K->K<=J)/\fr=[(1,[],.pointer (some ⟨b1,0,none⟩))]/\w=[.obj b (.cells ⟨[.int .i64 p.n,e,k,l,ai (qtx t.worth.c),o]⟩ 212 (0,0)),.arr e 3 1 t.basic.length ((t.basic).map aM).flatten,.arr k 209 2 t.basic.length ((cQ t wF).map bE).flatten,.arr l 3 1 t.others.length ((t.others).map aM).flatten,.arr o 56 1 t.others.length ((t.worth.f).map aZ).flatten]++(List.range t.basic.length).map (stE t wF 0 0 0)/\μ=J) (hn_ [1] Z) ⟨a,v,2 ^ (p.n+p.m),⟨q,d,A,aj,fun K L=>Lp.min_len q.tab.ok L⟩,Z,Z,Z⟩ (fun fr aB aC m _ q=>?_);obtain ⟨t,wF,J,⟨q,d,A,hW,L⟩,rfl,rfl,rfl⟩:=q;have ok:=q.tab.ok;have ak:t.basic.length<=1000000:=by rw [q.tab.lb];exact hm
 have al:t.others.length<=1000000:=by rw [q.tab.lo];exact hn
 have hq:∀ i,i<t.basic.length->LineQ 16 (t.line i):=fun i z=>uu q V z;have aa:=oB q V;refine UW [(5,3)] Z (fun R d=>?_);refine Uw (bkT B 1) U8 ?_;refine UB 2 Z ?_;refine UE af U9 ?_;refine Uy U6 ?_;refine D.call (GS ok (Mem.get B mup) aa) Z (.inr dc_) U6 (show List.Perm _ (((fg b p.n t e k l o wF).map Lent.ent)++[]) from List.Perm.of_eq (by rw [Rf,bi 0 0])) fl_ (fun aD _ aE _ am=>?_);refine C4 1 [1,2] d Z ?_;clear d R;obtain ⟨⟨o1,rfl,ab⟩,rfl⟩:=am;refine UN (L':=[.obj b (.cells ⟨[.int .i64 p.n,e,k,l,ai (qtx t.worth.c),o]⟩ 212 (0,0)),.arr e 3 1 t.basic.length ((t.basic).map aM).flatten,.arr k 209 2 t.basic.length ((cQ t wF).map bE).flatten,.arr l 3 1 t.others.length ((t.others).map aM).flatten,.arr o 56 1 t.others.length ((t.worth.f).map aZ).flatten]++(List.range t.basic.length).map (stE t wF 0 0 0)) (by rw [Rf,bi 0 0]) ?_;refine Uu 2 [1,2,21] Z ?_;refine Ux (fun M=>?_) fun M=>?_
 ·have y:o1<0:=aJ M;have E:=ik ab y;refine Uu 2 [2,3] Z ?_;refine UJ (UX U3 ?_);exact ⟨t,wF,q,A,.yes hW (fun s hs x=>by have:=E s hs;grind),by rw [bi 0 0]⟩
 have y:¬ o1<0:=QS M;obtain ⟨s,rfl,hs,⟨I,Y⟩,an⟩:=ij ab y;refine UW [(2,3)] Z (fun R d=>?_);refine Uw (bkT B 1) U8 ?_;refine Uy U6 ?_;refine D.call (GR U.m_ ok hs hq) Z (.inr dc_) U6 (show List.Perm _ (((fg b p.n t e k l o wF).map Lent.ent)++[]) from List.Perm.of_eq (by rw [Rf,bi 0 0])) fl_ (fun aF _ aG _ ao=>?_);refine C4 1 [1,2,4] d Z ?_;clear d R;obtain ⟨⟨o2,rfl,ac⟩,rfl⟩:=ao;refine UN (L':=[.obj b (.cells ⟨[.int .i64 p.n,e,k,l,ai (qtx t.worth.c),o]⟩ 212 (0,0)),.arr e 3 1 t.basic.length ((t.basic).map aM).flatten,.arr k 209 2 t.basic.length ((cQ t wF).map bE).flatten,.arr l 3 1 t.others.length ((t.others).map aM).flatten,.arr o 56 1 t.others.length ((t.worth.f).map aZ).flatten]++(List.range t.basic.length).map (stE t wF 0 0 0)) (by rw [Rf,bi 0 0]) ?_;refine Uu 2 [1,2,4,26] Z ?_;refine Ux (fun N=>?_) fun N=>?_
 ·have O:o2<0:=aJ N;have E:=yF ac O;have Q:kX t s=1:=by
   unfold kX;rw [az (by grind)]
  refine Uu 3 [2,3] Z ?_;refine UJ (UX U3 ?_);refine ⟨t,wF,q,A,.no s hs (by rw [Q];grind) (fun i z x=>?_) (fun _=>by rw [Q];decide),by rw [bi 0 0]⟩;rw [Q];have:=E i z x;grind
 have O:¬ o2<0:=QS N;obtain ⟨r,rfl,hr,S,ap,aq⟩:=yE ac O;have hP:Lp.MinP p.n t r s:=⟨hr,hs,S,I,Y,fun j hj x hg=>an j hj ⟨x,hg⟩,ap,aq,A⟩;have ad:(t.line r).g s≠0:=by grind
 obtain ⟨aH,ar⟩:=Lp.Reach.fall hP L;refine UW [(3,3)] Z (fun R d=>?_);refine Uw (bkT B 1) U8 ?_;refine UB 2 Z ?_;refine D.call (ug _ U.m_ b p.n r s (p.n+p.m) t e k l o wF ok ak al hr hs ad hq aa) Z (.inr dc_) U6 (show List.Perm _ (((fg b p.n t e k l o wF).map Lent.ent)++[]) from List.Perm.of_eq (by rw [Rf,bi 0 0])) fl_ (fun aI _ aL _ au=>?_);refine UA [1] d Z ?_;clear d R;obtain ⟨-,T,rfl⟩:=au;refine UN (L':=[.obj b (.cells ⟨[.int .i64 p.n,e,k,l,ai (qtx (t.pivot r s).worth.c),o]⟩ 212 (0,0)),.arr e 3 1 (t.pivot r s).basic.length (((t.pivot r s).basic).map aM).flatten,.arr k 209 2 (t.pivot r s).basic.length ((cQ (t.pivot r s) T).map bE).flatten,.arr l 3 1 (t.pivot r s).others.length (((t.pivot r s).others).map aM).flatten,.arr o 56 1 (t.pivot r s).others.length (((t.pivot r s).worth.f).map aZ).flatten]++(List.range (t.pivot r s).basic.length).map (stE (t.pivot r s) T 0 0 0)) (by rw [Rf,bi 0 0]) ?_;refine UH (m':=m-1) om_ mup (hn_ [1] Z) ⟨t.pivot r s,T,m-1,⟨q.pivot hr hs ad,Lp.rel_pivot ok d hr hs S,Lp.min_feas ok hP,Lp.relw_pivot ok (fun s' ae av i z x=>d s' (by rw [<- q.tab.lo];exact ae) ae av i z x) hW hr hs S,ar⟩,Z,Z,Z⟩
theorem HQ (C:Mem)(v:Value)(l:List Nat)(b:Sl C 1 v (l.map aM))(t:l.length<=1000000):Jog.Fn cx.P 50 [v] C [] fun u _w e=>∃ A n c,u=.slice A n c/\e=[.arr (.slice A n c) 3 1 l.length (l.map aM).flatten]:=by
 obtain ⟨f,c0,rfl,m,x,y,o⟩:=id b;have z:maxLen<=9223372036854775807:=by simp [maxLen]
 simp only [al] at b m ⊢;refine UD func50 8 U3 fun w0=>Uu 1 [0] Z<|Uv 1 Z fun R d=>V8 U9<|UA [0,4] d Z<|Ux (fun h4=>?_) fun h4=>?_
 ·have p:f=none:=by
   cases f with
   | none=>rfl
   | some a=>cases h4
  have s:l=[]:=by
   cases l with
   | nil=>rfl
   | cons q r =>
    obtain ⟨a,g,_⟩:=o 0 (aM q) rfl;rw [p] at g;cases g
  refine Uu 1 [2] Z<|G.nilArr 3 1<|UJ (Vj Z Z ?_);exact ⟨none,0,0,Z,by rw [s];rfl⟩
 refine Uz fun R d=>VA [] U12 fl_ fun B=>Uy U6<|UZ (j:=0) U11 b.m_ (by simp [aM,lH]) (by simp only [al,Q7,maxLen];omega) (by simp only [al,Q7];omega) fl_ fun h i k=>C4 1 [2] d Z<|UN (L':=[.arr (.slice h i k) 3 1 l.length (l.map aM).flatten]) am<|UJ (Vj Z Z ?_);exact ⟨h,i,k,Z,Z⟩
theorem MX (C:Mem)(b s:Nat)(q:Rat)(w:Value)(l:List Rat)(c:Sl C 1 w (l.map aZ))(d:C b=some (.cells ⟨[.int .i64 s]⟩ 3 (0,0)))(e:s<l.length) :
  Gives cx.P 176 [.agg ⟨[ai (qtx q),w]⟩,.pointer (some ⟨b,0,none⟩)] C (.bool (!decide (l.getD s 0=0))):=by
 obtain ⟨h,i,rfl,j,k,_⟩:=id c;have m:maxLen<=9223372036854775807:=by simp [maxLen]
 refine UD func176 10 U3 fun w0=>Uz fun R a=>UQ U6 fun n=>C4 1 [1,2] a Z<|G.freeze 0 Z fun _ _ f=>Uv 1 Z fun R a=>Uw (bkT f 1) U8<|Uw (bkT d 1) U8<|UK c.m_ U10 om_ (dK e) fl_ fun o g=>Uw g U8<|C4 2 [3] a Z<|UC U2<|⟨?_,Z⟩;show Value.bool _=Value.bool _;congr 1;show (!((⟨(qtx (l.getD s 0)).toArray⟩:ByteArray).data.toList == (⟨#[48]⟩:ByteArray).data.toList))=_;rw [fY]
theorem MW (C:Mem)(b s:Nat)(q:Rat)(w:Value)(l:List Rat)(c:Sl C 1 w (l.map aZ))(d:C b=some (.cells ⟨[.int .i64 s]⟩ 3 (0,0)))(e:s<l.length) :
  Gives cx.P 178 [.agg ⟨[ai (qtx q),w]⟩,.pointer (some ⟨b,0,none⟩)] C (.bool (!decide (l.getD s 0=0))):=by
 obtain ⟨h,i,rfl,j,k,_⟩:=id c;have m:maxLen<=9223372036854775807:=by simp [maxLen]
 refine UD func178 10 U3 fun w0=>Uz fun R a=>UQ U6 fun n=>C4 1 [1,2] a Z<|G.freeze 0 Z fun _ _ f=>Uv 1 Z fun R a=>Uw (bkT f 1) U8<|Uw (bkT d 1) U8<|UK c.m_ U10 om_ (dK e) fl_ fun o g=>Uw g U8<|C4 2 [3] a Z<|UC U2<|⟨?_,Z⟩;show Value.bool _=Value.bool _;congr 1;show (!((⟨(qtx (l.getD s 0)).toArray⟩:ByteArray).data.toList == (⟨#[48]⟩:ByteArray).data.toList))=_;rw [fY]
inductive FirstR (q:Nat->Prop) (n:Nat):Int->Prop where
 | none:(∀ i,i<n->¬ q i)->FirstR q n (-1)
 | some (r:Nat):r<n->q r->(∀ i,i<r->¬ q i)->FirstR q n r
theorem GO (C:Mem)(v:Value)(a:List (Rat × Value))(g:Nat)(c:List Value)(q:Nat->Prop)[DecidablePred q](d:Sl C 2 v (a.map bE))(_E:Jog.Enters cx.P g=true)
  (p:∀ i x,a[i]?=some x->∀ D:Mem,C.le D->Gives cx.P g (.agg ⟨bE x⟩::c) D (.bool (decide (q i)))) :
  Pur cx.P 175 [v,.func (.func g) #[] ⟨c⟩] C fun u _=>∃ o:Int,u=.int .i64 o/\FirstR q a.length o:=by
 obtain ⟨r,c0,rfl,s,F,_⟩:=id d;have H:maxLen<=9223372036854775807:=by simp [maxLen]
 simp only [al] at d s ⊢;refine UD func175 19 U3 fun w0=>Uu 1 [0,1] Z<|Uu 3 [0,1,7,8] Z<|G.loop (fun fr C' t w=>∃ (i:Nat),(i<=a.length/\∀ j,j<i->¬ q j)/\fr=[(0,[],.slice r a.length c0),(1,[],.func (.func g) #[] ⟨c⟩),(7,[],.int .i64 a.length),(8,[],.int .i64 i)]/\t=[]/\w=a.length-i) (hn_ [0,1,7,8] Z) ⟨0,⟨QT _,fun j e=>absurd e (Nat.not_lt_zero _)⟩,Z,Z,Z⟩ (fun fr I J m _ y=>?_);obtain ⟨i,⟨K,f⟩,rfl,rfl,rfl⟩:=y;refine Uu 1 [0,1,7,8,9] Z<|Ux (fun h=>?_) fun h=>?_
 ·have b:i<a.length:=by simpa using h
  obtain ⟨x,n⟩:∃ x,a[i]?=some x:=⟨a[i],aj b⟩;refine Uu 2 [0,1,5,7,8] Z<|Uv 3 Z fun R k=>UK d.m_ U10 om_ (show (a.map bE)[i]?=some [ai (qtx x.1),x.2] from gj n) fl_ fun L z=>Uw z U8<|UI (p i x n _ mup) U7<|UA [0,1,5,7,8,16] k Z<|Ux (fun l=>?_) fun l=>?_
  ·have A:q i:=aJ l;exact Uu 2 [4] Z<|UC U2<|⟨Z,(i:Int),Z,.some i b A f⟩
  have B:¬ q i:=QS l;refine Uz fun R k=>UF _ U7<|C4 1 [0,1,7,8] k Z<|UH (m':=a.length-(i+1)) om_ mup (hn_ [0,1,7,8] Z) ⟨i+1,⟨by omega,fun j e=>by
   rcases Nat.lt_or_eq_of_le (Nat.le_of_lt_succ e) with h1 | h1
   ·exact f j h1
   rw [h1];exact B⟩,rfl,rfl,rfl⟩
 have b:i=a.length:=by
  have:¬ i<a.length:=by simpa using h
  omega
 exact Uu 1 [4] Z<|UC U2<|⟨Z, -1,Z,.none (by rw [<- b];exact f)⟩
theorem Fi (C:Mem)(b n v:Nat)(a:List Value)(c:C b=some (.cells ⟨.int .i64 n::a⟩ 212 (0,0))) :
  Gives cx.P 177 [.pointer (some ⟨b,0,none⟩),.int .i64 v] C (.bool (decide (n<=v))):=by
 refine UD func177 11 U3 fun w0=>Uu 1 [0,1] Z<|Uv 4 Z fun R d=>Uw (bkT c 1) U8<|C4 2 [4] d Z<|UC U2<|⟨?_,Z⟩;congr 1;rw [RC];omega
theorem oU (C:Mem)(b n v:Nat)(a:List Value):Jog.Fn cx.P 177 [.pointer (some ⟨b,0,none⟩),.int .i64 v] C [.obj b (.cells ⟨.int .i64 n::a⟩ 212 (0,0))]
   fun u _ d=>u=.bool (decide (n<=v))/\d=[.obj b (.cells ⟨.int .i64 n::a⟩ 212 (0,0))]:=by
 have h:=VH (P:=cx.P) (f:=177) (args:=[.pointer (some ⟨b,0,none⟩),.int .i64 v]) (C:=C) (q:=fun u=>u=.bool (decide (n<=v))) kr_ [.obj b (.int .i64 n::a) 212] (fun x c=>by
  rcases Q3.1 c with rfl | c
  ·trivial
  cases c) fun C' e hs=>(Fi C' b n v a (hs _ (Qb ..))).mono fun u _ g _ ⟨h1,h2⟩=>⟨h2,h1⟩
 exact h
theorem oM (h:∀ x∈fg b n t wB wL wO wW wF,x.seen C):Sl C 1 wO (t.others.map aM)/\Sl C 2 wL ((cQ t wF).map bE)/\∀ i,i<t.basic.length->Sl C 1 (wF i) ((t.line i).f.map aZ) :=
 ⟨h _ (Q0 _ (Q0 _ (Q0 _ (Qb ..)))),h _ (Q0 _ (Q0 _ (Qb ..))),fun i a =>
  h (LF t wF i) (Q0 _ (Q0 _ (Q0 _ (Q0 _ (Q0 _ (QX.2 ⟨i,Q9.2 a,rfl⟩))))))⟩
section
variable {C:Mem} {a2 b n N s:Nat} {t:Lp.Tab} {wB wO wW:Value} {wF:Nat->Value}
theorem PL {d:Value}(g:t.Ok N)(i:t.others.length<=1000000):Jog.Fn cx.P 50 [wO] C ((fg b n t wB d wO wW wF).map Lent.ent)
   fun u _ a=>∃ A n2 c,u=.slice A n2 c/\a=.arr (.slice A n2 c) 3 1 t.others.length (t.others.map aM).flatten::(fg b n t wB d wO wW wF).map Lent.ent:=by
 have h:=VZ (P:=cx.P) (f:=50) (args:=[wO]) (L:=[]) (C:=C) (post:=fun u a=>∃ A n2 c,u=.slice A n2 c/\a=[.arr (.slice A n2 c) 3 1 t.others.length (t.others.map aM).flatten]) kr_ (fg b n t wB d wO wW wF) (gg g) fun C' m hs=>HQ C' wO t.others (oM hs).1 i;rw [Rf] at h;refine ⟨h.1,fun w j=>(h.2 w j).mono ?_⟩;rintro e w' ⟨v,C',a,k,l,o,rfl,A,n2,c,rfl,rfl⟩;exact ⟨_,C',_,k,St.perm l (List.perm_append_singleton _ _),A,n2,c,Z,Z⟩
theorem NJ {a:Value}(h:t.Ok N)(l:C a2=some (.cells ⟨[.int .i64 s]⟩ 3 (0,0)))(m:s<t.others.length) :
  Jog.Fn cx.P 175 [a,.func (.func 176) #[] #[.pointer (some ⟨a2,0,none⟩)]] C ((fg b n t wB a wO wW wF).map Lent.ent)
   fun u _ j=>(∃ o:Int,u=.int .i64 o/\FirstR (fun i=>¬ (t.line i).g s=0) t.basic.length o)/\j=(fg b n t wB a wO wW wF).map Lent.ent:=by
 refine VH kr_ _ (gg h) fun C' p q=>?_;obtain ⟨_,r,v⟩:=oM q;refine (GO C' a (cQ t wF) 176 [.pointer (some ⟨a2,0,none⟩)] (fun i=>¬ (t.line i).g s=0) r kr_ fun i x d D k=>?_).mono ?_
 ·have e:i<t.basic.length:=by rw [<- fI (wF:=wF)];exact (aD.1 d).1
  rw [nS e] at d;cases d
  rw [decide_not];exact MX D a2 s (t.line i).c (wF i) (t.line i).f ((v i e).mono k) ((p.trans k) _ _ l) (by rw [ig h e];exact m)
 rintro u D j _ ⟨h1,o,rfl,h2⟩;rw [fI] at h2;exact ⟨h1,o,Z,h2⟩
theorem NI {A:Option Addr}{c r M:Nat}(v:t.basic.length=M)(j:t.Ok N)(w:C a2=some (.cells ⟨[.int .i64 s]⟩ 3 (0,0)))(y:s<t.others.length)(I:r<t.basic.length)(z:M<=c) :
  Jog.Fn cx.P 175 [.slice (if c=r+1 then A else A.map (·.add ((r+1)*2))) (M-(r+1)) (c-(r+1)),.func (.func 178) #[] #[.pointer (some ⟨a2,0,none⟩)]] C ((fg b n t wB (.slice A M c) wO wW wF).map Lent.ent)
   fun u _ k=>(∃ o:Int,u=.int .i64 o/\FirstR (fun i=>¬ (t.line (r+1+i)).g s=0) (t.basic.length-(r+1)) o)/\k=(fg b n t wB (.slice A M c) wO wW wF).map Lent.ent:=by
 subst v;refine VH kr_ _ (gg j) fun C' B E=>?_;obtain ⟨_,F,G⟩:=oM E;have p:=Sl.sub (l:=r+1) (h:=t.basic.length) (m:=c) F om_ (by rw [al,fI];exact QO _) z (QO _);have e:((cQ t wF).map bE).take t.basic.length=(cQ t wF).map bE:=Re (by rw [al,fI];exact QO _);rw [e,<- List.map_drop] at p;have H:((cQ t wF).drop (r+1)).length=t.basic.length-(r+1):=by rw [Sv,fI]
 refine (GO C' _ ((cQ t wF).drop (r+1)) 178 [.pointer (some ⟨a2,0,none⟩)] (fun i=>¬ (t.line (r+1+i)).g s=0) p kr_ fun i x a D q=>?_).mono ?_
 ·have d:r+1+i<t.basic.length:=by have:=(aD.1 a).1;omega
  rw [List.getElem?_drop,nS d] at a;cases a
  rw [decide_not];exact MW D a2 s (t.line (r+1+i)).c (wF (r+1+i)) (t.line (r+1+i)).f ((G _ d).mono q) ((B.trans q) _ _ w) (by rw [ig j d];exact y)
 rintro u D k _ ⟨h1,o,rfl,h2⟩;rw [H] at h2;exact ⟨h1,o,Z,h2⟩
end
def QK (p:Lp.Sys)(t:Lp.Tab)(s:Nat)(o:Int):Prop:=(o=-1/\∀ i,i<t.basic.length->p.n<=t.bas i->(t.line i).g s=0)∨∃ r:Nat,o=r/\r<t.basic.length/\¬ (t.line r).g s=0/\∀ i,i<r->p.n<=t.bas i->(t.line i).g s=0
theorem yR (h:FirstR q n o)(a:o<0):∀ i,i<n->¬ q i:=by
 cases h with
 | none h=>exact h
 | some r _ _ _=>omega
theorem yQ (h:FirstR q n o)(a:¬ o<0):∃ r:Nat,o=r/\r<n/\q r/\∀ i,i<r->¬ q i:=by
 cases h with
 | none h=>exact absurd dc_ a
 | some r h1 h2 h3=>exact ⟨r,rfl,h1,h2,h3⟩
theorem CV (h:FirstR (fun i=>¬ (t.line i).g s=0) t.basic.length o):QK p t s o:=by
 cases h with
 | none h=>exact .inl ⟨rfl,fun i a _=>Decidable.not_not.1 (h i a)⟩
 | some r h1 h2 h3=>exact .inr ⟨r,rfl,h1,h2,fun i a _=>Decidable.not_not.1 (h3 i a)⟩
theorem Dk (C:Mem)(hT:Tabs C)(p:Lp.Sys)(M:Nat->Rat)(b:Nat)(a:Lp.Tab)(N O e l:Value)(B:Nat->Value)(q:Lp.Inv p M a)(ho:a.others=List.range p.n)(hl:Lp.Lim p M 16)(hm:p.m<=1000000)(hn:p.n<=1000000) :
  Jog.Fn cx.P 115 [.pointer (some ⟨b,0,none⟩)] C ((fg b p.n a N O e l B).map Lent.ent) fun u _ A=>u=.tuple #[]/\∃ t wF,Lp.Inv p M t/\Lp.Rel p.n t p.n/\A=(fg b p.n t N O e l wF).map Lent.ent:=by
 have aP:maxLen<=9223372036854775807:=by simp [maxLen]
 have au:a.others.length=p.n:=q.tab.lo;refine UD func115 65 U3 fun w0=>?_;refine UN (L':=[.obj b (.cells ⟨[.int .i64 p.n,N,O,e,ai (qtx a.worth.c),l]⟩ 212 (0,0)),.arr N 3 1 a.basic.length ((a.basic).map aM).flatten,.arr O 209 2 a.basic.length ((cQ a B).map bE).flatten,.arr e 3 1 a.others.length ((a.others).map aM).flatten,.arr l 56 1 a.others.length ((a.worth.f).map aZ).flatten]++(List.range a.basic.length).map (stE a B 0 0 0)) (by rw [bi 0 0]) ?_;refine We 1 Z (fun w y J S av _=>?_);rw [q.tab.lb] at J S av;subst J;refine We 2 Z (fun z x J _ T _=>?_);rw [q.tab.lb] at J T;subst J;refine UN (L':=[.obj b (.cells ⟨[.int .i64 p.n,(.slice w p.m y),(.slice z p.m x),e,ai (qtx a.worth.c),l]⟩ 212 (0,0)),.arr (.slice w p.m y) 3 1 a.basic.length ((a.basic).map aM).flatten,.arr (.slice z p.m x) 209 2 a.basic.length ((cQ a B).map bE).flatten,.arr e 3 1 a.others.length ((a.others).map aM).flatten,.arr l 56 1 a.others.length ((a.worth.f).map aZ).flatten]++(List.range a.basic.length).map (stE a B 0 0 0)) Z ?_;refine UW [(4,3)] Z (fun R d=>?_);refine UB 3 Z ?_;refine UE af U9 ?_;refine D.call (PL q.tab.ok om_) Z (.inr dc_) U6 (show List.Perm _ (((fg b p.n a (.slice w p.m y) (.slice z p.m x) e l B).map Lent.ent)++[]) from List.Perm.of_eq (by rw [Rf,bi 0 0] <;> rfl)) fl_ (fun aQ aw aR _ ax=>?_);obtain ⟨Ac,n2,c2,rfl,rfl⟩:=ax;refine C4 2 [0,10,11,12] d Z ?_;clear d R;refine G.freezeArr 0 (a.others.map aM) Z Z uI am (fun aw _ ao=>?_);have ay:n2=p.n:=by
  obtain ⟨A9,c9,az,_⟩:=id ao;injection az with e1 e2 e3;rw [e2,al,au]
 subst ay;refine UN (L':=[.obj b (.cells ⟨[.int .i64 p.n,(.slice w p.m y),(.slice z p.m x),e,ai (qtx a.worth.c),l]⟩ 212 (0,0)),.arr (.slice w p.m y) 3 1 a.basic.length ((a.basic).map aM).flatten,.arr (.slice z p.m x) 209 2 a.basic.length ((cQ a B).map bE).flatten,.arr e 3 1 a.others.length ((a.others).map aM).flatten,.arr l 56 1 a.others.length ((a.worth.f).map aZ).flatten]++(List.range a.basic.length).map (stE a B 0 0 0)) (by rw [bi 0 0,Rf];rfl) ?_;refine G.loop (fun fr C' A U=>∃ (k:Nat)(t:Lp.Tab)(wF:Nat->Value),(k<=p.n/\Lp.Inv p M t/\Lp.Rel p.n t k)/\fr=[(0,[],.pointer (some ⟨b,0,none⟩)),(10,[],.slice Ac p.n c2),(11,[],.int .i64 p.n),(12,[],.int .i64 k)]/\A=[.obj b (.cells ⟨[.int .i64 p.n,(.slice w p.m y),(.slice z p.m x),e,ai (qtx t.worth.c),l]⟩ 212 (0,0)),.arr (.slice w p.m y) 3 1 t.basic.length ((t.basic).map aM).flatten,.arr (.slice z p.m x) 209 2 t.basic.length ((cQ t wF).map bE).flatten,.arr e 3 1 t.others.length ((t.others).map aM).flatten,.arr l 56 1 t.others.length ((t.worth.f).map aZ).flatten]++(List.range t.basic.length).map (stE t wF 0 0 0)/\U=p.n-k) (hn_ [0,10,11,12] Z) ⟨0,a,B,⟨QT _,q,fun s hs=>absurd hs (Nat.not_lt_zero _)⟩,Z,Z,Z⟩ (fun fr aS aT m _ q=>?_);obtain ⟨k,t,wF,⟨hk,q,d⟩,rfl,rfl,rfl⟩:=q;refine Uu 1 [0,10,11,12,13] Z ?_;refine Ux (fun V=>?_) fun V=>?_
 ·have ap:k<p.n:=by
   have:=aJ V;omega
  have ok:=q.tab.ok;have aA:=q.tab.lb;have aB:t.basic.length<=1000000:=by rw [q.tab.lb];exact hm
  have aC:t.others.length<=1000000:=by rw [q.tab.lo];exact hn
  have hq:∀ i,i<t.basic.length->LineQ 16 (t.line i):=fun i W=>uu q hl W;have K:k<t.others.length:=by rw [q.tab.lo];exact ap
  refine Uv 1 Z fun R d=>?_;refine UK ao.m_ U10 om_ (show (a.others.map aM)[k]?=some (aM k) from um (by rw [ho,Rw ap])) fl_ (fun aU aD=>?_);refine Uw aD U8 ?_;refine UP U5 (fun b2=>?_);refine UG (j:=0) U12 ?_;refine C4 1 [0,2,3,10,11,12] d Z ?_;clear d R;refine G.freeze 0 Z (fun _ _ X=>?_);refine UW [(5,3)] Z (fun R d=>?_);refine UB 3 Z ?_;refine UE af U9 ?_;refine Uy U6 ?_;refine D.call (NJ ok (Mem.get X mup) K) Z (.inr dc_) U6 (show List.Perm _ (((fg b p.n t (.slice w p.m y) (.slice z p.m x) e l wF).map Lent.ent)++[]) from List.Perm.of_eq (by rw [Rf,bi 0 0] <;> rfl)) fl_ (fun aV _ aW _ aE=>?_);refine C4 1 [0,2,3,4,10,11,12] d Z ?_;clear d R;obtain ⟨⟨o0,rfl,aF⟩,rfl⟩:=aE;refine UN (L':=[.obj b (.cells ⟨[.int .i64 p.n,(.slice w p.m y),(.slice z p.m x),e,ai (qtx t.worth.c),l]⟩ 212 (0,0)),.arr (.slice w p.m y) 3 1 t.basic.length ((t.basic).map aM).flatten,.arr (.slice z p.m x) 209 2 t.basic.length ((cQ t wF).map bE).flatten,.arr e 3 1 t.others.length ((t.others).map aM).flatten,.arr l 56 1 t.others.length ((t.worth.f).map aZ).flatten]++(List.range t.basic.length).map (stE t wF 0 0 0)) (by rw [Rf,bi 0 0]) ?_;refine G.loop (fun fr C' A U=>∃ (o:Int),(QK p t k o)/\fr=[(0,[],.pointer (some ⟨b,0,none⟩)),(2,[],.pointer (some ⟨b2,0,none⟩)),(3,[],.int .i64 k),(4,[],.int .i64 o),(10,[],.slice Ac p.n c2),(11,[],.int .i64 p.n),(12,[],.int .i64 k)]/\A=[.obj b (.cells ⟨[.int .i64 p.n,(.slice w p.m y),(.slice z p.m x),e,ai (qtx t.worth.c),l]⟩ 212 (0,0)),.arr (.slice w p.m y) 3 1 t.basic.length ((t.basic).map aM).flatten,.arr (.slice z p.m x) 209 2 t.basic.length ((cQ t wF).map bE).flatten,.arr e 3 1 t.others.length ((t.others).map aM).flatten,.arr l 56 1 t.others.length ((t.worth.f).map aZ).flatten]++(List.range t.basic.length).map (stE t wF 0 0 0)/\U=t.basic.length-o.toNat) (hn_ [0,2,3,4,10,11,12] Z) ⟨o0,CV aF,Z,Z,Z⟩ (fun fr aX aY m _ q=>?_);obtain ⟨o,hS,rfl,rfl,rfl⟩:=q;refine Uv 7 Z fun R d=>?_;refine UE af U9 ?_;refine Uy U6 ?_;refine WN (w.getD ⟨0,0,none⟩).block (o.toNat*1) Z Z Z Z Z Z Z Z Z Z (fun Y=>by
   have h:decide (o ≥ 0)=true:=Y.1;have h2:=aJ h;obtain ⟨r,L,E,_⟩:=hS.resolve_left om_;exact ⟨S om_,by omega,by omega,Z⟩) Z Z ?_
  refine WC (v:=.int .i64 (t.bas o.toNat)) ae Z Z Z Z Z Z (fun Y=>by
   have h:decide (o ≥ 0)=true:=Y.1;have h2:=aJ h;obtain ⟨r,L,E,_⟩:=hS.resolve_left om_;refine ⟨S om_, ?_⟩;rw [eE fx (show t.basic[o.toNat]?=some (t.bas o.toNat) from yx om_)];rfl) rfl rfl ?_
  refine V6 af (fun _=>oU _ b p.n (t.bas o.toNat) _) U9 ?_;refine Uy U6 ?_;refine UU U8 ?_;refine UA [0,2,3,4,10,11,12,36] d Z ?_;clear d R;refine Ux (fun aa=>?_) fun aa=>?_
  ·have Q:o ≥ 0/\¬ p.n<=t.bas o.toNat:=by simpa using aa
   obtain ⟨a0,ab⟩:=Q;obtain ⟨r,L,E,ac,ad⟩:=hS.resolve_left om_;subst L;rw [Sx] at ab;refine UW [(8,3)] Z (fun R d=>?_);refine UB 3 Z ?_;refine UE af U9 ?_;refine Uy U6 ?_;refine UF _ U7 ?_;refine Vq (r+1) p.m x U12 (fun _=>⟨.inr ⟨_,Z⟩,.inl ⟨Z,Z⟩,.inl ⟨Z,Z⟩,by omega,T,QO _⟩) U2 ?_;refine Uy U6 ?_;refine D.call (NI aA ok (Mem.get X mup) K E T) Z (.inr dc_) U6 (show List.Perm _ (((fg b p.n t (.slice w p.m y) (.slice z p.m x) e l wF).map Lent.ent)++[]) from List.Perm.of_eq (by rw [Rf,bi 0 0] <;> rfl)) fl_ (fun a1 _ a2 _ aG=>?_);refine C4 1 [0,2,3,4,5,10,11,12] d Z ?_;clear d R;obtain ⟨⟨o2,rfl,aq⟩,rfl⟩:=aG;refine UN (L':=[.obj b (.cells ⟨[.int .i64 p.n,(.slice w p.m y),(.slice z p.m x),e,ai (qtx t.worth.c),l]⟩ 212 (0,0)),.arr (.slice w p.m y) 3 1 t.basic.length ((t.basic).map aM).flatten,.arr (.slice z p.m x) 209 2 t.basic.length ((cQ t wF).map bE).flatten,.arr e 3 1 t.others.length ((t.others).map aM).flatten,.arr l 56 1 t.others.length ((t.worth.f).map aZ).flatten]++(List.range t.basic.length).map (stE t wF 0 0 0)) (by rw [Rf,bi 0 0]) ?_;refine Uu 2 [0,2,3,4,5,10,11,12,47] Z ?_;refine Ux (fun ag=>?_) fun ag=>?_
   ·have ah:o2<0:=aJ ag;have hz:∀ i,i<t.basic.length->p.n<=t.bas i->(t.line i).g k=0:=fun i W F=>by
     rcases Nat.lt_trichotomy i r with h1 | h1 | h1
     ·exact ad i h1 F
     ·rw [h1] at F;exact absurd F ab
     have:=yR aq ah (i-(r+1)) om_;rw [show r+1+(i-(r+1))=i by omega] at this;exact Decidable.not_not.1 this
    refine Uu 1 [0,2,3,4,10,11,12] Z ?_;refine Uv 5 Z fun R d=>?_;refine V6 af (fun _=>oU _ b p.n k _) U9 ?_;refine Uy U6 ?_;refine UU U8 ?_;refine UA [0,2,4,10,11,12,59] d Z ?_;clear d R;refine Ux (fun ar=>?_) fun ar=>?_
    ·exact absurd ar am
    refine Uz fun R d=>?_;refine UF _ U7 ?_;refine C4 1 [0,10,11,12] d Z ?_;clear d R;refine UH (m':=p.n-(k+1)) om_ mup (hn_ [0,10,11,12] Z) ⟨k+1,t,wF,⟨by omega,q,Lp.rel_none d hz⟩,Z,Z,Z⟩
   have ah:¬ o2<0:=QS ag;obtain ⟨H,rfl,a3,aH,aI⟩:=yQ aq ah;have aL:QK p t k ((r+(1+H):Nat):Int):=.inr ⟨r+(1+H),rfl,by omega,by rw [show r+(1+H)=r+1+H by omega];exact aH,fun i W F=>by
    rcases Nat.lt_trichotomy i r with h1 | h1 | h1
    ·exact ad i h1 F
    ·rw [h1] at F;exact absurd F ab
    have:=aI (i-(r+1)) om_;rw [show r+1+(i-(r+1))=i by omega] at this;exact Decidable.not_not.1 this⟩
   refine Uv 2 Z fun R d=>?_;refine UF _ U7 ?_;refine UF _ U7 ?_;refine C4 1 [0,2,3,4,10,11,12] d Z ?_;clear d R;refine UH (m':=t.basic.length-((r+(1+H):Nat):Int).toNat) om_ mup (hn_ [0,2,3,4,10,11,12] Z) ⟨((r+(1+H):Nat):Int),aL,Z,Z,Z⟩
  have Q:¬ (o ≥ 0/\¬ p.n<=t.bas o.toNat):=by simpa using aa
  refine Uv 5 Z fun R d=>?_;refine V6 af (fun _=>oU _ b p.n k _) U9 ?_;refine Uy U6 ?_;refine UU U8 ?_;refine UA [0,2,4,10,11,12,59] d Z ?_;clear d R;refine Ux (fun aj=>?_) fun aj=>?_
  ·have I:0<=o:=by
    have I:(decide (0<=o) && !decide (p.n<=k))=true:=aj;simp only [Q1,QZ] at I;exact I.1
   obtain ⟨r,L,E,ac,ad⟩:=hS.resolve_left om_;subst L;rw [Sx] at Q;have aN:p.n<=t.bas r:=by
    apply Decidable.byContradiction;intro h;exact Q ⟨by omega,h⟩
   refine UW [(3,3)] Z (fun R d=>?_);refine UB 2 Z ?_;refine Uw (bkT X 1) U8 ?_;refine D.call (ug _ hT.m_ b p.n r k (p.n+p.m) t (.slice w p.m y) (.slice z p.m x) e l wF ok aB aC E K ac hq (oB q hl)) Z (.inr dc_) U6 (show List.Perm _ (((fg b p.n t (.slice w p.m y) (.slice z p.m x) e l wF).map Lent.ent)++[]) from List.Perm.of_eq (by rw [Rf,bi 0 0] <;> rfl)) fl_ (fun a4 _ a5 _ aO=>?_);refine UA [0,10,11,12] d Z ?_;clear d R;refine Uz fun R d=>?_;refine UF _ U7 ?_;refine C4 1 [0,10,11,12] d Z ?_;clear d R;obtain ⟨-,ak,rfl⟩:=aO;refine UN (L':=[.obj b (.cells ⟨[.int .i64 p.n,(.slice w p.m y),(.slice z p.m x),e,ai (qtx (t.pivot r k).worth.c),l]⟩ 212 (0,0)),.arr (.slice w p.m y) 3 1 (t.pivot r k).basic.length (((t.pivot r k).basic).map aM).flatten,.arr (.slice z p.m x) 209 2 (t.pivot r k).basic.length ((cQ (t.pivot r k) ak).map bE).flatten,.arr e 3 1 (t.pivot r k).others.length (((t.pivot r k).others).map aM).flatten,.arr l 56 1 (t.pivot r k).others.length (((t.pivot r k).worth.f).map aZ).flatten]++(List.range (t.pivot r k).basic.length).map (stE (t.pivot r k) ak 0 0 0)) (by rw [Rf,bi 0 0]) ?_;refine UH (m':=p.n-(k+1)) om_ mup (hn_ [0,10,11,12] Z) ⟨k+1,t.pivot r k,ak,⟨by omega,q.pivot E K ac,Lp.rel_next ok d E K aN⟩,Z,Z,Z⟩
  have I:¬ 0<=o:=by
   have I:(decide (0<=o) && !decide (p.n<=k))=false:=aj;have an:¬ p.n<=k:=by omega
   simpa [an] using I
  have hz:∀ i,i<t.basic.length->p.n<=t.bas i->(t.line i).g k=0:=by
   rcases hS with ⟨_,h2⟩ | ⟨r,h1,_⟩
   ·exact h2
   omega
  refine Uz fun R d=>?_;refine UF _ U7 ?_;refine C4 1 [0,10,11,12] d Z ?_;clear d R;refine UH (m':=p.n-(k+1)) om_ mup (hn_ [0,10,11,12] Z) ⟨k+1,t,wF,⟨by omega,q,Lp.rel_none d hz⟩,Z,Z,Z⟩
 have an:k=p.n:=by
  have:=QS V;omega
 refine VI Z ?_;exact ⟨Z,t,wF,q,by rw [an] at d;exact d,by rw [bi 0 0]⟩
end Go.Proofs.YthnpijdjlddpmaaGreatDoor
