/- Laws that the proofs of this seat share, part 12. -/
import Derived.Test.YthnpijdjlddpmaaGreatDoorG11
import Derived.Test.YthnpijdjlddpmaaGreatDoorShelf
set_option maxHeartbeats 4000000
namespace Go.Proofs.YthnpijdjlddpmaaGreatDoor
open Go.Proofs.Tryz
open Go Go.Jog
set_option maxRecDepth 100000
variable {C:Mem}{N b:Nat}{cc:Nat->Rat}{i j:Nat}{l:Lp.Line}{m n:Nat}{o:Int}{p:Lp.Sys}{q:Nat->Prop}{r s:Nat}{t:Lp.Tab}{vs:List Nat}{wB:Value}{wF:Nat->Value}{wL wO wW wy:Value}
theorem uq {l:List Nat}{x:Nat}(h:l[i]?=some x):(l.map aL)[i]?=some (aL x):=by rw [QI,h];rfl
theorem wX {l:List Nat}(h:Lp.LeastR l q n o):o=-1∨∃ i:Nat,o=i/\i<n:=by
 cases h with
 | none _=>exact .inl rfl
 | some i a _ _=>exact .inr ⟨i,rfl,a⟩
theorem oh (C:Mem)(v:Value)(l:List Nat)(g:Nat)(f:List Value)(q:Nat->Bool)(d:Sl C 1 v (l.map aL))(_O:Jog.Enters cx.P g=true)
  (E:∀ i,i<l.length->∀ D:Mem,C.le D->Gives cx.P g (.int .i64 i::f) D (.bool (q i))) :
  Pur cx.P 180 [v,.func (.func g) #[] ⟨f⟩] C fun u _=>∃ o:Int,u=.int .i64 o/\Lp.LeastR l (fun i=>q i=true) l.length o:=by
 obtain ⟨s,c0,rfl,F,Q,_⟩:=id d;have S:maxLen<=9223372036854775807:=by simp [maxLen]
 simp only [aw] at d F ⊢;refine Uv func180 33 U3 fun w0=>Ul 1 [0,1] Z<|Ul 1 [0,1,5] Z<|Ul 3 [0,1,5,8,9,10] Z<|G.loop (fun fr C' H I=>∃ (i:Nat)(o:Int),(i<=l.length/\Lp.LeastR l (fun i=>q i=true) i o)/\fr=[(0,[],.slice s l.length c0),(1,[],.func (.func g) #[] ⟨f⟩),(5,[],.int .i64 o),(8,[],.slice s l.length c0),(9,[],.int .i64 l.length),(10,[],.int .i64 i)]/\H=[]/\I=l.length-i) (hn_ [0,1,5,8,9,10] Z) ⟨0, -1,⟨QK _,.none fun j J=>absurd J (Nat.not_lt_zero _)⟩,Z,Z,Z⟩ (fun fr T U m t K=>?_);obtain ⟨i,o,⟨V,a⟩,rfl,rfl,rfl⟩:=K;refine Ul 1 [0,1,5,8,9,10,11] Z<|Uo (fun k=>?_) fun k=>?_
 ·have e:i<l.length:=by
   have:=aW k;omega
  obtain ⟨x,w⟩:∃ x,l[i]?=some x:=⟨l[i],aj e⟩;have y:l.getD i 0=x:=by rw [al,w];rfl
  have n:=wX a;have L:¬ o<0->(l.map aL)[o.toNat]?=some (aL (l.getD o.toNat 0)):=fun h=>by
   rcases n with h1 | ⟨z,h1,h2⟩
   ·omega
   rw [h1,Sv];exact uq (by rw [al,aj om_];rfl)
  refine Um 1 Z fun R b=>UD d.m_ U10 om_ (uq w) fl_ fun W M=>Un M U8<|C4 2 [0,1,5,6,7,8,9,10] b Z<|Um 2 Z fun R b=>Uy (E i e _ mup) U7<|Us 7 Z<|D.index U10 (fun A=>⟨d.mono mup,(by have h:decide (o<0)=false:=A.1;have:=QJ h;omega),L (by have h:decide (o<0)=false:=A.1;exact QJ h)⟩) fl_ Z fun X N=>UQ U6 N U3<|Up U6<|US U8<|UM U8<|Ur [0,1,5,6,8,9,10,29] b Z<|Uo (fun p=>?_) fun p=>?_
  ·have c:q i=true/\(o<0∨x<l.getD o.toNat 0):=by
    simpa using p
   have r:Lp.LeastR l (fun i=>q i=true) (i+1) i:=by
    rcases n with h1 | ⟨z,h1,h2⟩
    ·rw [h1] at a;exact a.first c.1
    rw [h1] at a c;refine a.less c.1 ?_;rw [y];rcases c.2 with h3 | h3
    ·omega
    exact h3
   refine Ul 2 [0,1,5,8,9,10] Z<|Uq fun R b=>Uw _ U7<|C4 1 [0,1,5,8,9,10] b Z<|UA (m':=l.length-(i+1)) om_ t (hn_ [0,1,5,8,9,10] Z) ⟨i+1,_,⟨by omega,r⟩,Z,Z,Z⟩
  have c:q i=true->¬ (o<0∨x<l.getD o.toNat 0):=by
   simpa using p
  have r:Lp.LeastR l (fun i=>q i=true) (i+1) o:=by
   by_cases B:q i=true
   ·have h3:=c B;rcases n with h1 | ⟨z,h1,h2⟩
    ·exact absurd (.inl om_) h3
    rw [h1] at a h3 ⊢;refine a.keep ?_;rw [y];exact fun h=>h3 (.inr h)
   exact a.no B
  refine Uq fun R b=>Uw _ U7<|C4 1 [0,1,5,8,9,10] b Z<|UA (m':=l.length-(i+1)) om_ t (hn_ [0,1,5,8,9,10] Z) ⟨i+1,_,⟨by omega,r⟩,Z,Z,Z⟩
 have e:i=l.length:=by
  have:=QJ k;omega
 exact Ul 2 [4] Z<|Ut U2<|⟨Z,o,Z,by rw [<- e];exact a⟩
structure TabV (D:Mem)(b n:Nat)(t:Lp.Tab)(wB wL wO wW:Value)(wF:List Value):Prop where
 o:D b=some (.cells ⟨[.int .i64 n,wB,wL,wO,ai (qtx t.worth.c),wW]⟩ 212 (0,0))
 B:Sl D 1 wB (t.basic.map aL)
 O:Sl D 1 wO (t.others.map aL)
 W:Sl D 1 wW (t.worth.f.map aZ)
 L:Sl D 2 wL (List.zipWith (fun (l:Lp.Line) w=>[ai (qtx l.c),w]) t.lines wF)
 fl:wF.length=t.lines.length
 F:∀ (i:Nat)(l:Lp.Line)(w:Value),t.lines[i]?=some l->wF[i]?=some w->Sl D 1 w (l.f.map aZ)
theorem TabV.mono {D E:Mem}{b n:Nat}{t:Lp.Tab}{c d e f:Value}{g:List Value}(h:TabV D b n t c d e f g)(a:D.le E):TabV E b n t c d e f g :=
 ⟨a _ _ h.o,h.B.mono a,h.O.mono a,h.W.mono a,h.L.mono a,h.fl,fun i l w h1 h2=>(h.F i l w h1 h2).mono a⟩
theorem TabV.m_ {D E:Mem}{a:List Value}(h:TabV D b n t wB wL wO wW a)(c:D.le E:=by exact mup):TabV E b n t wB wL wO wW a:=TabV.mono h c
theorem jN (C:Mem)(b n v:Nat)(t:Lp.Tab)(a c d e:Value)(f:List Value)(h:TabV C b n t a c d e f) :
  Gives cx.P 177 [.pointer (some ⟨b,0,none⟩),.int .i64 v] C (.bool (decide (n<=v))):=by
 refine Uv func177 11 U3 fun w0=>Ul 1 [0,1] Z<|Um 4 Z fun R g=>Un (PtrTo.blockT (h.m_.o) _ 1) U8<|C4 2 [4] g Z<|Ut U2<|⟨?_,Z⟩;congr 1;rw [Rv];omega
theorem kO {l:List Nat}(h:i<l.length):(l.map aL)[i]?=some (aL (l.getD i 0)):=uq (by rw [al,aj h];rfl)
theorem fh {l:List Rat}(h:i<l.length):(l.map aZ)[i]?=some (aZ (l.getD i 0)):=eZ (by rw [al,aj h];rfl)
theorem oc {ls:List Lp.Line}{ws:List Value}(h:i<ls.length)(a:ws.length=ls.length):(List.zipWith (fun (l:Lp.Line) w=>[ai (qtx l.c),w]) ls ws)[i]?=some [ai (qtx (ls.getD i ⟨0,[]⟩).c),ws.getD i (.slice none 0 0)]:=by
 rw [List.getElem?_zipWith,aj h,aj (show i<ws.length by omega),al,al,aj h,aj (show i<ws.length by omega)];rfl
theorem Kk (C:Mem)(a b n i N:Nat)(t:Lp.Tab)(j k e f:Value)(g:List Value)(h:TabV C b n t j k e f g)(l:t.Ok N)(d:C a=some (.cells ⟨[.pointer (some ⟨b,0,none⟩)]⟩ 202 (0,0)))(m:i<t.basic.length)(p:QB 40 (t.line i).c) :
  Gives cx.P 181 [.int .i64 i,.pointer (some ⟨a,0,none⟩)] C (.bool (decide (n<=t.bas i) && decide ((t.line i).c<0))):=by
 obtain ⟨v,w,rfl,x,y,_⟩:=id h.B;obtain ⟨A2,c2,rfl,z,A,_⟩:=id h.L;have E:maxLen<=9223372036854775807:=by simp [maxLen]
 have F:=l.ll;exact Uv func181 25 U3 fun w0=>Ul 1 [0,1] Z<|UJ [0,1,2,3,4,5,6,7,8,9,10,11,12,13,14,15,16,17,18,19,20,21] [(8,1)] Z kr_ fun R G q=>Un (bkT d 1) U8<|Un (bkT d 1) U8<|Us 2 Z<|Un (PtrTo.blockT (h.m_.o) _ 1) U8<|Up U6<|UD h.B.m_ U10 om_ (kO m) fl_ fun H r=>Un r U8<|UU (fun _=>(jN _ b n (t.bas i) t _ _ e f g h.m_)) U9<|Up U6<|UQ U6 (fun _=>PtrTo.blockT (Mem.get d mup) _ 1) U3<|Us 2 Z<|UQ U6 (fun _=>PtrTo.blockT (h.m_.o) _ 1) U3<|Up U6<|D.index U10 (fun I=>⟨h.L.mono mup,by omega,oc om_ h.fl⟩) fl_ Z fun J s=>VZ Z Z Z Z Z Z Z Z Z Z s fl_ Z fun K u=>UQ U6 u U3<|UK (fun _=>(fW _ (t.line i).c (Q0 (bG p dc_) dc_))) U9<|Up U6<|UM U8<|C4 1 [3] q Z<|Ut U2<|⟨by rw [nX],Z⟩
theorem Jt (q:Rat):decide (0<eX q.num)=decide (0<q):=by
 have h:0<q.num ↔ 0<q:=by rw [Rat.lt_iff];simp
 rw [Rv];unfold eX;by_cases h1:q.num<0
 ·rw [aJ h1];exact ⟨fun h2=>absurd h2 dc_,fun h2=>absurd (h.2 h2) om_⟩
 rw [aB h1];by_cases h2:q.num=0
 ·rw [aJ h2];exact ⟨fun h3=>absurd h3 dc_,fun h3=>absurd (h.2 h3) om_⟩
 rw [aB h2];exact ⟨fun _=>h.1 om_,fun _=>by decide⟩
theorem wU {a:List Value}(h:TabV C b n t wB wL wO wW a)(c:t.Ok N)(d:i<t.basic.length):Sl C 1 (a.getD i (.slice none 0 0)) ((t.line i).f.map aZ)/\(t.line i).f.length=t.others.length:=by
 have e:=c.ll;have g:=h.fl;refine ⟨?_,c.fl _ (Lp.line_mem c d)⟩;refine h.F i _ _ (show t.lines[i]?=some (t.line i) from ?_) (show a[i]?=some _ from ?_)
 ·unfold Lp.Tab.line;rw [al,aj om_];rfl
 rw [al,aj om_];rfl
theorem Kj (C:Mem)(a j b n i r N:Nat)(t:Lp.Tab)(p q s k:Value)(c:List Value)(h:TabV C b n t p q s k c)(d:t.Ok N)(e:C a=some (.cells ⟨[.pointer (some ⟨b,0,none⟩)]⟩ 202 (0,0)))(u:C j=some (.cells ⟨[.int .i64 r]⟩ 3 (0,0)))
  (l:r<t.basic.length) (v:i<t.others.length) (w:QB 40 ((t.line r).g i)) :
  Gives cx.P 182 [.int .i64 i,.pointer (some ⟨a,0,none⟩),.pointer (some ⟨j,0,none⟩)] C (.bool (decide (n<=t.oth i) && decide (0<(t.line r).g i))):=by
 obtain ⟨G,H,rfl,I,J,_⟩:=id h.O;obtain ⟨A2,c2,rfl,K,M,_⟩:=id h.L;obtain ⟨f,Q⟩:=wU h d l;obtain ⟨S,T,x,U,V,_⟩:=id f;have m:=oc (ls:=t.lines) (ws:=c) (i:=r) (by rw [d.ll];exact l) h.fl;rw [x] at m f;have W:maxLen<=9223372036854775807:=by simp [maxLen]
 have X:=d.ll;exact Uv func182 29 U3 fun w0=>Ul 1 [0,1,2] Z<|UJ [0,1,2,3,4,5,6,7,8,9,10,11,12,13,14,15,16,17,18,19,20,21,22,23,24] [(8,1)] Z kr_ fun R Y y=>Un (bkT e 1) U8<|Un (bkT e 1) U8<|Us 2 Z<|Un (PtrTo.blockT (h.m_.o) _ 1) U8<|Up U6<|UD h.O.m_ U10 om_ (kO v) fl_ fun aa z=>Un z U8<|UU (fun _=>(jN _ b n (t.oth i) t _ _ _ k c h.m_)) U9<|Up U6<|UQ U6 (fun _=>PtrTo.blockT (Mem.get e mup) _ 1) U3<|Us 2 Z<|UQ U6 (fun _=>PtrTo.blockT (h.m_.o) _ 1) U3<|UQ U6 (fun _=>PtrTo.blockT (Mem.get u mup) _ 1) U3<|D.index U10 (fun A=>⟨h.L.mono mup,by omega,m⟩) fl_ Z fun ab B=>VZ Z Z Z Z Z Z Z Z Z Z B fl_ Z fun ac E=>UQ U6 E U3<|Up U6<|D.index U10 (fun A=>⟨f.mono mup,by omega,fh om_⟩) fl_ Z fun ad F=>UQ U6 F U3<|UK (fun _=>(fW _ ((t.line r).g i) (Q0 (bG w dc_) dc_))) U9<|Up U6<|UM U8<|C4 1 [4] y Z<|Ut U2<|⟨by rw [<- Jt],Z⟩
theorem Nk (C:Mem)(a b n i N:Nat)(t:Lp.Tab)(e f j k:Value)(d:List Value)(h:TabV C b n t e f j k d)(l:t.Ok N)(c:C a=some (.cells ⟨[.pointer (some ⟨b,0,none⟩)]⟩ 202 (0,0)))(m:i<t.others.length) :
  Gives cx.P 183 [.int .i64 i,.pointer (some ⟨a,0,none⟩)] C (.bool (!decide (n<=t.oth i) && !decide (t.worth.g i=0))):=by
 obtain ⟨s,u,rfl,v,w,_⟩:=id h.O;obtain ⟨A2,c2,rfl,x,y,_⟩:=id h.W;have z:maxLen<=9223372036854775807:=by simp [maxLen]
 have A:=l.wl;refine Uv func183 25 U3 fun w0=>Ul 1 [0,1] Z<|UJ [0,1,2,3,4,5,6,7,8,9,10,11,12,13,14,15,16,17,18,19,20,21] [(8,1)] Z kr_ fun R B p=>Un (bkT c 1) U8<|Un (bkT c 1) U8<|Us 2 Z<|Un (PtrTo.blockT (h.m_.o) _ 1) U8<|Up U6<|UD h.O.m_ U10 om_ (kO m) fl_ fun E q=>Un q U8<|UU (fun _=>(jN _ b n (t.oth i) t _ _ _ _ d h.m_)) U9<|Us 2 Z<|UQ U6 (fun _=>PtrTo.blockT (Mem.get c mup) _ 1) U3<|Us 3 Z<|UQ U6 (fun _=>PtrTo.blockT (h.m_.o) _ 1) U3<|Up U6<|D.index U10 (fun F=>⟨h.W.mono mup,by omega,fh om_⟩) fl_ Z fun G r=>UQ U6 r U3<|Up U6<|UM U8<|C4 1 [3] p Z<|Ut U2<|⟨?_,Z⟩;show Value.bool _=Value.bool _;congr 1;congr 1;show (!((⟨(qtx (t.worth.g i)).toArray⟩:ByteArray).data.toList == (⟨#[48]⟩:ByteArray).data.toList))=_;rw [fH]
theorem Nj (C:Mem)(a b n i N:Nat)(t:Lp.Tab)(e f j k:Value)(d:List Value)(h:TabV C b n t e f j k d)(l:t.Ok N)(c:C a=some (.cells ⟨[.pointer (some ⟨b,0,none⟩)]⟩ 202 (0,0)))(m:i<t.others.length)(p:QB 40 (t.worth.g i)) :
  Gives cx.P 184 [.int .i64 i,.pointer (some ⟨a,0,none⟩)] C (.bool (decide (n<=t.oth i) && decide (t.worth.g i<0))):=by
 obtain ⟨u,v,rfl,w,x,_⟩:=id h.O;obtain ⟨A2,c2,rfl,y,z,_⟩:=id h.W;have A:maxLen<=9223372036854775807:=by simp [maxLen]
 have B:=l.wl;exact Uv func184 25 U3 fun w0=>Ul 1 [0,1] Z<|UJ [0,1,2,3,4,5,6,7,8,9,10,11,12,13,14,15,16,17,18,19,20,21] [(8,1)] Z kr_ fun R E q=>Un (bkT c 1) U8<|Un (bkT c 1) U8<|Us 2 Z<|Un (PtrTo.blockT (h.m_.o) _ 1) U8<|Up U6<|UD h.O.m_ U10 om_ (kO m) fl_ fun F r=>Un r U8<|UU (fun _=>(jN _ b n (t.oth i) t _ _ _ _ d h.m_)) U9<|Up U6<|UQ U6 (fun _=>PtrTo.blockT (Mem.get c mup) _ 1) U3<|Us 3 Z<|UQ U6 (fun _=>PtrTo.blockT (h.m_.o) _ 1) U3<|Up U6<|D.index U10 (fun G=>⟨h.W.mono mup,by omega,fh om_⟩) fl_ Z fun H s=>UQ U6 s U3<|UK (fun _=>(fW _ (t.worth.g i) (Q0 (bG p dc_) dc_))) U9<|Up U6<|UM U8<|C4 1 [3] q Z<|Ut U2<|⟨by rw [nX],Z⟩
theorem yA (n:Nat):List.replicate n (ai [48])=((List.replicate n (0:Rat)).map aZ).flatten:=by
 rw [Tp,show aZ 0=[ai [48]] by unfold aZ;rw [PT]];induction n with
 | zero=>rfl
 | succ n a=>rw [RP,RP,Sa,<- a];rfl
def ptF (t:Lp.Tab)(n i:Nat):List Rat:=(List.range n).map fun v=>if v∈t.basic.take i then t.sol v else 0
theorem mS :(ptF t n i).length=n:=by simp [ptF]
theorem FS {v:Nat}(h:v<n):(ptF t n i)[v]?=some (if v∈t.basic.take i then t.sol v else 0):=by
 unfold ptF;rw [QI,Ro h];rfl
theorem Jq (t:Lp.Tab)(n:Nat):ptF t n 0=List.replicate n 0:=by
 refine List.ext_getElem? fun v=>?_;by_cases h:v<n
 ·rw [FS h,Sx,aJ h,List.take_zero,aB RV]
 rw [QS (by rw [mS];omega),QS ap]
theorem vP (h:i<t.basic.length):t.basic.take (i+1)=t.basic.take i++[t.bas i]:=by
 rw [Q5];congr 1;unfold Lp.Tab.bas;rw [al,aj h];rfl
theorem MQ (b:t.Ok N)(h:i<t.basic.length)(d:t.bas i<n):(ptF t n i).set (t.bas i) (t.line i).c=ptF t n (i+1):=by
 refine List.ext_getElem? fun v=>?_;rw [List.getElem?_set,mS];by_cases a:v<n
 ·rw [FS a,FS a,vP h];by_cases e:t.bas i=v
  ·subst e;rw [aJ rfl,aJ a,aJ am,Lp.sol_bas b h]
  rw [aB e];by_cases hm:v∈t.basic.take i
  ·rw [aJ hm,aJ (by simp [hm])]
  rw [aB hm,aB (by simp [hm];exact fun h2=>e h2.symm)]
 rw [aB om_,QS (by rw [mS];omega),QS (by rw [mS];omega)]
theorem Jr (h:i<t.basic.length)(a:n<=t.bas i):ptF t n i=ptF t n (i+1):=by
 refine List.map_congr_left fun v hm=>?_;have b:=Q2.1 hm;rw [vP h];by_cases hm:v∈t.basic.take i
 ·rw [aJ hm,aJ (by simp [hm])]
 rw [aB hm,aB (by simp [hm];omega)]
theorem MR (a:t.Ok N):ptF t n t.basic.length=(List.range n).map t.sol:=by
 refine List.map_congr_left fun v _=>?_;rw [QV];split
 ·rfl
 next h=>exact (Lp.sol_oth a h).symm
theorem Jx (C:Mem)(b n N:Nat)(t:Lp.Tab)(w x p q:Value)(r:List Value)(h:TabV C b n t w x p q r)(f:t.Ok N)(y:n<=1000000) :
  Jog.Fn cx.P 119 [.pointer (some ⟨b,0,none⟩)] C [] fun u _ c=>∃ g,u=.slice (some ⟨g,0,none⟩) n n/\c=[.arr u 56 1 n (((List.range n).map t.sol).map aZ).flatten]:=by
 obtain ⟨z,s,rfl,A,Q,_⟩:=id h.B;obtain ⟨A2,c2,rfl,S,T,_⟩:=id h.L;have E:=h.B;have U:t.basic.length<=s:=by rwa [aw] at A
 have V:maxLen<=9223372036854775807:=by simp [maxLen]
 have W:=f.ll;have F:=h.fl;refine Uv func119 38 U3 fun w0=>Ul 1 [0] Z<|UN [(4,3)] Z fun R a=>Us 3 Z<|Un (PtrTo.blockT (h.m_.o) _ 1) U8<|D.call (jk _ n y) Z (.inr dc_) U6 (QL _) fl_ (fun X _ Y _ H=>?_);obtain ⟨g,rfl,rfl⟩:=H;refine C4 1 [0,3] a Z<|Um 3 Z fun R a=>Un (PtrTo.blockT (h.m_.o) _ 1) U8<|C4 2 [0,3,14,15,16] a Z<|UE (L':=[.arr (.slice (some ⟨g,0,none⟩) n n) 56 1 n ((ptF t n 0).map aZ).flatten]) (by rw [Jq,<- yA];rfl)<|G.loop (fun fr C' c I=>∃ (i:Nat),(i<=t.basic.length)/\fr=[(0,[],.pointer (some ⟨b,0,none⟩)),(3,[],.slice (some ⟨g,0,none⟩) n n),(14,[],.slice z (t.basic.map aL).length s),(15,[],.int .i64 (t.basic.map aL).length),(16,[],.int .i64 i)]/\c=[.arr (.slice (some ⟨g,0,none⟩) n n) 56 1 n ((ptF t n i).map aZ).flatten]/\I=t.basic.length-i) (hn_ [0,3,14,15,16] Z) ⟨0,QK _,Z,Z,Z⟩ (fun fr aa ab m v J=>?_);obtain ⟨i,hi,rfl,rfl,rfl⟩:=J;refine Ul 1 [0,3,14,15,16,17] Z<|Uo (fun k=>?_) fun k=>?_
 ·have d:i<t.basic.length:=by
   have:=aW k;rw [aw] at this;omega
  refine Um 1 Z fun R a=>UD E.m_ U10 om_ (show (t.basic.map aL)[i]?=some (aL (t.bas i)) from kO d) fl_ fun ac K=>Un K U8<|C4 2 [0,3,4,5,14,15,16] a Z<|Um 2 Z fun R a=>Uy (jN _ b n (t.bas i) t _ _ p q r h.m_) U7<|C4 1 [0,3,4,5,14,15,16,24] a Z<|Uo (fun l=>?_) fun l=>?_
  ·have e:t.bas i<n:=by
    have ad:¬ n<=t.bas i:=by simpa using l
    omega
   refine Um 5 Z fun R a=>Un (PtrTo.blockT (h.m_.o) _ 1) U8<|Up U6<|UD h.L.m_ U10 om_ (oc om_ F) fl_ fun ae M=>Vz M U10 fl_ fun af O=>Un O U8<|UR (t.bas i*1) U10 ah U2<|UW (j:=0) U11 (by show t.bas i*1+1<=_;rw [bO bP,mS];omega)<|Ur [0,3,14,15,16] a Z<|Uq fun R a=>Uw _ U7<|C4 1 [0,3,14,15,16] a Z<|UE (L':=[.arr (.slice (some ⟨g,0,none⟩) n n) 56 1 n ((ptF t n (i+1)).map aZ).flatten]) (by rw [<- MQ f d e,<- bK bP _ (by rw [mS];exact e)];rfl)<|UA (m':=t.basic.length-(i+1)) om_ v (hn_ [0,3,14,15,16] Z) ⟨i+1,om_,Z,Z,Z⟩
  have e:n<=t.bas i:=by simpa using l
  rw [Jr d e];refine Uq fun R a=>Uw _ U7<|C4 1 [0,3,14,15,16] a Z<|UA (m':=t.basic.length-(i+1)) om_ v (hn_ [0,3,14,15,16] Z) ⟨i+1,om_,Z,Z,Z⟩
 have d:i=t.basic.length:=by
  have:=QJ k;rw [aw] at this;omega
 refine Ul 2 [2] Z<|Uz (UZ Z Z ?_);exact ⟨g,Z,by rw [d,MR f]⟩
def duF (p:Lp.Sys)(t:Lp.Tab)(l:Lp.Line)(i:Nat):List Rat:=(List.range p.m).map fun r=>if p.n+r∈t.others.take i then Lp.dualV p t l r else 0
theorem nf :(duF p t l i).length=p.m:=by simp [duF]
theorem Hh (h:r<p.m):(duF p t l i)[r]?=some (if p.n+r∈t.others.take i then Lp.dualV p t l r else 0):=by
 unfold duF;rw [QI,Ro h];rfl
theorem Ko (p:Lp.Sys)(t:Lp.Tab)(l:Lp.Line):duF p t l 0=List.replicate p.m 0:=by
 refine List.ext_getElem? fun v=>?_;by_cases h:v<p.m
 ·rw [Hh h,Sx,aJ h,List.take_zero,aB RV]
 rw [QS (by rw [nf];omega),QS ap]
theorem AM (h:i<t.others.length):t.others.take (i+1)=t.others.take i++[t.oth i]:=by
 rw [Q5];congr 1;unfold Lp.Tab.oth;rw [al,aj h];rfl
theorem NH (b:Lp.TabOf p t)(h:i<t.others.length)(c:p.n<=t.oth i):(duF p t l i).set (t.oth i-p.n) (l.g i)=duF p t l (i+1):=by
 refine List.ext_getElem? fun v=>?_;rw [List.getElem?_set,nf];by_cases a:v<p.m
 ·rw [Hh a,Hh a,AM h];by_cases e:t.oth i-p.n=v
  ·subst e;rw [aJ rfl,aJ a,aJ (by rw [show p.n+(t.oth i-p.n)=t.oth i by omega];simp),Lp.dualV_at b h c]
  rw [aB e];by_cases hm:p.n+v∈t.others.take i
  ·rw [aJ hm,aJ (by simp [hm])]
  rw [aB hm,aB (by simp [hm];omega)]
 rw [QS (by rw [nf];omega),QS (by rw [nf];omega)];have:=b.ok.lt _ (QX.2 (.inr (Lp.oth_mem h)));split
 ·exact aB om_
 rfl
theorem Kp (h:i<t.others.length)(a:t.oth i<p.n):duF p t l i=duF p t l (i+1):=by
 refine List.map_congr_left fun v _=>?_;rw [AM h];by_cases hm:p.n+v∈t.others.take i
 ·rw [aJ hm,aJ (by simp [hm])]
 rw [aB hm,aB (by simp [hm];omega)]
theorem NI :duF p t l t.others.length=(List.range p.m).map (Lp.dualV p t l):=by
 refine List.map_congr_left fun v _=>?_;rw [QV];split
 ·rfl
 next h=>exact (Lp.dualV_none h).symm
theorem Hg (C:Mem)(p:Lp.Sys)(b:Nat)(t:Lp.Tab)(l:Lp.Line)(E F H s w:Value)(v:List Value)(h:TabV C b p.n t E F H s v)(x:Lp.TabOf p t)(I:p.m<=1000000)(y:Sl C 1 w (l.f.map aZ))(X:l.f.length=t.others.length) :
  Jog.Fn cx.P 121 [.pointer (some ⟨b,0,none⟩),.agg ⟨[ai (qtx l.c),w]⟩,.int .i64 p.m] C [] fun u _ e=>∃ g,u=.slice (some ⟨g,0,none⟩) p.m p.m/\e=[.arr u 56 1 p.m (((List.range p.m).map (Lp.dualV p t l)).map aZ).flatten]:=by
 obtain ⟨J,z,rfl,K,Y,_⟩:=id h.O;obtain ⟨A3,c3,rfl,aa,ab,_⟩:=id y;have L:=h.O;have ac:t.others.length<=z:=by rwa [aw] at K
 have ad:maxLen<=9223372036854775807:=by simp [maxLen]
 refine Uv func121 40 U3 fun w0=>Uq fun R a=>UF U6 fun M=>C4 1 [0,2,4] a Z<|G.freeze 0 Z fun _ _ N=>UN [(1,3)] Z fun R a=>Up U6<|D.call (jk _ p.m I) Z (.inr dc_) U6 (QL _) fl_ (fun ae _ af _ Q=>?_);obtain ⟨g,rfl,rfl⟩:=Q;refine C4 1 [0,4,7] a Z<|Um 3 Z fun R a=>Un (PtrTo.blockT (h.m_.o) _ 1) U8<|C4 2 [0,4,7,15,16,17] a Z<|UE (L':=[.arr (.slice (some ⟨g,0,none⟩) p.m p.m) 56 1 p.m ((duF p t l 0).map aZ).flatten]) (by rw [Ko,<- yA];rfl)<|G.loop (fun fr C' e S=>∃ (i:Nat),(i<=t.others.length)/\fr=[(0,[],.pointer (some ⟨b,0,none⟩)),(4,[],.pointer (some ⟨M,0,none⟩)),(7,[],.slice (some ⟨g,0,none⟩) p.m p.m),(15,[],.slice J (t.others.map aL).length z),(16,[],.int .i64 (t.others.map aL).length),(17,[],.int .i64 i)]/\e=[.arr (.slice (some ⟨g,0,none⟩) p.m p.m) 56 1 p.m ((duF p t l i).map aZ).flatten]/\S=t.others.length-i) (hn_ [0,4,7,15,16,17] Z) ⟨0,QK _,Z,Z,Z⟩ (fun fr ag aj m A T=>?_);obtain ⟨i,hi,rfl,rfl,rfl⟩:=T;refine Ul 1 [0,4,7,15,16,17,18] Z<|Uo (fun k=>?_) fun k=>?_
 ·have d:i<t.others.length:=by
   have:=aW k;rw [aw] at this;omega
  have ak:=x.ok.lt _ (QX.2 (.inr (Lp.oth_mem d)));refine Um 1 Z fun R a=>UD L.m_ U10 om_ (show (t.others.map aL)[i]?=some (aL (t.oth i)) from kO d) fl_ fun al U=>Un U U8<|C4 2 [0,4,7,8,9,15,16,17] a Z<|Um 2 Z fun R a=>Uy (jN _ b p.n (t.oth i) t _ _ _ s v h.m_) U7<|Ur [0,4,7,8,9,15,16,17,24] a Z<|Uo (fun q=>?_) fun q=>?_
  ·have r:p.n<=t.oth i:=by simpa using q
   have B:((t.oth i:Int)-(p.n:Int)).toNat=t.oth i-p.n:=by omega
   have V:=NH (l:=l) x d r;refine UJ [0,1,2,3,4,5,6,7,8,9,10,11,12,13] [] Z kr_ fun R hB a=>Us 5 Z<|Un (PtrTo.blockT (h.m_.o) _ 1) U8<|Uw _ U7<|Up U6<|Un (bkT N 1) U8<|Up U6<|UD y.m_ U10 om_ (fh om_) fl_ fun am W=>Un W U8<|UR (((t.oth i:Int)-(p.n:Int)).toNat*1) U10 ah U2<|UW (j:=0) U11 (by show ((t.oth i:Int)-(p.n:Int)).toNat*1+1<=_;rw [B,bO bP,nf];omega)<|Ur [0,4,7,15,16,17] a Z<|Uq fun R a=>Uw _ U7<|C4 1 [0,4,7,15,16,17] a Z<|UE (L':=[.arr (.slice (some ⟨g,0,none⟩) p.m p.m) 56 1 p.m ((duF p t l (i+1)).map aZ).flatten]) (by rw [B,<- V,<- bK bP _ (by rw [nf];omega)];rfl)<|UA (m':=t.others.length-(i+1)) om_ A (hn_ [0,4,7,15,16,17] Z) ⟨i+1,om_,Z,Z,Z⟩
  have r:t.oth i<p.n:=by
   have an:¬ p.n<=t.oth i:=by simpa using q
   omega
  rw [Kp d r];refine Uq fun R a=>Uw _ U7<|C4 1 [0,4,7,15,16,17] a Z<|UA (m':=t.others.length-(i+1)) om_ A (hn_ [0,4,7,15,16,17] Z) ⟨i+1,om_,Z,Z,Z⟩
 have d:i=t.others.length:=by
  have:=QJ k;rw [aw] at this;omega
 refine Ul 2 [6] Z<|Uz (UZ Z Z ?_);exact ⟨g,Z,by rw [d,NI]⟩
def ngF (p:Lp.Sys)(t:Lp.Tab)(l:Lp.Line)(i:Nat):List Rat:=(List.range p.m).map fun r=>if r<i then -Lp.dualV p t l r else Lp.dualV p t l r
theorem im :(ngF p t l i).length=p.m:=by simp [ngF]
theorem BG (h:r<p.m):(ngF p t l i)[r]?=some (if r<i then -Lp.dualV p t l r else Lp.dualV p t l r):=by
 unfold ngF;rw [QI,Ro h];rfl
theorem JM (p:Lp.Sys)(t:Lp.Tab)(l:Lp.Line):(List.range p.m).map (Lp.dualV p t l)=ngF p t l 0:=List.map_congr_left fun r _=>by rw [aB (Nat.not_lt_zero _)]
theorem Nh (h:i<p.m):(ngF p t l i).set i (-Lp.dualV p t l i)=ngF p t l (i+1):=by
 refine List.ext_getElem? fun v=>?_;rw [List.getElem?_set,im];by_cases a:v<p.m
 ·rw [BG a,BG a];by_cases e:i=v
  ·subst e;rw [aJ rfl,aJ a,aJ om_]
  rw [aB e];by_cases hm:v<i
  ·rw [aJ hm,aJ om_]
  rw [aB hm,aB om_]
 rw [aB om_,QS (by rw [im];omega),QS (by rw [im];omega)]
theorem Ni (h:t.bas i-p.n<p.m):(ngF p t (t.line i) p.m).set (t.bas i-p.n) 1=(List.range p.m).map (Lp.refV p t i):=by
 refine List.ext_getElem? fun v=>?_;rw [List.getElem?_set,im,QI];by_cases a:v<p.m
 ·rw [BG a,Ro a,aJ a];unfold Lp.refV;by_cases e:t.bas i-p.n=v
  ·subst e;rw [aJ rfl,aJ h,R8,aJ rfl]
  rw [aB e,R8,aB (fun b=>e b.symm)]
 rw [aB om_,QS (by rw [im];omega),QS ap];rfl
theorem qtx1:qtx 1=[49]:=by decide +kernel
theorem enc1:aZ 1=[Value.string ⟨#[49]⟩]:=by
 show [ai (qtx 1)]=_;rw [qtx1];rfl
theorem Jf (C:Mem)(p:Lp.Sys)(b i:Nat)(t:Lp.Tab)(z A s v:Value)(f:List Value)(h:TabV C b p.n t z A s v f)(w:Lp.TabOf p t)(E:p.m<=1000000)(k:i<t.basic.length)(U:p.n<=t.bas i)(F:∀ r,QB 40 (Lp.dualV p t (t.line i) r)) :
  Jog.Fn cx.P 117 [.pointer (some ⟨b,0,none⟩),.int .i64 i,.int .i64 p.m] C [] fun u _ c=>∃ g,u=.agg ⟨[.slice (some ⟨g,0,none⟩) p.m p.m]⟩/\c=[.arr (.slice (some ⟨g,0,none⟩) p.m p.m) 56 1 p.m (((List.range p.m).map (Lp.refV p t i)).map aZ).flatten]:=by
 have ok:=w.ok;obtain ⟨V,W,rfl,X,Y,_⟩:=id h.B;obtain ⟨A2,c2,rfl,aa,ab,_⟩:=id h.L;obtain ⟨l,H⟩:=wU h ok k;obtain ⟨A3,c3,I,ac,ad,_⟩:=id l;have ae:=ok.ll;have x:=oc (ls:=t.lines) (ws:=f) (i:=i) om_ h.fl;rw [I] at x l;have ag:maxLen<=9223372036854775807:=by simp [maxLen]
 have ai:=ok.lt _ (QX.2 (.inl (Lp.bas_mem k)));have J:t.bas i-p.n<p.m:=by omega
 have y:((t.bas i:Int)-(p.n:Int)).toNat=t.bas i-p.n:=by omega
 refine Uv func117 49 U3 fun w0=>Uq fun R a=>UH U5 fun d=>Ur [0,1,2,6] a Z<|UN [(9,3)] Z fun R a=>Us 4 Z<|Un (PtrTo.blockT (h.m_.o) _ 1) U8<|Up U6<|UD h.L.m_ U10 om_ x fl_ fun aj K=>Un K U8<|Up U6<|D.call (Hg _ p b t (t.line i) _ _ s v _ f h.m_ w E l.m_ H) Z (.inr dc_) U6 (QL _) fl_ (fun ak _ al _ M=>?_);obtain ⟨g,rfl,rfl⟩:=M;refine C4 1 [0,1,6,7] a Z<|Ul 3 [0,1,6,7,20,21,22] Z<|UE (L':=[.arr (.slice (some ⟨g,0,none⟩) p.m p.m) 56 1 p.m ((ngF p t (t.line i) 0).map aZ).flatten,.obj d (.cells ⟨[.slice none 0 0]⟩ 75 (0,0))]) (by rw [<- JM];rfl)<|G.loop (fun fr C' c N=>∃ (j:Nat),(j<=p.m)/\fr=[(0,[],.pointer (some ⟨b,0,none⟩)),(1,[],.int .i64 i),(6,[],.pointer (some ⟨d,0,none⟩)),(7,[],.slice (some ⟨g,0,none⟩) p.m p.m),(20,[],.slice (some ⟨g,0,none⟩) p.m p.m),(21,[],.int .i64 p.m),(22,[],.int .i64 j)]/\c=[.arr (.slice (some ⟨g,0,none⟩) p.m p.m) 56 1 p.m ((ngF p t (t.line i) j).map aZ).flatten,.obj d (.cells ⟨[.slice none 0 0]⟩ 75 (0,0))]/\N=p.m-j) (hn_ [0,1,6,7,20,21,22] Z) ⟨0,QK _,Z,Z,Z⟩ (fun fr am an m O Q=>?_);obtain ⟨j,hj,rfl,rfl,rfl⟩:=Q;refine Ul 1 [0,1,6,7,20,21,22,23] Z<|Uo (fun q=>?_) fun q=>?_
 ·have e:j<p.m:=by
   have:=aW q;omega
  have S:(ngF p t (t.line i) j)[j]?=some (Lp.dualV p t (t.line i) j):=by rw [BG e,aB (Nat.lt_irrefl _)]
  refine Um 1 Z fun R a=>UR (j*1) U10 ah U2<|Va af U6 (fun _=>(by rw [cP bP S];rfl)) U2<|C4 2 [0,1,6,7,8,9,20,21,22] a Z<|Um 3 Z fun R a=>UC (eY _ _ (Q0 (bG (F j) dc_) dc_)) U7 fl_<|UR (j*1) U10 ah U2<|UW (j:=0) U11 (by show j*1+1<=_;rw [bO bP,im];omega)<|Ur [0,1,6,7,20,21,22] a Z<|Uq fun R a=>Uw _ U7<|C4 1 [0,1,6,7,20,21,22] a Z<|UE (L':=[.arr (.slice (some ⟨g,0,none⟩) p.m p.m) 56 1 p.m ((ngF p t (t.line i) (j+1)).map aZ).flatten,.obj d (.cells ⟨[.slice none 0 0]⟩ 75 (0,0))]) (by rw [<- Nh e,<- bK bP _ (by rw [im];omega)];rfl)<|UA (m':=p.m-(j+1)) om_ O (hn_ [0,1,6,7,20,21,22] Z) ⟨j+1,om_,Z,Z,Z⟩
 have e:j=p.m:=by
  have:=QJ q;omega
 subst e;refine UJ [0,1,2,3,4,5,6,7,8,9,10,11,12,13,14] [] Z kr_ fun R hB a=>Us 4 Z<|Un (PtrTo.blockT (h.m_.o) _ 1) U8<|Up U6<|UD h.B.m_ U10 om_ (show (t.basic.map aL)[i]?=some (aL (t.bas i)) from kO k) fl_ fun ao T=>Un T U8<|Us 3 Z<|Un (PtrTo.blockT (h.m_.o) _ 1) U8<|Uw _ U7<|UR (((t.bas i:Int)-(p.n:Int)).toNat*1) U10 ah U2<|UW (j:=0) U11 (by show ((t.bas i:Int)-(p.n:Int)).toNat*1+1<=_;rw [y,bO bP,im];omega)<|Ur [6,7] a Z<|Um 1 Z fun R a=>UG [.slice (some ⟨g,0,none⟩) p.m p.m] U8<|Ux (j:=1) U12<|Ur [6] a Z<|Uz (V7 0 Z Z Z Z Z ?_);refine ⟨g,Z, ?_⟩;rw [y,<- Ni J,<- bK bP 1 (by rw [im];omega),enc1];rfl
def cT (t:Lp.Tab)(wF:Nat->Value):List (Rat × Value):=(List.range t.basic.length).map fun i=>((t.line i).c,wF i)
theorem fF :(cT t wF).length=t.basic.length:=by simp [cT]
theorem nU (h:i<t.basic.length):(cT t wF)[i]?=some ((t.line i).c,wF i):=by
 unfold cT;rw [QI,Ro h];rfl
def Lm (t:Lp.Tab)(wF:Nat->Value)(i:Nat):Lent:=.arr (wF i) t.others.length 1 56 ((t.line i).f.map aZ)
def fS (b n:Nat)(t:Lp.Tab)(wB wL wO wW:Value)(wF:Nat->Value):List Lent :=
 .obj b [.int .i64 n,wB,wL,wO,ai (qtx t.worth.c),wW] 212::.arr wB t.basic.length 1 3 (t.basic.map aL)::.arr wL t.basic.length 2 209 ((cT t wF).map bJ)
  :: .arr wO t.others.length 1 3 (t.others.map aL)::.arr wW t.others.length 1 56 (t.worth.f.map aZ)::(List.range t.basic.length).map (Lm t wF)
theorem jX (a:t.Ok N)(h:i<t.basic.length):(t.line i).f.length=t.others.length:=a.fl _ (Lp.line_mem a h)
theorem ek {l:List Rat}:∀ r∈l.map aZ,r.length=1:=fun r hr=>by
 obtain ⟨x,_,rfl⟩:=QO.1 hr;rfl
theorem uJ {l:List Nat}:∀ r∈l.map aL,r.length=1:=fun r hr=>by
 obtain ⟨x,_,rfl⟩:=QO.1 hr;rfl
theorem ja (c:t.Ok N):∀ x∈fS b n t wB wL wO wW wF,x.wf:=by
 intro x a;unfold fS at a;simp only [QU,QO,Q2] at a;rcases a with rfl | rfl | rfl | rfl | rfl | ⟨i,d,rfl⟩
 ·trivial
 ·exact ⟨by simp,uJ⟩
 ·exact ⟨by simp [fF],fun r hr=>by obtain ⟨y,_,rfl⟩:=QO.1 hr;rfl⟩
 ·exact ⟨by simp,uJ⟩
 ·exact ⟨by simp [c.wl],ek⟩
 exact ⟨by simp [jX c d],ek⟩
theorem EI {b:Type}{f:Lp.Line->Value->b}(a:t.Ok N):List.zipWith f t.lines ((List.range t.basic.length).map wF)=(List.range t.basic.length).map fun i=>f (t.line i) (wF i):=by
 refine List.ext_getElem? fun i=>?_;rw [List.getElem?_zipWith,QI,QI];by_cases h:i<t.basic.length
 ·have h2:t.lines[i]?=some (t.line i):=by
   unfold Lp.Tab.line;rw [al,aj (by rw [a.ll];exact h)];rfl
  rw [h2,Ro h];rfl
 rw [QS (show (List.range t.basic.length).length<=i by simp;omega),QS (show t.lines.length<=i by rw [a.ll];omega)];rfl
theorem gC (c:t.Ok N)(h:∀ x∈fS b n t wB wL wO wW wF,x.seen C):TabV C b n t wB wL wO wW ((List.range t.basic.length).map wF):=by
 have h1:=h _ (PN ..);have h2:=h _ (QR _ (PN ..));have h3:=h _ (QR _ (QR _ (PN ..)));have h4:=h _ (QR _ (QR _ (QR _ (PN ..))));have h5:=h _ (QR _ (QR _ (QR _ (QR _ (PN ..)))));have j:∀ i,i<t.basic.length->Sl C 1 (wF i) ((t.line i).f.map aZ):=fun i a =>
  h (Lm t wF i) (QR _ (QR _ (QR _ (QR _ (QR _ (QO.2 ⟨i,Q2.2 a,rfl⟩))))))
 refine ⟨h1,h2,h4,h5, ?_,by simp [c.ll],fun i l w e g=>?_⟩
 ·rw [EI c];have d:Sl C 2 wL ((cT t wF).map bJ):=h3;unfold cT at d;rw [Ry] at d;exact d
 have a:i<t.lines.length:=(aE.1 e).1;rw [c.ll] at a;rw [QI,Ro a] at g;cases g
 have:t.line i=l:=by unfold Lp.Tab.line;rw [al,e];rfl
 rw [<- this];exact j i a
theorem Jo (C:Mem)(o:Tabs C)(e m f i n s:Nat)(w g:Value)(d:List (Rat × Value))(a b:List Rat)(c h:Rat)(p:d.length=m)(q:d[i]?=some (c,w))(r:a.length=n)(k:b.length=n)(t:s<n)(v:QB 40 c)(y:∀ x∈a,QB 40 x)(z:QB 40 h)(A:∀ x∈b,QB 40 x) :
  Jog.Fn cx.P 237 [.pointer (some ⟨e,i*2,none⟩),.int .i64 s,.agg ⟨[ai (qtx h),g]⟩] C [.arr g 56 1 n (b.map aZ).flatten,.arr (.slice (some ⟨e,0,none⟩) m f) 209 2 m (d.map bJ).flatten,.arr w 56 1 n (a.map aZ).flatten]
   fun u _ j=>u=.tuple #[]/\j=[.arr g 56 1 n (b.map aZ).flatten,.arr (.slice (some ⟨e,0,none⟩) m f) 209 2 m ((d.set i (c+a.getD s 0*h,w)).map bJ).flatten,.arr w 56 1 n ((kS a b s (a.getD s 0) n).map aZ).flatten]:=by
 have l:Jog.Enters cx.P 237=true:=by kernel_rfl
 refine Fn.perm (L2:=[.arr w 56 1 n (a.map aZ).flatten,.arr g 56 1 n (b.map aZ).flatten,.arr (.slice (some ⟨e,0,none⟩) m f) 209 2 m (d.map bJ).flatten]) (Rm (l₁:=[_,_]) (l₂:=[_]))<|Fn.form l om_ fun D E F=>?_;subst F;refine Fn.perm (Rm (l₁:=[_]) (l₂:=[_,_]))<|(VM (post:=fun u j=>u=.tuple #[]/\j=[.arr (.slice (some ⟨e,0,none⟩) m f) 209 2 m ((d.set i (c+a.getD s 0*h,_)).map bJ).flatten,.arr _ 56 1 n ((kS a b s (a.getD s 0) n).map aZ).flatten]) l ek (by simp [k]) fun C' G H=>MO C' (o.mono G) e m f i D E n s g d a b c h p q r k t H v y z A).mono ?_;rintro u C' j _ ⟨B,rfl,h1,rfl⟩;exact ⟨h1,Z⟩
theorem Jm (C:Mem)(o:Tabs C)(d n s:Nat)(e f g h w i:Value)(a b:List Rat)(c j:Rat)(p:a.length=n)(l:b.length=n)(q:s<n)(r:QB 40 c)(t:∀ x∈a,QB 40 x)(v:QB 40 j)(y:∀ x∈b,QB 40 x) :
  Jog.Fn cx.P 237 [.pointer (some ⟨d,4,none⟩),.int .i64 s,.agg ⟨[ai (qtx j),i]⟩] C [.arr i 56 1 n (b.map aZ).flatten,.obj d (.cells ⟨[e,f,g,h,ai (qtx c),w]⟩ 212 (0,0)),.arr w 56 1 n (a.map aZ).flatten]
   fun u _ k=>u=.tuple #[]/\k=[.arr i 56 1 n (b.map aZ).flatten,.obj d (.cells ⟨[e,f,g,h,ai (qtx (c+a.getD s 0*j)),w]⟩ 212 (0,0)),.arr w 56 1 n ((kS a b s (a.getD s 0) n).map aZ).flatten]:=by
 have m:Jog.Enters cx.P 237=true:=by kernel_rfl
 refine Fn.perm (L2:=[.arr w 56 1 n (a.map aZ).flatten,.arr i 56 1 n (b.map aZ).flatten,.obj d (.cells ⟨[e,f,g,h,ai (qtx c),w]⟩ 212 (0,0))]) (Rm (l₁:=[_,_]) (l₂:=[_]))<|Fn.form m om_ fun A B D=>?_;subst D;refine Fn.perm (Rm (l₁:=[_]) (l₂:=[_,_]))<|(VM (post:=fun u k=>u=.tuple #[]/\k=[.obj d (.cells ⟨[e,f,g,h,ai (qtx (c+a.getD s 0*j)),_]⟩ 212 (0,0)),.arr _ 56 1 n ((kS a b s (a.getD s 0) n).map aZ).flatten]) m ek (by simp [l]) fun C' E F=>MN C' (o.mono E) d A B n s e f g h i a b c j p l q F r t v y).mono ?_;rintro u C' k _ ⟨z,rfl,h1,rfl⟩;exact ⟨h1,Z⟩
theorem P9:qtx (-1)=[45,49]:=by decide +kernel
theorem wA {y:Lp.Line}(a:s<l.f.length):kS l.f y.f s (l.f.getD s 0) l.f.length=(Lp.putL l s y).f/\l.c+l.f.getD s 0*y.c=(Lp.putL l s y).c:=by
 have h:=FR (c:=l.c) (bc:=y.c) (bf:=y.f) a;exact ⟨(congrArg Lp.Line.f h).symm,(congrArg Lp.Line.c h).symm⟩
theorem Jn (C:Mem)(k:Tabs C)(b m e i n s:Nat)(w d:Value)(a:List (Rat × Value))(l y:Lp.Line)(o:a.length=m)(p:a[i]?=some (l.c,w))(g:l.f.length=n)(q:y.f.length=n)(r:s<n)(h:QB 40 l.c/\∀ x∈l.f,QB 40 x)(j:QB 40 y.c/\∀ x∈y.f,QB 40 x) :
  Jog.Fn cx.P 237 [.pointer (some ⟨b,i*2,none⟩),.int .i64 s,.agg ⟨[ai (qtx y.c),d]⟩] C [.arr d 56 1 n (y.f.map aZ).flatten,.arr (.slice (some ⟨b,0,none⟩) m e) 209 2 m (a.map bJ).flatten,.arr w 56 1 n (l.f.map aZ).flatten]
   fun u _ t=>u=.tuple #[]/\t=[.arr d 56 1 n (y.f.map aZ).flatten,.arr (.slice (some ⟨b,0,none⟩) m e) 209 2 m ((a.set i ((Lp.putL l s y).c,w)).map bJ).flatten,.arr w 56 1 n ((Lp.putL l s y).f.map aZ).flatten]:=by
 obtain ⟨h1,h2⟩:=wA (l:=l) (y:=y) (s:=s) om_;rw [<- h1,<- h2,g];exact Jo C k b m e i n s w d a l.f y.f l.c y.c o p g q r h.1 h.2 j.1 j.2
theorem Jl (C:Mem)(m:Tabs C)(a n s:Nat)(d e g h w b:Value)(l y:Lp.Line)(i:l.f.length=n)(o:y.f.length=n)(p:s<n)(j:QB 40 l.c/\∀ x∈l.f,QB 40 x)(k:QB 40 y.c/\∀ x∈y.f,QB 40 x) :
  Jog.Fn cx.P 237 [.pointer (some ⟨a,4,none⟩),.int .i64 s,.agg ⟨[ai (qtx y.c),b]⟩] C [.arr b 56 1 n (y.f.map aZ).flatten,.obj a (.cells ⟨[d,e,g,h,ai (qtx l.c),w]⟩ 212 (0,0)),.arr w 56 1 n (l.f.map aZ).flatten]
   fun u _ q=>u=.tuple #[]/\q=[.arr b 56 1 n (y.f.map aZ).flatten,.obj a (.cells ⟨[d,e,g,h,ai (qtx (Lp.putL l s y).c),w]⟩ 212 (0,0)),.arr w 56 1 n ((Lp.putL l s y).f.map aZ).flatten]:=by
 obtain ⟨h1,h2⟩:=wA (l:=l) (y:=y) (s:=s) om_;rw [<- h1,<- h2,i];exact Jm C m a n s d e g h w b l.f y.f l.c y.c i o p j.1 j.2 k.1 k.2
def byF (l:Lp.Line)(s j:Nat):List Rat:=(List.range l.f.length).map fun q=>if q<j then (Lp.byL l s).g q else 0
theorem li :(byF l s j).length=l.f.length:=by simp [byF]
theorem Cu {q:Nat}(h:q<l.f.length):(byF l s j)[q]?=some (if q<j then (Lp.byL l s).g q else 0):=by
 unfold byF;rw [QI,Ro h];rfl
theorem KP :List.replicate l.f.length 0=byF l s 0:=by
 refine List.ext_getElem? fun v=>?_;by_cases a:v<l.f.length
 ·rw [Cu a,Sx,aJ a,aB (Nat.not_lt_zero _)]
 rw [QS ap,QS (by rw [li];omega)]
theorem NZ (h:j<l.f.length):(byF l s j).set j (-(if j=s then -1 else l.g j) / l.g s)=byF l s (j+1):=by
 refine List.ext_getElem? fun q=>?_;rw [List.getElem?_set,li];by_cases a:q<l.f.length
 ·rw [Cu a,Cu a];by_cases e:j=q
  ·subst e;rw [aJ rfl,aJ a,aJ (Nat.lt_succ_self j),Lp.byL_g a];congr 1;split <;> grind
  rw [aB e];by_cases h1:q<j
  ·rw [aJ h1,aJ om_]
  rw [aB h1,aB om_]
 rw [aB om_,QS (by rw [li];omega),QS (by rw [li];omega)]
theorem vg :(Lp.byL l s).f.length=l.f.length:=by simp [Lp.byL]
theorem N0 :byF l s l.f.length=(Lp.byL l s).f:=by
 refine List.ext_getElem? fun q=>?_;by_cases a:q<l.f.length
 ·rw [Cu a,aJ a];unfold Lp.Line.g;rw [al,aj (by rw [vg];exact a)];rfl
 rw [QS (by rw [li];omega),QS (by rw [vg];omega)]
def stL (t:Lp.Tab)(r s i q:Nat):Lp.Line:=if q<i/\q≠r then Lp.putL (t.line q) s (Lp.byL (t.line r) s) else t.line q
def stV (t:Lp.Tab)(wF:Nat->Value)(r s i:Nat):List (Rat × Value):=(List.range t.basic.length).map fun q=>((stL t r s i q).c,wF q)
def stE (t:Lp.Tab)(wF:Nat->Value)(r s i q:Nat):Ent:=.arr (wF q) 56 1 t.others.length ((stL t r s i q).f.map aZ).flatten
theorem jb :(stV t wF r s i).length=t.basic.length:=by simp [stV]
theorem AR {q:Nat}(h:q<t.basic.length):(stV t wF r s i)[q]?=some ((stL t r s i q).c,wF q):=by
 unfold stV;rw [QI,Ro h];rfl
theorem tS {q:Nat}:stL t r s 0 q=t.line q:=aB fun h=>Nat.not_lt_zero _ h.1
theorem oU {q:Nat}(h:q≠i):stL t r s (i+1) q=stL t r s i q:=by
 unfold stL;by_cases h1:q<i/\q≠r
 ·rw [aJ h1,aJ ⟨by omega,h1.2⟩]
 rw [aB h1,aB fun h2=>h1 ⟨by omega,h2.2⟩]
theorem nT (h:i≠r):stL t r s i i=t.line i/\stL t r s (i+1) i=Lp.putL (t.line i) s (Lp.byL (t.line r) s) :=
 ⟨aB fun h2=>Nat.lt_irrefl _ h2.1,aJ ⟨Nat.lt_succ_self _,h⟩⟩
theorem AS {q:Nat}:stL t r s (r+1) q=stL t r s r q:=by
 by_cases h:q=r
 ·subst h;unfold stL;rw [aB fun h=>h.2 rfl,aB fun h=>h.2 rfl]
 exact oU h
theorem Mt (b:i<t.basic.length)(h:i≠r):(stV t wF r s i).set i ((Lp.putL (t.line i) s (Lp.byL (t.line r) s)).c,wF i)=stV t wF r s (i+1):=by
 refine List.ext_getElem? fun q=>?_;rw [List.getElem?_set,jb];by_cases a:q<t.basic.length
 ·rw [AR a,AR a];by_cases e:i=q
  ·subst e;rw [aJ rfl,aJ a,(nT h).2]
  rw [aB e,oU (Ne.symm e)]
 rw [aB om_,QS (by rw [jb];omega),QS (by rw [jb];omega)]
theorem IP :stV t wF r s (r+1)=stV t wF r s r:=by
 unfold stV;simp only [AS]
theorem IN :stV t wF r s 0=cT t wF:=by
 unfold stV cT;simp only [tS]
theorem Mu (d:t.Ok N)(f:r<t.basic.length):(stV t wF r s t.basic.length).set r ((Lp.byL (t.line r) s).c,wy)=cT (t.pivot r s) fun q=>if q=r then wy else wF q:=by
 have b:(t.pivot r s).basic.length=t.basic.length:=RD;refine List.ext_getElem? fun q=>?_;rw [List.getElem?_set,jb];by_cases a:q<t.basic.length
 ·rw [AR a,nU (by rw [b];exact a),Lp.pivot_line (by rw [d.ll];exact a)];by_cases e:r=q
  ·subst e;rw [aJ rfl,aJ a,aJ rfl,aJ rfl]
  rw [aB e,aB (Ne.symm e),aB (Ne.symm e)];unfold stL;rw [aJ ⟨a,Ne.symm e⟩]
 rw [aB om_,QS (by rw [jb];omega),QS (by rw [fF,b];omega)]
theorem range_nd :(List.range m).Nodup:=List.nodup_range
theorem Mv (b:t.Ok N)(c:r<t.basic.length) :
  (.arr wy 56 1 t.others.length ((Lp.byL (t.line r) s).f.map aZ).flatten::((List.range t.basic.length).erase r).map (stE t wF r s t.basic.length)).Perm (((List.range (t.pivot r s).basic.length).map (Lm (t.pivot r s) fun q=>if q=r then wy else wF q)).map Lent.ent):=by
 have g:(t.pivot r s).basic.length=t.basic.length:=RD;have d:(t.pivot r s).others.length=t.others.length:=RD;rw [g,Ry];have h0:(Lent.ent ∘ Lm (t.pivot r s) fun q=>if q=r then wy else wF q) r=.arr wy 56 1 t.others.length ((Lp.byL (t.line r) s).f.map aZ).flatten:=by
  show Ent.arr (if r=r then wy else wF r) _ 1 (t.pivot r s).others.length _=_;rw [aJ rfl,d,Lp.pivot_line (by rw [b.ll];exact c),aJ rfl]
 have h1:=lQ range_nd (Q2.2 c) (Lent.ent ∘ Lm (t.pivot r s) fun q=>if q=r then wy else wF q) (stE t wF r s t.basic.length) (fun q h a=>by
  have e:=Q2.1 h;show Ent.arr (if q=r then wy else wF q) _ 1 (t.pivot r s).others.length _=_;rw [aB a,d,Lp.pivot_line (by rw [b.ll];exact e),aB a];unfold stE stL;rw [aJ ⟨e,a⟩])
 rw [h0] at h1;exact h1.symm
theorem Ms (a:t.Ok N)(d:r<t.basic.length) :
  (([.obj b (.cells ⟨[.int .i64 n,wB,wL,wO,ai (qtx (Lp.putL t.worth s (Lp.byL (t.line r) s)).c),wW]⟩ 212 (0,0)),.arr wB 3 1 t.basic.length ((t.basic.set r (t.oth s)).map aL).flatten,.arr wL 209 2 t.basic.length (((stV t wF r s t.basic.length).set r ((Lp.byL (t.line r) s).c,wy)).map bJ).flatten,.arr wO 3 1 t.others.length ((t.others.set s (t.bas r)).map aL).flatten,.arr wW 56 1 t.others.length (((Lp.putL t.worth s (Lp.byL (t.line r) s)).f).map aZ).flatten]:List Ent)++(.arr wy 56 1 t.others.length ((Lp.byL (t.line r) s).f.map aZ).flatten::((List.range t.basic.length).erase r).map (stE t wF r s t.basic.length))).Perm ((fS b n (t.pivot r s) wB wL wO wW fun q=>if q=r then wy else wF q).map Lent.ent):=by
 have e:(t.pivot r s).basic.length=t.basic.length:=RD;have g:(t.pivot r s).others.length=t.others.length:=RD;rw [Mu a d];refine (List.Perm.append_left _ (Mv a d)).trans (List.Perm.of_eq ?_);unfold fS;simp only [Q9,Lent.ent,e,g];rfl
theorem yF {l:List Nat}(h:i<l.length):l[i]?=some (l.getD i 0):=by
 rw [al,aj h];rfl
theorem bE (r s:Nat):(fS b n t wB wL wO wW wF).map Lent.ent=[.obj b (.cells ⟨[.int .i64 n,wB,wL,wO,ai (qtx t.worth.c),wW]⟩ 212 (0,0)),.arr wB 3 1 t.basic.length ((t.basic).map aL).flatten,.arr wL 209 2 t.basic.length ((cT t wF).map bJ).flatten,.arr wO 3 1 t.others.length ((t.others).map aL).flatten,.arr wW 56 1 t.others.length ((t.worth.f).map aZ).flatten]++(List.range t.basic.length).map (stE t wF r s 0):=by
 have e:stE t wF r s 0=Lent.ent ∘ Lm t wF:=funext fun q=>by
  unfold stE;rw [tS];rfl
 rw [e,<- Ry];rfl
def LineQ (k:Nat)(l:Lp.Line):Prop:=QB k l.c/\∀ x∈l.f,QB k x
theorem LineQ.le {k m:Nat}{l:Lp.Line}(h:LineQ k l)(a:k<=m):LineQ m l:=⟨h.1.le a,fun x b=>(h.2 x b).le a⟩
theorem LineQ.g {k:Nat}{l:Lp.Line}(h:LineQ k l){j:Nat}(a:j<l.f.length):QB k (l.g j):=by
 unfold Lp.Line.g;rw [al,aj a];exact h.2 _ (RH _)
theorem Qz (h:LineQ 16 l)(c:s<l.f.length)(a:l.g s≠0):LineQ 32 (Lp.byL l s):=by
 have b:=h.g c;refine ⟨mC (gg h.1) b a,fun x d=>?_⟩;obtain ⟨q,e,rfl⟩:=QO.1 d;have i:=Q2.1 e;split
 ·exact mC ⟨by decide,by decide⟩ b a
 exact mC (gg (h.g i)) b a
theorem Bw (C:Mem)(O:Tabs C)(b n r s N:Nat)(t:Lp.Tab)(Q S T d:Value)(a:Nat->Value)(U:t.Ok N)(hm:t.basic.length<=1000000)(aQ:t.others.length<=1000000)(A:r<t.basic.length)(V:s<t.others.length)(hk:(t.line r).g s≠0)(hq:∀ i,i<t.basic.length->LineQ 16 (t.line i))(az:LineQ 16 t.worth) :
  Jog.Fn cx.P 179 [.pointer (some ⟨b,0,none⟩),.int .i64 r,.int .i64 s] C ((fS b n t Q S T d a).map Lent.ent) fun u _ z=>u=.tuple #[]/\∃ aA,z=(fS b n (t.pivot r s) Q S T d aA).map Lent.ent:=by
 have aR:maxLen<=9223372036854775807:=by simp [maxLen]
 have W:=jX U A;have aC:=U.wl;have I:=hq r A;have ag:s<(t.line r).f.length:=by omega
 have aq:=I.g ag;have ar:=Qz I ag hk;refine Uv func179 123 U3 fun w0=>?_;rw [bE r s];refine UE (L':=[.obj b (.cells ⟨[.int .i64 n,Q,S,T,ai (qtx t.worth.c),d]⟩ 212 (0,0)),.arr Q 3 1 t.basic.length ((t.basic).map aL).flatten,.arr S 209 2 t.basic.length ((cT t a).map bJ).flatten,.arr T 3 1 t.others.length ((t.others).map aL).flatten,.arr d 56 1 t.others.length ((t.worth.f).map aZ).flatten]++(List.range t.basic.length).map (stE t a r s 0)) Z<|V5 1 Z om_ (fun o p J=>?_);subst J;refine V5 2 Z om_ (fun k l J=>?_);subst J;refine V5 3 Z om_ (fun gO w J=>?_);subst J;refine G.perm (L':=[.arr (a r) 56 1 t.others.length ((t.line r).f.map aZ).flatten,.obj b (.cells ⟨[.int .i64 n,.slice (some ⟨o,0,none⟩) t.basic.length p,.slice (some ⟨k,0,none⟩) t.basic.length l,.slice (some ⟨gO,0,none⟩) t.others.length w,ai (qtx t.worth.c),d]⟩ 212 (0,0)),.arr (.slice (some ⟨o,0,none⟩) t.basic.length p) 3 1 t.basic.length ((t.basic).map aL).flatten,.arr (.slice (some ⟨k,0,none⟩) t.basic.length l) 209 2 t.basic.length ((cT t a).map bJ).flatten,.arr (.slice (some ⟨gO,0,none⟩) t.others.length w) 3 1 t.others.length ((t.others).map aL).flatten,.arr d 56 1 t.others.length ((t.worth.f).map aZ).flatten]++((List.range t.basic.length).erase r).map (stE t a r s 0)) (by
  have h1:=lQ range_nd (Q2.2 A) (stE t a r s 0) (stE t a r s 0) (fun _ _ _=>rfl);refine (List.Perm.append_left _ h1).trans ?_;have e:stE t a r s 0 r=.arr (a r) 56 1 t.others.length ((t.line r).f.map aZ).flatten:=by unfold stE;rw [tS]
  rw [e]
  (exact pkL [5] rfl)) ?_
 refine G.freezeArr 0 ((t.line r).f.map aZ) Z Z ek (by simp [W]) (fun _ _ K=>?_);obtain ⟨X,Y,au,aD,aS,_⟩:=id K;rw [au] at K;simp only [aw] at K aD;have aE:(cT t a)[r]?=some ((t.line r).c,.slice X (t.line r).f.length Y):=by rw [nU A,au,aw]
 refine Um 3 Z fun R x=>Uu af U9<|Up U6<|UR (r*2) U10 ah U2<|Va (v:=.agg ⟨[ai (qtx (t.line r).c),.slice X (t.line r).f.length Y]⟩) ac U6 (fun _=>(by rw [og aE];rfl)) U2<|UH U5 fun b6=>Ux (j:=0) U12<|Ur [0,1,2,6] x Z<|G.freeze 0 Z fun _ _ aj=>Um 1 Z fun R x=>Un (bkT aj 1) U8<|Up U6<|UD K.m_ U10 om_ (fh ag) fl_ fun aT aF=>Un aF U8<|C4 1 [0,1,2,6,7] x Z<|UN [(5,3)] Z fun R x=>Us 3 Z<|Uu af U9<|Up U6<|D.call (jk _ t.others.length om_) Z (.inr dc_) U6 (QL _) fl_ (fun aU _ aV _ aG=>?_);obtain ⟨y,rfl,rfl⟩:=aG;refine UG [ai [],.slice (some ⟨y,0,none⟩) t.others.length t.others.length] U8<|UH U5 fun B=>Ux (j:=0) U12<|Ur [0,1,2,6,7,8] x Z<|Um 1 Z fun R x=>Un (bkT aj 1) U8<|UC (eY _ (t.line r).c (Q0 (bG I.1 dc_) dc_)) U7 fl_<|Up U6<|UC (jh _ O.m_ (-(t.line r).c) ((t.line r).g s) 16 dc_ dc_ (gg I.1) aq hk) U7 fl_<|Us 4 Z<|Ux (j:=0) U12<|Ur [0,1,2,6,7,8] x Z<|Um 1 Z fun R x=>Un (bkT aj 1) U8<|C4 2 [0,1,2,7,8,41,42,43] x Z<|UE (L':=[.obj B (.cells ⟨[ai (qtx (Lp.byL (t.line r) s).c),.slice (some ⟨y,0,none⟩) t.others.length t.others.length]⟩ 209 (0,0)),.arr (.slice (some ⟨y,0,none⟩) t.others.length t.others.length) 56 1 t.others.length ((byF (t.line r) s 0).map aZ).flatten,.obj b (.cells ⟨[.int .i64 n,.slice (some ⟨o,0,none⟩) t.basic.length p,.slice (some ⟨k,0,none⟩) t.basic.length l,.slice (some ⟨gO,0,none⟩) t.others.length w,ai (qtx t.worth.c),d]⟩ 212 (0,0)),.arr (.slice (some ⟨o,0,none⟩) t.basic.length p) 3 1 t.basic.length ((t.basic).map aL).flatten,.arr (.slice (some ⟨k,0,none⟩) t.basic.length l) 209 2 t.basic.length ((cT t a).map bJ).flatten,.arr (.slice (some ⟨gO,0,none⟩) t.others.length w) 3 1 t.others.length ((t.others).map aL).flatten,.arr d 56 1 t.others.length ((t.worth.f).map aZ).flatten]++((List.range t.basic.length).erase r).map (stE t a r s 0)) (by rw [<- KP,W,<- yA];rfl)<|G.loop (fun fr C' z L=>∃ (j:Nat),(j<=(t.line r).f.length)/\fr=[(0,[],.pointer (some ⟨b,0,none⟩)),(1,[],.int .i64 r),(2,[],.int .i64 s),(7,[],ai (qtx ((t.line r).g s))),(8,[],.pointer (some ⟨B,0,none⟩)),(41,[],.slice X (t.line r).f.length Y),(42,[],.int .i64 (t.line r).f.length),(43,[],.int .i64 j)]/\z=[.obj B (.cells ⟨[ai (qtx (Lp.byL (t.line r) s).c),.slice (some ⟨y,0,none⟩) t.others.length t.others.length]⟩ 209 (0,0)),.arr (.slice (some ⟨y,0,none⟩) t.others.length t.others.length) 56 1 t.others.length ((byF (t.line r) s j).map aZ).flatten,.obj b (.cells ⟨[.int .i64 n,.slice (some ⟨o,0,none⟩) t.basic.length p,.slice (some ⟨k,0,none⟩) t.basic.length l,.slice (some ⟨gO,0,none⟩) t.others.length w,ai (qtx t.worth.c),d]⟩ 212 (0,0)),.arr (.slice (some ⟨o,0,none⟩) t.basic.length p) 3 1 t.basic.length ((t.basic).map aL).flatten,.arr (.slice (some ⟨k,0,none⟩) t.basic.length l) 209 2 t.basic.length ((cT t a).map bJ).flatten,.arr (.slice (some ⟨gO,0,none⟩) t.others.length w) 3 1 t.others.length ((t.others).map aL).flatten,.arr d 56 1 t.others.length ((t.worth.f).map aZ).flatten]++((List.range t.basic.length).erase r).map (stE t a r s 0)/\L=(t.line r).f.length-j) (hn_ [0,1,2,7,8,41,42,43] Z) ⟨0,QK _,Z,Z,Z⟩ (fun fr aX aY m _ M=>?_);obtain ⟨j,hj,rfl,rfl,rfl⟩:=M;refine Ul 1 [0,1,2,7,8,41,42,43,44] Z<|Uo (fun ak=>?_) fun ak=>?_
 ·have H:j<(t.line r).f.length:=by
   have:=aW ak;omega
  have av:QB 16 (if j=s then (-1:Rat) else (t.line r).g j):=by
   split
   ·exact ⟨by decide,by decide⟩
   exact I.g H
  refine Um 1 Z fun R x=>UD K.m_ U10 om_ (show ((t.line r).f.map aZ)[j]?=some (aZ ((t.line r).g j)) from fh H) fl_ fun a0 aH=>Un aH U8<|C4 2 [0,1,2,7,8,9,10,41,42,43] x Z<|Ul 3 [0,1,2,7,8,9,10,41,42,43,50] Z<|G.cut (fun fr C' z L=>(True)/\fr=[(0,[],.pointer (some ⟨b,0,none⟩)),(1,[],.int .i64 r),(2,[],.int .i64 s),(7,[],ai (qtx ((t.line r).g s))),(8,[],.pointer (some ⟨B,0,none⟩)),(9,[],.int .i64 j),(10,[],ai (qtx (if j=s then (-1:Rat) else (t.line r).g j))),(41,[],.slice X (t.line r).f.length Y),(42,[],.int .i64 (t.line r).f.length),(43,[],.int .i64 j)]/\z=[.obj B (.cells ⟨[ai (qtx (Lp.byL (t.line r) s).c),.slice (some ⟨y,0,none⟩) t.others.length t.others.length]⟩ 209 (0,0)),.arr (.slice (some ⟨y,0,none⟩) t.others.length t.others.length) 56 1 t.others.length ((byF (t.line r) s j).map aZ).flatten,.obj b (.cells ⟨[.int .i64 n,.slice (some ⟨o,0,none⟩) t.basic.length p,.slice (some ⟨k,0,none⟩) t.basic.length l,.slice (some ⟨gO,0,none⟩) t.others.length w,ai (qtx t.worth.c),d]⟩ 212 (0,0)),.arr (.slice (some ⟨o,0,none⟩) t.basic.length p) 3 1 t.basic.length ((t.basic).map aL).flatten,.arr (.slice (some ⟨k,0,none⟩) t.basic.length l) 209 2 t.basic.length ((cT t a).map bJ).flatten,.arr (.slice (some ⟨gO,0,none⟩) t.others.length w) 3 1 t.others.length ((t.others).map aL).flatten,.arr d 56 1 t.others.length ((t.worth.f).map aZ).flatten]++((List.range t.basic.length).erase r).map (stE t a r s 0)) ?_ (fun fr _ a1 L _ M=>?_)
  ·refine Uo (fun al=>?_) fun al=>?_
   ·have am:j=s:=by
     have ab:((j:Int) == (s:Int))=true:=al;have:=eq_of_beq ab;omega
    refine Ul 1 [0,1,2,7,8,9,10,41,42,43] Z<|UB 0 (Mem.le.refl _) (hn_ [0,1,2,7,8,9,10,41,42,43] Z) ⟨trivial,by rw [aJ am,P9];rfl,Z⟩
   have am:¬ j=s:=by
    have ab:((j:Int) == (s:Int))=false:=al;intro h;rw [h] at ab;simp at ab
   refine UB 0 (Mem.le.refl _) (hn_ [0,1,2,7,8,9,10,41,42,43] Z) ⟨trivial,by rw [aB am],Z⟩
  obtain ⟨a2,rfl,rfl⟩:=M;refine UJ [0,1,2,3,4,5,6,7,8,9,10,11] [(4,1),(6,1)] Z kr_ fun R hB x=>Up U6<|Uu af U9<|Us 2 Z<|UK (fun _=>(eY _ (if j=s then (-1:Rat) else (t.line r).g j) (Q0 (bG av dc_) dc_))) U9<|Up U6<|UK (fun _=>(jh _ O.m_ (-(if j=s then (-1:Rat) else (t.line r).g j)) ((t.line r).g s) 16 dc_ dc_ (gg av) aq hk)) U9<|Us 3 Z<|UR (j*1) U10 ah U2<|UW (j:=1) U11 (by show j*1+1<=_;rw [bO bP,li];omega)<|Ur [0,1,2,7,8,41,42,43] x Z<|Uq fun R x=>Uw _ U7<|C4 1 [0,1,2,7,8,41,42,43] x Z<|G.perm (L':=[.obj B (.cells ⟨[ai (qtx (Lp.byL (t.line r) s).c),.slice (some ⟨y,0,none⟩) t.others.length t.others.length]⟩ 209 (0,0)),.arr (.slice (some ⟨y,0,none⟩) t.others.length t.others.length) 56 1 t.others.length ((byF (t.line r) s (j+1)).map aZ).flatten,.obj b (.cells ⟨[.int .i64 n,.slice (some ⟨o,0,none⟩) t.basic.length p,.slice (some ⟨k,0,none⟩) t.basic.length l,.slice (some ⟨gO,0,none⟩) t.others.length w,ai (qtx t.worth.c),d]⟩ 212 (0,0)),.arr (.slice (some ⟨o,0,none⟩) t.basic.length p) 3 1 t.basic.length ((t.basic).map aL).flatten,.arr (.slice (some ⟨k,0,none⟩) t.basic.length l) 209 2 t.basic.length ((cT t a).map bJ).flatten,.arr (.slice (some ⟨gO,0,none⟩) t.others.length w) 3 1 t.others.length ((t.others).map aL).flatten,.arr d 56 1 t.others.length ((t.worth.f).map aZ).flatten]++((List.range t.basic.length).erase r).map (stE t a r s 0)) (by rw [<- NZ H,<- bK bP _ (by rw [li];exact H)];exact List.Perm.swap _ _ _)<|UA (m':=(t.line r).f.length-(j+1)) om_ mup (hn_ [0,1,2,7,8,41,42,43] Z) ⟨j+1,om_,Z,Z,Z⟩
 have H:j=(t.line r).f.length:=by
  have:=QJ ak;omega
 rw [H,N0];refine G.freeze 0 Z fun _ _ an=>Um 3 Z fun R x=>Uu ae U9<|C4 2 [0,1,2,8,67,68] x Z<|G.perm (L':=[.arr (.slice (some ⟨y,0,none⟩) t.others.length t.others.length) 56 1 t.others.length (((Lp.byL (t.line r) s).f).map aZ).flatten,.arr (.slice (some ⟨k,0,none⟩) t.basic.length l) 209 2 t.basic.length ((stV t a r s 0).map bJ).flatten,.obj b (.cells ⟨[.int .i64 n,.slice (some ⟨o,0,none⟩) t.basic.length p,.slice (some ⟨k,0,none⟩) t.basic.length l,.slice (some ⟨gO,0,none⟩) t.others.length w,ai (qtx t.worth.c),d]⟩ 212 (0,0)),.arr (.slice (some ⟨o,0,none⟩) t.basic.length p) 3 1 t.basic.length ((t.basic).map aL).flatten,.arr (.slice (some ⟨gO,0,none⟩) t.others.length w) 3 1 t.others.length ((t.others).map aL).flatten,.arr d 56 1 t.others.length ((t.worth.f).map aZ).flatten]++((List.range t.basic.length).erase r).map (stE t a r s 0)) (by rw [IN];(exact pkL [0,2] Z))<|G.loop (fun fr C' z L=>∃ (i:Nat),(i<=t.basic.length)/\fr=[(0,[],.pointer (some ⟨b,0,none⟩)),(1,[],.int .i64 r),(2,[],.int .i64 s),(8,[],.pointer (some ⟨B,0,none⟩)),(67,[],.int .i64 t.basic.length),(68,[],.int .i64 i)]/\z=[.arr (.slice (some ⟨y,0,none⟩) t.others.length t.others.length) 56 1 t.others.length (((Lp.byL (t.line r) s).f).map aZ).flatten,.arr (.slice (some ⟨k,0,none⟩) t.basic.length l) 209 2 t.basic.length ((stV t a r s i).map bJ).flatten,.obj b (.cells ⟨[.int .i64 n,.slice (some ⟨o,0,none⟩) t.basic.length p,.slice (some ⟨k,0,none⟩) t.basic.length l,.slice (some ⟨gO,0,none⟩) t.others.length w,ai (qtx t.worth.c),d]⟩ 212 (0,0)),.arr (.slice (some ⟨o,0,none⟩) t.basic.length p) 3 1 t.basic.length ((t.basic).map aL).flatten,.arr (.slice (some ⟨gO,0,none⟩) t.others.length w) 3 1 t.others.length ((t.others).map aL).flatten,.arr d 56 1 t.others.length ((t.worth.f).map aZ).flatten]++((List.range t.basic.length).erase r).map (stE t a r s i)/\L=t.basic.length-i) (hn_ [0,1,2,8,67,68] Z) ⟨0,QK _,Z,Z,Z⟩ (fun fr a3 a4 m _ M=>?_);obtain ⟨i,hi,rfl,rfl,rfl⟩:=M;refine Ul 1 [0,1,2,8,67,68,69] Z<|Uo (fun ao=>?_) fun ao=>?_
 ·have E:i<t.basic.length:=by
   have:=aW ao;omega
  refine Ul 2 [0,1,2,8,11,67,68] Z<|Ul 3 [0,1,2,8,11,67,68,73] Z<|Uo (fun ap=>?_) fun ap=>?_
  ·have F:i≠r:=by
    have ad:(!((i:Int) == (r:Int)))=true:=ap;intro h;rw [h] at ad;simp at ad
   have ax:i∈(List.range t.basic.length).erase r:=(List.Nodup.mem_erase_iff range_nd).2 ⟨F,Q2.2 E⟩;have ay:=lQ (range_nd.erase r) ax (stE t a r s i) (stE t a r s (i+1)) (fun q _ aI=>by unfold stE;rw [oU aI]);have he:stE t a r s i i=.arr (a i) 56 1 t.others.length ((t.line i).f.map aZ).flatten:=by unfold stE;rw [(nT F).1]
   have aM:stE t a r s (i+1) i=.arr (a i) 56 1 t.others.length ((Lp.putL (t.line i) s (Lp.byL (t.line r) s)).f.map aZ).flatten:=by unfold stE;rw [(nT F).2]
   have aN:(stV t a r s i)[i]?=some ((t.line i).c,a i):=by rw [AR E,(nT F).1]
   rw [he] at ay;refine G.perm (L':=[.arr (.slice (some ⟨y,0,none⟩) t.others.length t.others.length) 56 1 t.others.length (((Lp.byL (t.line r) s).f).map aZ).flatten,.arr (.slice (some ⟨k,0,none⟩) t.basic.length l) 209 2 t.basic.length ((stV t a r s i).map bJ).flatten,.arr (a i) 56 1 t.others.length ((t.line i).f.map aZ).flatten,.obj b (.cells ⟨[.int .i64 n,.slice (some ⟨o,0,none⟩) t.basic.length p,.slice (some ⟨k,0,none⟩) t.basic.length l,.slice (some ⟨gO,0,none⟩) t.others.length w,ai (qtx t.worth.c),d]⟩ 212 (0,0)),.arr (.slice (some ⟨o,0,none⟩) t.basic.length p) 3 1 t.basic.length ((t.basic).map aL).flatten,.arr (.slice (some ⟨gO,0,none⟩) t.others.length w) 3 1 t.others.length ((t.others).map aL).flatten,.arr d 56 1 t.others.length ((t.worth.f).map aZ).flatten]++(((List.range t.basic.length).erase r).erase i).map (stE t a r s (i+1))) ((List.Perm.append_left _ ay).trans (pkL [0,0,4] Z))<|UJ [0,1,2,3,4,5,6,7,8] [(8,3)] Z kr_ fun R hB x=>Us 3 Z<|Uu aa U9<|Up U6<|UR (i*2) U10 ah U2<|Up U6<|Un (bkT an 2) U8<|D.call (Jn _ O.m_ k t.basic.length l i t.others.length s (a i) (.slice (some ⟨y,0,none⟩) t.others.length t.others.length) (stV t a r s i) (t.line i) (Lp.byL (t.line r) s) jb aN (jX U E) (by rw [vg];exact W) V ((hq i E).le dc_) (ar.le dc_)) Z (.inr dc_) U6 (pkL [0,0,0] Z) fl_ fun a5 _ a6 _ aO=>Ur [0,1,2,8,67,68] x Z ?_;obtain ⟨-,rfl⟩:=aO;refine G.perm (L':=[.arr (.slice (some ⟨y,0,none⟩) t.others.length t.others.length) 56 1 t.others.length (((Lp.byL (t.line r) s).f).map aZ).flatten,.arr (.slice (some ⟨k,0,none⟩) t.basic.length l) 209 2 t.basic.length ((stV t a r s (i+1)).map bJ).flatten,.obj b (.cells ⟨[.int .i64 n,.slice (some ⟨o,0,none⟩) t.basic.length p,.slice (some ⟨k,0,none⟩) t.basic.length l,.slice (some ⟨gO,0,none⟩) t.others.length w,ai (qtx t.worth.c),d]⟩ 212 (0,0)),.arr (.slice (some ⟨o,0,none⟩) t.basic.length p) 3 1 t.basic.length ((t.basic).map aL).flatten,.arr (.slice (some ⟨gO,0,none⟩) t.others.length w) 3 1 t.others.length ((t.others).map aL).flatten,.arr d 56 1 t.others.length ((t.worth.f).map aZ).flatten]++((List.range t.basic.length).erase r).map (stE t a r s (i+1))) (by
    rw [<- Mt E F];refine List.Perm.trans (l₂:=[.arr (.slice (some ⟨y,0,none⟩) t.others.length t.others.length) 56 1 t.others.length (((Lp.byL (t.line r) s).f).map aZ).flatten,.arr (.slice (some ⟨k,0,none⟩) t.basic.length l) 209 2 t.basic.length (((stV t a r s i).set i ((Lp.putL (t.line i) s (Lp.byL (t.line r) s)).c,a i)).map bJ).flatten,.obj b (.cells ⟨[.int .i64 n,.slice (some ⟨o,0,none⟩) t.basic.length p,.slice (some ⟨k,0,none⟩) t.basic.length l,.slice (some ⟨gO,0,none⟩) t.others.length w,ai (qtx t.worth.c),d]⟩ 212 (0,0)),.arr (.slice (some ⟨o,0,none⟩) t.basic.length p) 3 1 t.basic.length ((t.basic).map aL).flatten,.arr (.slice (some ⟨gO,0,none⟩) t.others.length w) 3 1 t.others.length ((t.others).map aL).flatten,.arr d 56 1 t.others.length ((t.worth.f).map aZ).flatten]++(.arr (a i) 56 1 t.others.length ((Lp.putL (t.line i) s (Lp.byL (t.line r) s)).f.map aZ).flatten::(((List.range t.basic.length).erase r).erase i).map (stE t a r s (i+1)))) (pkL [0,0,1,1,1,1] Z) (List.Perm.append_left _ ?_);rw [<- aM];exact (lQ (range_nd.erase r) ax (stE t a r s (i+1)) (stE t a r s (i+1)) (fun _ _ _=>rfl)).symm) ?_
   refine Uq fun R x=>Uw _ U7<|C4 1 [0,1,2,8,67,68] x Z<|UA (m':=t.basic.length-(i+1)) om_ mup (hn_ [0,1,2,8,67,68] Z) ⟨i+1,om_,Z,Z,Z⟩
  have F:i=r:=by
   have ad:(!((i:Int) == (r:Int)))=false:=ap;simp at ad;omega
  refine UE (L':=[.arr (.slice (some ⟨y,0,none⟩) t.others.length t.others.length) 56 1 t.others.length (((Lp.byL (t.line r) s).f).map aZ).flatten,.arr (.slice (some ⟨k,0,none⟩) t.basic.length l) 209 2 t.basic.length ((stV t a r s (i+1)).map bJ).flatten,.obj b (.cells ⟨[.int .i64 n,.slice (some ⟨o,0,none⟩) t.basic.length p,.slice (some ⟨k,0,none⟩) t.basic.length l,.slice (some ⟨gO,0,none⟩) t.others.length w,ai (qtx t.worth.c),d]⟩ 212 (0,0)),.arr (.slice (some ⟨o,0,none⟩) t.basic.length p) 3 1 t.basic.length ((t.basic).map aL).flatten,.arr (.slice (some ⟨gO,0,none⟩) t.others.length w) 3 1 t.others.length ((t.others).map aL).flatten,.arr d 56 1 t.others.length ((t.worth.f).map aZ).flatten]++((List.range t.basic.length).erase r).map (stE t a r s (i+1))) (by
   have e:stE t a r s (r+1)=stE t a r s r:=funext fun q=>by unfold stE;rw [AS]
   rw [F,IP,e]) ?_
  refine Uq fun R x=>Uw _ U7<|C4 1 [0,1,2,8,67,68] x Z<|UA (m':=t.basic.length-(i+1)) om_ mup (hn_ [0,1,2,8,67,68] Z) ⟨i+1,om_,Z,Z,Z⟩
 have E:i=t.basic.length:=by
  have:=QJ ao;omega
 rw [E];refine G.perm (L':=[.arr (.slice (some ⟨y,0,none⟩) t.others.length t.others.length) 56 1 t.others.length (((Lp.byL (t.line r) s).f).map aZ).flatten,.obj b (.cells ⟨[.int .i64 n,.slice (some ⟨o,0,none⟩) t.basic.length p,.slice (some ⟨k,0,none⟩) t.basic.length l,.slice (some ⟨gO,0,none⟩) t.others.length w,ai (qtx t.worth.c),d]⟩ 212 (0,0)),.arr d 56 1 t.others.length ((t.worth.f).map aZ).flatten,.arr (.slice (some ⟨k,0,none⟩) t.basic.length l) 209 2 t.basic.length ((stV t a r s t.basic.length).map bJ).flatten,.arr (.slice (some ⟨o,0,none⟩) t.basic.length p) 3 1 t.basic.length ((t.basic).map aL).flatten,.arr (.slice (some ⟨gO,0,none⟩) t.others.length w) 3 1 t.others.length ((t.others).map aL).flatten]++((List.range t.basic.length).erase r).map (stE t a r s t.basic.length)) (pkL [0,1,3,0,0,0] Z)<|UJ [0,1,2,3,4,5] [(5,3)] Z kr_ fun R hB x=>Us 4 Z<|Un (bkT an 2) U8<|D.call (Jl _ O.m_ b t.others.length s (.int .i64 n) (.slice (some ⟨o,0,none⟩) t.basic.length p) (.slice (some ⟨k,0,none⟩) t.basic.length l) (.slice (some ⟨gO,0,none⟩) t.others.length w) d (.slice (some ⟨y,0,none⟩) t.others.length t.others.length) t.worth (Lp.byL (t.line r) s) aC (by rw [vg];exact W) V (az.le dc_) (ar.le dc_)) Z (.inr dc_) U6 (pkL [0,0,0] Z) fl_ fun a7 _ a8 _ aP=>Ur [0,1,2,8] x Z ?_;obtain ⟨-,rfl⟩:=aP;refine G.perm (L':=[.obj b (.cells ⟨[.int .i64 n,.slice (some ⟨o,0,none⟩) t.basic.length p,.slice (some ⟨k,0,none⟩) t.basic.length l,.slice (some ⟨gO,0,none⟩) t.others.length w,ai (qtx (Lp.putL t.worth s (Lp.byL (t.line r) s)).c),d]⟩ 212 (0,0)),.arr (.slice (some ⟨o,0,none⟩) t.basic.length p) 3 1 t.basic.length ((t.basic).map aL).flatten,.arr (.slice (some ⟨k,0,none⟩) t.basic.length l) 209 2 t.basic.length ((stV t a r s t.basic.length).map bJ).flatten,.arr (.slice (some ⟨gO,0,none⟩) t.others.length w) 3 1 t.others.length ((t.others).map aL).flatten,.arr d 56 1 t.others.length (((Lp.putL t.worth s (Lp.byL (t.line r) s)).f).map aZ).flatten,.arr (.slice (some ⟨y,0,none⟩) t.others.length t.others.length) 56 1 t.others.length (((Lp.byL (t.line r) s).f).map aZ).flatten]++((List.range t.basic.length).erase r).map (stE t a r s t.basic.length)) (pkL [1,3,2,2,1] Z)<|UJ [0,1,2,3,4,5,6,7] [] Z kr_ fun R hB x=>Us 3 Z<|Uu af U9<|Up U6<|Un (bkT an 2) U8<|UR (r*2) U10 ah U2<|UW (j:=2) U11 (by show r*2+2<=_;rw [bO gU,jb];omega)<|Ur [0,1,2] x Z<|UE (L':=[.arr (.slice (some ⟨k,0,none⟩) t.basic.length l) 209 2 t.basic.length (((stV t a r s t.basic.length).set r ((Lp.byL (t.line r) s).c,.slice (some ⟨y,0,none⟩) t.others.length t.others.length)).map bJ).flatten,.obj b (.cells ⟨[.int .i64 n,.slice (some ⟨o,0,none⟩) t.basic.length p,.slice (some ⟨k,0,none⟩) t.basic.length l,.slice (some ⟨gO,0,none⟩) t.others.length w,ai (qtx (Lp.putL t.worth s (Lp.byL (t.line r) s)).c),d]⟩ 212 (0,0)),.arr (.slice (some ⟨o,0,none⟩) t.basic.length p) 3 1 t.basic.length ((t.basic).map aL).flatten,.arr (.slice (some ⟨gO,0,none⟩) t.others.length w) 3 1 t.others.length ((t.others).map aL).flatten,.arr d 56 1 t.others.length (((Lp.putL t.worth s (Lp.byL (t.line r) s)).f).map aZ).flatten,.arr (.slice (some ⟨y,0,none⟩) t.others.length t.others.length) 56 1 t.others.length (((Lp.byL (t.line r) s).f).map aZ).flatten]++((List.range t.basic.length).erase r).map (stE t a r s t.basic.length)) (by rw [<- bK gU _ (by rw [jb];exact A)];rfl)<|UJ [0,1,2,3,4,5,6,7,8,9,10,11,12,13,14,15,16,17,18,19,20,21,22,23,24,25,26,27] [] Z kr_ fun R hB x=>Us 3 Z<|Uu ae U9<|Us 4 Z<|Uu ae U9<|Us 4 Z<|Uu ae U9<|Up U6<|UR (s*1) U10 ah U2<|Va aa U6 (fun _=>(by rw [cP fo (show t.others[s]?=some (t.oth s) from yF V)];rfl)) U2<|Us 3 Z<|Uu ae U9<|Up U6<|UR (r*1) U10 ah U2<|Va ac U6 (fun _=>(by rw [cP fo (show t.basic[r]?=some (t.bas r) from yF A)];rfl)) U2<|UR (r*1) U10 ah U2<|UW (j:=2) U11 (by show r*1+1<=_;rw [bO fo];omega)<|UR (s*1) U10 ah U2<|UW (j:=3) U11 (by show s*1+1<=_;rw [bO fo];omega)<|Vv [] trivial (x _ _ _ Z ?_);refine G.perm (L':=(fS b n (t.pivot r s) (.slice (some ⟨o,0,none⟩) t.basic.length p) (.slice (some ⟨k,0,none⟩) t.basic.length l) (.slice (some ⟨gO,0,none⟩) t.others.length w) d (fun q=>if q=r then (.slice (some ⟨y,0,none⟩) t.others.length t.others.length) else a q)).map Lent.ent) (by
  refine List.Perm.trans ?_ (Ms U A);rw [<- bK fo _ A,<- bK fo _ V]
  (exact pkL [3,1,1,0,0,0] rfl)) ?_
 exact Vx Z<|⟨Z,_,Z⟩
theorem BO (h:Lp.Inv p cc t)(b:Lp.Lim p cc 16)(a:i<t.basic.length):LineQ 16 (t.line i):=by
 refine ⟨h.con b a,fun x c=>?_⟩;obtain ⟨s,hs,rfl⟩:=List.mem_iff_getElem.1 c;have d:=jX h.tab.ok a;have h1:=h.fac b a (s:=s) om_;unfold Lp.Line.g at h1;rw [al,aj hs] at h1;exact h1
theorem oF (h:Lp.Inv p cc t)(a:Lp.Lim p cc 16):LineQ 16 t.worth:=by
 refine ⟨h.wcon a,fun x b=>?_⟩;obtain ⟨s,hs,rfl⟩:=List.mem_iff_getElem.1 b;have c:=h.tab.ok.wl;have h1:=h.wfac a (s:=s) om_;unfold Lp.Line.g at h1;rw [al,aj hs] at h1;exact h1
theorem LineQ.g0 {k:Nat}(h:LineQ k l)(a:k<=m)(b:1<=m)(j:Nat):QB m (l.g j):=by
 unfold Lp.Line.g;rw [al];by_cases c:j<l.f.length
 ·rw [aj c];exact (h.2 _ (RH _)).le a
 rw [QS om_];exact Lp.qb_zero b
theorem mD {c:Nat->Prop}(h:Lp.LeastR vs q n o)(e:∀ i,i<n->(q i ↔ c i)):Lp.LeastR vs c n o:=by
 cases h with
 | none h=>exact .none fun i a b=>h i a ((e i a).2 b)
 | some i a b hm=>exact .some i a ((e i a).1 b) fun j d f=>hm j d ((e j d).2 f)
theorem ir (h:Lp.LeastR vs q n o)(a:¬ o<0):∃ i:Nat,o=i/\i<n/\q i/\∀ j,j<n->q j->vs.getD i 0<=vs.getD j 0:=by
 cases h with
 | none h=>exact absurd dc_ a
 | some i b c hm=>exact ⟨i,rfl,b,c,hm⟩
theorem pZ (h:Lp.LeastR vs q n o)(a:o<0):∀ i,i<n->¬ q i:=by
 cases h with
 | none h=>exact h
 | some i b c hm=>omega
section
variable {C:Mem} {a a2 b n N:Nat} {r:Int} {t:Lp.Tab} {wB wL wO wW:Value} {wF:Nat->Value}
theorem AN (c:t.Ok N):∀ x∈.obj a2 [.int .i64 r] 3::fS b n t wB wL wO wW wF,x.wf:=fun x a=>by
 rcases QU.1 a with rfl | a
 ·trivial
 exact ja c x a
theorem GM (d:t.Ok N)(j:C a=some (.cells ⟨[.pointer (some ⟨b,0,none⟩)]⟩ 202 (0,0)))(k:∀ i,i<t.basic.length->LineQ 16 (t.line i)) :
  Jog.Fn cx.P 180 [wB,.func (.func 181) #[] #[.pointer (some ⟨a,0,none⟩)]] C ((.obj a2 [.int .i64 r] 3::fS b n t wB wL wO wW wF).map Lent.ent)
   fun u _ e=>(∃ o:Int,u=.int .i64 o/\Lp.LeastR t.basic (fun i=>n<=t.bas i/\(t.line i).c<0) t.basic.length o)/\e=(.obj a2 [.int .i64 r] 3::fS b n t wB wL wO wW wF).map Lent.ent:=by
 refine VC kr_ _ (AN d) fun C' l hs=>?_;have f:=gC d fun x m=>hs x (QR _ m);refine (oh C' wB t.basic 181 [.pointer (some ⟨a,0,none⟩)] (fun i=>decide (n<=t.bas i) && decide ((t.line i).c<0)) f.B kr_ fun i g D h =>
  Kk D a b n i N t wB wL wO wW _ (f.mono h) d ((l.trans h) _ _ j) g ((k i g).1.le dc_)).mono ?_
 rintro u D e _ ⟨h1,o,rfl,h2⟩;exact ⟨h1,o,Z,mD h2 fun i _=>by simp⟩
theorem GK {r:Nat}(c:t.Ok N)(h:C a=some (.cells ⟨[.pointer (some ⟨b,0,none⟩)]⟩ 202 (0,0)))(j:r<t.basic.length)(k:LineQ 16 (t.line r)) :
  Jog.Fn cx.P 180 [wO,.func (.func 182) #[] #[.pointer (some ⟨a,0,none⟩),.pointer (some ⟨a2,0,none⟩)]] C ((.obj a2 [.int .i64 r] 3::fS b n t wB wL wO wW wF).map Lent.ent)
   fun u _ e=>(∃ o:Int,u=.int .i64 o/\Lp.LeastR t.others (fun i=>n<=t.oth i/\0<(t.line r).g i) t.others.length o)/\e=(.obj a2 [.int .i64 r] 3::fS b n t wB wL wO wW wF).map Lent.ent:=by
 refine VC kr_ _ (AN c) fun C' l hs=>?_;have f:=gC c fun x m=>hs x (QR _ m);have h2:=hs _ (PN ..);refine (oh C' wO t.others 182 [.pointer (some ⟨a,0,none⟩),.pointer (some ⟨a2,0,none⟩)] (fun i=>decide (n<=t.oth i) && decide (0<(t.line r).g i)) f.O kr_ fun i p D d =>
  Kj D a a2 b n i r N t wB wL wO wW _ (f.mono d) c ((l.trans d) _ _ h) (d _ _ h2) j p (k.g0 dc_ dc_ i)).mono ?_
 rintro u D e _ ⟨h1,o,rfl,h2⟩;exact ⟨h1,o,Z,mD h2 fun i _=>by simp⟩
end
inductive FeasO (p:Lp.Sys) (t:Lp.Tab):Value->Prop where
 | yes:t.Feas p.n->FeasO p t (.tuple #[.int .i64 0,.bool true])
 | no (r:Nat):r<t.basic.length->p.n<=t.bas r->(t.line r).c<0->(∀ s,s<t.others.length->p.n<=t.oth s->(t.line r).g s<=0)->FeasO p t (.tuple #[.int .i64 r,.bool false])
theorem zc (C:Mem)(X:Tabs C)(p:Lp.Sys)(A:Nat->Rat)(b:Nat)(d:Lp.Tab)(e h k l:Value)(B:Nat->Value)(q:Lp.Inv p A d)(a:Lp.Rel p.n d p.n)(S:Lp.Lim p A 16)(Y:p.m<=1000000)(hn:p.n<=1000000) :
  Jog.Fn cx.P 116 [.pointer (some ⟨b,0,none⟩)] C ((fS b p.n d e h k l B).map Lent.ent) fun u _ w=>∃ t wF,Lp.Inv p A t/\Lp.Rel p.n t p.n/\FeasO p t u/\w=(fS b p.n t e h k l wF).map Lent.ent:=by
 have an:maxLen<=9223372036854775807:=by simp [maxLen]
 refine Uv func116 26 U3 fun w0=>?_;refine Uq fun R a=>?_;refine UF U6 (fun b1=>?_);refine UH U5 (fun v=>?_);refine C4 1 [1,2] a Z ?_;clear a R;refine G.freeze 1 Z (fun _ _ x=>?_);refine UE (L':=[.obj v (.cells ⟨[.int .i64 0]⟩ 3 (0,0)),.obj b (.cells ⟨[.int .i64 p.n,e,h,k,ai (qtx d.worth.c),l]⟩ 212 (0,0)),.arr e 3 1 d.basic.length ((d.basic).map aL).flatten,.arr h 209 2 d.basic.length ((cT d B).map bJ).flatten,.arr k 3 1 d.others.length ((d.others).map aL).flatten,.arr l 56 1 d.others.length ((d.worth.f).map aZ).flatten]++(List.range d.basic.length).map (stE d B 0 0 0)) (by rw [bE 0 0];rfl) ?_;refine G.loop (fun fr C' w μ=>∃ (t:Lp.Tab)(wF:Nat->Value)(o:Int)(E:Nat),(Lp.Inv p A t/\Lp.Rel p.n t p.n/\∀ K,Lp.Reach (Lp.FeasP p.n) t K->K<=E)/\fr=[(1,[],.pointer (some ⟨b1,0,none⟩)),(2,[],.pointer (some ⟨v,0,none⟩))]/\w=[.obj v (.cells ⟨[.int .i64 o]⟩ 3 (0,0)),.obj b (.cells ⟨[.int .i64 p.n,e,h,k,ai (qtx t.worth.c),l]⟩ 212 (0,0)),.arr e 3 1 t.basic.length ((t.basic).map aL).flatten,.arr h 209 2 t.basic.length ((cT t wF).map bJ).flatten,.arr k 3 1 t.others.length ((t.others).map aL).flatten,.arr l 56 1 t.others.length ((t.worth.f).map aZ).flatten]++(List.range t.basic.length).map (stE t wF 0 0 0)/\μ=E) (hn_ [1,2] Z) ⟨d,B,0,2 ^ (p.n+p.m),⟨q,a,fun K F=>Lp.feas_len q.tab.ok F⟩,Z,Z,Z⟩ (fun fr ao ap m _ q=>?_);obtain ⟨t,wF,o,E,⟨q,a,F⟩,rfl,rfl,rfl⟩:=q;have ok:=q.tab.ok;have aa:t.basic.length<=1000000:=by rw [q.tab.lb];exact Y
 have ab:t.others.length<=1000000:=by rw [q.tab.lo];exact hn
 have H:∀ i,i<t.basic.length->LineQ 16 (t.line i):=fun i y=>BO q S y;refine UN [(5,3)] Z (fun R a=>?_);refine Un (bkT x 1) U8 ?_;refine Us 2 Z ?_;refine Uu ae U9 ?_;refine Up U6 ?_;refine D.call (GM ok (Mem.get x mup) H) Z (.inr dc_) U6 (show List.Perm _ (((.obj v [.int .i64 o] 3::fS b p.n t e h k l wF).map Lent.ent)++[]) from List.Perm.of_eq (by rw [Q7,Q9,bE 0 0];rfl)) fl_ (fun aq _ ar _ ac=>?_);obtain ⟨⟨o1,rfl,T⟩,rfl⟩:=ac;refine Ux (j:=0) U12 ?_;refine Ur [1,2] a Z ?_;clear a R;refine UE (L':=[.obj v (.cells ⟨[.int .i64 o1]⟩ 3 (0,0)),.obj b (.cells ⟨[.int .i64 p.n,e,h,k,ai (qtx t.worth.c),l]⟩ 212 (0,0)),.arr e 3 1 t.basic.length ((t.basic).map aL).flatten,.arr h 209 2 t.basic.length ((cT t wF).map bJ).flatten,.arr k 3 1 t.others.length ((t.others).map aL).flatten,.arr l 56 1 t.others.length ((t.worth.f).map aZ).flatten]++(List.range t.basic.length).map (stE t wF 0 0 0)) (by rw [Q7,Q9,bE 0 0];rfl) ?_;refine Uq fun R a=>?_;refine Uu af U9 ?_;refine C4 1 [1,2,12] a Z ?_;clear a R;refine Uo (fun I=>?_) fun I=>?_
 ·have J:o1<0:=aW I;have L:=pZ T J;refine Uq fun R a=>?_;refine Ux (j:=0) U12 ?_;refine C4 1 [2,3] a Z ?_;clear a R;refine Uz (Wq 0 Z Z Z Z Z Z ?_);exact ⟨t,wF,q,a,.yes (fun i y z=>by have:=L i y;grind),by rw [bE 0 0];rfl⟩
 have J:¬ o1<0:=QJ I;obtain ⟨r,rfl,hr,⟨M,U⟩,ad⟩:=ir T J;refine UN [(5,3)] Z (fun R a=>?_);refine Un (bkT x 1) U8 ?_;refine Us 2 Z ?_;refine Uu ae U9 ?_;refine Up U6 ?_;refine D.call (GK ok (Mem.get x mup) hr (H r hr)) Z (.inr dc_) U6 (show List.Perm _ (((.obj v [.int .i64 (r:Nat)] 3::fS b p.n t e h k l wF).map Lent.ent)++[]) from List.Perm.of_eq (by rw [Q7,Q9,bE 0 0];rfl)) fl_ (fun au _ av _ ag=>?_);refine C4 1 [1,2,4] a Z ?_;clear a R;obtain ⟨⟨o2,rfl,V⟩,rfl⟩:=ag;refine UE (L':=[.obj v (.cells ⟨[.int .i64 (r:Nat)]⟩ 3 (0,0)),.obj b (.cells ⟨[.int .i64 p.n,e,h,k,ai (qtx t.worth.c),l]⟩ 212 (0,0)),.arr e 3 1 t.basic.length ((t.basic).map aL).flatten,.arr h 209 2 t.basic.length ((cT t wF).map bJ).flatten,.arr k 3 1 t.others.length ((t.others).map aL).flatten,.arr l 56 1 t.others.length ((t.worth.f).map aZ).flatten]++(List.range t.basic.length).map (stE t wF 0 0 0)) (by rw [Q7,Q9,bE 0 0];rfl) ?_;refine Ul 2 [1,2,4,20] Z ?_;refine Uo (fun N=>?_) fun N=>?_
 ·have O:o2<0:=aW N;have L:=pZ V O;refine Uq fun R a=>?_;refine Uu af U9 ?_;refine Ux (j:=0) U12 ?_;refine C4 1 [2,3] a Z ?_;clear a R;refine Uz (Wq 0 Z Z Z Z Z Z ?_);exact ⟨t,wF,q,a,.no r hr M U (fun s hs z=>by have:=L s hs;grind),by rw [bE 0 0];rfl⟩
 have O:¬ o2<0:=QJ N;obtain ⟨s,rfl,hs,⟨ah,aj⟩,ak⟩:=ir V O;have hP:Lp.FeasP p.n t r s:=⟨hr,hs,M,ah,U,fun i y z hc=>ad i y ⟨z,hc⟩,aj,fun j hj z hg=>ak j hj ⟨z,hg⟩⟩;have W:(t.line r).g s≠0:=by grind
 obtain ⟨aw,al⟩:=Lp.Reach.fall hP F;refine UN [(3,3)] Z (fun R a=>?_);refine Un (bkT x 1) U8 ?_;refine Uu af U9 ?_;refine Up U6 ?_;refine D.call (Bw _ X.m_ b p.n r s (p.n+p.m) t e h k l wF ok aa ab hr hs W H (oF q S)) Z (.inr dc_) U6 (by rw [bE 0 0];exact (List.perm_append_singleton _ _).symm) fl_ (fun ax _ ay _ am=>?_);refine Ur [1,2] a Z ?_;clear a R;obtain ⟨-,Q,rfl⟩:=am;refine G.perm (L':=[.obj v (.cells ⟨[.int .i64 (r:Nat)]⟩ 3 (0,0)),.obj b (.cells ⟨[.int .i64 p.n,e,h,k,ai (qtx (t.pivot r s).worth.c),l]⟩ 212 (0,0)),.arr e 3 1 (t.pivot r s).basic.length (((t.pivot r s).basic).map aL).flatten,.arr h 209 2 (t.pivot r s).basic.length ((cT (t.pivot r s) Q).map bJ).flatten,.arr k 3 1 (t.pivot r s).others.length (((t.pivot r s).others).map aL).flatten,.arr l 56 1 (t.pivot r s).others.length (((t.pivot r s).worth.f).map aZ).flatten]++(List.range (t.pivot r s).basic.length).map (stE (t.pivot r s) Q 0 0 0)) (by rw [bE 0 0];exact List.perm_append_singleton _ _) ?_;refine UA (m':=m-1) om_ mup (hn_ [1,2] Z) ⟨t.pivot r s,Q,(r:Int),m-1,⟨q.pivot hr hs W,Lp.rel_pivot ok a hr hs M,al⟩,Z,Z,Z⟩
section
variable {C:Mem} {a b n N:Nat} {t:Lp.Tab} {wB wL wO wW:Value} {wF:Nat->Value}
theorem GJ (c:t.Ok N)(h:C a=some (.cells ⟨[.pointer (some ⟨b,0,none⟩)]⟩ 202 (0,0))) :
  Jog.Fn cx.P 180 [wO,.func (.func 183) #[] #[.pointer (some ⟨a,0,none⟩)]] C ((fS b n t wB wL wO wW wF).map Lent.ent)
   fun u _ d=>(∃ o:Int,u=.int .i64 o/\Lp.LeastR t.others (fun i=>¬ n<=t.oth i/\¬ t.worth.g i=0) t.others.length o)/\d=(fS b n t wB wL wO wW wF).map Lent.ent:=by
 refine VC kr_ _ (ja c) fun C' j hs=>?_;have e:=gC c hs;refine (oh C' wO t.others 183 [.pointer (some ⟨a,0,none⟩)] (fun i=>!decide (n<=t.oth i) && !decide (t.worth.g i=0)) e.O kr_ fun i k D f =>
  Nk D a b n i N t wB wL wO wW _ (e.mono f) c ((j.trans f) _ _ h) k).mono ?_
 rintro u D d _ ⟨h1,o,rfl,h2⟩;exact ⟨h1,o,Z,mD h2 fun i _=>by simp⟩
theorem GI (c:t.Ok N)(h:C a=some (.cells ⟨[.pointer (some ⟨b,0,none⟩)]⟩ 202 (0,0)))(j:LineQ 16 t.worth) :
  Jog.Fn cx.P 180 [wO,.func (.func 184) #[] #[.pointer (some ⟨a,0,none⟩)]] C ((fS b n t wB wL wO wW wF).map Lent.ent)
   fun u _ d=>(∃ o:Int,u=.int .i64 o/\Lp.LeastR t.others (fun i=>n<=t.oth i/\t.worth.g i<0) t.others.length o)/\d=(fS b n t wB wL wO wW wF).map Lent.ent:=by
 refine VC kr_ _ (ja c) fun C' k hs=>?_;have e:=gC c hs;refine (oh C' wO t.others 184 [.pointer (some ⟨a,0,none⟩)] (fun i=>decide (n<=t.oth i) && decide (t.worth.g i<0)) e.O kr_ fun i l D f =>
  Nj D a b n i N t wB wL wO wW _ (e.mono f) c ((k.trans f) _ _ h) l (j.g0 dc_ dc_ i)).mono ?_
 rintro u D d _ ⟨h1,o,rfl,h2⟩;exact ⟨h1,o,Z,mD h2 fun i _=>by simp⟩
end
theorem Aj (a:Lp.Inv p (fun _=>0) t)(b:s<t.others.length):t.worth.g s=0:=by
 have h:=Lp.dir_worth a.tab a.obj b;rw [<- h];exact Lp.sumN_zero fun j _=>by grind
theorem yG (C:Mem)(_J:Tabs C)(p:Lp.Sys)(b:Nat)(a:Lp.Tab)(d e g h:Value)(i:Nat->Value)(j:Lp.Inv p (fun _=>0) a)(x:Lp.Lim p (fun _=>0) 16)(_K:p.m<=1000000)(_L:p.n<=1000000) :
  Jog.Fn cx.P 118 [.pointer (some ⟨b,0,none⟩)] C ((fS b p.n a d e g h i).map Lent.ent) fun u _ l=>u=.tuple #[.int .i64 0,.bool true]/\l=(fS b p.n a d e g h i).map Lent.ent:=by
 have M:maxLen<=9223372036854775807:=by simp [maxLen]
 refine Uv func118 32 U3 fun w0=>Uq fun R o=>UF U6 fun y=>C4 2 [1] o Z<|G.freeze 0 Z fun _ _ q=>UE (L':=[.obj b (.cells ⟨[.int .i64 p.n,d,e,g,ai (qtx a.worth.c),h]⟩ 212 (0,0)),.arr d 3 1 a.basic.length ((a.basic).map aL).flatten,.arr e 209 2 a.basic.length ((cT a i).map bJ).flatten,.arr g 3 1 a.others.length ((a.others).map aL).flatten,.arr h 56 1 a.others.length ((a.worth.f).map aZ).flatten]++(List.range a.basic.length).map (stE a i 0 0 0)) (by rw [bE 0 0];rfl)<|UN [(5,3)] Z fun R o=>Un (bkT q 1) U8<|Us 2 Z<|Uu af U9<|Up U6<|D.call (GJ j.tab.ok (Mem.get q mup)) Z (.inr dc_) U6 (show List.Perm _ (((fS b p.n a d e g h i).map Lent.ent)++[]) from List.Perm.of_eq (by rw [Q7,bE 0 0])) fl_ fun N _ O _ z=>C4 1 [1,2] o Z ?_;obtain ⟨⟨A,rfl,B⟩,rfl⟩:=z;refine UE (L':=[.obj b (.cells ⟨[.int .i64 p.n,d,e,g,ai (qtx a.worth.c),h]⟩ 212 (0,0)),.arr d 3 1 a.basic.length ((a.basic).map aL).flatten,.arr e 209 2 a.basic.length ((cT a i).map bJ).flatten,.arr g 3 1 a.others.length ((a.others).map aL).flatten,.arr h 56 1 a.others.length ((a.worth.f).map aZ).flatten]++(List.range a.basic.length).map (stE a i 0 0 0)) (by rw [Q7,bE 0 0])<|Ul 2 [1,2,12] Z<|Uo (fun v=>?_) fun v=>?_
 ·have r:¬ A<0:=by
   have:=aW v;omega
  obtain ⟨s,rfl,hs,⟨E,t⟩,_⟩:=ir B r;exact absurd (Aj j hs) t
 refine G.loop (fun fr C' l F=>∃ (k:Nat),(k=0)/\fr=[(1,[],.pointer (some ⟨y,0,none⟩))]/\l=[.obj b (.cells ⟨[.int .i64 p.n,d,e,g,ai (qtx a.worth.c),h]⟩ 212 (0,0)),.arr d 3 1 a.basic.length ((a.basic).map aL).flatten,.arr e 209 2 a.basic.length ((cT a i).map bJ).flatten,.arr g 3 1 a.others.length ((a.others).map aL).flatten,.arr h 56 1 a.others.length ((a.worth.f).map aZ).flatten]++(List.range a.basic.length).map (stE a i 0 0 0)/\F=1) (hn_ [1] Z) ⟨0,Z,Z,Z,Z⟩ (fun fr Q S m _ j=>?_);obtain ⟨k,T,rfl,rfl,rfl⟩:=j;refine UN [(5,3)] Z fun R o=>Un (bkT q 1) U8<|Us 2 Z<|Uu af U9<|Up U6<|D.call (GI j.tab.ok (Mem.get q mup) (oF j x)) Z (.inr dc_) U6 (show List.Perm _ (((fS b p.n a d e g h i).map Lent.ent)++[]) from List.Perm.of_eq (by rw [Q7,bE 0 0])) fl_ fun U _ V _ H=>C4 1 [1,2] o Z ?_;obtain ⟨⟨o1,rfl,I⟩,rfl⟩:=H;refine UE (L':=[.obj b (.cells ⟨[.int .i64 p.n,d,e,g,ai (qtx a.worth.c),h]⟩ 212 (0,0)),.arr d 3 1 a.basic.length ((a.basic).map aL).flatten,.arr e 209 2 a.basic.length ((cT a i).map bJ).flatten,.arr g 3 1 a.others.length ((a.others).map aL).flatten,.arr h 56 1 a.others.length ((a.worth.f).map aZ).flatten]++(List.range a.basic.length).map (stE a i 0 0 0)) (by rw [Q7,bE 0 0])<|Ul 2 [1,2,21] Z<|Uo (fun w=>?_) fun w=>?_
 ·refine Ul 2 [2,3] Z<|Uz (UO U3 ?_);exact ⟨Z,by rw [bE 0 0]⟩
 have r:¬ o1<0:=QJ w;obtain ⟨s,rfl,hs,⟨E,t⟩,W⟩:=ir I r;exact absurd t (by rw [Aj j hs];decide)
theorem Py (C:Mem)(v:Value)(l:List Nat)(b:Sl C 1 v (l.map aL))(t:l.length<=1000000):Jog.Fn cx.P 50 [v] C [] fun u _w e=>∃ A n c,u=.slice A n c/\e=[.arr (.slice A n c) 3 1 l.length (l.map aL).flatten]:=by
 obtain ⟨f,c0,rfl,m,x,y,o⟩:=id b;have z:maxLen<=9223372036854775807:=by simp [maxLen]
 simp only [aw] at b m ⊢;refine Uv func50 8 U3 fun w0=>Ul 1 [0] Z<|Um 1 Z fun R d=>V0 U9<|Ur [0,4] d Z<|Uo (fun h4=>?_) fun h4=>?_
 ·have p:f=none:=by
   cases f with
   | none=>rfl
   | some a=>cases h4
  have s:l=[]:=by
   cases l with
   | nil=>rfl
   | cons q r =>
    obtain ⟨a,g,_⟩:=o 0 (aL q) rfl;rw [p] at g;cases g
  refine Ul 1 [2] Z<|G.nilArr 3 1<|Uz (UZ Z Z ?_);exact ⟨none,0,0,Z,by rw [s];rfl⟩
 refine Uq fun R d=>Vy [] U12 fl_ fun B=>Up U6<|UP (j:=0) U11 b.m_ (by simp [aL,nN]) (by simp only [aw,Rq,maxLen];omega) (by simp only [aw,Rq];omega) fl_ fun h i k=>C4 1 [2] d Z<|UE (L':=[.arr (.slice h i k) 3 1 l.length (l.map aL).flatten]) am<|Uz (UZ Z Z ?_);exact ⟨h,i,k,Z,Z⟩
theorem MJ (C:Mem)(b s:Nat)(q:Rat)(w:Value)(l:List Rat)(c:Sl C 1 w (l.map aZ))(d:C b=some (.cells ⟨[.int .i64 s]⟩ 3 (0,0)))(e:s<l.length) :
  Gives cx.P 176 [.agg ⟨[ai (qtx q),w]⟩,.pointer (some ⟨b,0,none⟩)] C (.bool (!decide (l.getD s 0=0))):=by
 obtain ⟨h,i,rfl,j,k,_⟩:=id c;have m:maxLen<=9223372036854775807:=by simp [maxLen]
 refine Uv func176 10 U3 fun w0=>Uq fun R a=>UF U6 fun n=>C4 1 [1,2] a Z<|G.freeze 0 Z fun _ _ f=>Um 1 Z fun R a=>Un (bkT f 1) U8<|Un (bkT d 1) U8<|UD c.m_ U10 om_ (fh e) fl_ fun o g=>Un g U8<|C4 2 [3] a Z<|Ut U2<|⟨?_,Z⟩;show Value.bool _=Value.bool _;congr 1;show (!((⟨(qtx (l.getD s 0)).toArray⟩:ByteArray).data.toList == (⟨#[48]⟩:ByteArray).data.toList))=_;rw [fH]
theorem MI (C:Mem)(b s:Nat)(q:Rat)(w:Value)(l:List Rat)(c:Sl C 1 w (l.map aZ))(d:C b=some (.cells ⟨[.int .i64 s]⟩ 3 (0,0)))(e:s<l.length) :
  Gives cx.P 178 [.agg ⟨[ai (qtx q),w]⟩,.pointer (some ⟨b,0,none⟩)] C (.bool (!decide (l.getD s 0=0))):=by
 obtain ⟨h,i,rfl,j,k,_⟩:=id c;have m:maxLen<=9223372036854775807:=by simp [maxLen]
 refine Uv func178 10 U3 fun w0=>Uq fun R a=>UF U6 fun n=>C4 1 [1,2] a Z<|G.freeze 0 Z fun _ _ f=>Um 1 Z fun R a=>Un (bkT f 1) U8<|Un (bkT d 1) U8<|UD c.m_ U10 om_ (fh e) fl_ fun o g=>Un g U8<|C4 2 [3] a Z<|Ut U2<|⟨?_,Z⟩;show Value.bool _=Value.bool _;congr 1;show (!((⟨(qtx (l.getD s 0)).toArray⟩:ByteArray).data.toList == (⟨#[48]⟩:ByteArray).data.toList))=_;rw [fH]
inductive FirstR (q:Nat->Prop) (n:Nat):Int->Prop where
 | none:(∀ i,i<n->¬ q i)->FirstR q n (-1)
 | some (r:Nat):r<n->q r->(∀ i,i<r->¬ q i)->FirstR q n r
theorem GE (C:Mem)(v:Value)(a:List (Rat × Value))(g:Nat)(c:List Value)(q:Nat->Prop)[DecidablePred q](d:Sl C 2 v (a.map bJ))(_E:Jog.Enters cx.P g=true)
  (p:∀ i x,a[i]?=some x->∀ D:Mem,C.le D->Gives cx.P g (.agg ⟨bJ x⟩::c) D (.bool (decide (q i)))) :
  Pur cx.P 175 [v,.func (.func g) #[] ⟨c⟩] C fun u _=>∃ o:Int,u=.int .i64 o/\FirstR q a.length o:=by
 obtain ⟨r,c0,rfl,s,F,_⟩:=id d;have H:maxLen<=9223372036854775807:=by simp [maxLen]
 simp only [aw] at d s ⊢;refine Uv func175 19 U3 fun w0=>Ul 1 [0,1] Z<|Ul 3 [0,1,7,8] Z<|G.loop (fun fr C' t w=>∃ (i:Nat),(i<=a.length/\∀ j,j<i->¬ q j)/\fr=[(0,[],.slice r a.length c0),(1,[],.func (.func g) #[] ⟨c⟩),(7,[],.int .i64 a.length),(8,[],.int .i64 i)]/\t=[]/\w=a.length-i) (hn_ [0,1,7,8] Z) ⟨0,⟨QK _,fun j e=>absurd e (Nat.not_lt_zero _)⟩,Z,Z,Z⟩ (fun fr I J m _ y=>?_);obtain ⟨i,⟨K,f⟩,rfl,rfl,rfl⟩:=y;refine Ul 1 [0,1,7,8,9] Z<|Uo (fun h=>?_) fun h=>?_
 ·have b:i<a.length:=by simpa using h
  obtain ⟨x,n⟩:∃ x,a[i]?=some x:=⟨a[i],aj b⟩;refine Ul 2 [0,1,5,7,8] Z<|Um 3 Z fun R k=>UD d.m_ U10 om_ (show (a.map bJ)[i]?=some [ai (qtx x.1),x.2] from eZ n) fl_ fun L z=>Un z U8<|Uy (p i x n _ mup) U7<|Ur [0,1,5,7,8,16] k Z<|Uo (fun l=>?_) fun l=>?_
  ·have A:q i:=aW l;exact Ul 2 [4] Z<|Ut U2<|⟨Z,(i:Int),Z,.some i b A f⟩
  have B:¬ q i:=QJ l;refine Uq fun R k=>Uw _ U7<|C4 1 [0,1,7,8] k Z<|UA (m':=a.length-(i+1)) om_ mup (hn_ [0,1,7,8] Z) ⟨i+1,⟨by omega,fun j e=>by
   rcases Nat.lt_or_eq_of_le (Nat.le_of_lt_succ e) with h1 | h1
   ·exact f j h1
   rw [h1];exact B⟩,rfl,rfl,rfl⟩
 have b:i=a.length:=by
  have:¬ i<a.length:=by simpa using h
  omega
 exact Ul 1 [4] Z<|Ut U2<|⟨Z, -1,Z,.none (by rw [<- b];exact f)⟩
theorem Fg (C:Mem)(b n v:Nat)(a:List Value)(c:C b=some (.cells ⟨.int .i64 n::a⟩ 212 (0,0))) :
  Gives cx.P 177 [.pointer (some ⟨b,0,none⟩),.int .i64 v] C (.bool (decide (n<=v))):=by
 refine Uv func177 11 U3 fun w0=>Ul 1 [0,1] Z<|Um 4 Z fun R d=>Un (bkT c 1) U8<|C4 2 [4] d Z<|Ut U2<|⟨?_,Z⟩;congr 1;rw [Rv];omega
theorem oY (C:Mem)(b n v:Nat)(a:List Value):Jog.Fn cx.P 177 [.pointer (some ⟨b,0,none⟩),.int .i64 v] C [.obj b (.cells ⟨.int .i64 n::a⟩ 212 (0,0))]
   fun u _ d=>u=.bool (decide (n<=v))/\d=[.obj b (.cells ⟨.int .i64 n::a⟩ 212 (0,0))]:=by
 have h:=VC (P:=cx.P) (f:=177) (args:=[.pointer (some ⟨b,0,none⟩),.int .i64 v]) (C:=C) (q:=fun u=>u=.bool (decide (n<=v))) kr_ [.obj b (.int .i64 n::a) 212] (fun x c=>by
  rcases QU.1 c with rfl | c
  ·trivial
  cases c) fun C' e hs=>(Fg C' b n v a (hs _ (PN ..))).mono fun u _ g _ ⟨h1,h2⟩=>⟨h2,h1⟩
 exact h
theorem oP (h:∀ x∈fS b n t wB wL wO wW wF,x.seen C):Sl C 1 wO (t.others.map aL)/\Sl C 2 wL ((cT t wF).map bJ)/\∀ i,i<t.basic.length->Sl C 1 (wF i) ((t.line i).f.map aZ) :=
 ⟨h _ (QR _ (QR _ (QR _ (PN ..)))),h _ (QR _ (QR _ (PN ..))),fun i a =>
  h (Lm t wF i) (QR _ (QR _ (QR _ (QR _ (QR _ (QO.2 ⟨i,Q2.2 a,rfl⟩))))))⟩
section
variable {C:Mem} {a2 b n N s:Nat} {t:Lp.Tab} {wB wO wW:Value} {wF:Nat->Value}
theorem Px {d:Value}(g:t.Ok N)(i:t.others.length<=1000000):Jog.Fn cx.P 50 [wO] C ((fS b n t wB d wO wW wF).map Lent.ent)
   fun u _ a=>∃ A n2 c,u=.slice A n2 c/\a=.arr (.slice A n2 c) 3 1 t.others.length (t.others.map aL).flatten::(fS b n t wB d wO wW wF).map Lent.ent:=by
 have h:=VR (P:=cx.P) (f:=50) (args:=[wO]) (L:=[]) (C:=C) (post:=fun u a=>∃ A n2 c,u=.slice A n2 c/\a=[.arr (.slice A n2 c) 3 1 t.others.length (t.others.map aL).flatten]) kr_ (fS b n t wB d wO wW wF) (ja g) fun C' m hs=>Py C' wO t.others (oP hs).1 i;rw [Q7] at h;refine ⟨h.1,fun w j=>(h.2 w j).mono ?_⟩;rintro e w' ⟨v,C',a,k,l,o,rfl,A,n2,c,rfl,rfl⟩;exact ⟨_,C',_,k,St.perm l (List.perm_append_singleton _ _),A,n2,c,Z,Z⟩
theorem Nt {a:Value}(h:t.Ok N)(l:C a2=some (.cells ⟨[.int .i64 s]⟩ 3 (0,0)))(m:s<t.others.length) :
  Jog.Fn cx.P 175 [a,.func (.func 176) #[] #[.pointer (some ⟨a2,0,none⟩)]] C ((fS b n t wB a wO wW wF).map Lent.ent)
   fun u _ j=>(∃ o:Int,u=.int .i64 o/\FirstR (fun i=>¬ (t.line i).g s=0) t.basic.length o)/\j=(fS b n t wB a wO wW wF).map Lent.ent:=by
 refine VC kr_ _ (ja h) fun C' p q=>?_;obtain ⟨_,r,v⟩:=oP q;refine (GE C' a (cT t wF) 176 [.pointer (some ⟨a2,0,none⟩)] (fun i=>¬ (t.line i).g s=0) r kr_ fun i x d D k=>?_).mono ?_
 ·have e:i<t.basic.length:=by rw [<- fF (wF:=wF)];exact (aE.1 d).1
  rw [nU e] at d;cases d
  rw [decide_not];exact MJ D a2 s (t.line i).c (wF i) (t.line i).f ((v i e).mono k) ((p.trans k) _ _ l) (by rw [jX h e];exact m)
 rintro u D j _ ⟨h1,o,rfl,h2⟩;rw [fF] at h2;exact ⟨h1,o,Z,h2⟩
theorem Ns {A:Option Addr}{c r M:Nat}(v:t.basic.length=M)(j:t.Ok N)(w:C a2=some (.cells ⟨[.int .i64 s]⟩ 3 (0,0)))(y:s<t.others.length)(I:r<t.basic.length)(z:M<=c) :
  Jog.Fn cx.P 175 [.slice (if c=r+1 then A else A.map (·.add ((r+1)*2))) (M-(r+1)) (c-(r+1)),.func (.func 178) #[] #[.pointer (some ⟨a2,0,none⟩)]] C ((fS b n t wB (.slice A M c) wO wW wF).map Lent.ent)
   fun u _ k=>(∃ o:Int,u=.int .i64 o/\FirstR (fun i=>¬ (t.line (r+1+i)).g s=0) (t.basic.length-(r+1)) o)/\k=(fS b n t wB (.slice A M c) wO wW wF).map Lent.ent:=by
 subst v;refine VC kr_ _ (ja j) fun C' B E=>?_;obtain ⟨_,F,G⟩:=oP E;have p:=Sl.sub (l:=r+1) (h:=t.basic.length) (m:=c) F om_ (by rw [aw,fF];exact QG _) z (QG _);have e:((cT t wF).map bJ).take t.basic.length=(cT t wF).map bJ:=Rr (by rw [aw,fF];exact QG _);rw [e,<- List.map_drop] at p;have H:((cT t wF).drop (r+1)).length=t.basic.length-(r+1):=by rw [SU,fF]
 refine (GE C' _ ((cT t wF).drop (r+1)) 178 [.pointer (some ⟨a2,0,none⟩)] (fun i=>¬ (t.line (r+1+i)).g s=0) p kr_ fun i x a D q=>?_).mono ?_
 ·have d:r+1+i<t.basic.length:=by have:=(aE.1 a).1;omega
  rw [List.getElem?_drop,nU d] at a;cases a
  rw [decide_not];exact MI D a2 s (t.line (r+1+i)).c (wF (r+1+i)) (t.line (r+1+i)).f ((G _ d).mono q) ((B.trans q) _ _ w) (by rw [jX j d];exact y)
 rintro u D k _ ⟨h1,o,rfl,h2⟩;rw [H] at h2;exact ⟨h1,o,Z,h2⟩
end
def QE (p:Lp.Sys)(t:Lp.Tab)(s:Nat)(o:Int):Prop:=(o=-1/\∀ i,i<t.basic.length->p.n<=t.bas i->(t.line i).g s=0)∨∃ r:Nat,o=r/\r<t.basic.length/\¬ (t.line r).g s=0/\∀ i,i<r->p.n<=t.bas i->(t.line i).g s=0
theorem yY (h:FirstR q n o)(a:o<0):∀ i,i<n->¬ q i:=by
 cases h with
 | none h=>exact h
 | some r _ _ _=>omega
theorem yX (h:FirstR q n o)(a:¬ o<0):∃ r:Nat,o=r/\r<n/\q r/\∀ i,i<r->¬ q i:=by
 cases h with
 | none h=>exact absurd dc_ a
 | some r h1 h2 h3=>exact ⟨r,rfl,h1,h2,h3⟩
theorem CX (h:FirstR (fun i=>¬ (t.line i).g s=0) t.basic.length o):QE p t s o:=by
 cases h with
 | none h=>exact .inl ⟨rfl,fun i a _=>Decidable.not_not.1 (h i a)⟩
 | some r h1 h2 h3=>exact .inr ⟨r,rfl,h1,h2,fun i a _=>Decidable.not_not.1 (h3 i a)⟩
theorem Dm (C:Mem)(hT:Tabs C)(p:Lp.Sys)(M:Nat->Rat)(b:Nat)(a:Lp.Tab)(N O e l:Value)(B:Nat->Value)(q:Lp.Inv p M a)(ho:a.others=List.range p.n)(hl:Lp.Lim p M 16)(hm:p.m<=1000000)(hn:p.n<=1000000) :
  Jog.Fn cx.P 115 [.pointer (some ⟨b,0,none⟩)] C ((fS b p.n a N O e l B).map Lent.ent) fun u _ A=>u=.tuple #[]/\∃ t wF,Lp.Inv p M t/\Lp.Rel p.n t p.n/\A=(fS b p.n t N O e l wF).map Lent.ent:=by
 have aO:maxLen<=9223372036854775807:=by simp [maxLen]
 have ar:a.others.length=p.n:=q.tab.lo;refine Uv func115 65 U3 fun w0=>?_;refine UE (L':=[.obj b (.cells ⟨[.int .i64 p.n,N,O,e,ai (qtx a.worth.c),l]⟩ 212 (0,0)),.arr N 3 1 a.basic.length ((a.basic).map aL).flatten,.arr O 209 2 a.basic.length ((cT a B).map bJ).flatten,.arr e 3 1 a.others.length ((a.others).map aL).flatten,.arr l 56 1 a.others.length ((a.worth.f).map aZ).flatten]++(List.range a.basic.length).map (stE a B 0 0 0)) (by rw [bE 0 0]) ?_;refine V6 1 Z (fun w y J S au _=>?_);rw [q.tab.lb] at J S au;subst J;refine V6 2 Z (fun z x J _ T _=>?_);rw [q.tab.lb] at J T;subst J;refine UE (L':=[.obj b (.cells ⟨[.int .i64 p.n,(.slice w p.m y),(.slice z p.m x),e,ai (qtx a.worth.c),l]⟩ 212 (0,0)),.arr (.slice w p.m y) 3 1 a.basic.length ((a.basic).map aL).flatten,.arr (.slice z p.m x) 209 2 a.basic.length ((cT a B).map bJ).flatten,.arr e 3 1 a.others.length ((a.others).map aL).flatten,.arr l 56 1 a.others.length ((a.worth.f).map aZ).flatten]++(List.range a.basic.length).map (stE a B 0 0 0)) Z ?_;refine UN [(4,3)] Z (fun R d=>?_);refine Us 3 Z ?_;refine Uu af U9 ?_;refine D.call (Px q.tab.ok om_) Z (.inr dc_) U6 (show List.Perm _ (((fS b p.n a (.slice w p.m y) (.slice z p.m x) e l B).map Lent.ent)++[]) from List.Perm.of_eq (by rw [Q7,bE 0 0] <;> rfl)) fl_ (fun aP av aQ _ ax=>?_);obtain ⟨Ac,n2,c2,rfl,rfl⟩:=ax;refine C4 2 [0,10,11,12] d Z ?_;clear d R;refine G.freezeArr 0 (a.others.map aL) Z Z uJ am (fun av _ an=>?_);have ay:n2=p.n:=by
  obtain ⟨A9,c9,az,_⟩:=id an;injection az with e1 e2 e3;rw [e2,aw,ar]
 subst ay;refine UE (L':=[.obj b (.cells ⟨[.int .i64 p.n,(.slice w p.m y),(.slice z p.m x),e,ai (qtx a.worth.c),l]⟩ 212 (0,0)),.arr (.slice w p.m y) 3 1 a.basic.length ((a.basic).map aL).flatten,.arr (.slice z p.m x) 209 2 a.basic.length ((cT a B).map bJ).flatten,.arr e 3 1 a.others.length ((a.others).map aL).flatten,.arr l 56 1 a.others.length ((a.worth.f).map aZ).flatten]++(List.range a.basic.length).map (stE a B 0 0 0)) (by rw [bE 0 0,Q7];rfl) ?_;refine G.loop (fun fr C' A U=>∃ (k:Nat)(t:Lp.Tab)(wF:Nat->Value),(k<=p.n/\Lp.Inv p M t/\Lp.Rel p.n t k)/\fr=[(0,[],.pointer (some ⟨b,0,none⟩)),(10,[],.slice Ac p.n c2),(11,[],.int .i64 p.n),(12,[],.int .i64 k)]/\A=[.obj b (.cells ⟨[.int .i64 p.n,(.slice w p.m y),(.slice z p.m x),e,ai (qtx t.worth.c),l]⟩ 212 (0,0)),.arr (.slice w p.m y) 3 1 t.basic.length ((t.basic).map aL).flatten,.arr (.slice z p.m x) 209 2 t.basic.length ((cT t wF).map bJ).flatten,.arr e 3 1 t.others.length ((t.others).map aL).flatten,.arr l 56 1 t.others.length ((t.worth.f).map aZ).flatten]++(List.range t.basic.length).map (stE t wF 0 0 0)/\U=p.n-k) (hn_ [0,10,11,12] Z) ⟨0,a,B,⟨QK _,q,fun s hs=>absurd hs (Nat.not_lt_zero _)⟩,Z,Z,Z⟩ (fun fr aR aS m _ q=>?_);obtain ⟨k,t,wF,⟨hk,q,d⟩,rfl,rfl,rfl⟩:=q;refine Ul 1 [0,10,11,12,13] Z ?_;refine Uo (fun V=>?_) fun V=>?_
 ·have ao:k<p.n:=by
   have:=aW V;omega
  have ok:=q.tab.ok;have aA:=q.tab.lb;have aB:t.basic.length<=1000000:=by rw [q.tab.lb];exact hm
  have aC:t.others.length<=1000000:=by rw [q.tab.lo];exact hn
  have hq:∀ i,i<t.basic.length->LineQ 16 (t.line i):=fun i W=>BO q hl W;have K:k<t.others.length:=by rw [q.tab.lo];exact ao
  refine Um 1 Z fun R d=>?_;refine UD an.m_ U10 om_ (show (a.others.map aL)[k]?=some (aL k) from uq (by rw [ho,Ro ao])) fl_ (fun aT aD=>?_);refine Un aD U8 ?_;refine UH U5 (fun b2=>?_);refine Ux (j:=0) U12 ?_;refine C4 1 [0,2,3,10,11,12] d Z ?_;clear d R;refine G.freeze 0 Z (fun _ _ X=>?_);refine UN [(5,3)] Z (fun R d=>?_);refine Us 3 Z ?_;refine Uu af U9 ?_;refine Up U6 ?_;refine D.call (Nt ok (Mem.get X mup) K) Z (.inr dc_) U6 (show List.Perm _ (((fS b p.n t (.slice w p.m y) (.slice z p.m x) e l wF).map Lent.ent)++[]) from List.Perm.of_eq (by rw [Q7,bE 0 0] <;> rfl)) fl_ (fun aU _ aV _ aE=>?_);refine C4 1 [0,2,3,4,10,11,12] d Z ?_;clear d R;obtain ⟨⟨o0,rfl,aF⟩,rfl⟩:=aE;refine UE (L':=[.obj b (.cells ⟨[.int .i64 p.n,(.slice w p.m y),(.slice z p.m x),e,ai (qtx t.worth.c),l]⟩ 212 (0,0)),.arr (.slice w p.m y) 3 1 t.basic.length ((t.basic).map aL).flatten,.arr (.slice z p.m x) 209 2 t.basic.length ((cT t wF).map bJ).flatten,.arr e 3 1 t.others.length ((t.others).map aL).flatten,.arr l 56 1 t.others.length ((t.worth.f).map aZ).flatten]++(List.range t.basic.length).map (stE t wF 0 0 0)) (by rw [Q7,bE 0 0]) ?_;refine G.loop (fun fr C' A U=>∃ (o:Int),(QE p t k o)/\fr=[(0,[],.pointer (some ⟨b,0,none⟩)),(2,[],.pointer (some ⟨b2,0,none⟩)),(3,[],.int .i64 k),(4,[],.int .i64 o),(10,[],.slice Ac p.n c2),(11,[],.int .i64 p.n),(12,[],.int .i64 k)]/\A=[.obj b (.cells ⟨[.int .i64 p.n,(.slice w p.m y),(.slice z p.m x),e,ai (qtx t.worth.c),l]⟩ 212 (0,0)),.arr (.slice w p.m y) 3 1 t.basic.length ((t.basic).map aL).flatten,.arr (.slice z p.m x) 209 2 t.basic.length ((cT t wF).map bJ).flatten,.arr e 3 1 t.others.length ((t.others).map aL).flatten,.arr l 56 1 t.others.length ((t.worth.f).map aZ).flatten]++(List.range t.basic.length).map (stE t wF 0 0 0)/\U=t.basic.length-o.toNat) (hn_ [0,2,3,4,10,11,12] Z) ⟨o0,CX aF,Z,Z,Z⟩ (fun fr aX aY m _ q=>?_);obtain ⟨o,hS,rfl,rfl,rfl⟩:=q;refine Um 7 Z fun R d=>?_;refine Uu af U9 ?_;refine Up U6 ?_;refine Wo (w.getD ⟨0,0,none⟩).block (o.toNat*1) Z Z Z Z Z Z Z Z Z Z (fun Y=>by
   have h:decide (o ≥ 0)=true:=Y.1;have h2:=aW h;obtain ⟨r,L,E,_⟩:=hS.resolve_left om_;exact ⟨S om_,by omega,by omega,Z⟩) Z Z ?_
  refine Wj (v:=.int .i64 (t.bas o.toNat)) ae Z Z Z Z Z Z (fun Y=>by
   have h:decide (o ≥ 0)=true:=Y.1;have h2:=aW h;obtain ⟨r,L,E,_⟩:=hS.resolve_left om_;refine ⟨S om_, ?_⟩;rw [cP fo (show t.basic[o.toNat]?=some (t.bas o.toNat) from yF om_)];rfl) rfl rfl ?_
  refine VY af (fun _=>oY _ b p.n (t.bas o.toNat) _) U9 ?_;refine Up U6 ?_;refine UM U8 ?_;refine Ur [0,2,3,4,10,11,12,36] d Z ?_;clear d R;refine Uo (fun aa=>?_) fun aa=>?_
  ·have Q:o ≥ 0/\¬ p.n<=t.bas o.toNat:=by simpa using aa
   obtain ⟨a0,ab⟩:=Q;obtain ⟨r,L,E,ac,ad⟩:=hS.resolve_left om_;subst L;rw [Sv] at ab;refine UN [(8,3)] Z (fun R d=>?_);refine Us 3 Z ?_;refine Uu af U9 ?_;refine Up U6 ?_;refine Uw _ U7 ?_;refine Vf (r+1) p.m x U12 (fun _=>⟨.inr ⟨_,Z⟩,.inl ⟨Z,Z⟩,.inl ⟨Z,Z⟩,by omega,T,QG _⟩) U2 ?_;refine Up U6 ?_;refine D.call (Ns aA ok (Mem.get X mup) K E T) Z (.inr dc_) U6 (show List.Perm _ (((fS b p.n t (.slice w p.m y) (.slice z p.m x) e l wF).map Lent.ent)++[]) from List.Perm.of_eq (by rw [Q7,bE 0 0] <;> rfl)) fl_ (fun a1 _ a2 _ aG=>?_);refine C4 1 [0,2,3,4,5,10,11,12] d Z ?_;clear d R;obtain ⟨⟨o2,rfl,ap⟩,rfl⟩:=aG;refine UE (L':=[.obj b (.cells ⟨[.int .i64 p.n,(.slice w p.m y),(.slice z p.m x),e,ai (qtx t.worth.c),l]⟩ 212 (0,0)),.arr (.slice w p.m y) 3 1 t.basic.length ((t.basic).map aL).flatten,.arr (.slice z p.m x) 209 2 t.basic.length ((cT t wF).map bJ).flatten,.arr e 3 1 t.others.length ((t.others).map aL).flatten,.arr l 56 1 t.others.length ((t.worth.f).map aZ).flatten]++(List.range t.basic.length).map (stE t wF 0 0 0)) (by rw [Q7,bE 0 0]) ?_;refine Ul 2 [0,2,3,4,5,10,11,12,47] Z ?_;refine Uo (fun ag=>?_) fun ag=>?_
   ·have ah:o2<0:=aW ag;have hz:∀ i,i<t.basic.length->p.n<=t.bas i->(t.line i).g k=0:=fun i W F=>by
     rcases Nat.lt_trichotomy i r with h1 | h1 | h1
     ·exact ad i h1 F
     ·rw [h1] at F;exact absurd F ab
     have:=yY ap ah (i-(r+1)) om_;rw [show r+1+(i-(r+1))=i by omega] at this;exact Decidable.not_not.1 this
    refine Ul 1 [0,2,3,4,10,11,12] Z ?_;refine Um 5 Z fun R d=>?_;refine VY af (fun _=>oY _ b p.n k _) U9 ?_;refine Up U6 ?_;refine UM U8 ?_;refine Ur [0,2,4,10,11,12,59] d Z ?_;clear d R;refine Uo (fun aq=>?_) fun aq=>?_
    ·exact absurd aq am
    refine Uq fun R d=>?_;refine Uw _ U7 ?_;refine C4 1 [0,10,11,12] d Z ?_;clear d R;refine UA (m':=p.n-(k+1)) om_ mup (hn_ [0,10,11,12] Z) ⟨k+1,t,wF,⟨by omega,q,Lp.rel_none d hz⟩,Z,Z,Z⟩
   have ah:¬ o2<0:=QJ ag;obtain ⟨H,rfl,a3,aH,aI⟩:=yX ap ah;have aJ:QE p t k ((r+(1+H):Nat):Int):=.inr ⟨r+(1+H),rfl,by omega,by rw [show r+(1+H)=r+1+H by omega];exact aH,fun i W F=>by
    rcases Nat.lt_trichotomy i r with h1 | h1 | h1
    ·exact ad i h1 F
    ·rw [h1] at F;exact absurd F ab
    have:=aI (i-(r+1)) om_;rw [show r+1+(i-(r+1))=i by omega] at this;exact Decidable.not_not.1 this⟩
   refine Um 2 Z fun R d=>?_;refine Uw _ U7 ?_;refine Uw _ U7 ?_;refine C4 1 [0,2,3,4,10,11,12] d Z ?_;clear d R;refine UA (m':=t.basic.length-((r+(1+H):Nat):Int).toNat) om_ mup (hn_ [0,2,3,4,10,11,12] Z) ⟨((r+(1+H):Nat):Int),aJ,Z,Z,Z⟩
  have Q:¬ (o ≥ 0/\¬ p.n<=t.bas o.toNat):=by simpa using aa
  refine Um 5 Z fun R d=>?_;refine VY af (fun _=>oY _ b p.n k _) U9 ?_;refine Up U6 ?_;refine UM U8 ?_;refine Ur [0,2,4,10,11,12,59] d Z ?_;clear d R;refine Uo (fun aj=>?_) fun aj=>?_
  ·have I:0<=o:=by
    have I:(decide (0<=o) && !decide (p.n<=k))=true:=aj;simp only [QT,QQ] at I;exact I.1
   obtain ⟨r,L,E,ac,ad⟩:=hS.resolve_left om_;subst L;rw [Sv] at Q;have aM:p.n<=t.bas r:=by
    apply Decidable.byContradiction;intro h;exact Q ⟨by omega,h⟩
   refine UN [(3,3)] Z (fun R d=>?_);refine Us 2 Z ?_;refine Un (bkT X 1) U8 ?_;refine D.call (Bw _ hT.m_ b p.n r k (p.n+p.m) t (.slice w p.m y) (.slice z p.m x) e l wF ok aB aC E K ac hq (oF q hl)) Z (.inr dc_) U6 (show List.Perm _ (((fS b p.n t (.slice w p.m y) (.slice z p.m x) e l wF).map Lent.ent)++[]) from List.Perm.of_eq (by rw [Q7,bE 0 0] <;> rfl)) fl_ (fun a4 _ a5 _ aN=>?_);refine Ur [0,10,11,12] d Z ?_;clear d R;refine Uq fun R d=>?_;refine Uw _ U7 ?_;refine C4 1 [0,10,11,12] d Z ?_;clear d R;obtain ⟨-,ak,rfl⟩:=aN;refine UE (L':=[.obj b (.cells ⟨[.int .i64 p.n,(.slice w p.m y),(.slice z p.m x),e,ai (qtx (t.pivot r k).worth.c),l]⟩ 212 (0,0)),.arr (.slice w p.m y) 3 1 (t.pivot r k).basic.length (((t.pivot r k).basic).map aL).flatten,.arr (.slice z p.m x) 209 2 (t.pivot r k).basic.length ((cT (t.pivot r k) ak).map bJ).flatten,.arr e 3 1 (t.pivot r k).others.length (((t.pivot r k).others).map aL).flatten,.arr l 56 1 (t.pivot r k).others.length (((t.pivot r k).worth.f).map aZ).flatten]++(List.range (t.pivot r k).basic.length).map (stE (t.pivot r k) ak 0 0 0)) (by rw [Q7,bE 0 0]) ?_;refine UA (m':=p.n-(k+1)) om_ mup (hn_ [0,10,11,12] Z) ⟨k+1,t.pivot r k,ak,⟨by omega,q.pivot E K ac,Lp.rel_next ok d E K aM⟩,Z,Z,Z⟩
  have I:¬ 0<=o:=by
   have I:(decide (0<=o) && !decide (p.n<=k))=false:=aj;have al:¬ p.n<=k:=by omega
   simpa [al] using I
  have hz:∀ i,i<t.basic.length->p.n<=t.bas i->(t.line i).g k=0:=by
   rcases hS with ⟨_,h2⟩ | ⟨r,h1,_⟩
   ·exact h2
   omega
  refine Uq fun R d=>?_;refine Uw _ U7 ?_;refine C4 1 [0,10,11,12] d Z ?_;clear d R;refine UA (m':=p.n-(k+1)) om_ mup (hn_ [0,10,11,12] Z) ⟨k+1,t,wF,⟨by omega,q,Lp.rel_none d hz⟩,Z,Z,Z⟩
 have al:k=p.n:=by
  have:=QJ V;omega
 refine Vx Z ?_;exact ⟨Z,t,wF,q,by rw [al] at d;exact d,by rw [bE 0 0]⟩
end Go.Proofs.YthnpijdjlddpmaaGreatDoor
