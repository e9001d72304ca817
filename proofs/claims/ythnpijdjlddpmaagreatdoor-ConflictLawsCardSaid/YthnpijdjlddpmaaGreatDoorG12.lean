/- Laws that the proofs of this seat share, part 12. -/
import Derived.Test.YthnpijdjlddpmaaGreatDoorG11
import Derived.Test.YthnpijdjlddpmaaGreatDoorShelf
set_option maxHeartbeats 4000000
namespace Go.Proofs.YthnpijdjlddpmaaGreatDoor
open Go.Proofs.Tryz
open Go Go.Jog
set_option maxRecDepth 100000
variable {C:Mem}{F N b:Nat}{cc:Nat->Rat}{i j:Nat}{k:Rat}{l:Lp.Line}{m n:Nat}{o:Int}{p:Lp.Sys}{q:Nat->Prop}{r s:Nat}{t:Lp.Tab}{v:Nat}{vs:List Nat}{wB:Value}{wF:Nat->Value}{wL wO wW wy:Value}
theorem ul {l:List Nat}{x:Nat}(h:l[i]?=some x):(l.map aO)[i]?=some (aO x):=by rw [Ql,h];rfl
theorem wT {l:List Nat}(h:Lp.LeastR l q n o):o=-1∨∃ i:Nat,o=i/\i<n:=by
 cases h with
 | none _=>exact .inl rfl
 | some i a _ _=>exact .inr ⟨i,rfl,a⟩
theorem nY (C:Mem)(v:Value)(l:List Nat)(g:Nat)(f:List Value)(q:Nat->Bool)(d:Sl C 1 v (l.map aO))(_O:Jog.Enters cx.P g=true)
  (E:∀ i,i<l.length->∀ D:Mem,C.le D->Gives cx.P g (.int .i64 i::f) D (.bool (q i))) :
  Pur cx.P 180 [v,.func (.func g) #[] ⟨f⟩] C fun u _=>∃ o:Int,u=.int .i64 o/\Lp.LeastR l (fun i=>q i=true) l.length o:=by
 obtain ⟨s,c0,rfl,F,Q,_⟩:=id d;have S:maxLen<=9223372036854775807:=by simp [maxLen]
 simp only [aw] at d F ⊢;refine Uk func180 33 U3 fun w0=>Ua 1 [0,1] Z<|Ua 1 [0,1,5] Z<|Ua 3 [0,1,5,8,9,10] Z<|G.loop (fun fr C' H I=>∃ (i:Nat)(o:Int),(i<=l.length/\Lp.LeastR l (fun i=>q i=true) i o)/\fr=[(0,[],.slice s l.length c0),(1,[],.func (.func g) #[] ⟨f⟩),(5,[],.int .i64 o),(8,[],.slice s l.length c0),(9,[],.int .i64 l.length),(10,[],.int .i64 i)]/\H=[]/\I=l.length-i) (hn_ [0,1,5,8,9,10] Z) ⟨0, -1,⟨Qn _,.none fun j J=>absurd J (Nat.not_lt_zero _)⟩,Z,Z,Z⟩ (fun fr T U m t K=>?_);obtain ⟨i,o,⟨V,a⟩,rfl,rfl,rfl⟩:=K;refine Ua 1 [0,1,5,8,9,10,11] Z<|Ud (fun k=>?_) fun k=>?_
 ·have e:i<l.length:=by
   have:=aV k;omega
  obtain ⟨x,w⟩:∃ x,l[i]?=some x:=⟨l[i],ak e⟩;have y:l.getD i 0=x:=by rw [al,w];rfl
  have n:=wT a;have L:¬ o<0->(l.map aO)[o.toNat]?=some (aO (l.getD o.toNat 0)):=fun h=>by
   rcases n with h1 | ⟨z,h1,h2⟩
   ·omega
   rw [h1,Sb];exact ul (by rw [al,ak om_];rfl)
  refine Ub 1 Z fun R b=>Us d.m_ U10 om_ (ul w) fl_ fun W M=>Uc M U8<|C4 2 [0,1,5,6,7,8,9,10] b Z<|Ub 2 Z fun R b=>Uo (E i e _ mup) U7<|Uh 7 Z<|D.index U10 (fun A=>⟨d.mono mup,(by have h:decide (o<0)=false:=A.1;have:=Qm h;omega),L (by have h:decide (o<0)=false:=A.1;exact Qm h)⟩) fl_ Z fun X N=>UE U6 N U3<|Ue U6<|UF U8<|UD U8<|Ug [0,1,5,6,8,9,10,29] b Z<|Ud (fun p=>?_) fun p=>?_
  ·have c:q i=true/\(o<0∨x<l.getD o.toNat 0):=by
    simpa using p
   have r:Lp.LeastR l (fun i=>q i=true) (i+1) i:=by
    rcases n with h1 | ⟨z,h1,h2⟩
    ·rw [h1] at a;exact a.first c.1
    rw [h1] at a c;refine a.less c.1 ?_;rw [y];rcases c.2 with h3 | h3
    ·omega
    exact h3
   refine Ua 2 [0,1,5,8,9,10] Z<|Uf fun R b=>Ul _ U7<|C4 1 [0,1,5,8,9,10] b Z<|Up (m':=l.length-(i+1)) om_ t (hn_ [0,1,5,8,9,10] Z) ⟨i+1,_,⟨by omega,r⟩,Z,Z,Z⟩
  have c:q i=true->¬ (o<0∨x<l.getD o.toNat 0):=by
   simpa using p
  have r:Lp.LeastR l (fun i=>q i=true) (i+1) o:=by
   by_cases B:q i=true
   ·have h3:=c B;rcases n with h1 | ⟨z,h1,h2⟩
    ·exact absurd (.inl om_) h3
    rw [h1] at a h3 ⊢;refine a.keep ?_;rw [y];exact fun h=>h3 (.inr h)
   exact a.no B
  refine Uf fun R b=>Ul _ U7<|C4 1 [0,1,5,8,9,10] b Z<|Up (m':=l.length-(i+1)) om_ t (hn_ [0,1,5,8,9,10] Z) ⟨i+1,_,⟨by omega,r⟩,Z,Z,Z⟩
 have e:i=l.length:=by
  have:=Qm k;omega
 exact Ua 2 [4] Z<|Ui U2<|⟨Z,o,Z,by rw [<- e];exact a⟩
structure TabV (D:Mem)(b n:Nat)(t:Lp.Tab)(wB wL wO wW:Value)(wF:List Value):Prop where
 o:D b=some (.cells ⟨[.int .i64 n,wB,wL,wO,ah (qtx t.worth.c),wW]⟩ 212 (0,0))
 B:Sl D 1 wB (t.basic.map aO)
 O:Sl D 1 wO (t.others.map aO)
 W:Sl D 1 wW (t.worth.f.map aY)
 L:Sl D 2 wL (List.zipWith (fun (l:Lp.Line) w=>[ah (qtx l.c),w]) t.lines wF)
 fl:wF.length=t.lines.length
 F:∀ (i:Nat)(l:Lp.Line)(w:Value),t.lines[i]?=some l->wF[i]?=some w->Sl D 1 w (l.f.map aY)
theorem TabV.mono {D E:Mem}{b n:Nat}{t:Lp.Tab}{c d e f:Value}{g:List Value}(h:TabV D b n t c d e f g)(a:D.le E):TabV E b n t c d e f g :=
 ⟨a _ _ h.o,h.B.mono a,h.O.mono a,h.W.mono a,h.L.mono a,h.fl,fun i l w h1 h2=>(h.F i l w h1 h2).mono a⟩
theorem TabV.m_ {D E:Mem}{a:List Value}(h:TabV D b n t wB wL wO wW a)(c:D.le E:=by exact mup):TabV E b n t wB wL wO wW a:=TabV.mono h c
theorem fo (C:Mem)(b n v:Nat)(t:Lp.Tab)(a c d e:Value)(f:List Value)(h:TabV C b n t a c d e f) :
  Gives cx.P 177 [.pointer (some ⟨b,0,none⟩),.int .i64 v] C (.bool (decide (n<=v))):=by
 refine Uk func177 11 U3 fun w0=>Ua 1 [0,1] Z<|Ub 4 Z fun R g=>Uc (PtrTo.blockT (h.m_.o) _ 1) U8<|C4 2 [4] g Z<|Ui U2<|⟨?_,Z⟩;congr 1;rw [Q7];omega
theorem ff {l:List Nat}(h:i<l.length):(l.map aO)[i]?=some (aO (l.getD i 0)):=ul (by rw [al,ak h];rfl)
theorem dI {l:List Rat}(h:i<l.length):(l.map aY)[i]?=some (aY (l.getD i 0)):=gi (by rw [al,ak h];rfl)
theorem jL {ls:List Lp.Line}{ws:List Value}(h:i<ls.length)(a:ws.length=ls.length):(List.zipWith (fun (l:Lp.Line) w=>[ah (qtx l.c),w]) ls ws)[i]?=some [ah (qtx (ls.getD i ⟨0,[]⟩).c),ws.getD i (.slice none 0 0)]:=by
 rw [List.getElem?_zipWith,ak h,ak (show i<ws.length by omega),al,al,ak h,ak (show i<ws.length by omega)];rfl
theorem Ka (C:Mem)(a b n i N:Nat)(t:Lp.Tab)(j k e f:Value)(g:List Value)(h:TabV C b n t j k e f g)(l:t.Ok N)(d:C a=some (.cells ⟨[.pointer (some ⟨b,0,none⟩)]⟩ 202 (0,0)))(m:i<t.basic.length)(p:QB 40 (t.line i).c) :
  Gives cx.P 181 [.int .i64 i,.pointer (some ⟨a,0,none⟩)] C (.bool (decide (n<=t.bas i) && decide ((t.line i).c<0))):=by
 obtain ⟨v,w,rfl,x,y,_⟩:=id h.B;obtain ⟨A2,c2,rfl,z,A,_⟩:=id h.L;have E:maxLen<=9223372036854775807:=by simp [maxLen]
 have F:=l.ll;exact Uk func181 25 U3 fun w0=>Ua 1 [0,1] Z<|Uy [0,1,2,3,4,5,6,7,8,9,10,11,12,13,14,15,16,17,18,19,20,21] [(8,1)] Z kr_ fun R G q=>Uc (bkT d 1) U8<|Uc (bkT d 1) U8<|Uh 2 Z<|Uc (PtrTo.blockT (h.m_.o) _ 1) U8<|Ue U6<|Us h.B.m_ U10 om_ (ff m) fl_ fun H r=>Uc r U8<|UJ (fun _=>(fo _ b n (t.bas i) t _ _ e f g h.m_)) U9<|Ue U6<|UE U6 (fun _=>PtrTo.blockT (Mem.get d mup) _ 1) U3<|Uh 2 Z<|UE U6 (fun _=>PtrTo.blockT (h.m_.o) _ 1) U3<|Ue U6<|D.index U10 (fun I=>⟨h.L.mono mup,by omega,jL om_ h.fl⟩) fl_ Z fun J s=>VM Z Z Z Z Z Z Z Z Z Z s fl_ Z fun K u=>UE U6 u U3<|Uz (fun _=>(fW _ (t.line i).c (QE (bK p dc_) dc_))) U9<|Ue U6<|UD U8<|C4 1 [3] q Z<|Ui U2<|⟨by rw [uc],Z⟩
theorem ub (q:Rat):decide (0<eL q.num)=decide (0<q):=by
 have h:0<q.num ↔ 0<q:=by rw [Rat.lt_iff];simp
 rw [Q7];unfold eL;by_cases h1:q.num<0
 ·rw [aH h1];exact ⟨fun h2=>absurd h2 dc_,fun h2=>absurd (h.2 h2) om_⟩
 rw [aA h1];by_cases h2:q.num=0
 ·rw [aH h2];exact ⟨fun h3=>absurd h3 dc_,fun h3=>absurd (h.2 h3) om_⟩
 rw [aA h2];exact ⟨fun _=>h.1 om_,fun _=>by decide⟩
theorem lQ {a:List Value}(h:TabV C b n t wB wL wO wW a)(c:t.Ok N)(d:i<t.basic.length):Sl C 1 (a.getD i (.slice none 0 0)) ((t.line i).f.map aY)/\(t.line i).f.length=t.others.length:=by
 have e:=c.ll;have g:=h.fl;refine ⟨?_,c.fl _ (Lp.line_mem c d)⟩;refine h.F i _ _ (show t.lines[i]?=some (t.line i) from ?_) (show a[i]?=some _ from ?_)
 ·unfold Lp.Tab.line;rw [al,ak om_];rfl
 rw [al,ak om_];rfl
theorem J9 (C:Mem)(a j b n i r N:Nat)(t:Lp.Tab)(p q s k:Value)(c:List Value)(h:TabV C b n t p q s k c)(d:t.Ok N)(e:C a=some (.cells ⟨[.pointer (some ⟨b,0,none⟩)]⟩ 202 (0,0)))(u:C j=some (.cells ⟨[.int .i64 r]⟩ 3 (0,0)))
  (l:r<t.basic.length) (v:i<t.others.length) (w:QB 40 ((t.line r).g i)) :
  Gives cx.P 182 [.int .i64 i,.pointer (some ⟨a,0,none⟩),.pointer (some ⟨j,0,none⟩)] C (.bool (decide (n<=t.oth i) && decide (0<(t.line r).g i))):=by
 obtain ⟨G,H,rfl,I,J,_⟩:=id h.O;obtain ⟨A2,c2,rfl,K,M,_⟩:=id h.L;obtain ⟨f,Q⟩:=lQ h d l;obtain ⟨S,T,x,U,V,_⟩:=id f;have m:=jL (ls:=t.lines) (ws:=c) (i:=r) (by rw [d.ll];exact l) h.fl;rw [x] at m f;have W:maxLen<=9223372036854775807:=by simp [maxLen]
 have X:=d.ll;exact Uk func182 29 U3 fun w0=>Ua 1 [0,1,2] Z<|Uy [0,1,2,3,4,5,6,7,8,9,10,11,12,13,14,15,16,17,18,19,20,21,22,23,24] [(8,1)] Z kr_ fun R Y y=>Uc (bkT e 1) U8<|Uc (bkT e 1) U8<|Uh 2 Z<|Uc (PtrTo.blockT (h.m_.o) _ 1) U8<|Ue U6<|Us h.O.m_ U10 om_ (ff v) fl_ fun aa z=>Uc z U8<|UJ (fun _=>(fo _ b n (t.oth i) t _ _ _ k c h.m_)) U9<|Ue U6<|UE U6 (fun _=>PtrTo.blockT (Mem.get e mup) _ 1) U3<|Uh 2 Z<|UE U6 (fun _=>PtrTo.blockT (h.m_.o) _ 1) U3<|UE U6 (fun _=>PtrTo.blockT (Mem.get u mup) _ 1) U3<|D.index U10 (fun A=>⟨h.L.mono mup,by omega,m⟩) fl_ Z fun ab B=>VM Z Z Z Z Z Z Z Z Z Z B fl_ Z fun ac E=>UE U6 E U3<|Ue U6<|D.index U10 (fun A=>⟨f.mono mup,by omega,dI om_⟩) fl_ Z fun ad F=>UE U6 F U3<|Uz (fun _=>(fW _ ((t.line r).g i) (QE (bK w dc_) dc_))) U9<|Ue U6<|UD U8<|C4 1 [4] y Z<|Ui U2<|⟨by rw [<- ub],Z⟩
theorem M6 (C:Mem)(a b n i N:Nat)(t:Lp.Tab)(e f j k:Value)(d:List Value)(h:TabV C b n t e f j k d)(l:t.Ok N)(c:C a=some (.cells ⟨[.pointer (some ⟨b,0,none⟩)]⟩ 202 (0,0)))(m:i<t.others.length) :
  Gives cx.P 183 [.int .i64 i,.pointer (some ⟨a,0,none⟩)] C (.bool (!decide (n<=t.oth i) && !decide (t.worth.g i=0))):=by
 obtain ⟨s,u,rfl,v,w,_⟩:=id h.O;obtain ⟨A2,c2,rfl,x,y,_⟩:=id h.W;have z:maxLen<=9223372036854775807:=by simp [maxLen]
 have A:=l.wl;refine Uk func183 25 U3 fun w0=>Ua 1 [0,1] Z<|Uy [0,1,2,3,4,5,6,7,8,9,10,11,12,13,14,15,16,17,18,19,20,21] [(8,1)] Z kr_ fun R B p=>Uc (bkT c 1) U8<|Uc (bkT c 1) U8<|Uh 2 Z<|Uc (PtrTo.blockT (h.m_.o) _ 1) U8<|Ue U6<|Us h.O.m_ U10 om_ (ff m) fl_ fun E q=>Uc q U8<|UJ (fun _=>(fo _ b n (t.oth i) t _ _ _ _ d h.m_)) U9<|Uh 2 Z<|UE U6 (fun _=>PtrTo.blockT (Mem.get c mup) _ 1) U3<|Uh 3 Z<|UE U6 (fun _=>PtrTo.blockT (h.m_.o) _ 1) U3<|Ue U6<|D.index U10 (fun F=>⟨h.W.mono mup,by omega,dI om_⟩) fl_ Z fun G r=>UE U6 r U3<|Ue U6<|UD U8<|C4 1 [3] p Z<|Ui U2<|⟨?_,Z⟩;show Value.bool _=Value.bool _;congr 1;congr 1;show (!((⟨(qtx (t.worth.g i)).toArray⟩:ByteArray).data.toList == (⟨#[48]⟩:ByteArray).data.toList))=_;rw [fX]
theorem M5 (C:Mem)(a b n i N:Nat)(t:Lp.Tab)(e f j k:Value)(d:List Value)(h:TabV C b n t e f j k d)(l:t.Ok N)(c:C a=some (.cells ⟨[.pointer (some ⟨b,0,none⟩)]⟩ 202 (0,0)))(m:i<t.others.length)(p:QB 40 (t.worth.g i)) :
  Gives cx.P 184 [.int .i64 i,.pointer (some ⟨a,0,none⟩)] C (.bool (decide (n<=t.oth i) && decide (t.worth.g i<0))):=by
 obtain ⟨u,v,rfl,w,x,_⟩:=id h.O;obtain ⟨A2,c2,rfl,y,z,_⟩:=id h.W;have A:maxLen<=9223372036854775807:=by simp [maxLen]
 have B:=l.wl;exact Uk func184 25 U3 fun w0=>Ua 1 [0,1] Z<|Uy [0,1,2,3,4,5,6,7,8,9,10,11,12,13,14,15,16,17,18,19,20,21] [(8,1)] Z kr_ fun R E q=>Uc (bkT c 1) U8<|Uc (bkT c 1) U8<|Uh 2 Z<|Uc (PtrTo.blockT (h.m_.o) _ 1) U8<|Ue U6<|Us h.O.m_ U10 om_ (ff m) fl_ fun F r=>Uc r U8<|UJ (fun _=>(fo _ b n (t.oth i) t _ _ _ _ d h.m_)) U9<|Ue U6<|UE U6 (fun _=>PtrTo.blockT (Mem.get c mup) _ 1) U3<|Uh 3 Z<|UE U6 (fun _=>PtrTo.blockT (h.m_.o) _ 1) U3<|Ue U6<|D.index U10 (fun G=>⟨h.W.mono mup,by omega,dI om_⟩) fl_ Z fun H s=>UE U6 s U3<|Uz (fun _=>(fW _ (t.worth.g i) (QE (bK p dc_) dc_))) U9<|Ue U6<|UD U8<|C4 1 [3] q Z<|Ui U2<|⟨by rw [uc],Z⟩
theorem tS (n:Nat):List.replicate n (ah [48])=((List.replicate n (0:Rat)).map aY).flatten:=by
 rw [Tp,show aY 0=[ah [48]] by unfold aY;rw [Py]];induction n with
 | zero=>rfl
 | succ n a=>rw [RG,RG,RM,<- a];rfl
def ptF (t:Lp.Tab)(n i:Nat):List Rat:=(List.range n).map fun v=>if v∈t.basic.take i then t.sol v else 0
theorem mS :(ptF t n i).length=n:=by simp [ptF]
theorem FH (h:v<n):(ptF t n i)[v]?=some (if v∈t.basic.take i then t.sol v else 0):=by
 unfold ptF;rw [Ql,QY h];rfl
theorem Jg (t:Lp.Tab)(n:Nat):ptF t n 0=List.replicate n 0:=by
 refine List.ext_getElem? fun v=>?_;by_cases h:v<n
 ·rw [FH h,R4,aH h,List.take_zero,aA Rk]
 rw [Qr (by rw [mS];omega),Qr ap]
theorem lm (h:i<t.basic.length):t.basic.take (i+1)=t.basic.take i++[t.bas i]:=by
 rw [QJ];congr 1;unfold Lp.Tab.bas;rw [al,ak h];rfl
theorem MC (b:t.Ok N)(h:i<t.basic.length)(d:t.bas i<n):(ptF t n i).set (t.bas i) (t.line i).c=ptF t n (i+1):=by
 refine List.ext_getElem? fun v=>?_;rw [List.getElem?_set,mS];by_cases a:v<n
 ·rw [FH a,FH a,lm h];by_cases e:t.bas i=v
  ·subst e;rw [aH rfl,aH a,aH am,Lp.sol_bas b h]
  rw [aA e];by_cases hm:v∈t.basic.take i
  ·rw [aH hm,aH (by simp [hm])]
  rw [aA hm,aA (by simp [hm];exact fun h2=>e h2.symm)]
 rw [aA om_,Qr (by rw [mS];omega),Qr (by rw [mS];omega)]
theorem Jh (h:i<t.basic.length)(a:n<=t.bas i):ptF t n i=ptF t n (i+1):=by
 refine List.map_congr_left fun v hm=>?_;have b:=QA.1 hm;rw [lm h];by_cases hm:v∈t.basic.take i
 ·rw [aH hm,aH (by simp [hm])]
 rw [aA hm,aA (by simp [hm];omega)]
theorem MD (a:t.Ok N):ptF t n t.basic.length=(List.range n).map t.sol:=by
 refine List.map_congr_left fun v _=>?_;rw [Qv];split
 ·rfl
 next h=>exact (Lp.sol_oth a h).symm
theorem Ba (C:Mem)(b n N:Nat)(t:Lp.Tab)(w x p q:Value)(r:List Value)(h:TabV C b n t w x p q r)(f:t.Ok N)(y:n<=1000000) :
  Jog.Fn cx.P 119 [.pointer (some ⟨b,0,none⟩)] C [] fun u _ c=>∃ g,u=.slice (some ⟨g,0,none⟩) n n/\c=[.arr u 56 1 n (((List.range n).map t.sol).map aY).flatten]:=by
 obtain ⟨z,s,rfl,A,Q,_⟩:=id h.B;obtain ⟨A2,c2,rfl,S,T,_⟩:=id h.L;have E:=h.B;have U:t.basic.length<=s:=by rwa [aw] at A
 have V:maxLen<=9223372036854775807:=by simp [maxLen]
 have W:=f.ll;have F:=h.fl;refine Uk func119 38 U3 fun w0=>Ua 1 [0] Z<|UB [(4,3)] Z fun R a=>Uh 3 Z<|Uc (PtrTo.blockT (h.m_.o) _ 1) U8<|D.call (iW _ n y) Z (.inr dc_) U6 (Qo _) fl_ (fun X _ Y _ H=>?_);obtain ⟨g,rfl,rfl⟩:=H;refine C4 1 [0,3] a Z<|Ub 3 Z fun R a=>Uc (PtrTo.blockT (h.m_.o) _ 1) U8<|C4 2 [0,3,14,15,16] a Z<|Ut (L':=[.arr (.slice (some ⟨g,0,none⟩) n n) 56 1 n ((ptF t n 0).map aY).flatten]) (by rw [Jg,<- tS];rfl)<|G.loop (fun fr C' c I=>∃ (i:Nat),(i<=t.basic.length)/\fr=[(0,[],.pointer (some ⟨b,0,none⟩)),(3,[],.slice (some ⟨g,0,none⟩) n n),(14,[],.slice z (t.basic.map aO).length s),(15,[],.int .i64 (t.basic.map aO).length),(16,[],.int .i64 i)]/\c=[.arr (.slice (some ⟨g,0,none⟩) n n) 56 1 n ((ptF t n i).map aY).flatten]/\I=t.basic.length-i) (hn_ [0,3,14,15,16] Z) ⟨0,Qn _,Z,Z,Z⟩ (fun fr aa ab m v J=>?_);obtain ⟨i,hi,rfl,rfl,rfl⟩:=J;refine Ua 1 [0,3,14,15,16,17] Z<|Ud (fun k=>?_) fun k=>?_
 ·have d:i<t.basic.length:=by
   have:=aV k;rw [aw] at this;omega
  refine Ub 1 Z fun R a=>Us E.m_ U10 om_ (show (t.basic.map aO)[i]?=some (aO (t.bas i)) from ff d) fl_ fun ac K=>Uc K U8<|C4 2 [0,3,4,5,14,15,16] a Z<|Ub 2 Z fun R a=>Uo (fo _ b n (t.bas i) t _ _ p q r h.m_) U7<|C4 1 [0,3,4,5,14,15,16,24] a Z<|Ud (fun l=>?_) fun l=>?_
  ·have e:t.bas i<n:=by
    have ad:¬ n<=t.bas i:=by simpa using l
    omega
   refine Ub 5 Z fun R a=>Uc (PtrTo.blockT (h.m_.o) _ 1) U8<|Ue U6<|Us h.L.m_ U10 om_ (jL om_ F) fl_ fun ae M=>Vz M U10 fl_ fun af O=>Uc O U8<|UI (t.bas i*1) U10 ai U2<|UK (j:=0) U11 (by show t.bas i*1+1<=_;rw [bR bM,mS];omega)<|Ug [0,3,14,15,16] a Z<|Uf fun R a=>Ul _ U7<|C4 1 [0,3,14,15,16] a Z<|Ut (L':=[.arr (.slice (some ⟨g,0,none⟩) n n) 56 1 n ((ptF t n (i+1)).map aY).flatten]) (by rw [<- MC f d e,<- bO bM _ (by rw [mS];exact e)];rfl)<|Up (m':=t.basic.length-(i+1)) om_ v (hn_ [0,3,14,15,16] Z) ⟨i+1,om_,Z,Z,Z⟩
  have e:n<=t.bas i:=by simpa using l
  rw [Jh d e];refine Uf fun R a=>Ul _ U7<|C4 1 [0,3,14,15,16] a Z<|Up (m':=t.basic.length-(i+1)) om_ v (hn_ [0,3,14,15,16] Z) ⟨i+1,om_,Z,Z,Z⟩
 have d:i=t.basic.length:=by
  have:=Qm k;rw [aw] at this;omega
 refine Ua 2 [2] Z<|Un (UR Z Z ?_);exact ⟨g,Z,by rw [d,MD f]⟩
def duF (p:Lp.Sys)(t:Lp.Tab)(l:Lp.Line)(i:Nat):List Rat:=(List.range p.m).map fun r=>if p.n+r∈t.others.take i then Lp.dualV p t l r else 0
theorem na :(duF p t l i).length=p.m:=by simp [duF]
theorem G9 (h:r<p.m):(duF p t l i)[r]?=some (if p.n+r∈t.others.take i then Lp.dualV p t l r else 0):=by
 unfold duF;rw [Ql,QY h];rfl
theorem Ke (p:Lp.Sys)(t:Lp.Tab)(l:Lp.Line):duF p t l 0=List.replicate p.m 0:=by
 refine List.ext_getElem? fun v=>?_;by_cases h:v<p.m
 ·rw [G9 h,R4,aH h,List.take_zero,aA Rk]
 rw [Qr (by rw [na];omega),Qr ap]
theorem Ai (h:i<t.others.length):t.others.take (i+1)=t.others.take i++[t.oth i]:=by
 rw [QJ];congr 1;unfold Lp.Tab.oth;rw [al,ak h];rfl
theorem Nw (b:Lp.TabOf p t)(h:i<t.others.length)(c:p.n<=t.oth i):(duF p t l i).set (t.oth i-p.n) (l.g i)=duF p t l (i+1):=by
 refine List.ext_getElem? fun v=>?_;rw [List.getElem?_set,na];by_cases a:v<p.m
 ·rw [G9 a,G9 a,Ai h];by_cases e:t.oth i-p.n=v
  ·subst e;rw [aH rfl,aH a,aH (by rw [show p.n+(t.oth i-p.n)=t.oth i by omega];simp),Lp.dualV_at b h c]
  rw [aA e];by_cases hm:p.n+v∈t.others.take i
  ·rw [aH hm,aH (by simp [hm])]
  rw [aA hm,aA (by simp [hm];omega)]
 rw [Qr (by rw [na];omega),Qr (by rw [na];omega)];have:=b.ok.lt _ (Qy.2 (.inr (Lp.oth_mem h)));split
 ·exact aA om_
 rfl
theorem Kf (h:i<t.others.length)(a:t.oth i<p.n):duF p t l i=duF p t l (i+1):=by
 refine List.map_congr_left fun v _=>?_;rw [Ai h];by_cases hm:p.n+v∈t.others.take i
 ·rw [aH hm,aH (by simp [hm])]
 rw [aA hm,aA (by simp [hm];omega)]
theorem Nx :duF p t l t.others.length=(List.range p.m).map (Lp.dualV p t l):=by
 refine List.map_congr_left fun v _=>?_;rw [Qv];split
 ·rfl
 next h=>exact (Lp.dualV_none h).symm
theorem G8 (C:Mem)(p:Lp.Sys)(b:Nat)(t:Lp.Tab)(l:Lp.Line)(E F H s w:Value)(v:List Value)(h:TabV C b p.n t E F H s v)(x:Lp.TabOf p t)(I:p.m<=1000000)(y:Sl C 1 w (l.f.map aY))(X:l.f.length=t.others.length) :
  Jog.Fn cx.P 121 [.pointer (some ⟨b,0,none⟩),.agg ⟨[ah (qtx l.c),w]⟩,.int .i64 p.m] C [] fun u _ e=>∃ g,u=.slice (some ⟨g,0,none⟩) p.m p.m/\e=[.arr u 56 1 p.m (((List.range p.m).map (Lp.dualV p t l)).map aY).flatten]:=by
 obtain ⟨J,z,rfl,K,Y,_⟩:=id h.O;obtain ⟨A3,c3,rfl,aa,ab,_⟩:=id y;have L:=h.O;have ac:t.others.length<=z:=by rwa [aw] at K
 have ad:maxLen<=9223372036854775807:=by simp [maxLen]
 refine Uk func121 40 U3 fun w0=>Uf fun R a=>Uw U6 fun M=>C4 1 [0,2,4] a Z<|G.freeze 0 Z fun _ _ N=>UB [(1,3)] Z fun R a=>Ue U6<|D.call (iW _ p.m I) Z (.inr dc_) U6 (Qo _) fl_ (fun ae _ af _ Q=>?_);obtain ⟨g,rfl,rfl⟩:=Q;refine C4 1 [0,4,7] a Z<|Ub 3 Z fun R a=>Uc (PtrTo.blockT (h.m_.o) _ 1) U8<|C4 2 [0,4,7,15,16,17] a Z<|Ut (L':=[.arr (.slice (some ⟨g,0,none⟩) p.m p.m) 56 1 p.m ((duF p t l 0).map aY).flatten]) (by rw [Ke,<- tS];rfl)<|G.loop (fun fr C' e S=>∃ (i:Nat),(i<=t.others.length)/\fr=[(0,[],.pointer (some ⟨b,0,none⟩)),(4,[],.pointer (some ⟨M,0,none⟩)),(7,[],.slice (some ⟨g,0,none⟩) p.m p.m),(15,[],.slice J (t.others.map aO).length z),(16,[],.int .i64 (t.others.map aO).length),(17,[],.int .i64 i)]/\e=[.arr (.slice (some ⟨g,0,none⟩) p.m p.m) 56 1 p.m ((duF p t l i).map aY).flatten]/\S=t.others.length-i) (hn_ [0,4,7,15,16,17] Z) ⟨0,Qn _,Z,Z,Z⟩ (fun fr ag aj m A T=>?_);obtain ⟨i,hi,rfl,rfl,rfl⟩:=T;refine Ua 1 [0,4,7,15,16,17,18] Z<|Ud (fun k=>?_) fun k=>?_
 ·have d:i<t.others.length:=by
   have:=aV k;rw [aw] at this;omega
  have ak:=x.ok.lt _ (Qy.2 (.inr (Lp.oth_mem d)));refine Ub 1 Z fun R a=>Us L.m_ U10 om_ (show (t.others.map aO)[i]?=some (aO (t.oth i)) from ff d) fl_ fun al U=>Uc U U8<|C4 2 [0,4,7,8,9,15,16,17] a Z<|Ub 2 Z fun R a=>Uo (fo _ b p.n (t.oth i) t _ _ _ s v h.m_) U7<|Ug [0,4,7,8,9,15,16,17,24] a Z<|Ud (fun q=>?_) fun q=>?_
  ·have r:p.n<=t.oth i:=by simpa using q
   have B:((t.oth i:Int)-(p.n:Int)).toNat=t.oth i-p.n:=by omega
   have V:=Nw (l:=l) x d r;refine Uy [0,1,2,3,4,5,6,7,8,9,10,11,12,13] [] Z kr_ fun R hB a=>Uh 5 Z<|Uc (PtrTo.blockT (h.m_.o) _ 1) U8<|Ul _ U7<|Ue U6<|Uc (bkT N 1) U8<|Ue U6<|Us y.m_ U10 om_ (dI om_) fl_ fun am W=>Uc W U8<|UI (((t.oth i:Int)-(p.n:Int)).toNat*1) U10 ai U2<|UK (j:=0) U11 (by show ((t.oth i:Int)-(p.n:Int)).toNat*1+1<=_;rw [B,bR bM,na];omega)<|Ug [0,4,7,15,16,17] a Z<|Uf fun R a=>Ul _ U7<|C4 1 [0,4,7,15,16,17] a Z<|Ut (L':=[.arr (.slice (some ⟨g,0,none⟩) p.m p.m) 56 1 p.m ((duF p t l (i+1)).map aY).flatten]) (by rw [B,<- V,<- bO bM _ (by rw [na];omega)];rfl)<|Up (m':=t.others.length-(i+1)) om_ A (hn_ [0,4,7,15,16,17] Z) ⟨i+1,om_,Z,Z,Z⟩
  have r:t.oth i<p.n:=by
   have an:¬ p.n<=t.oth i:=by simpa using q
   omega
  rw [Kf d r];refine Uf fun R a=>Ul _ U7<|C4 1 [0,4,7,15,16,17] a Z<|Up (m':=t.others.length-(i+1)) om_ A (hn_ [0,4,7,15,16,17] Z) ⟨i+1,om_,Z,Z,Z⟩
 have d:i=t.others.length:=by
  have:=Qm k;rw [aw] at this;omega
 refine Ua 2 [6] Z<|Un (UR Z Z ?_);exact ⟨g,Z,by rw [d,Nx]⟩
def ngF (p:Lp.Sys)(t:Lp.Tab)(l:Lp.Line)(i:Nat):List Rat:=(List.range p.m).map fun r=>if r<i then -Lp.dualV p t l r else Lp.dualV p t l r
theorem gY :(ngF p t l i).length=p.m:=by simp [ngF]
theorem Bo (h:r<p.m):(ngF p t l i)[r]?=some (if r<i then -Lp.dualV p t l r else Lp.dualV p t l r):=by
 unfold ngF;rw [Ql,QY h];rfl
theorem JB (p:Lp.Sys)(t:Lp.Tab)(l:Lp.Line):(List.range p.m).map (Lp.dualV p t l)=ngF p t l 0:=List.map_congr_left fun r _=>by rw [aA (Nat.not_lt_zero _)]
theorem M1 (h:i<p.m):(ngF p t l i).set i (-Lp.dualV p t l i)=ngF p t l (i+1):=by
 refine List.ext_getElem? fun v=>?_;rw [List.getElem?_set,gY];by_cases a:v<p.m
 ·rw [Bo a,Bo a];by_cases e:i=v
  ·subst e;rw [aH rfl,aH a,aH om_]
  rw [aA e];by_cases hm:v<i
  ·rw [aH hm,aH om_]
  rw [aA hm,aA om_]
 rw [aA om_,Qr (by rw [gY];omega),Qr (by rw [gY];omega)]
theorem M2 (h:t.bas i-p.n<p.m):(ngF p t (t.line i) p.m).set (t.bas i-p.n) 1=(List.range p.m).map (Lp.refV p t i):=by
 refine List.ext_getElem? fun v=>?_;rw [List.getElem?_set,gY,Ql];by_cases a:v<p.m
 ·rw [Bo a,QY a,aH a];unfold Lp.refV;by_cases e:t.bas i-p.n=v
  ·subst e;rw [aH rfl,aH h,RS,aH rfl]
  rw [aA e,RS,aA (fun b=>e b.symm)]
 rw [aA om_,Qr (by rw [gY];omega),Qr ap];rfl
theorem qtx1:qtx 1=[49]:=by decide +kernel
theorem enc1:aY 1=[Value.string ⟨#[49]⟩]:=by
 show [ah (qtx 1)]=_;rw [qtx1];rfl
theorem I5 (C:Mem)(p:Lp.Sys)(b i:Nat)(t:Lp.Tab)(A E s v:Value)(e:List Value)(h:TabV C b p.n t A E s v e)(w:Lp.TabOf p t)(F:p.m<=1000000)(f:i<t.basic.length)(W:p.n<=t.bas i)(H:∀ r,QB 40 (Lp.dualV p t (t.line i) r)) :
  Pur cx.P 117 [.pointer (some ⟨b,0,none⟩),.int .i64 i,.int .i64 p.m] C fun u D=>∃ g,u=.agg ⟨[.slice (some ⟨g,0,none⟩) p.m p.m]⟩/\Sl D 1 (.slice (some ⟨g,0,none⟩) p.m p.m) (((List.range p.m).map (Lp.refV p t i)).map aY):=by
 have ok:=w.ok;obtain ⟨X,Y,rfl,aa,ab,_⟩:=id h.B;obtain ⟨A2,c2,rfl,ac,ad,_⟩:=id h.L;obtain ⟨k,I⟩:=lQ h ok f;obtain ⟨A3,c3,J,ae,ag,_⟩:=id k;have ah:=ok.ll;have x:=jL (ls:=t.lines) (ws:=e) (i:=i) om_ h.fl;rw [J] at x k;have aj:maxLen<=9223372036854775807:=by simp [maxLen]
 have ak:=ok.lt _ (Qy.2 (.inl (Lp.bas_mem f)));have K:t.bas i-p.n<p.m:=by omega
 have z:((t.bas i:Int)-(p.n:Int)).toNat=t.bas i-p.n:=by omega
 refine Uk func117 49 U3 fun w0=>Uf fun R a=>Uv U5 fun c=>Ug [0,1,2,6] a Z<|UB [(9,3)] Z fun R a=>Uh 4 Z<|Uc (PtrTo.blockT (h.m_.o) _ 1) U8<|Ue U6<|Us h.L.m_ U10 om_ x fl_ fun al M=>Uc M U8<|Ue U6<|D.call (G8 _ p b t (t.line i) _ _ s v _ e h.m_ w F k.m_ I) Z (.inr dc_) U6 (Qo _) fl_ (fun an _ ao _ N=>?_);obtain ⟨g,rfl,rfl⟩:=N;refine C4 1 [0,1,6,7] a Z<|Ua 3 [0,1,6,7,20,21,22] Z<|Ut (L':=[.arr (.slice (some ⟨g,0,none⟩) p.m p.m) 56 1 p.m ((ngF p t (t.line i) 0).map aY).flatten,.obj c (.cells ⟨[.slice none 0 0]⟩ 75 (0,0))]) (by rw [<- JB];rfl)<|G.loop (fun fr C' l O=>∃ (j:Nat),(j<=p.m)/\fr=[(0,[],.pointer (some ⟨b,0,none⟩)),(1,[],.int .i64 i),(6,[],.pointer (some ⟨c,0,none⟩)),(7,[],.slice (some ⟨g,0,none⟩) p.m p.m),(20,[],.slice (some ⟨g,0,none⟩) p.m p.m),(21,[],.int .i64 p.m),(22,[],.int .i64 j)]/\l=[.arr (.slice (some ⟨g,0,none⟩) p.m p.m) 56 1 p.m ((ngF p t (t.line i) j).map aY).flatten,.obj c (.cells ⟨[.slice none 0 0]⟩ 75 (0,0))]/\O=p.m-j) (hn_ [0,1,6,7,20,21,22] Z) ⟨0,Qn _,Z,Z,Z⟩ (fun fr ap aq m Q S=>?_);obtain ⟨j,hj,rfl,rfl,rfl⟩:=S;refine Ua 1 [0,1,6,7,20,21,22,23] Z<|Ud (fun q=>?_) fun q=>?_
 ·have d:j<p.m:=by
   have:=aV q;omega
  have T:(ngF p t (t.line i) j)[j]?=some (Lp.dualV p t (t.line i) j):=by rw [Bo d,aA (Nat.lt_irrefl _)]
  refine Ub 1 Z fun R a=>UI (j*1) U10 ai U2<|UX af U6 (fun _=>(by rw [eE bM T];rfl)) U2<|C4 2 [0,1,6,7,8,9,20,21,22] a Z<|Ub 3 Z fun R a=>Ur (eN _ _ (QE (bK (H j) dc_) dc_)) U7 fl_<|UI (j*1) U10 ai U2<|UK (j:=0) U11 (by show j*1+1<=_;rw [bR bM,gY];omega)<|Ug [0,1,6,7,20,21,22] a Z<|Uf fun R a=>Ul _ U7<|C4 1 [0,1,6,7,20,21,22] a Z<|Ut (L':=[.arr (.slice (some ⟨g,0,none⟩) p.m p.m) 56 1 p.m ((ngF p t (t.line i) (j+1)).map aY).flatten,.obj c (.cells ⟨[.slice none 0 0]⟩ 75 (0,0))]) (by rw [<- M1 d,<- bO bM _ (by rw [gY];omega)];rfl)<|Up (m':=p.m-(j+1)) om_ Q (hn_ [0,1,6,7,20,21,22] Z) ⟨j+1,om_,Z,Z,Z⟩
 have d:j=p.m:=by
  have:=Qm q;omega
 subst d;refine Uy [0,1,2,3,4,5,6,7,8,9,10,11,12,13,14] [] Z kr_ fun R hB a=>Uh 4 Z<|Uc (PtrTo.blockT (h.m_.o) _ 1) U8<|Ue U6<|Us h.B.m_ U10 om_ (show (t.basic.map aO)[i]?=some (aO (t.bas i)) from ff f) fl_ fun ar U=>Uc U U8<|Uh 3 Z<|Uc (PtrTo.blockT (h.m_.o) _ 1) U8<|Ul _ U7<|UI (((t.bas i:Int)-(p.n:Int)).toNat*1) U10 ai U2<|UK (j:=0) U11 (by show ((t.bas i:Int)-(p.n:Int)).toNat*1+1<=_;rw [z,bR bM,gY];omega)<|Ug [6,7] a Z<|Ub 1 Z fun R a=>Uu [.slice (some ⟨g,0,none⟩) p.m p.m] U8<|Um (j:=1) U12<|Ug [6] a Z<|G.freezeArr 1 (((List.range p.m).map (Lp.refV p t i)).map aY) rfl (by rw [z,<- M2 K,<- bO bM 1 (by rw [gY];omega),enc1]) (by intro r hr;obtain ⟨y,_,rfl⟩:=Qt.1 hr;rfl) am fun Cg hg V=>Un (UU af U4 ?_);exact ⟨Z,g,Z,V⟩
def cQ (t:Lp.Tab)(wF:Nat->Value):List (Rat × Value):=(List.range t.basic.length).map fun i=>((t.line i).c,wF i)
theorem fH :(cQ t wF).length=t.basic.length:=by simp [cQ]
theorem nR (h:i<t.basic.length):(cQ t wF)[i]?=some ((t.line i).c,wF i):=by
 unfold cQ;rw [Ql,QY h];rfl
def K7 (t:Lp.Tab)(wF:Nat->Value)(i:Nat):Lent:=.arr (wF i) t.others.length 1 56 ((t.line i).f.map aY)
def fe (b n:Nat)(t:Lp.Tab)(wB wL wO wW:Value)(wF:Nat->Value):List Lent :=
 .obj b [.int .i64 n,wB,wL,wO,ah (qtx t.worth.c),wW] 212::.arr wB t.basic.length 1 3 (t.basic.map aO)::.arr wL t.basic.length 2 209 ((cQ t wF).map bE)
  :: .arr wO t.others.length 1 3 (t.others.map aO)::.arr wW t.others.length 1 56 (t.worth.f.map aY)::(List.range t.basic.length).map (K7 t wF)
theorem ib (a:t.Ok N)(h:i<t.basic.length):(t.line i).f.length=t.others.length:=a.fl _ (Lp.line_mem a h)
theorem dY {l:List Rat}:∀ r∈l.map aY,r.length=1:=fun r hr=>by
 obtain ⟨x,_,rfl⟩:=Qt.1 hr;rfl
theorem uJ {l:List Nat}:∀ r∈l.map aO,r.length=1:=fun r hr=>by
 obtain ⟨x,_,rfl⟩:=Qt.1 hr;rfl
theorem gd (c:t.Ok N):∀ x∈fe b n t wB wL wO wW wF,x.wf:=by
 intro x a;unfold fe at a;simp only [Qw,Qt,QA] at a;rcases a with rfl | rfl | rfl | rfl | rfl | ⟨i,d,rfl⟩
 ·trivial
 ·exact ⟨by simp,uJ⟩
 ·exact ⟨by simp [fH],fun r hr=>by obtain ⟨y,_,rfl⟩:=Qt.1 hr;rfl⟩
 ·exact ⟨by simp,uJ⟩
 ·exact ⟨by simp [c.wl],dY⟩
 exact ⟨by simp [ib c d],dY⟩
theorem Er {b:Type}{f:Lp.Line->Value->b}(a:t.Ok N):List.zipWith f t.lines ((List.range t.basic.length).map wF)=(List.range t.basic.length).map fun i=>f (t.line i) (wF i):=by
 refine List.ext_getElem? fun i=>?_;rw [List.getElem?_zipWith,Ql,Ql];by_cases h:i<t.basic.length
 ·have h2:t.lines[i]?=some (t.line i):=by
   unfold Lp.Tab.line;rw [al,ak (by rw [a.ll];exact h)];rfl
  rw [h2,QY h];rfl
 rw [Qr (show (List.range t.basic.length).length<=i by simp;omega),Qr (show t.lines.length<=i by rw [a.ll];omega)];rfl
theorem eW (c:t.Ok N)(h:∀ x∈fe b n t wB wL wO wW wF,x.seen C):TabV C b n t wB wL wO wW ((List.range t.basic.length).map wF):=by
 have h1:=h _ (aL ..);have h2:=h _ (Qq _ (aL ..));have h3:=h _ (Qq _ (Qq _ (aL ..)));have h4:=h _ (Qq _ (Qq _ (Qq _ (aL ..))));have h5:=h _ (Qq _ (Qq _ (Qq _ (Qq _ (aL ..)))));have j:∀ i,i<t.basic.length->Sl C 1 (wF i) ((t.line i).f.map aY):=fun i a =>
  h (K7 t wF i) (Qq _ (Qq _ (Qq _ (Qq _ (Qq _ (Qt.2 ⟨i,QA.2 a,rfl⟩))))))
 refine ⟨h1,h2,h4,h5, ?_,by simp [c.ll],fun i l w e g=>?_⟩
 ·rw [Er c];have d:Sl C 2 wL ((cQ t wF).map bE):=h3;unfold cQ at d;rw [Q6] at d;exact d
 have a:i<t.lines.length:=(aF.1 e).1;rw [c.ll] at a;rw [Ql,QY a] at g;cases g
 have:t.line i=l:=by unfold Lp.Tab.line;rw [al,e];rfl
 rw [<- this];exact j i a
theorem Je (C:Mem)(o:Tabs C)(e m f i n s:Nat)(w g:Value)(d:List (Rat × Value))(a b:List Rat)(c h:Rat)(p:d.length=m)(q:d[i]?=some (c,w))(r:a.length=n)(k:b.length=n)(t:s<n)(v:QB 40 c)(y:∀ x∈a,QB 40 x)(z:QB 40 h)(A:∀ x∈b,QB 40 x) :
  Jog.Fn cx.P 237 [.pointer (some ⟨e,i*2,none⟩),.int .i64 s,.agg ⟨[ah (qtx h),g]⟩] C [.arr g 56 1 n (b.map aY).flatten,.arr (.slice (some ⟨e,0,none⟩) m f) 209 2 m (d.map bE).flatten,.arr w 56 1 n (a.map aY).flatten]
   fun u _ j=>u=.tuple #[]/\j=[.arr g 56 1 n (b.map aY).flatten,.arr (.slice (some ⟨e,0,none⟩) m f) 209 2 m ((d.set i (c+a.getD s 0*h,w)).map bE).flatten,.arr w 56 1 n ((kI a b s (a.getD s 0) n).map aY).flatten]:=by
 have l:Jog.Enters cx.P 237=true:=by kernel_rfl
 refine Fn.perm (L2:=[.arr w 56 1 n (a.map aY).flatten,.arr g 56 1 n (b.map aY).flatten,.arr (.slice (some ⟨e,0,none⟩) m f) 209 2 m (d.map bE).flatten]) (QT (l₁:=[_,_]) (l₂:=[_]))<|Fn.form l om_ fun D E F=>?_;subst F;refine Fn.perm (QT (l₁:=[_]) (l₂:=[_,_]))<|(VG (post:=fun u j=>u=.tuple #[]/\j=[.arr (.slice (some ⟨e,0,none⟩) m f) 209 2 m ((d.set i (c+a.getD s 0*h,_)).map bE).flatten,.arr _ 56 1 n ((kI a b s (a.getD s 0) n).map aY).flatten]) l dY (by simp [k]) fun C' G H=>MA C' (o.mono G) e m f i D E n s g d a b c h p q r k t H v y z A).mono ?_;rintro u C' j _ ⟨B,rfl,h1,rfl⟩;exact ⟨h1,Z⟩
theorem Jc (C:Mem)(o:Tabs C)(d n s:Nat)(e f g h w i:Value)(a b:List Rat)(c j:Rat)(p:a.length=n)(l:b.length=n)(q:s<n)(r:QB 40 c)(t:∀ x∈a,QB 40 x)(v:QB 40 j)(y:∀ x∈b,QB 40 x) :
  Jog.Fn cx.P 237 [.pointer (some ⟨d,4,none⟩),.int .i64 s,.agg ⟨[ah (qtx j),i]⟩] C [.arr i 56 1 n (b.map aY).flatten,.obj d (.cells ⟨[e,f,g,h,ah (qtx c),w]⟩ 212 (0,0)),.arr w 56 1 n (a.map aY).flatten]
   fun u _ k=>u=.tuple #[]/\k=[.arr i 56 1 n (b.map aY).flatten,.obj d (.cells ⟨[e,f,g,h,ah (qtx (c+a.getD s 0*j)),w]⟩ 212 (0,0)),.arr w 56 1 n ((kI a b s (a.getD s 0) n).map aY).flatten]:=by
 have m:Jog.Enters cx.P 237=true:=by kernel_rfl
 refine Fn.perm (L2:=[.arr w 56 1 n (a.map aY).flatten,.arr i 56 1 n (b.map aY).flatten,.obj d (.cells ⟨[e,f,g,h,ah (qtx c),w]⟩ 212 (0,0))]) (QT (l₁:=[_,_]) (l₂:=[_]))<|Fn.form m om_ fun A B D=>?_;subst D;refine Fn.perm (QT (l₁:=[_]) (l₂:=[_,_]))<|(VG (post:=fun u k=>u=.tuple #[]/\k=[.obj d (.cells ⟨[e,f,g,h,ah (qtx (c+a.getD s 0*j)),_]⟩ 212 (0,0)),.arr _ 56 1 n ((kI a b s (a.getD s 0) n).map aY).flatten]) m dY (by simp [l]) fun C' E F=>Mz C' (o.mono E) d A B n s e f g h i a b c j p l q F r t v y).mono ?_;rintro u C' k _ ⟨z,rfl,h1,rfl⟩;exact ⟨h1,Z⟩
theorem nA (h:Lp.LeaveR F t s n o):o=-1∨∃ r:Nat,o=r/\r<n/\F<=t.bas r/\(t.line r).g s<0:=by
 cases h with
 | none _=>exact .inl rfl
 | some r h1 h2 h3 _=>exact .inr ⟨r,rfl,h1,h2,h3⟩
theorem FO (a b:Rat):decide (sP a b > 0)=decide (b<a):=by
 unfold sP;rw [Q7];split
 ·next h=>exact ⟨fun h2=>absurd h2 dc_,fun h2=>by grind⟩
 split
 ·next h=>exact ⟨fun _=>h,fun _=>by decide⟩
 next h=>exact ⟨fun h2=>absurd h2 dc_,fun h2=>absurd h2 h⟩
theorem FP (a b:Rat):(sP a b == 0)=decide (b=a):=by
 unfold sP;split
 ·next h=>rw [QK (by grind)];rfl
 split
 ·next h=>rw [QK (by grind)];rfl
 next h=>rw [QD (by grind)];rfl
theorem JK (C:Mem)(T:Tabs C)(b n s N:Nat)(t:Lp.Tab)(wB wL U V:Value)(k:List Value)(h:TabV C b n t wB wL U V k)(W:t.Ok N)(hs:s<t.others.length)(X:∀ i,i<t.basic.length->QB 16 (t.line i).c/\QB 16 ((t.line i).g s)) :
  Pur cx.P 185 [.pointer (some ⟨b,0,none⟩),.int .i64 s] C fun u _=>∃ o:Int,u=.int .i64 o/\Lp.LeaveR n t s t.basic.length o:=by
 obtain ⟨A1,c1,rfl,ax,ay,_⟩:=id h.B;obtain ⟨A2,c2,rfl,az,aA,_⟩:=id h.L;have E:=h.B;have aB:maxLen<=9223372036854775807:=by simp [maxLen]
 have aC:=W.ll;have ad:=h.fl;have aD:(List.zipWith (fun (l:Lp.Line) w=>[ah (qtx l.c),w]) t.lines k).length=t.basic.length:=by simp;omega
 refine Uk func185 85 U3 fun w0=>Ua 1 [0,1] Z<|Ua 1 [0,1,5] Z<|Ua 1 [0,1,5,6] Z<|Ub 3 Z fun R a=>Uc (PtrTo.blockT (h.m_.o) _ 1) U8<|C4 2 [0,1,5,6,15,16,17] a Z<|G.loop (fun fr C' L' μ=>∃ (i:Nat)(o:Int)(v:Str),(i<=t.basic.length/\Lp.LeaveR n t s i o/\∀ r:Nat,o=r->v=qtx ((t.line r).c / -(t.line r).g s))/\fr=[(0,[],.pointer (some ⟨b,0,none⟩)),(1,[],.int .i64 s),(5,[],.int .i64 o),(6,[],ah v),(15,[],.slice A2 (List.zipWith (fun (l:Lp.Line) w=>[ah (qtx l.c),w]) t.lines k).length c2),(16,[],.int .i64 (List.zipWith (fun (l:Lp.Line) w=>[ah (qtx l.c),w]) t.lines k).length),(17,[],.int .i64 i)]/\L'=[]/\μ=t.basic.length-i) (hn_ [0,1,5,6,15,16,17] Z) ⟨0, -1,[],⟨Qn _,.none fun j hj=>absurd hj (Nat.not_lt_zero _),fun r hr=>by omega⟩,Z,Z,Z⟩ (fun fr aE aF m _ hI=>?_);obtain ⟨i,o,v,⟨hi,f,F⟩,rfl,rfl,rfl⟩:=hI;refine Ua 1 [0,1,5,6,15,16,17,18] Z<|Ud (fun H=>?_) fun H=>?_
 ·have p:i<t.basic.length:=by
   have:=aV H;omega
  obtain ⟨z,aG⟩:=lQ h W p;obtain ⟨A3,c3,ae,aH,aI,_⟩:=id z;obtain ⟨Y,I⟩:=X i p;have aa:=jL (ls:=t.lines) (ws:=k) (i:=i) om_ ad;rw [ae] at aa z;have ab:(qtx ((t.line i).g s)).length<=1000000:=QE (bK I dc_) dc_;refine Ub 1 Z fun R a=>Us h.L.m_ U10 om_ aa fl_ fun aJ af=>Uc af U8<|Uv U5 fun b8=>Ue U6<|Um (j:=0) U12<|Ug [0,1,5,6,7,8,15,16,17] a Z<|G.freeze 0 Z fun _ _ J=>Ub 4 Z fun R a=>Uc (PtrTo.blockT (h.m_.o) _ 1) U8<|Ue U6<|Us E.m_ U10 om_ (ff p) fl_ fun aK ag=>Uc ag U8<|Uo (fo _ b n (t.bas i) t _ _ U V k h.m_) U7<|Uh 3 Z<|UE U6 (fun _=>PtrTo.blockT (Mem.get J mup) _ 1) U3<|Ue U6<|D.index U10 (fun hg=>⟨z.mono mup,by omega,dI om_⟩) fl_ Z fun aL ai=>UE U6 ai U3<|UJ (fun _=>(fW _ ((t.line i).g s) ab)) U9<|Ue U6<|UF U8<|Ug [0,1,5,6,7,8,15,16,17,40] a Z<|Ud (fun K=>?_) fun K=>?_
  ·have d:n<=t.bas i->0<=(t.line i).g s:=by
    intro h1;have d:(!decide (n<=t.bas i) || decide (eL ((t.line i).g s).num ≥ 0))=true:=K;rw [FI,QD h1] at d;simpa using d
   refine Uf fun R a=>Ul _ U7<|C4 1 [0,1,5,6,15,16,17] a Z<|Up (m':=t.basic.length-(i+1)) om_ mup (hn_ [0,1,5,6,15,16,17] Z) ⟨i+1,o,v,⟨by omega,f.no d,F⟩,Z,Z,Z⟩
  have d:n<=t.bas i/\(t.line i).g s<0:=by
   have d:(!decide (n<=t.bas i) || decide (eL ((t.line i).g s).num ≥ 0))=false:=K;rw [FI] at d;simp only [RQ,Bool.not_eq_false',Qs,QG] at d;exact ⟨d.1,by have:=d.2;grind⟩
  have ac:-(t.line i).g s≠0:=by have:=d.2;grind
  have aj:=jr Y (fa I) ac;refine Uy [0,1,2,3,4,5,6,7,8,9,10,11,12,13] [(7,1),(8,1)] Z kr_ fun R hB a=>Ue U6<|Uc (bkT J 1) U8<|Ue U6<|Uc (bkT J 1) U8<|Ue U6<|Us z.m_ U10 om_ (dI om_) fl_ fun aM ak=>Uc ak U8<|UJ (fun _=>(eN _ ((t.line i).g s) ab)) U9<|Uz (fun _=>(gT _ T.m_ (t.line i).c (-(t.line i).g s) 16 dc_ dc_ Y (fa I) ac)) U9<|C4 5 [0,1,5,6,7,9,15,16,17] a Z<|Ua 1 [0,1,5,6,7,9,15,16,17] Z<|Ua 2 [0,1,5,6,7,9,15,16,17,54] Z<|Ud (fun M=>?_) fun M=>?_
  ·have al:0<=o:=by simpa using aV M
   obtain ⟨r,O,aN,aO,aP⟩:=(nA f).resolve_left om_;obtain ⟨am,an⟩:=X r om_;have ao:-(t.line r).g s≠0:=by grind
   have ap:=jr am (fa an) ao;have aq:=F r O;rw [O] at f;subst O;subst aq;obtain ⟨x,A⟩:∃ x,(t.line i).c / -(t.line i).g s=x:=⟨_,rfl⟩;obtain ⟨y,hy⟩:∃ y,(t.line r).c / -(t.line r).g s=y:=⟨_,rfl⟩;refine Ub 2 Z fun R a=>Ur (gU _ T.m_ _ _ 32 dc_ dc_ aj ap) U7 fl_<|C4 1 [0,1,5,6,7,9,11,15,16,17] a Z<|Uy [0,1,2,3,4,5,6,7,8,9,10,11,12,13,14,15,16,17,18,19,20,21,22] [] Z kr_ fun R hB a=>Uh 9 Z<|UE U6 (fun _=>PtrTo.blockT (h.m_.o) _ 1) U3<|Ue U6<|D.index U10 (fun hg=>⟨E.mono mup,by omega,ff p⟩) fl_ Z fun aQ ar=>UE U6 ar U3<|Uh 3 Z<|UE U6 (fun _=>PtrTo.blockT (h.m_.o) _ 1) U3<|Ue U6<|D.index U10 (fun hg=>⟨E.mono mup,by omega,by rw [Sb];exact ff om_⟩) fl_ Z fun aR au=>UE U6 au U3<|Ue U6<|UD U8<|UF U8<|Ug [0,1,5,6,7,9,15,16,17,80] a Z<|Ud (fun Q=>?_) fun Q=>?_
   ·have e:y<x∨y=x/\t.bas r<t.bas i:=by
     have e:(decide (sP ((t.line i).c / -(t.line i).g s) ((t.line r).c / -(t.line r).g s) > 0) || (sP ((t.line i).c / -(t.line i).g s) ((t.line r).c / -(t.line r).g s) == 0 && decide ((t.bas i:Int) > (t.bas r:Int))))=true:=Q;rw [A,hy,FO,FP] at e;simp only [RY,Qu,Qs] at e;rcases e with h1 | ⟨h1,h2⟩
     ·exact .inl h1
     exact .inr ⟨h1,by omega⟩
    have q:=f.keep (by rw [A,hy];exact e.elim .inl (fun h1=>.inr ⟨h1.1,by have:=h1.2;omega⟩));refine Uf fun R a=>Ul _ U7<|C4 1 [0,1,5,6,15,16,17] a Z<|Up (m':=t.basic.length-(i+1)) om_ mup (hn_ [0,1,5,6,15,16,17] Z) ⟨i+1,(r:Int),qtx ((t.line r).c / -(t.line r).g s),⟨by omega,q,F⟩,Z,Z,Z⟩
   have e:x<y∨x=y/\t.bas i<=t.bas r:=by
    have e:(decide (sP ((t.line i).c / -(t.line i).g s) ((t.line r).c / -(t.line r).g s) > 0) || (sP ((t.line i).c / -(t.line i).g s) ((t.line r).c / -(t.line r).g s) == 0 && decide ((t.bas i:Int) > (t.bas r:Int))))=false:=Q;rw [A,hy,FO,FP] at e;simp only [RQ,Ta,QG] at e;obtain ⟨h1,h2⟩:=e;by_cases h3:x<y
    ·exact .inl h3
    have h4:y=x:=by grind
    rcases h2 with h2 | h2
    ·exact absurd h4 h2
    exact .inr ⟨h4.symm,by omega⟩
   have q:=f.less d.1 d.2 (by rw [A,hy];exact e);refine Ua 4 [0,1,5,6,15,16,17] Z<|Uf fun R a=>Ul _ U7<|C4 1 [0,1,5,6,15,16,17] a Z<|Up (m':=t.basic.length-(i+1)) om_ mup (hn_ [0,1,5,6,15,16,17] Z) ⟨i+1,(i:Int),qtx ((t.line i).c / -(t.line i).g s),⟨by omega,q,fun S av=>by rw [show S=i by omega]⟩,Z,Z,Z⟩
  have al:¬ 0<=o:=by simpa using Qm M
  have aw:o=-1:=by
   rcases nA f with h1 | ⟨r,h1,_⟩
   ·exact h1
   omega
  subst aw;have q:=f.first d.1 d.2;refine Ua 4 [0,1,5,6,15,16,17] Z<|Uf fun R a=>Ul _ U7<|C4 1 [0,1,5,6,15,16,17] a Z<|Up (m':=t.basic.length-(i+1)) om_ mup (hn_ [0,1,5,6,15,16,17] Z) ⟨i+1,(i:Int),qtx ((t.line i).c / -(t.line i).g s),⟨by omega,q,fun S av=>by rw [show S=i by omega]⟩,Z,Z,Z⟩
 have p:i=t.basic.length:=by
  have:=Qm H;omega
 exact Ua 2 [4] Z<|Ui U2<|⟨Z,o,Z,by rw [<- p];exact f⟩
def ryF (t:Lp.Tab)(s n:Nat)(k:Rat)(i:Nat):List Rat:=(List.range n).map fun v=>if v∈t.basic.take i then k*t.dir s v else if v=t.oth s then k else 0
theorem kF :(ryF t s n k i).length=n:=by simp [ryF]
theorem AH (h:v<n):(ryF t s n k i)[v]?=some (if v∈t.basic.take i then k*t.dir s v else if v=t.oth s then k else 0):=by
 unfold ryF;rw [Ql,QY h];rfl
theorem IX (h:n<=t.oth s):List.replicate n 0=ryF t s n k 0:=by
 refine List.ext_getElem? fun v=>?_;by_cases a:v<n
 ·rw [AH a,R4,aH a,List.take_zero,aA Rk,aA om_]
 rw [Qr ap,Qr (by rw [kF];omega)]
theorem Mp (h:t.oth s<n):(List.replicate n 0).set (t.oth s) k=ryF t s n k 0:=by
 refine List.ext_getElem? fun v=>?_;rw [List.getElem?_set];by_cases a:v<n
 ·rw [AH a,R4,aH a,List.take_zero,aA Rk];by_cases e:t.oth s=v
  ·rw [aH e,aH (by simpa using h),aH e.symm]
  rw [aA e,aA (fun b=>e b.symm)]
 rw [aA om_,Qr ap,Qr (by rw [kF];omega)]
theorem Mo (b:Lp.TabOf p t)(c:s<t.others.length)(h:i<t.basic.length)(d:t.bas i<n):(ryF t s n k i).set (t.bas i) (k*(t.line i).g s)=ryF t s n k (i+1):=by
 refine List.ext_getElem? fun v=>?_;rw [List.getElem?_set,kF];by_cases a:v<n
 ·rw [AH a,AH a,lm h];by_cases e:t.bas i=v
  ·subst e;rw [aH rfl,aH a,aH am,Lp.dir_bas b c h]
  rw [aA e];by_cases hm:v∈t.basic.take i
  ·rw [aH hm,aH (by simp [hm])]
  rw [aA hm,aA (show ¬ v∈t.basic.take i++[t.bas i] by simp [hm];exact fun h2=>e h2.symm)]
 rw [aA om_,Qr (by rw [kF];omega),Qr (by rw [kF];omega)]
theorem IY (h:i<t.basic.length)(a:n<=t.bas i):ryF t s n k i=ryF t s n k (i+1):=by
 refine List.map_congr_left fun v hm=>?_;have b:=QA.1 hm;rw [lm h];by_cases hm:v∈t.basic.take i
 ·rw [aH hm,aH (by simp [hm])]
 rw [aA hm,aA (show ¬ v∈t.basic.take i++[t.bas i] by simp [hm];omega)]
theorem Mq (a:Lp.TabOf p t):ryF t s n k t.basic.length=(List.range n).map fun v=>k*t.dir s v:=by
 refine List.map_congr_left fun v _=>?_;rw [Qv];split
 ·rfl
 next h =>
 rw [Lp.dir_oth a h];split <;> grind
def kY (t:Lp.Tab)(s:Nat):Rat:=if 0<t.worth.g s then -1 else 1
theorem OH:qtx (-1)=[45,49]:=by decide +kernel
theorem OG (C:Mem)(N:Tabs C)(p:Lp.Sys)(b s:Nat)(t:Lp.Tab)(Q S T U:Value)(r:List Value)(h:TabV C b p.n t Q S T U r)(x:Lp.TabOf p t)(I:s<t.others.length)(V:p.n<=1000000)(X:∀ i,i<t.basic.length->QB 16 ((t.line i).g s))(Y:QB 16 (t.worth.g s)) :
  Jog.Fn cx.P 120 [.pointer (some ⟨b,0,none⟩),.int .i64 s] C [] fun u _ c=>∃ g,u=.slice (some ⟨g,0,none⟩) p.n p.n/\c=[.arr u 56 1 p.n (((List.range p.n).map fun v=>kY t s*t.dir s v).map aY).flatten]:=by
 have ok:=x.ok;obtain ⟨A1,J,rfl,aa,ap,_⟩:=id h.B;obtain ⟨A2,c2,rfl,aq,ar,_⟩:=id h.L;obtain ⟨A3,c3,rfl,au,av,_⟩:=id h.O;obtain ⟨A4,c4,rfl,ax,ay,_⟩:=id h.W;have ab:=h.B;have az:t.basic.length<=J:=by rwa [aw] at aa
 have aB:maxLen<=9223372036854775807:=by simp [maxLen]
 have aC:=ok.ll;have ac:=h.fl;have aD:=ok.wl;have ad:QB 16 (kY t s):=by unfold kY;split <;> exact ⟨by decide,by decide⟩
 refine Uk func120 72 U3 fun w0=>Ua 1 [0,1] Z<|Ua 1 [0,1,5] Z<|Ub 4 Z fun R a=>Uc (PtrTo.blockT (h.m_.o) _ 1) U8<|Ue U6<|Us h.W.m_ U10 om_ (dI om_) fl_ fun aE ae=>Uc ae U8<|Ur (fW _ (t.worth.g s) (QE (bK Y dc_) dc_)) U7 fl_<|C4 1 [0,1,5,19] a Z<|G.cut (fun fr C' c f=>(True)/\fr=[(0,[],.pointer (some ⟨b,0,none⟩)),(1,[],.int .i64 s),(5,[],ah (qtx (kY t s)))]/\c=[]) ?_ (fun fr _ aF f _ l=>?_)
 ·refine Ud (fun y=>?_) fun y=>?_
  ·have z:kY t s=-1:=by
    have d:0<t.worth.g s:=by
     have d:decide (0<eL (t.worth.g s).num)=true:=y;rw [ub] at d;exact aV d
    unfold kY;rw [aH d]
   refine Ua 1 [0,1,5] Z<|Uq 0 (Mem.le.refl _) (hn_ [0,1,5] Z) ⟨trivial,by rw [z,OH];rfl,Z⟩
  have z:kY t s=1:=by
   have d:¬ 0<t.worth.g s:=by
    have d:decide (0<eL (t.worth.g s).num)=false:=y;rw [ub] at d;exact Qm d
   unfold kY;rw [aA d]
  refine Uq 0 (Mem.le.refl _) (hn_ [0,1,5] Z) ⟨trivial,by rw [z,qtx1];rfl,Z⟩
 obtain ⟨af,rfl,rfl⟩:=l;refine UB [(4,3)] Z fun R a=>Uh 3 Z<|Uc (PtrTo.blockT (h.m_.o) _ 1) U8<|D.call (iW _ p.n V) Z (.inr dc_) U6 (Qo _) fl_ fun aG _ aI _ ag=>C4 1 [0,1,5,6] a Z ?_;obtain ⟨g,rfl,rfl⟩:=ag;refine Ut (L':=[.arr (.slice (some ⟨g,0,none⟩) p.n p.n) 56 1 p.n ((List.replicate p.n (0:Rat)).map aY).flatten]) (by rw [<- tS];rfl)<|Ub 3 Z fun R a=>Uc (PtrTo.blockT (h.m_.o) _ 1) U8<|Ue U6<|Us h.O.m_ U10 om_ (show (t.others.map aO)[s]?=some (aO (t.oth s)) from ff I) fl_ fun aJ aj=>Uc aj U8<|C4 1 [0,1,5,6,7] a Z<|Ub 2 Z fun R a=>Uo (fo _ b p.n (t.oth s) t _ _ _ _ r h.m_) U7<|C4 1 [0,1,5,6,7,35] a Z<|G.cut (fun fr C' c f=>(True)/\fr=[(0,[],.pointer (some ⟨b,0,none⟩)),(1,[],.int .i64 s),(5,[],ah (qtx (kY t s))),(6,[],.slice (some ⟨g,0,none⟩) p.n p.n)]/\c=[.arr (.slice (some ⟨g,0,none⟩) p.n p.n) 56 1 p.n ((ryF t s p.n (kY t s) 0).map aY).flatten]) ?_ (fun fr _ aK f _ l=>?_)
 ·refine Ud (fun A=>?_) fun A=>?_
  ·have q:t.oth s<p.n:=by
    have q:¬ p.n<=t.oth s:=by simpa using A
    omega
   refine Ub 3 Z fun R a=>UI (t.oth s*1) U10 ai U2<|UK (j:=0) U11 (by show t.oth s*1+1<=_;rw [bR bM,RK];omega)<|Ug [0,1,5,6] a Z<|Ut (L':=[.arr (.slice (some ⟨g,0,none⟩) p.n p.n) 56 1 p.n ((ryF t s p.n (kY t s) 0).map aY).flatten]) (by rw [<- Mp q,<- bO bM _ (by rw [RK];exact q)];rfl)<|Uq 0 (Mem.le.refl _) (hn_ [0,1,5,6] Z) ⟨trivial,Z,Z⟩
  have q:p.n<=t.oth s:=by simpa using A
  rw [IX (k:=kY t s) q];refine Uq 0 (Mem.le.refl _) (hn_ [0,1,5,6] Z) ⟨trivial,Z,Z⟩
 obtain ⟨af,rfl,rfl⟩:=l;refine Ub 3 Z fun R a=>Uc (PtrTo.blockT (h.m_.o) _ 1) U8<|C4 2 [0,1,5,6,43,44,45] a Z<|G.loop (fun fr C' c f=>∃ (i:Nat),(i<=t.basic.length)/\fr=[(0,[],.pointer (some ⟨b,0,none⟩)),(1,[],.int .i64 s),(5,[],ah (qtx (kY t s))),(6,[],.slice (some ⟨g,0,none⟩) p.n p.n),(43,[],.slice A1 (t.basic.map aO).length J),(44,[],.int .i64 (t.basic.map aO).length),(45,[],.int .i64 i)]/\c=[.arr (.slice (some ⟨g,0,none⟩) p.n p.n) 56 1 p.n ((ryF t s p.n (kY t s) i).map aY).flatten]/\f=t.basic.length-i) (hn_ [0,1,5,6,43,44,45] Z) ⟨0,Qn _,Z,Z,Z⟩ (fun fr aL aM m K l=>?_);obtain ⟨i,hi,rfl,rfl,rfl⟩:=l;refine Ua 1 [0,1,5,6,43,44,45,46] Z<|Ud (fun E=>?_) fun E=>?_
 ·have e:i<t.basic.length:=by
   have:=aV E;rw [aw] at this;omega
  obtain ⟨F,aN⟩:=lQ h ok e;obtain ⟨A5,c5,ak,aP,aQ,_⟩:=id F;have M:=jL (ls:=t.lines) (ws:=r) (i:=i) om_ ac;rw [ak] at M F;refine Ub 1 Z fun R a=>Us ab.m_ U10 om_ (show (t.basic.map aO)[i]?=some (aO (t.bas i)) from ff e) fl_ fun aR al=>Uc al U8<|C4 2 [0,1,5,6,8,9,43,44,45] a Z<|Ub 2 Z fun R a=>Uo (fo _ b p.n (t.bas i) t _ _ _ _ r h.m_) U7<|C4 1 [0,1,5,6,8,9,43,44,45,53] a Z<|Ud (fun H=>?_) fun H=>?_
  ·have w:t.bas i<p.n:=by
    have aS:¬ p.n<=t.bas i:=by simpa using H
    omega
   refine Ub 6 Z fun R a=>Uc (PtrTo.blockT (h.m_.o) _ 1) U8<|Ue U6<|Us h.L.m_ U10 om_ M fl_ fun aT am=>Vz am U10 fl_ fun aU an=>Uc an U8<|Ue U6<|Us F.m_ U10 om_ (dI om_) fl_ fun aW ao=>Uc ao U8<|Ur (dR _ N.m_ (kY t s) ((t.line i).g s) 16 dc_ dc_ ad (X i e)) U7 fl_<|UI (t.bas i*1) U10 ai U2<|UK (j:=0) U11 (by show t.bas i*1+1<=_;rw [bR bM,kF];omega)<|Ug [0,1,5,6,43,44,45] a Z<|Uf fun R a=>Ul _ U7<|C4 1 [0,1,5,6,43,44,45] a Z<|Ut (L':=[.arr (.slice (some ⟨g,0,none⟩) p.n p.n) 56 1 p.n ((ryF t s p.n (kY t s) (i+1)).map aY).flatten]) (by rw [<- Mo x I e w,<- bO bM _ (by rw [kF];exact w)];rfl)<|Up (m':=t.basic.length-(i+1)) om_ K (hn_ [0,1,5,6,43,44,45] Z) ⟨i+1,om_,Z,Z,Z⟩
  have w:p.n<=t.bas i:=by simpa using H
  rw [IY e w];refine Uf fun R a=>Ul _ U7<|C4 1 [0,1,5,6,43,44,45] a Z<|Up (m':=t.basic.length-(i+1)) om_ K (hn_ [0,1,5,6,43,44,45] Z) ⟨i+1,om_,Z,Z,Z⟩
 have e:i=t.basic.length:=by
  have:=Qm E;rw [aw] at this;omega
 refine Ua 2 [4] Z<|Un (UR Z Z ?_);exact ⟨g,Z,by rw [e,Mq x]⟩
theorem wx {y:Lp.Line}(a:s<l.f.length):kI l.f y.f s (l.f.getD s 0) l.f.length=(Lp.putL l s y).f/\l.c+l.f.getD s 0*y.c=(Lp.putL l s y).c:=by
 have h:=FF (c:=l.c) (bc:=y.c) (bf:=y.f) a;exact ⟨(congrArg Lp.Line.f h).symm,(congrArg Lp.Line.c h).symm⟩
theorem Jd (C:Mem)(k:Tabs C)(b m e i n s:Nat)(w d:Value)(a:List (Rat × Value))(l y:Lp.Line)(o:a.length=m)(p:a[i]?=some (l.c,w))(g:l.f.length=n)(q:y.f.length=n)(r:s<n)(h:QB 40 l.c/\∀ x∈l.f,QB 40 x)(j:QB 40 y.c/\∀ x∈y.f,QB 40 x) :
  Jog.Fn cx.P 237 [.pointer (some ⟨b,i*2,none⟩),.int .i64 s,.agg ⟨[ah (qtx y.c),d]⟩] C [.arr d 56 1 n (y.f.map aY).flatten,.arr (.slice (some ⟨b,0,none⟩) m e) 209 2 m (a.map bE).flatten,.arr w 56 1 n (l.f.map aY).flatten]
   fun u _ t=>u=.tuple #[]/\t=[.arr d 56 1 n (y.f.map aY).flatten,.arr (.slice (some ⟨b,0,none⟩) m e) 209 2 m ((a.set i ((Lp.putL l s y).c,w)).map bE).flatten,.arr w 56 1 n ((Lp.putL l s y).f.map aY).flatten]:=by
 obtain ⟨h1,h2⟩:=wx (l:=l) (y:=y) (s:=s) om_;rw [<- h1,<- h2,g];exact Je C k b m e i n s w d a l.f y.f l.c y.c o p g q r h.1 h.2 j.1 j.2
theorem Jb (C:Mem)(m:Tabs C)(a n s:Nat)(d e g h w b:Value)(l y:Lp.Line)(i:l.f.length=n)(o:y.f.length=n)(p:s<n)(j:QB 40 l.c/\∀ x∈l.f,QB 40 x)(k:QB 40 y.c/\∀ x∈y.f,QB 40 x) :
  Jog.Fn cx.P 237 [.pointer (some ⟨a,4,none⟩),.int .i64 s,.agg ⟨[ah (qtx y.c),b]⟩] C [.arr b 56 1 n (y.f.map aY).flatten,.obj a (.cells ⟨[d,e,g,h,ah (qtx l.c),w]⟩ 212 (0,0)),.arr w 56 1 n (l.f.map aY).flatten]
   fun u _ q=>u=.tuple #[]/\q=[.arr b 56 1 n (y.f.map aY).flatten,.obj a (.cells ⟨[d,e,g,h,ah (qtx (Lp.putL l s y).c),w]⟩ 212 (0,0)),.arr w 56 1 n ((Lp.putL l s y).f.map aY).flatten]:=by
 obtain ⟨h1,h2⟩:=wx (l:=l) (y:=y) (s:=s) om_;rw [<- h1,<- h2,i];exact Jc C m a n s d e g h w b l.f y.f l.c y.c i o p j.1 j.2 k.1 k.2
def byF (l:Lp.Line)(s j:Nat):List Rat:=(List.range l.f.length).map fun q=>if q<j then (Lp.byL l s).g q else 0
theorem kU :(byF l s j).length=l.f.length:=by simp [byF]
theorem B8 {q:Nat}(h:q<l.f.length):(byF l s j)[q]?=some (if q<j then (Lp.byL l s).g q else 0):=by
 unfold byF;rw [Ql,QY h];rfl
theorem KE :List.replicate l.f.length 0=byF l s 0:=by
 refine List.ext_getElem? fun v=>?_;by_cases a:v<l.f.length
 ·rw [B8 a,R4,aH a,aA (Nat.not_lt_zero _)]
 rw [Qr ap,Qr (by rw [kU];omega)]
theorem NP (h:j<l.f.length):(byF l s j).set j (-(if j=s then -1 else l.g j) / l.g s)=byF l s (j+1):=by
 refine List.ext_getElem? fun q=>?_;rw [List.getElem?_set,kU];by_cases a:q<l.f.length
 ·rw [B8 a,B8 a];by_cases e:j=q
  ·subst e;rw [aH rfl,aH a,aH (Nat.lt_succ_self j),Lp.byL_g a];congr 1;split <;> grind
  rw [aA e];by_cases h1:q<j
  ·rw [aH h1,aH om_]
  rw [aA h1,aA om_]
 rw [aA om_,Qr (by rw [kU];omega),Qr (by rw [kU];omega)]
theorem vh :(Lp.byL l s).f.length=l.f.length:=by simp [Lp.byL]
theorem NQ :byF l s l.f.length=(Lp.byL l s).f:=by
 refine List.ext_getElem? fun q=>?_;by_cases a:q<l.f.length
 ·rw [B8 a,aH a];unfold Lp.Line.g;rw [al,ak (by rw [vh];exact a)];rfl
 rw [Qr (by rw [kU];omega),Qr (by rw [vh];omega)]
def stL (t:Lp.Tab)(r s i q:Nat):Lp.Line:=if q<i/\q≠r then Lp.putL (t.line q) s (Lp.byL (t.line r) s) else t.line q
def stV (t:Lp.Tab)(wF:Nat->Value)(r s i:Nat):List (Rat × Value):=(List.range t.basic.length).map fun q=>((stL t r s i q).c,wF q)
def stE (t:Lp.Tab)(wF:Nat->Value)(r s i q:Nat):Ent:=.arr (wF q) 56 1 t.others.length ((stL t r s i q).f.map aY).flatten
theorem iQ :(stV t wF r s i).length=t.basic.length:=by simp [stV]
theorem Av {q:Nat}(h:q<t.basic.length):(stV t wF r s i)[q]?=some ((stL t r s i q).c,wF q):=by
 unfold stV;rw [Ql,QY h];rfl
theorem tH {q:Nat}:stL t r s 0 q=t.line q:=aA fun h=>Nat.not_lt_zero _ h.1
theorem oN {q:Nat}(h:q≠i):stL t r s (i+1) q=stL t r s i q:=by
 unfold stL;by_cases h1:q<i/\q≠r
 ·rw [aH h1,aH ⟨by omega,h1.2⟩]
 rw [aA h1,aA fun h2=>h1 ⟨by omega,h2.2⟩]
theorem nP (h:i≠r):stL t r s i i=t.line i/\stL t r s (i+1) i=Lp.putL (t.line i) s (Lp.byL (t.line r) s) :=
 ⟨aA fun h2=>Nat.lt_irrefl _ h2.1,aH ⟨Nat.lt_succ_self _,h⟩⟩
theorem AC {q:Nat}:stL t r s (r+1) q=stL t r s r q:=by
 by_cases h:q=r
 ·subst h;unfold stL;rw [aA fun h=>h.2 rfl,aA fun h=>h.2 rfl]
 exact oN h
theorem Me (b:i<t.basic.length)(h:i≠r):(stV t wF r s i).set i ((Lp.putL (t.line i) s (Lp.byL (t.line r) s)).c,wF i)=stV t wF r s (i+1):=by
 refine List.ext_getElem? fun q=>?_;rw [List.getElem?_set,iQ];by_cases a:q<t.basic.length
 ·rw [Av a,Av a];by_cases e:i=q
  ·subst e;rw [aH rfl,aH a,(nP h).2]
  rw [aA e,oN (Ne.symm e)]
 rw [aA om_,Qr (by rw [iQ];omega),Qr (by rw [iQ];omega)]
theorem IB :stV t wF r s (r+1)=stV t wF r s r:=by
 unfold stV;simp only [AC]
theorem Iz :stV t wF r s 0=cQ t wF:=by
 unfold stV cQ;simp only [tH]
theorem Mf (d:t.Ok N)(f:r<t.basic.length):(stV t wF r s t.basic.length).set r ((Lp.byL (t.line r) s).c,wy)=cQ (t.pivot r s) fun q=>if q=r then wy else wF q:=by
 have b:(t.pivot r s).basic.length=t.basic.length:=Ra;refine List.ext_getElem? fun q=>?_;rw [List.getElem?_set,iQ];by_cases a:q<t.basic.length
 ·rw [Av a,nR (by rw [b];exact a),Lp.pivot_line (by rw [d.ll];exact a)];by_cases e:r=q
  ·subst e;rw [aH rfl,aH a,aH rfl,aH rfl]
  rw [aA e,aA (Ne.symm e),aA (Ne.symm e)];unfold stL;rw [aH ⟨a,Ne.symm e⟩]
 rw [aA om_,Qr (by rw [iQ];omega),Qr (by rw [fH,b];omega)]
theorem range_nd :(List.range m).Nodup:=List.nodup_range
theorem Mg (b:t.Ok N)(c:r<t.basic.length) :
  (.arr wy 56 1 t.others.length ((Lp.byL (t.line r) s).f.map aY).flatten::((List.range t.basic.length).erase r).map (stE t wF r s t.basic.length)).Perm (((List.range (t.pivot r s).basic.length).map (K7 (t.pivot r s) fun q=>if q=r then wy else wF q)).map Lent.ent):=by
 have g:(t.pivot r s).basic.length=t.basic.length:=Ra;have d:(t.pivot r s).others.length=t.others.length:=Ra;rw [g,Q6];have h0:(Lent.ent ∘ K7 (t.pivot r s) fun q=>if q=r then wy else wF q) r=.arr wy 56 1 t.others.length ((Lp.byL (t.line r) s).f.map aY).flatten:=by
  show Ent.arr (if r=r then wy else wF r) _ 1 (t.pivot r s).others.length _=_;rw [aH rfl,d,Lp.pivot_line (by rw [b.ll];exact c),aH rfl]
 have h1:=lN range_nd (QA.2 c) (Lent.ent ∘ K7 (t.pivot r s) fun q=>if q=r then wy else wF q) (stE t wF r s t.basic.length) (fun q h a=>by
  have e:=QA.1 h;show Ent.arr (if q=r then wy else wF q) _ 1 (t.pivot r s).others.length _=_;rw [aA a,d,Lp.pivot_line (by rw [b.ll];exact e),aA a];unfold stE stL;rw [aH ⟨e,a⟩])
 rw [h0] at h1;exact h1.symm
theorem Md (a:t.Ok N)(d:r<t.basic.length) :
  (([.obj b (.cells ⟨[.int .i64 n,wB,wL,wO,ah (qtx (Lp.putL t.worth s (Lp.byL (t.line r) s)).c),wW]⟩ 212 (0,0)),.arr wB 3 1 t.basic.length ((t.basic.set r (t.oth s)).map aO).flatten,.arr wL 209 2 t.basic.length (((stV t wF r s t.basic.length).set r ((Lp.byL (t.line r) s).c,wy)).map bE).flatten,.arr wO 3 1 t.others.length ((t.others.set s (t.bas r)).map aO).flatten,.arr wW 56 1 t.others.length (((Lp.putL t.worth s (Lp.byL (t.line r) s)).f).map aY).flatten]:List Ent)++(.arr wy 56 1 t.others.length ((Lp.byL (t.line r) s).f.map aY).flatten::((List.range t.basic.length).erase r).map (stE t wF r s t.basic.length))).Perm ((fe b n (t.pivot r s) wB wL wO wW fun q=>if q=r then wy else wF q).map Lent.ent):=by
 have e:(t.pivot r s).basic.length=t.basic.length:=Ra;have g:(t.pivot r s).others.length=t.others.length:=Ra;rw [Mf a d];refine (List.Perm.append_left _ (Mg a d)).trans (List.Perm.of_eq ?_);unfold fe;simp only [QU,Lent.ent,e,g];rfl
theorem yw {l:List Nat}(h:i<l.length):l[i]?=some (l.getD i 0):=by
 rw [al,ak h];rfl
theorem bh (r s:Nat):(fe b n t wB wL wO wW wF).map Lent.ent=[.obj b (.cells ⟨[.int .i64 n,wB,wL,wO,ah (qtx t.worth.c),wW]⟩ 212 (0,0)),.arr wB 3 1 t.basic.length ((t.basic).map aO).flatten,.arr wL 209 2 t.basic.length ((cQ t wF).map bE).flatten,.arr wO 3 1 t.others.length ((t.others).map aO).flatten,.arr wW 56 1 t.others.length ((t.worth.f).map aY).flatten]++(List.range t.basic.length).map (stE t wF r s 0):=by
 have e:stE t wF r s 0=Lent.ent ∘ K7 t wF:=funext fun q=>by
  unfold stE;rw [tH];rfl
 rw [e,<- Q6];rfl
def LineQ (k:Nat)(l:Lp.Line):Prop:=QB k l.c/\∀ x∈l.f,QB k x
theorem LineQ.le {k m:Nat}{l:Lp.Line}(h:LineQ k l)(a:k<=m):LineQ m l:=⟨h.1.le a,fun x b=>(h.2 x b).le a⟩
theorem LineQ.g {k:Nat}{l:Lp.Line}(h:LineQ k l){j:Nat}(a:j<l.f.length):QB k (l.g j):=by
 unfold Lp.Line.g;rw [al,ak a];exact h.2 _ (Rf _)
theorem Qc (h:LineQ 16 l)(c:s<l.f.length)(a:l.g s≠0):LineQ 32 (Lp.byL l s):=by
 have b:=h.g c;refine ⟨jr (fa h.1) b a,fun x d=>?_⟩;obtain ⟨q,e,rfl⟩:=Qt.1 d;have i:=QA.1 e;split
 ·exact jr ⟨by decide,by decide⟩ b a
 exact jr (fa (h.g i)) b a
theorem ue (C:Mem)(Q:Tabs C)(b n r s N:Nat)(t:Lp.Tab)(S T U d:Value)(a:Nat->Value)(V:t.Ok N)(hm:t.basic.length<=1000000)(aP:t.others.length<=1000000)(B:r<t.basic.length)(W:s<t.others.length)(hk:(t.line r).g s≠0)(hq:∀ i,i<t.basic.length->LineQ 16 (t.line i))(az:LineQ 16 t.worth) :
  Jog.Fn cx.P 179 [.pointer (some ⟨b,0,none⟩),.int .i64 r,.int .i64 s] C ((fe b n t S T U d a).map Lent.ent) fun u _ A=>u=.tuple #[]/\∃ aB,A=(fe b n (t.pivot r s) S T U d aB).map Lent.ent:=by
 have aQ:maxLen<=9223372036854775807:=by simp [maxLen]
 have X:=ib V B;have aC:=V.wl;have J:=hq r B;have ag:s<(t.line r).f.length:=by omega
 have aq:=J.g ag;have ar:=Qc J ag hk;refine Uk func179 123 U3 fun w0=>?_;rw [bh r s];refine Ut (L':=[.obj b (.cells ⟨[.int .i64 n,S,T,U,ah (qtx t.worth.c),d]⟩ 212 (0,0)),.arr S 3 1 t.basic.length ((t.basic).map aO).flatten,.arr T 209 2 t.basic.length ((cQ t a).map bE).flatten,.arr U 3 1 t.others.length ((t.others).map aO).flatten,.arr d 56 1 t.others.length ((t.worth.f).map aY).flatten]++(List.range t.basic.length).map (stE t a r s 0)) Z<|VS 1 Z om_ (fun o p K=>?_);subst K;refine VS 2 Z om_ (fun k l K=>?_);subst K;refine VS 3 Z om_ (fun w x K=>?_);subst K;refine G.perm (L':=[.arr (a r) 56 1 t.others.length ((t.line r).f.map aY).flatten,.obj b (.cells ⟨[.int .i64 n,.slice (some ⟨o,0,none⟩) t.basic.length p,.slice (some ⟨k,0,none⟩) t.basic.length l,.slice (some ⟨w,0,none⟩) t.others.length x,ah (qtx t.worth.c),d]⟩ 212 (0,0)),.arr (.slice (some ⟨o,0,none⟩) t.basic.length p) 3 1 t.basic.length ((t.basic).map aO).flatten,.arr (.slice (some ⟨k,0,none⟩) t.basic.length l) 209 2 t.basic.length ((cQ t a).map bE).flatten,.arr (.slice (some ⟨w,0,none⟩) t.others.length x) 3 1 t.others.length ((t.others).map aO).flatten,.arr d 56 1 t.others.length ((t.worth.f).map aY).flatten]++((List.range t.basic.length).erase r).map (stE t a r s 0)) (by
  have h1:=lN range_nd (QA.2 B) (stE t a r s 0) (stE t a r s 0) (fun _ _ _=>rfl);refine (List.Perm.append_left _ h1).trans ?_;have e:stE t a r s 0 r=.arr (a r) 56 1 t.others.length ((t.line r).f.map aY).flatten:=by unfold stE;rw [tH]
  rw [e]
  (exact pkL [5] rfl)) ?_
 refine G.freezeArr 0 ((t.line r).f.map aY) Z Z dY (by simp [X]) (fun _ _ L=>?_);obtain ⟨Y,c3,au,aD,aR,_⟩:=id L;rw [au] at L;simp only [aw] at L aD;have aE:(cQ t a)[r]?=some ((t.line r).c,.slice Y (t.line r).f.length c3):=by rw [nR B,au,aw]
 refine Ub 3 Z fun R y=>Uj af U9<|Ue U6<|UI (r*2) U10 ai U2<|UX (v:=.agg ⟨[ah (qtx (t.line r).c),.slice Y (t.line r).f.length c3]⟩) ac U6 (fun _=>(by rw [nX aE];rfl)) U2<|Uv U5 fun b6=>Um (j:=0) U12<|Ug [0,1,2,6] y Z<|G.freeze 0 Z fun _ _ aj=>Ub 1 Z fun R y=>Uc (bkT aj 1) U8<|Ue U6<|Us L.m_ U10 om_ (dI ag) fl_ fun aS aF=>Uc aF U8<|C4 1 [0,1,2,6,7] y Z<|UB [(5,3)] Z fun R y=>Uh 3 Z<|Uj af U9<|Ue U6<|D.call (iW _ t.others.length om_) Z (.inr dc_) U6 (Qo _) fl_ (fun aT _ aU _ aG=>?_);obtain ⟨z,rfl,rfl⟩:=aG;refine Uu [ah [],.slice (some ⟨z,0,none⟩) t.others.length t.others.length] U8<|Uv U5 fun E=>Um (j:=0) U12<|Ug [0,1,2,6,7,8] y Z<|Ub 1 Z fun R y=>Uc (bkT aj 1) U8<|Ur (eN _ (t.line r).c (QE (bK J.1 dc_) dc_)) U7 fl_<|Ue U6<|Ur (gT _ Q.m_ (-(t.line r).c) ((t.line r).g s) 16 dc_ dc_ (fa J.1) aq hk) U7 fl_<|Uh 4 Z<|Um (j:=0) U12<|Ug [0,1,2,6,7,8] y Z<|Ub 1 Z fun R y=>Uc (bkT aj 1) U8<|C4 2 [0,1,2,7,8,41,42,43] y Z<|Ut (L':=[.obj E (.cells ⟨[ah (qtx (Lp.byL (t.line r) s).c),.slice (some ⟨z,0,none⟩) t.others.length t.others.length]⟩ 209 (0,0)),.arr (.slice (some ⟨z,0,none⟩) t.others.length t.others.length) 56 1 t.others.length ((byF (t.line r) s 0).map aY).flatten,.obj b (.cells ⟨[.int .i64 n,.slice (some ⟨o,0,none⟩) t.basic.length p,.slice (some ⟨k,0,none⟩) t.basic.length l,.slice (some ⟨w,0,none⟩) t.others.length x,ah (qtx t.worth.c),d]⟩ 212 (0,0)),.arr (.slice (some ⟨o,0,none⟩) t.basic.length p) 3 1 t.basic.length ((t.basic).map aO).flatten,.arr (.slice (some ⟨k,0,none⟩) t.basic.length l) 209 2 t.basic.length ((cQ t a).map bE).flatten,.arr (.slice (some ⟨w,0,none⟩) t.others.length x) 3 1 t.others.length ((t.others).map aO).flatten,.arr d 56 1 t.others.length ((t.worth.f).map aY).flatten]++((List.range t.basic.length).erase r).map (stE t a r s 0)) (by rw [<- KE,X,<- tS];rfl)<|G.loop (fun fr C' A M=>∃ (j:Nat),(j<=(t.line r).f.length)/\fr=[(0,[],.pointer (some ⟨b,0,none⟩)),(1,[],.int .i64 r),(2,[],.int .i64 s),(7,[],ah (qtx ((t.line r).g s))),(8,[],.pointer (some ⟨E,0,none⟩)),(41,[],.slice Y (t.line r).f.length c3),(42,[],.int .i64 (t.line r).f.length),(43,[],.int .i64 j)]/\A=[.obj E (.cells ⟨[ah (qtx (Lp.byL (t.line r) s).c),.slice (some ⟨z,0,none⟩) t.others.length t.others.length]⟩ 209 (0,0)),.arr (.slice (some ⟨z,0,none⟩) t.others.length t.others.length) 56 1 t.others.length ((byF (t.line r) s j).map aY).flatten,.obj b (.cells ⟨[.int .i64 n,.slice (some ⟨o,0,none⟩) t.basic.length p,.slice (some ⟨k,0,none⟩) t.basic.length l,.slice (some ⟨w,0,none⟩) t.others.length x,ah (qtx t.worth.c),d]⟩ 212 (0,0)),.arr (.slice (some ⟨o,0,none⟩) t.basic.length p) 3 1 t.basic.length ((t.basic).map aO).flatten,.arr (.slice (some ⟨k,0,none⟩) t.basic.length l) 209 2 t.basic.length ((cQ t a).map bE).flatten,.arr (.slice (some ⟨w,0,none⟩) t.others.length x) 3 1 t.others.length ((t.others).map aO).flatten,.arr d 56 1 t.others.length ((t.worth.f).map aY).flatten]++((List.range t.basic.length).erase r).map (stE t a r s 0)/\M=(t.line r).f.length-j) (hn_ [0,1,2,7,8,41,42,43] Z) ⟨0,Qn _,Z,Z,Z⟩ (fun fr aW aX m _ O=>?_);obtain ⟨j,hj,rfl,rfl,rfl⟩:=O;refine Ua 1 [0,1,2,7,8,41,42,43,44] Z<|Ud (fun ak=>?_) fun ak=>?_
 ·have I:j<(t.line r).f.length:=by
   have:=aV ak;omega
  have av:QB 16 (if j=s then (-1:Rat) else (t.line r).g j):=by
   split
   ·exact ⟨by decide,by decide⟩
   exact J.g I
  refine Ub 1 Z fun R y=>Us L.m_ U10 om_ (show ((t.line r).f.map aY)[j]?=some (aY ((t.line r).g j)) from dI I) fl_ fun aZ aI=>Uc aI U8<|C4 2 [0,1,2,7,8,9,10,41,42,43] y Z<|Ua 3 [0,1,2,7,8,9,10,41,42,43,50] Z<|G.cut (fun fr C' A M=>(True)/\fr=[(0,[],.pointer (some ⟨b,0,none⟩)),(1,[],.int .i64 r),(2,[],.int .i64 s),(7,[],ah (qtx ((t.line r).g s))),(8,[],.pointer (some ⟨E,0,none⟩)),(9,[],.int .i64 j),(10,[],ah (qtx (if j=s then (-1:Rat) else (t.line r).g j))),(41,[],.slice Y (t.line r).f.length c3),(42,[],.int .i64 (t.line r).f.length),(43,[],.int .i64 j)]/\A=[.obj E (.cells ⟨[ah (qtx (Lp.byL (t.line r) s).c),.slice (some ⟨z,0,none⟩) t.others.length t.others.length]⟩ 209 (0,0)),.arr (.slice (some ⟨z,0,none⟩) t.others.length t.others.length) 56 1 t.others.length ((byF (t.line r) s j).map aY).flatten,.obj b (.cells ⟨[.int .i64 n,.slice (some ⟨o,0,none⟩) t.basic.length p,.slice (some ⟨k,0,none⟩) t.basic.length l,.slice (some ⟨w,0,none⟩) t.others.length x,ah (qtx t.worth.c),d]⟩ 212 (0,0)),.arr (.slice (some ⟨o,0,none⟩) t.basic.length p) 3 1 t.basic.length ((t.basic).map aO).flatten,.arr (.slice (some ⟨k,0,none⟩) t.basic.length l) 209 2 t.basic.length ((cQ t a).map bE).flatten,.arr (.slice (some ⟨w,0,none⟩) t.others.length x) 3 1 t.others.length ((t.others).map aO).flatten,.arr d 56 1 t.others.length ((t.worth.f).map aY).flatten]++((List.range t.basic.length).erase r).map (stE t a r s 0)) ?_ (fun fr _ a0 M _ O=>?_)
  ·refine Ud (fun al=>?_) fun al=>?_
   ·have am:j=s:=by
     have ab:((j:Int) == (s:Int))=true:=al;have:=eq_of_beq ab;omega
    refine Ua 1 [0,1,2,7,8,9,10,41,42,43] Z<|Uq 0 (Mem.le.refl _) (hn_ [0,1,2,7,8,9,10,41,42,43] Z) ⟨trivial,by rw [aH am,OH];rfl,Z⟩
   have am:¬ j=s:=by
    have ab:((j:Int) == (s:Int))=false:=al;intro h;rw [h] at ab;simp at ab
   refine Uq 0 (Mem.le.refl _) (hn_ [0,1,2,7,8,9,10,41,42,43] Z) ⟨trivial,by rw [aA am],Z⟩
  obtain ⟨a1,rfl,rfl⟩:=O;refine Uy [0,1,2,3,4,5,6,7,8,9,10,11] [(4,1),(6,1)] Z kr_ fun R hB y=>Ue U6<|Uj af U9<|Uh 2 Z<|Uz (fun _=>(eN _ (if j=s then (-1:Rat) else (t.line r).g j) (QE (bK av dc_) dc_))) U9<|Ue U6<|Uz (fun _=>(gT _ Q.m_ (-(if j=s then (-1:Rat) else (t.line r).g j)) ((t.line r).g s) 16 dc_ dc_ (fa av) aq hk)) U9<|Uh 3 Z<|UI (j*1) U10 ai U2<|UK (j:=1) U11 (by show j*1+1<=_;rw [bR bM,kU];omega)<|Ug [0,1,2,7,8,41,42,43] y Z<|Uf fun R y=>Ul _ U7<|C4 1 [0,1,2,7,8,41,42,43] y Z<|G.perm (L':=[.obj E (.cells ⟨[ah (qtx (Lp.byL (t.line r) s).c),.slice (some ⟨z,0,none⟩) t.others.length t.others.length]⟩ 209 (0,0)),.arr (.slice (some ⟨z,0,none⟩) t.others.length t.others.length) 56 1 t.others.length ((byF (t.line r) s (j+1)).map aY).flatten,.obj b (.cells ⟨[.int .i64 n,.slice (some ⟨o,0,none⟩) t.basic.length p,.slice (some ⟨k,0,none⟩) t.basic.length l,.slice (some ⟨w,0,none⟩) t.others.length x,ah (qtx t.worth.c),d]⟩ 212 (0,0)),.arr (.slice (some ⟨o,0,none⟩) t.basic.length p) 3 1 t.basic.length ((t.basic).map aO).flatten,.arr (.slice (some ⟨k,0,none⟩) t.basic.length l) 209 2 t.basic.length ((cQ t a).map bE).flatten,.arr (.slice (some ⟨w,0,none⟩) t.others.length x) 3 1 t.others.length ((t.others).map aO).flatten,.arr d 56 1 t.others.length ((t.worth.f).map aY).flatten]++((List.range t.basic.length).erase r).map (stE t a r s 0)) (by rw [<- NP I,<- bO bM _ (by rw [kU];exact I)];exact List.Perm.swap _ _ _)<|Up (m':=(t.line r).f.length-(j+1)) om_ mup (hn_ [0,1,2,7,8,41,42,43] Z) ⟨j+1,om_,Z,Z,Z⟩
 have I:j=(t.line r).f.length:=by
  have:=Qm ak;omega
 rw [I,NQ];refine G.freeze 0 Z fun _ _ an=>Ub 3 Z fun R y=>Uj ae U9<|C4 2 [0,1,2,8,67,68] y Z<|G.perm (L':=[.arr (.slice (some ⟨z,0,none⟩) t.others.length t.others.length) 56 1 t.others.length (((Lp.byL (t.line r) s).f).map aY).flatten,.arr (.slice (some ⟨k,0,none⟩) t.basic.length l) 209 2 t.basic.length ((stV t a r s 0).map bE).flatten,.obj b (.cells ⟨[.int .i64 n,.slice (some ⟨o,0,none⟩) t.basic.length p,.slice (some ⟨k,0,none⟩) t.basic.length l,.slice (some ⟨w,0,none⟩) t.others.length x,ah (qtx t.worth.c),d]⟩ 212 (0,0)),.arr (.slice (some ⟨o,0,none⟩) t.basic.length p) 3 1 t.basic.length ((t.basic).map aO).flatten,.arr (.slice (some ⟨w,0,none⟩) t.others.length x) 3 1 t.others.length ((t.others).map aO).flatten,.arr d 56 1 t.others.length ((t.worth.f).map aY).flatten]++((List.range t.basic.length).erase r).map (stE t a r s 0)) (by rw [Iz];(exact pkL [0,2] Z))<|G.loop (fun fr C' A M=>∃ (i:Nat),(i<=t.basic.length)/\fr=[(0,[],.pointer (some ⟨b,0,none⟩)),(1,[],.int .i64 r),(2,[],.int .i64 s),(8,[],.pointer (some ⟨E,0,none⟩)),(67,[],.int .i64 t.basic.length),(68,[],.int .i64 i)]/\A=[.arr (.slice (some ⟨z,0,none⟩) t.others.length t.others.length) 56 1 t.others.length (((Lp.byL (t.line r) s).f).map aY).flatten,.arr (.slice (some ⟨k,0,none⟩) t.basic.length l) 209 2 t.basic.length ((stV t a r s i).map bE).flatten,.obj b (.cells ⟨[.int .i64 n,.slice (some ⟨o,0,none⟩) t.basic.length p,.slice (some ⟨k,0,none⟩) t.basic.length l,.slice (some ⟨w,0,none⟩) t.others.length x,ah (qtx t.worth.c),d]⟩ 212 (0,0)),.arr (.slice (some ⟨o,0,none⟩) t.basic.length p) 3 1 t.basic.length ((t.basic).map aO).flatten,.arr (.slice (some ⟨w,0,none⟩) t.others.length x) 3 1 t.others.length ((t.others).map aO).flatten,.arr d 56 1 t.others.length ((t.worth.f).map aY).flatten]++((List.range t.basic.length).erase r).map (stE t a r s i)/\M=t.basic.length-i) (hn_ [0,1,2,8,67,68] Z) ⟨0,Qn _,Z,Z,Z⟩ (fun fr a2 a3 m _ O=>?_);obtain ⟨i,hi,rfl,rfl,rfl⟩:=O;refine Ua 1 [0,1,2,8,67,68,69] Z<|Ud (fun ao=>?_) fun ao=>?_
 ·have F:i<t.basic.length:=by
   have:=aV ao;omega
  refine Ua 2 [0,1,2,8,11,67,68] Z<|Ua 3 [0,1,2,8,11,67,68,73] Z<|Ud (fun ap=>?_) fun ap=>?_
  ·have H:i≠r:=by
    have ad:(!((i:Int) == (r:Int)))=true:=ap;intro h;rw [h] at ad;simp at ad
   have ax:i∈(List.range t.basic.length).erase r:=(List.Nodup.mem_erase_iff range_nd).2 ⟨H,QA.2 F⟩;have ay:=lN (range_nd.erase r) ax (stE t a r s i) (stE t a r s (i+1)) (fun q _ aJ=>by unfold stE;rw [oN aJ]);have he:stE t a r s i i=.arr (a i) 56 1 t.others.length ((t.line i).f.map aY).flatten:=by unfold stE;rw [(nP H).1]
   have aK:stE t a r s (i+1) i=.arr (a i) 56 1 t.others.length ((Lp.putL (t.line i) s (Lp.byL (t.line r) s)).f.map aY).flatten:=by unfold stE;rw [(nP H).2]
   have aL:(stV t a r s i)[i]?=some ((t.line i).c,a i):=by rw [Av F,(nP H).1]
   rw [he] at ay;refine G.perm (L':=[.arr (.slice (some ⟨z,0,none⟩) t.others.length t.others.length) 56 1 t.others.length (((Lp.byL (t.line r) s).f).map aY).flatten,.arr (.slice (some ⟨k,0,none⟩) t.basic.length l) 209 2 t.basic.length ((stV t a r s i).map bE).flatten,.arr (a i) 56 1 t.others.length ((t.line i).f.map aY).flatten,.obj b (.cells ⟨[.int .i64 n,.slice (some ⟨o,0,none⟩) t.basic.length p,.slice (some ⟨k,0,none⟩) t.basic.length l,.slice (some ⟨w,0,none⟩) t.others.length x,ah (qtx t.worth.c),d]⟩ 212 (0,0)),.arr (.slice (some ⟨o,0,none⟩) t.basic.length p) 3 1 t.basic.length ((t.basic).map aO).flatten,.arr (.slice (some ⟨w,0,none⟩) t.others.length x) 3 1 t.others.length ((t.others).map aO).flatten,.arr d 56 1 t.others.length ((t.worth.f).map aY).flatten]++(((List.range t.basic.length).erase r).erase i).map (stE t a r s (i+1))) ((List.Perm.append_left _ ay).trans (pkL [0,0,4] Z))<|Uy [0,1,2,3,4,5,6,7,8] [(8,3)] Z kr_ fun R hB y=>Uh 3 Z<|Uj aa U9<|Ue U6<|UI (i*2) U10 ai U2<|Ue U6<|Uc (bkT an 2) U8<|D.call (Jd _ Q.m_ k t.basic.length l i t.others.length s (a i) (.slice (some ⟨z,0,none⟩) t.others.length t.others.length) (stV t a r s i) (t.line i) (Lp.byL (t.line r) s) iQ aL (ib V F) (by rw [vh];exact X) W ((hq i F).le dc_) (ar.le dc_)) Z (.inr dc_) U6 (pkL [0,0,0] Z) fl_ fun a4 _ a5 _ aM=>Ug [0,1,2,8,67,68] y Z ?_;obtain ⟨-,rfl⟩:=aM;refine G.perm (L':=[.arr (.slice (some ⟨z,0,none⟩) t.others.length t.others.length) 56 1 t.others.length (((Lp.byL (t.line r) s).f).map aY).flatten,.arr (.slice (some ⟨k,0,none⟩) t.basic.length l) 209 2 t.basic.length ((stV t a r s (i+1)).map bE).flatten,.obj b (.cells ⟨[.int .i64 n,.slice (some ⟨o,0,none⟩) t.basic.length p,.slice (some ⟨k,0,none⟩) t.basic.length l,.slice (some ⟨w,0,none⟩) t.others.length x,ah (qtx t.worth.c),d]⟩ 212 (0,0)),.arr (.slice (some ⟨o,0,none⟩) t.basic.length p) 3 1 t.basic.length ((t.basic).map aO).flatten,.arr (.slice (some ⟨w,0,none⟩) t.others.length x) 3 1 t.others.length ((t.others).map aO).flatten,.arr d 56 1 t.others.length ((t.worth.f).map aY).flatten]++((List.range t.basic.length).erase r).map (stE t a r s (i+1))) (by
    rw [<- Me F H];refine List.Perm.trans (l₂:=[.arr (.slice (some ⟨z,0,none⟩) t.others.length t.others.length) 56 1 t.others.length (((Lp.byL (t.line r) s).f).map aY).flatten,.arr (.slice (some ⟨k,0,none⟩) t.basic.length l) 209 2 t.basic.length (((stV t a r s i).set i ((Lp.putL (t.line i) s (Lp.byL (t.line r) s)).c,a i)).map bE).flatten,.obj b (.cells ⟨[.int .i64 n,.slice (some ⟨o,0,none⟩) t.basic.length p,.slice (some ⟨k,0,none⟩) t.basic.length l,.slice (some ⟨w,0,none⟩) t.others.length x,ah (qtx t.worth.c),d]⟩ 212 (0,0)),.arr (.slice (some ⟨o,0,none⟩) t.basic.length p) 3 1 t.basic.length ((t.basic).map aO).flatten,.arr (.slice (some ⟨w,0,none⟩) t.others.length x) 3 1 t.others.length ((t.others).map aO).flatten,.arr d 56 1 t.others.length ((t.worth.f).map aY).flatten]++(.arr (a i) 56 1 t.others.length ((Lp.putL (t.line i) s (Lp.byL (t.line r) s)).f.map aY).flatten::(((List.range t.basic.length).erase r).erase i).map (stE t a r s (i+1)))) (pkL [0,0,1,1,1,1] Z) (List.Perm.append_left _ ?_);rw [<- aK];exact (lN (range_nd.erase r) ax (stE t a r s (i+1)) (stE t a r s (i+1)) (fun _ _ _=>rfl)).symm) ?_
   refine Uf fun R y=>Ul _ U7<|C4 1 [0,1,2,8,67,68] y Z<|Up (m':=t.basic.length-(i+1)) om_ mup (hn_ [0,1,2,8,67,68] Z) ⟨i+1,om_,Z,Z,Z⟩
  have H:i=r:=by
   have ad:(!((i:Int) == (r:Int)))=false:=ap;simp at ad;omega
  refine Ut (L':=[.arr (.slice (some ⟨z,0,none⟩) t.others.length t.others.length) 56 1 t.others.length (((Lp.byL (t.line r) s).f).map aY).flatten,.arr (.slice (some ⟨k,0,none⟩) t.basic.length l) 209 2 t.basic.length ((stV t a r s (i+1)).map bE).flatten,.obj b (.cells ⟨[.int .i64 n,.slice (some ⟨o,0,none⟩) t.basic.length p,.slice (some ⟨k,0,none⟩) t.basic.length l,.slice (some ⟨w,0,none⟩) t.others.length x,ah (qtx t.worth.c),d]⟩ 212 (0,0)),.arr (.slice (some ⟨o,0,none⟩) t.basic.length p) 3 1 t.basic.length ((t.basic).map aO).flatten,.arr (.slice (some ⟨w,0,none⟩) t.others.length x) 3 1 t.others.length ((t.others).map aO).flatten,.arr d 56 1 t.others.length ((t.worth.f).map aY).flatten]++((List.range t.basic.length).erase r).map (stE t a r s (i+1))) (by
   have e:stE t a r s (r+1)=stE t a r s r:=funext fun q=>by unfold stE;rw [AC]
   rw [H,IB,e]) ?_
  refine Uf fun R y=>Ul _ U7<|C4 1 [0,1,2,8,67,68] y Z<|Up (m':=t.basic.length-(i+1)) om_ mup (hn_ [0,1,2,8,67,68] Z) ⟨i+1,om_,Z,Z,Z⟩
 have F:i=t.basic.length:=by
  have:=Qm ao;omega
 rw [F];refine G.perm (L':=[.arr (.slice (some ⟨z,0,none⟩) t.others.length t.others.length) 56 1 t.others.length (((Lp.byL (t.line r) s).f).map aY).flatten,.obj b (.cells ⟨[.int .i64 n,.slice (some ⟨o,0,none⟩) t.basic.length p,.slice (some ⟨k,0,none⟩) t.basic.length l,.slice (some ⟨w,0,none⟩) t.others.length x,ah (qtx t.worth.c),d]⟩ 212 (0,0)),.arr d 56 1 t.others.length ((t.worth.f).map aY).flatten,.arr (.slice (some ⟨k,0,none⟩) t.basic.length l) 209 2 t.basic.length ((stV t a r s t.basic.length).map bE).flatten,.arr (.slice (some ⟨o,0,none⟩) t.basic.length p) 3 1 t.basic.length ((t.basic).map aO).flatten,.arr (.slice (some ⟨w,0,none⟩) t.others.length x) 3 1 t.others.length ((t.others).map aO).flatten]++((List.range t.basic.length).erase r).map (stE t a r s t.basic.length)) (pkL [0,1,3,0,0,0] Z)<|Uy [0,1,2,3,4,5] [(5,3)] Z kr_ fun R hB y=>Uh 4 Z<|Uc (bkT an 2) U8<|D.call (Jb _ Q.m_ b t.others.length s (.int .i64 n) (.slice (some ⟨o,0,none⟩) t.basic.length p) (.slice (some ⟨k,0,none⟩) t.basic.length l) (.slice (some ⟨w,0,none⟩) t.others.length x) d (.slice (some ⟨z,0,none⟩) t.others.length t.others.length) t.worth (Lp.byL (t.line r) s) aC (by rw [vh];exact X) W (az.le dc_) (ar.le dc_)) Z (.inr dc_) U6 (pkL [0,0,0] Z) fl_ fun a6 _ a7 _ aN=>Ug [0,1,2,8] y Z ?_;obtain ⟨-,rfl⟩:=aN;refine G.perm (L':=[.obj b (.cells ⟨[.int .i64 n,.slice (some ⟨o,0,none⟩) t.basic.length p,.slice (some ⟨k,0,none⟩) t.basic.length l,.slice (some ⟨w,0,none⟩) t.others.length x,ah (qtx (Lp.putL t.worth s (Lp.byL (t.line r) s)).c),d]⟩ 212 (0,0)),.arr (.slice (some ⟨o,0,none⟩) t.basic.length p) 3 1 t.basic.length ((t.basic).map aO).flatten,.arr (.slice (some ⟨k,0,none⟩) t.basic.length l) 209 2 t.basic.length ((stV t a r s t.basic.length).map bE).flatten,.arr (.slice (some ⟨w,0,none⟩) t.others.length x) 3 1 t.others.length ((t.others).map aO).flatten,.arr d 56 1 t.others.length (((Lp.putL t.worth s (Lp.byL (t.line r) s)).f).map aY).flatten,.arr (.slice (some ⟨z,0,none⟩) t.others.length t.others.length) 56 1 t.others.length (((Lp.byL (t.line r) s).f).map aY).flatten]++((List.range t.basic.length).erase r).map (stE t a r s t.basic.length)) (pkL [1,3,2,2,1] Z)<|Uy [0,1,2,3,4,5,6,7] [] Z kr_ fun R hB y=>Uh 3 Z<|Uj af U9<|Ue U6<|Uc (bkT an 2) U8<|UI (r*2) U10 ai U2<|UK (j:=2) U11 (by show r*2+2<=_;rw [bR gG,iQ];omega)<|Ug [0,1,2] y Z<|Ut (L':=[.arr (.slice (some ⟨k,0,none⟩) t.basic.length l) 209 2 t.basic.length (((stV t a r s t.basic.length).set r ((Lp.byL (t.line r) s).c,.slice (some ⟨z,0,none⟩) t.others.length t.others.length)).map bE).flatten,.obj b (.cells ⟨[.int .i64 n,.slice (some ⟨o,0,none⟩) t.basic.length p,.slice (some ⟨k,0,none⟩) t.basic.length l,.slice (some ⟨w,0,none⟩) t.others.length x,ah (qtx (Lp.putL t.worth s (Lp.byL (t.line r) s)).c),d]⟩ 212 (0,0)),.arr (.slice (some ⟨o,0,none⟩) t.basic.length p) 3 1 t.basic.length ((t.basic).map aO).flatten,.arr (.slice (some ⟨w,0,none⟩) t.others.length x) 3 1 t.others.length ((t.others).map aO).flatten,.arr d 56 1 t.others.length (((Lp.putL t.worth s (Lp.byL (t.line r) s)).f).map aY).flatten,.arr (.slice (some ⟨z,0,none⟩) t.others.length t.others.length) 56 1 t.others.length (((Lp.byL (t.line r) s).f).map aY).flatten]++((List.range t.basic.length).erase r).map (stE t a r s t.basic.length)) (by rw [<- bO gG _ (by rw [iQ];exact B)];rfl)<|Uy [0,1,2,3,4,5,6,7,8,9,10,11,12,13,14,15,16,17,18,19,20,21,22,23,24,25,26,27] [] Z kr_ fun R hB y=>Uh 3 Z<|Uj ae U9<|Uh 4 Z<|Uj ae U9<|Uh 4 Z<|Uj ae U9<|Ue U6<|UI (s*1) U10 ai U2<|UX aa U6 (fun _=>(by rw [eE fx (show t.others[s]?=some (t.oth s) from yw W)];rfl)) U2<|Uh 3 Z<|Uj ae U9<|Ue U6<|UI (r*1) U10 ai U2<|UX ac U6 (fun _=>(by rw [eE fx (show t.basic[r]?=some (t.bas r) from yw B)];rfl)) U2<|UI (r*1) U10 ai U2<|UK (j:=2) U11 (by show r*1+1<=_;rw [bR fx];omega)<|UI (s*1) U10 ai U2<|UK (j:=3) U11 (by show s*1+1<=_;rw [bR fx];omega)<|Vf [] trivial (y _ _ _ Z ?_);refine G.perm (L':=(fe b n (t.pivot r s) (.slice (some ⟨o,0,none⟩) t.basic.length p) (.slice (some ⟨k,0,none⟩) t.basic.length l) (.slice (some ⟨w,0,none⟩) t.others.length x) d (fun q=>if q=r then (.slice (some ⟨z,0,none⟩) t.others.length t.others.length) else a q)).map Lent.ent) (by
  refine List.Perm.trans ?_ (Md V B);rw [<- bO fx _ B,<- bO fx _ W]
  (exact pkL [3,1,1,0,0,0] rfl)) ?_
 exact Vn Z<|⟨Z,_,Z⟩
theorem uu (h:Lp.Inv p cc t)(b:Lp.Lim p cc 16)(a:i<t.basic.length):LineQ 16 (t.line i):=by
 refine ⟨h.con b a,fun x c=>?_⟩;obtain ⟨s,hs,rfl⟩:=List.mem_iff_getElem.1 c;have d:=ib h.tab.ok a;have h1:=h.fac b a (s:=s) om_;unfold Lp.Line.g at h1;rw [al,ak hs] at h1;exact h1
theorem oy (h:Lp.Inv p cc t)(a:Lp.Lim p cc 16):LineQ 16 t.worth:=by
 refine ⟨h.wcon a,fun x b=>?_⟩;obtain ⟨s,hs,rfl⟩:=List.mem_iff_getElem.1 b;have c:=h.tab.ok.wl;have h1:=h.wfac a (s:=s) om_;unfold Lp.Line.g at h1;rw [al,ak hs] at h1;exact h1
theorem LineQ.g0 {k:Nat}(h:LineQ k l)(a:k<=m)(b:1<=m)(j:Nat):QB m (l.g j):=by
 unfold Lp.Line.g;rw [al];by_cases c:j<l.f.length
 ·rw [ak c];exact (h.2 _ (Rf _)).le a
 rw [Qr om_];exact Lp.qb_zero b
theorem mB {c:Nat->Prop}(h:Lp.LeastR vs q n o)(e:∀ i,i<n->(q i ↔ c i)):Lp.LeastR vs c n o:=by
 cases h with
 | none h=>exact .none fun i a b=>h i a ((e i a).2 b)
 | some i a b hm=>exact .some i a ((e i a).1 b) fun j d f=>hm j d ((e j d).2 f)
theorem ie (h:Lp.LeastR vs q n o)(a:¬ o<0):∃ i:Nat,o=i/\i<n/\q i/\∀ j,j<n->q j->vs.getD i 0<=vs.getD j 0:=by
 cases h with
 | none h=>exact absurd dc_ a
 | some i b c hm=>exact ⟨i,rfl,b,c,hm⟩
theorem ig (h:Lp.LeastR vs q n o)(a:o<0):∀ i,i<n->¬ q i:=by
 cases h with
 | none h=>exact h
 | some i b c hm=>omega
section
variable {C:Mem} {a a2 b n N:Nat} {r:Int} {t:Lp.Tab} {wB wL wO wW:Value} {wF:Nat->Value}
theorem Aj (c:t.Ok N):∀ x∈.obj a2 [.int .i64 r] 3::fe b n t wB wL wO wW wF,x.wf:=fun x a=>by
 rcases Qw.1 a with rfl | a
 ·trivial
 exact gd c x a
theorem GE (d:t.Ok N)(j:C a=some (.cells ⟨[.pointer (some ⟨b,0,none⟩)]⟩ 202 (0,0)))(k:∀ i,i<t.basic.length->LineQ 16 (t.line i)) :
  Jog.Fn cx.P 180 [wB,.func (.func 181) #[] #[.pointer (some ⟨a,0,none⟩)]] C ((.obj a2 [.int .i64 r] 3::fe b n t wB wL wO wW wF).map Lent.ent)
   fun u _ e=>(∃ o:Int,u=.int .i64 o/\Lp.LeastR t.basic (fun i=>n<=t.bas i/\(t.line i).c<0) t.basic.length o)/\e=(.obj a2 [.int .i64 r] 3::fe b n t wB wL wO wW wF).map Lent.ent:=by
 refine Vl kr_ _ (Aj d) fun C' l hs=>?_;have f:=eW d fun x m=>hs x (Qq _ m);refine (nY C' wB t.basic 181 [.pointer (some ⟨a,0,none⟩)] (fun i=>decide (n<=t.bas i) && decide ((t.line i).c<0)) f.B kr_ fun i g D h =>
  Ka D a b n i N t wB wL wO wW _ (f.mono h) d ((l.trans h) _ _ j) g ((k i g).1.le dc_)).mono ?_
 rintro u D e _ ⟨h1,o,rfl,h2⟩;exact ⟨h1,o,Z,mB h2 fun i _=>by simp⟩
theorem GD {r:Nat}(c:t.Ok N)(h:C a=some (.cells ⟨[.pointer (some ⟨b,0,none⟩)]⟩ 202 (0,0)))(j:r<t.basic.length)(k:LineQ 16 (t.line r)) :
  Jog.Fn cx.P 180 [wO,.func (.func 182) #[] #[.pointer (some ⟨a,0,none⟩),.pointer (some ⟨a2,0,none⟩)]] C ((.obj a2 [.int .i64 r] 3::fe b n t wB wL wO wW wF).map Lent.ent)
   fun u _ e=>(∃ o:Int,u=.int .i64 o/\Lp.LeastR t.others (fun i=>n<=t.oth i/\0<(t.line r).g i) t.others.length o)/\e=(.obj a2 [.int .i64 r] 3::fe b n t wB wL wO wW wF).map Lent.ent:=by
 refine Vl kr_ _ (Aj c) fun C' l hs=>?_;have f:=eW c fun x m=>hs x (Qq _ m);have h2:=hs _ (aL ..);refine (nY C' wO t.others 182 [.pointer (some ⟨a,0,none⟩),.pointer (some ⟨a2,0,none⟩)] (fun i=>decide (n<=t.oth i) && decide (0<(t.line r).g i)) f.O kr_ fun i p D d =>
  J9 D a a2 b n i r N t wB wL wO wW _ (f.mono d) c ((l.trans d) _ _ h) (d _ _ h2) j p (k.g0 dc_ dc_ i)).mono ?_
 rintro u D e _ ⟨h1,o,rfl,h2⟩;exact ⟨h1,o,Z,mB h2 fun i _=>by simp⟩
end
inductive FeasO (p:Lp.Sys) (t:Lp.Tab):Value->Prop where
 | yes:t.Feas p.n->FeasO p t (.tuple #[.int .i64 0,.bool true])
 | no (r:Nat):r<t.basic.length->p.n<=t.bas r->(t.line r).c<0->(∀ s,s<t.others.length->p.n<=t.oth s->(t.line r).g s<=0)->FeasO p t (.tuple #[.int .i64 r,.bool false])
theorem yP (C:Mem)(X:Tabs C)(p:Lp.Sys)(A:Nat->Rat)(b:Nat)(d:Lp.Tab)(e h k l:Value)(B:Nat->Value)(q:Lp.Inv p A d)(a:Lp.Rel p.n d p.n)(S:Lp.Lim p A 16)(Y:p.m<=1000000)(hn:p.n<=1000000) :
  Jog.Fn cx.P 116 [.pointer (some ⟨b,0,none⟩)] C ((fe b p.n d e h k l B).map Lent.ent) fun u _ w=>∃ t wF,Lp.Inv p A t/\Lp.Rel p.n t p.n/\FeasO p t u/\w=(fe b p.n t e h k l wF).map Lent.ent:=by
 have an:maxLen<=9223372036854775807:=by simp [maxLen]
 refine Uk func116 26 U3 fun w0=>?_;refine Uf fun R a=>?_;refine Uw U6 (fun b1=>?_);refine Uv U5 (fun v=>?_);refine C4 1 [1,2] a Z ?_;clear a R;refine G.freeze 1 Z (fun _ _ x=>?_);refine Ut (L':=[.obj v (.cells ⟨[.int .i64 0]⟩ 3 (0,0)),.obj b (.cells ⟨[.int .i64 p.n,e,h,k,ah (qtx d.worth.c),l]⟩ 212 (0,0)),.arr e 3 1 d.basic.length ((d.basic).map aO).flatten,.arr h 209 2 d.basic.length ((cQ d B).map bE).flatten,.arr k 3 1 d.others.length ((d.others).map aO).flatten,.arr l 56 1 d.others.length ((d.worth.f).map aY).flatten]++(List.range d.basic.length).map (stE d B 0 0 0)) (by rw [bh 0 0];rfl) ?_;refine G.loop (fun fr C' w μ=>∃ (t:Lp.Tab)(wF:Nat->Value)(o:Int)(E:Nat),(Lp.Inv p A t/\Lp.Rel p.n t p.n/\∀ K,Lp.Reach (Lp.FeasP p.n) t K->K<=E)/\fr=[(1,[],.pointer (some ⟨b1,0,none⟩)),(2,[],.pointer (some ⟨v,0,none⟩))]/\w=[.obj v (.cells ⟨[.int .i64 o]⟩ 3 (0,0)),.obj b (.cells ⟨[.int .i64 p.n,e,h,k,ah (qtx t.worth.c),l]⟩ 212 (0,0)),.arr e 3 1 t.basic.length ((t.basic).map aO).flatten,.arr h 209 2 t.basic.length ((cQ t wF).map bE).flatten,.arr k 3 1 t.others.length ((t.others).map aO).flatten,.arr l 56 1 t.others.length ((t.worth.f).map aY).flatten]++(List.range t.basic.length).map (stE t wF 0 0 0)/\μ=E) (hn_ [1,2] Z) ⟨d,B,0,2 ^ (p.n+p.m),⟨q,a,fun K F=>Lp.feas_len q.tab.ok F⟩,Z,Z,Z⟩ (fun fr ao ap m _ q=>?_);obtain ⟨t,wF,o,E,⟨q,a,F⟩,rfl,rfl,rfl⟩:=q;have ok:=q.tab.ok;have aa:t.basic.length<=1000000:=by rw [q.tab.lb];exact Y
 have ab:t.others.length<=1000000:=by rw [q.tab.lo];exact hn
 have H:∀ i,i<t.basic.length->LineQ 16 (t.line i):=fun i y=>uu q S y;refine UB [(5,3)] Z (fun R a=>?_);refine Uc (bkT x 1) U8 ?_;refine Uh 2 Z ?_;refine Uj ae U9 ?_;refine Ue U6 ?_;refine D.call (GE ok (Mem.get x mup) H) Z (.inr dc_) U6 (show List.Perm _ (((.obj v [.int .i64 o] 3::fe b p.n t e h k l wF).map Lent.ent)++[]) from List.Perm.of_eq (by rw [QI,QU,bh 0 0];rfl)) fl_ (fun aq _ ar _ ac=>?_);obtain ⟨⟨o1,rfl,T⟩,rfl⟩:=ac;refine Um (j:=0) U12 ?_;refine Ug [1,2] a Z ?_;clear a R;refine Ut (L':=[.obj v (.cells ⟨[.int .i64 o1]⟩ 3 (0,0)),.obj b (.cells ⟨[.int .i64 p.n,e,h,k,ah (qtx t.worth.c),l]⟩ 212 (0,0)),.arr e 3 1 t.basic.length ((t.basic).map aO).flatten,.arr h 209 2 t.basic.length ((cQ t wF).map bE).flatten,.arr k 3 1 t.others.length ((t.others).map aO).flatten,.arr l 56 1 t.others.length ((t.worth.f).map aY).flatten]++(List.range t.basic.length).map (stE t wF 0 0 0)) (by rw [QI,QU,bh 0 0];rfl) ?_;refine Uf fun R a=>?_;refine Uj af U9 ?_;refine C4 1 [1,2,12] a Z ?_;clear a R;refine Ud (fun I=>?_) fun I=>?_
 ·have J:o1<0:=aV I;have L:=ig T J;refine Uf fun R a=>?_;refine Um (j:=0) U12 ?_;refine C4 1 [2,3] a Z ?_;clear a R;refine Un (Wa 0 Z Z Z Z Z Z ?_);exact ⟨t,wF,q,a,.yes (fun i y z=>by have:=L i y;grind),by rw [bh 0 0];rfl⟩
 have J:¬ o1<0:=Qm I;obtain ⟨r,rfl,hr,⟨M,U⟩,ad⟩:=ie T J;refine UB [(5,3)] Z (fun R a=>?_);refine Uc (bkT x 1) U8 ?_;refine Uh 2 Z ?_;refine Uj ae U9 ?_;refine Ue U6 ?_;refine D.call (GD ok (Mem.get x mup) hr (H r hr)) Z (.inr dc_) U6 (show List.Perm _ (((.obj v [.int .i64 (r:Nat)] 3::fe b p.n t e h k l wF).map Lent.ent)++[]) from List.Perm.of_eq (by rw [QI,QU,bh 0 0];rfl)) fl_ (fun au _ av _ ag=>?_);refine C4 1 [1,2,4] a Z ?_;clear a R;obtain ⟨⟨o2,rfl,V⟩,rfl⟩:=ag;refine Ut (L':=[.obj v (.cells ⟨[.int .i64 (r:Nat)]⟩ 3 (0,0)),.obj b (.cells ⟨[.int .i64 p.n,e,h,k,ah (qtx t.worth.c),l]⟩ 212 (0,0)),.arr e 3 1 t.basic.length ((t.basic).map aO).flatten,.arr h 209 2 t.basic.length ((cQ t wF).map bE).flatten,.arr k 3 1 t.others.length ((t.others).map aO).flatten,.arr l 56 1 t.others.length ((t.worth.f).map aY).flatten]++(List.range t.basic.length).map (stE t wF 0 0 0)) (by rw [QI,QU,bh 0 0];rfl) ?_;refine Ua 2 [1,2,4,20] Z ?_;refine Ud (fun N=>?_) fun N=>?_
 ·have O:o2<0:=aV N;have L:=ig V O;refine Uf fun R a=>?_;refine Uj af U9 ?_;refine Um (j:=0) U12 ?_;refine C4 1 [2,3] a Z ?_;clear a R;refine Un (Wa 0 Z Z Z Z Z Z ?_);exact ⟨t,wF,q,a,.no r hr M U (fun s hs z=>by have:=L s hs;grind),by rw [bh 0 0];rfl⟩
 have O:¬ o2<0:=Qm N;obtain ⟨s,rfl,hs,⟨ai,aj⟩,ak⟩:=ie V O;have hP:Lp.FeasP p.n t r s:=⟨hr,hs,M,ai,U,fun i y z hc=>ad i y ⟨z,hc⟩,aj,fun j hj z hg=>ak j hj ⟨z,hg⟩⟩;have W:(t.line r).g s≠0:=by grind
 obtain ⟨aw,al⟩:=Lp.Reach.fall hP F;refine UB [(3,3)] Z (fun R a=>?_);refine Uc (bkT x 1) U8 ?_;refine Uj af U9 ?_;refine Ue U6 ?_;refine D.call (ue _ X.m_ b p.n r s (p.n+p.m) t e h k l wF ok aa ab hr hs W H (oy q S)) Z (.inr dc_) U6 (by rw [bh 0 0];exact (List.perm_append_singleton _ _).symm) fl_ (fun ax _ ay _ am=>?_);refine Ug [1,2] a Z ?_;clear a R;obtain ⟨-,Q,rfl⟩:=am;refine G.perm (L':=[.obj v (.cells ⟨[.int .i64 (r:Nat)]⟩ 3 (0,0)),.obj b (.cells ⟨[.int .i64 p.n,e,h,k,ah (qtx (t.pivot r s).worth.c),l]⟩ 212 (0,0)),.arr e 3 1 (t.pivot r s).basic.length (((t.pivot r s).basic).map aO).flatten,.arr h 209 2 (t.pivot r s).basic.length ((cQ (t.pivot r s) Q).map bE).flatten,.arr k 3 1 (t.pivot r s).others.length (((t.pivot r s).others).map aO).flatten,.arr l 56 1 (t.pivot r s).others.length (((t.pivot r s).worth.f).map aY).flatten]++(List.range (t.pivot r s).basic.length).map (stE (t.pivot r s) Q 0 0 0)) (by rw [bh 0 0];exact List.perm_append_singleton _ _) ?_;refine Up (m':=m-1) om_ mup (hn_ [1,2] Z) ⟨t.pivot r s,Q,(r:Int),m-1,⟨q.pivot hr hs W,Lp.rel_pivot ok a hr hs M,al⟩,Z,Z,Z⟩
section
variable {C:Mem} {a b n N:Nat} {t:Lp.Tab} {wB wL wO wW:Value} {wF:Nat->Value}
theorem GC (c:t.Ok N)(h:C a=some (.cells ⟨[.pointer (some ⟨b,0,none⟩)]⟩ 202 (0,0))) :
  Jog.Fn cx.P 180 [wO,.func (.func 183) #[] #[.pointer (some ⟨a,0,none⟩)]] C ((fe b n t wB wL wO wW wF).map Lent.ent)
   fun u _ d=>(∃ o:Int,u=.int .i64 o/\Lp.LeastR t.others (fun i=>¬ n<=t.oth i/\¬ t.worth.g i=0) t.others.length o)/\d=(fe b n t wB wL wO wW wF).map Lent.ent:=by
 refine Vl kr_ _ (gd c) fun C' j hs=>?_;have e:=eW c hs;refine (nY C' wO t.others 183 [.pointer (some ⟨a,0,none⟩)] (fun i=>!decide (n<=t.oth i) && !decide (t.worth.g i=0)) e.O kr_ fun i k D f =>
  M6 D a b n i N t wB wL wO wW _ (e.mono f) c ((j.trans f) _ _ h) k).mono ?_
 rintro u D d _ ⟨h1,o,rfl,h2⟩;exact ⟨h1,o,Z,mB h2 fun i _=>by simp⟩
theorem GB (c:t.Ok N)(h:C a=some (.cells ⟨[.pointer (some ⟨b,0,none⟩)]⟩ 202 (0,0)))(j:LineQ 16 t.worth) :
  Jog.Fn cx.P 180 [wO,.func (.func 184) #[] #[.pointer (some ⟨a,0,none⟩)]] C ((fe b n t wB wL wO wW wF).map Lent.ent)
   fun u _ d=>(∃ o:Int,u=.int .i64 o/\Lp.LeastR t.others (fun i=>n<=t.oth i/\t.worth.g i<0) t.others.length o)/\d=(fe b n t wB wL wO wW wF).map Lent.ent:=by
 refine Vl kr_ _ (gd c) fun C' k hs=>?_;have e:=eW c hs;refine (nY C' wO t.others 184 [.pointer (some ⟨a,0,none⟩)] (fun i=>decide (n<=t.oth i) && decide (t.worth.g i<0)) e.O kr_ fun i l D f =>
  M5 D a b n i N t wB wL wO wW _ (e.mono f) c ((k.trans f) _ _ h) l (j.g0 dc_ dc_ i)).mono ?_
 rintro u D d _ ⟨h1,o,rfl,h2⟩;exact ⟨h1,o,Z,mB h2 fun i _=>by simp⟩
theorem GA {s:Nat}(f:Tabs C)(a:t.Ok N)(d:s<t.others.length)(e:∀ i,i<t.basic.length->LineQ 16 (t.line i)) :
  Jog.Fn cx.P 185 [.pointer (some ⟨b,0,none⟩),.int .i64 s] C ((fe b n t wB wL wO wW wF).map Lent.ent)
   fun u _ h=>(∃ o:Int,u=.int .i64 o/\Lp.LeaveR n t s t.basic.length o)/\h=(fe b n t wB wL wO wW wF).map Lent.ent :=
 Vl kr_ _ (gd a) fun C' j k=>JK C' (f.mono j) b n s N t wB wL wO wW _ (eW a k) a d fun i c=>⟨(e i c).1,(e i c).g (by rw [ib a c];exact d)⟩
end
theorem yB (h:Lp.LeaveR F t s n o)(a:o<0):∀ i,i<n->F<=t.bas i->0<=(t.line i).g s:=by
 cases h with
 | none h=>exact h
 | some r _ _ _ _=>omega
theorem yA (h:Lp.LeaveR F t s n o)(a:¬ o<0):∃ r:Nat,o=r/\r<n/\F<=t.bas r/\(t.line r).g s<0 /\
  ∀ i,i<n->F<=t.bas i->(t.line i).g s<0->(t.line r).c / -(t.line r).g s<(t.line i).c / -(t.line i).g s∨(t.line r).c / -(t.line r).g s=(t.line i).c / -(t.line i).g s/\t.bas r<=t.bas i:=by
 cases h with
 | none h=>exact absurd dc_ a
 | some r h1 h2 h3 h4=>exact ⟨r,rfl,h1,h2,h3,h4⟩
inductive MinO (p:Lp.Sys) (t:Lp.Tab):Value->Prop where
 | yes:Lp.RelW p.n t->(∀ s,s<t.others.length->p.n<=t.oth s->0<=t.worth.g s)->MinO p t (.tuple #[.int .i64 0,.bool true])
 | no (s:Nat):s<t.others.length->kY t s*t.worth.g s<0->(∀ i,i<t.basic.length->p.n<=t.bas i->0<=kY t s*(t.line i).g s)->(p.n<=t.oth s->0<=kY t s)->MinO p t (.tuple #[.int .i64 s,.bool false])
theorem yx (C:Mem)(U:Tabs C)(p:Lp.Sys)(F:Nat->Rat)(b:Nat)(a:Lp.Tab)(e k l o:Value)(v:Nat->Value)(q:Lp.Inv p F a)(d:Lp.Rel p.n a p.n)(A:a.Feas p.n)(V:Lp.Lim p F 16)(hm:p.m<=1000000)(hn:p.n<=1000000) :
  Jog.Fn cx.P 118 [.pointer (some ⟨b,0,none⟩)] C ((fe b p.n a e k l o v).map Lent.ent) fun u _ w=>∃ t wF,Lp.Inv p F t/\t.Feas p.n/\MinO p t u/\w=(fe b p.n t e k l o wF).map Lent.ent:=by
 have aw:maxLen<=9223372036854775807:=by simp [maxLen]
 refine Uk func118 32 U3 fun w0=>?_;refine Uf fun R d=>?_;refine Uw U6 (fun b1=>?_);refine C4 2 [1] d Z ?_;clear d R;refine G.freeze 0 Z (fun _ _ B=>?_);refine Ut (L':=[.obj b (.cells ⟨[.int .i64 p.n,e,k,l,ah (qtx a.worth.c),o]⟩ 212 (0,0)),.arr e 3 1 a.basic.length ((a.basic).map aO).flatten,.arr k 209 2 a.basic.length ((cQ a v).map bE).flatten,.arr l 3 1 a.others.length ((a.others).map aO).flatten,.arr o 56 1 a.others.length ((a.worth.f).map aY).flatten]++(List.range a.basic.length).map (stE a v 0 0 0)) (by rw [bh 0 0];rfl) ?_;refine UB [(5,3)] Z (fun R d=>?_);refine Uc (bkT B 1) U8 ?_;refine Uh 2 Z ?_;refine Uj af U9 ?_;refine Ue U6 ?_;refine D.call (GC q.tab.ok (Mem.get B mup)) Z (.inr dc_) U6 (show List.Perm _ (((fe b p.n a e k l o v).map Lent.ent)++[]) from List.Perm.of_eq (by rw [QI,bh 0 0])) fl_ (fun ax _ ay _ ag=>?_);refine C4 1 [1,2] d Z ?_;clear d R;obtain ⟨⟨W,rfl,X⟩,rfl⟩:=ag;refine Ut (L':=[.obj b (.cells ⟨[.int .i64 p.n,e,k,l,ah (qtx a.worth.c),o]⟩ 212 (0,0)),.arr e 3 1 a.basic.length ((a.basic).map aO).flatten,.arr k 209 2 a.basic.length ((cQ a v).map bE).flatten,.arr l 3 1 a.others.length ((a.others).map aO).flatten,.arr o 56 1 a.others.length ((a.worth.f).map aY).flatten]++(List.range a.basic.length).map (stE a v 0 0 0)) (by rw [QI,bh 0 0]) ?_;refine Ua 2 [1,2,12] Z ?_;refine Ud (fun H=>?_) fun H=>?_
 ·have y:¬ W<0:=by
   have:=aV H;omega
  obtain ⟨s,rfl,hs,⟨I,Y⟩,_⟩:=ie X y;have ai:kY a s*a.worth.g s<0:=by
   unfold kY;split <;> grind
  refine Ua 3 [2,3] Z ?_;refine Un (UC U3 ?_);refine ⟨a,v,q,A,.no s hs ai (fun i z x=>?_) (fun h=>absurd h I),by rw [bh 0 0]⟩;rw [d s (by rw [<- q.tab.lo];exact hs) hs om_ i z x,Rat.mul_zero];exact Rat.le_refl
 have y:W<0:=by
  have:=Qm H;omega
 have E:=ig X y;have aj:Lp.RelW p.n a:=fun s hs az=>by
  have:=E s hs;have h2:¬ p.n<=a.oth s:=by omega
  grind
 refine G.loop (fun fr C' w μ=>∃ (t:Lp.Tab)(wF:Nat->Value)(J:Nat),(Lp.Inv p F t/\Lp.Rel p.n t p.n/\t.Feas p.n/\Lp.RelW p.n t/\∀ K,Lp.Reach (Lp.MinP p.n) t K->K<=J)/\fr=[(1,[],.pointer (some ⟨b1,0,none⟩))]/\w=[.obj b (.cells ⟨[.int .i64 p.n,e,k,l,ah (qtx t.worth.c),o]⟩ 212 (0,0)),.arr e 3 1 t.basic.length ((t.basic).map aO).flatten,.arr k 209 2 t.basic.length ((cQ t wF).map bE).flatten,.arr l 3 1 t.others.length ((t.others).map aO).flatten,.arr o 56 1 t.others.length ((t.worth.f).map aY).flatten]++(List.range t.basic.length).map (stE t wF 0 0 0)/\μ=J) (hn_ [1] Z) ⟨a,v,2 ^ (p.n+p.m),⟨q,d,A,aj,fun K L=>Lp.min_len q.tab.ok L⟩,Z,Z,Z⟩ (fun fr aB aC m _ q=>?_);obtain ⟨t,wF,J,⟨q,d,A,hW,L⟩,rfl,rfl,rfl⟩:=q;have ok:=q.tab.ok;have ak:t.basic.length<=1000000:=by rw [q.tab.lb];exact hm
 have al:t.others.length<=1000000:=by rw [q.tab.lo];exact hn
 have hq:∀ i,i<t.basic.length->LineQ 16 (t.line i):=fun i z=>uu q V z;have aa:=oy q V;refine UB [(5,3)] Z (fun R d=>?_);refine Uc (bkT B 1) U8 ?_;refine Uh 2 Z ?_;refine Uj af U9 ?_;refine Ue U6 ?_;refine D.call (GB ok (Mem.get B mup) aa) Z (.inr dc_) U6 (show List.Perm _ (((fe b p.n t e k l o wF).map Lent.ent)++[]) from List.Perm.of_eq (by rw [QI,bh 0 0])) fl_ (fun aD _ aE _ am=>?_);refine C4 1 [1,2] d Z ?_;clear d R;obtain ⟨⟨o1,rfl,ab⟩,rfl⟩:=am;refine Ut (L':=[.obj b (.cells ⟨[.int .i64 p.n,e,k,l,ah (qtx t.worth.c),o]⟩ 212 (0,0)),.arr e 3 1 t.basic.length ((t.basic).map aO).flatten,.arr k 209 2 t.basic.length ((cQ t wF).map bE).flatten,.arr l 3 1 t.others.length ((t.others).map aO).flatten,.arr o 56 1 t.others.length ((t.worth.f).map aY).flatten]++(List.range t.basic.length).map (stE t wF 0 0 0)) (by rw [QI,bh 0 0]) ?_;refine Ua 2 [1,2,21] Z ?_;refine Ud (fun M=>?_) fun M=>?_
 ·have y:o1<0:=aV M;have E:=ig ab y;refine Ua 2 [2,3] Z ?_;refine Un (UC U3 ?_);exact ⟨t,wF,q,A,.yes hW (fun s hs x=>by have:=E s hs;grind),by rw [bh 0 0]⟩
 have y:¬ o1<0:=Qm M;obtain ⟨s,rfl,hs,⟨I,Y⟩,an⟩:=ie ab y;refine UB [(2,3)] Z (fun R d=>?_);refine Uc (bkT B 1) U8 ?_;refine Ue U6 ?_;refine D.call (GA U.m_ ok hs hq) Z (.inr dc_) U6 (show List.Perm _ (((fe b p.n t e k l o wF).map Lent.ent)++[]) from List.Perm.of_eq (by rw [QI,bh 0 0])) fl_ (fun aF _ aG _ ao=>?_);refine C4 1 [1,2,4] d Z ?_;clear d R;obtain ⟨⟨o2,rfl,ac⟩,rfl⟩:=ao;refine Ut (L':=[.obj b (.cells ⟨[.int .i64 p.n,e,k,l,ah (qtx t.worth.c),o]⟩ 212 (0,0)),.arr e 3 1 t.basic.length ((t.basic).map aO).flatten,.arr k 209 2 t.basic.length ((cQ t wF).map bE).flatten,.arr l 3 1 t.others.length ((t.others).map aO).flatten,.arr o 56 1 t.others.length ((t.worth.f).map aY).flatten]++(List.range t.basic.length).map (stE t wF 0 0 0)) (by rw [QI,bh 0 0]) ?_;refine Ua 2 [1,2,4,26] Z ?_;refine Ud (fun N=>?_) fun N=>?_
 ·have O:o2<0:=aV N;have E:=yB ac O;have Q:kY t s=1:=by
   unfold kY;rw [aA (by grind)]
  refine Ua 3 [2,3] Z ?_;refine Un (UC U3 ?_);refine ⟨t,wF,q,A,.no s hs (by rw [Q];grind) (fun i z x=>?_) (fun _=>by rw [Q];decide),by rw [bh 0 0]⟩;rw [Q];have:=E i z x;grind
 have O:¬ o2<0:=Qm N;obtain ⟨r,rfl,hr,S,ap,aq⟩:=yA ac O;have hP:Lp.MinP p.n t r s:=⟨hr,hs,S,I,Y,fun j hj x hg=>an j hj ⟨x,hg⟩,ap,aq,A⟩;have ad:(t.line r).g s≠0:=by grind
 obtain ⟨aH,ar⟩:=Lp.Reach.fall hP L;refine UB [(3,3)] Z (fun R d=>?_);refine Uc (bkT B 1) U8 ?_;refine Uh 2 Z ?_;refine D.call (ue _ U.m_ b p.n r s (p.n+p.m) t e k l o wF ok ak al hr hs ad hq aa) Z (.inr dc_) U6 (show List.Perm _ (((fe b p.n t e k l o wF).map Lent.ent)++[]) from List.Perm.of_eq (by rw [QI,bh 0 0])) fl_ (fun aI _ aJ _ au=>?_);refine Ug [1] d Z ?_;clear d R;obtain ⟨-,T,rfl⟩:=au;refine Ut (L':=[.obj b (.cells ⟨[.int .i64 p.n,e,k,l,ah (qtx (t.pivot r s).worth.c),o]⟩ 212 (0,0)),.arr e 3 1 (t.pivot r s).basic.length (((t.pivot r s).basic).map aO).flatten,.arr k 209 2 (t.pivot r s).basic.length ((cQ (t.pivot r s) T).map bE).flatten,.arr l 3 1 (t.pivot r s).others.length (((t.pivot r s).others).map aO).flatten,.arr o 56 1 (t.pivot r s).others.length (((t.pivot r s).worth.f).map aY).flatten]++(List.range (t.pivot r s).basic.length).map (stE (t.pivot r s) T 0 0 0)) (by rw [QI,bh 0 0]) ?_;refine Up (m':=m-1) om_ mup (hn_ [1] Z) ⟨t.pivot r s,T,m-1,⟨q.pivot hr hs ad,Lp.rel_pivot ok d hr hs S,Lp.min_feas ok hP,Lp.relw_pivot ok (fun s' ae av i z x=>d s' (by rw [<- q.tab.lo];exact ae) ae av i z x) hW hr hs S,ar⟩,Z,Z,Z⟩
theorem LK (C:Mem)(v:Value)(l:List Nat)(b:Sl C 1 v (l.map aO))(t:l.length<=1000000):Jog.Fn cx.P 50 [v] C [] fun u _w e=>∃ A n c,u=.slice A n c/\e=[.arr (.slice A n c) 3 1 l.length (l.map aO).flatten]:=by
 obtain ⟨f,c0,rfl,m,x,y,o⟩:=id b;have z:maxLen<=9223372036854775807:=by simp [maxLen]
 simp only [aw] at b m ⊢;refine Uk func50 8 U3 fun w0=>Ua 1 [0] Z<|Ub 1 Z fun R d=>VN U9<|Ug [0,4] d Z<|Ud (fun h4=>?_) fun h4=>?_
 ·have p:f=none:=by
   cases f with
   | none=>rfl
   | some a=>cases h4
  have s:l=[]:=by
   cases l with
   | nil=>rfl
   | cons q r =>
    obtain ⟨a,g,_⟩:=o 0 (aO q) rfl;rw [p] at g;cases g
  refine Ua 1 [2] Z<|G.nilArr 3 1<|Un (UR Z Z ?_);exact ⟨none,0,0,Z,by rw [s];rfl⟩
 refine Uf fun R d=>Vo [] U12 fl_ fun B=>Ue U6<|UG (j:=0) U11 b.m_ (by simp [aO,nU]) (by simp only [aw,QW,maxLen];omega) (by simp only [aw,QW];omega) fl_ fun h i k=>C4 1 [2] d Z<|Ut (L':=[.arr (.slice h i k) 3 1 l.length (l.map aO).flatten]) am<|Un (UR Z Z ?_);exact ⟨h,i,k,Z,Z⟩
theorem Mv (C:Mem)(b s:Nat)(q:Rat)(w:Value)(l:List Rat)(c:Sl C 1 w (l.map aY))(d:C b=some (.cells ⟨[.int .i64 s]⟩ 3 (0,0)))(e:s<l.length) :
  Gives cx.P 176 [.agg ⟨[ah (qtx q),w]⟩,.pointer (some ⟨b,0,none⟩)] C (.bool (!decide (l.getD s 0=0))):=by
 obtain ⟨h,i,rfl,j,k,_⟩:=id c;have m:maxLen<=9223372036854775807:=by simp [maxLen]
 refine Uk func176 10 U3 fun w0=>Uf fun R a=>Uw U6 fun n=>C4 1 [1,2] a Z<|G.freeze 0 Z fun _ _ f=>Ub 1 Z fun R a=>Uc (bkT f 1) U8<|Uc (bkT d 1) U8<|Us c.m_ U10 om_ (dI e) fl_ fun o g=>Uc g U8<|C4 2 [3] a Z<|Ui U2<|⟨?_,Z⟩;show Value.bool _=Value.bool _;congr 1;show (!((⟨(qtx (l.getD s 0)).toArray⟩:ByteArray).data.toList == (⟨#[48]⟩:ByteArray).data.toList))=_;rw [fX]
theorem Mu (C:Mem)(b s:Nat)(q:Rat)(w:Value)(l:List Rat)(c:Sl C 1 w (l.map aY))(d:C b=some (.cells ⟨[.int .i64 s]⟩ 3 (0,0)))(e:s<l.length) :
  Gives cx.P 178 [.agg ⟨[ah (qtx q),w]⟩,.pointer (some ⟨b,0,none⟩)] C (.bool (!decide (l.getD s 0=0))):=by
 obtain ⟨h,i,rfl,j,k,_⟩:=id c;have m:maxLen<=9223372036854775807:=by simp [maxLen]
 refine Uk func178 10 U3 fun w0=>Uf fun R a=>Uw U6 fun n=>C4 1 [1,2] a Z<|G.freeze 0 Z fun _ _ f=>Ub 1 Z fun R a=>Uc (bkT f 1) U8<|Uc (bkT d 1) U8<|Us c.m_ U10 om_ (dI e) fl_ fun o g=>Uc g U8<|C4 2 [3] a Z<|Ui U2<|⟨?_,Z⟩;show Value.bool _=Value.bool _;congr 1;show (!((⟨(qtx (l.getD s 0)).toArray⟩:ByteArray).data.toList == (⟨#[48]⟩:ByteArray).data.toList))=_;rw [fX]
inductive FirstR (q:Nat->Prop) (n:Nat):Int->Prop where
 | none:(∀ i,i<n->¬ q i)->FirstR q n (-1)
 | some (r:Nat):r<n->q r->(∀ i,i<r->¬ q i)->FirstR q n r
theorem Gx (C:Mem)(v:Value)(a:List (Rat × Value))(g:Nat)(c:List Value)(q:Nat->Prop)[DecidablePred q](d:Sl C 2 v (a.map bE))(_E:Jog.Enters cx.P g=true)
  (p:∀ i x,a[i]?=some x->∀ D:Mem,C.le D->Gives cx.P g (.agg ⟨bE x⟩::c) D (.bool (decide (q i)))) :
  Pur cx.P 175 [v,.func (.func g) #[] ⟨c⟩] C fun u _=>∃ o:Int,u=.int .i64 o/\FirstR q a.length o:=by
 obtain ⟨r,c0,rfl,s,F,_⟩:=id d;have H:maxLen<=9223372036854775807:=by simp [maxLen]
 simp only [aw] at d s ⊢;refine Uk func175 19 U3 fun w0=>Ua 1 [0,1] Z<|Ua 3 [0,1,7,8] Z<|G.loop (fun fr C' t w=>∃ (i:Nat),(i<=a.length/\∀ j,j<i->¬ q j)/\fr=[(0,[],.slice r a.length c0),(1,[],.func (.func g) #[] ⟨c⟩),(7,[],.int .i64 a.length),(8,[],.int .i64 i)]/\t=[]/\w=a.length-i) (hn_ [0,1,7,8] Z) ⟨0,⟨Qn _,fun j e=>absurd e (Nat.not_lt_zero _)⟩,Z,Z,Z⟩ (fun fr I J m _ y=>?_);obtain ⟨i,⟨K,f⟩,rfl,rfl,rfl⟩:=y;refine Ua 1 [0,1,7,8,9] Z<|Ud (fun h=>?_) fun h=>?_
 ·have b:i<a.length:=by simpa using h
  obtain ⟨x,n⟩:∃ x,a[i]?=some x:=⟨a[i],ak b⟩;refine Ua 2 [0,1,5,7,8] Z<|Ub 3 Z fun R k=>Us d.m_ U10 om_ (show (a.map bE)[i]?=some [ah (qtx x.1),x.2] from gi n) fl_ fun L z=>Uc z U8<|Uo (p i x n _ mup) U7<|Ug [0,1,5,7,8,16] k Z<|Ud (fun l=>?_) fun l=>?_
  ·have A:q i:=aV l;exact Ua 2 [4] Z<|Ui U2<|⟨Z,(i:Int),Z,.some i b A f⟩
  have B:¬ q i:=Qm l;refine Uf fun R k=>Ul _ U7<|C4 1 [0,1,7,8] k Z<|Up (m':=a.length-(i+1)) om_ mup (hn_ [0,1,7,8] Z) ⟨i+1,⟨by omega,fun j e=>by
   rcases Nat.lt_or_eq_of_le (Nat.le_of_lt_succ e) with h1 | h1
   ·exact f j h1
   rw [h1];exact B⟩,rfl,rfl,rfl⟩
 have b:i=a.length:=by
  have:¬ i<a.length:=by simpa using h
  omega
 exact Ua 1 [4] Z<|Ui U2<|⟨Z, -1,Z,.none (by rw [<- b];exact f)⟩
theorem E6 (C:Mem)(b n v:Nat)(a:List Value)(c:C b=some (.cells ⟨.int .i64 n::a⟩ 212 (0,0))) :
  Gives cx.P 177 [.pointer (some ⟨b,0,none⟩),.int .i64 v] C (.bool (decide (n<=v))):=by
 refine Uk func177 11 U3 fun w0=>Ua 1 [0,1] Z<|Ub 4 Z fun R d=>Uc (bkT c 1) U8<|C4 2 [4] d Z<|Ui U2<|⟨?_,Z⟩;congr 1;rw [Q7];omega
theorem oR (C:Mem)(b n v:Nat)(a:List Value):Jog.Fn cx.P 177 [.pointer (some ⟨b,0,none⟩),.int .i64 v] C [.obj b (.cells ⟨.int .i64 n::a⟩ 212 (0,0))]
   fun u _ d=>u=.bool (decide (n<=v))/\d=[.obj b (.cells ⟨.int .i64 n::a⟩ 212 (0,0))]:=by
 have h:=Vl (P:=cx.P) (f:=177) (args:=[.pointer (some ⟨b,0,none⟩),.int .i64 v]) (C:=C) (q:=fun u=>u=.bool (decide (n<=v))) kr_ [.obj b (.int .i64 n::a) 212] (fun x c=>by
  rcases Qw.1 c with rfl | c
  ·trivial
  cases c) fun C' e hs=>(E6 C' b n v a (hs _ (aL ..))).mono fun u _ g _ ⟨h1,h2⟩=>⟨h2,h1⟩
 exact h
theorem oJ (h:∀ x∈fe b n t wB wL wO wW wF,x.seen C):Sl C 1 wO (t.others.map aO)/\Sl C 2 wL ((cQ t wF).map bE)/\∀ i,i<t.basic.length->Sl C 1 (wF i) ((t.line i).f.map aY) :=
 ⟨h _ (Qq _ (Qq _ (Qq _ (aL ..)))),h _ (Qq _ (Qq _ (aL ..))),fun i a =>
  h (K7 t wF i) (Qq _ (Qq _ (Qq _ (Qq _ (Qq _ (Qt.2 ⟨i,QA.2 a,rfl⟩))))))⟩
section
variable {C:Mem} {a2 b n N s:Nat} {t:Lp.Tab} {wB wO wW:Value} {wF:Nat->Value}
theorem Pe {d:Value}(g:t.Ok N)(i:t.others.length<=1000000):Jog.Fn cx.P 50 [wO] C ((fe b n t wB d wO wW wF).map Lent.ent)
   fun u _ a=>∃ A n2 c,u=.slice A n2 c/\a=.arr (.slice A n2 c) 3 1 t.others.length (t.others.map aO).flatten::(fe b n t wB d wO wW wF).map Lent.ent:=by
 have h:=VF (P:=cx.P) (f:=50) (args:=[wO]) (L:=[]) (C:=C) (post:=fun u a=>∃ A n2 c,u=.slice A n2 c/\a=[.arr (.slice A n2 c) 3 1 t.others.length (t.others.map aO).flatten]) kr_ (fe b n t wB d wO wW wF) (gd g) fun C' m hs=>LK C' wO t.others (oJ hs).1 i;rw [QI] at h;refine ⟨h.1,fun w j=>(h.2 w j).mono ?_⟩;rintro e w' ⟨v,C',a,k,l,o,rfl,A,n2,c,rfl,rfl⟩;exact ⟨_,C',_,k,St.perm l (List.perm_append_singleton _ _),A,n2,c,Z,Z⟩
theorem Nj {a:Value}(h:t.Ok N)(l:C a2=some (.cells ⟨[.int .i64 s]⟩ 3 (0,0)))(m:s<t.others.length) :
  Jog.Fn cx.P 175 [a,.func (.func 176) #[] #[.pointer (some ⟨a2,0,none⟩)]] C ((fe b n t wB a wO wW wF).map Lent.ent)
   fun u _ j=>(∃ o:Int,u=.int .i64 o/\FirstR (fun i=>¬ (t.line i).g s=0) t.basic.length o)/\j=(fe b n t wB a wO wW wF).map Lent.ent:=by
 refine Vl kr_ _ (gd h) fun C' p q=>?_;obtain ⟨_,r,v⟩:=oJ q;refine (Gx C' a (cQ t wF) 176 [.pointer (some ⟨a2,0,none⟩)] (fun i=>¬ (t.line i).g s=0) r kr_ fun i x d D k=>?_).mono ?_
 ·have e:i<t.basic.length:=by rw [<- fH (wF:=wF)];exact (aF.1 d).1
  rw [nR e] at d;cases d
  rw [decide_not];exact Mv D a2 s (t.line i).c (wF i) (t.line i).f ((v i e).mono k) ((p.trans k) _ _ l) (by rw [ib h e];exact m)
 rintro u D j _ ⟨h1,o,rfl,h2⟩;rw [fH] at h2;exact ⟨h1,o,Z,h2⟩
theorem Ni {A:Option Addr}{c r M:Nat}(v:t.basic.length=M)(j:t.Ok N)(w:C a2=some (.cells ⟨[.int .i64 s]⟩ 3 (0,0)))(y:s<t.others.length)(I:r<t.basic.length)(z:M<=c) :
  Jog.Fn cx.P 175 [.slice (if c=r+1 then A else A.map (·.add ((r+1)*2))) (M-(r+1)) (c-(r+1)),.func (.func 178) #[] #[.pointer (some ⟨a2,0,none⟩)]] C ((fe b n t wB (.slice A M c) wO wW wF).map Lent.ent)
   fun u _ k=>(∃ o:Int,u=.int .i64 o/\FirstR (fun i=>¬ (t.line (r+1+i)).g s=0) (t.basic.length-(r+1)) o)/\k=(fe b n t wB (.slice A M c) wO wW wF).map Lent.ent:=by
 subst v;refine Vl kr_ _ (gd j) fun C' B E=>?_;obtain ⟨_,F,G⟩:=oJ E;have p:=Sl.sub (l:=r+1) (h:=t.basic.length) (m:=c) F om_ (by rw [aw,fH];exact Qj _) z (Qj _);have e:((cQ t wF).map bE).take t.basic.length=(cQ t wF).map bE:=Q0 (by rw [aw,fH];exact Qj _);rw [e,<- List.map_drop] at p;have H:((cQ t wF).drop (r+1)).length=t.basic.length-(r+1):=by rw [Sm,fH]
 refine (Gx C' _ ((cQ t wF).drop (r+1)) 178 [.pointer (some ⟨a2,0,none⟩)] (fun i=>¬ (t.line (r+1+i)).g s=0) p kr_ fun i x a D q=>?_).mono ?_
 ·have d:r+1+i<t.basic.length:=by have:=(aF.1 a).1;omega
  rw [List.getElem?_drop,nR d] at a;cases a
  rw [decide_not];exact Mu D a2 s (t.line (r+1+i)).c (wF (r+1+i)) (t.line (r+1+i)).f ((G _ d).mono q) ((B.trans q) _ _ w) (by rw [ib j d];exact y)
 rintro u D k _ ⟨h1,o,rfl,h2⟩;rw [H] at h2;exact ⟨h1,o,Z,h2⟩
end
def Qg (p:Lp.Sys)(t:Lp.Tab)(s:Nat)(o:Int):Prop:=(o=-1/\∀ i,i<t.basic.length->p.n<=t.bas i->(t.line i).g s=0)∨∃ r:Nat,o=r/\r<t.basic.length/\¬ (t.line r).g s=0/\∀ i,i<r->p.n<=t.bas i->(t.line i).g s=0
theorem yN (h:FirstR q n o)(a:o<0):∀ i,i<n->¬ q i:=by
 cases h with
 | none h=>exact h
 | some r _ _ _=>omega
theorem yM (h:FirstR q n o)(a:¬ o<0):∃ r:Nat,o=r/\r<n/\q r/\∀ i,i<r->¬ q i:=by
 cases h with
 | none h=>exact absurd dc_ a
 | some r h1 h2 h3=>exact ⟨r,rfl,h1,h2,h3⟩
theorem CK (h:FirstR (fun i=>¬ (t.line i).g s=0) t.basic.length o):Qg p t s o:=by
 cases h with
 | none h=>exact .inl ⟨rfl,fun i a _=>Decidable.not_not.1 (h i a)⟩
 | some r h1 h2 h3=>exact .inr ⟨r,rfl,h1,h2,fun i a _=>Decidable.not_not.1 (h3 i a)⟩
theorem CZ (C:Mem)(hT:Tabs C)(p:Lp.Sys)(M:Nat->Rat)(b:Nat)(a:Lp.Tab)(N O e l:Value)(B:Nat->Value)(q:Lp.Inv p M a)(ho:a.others=List.range p.n)(hl:Lp.Lim p M 16)(hm:p.m<=1000000)(hn:p.n<=1000000) :
  Jog.Fn cx.P 115 [.pointer (some ⟨b,0,none⟩)] C ((fe b p.n a N O e l B).map Lent.ent) fun u _ A=>u=.tuple #[]/\∃ t wF,Lp.Inv p M t/\Lp.Rel p.n t p.n/\A=(fe b p.n t N O e l wF).map Lent.ent:=by
 have aM:maxLen<=9223372036854775807:=by simp [maxLen]
 have ar:a.others.length=p.n:=q.tab.lo;refine Uk func115 65 U3 fun w0=>?_;refine Ut (L':=[.obj b (.cells ⟨[.int .i64 p.n,N,O,e,ah (qtx a.worth.c),l]⟩ 212 (0,0)),.arr N 3 1 a.basic.length ((a.basic).map aO).flatten,.arr O 209 2 a.basic.length ((cQ a B).map bE).flatten,.arr e 3 1 a.others.length ((a.others).map aO).flatten,.arr l 56 1 a.others.length ((a.worth.f).map aY).flatten]++(List.range a.basic.length).map (stE a B 0 0 0)) (by rw [bh 0 0]) ?_;refine VT 1 Z (fun w y J S au _=>?_);rw [q.tab.lb] at J S au;subst J;refine VT 2 Z (fun z x J _ T _=>?_);rw [q.tab.lb] at J T;subst J;refine Ut (L':=[.obj b (.cells ⟨[.int .i64 p.n,(.slice w p.m y),(.slice z p.m x),e,ah (qtx a.worth.c),l]⟩ 212 (0,0)),.arr (.slice w p.m y) 3 1 a.basic.length ((a.basic).map aO).flatten,.arr (.slice z p.m x) 209 2 a.basic.length ((cQ a B).map bE).flatten,.arr e 3 1 a.others.length ((a.others).map aO).flatten,.arr l 56 1 a.others.length ((a.worth.f).map aY).flatten]++(List.range a.basic.length).map (stE a B 0 0 0)) Z ?_;refine UB [(4,3)] Z (fun R d=>?_);refine Uh 3 Z ?_;refine Uj af U9 ?_;refine D.call (Pe q.tab.ok om_) Z (.inr dc_) U6 (show List.Perm _ (((fe b p.n a (.slice w p.m y) (.slice z p.m x) e l B).map Lent.ent)++[]) from List.Perm.of_eq (by rw [QI,bh 0 0] <;> rfl)) fl_ (fun aN av aP _ ax=>?_);obtain ⟨Ac,n2,c2,rfl,rfl⟩:=ax;refine C4 2 [0,10,11,12] d Z ?_;clear d R;refine G.freezeArr 0 (a.others.map aO) Z Z uJ am (fun av _ an=>?_);have ay:n2=p.n:=by
  obtain ⟨A9,c9,az,_⟩:=id an;injection az with e1 e2 e3;rw [e2,aw,ar]
 subst ay;refine Ut (L':=[.obj b (.cells ⟨[.int .i64 p.n,(.slice w p.m y),(.slice z p.m x),e,ah (qtx a.worth.c),l]⟩ 212 (0,0)),.arr (.slice w p.m y) 3 1 a.basic.length ((a.basic).map aO).flatten,.arr (.slice z p.m x) 209 2 a.basic.length ((cQ a B).map bE).flatten,.arr e 3 1 a.others.length ((a.others).map aO).flatten,.arr l 56 1 a.others.length ((a.worth.f).map aY).flatten]++(List.range a.basic.length).map (stE a B 0 0 0)) (by rw [bh 0 0,QI];rfl) ?_;refine G.loop (fun fr C' A U=>∃ (k:Nat)(t:Lp.Tab)(wF:Nat->Value),(k<=p.n/\Lp.Inv p M t/\Lp.Rel p.n t k)/\fr=[(0,[],.pointer (some ⟨b,0,none⟩)),(10,[],.slice Ac p.n c2),(11,[],.int .i64 p.n),(12,[],.int .i64 k)]/\A=[.obj b (.cells ⟨[.int .i64 p.n,(.slice w p.m y),(.slice z p.m x),e,ah (qtx t.worth.c),l]⟩ 212 (0,0)),.arr (.slice w p.m y) 3 1 t.basic.length ((t.basic).map aO).flatten,.arr (.slice z p.m x) 209 2 t.basic.length ((cQ t wF).map bE).flatten,.arr e 3 1 t.others.length ((t.others).map aO).flatten,.arr l 56 1 t.others.length ((t.worth.f).map aY).flatten]++(List.range t.basic.length).map (stE t wF 0 0 0)/\U=p.n-k) (hn_ [0,10,11,12] Z) ⟨0,a,B,⟨Qn _,q,fun s hs=>absurd hs (Nat.not_lt_zero _)⟩,Z,Z,Z⟩ (fun fr aQ aR m _ q=>?_);obtain ⟨k,t,wF,⟨hk,q,d⟩,rfl,rfl,rfl⟩:=q;refine Ua 1 [0,10,11,12,13] Z ?_;refine Ud (fun V=>?_) fun V=>?_
 ·have ao:k<p.n:=by
   have:=aV V;omega
  have ok:=q.tab.ok;have aA:=q.tab.lb;have aB:t.basic.length<=1000000:=by rw [q.tab.lb];exact hm
  have aC:t.others.length<=1000000:=by rw [q.tab.lo];exact hn
  have hq:∀ i,i<t.basic.length->LineQ 16 (t.line i):=fun i W=>uu q hl W;have K:k<t.others.length:=by rw [q.tab.lo];exact ao
  refine Ub 1 Z fun R d=>?_;refine Us an.m_ U10 om_ (show (a.others.map aO)[k]?=some (aO k) from ul (by rw [ho,QY ao])) fl_ (fun aS aD=>?_);refine Uc aD U8 ?_;refine Uv U5 (fun b2=>?_);refine Um (j:=0) U12 ?_;refine C4 1 [0,2,3,10,11,12] d Z ?_;clear d R;refine G.freeze 0 Z (fun _ _ X=>?_);refine UB [(5,3)] Z (fun R d=>?_);refine Uh 3 Z ?_;refine Uj af U9 ?_;refine Ue U6 ?_;refine D.call (Nj ok (Mem.get X mup) K) Z (.inr dc_) U6 (show List.Perm _ (((fe b p.n t (.slice w p.m y) (.slice z p.m x) e l wF).map Lent.ent)++[]) from List.Perm.of_eq (by rw [QI,bh 0 0] <;> rfl)) fl_ (fun aT _ aU _ aE=>?_);refine C4 1 [0,2,3,4,10,11,12] d Z ?_;clear d R;obtain ⟨⟨o0,rfl,aF⟩,rfl⟩:=aE;refine Ut (L':=[.obj b (.cells ⟨[.int .i64 p.n,(.slice w p.m y),(.slice z p.m x),e,ah (qtx t.worth.c),l]⟩ 212 (0,0)),.arr (.slice w p.m y) 3 1 t.basic.length ((t.basic).map aO).flatten,.arr (.slice z p.m x) 209 2 t.basic.length ((cQ t wF).map bE).flatten,.arr e 3 1 t.others.length ((t.others).map aO).flatten,.arr l 56 1 t.others.length ((t.worth.f).map aY).flatten]++(List.range t.basic.length).map (stE t wF 0 0 0)) (by rw [QI,bh 0 0]) ?_;refine G.loop (fun fr C' A U=>∃ (o:Int),(Qg p t k o)/\fr=[(0,[],.pointer (some ⟨b,0,none⟩)),(2,[],.pointer (some ⟨b2,0,none⟩)),(3,[],.int .i64 k),(4,[],.int .i64 o),(10,[],.slice Ac p.n c2),(11,[],.int .i64 p.n),(12,[],.int .i64 k)]/\A=[.obj b (.cells ⟨[.int .i64 p.n,(.slice w p.m y),(.slice z p.m x),e,ah (qtx t.worth.c),l]⟩ 212 (0,0)),.arr (.slice w p.m y) 3 1 t.basic.length ((t.basic).map aO).flatten,.arr (.slice z p.m x) 209 2 t.basic.length ((cQ t wF).map bE).flatten,.arr e 3 1 t.others.length ((t.others).map aO).flatten,.arr l 56 1 t.others.length ((t.worth.f).map aY).flatten]++(List.range t.basic.length).map (stE t wF 0 0 0)/\U=t.basic.length-o.toNat) (hn_ [0,2,3,4,10,11,12] Z) ⟨o0,CK aF,Z,Z,Z⟩ (fun fr aW aX m _ q=>?_);obtain ⟨o,hS,rfl,rfl,rfl⟩:=q;refine Ub 7 Z fun R d=>?_;refine Uj af U9 ?_;refine Ue U6 ?_;refine Wv (w.getD ⟨0,0,none⟩).block (o.toNat*1) Z Z Z Z Z Z Z Z Z Z (fun Y=>by
   have h:decide (o ≥ 0)=true:=Y.1;have h2:=aV h;obtain ⟨r,L,E,_⟩:=hS.resolve_left om_;exact ⟨S om_,by omega,by omega,Z⟩) Z Z ?_
  refine Wq (v:=.int .i64 (t.bas o.toNat)) ae Z Z Z Z Z Z (fun Y=>by
   have h:decide (o ≥ 0)=true:=Y.1;have h2:=aV h;obtain ⟨r,L,E,_⟩:=hS.resolve_left om_;refine ⟨S om_, ?_⟩;rw [eE fx (show t.basic[o.toNat]?=some (t.bas o.toNat) from yw om_)];rfl) rfl rfl ?_
  refine VL af (fun _=>oR _ b p.n (t.bas o.toNat) _) U9 ?_;refine Ue U6 ?_;refine UD U8 ?_;refine Ug [0,2,3,4,10,11,12,36] d Z ?_;clear d R;refine Ud (fun aa=>?_) fun aa=>?_
  ·have Q:o ≥ 0/\¬ p.n<=t.bas o.toNat:=by simpa using aa
   obtain ⟨aZ,ab⟩:=Q;obtain ⟨r,L,E,ac,ad⟩:=hS.resolve_left om_;subst L;rw [Sb] at ab;refine UB [(8,3)] Z (fun R d=>?_);refine Uh 3 Z ?_;refine Uj af U9 ?_;refine Ue U6 ?_;refine Ul _ U7 ?_;refine U0 (r+1) p.m x U12 (fun _=>⟨.inr ⟨_,Z⟩,.inl ⟨Z,Z⟩,.inl ⟨Z,Z⟩,by omega,T,Qj _⟩) U2 ?_;refine Ue U6 ?_;refine D.call (Ni aA ok (Mem.get X mup) K E T) Z (.inr dc_) U6 (show List.Perm _ (((fe b p.n t (.slice w p.m y) (.slice z p.m x) e l wF).map Lent.ent)++[]) from List.Perm.of_eq (by rw [QI,bh 0 0] <;> rfl)) fl_ (fun a0 _ a1 _ aG=>?_);refine C4 1 [0,2,3,4,5,10,11,12] d Z ?_;clear d R;obtain ⟨⟨o2,rfl,ap⟩,rfl⟩:=aG;refine Ut (L':=[.obj b (.cells ⟨[.int .i64 p.n,(.slice w p.m y),(.slice z p.m x),e,ah (qtx t.worth.c),l]⟩ 212 (0,0)),.arr (.slice w p.m y) 3 1 t.basic.length ((t.basic).map aO).flatten,.arr (.slice z p.m x) 209 2 t.basic.length ((cQ t wF).map bE).flatten,.arr e 3 1 t.others.length ((t.others).map aO).flatten,.arr l 56 1 t.others.length ((t.worth.f).map aY).flatten]++(List.range t.basic.length).map (stE t wF 0 0 0)) (by rw [QI,bh 0 0]) ?_;refine Ua 2 [0,2,3,4,5,10,11,12,47] Z ?_;refine Ud (fun ag=>?_) fun ag=>?_
   ·have ai:o2<0:=aV ag;have hz:∀ i,i<t.basic.length->p.n<=t.bas i->(t.line i).g k=0:=fun i W F=>by
     rcases Nat.lt_trichotomy i r with h1 | h1 | h1
     ·exact ad i h1 F
     ·rw [h1] at F;exact absurd F ab
     have:=yN ap ai (i-(r+1)) om_;rw [show r+1+(i-(r+1))=i by omega] at this;exact Decidable.not_not.1 this
    refine Ua 1 [0,2,3,4,10,11,12] Z ?_;refine Ub 5 Z fun R d=>?_;refine VL af (fun _=>oR _ b p.n k _) U9 ?_;refine Ue U6 ?_;refine UD U8 ?_;refine Ug [0,2,4,10,11,12,59] d Z ?_;clear d R;refine Ud (fun aq=>?_) fun aq=>?_
    ·exact absurd aq am
    refine Uf fun R d=>?_;refine Ul _ U7 ?_;refine C4 1 [0,10,11,12] d Z ?_;clear d R;refine Up (m':=p.n-(k+1)) om_ mup (hn_ [0,10,11,12] Z) ⟨k+1,t,wF,⟨by omega,q,Lp.rel_none d hz⟩,Z,Z,Z⟩
   have ai:¬ o2<0:=Qm ag;obtain ⟨H,rfl,a2,aH,aI⟩:=yM ap ai;have aJ:Qg p t k ((r+(1+H):Nat):Int):=.inr ⟨r+(1+H),rfl,by omega,by rw [show r+(1+H)=r+1+H by omega];exact aH,fun i W F=>by
    rcases Nat.lt_trichotomy i r with h1 | h1 | h1
    ·exact ad i h1 F
    ·rw [h1] at F;exact absurd F ab
    have:=aI (i-(r+1)) om_;rw [show r+1+(i-(r+1))=i by omega] at this;exact Decidable.not_not.1 this⟩
   refine Ub 2 Z fun R d=>?_;refine Ul _ U7 ?_;refine Ul _ U7 ?_;refine C4 1 [0,2,3,4,10,11,12] d Z ?_;clear d R;refine Up (m':=t.basic.length-((r+(1+H):Nat):Int).toNat) om_ mup (hn_ [0,2,3,4,10,11,12] Z) ⟨((r+(1+H):Nat):Int),aJ,Z,Z,Z⟩
  have Q:¬ (o ≥ 0/\¬ p.n<=t.bas o.toNat):=by simpa using aa
  refine Ub 5 Z fun R d=>?_;refine VL af (fun _=>oR _ b p.n k _) U9 ?_;refine Ue U6 ?_;refine UD U8 ?_;refine Ug [0,2,4,10,11,12,59] d Z ?_;clear d R;refine Ud (fun aj=>?_) fun aj=>?_
  ·have I:0<=o:=by
    have I:(decide (0<=o) && !decide (p.n<=k))=true:=aj;simp only [Qu,Qs] at I;exact I.1
   obtain ⟨r,L,E,ac,ad⟩:=hS.resolve_left om_;subst L;rw [Sb] at Q;have aK:p.n<=t.bas r:=by
    apply Decidable.byContradiction;intro h;exact Q ⟨by omega,h⟩
   refine UB [(3,3)] Z (fun R d=>?_);refine Uh 2 Z ?_;refine Uc (bkT X 1) U8 ?_;refine D.call (ue _ hT.m_ b p.n r k (p.n+p.m) t (.slice w p.m y) (.slice z p.m x) e l wF ok aB aC E K ac hq (oy q hl)) Z (.inr dc_) U6 (show List.Perm _ (((fe b p.n t (.slice w p.m y) (.slice z p.m x) e l wF).map Lent.ent)++[]) from List.Perm.of_eq (by rw [QI,bh 0 0] <;> rfl)) fl_ (fun a3 _ a4 _ aL=>?_);refine Ug [0,10,11,12] d Z ?_;clear d R;refine Uf fun R d=>?_;refine Ul _ U7 ?_;refine C4 1 [0,10,11,12] d Z ?_;clear d R;obtain ⟨-,ak,rfl⟩:=aL;refine Ut (L':=[.obj b (.cells ⟨[.int .i64 p.n,(.slice w p.m y),(.slice z p.m x),e,ah (qtx (t.pivot r k).worth.c),l]⟩ 212 (0,0)),.arr (.slice w p.m y) 3 1 (t.pivot r k).basic.length (((t.pivot r k).basic).map aO).flatten,.arr (.slice z p.m x) 209 2 (t.pivot r k).basic.length ((cQ (t.pivot r k) ak).map bE).flatten,.arr e 3 1 (t.pivot r k).others.length (((t.pivot r k).others).map aO).flatten,.arr l 56 1 (t.pivot r k).others.length (((t.pivot r k).worth.f).map aY).flatten]++(List.range (t.pivot r k).basic.length).map (stE (t.pivot r k) ak 0 0 0)) (by rw [QI,bh 0 0]) ?_;refine Up (m':=p.n-(k+1)) om_ mup (hn_ [0,10,11,12] Z) ⟨k+1,t.pivot r k,ak,⟨by omega,q.pivot E K ac,Lp.rel_next ok d E K aK⟩,Z,Z,Z⟩
  have I:¬ 0<=o:=by
   have I:(decide (0<=o) && !decide (p.n<=k))=false:=aj;have al:¬ p.n<=k:=by omega
   simpa [al] using I
  have hz:∀ i,i<t.basic.length->p.n<=t.bas i->(t.line i).g k=0:=by
   rcases hS with ⟨_,h2⟩ | ⟨r,h1,_⟩
   ·exact h2
   omega
  refine Uf fun R d=>?_;refine Ul _ U7 ?_;refine C4 1 [0,10,11,12] d Z ?_;clear d R;refine Up (m':=p.n-(k+1)) om_ mup (hn_ [0,10,11,12] Z) ⟨k+1,t,wF,⟨by omega,q,Lp.rel_none d hz⟩,Z,Z,Z⟩
 have al:k=p.n:=by
  have:=Qm V;omega
 refine Vn Z ?_;exact ⟨Z,t,wF,q,by rw [al] at d;exact d,by rw [bh 0 0]⟩
end Go.Proofs.YthnpijdjlddpmaaGreatDoor
