/- Laws that the proofs of this seat share, part 4. -/
import Derived.Test.YthnpijdjlddpmaaGreatDoorG3
import Derived.Test.YthnpijdjlddpmaaGreatDoorShelf
import Derived.RangeFuncBox
import Derived.RangeFuncLeaves
import Derived.Shelf.Abstract
import Derived.WalkKit
import Derived.OwnWalkIn
import Derived.TacticsInMore
import Derived.LoopNIn
import Derived.LoopIn
import Derived.Test.YthnpijdjlddpmaaGreatDoorProg
set_option maxHeartbeats 4000000
namespace Go.Proofs.YthnpijdjlddpmaaGreatDoor
open Tryz
open Go Go.Jog
set_option maxRecDepth 100000
variable {C:Mem}{i k:Nat}{l:List Nat}{m n:Nat}{s:Str}{u v:Value}{w z:Int}
theorem uy (h:i<l.length):l[i]?=some (g9 l i):=by rw [aj h,vU (aj h)]
theorem iy (h:i<l.length):(l.map bX)[i]?=some (bX (g9 l i)):=by rw [LU,uy h];rfl
theorem HB (h:l.length<=i):g9 l i=0:=by
 unfold g9;rw [ak,LX h];rfl
theorem B9v:B9=1000000000:=rfl
theorem Iu (C:Mem)(z E:Value)(a b:List Nat)(p:Sl C 1 z (a.map bX))(q:Sl C 1 E (b.map bX))(F:Dig9 a)(H:Dig9 b)(N:a.length<=10000000)(O:b.length<=10000000) :
  Pur cx.P 215 [z,E] C fun u C'=>NineC C' u (bj a+bj b):=by
 obtain ⟨A0,c0,rfl,_⟩:=id p;obtain ⟨B0,d0,rfl,_⟩:=id q;simp only [ax] at p q ⊢;have hB:=B9v;refine Ph func215 53 U3 fun w0=>C6 1 [0,1] Z<|C6 5 [0,1,13] Z<|G.cut (fun fr C' k l=>∃ (e lb:List Nat)(A:Option Addr)(c:Nat)(B:Option Addr)(d:Nat),(Sl C' 1 (.slice A e.length c) (e.map bX)/\Sl C' 1 (.slice B lb.length d) (lb.map bX)/\lb.length<=e.length/\bj e+bj lb=bj a+bj b/\Dig9 e/\Dig9 lb/\e.length<=10000000)/\fr=[(0,[],.slice A e.length c),(1,[],.slice B lb.length d)]/\k=[]) ?_ (fun fr _ ai l _ o=>?_)
 ·refine O9 (fun s=>?_) fun s=>?_
  ·have Q:a.length<b.length:=by
    have:(a.length:Int)<b.length:=by simpa using s
    omega
   refine C6 4 [0,1] Z<|Pj 0 (Mem.le.refl _) (hn_ [0,1] Z) ⟨b,a,_,_,_,_,⟨q.mono mup,p.mono mup,by omega,by omega,H,F,O⟩,Z,Z⟩
  ·have Q:¬ a.length<b.length:=fun h=>by
    have:(a.length:Int)<b.length:=by omega
    simp [this] at s
   refine Pj 0 (Mem.le.refl _) (hn_ [0,1] Z) ⟨a,b,_,_,_,_,⟨p.mono mup,q.mono mup,by omega,Z,F,H,N⟩,Z,Z⟩
 ·obtain ⟨e ,lb ,A ,c ,B ,d,⟨S,T,U,V,W,X,aj⟩,rfl,rfl⟩:=o;refine O7 2 Z fun R g=>Pi _ U7<|P3 U9 (LV _) (by show 8*(e.length+1)<=281474976710656;omega) (by simp only [maxLen];omega) fl_ fun ak=>C4 1 [0,1,5] g Z<|C6 1 [0,1,5,6] Z<|C6 3 [1,5,6,20,21,22] Z<|G.loop (fun fr C' k l=>∃ (i:Nat)(out:List Nat)(f:Nat)(w:Value),(i<=e.length/\out.length=i/\Dig9 out/\f<=1/\bj out+B9 ^ i*f=bj (e.take i)+bj (lb.take i))/\fr=[(1,[],.slice B lb.length d),(5,[],w),(6,[],.int .u64 f),(20,[],.slice A e.length c),(21,[],.int .i64 e.length),(22,[],.int .i64 i)]/\k=[.arr w 160 1 i (out.map bX).flatten]/\l=e.length-i) (hn_ [1,5,6,20,21,22] Z) ⟨0,[],0,_,⟨LV _,Z,(fun x Y=>(by cases Y)),by omega,Z⟩,Z,Z,Z⟩ (fun fr al am m _ o=>?_);obtain ⟨i,out,f,w,⟨hi,r,I,J,K⟩,rfl,rfl,rfl⟩:=o;refine C6 1 [1,5,6,20,21,22,23] Z<|O9 (fun t=>?_) fun t=>?_
  ·have v:i<e.length:=by simpa using t
   have aa:=jG W i;have ab:=jG X i;refine O7 1 Z fun R g=>Pm S.m_ U10 om_ (iy (i:=i) v) fl_ fun an ac=>O8 ac U8<|C4 2 [1,5,6,7,8,20,21,22] g Z<|O7 2 Z fun R g=>D.int (((f+g9 e i:Nat):Int)) U4 (by rw [IntKind.wrap_u64];omega) U2<|C4 1 [1,5,6,7,20,21,22] g Z<|C6 4 [1,5,6,7,20,21,22,33] Z<|G.cut (fun fr C' k l=>(True)/\fr=[(1,[],.slice B lb.length d),(5,[],w),(6,[],.int .u64 ((f+g9 e i+g9 lb i:Nat):Int)),(20,[],.slice A e.length c),(21,[],.int .i64 e.length),(22,[],.int .i64 i)]/\k=[.arr w 160 1 i (out.map bX).flatten]) ?_ (fun fr _ ao l _ o=>?_)
   ·refine O9 (fun y=>?_) fun y=>?_
    ·have ad:i<lb.length:=by simpa using y
     refine O7 3 Z fun R g=>Pm T.m_ U10 om_ (iy (i:=i) ad) fl_ fun ap ae=>O8 ae U8<|D.int (((f+g9 e i+g9 lb i:Nat):Int)) U4 (by rw [IntKind.wrap_u64];omega) U2<|C4 1 [1,5,6,20,21,22] g Z<|Pj 0 (Mem.le.refl _) (hn_ [1,5,6,20,21,22] Z) ⟨trivial,Z,Z⟩
    ·have hz:g9 lb i=0:=HB (by have h:¬ i<lb.length:=(by simpa using y);omega);refine Pj 0 (Mem.le.refl _) (hn_ [1,5,6,20,21,22] Z) ⟨trivial,by rw [hz];rfl,Z⟩
   ·obtain ⟨aq,rfl,rfl⟩:=o;refine O7 2 Z fun R g=>P6 (f+g9 e i+g9 lb i) (B9) U6 om_ U2<|Ps [bX ((f+g9 e i+g9 lb i) % B9)] U12 fun ar _ _ af=>D.append (j:=0) U11 af Z (by simp only [aE,maxLen];omega) (by show (i+1)*8<=_;omega) fl_ fun L=>C4 1 [1,5,6,20,21,22] g Z<|O7 1 Z fun R g=>P5 (f+g9 e i+g9 lb i) (B9) U6 om_ (.inr ⟨Z,by omega⟩) U2<|C4 1 [1,5,6,20,21,22] g Z<|Pb fun R g=>Pi _ U7<|C4 1 [1,5,6,20,21,22] g Z ?_;have M:f+g9 e i+g9 lb i=g9 e i+g9 lb i+f:=by omega
    refine Po (L':=[.arr L 160 1 (i+1) ((out++[(g9 e i+g9 lb i+f) % B9]).map bX).flatten]) (by rw [M];simp [bX]) ?_;rw [M];refine Pk (m':=e.length-(i+1)) om_ mup (hn_ [1,5,6,20,21,22] Z) ⟨i+1,out++[(g9 e i+g9 lb i+f) % B9],(g9 e i+g9 lb i+f) / B9,L,⟨by omega,by simp [r],I.snoc (MR _ dc_),Ej aa ab J,Eu r K⟩,Z,Z,Z⟩
  ·have v:i=e.length:=by
    have:¬ i<e.length:=by simpa using t
    omega
   refine Px [(4,3)] Z fun R g=>Pc 2 Z<|Ps [bX f] U12 fun au _ _ ag=>D.append (j:=0) U11 ag Z (by simp only [aE,maxLen];omega) (by show (i+1)*8<=_;omega) fl_ fun av=>D.call (fL _ _ (out++[f]) (n:=i+1) (by simp [r])) Z (.inr dc_) U6 (by rw [My,MK];exact LR _) fl_ (fun aw _ ay _ ah=>?_);obtain ⟨rfl,hu⟩:=ah;refine C4 1 [4] g Z<|Pf U2<|⟨Z,AZ (out++[f]),gH (I.snoc (MS J dc_)), ?_,hu⟩;rw [gG,ic,r,K,v,Mb,MZ U,V]
theorem F0 (C:Mem)(F H:Value)(a b:List Nat)(p:Sl C 1 F (a.map bX))(q:Sl C 1 H (b.map bX))(K:Dig9 a)(I:Dig9 b)(ab:a.length<=10000000)(L:b.length<=a.length)(ac:bj b<=bj a) :
  Pur cx.P 218 [F,H] C fun u C'=>NineC C' u (bj a-bj b):=by
 obtain ⟨r,c0,rfl,_⟩:=id p;obtain ⟨s,t,rfl,_⟩:=id q;simp only [ax] at p q ⊢;have M:=B9v;refine Ph func218 45 U3 fun w0=>C6 1 [0,1] Z<|O7 2 Z fun R d=>P3 U9 (LV _) (by show 8*a.length<=281474976710656;omega) (by simp only [maxLen];omega) fl_ fun ad=>C4 1 [0,1,5] d Z<|C6 1 [0,1,5,6] Z<|C6 3 [1,5,6,13,14,15] Z<|G.loop (fun fr C' e f=>∃ (i:Nat)(out:List Nat)(c:Nat)(w:Value),(i<=a.length/\out.length=i/\Dig9 out/\c<=1/\bj out+bj (b.take i)=bj (a.take i)+B9 ^ i*c)/\fr=[(1,[],.slice s b.length t),(5,[],w),(6,[],.int .u64 c),(13,[],.slice r a.length c0),(14,[],.int .i64 a.length),(15,[],.int .i64 i)]/\e=[.arr w 160 1 i (out.map bX).flatten]/\f=a.length-i) (hn_ [1,5,6,13,14,15] Z) ⟨0,[],0,_,⟨LV _,Z,(fun x N=>(by cases N)),by omega,Z⟩,Z,Z,Z⟩ (fun fr ae af m _ g=>?_);obtain ⟨i,out,c,w,⟨hi,k,v,y,l⟩,rfl,rfl,rfl⟩:=g;refine C6 1 [1,5,6,13,14,15,16] Z<|O9 (fun z=>?_) fun z=>?_
 ·have o:i<a.length:=by simpa using z
  have O:=jG K i;have Q:=jG I i;refine O7 1 Z fun R d=>Pm p.m_ U10 om_ (iy (i:=i) o) fl_ fun ag S=>O8 S U8<|C4 2 [1,5,6,7,8,13,14,15] d Z<|C6 2 [1,5,7,8,9,13,14,15] Z<|C6 4 [1,5,7,8,9,13,14,15,24] Z<|G.cut (fun fr C' e f=>(True)/\fr=[(1,[],.slice s b.length t),(5,[],w),(8,[],.int .u64 (g9 a i)),(9,[],.int .u64 ((c+g9 b i:Nat):Int)),(13,[],.slice r a.length c0),(14,[],.int .i64 a.length),(15,[],.int .i64 i)]/\e=[.arr w 160 1 i (out.map bX).flatten]) ?_ (fun fr _ ah f _ g=>?_)
  ·refine O9 (fun A=>?_) fun A=>?_
   ·have T:i<b.length:=by simpa using A
    refine O7 3 Z fun R d=>Pm q.m_ U10 om_ (iy (i:=i) T) fl_ fun ai U=>O8 U U8<|D.int (((c+g9 b i:Nat):Int)) U4 (by rw [IntKind.wrap_u64];omega) U2<|C4 1 [1,5,8,9,13,14,15] d Z<|Pj 0 (Mem.le.refl _) (hn_ [1,5,8,9,13,14,15] Z) ⟨trivial,Z,Z⟩
   ·have V:g9 b i=0:=HB (by have h:¬ i<b.length:=(by simpa using A);omega);refine Pj 0 (Mem.le.refl _) (hn_ [1,5,8,9,13,14,15] Z) ⟨trivial,by rw [V];rfl,Z⟩
  ·obtain ⟨aj,rfl,rfl⟩:=g;refine C6 1 [1,5,6,8,9,13,14,15] Z<|C6 3 [1,5,6,8,9,13,14,15,33] Z<|G.cut (fun fr C' e f=>(True)/\fr=[(1,[],.slice s b.length t),(5,[],w),(6,[],.int .u64 ((ta (g9 a i) (g9 b i) c:Nat):Int)),(8,[],.int .u64 ((g9 a i+B9*ta (g9 a i) (g9 b i) c:Nat):Int)),(9,[],.int .u64 ((c+g9 b i:Nat):Int)),(13,[],.slice r a.length c0),(14,[],.int .i64 a.length),(15,[],.int .i64 i)]/\e=[.arr w 160 1 i (out.map bX).flatten]) ?_ (fun fr _ ak f _ g=>?_)
   ·refine O9 (fun B=>?_) fun B=>?_
    ·have E:ta (g9 a i) (g9 b i) c=1:=by
      have:(g9 a i:Int)<((c+g9 b i:Nat):Int):=by simpa using B
      unfold ta;rw [aI om_]
     refine O7 1 Z fun R d=>D.int (((g9 a i+B9*1:Nat):Int)) U4 (by rw [IntKind.wrap_u64];omega) U2<|C4 2 [1,5,6,8,9,13,14,15] d Z<|Pj 0 (Mem.le.refl _) (hn_ [1,5,6,8,9,13,14,15] Z) ⟨trivial,by rw [E];rfl,Z⟩
    ·have E:ta (g9 a i) (g9 b i) c=0:=by
      have:¬ (g9 a i:Int)<((c+g9 b i:Nat):Int):=by simpa using B
      unfold ta;rw [aC om_]
     refine Pj 0 (Mem.le.refl _) (hn_ [1,5,6,8,9,13,14,15] Z) ⟨trivial,by rw [E];rfl,Z⟩
   ·obtain ⟨al,rfl,rfl⟩:=g;refine O7 3 Z fun R d=>?_;have am:ta (g9 a i) (g9 b i) c<=1:=Em _ _ _;have W:c+g9 b i<=g9 a i+B9*ta (g9 a i) (g9 b i) c:=by
     unfold ta;split <;> omega
    refine D.int (((D1 (g9 a i) (g9 b i) c:Nat):Int)) U4 (by rw [IntKind.wrap_u64];unfold D1;rw [M] at W ⊢;omega) U2<|Ps [bX (D1 (g9 a i) (g9 b i) c)] U12 fun an _ _ X=>D.append (j:=0) U11 X Z (by simp only [aE,maxLen];omega) (by show (i+1)*8<=_;omega) fl_ fun J=>C4 1 [1,5,6,13,14,15] d Z<|Pb fun R d=>Pi _ U7<|C4 1 [1,5,6,13,14,15] d Z<|Po (L':=[.arr J 160 1 (i+1) ((out++[D1 (g9 a i) (g9 b i) c]).map bX).flatten]) (by simp [bX])<|Pk (m':=a.length-(i+1)) om_ mup (hn_ [1,5,6,13,14,15] Z) ⟨i+1,out++[D1 (g9 a i) (g9 b i) c],ta (g9 a i) (g9 b i) c,J,⟨by omega,by simp [k],v.snoc (Ja O Q y),Em _ _ _,BE I y k l⟩,Z,Z,Z⟩
 ·have o:i=a.length:=by
   have:¬ i<a.length:=by simpa using z
   omega
  refine Px [(1,3)] Z fun R d=>Pa U6<|D.call (fL _ _ out (n:=i) k) Z (.inr dc_) U6 (LR _) fl_ (fun ao _ ap _ Y=>?_);obtain ⟨rfl,hu⟩:=Y;refine C4 1 [4] d Z<|Pf U2<|⟨Z,AZ out,gH v, ?_,hu⟩;rw [o,Mb,MZ L] at l;have h0:=ie v;rw [k,o] at h0;have aa:c=0:=by
   rcases Nat.le_one_iff_eq_zero_or_eq_one.1 y with h | h
   ·exact h
   ·rw [h,NM] at l;omega
  rw [aa,Nat.mul_zero] at l;rw [gG];omega
abbrev qU (g c n:Nat):Value:=.slice (some ⟨g,0,none⟩) n c
theorem Bb (n:Nat):jx ([.int .u64 0]:List Value) n=((List.replicate n 0).map bX).flatten:=by
 rw [eh,OZ];rfl
theorem ou {j z:Nat}(h:i≠j):g9 (l.set i z) j=g9 l j:=by
 unfold g9;rw [ak,ak,List.getElem?_set_ne h]
theorem yn (n j:Nat):g9 (List.replicate n 0) j=0:=by
 unfold g9;rw [ak,Nq];split <;> rfl
theorem EY (C:Mem)(S T:Value)(a b:List Nat)(v:Sl C 1 S (a.map bX))(w:Sl C 1 T (b.map bX))(af:Dig9 a)(ag:Dig9 b)(aq:a.length<=1000000)(ar:b.length<=1000000) :
  Pur cx.P 219 [S,T] C fun u C'=>NineC C' u (bj a*bj b):=by
 obtain ⟨y,c0,rfl,_⟩:=id v;obtain ⟨s,t,rfl,_⟩:=id w;simp only [ax] at v w ⊢;have hB:=B9v;obtain ⟨N,hN⟩:∃ N,a.length+b.length+1=N:=⟨_,rfl⟩;refine Ph func219 79 U3 fun w0=>C6 1 [0,1] Z<|O7 4 Z fun R d=>PN (((a.length+b.length:Nat):Int)) U4 om_ om_ om_ U2<|PN (((N:Nat):Int)) U4 om_ om_ om_ U2<|P3 U9 (LP _) (by show 8*N<=281474976710656;omega) (by simp only [maxLen];omega) fl_ fun f=>C4 1 [0,1,5] d Z<|C6 3 [1,5,19,20,21] Z<|Po (L':=[.arr (qU f N N) 160 1 N ((List.replicate N 0).map bX).flatten]) (by rw [<- Bb];rfl)<|G.loop (fun fr C' g n=>∃ (i:Nat)(o:List Nat),(i<=a.length/\o.length=N/\Dig9 o/\bj o=bj (a.take i)*bj b/\∀ j,i+b.length<=j->g9 o j=0)/\fr=[(1,[],.slice s b.length t),(5,[],qU f N N),(19,[],.slice y a.length c0),(20,[],.int .i64 a.length),(21,[],.int .i64 i)]/\g=[.arr (qU f N N) 160 1 N (o.map bX).flatten]/\n=a.length-i) (hn_ [1,5,19,20,21] Z) ⟨0,List.replicate N 0,⟨LV _,Nd,(fun x l=>by rw [NT l];decide),by rw [pA (fun x l=>NT l)];simp [bj],fun j _=>yn _ j⟩,Z,Z,Z⟩ (fun fr au av m _ p=>?_);obtain ⟨i,o,⟨hi,U,V,W,hz⟩,rfl,rfl,rfl⟩:=p;refine C6 1 [1,5,19,20,21,22] Z<|O9 (fun A=>?_) fun A=>?_
 ·have B:i<a.length:=by simpa using A
  have l:=jG af i;refine O7 1 Z fun R d=>Pm v.m_ U10 om_ (iy (i:=i) B) fl_ fun aw ah=>O8 ah U8<|C4 2 [1,5,6,7,19,20,21] d Z<|C6 1 [1,5,6,7,8,19,20,21] Z<|C6 3 [1,5,6,7,8,19,20,21,26,27,28] Z<|G.loop (fun fr C' g n=>∃ (k:Nat)(q:List Nat)(c:Nat),(k<=b.length/\q.length=N/\Dig9 q/\c<B9/\bj q+B9 ^ (i+k)*c=bj o+B9 ^ i*(g9 a i*bj (b.take k))/\∀ j,i+b.length<=j->g9 q j=0)/\fr=[(1,[],.slice s b.length t),(5,[],qU f N N),(6,[],.int .i64 i),(7,[],.int .u64 (g9 a i)),(8,[],.int .u64 c),(19,[],.slice y a.length c0),(20,[],.int .i64 a.length),(21,[],.int .i64 i),(26,[],.slice s b.length t),(27,[],.int .i64 b.length),(28,[],.int .i64 k)]/\g=[.arr (qU f N N) 160 1 N (q.map bX).flatten]/\n=b.length-k) (hn_ [1,5,6,7,8,19,20,21,26,27,28] Z) ⟨0,o,0,⟨LV _,U,V,by decide,by simp [bj],hz⟩,Z,Z,Z⟩ (fun fr ay az m _ p=>?_);obtain ⟨k,q,c,⟨hk,E,F,H,I,J⟩,rfl,rfl,rfl⟩:=p;refine C6 1 [1,5,6,7,8,19,20,21,26,27,28,29] Z<|O9 (fun K=>?_) fun K=>?_
  ·have L:k<b.length:=by simpa using K
   have hy:=jG ag k;have X:=jG F (i+k);have Y:q[i+k]?=some (g9 q (i+k)):=uy om_;have ai:=pY H l hy X;rw [show B9*B9=1000000000000000000 from rfl] at ai;refine O7 1 Z fun R d=>Pm w.m_ U10 om_ (iy (i:=k) L) fl_ fun aA aj=>O8 aj U8<|C4 2 [1,5,6,7,8,9,10,19,20,21,26,27,28] d Z<|O7 4 Z fun R d=>PN (((i+k:Nat):Int)) U4 om_ om_ om_ U2<|PG ((i+k)*1) U10 (fun _=>⟨by omega,by omega,Z⟩) U2<|PT (.head _) U6 (fun _=>(by rw [ec dK Y];rfl)) U2<|Pc 2 Z<|D.int (((g9 a i*g9 b k:Nat):Int)) U4 (by rw [<- M1,IntKind.wrap_u64];omega) U2<|D.int (((g9 q (i+k)+g9 a i*g9 b k:Nat):Int)) U4 (by rw [IntKind.wrap_u64];omega) U2<|D.int (((c+g9 a i*g9 b k+g9 q (i+k):Nat):Int)) U4 (by rw [IntKind.wrap_u64];omega) U2<|C4 1 [1,5,6,7,8,9,19,20,21,26,27,28] d Z<|O7 3 Z fun R d=>PN (((i+k:Nat):Int)) U4 om_ om_ om_ U2<|Pa U6<|P6 (c+g9 a i*g9 b k+g9 q (i+k)) (B9) U6 om_ U2<|PG ((i+k)*1) U10 (fun _=>⟨by omega,by omega,Z⟩) U2<|PJ (j:=0) U11 (by show (i+k)*1+1<=_;rw [bS dK,E];omega)<|Pd [1,5,6,7,8,19,20,21,26,27,28] d Z<|O7 1 Z fun R d=>P5 (c+g9 a i*g9 b k+g9 q (i+k)) (B9) U6 om_ (.inr ⟨Z,by omega⟩) U2<|C4 1 [1,5,6,7,8,19,20,21,26,27,28] d Z<|Pb fun R d=>Pi _ U7<|C4 1 [1,5,6,7,8,19,20,21,26,27,28] d Z<|Po (L':=[.arr (qU f N N) 160 1 N ((q.set (i+k) ((c+g9 a i*g9 b k+g9 q (i+k)) % B9)).map bX).flatten]) (by rw [<- bK dK _ (by omega:i+k<q.length)];rfl)<|Pk (m':=b.length-(k+1)) om_ mup (hn_ [1,5,6,7,8,19,20,21,26,27,28] Z) ⟨k+1,q.set (i+k) ((c+g9 a i*g9 b k+g9 q (i+k)) % B9),(c+g9 a i*g9 b k+g9 q (i+k)) / B9,⟨by omega,by simp [E],F.set (MR _ dc_),Ei H l hy X,CT Y Z I,fun j r=>by rw [ou om_];exact J j r⟩,Z,Z,Z⟩
  ·have L:k=b.length:=by
    have:¬ k<b.length:=by simpa using K
    omega
   refine O7 3 Z fun R d=>PN (((i+b.length:Nat):Int)) U4 om_ om_ om_ U2<|C4 1 [1,5,8,11,19,20,21] d Z<|G.loop (fun fr C' g n=>∃ (m:Nat)(e:List Nat)(c2:Nat),(i+b.length<=m/\m<=i+b.length+1/\e.length=N/\Dig9 e/\c2<B9/\(m=i+b.length+1->c2=0)/\(m=i+b.length->g9 e m=0)/\bj e+B9 ^ m*c2=bj o+B9 ^ i*(g9 a i*bj b)/\∀ j,i+b.length+1<=j->g9 e j=0)/\fr=[(1,[],.slice s b.length t),(5,[],qU f N N),(8,[],.int .u64 c2),(11,[],.int .i64 m),(19,[],.slice y a.length c0),(20,[],.int .i64 a.length),(21,[],.int .i64 i)]/\g=[.arr (qU f N N) 160 1 N (e.map bX).flatten]/\n=2-(m-(i+b.length))) (hn_ [1,5,8,11,19,20,21] Z) ⟨i+b.length,q,c,⟨LP _,by omega,E,F,H,fun h=>by omega,fun _=>J _ (LP _),by rw [L,Mb] at I;exact I,fun j r=>J j om_⟩,Z,Z,Z⟩ (fun fr aB aC m _ p=>?_);obtain ⟨m,e,c2,⟨aD,aE,M,aa,O,ak,al,ab,ac⟩,rfl,rfl,rfl⟩:=p;refine C6 2 [1,5,8,11,19,20,21,60] Z<|O9 (fun h60=>?_) fun h60=>?_
   ·have ad:0<c2:=by
     have:(0:Int)<(c2:Int):=by simpa using h60
     omega
    have am:m=i+b.length:=by
     rcases Mw m (i+b.length+1) with h | h
     ·omega
     ·have:=ak om_;omega
    have Q:=al am;have ae:e[m]?=some (g9 e m):=uy om_;refine O7 3 Z fun R d=>PG (m*1) U10 (fun _=>⟨by omega,by omega,Z⟩) U2<|PT (.head _) U6 (fun _=>(by rw [ec dK ae];rfl)) U2<|D.int (((c2+g9 e m:Nat):Int)) U4 (by rw [IntKind.wrap_u64];omega) U2<|C4 1 [1,5,8,11,19,20,21] d Z<|O7 3 Z fun R d=>P6 (c2+g9 e m) (B9) U6 om_ U2<|PG (m*1) U10 (fun _=>⟨by omega,by omega,Z⟩) U2<|PJ (j:=0) U11 (by show m*1+1<=_;rw [bS dK,M];omega)<|Pd [1,5,8,11,19,20,21] d Z<|O7 1 Z fun R d=>P5 (c2+g9 e m) (B9) U6 om_ (.inr ⟨Z,by omega⟩) U2<|C4 1 [1,5,8,11,19,20,21] d Z<|O7 1 Z fun R d=>Pi _ U7<|C4 1 [1,5,8,11,19,20,21] d Z ?_;have an:(c2+g9 e m) % B9=c2:=by rw [Q,NF];exact NX O
    have ao:(c2+g9 e m) / B9=0:=by rw [Q,NF];exact NY O
    refine Po (L':=[.arr (qU f N N) 160 1 N ((e.set m c2).map bX).flatten]) (by rw [an,<- bK dK _ (by omega:m<e.length)];rfl) ?_;rw [ao];refine Pk (m':=2-(m+1-(i+b.length))) om_ mup (hn_ [1,5,8,11,19,20,21] Z) ⟨m+1,e.set m c2,0,⟨by omega,by omega,by simp [M],aa.set O,by decide,fun _=>rfl,fun h=>by omega,by
     have h1:=rn (z:=c2) ae;rw [Q] at h1;omega,fun j r=>by rw [ou om_];exact ac j r⟩,rfl,rfl,rfl⟩
   ·have ad:c2=0:=by
     have:¬ (0:Int)<(c2:Int):=by simpa using h60
     omega
    refine Pb fun R d=>Pi _ U7<|C4 1 [1,5,19,20,21] d Z<|Pk (m':=a.length-(i+1)) om_ mup (hn_ [1,5,19,20,21] Z) ⟨i+1,e,⟨by omega,M,aa,by
     rw [ad,Nat.mul_zero,NF] at ab;rw [kP,Nx,<- W,N3];exact ab,fun j r=>ac j om_⟩,Z,Z,Z⟩
 ·have B:i=a.length:=by
   have:¬ i<a.length:=by simpa using A
   omega
  refine Px [(1,3)] Z fun R d=>Pa U6<|D.call (fL _ _ o U) Z (.inr dc_) U6 (LR _) fl_ (fun aF _ aG _ ap=>?_);obtain ⟨rfl,hu⟩:=ap;refine C4 1 [4] d Z<|Pf U2<|⟨Z,AZ o,gH V, ?_,hu⟩;rw [gG,W,B,Mb]
theorem qP (h:vn l)(a:bj l<B9 ^ m):l.length<=m:=by
 rcases Mw m l.length with h1 | h1
 ·have h2:=sL h om_;have h3:B9 ^ m<=B9 ^ (l.length-1):=Mt dc_ om_;omega
 ·exact h1
theorem NineC.get (h:NineC C v n)(a:n<B9 ^ m):∃ l,vn l/\bj l=n/\l.length<=m/\Sl C 1 v (l.map bX):=by
 obtain ⟨l,h1,h2,h3⟩:=h;exact ⟨l,h1,h2,qP h1 (by rw [h2];exact a),h3⟩
theorem NineC.zero (C:Mem):NineC C (.slice none 0 0) 0:=⟨[],⟨(fun x a=>(by cases a)),by simp⟩,rfl,Sl.nil C 1⟩
theorem NineC.form (h:NineC C v n):∃ A m c,v=.slice A m c:=by
 obtain ⟨l,_,_,A,c,h,_⟩:=h;exact ⟨A,_,c,h⟩
theorem da (h:m<B9 ^ n)(a:n<=k):m<B9 ^ k:=MV h (Mt dc_ a)
theorem nR (C:Mem)(c:NineC C u m)(d:NineC C v n):Gives cx.P 217 [u,v] C (.int .i64 (iQ m n)):=by
 obtain ⟨a,h1,h2,h3⟩:=c;obtain ⟨b,h4,h5,e⟩:=d;rw [<- h2,<- h5];exact CL C u v a b h3 e h1 h4
theorem Ho (C:Mem)(c:NineC C u m)(d:NineC C v n)(e:m<B9 ^ k)(f:n<B9 ^ k)(i:k<=1000000):Pur cx.P 215 [u,v] C fun w D=>NineC D w (m+n):=by
 obtain ⟨a,h1,h2,h3,h4⟩:=c.get e;obtain ⟨b,h5,g,j,h⟩:=d.get f;rw [<- h2,<- g];exact Iu C u v a b h4 h h1.1 h5.1 om_ om_
theorem rW (C:Mem)(c:NineC C u m)(d:NineC C v n)(e:m<B9 ^ k)(i:n<=m)(j:k<=1000000):Pur cx.P 218 [u,v] C fun w D=>NineC D w (m-n):=by
 obtain ⟨a,h1,h2,h3,h4⟩:=c.get e;obtain ⟨b,h5,f,g⟩:=d;rw [<- h2,<- f];refine F0 C u v a b h4 g h1.1 h5.1 om_ ?_ om_;rcases Mw a.length b.length with h | h
 ·have:=sb h1.1 h5 h;omega
 ·exact h
theorem Bx (C:Mem)(c:NineC C u m)(d:NineC C v n)(e:m<B9 ^ k)(f:n<B9 ^ k)(i:k<=1000000):Pur cx.P 219 [u,v] C fun w D=>NineC D w (m*n):=by
 obtain ⟨a,h1,h2,h3,h4⟩:=c.get e;obtain ⟨b,h5,g,j,h⟩:=d.get f;rw [<- h2,<- g];exact EY C u v a b h4 h h1.1 h5.1 om_ om_
theorem tr (C:Mem)(a:Dig9 l)(b:Sl C 1 u (l.map bX)):Pur cx.P 252 [u] C fun w D=>NineC D w (bj l) :=
 (xk C u l b).mono fun _c _d _e _ ⟨h1,h2⟩=>⟨h1,AZ l,gH a,gG l,h2⟩
theorem vB (C:Mem){d:Nat}(a:NineC C u m)(f:m<B9 ^ k)(g:d<B9)(p:k<=999999):Pur cx.P 279 [u,.int .u64 d] C fun w D=>NineC D w (m*d):=by
 obtain ⟨A,n,c,rfl⟩:=a.form;refine Ph func279 10 U3 fun w0=>C6 1 [0,1] Z<|O7 2 Z fun R h=>Ps [bX d] U12 fun q _ _ i=>PI (tr _ (l:=[d]) (fun x j=>by rw [Mn.1 j];exact g) i) U7 fl_ fun r _ _ o=>PI (Bx (k:=k+1) _ a.m_ o (da f om_) (by show d+B9*0<_;rw [M7];have:0<B9 ^ k:=N9 dc_;have h2:=MG B9 this;omega) om_) U7 fl_ fun s _ _ b=>C4 1 [4] h Z<|Pf U2<|⟨Z, ?_⟩;have e:bj [d]=d:=by show d+B9*0=d;omega
 rw [e] at b;exact b
open Go Go.Jog Go.RowKit Go.Shelf
attribute [local go_sem] Oper.semAt_some
set_option maxRecDepth 100000 in
theorem GP (l Bs b off len cap:Nat)(zs:Nat->Int)(hlen:len<1000000)(J:Nat->World->Prop)
  (hJ:∀ k W,J k W->W.cell? ⟨Bs,0,none⟩=some (.slice (some ⟨b,off,none⟩) len cap)/\∀ j,j<len->W.cell? ⟨b,off+j,none⟩=some (.int .u64 (zs j)))
  (hY:∀ k W,J k W->k<len->YieldAt Fence.wide 1 Tryz.prog l #[.int .i64 ((len-1-k:Nat):Int),.int .u64 (zs (len-1-k))] W fun e W'=>e=.returned (.bool true)/\J (k+1) W')
  (W:World) (h0:J 0 W) :
  CallsIn Fence.wide 2 Tryz.prog 285 #[.func (.yield l) #[] #[],.pointer (some ⟨Bs,0,none⟩)] W fun e W'=>(∃ v,e=.returned v)/\J len W':=by
 refine callsIn_of_wp func285 Z trivial ?_ Z;simp only [Tryz.ntmps285,NG,Ml,MM,Nat.reduceAdd,Nat.reduceSub,OO,OP,List.push_toArray,List.append_toArray,Nu,ND];have hBs:=(hJ 0 W h0).1
 gi_wp2
 gi_loopw [3] (fun i wr=>∃ k:Nat,k<=len/\i=.int .i64 ((len:Int)-1-k)/\J k wr) (fun i _=>(intOf i+1).toNat)
 case atStart=>exact ⟨0,LV _,by simp,h0⟩
 case round =>
  obtain ⟨k,hk,rfl,hJs⟩:=hrel;obtain ⟨hB2,hcx⟩:=hJ k wr hJs;by_cases hlt:k<len
  ·obtain ⟨fn,tmps,assign,body,hy,hR⟩:=hY k wr hJs hlt;have hcx':=hcx (len-1-k) om_;have e1:((len-1-k:Nat):Int)=(len:Int)-1-k:=by omega
   rw [e1] at hy
   gi_wp2
   refine hR.mono ?_;rintro e W3 ⟨rfl,hJ3⟩
   gi_wp2
   go_roundw
   case rel=>exact ⟨k+1,by omega,by congr 1;omega,hJ3⟩
   case measure=>simp [intOf];omega
  ·obtain rfl:k=len:=by omega
   gi_wp2
   go_end0
   exact ⟨⟨_,Z⟩,hJs⟩
set_option maxRecDepth 100000 in
theorem uX (l Bs:Nat)(A:Option Addr)(cap:Nat)(J:Nat->World->Prop)(W:World)(hBs:W.cell? ⟨Bs,0,none⟩=some (.slice A 0 cap))(h0:J 0 W) :
  CallsIn Fence.wide 2 Tryz.prog 285 #[.func (.yield l) #[] #[],.pointer (some ⟨Bs,0,none⟩)] W fun e W'=>(∃ v,e=.returned v)/\J 0 W':=by
 refine callsIn_of_wp func285 Z trivial ?_ Z;simp only [Tryz.ntmps285,NG,Ml,MM,Nat.reduceAdd,Nat.reduceSub,OO,OP,List.push_toArray,List.append_toArray,Nu,ND]
 gi_wp2
 gi_loopw [3] (fun i wr=>i=.int .i64 (-1)/\J 0 wr) (fun _ _=>0)
 case atStart=>exact ⟨rfl,h0⟩
 case round =>
  obtain ⟨rfl,hJs⟩:=hrel
  gi_wp2
  go_end0
  exact ⟨⟨_,Z⟩,hJs⟩
def Eo (xs:List Nat):List (Value × Value):=(List.range xs.length).map fun k=>(.int .i64 ((xs.length-1-k:Nat):Int),.int .u64 ((xs.getD (xs.length-1-k) 0:Nat):Int))
theorem fg (a:List Nat):(Eo a).length=a.length:=by simp [Eo]
theorem sP {a:List Nat}(h:k<a.length):(Eo a)[k]?=some (.int .i64 ((a.length-1-k:Nat):Int),.int .u64 ((a.getD (a.length-1-k) 0:Nat):Int)):=by
 simp [Eo,h]
theorem qQ (C:Mem)(b t:Nat)(v:Value)(a:List Nat)(p:C b=some (.cells ⟨[v]⟩ t (0,0)))(q:Sl C 1 v (a.map fun n:Nat=>[Value.int .u64 (n:Int)]))(r:a.length<1000000) :
  K4 Tryz.prog 285 #[.pointer (some ⟨b,0,none⟩)] C (Eo a):=by
 intro l J W hC B s h0;obtain ⟨A,d,rfl,D,_,_,e⟩:=q;rw [ax] at *;have f:∀ {W:World}{k:Nat},J k W->W.cell? ⟨b,0,none⟩=some (.slice A a.length d):=fun {W k} c=>by
  simp [World.cell?,hC k W c b _ p]
 rw [fg];rcases NL a.length with h | h
 ·have h1:=f h0;rw [h] at h1 ⊢;exact uX l b A d J W h1 h0
 ·obtain ⟨u,rfl,g,_⟩:=e 0 _ (aj (by simpa using h));obtain ⟨i,w,E⟩:=u;simp only at g;subst g;refine GP l b i w a.length d (fun j=>((a.getD j 0:Nat):Int)) r J (fun k W c=>⟨f c,fun j x=>?_⟩) (fun k W c y=>s k _ W c (sP y)) W h0;have h3:(a.map fun n:Nat=>[Value.int .u64 (n:Int)])[j]?=some [Value.int .u64 ((a.getD j 0:Nat):Int)]:=by
   simp [x]
  obtain ⟨a2,h4,_,h5⟩:=e j _ h3;cases h4
  have m:=h5 0 _ rfl;rw [Addr.add_lit] at m;obtain ⟨_,blk,F,fz,o,z⟩:=m;simp only at o;simp only [World.cell?,hC k W c i _ o];simpa using z
theorem yI (C:Mem)(A:Option Addr)(n c:Nat):Pur cx.P 254 [.slice A n c] C fun r C'=>∃ b,r=.func (.func 285) #[] #[.pointer (some ⟨b,0,none⟩)]/\C' b=some (.cells ⟨[.slice A n c]⟩ 305 (0,0)):=by
 exact Ph func254 4 U3 fun w0=>Pb fun R a=>Pr U6 fun e=>C4 1 [1] a Z<|C6 2 [2] Z<|G.freeze 0 Z fun f g d=>Pf U2<|⟨Z,_,Z,d⟩
theorem zP (C:Mem)(s:Str)(c:UInt8):Gives cx.P 300 [al s,.int .u8 c.toNat] C (.int .i64 (Lib.indexByte s c)):=by
 have h:=Gives.ofCalls (f:=300) (args:=[al s,.int .u8 c.toNat]) (P:=cx.P) kr_ (fun w=>Any.stringslite_IndexByte Tryz.idxByte ⟨s.toArray⟩ (c.toNat:Int) w) C;simpa using h
theorem Dz (C:Mem)(s:Str)(c:UInt8):Gives cx.P 277 [al s,al [c]] C (.int .i64 (Lib.indexByte s c)):=by
 refine Ph func277 143 U3 fun w0=>C6 1 [0,1] Z<|C6 3 [0,1,5] Z<|O7 6 Z fun R a=>PD U8<|C4 1 [0,1,5,16] a Z<|O9 (fun b=>?_) fun b=>?_
 ·refine C6 1 [4] Z<|Pf U2<|⟨?_,Z⟩;have h:([c]:Str)=s:=by simpa using b
  subst h;simp [Lib.indexByte]
 ·refine C6 3 [0,1,5,24] Z<|O9 (fun d=>?_) fun d=>?_
  ·exact O7 2 Z fun R a=>PY U8 (fun _=>⟨by omega,(rfl:([c]:Str)[(0:Int).toNat]?=some c)⟩) U2<|Pn (zP _ s c) U7<|C4 1 [4] a Z<|Pf U2<|⟨Z,Z⟩
  ·exact absurd d (by simp)
theorem Jg (C:Mem)(s:Str)(c:UInt8)(g:s.length<1000000):Gives cx.P 246 [al s,al [c]] C (.tuple #[al (jb c s).1,al ((jb c s).2.getD []),.bool (jb c s).2.isSome]):=by
 refine Ph func246 23 U3 fun w0=>C6 3 [0,1] Z<|O7 2 Z fun R b=>Pn (Dz _ s c) U7<|C4 1 [0,1,7] b Z<|C6 2 [0,1,7,12] Z<|O9 (fun d=>?_) fun d=>?_
 ·have h0:0<=Lib.indexByte s c:=by simpa using d
  obtain ⟨a,post,h1,h2,h3⟩:=GB h0;have h:s.length=a.length+1+post.length:=by rw [h2];simp;omega
  rw [h1,h3];refine Pv [0,1,2,3,4,5,6,7,8,9,10,11] [] Z kr_ fun R i b=>Pc 2 Z<|P2 0 a.length U9 (fun _=>⟨.inl ⟨Z,Z⟩,.inr ⟨_,Z⟩,.inl ⟨Z,Z⟩,by omega,by omega,LP _⟩) U2<|Pc 4 Z<|PN (((a.length+1:Nat):Int)) U4 (by simp) om_ om_ U2<|P2 (a.length+1) s.length U9 (fun _=>⟨.inr ⟨_,Z⟩,.inl ⟨Z,Z⟩,.inl ⟨Z,Z⟩,by omega,LP _,LP _⟩) U2<|C4 3 [4,5,6] b Z<|Pl (G.dropAll (P1 U4 ?_));refine ⟨?_,Z⟩;have e:(s.take a.length).drop 0=a:=by rw [h2];simp
  have f:(s.take s.length).drop (a.length+1)=post:=by rw [Mb,h2];simp
  rw [e,f];rfl
 ·have h0:¬ 0<=Lib.indexByte s c:=by simpa using d
  rw [D8 h0];refine C6 4 [4,5,6] Z<|Pl (G.dropAll (P1 U4 ?_));exact ⟨Z,Z⟩
theorem HJ (C:Mem)(s:Str)(c:UInt8)(a:s.length<1000000):Gives cx.P 206 [al s,al [c]] C (.tuple #[al (jb c s).1,al ((jb c s).2.getD []),.bool (jb c s).2.isSome]):=by
 refine Ph func206 13 U3 fun w0=>C6 3 [0,1] Z<|O7 2 Z fun R b=>Pn (Jg _ s c a) U7<|C4 6 [4,5,6] b Z<|Pl (G.dropAll (P1 U4 ?_));exact ⟨Z,Z⟩
theorem vS (C:Mem)(s:Str)(c:UInt8):Gives cx.P 280 [al s,al [c]] C (.bool (cK c s).2):=by
 refine Ph func280 18 U3 fun w0=>C6 1 [0,1] Z<|O7 9 Z fun R d=>P2 0 1 U9 (fun e=>⟨.inl ⟨Z,Z⟩,.inr ⟨_,Z⟩,.inl ⟨Z,Z⟩,by omega,(by have h:decide ((1:Int)<=(s.length:Int))=true:=e.1;simp at h;omega),LP _⟩) U2<|Pc 2 Z<|Pz U8<|C4 1 [4] d Z<|Pf U2<|⟨?_,Z⟩;cases s with
 | nil=>rfl
 | cons b s =>
  have h1:decide ((1:Int)<=((b::s).length:Nat))=true:=by simp;omega
  unfold cK;by_cases a:b=c
  ·subst a;simp;omega
  ·simp [a]
theorem GA (C:Mem)(s:Str)(c:UInt8):Gives cx.P 278 [al s,al [c]] C (.tuple #[al (cK c s).1,.bool (cK c s).2]):=by
 refine Ph func278 15 U3 fun w0=>C6 2 [0,1] Z<|O7 2 Z fun R d=>Pn (vS _ s c) U7<|C4 1 [0,1,9] d Z<|O9 (fun a=>?_) fun a=>?_
 ·have h:¬ s.head?=some c:=fun h=>by unfold cK at a;rw [aI h] at a;cases a
  refine C6 3 [4,5] Z<|Pl (G.dropAll (PE U3 ?_));unfold cK;rw [aC h];exact ⟨Z,Z⟩
 ·have h:s.head?=some c:=Mu fun h=>by unfold cK at a;rw [aC h] at a;cases a
  have e:1<=s.length:=by cases s with
   | nil=>cases h
   | cons b s=>simp
  refine O7 3 Z fun R d=>P2 1 s.length U9 (fun _=>⟨.inr ⟨_,Z⟩,.inl ⟨Z,Z⟩,.inl ⟨Z,Z⟩,by omega,LP _,LP _⟩) U2<|C4 2 [4,5] d Z<|Pl (G.dropAll (PE U3 ?_));unfold cK;rw [aI h];refine ⟨?_,Z⟩;rw [Mb,List.drop_one];rfl
theorem D7 (C:Mem)(s:Str)(c:UInt8):Gives cx.P 247 [al s,al [c]] C (.tuple #[al (cK c s).1,.bool (cK c s).2]):=by
 refine Ph func247 11 U3 fun w0=>C6 2 [0,1] Z<|O7 2 Z fun R a=>Pn (GA _ s c) U7<|C4 4 [4,5] a Z<|Pl (G.dropAll (PE U3 ?_));exact ⟨Z,Z⟩
structure Tabs (C:Mem):Prop where
 pow : VarC cx.P C "internal/strconv.uint64pow10" (Lib.pow10Tab.map fun z => Value.int .u64 z).toArray
 db : VarC cx.P C "math/bits.deBruijn64tab" (Lib.deBruijn64tab.map fun z : Nat => Value.int .u8 (z : Int)).toArray
theorem Tabs.mono {C D:Mem}(h:Tabs C)(a:C.le D):Tabs D:=⟨h.pow.mono a,h.db.mono a⟩
theorem Tabs.m_ {D:Mem}(h:Tabs C)(a:C.le D:=by exact mup):Tabs D:=Tabs.mono h a
theorem Kw (C:Mem)(a:Tabs C)(n:Int)(b:-9223372036854775808<=n)(c:n<=9223372036854775807):Gives cx.P 123 [.int .i64 n] C (al (Lib.itoa n)) :=
 IT Tryz.itoa n b c C a.pow kr_
structure FV where
 b:Bool
 A:Option Addr
 n:Nat
 c:Nat
 A2:Option Addr
 n2:Nat
 c2:Nat
def uS (s:Str):Bool:=(cK 45 s).1.all eM && !((cK 45 s).1 == []) && !((cK 45 s).1.head? == some 48 && ((cK 45 s).2 || decide (1<(cK 45 s).1.length)))
def cm (s:Str):Bool:=uS s && decide ((cK 45 s).1.length<=200)
theorem sd (C:Mem)(a:Tabs C)(z:Int)(b:-9223372036854775808<=z)(c:z<=9223372036854775807):Gives cx.P 123 [.int .i64 z] C (al (txt z)):=by
 have h:=Kw C a z b c
 rwa [Gf] at h
theorem iY (h:n<10 ^ k)(a:0<k):(bP n).length<=k:=by
 apply Mu;intro b;have h1:=mH (bN n).1 om_;rw [(bN n).2] at h1;have h2:10 ^ k<=10 ^ ((bP n).length-1):=Mt dc_ om_;omega
def sgZ (m:Bool)(n:Nat):Int:=if m then -(n:Int) else n
theorem G8 (m:Bool)(n:Nat)(h:m=true->0<n):txt (sgZ m n)=if m then 45::bP n else bP n:=by
 unfold txt sgZ;cases m with
 | false=>simp
 | true=>have:=h rfl;simp;omega
def gI (p:List Int)(i:Nat):Int:=p.getD i 0
structure Joins (p q:List Nat)(k:Int)(i:Nat)(o:List Int):Prop where
 len:o.length=max p.length i
 val:valI o=(K7 p:Nat)+k*(K7 (q.take i):Nat)
 rest:∀ j,i<=j->gI o j=(gP p j:Nat)
 lim:∀ x∈o, -100000000<=x/\x<=100000000
theorem gD (x:Nat):(aU x).length=1:=rfl
theorem dv (z:Int):cK 45 (txt z)=(bP z.natAbs,decide (z<0)):=by
 unfold txt;split
 ·rename_i h;rw [Mc h];rfl
 ·rename_i h;rw [Mk h];unfold cK;rw [aC];intro h0;have h1:=(bN z.natAbs).1.1 45 (List.mem_of_mem_head? h0);revert h1;decide
theorem xh (z:Int):txt z=[48] ↔ z=0:=by
 constructor
 ·intro h;have h1:(cK 45 (txt z)).1=[48]:=by rw [h];rfl
  rw [dv] at h1;have h2:=(bN z.natAbs).2;have h3:bP z.natAbs=[48]:=h1;rw [h3] at h2;have h4:cR [48]=0:=rfl;omega
 ·rintro rfl;unfold txt;rw [aC om_,show bP (0:Int).natAbs=bP 0 from rfl,bP];rfl
theorem xi (z:Int):((⟨(txt z).toArray⟩:ByteArray).data.toList == (⟨#[48]⟩:ByteArray).data.toList)=decide (z=0):=by
 show (txt z == [48])=_;rw [KD,MH];exact xh z
theorem gc (n:Nat):txt (n:Int)=bP n:=by
 unfold txt;rw [aC om_];rfl
theorem H3 (h:decide (z<0)=decide (w<0)):sgZ (decide (z<0)) (z.natAbs+w.natAbs)=z+w:=by
 rw [MH] at h;unfold sgZ;by_cases a:z<0
 ·have:=h.1 a;rw [Mc a,aI rfl];omega
 ·have:¬ w<0:=fun h1=>a (h.2 h1);rw [Mk a,aC (by simp)];omega
theorem H4 (h:decide (z<0)≠decide (w<0))(b:¬ z.natAbs<w.natAbs):sgZ (decide (z<0)) (z.natAbs-w.natAbs)=z+w:=by
 rw [ne_eq,MH] at h;unfold sgZ;by_cases a:z<0
 ·have:¬ w<0:=fun h1=>h ⟨fun _=>h1,fun _=>a⟩;rw [Mc a,aI rfl];omega
 ·have:w<0:=Mu fun h1=>h ⟨fun h2=>absurd h2 a,fun h2=>absurd h2 h1⟩;rw [Mk a,aC (by simp)];omega
def gW (s:Str):Int:=sgZ (cK 45 s).2 (cR (cK 45 s).1)
theorem uT {t:Str}(h:yU t):t.head?=some 48 ↔ cR t=0:=by
 constructor
 ·intro h0;have h1:=h.2.2 h0;cases t with
  | nil=>cases h0
  | cons b t =>
   have a:b=48:=by simpa using h0
   have d:t=[]:=by cases t with
    | nil=>rfl
    | cons c t=>simp at h1
   subst a d;rfl
 ·intro h0;have:=oM h (bN 0).1 (by rw [h0,(bN 0).2]);rw [this,bP];rfl
theorem uR :uS s=true ↔ yU (cK 45 s).1/\((cK 45 s).2=true->0<cR (cK 45 s).1):=by
 obtain ⟨t,neg,d⟩:∃ t b,cK 45 s=(t,b):=⟨_,_,rfl⟩;unfold uS;rw [d];simp only [L3,NU,M5,ne_eq,Mg,Bool.and_eq_false_imp,Nh,Nb,Mf];constructor
 ·rintro ⟨⟨h1,h2⟩,h3⟩;have a:yU t:=⟨h1,h2,fun h=>by
   have:=(h3 h).2;have:0<t.length:=MD.2 h2;omega⟩
  refine ⟨a,fun c=>?_⟩;rcases NL (cR t) with h | h
  ·have:=(h3 ((uT a).2 h)).1;rw [c] at this;cases this
  ·exact h
 ·rintro ⟨a,h⟩;refine ⟨⟨a.1,a.2.1⟩,fun h0=>?_⟩;have h1:=(uT a).1 h0;have h2:=a.2.2 h0;refine ⟨?_,by omega⟩;cases c:neg with
  | false=>rfl
  | true=>have:=h c;omega
theorem DR (s:Str):s=if (cK 45 s).2 then 45::(cK 45 s).1 else (cK 45 s).1:=by
 unfold cK;split
 ·rename_i h;cases s with
  | nil=>cases h
  | cons b s =>
   have a:b=45:=by simpa using h
   subst a;rfl
 ·rfl
theorem Ek (h:uS s=true):s=txt (gW s):=by
 obtain ⟨h1,h2⟩:=uR.1 h;unfold gW;rw [G8 _ _ h2,<- yF h1];exact DR s
def nC (zn:Int):Option Str->Bool
 | none=>true
 | some b=>decide (1<gW b) && !(zn == 0) && (Nat.gcd zn.natAbs (gW b).natAbs == 1)
def bd (s:Str):Bool:=cm (jb 47 s).1 && cm ((jb 47 s).2.getD [49]) && nC (gW (jb 47 s).1) (jb 47 s).2
theorem pI :cm s=true ↔ okD (cK 45 s).1=true/\((cK 45 s).2=true->0<cR (cK 45 s).1):=by
 unfold cm;rw [L3,uR,vI,LY];constructor
 ·rintro ⟨⟨h1,h2⟩,h3⟩;exact ⟨⟨h1,h3⟩,h2⟩
 ·rintro ⟨⟨h1,h3⟩,h2⟩;exact ⟨⟨h1,h2⟩,h3⟩
theorem Gy (s:Str):(gW s).natAbs=cR (cK 45 s).1:=by
 unfold gW sgZ;split <;> omega
theorem Ca (h:s.length<=n):(jb 47 s).1.length<=n/\((jb 47 s).2.getD [49]).length<=n+1:=by
 rcases fV 47 s with ⟨h1,_⟩ | ⟨a,post,h1,h2,_⟩
 ·rw [h1];exact ⟨h,by simp⟩
 ·have e:=congrArg List.length h2;rw [LZ,Ml] at e;rw [h1];simp only [M9];omega
theorem one_val:([49]:Str)=txt 1:=by
 unfold txt;rw [aC om_,show bP (1:Int).natAbs=bP 1 from rfl,bP];rfl
theorem yx (n:Nat):((⟨(bP n).toArray⟩:ByteArray).data.toList == (⟨#[49]⟩:ByteArray).data.toList)=(n == 1):=by
 show (bP n == [49])=_;rw [KD,OQ,LY,Nh];constructor
 ·intro h;have h2:=(bN n).2;rw [h] at h2;exact h2.symm
 ·rintro rfl;rw [bP];rfl
theorem CF (C:Mem)(s:Str)(d:∀ c∈s,eM c=true)(e:s≠[])(f:s.length<=18):Gives cx.P 251 [al s,.int .i64 10,.int .i64 64] C (.tuple #[.int .u64 (cR s),.nilIface]):=by
 refine Ph func251 26 U3 fun w0=>C6 2 [0,1,2] Z<|O7 3 Z fun R a=>Pp (CE Tryz.parseU s d e f _ kr_) U7 fl_<|C4 5 [0,1,2,8,9] a Z<|O7 1 Z fun R a=>QR false Z Z Z Z Z (.inr ⟨Z,Z⟩) kr_ Z Z<|Pd [0,1,2,8,9,18] a Z<|O9 (fun b=>?_) fun b=>?_
 ·cases b
 ·refine C6 3 [6,7] Z<|Pl (G.dropAll (PE U3 ?_));exact ⟨Z,Z⟩
theorem zh (C:Mem)(i:Nat)(h:i<100):Gives cx.P 269 [.int .i64 i] C (al (bP i)):=by
 have h1:=Gives.ofCalls (f:=269) (args:=[.int .i64 i]) (P:=cx.P) kr_ (fun w=>Any.internal_strconv_small Tryz.small10 i h w) C;rw [dL] at h1;exact h1
theorem ya (u:Nat):Lib.nDigits u=(bP u).length:=by rw [<- dL,Lib.decDigits_length]
theorem zT (C:Mem)(l:Tabs C)(u:Nat)(s:u<9223372036854775808):Gives cx.P 286 [.int .u64 u,.int .i64 10] C (al (bP u)):=by
 refine Ph func286 32 U3 fun w0=>C6 1 [0,1] Z<|C6 2 [0,1,10] Z<|O9 (fun g=>?_) fun g=>?_
 ·refine C6 2 [0,12] Z<|O9 (fun e=>?_) fun e=>?_
  ·have h:u<100:=by
    have:(u:Int)<100:=by simpa using e
    omega
   exact O7 1 Z fun R a=>PS (c:=(u:Int)) U8 (by rw [IntKind.wrap_i64];omega) fl_<|Pn (zh _ u h) U7<|C4 1 [4] a Z<|Pf U2<|⟨Z,Z⟩
  ·have h:100<=u:=by
    have:¬ (u:Int)<100:=by simpa using e
    omega
   have t:Lib.nDigits u<=19:=by
    rw [ya];exact iY om_ om_
   refine Pb fun R a=>Pq U5 fun i=>Pd [0,5] a Z<|O7 1 Z fun R a=>Pp (uh Tryz.nDig u om_ om_ _ l.pow.m_ kr_) U7 fl_<|C4 1 [0,5,6] a Z<|Px [(3,3)] Z fun R a=>Pa U6<|QU 0 (Lib.nDigits u) 24 U12 (fun _=>⟨.inl ⟨Z,Z⟩,.inr ⟨_,Z⟩,.inl ⟨Z,Z⟩,by omega,by omega,by decide⟩) U2<|Pa U6<|D.call (vV Tryz.fmt10 i 24 u 372 (List.replicate 24 (Value.int .u8 0)) om_ (fun j d=>(by rw [Nq,aI om_])) om_ _ kr_) Z (.inr dc_) U6 (LR _) fl_ fun w _ z _ m=>Pd [5,6] a Z ?_;obtain ⟨_,rfl,cs,rfl,A,n⟩:=m;refine G.freeze 0 Z (fun o _ p=>?_);have q:(bP u).length=Lib.nDigits u:=(ya u).symm;have k:Sl o 1 (.slice (some ⟨i,0,none⟩) ((bP u).map fun b=>[Value.int .u8 b.toNat]).length 24) ((bP u).map fun b=>[Value.int .u8 b.toNat]) :=
    Sl.ofBlock p (by intro r hr;obtain ⟨y,_,rfl⟩:=L4.1 hr;rfl) (fun j v d=>by
     rw [fG,LU] at d;cases f:(bP u)[j]? with
     | none=>rw [f] at d;cases d
     | some x=>rw [f] at d;cases d;simpa using n j x f) (by simp;omega) (by simp [maxLen])
   rw [ax,q] at k;exact O7 1 Z fun R a=>QU 0 (Lib.nDigits u) 24 U12 (fun _=>⟨.inl ⟨Z,Z⟩,.inr ⟨_,Z⟩,.inl ⟨Z,Z⟩,by omega,by omega,by decide⟩) U2<|Qx k.m_ U11 fl_<|C4 1 [4] a Z<|Pf U2<|⟨Z,Z⟩
 ·exact absurd g dc_
theorem zU (C:Mem)(a:Tabs C)(u:Nat)(b:u<9223372036854775808):Gives cx.P 255 [.int .u64 u,.int .i64 10] C (al (bP u)):=by
 exact Ph func255 8 U3 fun w0=>C6 1 [0,1] Z<|O7 2 Z fun R c=>Pn (zT _ a.m_ u b) U7<|C4 1 [4] c Z<|Pf U2<|⟨Z,Z⟩
theorem iP (C:Mem)(z:Int)(m:Nat)(d:m<=18):Gives cx.P 213 [al (txt z),.int .i64 m] C (.tuple #[.int .i64 (if (txt z).length<=m then z else 0),.bool (decide ((txt z).length<=m))]):=by
 refine Ph func213 20 U3 fun w0=>C6 2 [0,1] Z<|C6 4 [0,11] Z<|O9 (fun b=>?_) fun b=>?_
 ·have a:¬ (txt z).length<=m:=by
   have:(m:Int)<((txt z).length:Int):=by simpa using b
   omega
  refine C6 2 [4,5] Z<|Pl (G.dropAll (PE U3 ?_));exact ⟨by rw [aC a,Mk a],Z⟩
 ·have a:(txt z).length<=m:=by
   have:¬ (m:Int)<((txt z).length:Int):=by simpa using b
   omega
  refine O7 1 Z fun R c=>Pp (Jt Tryz.atoi z om_ _ kr_) U7 fl_<|C4 5 [6,7] c Z<|Pv [0,1,2,3,4] [] Z kr_ fun R e c=>Pc 2 Z<|QR true Z Z Z Z Z (.inl ⟨Z,Z⟩) kr_ Z Z<|C4 2 [4,5] c Z<|Pl (G.dropAll (PE U3 ?_));exact ⟨by rw [aI a,Mc a],Z⟩
theorem ip (C:Mem)(z:Int)(t:(bP z.natAbs).length<=1000000):Pur cx.P 214 [al (txt z)] C fun u D=>∃ p,u=.agg ⟨[.bool (decide (z<0)),p]⟩/\NineC D p z.natAbs:=by
 obtain ⟨S,hS⟩:∃ S,bP z.natAbs=S:=⟨_,rfl⟩;have b:=(bN z.natAbs).1;have i:=(bN z.natAbs).2;rw [hS] at t b i;refine Ph func214 44 U3 fun w0=>Pb fun R a=>Pq U5 fun d=>Pd [0,2] a Z<|O7 1 Z fun R a=>Pn (D7 _ (txt z) 45) U7 ?_;rw [dv,hS];refine C4 5 [2,3,4] a Z<|O7 2 Z fun R a=>P5 (S.length) (9) U6 om_ (.inl ⟨Z,by omega⟩) U2<|PN (((S.length / 9+1:Nat):Int)) U4 om_ om_ om_ U2<|P3 U9 (LV _) (by show 8*(S.length / 9+1)<=281474976710656;omega) (by simp only [maxLen];omega) fl_ fun L=>C4 1 [2,3,4,5] a Z ?_;rw [show (al S:Value)=al (S.take S.length) by rw [Mb]];refine G.loop (fun fr C' k v=>∃ (q j:Nat)(out:List Nat)(w:Value),(q<=S.length/\(q=0∨q+9*j=S.length)/\out.length=j/\j<=S.length/\(q=0∨j<S.length)/\Dig9 out/\bj out=cR (S.drop q))/\fr=[(2,[],.pointer (some ⟨d,0,none⟩)),(3,[],al (S.take q)),(4,[],.bool (decide (z<0))),(5,[],w)]/\k=[.arr w 160 1 j (out.map bX).flatten,.obj d (.cells ⟨[.bool false,.slice none 0 0]⟩ 307 (0,0))]/\v=q+1) (hn_ [2,3,4,5] Z) ⟨S.length,0,[],_,⟨LP _,by omega,Z,LV _,by have:=MD.2 b.2.1;omega,(fun x y=>(by cases y)),by rw [Nm];rfl⟩,Z,Z,Z⟩ (fun fr M N m _ A=>?_);obtain ⟨q,j,out,w,⟨O,Q,e,T,U,l,f⟩,rfl,rfl,rfl⟩:=A;refine C6 3 [2,3,4,5,21] Z<|O9 (fun g=>?_) fun g=>?_
 ·have B:(⟨(S.take q).toArray⟩:ByteArray).data.toList.length=q:=by
   show (S.take q).length=q;rw [Mv];omega
  have E:(S.take q).length=q:=B;have o:0<q:=by
   have h:(0:Int)<(((⟨(S.take q).toArray⟩:ByteArray).data.toList.length:Nat):Int):=by simpa using g
   omega
  have F:(uG S (q-9) q).length<=9/\0<(uG S (q-9) q).length:=by
   unfold uG;rw [Oi,Mv];omega
  have H:∀ c∈uG S (q-9) q,eM c=true:=fun c I=>b.1 c (Nj (OM I));refine O7 2 Z fun R a=>PN (((q:Int)-9)) U4 om_ om_ om_ U2<|D.max (((q-9:Nat):Int)) Z Z Z Z Z Z om_ Z Z<|C4 1 [2,3,4,5,6] a Z<|O7 2 Z fun R a=>P2 (q-9) (S.take q).length U9 (fun _=>⟨.inr ⟨_,Z⟩,.inl ⟨Z,Z⟩,.inl ⟨Z,Z⟩,by omega,LP _,LP _⟩) U2 ?_;rw [show (((S.take q).take (S.take q).length).drop (q-9))=uG S (q-9) q from by rw [Mb];rfl];refine Pp (CF _ (uG S (q-9) q) H (MD.1 F.2) om_) U7 fl_<|C4 5 [2,3,4,5,6,7] a Z<|Pv [0,1,4,5,6,2,3,7,8] [] Z kr_ fun R V a=>Pc 4 Z<|P2 0 (q-9) U9 (fun _=>⟨.inl ⟨Z,Z⟩,.inr ⟨_,Z⟩,.inl ⟨Z,Z⟩,by omega,by omega,LP _⟩) U2<|Ps [bX (cR (uG S (q-9) q))] U12 fun W _ _ J=>D.append (j:=0) U11 J Z (by simp only [aE,maxLen];omega) (by show (j+1)*8<=_;omega) fl_ fun r=>C4 2 [2,3,4,5] a Z ?_;rw [show ((S.take q).take (q-9)).drop 0=S.take (q-9) from by rw [NB,OV,NI om_]];refine Po (L':=[.arr r 160 1 (j+1) ((out++[cR (uG S (q-9) q)]).map bX).flatten,.obj d (.cells ⟨[.bool false,.slice none 0 0]⟩ 307 (0,0))]) (by simp [bX])<|Pk (m':=q-9+1) om_ mup (hn_ [2,3,4,5] Z) ⟨q-9,j+1,out++[cR (uG S (q-9) q)],r,⟨by omega,by omega,by simp [e],by omega,by omega,l.snoc (Gz b.1 om_),yY om_ e om_ f⟩,Z,Z,Z⟩
 ·have o:q=0:=by
   have E:(S.take q).length=q:=by rw [Mv];omega
   have h:¬ (0:Int)<(((S.take q).length:Nat):Int):=by simpa using g
   omega
  subst o;rw [NB,i] at f;refine Px [(2,3)] Z fun R a=>Pc 2 Z<|D.call (fL _ _ out (n:=j) e) Z (.inr dc_) U6 (LR _) fl_ (fun X _ Y _ K=>?_);obtain ⟨rfl,s⟩:=K;obtain ⟨Au,cu,rfl,_⟩:=id s;refine PB [.bool (decide (z<0)),_] U8<|Pg (j:=0) U12<|Pd [2] a Z<|Pl (PW (.head _) U4 ?_);exact ⟨Z,_,Z,AZ out,gH l,by rw [gG,f],s⟩
end Go.Proofs.YthnpijdjlddpmaaGreatDoor
