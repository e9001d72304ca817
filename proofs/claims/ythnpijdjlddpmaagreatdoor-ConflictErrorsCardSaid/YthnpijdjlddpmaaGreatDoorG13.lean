/- Laws that the proofs of this seat share, part 13. -/
import Derived.Test.YthnpijdjlddpmaaGreatDoorG12
import Derived.Test.YthnpijdjlddpmaaGreatDoorShelf
set_option maxHeartbeats 4000000
namespace Go.Proofs.YthnpijdjlddpmaaGreatDoor
open Go.Proofs.Tryz
open Go Go.Jog
set_option maxRecDepth 100000
variable {B:Bk}{C:Mem}{h:Nat->Bool}{i:Nat}{km:List (Nat × Value)}{l:List Nat}{n:Nat}{ob:List Rat}{r:List Rat × Rat}{rows:List RowQ}{rs:List (List Rat × Rat)}{s:SrcQ}{vs:List Value}{w:Value}{wF:Nat->Value}{z:Nat}
theorem Nl (C:Mem)(v:Value)(l:List Rat)(b:Sl C 1 v (l.map aZ))(t:l.length<=1000000):Jog.Fn cx.P 173 [v] C [] fun u _w e=>∃ A n c,u=.slice A n c/\e=[.arr (.slice A n c) 56 1 l.length (l.map aZ).flatten]:=by
 obtain ⟨f,c0,rfl,m,x,y,o⟩:=id b;have z:maxLen<=9223372036854775807:=by simp [maxLen]
 simp only [al] at b m ⊢;refine Sc func173 8 U3 fun w0=>C6 1 [0] Z<|R4 1 Z fun R d=>TF U9<|Sa [0,4] d Z<|R6 (fun h4=>?_) fun h4=>?_
 ·have p:f=none:=by
   cases f with
   | none=>rfl
   | some a=>cases h4
  have s:l=[]:=by
   cases l with
   | nil=>rfl
   | cons q r =>
    obtain ⟨a,g,_⟩:=o 0 (aZ q) rfl;rw [p] at g;cases g
  refine C6 1 [2] Z<|G.nilArr 56 1<|Sh (SP Z Z ?_);exact ⟨none,0,0,Z,by rw [s];rfl⟩
 refine R8 fun R d=>Te [] U12 fl_ fun B=>R7 U6<|SB (j:=0) U11 b.m_ (by simp [aZ,oF,ai]) (by simp only [al,O4,maxLen];omega) (by simp only [al,O4];omega) fl_ fun h i k=>C4 1 [2] d Z<|Sp (L':=[.arr (.slice h i k) 56 1 l.length (l.map aZ).flatten]) am<|Sh (SP Z Z ?_);exact ⟨h,i,k,Z,Z⟩
def dt (n:Nat)(rs:List (List Rat × Rat)):Lp.Sys:=⟨n,rs.length,fun r j=>(rs.getD r ([],0)).1.getD j 0,fun r=>(rs.getD r ([],0)).2⟩
abbrev sA (A:Option Addr)(n c:Nat):Value:=.slice A n c
abbrev sB (A:Option Addr)(n c:Nat):Value:=.slice A n c
abbrev sO (A:Option Addr)(n c:Nat):Value:=.slice A n c
abbrev sW (A:Option Addr)(n c:Nat):Value:=.slice A n c
abbrev sF (A:Option Addr)(n c:Nat):Value:=.slice A n c
def lbF (n i:Nat):List Nat:=(List.range i).map fun q=>n+q
def lvF (rs:List (List Rat × Rat))(wF:Nat->Value)(i:Nat):List (Rat × Value):=(List.range i).map fun q=>((rs.getD q ([],0)).2,wF q)
def opE (n:Nat)(rs:List (List Rat × Rat))(wF:Nat->Value)(q:Nat):Ent:=.arr (wF q) 56 1 n (((List.range n).map fun j=>-(rs.getD q ([],0)).1.getD j 0).map aZ).flatten
def GV (wF:Nat->Value)(i:Nat)(w:Value):Nat->Value:=fun q=>if q=i then w else wF q
theorem Dt :GV wF i w i=w:=aI rfl
theorem Dr {q:Nat}(h:q≠i):GV wF i w q=wF q:=aA h
theorem Ie :lbF n (i+1)=lbF n i++[n+i]:=by unfold lbF;rw [PB,O7];rfl
theorem H7 (h:rs.getD i ([],0)=r):lvF rs (GV wF i w) (i+1)=lvF rs wF i++[(r.2,w)]:=by
 unfold lvF;rw [PB,O7,List.map_singleton,h,Dt];congr 1;refine List.map_congr_left fun q a=>?_;rw [Dr (by have:=ON.1 a;omega)]
theorem H0 (h:rs.getD i ([],0)=r):(List.range (i+1)).map (opE n rs (GV wF i w))=(List.range i).map (opE n rs wF)++[.arr w 56 1 n (((List.range n).map fun j=>-r.1.getD j 0).map aZ).flatten]:=by
 rw [PB,O7,List.map_singleton];congr 1
 ·refine List.map_congr_left fun q a=>?_;unfold opE;rw [Dr (by have:=ON.1 a;omega)]
 unfold opE;rw [h,Dt]
theorem BD {l:List Rat}(h:l.length=n):(List.range n).map (fun j=>l.getD j 0)=l:=by
 refine List.ext_getElem? fun j=>?_;rw [Ou];by_cases a:j<n
 ·rw [O5 a,ak om_];show some (l.getD j 0)=_;rw [ax,ak om_];rfl
 rw [OD (show (List.range n).length<=j by simp;omega),OD om_];rfl
theorem EE {b:Nat}{a d e g:Value}(l:ob.length=n) :
  (fB b n (Lp.openT (dt n rs) fun j=>ob.getD j 0) a d e g wF).map Lent.ent=[.obj b (.cells ⟨[.int .i64 n,a,d,e,ai [48],g]⟩ 212 (0,0)),.arr a 3 1 rs.length ((lbF n rs.length).map aQ).flatten,.arr d 209 2 rs.length ((lvF rs wF rs.length).map bE).flatten,.arr e 3 1 n ((List.range n).map aQ).flatten,.arr g 56 1 n (ob.map aZ).flatten]++(List.range rs.length).map (opE n rs wF):=by
 have i:(Lp.openT (dt n rs) fun j=>ob.getD j 0).basic.length=rs.length:=Lp.openT_lb;have k:(Lp.openT (dt n rs) fun j=>ob.getD j 0).others.length=n:=Lp.openT_lo;have h1:cK (Lp.openT (dt n rs) fun j=>ob.getD j 0) wF=lvF rs wF rs.length:=by
  unfold cK lvF;rw [i];refine List.map_congr_left fun q h=>?_;rw [Lp.openT_line (p:=dt n rs) (ON.1 h)];rfl
 have h2:(List.range rs.length).map (Lent.ent ∘ Ju (Lp.openT (dt n rs) fun j=>ob.getD j 0) wF)=(List.range rs.length).map (opE n rs wF):=by
  refine List.map_congr_left fun q h=>?_;show Ent.arr _ _ 1 _ _=_;rw [Lp.openT_line (p:=dt n rs) (ON.1 h),k];rfl
 have h3:(Lp.openT (dt n rs) fun j=>ob.getD j 0).worth.f=ob:=BD l;have h4:(Lp.openT (dt n rs) fun j=>ob.getD j 0).worth.c=0:=rfl;unfold fB;rw [h1,h3,h4,i,k,NE];simp only [O1,Pc,h2];rfl
def BN (n:Nat)(rs:List (List Rat × Rat))(ob:List Rat)(b17:Nat)(Aw:Option Addr)(nw cw:Nat)(A1:Option Addr)(n1 c1:Nat)(i:Nat)(wF:Nat->Value)(r:List Rat × Rat)(A4:Option Addr)(n4 c4:Nat)(A71:Option Addr)(n71 c71:Nat)(A78:Option Addr)(n78 c78:Nat):List Ent:=[.arr (sA A71 n71 c71) 3 1 (i+1) (((lbF n i).map aQ).flatten++[[.int .i64 ((n:Int)+(i:Int))]].flatten),.arr (sB A78 n78 c78) 209 2 (i+1) (((lvF rs wF i).map bE).flatten++[[ai (qtx r.2),.slice A4 n4 c4]].flatten),.obj b17 (.cells ⟨[.int .i64 n,.slice A71 n71 c71,.slice A78 n78 c78,.slice A1 n1 c1,ai [48],.slice Aw nw cw]⟩ 212 (0,0)),.arr (sO A1 n1 c1) 3 1 n (((List.range n)).map aQ).flatten,.arr (sW Aw nw cw) 56 1 n (ob.map aZ).flatten,.arr (sF A4 n4 c4) 56 1 n (((List.range n).map fun q=>-r.1.getD q 0).map aZ).flatten]++(List.range i).map (opE n rs wF)
def opX1 (n:Nat)(rs:List (List Rat × Rat))(ob:List Rat)(b17:Nat)(Aw:Option Addr)(nw cw:Nat)(A1:Option Addr)(n1 c1:Nat)(i:Nat)(wF:Nat->Value)(A4:Option Addr)(n4 c4:Nat)(A71:Option Addr)(n71 c71:Nat)(A78:Option Addr)(n78 c78:Nat):List Ent:=[.arr (sA A71 n71 c71) 3 1 (i+1) ((lbF n (i+1)).map aQ).flatten,.arr (sB A78 n78 c78) 209 2 (i+1) ((lvF rs (GV wF i (.slice A4 n4 c4)) (i+1)).map bE).flatten,.obj b17 (.cells ⟨[.int .i64 n,.slice A71 n71 c71,.slice A78 n78 c78,.slice A1 n1 c1,ai [48],.slice Aw nw cw]⟩ 212 (0,0)),.arr (sO A1 n1 c1) 3 1 n (((List.range n)).map aQ).flatten,.arr (sW Aw nw cw) 56 1 n (ob.map aZ).flatten]++(List.range (i+1)).map (opE n rs (GV wF i (.slice A4 n4 c4)))
theorem dh {a:Nat}{b:Option Addr}{c d:Nat}{e:Option Addr}{f g:Nat}{h:Option Addr}{j k:Nat}{l:Option Addr}{m o:Nat}{p:Option Addr}{q s:Nat}(t:rs.getD i ([],0)=r):(BN n rs ob a b c d e f g i wF r h j k l m o p q s).Perm (opX1 n rs ob a b c d e f g i wF h j k l m o p q s):=by
 unfold BN opX1;rw [Ie,H7 t,H0 t];simp only [O7,Pg];exact List.Perm.append_left [_,_,_,_,_] (List.perm_append_singleton _ _).symm
theorem HP (C:Mem)(_aO:Tabs C)(n:Nat)(rv ov:Value)(c:List (List Rat × Rat))(z:List Rat)(hr:RowsT C rv (c.map gw))(ho:Sl C 1 ov (z.map aZ))(hq:RowsQ n c)(hn:n<=1000)(au:z.length=n) :
  Jog.Fn cx.P 114 [.agg ⟨[.int .i64 n,rv,ov]⟩] C [] fun u _aP x=>∃ b wB wL wO wW wF,u=.pointer (some ⟨b,0,none⟩)/\x=(fB b n (Lp.openT (dt n c) fun j=>z.getD j 0) wB wL wO wW wF).map Lent.ent:=by
 obtain ⟨vs,av,aC,V⟩:=hr;obtain ⟨Ar,cr,rfl,ay,aR,_⟩:=id V;have hm:=hq.m;have aS:maxLen<=9223372036854775807:=by simp [maxLen]
 rw [sf av] at V ay ⊢;simp only [al] at V ay av ⊢;refine Sc func114 85 U3 fun w0=>?_;refine R8 fun R a=>?_;refine So U6 (fun W=>?_);refine C4 1 [1] a Z ?_;clear a R;refine G.freeze 0 Z (fun _ _ U=>?_);refine Ss [0,1,2,3,4,5,6,7,8] [(4,3),(1,0)] Z kr_ (fun R I a=>?_);refine R7 U6 ?_;refine S6 (fun _=>((PtrTo.blockT U _ 1).mono I)) U9 ?_;refine R7 U6 ?_;refine R5 (bkT U 1) U8 ?_;refine D.call (Nl _ ov z ho.m_ om_) Z (.inr dc_) U6 (Ov _) fl_ (fun aT _ aU _ aD=>?_);obtain ⟨d,e,f,rfl,rfl⟩:=aD;refine Sn [ai [48],.slice d e f] U8 ?_;refine Sn [.int .i64 n,.slice none 0 0,.slice none 0 0,.slice none 0 0,ai [48],.slice d e f] U8 ?_;refine So U6 (fun y=>?_);refine R7 U6 ?_;refine Sa [1,3] a Z ?_;clear a I R;refine R4 1 Z fun R a=>?_;refine R5 (bkT U 1) U8 ?_;refine C4 1 [1,3,19,20] a Z ?_;clear a R;refine G.nilArr 3 1 ?_;refine Sp (L':=[.arr (sO none 0 0) 3 1 0 (((List.range 0)).map aQ).flatten,.obj y (.cells ⟨[.int .i64 n,.slice none 0 0,.slice none 0 0,.slice none 0 0,ai [48],.slice d e f]⟩ 212 (0,0)),.arr (sW d e f) 56 1 n (z.map aZ).flatten]) (by rw [au];rfl) ?_;refine G.loop (fun fr C' x O=>∃ (i:Nat)(t:Option Addr)(n1 v:Nat),(i<=n)/\fr=[(1,[],.pointer (some ⟨W,0,none⟩)),(3,[],.pointer (some ⟨y,0,none⟩)),(19,[],.int .i64 n),(20,[],.int .i64 i)]/\x=[.arr (sO t n1 v) 3 1 i (((List.range i)).map aQ).flatten,.obj y (.cells ⟨[.int .i64 n,.slice none 0 0,.slice none 0 0,.slice t n1 v,ai [48],.slice d e f]⟩ 212 (0,0)),.arr (sW d e f) 56 1 n (z.map aZ).flatten]/\O=n-i) (hn_ [1,3,19,20] Z) ⟨0,none,0,0,Ow _,Z,Z,Z⟩ (fun fr aW aX m _ Q=>?_);obtain ⟨i,t,n1,v,hi,rfl,rfl,rfl⟩:=Q;refine C6 1 [1,3,19,20,21] Z ?_;refine R6 (fun ad=>?_) fun ad=>?_
 ·have az:i<n:=by
   have:=NM ad;omega
  refine C6 2 [1,3,4,19,20] Z ?_;refine R4 4 Z fun R a=>?_;refine Sd ae U9 ?_;refine R7 U6 ?_;refine Sr [[.int .i64 i]] U12 (fun aY _ _ aE=>?_);refine SB (j:=0) U11 aE Z aw (by show (i+1)*8<=_;omega) fl_ (fun af ag ah=>?_);refine R9 2 Z ?_;refine Sf (j:=1) U12 ?_;refine Sa [1,3,19,20] a Z ?_;clear a R;refine R8 fun R a=>?_;refine Se _ U7 ?_;refine C4 1 [1,3,19,20] a Z ?_;clear a R;refine G.perm (L':=[.arr (sO af ag ah) 3 1 (i+1) (((List.range (i+1))).map aQ).flatten,.obj y (.cells ⟨[.int .i64 n,.slice none 0 0,.slice none 0 0,.slice af ag ah,ai [48],.slice d e f]⟩ 212 (0,0)),.arr (sW d e f) 56 1 n (z.map aZ).flatten]) (by rw [PB,O7,Pg];exact List.Perm.swap _ _ _) ?_;refine Sj (m':=n-(i+1)) om_ mup (hn_ [1,3,19,20] Z) ⟨i+1,af,ag,ah,om_,Z,Z,Z⟩
 have aj:i=n:=by
  have:=Ox ad;omega
 rw [aj];refine R4 1 Z fun R a=>?_;refine R5 (bkT U 1) U8 ?_;refine C4 2 [1,3,35,36,37] a Z ?_;clear a R;refine G.nilArr 209 2 ?_;refine G.nilArr 3 1 ?_;refine G.perm (L':=[.arr (sA none 0 0) 3 1 0 ((lbF n 0).map aQ).flatten,.arr (sB none 0 0) 209 2 0 ((lvF c (fun _=>.slice none 0 0) 0).map bE).flatten,.obj y (.cells ⟨[.int .i64 n,.slice none 0 0,.slice none 0 0,.slice t n1 v,ai [48],.slice d e f]⟩ 212 (0,0)),.arr (sO t n1 v) 3 1 n (((List.range n)).map aQ).flatten,.arr (sW d e f) 56 1 n (z.map aZ).flatten]++(List.range 0).map (opE n c (fun _=>.slice none 0 0))) (by
  show List.Perm ([_,_,_,_,_]++[]) _
  (exact pkL [0,0,1,0,0] rfl)) ?_
 refine G.loop (fun fr C' x O=>∃ (i:Nat)(A2:Option Addr)(n2 c2:Nat)(K:Option Addr)(L M:Nat)(wF:Nat->Value),(i<=c.length)/\fr=[(1,[],.pointer (some ⟨W,0,none⟩)),(3,[],.pointer (some ⟨y,0,none⟩)),(35,[],.slice Ar c.length cr),(36,[],.int .i64 c.length),(37,[],.int .i64 i)]/\x=[.arr (sA A2 n2 c2) 3 1 i ((lbF n i).map aQ).flatten,.arr (sB K L M) 209 2 i ((lvF c wF i).map bE).flatten,.obj y (.cells ⟨[.int .i64 n,.slice A2 n2 c2,.slice K L M,.slice t n1 v,ai [48],.slice d e f]⟩ 212 (0,0)),.arr (sO t n1 v) 3 1 n (((List.range n)).map aQ).flatten,.arr (sW d e f) 56 1 n (z.map aZ).flatten]++(List.range i).map (opE n c wF)/\O=c.length-i) (hn_ [1,3,35,36,37] Z) ⟨0,none,0,0,none,0,0,fun _=>.slice none 0 0,Ow _,Z,Z,Z⟩ (fun fr a0 a1 m _ Q=>?_);obtain ⟨i,A2,n2,c2,K,L,M,wF,hi,rfl,rfl,rfl⟩:=Q;refine C6 1 [1,3,35,36,37,38] Z ?_;refine R6 (fun am=>?_) fun am=>?_
 ·have az:i<c.length:=by
   have:=NM am;omega
  obtain ⟨r,X⟩:∃ r,c[i]?=some r:=⟨c[i],ak az⟩;have N:c.getD i ([],0)=r:=by rw [ax,X];rfl
  have a2:r.1.length=n:=hq.l r (Oq X);obtain ⟨aF,a3⟩:=hq.q r (Oq X);obtain ⟨w,hw⟩:∃ w,vs[i]?=some w:=⟨vs[i]'om_,ak om_⟩;have aA:(c.map gw)[i]?=some (gw r):=by rw [Ou,X];rfl
  have hx:=aC i w (gw r) hw aA;have an:Sl C 1 w (r.1.map aZ):=by rw [Aj];exact hx
  obtain ⟨Ax,aG,rfl,aH,a4,_⟩:=id an;simp only [al] at an aH hw;refine R4 1 Z fun R a=>?_;refine Sm V.m_ U10 om_ (Di hw aA) fl_ (fun a5 aI=>?_);refine R5 aI U8 ?_;refine Sq U5 (fun b6=>?_);refine R7 U6 ?_;refine Sf (j:=0) U12 ?_;refine Sa [1,3,5,6,35,36,37] a Z ?_;clear a R;refine G.freeze 0 Z (fun _ _ aB=>?_);refine R4 1 Z fun R a=>?_;refine R5 (bkT aB 1) U8 ?_;refine Sn [ai (qtx r.2),.slice none 0 0] U8 ?_;refine Sq U5 (fun Y=>?_);refine Sf (j:=0) U12 ?_;refine Sa [1,3,5,6,7,35,36,37] a Z ?_;clear a R;refine R4 1 Z fun R a=>?_;refine R5 (bkT aB 1) U8 ?_;refine C4 2 [1,3,5,7,35,36,37,46,47,48] a Z ?_;clear a R;refine G.nilArr 56 1 ?_;refine Sp (L':=[.arr (sF none 0 0) 56 1 0 (((List.range 0).map fun q=>-r.1.getD q 0).map aZ).flatten,.obj Y (.cells ⟨[ai (qtx r.2),.slice none 0 0]⟩ 209 (0,0)),.arr (sA A2 n2 c2) 3 1 i ((lbF n i).map aQ).flatten,.arr (sB K L M) 209 2 i ((lvF c wF i).map bE).flatten,.obj y (.cells ⟨[.int .i64 n,.slice A2 n2 c2,.slice K L M,.slice t n1 v,ai [48],.slice d e f]⟩ 212 (0,0)),.arr (sO t n1 v) 3 1 n (((List.range n)).map aQ).flatten,.arr (sW d e f) 56 1 n (z.map aZ).flatten]++(List.range i).map (opE n c wF)) Z ?_;refine G.loop (fun fr C' x O=>∃ (j:Nat)(A:Option Addr)(B E:Nat),(j<=n)/\fr=[(1,[],.pointer (some ⟨W,0,none⟩)),(3,[],.pointer (some ⟨y,0,none⟩)),(5,[],.int .i64 i),(7,[],.pointer (some ⟨Y,0,none⟩)),(35,[],.slice Ar c.length cr),(36,[],.int .i64 c.length),(37,[],.int .i64 i),(46,[],.slice Ax r.1.length aG),(47,[],.int .i64 r.1.length),(48,[],.int .i64 j)]/\x=[.arr (sF A B E) 56 1 j (((List.range j).map fun q=>-r.1.getD q 0).map aZ).flatten,.obj Y (.cells ⟨[ai (qtx r.2),.slice A B E]⟩ 209 (0,0)),.arr (sA A2 n2 c2) 3 1 i ((lbF n i).map aQ).flatten,.arr (sB K L M) 209 2 i ((lvF c wF i).map bE).flatten,.obj y (.cells ⟨[.int .i64 n,.slice A2 n2 c2,.slice K L M,.slice t n1 v,ai [48],.slice d e f]⟩ 212 (0,0)),.arr (sO t n1 v) 3 1 n (((List.range n)).map aQ).flatten,.arr (sW d e f) 56 1 n (z.map aZ).flatten]++(List.range i).map (opE n c wF)/\O=n-j) (hn_ [1,3,5,7,35,36,37,46,47,48] Z) ⟨0,none,0,0,Ow _,Z,Z,Z⟩ (fun fr a6 a7 m _ Q=>?_);obtain ⟨j,A,B,E,hj,rfl,rfl,rfl⟩:=Q;refine C6 1 [1,3,5,7,35,36,37,46,47,48,49] Z ?_;refine R6 (fun ao=>?_) fun ao=>?_
  ·have a8:j<n:=by
    have:=NM ao;omega
   have aJ:QB 23 (r.1.getD j 0):=Nb aF;refine R8 fun R a=>?_;refine Sm an.m_ U10 om_ (eO om_) fl_ (fun a9 aK=>?_);refine R5 aK U8 ?_;refine C4 1 [1,3,5,7,9,35,36,37,46,47,48] a Z ?_;clear a R;refine Ss [0,1,2,3,4,5,6,7] [(3,1)] Z kr_ (fun R I a=>?_);refine R7 U6 ?_;refine Sd ae U9 ?_;refine R7 U6 ?_;refine Su (fun _=>(eJ _ (r.1.getD j 0) (OQ (bK aJ dc_) dc_))) U9 ?_;refine Sr [[ai (qtx (-(r.1.getD j 0)))]] U12 (fun ba _ _ aL=>?_);refine SB (j:=0) U11 aL Z aw (by show (j+1)*16<=_;omega) fl_ (fun ap aq ar=>?_);refine R7 U6 ?_;refine Sf (j:=1) U12 ?_;refine Sa [1,3,5,7,35,36,37,46,47,48] a Z ?_;clear a I R;refine R8 fun R a=>?_;refine Se _ U7 ?_;refine C4 1 [1,3,5,7,35,36,37,46,47,48] a Z ?_;clear a R;refine G.perm (L':=[.arr (sF ap aq ar) 56 1 (j+1) (((List.range (j+1)).map fun q=>-r.1.getD q 0).map aZ).flatten,.obj Y (.cells ⟨[ai (qtx r.2),.slice ap aq ar]⟩ 209 (0,0)),.arr (sA A2 n2 c2) 3 1 i ((lbF n i).map aQ).flatten,.arr (sB K L M) 209 2 i ((lvF c wF i).map bE).flatten,.obj y (.cells ⟨[.int .i64 n,.slice A2 n2 c2,.slice K L M,.slice t n1 v,ai [48],.slice d e f]⟩ 212 (0,0)),.arr (sO t n1 v) 3 1 n (((List.range n)).map aQ).flatten,.arr (sW d e f) 56 1 n (z.map aZ).flatten]++(List.range i).map (opE n c wF)) (by rw [PB,O7,O7,Pg];exact List.Perm.swap _ _ _) ?_;refine Sj (m':=n-(j+1)) om_ mup (hn_ [1,3,5,7,35,36,37,46,47,48] Z) ⟨j+1,ap,aq,ar,om_,Z,Z,Z⟩
  have aM:j=n:=by
   have:=Ox ao;omega
  rw [aM];refine G.freeze 1 Z (fun _ _ aN=>?_);refine Sp (L':=[.arr (sF A B E) 56 1 n (((List.range n).map fun q=>-r.1.getD q 0).map aZ).flatten,.arr (sA A2 n2 c2) 3 1 i ((lbF n i).map aQ).flatten,.arr (sB K L M) 209 2 i ((lvF c wF i).map bE).flatten,.obj y (.cells ⟨[.int .i64 n,.slice A2 n2 c2,.slice K L M,.slice t n1 v,ai [48],.slice d e f]⟩ 212 (0,0)),.arr (sO t n1 v) 3 1 n (((List.range n)).map aQ).flatten,.arr (sW d e f) 56 1 n (z.map aZ).flatten]++(List.range i).map (opE n c wF)) Z ?_;refine G.cut (fun fr C' x O=>∃ (A7:Option Addr)(n7 c7:Nat)(A8:Option Addr)(n8 c8:Nat),(True)/\fr=[(1,[],.pointer (some ⟨W,0,none⟩)),(3,[],.pointer (some ⟨y,0,none⟩)),(35,[],.slice Ar c.length cr),(36,[],.int .i64 c.length),(37,[],.int .i64 i)]/\x=[.arr (sA A7 n7 c7) 3 1 (i+1) ((lbF n (i+1)).map aQ).flatten,.arr (sB A8 n8 c8) 209 2 (i+1) ((lvF c (GV wF i (.slice A B E)) (i+1)).map bE).flatten,.obj y (.cells ⟨[.int .i64 n,.slice A7 n7 c7,.slice A8 n8 c8,.slice t n1 v,ai [48],.slice d e f]⟩ 212 (0,0)),.arr (sO t n1 v) 3 1 n (((List.range n)).map aQ).flatten,.arr (sW d e f) 56 1 n (z.map aZ).flatten]++(List.range (i+1)).map (opE n c (GV wF i (.slice A B E)))) ?_ (fun fr bb bc O bd Q=>?_)
  ·refine SR (.cut [0,1,2,3,4,5,6,7,8,9,12,13,14,16] (.alt 10 (.cut [] (.alt 11 (.fin [15,17,18,19,20,21,22,23,24]) (.alt 15 (.cut [] (.alt 11 (.fin [17,18,19,20,21,22,23,24]) (.alt 17 (.fin [11,18,19,20,21,22,23,24]) .stop))) (.alt 17 (.cut [] (.alt 11 (.fin [15,18,19,20,21,22,23,24]) (.alt 15 (.fin [11,18,19,20,21,22,23,24]) .stop))) .stop)))) (.alt 15 (.cut [] (.alt 10 (.cut [] (.alt 11 (.fin [17,18,19,20,21,22,23,24]) (.alt 17 (.fin [11,18,19,20,21,22,23,24]) .stop))) (.alt 17 (.fin [10,11,18,19,20,21,22,23,24]) .stop))) (.alt 17 (.cut [] (.alt 10 (.cut [] (.alt 11 (.fin [15,18,19,20,21,22,23,24]) (.alt 15 (.fin [11,18,19,20,21,22,23,24]) .stop))) (.alt 15 (.fin [10,11,18,19,20,21,22,23,24]) .stop))) .stop)))) [(16,0)] Z Z kr_ (fun R I a F=>?_);refine R9 5 Z ?_;refine Sd aa U9 ?_;refine R7 U6 ?_;refine R5 (bkT U 1) U8 ?_;refine R7 U6 ?_;refine Se _ U7 ?_;refine R9 3 Z ?_;refine S6 (fun _=>((bkT aN 2).mono I)) U9 ?_;refine SE F Z ⟨?_, ?_, ?_,trivial⟩
   ·refine Sr [[.int .i64 ((n:Int)+(i:Int))]] U12 (fun ab ac _ J=>?_);refine SE F Z ⟨?_, ?_, ?_,trivial⟩
    ·refine SB (j:=1) U11 J.m_ Z aw (by show (i+1)*8<=_;omega) fl_ (fun g h k=>?_);refine Sd aa U9 ?_;refine Sr [[ai (qtx r.2),.slice A B E]] U12 (fun S T _ H=>?_);refine SB (j:=2) U11 H.m_ Z aw (by show (i+1)*40<=_;omega) fl_ (fun o p s=>?_);refine R9 2 Z ?_;refine Sf (j:=3) U12 ?_;refine R9 2 Z ?_;refine Sf (j:=0) U12 ?_;refine Sa [1,3,35,36,37] a Z ?_;clear a I F R;refine G.perm (L':=BN n c z y d e f t n1 v i wF r A B E g h k o p s) (pkL [2,1,0,1,1,0] Z) ?_;refine G.perm _ (dh N) ?_;exact Si 0 mup (hn_ [1,3,35,36,37] Z) ⟨g,h,k,o,p,s,trivial,Z,Z⟩
    ·refine Sd aa U9 ?_;refine SE F Z ⟨?_, ?_,trivial⟩
     ·refine SB (j:=1) U11 J.m_ Z aw (by show (i+1)*8<=_;omega) fl_ (fun g h k=>?_);refine Sr [[ai (qtx r.2),.slice A B E]] U12 (fun S T _ H=>?_);refine SB (j:=2) U11 H.m_ Z aw (by show (i+1)*40<=_;omega) fl_ (fun o p s=>?_);refine R9 2 Z ?_;refine Sf (j:=3) U12 ?_;refine R9 2 Z ?_;refine Sf (j:=0) U12 ?_;refine Sa [1,3,35,36,37] a Z ?_;clear a I F R;refine G.perm (L':=BN n c z y d e f t n1 v i wF r A B E g h k o p s) (pkL [2,1,0,1,1,0] Z) ?_;refine G.perm _ (dh N) ?_;exact Si 0 mup (hn_ [1,3,35,36,37] Z) ⟨g,h,k,o,p,s,trivial,Z,Z⟩
     refine Sr [[ai (qtx r.2),.slice A B E]] U12 (fun S T _ H=>?_);refine SB (j:=1) U11 J.m_ Z aw (by show (i+1)*8<=_;omega) fl_ (fun g h k=>?_);refine SB (j:=2) U11 H.m_ Z aw (by show (i+1)*40<=_;omega) fl_ (fun o p s=>?_);refine R9 2 Z ?_;refine Sf (j:=3) U12 ?_;refine R9 2 Z ?_;refine Sf (j:=0) U12 ?_;refine Sa [1,3,35,36,37] a Z ?_;clear a I F R;refine G.perm (L':=BN n c z y d e f t n1 v i wF r A B E g h k o p s) (pkL [2,1,0,1,1,0] Z) ?_;refine G.perm _ (dh N) ?_;exact Si 0 mup (hn_ [1,3,35,36,37] Z) ⟨g,h,k,o,p,s,trivial,Z,Z⟩
    refine Sr [[ai (qtx r.2),.slice A B E]] U12 (fun S T _ H=>?_);refine SE F Z ⟨?_, ?_,trivial⟩
    ·refine SB (j:=1) U11 J.m_ Z aw (by show (i+1)*8<=_;omega) fl_ (fun g h k=>?_);refine Sd aa U9 ?_;refine SB (j:=2) U11 H.m_ Z aw (by show (i+1)*40<=_;omega) fl_ (fun o p s=>?_);refine R9 2 Z ?_;refine Sf (j:=3) U12 ?_;refine R9 2 Z ?_;refine Sf (j:=0) U12 ?_;refine Sa [1,3,35,36,37] a Z ?_;clear a I F R;refine G.perm (L':=BN n c z y d e f t n1 v i wF r A B E g h k o p s) (pkL [2,1,0,1,1,0] Z) ?_;refine G.perm _ (dh N) ?_;exact Si 0 mup (hn_ [1,3,35,36,37] Z) ⟨g,h,k,o,p,s,trivial,Z,Z⟩
    refine Sd aa U9 ?_;refine SB (j:=1) U11 J.m_ Z aw (by show (i+1)*8<=_;omega) fl_ (fun g h k=>?_);refine SB (j:=2) U11 H.m_ Z aw (by show (i+1)*40<=_;omega) fl_ (fun o p s=>?_);refine R9 2 Z ?_;refine Sf (j:=3) U12 ?_;refine R9 2 Z ?_;refine Sf (j:=0) U12 ?_;refine Sa [1,3,35,36,37] a Z ?_;clear a I F R;refine G.perm (L':=BN n c z y d e f t n1 v i wF r A B E g h k o p s) (pkL [2,1,0,1,1,0] Z) ?_;refine G.perm _ (dh N) ?_;exact Si 0 mup (hn_ [1,3,35,36,37] Z) ⟨g,h,k,o,p,s,trivial,Z,Z⟩
   ·refine Sd aa U9 ?_;refine SE F Z ⟨?_, ?_,trivial⟩
    ·refine Sr [[.int .i64 ((n:Int)+(i:Int))]] U12 (fun ab ac _ J=>?_);refine SE F Z ⟨?_, ?_,trivial⟩
     ·refine SB (j:=1) U11 J.m_ Z aw (by show (i+1)*8<=_;omega) fl_ (fun g h k=>?_);refine Sr [[ai (qtx r.2),.slice A B E]] U12 (fun S T _ H=>?_);refine SB (j:=2) U11 H.m_ Z aw (by show (i+1)*40<=_;omega) fl_ (fun o p s=>?_);refine R9 2 Z ?_;refine Sf (j:=3) U12 ?_;refine R9 2 Z ?_;refine Sf (j:=0) U12 ?_;refine Sa [1,3,35,36,37] a Z ?_;clear a I F R;refine G.perm (L':=BN n c z y d e f t n1 v i wF r A B E g h k o p s) (pkL [2,1,0,1,1,0] Z) ?_;refine G.perm _ (dh N) ?_;exact Si 0 mup (hn_ [1,3,35,36,37] Z) ⟨g,h,k,o,p,s,trivial,Z,Z⟩
     refine Sr [[ai (qtx r.2),.slice A B E]] U12 (fun S T _ H=>?_);refine SB (j:=1) U11 J.m_ Z aw (by show (i+1)*8<=_;omega) fl_ (fun g h k=>?_);refine SB (j:=2) U11 H.m_ Z aw (by show (i+1)*40<=_;omega) fl_ (fun o p s=>?_);refine R9 2 Z ?_;refine Sf (j:=3) U12 ?_;refine R9 2 Z ?_;refine Sf (j:=0) U12 ?_;refine Sa [1,3,35,36,37] a Z ?_;clear a I F R;refine G.perm (L':=BN n c z y d e f t n1 v i wF r A B E g h k o p s) (pkL [2,1,0,1,1,0] Z) ?_;refine G.perm _ (dh N) ?_;exact Si 0 mup (hn_ [1,3,35,36,37] Z) ⟨g,h,k,o,p,s,trivial,Z,Z⟩
    refine Sr [[ai (qtx r.2),.slice A B E]] U12 (fun S T _ H=>?_);refine Sr [[.int .i64 ((n:Int)+(i:Int))]] U12 (fun ab ac _ J=>?_);refine SB (j:=1) U11 J.m_ Z aw (by show (i+1)*8<=_;omega) fl_ (fun g h k=>?_);refine SB (j:=2) U11 H.m_ Z aw (by show (i+1)*40<=_;omega) fl_ (fun o p s=>?_);refine R9 2 Z ?_;refine Sf (j:=3) U12 ?_;refine R9 2 Z ?_;refine Sf (j:=0) U12 ?_;refine Sa [1,3,35,36,37] a Z ?_;clear a I F R;refine G.perm (L':=BN n c z y d e f t n1 v i wF r A B E g h k o p s) (pkL [2,1,0,1,1,0] Z) ?_;refine G.perm _ (dh N) ?_;exact Si 0 mup (hn_ [1,3,35,36,37] Z) ⟨g,h,k,o,p,s,trivial,Z,Z⟩
   refine Sr [[ai (qtx r.2),.slice A B E]] U12 (fun S T _ H=>?_);refine SE F Z ⟨?_, ?_,trivial⟩
   ·refine Sr [[.int .i64 ((n:Int)+(i:Int))]] U12 (fun ab ac _ J=>?_);refine SE F Z ⟨?_, ?_,trivial⟩
    ·refine SB (j:=1) U11 J.m_ Z aw (by show (i+1)*8<=_;omega) fl_ (fun g h k=>?_);refine Sd aa U9 ?_;refine SB (j:=2) U11 H.m_ Z aw (by show (i+1)*40<=_;omega) fl_ (fun o p s=>?_);refine R9 2 Z ?_;refine Sf (j:=3) U12 ?_;refine R9 2 Z ?_;refine Sf (j:=0) U12 ?_;refine Sa [1,3,35,36,37] a Z ?_;clear a I F R;refine G.perm (L':=BN n c z y d e f t n1 v i wF r A B E g h k o p s) (pkL [2,1,0,1,1,0] Z) ?_;refine G.perm _ (dh N) ?_;exact Si 0 mup (hn_ [1,3,35,36,37] Z) ⟨g,h,k,o,p,s,trivial,Z,Z⟩
    refine Sd aa U9 ?_;refine SB (j:=1) U11 J.m_ Z aw (by show (i+1)*8<=_;omega) fl_ (fun g h k=>?_);refine SB (j:=2) U11 H.m_ Z aw (by show (i+1)*40<=_;omega) fl_ (fun o p s=>?_);refine R9 2 Z ?_;refine Sf (j:=3) U12 ?_;refine R9 2 Z ?_;refine Sf (j:=0) U12 ?_;refine Sa [1,3,35,36,37] a Z ?_;clear a I F R;refine G.perm (L':=BN n c z y d e f t n1 v i wF r A B E g h k o p s) (pkL [2,1,0,1,1,0] Z) ?_;refine G.perm _ (dh N) ?_;exact Si 0 mup (hn_ [1,3,35,36,37] Z) ⟨g,h,k,o,p,s,trivial,Z,Z⟩
   refine Sd aa U9 ?_;refine Sr [[.int .i64 ((n:Int)+(i:Int))]] U12 (fun ab ac _ J=>?_);refine SB (j:=1) U11 J.m_ Z aw (by show (i+1)*8<=_;omega) fl_ (fun g h k=>?_);refine SB (j:=2) U11 H.m_ Z aw (by show (i+1)*40<=_;omega) fl_ (fun o p s=>?_);refine R9 2 Z ?_;refine Sf (j:=3) U12 ?_;refine R9 2 Z ?_;refine Sf (j:=0) U12 ?_;refine Sa [1,3,35,36,37] a Z ?_;clear a I F R;refine G.perm (L':=BN n c z y d e f t n1 v i wF r A B E g h k o p s) (pkL [2,1,0,1,1,0] Z) ?_;refine G.perm _ (dh N) ?_;exact Si 0 mup (hn_ [1,3,35,36,37] Z) ⟨g,h,k,o,p,s,trivial,Z,Z⟩
  obtain ⟨A7,n7,c7,A8,n8,c8,_,rfl,rfl⟩:=Q;refine R8 fun R a=>?_;refine Se _ U7 ?_;refine C4 1 [1,3,35,36,37] a Z ?_;clear a R;refine Sj (m':=c.length-(i+1)) om_ mup (hn_ [1,3,35,36,37] Z) ⟨i+1,A7,n7,c7,A8,n8,c8,(GV wF i (.slice A B E)),om_,Z,Z,Z⟩
 have aj:i=c.length:=by
  have:=Ox am;omega
 refine C6 2 [2] Z ?_;rw [aj];refine G.perm (L':=(fB y n (Lp.openT (dt n c) fun j=>z.getD j 0) (.slice A2 n2 c2) (.slice K L M) (.slice t n1 v) (.slice d e f) wF).map Lent.ent) (by rw [EE au];(exact pkL [2,0,0,0] Z)) ?_;refine Sh (SP Z Z ?_);exact ⟨y,.slice A2 n2 c2,.slice K L M,.slice t n1 v,.slice d e f,wF,Z,Z⟩
def Wl (D:Int)(q:Rat):Prop:=∃ z:Int,q*(D:Rat)=(z:Rat)/\z.natAbs<=999999999
def RowI (r:RowQ):Prop:=∃ D:Int,D≠0/\D.natAbs<=999999999/\(∀ q∈r.f,Wl D q)/\Wl D r.b
def ku (rows:List RowQ):List (List Rat × Rat):=rows.map fun r=>(r.f,r.b)
theorem Wl.zero (D:Int):Wl D 0:=⟨0,by grind,by decide⟩
theorem sx (h:i<rows.length):(ku rows).getD i ([],0)=(rows[i].f,rows[i].b):=by
 unfold ku;rw [ax,Ou,ak h];rfl
theorem Ib {d:Nat->Rat}(i:n<=12)(h:∀ r∈rows,RowI r)(k:∃ D:Int,D≠0/\D.natAbs<=999999999/\∀ j,j<n->Wl D (d j)):Lp.Lim (dt n (ku rows)) d 16:=by
 have l:∀ r:Nat,∃ D:Int,∀ hr:r<rows.length,D≠0/\D.natAbs<=999999999/\(∀ q∈rows[r].f,Wl D q)/\Wl D rows[r].b:=fun r=>by
  by_cases hr:r<rows.length
  ·obtain ⟨D,c⟩:=h rows[r] (Pn hr);exact ⟨D,fun _=>c⟩
  exact ⟨0,fun h=>absurd h hr⟩
 obtain ⟨D,c⟩:=Classical.axiomOfChoice l;obtain ⟨o,p,c2,s⟩:=k;have hm:(dt n (ku rows)).m=rows.length:=al _;refine ⟨⟨D,999999999,o,by decide,⟨fun r hr=>?_,fun r j hr g=>?_,fun r hr=>?_⟩,⟨p,c2⟩,fun j g=>?_, ?_⟩⟩
 ·rw [hm] at hr;exact ⟨(c r hr).1,(c r hr).2.1⟩
 ·rw [hm] at hr;have e:(dt n (ku rows)).a r j=rows[r].f.getD j 0:=by show ((ku rows).getD r ([],0)).1.getD j 0=_;rw [sx hr]
  have hw:Wl (D r) (rows[r].f.getD j 0):=by
   rw [ax];cases t:rows[r].f[j]? with
   | none=>exact Wl.zero _
   | some q=>exact (c r hr).2.2.1 q (Oq t)
  obtain ⟨z,h1,h2⟩:=hw;exact ⟨z,by rw [e,Rat.mul_comm];exact h1,h2⟩
 ·rw [hm] at hr;have e:(dt n (ku rows)).b r=rows[r].b:=by show ((ku rows).getD r ([],0)).2=_;rw [sx hr]
  obtain ⟨z,h1,h2⟩:=(c r hr).2.2.2;exact ⟨z,by rw [e,Rat.mul_comm];exact h1,h2⟩
 ·obtain ⟨z,h1,h2⟩:=s j g;exact ⟨z,by rw [Rat.mul_comm];exact h1,h2⟩
 unfold Lp.bdQ Lp.bdT;have:∀ n,n<=12->(n+1)*(999999999*Lp.fctM (2*999999999) n)<B9 ^ 16:=by decide +kernel
 exact this _ i
theorem Ia (a:n<=12)(h:∀ r∈rows,RowI r):Lp.Lim (dt n (ku rows)) (fun _=>0) 16:=Ib a h ⟨1,by decide,by decide,fun _ _=>Wl.zero _⟩
theorem si (h:z<18446744073709551616):IntKind.u64.wrap ((z:Nat):Int)=(z:Int):=by
 simp only [IntKind.wrap,IntKind.bits,IntKind.signed];simp;omega
theorem NO (h:z<9223372036854775808):IntKind.i64.wrap ((z:Nat):Int)=(z:Int):=by
 simp only [IntKind.wrap,IntKind.bits,IntKind.signed];simp;omega
def o1 (s:Nat):Nat:=(s / 2 ^ 1 &&& 6148914691236517205)+(s &&& 6148914691236517205)
def o2 (s:Nat):Nat:=(s / 2 ^ 2 &&& 3689348814741910323)+(s &&& 3689348814741910323)
def o3 (s:Nat):Nat:=(s / 2 ^ 4+s) &&& 1085102592571150095
def o4 (s:Nat):Nat:=s+s / 2 ^ 8
def o5 (s:Nat):Nat:=s+s / 2 ^ 16
def o6 (s:Nat):Nat:=s+s / 2 ^ 32
theorem o_bd:∀ s<32,o1 s<1000/\o2 (o1 s)<1000/\o2 (o1 s) / 2 ^ 4+o2 (o1 s)<1000/\o3 (o2 (o1 s))<1000/\o4 (o3 (o2 (o1 s)))<1000/\o5 (o4 (o3 (o2 (o1 s))))<1000/\o6 (o5 (o4 (o3 (o2 (o1 s)))))<1000/\o6 (o5 (o4 (o3 (o2 (o1 s))))) &&& 127=ie s:=by decide +kernel
theorem EG (C:Mem)(s:Nat)(b:s<32):Gives cx.P 74 [.int .u64 s] C (.int .i64 (ie s:Int)):=by
 obtain ⟨h1,h2,h3,h4,h5,e,f,d⟩:=o_bd s b;exact Sc func74 35 U3 fun w0=>C6 1 [0] Z<|R4 1 Z fun R a=>Tk (s) (1) U8 dc_ U2<|Tf (s / 2 ^ 1) (6148914691236517205) U8 om_ om_ U2<|R7 U6<|Tf (s) (6148914691236517205) U8 om_ om_ U2<|D.int (((o1 s:Nat):Int)) U4 (si (by show o1 s<_;omega)) U2<|C4 1 [0] a Z<|R4 1 Z fun R a=>Tk (o1 s) (2) U8 dc_ U2<|Tf (o1 s / 2 ^ 2) (3689348814741910323) U8 om_ om_ U2<|R7 U6<|Tf (o1 s) (3689348814741910323) U8 om_ om_ U2<|D.int (((o2 (o1 s):Nat):Int)) U4 (si (by show o2 (o1 s)<_;omega)) U2<|C4 1 [0] a Z<|R4 1 Z fun R a=>Tk (o2 (o1 s)) (4) U8 dc_ U2<|R7 U6<|D.int (((o2 (o1 s) / 2 ^ 4+o2 (o1 s):Nat):Int)) U4 (si om_) U2<|Tf (o2 (o1 s) / 2 ^ 4+o2 (o1 s)) (1085102592571150095) U8 om_ om_ U2<|C4 1 [0] a Z<|R4 2 Z fun R a=>Tk (o3 (o2 (o1 s))) (8) U8 dc_ U2<|D.int (((o4 (o3 (o2 (o1 s))):Nat):Int)) U4 (si (by show o4 (o3 (o2 (o1 s)))<_;omega)) U2<|C4 1 [0] a Z<|R4 2 Z fun R a=>Tk (o4 (o3 (o2 (o1 s)))) (16) U8 dc_ U2<|D.int (((o5 (o4 (o3 (o2 (o1 s)))):Nat):Int)) U4 (si (by show o5 (o4 (o3 (o2 (o1 s))))<_;omega)) U2<|C4 1 [0] a Z<|R4 2 Z fun R a=>Tk (o5 (o4 (o3 (o2 (o1 s))))) (32) U8 dc_ U2<|D.int (((o6 (o5 (o4 (o3 (o2 (o1 s))))):Nat):Int)) U4 (si (by show o6 (o5 (o4 (o3 (o2 (o1 s)))))<_;omega)) U2<|C4 1 [0] a Z<|R4 1 Z fun R a=>SL (c:=((o6 (o5 (o4 (o3 (o2 (o1 s))))):Nat):Int)) U8 (NO om_) fl_<|Uz (o6 (o5 (o4 (o3 (o2 (o1 s)))))) (127) Z Z Z Z Z Z Z Z om_ om_ Z Z<|C4 1 [2] a Z<|Sb U2<|⟨by rw [d],Z⟩
theorem sP (C:Mem)(s:Nat)(b:s<32):Gives cx.P 39 [.int .u64 s] C (.int .i64 (ie s:Int)):=by
 refine Sc func39 8 U3 fun w0=>C6 1 [0] Z<|R6 (fun a=>?_) fun a=>?_
 ·cases a
 exact R4 1 Z fun R c=>Sg (EG _ s b) U7<|C4 1 [2] c Z<|Sb U2<|⟨Z,Z⟩
theorem IN:∀ s<32,s≠0->Lib.ctz 64 s=(cX s).headD 0:=by decide +kernel
theorem Mo (C:Mem)(a:Tabs C)(s:Nat)(b:s<32)(c:s≠0):Gives cx.P 75 [.int .u64 s] C (.int .i64 (((cX s).headD 0:Nat):Int)):=by
 rw [<- IN s b c];exact NR Tryz.tz s om_ C kr_ a.db kr_
theorem vI (C:Mem)(a:Int):Gives cx.P 172 [.int .i64 a] C (.bool false):=by
 exact Sc func172 6 U3 fun w0=>C6 1 [0] Z<|C6 4 [2] Z<|Sb U2<|⟨by simp,Z⟩
theorem xX (C:Mem)(a b:Int):Gives cx.P 111 [.int .i64 a,.int .i64 b] C (.int .i64 (J1 a b)):=by
 refine Sc func111 20 U3 fun w0=>C6 1 [0,1] Z<|R4 1 Z fun R d=>Sg (vI _ _) U7<|C4 1 [0,1,5] d Z<|R4 1 Z fun R d=>Sg (vI _ _) U7<|C4 1 [0,1,5,6] d Z<|C6 1 [0,1,6,11] Z<|R6 (fun f=>?_) fun f=>?_
 ·cases f
 refine C6 1 [0,1,13] Z<|R6 (fun g=>?_) fun g=>?_
 ·cases g
 refine C6 3 [0,1,16] Z<|R6 (fun c=>?_) fun c=>?_
 ·refine C6 1 [4] Z<|Sb U2 ?_;simp only [Oz] at c;exact ⟨by rw [J1,aI c],Z⟩
 refine C6 3 [19] Z<|R6 (fun e=>?_) fun e=>?_
 ·refine C6 1 [4] Z<|Sb U2 ?_;simp only [Oz,OL] at c e;exact ⟨by rw [J1,aA c,aA om_],Z⟩
 refine C6 1 [4] Z<|Sb U2 ?_;simp only [OL] at c e;exact ⟨by rw [J1,aA c,aI om_],Z⟩
theorem xY (C:Mem)(v w:Value)(a b:List Nat)(l:Sl C 1 v (a.map aQ))(n:Sl C 1 w (b.map aQ))(L:a.length<=1000000)(_M:b.length<=1000000) :
  Gives cx.P 72 [v,w] C (.int .i64 (Lc a b)):=by
 obtain ⟨A,c,rfl,_⟩:=id l;obtain ⟨B,d,rfl,_⟩:=id n;simp only [al] at l n ⊢;refine Sc func72 36 U3 fun w0=>C6 1 [0,1] Z<|C6 3 [0,1,9,10,11] Z<|G.loop (fun fr C' z D=>∃ (k:Nat),(k<=a.length/\k<=b.length/\Lc (a.drop k) (b.drop k)=Lc a b)/\fr=[(0,[],.slice A a.length c),(1,[],.slice B b.length d),(9,[],.slice A a.length c),(10,[],.int .i64 a.length),(11,[],.int .i64 k)]/\z=[]/\D=a.length-k) (hn_ [0,1,9,10,11] Z) ⟨0,⟨Ow _,Ow _,Z⟩,Z,Z,Z⟩ (fun fr N O m _ E=>?_);obtain ⟨k,⟨Q,S,g⟩,rfl,rfl,rfl⟩:=E;refine C6 1 [0,1,9,10,11,12] Z<|R6 (fun o=>?_) fun o=>?_
 ·have h:k<a.length:=by simpa using o
  obtain ⟨x,t⟩:∃ x,a[k]?=some x:=⟨a[k],ak h⟩;have F:(a.map aQ)[k]?=some (aQ x):=by rw [Ou,t];rfl
  have p:a.drop k=x::a.drop (k+1):=by rw [OW h,(aF.1 t).2]
  refine R4 1 Z fun R f=>Sm l.m_ U10 om_ F fl_ fun T H=>R5 H U8<|C4 2 [0,1,5,6,9,10,11] f Z<|C6 4 [0,1,5,6,9,10,11,19] Z<|R6 (fun q=>?_) fun q=>?_
  ·have i:b.length<=k:=by simpa using q
   have j:b.drop k=[]:=PI i;exact C6 1 [4] Z<|Sb U2<|⟨by rw [<- g,p,j];rfl,Z⟩
  have i:k<b.length:=by
   have:¬ b.length<=k:=by simpa using q
   omega
  obtain ⟨y,hy⟩:∃ y,b[k]?=some y:=⟨b[k],ak i⟩;have I:(b.map aQ)[k]?=some (aQ y):=by rw [Ou,hy];rfl
  have j:b.drop k=y::b.drop (k+1):=by rw [OW i,(aF.1 hy).2]
  refine R4 2 Z fun R f=>Sm n.m_ U10 om_ I fl_ fun U J=>R5 J U8<|C4 1 [0,1,6,7,9,10,11] f Z<|R4 2 Z fun R f=>Sg (xX _ _ _) U7<|C4 1 [0,1,8,9,10,11] f Z<|C6 2 [0,1,8,9,10,11,28] Z<|R6 (fun r=>?_) fun r=>?_
  ·have e:J1 x y≠0:=by simpa using r
   refine C6 2 [4] Z<|Sb U2<|⟨?_,Z⟩;rw [<- g,p,j];simp only [Lc];unfold J1 at e ⊢;by_cases h1:x<y
   ·have h3:(x:Int)<y:=by omega
    rw [aI h1,aI h3]
   have h3:¬ (x:Int)<y:=by omega
   rw [aA h1,aA h3];rw [aA h3] at e;by_cases h2:y<x
   ·have h4:¬ (x:Int)=y:=by omega
    rw [aI h2,aA h4]
   have h4:(x:Int)=y:=by omega
   rw [aI h4] at e;exact absurd Z e
  have e:J1 x y=0:=by simpa using r
  have K:x=y:=by
   unfold J1 at e;split at e
   ·cases e
   split at e
   ·omega
   cases e
  refine R8 fun R f=>Se _ U7<|C4 1 [0,1,9,10,11] f Z<|Sj (m':=a.length-(k+1)) om_ mup (hn_ [0,1,9,10,11] Z) ⟨k+1,⟨by omega,by omega,by rw [<- g,p,j,K];simp [Lc]⟩,Z,Z,Z⟩
 have h:k=a.length:=by
  have:¬ k<a.length:=by simpa using o
  omega
 subst h;rw [Py] at g;refine C6 5 [35] Z<|R6 (fun s=>?_) fun s=>?_
 ·have u:a.length<b.length:=by simpa using s
  refine C6 1 [4] Z<|Sb U2<|⟨?_,Z⟩;rw [<- g,OW u];rfl
 have u:¬ a.length<b.length:=by simpa using s
 refine C6 1 [4] Z<|Sb U2<|⟨?_,Z⟩;rw [<- g,PI om_];rfl
theorem E1 (C:Mem)(p:Tabs C)(s:Nat)(r:s<32):Jog.Fn cx.P 41 [.int .u64 s] C [] fun u _ b=>∃ A n c,u=.slice A n c/\b=[.arr u 3 1 (cX s).length ((cX s).map aQ).flatten]:=by
 have z:maxLen<=9223372036854775807:=by simp [maxLen]
 refine Sc func41 16 U3 fun w0=>C6 1 [0] Z<|C6 1 [0,3] Z<|G.nilArr 3 1<|G.loop (fun fr C' b t=>∃ (x:Nat)(q:List Nat)(d:Option Addr)(n1 e:Nat),(x<32/\q++cX x=cX s)/\fr=[(0,[],.int .u64 x),(3,[],.slice d n1 e)]/\b=[.arr (.slice d n1 e) 3 1 q.length (q.map aQ).flatten]/\t=x+x) (hn_ [0,3] Z) ⟨s,[],none,0,0,⟨r,Z⟩,Z,Z,Z⟩ (fun fr B E m _ v=>?_);obtain ⟨x,q,d,n1,e,⟨f,g⟩,rfl,rfl,rfl⟩:=v;refine C6 2 [0,3,5] Z<|R6 (fun h5=>?_) fun h5=>?_
 ·have a:x≠0:=by simpa using h5
  have w:=CJ x f a;have F:=CK x f a;have H:q.length<=5:=by
   have h:=congrArg List.length g;rw [Oy] at h;have:(cX s).length<=5:=P2 _ _;omega
  refine R4 2 Z fun R i=>Sg (Mo _ p.m_ x f a) U7<|Sr [[.int .i64 (((cX x).headD 0:Nat):Int)]] U12 fun I _ _ y=>SB (j:=0) U11 y Z aw (by show (q.length+1)*8<=_;omega) fl_ fun k l o=>C4 1 [0,3] i Z<|R4 2 Z fun R i=>D.int (((x-1:Nat):Int)) U4 (by rw [show ((x:Int)-1)=((x-1:Nat):Int) by omega];exact si om_) U2<|Tf (x) (x-1) U8 om_ om_ U2<|C4 1 [0,3] i Z<|Sp (L':=[.arr (.slice k l o) 3 1 (q++[(cX x).headD 0]).length ((q++[(cX x).headD 0]).map aQ).flatten]) (by rw [O7,Pg,Oy];rfl)<|Sj (m':=(x &&& (x-1))+(x &&& (x-1))) om_ mup (hn_ [0,3] Z) ⟨(x &&& (x-1)),q++[(cX x).headD 0],k,l,o,⟨by omega,by rw [OU,List.singleton_append,<- w,g]⟩,Z,Z,Z⟩
 have a:x=0:=by simpa using h5
 subst a;refine C6 2 [2] Z<|Sh (SP Z Z ?_);exact ⟨d,n1,e,Z,by rw [<- g,show cX 0=[] from by decide,OX]⟩
theorem ni (C:Mem)(a:Tabs C)(s:Nat)(b:s<32):Pur cx.P 41 [.int .u64 s] C fun u D=>Sl D 1 u ((cX s).map aQ) :=
 UM (t:=3) (n:=(cX s).length) (fun r hr=>by
  obtain ⟨x,_,rfl⟩:=OB.1 hr;rfl) (al _) (Fn.mono (E1 C a s b) fun u C' d _ ⟨A,n,c,h1,h2⟩=>h2)
theorem JE (s:Nat):ie s<=5:=P2 _ _
theorem LM (C:Mem)(e:Tabs C)(a b:Nat)(f:a<32)(g:b<32):Gives cx.P 71 [.int .u64 a,.int .u64 b] C (.int .i64 (IW a b)):=by
 have j:=JE a;have k:=JE b;refine Sc func71 19 U3 fun w0=>?_;refine C6 1 [0,1] Z ?_;refine R4 1 Z fun R c=>?_;refine Sg (sP _ a f) U7 ?_;refine R7 U6 ?_;refine Sg (sP _ b g) U7 ?_;refine Se _ U7 ?_;refine C4 1 [0,1,5] c Z ?_;refine C6 2 [0,1,5,12] Z ?_;refine R6 (fun d=>?_) fun d=>?_
 ·have i:(ie a:Int)-ie b≠0:=by simpa using d
  refine C6 2 [4] Z ?_;refine Sb U2 ?_;refine ⟨?_,Z⟩;unfold IW;rw [aA (fun h=>i (by rw [h];omega))]
 have i:(ie a:Int)-ie b=0:=by simpa using d
 refine R4 1 Z fun R c=>?_;refine SI (ni _ e.m_ a f) U7 (fun n _ _ l=>?_);refine R7 U6 ?_;refine SI (ni _ e.m_ b g) U7 (fun o _ _ m=>?_);refine Sk (xY _ _ _ _ _ l.m_ m.m_ (OQ j dc_) (OQ k dc_)) U7 fl_ ?_;refine C4 1 [4] c Z ?_;refine Sb U2 ?_;refine ⟨?_,Z⟩;unfold IW;rw [aI om_]
open Go Go.Jog Go.Shelf
set_option maxRecDepth 100000
def uV (s:Nat):Value:=.int .u64 (s:Nat)
theorem Kg (l:List Nat):l.map uV=(l.map bZ).flatten:=(dW uV l).symm
abbrev Nr:Type:={ s:Nat // s<32 }
instance:Inhabited Nr:=⟨⟨0,by decide⟩⟩
theorem IV:Sort.SWO (ltOf fun (x y:Nr)=>IW x.1 y.1) where
 irrefl x:=by unfold ltOf;exact OV (fun h=>by have:=(eE x.1 x.2 x.1 x.2).1 h;omega)
 trans x y z h1 h2:=by
  unfold ltOf at *;simp only [Oz] at *;rw [eE x.1 x.2 y.1 y.2] at h1;rw [eE y.1 y.2 z.1 z.2] at h2;rw [eE x.1 x.2 z.1 z.2];omega
 ntrans x y z h1 h2:=by
  unfold ltOf at *;simp only [OL] at *;rw [eE x.1 x.2 y.1 y.2] at h1;rw [eE y.1 y.2 z.1 z.2] at h2;rw [eE x.1 x.2 z.1 z.2];omega
theorem uS:∀ l:List Nat,(∀ s∈l,s<32)->∃ q:List Nr,q.map (·.1)=l
 | [],_=>⟨[],rfl⟩
 | s::l,h=>by
  obtain ⟨q,a⟩:=uS l fun s hs=>h s (OA _ hs);exact ⟨⟨s,h s aJ⟩::q,by rw [O1,a]⟩
theorem Ha (C:Mem)(e:Tabs C)(v:Value)(n:Nat)(b:n<6) :
  Jog.Fn cx.P 70 [v,.func (.func 71) #[] #[]] C [.arr v 99 1 (2 ^ n) ((List.range (2 ^ n)).map uV)] fun u _ c=>u=.tuple #[]/\c=[.arr v 99 1 (2 ^ n) ((cq n).map uV)]:=by
 have t:=xr b;obtain ⟨q,a⟩:=uS (List.range (2 ^ n)) fun s hs=>by have:=ON.1 hs;omega
 have g:q.length=2 ^ n:=by rw [<- al (f:=(·.1)),a,Pr]
 have d:=Bp (P:=cx.P) (α:=Nr) Tryz.sortU (fun x=>uV x.1) (fun x=>rfl) (fun x y=>IW x.1 y.1) IV 71 [] C
  (fun x y C' i=>LM C' (e.mono i) x.1 y.1 x.2 y.2) v 99 q om_ kr_ kr_
 rw [g,show q.map (fun x:Nr=>uV x.1)=(q.map (·.1)).map uV by rw [Pc];rfl,a] at d;refine Fn.mono d (fun u C' c _ ⟨j,k,l,m,o⟩=>⟨k, ?_⟩);have p:(j.map (·.1)).Perm (List.range (2 ^ n)):=by rw [<- a];exact m.map _
 have r:=uQ b p (by
  rw [List.pairwise_map];refine o.imp fun {x y} h=>?_;unfold ltOf at h;exact Ox h)
 rw [l,<- r,Pc];rfl
theorem Kv (C:Mem)(q:Tabs C)(g n:Nat)(r s t v w:Value)(x:Option Addr)(y:Nat)(B:C g=some (.cells ⟨[r,s,t,v,.slice x n y,w]⟩ 153 (0,0)))(h:n<6) :
  Jog.Fn cx.P 38 [.pointer (some ⟨g,0,none⟩)] C [] fun u _ b=>∃ A n2 c,u=.slice A n2 c/\b=[.arr u 99 1 (2 ^ n) ((cq n).map uV)]:=by
 have J:maxLen<=9223372036854775807:=by simp [maxLen]
 have K:=xr h;refine Sc func38 23 U3 fun w0=>C6 1 [0] Z<|C6 1 [0,3] Z<|R4 4 Z fun R a=>R5 (bkT B 1) U8<|R7 U6<|TR (n) Z Z Z Z Z Z (by first | exact .inl Z | exact .inr Z) Z om_ Z Z<|C4 1 [3,11,12] a Z<|G.nilArr 99 1<|G.loop (fun fr C' b E=>∃ (i:Nat)(d:Option Addr)(n1 e:Nat),(i<=2 ^ n)/\fr=[(3,[],.slice d n1 e),(11,[],.int .u64 ((2 ^ n:Nat):Int)),(12,[],.int .u64 i)]/\b=[.arr (.slice d n1 e) 99 1 i ((List.range i).map uV)]/\E=2 ^ n-i) (hn_ [3,11,12] Z) ⟨0,none,0,0,Ow _,Z,Z,Z⟩ (fun fr L M m _ F=>?_);obtain ⟨i,d,n1,e,N,rfl,rfl,rfl⟩:=F;refine C6 1 [3,11,12,13] Z<|R6 (fun f=>?_) fun f=>?_
 ·have k:i<2 ^ n:=by
   have:=NM f;omega
  refine C6 2 [3,4,11,12] Z<|R4 2 Z fun R a=>Sr [[uV i]] U12 fun O _ _ H=>SB (j:=0) U11 H Z aw (by show (i+1)*8<=_;omega) fl_ fun l o p=>C4 1 [3,11,12] a Z<|R8 fun R a=>D.int (((i+1:Nat):Int)) U4 (si (z:=i+1) om_) U2<|C4 1 [3,11,12] a Z<|Sp (L':=[.arr (.slice l o p) 99 1 (i+1) ((List.range (i+1)).map uV)]) (by rw [PB,O7];rfl)<|Sj (m':=2 ^ n-(i+1)) om_ mup (hn_ [3,11,12] Z) ⟨i+1,l,o,p,om_,Z,Z,Z⟩
 have k:i=2 ^ n:=by
  have:=Ox f;omega
 subst k;refine Sx [(1,3)] Z fun R a=>R7 U6<|D.call (Ha _ q.m_ _ n h) Z (.inr dc_) U6 (Ov _) fl_ fun Q _ S _ I=>Sa [3] a Z ?_;obtain ⟨rfl,rfl⟩:=I;refine C6 2 [2] Z<|Sh (SP Z Z ?_);exact ⟨d,n1,e,Z,Z⟩
theorem N7 {z:Int}{s p:Nat}(h:s*p<=60):ofE z s p=z:=by
 unfold ofE;split
 ·rfl
 rename_i h2;have:z=0:=by simpa using h2
 rw [aA om_,this]
theorem xV (C:Mem)(a:Value)(B:Bk)(z:Int)(b:BookZ C a B z)(h:bs B*bp B<=60):Gives cx.P 35 [a] C (.tuple #[.int .i64 (if z=0 then ((bs B*bp B:Nat):Int) else 0),.int .i64 z]):=by
 have h1:=IP C a B z b;rw [N7 h] at h1;exact h1
def dB (n:Nat)(l:List Int)(i:Nat):Int:=if l.getD i 0<0∨(n:Int)<=l.getD i 0 then 3 else if 0<i/\l.getD i 0<=l.getD (i-1) 0 then 6 else 0
def J5 (n:Nat)(l:List Int):Int:=bH (dB n l) l.length
theorem tN (C:Mem)(g j:Value)(B:Bk)(z:Int)(l:List Int)(w:BookZ C g B z)(K:bs B*bp B<=60)(e:Sl C 1 j (l.map jF))(X:l.length<=1000)
  (x:z=0->J5 B.obs.length l=0->∀ D:Mem,C.le D->Pur cx.P 52 [g,j] D fun u _=>∃ v,u=.tuple #[v,.int .i64 0]) :
  Gives cx.P 49 [g,j] C (.int .i64 (if z≠0 then z else J5 B.obs.length l)):=by
 have y:=w;obtain ⟨Y,v2,tv,cv,ov,rfl,h1,h2,h3,h4,h5⟩:=id w.i.ex;obtain ⟨A5,c5,rfl,L,aa,_⟩:=id h5;obtain ⟨A,E,rfl,M,ab,_⟩:=id e;have ac:maxLen<=9223372036854775807:=by simp [maxLen]
 simp only [al] at h5 L y e M x ⊢;refine Sc func49 56 U3 fun w0=>R8 fun R a=>So U6 fun N=>C4 1 [1,2] a Z<|G.freeze 0 Z fun _ _ n=>R8 fun R a=>R5 (bkT n 5) U8<|Sg (xV _ _ B z y.m_ K) U7<|C4 5 [1,2,6] a Z<|C6 2 [1,2,6,17] Z<|R6 (fun o=>?_) fun o=>?_
 ·have f:z≠0:=by simpa using o
  exact C6 2 [4] Z<|Sb U2<|⟨by rw [aI f],Z⟩
 have f:z=0:=by simpa using o
 rw [aA (fun h=>h f)];refine C6 3 [1,2,19,20,21] Z<|G.loop (fun fr C' O Q=>∃ (i:Nat),(i<=l.length/\bH (dB B.obs.length l) i=0)/\fr=[(1,[],.slice A l.length E),(2,[],.pointer (some ⟨N,0,none⟩)),(19,[],.slice A l.length E),(20,[],.int .i64 l.length),(21,[],.int .i64 i)]/\O=[]/\Q=l.length-i) (hn_ [1,2,19,20,21] Z) ⟨0,⟨Ow _,Z⟩,Z,Z,Z⟩ (fun fr ad ae m _ S=>?_);obtain ⟨i,⟨hi,c⟩,rfl,rfl,rfl⟩:=S;refine C6 1 [1,2,19,20,21,22] Z<|R6 (fun p=>?_) fun p=>?_
 ·have d:i<l.length:=by
   have:=NM p;omega
  obtain ⟨k,F⟩:∃ k,l[i]?=some k:=⟨l[i],ak d⟩;obtain ⟨q,H⟩:∃ q,l[i-1]?=some q:=⟨l[i-1]'om_,ak om_⟩;have r:l.getD i 0=k:=by rw [ax,F,Pu]
  have I:l.getD (i-1) 0=q:=by rw [ax,H,Pu]
  refine R4 1 Z fun R a=>Sm e.m_ U10 om_ (bO F) fl_ fun af T=>R5 T U8<|C4 2 [1,2,7,8,19,20,21] a Z<|R4 5 Z fun R a=>Sz U6 (fun _=>PtrTo.blockT (Mem.get n mup) _ 1) U3<|R9 2 Z<|SA U8<|C4 1 [1,2,7,8,19,20,21,26] a Z<|R6 (fun s=>?_) fun s=>?_
  ·have b:dB B.obs.length l i=3:=by
    unfold dB;rw [r,aI (by simp only [PX,Oz] at s;omega)]
   exact C6 1 [4] Z<|Sb U2<|⟨by unfold J5;rw [fJ c (by rw [b];decide) d,b],Z⟩
  have J:¬ (k<0∨(B.obs.length:Int)<=k):=by
   simp only [PR,OL] at s;omega
  refine R4 6 Z fun R a=>Se _ U7<|D.index U10 (fun U=>⟨e.mono mup,(by have h:decide ((i:Int) > 0)=true:=U.1;have:=NM h;omega),(by rw [show ((i:Int)-1).toNat=i-1 by omega];exact bO H)⟩) fl_ Z fun ag V=>Sz U6 V U3<|R7 U6<|Sv U8<|C4 1 [1,2,19,20,21,36] a Z<|R6 (fun t=>?_) fun t=>?_
  ·have b:dB B.obs.length l i=6:=by
    unfold dB;rw [r,I,aA J,aI (by simp only [OC,Oz] at t;omega)]
   exact C6 1 [4] Z<|Sb U2<|⟨by unfold J5;rw [fJ c (by rw [b];decide) d,b],Z⟩
  have b:dB B.obs.length l i=0:=by
   unfold dB;rw [r,I,aA J,aA (fun h=>by simp only [RC,OL] at t;omega)]
  refine R8 fun R a=>Se _ U7<|C4 1 [1,2,19,20,21] a Z<|Sj (m':=l.length-(i+1)) om_ mup (hn_ [1,2,19,20,21] Z) ⟨i+1,⟨by omega,gN c b⟩,Z,Z,Z⟩
 have d:i=l.length:=by
  have:=Ox p;omega
 subst d;refine R8 fun R a=>R5 (bkT n 5) U8<|R7 U6<|SI (x f c _ mup) U7 (fun ah _ _ W=>?_);obtain ⟨rv,rfl⟩:=W;exact C4 5 [10] a Z<|C6 2 [4] Z<|Sb U2<|⟨by rw [show J5 B.obs.length l=0 from c],Z⟩
theorem Cj {p:Lp.Sys}{t:Lp.Tab}{u:Value}(h:FeasO p t u):∃ (row:Int)(a:Bool),u=.tuple #[.int .i64 row,.bool a]/\(a=true->t.Feas p.n) /\
  (a=false->∃ r:Nat,row=r/\r<t.basic.length/\p.n<=t.bas r/\(t.line r).c<0/\∀ s,s<t.others.length->p.n<=t.oth s->(t.line r).g s<=0):=by
 cases h with
 | yes h=>exact ⟨0,true,rfl,fun _=>h,fun h=>by cases h⟩
 | no r h1 h2 h3 h4=>exact ⟨r,false,rfl,fun h=>(by cases h),fun _=>⟨r,rfl,h1,h2,h3,h4⟩⟩
def SolZ (p:Lp.Sys)(D:Mem)(L:List Ent)(u:Value):Prop:=∃ (kd:Int)(val:Str)(vp:Value)(g:Nat)(du:Nat->Rat)(a:List Rat),
 u=.agg ⟨[.int .i64 kd,ai val,vp,.slice (some ⟨g,0,none⟩) p.m p.m,.slice none 0 0]⟩/\L=[.arr (.slice (some ⟨g,0,none⟩) p.m p.m) 56 1 p.m (((List.range p.m).map du).map aZ).flatten]/\(∀ r,QB 16 (du r))/\Sl D 1 vp (a.map aZ)/\(∀ x∈a,QB 16 x)/\a.length<=p.n /\
 ((kd=2/\Lp.InfR p 16 du)∨(kd=1/\p.Hold/\(∃ q,val=qtx q/\QB 16 q)/\∃ pt:Nat->Rat,a=(List.range p.n).map pt/\∀ j,QB 16 (pt j)))
theorem Hb (C:Mem)(v:Tabs C)(n:Nat)(N y:Value)(e:List (List Rat × Rat))(i:List Rat)(z:RowsT C N (e.map gw))(X:Sl C 1 y (i.map aZ))(O:RowsQ n e)(Q:n<=1000)(Y:i.length=n)(h0:∀ j,i.getD j 0=0)(f:Lp.Lim (dt n e) (fun _=>0) 16) :
  Jog.Fn cx.P 77 [.agg ⟨[.int .i64 n,N,y]⟩] C [] fun u D L'=>SolZ (dt n e) D L' u:=by
 have aC:maxLen<=9223372036854775807:=by simp [maxLen]
 have hm:=O.m;have aa:=z;obtain ⟨vs,ab,_,ac⟩:=aa;obtain ⟨Ar,cr,rfl,_⟩:=id ac;rw [sf ab,al] at z ⊢;obtain ⟨p,A⟩:∃ p,dt n e=p:=⟨_,rfl⟩;have ad:(fun j=>i.getD j 0)=fun _=>(0:Rat):=funext h0;have ae:p.n=n:=by rw [<- A];rfl
 have af:p.m=e.length:=by rw [<- A];rfl
 have k:=fun (D:Mem)(B:C.le D)=>HP D (v.mono B) n (.slice Ar e.length cr) y e i (z.mono B) (X.mono B) O Q Y;rw [A] at f k ⊢;rw [ad] at k;rw [<- ae] at k Q ⊢;rw [<- af] at k ⊢;refine Sc func77 57 U3 fun w0=>?_;refine R8 fun R a=>?_;refine So U6 (fun b1=>?_);refine Sq U5 (fun b2=>?_);refine Sa [1,2] a Z ?_;clear a R;refine G.freeze 1 Z (fun _ _ E=>?_);refine Sx [(1,3)] Z (fun R a=>?_);refine R5 (bkT E 3) U8 ?_;refine D.call (k _ mup) Z (.inr dc_) U6 (Ov _) fl_ (fun v9 C9 L9 _ ag=>?_);obtain ⟨b,wB,wL,wO,wW,wF,rfl,rfl⟩:=ag;refine C4 1 [1,2,3] a Z ?_;clear a R;refine Sx [(1,3)] Z (fun R a=>?_);refine R7 U6 ?_;refine D.call (BB _ v.m_ p (fun _=>0) b _ wB wL wO wW wF Lp.openT_inv Z f om_ om_) Z (.inr dc_) U6 (Ov _) fl_ (fun aD _ aE _ ah=>?_);refine Sa [1,2,3] a Z ?_;clear a R;obtain ⟨-,t1,aj,ak,an,rfl⟩:=ah;refine Sx [(1,3)] Z (fun R a=>?_);refine R7 U6 ?_;refine D.call (xL _ v.m_ p (fun _=>0) b t1 wB wL wO wW aj ak an f om_ om_) Z (.inr dc_) U6 (Ov _) fl_ (fun aF _ aG _ ao=>?_);obtain ⟨t,F,d,ap,hF,rfl⟩:=ao;obtain ⟨row,S,rfl,aq,ar⟩:=Cj hF;refine C4 5 [1,2,3,4,5] a Z ?_;clear a R;refine C6 2 [1,2,3,4,18] Z ?_;refine R6 (fun H=>?_) fun H=>?_
 ·have I:S=false:=by simpa using H
  obtain ⟨r,rfl,J,T,au,av⟩:=ar I;refine TA (fB b p.n t wB wL wO wW F) (iA d.tab.ok) (fun C5 _ K=>?_);have h:=fU d.tab.ok K;refine Sx [(5,3)] Z (fun R a=>?_);refine R9 3 Z ?_;refine R5 (bkT E 1) U8 ?_;refine R7 U6 ?_;refine D.call (Hy _ p b r t wB wL wO wW _ h.m_ d.tab om_ J T (fun q=>(d.dualQ f dc_ J q).le dc_)) Z (.inr dc_) U6 (Ov _) fl_ (fun aH _ aI _ aw=>?_);obtain ⟨g,rfl,rfl⟩:=aw;refine Sn [.int .i64 2,ai [],.slice none 0 0,.slice (some ⟨g,0,none⟩) p.m p.m,.slice none 0 0] U8 ?_;refine Sf (j:=1) U12 ?_;refine Sa [2] a Z ?_;clear a R;refine Sh (TN 0 Z Z Z Z Z ?_);have U:=d.inf f dc_ ap J T au av;exact ⟨2,[],_,g,_,[],Z,Z,U.qd,Sl.nil _ _,(fun x L=>by cases L),Ow _,.inl ⟨Z,U⟩⟩
 have I:S=true:=by simpa using H
 have ax:=aq I;refine Sx [(1,3)] Z (fun R a=>?_);refine R7 U6 ?_;refine D.call (xv _ v.m_ p b t wB wL wO wW F d f om_ om_) Z (.inr dc_) U6 (Ov _) fl_ (fun aJ _ aK _ ay=>?_);obtain ⟨rfl,rfl⟩:=ay;refine C4 5 [1,2,3,6,7] a Z ?_;clear a R;refine C6 2 [1,2,3,6,32] Z ?_;refine R6 (fun V=>?_) fun V=>?_
 ·exact absurd V dc_
 have l:=d.opt f dc_ ax (fun s hs _=>yG d hs) (fun s hs _=>by rw [yG d hs];exact Rat.le_refl);refine TA (fB b p.n t wB wL wO wW F) (iA d.tab.ok) (fun C5 _ K=>?_);have h:=fU d.tab.ok K;refine Ss [0,1,2,3,4,5,7,8,9,10,11,12,13,14,6,15,16,17,18] [(6,3),(15,3),(4,0),(11,0),(13,0)] Z kr_ (fun R w a=>?_);refine R9 4 Z ?_;refine S6 (fun _=>((PtrTo.blockT h.o _ 1).mono w)) U9 ?_;refine R9 5 Z ?_;refine S6 (fun _=>((PtrTo.blockT h.o _ 2).mono w)) U9 ?_;refine R7 U6 ?_;refine S6 (fun _=>((bkT E 1).mono w)) U9 ?_;refine R7 U6 ?_;refine D.call (HQ _ b p.n (p.n+p.m) t wB wL wO wW _ h.m_ d.tab.ok om_) Z (.inr dc_) U6 (Ov _) fl_ (fun aL _ aM _ az=>?_);refine D.call (FF _ p b t t.worth wB wL wO wW wW _ h.m_ d.tab om_ h.W.m_ d.tab.ok.wl) Z (.inr dc_) U6 (Ov _) fl_ (fun aN _ aO _ aA=>?_);obtain ⟨M,rfl,rfl⟩:=aA;obtain ⟨g1,rfl,rfl⟩:=az;refine Sn [.slice (some ⟨M,0,none⟩) p.m p.m] U8 ?_;refine Sn [.int .i64 1,ai (qtx t.worth.c),.slice (some ⟨g1,0,none⟩) p.n p.n,.slice (some ⟨M,0,none⟩) p.m p.m,.slice none 0 0] U8 ?_;refine Sf (j:=2) U12 ?_;refine Sa [2] a Z ?_;clear a w R;refine G.freezeArr 2 (((List.range p.n).map t.sol).map aZ) Z Z eh am (fun C9 _ aB=>?_);refine Sh (TN 0 Z Z Z Z Z ?_);exact ⟨1,_,_,M,_,_,rfl,rfl,l.qd,aB,(fun x L=>by obtain ⟨j,_,rfl⟩:=OB.1 L;exact l.qp j),by simp,.inr ⟨rfl,l.hold,⟨_,rfl,l.qv⟩,_,rfl,l.qp⟩⟩
theorem Lm (C:Mem)(n:Nat)(j:n<=1000000):Jog.Fn cx.P 186 [.slice none 0 0,.int .i64 n] C [] fun u _ h=>∃ A n2 c,u=.slice A n2 c/\h=[.arr u 56 1 0 []]:=by
 have k:maxLen<=9223372036854775807:=by simp [maxLen]
 refine Sc func186 27 U3 fun w0=>C6 1 [0,1] Z<|C6 2 [0,1,6] Z<|R6 (fun d=>?_) fun d=>?_
 ·simp at d;omega
 refine R4 2 Z fun R a=>TS Z Z Z Z Z Z Z Z Z<|R9 2 Z<|Se _ U7<|Se _ U7<|C4 1 [0,1] a Z<|C6 2 [0,1,16] Z<|R6 (fun f=>?_) fun f=>?_
 ·have i:0<n:=by
   simp at f;omega
  refine R4 2 Z fun R a=>TS Z Z Z Z Z Z Z Z Z<|SX 0 0 0 U12 (fun _=>⟨.inl ⟨Z,Z⟩,.inr ⟨_,Z⟩,.inl ⟨Z,Z⟩,Oo _,Oo _,Oo _⟩) U2<|R7 U6<|UB (m:=n) Z Z Z Z Z Z Z Z Z Z Z Z i (by show n*16<=_;omega) (by simp only [maxLen];omega) fl_ fun b g l=>R9 2 Z<|SX 0 0 g U12 (fun _=>⟨.inl ⟨Z,Z⟩,.inr ⟨_,Z⟩,.inl ⟨Z,Z⟩,Oo _,Ow _,Oo _⟩) U2<|C4 1 [0] a Z<|C6 2 [4] Z<|UT 0 0 Z (Ow _)<|Sh (SP Z Z ?_);refine ⟨_,_,_,Z, ?_⟩;have e:(if g=0 then some (⟨b,0,none⟩:Addr) else (some (⟨b,0,none⟩:Addr)).map (·.add (0*1)))=some ⟨b,0,none⟩:=by
   split
   ·rfl
   simp [Addr.add_lit]
  rw [e];simp
 refine C6 2 [4] Z<|G.nilArr 56 1<|Sh (SP Z Z ?_);exact ⟨none,0,0,Z,Z⟩
def mJ (xs:List (Value × List Rat)):List Rat:=(xs.map (·.2)).flatten
theorem wm {a:List (Value × List Rat)}{x:Value × List Rat}(h:a[i]?=some x):mJ (a.take (i+1))=mJ (a.take i)++x.2:=by
 unfold mJ;rw [OS,h];simp
theorem Ga (a:List (Value × List Rat))(i:Nat):(mJ (a.take i)).length<=(mJ a).length:=by
 have h:mJ a=mJ (a.take i)++mJ (a.drop i):=by
  unfold mJ;rw [<- Pg,<- O7,Pq]
 rw [h,Oy];omega
def Lv (x:Value × List Rat):List Value:=[x.1]
theorem F3 (C:Mem)(v:Value)(a:List (Value × List Rat))(h:Sl C 1 v (a.map Lv))(B:∀ x∈a,Sl C 1 x.1 (x.2.map aZ))(K:(mJ a).length<=1000000) :
  Jog.Fn cx.P 122 [v] C [] fun u _ e=>∃ A n2 c,u=.slice A n2 c/\e=[.arr u 56 1 (mJ a).length ((mJ a).map aZ).flatten]:=by
 obtain ⟨p,c0,rfl,L,X,_⟩:=id h;have Y:maxLen<=9223372036854775807:=by simp [maxLen]
 simp only [al] at h L ⊢;refine Sc func122 36 U3 fun w0=>C6 1 [0] Z<|C6 1 [0,3] Z<|C6 3 [0,3,9,10,11] Z<|G.loop (fun fr C' e q=>∃ (i:Nat)(z:Int),(i<=a.length/\z=(mJ (a.take i)).length)/\fr=[(0,[],.slice p a.length c0),(3,[],.int .i64 z),(9,[],.slice p a.length c0),(10,[],.int .i64 a.length),(11,[],.int .i64 i)]/\e=[]/\q=a.length-i) (hn_ [0,3,9,10,11] Z) ⟨0,0,⟨Ow _,Z⟩,Z,Z,Z⟩ (fun fr aa ab m _ r=>?_);obtain ⟨i,z,⟨hi,s⟩,rfl,rfl,rfl⟩:=r;refine C6 1 [0,3,9,10,11,12] Z<|R6 (fun t=>?_) fun t=>?_
 ·have f:i<a.length:=by
   have:=NM t;omega
  obtain ⟨x,d⟩:∃ x,a[i]?=some x:=⟨a[i],ak f⟩;have g:=B x (Oq d);obtain ⟨w,l⟩:=x;simp only at g;obtain ⟨Ax,ac,rfl,M,ad,_⟩:=id g;simp only [al] at g M d;have k:=wm d;have E:=Ga a (i+1);have N:(mJ (a.take (i+1))).length=(mJ (a.take i)).length+l.length:=by rw [k,Oy]
  refine R8 fun R b=>Sm h.m_ U10 om_ (show (a.map Lv)[i]?=some [_] from fM d) fl_ fun ae O=>R5 O U8<|C4 1 [0,3,5,9,10,11] b Z<|R4 3 Z fun R b=>Se _ U7<|C4 1 [0,3,9,10,11] b Z<|C6 2 [0,3,9,10,11,20] Z<|R6 (fun F=>?_) fun F=>?_
  ·exfalso;have af:=NM F;omega
  refine R8 fun R b=>Se _ U7<|C4 1 [0,3,9,10,11] b Z<|Sj (m':=a.length-(i+1)) om_ mup (hn_ [0,3,9,10,11] Z) ⟨i+1,_,⟨by omega,by rw [s];omega⟩,Z,Z,Z⟩
 have f:i=a.length:=by
  have:=Ox t;omega
 rw [f,OH] at s;subst s;refine Sx [(1,3)] Z fun R b=>R7 U6<|D.call (Lm _ (mJ a).length K) Z (.inr dc_) U6 (Ov _) fl_ (fun ag _ ah _ Q=>?_);obtain ⟨S,T,U,rfl,rfl⟩:=Q;refine C4 1 [0,6] b Z<|C6 3 [6,25,26,27] Z<|G.loop (fun fr C' e q=>∃ (i:Nat)(n:Option Addr)(n1 o:Nat),(i<=a.length)/\fr=[(6,[],.slice n n1 o),(25,[],.slice p a.length c0),(26,[],.int .i64 a.length),(27,[],.int .i64 i)]/\e=[.arr (.slice n n1 o) 56 1 (mJ (a.take i)).length ((mJ (a.take i)).map aZ).flatten]/\q=a.length-i) (hn_ [6,25,26,27] Z) ⟨0,S,T,U,Ow _,Z,Z,Z⟩ (fun fr aj am m E r=>?_);obtain ⟨i,n,n1,o,an,rfl,rfl,rfl⟩:=r;refine C6 1 [6,25,26,27,28] Z<|R6 (fun y=>?_) fun y=>?_
 ·have f:i<a.length:=by
   have:=NM y;omega
  obtain ⟨x,d⟩:∃ x,a[i]?=some x:=⟨a[i],ak f⟩;have g:=B x (Oq d);have k:=wm d;have E:=Ga a (i+1);have N:(mJ (a.take (i+1))).length=(mJ (a.take i)).length+x.2.length:=by rw [k,Oy]
  refine R8 fun R b=>Sm h.m_ U10 om_ (show (a.map Lv)[i]?=some [x.1] from fM d) fl_ fun ao V=>R5 V U8<|C4 1 [6,8,25,26,27] b Z<|R4 2 Z fun R b=>SB (j:=0) U11 g.m_ (by simp [aZ,oF,ai]) (by simp only [al,maxLen];omega) (by show ((mJ (a.take i)).length+(x.2.map aZ).length)*16<=_;rw [al];omega) fl_ fun H I J=>C4 1 [6,25,26,27] b Z<|R8 fun R b=>Se _ U7<|C4 1 [6,25,26,27] b Z<|Sp (L':=[.arr (.slice H I J) 56 1 (mJ (a.take (i+1))).length ((mJ (a.take (i+1))).map aZ).flatten]) (by rw [k,O7,Pg,Oy,al];rfl)<|Sj (m':=a.length-(i+1)) om_ mup (hn_ [6,25,26,27] Z) ⟨i+1,H,I,J,om_,Z,Z,Z⟩
 have W:i=a.length:=by
  have:=Ox y;omega
 refine C6 2 [2] Z<|Sh (SP Z Z ?_);exact ⟨n,n1,o,Z,by rw [W,OH]⟩
theorem Hm (C:Mem)(N:Tabs C)(o:Int)(y:Str)(f g i:Value)(a b c:List Rat)(z:Sl C 1 f (a.map aZ))(A:Sl C 1 g (b.map aZ))(B:Sl C 1 i (c.map aZ))(O:∀ x∈a,QB 16 x)(Q:∀ x∈b,QB 16 x)(S:∀ x∈c,QB 16 x)(ae:a.length<=1000)(af:b.length<=1000)(ag:c.length<=1000)
  (T:o=1->∃ q,y=qtx q/\QB 16 q):Gives cx.P 78 [.agg ⟨[.int .i64 o,ai y,f,g,i]⟩] C (.bool true):=by
 have E:mJ [(f,a),(g,b),(i,c)]=a++(b++(c++[])):=rfl;have F:(mJ [(f,a),(g,b),(i,c)]).length<=1000000:=by rw [E];simp;omega
 obtain ⟨all,H⟩:∃ all,mJ [(f,a),(g,b),(i,c)]=all:=⟨_,rfl⟩;have I:∀ x∈all,QB 16 x:=fun x d=>by
  rw [<- H,E] at d;simp only [OJ,PL,QW] at d;rcases d with h | h | h
  ·exact O x h
  ·exact Q x h
  exact S x h
 have U:∀ l:List Rat,(∀ x∈l,QB 16 x)->((l.map qtx).any fun s=>!bg s)=false:=fun l V=>List.any_eq_false.2 fun s hs=>by
  obtain ⟨x,d,rfl⟩:=OB.1 hs;rw [bM ((V x d).le dc_)];decide
 obtain ⟨p,r,rfl,_⟩:=id z;obtain ⟨t,u,rfl,_⟩:=id A;obtain ⟨v,w,rfl,_⟩:=id B;have W:∀ D:Mem,C.le D->∀ x∈[(Value.slice p (a.map aZ).length r,a),(Value.slice t (b.map aZ).length u,b),(Value.slice v (c.map aZ).length w,c)],Sl D 1 x.1 (x.2.map aZ):=fun D k x d=>by
  simp only [OE,PL,QW] at d;rcases d with h | h | h
  ·rw [h];exact z.mono k
  ·rw [h];exact A.mono k
  rw [h];exact B.mono k
 refine Sc func78 24 U3 fun w0=>R8 fun R e=>So U6 fun b1=>C4 1 [1] e Z<|G.freeze 0 Z fun _ _ m=>Sx [(8,3)] Z fun R e=>R7 U6<|R5 (bkT m 1) U8<|R9 2 Z<|R5 (bkT m 1) U8<|R7 U6<|R5 (bkT m 1) U8<|Sr [[.slice p (a.map aZ).length r],[.slice t (b.map aZ).length u],[.slice v (c.map aZ).length w]] U12 fun ah _ _ X=>D.call (F3 _ _ [(.slice p (a.map aZ).length r,a),(.slice t (b.map aZ).length u,b),(.slice v (c.map aZ).length w,c)] X.m_ (W _ mup) F) Z (.inr dc_) U6 (Ov _) fl_ (fun aj _ ak _ Y=>?_);obtain ⟨A3,n3,c3,rfl,rfl⟩:=Y;rw [H] at F ⊢;refine C4 1 [1,3] e Z<|R4 1 Z fun R e=>R5 (bkT m 1) U8<|C4 1 [1,3,15] e Z<|G.cut (fun fr C' J μ=>∃ (n:Value)(l:List Rat),(∀ x∈l,QB 16 x)/\fr=[(3,[],n)]/\J=[.arr n 56 1 l.length (l.map aZ).flatten]) ?_ (fun fr _ al μ _ hI=>?_)
 ·refine R6 (fun K=>?_) fun K=>?_
  ·have aa:o=1:=by simpa using K
   obtain ⟨q,rfl,ab⟩:=T aa;refine R4 2 Z fun R e=>R5 (bkT m 1) U8<|Sr [[ai (qtx q)]] U12 fun an _ _ ac=>D.append (j:=0) U11 ac Z aw (by show (all.length+1)*16<=_;omega) fl_ fun L=>C4 1 [3] e Z<|Sp (L':=[.arr L 56 1 (all++[q]).length ((all++[q]).map aZ).flatten]) (by rw [O7,Pg,Oy];rfl)<|Si 0 mup (hn_ [3] Z) ⟨L,all++[q],fun x d=>by
    rcases OJ.1 d with h | h
    ·exact I x h
    rw [OP.1 h];exact ab,rfl,rfl⟩
  refine Si 0 (Mem.le.refl _) (hn_ [3] Z) ⟨_,all,I,Z,Z⟩
 obtain ⟨n ,l,M,rfl,rfl⟩:=hI;refine G.freezeArr 0 (l.map aZ) Z Z eh am fun _ _ ad=>R4 1 Z fun R e=>Sk (Ex _ n (l.map qtx) 89 [] (fun s=>!bg s) (by rw [<- Aj];exact ad.mono mup) kr_ (fun s hs D k=>by
  obtain ⟨x,d,rfl⟩:=OB.1 hs;exact ou D (N.mono (Mem.le.trans mup k)) (qtx x) (OQ (bK (M x d) dc_) dc_))) U7 fl_ ?_
 exact C4 2 [2] e Z<|Sb U2<|⟨by rw [U l M];rfl,Z⟩
theorem rr {n:Int}{l:List Str}:iN n l=0 ↔ (l.length:Int)=n/\l.all bg=true:=by
 unfold iN;by_cases h:(l.length:Int)=n
 ·rw [aI h];rcases rP (l.all bg) with ⟨h1,h2⟩ | ⟨h1,h2⟩
  ·rw [h1];exact ⟨fun _=>⟨h,h2⟩,fun _=>rfl⟩
  rw [h1,h2];exact ⟨fun h=>(by cases h),fun h=>(by cases h.2)⟩
 rw [aA h];exact ⟨fun h=>(by cases h),fun h2=>absurd h2.1 h⟩
theorem D6 {n:Int}{r:List Str × Str}:D7 n r=0 ↔ iN n r.1=0/\bg r.2=true:=by
 unfold D7;by_cases h:iN n r.1=0
 ·rw [aA (fun a=>a h)];rcases rP (bg r.2) with ⟨h1,h2⟩ | ⟨h1,h2⟩
  ·rw [h1];exact ⟨fun _=>⟨h,h2⟩,fun _=>rfl⟩
  rw [h1,h2];exact ⟨fun h=>(by cases h),fun h=>(by cases h.2)⟩
 rw [aI h];exact ⟨fun h2=>absurd h2 h,fun h2=>absurd h2.1 h⟩
theorem rT {l:List Rat}(h:∀ x∈l,QB 22 x):(l.map qtx).all bg=true:=OM.2 fun s hs=>by
 obtain ⟨x,a,rfl⟩:=OB.1 hs;exact bM (h x a)
theorem og {n:Nat}:∀ {rs:List (List Rat × Rat)},(∀ r∈rs,r.1.length=n)->(∀ r∈rs,(∀ x∈r.1,QB 22 x)/\QB 22 r.2)->sy n (rs.map gw)=0
 | [],_,_=>rfl
 | r::rs,b,a=>by
  have e:sy n ((r::rs).map gw)=if D7 n (gw r)≠0 then D7 n (gw r) else sy n (rs.map gw):=rfl;have h0:D7 n (gw r)=0:=D6.2 ⟨rr.2 ⟨by show ((r.1.map qtx).length:Int)=n;rw [al,b r aJ],rT (a r aJ).1⟩,bM (a r aJ).2⟩;rw [e,aA fun h=>h h0];exact og (fun r hr=>b r (OA _ hr)) fun r hr=>a r (OA _ hr)
theorem CC (e:n<=60)(f:rs.length<=300)(a:∀ r∈rs,r.1.length=n)(b:∀ r∈rs,(∀ x∈r.1,QB 22 x)/\QB 22 r.2)(c:ob.length=n)(d:∀ x∈ob,QB 22 x):IX n (rs.map gw) (ob.map qtx)=0:=by
 unfold IX;rw [aA om_,aA (by rw [al];omega),aA fun h=>h (rr.2 ⟨by rw [al,c],rT d⟩)];exact og a b
inductive FeaO (p:Lp.Sys) (D:Mem):Value->Prop where
 | yes (pt:Nat->Rat) (vp:Value):p.Hold->(∀ j,QB 16 (pt j))->Sl D 1 vp (((List.range p.n).map pt).map aZ)->FeaO p D (.tuple #[vp,.agg ⟨[.slice none 0 0]⟩,.bool true,.int .i64 0])
 | no (du:Nat->Rat) (vd:Value):Lp.InfR p 16 du->Sl D 1 vd (((List.range p.m).map du).map aZ)->FeaO p D (.tuple #[.slice none 0 0,.agg ⟨[vd]⟩,.bool false,.int .i64 0])
def FeaW (p:Lp.Sys)(D:Mem)(L:List Ent)(u:Value):Prop:=∃ (vp:Value)(A:Option Addr)(c:Nat)(is:Bool)(ds:List Rat),
 u=.tuple #[vp,.agg ⟨[.slice A ds.length c]⟩,.bool is,.int .i64 0]/\L=[.arr (.slice A ds.length c) 56 1 ds.length (ds.map aZ).flatten] /\
 (is=true->p.Hold/\A=none/\c=0/\ds=[]/\∃ pt:Nat->Rat,(∀ j,QB 16 (pt j))/\Sl D 1 vp (((List.range p.n).map pt).map aZ)) /\
 (is=false->vp=.slice none 0 0/\∃ du:Nat->Rat,Lp.InfR p 16 du/\ds=(List.range p.m).map du)
theorem zo (n:Nat):List.replicate n (ai [48])=((List.replicate n (0:Rat)).map aZ).flatten:=by
 rw [Ro,Oe];induction n with
 | zero=>rfl
 | succ n a=>rw [PH,PH,PU,a];rfl
theorem KA (n j:Nat):(List.replicate n (0:Rat)).getD j 0=0:=by
 rw [ax,Qr];split <;> rfl
theorem Er (C:Mem)(z:Tabs C)(n:Nat)(f t:Value)(b:List (List Rat × Rat))(i:List Rat)(v:RowsT C f (b.map gw))(A:Sl C 1 t (i.map aZ))(B:RowsQ n b)(I:∀ x∈i,QB 22 x)(J:∀ r∈b,(∀ x∈r.1,QB 22 x)/\QB 22 r.2)(Q:n<=60)(S:i.length=n)(T:Lp.Lim (dt n b) (fun _=>0) 16) :
  Jog.Fn cx.P 43 [.agg ⟨[.int .i64 n,f,t]⟩] C [] fun u D E=>FeaW (dt n b) D E u:=by
 have af:maxLen<=9223372036854775807:=by simp [maxLen]
 have hm:=B.m;have U:IX n (b.map gw) (i.map qtx)=0:=CC Q om_ B.l J S I;have hck:∀ D:Mem,C.le D->Gives cx.P 56 [.agg ⟨[.int .i64 n,f,t]⟩] D (.int .i64 0):=fun D F=>by
  have h:=Et D (z.mono F) n f t (b.map gw) (i.map qtx) (v.mono F) (by rw [<- Aj];exact A.mono F) (fun r v=>by
   obtain ⟨r,V,rfl⟩:=OB.1 v;obtain ⟨h1,h2⟩:=J r V;refine ⟨fun s hs=>?_,OQ (bK h2 dc_) dc_⟩;obtain ⟨x,d,rfl⟩:=OB.1 hs;exact OQ (bK (h1 x d) dc_) dc_) (fun s hs=>by
   obtain ⟨x,d,rfl⟩:=OB.1 hs;exact OQ (bK (I x d) dc_) dc_)
  rw [U] at h;exact h
 obtain ⟨p,k⟩:∃ p,dt n b=p:=⟨_,rfl⟩;have ag:p.n=n:=by rw [<- k];rfl
 have ah:p.m=b.length:=by rw [<- k];rfl
 refine Sc func43 32 U3 fun w0=>R8 fun R c=>So U6 fun b1=>R7 U6<|Sq U5 fun b3=>C4 2 [1,3] c Z<|R8 fun R c=>Sd ae U9<|Sg (hck _ mup) U7<|C4 1 [1,3,6] c Z<|C6 2 [1,3,6,11] Z<|R6 (fun K=>?_) fun K=>?_
 ·exact absurd K dc_
 refine Sx [(2,3)] Z fun R c=>R7 U6<|Sd ae U9<|D.call (kK _ n om_) Z (.inr dc_) U6 (Ov _) fl_ (fun ai _ aj _ W=>?_);obtain ⟨bz,rfl,rfl⟩:=W;rw [zo];refine R7 U6<|Sf (j:=2) U12<|Sa [1,3] c Z<|G.freezeArr 1 ((List.replicate n (0:Rat)).map aZ) Z Z eh am fun _ _ X=>G.freeze 0 Z fun _ _ Y=>Sx [(1,3)] Z fun R c=>R5 (bkT Y 3) U8<|D.call (Hb _ z.m_ n f _ b (List.replicate n 0) v.m_ X.m_ B om_ am (KA n) T) Z (.inr dc_) U6 (Ov _) fl_ (fun ak _ al _ aa=>?_);obtain ⟨kd,val,vp,g,du,a,rfl,rfl,qd,H,qa,ab,w⟩:=aa;obtain ⟨Ap,cp,rfl,_⟩:=id H;rw [k] at ab w ⊢;have hv:kd=1->∃ q,val=qtx q/\QB 16 q:=fun e=>by
  rcases w with ⟨h,_⟩ | ⟨_,_,h,_⟩
  ·omega
  exact h
 refine Sq U5 fun b7=>Sf (j:=0) U12<|Sa [3,7] c Z<|G.freeze 0 Z fun _ _ y=>Sx [(1,3)] Z fun R c=>R5 (bkT y 5) U8<|D.call (Tq (L:=[]) (post:=fun u E=>u=.bool true/\E=[]) kr_ eh am (fun C' M hs=>Hm C' (z.m_.mono M) kd val _ _ _ a ((List.range p.m).map du) [] (H.m_.mono M) hs (Sl.nil _ _) qa (fun x d=>by obtain ⟨j,_,rfl⟩:=OB.1 d;exact qd j) (fun x d=>by cases d) om_ ap am hv)) rfl (.inr dc_) U6 (Ov _) fl_ (fun an _ ao _ ac=>?_);obtain ⟨_,rfl,rfl,rfl⟩:=ac;refine C4 1 [3,7,22] c Z<|R6 (fun N=>?_) fun N=>?_
 ·exact absurd N dc_
 refine R4 1 Z fun R c=>R5 (bkT y 1) U8<|C4 1 [3,7,26] c Z<|R6 (fun o=>?_) fun o=>?_
 ·refine Ss [0,1,2,3,4,5] [(1,0)] Z kr_ fun R O c=>R7 U6<|S6 (fun _=>((bkT y 1).mono O)) U9<|R7 U6<|Sf (j:=1) U12<|R9 2 Z<|Sa [2,3,4,5] c Z ?_;clear c O R;refine Sh (Uh 0 Z Z Z Z Z Z Z Z ?_);subst k;rcases w with ⟨_,hi⟩ | ⟨h,_⟩
  ·refine ⟨_,some ⟨g,0,none⟩,(dt n b).m,false,(List.range (dt n b).m).map du, ?_, ?_,fun h=>(by cases h),fun _=>⟨Z,du,hi,Z⟩⟩
   ·rw [show ((List.range (dt n b).m).map du).length=(dt n b).m by simp];rfl
   rw [show ((List.range (dt n b).m).map du).length=(dt n b).m by simp];rfl
  rw [h] at o;cases o
 refine R4 1 Z fun R c=>R5 (bkT y 1) U8<|Sn ([.slice none 0 0]) U8<|R7 U6<|Sf (j:=1) U12<|C4 2 [2,3,4,5] c Z<|SQ 1 Z<|G.nilArr 56 1<|Sh (Uh 1 Z Z Z Z Z Z Z Z ?_);subst k;rcases w with ⟨h,_⟩ | ⟨_,A,_,pt,rfl,ad⟩
 ·rw [h] at o;cases o
 exact ⟨_,none,0,true,[],Z,Z,fun _=>⟨A,Z,Z,Z,pt,ad,H.mono mup⟩,fun h=>by cases h⟩
theorem HT (C:Mem)(i:Tabs C)(n:Nat)(d e:Value)(a:List (List Rat × Rat))(b:List Rat)(j:RowsT C d (a.map gw))(f:Sl C 1 e (b.map aZ))(g:RowsQ n a)(k:∀ x∈b,QB 22 x)(l:∀ r∈a,(∀ x∈r.1,QB 22 x)/\QB 22 r.2)(m:n<=60)(o:b.length=n)(p:Lp.Lim (dt n a) (fun _=>0) 16) :
  Pur cx.P 43 [.agg ⟨[.int .i64 n,d,e]⟩] C fun u D=>FeaO (dt n a) D u:=by
 refine UJ (Er C i n d e a b j f g k l m o p) fun v C' z h=>?_;obtain ⟨q,A,c,s,ds,rfl,rfl,h1,h2⟩:=h;refine .inr ⟨.slice A ds.length c,56,1,ds.map aZ,by simp,eh,fun D t hs=>?_⟩;cases s with
 | true =>
  obtain ⟨f,rfl,rfl,rfl,pt,g,w⟩:=h1 rfl;exact .yes pt q f g (w.mono t)
 | false =>
  obtain ⟨rfl,du,y,rfl⟩:=h2 rfl;exact .no du _ y hs
def prC (vs:List Value)(l:List SrcQ):List (List Value):=aT vs (l.map SrcQ.r)
def frC (l:List SrcQ):List (List Value):=l.map fun s=>[Value.int .i64 s.n]
theorem HN {l:List SrcQ}(a:vs.length=l.length)(c:vs[i]?=some w)(d:l[i]?=some s):prC (vs.take (i+1)) (l.take (i+1))=prC (vs.take i) (l.take i)++[[w,ai (qtx s.r.b)]]:=by
 unfold prC;rw [OS,OS,c,d,O7];exact eQ (by simp [a]) w s.r
theorem Is {l:List SrcQ}(a:l[i]?=some s):frC (l.take (i+1))=frC (l.take i)++[[.int .i64 s.n]]:=by
 unfold frC;rw [OS,a,O7];rfl
theorem Mu {l:List SrcQ}(a:vs[i]?=some w)(c:l[i]?=some s):(bW vs l)[i]?=some [.int .i64 s.n,w,ai (qtx s.r.b)]:=by
 unfold bW;rw [List.getElem?_zipWith,a,c]
abbrev sA7 (A:Option Addr)(n c:Nat):Value:=.slice A n c
abbrev sB7 (A:Option Addr)(n c:Nat):Value:=.slice A n c
structure ProbIn (D:Mem)(n:Nat)(l:List SrcQ)(u:Value):Prop where
 ex:∃ rv ov fv,u=.tuple #[.agg ⟨[.int .i64 n,rv,ov]⟩,fv]/\RowsT D rv ((ku (l.map SrcQ.r)).map gw)/\Sl D 1 ov ((List.replicate n (0:Rat)).map aZ)/\Sl D 1 fv (frC l)
theorem KP (a:List Value)(l:List SrcQ):∀ r∈prC a l,r.length=2:=iE _ _
theorem Ls (l:List SrcQ):∀ r∈frC l,r.length=1:=fun r hr=>by
 obtain ⟨s,_,rfl⟩:=OB.1 hr;rfl
theorem Hu {v:Value}(h:RowsOk C vs rows)(b:Sl C 2 v (aT vs rows)):RowsT C v ((ku rows).map gw):=by
 refine ⟨vs,by rw [h.1];simp [ku],fun i w r hw hr=>?_, ?_⟩
 ·rw [ku,Pc,Ou] at hr;cases a:rows[i]? with
  | none=>rw [a] at hr;cases hr
  | some x =>
   rw [a] at hr;cases hr
   have:=h.2 i w x hw a;show Sl C 1 w ((x.f.map qtx).map xP);rw [<- Aj];exact this
 have e:List.zipWith (fun w (r:List Str × Str)=>[w,ai r.2]) vs ((ku rows).map gw)=aT vs rows:=by
  unfold ku aT;rw [Pc,List.zipWith_map_right];rfl
 rw [e];exact b
theorem BF (C:Mem)(x lv:Value)(B:Bk)(l:List SrcQ)(O:BookZ C x B 0)(ag:bs B*bp B<=60)(aJ:l.length<=300)
  (aq:∀ D:Mem,C.le D->Pur cx.P 52 [x,lv] D fun u E=>∃ v,u=.tuple #[v,.int .i64 0]/\AS E v l) :
  Pur cx.P 51 [x,lv] C fun u D=>ProbIn D (bs B*bp B) l u:=by
 have aK:=O;obtain ⟨n,hn⟩:∃ n,bs B*bp B=n:=⟨_,rfl⟩;have ar:∀ D:Mem,C.le D->Gives cx.P 35 [x] D (.tuple #[.int .i64 n,.int .i64 0]):=fun D hD=>by
  have h:=xV D x B 0 (O.mono hD) ag;rw [aI rfl,hn] at h;exact h
 rw [hn] at ag ⊢;obtain ⟨v1,v2,tv,cv,ov,rfl,h1,h2,h3,h4,h5⟩:=id O.i.ex;have aL:maxLen<=9223372036854775807:=by simp [maxLen]
 refine Sc func51 51 U3 fun w0=>R8 fun R a=>So U6 fun b2=>Sq U5 fun g=>C4 1 [1,2,4] a Z<|G.freeze 1 Z fun _ _ ah=>R8 fun R a=>R5 (bkT ah 5) U8<|Sg (ar _ mup) U7<|C4 5 [1,2,4,6] a Z<|R8 fun R a=>R5 (bkT ah 5) U8<|R7 U6<|SI (aq _ mup) U7 (fun aM _ _ au=>?_);obtain ⟨wv,rfl,av⟩:=au;obtain ⟨vs,Q,S⟩:=av;have T:=kG Q;obtain ⟨Aw,cw,rfl,ax,aN,_⟩:=id S;have ay:(bW vs l).length=l.length:=by unfold bW;simp [T]
 rw [ay] at S ax ⊢;refine C4 5 [4,6,8] a Z<|Sx [(3,3)] Z fun R a=>R7 U6<|Sr [[ai [48]]] U12 fun aO _ _ az=>R7 U6<|D.call (qO _ _ n [48] az.m_ om_) Z (.inr dc_) U6 (Ov _) fl_ (fun aP _ aQ _ aA=>?_);obtain ⟨bz,rfl,rfl⟩:=aA;rw [zo];refine Sn [.int .i64 n,.slice none 0 0,.slice (some ⟨bz,0,none⟩) n n] U8<|Sq U5 fun k=>Sf (j:=0) U12<|Sa [4,8,10] a Z<|G.freezeArr 1 ((List.replicate n (0:Rat)).map aZ) Z Z eh am fun _ _ aB=>C6 1 [4,8,10,11] Z<|C6 3 [4,10,11,30,31,32] Z<|G.nilArr 123 2<|G.nilArr 3 1<|G.perm (L':=[.arr (sA7 none 0 0) 123 2 0 (prC (vs.take 0) (l.take 0)).flatten,.arr (sB7 none 0 0) 3 1 0 (frC (l.take 0)).flatten,.obj k (.cells ⟨[.int .i64 n,.slice none 0 0,.slice (some ⟨bz,0,none⟩) n n]⟩ 80 (0,0)),.obj g (.cells ⟨[.int .i64 0,.slice none 0 0,.slice none 0 0]⟩ 80 (0,0))]) (pkL [1,0,0,0] Z)<|G.loop (fun fr C' t U=>∃ (i:Nat)(V:Option Addr)(n1 W:Nat)(A2:Option Addr)(n2 c2:Nat),(i<=l.length)/\fr=[(4,[],.pointer (some ⟨g,0,none⟩)),(10,[],.pointer (some ⟨k,0,none⟩)),(11,[],.slice A2 n2 c2),(30,[],.slice Aw l.length cw),(31,[],.int .i64 l.length),(32,[],.int .i64 i)]/\t=[.arr (sA7 V n1 W) 123 2 i (prC (vs.take i) (l.take i)).flatten,.arr (sB7 A2 n2 c2) 3 1 i (frC (l.take i)).flatten,.obj k (.cells ⟨[.int .i64 n,.slice V n1 W,.slice (some ⟨bz,0,none⟩) n n]⟩ 80 (0,0)),.obj g (.cells ⟨[.int .i64 0,.slice none 0 0,.slice none 0 0]⟩ 80 (0,0))]/\U=l.length-i) (hn_ [4,10,11,30,31,32] Z) ⟨0,none,0,0,none,0,0,Ow _,Z,Z,Z⟩ (fun fr aR aS m _ X=>?_);obtain ⟨i,V,n1,W,A2,n2,c2,hi,rfl,rfl,rfl⟩:=X;refine C6 1 [4,10,11,30,31,32,33] Z<|R6 (fun Y=>?_) fun Y=>?_
 ·have aa:i<l.length:=by
   have:=NM Y;omega
  obtain ⟨s,F⟩:∃ s,l[i]?=some s:=⟨l[i],ak aa⟩;obtain ⟨w,ab⟩:∃ w,vs[i]?=some w:=⟨vs[i]'om_,ak om_⟩;have aC:=Q.2 i w s.r ab (by rw [Ou,F];rfl);obtain ⟨Ax,aj,rfl,_⟩:=id aC;have ad:=HN T ab F;have ae:=Is F;refine R8 fun R a=>Sm S.m_ U10 om_ (Mu ab F) fl_ fun aT aD=>R5 aD U8<|Sq U5 fun aU=>Sf (j:=0) U12<|Sa [4,10,11,13,30,31,32] a Z<|G.freeze 0 Z fun _ _ an=>G.cut (fun fr C' t U=>∃ (H:Option Addr)(I J:Nat)(K:Option Addr)(L M:Nat),(True)/\fr=[(4,[],.pointer (some ⟨g,0,none⟩)),(10,[],.pointer (some ⟨k,0,none⟩)),(11,[],.slice K L M),(30,[],.slice Aw l.length cw),(31,[],.int .i64 l.length),(32,[],.int .i64 i)]/\t=[.arr (sA7 H I J) 123 2 (i+1) (prC (vs.take (i+1)) (l.take (i+1))).flatten,.arr (sB7 K L M) 3 1 (i+1) (frC (l.take (i+1))).flatten,.obj k (.cells ⟨[.int .i64 n,.slice H I J,.slice (some ⟨bz,0,none⟩) n n]⟩ 80 (0,0)),.obj g (.cells ⟨[.int .i64 0,.slice none 0 0,.slice none 0 0]⟩ 80 (0,0))]) ?_ (fun fr aW aX U aY X=>?_)
  ·refine SR (.cut [0,1,2,3,6,7,8] (.alt 4 (.cut [] (.alt 5 (.fin [11,9,10,12,13]) (.alt 9 (.fin [5,11,10,12,13]) .stop))) (.alt 9 (.fin [4,5,11,10,12,13]) .stop))) [(3,0),(8,0)] Z Z kr_ fun R y a z=>R7 U6<|Sd ac U9<|R7 U6<|S6 (fun _=>((bkT an 2).mono y)) U9<|R9 2 Z<|S6 (fun _=>((bkT an 1).mono y)) U9<|SE z Z ⟨?_, ?_,trivial⟩
   ·refine Sr [[.slice Ax (s.r.f.map eR).length aj,ai (qtx s.r.b)]] U12 fun aE aF _ N=>SE z Z ⟨?_, ?_,trivial⟩
    ·refine SB (j:=0) U11 N.m_ Z aw (by show (i+1)*40<=_;omega) fl_ fun c d e=>R7 U6<|Sr [[.int .i64 s.n]] U12 fun ao ap _ A=>SB (j:=1) U11 A.m_ Z aw (by show (i+1)*8<=_;omega) fl_ fun o p q=>Sf (j:=2) U12<|R7 U6<|Sa [4,10,11,30,31,32] a Z ?_;clear a y z R;exact G.perm (L':=[.arr (sA7 c d e) 123 2 (i+1) (prC (vs.take (i+1)) (l.take (i+1))).flatten,.arr (sB7 o p q) 3 1 (i+1) (frC (l.take (i+1))).flatten,.obj k (.cells ⟨[.int .i64 n,.slice c d e,.slice (some ⟨bz,0,none⟩) n n]⟩ 80 (0,0)),.obj g (.cells ⟨[.int .i64 0,.slice none 0 0,.slice none 0 0]⟩ 80 (0,0))]) (by rw [ad,ae,Pg,Pg];(exact pkL [2,1,0,0] Z))<|Si 0 mup (hn_ [4,10,11,30,31,32] Z) ⟨c,d,e,o,p,q,trivial,Z,Z⟩
    refine Sr [[.int .i64 s.n]] U12 fun ao ap _ A=>SB (j:=0) U11 N.m_ Z aw (by show (i+1)*40<=_;omega) fl_ fun c d e=>R7 U6<|SB (j:=1) U11 A.m_ Z aw (by show (i+1)*8<=_;omega) fl_ fun o p q=>Sf (j:=2) U12<|R7 U6<|Sa [4,10,11,30,31,32] a Z ?_;clear a y z R;exact G.perm (L':=[.arr (sA7 c d e) 123 2 (i+1) (prC (vs.take (i+1)) (l.take (i+1))).flatten,.arr (sB7 o p q) 3 1 (i+1) (frC (l.take (i+1))).flatten,.obj k (.cells ⟨[.int .i64 n,.slice c d e,.slice (some ⟨bz,0,none⟩) n n]⟩ 80 (0,0)),.obj g (.cells ⟨[.int .i64 0,.slice none 0 0,.slice none 0 0]⟩ 80 (0,0))]) (by rw [ad,ae,Pg,Pg];(exact pkL [2,1,0,0] Z))<|Si 0 mup (hn_ [4,10,11,30,31,32] Z) ⟨c,d,e,o,p,q,trivial,Z,Z⟩
   refine Sr [[.int .i64 s.n]] U12 fun ao ap _ A=>Sr [[.slice Ax (s.r.f.map eR).length aj,ai (qtx s.r.b)]] U12 fun aE aF _ N=>SB (j:=0) U11 N.m_ Z aw (by show (i+1)*40<=_;omega) fl_ fun c d e=>R7 U6<|SB (j:=1) U11 A.m_ Z aw (by show (i+1)*8<=_;omega) fl_ fun o p q=>Sf (j:=2) U12<|R7 U6<|Sa [4,10,11,30,31,32] a Z ?_;clear a y z R;exact G.perm (L':=[.arr (sA7 c d e) 123 2 (i+1) (prC (vs.take (i+1)) (l.take (i+1))).flatten,.arr (sB7 o p q) 3 1 (i+1) (frC (l.take (i+1))).flatten,.obj k (.cells ⟨[.int .i64 n,.slice c d e,.slice (some ⟨bz,0,none⟩) n n]⟩ 80 (0,0)),.obj g (.cells ⟨[.int .i64 0,.slice none 0 0,.slice none 0 0]⟩ 80 (0,0))]) (by rw [ad,ae,Pg,Pg];(exact pkL [2,1,0,0] Z))<|Si 0 mup (hn_ [4,10,11,30,31,32] Z) ⟨c,d,e,o,p,q,trivial,Z,Z⟩
  obtain ⟨H,I,J,K,L,M,_,rfl,rfl⟩:=X;refine R8 fun R a=>Se _ U7<|C4 1 [4,10,11,30,31,32] a Z<|Sj (m':=l.length-(i+1)) om_ mup (hn_ [4,10,11,30,31,32] Z) ⟨i+1,H,I,J,K,L,M,om_,Z,Z,Z⟩
 have aa:i=l.length:=by
  have:=Ox Y;omega
 subst aa;refine R8 fun R a=>Sd ac U9<|R7 U6<|Sf (j:=3) U12<|C4 1 [4,5] a Z ?_;rw [Pa (show vs.length<=l.length by omega),OH];refine G.freezeArr 1 (prC vs l) Z Z (KP _ _) (by rw [prC,dU (by simp [T]),al]) fun _ _ aG=>G.freezeArr 1 (frC l) Z Z (Ls _) (al _) fun _ _ aH=>Sh (Tl af U5 ?_);exact ⟨Z,⟨_,_,_,Z,(Hu (rows:=l.map SrcQ.r) (RowsOk.m_ Q) aG.m_),aB.mono mup,aH⟩⟩
structure Calm (B:Bk)(fs:List Rat)(RO:Nat->List RowQ):Prop where
 rich:Rich B fs RO
 n12:bs B*bp B<=12
 thI:∀ r∈bG B,RowI r
 roI:∀ i,i<B.obs.length->∀ r∈RO i,RowI r
 th:(bG B).length<=24
 ro:∀ i,i<B.obs.length->(RO i).length<=8
 ob:B.obs.length<=12
structure SetIn (n:Nat)(l:List Nat):Prop where
 lt:∀ i∈l,i<n
 nd:l.Nodup
def eP (B:Bk)(RO:Nat->List RowQ)(l:List Nat):List RowQ:=(bN (bG B) RO l).map SrcQ.r
def Gu (B:Bk)(RO:Nat->List RowQ)(l:List Nat):Prop:=(dt (bs B*bp B) (ku (eP B RO l))).Hold
open Classical in
noncomputable def ma (B:Bk)(RO:Nat->List RowQ)(l:List Nat):Bool:=decide (Gu B RO l)
theorem mZ {a:Nat->List RowQ}:eP B a l=bG B++l.flatMap a:=by
 unfold eP bN jR;rw [O7,Pc,List.map_flatMap];congr 1
 ·exact List.map_id _
 congr 1;funext i;rw [Pc];exact List.map_id _
theorem SetIn.len (h:SetIn n l):l.length<=n:=by
 have:=List.Nodup.length_le_of_subset (l₂:=List.range n) h.nd fun v a=>ON.2 (h.lt v a)
 rwa [Pr] at this
section
variable {B:Bk} {fs:List Rat} {RO:Nat->List RowQ} {l:List Nat}
theorem Nf {c:Nat}{f:Nat->List RowQ}:∀ {l:List Nat},(∀ i∈l,(f i).length<=c)->(l.flatMap f).length<=c*l.length
 | [],_=>Ow _
 | i::l,h=>by
  rw [List.flatMap_cons,Oy,OI,Nat.mul_succ];have h1:=h i aJ;have h2:=Nf (l:=l) fun j a=>h j (OA _ a);omega
theorem Calm.cnt (h:Calm B fs RO)(a:SetIn B.obs.length l):(eP B RO l).length<=120:=by
 rw [mZ,Oy];have h1:=Nf (c:=8) (f:=RO) fun i b=>h.ro i (a.lt i b);have h2:=a.len;have h3:=h.ob;have h4:=h.th;omega
theorem Calm.rowI (h:Calm B fs RO)(a:SetIn B.obs.length l):∀ r∈eP B RO l,RowI r:=by
 intro r hr;rw [mZ] at hr;rcases OJ.1 hr with hr | hr
 ·exact h.thI r hr
 obtain ⟨i,b,hr⟩:=List.mem_flatMap.1 hr;exact h.roI i (a.lt i b) r hr
theorem uE {s p:Nat}{a:List Lay}:∀ n,∀ r∈bd s p a n,r.f.length=s*p
 | 0,r,hr=>by cases hr
 | n+1,r,hr=>by
  rcases OJ.1 hr with hr | hr
  ·exact uE n r hr
  have:∀ k,∀ r∈bk s p (a.getD (n+1) ⟨[],0,none⟩) (n+1) k,r.f.length=s*p:=by
   intro k;induction k with
   | zero=>intro r hr;cases hr
   | succ k b =>
    intro r hr;rcases OJ.1 hr with hr | hr
    ·exact b r hr
    unfold my at hr;rcases OE.1 hr with rfl | hr
    ·exact jf _ _
    split at hr
    ·cases hr
    rw [OP.1 hr];exact jf _ _
  exact this p r hr
theorem Mm {D:Int}{q:Rat}(h:Wl D q)(a:D≠0)(b:D.natAbs<=999999999):QB 1 q:=by
 obtain ⟨z,h1,h2⟩:=h;exact KG a h1 om_ om_
theorem RowI.q {r:RowQ}(h:RowI r):(∀ x∈r.f,QB 1 x)/\QB 1 r.b:=by
 obtain ⟨D,h0,a,h1,h2⟩:=h;exact ⟨fun x c=>Mm (h1 x c) h0 a,Mm h2 h0 a⟩
theorem zi {a:List RowQ}{P:List Rat × Rat->Prop}(h:∀ r∈a,P (r.f,r.b)):∀ x∈ku a,P x:=fun x c=>by
 obtain ⟨r,hr,rfl⟩:=OB.1 c;exact h r hr
theorem Calm.q22 (h:Calm B fs RO)(a:SetIn B.obs.length l):∀ r∈ku (eP B RO l),(∀ x∈r.1,QB 22 x)/\QB 22 r.2 :=
 zi (P:=fun r=>(∀ x∈r.1,QB 22 x)/\QB 22 r.2) fun r hr=>⟨fun x b=>((h.rowI a r hr).q.1 x b).le dc_,(h.rowI a r hr).q.2.le dc_⟩
theorem Calm.rowsQ (h:Calm B fs RO)(a:SetIn B.obs.length l):RowsQ (bs B*bp B) (ku (eP B RO l)):=by
 refine ⟨zi (P:=fun r=>r.1.length=bs B*bp B) fun r hr=>?_,fun r hr=>⟨fun x b=>((h.q22 a r hr).1 x b).le dc_,(h.q22 a r hr).2.le dc_⟩, ?_⟩
 ·rw [mZ] at hr;rcases OJ.1 hr with hr | hr
  ·exact uE _ r hr
  obtain ⟨i,c,hr⟩:=List.mem_flatMap.1 hr;exact (oh h.rich (a.lt i c)).2 r hr
 have:=h.cnt a;rw [ku,al];omega
theorem Calm.lim (h:Calm B fs RO)(a:SetIn B.obs.length l):Lp.Lim (dt (bs B*bp B) (ku (eP B RO l))) (fun _=>0) 16:=Ia h.n12 (h.rowI a)
theorem LN {n:Nat}(c:SetIn n l):chZ n (l.map fun i:Nat=>(i:Int))=0:=by
 refine kf fun i b=>?_;rw [al] at b;have f:l[i]?=some l[i]:=ak b;have g:(l.map fun i:Nat=>(i:Int)).getD i 0=(l[i]:Int):=by rw [ax,Ou,f];rfl
 have h1:=c.lt l[i] (Pn b);unfold qA;rw [g,aA om_,aA];intro hm;rw [<- Rb] at hm;obtain ⟨k,h,e⟩:=OB.1 hm;have m:k=l[i]:=by omega
 subst m;obtain ⟨j,a⟩:=PQ h;rw [O8] at a;split at a
 ·rename_i o;have d:j<l.length:=by omega
  have p:=List.pairwise_iff_getElem.1 c.nd j i d b o;rw [ak d] at a;exact p (PS a)
 cases a
theorem zO (l:List Nat):(l.map fun i:Nat=>(i:Int)).map Int.toNat=l:=by
 rw [Pc];have e:∀ i∈l,(Int.toNat ∘ fun i:Nat=>(i:Int)) i=id i:=fun i _=>Qk i;rw [List.map_congr_left e,List.map_id]
theorem rO (C:Mem)(g:Tabs C)(a b:Value)(j:BookIn C a B)(h:Calm B fs RO)(c:SetIn B.obs.length l)(k:Sl C 1 b (l.map aQ)) :
  ∀ D:Mem,C.le D->Pur cx.P 52 [a,b] D fun u E=>∃ v,u=.tuple #[v,.int .i64 0]/\AS E v (bN (bG B) RO l):=fun D d=>by
 have m:=LN c;have e:=h.cnt c;have n:l.length<=12:=OQ c.len h.ob;have f:=CB D (g.mono d) a b B fs RO (l.map fun i:Nat=>(i:Int)) (j.mono d) h.rich (by rw [Pc];exact k.mono d) (by rw [al];omega) (fun _=>by
  rw [zO];unfold eP at e;rw [al] at e;omega)
 rw [m,aI rfl,zO] at f;exact f
end
theorem Aa (C:Mem)(k:Tabs C)(e f:Value)(B:Bk)(H:List Rat)(a:Nat->List RowQ)(l:List Nat)(g:BookIn C e B)(h:Calm B H a)(b:SetIn B.obs.length l)(I:Sl C 1 f (l.map aQ)) :
  Gives cx.P 47 [e,f] C (.tuple #[.bool (ma B a l),.int .i64 0]):=by
 have ab:=g;have J:=h.rich.bookz k g;have u:=h.cnt b;have v:=fun (D:Mem)(i:C.le D)=>BF D e f B (bN (bG B) a l) (J.mono i) (by have:=h.n12;omega) (by unfold eP at u;rw [al] at u;omega) (rO D (k.mono i) e f (g.mono i) h b (I.mono i));obtain ⟨n,w⟩:∃ n,bs B*bp B=n:=⟨_,rfl⟩;have K:=h.n12;have m:=h.rowsQ b;have y:=h.q22 b;have o:=h.lim b;obtain ⟨rows,p⟩:∃ rows,eP B a l=rows:=⟨_,rfl⟩;have L:ma B a l=@decide (dt n (ku rows)).Hold (Classical.propDecidable _):=by
  unfold ma Gu;rw [w,p]
 have M:(bN (bG B) a l).map SrcQ.r=rows:=p;rw [w] at v m o K;rw [p] at m y o;obtain ⟨v1,v2,tv,cv,ov,rfl,_⟩:=id g.ex;have ac:maxLen<=9223372036854775807:=by simp [maxLen]
 refine Sc func47 27 U3 fun w0=>R8 fun R d=>So U6 fun b2=>C4 2 [1,2] d Z<|G.freeze 0 Z fun _ _ N=>R8 fun R d=>R5 (bkT N 5) U8<|R7 U6<|SI (v _ mup) U7 (fun ad _ _ O=>?_);obtain ⟨rv,ae,fv,rfl,q,z,af⟩:=O.ex;rw [M] at q;obtain ⟨_,_,_,Q⟩:=id q;obtain ⟨Ar,cr,rfl,_⟩:=id Q;obtain ⟨Ao,co,rfl,_⟩:=id z;refine R9 3 Z<|Sq U5 fun b6=>Sf (j:=0) U12<|C4 1 [6] d Z<|G.freeze 0 Z fun _ _ S=>R8 fun R d=>R5 (bkT S 3) U8<|SD (HT _ k.m_ n _ _ (ku rows) (List.replicate n 0) q.m_ z.m_ m (fun x T=>by rw [(List.mem_replicate.1 T).2];exact QB_zero.le dc_) y om_ am o) U7 fl_ (fun U _ _ V=>?_);have W:∃ (s:Value)(E:Option Addr)(nd F:Nat)(t:Bool),U=.tuple #[s,.agg ⟨[.slice E nd F]⟩,.bool t,.int .i64 0]/\ma B a l=t:=by
  rw [L];cases V with
  | yes pt s X _ _=>exact ⟨_,_,_,_,true,rfl,@OK _ (Classical.propDecidable _) X⟩
  | no du vd Y h1 =>
   obtain ⟨A,c,rfl,_⟩:=id h1;exact ⟨_,_,_,_,false,Z,@OV _ (Classical.propDecidable _) Y.not⟩
 obtain ⟨s,E,nd,F,t,rfl,aa⟩:=W;refine R9 5 Z<|Sq U5 fun b9=>R7 U6<|Sf (j:=0) U12<|C4 2 [10,11] d Z<|C6 4 [4,5] Z<|Sh (G.dropAll (Sy U3 ?_));exact ⟨by rw [aa],Z⟩
structure AscIn (n:Nat)(l:List Nat):Prop where
 lt:∀ i∈l,i<n
 up:l.Pairwise (·<·)
theorem AscIn.set (h:AscIn n l):SetIn n l:=⟨h.lt,h.up.imp fun h=>Nat.ne_of_lt h⟩
theorem I7 (h:AscIn n l):J5 n (l.map fun i:Nat=>(i:Int))=0:=by
 refine kf fun i a=>?_;rw [al] at a;have b:∀ j (c:j<l.length),(l.map fun i:Nat=>(i:Int)).getD j 0=(l[j]:Int):=fun j c=>by
  rw [ax,Ou,ak c];rfl
 have h1:=h.lt l[i] (Pn a);unfold dB;rw [b i a,aA om_,aA];rintro ⟨h0,h2⟩;rw [b (i-1) om_] at h2;have:=List.pairwise_iff_getElem.1 h.up (i-1) i om_ a om_;omega
section
variable {B:Bk} {fs:List Rat} {RO:Nat->List RowQ} {l:List Nat}
theorem wj (C:Mem)(d:Tabs C)(a b:Value)(e:BookIn C a B)(h:Calm B fs RO)(c:AscIn B.obs.length l)(f:Sl C 1 b (l.map aQ)):Gives cx.P 49 [a,b] C (.int .i64 0):=by
 have j:=h.rich.bookz d e;have k:=I7 c;have g:=tN C a b B 0 (l.map fun i:Nat=>(i:Int)) j (by have:=h.n12;omega) (by rw [Pc];exact f) (by rw [al];have:=c.set.len;have:=h.ob;omega) (fun _ _ D m=>Fn.mono (rO C d a b e h c.set f D m) fun u C' n _ ⟨h1,v,h2,_⟩=>⟨h1,v,h2⟩);rw [k,aA (fun h=>h rfl)] at g;exact g
end
theorem AU (C:Mem)(c:Tabs C)(d e:Value)(B:Bk)(f:List Rat)(b:Nat->List RowQ)(l:List Nat)(g:BookIn C d B)(h:Calm B f b)(i:AscIn B.obs.length l)(j:Sl C 1 e (l.map aQ)) :
  Gives cx.P 25 [d,e] C (.tuple #[.bool (ma B b l),.int .i64 0]):=by
 have k:=g;obtain ⟨o,p,q,r,s,rfl,_⟩:=id g.ex;refine Sc func25 18 U3 fun w0=>R8 fun R a=>So U6 fun t=>C4 2 [1,2] a Z<|G.freeze 0 Z fun _ _ m=>R8 fun R a=>R5 (bkT m 5) U8<|R7 U6<|Sg (wj _ c.m_ _ _ k.m_ h i j.m_) U7<|C4 1 [1,2,6] a Z<|C6 2 [1,2,6,11] Z<|R6 (fun n=>?_) fun n=>?_
 ·exact absurd n dc_
 refine R8 fun R a=>R5 (bkT m 5) U8<|R7 U6<|Sg (Aa _ c.m_ _ _ B f b l k.m_ h i.set j.m_) U7<|C4 4 [4,5] a Z<|Sh (G.dropAll (Sy U3 ?_));exact ⟨Z,Z⟩
def wG (h:Nat->Bool)(km:List (Nat × Value)):Prop:=∀ s v,cW km s=some v->v=.bool (h s)
theorem vG (h:Nat->Bool):wG h []:=fun s v e=>by cases e
theorem Fb {s:Nat}(b:wG h km):wG h (fD km s (.bool (h s))):=fun t v e=>by
 by_cases a:s=t
 ·subst a;rw [jN] at e;exact (PS e).symm
 rw [iK a] at e;exact b t v e
theorem BT (a:wG h km)(s:Nat):∃ x f:Bool,jZ (.bool false) true (cW km s)=.tuple #[.bool x,.bool f]/\(f=true->x=h s):=by
 cases e:cW km s with
 | none=>exact ⟨false,false,rfl,fun h=>by cases h⟩
 | some v=>exact ⟨h s,true,by rw [a s v e];rfl,fun _=>rfl⟩
theorem AQ:∀ n<6,∀ s<2 ^ n,(∀ i∈cX s,i<n)/\(cX s).Pairwise (·<·):=by decide +kernel
theorem LS {s:Nat}(a:n<6)(b:s<2 ^ n):AscIn n (cX s):=⟨(AQ n a s b).1,(AQ n a s b).2⟩
structure SrchIn (C:Mem)(B:Bk)(b0 bm:Nat):Prop where
 ex:∃ v1 v2 tv cv ov,C b0=some (.cells ⟨[v1,v2,tv,cv,ov,.map (some bm)]⟩ 153 (0,0))/\BookIn C (.agg ⟨[v1,v2,tv,cv,ov]⟩) B
theorem SrchIn.mono {C D:Mem}{B:Bk}{a b:Nat}(h:SrchIn C B a b)(c:C.le D):SrchIn D B a b:=by
 obtain ⟨d,e,f,g,i,h1,h2⟩:=h.ex;exact ⟨d,e,f,g,i,c _ _ h1,h2.mono c⟩
theorem SrchIn.m_ {D:Mem}{a b:Nat}(h:SrchIn C B a b)(c:C.le D:=by exact mup):SrchIn D B a b:=SrchIn.mono h c
noncomputable def hS (B:Bk)(RO:Nat->List RowQ)(s:Nat):Bool:=ma B RO (cX s)
theorem uP (C:Mem)(k:Tabs C)(B:Bk)(l:List Rat)(b:Nat->List RowQ)(m c s:Nat)(d:List (Nat × Value))(t:SrchIn C B m c)(h:Calm B l b)(n:B.obs.length<6)(v:s<2 ^ B.obs.length)(e:wG (hS B b) d) :
  Jog.Fn cx.P 40 [.pointer (some ⟨m,0,none⟩),.int .u64 s] C [.obj c (aN keyU.enc d)] fun u _ o=>u=.tuple #[.bool (hS B b s),.int .i64 0]/\∃ p,wG (hS B b) p/\o=[.obj c (aN keyU.enc p)]:=by
 obtain ⟨F,G,H,I,J,g,w⟩:=t.ex;obtain ⟨x,f,y,z⟩:=BT e s;have i:=xr n;refine Sc func40 41 U3 fun w0=>Sp (L':=[.obj c (aN keyU.enc d)]) Z<|C6 2 [0,1] Z<|R4 3 Z fun R a=>R5 (bkT g 1) U8<|R7 U6<|Tn keyU af Z Z Z Z Z Z Z Z kr_ Z y Z Z<|C4 5 [0,1,6,7] a Z<|C6 1 [0,1,6,19] Z<|R6 (fun q=>?_) fun q=>?_
 ·have A:f=true:=q;refine C6 3 [4,5] Z<|Sh (Sy U3 ?_);exact ⟨by rw [z A],d,e,Z⟩
 refine Ss [0,1,2,3,4,5,6,7,8,9,10,11] [(6,1),(3,0)] Z kr_ fun R r a=>R9 3 Z<|S6 (fun _=>((bkT g 5).mono r)) U9<|R7 U6<|SD (ni _ k.m_ s om_) U7 fl_ fun K _ _ E=>SF (fun _=>(Aa _ k.m_ _ _ B l b (cX s) w.m_ h (LS n v).set E.m_)) U9<|R9 5 Z<|Sa [0,1,8,9] a Z ?_;clear a r R;refine C6 2 [0,1,8,9,32] Z<|R6 (fun i=>?_) fun i=>?_
 ·refine R4 3 Z fun R a=>R5 (bkT g 1) U8<|R9 2 Z<|D.mapUpdate keyU (j:=0) Z Z Z Z Z Z Z Z Z Z kr_<|Sa [8,9] a Z<|C6 4 [4,5] Z<|Sh (Sy U3 ?_);exact ⟨Z,_,Fb e,Z⟩
 exact absurd i dc_
def wU (i n:Nat):List Nat:=(List.range n).map fun q=>if q<i then q else 0
theorem mU :(wU i n).length=n:=by simp [wU]
theorem uw :jH [.int .i64 0] n=((wU 0 n).map aQ).flatten:=by
 rw [dQ];congr 1;unfold wU;rw [Pc];refine (List.eq_replicate_iff.2 ⟨by simp,fun x a=>?_⟩).symm;obtain ⟨q,_,rfl⟩:=OB.1 a;rfl
theorem yN :(wU i n).set i i=wU (i+1) n:=by
 refine List.ext_getElem? fun j=>?_;unfold wU;rw [List.getElem?_set,Ou,Ou,al,Pr];by_cases a:j<n
 ·rw [O5 a];by_cases e:i=j
  ·subst e;simp [a]
  have:(j<i+1) ↔ j<i:=by omega
  simp [e,this]
 rw [OD (show (List.range n).length<=j by simp;omega)];simp;omega
theorem ux :wU n n=List.range n:=by
 unfold wU;have e:∀ q∈List.range n,(if q<n then q else 0)=id q:=fun q a=>aI (ON.1 a);rw [List.map_congr_left e,List.map_id]
theorem Ed (n:Nat):AscIn n (List.range n):=⟨fun _b a=>ON.1 a,List.pairwise_lt_range⟩
theorem lg:∀ i,(aQ i).length=1:=fun _=>rfl
theorem ph (l:List Nat):∀ r∈l.map aQ,r.length=1:=fun r hr=>by
 obtain ⟨x,_,rfl⟩:=OB.1 hr;rfl
theorem DL (C:Mem)(w:Tabs C)(p:Value)(B:Bk)(x:List Rat)(y:Nat->List RowQ)(q:BookIn C p B)(h:Calm B x y) :
  Jog.Fn cx.P 37 [p] C [] fun u D b=>(10<B.obs.length/\u=.tuple #[.pointer none,.int .i64 4]/\b=[])∨(B.obs.length<=10/\∃ r s,u=.tuple #[.pointer (some ⟨r,0,none⟩),.int .i64 0]/\SrchIn D B r s/\b=[.obj s (aN keyU.enc [])]):=by
 have z:=h.ob;have d:=q;obtain ⟨W,X,Y,cv,ov,rfl,h1,h2,h3,h4,h5⟩:=id q.ex;obtain ⟨A,E,rfl,_⟩:=id h1;obtain ⟨A2,c2,rfl,_⟩:=id h2;obtain ⟨F,H,rfl,_⟩:=id h3;obtain ⟨I,J,rfl,_⟩:=id h4;obtain ⟨K,L,rfl,M,aa,_⟩:=id h5;obtain ⟨n,e⟩:∃ n,B.obs.length=n:=⟨_,rfl⟩;have ab:maxLen<=9223372036854775807:=by simp [maxLen]
 rw [e] at z;simp only [al,e] at h5 M d ⊢;refine Sc func37 34 U3 fun w0=>R8 fun R a=>So U6 fun N=>C4 2 [1] a Z<|G.freeze 0 Z fun _ _ f=>R4 1 Z fun R a=>R5 (bkT f 1) U8<|R7 U6<|S3 U9 (Oo _) (by show 8*n<=_;omega) (by simp only [maxLen];omega) fl_ fun c=>C4 1 [1,4] a Z<|C6 3 [1,4,12,13] Z<|Sp (L':=[.arr (.slice (some ⟨c,0,none⟩) n n) 3 1 n ((wU 0 n).map aQ).flatten]) (by rw [<- uw];rfl)<|G.loop (fun fr C' b O=>∃ (i:Nat),(i<=n)/\fr=[(1,[],.pointer (some ⟨N,0,none⟩)),(4,[],.slice (some ⟨c,0,none⟩) n n),(12,[],.int .i64 n),(13,[],.int .i64 i)]/\b=[.arr (.slice (some ⟨c,0,none⟩) n n) 3 1 n ((wU i n).map aQ).flatten]/\O=n-i) (hn_ [1,4,12,13] Z) ⟨0,Ow _,Z,Z,Z⟩ (fun fr ac ad m Q S=>?_);obtain ⟨i,hi,rfl,rfl,rfl⟩:=S;refine C6 1 [1,4,12,13,14] Z<|R6 (fun g=>?_) fun g=>?_
 ·have k:i<n:=by
   have:=NM g;omega
  refine C6 2 [1,4,5,12,13] Z<|R4 3 Z fun R a=>SC (i*1) U10 ah U2<|SG (j:=0) U11 (by show i*1+1<=_;rw [bQ lg,mU];omega)<|Sa [1,4,12,13] a Z<|R8 fun R a=>Se _ U7<|C4 1 [1,4,12,13] a Z<|Sp (L':=[.arr (.slice (some ⟨c,0,none⟩) n n) 3 1 n ((wU (i+1) n).map aQ).flatten]) (by rw [<- yN,<- bJ lg _ (by rw [mU];exact k)];rfl)<|Sj (m':=n-(i+1)) om_ Q (hn_ [1,4,12,13] Z) ⟨i+1,om_,Z,Z,Z⟩
 have k:i=n:=by
  have:=Ox g;omega
 subst k;rw [ux];refine G.freezeArr 0 ((List.range i).map aQ) Z Z (ph _) am fun _ _ T=>R8 fun R a=>R5 (bkT f 5) U8<|R7 U6<|Sg (wj _ w.m_ _ _ d.m_ h (e ▸ Ed i) T.m_) U7<|C4 1 [1,4,6] a Z<|C6 2 [1,4,6,25] Z<|R6 (fun t=>?_) fun t=>?_
 ·exact absurd t dc_
 refine C6 3 [1,29] Z<|R6 (fun l=>?_) fun l=>?_
 ·have o:10<i:=by
   have:=NM l;omega
  refine C6 2 [2,3] Z<|Sh (G.dropAll (Sy U3 ?_));exact .inl ⟨o,Z,Z⟩
 have o:i<=10:=by
  have:=Ox l;omega
 refine R8 fun R a=>R5 (bkT f 5) U8<|D.makeMap keyU Z Z Z Z fl_ fun v=>Sn [.slice A B.pts.length E,.slice A2 B.tris.length c2,.slice F B.terr.length H,.slice I B.col.length J,.slice K i L,.map (some v)] U8<|So U6 fun U=>C4 2 [2,3] a Z<|G.freeze 0 Z fun _ _ V=>Sh (Sy U3 ?_);exact .inr ⟨o,U,v,Z,⟨_,_,_,_,_,V,d.mono mup⟩,Z⟩
theorem zc (C:Mem)(f:Tabs C)(a:Value)(B:Bk)(b:List Rat)(c:Nat->List RowQ)(g:BookIn C a B)(h:Calm B b c)(j:B.obs.length<=10) :
  Jog.Fn cx.P 37 [a] C [] fun u D i=>∃ d e,u=.tuple #[.pointer (some ⟨d,0,none⟩),.int .i64 0]/\SrchIn D B d e/\i=[.obj e (aN keyU.enc [])] :=
 Fn.mono (DL C f a B b c g h) fun _ _ _ _ h=>h.elim (fun h=>absurd h.1 om_) (·.2)
end Go.Proofs.YthnpijdjlddpmaaGreatDoor
