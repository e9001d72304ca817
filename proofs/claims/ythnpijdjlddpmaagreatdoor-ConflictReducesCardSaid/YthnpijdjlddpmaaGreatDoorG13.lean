/- Laws that the proofs of this seat share, part 13. -/
import Derived.Test.YthnpijdjlddpmaaGreatDoorG12
import Derived.Test.YthnpijdjlddpmaaGreatDoorShelf
set_option maxHeartbeats 4000000
namespace Go.Proofs.YthnpijdjlddpmaaGreatDoor
open Go.Proofs.Tryz
open Go Go.Jog
set_option maxRecDepth 100000
variable {B:Bk}{C:Mem}{b:Nat}{cc:Nat->Rat}{h:Nat->Bool}{i k:Nat}{km:List (Nat × Value)}{l:List Nat}{n:Nat}{ob:List Rat}{p:Lp.Sys}{r:List Rat × Rat}{rows:List RowQ}{rs:List (List Rat × Rat)}{s:Nat}{t:Lp.Tab}{u:Value}{vs:List Value}{w:Value}{wF:Nat->Value}{z:Int}
theorem PK (C:Mem)(v:Value)(l:List Rat)(b:Sl C 1 v (l.map aZ))(t:l.length<=1000000):Jog.Fn cx.P 173 [v] C [] fun u _w e=>∃ A n c,u=.slice A n c/\e=[.arr (.slice A n c) 56 1 l.length (l.map aZ).flatten]:=by
 obtain ⟨f,c0,rfl,m,x,y,o⟩:=id b;have z:maxLen<=9223372036854775807:=by simp [maxLen]
 simp only [al] at b m ⊢;refine UD func173 8 U3 fun w0=>Uu 1 [0] Z<|Uv 1 Z fun R d=>V8 U9<|UA [0,4] d Z<|Ux (fun h4=>?_) fun h4=>?_
 ·have p:f=none:=by
   cases f with
   | none=>rfl
   | some a=>cases h4
  have s:l=[]:=by
   cases l with
   | nil=>rfl
   | cons q r =>
    obtain ⟨a,g,_⟩:=o 0 (aZ q) rfl;rw [p] at g;cases g
  refine Uu 1 [2] Z<|G.nilArr 56 1<|UJ (Vj Z Z ?_);exact ⟨none,0,0,Z,by rw [s];rfl⟩
 refine Uz fun R d=>VA [] U12 fl_ fun B=>Uy U6<|UZ (j:=0) U11 b.m_ (by simp [aZ,lH,ai]) (by simp only [al,Q7,maxLen];omega) (by simp only [al,Q7];omega) fl_ fun h i k=>C4 1 [2] d Z<|UN (L':=[.arr (.slice h i k) 56 1 l.length (l.map aZ).flatten]) am<|UJ (Vj Z Z ?_);exact ⟨h,i,k,Z,Z⟩
def eL (n:Nat)(rs:List (List Rat × Rat)):Lp.Sys:=⟨n,rs.length,fun r j=>(rs.getD r ([],0)).1.getD j 0,fun r=>(rs.getD r ([],0)).2⟩
abbrev sA (A:Option Addr)(n c:Nat):Value:=.slice A n c
abbrev sB (A:Option Addr)(n c:Nat):Value:=.slice A n c
abbrev sO (A:Option Addr)(n c:Nat):Value:=.slice A n c
abbrev sW (A:Option Addr)(n c:Nat):Value:=.slice A n c
abbrev sF (A:Option Addr)(n c:Nat):Value:=.slice A n c
def lbF (n i:Nat):List Nat:=(List.range i).map fun q=>n+q
def lvF (rs:List (List Rat × Rat))(wF:Nat->Value)(i:Nat):List (Rat × Value):=(List.range i).map fun q=>((rs.getD q ([],0)).2,wF q)
def opE (n:Nat)(rs:List (List Rat × Rat))(wF:Nat->Value)(q:Nat):Ent:=.arr (wF q) 56 1 n (((List.range n).map fun j=>-(rs.getD q ([],0)).1.getD j 0).map aZ).flatten
def IM (wF:Nat->Value)(i:Nat)(w:Value):Nat->Value:=fun q=>if q=i then w else wF q
theorem EW :IM wF i w i=w:=aW rfl
theorem EV {q:Nat}(h:q≠i):IM wF i w q=wF q:=az h
theorem Kb :lbF n (i+1)=lbF n i++[n+i]:=by unfold lbF;rw [RY,Ru];rfl
theorem J0 (h:rs.getD i ([],0)=r):lvF rs (IM wF i w) (i+1)=lvF rs wF i++[(r.2,w)]:=by
 unfold lvF;rw [RY,Ru,List.map_singleton,h,EW];congr 1;refine List.map_congr_left fun q a=>?_;rw [EV (by have:=Q9.1 a;omega)]
theorem JQ (h:rs.getD i ([],0)=r):(List.range (i+1)).map (opE n rs (IM wF i w))=(List.range i).map (opE n rs wF)++[.arr w 56 1 n (((List.range n).map fun j=>-r.1.getD j 0).map aZ).flatten]:=by
 rw [RY,Ru,List.map_singleton];congr 1
 ·refine List.map_congr_left fun q a=>?_;unfold opE;rw [EV (by have:=Q9.1 a;omega)]
 unfold opE;rw [h,EW]
theorem Dn {l:List Rat}(h:l.length=n):(List.range n).map (fun j=>l.getD j 0)=l:=by
 refine List.ext_getElem? fun j=>?_;rw [QU];by_cases a:j<n
 ·rw [Rw a,aj om_];show some (l.getD j 0)=_;rw [au,aj om_];rfl
 rw [QY (show (List.range n).length<=j by simp;omega),QY om_];rfl
theorem Gh {a d e g:Value}(l:ob.length=n) :
  (fg b n (Lp.openT (eL n rs) fun j=>ob.getD j 0) a d e g wF).map Lent.ent=[.obj b (.cells ⟨[.int .i64 n,a,d,e,ai [48],g]⟩ 212 (0,0)),.arr a 3 1 rs.length ((lbF n rs.length).map aM).flatten,.arr d 209 2 rs.length ((lvF rs wF rs.length).map bE).flatten,.arr e 3 1 n ((List.range n).map aM).flatten,.arr g 56 1 n (ob.map aZ).flatten]++(List.range rs.length).map (opE n rs wF):=by
 have i:(Lp.openT (eL n rs) fun j=>ob.getD j 0).basic.length=rs.length:=Lp.openT_lb;have k:(Lp.openT (eL n rs) fun j=>ob.getD j 0).others.length=n:=Lp.openT_lo;have h1:cQ (Lp.openT (eL n rs) fun j=>ob.getD j 0) wF=lvF rs wF rs.length:=by
  unfold cQ lvF;rw [i];refine List.map_congr_left fun q h=>?_;rw [Lp.openT_line (p:=eL n rs) (Q9.1 h)];rfl
 have h2:(List.range rs.length).map (Lent.ent ∘ LF (Lp.openT (eL n rs) fun j=>ob.getD j 0) wF)=(List.range rs.length).map (opE n rs wF):=by
  refine List.map_congr_left fun q h=>?_;show Ent.arr _ _ 1 _ _=_;rw [Lp.openT_line (p:=eL n rs) (Q9.1 h),k];rfl
 have h3:(Lp.openT (eL n rs) fun j=>ob.getD j 0).worth.f=ob:=Dn l;have h4:(Lp.openT (eL n rs) fun j=>ob.getD j 0).worth.c=0:=rfl;unfold fg;rw [h1,h3,h4,i,k,P4];simp only [Rs,RG,h2];rfl
def DB (n:Nat)(rs:List (List Rat × Rat))(ob:List Rat)(b17:Nat)(Aw:Option Addr)(nw cw:Nat)(A1:Option Addr)(n1 c1:Nat)(i:Nat)(wF:Nat->Value)(r:List Rat × Rat)(A4:Option Addr)(n4 c4:Nat)(A71:Option Addr)(n71 c71:Nat)(A78:Option Addr)(n78 c78:Nat):List Ent:=[.arr (sA A71 n71 c71) 3 1 (i+1) (((lbF n i).map aM).flatten++[[.int .i64 ((n:Int)+(i:Int))]].flatten),.arr (sB A78 n78 c78) 209 2 (i+1) (((lvF rs wF i).map bE).flatten++[[ai (qtx r.2),.slice A4 n4 c4]].flatten),.obj b17 (.cells ⟨[.int .i64 n,.slice A71 n71 c71,.slice A78 n78 c78,.slice A1 n1 c1,ai [48],.slice Aw nw cw]⟩ 212 (0,0)),.arr (sO A1 n1 c1) 3 1 n (((List.range n)).map aM).flatten,.arr (sW Aw nw cw) 56 1 n (ob.map aZ).flatten,.arr (sF A4 n4 c4) 56 1 n (((List.range n).map fun q=>-r.1.getD q 0).map aZ).flatten]++(List.range i).map (opE n rs wF)
def opX1 (n:Nat)(rs:List (List Rat × Rat))(ob:List Rat)(b17:Nat)(Aw:Option Addr)(nw cw:Nat)(A1:Option Addr)(n1 c1:Nat)(i:Nat)(wF:Nat->Value)(A4:Option Addr)(n4 c4:Nat)(A71:Option Addr)(n71 c71:Nat)(A78:Option Addr)(n78 c78:Nat):List Ent:=[.arr (sA A71 n71 c71) 3 1 (i+1) ((lbF n (i+1)).map aM).flatten,.arr (sB A78 n78 c78) 209 2 (i+1) ((lvF rs (IM wF i (.slice A4 n4 c4)) (i+1)).map bE).flatten,.obj b17 (.cells ⟨[.int .i64 n,.slice A71 n71 c71,.slice A78 n78 c78,.slice A1 n1 c1,ai [48],.slice Aw nw cw]⟩ 212 (0,0)),.arr (sO A1 n1 c1) 3 1 n (((List.range n)).map aM).flatten,.arr (sW Aw nw cw) 56 1 n (ob.map aZ).flatten]++(List.range (i+1)).map (opE n rs (IM wF i (.slice A4 n4 c4)))
theorem dD {a:Nat}{b:Option Addr}{c d:Nat}{e:Option Addr}{f g:Nat}{h:Option Addr}{j k:Nat}{l:Option Addr}{m o:Nat}{p:Option Addr}{q s:Nat}(t:rs.getD i ([],0)=r):(DB n rs ob a b c d e f g i wF r h j k l m o p q s).Perm (opX1 n rs ob a b c d e f g i wF h j k l m o p q s):=by
 unfold DB opX1;rw [Kb,J0 t,JQ t];simp only [Ru,Rz];exact List.Perm.append_left [_,_,_,_,_] (List.perm_append_singleton _ _).symm
theorem JF (C:Mem)(_aR:Tabs C)(n:Nat)(rv ov:Value)(c:List (List Rat × Rat))(z:List Rat)(hr:RowsT C rv (c.map gV))(ho:Sl C 1 ov (z.map aZ))(hq:RowsQ n c)(hn:n<=1000)(av:z.length=n) :
  Jog.Fn cx.P 114 [.agg ⟨[.int .i64 n,rv,ov]⟩] C [] fun u _aS x=>∃ b wB wL wO wW wF,u=.pointer (some ⟨b,0,none⟩)/\x=(fg b n (Lp.openT (eL n c) fun j=>z.getD j 0) wB wL wO wW wF).map Lent.ent:=by
 obtain ⟨vs,aw,aC,V⟩:=hr;obtain ⟨Ar,cr,rfl,ay,aT,_⟩:=id V;have hm:=hq.m;have aU:maxLen<=9223372036854775807:=by simp [maxLen]
 rw [tB aw] at V ay ⊢;simp only [al] at V ay aw ⊢;refine UD func114 85 U3 fun w0=>?_;refine Uz fun R a=>?_;refine UQ U6 (fun W=>?_);refine C4 1 [1] a Z ?_;clear a R;refine G.freeze 0 Z (fun _ _ U=>?_);refine US [0,1,2,3,4,5,6,7,8] [(4,3),(1,0)] Z kr_ (fun R I a=>?_);refine Uy U6 ?_;refine Vx (fun _=>((PtrTo.blockT U _ 1).mono I)) U9 ?_;refine Uy U6 ?_;refine Uw (bkT U 1) U8 ?_;refine D.call (PK _ ov z ho.m_ om_) Z (.inr dc_) U6 (QW _) fl_ (fun aV _ aW _ aD=>?_);obtain ⟨d,e,f,rfl,rfl⟩:=aD;refine UO [ai [48],.slice d e f] U8 ?_;refine UO [.int .i64 n,.slice none 0 0,.slice none 0 0,.slice none 0 0,ai [48],.slice d e f] U8 ?_;refine UQ U6 (fun y=>?_);refine Uy U6 ?_;refine UA [1,3] a Z ?_;clear a I R;refine Uv 1 Z fun R a=>?_;refine Uw (bkT U 1) U8 ?_;refine C4 1 [1,3,19,20] a Z ?_;clear a R;refine G.nilArr 3 1 ?_;refine UN (L':=[.arr (sO none 0 0) 3 1 0 (((List.range 0)).map aM).flatten,.obj y (.cells ⟨[.int .i64 n,.slice none 0 0,.slice none 0 0,.slice none 0 0,ai [48],.slice d e f]⟩ 212 (0,0)),.arr (sW d e f) 56 1 n (z.map aZ).flatten]) (by rw [av];rfl) ?_;refine G.loop (fun fr C' x O=>∃ (i:Nat)(t:Option Addr)(n1 v:Nat),(i<=n)/\fr=[(1,[],.pointer (some ⟨W,0,none⟩)),(3,[],.pointer (some ⟨y,0,none⟩)),(19,[],.int .i64 n),(20,[],.int .i64 i)]/\x=[.arr (sO t n1 v) 3 1 i (((List.range i)).map aM).flatten,.obj y (.cells ⟨[.int .i64 n,.slice none 0 0,.slice none 0 0,.slice t n1 v,ai [48],.slice d e f]⟩ 212 (0,0)),.arr (sW d e f) 56 1 n (z.map aZ).flatten]/\O=n-i) (hn_ [1,3,19,20] Z) ⟨0,none,0,0,QT _,Z,Z,Z⟩ (fun fr aX aY m _ Q=>?_);obtain ⟨i,t,n1,v,hi,rfl,rfl,rfl⟩:=Q;refine Uu 1 [1,3,19,20,21] Z ?_;refine Ux (fun ad=>?_) fun ad=>?_
 ·have az:i<n:=by
   have:=aJ ad;omega
  refine Uu 2 [1,3,4,19,20] Z ?_;refine Uv 4 Z fun R a=>?_;refine UE ae U9 ?_;refine Uy U6 ?_;refine UR [[.int .i64 i]] U12 (fun a0 _ _ aE=>?_);refine UZ (j:=0) U11 aE Z ax (by show (i+1)*8<=_;omega) fl_ (fun af ag ah=>?_);refine UB 2 Z ?_;refine UG (j:=1) U12 ?_;refine UA [1,3,19,20] a Z ?_;clear a R;refine Uz fun R a=>?_;refine UF _ U7 ?_;refine C4 1 [1,3,19,20] a Z ?_;clear a R;refine G.perm (L':=[.arr (sO af ag ah) 3 1 (i+1) (((List.range (i+1))).map aM).flatten,.obj y (.cells ⟨[.int .i64 n,.slice none 0 0,.slice none 0 0,.slice af ag ah,ai [48],.slice d e f]⟩ 212 (0,0)),.arr (sW d e f) 56 1 n (z.map aZ).flatten]) (by rw [RY,Ru,Rz];exact List.Perm.swap _ _ _) ?_;refine UH (m':=n-(i+1)) om_ mup (hn_ [1,3,19,20] Z) ⟨i+1,af,ag,ah,om_,Z,Z,Z⟩
 have ak:i=n:=by
  have:=QS ad;omega
 rw [ak];refine Uv 1 Z fun R a=>?_;refine Uw (bkT U 1) U8 ?_;refine C4 2 [1,3,35,36,37] a Z ?_;clear a R;refine G.nilArr 209 2 ?_;refine G.nilArr 3 1 ?_;refine G.perm (L':=[.arr (sA none 0 0) 3 1 0 ((lbF n 0).map aM).flatten,.arr (sB none 0 0) 209 2 0 ((lvF c (fun _=>.slice none 0 0) 0).map bE).flatten,.obj y (.cells ⟨[.int .i64 n,.slice none 0 0,.slice none 0 0,.slice t n1 v,ai [48],.slice d e f]⟩ 212 (0,0)),.arr (sO t n1 v) 3 1 n (((List.range n)).map aM).flatten,.arr (sW d e f) 56 1 n (z.map aZ).flatten]++(List.range 0).map (opE n c (fun _=>.slice none 0 0))) (by
  show List.Perm ([_,_,_,_,_]++[]) _
  (exact pkL [0,0,1,0,0] rfl)) ?_
 refine G.loop (fun fr C' x O=>∃ (i:Nat)(A2:Option Addr)(n2 c2:Nat)(K:Option Addr)(L M:Nat)(wF:Nat->Value),(i<=c.length)/\fr=[(1,[],.pointer (some ⟨W,0,none⟩)),(3,[],.pointer (some ⟨y,0,none⟩)),(35,[],.slice Ar c.length cr),(36,[],.int .i64 c.length),(37,[],.int .i64 i)]/\x=[.arr (sA A2 n2 c2) 3 1 i ((lbF n i).map aM).flatten,.arr (sB K L M) 209 2 i ((lvF c wF i).map bE).flatten,.obj y (.cells ⟨[.int .i64 n,.slice A2 n2 c2,.slice K L M,.slice t n1 v,ai [48],.slice d e f]⟩ 212 (0,0)),.arr (sO t n1 v) 3 1 n (((List.range n)).map aM).flatten,.arr (sW d e f) 56 1 n (z.map aZ).flatten]++(List.range i).map (opE n c wF)/\O=c.length-i) (hn_ [1,3,35,36,37] Z) ⟨0,none,0,0,none,0,0,fun _=>.slice none 0 0,QT _,Z,Z,Z⟩ (fun fr a1 a2 m _ Q=>?_);obtain ⟨i,A2,n2,c2,K,L,M,wF,hi,rfl,rfl,rfl⟩:=Q;refine Uu 1 [1,3,35,36,37,38] Z ?_;refine Ux (fun am=>?_) fun am=>?_
 ·have az:i<c.length:=by
   have:=aJ am;omega
  obtain ⟨r,X⟩:∃ r,c[i]?=some r:=⟨c[i],aj az⟩;have N:c.getD i ([],0)=r:=by rw [au,X];rfl
  have a3:r.1.length=n:=hq.l r (QQ X);obtain ⟨aF,a4⟩:=hq.q r (QQ X);obtain ⟨w,hw⟩:∃ w,vs[i]?=some w:=⟨vs[i]'om_,aj om_⟩;have aA:(c.map gV)[i]?=some (gV r):=by rw [QU,X];rfl
  have hx:=aC i w (gV r) hw aA;have an:Sl C 1 w (r.1.map aZ):=by rw [BV];exact hx
  obtain ⟨Ax,aG,rfl,aH,a5,_⟩:=id an;simp only [al] at an aH hw;refine Uv 1 Z fun R a=>?_;refine UK V.m_ U10 om_ (EJ hw aA) fl_ (fun a6 aI=>?_);refine Uw aI U8 ?_;refine UP U5 (fun b6=>?_);refine Uy U6 ?_;refine UG (j:=0) U12 ?_;refine UA [1,3,5,6,35,36,37] a Z ?_;clear a R;refine G.freeze 0 Z (fun _ _ aB=>?_);refine Uv 1 Z fun R a=>?_;refine Uw (bkT aB 1) U8 ?_;refine UO [ai (qtx r.2),.slice none 0 0] U8 ?_;refine UP U5 (fun Y=>?_);refine UG (j:=0) U12 ?_;refine UA [1,3,5,6,7,35,36,37] a Z ?_;clear a R;refine Uv 1 Z fun R a=>?_;refine Uw (bkT aB 1) U8 ?_;refine C4 2 [1,3,5,7,35,36,37,46,47,48] a Z ?_;clear a R;refine G.nilArr 56 1 ?_;refine UN (L':=[.arr (sF none 0 0) 56 1 0 (((List.range 0).map fun q=>-r.1.getD q 0).map aZ).flatten,.obj Y (.cells ⟨[ai (qtx r.2),.slice none 0 0]⟩ 209 (0,0)),.arr (sA A2 n2 c2) 3 1 i ((lbF n i).map aM).flatten,.arr (sB K L M) 209 2 i ((lvF c wF i).map bE).flatten,.obj y (.cells ⟨[.int .i64 n,.slice A2 n2 c2,.slice K L M,.slice t n1 v,ai [48],.slice d e f]⟩ 212 (0,0)),.arr (sO t n1 v) 3 1 n (((List.range n)).map aM).flatten,.arr (sW d e f) 56 1 n (z.map aZ).flatten]++(List.range i).map (opE n c wF)) Z ?_;refine G.loop (fun fr C' x O=>∃ (j:Nat)(A:Option Addr)(B E:Nat),(j<=n)/\fr=[(1,[],.pointer (some ⟨W,0,none⟩)),(3,[],.pointer (some ⟨y,0,none⟩)),(5,[],.int .i64 i),(7,[],.pointer (some ⟨Y,0,none⟩)),(35,[],.slice Ar c.length cr),(36,[],.int .i64 c.length),(37,[],.int .i64 i),(46,[],.slice Ax r.1.length aG),(47,[],.int .i64 r.1.length),(48,[],.int .i64 j)]/\x=[.arr (sF A B E) 56 1 j (((List.range j).map fun q=>-r.1.getD q 0).map aZ).flatten,.obj Y (.cells ⟨[ai (qtx r.2),.slice A B E]⟩ 209 (0,0)),.arr (sA A2 n2 c2) 3 1 i ((lbF n i).map aM).flatten,.arr (sB K L M) 209 2 i ((lvF c wF i).map bE).flatten,.obj y (.cells ⟨[.int .i64 n,.slice A2 n2 c2,.slice K L M,.slice t n1 v,ai [48],.slice d e f]⟩ 212 (0,0)),.arr (sO t n1 v) 3 1 n (((List.range n)).map aM).flatten,.arr (sW d e f) 56 1 n (z.map aZ).flatten]++(List.range i).map (opE n c wF)/\O=n-j) (hn_ [1,3,5,7,35,36,37,46,47,48] Z) ⟨0,none,0,0,QT _,Z,Z,Z⟩ (fun fr a7 a8 m _ Q=>?_);obtain ⟨j,A,B,E,hj,rfl,rfl,rfl⟩:=Q;refine Uu 1 [1,3,5,7,35,36,37,46,47,48,49] Z ?_;refine Ux (fun ao=>?_) fun ao=>?_
  ·have a9:j<n:=by
    have:=aJ ao;omega
   have aL:QB 23 (r.1.getD j 0):=PD aF;refine Uz fun R a=>?_;refine UK an.m_ U10 om_ (dK om_) fl_ (fun ba aN=>?_);refine Uw aN U8 ?_;refine C4 1 [1,3,5,7,9,35,36,37,46,47,48] a Z ?_;clear a R;refine US [0,1,2,3,4,5,6,7] [(3,1)] Z kr_ (fun R I a=>?_);refine Uy U6 ?_;refine UE ae U9 ?_;refine Uy U6 ?_;refine UT (fun _=>(eP _ (r.1.getD j 0) (Rb (bJ aL dc_) dc_))) U9 ?_;refine UR [[ai (qtx (-(r.1.getD j 0)))]] U12 (fun bb _ _ aO=>?_);refine UZ (j:=0) U11 aO Z ax (by show (j+1)*16<=_;omega) fl_ (fun ap aq ar=>?_);refine Uy U6 ?_;refine UG (j:=1) U12 ?_;refine UA [1,3,5,7,35,36,37,46,47,48] a Z ?_;clear a I R;refine Uz fun R a=>?_;refine UF _ U7 ?_;refine C4 1 [1,3,5,7,35,36,37,46,47,48] a Z ?_;clear a R;refine G.perm (L':=[.arr (sF ap aq ar) 56 1 (j+1) (((List.range (j+1)).map fun q=>-r.1.getD q 0).map aZ).flatten,.obj Y (.cells ⟨[ai (qtx r.2),.slice ap aq ar]⟩ 209 (0,0)),.arr (sA A2 n2 c2) 3 1 i ((lbF n i).map aM).flatten,.arr (sB K L M) 209 2 i ((lvF c wF i).map bE).flatten,.obj y (.cells ⟨[.int .i64 n,.slice A2 n2 c2,.slice K L M,.slice t n1 v,ai [48],.slice d e f]⟩ 212 (0,0)),.arr (sO t n1 v) 3 1 n (((List.range n)).map aM).flatten,.arr (sW d e f) 56 1 n (z.map aZ).flatten]++(List.range i).map (opE n c wF)) (by rw [RY,Ru,Ru,Rz];exact List.Perm.swap _ _ _) ?_;refine UH (m':=n-(j+1)) om_ mup (hn_ [1,3,5,7,35,36,37,46,47,48] Z) ⟨j+1,ap,aq,ar,om_,Z,Z,Z⟩
  have aP:j=n:=by
   have:=QS ao;omega
  rw [aP];refine G.freeze 1 Z (fun _ _ aQ=>?_);refine UN (L':=[.arr (sF A B E) 56 1 n (((List.range n).map fun q=>-r.1.getD q 0).map aZ).flatten,.arr (sA A2 n2 c2) 3 1 i ((lbF n i).map aM).flatten,.arr (sB K L M) 209 2 i ((lvF c wF i).map bE).flatten,.obj y (.cells ⟨[.int .i64 n,.slice A2 n2 c2,.slice K L M,.slice t n1 v,ai [48],.slice d e f]⟩ 212 (0,0)),.arr (sO t n1 v) 3 1 n (((List.range n)).map aM).flatten,.arr (sW d e f) 56 1 n (z.map aZ).flatten]++(List.range i).map (opE n c wF)) Z ?_;refine G.cut (fun fr C' x O=>∃ (A7:Option Addr)(n7 c7:Nat)(A8:Option Addr)(n8 c8:Nat),(True)/\fr=[(1,[],.pointer (some ⟨W,0,none⟩)),(3,[],.pointer (some ⟨y,0,none⟩)),(35,[],.slice Ar c.length cr),(36,[],.int .i64 c.length),(37,[],.int .i64 i)]/\x=[.arr (sA A7 n7 c7) 3 1 (i+1) ((lbF n (i+1)).map aM).flatten,.arr (sB A8 n8 c8) 209 2 (i+1) ((lvF c (IM wF i (.slice A B E)) (i+1)).map bE).flatten,.obj y (.cells ⟨[.int .i64 n,.slice A7 n7 c7,.slice A8 n8 c8,.slice t n1 v,ai [48],.slice d e f]⟩ 212 (0,0)),.arr (sO t n1 v) 3 1 n (((List.range n)).map aM).flatten,.arr (sW d e f) 56 1 n (z.map aZ).flatten]++(List.range (i+1)).map (opE n c (IM wF i (.slice A B E)))) ?_ (fun fr bc bd O be Q=>?_)
  ·refine Vp (.cut [0,1,2,3,4,5,6,7,8,9,12,13,14,16] (.alt 10 (.cut [] (.alt 11 (.fin [15,17,18,19,20,21,22,23,24]) (.alt 15 (.cut [] (.alt 11 (.fin [17,18,19,20,21,22,23,24]) (.alt 17 (.fin [11,18,19,20,21,22,23,24]) .stop))) (.alt 17 (.cut [] (.alt 11 (.fin [15,18,19,20,21,22,23,24]) (.alt 15 (.fin [11,18,19,20,21,22,23,24]) .stop))) .stop)))) (.alt 15 (.cut [] (.alt 10 (.cut [] (.alt 11 (.fin [17,18,19,20,21,22,23,24]) (.alt 17 (.fin [11,18,19,20,21,22,23,24]) .stop))) (.alt 17 (.fin [10,11,18,19,20,21,22,23,24]) .stop))) (.alt 17 (.cut [] (.alt 10 (.cut [] (.alt 11 (.fin [15,18,19,20,21,22,23,24]) (.alt 15 (.fin [11,18,19,20,21,22,23,24]) .stop))) (.alt 15 (.fin [10,11,18,19,20,21,22,23,24]) .stop))) .stop)))) [(16,0)] Z Z kr_ (fun R I a F=>?_);refine UB 5 Z ?_;refine UE aa U9 ?_;refine Uy U6 ?_;refine Uw (bkT U 1) U8 ?_;refine Uy U6 ?_;refine UF _ U7 ?_;refine UB 3 Z ?_;refine Vx (fun _=>((bkT aQ 2).mono I)) U9 ?_;refine Vd F Z ⟨?_, ?_, ?_,trivial⟩
   ·refine UR [[.int .i64 ((n:Int)+(i:Int))]] U12 (fun ab ac _ J=>?_);refine Vd F Z ⟨?_, ?_, ?_,trivial⟩
    ·refine UZ (j:=1) U11 J.m_ Z ax (by show (i+1)*8<=_;omega) fl_ (fun g h k=>?_);refine UE aa U9 ?_;refine UR [[ai (qtx r.2),.slice A B E]] U12 (fun S T _ H=>?_);refine UZ (j:=2) U11 H.m_ Z ax (by show (i+1)*40<=_;omega) fl_ (fun o p s=>?_);refine UB 2 Z ?_;refine UG (j:=3) U12 ?_;refine UB 2 Z ?_;refine UG (j:=0) U12 ?_;refine UA [1,3,35,36,37] a Z ?_;clear a I F R;refine G.perm (L':=DB n c z y d e f t n1 v i wF r A B E g h k o p s) (pkL [2,1,0,1,1,0] Z) ?_;refine G.perm _ (dD N) ?_;exact UL 0 mup (hn_ [1,3,35,36,37] Z) ⟨g,h,k,o,p,s,trivial,Z,Z⟩
    ·refine UE aa U9 ?_;refine Vd F Z ⟨?_, ?_,trivial⟩
     ·refine UZ (j:=1) U11 J.m_ Z ax (by show (i+1)*8<=_;omega) fl_ (fun g h k=>?_);refine UR [[ai (qtx r.2),.slice A B E]] U12 (fun S T _ H=>?_);refine UZ (j:=2) U11 H.m_ Z ax (by show (i+1)*40<=_;omega) fl_ (fun o p s=>?_);refine UB 2 Z ?_;refine UG (j:=3) U12 ?_;refine UB 2 Z ?_;refine UG (j:=0) U12 ?_;refine UA [1,3,35,36,37] a Z ?_;clear a I F R;refine G.perm (L':=DB n c z y d e f t n1 v i wF r A B E g h k o p s) (pkL [2,1,0,1,1,0] Z) ?_;refine G.perm _ (dD N) ?_;exact UL 0 mup (hn_ [1,3,35,36,37] Z) ⟨g,h,k,o,p,s,trivial,Z,Z⟩
     refine UR [[ai (qtx r.2),.slice A B E]] U12 (fun S T _ H=>?_);refine UZ (j:=1) U11 J.m_ Z ax (by show (i+1)*8<=_;omega) fl_ (fun g h k=>?_);refine UZ (j:=2) U11 H.m_ Z ax (by show (i+1)*40<=_;omega) fl_ (fun o p s=>?_);refine UB 2 Z ?_;refine UG (j:=3) U12 ?_;refine UB 2 Z ?_;refine UG (j:=0) U12 ?_;refine UA [1,3,35,36,37] a Z ?_;clear a I F R;refine G.perm (L':=DB n c z y d e f t n1 v i wF r A B E g h k o p s) (pkL [2,1,0,1,1,0] Z) ?_;refine G.perm _ (dD N) ?_;exact UL 0 mup (hn_ [1,3,35,36,37] Z) ⟨g,h,k,o,p,s,trivial,Z,Z⟩
    refine UR [[ai (qtx r.2),.slice A B E]] U12 (fun S T _ H=>?_);refine Vd F Z ⟨?_, ?_,trivial⟩
    ·refine UZ (j:=1) U11 J.m_ Z ax (by show (i+1)*8<=_;omega) fl_ (fun g h k=>?_);refine UE aa U9 ?_;refine UZ (j:=2) U11 H.m_ Z ax (by show (i+1)*40<=_;omega) fl_ (fun o p s=>?_);refine UB 2 Z ?_;refine UG (j:=3) U12 ?_;refine UB 2 Z ?_;refine UG (j:=0) U12 ?_;refine UA [1,3,35,36,37] a Z ?_;clear a I F R;refine G.perm (L':=DB n c z y d e f t n1 v i wF r A B E g h k o p s) (pkL [2,1,0,1,1,0] Z) ?_;refine G.perm _ (dD N) ?_;exact UL 0 mup (hn_ [1,3,35,36,37] Z) ⟨g,h,k,o,p,s,trivial,Z,Z⟩
    refine UE aa U9 ?_;refine UZ (j:=1) U11 J.m_ Z ax (by show (i+1)*8<=_;omega) fl_ (fun g h k=>?_);refine UZ (j:=2) U11 H.m_ Z ax (by show (i+1)*40<=_;omega) fl_ (fun o p s=>?_);refine UB 2 Z ?_;refine UG (j:=3) U12 ?_;refine UB 2 Z ?_;refine UG (j:=0) U12 ?_;refine UA [1,3,35,36,37] a Z ?_;clear a I F R;refine G.perm (L':=DB n c z y d e f t n1 v i wF r A B E g h k o p s) (pkL [2,1,0,1,1,0] Z) ?_;refine G.perm _ (dD N) ?_;exact UL 0 mup (hn_ [1,3,35,36,37] Z) ⟨g,h,k,o,p,s,trivial,Z,Z⟩
   ·refine UE aa U9 ?_;refine Vd F Z ⟨?_, ?_,trivial⟩
    ·refine UR [[.int .i64 ((n:Int)+(i:Int))]] U12 (fun ab ac _ J=>?_);refine Vd F Z ⟨?_, ?_,trivial⟩
     ·refine UZ (j:=1) U11 J.m_ Z ax (by show (i+1)*8<=_;omega) fl_ (fun g h k=>?_);refine UR [[ai (qtx r.2),.slice A B E]] U12 (fun S T _ H=>?_);refine UZ (j:=2) U11 H.m_ Z ax (by show (i+1)*40<=_;omega) fl_ (fun o p s=>?_);refine UB 2 Z ?_;refine UG (j:=3) U12 ?_;refine UB 2 Z ?_;refine UG (j:=0) U12 ?_;refine UA [1,3,35,36,37] a Z ?_;clear a I F R;refine G.perm (L':=DB n c z y d e f t n1 v i wF r A B E g h k o p s) (pkL [2,1,0,1,1,0] Z) ?_;refine G.perm _ (dD N) ?_;exact UL 0 mup (hn_ [1,3,35,36,37] Z) ⟨g,h,k,o,p,s,trivial,Z,Z⟩
     refine UR [[ai (qtx r.2),.slice A B E]] U12 (fun S T _ H=>?_);refine UZ (j:=1) U11 J.m_ Z ax (by show (i+1)*8<=_;omega) fl_ (fun g h k=>?_);refine UZ (j:=2) U11 H.m_ Z ax (by show (i+1)*40<=_;omega) fl_ (fun o p s=>?_);refine UB 2 Z ?_;refine UG (j:=3) U12 ?_;refine UB 2 Z ?_;refine UG (j:=0) U12 ?_;refine UA [1,3,35,36,37] a Z ?_;clear a I F R;refine G.perm (L':=DB n c z y d e f t n1 v i wF r A B E g h k o p s) (pkL [2,1,0,1,1,0] Z) ?_;refine G.perm _ (dD N) ?_;exact UL 0 mup (hn_ [1,3,35,36,37] Z) ⟨g,h,k,o,p,s,trivial,Z,Z⟩
    refine UR [[ai (qtx r.2),.slice A B E]] U12 (fun S T _ H=>?_);refine UR [[.int .i64 ((n:Int)+(i:Int))]] U12 (fun ab ac _ J=>?_);refine UZ (j:=1) U11 J.m_ Z ax (by show (i+1)*8<=_;omega) fl_ (fun g h k=>?_);refine UZ (j:=2) U11 H.m_ Z ax (by show (i+1)*40<=_;omega) fl_ (fun o p s=>?_);refine UB 2 Z ?_;refine UG (j:=3) U12 ?_;refine UB 2 Z ?_;refine UG (j:=0) U12 ?_;refine UA [1,3,35,36,37] a Z ?_;clear a I F R;refine G.perm (L':=DB n c z y d e f t n1 v i wF r A B E g h k o p s) (pkL [2,1,0,1,1,0] Z) ?_;refine G.perm _ (dD N) ?_;exact UL 0 mup (hn_ [1,3,35,36,37] Z) ⟨g,h,k,o,p,s,trivial,Z,Z⟩
   refine UR [[ai (qtx r.2),.slice A B E]] U12 (fun S T _ H=>?_);refine Vd F Z ⟨?_, ?_,trivial⟩
   ·refine UR [[.int .i64 ((n:Int)+(i:Int))]] U12 (fun ab ac _ J=>?_);refine Vd F Z ⟨?_, ?_,trivial⟩
    ·refine UZ (j:=1) U11 J.m_ Z ax (by show (i+1)*8<=_;omega) fl_ (fun g h k=>?_);refine UE aa U9 ?_;refine UZ (j:=2) U11 H.m_ Z ax (by show (i+1)*40<=_;omega) fl_ (fun o p s=>?_);refine UB 2 Z ?_;refine UG (j:=3) U12 ?_;refine UB 2 Z ?_;refine UG (j:=0) U12 ?_;refine UA [1,3,35,36,37] a Z ?_;clear a I F R;refine G.perm (L':=DB n c z y d e f t n1 v i wF r A B E g h k o p s) (pkL [2,1,0,1,1,0] Z) ?_;refine G.perm _ (dD N) ?_;exact UL 0 mup (hn_ [1,3,35,36,37] Z) ⟨g,h,k,o,p,s,trivial,Z,Z⟩
    refine UE aa U9 ?_;refine UZ (j:=1) U11 J.m_ Z ax (by show (i+1)*8<=_;omega) fl_ (fun g h k=>?_);refine UZ (j:=2) U11 H.m_ Z ax (by show (i+1)*40<=_;omega) fl_ (fun o p s=>?_);refine UB 2 Z ?_;refine UG (j:=3) U12 ?_;refine UB 2 Z ?_;refine UG (j:=0) U12 ?_;refine UA [1,3,35,36,37] a Z ?_;clear a I F R;refine G.perm (L':=DB n c z y d e f t n1 v i wF r A B E g h k o p s) (pkL [2,1,0,1,1,0] Z) ?_;refine G.perm _ (dD N) ?_;exact UL 0 mup (hn_ [1,3,35,36,37] Z) ⟨g,h,k,o,p,s,trivial,Z,Z⟩
   refine UE aa U9 ?_;refine UR [[.int .i64 ((n:Int)+(i:Int))]] U12 (fun ab ac _ J=>?_);refine UZ (j:=1) U11 J.m_ Z ax (by show (i+1)*8<=_;omega) fl_ (fun g h k=>?_);refine UZ (j:=2) U11 H.m_ Z ax (by show (i+1)*40<=_;omega) fl_ (fun o p s=>?_);refine UB 2 Z ?_;refine UG (j:=3) U12 ?_;refine UB 2 Z ?_;refine UG (j:=0) U12 ?_;refine UA [1,3,35,36,37] a Z ?_;clear a I F R;refine G.perm (L':=DB n c z y d e f t n1 v i wF r A B E g h k o p s) (pkL [2,1,0,1,1,0] Z) ?_;refine G.perm _ (dD N) ?_;exact UL 0 mup (hn_ [1,3,35,36,37] Z) ⟨g,h,k,o,p,s,trivial,Z,Z⟩
  obtain ⟨A7,n7,c7,A8,n8,c8,_,rfl,rfl⟩:=Q;refine Uz fun R a=>?_;refine UF _ U7 ?_;refine C4 1 [1,3,35,36,37] a Z ?_;clear a R;refine UH (m':=c.length-(i+1)) om_ mup (hn_ [1,3,35,36,37] Z) ⟨i+1,A7,n7,c7,A8,n8,c8,(IM wF i (.slice A B E)),om_,Z,Z,Z⟩
 have ak:i=c.length:=by
  have:=QS am;omega
 refine Uu 2 [2] Z ?_;rw [ak];refine G.perm (L':=(fg y n (Lp.openT (eL n c) fun j=>z.getD j 0) (.slice A2 n2 c2) (.slice K L M) (.slice t n1 v) (.slice d e f) wF).map Lent.ent) (by rw [Gh av];(exact pkL [2,0,0,0] Z)) ?_;refine UJ (Vj Z Z ?_);exact ⟨y,.slice A2 n2 c2,.slice K L M,.slice t n1 v,.slice d e f,wF,Z,Z⟩
def Wl (D:Int)(q:Rat):Prop:=∃ z:Int,q*(D:Rat)=(z:Rat)/\z.natAbs<=999999999
def RowI (r:RowQ):Prop:=∃ D:Int,D≠0/\D.natAbs<=999999999/\(∀ q∈r.f,Wl D q)/\Wl D r.b
def ka (rows:List RowQ):List (List Rat × Rat):=rows.map fun r=>(r.f,r.b)
theorem Wl.zero (D:Int):Wl D 0:=⟨0,by grind,by decide⟩
theorem Wl.neg {D:Int}{q:Rat}(h:Wl D q):Wl D (-q):=by
 obtain ⟨z,h1,h2⟩:=h;exact ⟨-z,by rw [Rat.intCast_neg,<- h1];grind,by omega⟩
theorem Wl.sg {D:Int}{q a:Rat}(h:Wl D q)(b:a=1∨a=-1):Wl D (a*q):=by
 rcases b with rfl | rfl
 ·rw [Rat.one_mul];exact h
 rw [show (-1:Rat)*q=-q by grind];exact h.neg
theorem tO (h:i<rows.length):(ka rows).getD i ([],0)=(rows[i].f,rows[i].b):=by
 unfold ka;rw [au,QU,aj h];rfl
theorem J8 (g:n<=12)(h:∀ r∈rows,RowI r)(i:∃ D:Int,D≠0/\D.natAbs<=999999999/\∀ j,j<n->Wl D (cc j)):Lp.Lim (eL n (ka rows)) cc 16:=by
 have k:∀ r:Nat,∃ D:Int,∀ hr:r<rows.length,D≠0/\D.natAbs<=999999999/\(∀ q∈rows[r].f,Wl D q)/\Wl D rows[r].b:=fun r=>by
  by_cases hr:r<rows.length
  ·obtain ⟨D,c⟩:=h rows[r] (RP hr);exact ⟨D,fun _=>c⟩
  exact ⟨0,fun h=>absurd h hr⟩
 obtain ⟨D,c⟩:=Classical.axiomOfChoice k;obtain ⟨l,o,c2,p⟩:=i;have hm:(eL n (ka rows)).m=rows.length:=al _;refine ⟨⟨D,999999999,l,by decide,⟨fun r hr=>?_,fun r j hr d=>?_,fun r hr=>?_⟩,⟨o,c2⟩,fun j d=>?_, ?_⟩⟩
 ·rw [hm] at hr;exact ⟨(c r hr).1,(c r hr).2.1⟩
 ·rw [hm] at hr;have e:(eL n (ka rows)).a r j=rows[r].f.getD j 0:=by show ((ka rows).getD r ([],0)).1.getD j 0=_;rw [tO hr]
  have s:Wl (D r) (rows[r].f.getD j 0):=by
   rw [au];cases t:rows[r].f[j]? with
   | none=>exact Wl.zero _
   | some q=>exact (c r hr).2.2.1 q (QQ t)
  obtain ⟨z,h1,h2⟩:=s;exact ⟨z,by rw [e,Rat.mul_comm];exact h1,h2⟩
 ·rw [hm] at hr;have e:(eL n (ka rows)).b r=rows[r].b:=by show ((ka rows).getD r ([],0)).2=_;rw [tO hr]
  obtain ⟨z,h1,h2⟩:=(c r hr).2.2.2;exact ⟨z,by rw [e,Rat.mul_comm];exact h1,h2⟩
 ·obtain ⟨z,h1,h2⟩:=p j d;exact ⟨z,by rw [Rat.mul_comm];exact h1,h2⟩
 unfold Lp.bdQ Lp.bdT;have:∀ n,n<=12->(n+1)*(999999999*Lp.fctM (2*999999999) n)<B9 ^ 16:=by decide +kernel
 exact this _ g
theorem J7 (a:n<=12)(h:∀ r∈rows,RowI r):Lp.Lim (eL n (ka rows)) (fun _=>0) 16:=J8 a h ⟨1,by decide,by decide,fun _ _=>Wl.zero _⟩
theorem wi {p:Nat}{c:List (Nat × Rat)}{b a:Rat}{D:Int}(d:a=1∨a=-1)(e:D≠0)(f:D.natAbs<=999999999)(g:∀ x∈c,Wl D x.2)(h:Wl D b):RowI (iG s p k c b a):=by
 refine ⟨D,e,f,tQ (Wl.zero _) (fun x i=>?_),h.sg d⟩;obtain ⟨y,hy,rfl⟩:=QX.1 i;exact (g y hy).sg d
theorem MA {pts:List Pt}{t:Tri}{fs:List Rat}{p:Pt}(e:∀ j,Qtr (cor pts t j))(f:dG (cor pts t 0) (cor pts t 1) (cor pts t 2)≠0)(g:∀ j,Hlf (fz fs t j))(z:Qtr p) :
  ∃ W:Int,W≠0/\W.natAbs<=2880000/\(∀ j,∃ N:Int,wgt pts t p j*W=N/\N.natAbs<=2880000)/\(∃ N:Int,onQ pts fs t p*((2*W:Int):Rat)=N/\N.natAbs<=600000000) /\
   ∀ j,(∃ N:Int,(slf pts t j).1*W=N/\N.natAbs<=400000)/\∃ N:Int,(slf pts t j).2*W=N/\N.natAbs<=400000:=by
 obtain ⟨x0,y0,h0,m,o⟩:=e 0;obtain ⟨x1,y1,h1,q,r⟩:=e 1;obtain ⟨x2,y2,h2,s,u⟩:=e 2;obtain ⟨x3,y3,h3,h⟩:=id z;obtain ⟨k0,v,A⟩:=g 0;obtain ⟨k1,w,B⟩:=g 1;obtain ⟨k2,x,C⟩:=g 2;have D:=yJ (x0:=x0) (y0:=y0) (x1:=x1) (y1:=y1) (x2:=x2) (y2:=y2) ⟨m,o,q,r,s,u⟩;refine ⟨iA x0 y0 x1 y1 x2 y2,(iU h0 h1 h2 v w x f).1,D,fun j=>?_,⟨_,LS h0 h1 h2 h3 v w x f,Pm ⟨m,o,q,r,s,u⟩ h ⟨A,B,C⟩⟩,fun j=>?_⟩
 ·obtain ⟨M,O,h4,E,F⟩:=e ((j+1) % 3);obtain ⟨P,Q,h5,G,H⟩:=e ((j+2) % 3);exact ⟨_,(wq (mA h3 h4 h5) (mA h0 h1 h2) f).2,yJ ⟨h.1,h.2,E,F,G,H⟩⟩
 have l:=fun i=>Ae (n:=pts.length) (k:=mF t j) (t:=t) i;obtain ⟨u0,g0,R⟩:=l 0;obtain ⟨u1,I,l1⟩:=l 1;obtain ⟨y,J,l2⟩:=l 2;obtain ⟨_,K,L⟩:=iU h0 h1 h2 g0 I J f;have S:=jT (a:=u1-u0) (b:=y2-y0) (c:=y1-y0) (d:=y-u0) ⟨by omega,by omega,by omega,by omega⟩;have T:=jT (a:=u1-u0) (b:=x2-x0) (c:=x1-x0) (d:=y-u0) ⟨by omega,by omega,by omega,by omega⟩;exact ⟨⟨_,K,by omega⟩,⟨_,L,by omega⟩⟩
theorem OD {W:Int}{q:Rat}{N:Int}(h:q*(W:Rat)=N)(a:N.natAbs<=400000000):Wl (2*W) q:=⟨2*N,by rw [RS,RS,<- h];grind,by omega⟩
theorem Ia {t:Tri}{f:Nat->Rat}{P:Rat->Prop}(h:∀ j,P (f j)):∀ x∈atT t f,P x.2:=gn (P:=fun x=>P x.2) (h 0) (h 1) (h 2)
theorem KD (n:Nat):kS ((n % 12:Nat):Int) 2*2=(((n % 12:Nat):Int):Rat):=ol dc_
theorem O3 (S:Sht)(H:Hts)(l:List Sgt)(s:Sgt)(i:Nat)(p:SgtR s):∀ r∈rowsO (cC S H l) (fL S s i) (lF S s) (tK S s) (zK S H s),RowI r:=by
 obtain ⟨A,_⟩:=fB (S.kd % 8) (Ry _ dc_) S.a S.b S.h;obtain ⟨_,B⟩:=locK S s p;have C:=jM A.ok (QQ B);obtain ⟨W,D,g,E,⟨d,u,L⟩,v⟩:=MA (pts:=cE (S.kd % 8) S.a S.b S.h) (t:=tK S s) (fs:=fsK (cE (S.kd % 8) S.a S.b S.h).length H) (fun j=>uQ j) C (fun j=>Ma j) (Bh S s p);have m:∀ j,Wl (2*W) (wgt (cE (S.kd % 8) S.a S.b S.h) (tK S s) (lF S s) j):=fun j=>by
  obtain ⟨N,e,b⟩:=E j;exact OD e om_
 have n:Wl (2*W) (kA (fL S s i) (zK S H s)):=by
  unfold kA;split
  ·rename_i F;rw [Bx S s i F,di (ok1 (sM s.depth))];have f:=KD s.depth;have G:zK S H s*((2*W:Int):Rat)=d:=u;refine ⟨d-((s.depth % 12:Nat):Int)*W, ?_, ?_⟩
   ·simp only [Tq,RS,<- f];rw [show ((d:Int):Rat)=zK S H s*((2*W:Int):Rat) from G.symm];simp only [RS];grind
   have:=jf (a:=((s.depth % 12:Nat):Int)) (b:=W) (M:=11) om_ g;omega
  exact ⟨d,u,by omega⟩
 have o:∀ sg∈([1, -1]:List Rat),sg=1∨sg=-1:=by simp
 intro r hr;unfold rowsO at hr;split at hr
 ·rcases Q6.1 hr with h | h <;> split at h
  ·rw [Rc.1 h];exact wi (.inl rfl) om_ om_ (Ia m) n
  ·simp at h
  ·rw [Rc.1 h];exact wi (.inr rfl) om_ om_ (Ia m) n
  simp at h
 rename_i h1;split at hr
 ·obtain ⟨k,_,h⟩:=List.mem_flatMap.1 hr;obtain ⟨sg,c,rfl⟩:=QX.1 h;exact wi (o sg c) om_ om_ (Ia m) n
 rename_i h2;have O:=nK s.n0;have P:=nK s.n1;have Q:=oc s.n2;have w:=uw s.n2;have f:qw (fL S s i)*(fj s.n2:Int)=((-(s.n0.tmod 5):Int):Rat)/\je (fL S s i)*(fj s.n2:Int)=((-(s.n1.tmod 5):Int):Rat):=by
  have I:=ec (s.n0.tmod 5) om_;have l1:=ec (s.n1.tmod 5) om_;have l2:=ec (fj s.n2) om_;have R:((fj s.n2:Int):Rat)≠0:=by exact_mod_cast w
  revert h1 h2;unfold qw je fL;split
  ·intro h1;exact absurd rfl h1
  split
  ·intro _ h2;exact absurd rfl h2
  intro _ _;simp only;rw [di (ok1 I),di (ok1 l1),di (ok1 l2),Rat.intCast_neg,Rat.intCast_neg];constructor <;> grind
 have hm:(W*fj s.n2).natAbs<=2880000*4:=jf g om_;have x:W*fj s.n2≠0:=Int.mul_ne_zero D w;have y:∀ {q:Rat}{N:Int},q*(W:Rat)=N->N.natAbs<=400000->Wl (W*fj s.n2) q:=fun {q N} e b=>⟨N*fj s.n2,by rw [RS,RS,<- e];grind,by have:=jf b (show (fj s.n2).natAbs<=4 by omega);omega⟩;have J:∀ j,Wl (W*fj s.n2) (slf (cE (S.kd % 8) S.a S.b S.h) (tK S s) j).1:=fun j=>by
  obtain ⟨N,e,b⟩:=(v j).1;exact y e b
 have K:∀ j,Wl (W*fj s.n2) (slf (cE (S.kd % 8) S.a S.b S.h) (tK S s) j).2:=fun j=>by
  obtain ⟨N,e,b⟩:=(v j).2;exact y e b
 have z:∀ {q:Rat}{N:Int},q*((fj s.n2:Int):Rat)=N->N.natAbs<=4->Wl (W*fj s.n2) q:=fun {q N} e b=>⟨N*W,by rw [RS,RS,<- e];grind,by have:=jf b g;omega⟩;obtain ⟨k,_,h⟩:=List.mem_flatMap.1 hr;rcases Q6.1 h with h | h
 ·obtain ⟨sg,c,rfl⟩:=QX.1 h;exact wi (o sg c) x om_ (Ia J) (z f.1 om_)
 obtain ⟨sg,c,rfl⟩:=QX.1 h;exact wi (o sg c) x om_ (Ia K) (z f.2 om_)
def P8 (x:Lay):Prop:=(∃ z:Int,x.min=z/\z.natAbs<=1000)/\∀ m,x.max=some m->∃ z:Int,m=z/\z.natAbs<=1000
theorem zU {q:Rat}(e:q=z)(h:z.natAbs<=1000):Wl 1 q:=⟨z,by rw [e];show _*(1:Rat)=_;grind,by omega⟩
theorem OK {a:Nat}{u v:Rat}{c:Rat}(f:u=1∨u=-1)(g:v=1∨v=-1)(i:Wl 1 c):RowI ⟨rR n [(a,u),(b,v)],c⟩:=by
 have d:∀ q:Rat,q=1∨q=-1->Wl 1 q:=fun q h=>by
  rcases h with rfl | rfl
  ·exact zU (z:=1) aq dc_
  exact zU (z:=-1) aq dc_
 refine ⟨1,by decide,by decide,tQ (Wl.zero _) (fun x e=>?_),i⟩;simp only [Q3,RU,Tk] at e;rcases e with rfl | rfl
 ·exact d _ f
 exact d _ g
theorem IT {p:Nat}{x:Lay}(h:P8 x):∀ r∈kp s p x i k,RowI r:=by
 obtain ⟨z,a,b⟩:=h.1;intro r hr;unfold kp at hr;rcases Q3.1 hr with rfl | hr
 ·exact OK (.inr Z) (.inl Z) (zU a b).neg
 split at hr
 ·cases hr
 rename_i m hm;obtain ⟨z,a,b⟩:=h.2 m hm;rw [Rc.1 hr];exact OK (.inl Z) (.inr Z) (zU a b)
theorem Av {s p:Nat}{x:Lay}{i:Nat}(h:P8 x):∀ k,∀ r∈bx s p x i k,RowI r
 | 0,r,hr=>by cases hr
 | k+1,r,hr=>by
  rcases Q6.1 hr with h1 | h1
  ·exact Av h k r h1
  exact IT h r h1
theorem Aq {s p:Nat}{a:List Lay}(h:∀ x∈a,P8 x):∀ n,∀ r∈bj s p a n,RowI r
 | 0,r,hr=>by cases hr
 | n+1,r,hr=>by
  rcases Q6.1 hr with h1 | h1
  ·exact Aq h n r h1
  refine Av ?_ _ r h1;rw [au];cases b:a[n+1]? with
  | none=>exact ⟨⟨0,rfl,by decide⟩,fun m hm=>by cases hm⟩
  | some x=>exact h x (QQ b)
theorem QF:∀ x∈colK,P8 x:=by
 intro x a;simp only [colK,Q3,RU,Tk] at a;rcases a with rfl | rfl | rfl
 ·exact ⟨⟨0,Z,by decide⟩,fun m hm=>by cases hm⟩
 ·exact ⟨⟨0,Z,by decide⟩,fun m hm=>by cases hm;exact ⟨5,Z,by decide⟩⟩
 exact ⟨⟨1,Z,by decide⟩,fun m hm=>by cases hm⟩
theorem tE {z:Nat}(h:z<18446744073709551616):IntKind.u64.wrap ((z:Nat):Int)=(z:Int):=by
 simp only [IntKind.wrap,IntKind.bits,IntKind.signed];simp;omega
theorem Qd {z:Nat}(h:z<9223372036854775808):IntKind.i64.wrap ((z:Nat):Int)=(z:Int):=by
 simp only [IntKind.wrap,IntKind.bits,IntKind.signed];simp;omega
def o1 (s:Nat):Nat:=(s / 2 ^ 1 &&& 6148914691236517205)+(s &&& 6148914691236517205)
def o2 (s:Nat):Nat:=(s / 2 ^ 2 &&& 3689348814741910323)+(s &&& 3689348814741910323)
def o3 (s:Nat):Nat:=(s / 2 ^ 4+s) &&& 1085102592571150095
def o4 (s:Nat):Nat:=s+s / 2 ^ 8
def o5 (s:Nat):Nat:=s+s / 2 ^ 16
def o6 (s:Nat):Nat:=s+s / 2 ^ 32
theorem o_bd:∀ s<32,o1 s<1000/\o2 (o1 s)<1000/\o2 (o1 s) / 2 ^ 4+o2 (o1 s)<1000/\o3 (o2 (o1 s))<1000/\o4 (o3 (o2 (o1 s)))<1000/\o5 (o4 (o3 (o2 (o1 s))))<1000/\o6 (o5 (o4 (o3 (o2 (o1 s)))))<1000/\o6 (o5 (o4 (o3 (o2 (o1 s))))) &&& 127=iH s:=by decide +kernel
theorem Gj (C:Mem)(s:Nat)(b:s<32):Gives cx.P 74 [.int .u64 s] C (.int .i64 (iH s:Int)):=by
 obtain ⟨h1,h2,h3,h4,h5,e,f,d⟩:=o_bd s b;exact UD func74 35 U3 fun w0=>Uu 1 [0] Z<|Uv 1 Z fun R a=>VN (s) (1) U8 dc_ U2<|VJ (s / 2 ^ 1) (6148914691236517205) U8 om_ om_ U2<|Uy U6<|VJ (s) (6148914691236517205) U8 om_ om_ U2<|D.int (((o1 s:Nat):Int)) U4 (tE (by show o1 s<_;omega)) U2<|C4 1 [0] a Z<|Uv 1 Z fun R a=>VN (o1 s) (2) U8 dc_ U2<|VJ (o1 s / 2 ^ 2) (3689348814741910323) U8 om_ om_ U2<|Uy U6<|VJ (o1 s) (3689348814741910323) U8 om_ om_ U2<|D.int (((o2 (o1 s):Nat):Int)) U4 (tE (by show o2 (o1 s)<_;omega)) U2<|C4 1 [0] a Z<|Uv 1 Z fun R a=>VN (o2 (o1 s)) (4) U8 dc_ U2<|Uy U6<|D.int (((o2 (o1 s) / 2 ^ 4+o2 (o1 s):Nat):Int)) U4 (tE om_) U2<|VJ (o2 (o1 s) / 2 ^ 4+o2 (o1 s)) (1085102592571150095) U8 om_ om_ U2<|C4 1 [0] a Z<|Uv 2 Z fun R a=>VN (o3 (o2 (o1 s))) (8) U8 dc_ U2<|D.int (((o4 (o3 (o2 (o1 s))):Nat):Int)) U4 (tE (by show o4 (o3 (o2 (o1 s)))<_;omega)) U2<|C4 1 [0] a Z<|Uv 2 Z fun R a=>VN (o4 (o3 (o2 (o1 s)))) (16) U8 dc_ U2<|D.int (((o5 (o4 (o3 (o2 (o1 s)))):Nat):Int)) U4 (tE (by show o5 (o4 (o3 (o2 (o1 s))))<_;omega)) U2<|C4 1 [0] a Z<|Uv 2 Z fun R a=>VN (o5 (o4 (o3 (o2 (o1 s))))) (32) U8 dc_ U2<|D.int (((o6 (o5 (o4 (o3 (o2 (o1 s))))):Nat):Int)) U4 (tE (by show o6 (o5 (o4 (o3 (o2 (o1 s)))))<_;omega)) U2<|C4 1 [0] a Z<|Uv 1 Z fun R a=>Vi (c:=((o6 (o5 (o4 (o3 (o2 (o1 s))))):Nat):Int)) U8 (Qd om_) fl_<|Wm (o6 (o5 (o4 (o3 (o2 (o1 s)))))) (127) Z Z Z Z Z Z Z Z om_ om_ Z Z<|C4 1 [2] a Z<|UC U2<|⟨by rw [d],Z⟩
theorem uj (C:Mem)(s:Nat)(b:s<32):Gives cx.P 39 [.int .u64 s] C (.int .i64 (iH s:Int)):=by
 refine UD func39 8 U3 fun w0=>Uu 1 [0] Z<|Ux (fun a=>?_) fun a=>?_
 ·cases a
 exact Uv 1 Z fun R c=>UI (Gj _ s b) U7<|C4 1 [2] c Z<|UC U2<|⟨Z,Z⟩
theorem KM:∀ s<32,s≠0->Lib.ctz 64 s=(aV s).headD 0:=by decide +kernel
theorem OH (C:Mem)(a:Tabs C)(s:Nat)(b:s<32)(c:s≠0):Gives cx.P 75 [.int .u64 s] C (.int .i64 (((aV s).headD 0:Nat):Int)):=by
 rw [<- KM s b c];exact Qe Tryz.tz s om_ C kr_ a.db kr_
theorem wX (C:Mem)(a:Int):Gives cx.P 172 [.int .i64 a] C (.bool false):=by
 exact UD func172 6 U3 fun w0=>Uu 1 [0] Z<|Uu 4 [2] Z<|UC U2<|⟨by simp,Z⟩
theorem zg (C:Mem)(a b:Int):Gives cx.P 111 [.int .i64 a,.int .i64 b] C (.int .i64 (Mj a b)):=by
 refine UD func111 20 U3 fun w0=>Uu 1 [0,1] Z<|Uv 1 Z fun R d=>UI (wX _ _) U7<|C4 1 [0,1,5] d Z<|Uv 1 Z fun R d=>UI (wX _ _) U7<|C4 1 [0,1,5,6] d Z<|Uu 1 [0,1,6,11] Z<|Ux (fun f=>?_) fun f=>?_
 ·cases f
 refine Uu 1 [0,1,13] Z<|Ux (fun g=>?_) fun g=>?_
 ·cases g
 refine Uu 3 [0,1,16] Z<|Ux (fun c=>?_) fun c=>?_
 ·refine Uu 1 [4] Z<|UC U2 ?_;simp only [QZ] at c;exact ⟨by rw [Mj,aW c],Z⟩
 refine Uu 3 [19] Z<|Ux (fun e=>?_) fun e=>?_
 ·refine Uu 1 [4] Z<|UC U2 ?_;simp only [QZ,Ri] at c e;exact ⟨by rw [Mj,az c,az om_],Z⟩
 refine Uu 1 [4] Z<|UC U2 ?_;simp only [Ri] at c e;exact ⟨by rw [Mj,az c,aW om_],Z⟩
theorem zh (C:Mem)(v w:Value)(a b:List Nat)(l:Sl C 1 v (a.map aM))(n:Sl C 1 w (b.map aM))(L:a.length<=1000000)(_M:b.length<=1000000) :
  Gives cx.P 72 [v,w] C (.int .i64 (NE a b)):=by
 obtain ⟨A,c,rfl,_⟩:=id l;obtain ⟨B,d,rfl,_⟩:=id n;simp only [al] at l n ⊢;refine UD func72 36 U3 fun w0=>Uu 1 [0,1] Z<|Uu 3 [0,1,9,10,11] Z<|G.loop (fun fr C' z D=>∃ (k:Nat),(k<=a.length/\k<=b.length/\NE (a.drop k) (b.drop k)=NE a b)/\fr=[(0,[],.slice A a.length c),(1,[],.slice B b.length d),(9,[],.slice A a.length c),(10,[],.int .i64 a.length),(11,[],.int .i64 k)]/\z=[]/\D=a.length-k) (hn_ [0,1,9,10,11] Z) ⟨0,⟨QT _,QT _,Z⟩,Z,Z,Z⟩ (fun fr N O m _ E=>?_);obtain ⟨k,⟨Q,S,g⟩,rfl,rfl,rfl⟩:=E;refine Uu 1 [0,1,9,10,11,12] Z<|Ux (fun o=>?_) fun o=>?_
 ·have h:k<a.length:=by simpa using o
  obtain ⟨x,t⟩:∃ x,a[k]?=some x:=⟨a[k],aj h⟩;have F:(a.map aM)[k]?=some (aM x):=by rw [QU,t];rfl
  have p:a.drop k=x::a.drop (k+1):=by rw [Rh h,(aD.1 t).2]
  refine Uv 1 Z fun R f=>UK l.m_ U10 om_ F fl_ fun T H=>Uw H U8<|C4 2 [0,1,5,6,9,10,11] f Z<|Uu 4 [0,1,5,6,9,10,11,19] Z<|Ux (fun q=>?_) fun q=>?_
  ·have i:b.length<=k:=by simpa using q
   have j:b.drop k=[]:=Sf i;exact Uu 1 [4] Z<|UC U2<|⟨by rw [<- g,p,j];rfl,Z⟩
  have i:k<b.length:=by
   have:¬ b.length<=k:=by simpa using q
   omega
  obtain ⟨y,hy⟩:∃ y,b[k]?=some y:=⟨b[k],aj i⟩;have I:(b.map aM)[k]?=some (aM y):=by rw [QU,hy];rfl
  have j:b.drop k=y::b.drop (k+1):=by rw [Rh i,(aD.1 hy).2]
  refine Uv 2 Z fun R f=>UK n.m_ U10 om_ I fl_ fun U J=>Uw J U8<|C4 1 [0,1,6,7,9,10,11] f Z<|Uv 2 Z fun R f=>UI (zg _ _ _) U7<|C4 1 [0,1,8,9,10,11] f Z<|Uu 2 [0,1,8,9,10,11,28] Z<|Ux (fun r=>?_) fun r=>?_
  ·have e:Mj x y≠0:=by simpa using r
   refine Uu 2 [4] Z<|UC U2<|⟨?_,Z⟩;rw [<- g,p,j];simp only [NE];unfold Mj at e ⊢;by_cases h1:x<y
   ·have h3:(x:Int)<y:=by omega
    rw [aW h1,aW h3]
   have h3:¬ (x:Int)<y:=by omega
   rw [az h1,az h3];rw [az h3] at e;by_cases h2:y<x
   ·have h4:¬ (x:Int)=y:=by omega
    rw [aW h2,az h4]
   have h4:(x:Int)=y:=by omega
   rw [aW h4] at e;exact absurd Z e
  have e:Mj x y=0:=by simpa using r
  have K:x=y:=by
   unfold Mj at e;split at e
   ·cases e
   split at e
   ·omega
   cases e
  refine Uz fun R f=>UF _ U7<|C4 1 [0,1,9,10,11] f Z<|UH (m':=a.length-(k+1)) om_ mup (hn_ [0,1,9,10,11] Z) ⟨k+1,⟨by omega,by omega,by rw [<- g,p,j,K];simp [NE]⟩,Z,Z,Z⟩
 have h:k=a.length:=by
  have:¬ k<a.length:=by simpa using o
  omega
 subst h;rw [RM] at g;refine Uu 5 [35] Z<|Ux (fun s=>?_) fun s=>?_
 ·have u:a.length<b.length:=by simpa using s
  refine Uu 1 [4] Z<|UC U2<|⟨?_,Z⟩;rw [<- g,Rh u];rfl
 have u:¬ a.length<b.length:=by simpa using s
 refine Uu 1 [4] Z<|UC U2<|⟨?_,Z⟩;rw [<- g,Sf om_];rfl
theorem GN (C:Mem)(p:Tabs C)(s:Nat)(r:s<32):Jog.Fn cx.P 41 [.int .u64 s] C [] fun u _ b=>∃ A n c,u=.slice A n c/\b=[.arr u 3 1 (aV s).length ((aV s).map aM).flatten]:=by
 have z:maxLen<=9223372036854775807:=by simp [maxLen]
 refine UD func41 16 U3 fun w0=>Uu 1 [0] Z<|Uu 1 [0,3] Z<|G.nilArr 3 1<|G.loop (fun fr C' b t=>∃ (x:Nat)(q:List Nat)(d:Option Addr)(n1 e:Nat),(x<32/\q++aV x=aV s)/\fr=[(0,[],.int .u64 x),(3,[],.slice d n1 e)]/\b=[.arr (.slice d n1 e) 3 1 q.length (q.map aM).flatten]/\t=x+x) (hn_ [0,3] Z) ⟨s,[],none,0,0,⟨r,Z⟩,Z,Z,Z⟩ (fun fr B E m _ v=>?_);obtain ⟨x,q,d,n1,e,⟨f,g⟩,rfl,rfl,rfl⟩:=v;refine Uu 2 [0,3,5] Z<|Ux (fun h5=>?_) fun h5=>?_
 ·have a:x≠0:=by simpa using h5
  have w:=El x f a;have F:=Em x f a;have H:q.length<=5:=by
   have h:=congrArg List.length g;rw [QV] at h;have:(aV s).length<=5:=R5 _ _;omega
  refine Uv 2 Z fun R i=>UI (OH _ p.m_ x f a) U7<|UR [[.int .i64 (((aV x).headD 0:Nat):Int)]] U12 fun I _ _ y=>UZ (j:=0) U11 y Z ax (by show (q.length+1)*8<=_;omega) fl_ fun k l o=>C4 1 [0,3] i Z<|Uv 2 Z fun R i=>D.int (((x-1:Nat):Int)) U4 (by rw [show ((x:Int)-1)=((x-1:Nat):Int) by omega];exact tE om_) U2<|VJ (x) (x-1) U8 om_ om_ U2<|C4 1 [0,3] i Z<|UN (L':=[.arr (.slice k l o) 3 1 (q++[(aV x).headD 0]).length ((q++[(aV x).headD 0]).map aM).flatten]) (by rw [Ru,Rz,QV];rfl)<|UH (m':=(x &&& (x-1))+(x &&& (x-1))) om_ mup (hn_ [0,3] Z) ⟨(x &&& (x-1)),q++[(aV x).headD 0],k,l,o,⟨by omega,by rw [Rk,List.singleton_append,<- w,g]⟩,Z,Z,Z⟩
 have a:x=0:=by simpa using h5
 subst a;refine Uu 2 [2] Z<|UJ (Vj Z Z ?_);exact ⟨d,n1,e,Z,by rw [<- g,show aV 0=[] from by decide,Rf]⟩
theorem nY (C:Mem)(a:Tabs C)(s:Nat)(b:s<32):Pur cx.P 41 [.int .u64 s] C fun u D=>Sl D 1 u ((aV s).map aM) :=
 Xb (t:=3) (n:=(aV s).length) (fun r hr=>by
  obtain ⟨x,_,rfl⟩:=QX.1 hr;rfl) (al _) (Fn.mono (GN C a s b) fun u C' d _ ⟨A,n,c,h1,h2⟩=>h2)
theorem LP (s:Nat):iH s<=5:=R5 _ _
theorem Oa (C:Mem)(e:Tabs C)(a b:Nat)(f:a<32)(g:b<32):Gives cx.P 71 [.int .u64 a,.int .u64 b] C (.int .i64 (KU a b)):=by
 have j:=LP a;have k:=LP b;refine UD func71 19 U3 fun w0=>?_;refine Uu 1 [0,1] Z ?_;refine Uv 1 Z fun R c=>?_;refine UI (uj _ a f) U7 ?_;refine Uy U6 ?_;refine UI (uj _ b g) U7 ?_;refine UF _ U7 ?_;refine C4 1 [0,1,5] c Z ?_;refine Uu 2 [0,1,5,12] Z ?_;refine Ux (fun d=>?_) fun d=>?_
 ·have i:(iH a:Int)-iH b≠0:=by simpa using d
  refine Uu 2 [4] Z ?_;refine UC U2 ?_;refine ⟨?_,Z⟩;unfold KU;rw [az (fun h=>i (by rw [h];omega))]
 have i:(iH a:Int)-iH b=0:=by simpa using d
 refine Uv 1 Z fun R c=>?_;refine Ve (nY _ e.m_ a f) U7 (fun n _ _ l=>?_);refine Uy U6 ?_;refine Ve (nY _ e.m_ b g) U7 (fun o _ _ m=>?_);refine UM (zh _ _ _ _ _ l.m_ m.m_ (Rb j dc_) (Rb k dc_)) U7 fl_ ?_;refine C4 1 [4] c Z ?_;refine UC U2 ?_;refine ⟨?_,Z⟩;unfold KU;rw [aW om_]
open Go Go.Jog Go.Shelf
set_option maxRecDepth 100000
def uV (s:Nat):Value:=.int .u64 (s:Nat)
theorem My (l:List Nat):l.map uV=(l.map cm).flatten:=(eA uV l).symm
abbrev PQ:Type:={ s:Nat // s<32 }
instance:Inhabited PQ:=⟨⟨0,by decide⟩⟩
theorem KT:Sort.SWO (ltOf fun (x y:PQ)=>KU x.1 y.1) where
 irrefl x:=by unfold ltOf;exact Rj (fun h=>by have:=(eV x.1 x.2 x.1 x.2).1 h;omega)
 trans x y z h1 h2:=by
  unfold ltOf at *;simp only [QZ] at *;rw [eV x.1 x.2 y.1 y.2] at h1;rw [eV y.1 y.2 z.1 z.2] at h2;rw [eV x.1 x.2 z.1 z.2];omega
 ntrans x y z h1 h2:=by
  unfold ltOf at *;simp only [Ri] at *;rw [eV x.1 x.2 y.1 y.2] at h1;rw [eV y.1 y.2 z.1 z.2] at h2;rw [eV x.1 x.2 z.1 z.2];omega
theorem wb:∀ l:List Nat,(∀ s∈l,s<32)->∃ q:List PQ,q.map (·.1)=l
 | [],_=>⟨[],rfl⟩
 | s::l,h=>by
  obtain ⟨q,a⟩:=wb l fun s hs=>h s (Q0 _ hs);exact ⟨⟨s,h s Qb⟩::q,by rw [Rs,a]⟩
theorem I0 (C:Mem)(e:Tabs C)(v:Value)(n:Nat)(b:n<6) :
  Jog.Fn cx.P 70 [v,.func (.func 71) #[] #[]] C [.arr v 99 1 (2 ^ n) ((List.range (2 ^ n)).map uV)] fun u _ c=>u=.tuple #[]/\c=[.arr v 99 1 (2 ^ n) ((bQ n).map uV)]:=by
 have p:=yv b;obtain ⟨q,a⟩:=wb (List.range (2 ^ n)) fun s hs=>by have:=Q9.1 hs;omega
 have g:q.length=2 ^ n:=by rw [<- al (f:=(·.1)),a,RL]
 have d:=CX (P:=cx.P) (α:=PQ) Tryz.sortU (fun x=>uV x.1) (fun x=>rfl) (fun x y=>KU x.1 y.1) KT 71 [] C
  (fun x y C' i=>Oa C' (e.mono i) x.1 y.1 x.2 y.2) v 99 q om_ kr_ kr_
 rw [g,show q.map (fun x:PQ=>uV x.1)=(q.map (·.1)).map uV by rw [RG];rfl,a] at d;refine Fn.mono d (fun u C' c _ ⟨j,k1,k2,k,l⟩=>⟨k1, ?_⟩);have m:(j.map (·.1)).Perm (List.range (2 ^ n)):=by rw [<- a];exact k.map _
 have o:=wa b m (by
  rw [List.pairwise_map];refine l.imp fun {x y} h=>?_;unfold ltOf at h;exact QS h)
 rw [k2,<- o,RG];rfl
theorem MN (C:Mem)(q:Tabs C)(g n:Nat)(r s t v w:Value)(x:Option Addr)(y:Nat)(B:C g=some (.cells ⟨[r,s,t,v,.slice x n y,w]⟩ 153 (0,0)))(h:n<6) :
  Jog.Fn cx.P 38 [.pointer (some ⟨g,0,none⟩)] C [] fun u _ b=>∃ A n2 c,u=.slice A n2 c/\b=[.arr u 99 1 (2 ^ n) ((bQ n).map uV)]:=by
 have J:maxLen<=9223372036854775807:=by simp [maxLen]
 have K:=yv h;refine UD func38 23 U3 fun w0=>Uu 1 [0] Z<|Uu 1 [0,3] Z<|Uv 4 Z fun R a=>Uw (bkT B 1) U8<|Uy U6<|V4 (n) Z Z Z Z Z Z (by first | exact .inl Z | exact .inr Z) Z om_ Z Z<|C4 1 [3,11,12] a Z<|G.nilArr 99 1<|G.loop (fun fr C' b E=>∃ (i:Nat)(d:Option Addr)(n1 e:Nat),(i<=2 ^ n)/\fr=[(3,[],.slice d n1 e),(11,[],.int .u64 ((2 ^ n:Nat):Int)),(12,[],.int .u64 i)]/\b=[.arr (.slice d n1 e) 99 1 i ((List.range i).map uV)]/\E=2 ^ n-i) (hn_ [3,11,12] Z) ⟨0,none,0,0,QT _,Z,Z,Z⟩ (fun fr L M m _ F=>?_);obtain ⟨i,d,n1,e,N,rfl,rfl,rfl⟩:=F;refine Uu 1 [3,11,12,13] Z<|Ux (fun f=>?_) fun f=>?_
 ·have k:i<2 ^ n:=by
   have:=aJ f;omega
  refine Uu 2 [3,4,11,12] Z<|Uv 2 Z fun R a=>UR [[uV i]] U12 fun O _ _ H=>UZ (j:=0) U11 H Z ax (by show (i+1)*8<=_;omega) fl_ fun l o p=>C4 1 [3,11,12] a Z<|Uz fun R a=>D.int (((i+1:Nat):Int)) U4 (tE (z:=i+1) om_) U2<|C4 1 [3,11,12] a Z<|UN (L':=[.arr (.slice l o p) 99 1 (i+1) ((List.range (i+1)).map uV)]) (by rw [RY,Ru];rfl)<|UH (m':=2 ^ n-(i+1)) om_ mup (hn_ [3,11,12] Z) ⟨i+1,l,o,p,om_,Z,Z,Z⟩
 have k:i=2 ^ n:=by
  have:=QS f;omega
 subst k;refine UW [(1,3)] Z fun R a=>Uy U6<|D.call (I0 _ q.m_ _ n h) Z (.inr dc_) U6 (QW _) fl_ fun Q _ S _ I=>UA [3] a Z ?_;obtain ⟨rfl,rfl⟩:=I;refine Uu 2 [2] Z<|UJ (Vj Z Z ?_);exact ⟨d,n1,e,Z,Z⟩
theorem Qu {p:Nat}(h:s*p<=60):ofE z s p=z:=by
 unfold ofE;split
 ·rfl
 rename_i h2;have:z=0:=by simpa using h2
 rw [az om_,this]
theorem ze (C:Mem)(a:Value)(B:Bk)(z:Int)(b:BookZ C a B z)(h:bs B*bp B<=60):Gives cx.P 35 [a] C (.tuple #[.int .i64 (if z=0 then ((bs B*bp B:Nat):Int) else 0),.int .i64 z]):=by
 have h1:=KN C a B z b;rw [Qu h] at h1;exact h1
def my (n:Nat)(l:List Int)(i:Nat):Int:=if l.getD i 0<0∨(n:Int)<=l.getD i 0 then 3 else if 0<i/\l.getD i 0<=l.getD (i-1) 0 then 6 else 0
def Ow (n:Nat)(l:List Int):Int:=bV (my n l) l.length
theorem KW (C:Mem)(g j:Value)(B:Bk)(z:Int)(l:List Int)(t:BookZ C g B z)(J:bs B*bp B<=60)(e:Sl C 1 j (l.map me))(W:l.length<=1000)
  (w:z=0->Ow B.obs.length l=0->∀ D:Mem,C.le D->Pur cx.P 52 [g,j] D fun u _=>∃ v,u=.tuple #[v,.int .i64 0]) :
  Gives cx.P 49 [g,j] C (.int .i64 (if z≠0 then z else Ow B.obs.length l)):=by
 have x:=t;obtain ⟨X,Y,tv,cv,ov,rfl,h1,h2,h3,h4,h5⟩:=id t.i.ex;obtain ⟨A5,c5,rfl,K,aa,_⟩:=id h5;obtain ⟨y,A,rfl,L,ab,_⟩:=id e;have ac:maxLen<=9223372036854775807:=by simp [maxLen]
 simp only [al] at h5 K x e L w ⊢;refine UD func49 56 U3 fun w0=>Uz fun R a=>UQ U6 fun M=>C4 1 [1,2] a Z<|G.freeze 0 Z fun _ _ n=>Uz fun R a=>Uw (bkT n 5) U8<|UI (ze _ _ B z x.m_ J) U7<|C4 5 [1,2,6] a Z<|Uu 2 [1,2,6,17] Z<|Ux (fun o=>?_) fun o=>?_
 ·have f:z≠0:=by simpa using o
  exact Uu 2 [4] Z<|UC U2<|⟨by rw [aW f],Z⟩
 have f:z=0:=by simpa using o
 rw [az (fun h=>h f)];refine Uu 3 [1,2,19,20,21] Z<|G.loop (fun fr C' N O=>∃ (i:Nat),(i<=l.length/\bV (my B.obs.length l) i=0)/\fr=[(1,[],.slice y l.length A),(2,[],.pointer (some ⟨M,0,none⟩)),(19,[],.slice y l.length A),(20,[],.int .i64 l.length),(21,[],.int .i64 i)]/\N=[]/\O=l.length-i) (hn_ [1,2,19,20,21] Z) ⟨0,⟨QT _,Z⟩,Z,Z,Z⟩ (fun fr ad ae m _ Q=>?_);obtain ⟨i,⟨hi,c⟩,rfl,rfl,rfl⟩:=Q;refine Uu 1 [1,2,19,20,21,22] Z<|Ux (fun p=>?_) fun p=>?_
 ·have d:i<l.length:=by
   have:=aJ p;omega
  obtain ⟨k,E⟩:∃ k,l[i]?=some k:=⟨l[i],aj d⟩;obtain ⟨k1,F⟩:∃ k1,l[i-1]?=some k1:=⟨l[i-1]'om_,aj om_⟩;have q:l.getD i 0=k:=by rw [au,E,R9]
  have H:l.getD (i-1) 0=k1:=by rw [au,F,R9]
  refine Uv 1 Z fun R a=>UK e.m_ U10 om_ (bY E) fl_ fun af S=>Uw S U8<|C4 2 [1,2,7,8,19,20,21] a Z<|Uv 5 Z fun R a=>UY U6 (fun _=>PtrTo.blockT (Mem.get n mup) _ 1) U3<|UB 2 Z<|U1 U8<|C4 1 [1,2,7,8,19,20,21,26] a Z<|Ux (fun r=>?_) fun r=>?_
  ·have b:my B.obs.length l i=3:=by
    unfold my;rw [q,aW (by simp only [Sm,QZ] at r;omega)]
   exact Uu 1 [4] Z<|UC U2<|⟨by unfold Ow;rw [gc c (by rw [b];decide) d,b],Z⟩
  have I:¬ (k<0∨(B.obs.length:Int)<=k):=by
   simp only [Sq,Ri] at r;omega
  refine Uv 6 Z fun R a=>UF _ U7<|D.index U10 (fun T=>⟨e.mono mup,(by have h:decide ((i:Int) > 0)=true:=T.1;have:=aJ h;omega),(by rw [show ((i:Int)-1).toNat=i-1 by omega];exact bY F)⟩) fl_ Z fun ag U=>UY U6 U U3<|Uy U6<|UU U8<|C4 1 [1,2,19,20,21,36] a Z<|Ux (fun s=>?_) fun s=>?_
  ·have b:my B.obs.length l i=6:=by
    unfold my;rw [q,H,az I,aW (by simp only [Q1,QZ] at s;omega)]
   exact Uu 1 [4] Z<|UC U2<|⟨by unfold Ow;rw [gc c (by rw [b];decide) d,b],Z⟩
  have b:my B.obs.length l i=0:=by
   unfold my;rw [q,H,az I,az (fun h=>by simp only [S7,Ri] at s;omega)]
  refine Uz fun R a=>UF _ U7<|C4 1 [1,2,19,20,21] a Z<|UH (m':=l.length-(i+1)) om_ mup (hn_ [1,2,19,20,21] Z) ⟨i+1,⟨by omega,io c b⟩,Z,Z,Z⟩
 have d:i=l.length:=by
  have:=QS p;omega
 subst d;refine Uz fun R a=>Uw (bkT n 5) U8<|Uy U6<|Ve (w f c _ mup) U7 (fun ah _ _ V=>?_);obtain ⟨rv,rfl⟩:=V;exact C4 5 [10] a Z<|Uu 2 [4] Z<|UC U2<|⟨by rw [show Ow B.obs.length l=0 from c],Z⟩
theorem D3 (h:FeasO p t u):∃ (row:Int)(a:Bool),u=.tuple #[.int .i64 row,.bool a]/\(a=true->t.Feas p.n) /\
  (a=false->∃ r:Nat,row=r/\r<t.basic.length/\p.n<=t.bas r/\(t.line r).c<0/\∀ s,s<t.others.length->p.n<=t.oth s->(t.line r).g s<=0):=by
 cases h with
 | yes h=>exact ⟨0,true,rfl,fun _=>h,fun h=>by cases h⟩
 | no r h1 h2 h3 h4=>exact ⟨r,false,rfl,fun h=>(by cases h),fun _=>⟨r,rfl,h1,h2,h3,h4⟩⟩
theorem Gv (h:MinO p t u):∃ (b:Int)(a:Bool),u=.tuple #[.int .i64 b,.bool a]/\(a=true->Lp.RelW p.n t/\∀ s,s<t.others.length->p.n<=t.oth s->0<=t.worth.g s) /\
  (a=false->∃ s:Nat,b=s/\s<t.others.length/\kX t s*t.worth.g s<0/\(∀ i,i<t.basic.length->p.n<=t.bas i->0<=kX t s*(t.line i).g s)/\(p.n<=t.oth s->0<=kX t s)):=by
 cases h with
 | yes h1 h2=>exact ⟨0,true,rfl,fun _=>⟨h1,h2⟩,fun h=>by cases h⟩
 | no s h1 h2 h3 h4=>exact ⟨s,false,rfl,fun h=>(by cases h),fun _=>⟨s,rfl,h1,h2,h3,h4⟩⟩
inductive SolO (p:Lp.Sys) (cc:Nat->Rat) (D:Mem):Value->Prop where
 | opt (val:Rat) (pt du:Nat->Rat) (vp vd:Value):Lp.OptR p cc 16 val pt du->Sl D 1 vp (((List.range p.n).map pt).map aZ)->Sl D 1 vd (((List.range p.m).map du).map aZ)->SolO p cc D (.agg ⟨[.int .i64 1,ai (qtx val),vp,vd,.slice none 0 0]⟩)
 | inf (du:Nat->Rat) (vd:Value):Lp.InfR p 16 du->Sl D 1 vd (((List.range p.m).map du).map aZ)->SolO p cc D (.agg ⟨[.int .i64 2,ai [],.slice none 0 0,vd,.slice none 0 0]⟩)
 | unb (pt ra:Nat->Rat) (vp vr:Value):Lp.UnbR p cc 16 pt ra->Sl D 1 vp (((List.range p.n).map pt).map aZ)->Sl D 1 vr (((List.range p.n).map ra).map aZ)->SolO p cc D (.agg ⟨[.int .i64 3,ai [],vp,.slice none 0 0,vr]⟩)
theorem Jr :kX t s=1∨kX t s=-1:=by unfold kX;split <;> simp
theorem I1 (C:Mem)(x:Tabs C)(n:Nat)(V F:Value)(k:List (List Rat × Rat))(l:List Rat)(H:RowsT C V (k.map gV))(ho:Sl C 1 F (l.map aZ))(X:RowsQ n k)(Y:n<=1000)(ah:l.length=n)(f:Lp.Lim (eL n k) (fun j=>l.getD j 0) 16) :
  Pur cx.P 77 [.agg ⟨[.int .i64 n,V,F]⟩] C fun u D=>SolO (eL n k) (fun j=>l.getD j 0) D u:=by
 have aS:maxLen<=9223372036854775807:=by simp [maxLen]
 have hm:=X.m;have aj:=H;obtain ⟨vs,ak,_,an⟩:=aj;obtain ⟨Ar,cr,rfl,_⟩:=id an;rw [tB ak,al] at H ⊢;obtain ⟨p,I⟩:∃ p,eL n k=p:=⟨_,rfl⟩;obtain ⟨cc,ao⟩:∃ cc:Nat->Rat,(fun j=>l.getD j 0)=cc:=⟨_,rfl⟩;have ap:p.n=n:=by rw [<- I];rfl
 have aq:p.m=k.length:=by rw [<- I];rfl
 have z:=fun (D:Mem)(J:C.le D)=>JF D (x.mono J) n (.slice Ar k.length cr) F k l (H.mono J) (ho.mono J) X Y ah;rw [I,ao] at f z ⊢;rw [<- ap] at z Y ⊢;rw [<- aq] at z ⊢;refine UD func77 57 U3 fun w0=>?_;refine Uz fun R a=>?_;refine UQ U6 (fun b1=>?_);refine UP U5 (fun b2=>?_);refine UA [1,2] a Z ?_;clear a R;refine G.freeze 1 Z (fun _ _ K=>?_);refine UW [(1,3)] Z (fun R a=>?_);refine Uw (bkT K 3) U8 ?_;refine D.call (z _ mup) Z (.inr dc_) U6 (QW _) fl_ (fun v9 C9 L9 _ ar=>?_);obtain ⟨b,wB,wL,wO,wW,wF,rfl,rfl⟩:=ar;refine C4 1 [1,2,3] a Z ?_;clear a R;refine UW [(1,3)] Z (fun R a=>?_);refine Uy U6 ?_;refine D.call (Dk _ x.m_ p cc b _ wB wL wO wW wF Lp.openT_inv Z f om_ om_) Z (.inr dc_) U6 (QW _) fl_ (fun aT _ aU _ au=>?_);refine UA [1,2,3] a Z ?_;clear a R;obtain ⟨-,t1,av,aw,ax,rfl⟩:=au;refine UW [(1,3)] Z (fun R a=>?_);refine Uy U6 ?_;refine D.call (yT _ x.m_ p cc b t1 wB wL wO wW av aw ax f om_ om_) Z (.inr dc_) U6 (QW _) fl_ (fun aV _ aW _ ay=>?_);obtain ⟨t,aa,w,ab,hF,rfl⟩:=ay;obtain ⟨row,is,rfl,az,aA⟩:=D3 hF;refine C4 5 [1,2,3,4,5] a Z ?_;clear a R;refine Uu 2 [1,2,3,4,18] Z ?_;refine Ux (fun L=>?_) fun L=>?_
 ·have M:is=false:=by simpa using L
  obtain ⟨r,rfl,N,ac,aB,aC⟩:=aA M;refine VT (fg b p.n t wB wL wO wW aa) (gg w.tab.ok) (fun C5 _ y=>?_);have h:=eX w.tab.ok y;refine Uv 3 Z fun R a=>?_;refine Uw (bkT K 1) U8 ?_;refine Uy U6 ?_;refine U0 (Jq _ p b r t wB wL wO wW _ h.m_ w.tab om_ N ac (fun q=>(w.dualQ f dc_ N q).le dc_)) U7 fl_ (fun aX _ _ aD=>?_);obtain ⟨g,rfl,hg⟩:=aD;refine UO [.int .i64 2,ai [],.slice none 0 0,.slice (some ⟨g,0,none⟩) p.m p.m,.slice none 0 0] U8 ?_;refine UG (j:=0) U12 ?_;refine UA [2] a Z ?_;clear a R;refine UJ (Vm af U4 ?_);exact ⟨Z,.inf _ _ (w.inf f dc_ ab N ac aB aC) hg.m_⟩
 have M:is=true:=by simpa using L
 have aE:=az M;refine UW [(1,3)] Z (fun R a=>?_);refine Uy U6 ?_;refine D.call (yy _ x.m_ p cc b t wB wL wO wW aa w ab aE f om_ om_) Z (.inr dc_) U6 (QW _) fl_ (fun aY _ a0 _ aF=>?_);obtain ⟨d,ad,e,ae,hM,rfl⟩:=aF;obtain ⟨a1,ag,rfl,aG,aH⟩:=Gv hM;refine C4 5 [1,2,3,6,7] a Z ?_;clear a R;refine Uu 2 [1,2,3,6,32] Z ?_;refine Ux (fun O=>?_) fun O=>?_
 ·have Q:ag=false:=by simpa using O
  obtain ⟨s,rfl,A,aI,aJ,aL⟩:=aH Q;refine VT (fg b p.n d wB wL wO wW ad) (gg e.tab.ok) (fun C5 _ y=>?_);have h:=eX e.tab.ok y;refine UW [(1,3),(4,3)] Z (fun R a=>?_);refine Uy U6 ?_;refine D.call (Bj _ b p.n (p.n+p.m) d wB wL wO wW _ h.m_ e.tab.ok om_) Z (.inr dc_) U6 (QW _) fl_ (fun a2 _ a3 _ aM=>?_);obtain ⟨S,rfl,rfl⟩:=aM;refine UB 2 Z ?_;refine D.call (O9 _ x.m_ p b s d wB wL wO wW _ h.m_ e.tab A om_ (fun i hi=>e.fac f hi A) (e.wfac f A)) Z (.inr dc_) U6 (QW _) fl_ (fun a4 _ a5 _ aN=>?_);obtain ⟨B,rfl,rfl⟩:=aN;refine UO [.int .i64 3,ai [],.slice (some ⟨S,0,none⟩) p.n p.n,.slice none 0 0,.slice (some ⟨B,0,none⟩) p.n p.n] U8 ?_;refine UG (j:=2) U12 ?_;refine UA [2] a Z ?_;clear a R;refine G.freezeArr 1 (((List.range p.n).map fun v=>kX d s*d.dir s v).map aZ) Z Z dM am (fun C8 _ T=>?_);refine G.freezeArr 1 (((List.range p.n).map d.sol).map aZ) Z Z dM am (fun C9 _ U=>?_);refine UJ (Vm af U4 ?_);exact ⟨Z,.unb _ _ _ _ (e.unb f dc_ ae A Jr aI aJ aL) U T.m_⟩
 have Q:ag=true:=by simpa using O
 obtain ⟨aO,aP⟩:=aG Q;refine VT (fg b p.n d wB wL wO wW ad) (gg e.tab.ok) (fun C5 _ y=>?_);have h:=eX e.tab.ok y;refine US [0,1,2,3,4,5,7,8,9,10,11,12,13,14,6,15,16,17,18] [(6,3),(15,3),(4,0),(11,0),(13,0)] Z kr_ (fun R E a=>?_);refine UB 4 Z ?_;refine Vx (fun _=>((PtrTo.blockT h.o _ 1).mono E)) U9 ?_;refine UB 5 Z ?_;refine Vx (fun _=>((PtrTo.blockT h.o _ 2).mono E)) U9 ?_;refine Uy U6 ?_;refine Vx (fun _=>((bkT K 1).mono E)) U9 ?_;refine Uy U6 ?_;refine D.call (Bj _ b p.n (p.n+p.m) d wB wL wO wW _ h.m_ e.tab.ok om_) Z (.inr dc_) U6 (QW _) fl_ (fun a6 _ a7 _ aQ=>?_);refine D.call (Hp _ p b d d.worth wB wL wO wW wW _ h.m_ e.tab om_ h.W.m_ e.tab.ok.wl) Z (.inr dc_) U6 (QW _) fl_ (fun a8 _ a9 _ aR=>?_);obtain ⟨B,rfl,rfl⟩:=aR;obtain ⟨S,rfl,rfl⟩:=aQ;refine UO [.slice (some ⟨B,0,none⟩) p.m p.m] U8 ?_;refine UO [.int .i64 1,ai (qtx d.worth.c),.slice (some ⟨S,0,none⟩) p.n p.n,.slice (some ⟨B,0,none⟩) p.m p.m,.slice none 0 0] U8 ?_;refine UG (j:=2) U12 ?_;refine UA [2] a Z ?_;clear a E R;refine G.freezeArr 1 (((List.range p.m).map (Lp.dualV p d d.worth)).map aZ) Z Z dM am (fun C8 _ T=>?_);refine G.freezeArr 1 (((List.range p.n).map d.sol).map aZ) Z Z dM am (fun C9 _ U=>?_);refine UJ (Vm af U4 ?_);exact ⟨Z,.opt _ _ _ _ _ (e.opt f dc_ ae aO aP) U T.m_⟩
theorem NN (C:Mem)(n:Nat)(j:n<=1000000):Jog.Fn cx.P 186 [.slice none 0 0,.int .i64 n] C [] fun u _ h=>∃ A n2 c,u=.slice A n2 c/\h=[.arr u 56 1 0 []]:=by
 have k:maxLen<=9223372036854775807:=by simp [maxLen]
 refine UD func186 27 U3 fun w0=>Uu 1 [0,1] Z<|Uu 2 [0,1,6] Z<|Ux (fun d=>?_) fun d=>?_
 ·simp at d;omega
 refine Uv 2 Z fun R a=>Wk Z Z Z Z Z Z Z Z Z<|UB 2 Z<|UF _ U7<|UF _ U7<|C4 1 [0,1] a Z<|Uu 2 [0,1,16] Z<|Ux (fun f=>?_) fun f=>?_
 ·have i:0<n:=by
   simp at f;omega
  refine Uv 2 Z fun R a=>Wk Z Z Z Z Z Z Z Z Z<|Vq 0 0 0 U12 (fun _=>⟨.inl ⟨Z,Z⟩,.inr ⟨_,Z⟩,.inl ⟨Z,Z⟩,QO _,QO _,QO _⟩) U2<|Uy U6<|WW (m:=n) Z Z Z Z Z Z Z Z Z Z Z Z i (by show n*16<=_;omega) (by simp only [maxLen];omega) fl_ fun b g l=>UB 2 Z<|Vq 0 0 g U12 (fun _=>⟨.inl ⟨Z,Z⟩,.inr ⟨_,Z⟩,.inl ⟨Z,Z⟩,QO _,QT _,QO _⟩) U2<|C4 1 [0] a Z<|Uu 2 [4] Z<|Xi 0 0 Z (QT _)<|UJ (Vj Z Z ?_);refine ⟨_,_,_,Z, ?_⟩;have e:(if g=0 then some (⟨b,0,none⟩:Addr) else (some (⟨b,0,none⟩:Addr)).map (·.add (0*1)))=some ⟨b,0,none⟩:=by
   split
   ·rfl
   simp [Addr.add_lit]
  rw [e];simp
 refine Uu 2 [4] Z<|G.nilArr 56 1<|UJ (Vj Z Z ?_);exact ⟨none,0,0,Z,Z⟩
def nF (xs:List (Value × List Rat)):List Rat:=(xs.map (·.2)).flatten
theorem xB {a:List (Value × List Rat)}{x:Value × List Rat}(h:a[i]?=some x):nF (a.take (i+1))=nF (a.take i)++x.2:=by
 unfold nF;rw [Rm,h];simp
theorem HU (a:List (Value × List Rat))(i:Nat):(nF (a.take i)).length<=(nF a).length:=by
 have h:nF a=nF (a.take i)++nF (a.drop i):=by
  unfold nF;rw [<- Rz,<- Ru,RW]
 rw [h,QV];omega
def NU (x:Value × List Rat):List Value:=[x.1]
theorem HM (C:Mem)(v:Value)(a:List (Value × List Rat))(h:Sl C 1 v (a.map NU))(B:∀ x∈a,Sl C 1 x.1 (x.2.map aZ))(K:(nF a).length<=1000000) :
  Jog.Fn cx.P 122 [v] C [] fun u _ e=>∃ A n2 c,u=.slice A n2 c/\e=[.arr u 56 1 (nF a).length ((nF a).map aZ).flatten]:=by
 obtain ⟨p,c0,rfl,L,X,_⟩:=id h;have Y:maxLen<=9223372036854775807:=by simp [maxLen]
 simp only [al] at h L ⊢;refine UD func122 36 U3 fun w0=>Uu 1 [0] Z<|Uu 1 [0,3] Z<|Uu 3 [0,3,9,10,11] Z<|G.loop (fun fr C' e q=>∃ (i:Nat)(z:Int),(i<=a.length/\z=(nF (a.take i)).length)/\fr=[(0,[],.slice p a.length c0),(3,[],.int .i64 z),(9,[],.slice p a.length c0),(10,[],.int .i64 a.length),(11,[],.int .i64 i)]/\e=[]/\q=a.length-i) (hn_ [0,3,9,10,11] Z) ⟨0,0,⟨QT _,Z⟩,Z,Z,Z⟩ (fun fr aa ab m _ r=>?_);obtain ⟨i,z,⟨hi,s⟩,rfl,rfl,rfl⟩:=r;refine Uu 1 [0,3,9,10,11,12] Z<|Ux (fun t=>?_) fun t=>?_
 ·have f:i<a.length:=by
   have:=aJ t;omega
  obtain ⟨x,d⟩:∃ x,a[i]?=some x:=⟨a[i],aj f⟩;have g:=B x (QQ d);obtain ⟨w,l⟩:=x;simp only at g;obtain ⟨Ax,ac,rfl,M,ad,_⟩:=id g;simp only [al] at g M d;have k:=xB d;have E:=HU a (i+1);have N:(nF (a.take (i+1))).length=(nF (a.take i)).length+l.length:=by rw [k,QV]
  refine Uz fun R b=>UK h.m_ U10 om_ (show (a.map NU)[i]?=some [_] from gj d) fl_ fun ae O=>Uw O U8<|C4 1 [0,3,5,9,10,11] b Z<|Uv 3 Z fun R b=>UF _ U7<|C4 1 [0,3,9,10,11] b Z<|Uu 2 [0,3,9,10,11,20] Z<|Ux (fun F=>?_) fun F=>?_
  ·exfalso;have af:=aJ F;omega
  refine Uz fun R b=>UF _ U7<|C4 1 [0,3,9,10,11] b Z<|UH (m':=a.length-(i+1)) om_ mup (hn_ [0,3,9,10,11] Z) ⟨i+1,_,⟨by omega,by rw [s];omega⟩,Z,Z,Z⟩
 have f:i=a.length:=by
  have:=QS t;omega
 rw [f,Q2] at s;subst s;refine UW [(1,3)] Z fun R b=>Uy U6<|D.call (NN _ (nF a).length K) Z (.inr dc_) U6 (QW _) fl_ (fun ag _ ah _ Q=>?_);obtain ⟨S,T,U,rfl,rfl⟩:=Q;refine C4 1 [0,6] b Z<|Uu 3 [6,25,26,27] Z<|G.loop (fun fr C' e q=>∃ (i:Nat)(n:Option Addr)(n1 o:Nat),(i<=a.length)/\fr=[(6,[],.slice n n1 o),(25,[],.slice p a.length c0),(26,[],.int .i64 a.length),(27,[],.int .i64 i)]/\e=[.arr (.slice n n1 o) 56 1 (nF (a.take i)).length ((nF (a.take i)).map aZ).flatten]/\q=a.length-i) (hn_ [6,25,26,27] Z) ⟨0,S,T,U,QT _,Z,Z,Z⟩ (fun fr ak am m E r=>?_);obtain ⟨i,n,n1,o,an,rfl,rfl,rfl⟩:=r;refine Uu 1 [6,25,26,27,28] Z<|Ux (fun y=>?_) fun y=>?_
 ·have f:i<a.length:=by
   have:=aJ y;omega
  obtain ⟨x,d⟩:∃ x,a[i]?=some x:=⟨a[i],aj f⟩;have g:=B x (QQ d);have k:=xB d;have E:=HU a (i+1);have N:(nF (a.take (i+1))).length=(nF (a.take i)).length+x.2.length:=by rw [k,QV]
  refine Uz fun R b=>UK h.m_ U10 om_ (show (a.map NU)[i]?=some [x.1] from gj d) fl_ fun ao V=>Uw V U8<|C4 1 [6,8,25,26,27] b Z<|Uv 2 Z fun R b=>UZ (j:=0) U11 g.m_ (by simp [aZ,lH,ai]) (by simp only [al,maxLen];omega) (by show ((nF (a.take i)).length+(x.2.map aZ).length)*16<=_;rw [al];omega) fl_ fun H I J=>C4 1 [6,25,26,27] b Z<|Uz fun R b=>UF _ U7<|C4 1 [6,25,26,27] b Z<|UN (L':=[.arr (.slice H I J) 56 1 (nF (a.take (i+1))).length ((nF (a.take (i+1))).map aZ).flatten]) (by rw [k,Ru,Rz,QV,al];rfl)<|UH (m':=a.length-(i+1)) om_ mup (hn_ [6,25,26,27] Z) ⟨i+1,H,I,J,om_,Z,Z,Z⟩
 have W:i=a.length:=by
  have:=QS y;omega
 refine Uu 2 [2] Z<|UJ (Vj Z Z ?_);exact ⟨n,n1,o,Z,by rw [W,Q2]⟩
theorem Jc (C:Mem)(N:Tabs C)(o:Int)(y:Str)(f g i:Value)(a b c:List Rat)(z:Sl C 1 f (a.map aZ))(A:Sl C 1 g (b.map aZ))(B:Sl C 1 i (c.map aZ))(O:∀ x∈a,QB 16 x)(Q:∀ x∈b,QB 16 x)(S:∀ x∈c,QB 16 x)(ae:a.length<=1000)(af:b.length<=1000)(ag:c.length<=1000)
  (T:o=1->∃ q,y=qtx q/\QB 16 q):Gives cx.P 78 [.agg ⟨[.int .i64 o,ai y,f,g,i]⟩] C (.bool true):=by
 have E:nF [(f,a),(g,b),(i,c)]=a++(b++(c++[])):=rfl;have F:(nF [(f,a),(g,b),(i,c)]).length<=1000000:=by rw [E];simp;omega
 obtain ⟨all,H⟩:∃ all,nF [(f,a),(g,b),(i,c)]=all:=⟨_,rfl⟩;have I:∀ x∈all,QB 16 x:=fun x d=>by
  rw [<- H,E] at d;simp only [Q6,RU,Tk] at d;rcases d with h | h | h
  ·exact O x h
  ·exact Q x h
  exact S x h
 have U:∀ l:List Rat,(∀ x∈l,QB 16 x)->((l.map qtx).any fun s=>!bg s)=false:=fun l V=>List.any_eq_false.2 fun s hs=>by
  obtain ⟨x,d,rfl⟩:=QX.1 hs;rw [bO ((V x d).le dc_)];decide
 obtain ⟨p,r,rfl,_⟩:=id z;obtain ⟨t,u,rfl,_⟩:=id A;obtain ⟨v,w,rfl,_⟩:=id B;have W:∀ D:Mem,C.le D->∀ x∈[(Value.slice p (a.map aZ).length r,a),(Value.slice t (b.map aZ).length u,b),(Value.slice v (c.map aZ).length w,c)],Sl D 1 x.1 (x.2.map aZ):=fun D k x d=>by
  simp only [Q3,RU,Tk] at d;rcases d with h | h | h
  ·rw [h];exact z.mono k
  ·rw [h];exact A.mono k
  rw [h];exact B.mono k
 refine UD func78 24 U3 fun w0=>Uz fun R e=>UQ U6 fun b1=>C4 1 [1] e Z<|G.freeze 0 Z fun _ _ m=>UW [(8,3)] Z fun R e=>Uy U6<|Uw (bkT m 1) U8<|UB 2 Z<|Uw (bkT m 1) U8<|Uy U6<|Uw (bkT m 1) U8<|UR [[.slice p (a.map aZ).length r],[.slice t (b.map aZ).length u],[.slice v (c.map aZ).length w]] U12 fun ah _ _ X=>D.call (HM _ _ [(.slice p (a.map aZ).length r,a),(.slice t (b.map aZ).length u,b),(.slice v (c.map aZ).length w,c)] X.m_ (W _ mup) F) Z (.inr dc_) U6 (QW _) fl_ (fun aj _ ak _ Y=>?_);obtain ⟨A3,n3,c3,rfl,rfl⟩:=Y;rw [H] at F ⊢;refine C4 1 [1,3] e Z<|Uv 1 Z fun R e=>Uw (bkT m 1) U8<|C4 1 [1,3,15] e Z<|G.cut (fun fr C' J μ=>∃ (n:Value)(l:List Rat),(∀ x∈l,QB 16 x)/\fr=[(3,[],n)]/\J=[.arr n 56 1 l.length (l.map aZ).flatten]) ?_ (fun fr _ al μ _ hI=>?_)
 ·refine Ux (fun K=>?_) fun K=>?_
  ·have aa:o=1:=by simpa using K
   obtain ⟨q,rfl,ab⟩:=T aa;refine Uv 2 Z fun R e=>Uw (bkT m 1) U8<|UR [[ai (qtx q)]] U12 fun an _ _ ac=>D.append (j:=0) U11 ac Z ax (by show (all.length+1)*16<=_;omega) fl_ fun L=>C4 1 [3] e Z<|UN (L':=[.arr L 56 1 (all++[q]).length ((all++[q]).map aZ).flatten]) (by rw [Ru,Rz,QV];rfl)<|UL 0 mup (hn_ [3] Z) ⟨L,all++[q],fun x d=>by
    rcases Q6.1 d with h | h
    ·exact I x h
    rw [Rc.1 h];exact ab,rfl,rfl⟩
  refine UL 0 (Mem.le.refl _) (hn_ [3] Z) ⟨_,all,I,Z,Z⟩
 obtain ⟨n ,l,M,rfl,rfl⟩:=hI;refine G.freezeArr 0 (l.map aZ) Z Z dM am fun _ _ ad=>Uv 1 Z fun R e=>UM (Ga _ n (l.map qtx) 89 [] (fun s=>!bg s) (by rw [<- BV];exact ad.mono mup) kr_ (fun s hs D k=>by
  obtain ⟨x,d,rfl⟩:=QX.1 hs;exact pp D (N.mono (Mem.le.trans mup k)) (qtx x) (Rb (bJ (M x d) dc_) dc_))) U7 fl_ ?_
 exact C4 2 [2] e Z<|UC U2<|⟨by rw [U l M];rfl,Z⟩
theorem sn {n:Int}{l:List Str}:jk n l=0 ↔ (l.length:Int)=n/\l.all bg=true:=by
 unfold jk;by_cases h:(l.length:Int)=n
 ·rw [aW h];rcases sV (l.all bg) with ⟨h1,h2⟩ | ⟨h1,h2⟩
  ·rw [h1];exact ⟨fun _=>⟨h,h2⟩,fun _=>rfl⟩
  rw [h1,h2];exact ⟨fun h=>(by cases h),fun h=>(by cases h.2)⟩
 rw [az h];exact ⟨fun h=>(by cases h),fun h2=>absurd h2.1 h⟩
theorem FA {n:Int}{r:List Str × Str}:FC n r=0 ↔ jk n r.1=0/\bg r.2=true:=by
 unfold FC;by_cases h:jk n r.1=0
 ·rw [az (fun a=>a h)];rcases sV (bg r.2) with ⟨h1,h2⟩ | ⟨h1,h2⟩
  ·rw [h1];exact ⟨fun _=>⟨h,h2⟩,fun _=>rfl⟩
  rw [h1,h2];exact ⟨fun h=>(by cases h),fun h=>(by cases h.2)⟩
 rw [aW h];exact ⟨fun h2=>absurd h2 h,fun h2=>absurd h2.1 h⟩
theorem Fg {D:Mem}(h:SolO p cc D u):∃ (kd:Int)(val:Str)(e g i:Value)(a b c:List Rat),u=.agg ⟨[.int .i64 kd,ai val,e,g,i]⟩/\Sl D 1 e (a.map aZ)/\Sl D 1 g (b.map aZ)/\Sl D 1 i (c.map aZ) /\
  (∀ x∈a,QB 16 x)/\(∀ x∈b,QB 16 x)/\(∀ x∈c,QB 16 x)/\a.length<=p.n/\b.length<=p.m/\c.length<=p.n/\(kd=1->∃ q,val=qtx q/\QB 16 q):=by
 have hr:∀ (n:Nat)(f:Nat->Rat),(∀ j,QB 16 (f j))->∀ x∈(List.range n).map f,QB 16 x:=fun n f o x d=>by
  obtain ⟨j,_,rfl⟩:=QX.1 d;exact o j
 cases h with
 | opt val pt du e g k h1 h2=>exact ⟨1,qtx val,e,g,.slice none 0 0,_,_,[],rfl,h1,h2,Sl.nil _ _,hr _ _ k.qp,hr _ _ k.qd,fun x d=>(by cases d),by simp,by simp,QT _,fun _=>⟨val,rfl,k.qv⟩⟩
 | inf du g r h1=>exact ⟨2,[],.slice none 0 0,g,.slice none 0 0,[],_,[],rfl,Sl.nil _ _,h1,Sl.nil _ _,fun x d=>(by cases d),hr _ _ r.qd,fun x d=>(by cases d),QT _,by simp,QT _,fun h=>absurd h dc_⟩
 | unb pt ra e i l h1 h2=>exact ⟨3,[],e,.slice none 0 0,i,_,[],_,rfl,h1,Sl.nil _ _,h2,hr _ _ l.qp,fun x d=>(by cases d),hr _ _ l.qr,by simp,QT _,by simp,fun h=>absurd h dc_⟩
theorem tg {l:List Rat}(h:∀ x∈l,QB 22 x):(l.map qtx).all bg=true:=Q4.2 fun s hs=>by
 obtain ⟨x,a,rfl⟩:=QX.1 hs;exact bO (h x a)
theorem pg {n:Nat}:∀ {rs:List (List Rat × Rat)},(∀ r∈rs,r.1.length=n)->(∀ r∈rs,(∀ x∈r.1,QB 22 x)/\QB 22 r.2)->tP n (rs.map gV)=0
 | [],_,_=>rfl
 | r::rs,b,a=>by
  have e:tP n ((r::rs).map gV)=if FC n (gV r)≠0 then FC n (gV r) else tP n (rs.map gV):=rfl;have h0:FC n (gV r)=0:=FA.2 ⟨sn.2 ⟨by show ((r.1.map qtx).length:Int)=n;rw [al,b r Qb],tg (a r Qb).1⟩,bO (a r Qb).2⟩;rw [e,az fun h=>h h0];exact pg (fun r hr=>b r (Q0 _ hr)) fun r hr=>a r (Q0 _ hr)
theorem Ed (e:n<=60)(f:rs.length<=300)(a:∀ r∈rs,r.1.length=n)(b:∀ r∈rs,(∀ x∈r.1,QB 22 x)/\QB 22 r.2)(c:ob.length=n)(d:∀ x∈ob,QB 22 x):KV n (rs.map gV) (ob.map qtx)=0:=by
 unfold KV;rw [az om_,az (by rw [al];omega),az fun h=>h (sn.2 ⟨by rw [al,c],tg d⟩)];exact pg a b
inductive FeaO (p:Lp.Sys) (D:Mem):Value->Prop where
 | yes (pt:Nat->Rat) (vp:Value):p.Hold->(∀ j,QB 16 (pt j))->Sl D 1 vp (((List.range p.n).map pt).map aZ)->FeaO p D (.tuple #[vp,.agg ⟨[.slice none 0 0]⟩,.bool true,.int .i64 0])
 | no (du:Nat->Rat) (vd:Value):Lp.InfR p 16 du->Sl D 1 vd (((List.range p.m).map du).map aZ)->FeaO p D (.tuple #[.slice none 0 0,.agg ⟨[vd]⟩,.bool false,.int .i64 0])
theorem I3 {D:Mem}{c:Int}{g a b d:Value}(h:SolO p cc D (.agg ⟨[.int .i64 c,g,a,b,d]⟩)) :
  (c=2/\∃ du,Lp.InfR p 16 du/\Sl D 1 b (((List.range p.m).map du).map aZ))∨(c≠2/\∃ pt,(p.Hold∨∃ ra,Lp.UnbR p cc 16 pt ra)/\(∀ j,QB 16 (pt j))/\Sl D 1 a (((List.range p.n).map pt).map aZ)):=by
 cases h with
 | opt w pt du a b e h1 h2=>exact .inr ⟨by decide,pt,.inl e.hold,e.qp,h1⟩
 | inf du b i h1=>exact .inl ⟨rfl,du,i,h1⟩
 | unb pt ra a d f h1 h2=>exact .inr ⟨by decide,pt,.inr ⟨ra,f⟩,f.qp,h1⟩
theorem nT (n:Nat):List.replicate n (ai [48])=((List.replicate n (0:Rat)).map aZ).flatten:=by
 rw [TY,QC];induction n with
 | zero=>rfl
 | succ n a=>rw [Se,Se,So,a];rfl
theorem FG (n j:Nat):(List.replicate n (0:Rat)).getD j 0=0:=by
 rw [au,SG];split <;> rfl
theorem Bp (C:Mem)(t:Tabs C)(n:Nat)(g k:Value)(f:List (List Rat × Rat))(i:List Rat)(o:RowsT C g (f.map gV))(v:Sl C 1 k (i.map aZ))(w:RowsQ n f)(B:∀ x∈i,QB 22 x)(E:∀ r∈f,(∀ x∈r.1,QB 22 x)/\QB 22 r.2)(N:n<=60)(O:i.length=n)(Q:Lp.Lim (eL n f) (fun _=>0) 16) :
  Pur cx.P 43 [.agg ⟨[.int .i64 n,g,k]⟩] C fun u D=>FeaO (eL n f) D u:=by
 have ag:maxLen<=9223372036854775807:=by simp [maxLen]
 have hm:=w.m;have S:KV n (f.map gV) (i.map qtx)=0:=Ed N om_ w.l E O B;have T:∀ D:Mem,C.le D->Gives cx.P 56 [.agg ⟨[.int .i64 n,g,k]⟩] D (.int .i64 0):=fun D y=>by
  have h:=F7 D (t.mono y) n g k (f.map gV) (i.map qtx) (o.mono y) (by rw [<- BV];exact v.mono y) (fun r o=>by
   obtain ⟨r,U,rfl⟩:=QX.1 o;obtain ⟨h1,h2⟩:=E r U;refine ⟨fun s hs=>?_,Rb (bJ h2 dc_) dc_⟩;obtain ⟨x,z,rfl⟩:=QX.1 hs;exact Rb (bJ (h1 x z) dc_) dc_) (fun s hs=>by
   obtain ⟨x,z,rfl⟩:=QX.1 hs;exact Rb (bJ (B x z) dc_) dc_)
  rw [S] at h;exact h
 have V:Lp.Lim (eL n f) (fun j=>(List.replicate n (0:Rat)).getD j 0) 16:=by
  have e:(fun j=>(List.replicate n (0:Rat)).getD j 0)=fun _=>(0:Rat):=funext (FG n);rw [e];exact Q
 refine UD func43 32 U3 fun w0=>Uz fun R d=>UQ U6 fun b1=>Uy U6<|UP U5 fun b3=>C4 2 [1,3] d Z<|Uz fun R d=>UE ae U9<|UI (T _ mup) U7<|C4 1 [1,3,6] d Z<|Uu 2 [1,3,6,11] Z<|Ux (fun F=>?_) fun F=>?_
 ·exact absurd F dc_
 refine UW [(2,3)] Z fun R d=>Uy U6<|UE ae U9<|D.call (iY _ n om_) Z (.inr dc_) U6 (QW _) fl_ (fun ah _ ai _ W=>?_);obtain ⟨bz,rfl,rfl⟩:=W;rw [nT];refine Uy U6<|UG (j:=2) U12<|UA [1,3] d Z<|G.freezeArr 1 ((List.replicate n (0:Rat)).map aZ) Z Z dM am fun _ _ X=>G.freeze 0 Z fun _ _ Y=>Uz fun R d=>Uw (bkT Y 3) U8<|U0 (I1 _ t.m_ n g _ f (List.replicate n 0) o.m_ X.m_ w om_ am V) U7 fl_ (fun aj _ _ H=>?_);obtain ⟨kd,val,vp,vd,vr,a,b,c,rfl,I,J,K,qa,qb,qc,aa,ab,ac,hv⟩:=Fg H;have A:=I3 H;rw [show (fun j=>(List.replicate n (0:Rat)).getD j 0)=fun _=>(0:Rat) from funext (FG n)] at A;obtain ⟨Ap,cp,rfl,_⟩:=id I;obtain ⟨Ad,cd,rfl,_⟩:=id J;obtain ⟨Ar,cr,rfl,_⟩:=id K;refine UP U5 fun b7=>UG (j:=0) U12<|UA [3,7] d Z<|G.freeze 0 Z fun _ _ p=>Uz fun R d=>Uw (bkT p 5) U8<|UM (Jc _ t.m_ kd val _ _ _ a b c I.m_ J.m_ K.m_ qa qb qc (Rb aa (by show n<=_;omega)) (Rb ab (by show f.length<=_;omega)) (Rb ac (by show n<=_;omega)) hv) U7 fl_<|C4 1 [3,7,22] d Z<|Ux (fun L=>?_) fun L=>?_
 ·exact absurd L dc_
 refine Uv 1 Z fun R d=>Uw (bkT p 1) U8<|C4 1 [3,7,26] d Z<|Ux (fun q=>?_) fun q=>?_
 ·refine US [0,1,2,3,4,5] [(1,0)] Z kr_ fun R M d=>Uy U6<|Vx (fun _=>((bkT p 1).mono M)) U9<|Uy U6<|UG (j:=0) U12<|UB 2 Z<|UA [2,3,4,5] d Z ?_;clear d M R;refine UJ (WB af Z Z Z Z Z Z Z ?_);refine ⟨Z, ?_⟩;rcases A with ⟨_,du,hi,h1⟩ | ⟨h,_⟩
  ·exact .no du _ hi h1.m_
  exact absurd (by simpa using q) h
 refine Uv 1 Z fun R d=>Uw (bkT p 1) U8<|UO ([.slice none 0 0]) U8<|Uy U6<|UG (j:=0) U12<|C4 2 [2,3,4,5] d Z<|UJ (WB af Z Z Z Z Z Z Z ?_);refine ⟨Z, ?_⟩;rcases A with ⟨h,_⟩ | ⟨_,pt,v,ad,h1⟩
 ·rw [h] at q;cases q
 refine .yes pt _ ?_ ad h1.m_;rcases v with h | ⟨ra,hu⟩
 ·exact h
 exact hu.zero.elim
def prC (vs:List Value)(l:List SrcQ):List (List Value):=aT vs (l.map SrcQ.r)
def frC (l:List SrcQ):List (List Value):=l.map fun s=>[Value.int .i64 s.n]
theorem Bi {l:List SrcQ}{s:SrcQ}(a:vs.length=l.length)(c:vs[i]?=some w)(d:l[i]?=some s):prC (vs.take (i+1)) (l.take (i+1))=prC (vs.take i) (l.take i)++[[w,ai (qtx s.r.b)]]:=by
 unfold prC;rw [Rm,Rm,c,d,Ru];exact fw (by simp [a]) w s.r
theorem Kp {l:List SrcQ}{s:SrcQ}(a:l[i]?=some s):frC (l.take (i+1))=frC (l.take i)++[[.int .i64 s.n]]:=by
 unfold frC;rw [Rm,a,Ru];rfl
theorem Lw {l:List SrcQ}{s:SrcQ}(a:vs[i]?=some w)(c:l[i]?=some s):(bU vs l)[i]?=some [.int .i64 s.n,w,ai (qtx s.r.b)]:=by
 unfold bU;rw [List.getElem?_zipWith,a,c]
abbrev sA7 (A:Option Addr)(n c:Nat):Value:=.slice A n c
abbrev sB7 (A:Option Addr)(n c:Nat):Value:=.slice A n c
structure ProbIn (D:Mem)(n:Nat)(l:List SrcQ)(u:Value):Prop where
 ex:∃ rv ov fv,u=.tuple #[.agg ⟨[.int .i64 n,rv,ov]⟩,fv]/\RowsT D rv ((ka (l.map SrcQ.r)).map gV)/\Sl D 1 ov ((List.replicate n (0:Rat)).map aZ)/\Sl D 1 fv (frC l)
theorem FZ (a:List Value)(l:List SrcQ):∀ r∈prC a l,r.length=2:=iX _ _
theorem NR (l:List SrcQ):∀ r∈frC l,r.length=1:=fun r hr=>by
 obtain ⟨s,_,rfl⟩:=QX.1 hr;rfl
theorem AR {v:Value}(h:RowsOk C vs rows)(b:Sl C 2 v (aT vs rows)):RowsT C v ((ka rows).map gV):=by
 refine ⟨vs,by rw [h.1];simp [ka],fun i w r c hr=>?_, ?_⟩
 ·rw [ka,RG,QU] at hr;cases a:rows[i]? with
  | none=>rw [a] at hr;cases hr
  | some x =>
   rw [a] at hr;cases hr
   have:=h.2 i w x c a;show Sl C 1 w ((x.f.map qtx).map yV);rw [<- BV];exact this
 have e:List.zipWith (fun w (r:List Str × Str)=>[w,ai r.2]) vs ((ka rows).map gV)=aT vs rows:=by
  unfold ka aT;rw [RG,List.zipWith_map_right];rfl
 rw [e];exact b
theorem Dp (C:Mem)(x lv:Value)(B:Bk)(l:List SrcQ)(O:BookZ C x B 0)(ag:bs B*bp B<=60)(aI:l.length<=300)
  (aq:∀ D:Mem,C.le D->Pur cx.P 52 [x,lv] D fun u E=>∃ v,u=.tuple #[v,.int .i64 0]/\xL E v l) :
  Pur cx.P 51 [x,lv] C fun u D=>ProbIn D (bs B*bp B) l u:=by
 have aL:=O;obtain ⟨n,hn⟩:∃ n,bs B*bp B=n:=⟨_,rfl⟩;have ar:∀ D:Mem,C.le D->Gives cx.P 35 [x] D (.tuple #[.int .i64 n,.int .i64 0]):=fun D hD=>by
  have h:=ze D x B 0 (O.mono hD) ag;rw [aW rfl,hn] at h;exact h
 rw [hn] at ag ⊢;obtain ⟨v1,v2,tv,cv,ov,rfl,h1,h2,h3,h4,h5⟩:=id O.i.ex;have aM:maxLen<=9223372036854775807:=by simp [maxLen]
 refine UD func51 51 U3 fun w0=>Uz fun R a=>UQ U6 fun b2=>UP U5 fun g=>C4 1 [1,2,4] a Z<|G.freeze 1 Z fun _ _ ah=>Uz fun R a=>Uw (bkT ah 5) U8<|UI (ar _ mup) U7<|C4 5 [1,2,4,6] a Z<|Uz fun R a=>Uw (bkT ah 5) U8<|Uy U6<|Ve (aq _ mup) U7 (fun aN _ _ au=>?_);obtain ⟨wv,rfl,av⟩:=au;obtain ⟨vs,Q,S⟩:=av;have T:=jA Q;obtain ⟨Aw,cw,rfl,aw,aO,_⟩:=id S;have ay:(bU vs l).length=l.length:=by unfold bU;simp [T]
 rw [ay] at S aw ⊢;refine C4 5 [4,6,8] a Z<|UW [(3,3)] Z fun R a=>Uy U6<|UR [[ai [48]]] U12 fun aP _ _ az=>Uy U6<|D.call (rT _ _ n [48] az.m_ om_) Z (.inr dc_) U6 (QW _) fl_ (fun aQ _ aR _ aA=>?_);obtain ⟨bz,rfl,rfl⟩:=aA;rw [nT];refine UO [.int .i64 n,.slice none 0 0,.slice (some ⟨bz,0,none⟩) n n] U8<|UP U5 fun k=>UG (j:=0) U12<|UA [4,8,10] a Z<|G.freezeArr 1 ((List.replicate n (0:Rat)).map aZ) Z Z dM am fun _ _ aB=>Uu 1 [4,8,10,11] Z<|Uu 3 [4,10,11,30,31,32] Z<|G.nilArr 123 2<|G.nilArr 3 1<|G.perm (L':=[.arr (sA7 none 0 0) 123 2 0 (prC (vs.take 0) (l.take 0)).flatten,.arr (sB7 none 0 0) 3 1 0 (frC (l.take 0)).flatten,.obj k (.cells ⟨[.int .i64 n,.slice none 0 0,.slice (some ⟨bz,0,none⟩) n n]⟩ 80 (0,0)),.obj g (.cells ⟨[.int .i64 0,.slice none 0 0,.slice none 0 0]⟩ 80 (0,0))]) (pkL [1,0,0,0] Z)<|G.loop (fun fr C' t U=>∃ (i:Nat)(V:Option Addr)(n1 W:Nat)(A2:Option Addr)(n2 c2:Nat),(i<=l.length)/\fr=[(4,[],.pointer (some ⟨g,0,none⟩)),(10,[],.pointer (some ⟨k,0,none⟩)),(11,[],.slice A2 n2 c2),(30,[],.slice Aw l.length cw),(31,[],.int .i64 l.length),(32,[],.int .i64 i)]/\t=[.arr (sA7 V n1 W) 123 2 i (prC (vs.take i) (l.take i)).flatten,.arr (sB7 A2 n2 c2) 3 1 i (frC (l.take i)).flatten,.obj k (.cells ⟨[.int .i64 n,.slice V n1 W,.slice (some ⟨bz,0,none⟩) n n]⟩ 80 (0,0)),.obj g (.cells ⟨[.int .i64 0,.slice none 0 0,.slice none 0 0]⟩ 80 (0,0))]/\U=l.length-i) (hn_ [4,10,11,30,31,32] Z) ⟨0,none,0,0,none,0,0,QT _,Z,Z,Z⟩ (fun fr aS aT m _ X=>?_);obtain ⟨i,V,n1,W,A2,n2,c2,hi,rfl,rfl,rfl⟩:=X;refine Uu 1 [4,10,11,30,31,32,33] Z<|Ux (fun Y=>?_) fun Y=>?_
 ·have aa:i<l.length:=by
   have:=aJ Y;omega
  obtain ⟨s,F⟩:∃ s,l[i]?=some s:=⟨l[i],aj aa⟩;obtain ⟨w,ab⟩:∃ w,vs[i]?=some w:=⟨vs[i]'om_,aj om_⟩;have aC:=Q.2 i w s.r ab (by rw [QU,F];rfl);obtain ⟨Ax,ak,rfl,_⟩:=id aC;have ad:=Bi T ab F;have ae:=Kp F;refine Uz fun R a=>UK S.m_ U10 om_ (Lw ab F) fl_ fun aU aD=>Uw aD U8<|UP U5 fun aV=>UG (j:=0) U12<|UA [4,10,11,13,30,31,32] a Z<|G.freeze 0 Z fun _ _ an=>G.cut (fun fr C' t U=>∃ (H:Option Addr)(I J:Nat)(K:Option Addr)(L M:Nat),(True)/\fr=[(4,[],.pointer (some ⟨g,0,none⟩)),(10,[],.pointer (some ⟨k,0,none⟩)),(11,[],.slice K L M),(30,[],.slice Aw l.length cw),(31,[],.int .i64 l.length),(32,[],.int .i64 i)]/\t=[.arr (sA7 H I J) 123 2 (i+1) (prC (vs.take (i+1)) (l.take (i+1))).flatten,.arr (sB7 K L M) 3 1 (i+1) (frC (l.take (i+1))).flatten,.obj k (.cells ⟨[.int .i64 n,.slice H I J,.slice (some ⟨bz,0,none⟩) n n]⟩ 80 (0,0)),.obj g (.cells ⟨[.int .i64 0,.slice none 0 0,.slice none 0 0]⟩ 80 (0,0))]) ?_ (fun fr aX aY U a0 X=>?_)
  ·refine Vp (.cut [0,1,2,3,6,7,8] (.alt 4 (.cut [] (.alt 5 (.fin [11,9,10,12,13]) (.alt 9 (.fin [5,11,10,12,13]) .stop))) (.alt 9 (.fin [4,5,11,10,12,13]) .stop))) [(3,0),(8,0)] Z Z kr_ fun R y a z=>Uy U6<|UE ac U9<|Uy U6<|Vx (fun _=>((bkT an 2).mono y)) U9<|UB 2 Z<|Vx (fun _=>((bkT an 1).mono y)) U9<|Vd z Z ⟨?_, ?_,trivial⟩
   ·refine UR [[.slice Ax (s.r.f.map fp).length ak,ai (qtx s.r.b)]] U12 fun aE aF _ N=>Vd z Z ⟨?_, ?_,trivial⟩
    ·refine UZ (j:=0) U11 N.m_ Z ax (by show (i+1)*40<=_;omega) fl_ fun c d e=>Uy U6<|UR [[.int .i64 s.n]] U12 fun ao ap _ A=>UZ (j:=1) U11 A.m_ Z ax (by show (i+1)*8<=_;omega) fl_ fun o p q=>UG (j:=2) U12<|Uy U6<|UA [4,10,11,30,31,32] a Z ?_;clear a y z R;exact G.perm (L':=[.arr (sA7 c d e) 123 2 (i+1) (prC (vs.take (i+1)) (l.take (i+1))).flatten,.arr (sB7 o p q) 3 1 (i+1) (frC (l.take (i+1))).flatten,.obj k (.cells ⟨[.int .i64 n,.slice c d e,.slice (some ⟨bz,0,none⟩) n n]⟩ 80 (0,0)),.obj g (.cells ⟨[.int .i64 0,.slice none 0 0,.slice none 0 0]⟩ 80 (0,0))]) (by rw [ad,ae,Rz,Rz];(exact pkL [2,1,0,0] Z))<|UL 0 mup (hn_ [4,10,11,30,31,32] Z) ⟨c,d,e,o,p,q,trivial,Z,Z⟩
    refine UR [[.int .i64 s.n]] U12 fun ao ap _ A=>UZ (j:=0) U11 N.m_ Z ax (by show (i+1)*40<=_;omega) fl_ fun c d e=>Uy U6<|UZ (j:=1) U11 A.m_ Z ax (by show (i+1)*8<=_;omega) fl_ fun o p q=>UG (j:=2) U12<|Uy U6<|UA [4,10,11,30,31,32] a Z ?_;clear a y z R;exact G.perm (L':=[.arr (sA7 c d e) 123 2 (i+1) (prC (vs.take (i+1)) (l.take (i+1))).flatten,.arr (sB7 o p q) 3 1 (i+1) (frC (l.take (i+1))).flatten,.obj k (.cells ⟨[.int .i64 n,.slice c d e,.slice (some ⟨bz,0,none⟩) n n]⟩ 80 (0,0)),.obj g (.cells ⟨[.int .i64 0,.slice none 0 0,.slice none 0 0]⟩ 80 (0,0))]) (by rw [ad,ae,Rz,Rz];(exact pkL [2,1,0,0] Z))<|UL 0 mup (hn_ [4,10,11,30,31,32] Z) ⟨c,d,e,o,p,q,trivial,Z,Z⟩
   refine UR [[.int .i64 s.n]] U12 fun ao ap _ A=>UR [[.slice Ax (s.r.f.map fp).length ak,ai (qtx s.r.b)]] U12 fun aE aF _ N=>UZ (j:=0) U11 N.m_ Z ax (by show (i+1)*40<=_;omega) fl_ fun c d e=>Uy U6<|UZ (j:=1) U11 A.m_ Z ax (by show (i+1)*8<=_;omega) fl_ fun o p q=>UG (j:=2) U12<|Uy U6<|UA [4,10,11,30,31,32] a Z ?_;clear a y z R;exact G.perm (L':=[.arr (sA7 c d e) 123 2 (i+1) (prC (vs.take (i+1)) (l.take (i+1))).flatten,.arr (sB7 o p q) 3 1 (i+1) (frC (l.take (i+1))).flatten,.obj k (.cells ⟨[.int .i64 n,.slice c d e,.slice (some ⟨bz,0,none⟩) n n]⟩ 80 (0,0)),.obj g (.cells ⟨[.int .i64 0,.slice none 0 0,.slice none 0 0]⟩ 80 (0,0))]) (by rw [ad,ae,Rz,Rz];(exact pkL [2,1,0,0] Z))<|UL 0 mup (hn_ [4,10,11,30,31,32] Z) ⟨c,d,e,o,p,q,trivial,Z,Z⟩
  obtain ⟨H,I,J,K,L,M,_,rfl,rfl⟩:=X;refine Uz fun R a=>UF _ U7<|C4 1 [4,10,11,30,31,32] a Z<|UH (m':=l.length-(i+1)) om_ mup (hn_ [4,10,11,30,31,32] Z) ⟨i+1,H,I,J,K,L,M,om_,Z,Z,Z⟩
 have aa:i=l.length:=by
  have:=QS Y;omega
 subst aa;refine Uz fun R a=>UE ac U9<|Uy U6<|UG (j:=3) U12<|C4 1 [4,5] a Z ?_;rw [Re (show vs.length<=l.length by omega),Q2];refine G.freezeArr 1 (prC vs l) Z Z (FZ _ _) (by rw [prC,dy (by simp [T]),al]) fun _ _ aG=>G.freezeArr 1 (frC l) Z Z (NR _) (al _) fun _ _ aH=>UJ (VF af U5 ?_);exact ⟨Z,⟨_,_,_,Z,(AR (rows:=l.map SrcQ.r) (RowsOk.m_ Q) aG.m_),aB.mono mup,aH⟩⟩
structure Calm (B:Bk)(fs:List Rat)(RO:Nat->List RowQ):Prop where
 rich:Rich B fs RO
 n12:bs B*bp B<=12
 thI:∀ r∈bH B,RowI r
 roI:∀ i,i<B.obs.length->∀ r∈RO i,RowI r
 th:(bH B).length<=24
 ro:∀ i,i<B.obs.length->(RO i).length<=8
 ob:B.obs.length<=12
structure SetIn (n:Nat)(l:List Nat):Prop where
 lt:∀ i∈l,i<n
 nd:l.Nodup
def eZ (B:Bk)(RO:Nat->List RowQ)(l:List Nat):List RowQ:=(bP (bH B) RO l).map SrcQ.r
def zz (B:Bk)(RO:Nat->List RowQ)(l:List Nat):Prop:=(eL (bs B*bp B) (ka (eZ B RO l))).Hold
open Classical in
noncomputable def bT (B:Bk)(RO:Nat->List RowQ)(l:List Nat):Bool:=decide (zz B RO l)
theorem lC {a:Nat->List RowQ}:eZ B a l=bH B++l.flatMap a:=by
 unfold eZ bP kE;rw [Ru,RG,List.map_flatMap];congr 1
 ·exact List.map_id _
 congr 1;funext i;rw [RG];exact List.map_id _
theorem SetIn.len (h:SetIn n l):l.length<=n:=by
 have:=List.Nodup.length_le_of_subset (l₂:=List.range n) h.nd fun v a=>Q9.2 (h.lt v a)
 rwa [RL] at this
section
variable {B:Bk} {fs:List Rat} {RO:Nat->List RowQ} {l:List Nat}
theorem Kt {c:Nat}{f:Nat->List RowQ}:∀ {l:List Nat},(∀ i∈l,(f i).length<=c)->(l.flatMap f).length<=c*l.length
 | [],_=>QT _
 | i::l,h=>by
  rw [List.flatMap_cons,QV,Q8,Nat.mul_succ];have h1:=h i Qb;have h2:=Kt (l:=l) fun j a=>h j (Q0 _ a);omega
theorem Calm.cnt (h:Calm B fs RO)(a:SetIn B.obs.length l):(eZ B RO l).length<=120:=by
 rw [lC,QV];have h1:=Kt (c:=8) (f:=RO) fun i b=>h.ro i (a.lt i b);have h2:=a.len;have h3:=h.ob;have h4:=h.th;omega
theorem Calm.rowI (h:Calm B fs RO)(a:SetIn B.obs.length l):∀ r∈eZ B RO l,RowI r:=by
 intro r hr;rw [lC] at hr;rcases Q6.1 hr with hr | hr
 ·exact h.thI r hr
 obtain ⟨i,b,hr⟩:=List.mem_flatMap.1 hr;exact h.roI i (a.lt i b) r hr
theorem vO {s p:Nat}{a:List Lay}:∀ n,∀ r∈bj s p a n,r.f.length=s*p
 | 0,r,hr=>by cases hr
 | n+1,r,hr=>by
  rcases Q6.1 hr with hr | hr
  ·exact vO n r hr
  have:∀ k,∀ r∈bx s p (a.getD (n+1) ⟨[],0,none⟩) (n+1) k,r.f.length=s*p:=by
   intro k;induction k with
   | zero=>intro r hr;cases hr
   | succ k b =>
    intro r hr;rcases Q6.1 hr with hr | hr
    ·exact b r hr
    unfold kp at hr;rcases Q3.1 hr with rfl | hr
    ·exact jD _ _
    split at hr
    ·cases hr
    rw [Rc.1 hr];exact jD _ _
  exact this p r hr
theorem OE {D:Int}{q:Rat}(h:Wl D q)(a:D≠0)(b:D.natAbs<=999999999):QB 1 q:=by
 obtain ⟨z,h1,h2⟩:=h;exact pn a h1 om_ om_
theorem RowI.q {r:RowQ}(h:RowI r):(∀ x∈r.f,QB 1 x)/\QB 1 r.b:=by
 obtain ⟨D,h0,a,h1,h2⟩:=h;exact ⟨fun x c=>OE (h1 x c) h0 a,OE h2 h0 a⟩
theorem AQ {a:List RowQ}{P:List Rat × Rat->Prop}(h:∀ r∈a,P (r.f,r.b)):∀ x∈ka a,P x:=fun x c=>by
 obtain ⟨r,hr,rfl⟩:=QX.1 c;exact h r hr
theorem Calm.q22 (h:Calm B fs RO)(a:SetIn B.obs.length l):∀ r∈ka (eZ B RO l),(∀ x∈r.1,QB 22 x)/\QB 22 r.2 :=
 AQ (P:=fun r=>(∀ x∈r.1,QB 22 x)/\QB 22 r.2) fun r hr=>⟨fun x b=>((h.rowI a r hr).q.1 x b).le dc_,(h.rowI a r hr).q.2.le dc_⟩
theorem Calm.rowsQ (h:Calm B fs RO)(a:SetIn B.obs.length l):RowsQ (bs B*bp B) (ka (eZ B RO l)):=by
 refine ⟨AQ (P:=fun r=>r.1.length=bs B*bp B) fun r hr=>?_,fun r hr=>⟨fun x b=>((h.q22 a r hr).1 x b).le dc_,(h.q22 a r hr).2.le dc_⟩, ?_⟩
 ·rw [lC] at hr;rcases Q6.1 hr with hr | hr
  ·exact vO _ r hr
  obtain ⟨i,c,hr⟩:=List.mem_flatMap.1 hr;exact (ph h.rich (a.lt i c)).2 r hr
 have:=h.cnt a;rw [ka,al];omega
theorem Calm.lim (h:Calm B fs RO)(a:SetIn B.obs.length l):Lp.Lim (eL (bs B*bp B) (ka (eZ B RO l))) (fun _=>0) 16:=J7 h.n12 (h.rowI a)
theorem Ob {n:Nat}(c:SetIn n l):chZ n (l.map fun i:Nat=>(i:Int))=0:=by
 refine kR fun i b=>?_;rw [al] at b;have f:l[i]?=some l[i]:=aj b;have g:(l.map fun i:Nat=>(i:Int)).getD i 0=(l[i]:Int):=by rw [au,QU,f];rfl
 have h1:=c.lt l[i] (RP b);unfold rD;rw [g,az om_,az];intro hm;rw [<- SC] at hm;obtain ⟨k,h,e⟩:=QX.1 hm;have m:k=l[i]:=by omega
 subst m;obtain ⟨j,a⟩:=Sg h;rw [Rx] at a;split at a
 ·rename_i o;have d:j<l.length:=by omega
  have p:=List.pairwise_iff_getElem.1 c.nd j i d b o;rw [aj d] at a;exact p (Ss a)
 cases a
theorem BC (l:List Nat):(l.map fun i:Nat=>(i:Int)).map Int.toNat=l:=by
 rw [RG];have e:∀ i∈l,(Int.toNat ∘ fun i:Nat=>(i:Int)) i=id i:=fun i _=>Sx i;rw [List.map_congr_left e,List.map_id]
theorem nj (C:Mem)(g:Tabs C)(a b:Value)(j:BookIn C a B)(h:Calm B fs RO)(c:SetIn B.obs.length l)(k:Sl C 1 b (l.map aM)) :
  ∀ D:Mem,C.le D->Pur cx.P 52 [a,b] D fun u E=>∃ v,u=.tuple #[v,.int .i64 0]/\xL E v (bP (bH B) RO l):=fun D d=>by
 have m:=Ob c;have e:=h.cnt c;have n:l.length<=12:=Rb c.len h.ob;have f:=Ec D (g.mono d) a b B fs RO (l.map fun i:Nat=>(i:Int)) (j.mono d) h.rich (by rw [RG];exact k.mono d) (by rw [al];omega) (fun _=>by
  rw [BC];unfold eZ at e;rw [al] at e;omega)
 rw [m,aW rfl,BC] at f;exact f
end
theorem og (C:Mem)(k:Tabs C)(e f:Value)(B:Bk)(H:List Rat)(a:Nat->List RowQ)(l:List Nat)(g:BookIn C e B)(h:Calm B H a)(b:SetIn B.obs.length l)(I:Sl C 1 f (l.map aM)) :
  Gives cx.P 47 [e,f] C (.tuple #[.bool (bT B a l),.int .i64 0]):=by
 have ab:=g;have J:=h.rich.bookz k g;have u:=h.cnt b;have v:=fun (D:Mem)(i:C.le D)=>Dp D e f B (bP (bH B) a l) (J.mono i) (by have:=h.n12;omega) (by unfold eZ at u;rw [al] at u;omega) (nj D (k.mono i) e f (g.mono i) h b (I.mono i));obtain ⟨n,w⟩:∃ n,bs B*bp B=n:=⟨_,rfl⟩;have K:=h.n12;have m:=h.rowsQ b;have y:=h.q22 b;have o:=h.lim b;obtain ⟨rows,p⟩:∃ rows,eZ B a l=rows:=⟨_,rfl⟩;have L:bT B a l=@decide (eL n (ka rows)).Hold (Classical.propDecidable _):=by
  unfold bT zz;rw [w,p]
 have M:(bP (bH B) a l).map SrcQ.r=rows:=p;rw [w] at v m o K;rw [p] at m y o;obtain ⟨v1,v2,tv,cv,ov,rfl,_⟩:=id g.ex;have ac:maxLen<=9223372036854775807:=by simp [maxLen]
 refine UD func47 27 U3 fun w0=>Uz fun R d=>UQ U6 fun b2=>C4 2 [1,2] d Z<|G.freeze 0 Z fun _ _ N=>Uz fun R d=>Uw (bkT N 5) U8<|Uy U6<|Ve (v _ mup) U7 (fun ad _ _ O=>?_);obtain ⟨rv,ae,fv,rfl,q,z,af⟩:=O.ex;rw [M] at q;obtain ⟨_,_,_,Q⟩:=id q;obtain ⟨Ar,cr,rfl,_⟩:=id Q;obtain ⟨Ao,co,rfl,_⟩:=id z;refine UB 3 Z<|UP U5 fun b6=>UG (j:=0) U12<|C4 1 [6] d Z<|G.freeze 0 Z fun _ _ S=>Uz fun R d=>Uw (bkT S 3) U8<|U0 (Bp _ k.m_ n _ _ (ka rows) (List.replicate n 0) q.m_ z.m_ m (fun x T=>by rw [(List.mem_replicate.1 T).2];exact QB_zero.le dc_) y om_ am o) U7 fl_ (fun U _ _ V=>?_);have W:∃ (s:Value)(E:Option Addr)(nd F:Nat)(t:Bool),U=.tuple #[s,.agg ⟨[.slice E nd F]⟩,.bool t,.int .i64 0]/\bT B a l=t:=by
  rw [L];cases V with
  | yes pt s X _ _=>exact ⟨_,_,_,_,true,rfl,@Ra _ (Classical.propDecidable _) X⟩
  | no du vd Y h1 =>
   obtain ⟨A,c,rfl,_⟩:=id h1;exact ⟨_,_,_,_,false,Z,@Rj _ (Classical.propDecidable _) Y.not⟩
 obtain ⟨s,E,nd,F,t,rfl,aa⟩:=W;refine UB 5 Z<|UP U5 fun b9=>Uy U6<|UG (j:=0) U12<|C4 2 [10,11] d Z<|Uu 4 [4,5] Z<|UJ (G.dropAll (UX U3 ?_));exact ⟨by rw [aa],Z⟩
structure AscIn (n:Nat)(l:List Nat):Prop where
 lt:∀ i∈l,i<n
 up:l.Pairwise (·<·)
theorem AscIn.set (h:AscIn n l):SetIn n l:=⟨h.lt,h.up.imp fun h=>Nat.ne_of_lt h⟩
theorem La (h:AscIn n l):Ow n (l.map fun i:Nat=>(i:Int))=0:=by
 refine kR fun i a=>?_;rw [al] at a;have b:∀ j (c:j<l.length),(l.map fun i:Nat=>(i:Int)).getD j 0=(l[j]:Int):=fun j c=>by
  rw [au,QU,aj c];rfl
 have h1:=h.lt l[i] (RP a);unfold my;rw [b i a,az om_,az];rintro ⟨h0,h2⟩;rw [b (i-1) om_] at h2;have:=List.pairwise_iff_getElem.1 h.up (i-1) i om_ a om_;omega
section
variable {B:Bk} {fs:List Rat} {RO:Nat->List RowQ} {l:List Nat}
theorem xz (C:Mem)(d:Tabs C)(a b:Value)(e:BookIn C a B)(h:Calm B fs RO)(c:AscIn B.obs.length l)(f:Sl C 1 b (l.map aM)):Gives cx.P 49 [a,b] C (.int .i64 0):=by
 have j:=h.rich.bookz d e;have k:=La c;have g:=KW C a b B 0 (l.map fun i:Nat=>(i:Int)) j (by have:=h.n12;omega) (by rw [RG];exact f) (by rw [al];have:=c.set.len;have:=h.ob;omega) (fun _ _ D m=>Fn.mono (nj C d a b e h c.set f D m) fun u C' n _ ⟨h1,v,h2,_⟩=>⟨h1,v,h2⟩);rw [k,az (fun h=>h rfl)] at g;exact g
end
theorem ow (C:Mem)(c:Tabs C)(d e:Value)(B:Bk)(f:List Rat)(b:Nat->List RowQ)(l:List Nat)(g:BookIn C d B)(h:Calm B f b)(i:AscIn B.obs.length l)(j:Sl C 1 e (l.map aM)) :
  Gives cx.P 25 [d,e] C (.tuple #[.bool (bT B b l),.int .i64 0]):=by
 have k:=g;obtain ⟨o,p,q,r,s,rfl,_⟩:=id g.ex;refine UD func25 18 U3 fun w0=>Uz fun R a=>UQ U6 fun t=>C4 2 [1,2] a Z<|G.freeze 0 Z fun _ _ m=>Uz fun R a=>Uw (bkT m 5) U8<|Uy U6<|UI (xz _ c.m_ _ _ k.m_ h i j.m_) U7<|C4 1 [1,2,6] a Z<|Uu 2 [1,2,6,11] Z<|Ux (fun n=>?_) fun n=>?_
 ·exact absurd n dc_
 refine Uz fun R a=>Uw (bkT m 5) U8<|Uy U6<|UI (og _ c.m_ _ _ B f b l k.m_ h i.set j.m_) U7<|C4 4 [4,5] a Z<|UJ (G.dropAll (UX U3 ?_));exact ⟨Z,Z⟩
def xO (h:Nat->Bool)(km:List (Nat × Value)):Prop:=∀ s v,dq km s=some v->v=.bool (h s)
theorem wU (h:Nat->Bool):xO h []:=fun s v e=>by cases e
theorem GZ (b:xO h km):xO h (fU km s (.bool (h s))):=fun t v e=>by
 by_cases a:s=t
 ·subst a;rw [kz] at e;exact (Ss e).symm
 rw [jg a] at e;exact b t v e
theorem DI (a:xO h km)(s:Nat):∃ x f:Bool,kN (.bool false) true (dq km s)=.tuple #[.bool x,.bool f]/\(f=true->x=h s):=by
 cases e:dq km s with
 | none=>exact ⟨false,false,rfl,fun h=>by cases h⟩
 | some v=>exact ⟨h s,true,by rw [a s v e];rfl,fun _=>rfl⟩
theorem Cv:∀ n<6,∀ s<2 ^ n,(∀ i∈aV s,i<n)/\(aV s).Pairwise (·<·):=by decide +kernel
theorem zt (a:n<6)(b:s<2 ^ n):AscIn n (aV s):=⟨(Cv n a s b).1,(Cv n a s b).2⟩
structure SrchIn (C:Mem)(B:Bk)(b0 bm:Nat):Prop where
 ex:∃ v1 v2 tv cv ov,C b0=some (.cells ⟨[v1,v2,tv,cv,ov,.map (some bm)]⟩ 153 (0,0))/\BookIn C (.agg ⟨[v1,v2,tv,cv,ov]⟩) B
theorem SrchIn.mono {C D:Mem}{B:Bk}{a b:Nat}(h:SrchIn C B a b)(c:C.le D):SrchIn D B a b:=by
 obtain ⟨d,e,f,g,i,h1,h2⟩:=h.ex;exact ⟨d,e,f,g,i,c _ _ h1,h2.mono c⟩
theorem SrchIn.m_ {D:Mem}{a b:Nat}(h:SrchIn C B a b)(c:C.le D:=by exact mup):SrchIn D B a b:=SrchIn.mono h c
noncomputable def hS (B:Bk)(RO:Nat->List RowQ)(s:Nat):Bool:=bT B RO (aV s)
theorem vZ (C:Mem)(k:Tabs C)(B:Bk)(l:List Rat)(b:Nat->List RowQ)(m c s:Nat)(d:List (Nat × Value))(t:SrchIn C B m c)(h:Calm B l b)(n:B.obs.length<6)(v:s<2 ^ B.obs.length)(e:xO (hS B b) d) :
  Jog.Fn cx.P 40 [.pointer (some ⟨m,0,none⟩),.int .u64 s] C [.obj c (aR keyU.enc d)] fun u _ o=>u=.tuple #[.bool (hS B b s),.int .i64 0]/\∃ p,xO (hS B b) p/\o=[.obj c (aR keyU.enc p)]:=by
 obtain ⟨F,G,H,I,J,g,w⟩:=t.ex;obtain ⟨x,f,y,z⟩:=DI e s;have i:=yv n;refine UD func40 41 U3 fun w0=>UN (L':=[.obj c (aR keyU.enc d)]) Z<|Uu 2 [0,1] Z<|Uv 3 Z fun R a=>Uw (bkT g 1) U8<|Uy U6<|VP keyU af Z Z Z Z Z Z Z Z kr_ Z y Z Z<|C4 5 [0,1,6,7] a Z<|Uu 1 [0,1,6,19] Z<|Ux (fun q=>?_) fun q=>?_
 ·have A:f=true:=q;refine Uu 3 [4,5] Z<|UJ (UX U3 ?_);exact ⟨by rw [z A],d,e,Z⟩
 refine US [0,1,2,3,4,5,6,7,8,9,10,11] [(6,1),(3,0)] Z kr_ fun R r a=>UB 3 Z<|Vx (fun _=>((bkT g 5).mono r)) U9<|Uy U6<|U0 (nY _ k.m_ s om_) U7 fl_ fun K _ _ E=>Vb (fun _=>(og _ k.m_ _ _ B l b (aV s) w.m_ h (zt n v).set E.m_)) U9<|UB 5 Z<|UA [0,1,8,9] a Z ?_;clear a r R;refine Uu 2 [0,1,8,9,32] Z<|Ux (fun i=>?_) fun i=>?_
 ·refine Uv 3 Z fun R a=>Uw (bkT g 1) U8<|UB 2 Z<|D.mapUpdate keyU (j:=0) Z Z Z Z Z Z Z Z Z Z kr_<|UA [8,9] a Z<|Uu 4 [4,5] Z<|UJ (UX U3 ?_);exact ⟨Z,_,GZ e,Z⟩
 exact absurd i dc_
def ED (i n:Nat):List Nat:=(List.range n).map fun q=>if q<i then q else 0
theorem Ab :(ED i n).length=n:=by simp [ED]
theorem ET :kl [.int .i64 0] n=((ED 0 n).map aM).flatten:=by
 rw [ek];congr 1;unfold ED;rw [RG];refine (List.eq_replicate_iff.2 ⟨by simp,fun x a=>?_⟩).symm;obtain ⟨q,_,rfl⟩:=QX.1 a;rfl
theorem IK :(ED i n).set i i=ED (i+1) n:=by
 refine List.ext_getElem? fun j=>?_;unfold ED;rw [List.getElem?_set,QU,QU,al,RL];by_cases a:j<n
 ·rw [Rw a];by_cases e:i=j
  ·subst e;simp [a]
  have:(j<i+1) ↔ j<i:=by omega
  simp [e,this]
 rw [QY (show (List.range n).length<=j by simp;omega)];simp;omega
theorem EU :ED n n=List.range n:=by
 unfold ED;have e:∀ q∈List.range n,(if q<n then q else 0)=id q:=fun q a=>aW (Q9.1 a);rw [List.map_congr_left e,List.map_id]
theorem FL (n:Nat):AscIn n (List.range n):=⟨fun _b a=>Q9.1 a,List.pairwise_lt_range⟩
theorem xh:∀ i,(aM i).length=1:=fun _=>rfl
theorem fc (l:List Nat):∀ r∈l.map aM,r.length=1:=fun r hr=>by
 obtain ⟨x,_,rfl⟩:=QX.1 hr;rfl
theorem Fe (C:Mem)(w:Tabs C)(p:Value)(B:Bk)(x:List Rat)(y:Nat->List RowQ)(q:BookIn C p B)(h:Calm B x y) :
  Jog.Fn cx.P 37 [p] C [] fun u D b=>(10<B.obs.length/\u=.tuple #[.pointer none,.int .i64 4]/\b=[])∨(B.obs.length<=10/\∃ r s,u=.tuple #[.pointer (some ⟨r,0,none⟩),.int .i64 0]/\SrchIn D B r s/\b=[.obj s (aR keyU.enc [])]):=by
 have z:=h.ob;have d:=q;obtain ⟨W,X,Y,cv,ov,rfl,h1,h2,h3,h4,h5⟩:=id q.ex;obtain ⟨A,E,rfl,_⟩:=id h1;obtain ⟨A2,c2,rfl,_⟩:=id h2;obtain ⟨F,H,rfl,_⟩:=id h3;obtain ⟨I,J,rfl,_⟩:=id h4;obtain ⟨K,L,rfl,M,aa,_⟩:=id h5;obtain ⟨n,e⟩:∃ n,B.obs.length=n:=⟨_,rfl⟩;have ab:maxLen<=9223372036854775807:=by simp [maxLen]
 rw [e] at z;simp only [al,e] at h5 M d ⊢;refine UD func37 34 U3 fun w0=>Uz fun R a=>UQ U6 fun N=>C4 2 [1] a Z<|G.freeze 0 Z fun _ _ f=>Uv 1 Z fun R a=>Uw (bkT f 1) U8<|Uy U6<|Vy U9 (QO _) (by show 8*n<=_;omega) (by simp only [maxLen];omega) fl_ fun c=>C4 1 [1,4] a Z<|Uu 3 [1,4,12,13] Z<|UN (L':=[.arr (.slice (some ⟨c,0,none⟩) n n) 3 1 n ((ED 0 n).map aM).flatten]) (by rw [<- ET];rfl)<|G.loop (fun fr C' b O=>∃ (i:Nat),(i<=n)/\fr=[(1,[],.pointer (some ⟨N,0,none⟩)),(4,[],.slice (some ⟨c,0,none⟩) n n),(12,[],.int .i64 n),(13,[],.int .i64 i)]/\b=[.arr (.slice (some ⟨c,0,none⟩) n n) 3 1 n ((ED i n).map aM).flatten]/\O=n-i) (hn_ [1,4,12,13] Z) ⟨0,QT _,Z,Z,Z⟩ (fun fr ac ad m Q S=>?_);obtain ⟨i,hi,rfl,rfl,rfl⟩:=S;refine Uu 1 [1,4,12,13,14] Z<|Ux (fun g=>?_) fun g=>?_
 ·have k:i<n:=by
   have:=aJ g;omega
  refine Uu 2 [1,4,5,12,13] Z<|Uv 3 Z fun R a=>Va (i*1) U10 ah U2<|Vc (j:=0) U11 (by show i*1+1<=_;rw [bS xh,Ab];omega)<|UA [1,4,12,13] a Z<|Uz fun R a=>UF _ U7<|C4 1 [1,4,12,13] a Z<|UN (L':=[.arr (.slice (some ⟨c,0,none⟩) n n) 3 1 n ((ED (i+1) n).map aM).flatten]) (by rw [<- IK,<- bN xh _ (by rw [Ab];exact k)];rfl)<|UH (m':=n-(i+1)) om_ Q (hn_ [1,4,12,13] Z) ⟨i+1,om_,Z,Z,Z⟩
 have k:i=n:=by
  have:=QS g;omega
 subst k;rw [EU];refine G.freezeArr 0 ((List.range i).map aM) Z Z (fc _) am fun _ _ T=>Uz fun R a=>Uw (bkT f 5) U8<|Uy U6<|UI (xz _ w.m_ _ _ d.m_ h (e ▸ FL i) T.m_) U7<|C4 1 [1,4,6] a Z<|Uu 2 [1,4,6,25] Z<|Ux (fun t=>?_) fun t=>?_
 ·exact absurd t dc_
 refine Uu 3 [1,29] Z<|Ux (fun l=>?_) fun l=>?_
 ·have o:10<i:=by
   have:=aJ l;omega
  refine Uu 2 [2,3] Z<|UJ (G.dropAll (UX U3 ?_));exact .inl ⟨o,Z,Z⟩
 have o:i<=10:=by
  have:=QS l;omega
 refine Uz fun R a=>Uw (bkT f 5) U8<|D.makeMap keyU Z Z Z Z fl_ fun v=>UO [.slice A B.pts.length E,.slice A2 B.tris.length c2,.slice F B.terr.length H,.slice I B.col.length J,.slice K i L,.map (some v)] U8<|UQ U6 fun U=>C4 2 [2,3] a Z<|G.freeze 0 Z fun _ _ V=>UJ (UX U3 ?_);exact .inr ⟨o,U,v,Z,⟨_,_,_,_,_,V,d.mono mup⟩,Z⟩
theorem AI (C:Mem)(f:Tabs C)(a:Value)(B:Bk)(b:List Rat)(c:Nat->List RowQ)(g:BookIn C a B)(h:Calm B b c)(j:B.obs.length<=10) :
  Jog.Fn cx.P 37 [a] C [] fun u D i=>∃ d e,u=.tuple #[.pointer (some ⟨d,0,none⟩),.int .i64 0]/\SrchIn D B d e/\i=[.obj e (aR keyU.enc [])] :=
 Fn.mono (Fe C f a B b c g h) fun _ _ _ _ h=>h.elim (fun h=>absurd h.1 om_) (·.2)
end Go.Proofs.YthnpijdjlddpmaaGreatDoor
