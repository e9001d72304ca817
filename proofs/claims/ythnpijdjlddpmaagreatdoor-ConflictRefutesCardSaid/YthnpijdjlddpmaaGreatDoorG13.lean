/- Laws that the proofs of this seat share, part 13. -/
import Derived.Test.YthnpijdjlddpmaaGreatDoorG12
import Derived.Test.YthnpijdjlddpmaaGreatDoorShelf
set_option maxHeartbeats 4000000
namespace Go.Proofs.YthnpijdjlddpmaaGreatDoor
open Go.Proofs.Tryz
open Go Go.Jog
set_option maxRecDepth 100000
variable {B:Bk}{C:Mem}{b:Nat}{h:Nat->Bool}{i k:Nat}{km:List (Nat × Value)}{l:List Nat}{n:Nat}{ob:List Rat}{p:Nat}{r:List Rat × Rat}{rows:List RowQ}{rs:List (List Rat × Rat)}{s:Nat}{t:Tri}{vs:List Value}{w:Value}{wF:Nat->Value}{z:Int}
theorem Pw (C:Mem)(v:Value)(l:List Rat)(b:Sl C 1 v (l.map aZ))(t:l.length<=1000000):Jog.Fn cx.P 173 [v] C [] fun u _w e=>∃ A n c,u=.slice A n c/\e=[.arr (.slice A n c) 56 1 l.length (l.map aZ).flatten]:=by
 obtain ⟨f,c0,rfl,m,x,y,o⟩:=id b;have z:maxLen<=9223372036854775807:=by simp [maxLen]
 simp only [aw] at b m ⊢;refine Uv func173 8 U3 fun w0=>Ul 1 [0] Z<|Um 1 Z fun R d=>V0 U9<|Ur [0,4] d Z<|Uo (fun h4=>?_) fun h4=>?_
 ·have p:f=none:=by
   cases f with
   | none=>rfl
   | some a=>cases h4
  have s:l=[]:=by
   cases l with
   | nil=>rfl
   | cons q r =>
    obtain ⟨a,g,_⟩:=o 0 (aZ q) rfl;rw [p] at g;cases g
  refine Ul 1 [2] Z<|G.nilArr 56 1<|Uz (UZ Z Z ?_);exact ⟨none,0,0,Z,by rw [s];rfl⟩
 refine Uq fun R d=>Vy [] U12 fl_ fun B=>Up U6<|UP (j:=0) U11 b.m_ (by simp [aZ,nN,ai]) (by simp only [aw,Rq,maxLen];omega) (by simp only [aw,Rq];omega) fl_ fun h i k=>C4 1 [2] d Z<|UE (L':=[.arr (.slice h i k) 56 1 l.length (l.map aZ).flatten]) am<|Uz (UZ Z Z ?_);exact ⟨h,i,k,Z,Z⟩
def dt (n:Nat)(rs:List (List Rat × Rat)):Lp.Sys:=⟨n,rs.length,fun r j=>(rs.getD r ([],0)).1.getD j 0,fun r=>(rs.getD r ([],0)).2⟩
abbrev sA (A:Option Addr)(n c:Nat):Value:=.slice A n c
abbrev sB (A:Option Addr)(n c:Nat):Value:=.slice A n c
abbrev sO (A:Option Addr)(n c:Nat):Value:=.slice A n c
abbrev sW (A:Option Addr)(n c:Nat):Value:=.slice A n c
abbrev sF (A:Option Addr)(n c:Nat):Value:=.slice A n c
def lbF (n i:Nat):List Nat:=(List.range i).map fun q=>n+q
def lvF (rs:List (List Rat × Rat))(wF:Nat->Value)(i:Nat):List (Rat × Value):=(List.range i).map fun q=>((rs.getD q ([],0)).2,wF q)
def opE (n:Nat)(rs:List (List Rat × Rat))(wF:Nat->Value)(q:Nat):Ent:=.arr (wF q) 56 1 n (((List.range n).map fun j=>-(rs.getD q ([],0)).1.getD j 0).map aZ).flatten
def IC (wF:Nat->Value)(i:Nat)(w:Value):Nat->Value:=fun q=>if q=i then w else wF q
theorem EV :IC wF i w i=w:=aJ rfl
theorem EU {q:Nat}(h:q≠i):IC wF i w q=wF q:=aB h
theorem J0 :lbF n (i+1)=lbF n i++[n+i]:=by unfold lbF;rw [RK,Rj];rfl
theorem JS (h:rs.getD i ([],0)=r):lvF rs (IC wF i w) (i+1)=lvF rs wF i++[(r.2,w)]:=by
 unfold lvF;rw [RK,Rj,List.map_singleton,h,EV];congr 1;refine List.map_congr_left fun q a=>?_;rw [EU (by have:=Q2.1 a;omega)]
theorem JH (h:rs.getD i ([],0)=r):(List.range (i+1)).map (opE n rs (IC wF i w))=(List.range i).map (opE n rs wF)++[.arr w 56 1 n (((List.range n).map fun j=>-r.1.getD j 0).map aZ).flatten]:=by
 rw [RK,Rj,List.map_singleton];congr 1
 ·refine List.map_congr_left fun q a=>?_;unfold opE;rw [EU (by have:=Q2.1 a;omega)]
 unfold opE;rw [h,EV]
theorem Do {l:List Rat}(h:l.length=n):(List.range n).map (fun j=>l.getD j 0)=l:=by
 refine List.ext_getElem? fun j=>?_;rw [QI];by_cases a:j<n
 ·rw [Ro a,aj om_];show some (l.getD j 0)=_;rw [al,aj om_];rfl
 rw [QS (show (List.range n).length<=j by simp;omega),QS om_];rfl
theorem Gb {a d e g:Value}(l:ob.length=n) :
  (fS b n (Lp.openT (dt n rs) fun j=>ob.getD j 0) a d e g wF).map Lent.ent=[.obj b (.cells ⟨[.int .i64 n,a,d,e,ai [48],g]⟩ 212 (0,0)),.arr a 3 1 rs.length ((lbF n rs.length).map aL).flatten,.arr d 209 2 rs.length ((lvF rs wF rs.length).map bJ).flatten,.arr e 3 1 n ((List.range n).map aL).flatten,.arr g 56 1 n (ob.map aZ).flatten]++(List.range rs.length).map (opE n rs wF):=by
 have i:(Lp.openT (dt n rs) fun j=>ob.getD j 0).basic.length=rs.length:=Lp.openT_lb;have k:(Lp.openT (dt n rs) fun j=>ob.getD j 0).others.length=n:=Lp.openT_lo;have h1:cT (Lp.openT (dt n rs) fun j=>ob.getD j 0) wF=lvF rs wF rs.length:=by
  unfold cT lvF;rw [i];refine List.map_congr_left fun q h=>?_;rw [Lp.openT_line (p:=dt n rs) (Q2.1 h)];rfl
 have h2:(List.range rs.length).map (Lent.ent ∘ Lm (Lp.openT (dt n rs) fun j=>ob.getD j 0) wF)=(List.range rs.length).map (opE n rs wF):=by
  refine List.map_congr_left fun q h=>?_;show Ent.arr _ _ 1 _ _=_;rw [Lp.openT_line (p:=dt n rs) (Q2.1 h),k];rfl
 have h3:(Lp.openT (dt n rs) fun j=>ob.getD j 0).worth.f=ob:=Do l;have h4:(Lp.openT (dt n rs) fun j=>ob.getD j 0).worth.c=0:=rfl;unfold fS;rw [h1,h3,h4,i,k,PT];simp only [Q9,Ry,h2];rfl
def Dy (n:Nat)(rs:List (List Rat × Rat))(ob:List Rat)(b17:Nat)(Aw:Option Addr)(nw cw:Nat)(A1:Option Addr)(n1 c1:Nat)(i:Nat)(wF:Nat->Value)(r:List Rat × Rat)(A4:Option Addr)(n4 c4:Nat)(A71:Option Addr)(n71 c71:Nat)(A78:Option Addr)(n78 c78:Nat):List Ent:=[.arr (sA A71 n71 c71) 3 1 (i+1) (((lbF n i).map aL).flatten++[[.int .i64 ((n:Int)+(i:Int))]].flatten),.arr (sB A78 n78 c78) 209 2 (i+1) (((lvF rs wF i).map bJ).flatten++[[ai (qtx r.2),.slice A4 n4 c4]].flatten),.obj b17 (.cells ⟨[.int .i64 n,.slice A71 n71 c71,.slice A78 n78 c78,.slice A1 n1 c1,ai [48],.slice Aw nw cw]⟩ 212 (0,0)),.arr (sO A1 n1 c1) 3 1 n (((List.range n)).map aL).flatten,.arr (sW Aw nw cw) 56 1 n (ob.map aZ).flatten,.arr (sF A4 n4 c4) 56 1 n (((List.range n).map fun q=>-r.1.getD q 0).map aZ).flatten]++(List.range i).map (opE n rs wF)
def opX1 (n:Nat)(rs:List (List Rat × Rat))(ob:List Rat)(b17:Nat)(Aw:Option Addr)(nw cw:Nat)(A1:Option Addr)(n1 c1:Nat)(i:Nat)(wF:Nat->Value)(A4:Option Addr)(n4 c4:Nat)(A71:Option Addr)(n71 c71:Nat)(A78:Option Addr)(n78 c78:Nat):List Ent:=[.arr (sA A71 n71 c71) 3 1 (i+1) ((lbF n (i+1)).map aL).flatten,.arr (sB A78 n78 c78) 209 2 (i+1) ((lvF rs (IC wF i (.slice A4 n4 c4)) (i+1)).map bJ).flatten,.obj b17 (.cells ⟨[.int .i64 n,.slice A71 n71 c71,.slice A78 n78 c78,.slice A1 n1 c1,ai [48],.slice Aw nw cw]⟩ 212 (0,0)),.arr (sO A1 n1 c1) 3 1 n (((List.range n)).map aL).flatten,.arr (sW Aw nw cw) 56 1 n (ob.map aZ).flatten]++(List.range (i+1)).map (opE n rs (IC wF i (.slice A4 n4 c4)))
theorem dG {a:Nat}{b:Option Addr}{c d:Nat}{e:Option Addr}{f g:Nat}{h:Option Addr}{j k:Nat}{l:Option Addr}{m o:Nat}{p:Option Addr}{q s:Nat}(t:rs.getD i ([],0)=r):(Dy n rs ob a b c d e f g i wF r h j k l m o p q s).Perm (opX1 n rs ob a b c d e f g i wF h j k l m o p q s):=by
 unfold Dy opX1;rw [J0,JS t,JH t];simp only [Rj,Ri];exact List.Perm.append_left [_,_,_,_,_] (List.perm_append_singleton _ _).symm
theorem Jw (C:Mem)(_aQ:Tabs C)(n:Nat)(rv ov:Value)(c:List (List Rat × Rat))(z:List Rat)(hr:RowsT C rv (c.map dz))(ho:Sl C 1 ov (z.map aZ))(hq:RowsQ n c)(hn:n<=1000)(au:z.length=n) :
  Jog.Fn cx.P 114 [.agg ⟨[.int .i64 n,rv,ov]⟩] C [] fun u _aR x=>∃ b wB wL wO wW wF,u=.pointer (some ⟨b,0,none⟩)/\x=(fS b n (Lp.openT (dt n c) fun j=>z.getD j 0) wB wL wO wW wF).map Lent.ent:=by
 obtain ⟨vs,av,aC,V⟩:=hr;obtain ⟨Ar,cr,rfl,ay,aS,_⟩:=id V;have hm:=hq.m;have aT:maxLen<=9223372036854775807:=by simp [maxLen]
 rw [nR av] at V ay ⊢;simp only [aw] at V ay av ⊢;refine Uv func114 85 U3 fun w0=>?_;refine Uq fun R a=>?_;refine UF U6 (fun W=>?_);refine C4 1 [1] a Z ?_;clear a R;refine G.freeze 0 Z (fun _ _ U=>?_);refine UJ [0,1,2,3,4,5,6,7,8] [(4,3),(1,0)] Z kr_ (fun R I a=>?_);refine Up U6 ?_;refine Vr (fun _=>((PtrTo.blockT U _ 1).mono I)) U9 ?_;refine Up U6 ?_;refine Un (bkT U 1) U8 ?_;refine D.call (Pw _ ov z ho.m_ om_) Z (.inr dc_) U6 (QL _) fl_ (fun aU _ aV _ aD=>?_);obtain ⟨d,e,f,rfl,rfl⟩:=aD;refine UG [ai [48],.slice d e f] U8 ?_;refine UG [.int .i64 n,.slice none 0 0,.slice none 0 0,.slice none 0 0,ai [48],.slice d e f] U8 ?_;refine UF U6 (fun y=>?_);refine Up U6 ?_;refine Ur [1,3] a Z ?_;clear a I R;refine Um 1 Z fun R a=>?_;refine Un (bkT U 1) U8 ?_;refine C4 1 [1,3,19,20] a Z ?_;clear a R;refine G.nilArr 3 1 ?_;refine UE (L':=[.arr (sO none 0 0) 3 1 0 (((List.range 0)).map aL).flatten,.obj y (.cells ⟨[.int .i64 n,.slice none 0 0,.slice none 0 0,.slice none 0 0,ai [48],.slice d e f]⟩ 212 (0,0)),.arr (sW d e f) 56 1 n (z.map aZ).flatten]) (by rw [au];rfl) ?_;refine G.loop (fun fr C' x O=>∃ (i:Nat)(t:Option Addr)(n1 v:Nat),(i<=n)/\fr=[(1,[],.pointer (some ⟨W,0,none⟩)),(3,[],.pointer (some ⟨y,0,none⟩)),(19,[],.int .i64 n),(20,[],.int .i64 i)]/\x=[.arr (sO t n1 v) 3 1 i (((List.range i)).map aL).flatten,.obj y (.cells ⟨[.int .i64 n,.slice none 0 0,.slice none 0 0,.slice t n1 v,ai [48],.slice d e f]⟩ 212 (0,0)),.arr (sW d e f) 56 1 n (z.map aZ).flatten]/\O=n-i) (hn_ [1,3,19,20] Z) ⟨0,none,0,0,QK _,Z,Z,Z⟩ (fun fr aX aY m _ Q=>?_);obtain ⟨i,t,n1,v,hi,rfl,rfl,rfl⟩:=Q;refine Ul 1 [1,3,19,20,21] Z ?_;refine Uo (fun ad=>?_) fun ad=>?_
 ·have az:i<n:=by
   have:=aW ad;omega
  refine Ul 2 [1,3,4,19,20] Z ?_;refine Um 4 Z fun R a=>?_;refine Uu ae U9 ?_;refine Up U6 ?_;refine UI [[.int .i64 i]] U12 (fun a0 _ _ aE=>?_);refine UP (j:=0) U11 aE Z ax (by show (i+1)*8<=_;omega) fl_ (fun af ag ah=>?_);refine Us 2 Z ?_;refine Ux (j:=1) U12 ?_;refine Ur [1,3,19,20] a Z ?_;clear a R;refine Uq fun R a=>?_;refine Uw _ U7 ?_;refine C4 1 [1,3,19,20] a Z ?_;clear a R;refine G.perm (L':=[.arr (sO af ag ah) 3 1 (i+1) (((List.range (i+1))).map aL).flatten,.obj y (.cells ⟨[.int .i64 n,.slice none 0 0,.slice none 0 0,.slice af ag ah,ai [48],.slice d e f]⟩ 212 (0,0)),.arr (sW d e f) 56 1 n (z.map aZ).flatten]) (by rw [RK,Rj,Ri];exact List.Perm.swap _ _ _) ?_;refine UA (m':=n-(i+1)) om_ mup (hn_ [1,3,19,20] Z) ⟨i+1,af,ag,ah,om_,Z,Z,Z⟩
 have ak:i=n:=by
  have:=QJ ad;omega
 rw [ak];refine Um 1 Z fun R a=>?_;refine Un (bkT U 1) U8 ?_;refine C4 2 [1,3,35,36,37] a Z ?_;clear a R;refine G.nilArr 209 2 ?_;refine G.nilArr 3 1 ?_;refine G.perm (L':=[.arr (sA none 0 0) 3 1 0 ((lbF n 0).map aL).flatten,.arr (sB none 0 0) 209 2 0 ((lvF c (fun _=>.slice none 0 0) 0).map bJ).flatten,.obj y (.cells ⟨[.int .i64 n,.slice none 0 0,.slice none 0 0,.slice t n1 v,ai [48],.slice d e f]⟩ 212 (0,0)),.arr (sO t n1 v) 3 1 n (((List.range n)).map aL).flatten,.arr (sW d e f) 56 1 n (z.map aZ).flatten]++(List.range 0).map (opE n c (fun _=>.slice none 0 0))) (by
  show List.Perm ([_,_,_,_,_]++[]) _
  (exact pkL [0,0,1,0,0] rfl)) ?_
 refine G.loop (fun fr C' x O=>∃ (i:Nat)(A2:Option Addr)(n2 c2:Nat)(K:Option Addr)(L M:Nat)(wF:Nat->Value),(i<=c.length)/\fr=[(1,[],.pointer (some ⟨W,0,none⟩)),(3,[],.pointer (some ⟨y,0,none⟩)),(35,[],.slice Ar c.length cr),(36,[],.int .i64 c.length),(37,[],.int .i64 i)]/\x=[.arr (sA A2 n2 c2) 3 1 i ((lbF n i).map aL).flatten,.arr (sB K L M) 209 2 i ((lvF c wF i).map bJ).flatten,.obj y (.cells ⟨[.int .i64 n,.slice A2 n2 c2,.slice K L M,.slice t n1 v,ai [48],.slice d e f]⟩ 212 (0,0)),.arr (sO t n1 v) 3 1 n (((List.range n)).map aL).flatten,.arr (sW d e f) 56 1 n (z.map aZ).flatten]++(List.range i).map (opE n c wF)/\O=c.length-i) (hn_ [1,3,35,36,37] Z) ⟨0,none,0,0,none,0,0,fun _=>.slice none 0 0,QK _,Z,Z,Z⟩ (fun fr a1 a2 m _ Q=>?_);obtain ⟨i,A2,n2,c2,K,L,M,wF,hi,rfl,rfl,rfl⟩:=Q;refine Ul 1 [1,3,35,36,37,38] Z ?_;refine Uo (fun am=>?_) fun am=>?_
 ·have az:i<c.length:=by
   have:=aW am;omega
  obtain ⟨r,X⟩:∃ r,c[i]?=some r:=⟨c[i],aj az⟩;have N:c.getD i ([],0)=r:=by rw [al,X];rfl
  have a3:r.1.length=n:=hq.l r (QF X);obtain ⟨aF,a4⟩:=hq.q r (QF X);obtain ⟨w,hw⟩:∃ w,vs[i]?=some w:=⟨vs[i]'om_,aj om_⟩;have aA:(c.map dz)[i]?=some (dz r):=by rw [QI,X];rfl
  have hx:=aC i w (dz r) hw aA;have an:Sl C 1 w (r.1.map aZ):=by rw [jB];exact hx
  obtain ⟨Ax,aG,rfl,aH,a5,_⟩:=id an;simp only [aw] at an aH hw;refine Um 1 Z fun R a=>?_;refine UD V.m_ U10 om_ (tI hw aA) fl_ (fun a6 aI=>?_);refine Un aI U8 ?_;refine UH U5 (fun b6=>?_);refine Up U6 ?_;refine Ux (j:=0) U12 ?_;refine Ur [1,3,5,6,35,36,37] a Z ?_;clear a R;refine G.freeze 0 Z (fun _ _ aB=>?_);refine Um 1 Z fun R a=>?_;refine Un (bkT aB 1) U8 ?_;refine UG [ai (qtx r.2),.slice none 0 0] U8 ?_;refine UH U5 (fun Y=>?_);refine Ux (j:=0) U12 ?_;refine Ur [1,3,5,6,7,35,36,37] a Z ?_;clear a R;refine Um 1 Z fun R a=>?_;refine Un (bkT aB 1) U8 ?_;refine C4 2 [1,3,5,7,35,36,37,46,47,48] a Z ?_;clear a R;refine G.nilArr 56 1 ?_;refine UE (L':=[.arr (sF none 0 0) 56 1 0 (((List.range 0).map fun q=>-r.1.getD q 0).map aZ).flatten,.obj Y (.cells ⟨[ai (qtx r.2),.slice none 0 0]⟩ 209 (0,0)),.arr (sA A2 n2 c2) 3 1 i ((lbF n i).map aL).flatten,.arr (sB K L M) 209 2 i ((lvF c wF i).map bJ).flatten,.obj y (.cells ⟨[.int .i64 n,.slice A2 n2 c2,.slice K L M,.slice t n1 v,ai [48],.slice d e f]⟩ 212 (0,0)),.arr (sO t n1 v) 3 1 n (((List.range n)).map aL).flatten,.arr (sW d e f) 56 1 n (z.map aZ).flatten]++(List.range i).map (opE n c wF)) Z ?_;refine G.loop (fun fr C' x O=>∃ (j:Nat)(A:Option Addr)(B E:Nat),(j<=n)/\fr=[(1,[],.pointer (some ⟨W,0,none⟩)),(3,[],.pointer (some ⟨y,0,none⟩)),(5,[],.int .i64 i),(7,[],.pointer (some ⟨Y,0,none⟩)),(35,[],.slice Ar c.length cr),(36,[],.int .i64 c.length),(37,[],.int .i64 i),(46,[],.slice Ax r.1.length aG),(47,[],.int .i64 r.1.length),(48,[],.int .i64 j)]/\x=[.arr (sF A B E) 56 1 j (((List.range j).map fun q=>-r.1.getD q 0).map aZ).flatten,.obj Y (.cells ⟨[ai (qtx r.2),.slice A B E]⟩ 209 (0,0)),.arr (sA A2 n2 c2) 3 1 i ((lbF n i).map aL).flatten,.arr (sB K L M) 209 2 i ((lvF c wF i).map bJ).flatten,.obj y (.cells ⟨[.int .i64 n,.slice A2 n2 c2,.slice K L M,.slice t n1 v,ai [48],.slice d e f]⟩ 212 (0,0)),.arr (sO t n1 v) 3 1 n (((List.range n)).map aL).flatten,.arr (sW d e f) 56 1 n (z.map aZ).flatten]++(List.range i).map (opE n c wF)/\O=n-j) (hn_ [1,3,5,7,35,36,37,46,47,48] Z) ⟨0,none,0,0,QK _,Z,Z,Z⟩ (fun fr a7 a8 m _ Q=>?_);obtain ⟨j,A,B,E,hj,rfl,rfl,rfl⟩:=Q;refine Ul 1 [1,3,5,7,35,36,37,46,47,48,49] Z ?_;refine Uo (fun ao=>?_) fun ao=>?_
  ·have a9:j<n:=by
    have:=aW ao;omega
   have aJ:QB 23 (r.1.getD j 0):=BV aF;refine Uq fun R a=>?_;refine UD an.m_ U10 om_ (fh om_) fl_ (fun ba aM=>?_);refine Un aM U8 ?_;refine C4 1 [1,3,5,7,9,35,36,37,46,47,48] a Z ?_;clear a R;refine UJ [0,1,2,3,4,5,6,7] [(3,1)] Z kr_ (fun R I a=>?_);refine Up U6 ?_;refine Uu ae U9 ?_;refine Up U6 ?_;refine UK (fun _=>(eY _ (r.1.getD j 0) (Q0 (bG aJ dc_) dc_))) U9 ?_;refine UI [[ai (qtx (-(r.1.getD j 0)))]] U12 (fun bb _ _ aN=>?_);refine UP (j:=0) U11 aN Z ax (by show (j+1)*16<=_;omega) fl_ (fun ap aq ar=>?_);refine Up U6 ?_;refine Ux (j:=1) U12 ?_;refine Ur [1,3,5,7,35,36,37,46,47,48] a Z ?_;clear a I R;refine Uq fun R a=>?_;refine Uw _ U7 ?_;refine C4 1 [1,3,5,7,35,36,37,46,47,48] a Z ?_;clear a R;refine G.perm (L':=[.arr (sF ap aq ar) 56 1 (j+1) (((List.range (j+1)).map fun q=>-r.1.getD q 0).map aZ).flatten,.obj Y (.cells ⟨[ai (qtx r.2),.slice ap aq ar]⟩ 209 (0,0)),.arr (sA A2 n2 c2) 3 1 i ((lbF n i).map aL).flatten,.arr (sB K L M) 209 2 i ((lvF c wF i).map bJ).flatten,.obj y (.cells ⟨[.int .i64 n,.slice A2 n2 c2,.slice K L M,.slice t n1 v,ai [48],.slice d e f]⟩ 212 (0,0)),.arr (sO t n1 v) 3 1 n (((List.range n)).map aL).flatten,.arr (sW d e f) 56 1 n (z.map aZ).flatten]++(List.range i).map (opE n c wF)) (by rw [RK,Rj,Rj,Ri];exact List.Perm.swap _ _ _) ?_;refine UA (m':=n-(j+1)) om_ mup (hn_ [1,3,5,7,35,36,37,46,47,48] Z) ⟨j+1,ap,aq,ar,om_,Z,Z,Z⟩
  have aO:j=n:=by
   have:=QJ ao;omega
  rw [aO];refine G.freeze 1 Z (fun _ _ aP=>?_);refine UE (L':=[.arr (sF A B E) 56 1 n (((List.range n).map fun q=>-r.1.getD q 0).map aZ).flatten,.arr (sA A2 n2 c2) 3 1 i ((lbF n i).map aL).flatten,.arr (sB K L M) 209 2 i ((lvF c wF i).map bJ).flatten,.obj y (.cells ⟨[.int .i64 n,.slice A2 n2 c2,.slice K L M,.slice t n1 v,ai [48],.slice d e f]⟩ 212 (0,0)),.arr (sO t n1 v) 3 1 n (((List.range n)).map aL).flatten,.arr (sW d e f) 56 1 n (z.map aZ).flatten]++(List.range i).map (opE n c wF)) Z ?_;refine G.cut (fun fr C' x O=>∃ (A7:Option Addr)(n7 c7:Nat)(A8:Option Addr)(n8 c8:Nat),(True)/\fr=[(1,[],.pointer (some ⟨W,0,none⟩)),(3,[],.pointer (some ⟨y,0,none⟩)),(35,[],.slice Ar c.length cr),(36,[],.int .i64 c.length),(37,[],.int .i64 i)]/\x=[.arr (sA A7 n7 c7) 3 1 (i+1) ((lbF n (i+1)).map aL).flatten,.arr (sB A8 n8 c8) 209 2 (i+1) ((lvF c (IC wF i (.slice A B E)) (i+1)).map bJ).flatten,.obj y (.cells ⟨[.int .i64 n,.slice A7 n7 c7,.slice A8 n8 c8,.slice t n1 v,ai [48],.slice d e f]⟩ 212 (0,0)),.arr (sO t n1 v) 3 1 n (((List.range n)).map aL).flatten,.arr (sW d e f) 56 1 n (z.map aZ).flatten]++(List.range (i+1)).map (opE n c (IC wF i (.slice A B E)))) ?_ (fun fr bc bd O be Q=>?_)
  ·refine Vg (.cut [0,1,2,3,4,5,6,7,8,9,12,13,14,16] (.alt 10 (.cut [] (.alt 11 (.fin [15,17,18,19,20,21,22,23,24]) (.alt 15 (.cut [] (.alt 11 (.fin [17,18,19,20,21,22,23,24]) (.alt 17 (.fin [11,18,19,20,21,22,23,24]) .stop))) (.alt 17 (.cut [] (.alt 11 (.fin [15,18,19,20,21,22,23,24]) (.alt 15 (.fin [11,18,19,20,21,22,23,24]) .stop))) .stop)))) (.alt 15 (.cut [] (.alt 10 (.cut [] (.alt 11 (.fin [17,18,19,20,21,22,23,24]) (.alt 17 (.fin [11,18,19,20,21,22,23,24]) .stop))) (.alt 17 (.fin [10,11,18,19,20,21,22,23,24]) .stop))) (.alt 17 (.cut [] (.alt 10 (.cut [] (.alt 11 (.fin [15,18,19,20,21,22,23,24]) (.alt 15 (.fin [11,18,19,20,21,22,23,24]) .stop))) (.alt 15 (.fin [10,11,18,19,20,21,22,23,24]) .stop))) .stop)))) [(16,0)] Z Z kr_ (fun R I a F=>?_);refine Us 5 Z ?_;refine Uu aa U9 ?_;refine Up U6 ?_;refine Un (bkT U 1) U8 ?_;refine Up U6 ?_;refine Uw _ U7 ?_;refine Us 3 Z ?_;refine Vr (fun _=>((bkT aP 2).mono I)) U9 ?_;refine UY F Z ⟨?_, ?_, ?_,trivial⟩
   ·refine UI [[.int .i64 ((n:Int)+(i:Int))]] U12 (fun ab ac _ J=>?_);refine UY F Z ⟨?_, ?_, ?_,trivial⟩
    ·refine UP (j:=1) U11 J.m_ Z ax (by show (i+1)*8<=_;omega) fl_ (fun g h k=>?_);refine Uu aa U9 ?_;refine UI [[ai (qtx r.2),.slice A B E]] U12 (fun S T _ H=>?_);refine UP (j:=2) U11 H.m_ Z ax (by show (i+1)*40<=_;omega) fl_ (fun o p s=>?_);refine Us 2 Z ?_;refine Ux (j:=3) U12 ?_;refine Us 2 Z ?_;refine Ux (j:=0) U12 ?_;refine Ur [1,3,35,36,37] a Z ?_;clear a I F R;refine G.perm (L':=Dy n c z y d e f t n1 v i wF r A B E g h k o p s) (pkL [2,1,0,1,1,0] Z) ?_;refine G.perm _ (dG N) ?_;exact UB 0 mup (hn_ [1,3,35,36,37] Z) ⟨g,h,k,o,p,s,trivial,Z,Z⟩
    ·refine Uu aa U9 ?_;refine UY F Z ⟨?_, ?_,trivial⟩
     ·refine UP (j:=1) U11 J.m_ Z ax (by show (i+1)*8<=_;omega) fl_ (fun g h k=>?_);refine UI [[ai (qtx r.2),.slice A B E]] U12 (fun S T _ H=>?_);refine UP (j:=2) U11 H.m_ Z ax (by show (i+1)*40<=_;omega) fl_ (fun o p s=>?_);refine Us 2 Z ?_;refine Ux (j:=3) U12 ?_;refine Us 2 Z ?_;refine Ux (j:=0) U12 ?_;refine Ur [1,3,35,36,37] a Z ?_;clear a I F R;refine G.perm (L':=Dy n c z y d e f t n1 v i wF r A B E g h k o p s) (pkL [2,1,0,1,1,0] Z) ?_;refine G.perm _ (dG N) ?_;exact UB 0 mup (hn_ [1,3,35,36,37] Z) ⟨g,h,k,o,p,s,trivial,Z,Z⟩
     refine UI [[ai (qtx r.2),.slice A B E]] U12 (fun S T _ H=>?_);refine UP (j:=1) U11 J.m_ Z ax (by show (i+1)*8<=_;omega) fl_ (fun g h k=>?_);refine UP (j:=2) U11 H.m_ Z ax (by show (i+1)*40<=_;omega) fl_ (fun o p s=>?_);refine Us 2 Z ?_;refine Ux (j:=3) U12 ?_;refine Us 2 Z ?_;refine Ux (j:=0) U12 ?_;refine Ur [1,3,35,36,37] a Z ?_;clear a I F R;refine G.perm (L':=Dy n c z y d e f t n1 v i wF r A B E g h k o p s) (pkL [2,1,0,1,1,0] Z) ?_;refine G.perm _ (dG N) ?_;exact UB 0 mup (hn_ [1,3,35,36,37] Z) ⟨g,h,k,o,p,s,trivial,Z,Z⟩
    refine UI [[ai (qtx r.2),.slice A B E]] U12 (fun S T _ H=>?_);refine UY F Z ⟨?_, ?_,trivial⟩
    ·refine UP (j:=1) U11 J.m_ Z ax (by show (i+1)*8<=_;omega) fl_ (fun g h k=>?_);refine Uu aa U9 ?_;refine UP (j:=2) U11 H.m_ Z ax (by show (i+1)*40<=_;omega) fl_ (fun o p s=>?_);refine Us 2 Z ?_;refine Ux (j:=3) U12 ?_;refine Us 2 Z ?_;refine Ux (j:=0) U12 ?_;refine Ur [1,3,35,36,37] a Z ?_;clear a I F R;refine G.perm (L':=Dy n c z y d e f t n1 v i wF r A B E g h k o p s) (pkL [2,1,0,1,1,0] Z) ?_;refine G.perm _ (dG N) ?_;exact UB 0 mup (hn_ [1,3,35,36,37] Z) ⟨g,h,k,o,p,s,trivial,Z,Z⟩
    refine Uu aa U9 ?_;refine UP (j:=1) U11 J.m_ Z ax (by show (i+1)*8<=_;omega) fl_ (fun g h k=>?_);refine UP (j:=2) U11 H.m_ Z ax (by show (i+1)*40<=_;omega) fl_ (fun o p s=>?_);refine Us 2 Z ?_;refine Ux (j:=3) U12 ?_;refine Us 2 Z ?_;refine Ux (j:=0) U12 ?_;refine Ur [1,3,35,36,37] a Z ?_;clear a I F R;refine G.perm (L':=Dy n c z y d e f t n1 v i wF r A B E g h k o p s) (pkL [2,1,0,1,1,0] Z) ?_;refine G.perm _ (dG N) ?_;exact UB 0 mup (hn_ [1,3,35,36,37] Z) ⟨g,h,k,o,p,s,trivial,Z,Z⟩
   ·refine Uu aa U9 ?_;refine UY F Z ⟨?_, ?_,trivial⟩
    ·refine UI [[.int .i64 ((n:Int)+(i:Int))]] U12 (fun ab ac _ J=>?_);refine UY F Z ⟨?_, ?_,trivial⟩
     ·refine UP (j:=1) U11 J.m_ Z ax (by show (i+1)*8<=_;omega) fl_ (fun g h k=>?_);refine UI [[ai (qtx r.2),.slice A B E]] U12 (fun S T _ H=>?_);refine UP (j:=2) U11 H.m_ Z ax (by show (i+1)*40<=_;omega) fl_ (fun o p s=>?_);refine Us 2 Z ?_;refine Ux (j:=3) U12 ?_;refine Us 2 Z ?_;refine Ux (j:=0) U12 ?_;refine Ur [1,3,35,36,37] a Z ?_;clear a I F R;refine G.perm (L':=Dy n c z y d e f t n1 v i wF r A B E g h k o p s) (pkL [2,1,0,1,1,0] Z) ?_;refine G.perm _ (dG N) ?_;exact UB 0 mup (hn_ [1,3,35,36,37] Z) ⟨g,h,k,o,p,s,trivial,Z,Z⟩
     refine UI [[ai (qtx r.2),.slice A B E]] U12 (fun S T _ H=>?_);refine UP (j:=1) U11 J.m_ Z ax (by show (i+1)*8<=_;omega) fl_ (fun g h k=>?_);refine UP (j:=2) U11 H.m_ Z ax (by show (i+1)*40<=_;omega) fl_ (fun o p s=>?_);refine Us 2 Z ?_;refine Ux (j:=3) U12 ?_;refine Us 2 Z ?_;refine Ux (j:=0) U12 ?_;refine Ur [1,3,35,36,37] a Z ?_;clear a I F R;refine G.perm (L':=Dy n c z y d e f t n1 v i wF r A B E g h k o p s) (pkL [2,1,0,1,1,0] Z) ?_;refine G.perm _ (dG N) ?_;exact UB 0 mup (hn_ [1,3,35,36,37] Z) ⟨g,h,k,o,p,s,trivial,Z,Z⟩
    refine UI [[ai (qtx r.2),.slice A B E]] U12 (fun S T _ H=>?_);refine UI [[.int .i64 ((n:Int)+(i:Int))]] U12 (fun ab ac _ J=>?_);refine UP (j:=1) U11 J.m_ Z ax (by show (i+1)*8<=_;omega) fl_ (fun g h k=>?_);refine UP (j:=2) U11 H.m_ Z ax (by show (i+1)*40<=_;omega) fl_ (fun o p s=>?_);refine Us 2 Z ?_;refine Ux (j:=3) U12 ?_;refine Us 2 Z ?_;refine Ux (j:=0) U12 ?_;refine Ur [1,3,35,36,37] a Z ?_;clear a I F R;refine G.perm (L':=Dy n c z y d e f t n1 v i wF r A B E g h k o p s) (pkL [2,1,0,1,1,0] Z) ?_;refine G.perm _ (dG N) ?_;exact UB 0 mup (hn_ [1,3,35,36,37] Z) ⟨g,h,k,o,p,s,trivial,Z,Z⟩
   refine UI [[ai (qtx r.2),.slice A B E]] U12 (fun S T _ H=>?_);refine UY F Z ⟨?_, ?_,trivial⟩
   ·refine UI [[.int .i64 ((n:Int)+(i:Int))]] U12 (fun ab ac _ J=>?_);refine UY F Z ⟨?_, ?_,trivial⟩
    ·refine UP (j:=1) U11 J.m_ Z ax (by show (i+1)*8<=_;omega) fl_ (fun g h k=>?_);refine Uu aa U9 ?_;refine UP (j:=2) U11 H.m_ Z ax (by show (i+1)*40<=_;omega) fl_ (fun o p s=>?_);refine Us 2 Z ?_;refine Ux (j:=3) U12 ?_;refine Us 2 Z ?_;refine Ux (j:=0) U12 ?_;refine Ur [1,3,35,36,37] a Z ?_;clear a I F R;refine G.perm (L':=Dy n c z y d e f t n1 v i wF r A B E g h k o p s) (pkL [2,1,0,1,1,0] Z) ?_;refine G.perm _ (dG N) ?_;exact UB 0 mup (hn_ [1,3,35,36,37] Z) ⟨g,h,k,o,p,s,trivial,Z,Z⟩
    refine Uu aa U9 ?_;refine UP (j:=1) U11 J.m_ Z ax (by show (i+1)*8<=_;omega) fl_ (fun g h k=>?_);refine UP (j:=2) U11 H.m_ Z ax (by show (i+1)*40<=_;omega) fl_ (fun o p s=>?_);refine Us 2 Z ?_;refine Ux (j:=3) U12 ?_;refine Us 2 Z ?_;refine Ux (j:=0) U12 ?_;refine Ur [1,3,35,36,37] a Z ?_;clear a I F R;refine G.perm (L':=Dy n c z y d e f t n1 v i wF r A B E g h k o p s) (pkL [2,1,0,1,1,0] Z) ?_;refine G.perm _ (dG N) ?_;exact UB 0 mup (hn_ [1,3,35,36,37] Z) ⟨g,h,k,o,p,s,trivial,Z,Z⟩
   refine Uu aa U9 ?_;refine UI [[.int .i64 ((n:Int)+(i:Int))]] U12 (fun ab ac _ J=>?_);refine UP (j:=1) U11 J.m_ Z ax (by show (i+1)*8<=_;omega) fl_ (fun g h k=>?_);refine UP (j:=2) U11 H.m_ Z ax (by show (i+1)*40<=_;omega) fl_ (fun o p s=>?_);refine Us 2 Z ?_;refine Ux (j:=3) U12 ?_;refine Us 2 Z ?_;refine Ux (j:=0) U12 ?_;refine Ur [1,3,35,36,37] a Z ?_;clear a I F R;refine G.perm (L':=Dy n c z y d e f t n1 v i wF r A B E g h k o p s) (pkL [2,1,0,1,1,0] Z) ?_;refine G.perm _ (dG N) ?_;exact UB 0 mup (hn_ [1,3,35,36,37] Z) ⟨g,h,k,o,p,s,trivial,Z,Z⟩
  obtain ⟨A7,n7,c7,A8,n8,c8,_,rfl,rfl⟩:=Q;refine Uq fun R a=>?_;refine Uw _ U7 ?_;refine C4 1 [1,3,35,36,37] a Z ?_;clear a R;refine UA (m':=c.length-(i+1)) om_ mup (hn_ [1,3,35,36,37] Z) ⟨i+1,A7,n7,c7,A8,n8,c8,(IC wF i (.slice A B E)),om_,Z,Z,Z⟩
 have ak:i=c.length:=by
  have:=QJ am;omega
 refine Ul 2 [2] Z ?_;rw [ak];refine G.perm (L':=(fS y n (Lp.openT (dt n c) fun j=>z.getD j 0) (.slice A2 n2 c2) (.slice K L M) (.slice t n1 v) (.slice d e f) wF).map Lent.ent) (by rw [Gb au];(exact pkL [2,0,0,0] Z)) ?_;refine Uz (UZ Z Z ?_);exact ⟨y,.slice A2 n2 c2,.slice K L M,.slice t n1 v,.slice d e f,wF,Z,Z⟩
def Wl (D:Int)(q:Rat):Prop:=∃ z:Int,q*(D:Rat)=(z:Rat)/\z.natAbs<=999999999
def RowI (r:RowQ):Prop:=∃ D:Int,D≠0/\D.natAbs<=999999999/\(∀ q∈r.f,Wl D q)/\Wl D r.b
def gG (rows:List RowQ):List (List Rat × Rat):=rows.map fun r=>(r.f,r.b)
theorem Wl.zero (D:Int):Wl D 0:=⟨0,by grind,by decide⟩
theorem Wl.neg {D:Int}{q:Rat}(h:Wl D q):Wl D (-q):=by
 obtain ⟨z,h1,h2⟩:=h;exact ⟨-z,by rw [Rat.intCast_neg,<- h1];grind,by omega⟩
theorem Wl.sg {D:Int}{q a:Rat}(h:Wl D q)(b:a=1∨a=-1):Wl D (a*q):=by
 rcases b with rfl | rfl
 ·rw [Rat.one_mul];exact h
 rw [show (-1:Rat)*q=-q by grind];exact h.neg
theorem tV (h:i<rows.length):(gG rows).getD i ([],0)=(rows[i].f,rows[i].b):=by
 unfold gG;rw [al,QI,aj h];rfl
theorem JY {d:Nat->Rat}(i:n<=12)(h:∀ r∈rows,RowI r)(k:∃ D:Int,D≠0/\D.natAbs<=999999999/\∀ j,j<n->Wl D (d j)):Lp.Lim (dt n (gG rows)) d 16:=by
 have l:∀ r:Nat,∃ D:Int,∀ hr:r<rows.length,D≠0/\D.natAbs<=999999999/\(∀ q∈rows[r].f,Wl D q)/\Wl D rows[r].b:=fun r=>by
  by_cases hr:r<rows.length
  ·obtain ⟨D,c⟩:=h rows[r] (RH hr);exact ⟨D,fun _=>c⟩
  exact ⟨0,fun h=>absurd h hr⟩
 obtain ⟨D,c⟩:=Classical.axiomOfChoice l;obtain ⟨o,p,c2,s⟩:=k;have hm:(dt n (gG rows)).m=rows.length:=aw _;refine ⟨⟨D,999999999,o,by decide,⟨fun r hr=>?_,fun r j hr g=>?_,fun r hr=>?_⟩,⟨p,c2⟩,fun j g=>?_, ?_⟩⟩
 ·rw [hm] at hr;exact ⟨(c r hr).1,(c r hr).2.1⟩
 ·rw [hm] at hr;have e:(dt n (gG rows)).a r j=rows[r].f.getD j 0:=by show ((gG rows).getD r ([],0)).1.getD j 0=_;rw [tV hr]
  have t:Wl (D r) (rows[r].f.getD j 0):=by
   rw [al];cases u:rows[r].f[j]? with
   | none=>exact Wl.zero _
   | some q=>exact (c r hr).2.2.1 q (QF u)
  obtain ⟨z,h1,h2⟩:=t;exact ⟨z,by rw [e,Rat.mul_comm];exact h1,h2⟩
 ·rw [hm] at hr;have e:(dt n (gG rows)).b r=rows[r].b:=by show ((gG rows).getD r ([],0)).2=_;rw [tV hr]
  obtain ⟨z,h1,h2⟩:=(c r hr).2.2.2;exact ⟨z,by rw [e,Rat.mul_comm];exact h1,h2⟩
 ·obtain ⟨z,h1,h2⟩:=s j g;exact ⟨z,by rw [Rat.mul_comm];exact h1,h2⟩
 unfold Lp.bdQ Lp.bdT;have:∀ n,n<=12->(n+1)*(999999999*Lp.fctM (2*999999999) n)<B9 ^ 16:=by decide +kernel
 exact this _ i
theorem JX (a:n<=12)(h:∀ r∈rows,RowI r):Lp.Lim (dt n (gG rows)) (fun _=>0) 16:=JY a h ⟨1,by decide,by decide,fun _ _=>Wl.zero _⟩
theorem wj {c:List (Nat × Rat)}{b a:Rat}{D:Int}(d:a=1∨a=-1)(e:D≠0)(f:D.natAbs<=999999999)(g:∀ x∈c,Wl D x.2)(h:Wl D b):RowI (iL s p k c b a):=by
 refine ⟨D,e,f,tX (Wl.zero _) (fun x i=>?_),h.sg d⟩;obtain ⟨y,hy,rfl⟩:=QO.1 i;exact (g y hy).sg d
theorem Mo {pts:List Pt}{fs:List Rat}{p:Pt}(e:∀ j,Qtr (cor pts t j))(f:dJ (cor pts t 0) (cor pts t 1) (cor pts t 2)≠0)(g:∀ j,Hlf (fz fs t j))(z:Qtr p) :
  ∃ W:Int,W≠0/\W.natAbs<=2880000/\(∀ j,∃ N:Int,wgt pts t p j*W=N/\N.natAbs<=2880000)/\(∃ N:Int,onQ pts fs t p*((2*W:Int):Rat)=N/\N.natAbs<=600000000) /\
   ∀ j,(∃ N:Int,(slf pts t j).1*W=N/\N.natAbs<=400000)/\∃ N:Int,(slf pts t j).2*W=N/\N.natAbs<=400000:=by
 obtain ⟨x0,y0,h0,m,o⟩:=e 0;obtain ⟨x1,y1,h1,q,r⟩:=e 1;obtain ⟨x2,y2,h2,s,u⟩:=e 2;obtain ⟨x3,y3,h3,h⟩:=id z;obtain ⟨k0,v,A⟩:=g 0;obtain ⟨k1,w,B⟩:=g 1;obtain ⟨k2,x,C⟩:=g 2;have D:=yP (x0:=x0) (y0:=y0) (x1:=x1) (y1:=y1) (x2:=x2) (y2:=y2) ⟨m,o,q,r,s,u⟩;refine ⟨iA x0 y0 x1 y1 x2 y2,(jd h0 h1 h2 v w x f).1,D,fun j=>?_,⟨_,LB h0 h1 h2 h3 v w x f,O9 ⟨m,o,q,r,s,u⟩ h ⟨A,B,C⟩⟩,fun j=>?_⟩
 ·obtain ⟨M,O,h4,E,F⟩:=e ((j+1) % 3);obtain ⟨P,Q,h5,G,H⟩:=e ((j+2) % 3);exact ⟨_,(wt (mA h3 h4 h5) (mA h0 h1 h2) f).2,yP ⟨h.1,h.2,E,F,G,H⟩⟩
 have l:=fun i=>AD (n:=pts.length) (k:=mG t j) (t:=t) i;obtain ⟨u0,g0,R⟩:=l 0;obtain ⟨u1,I,l1⟩:=l 1;obtain ⟨y,J,l2⟩:=l 2;obtain ⟨_,K,L⟩:=jd h0 h1 h2 g0 I J f;have S:=kh (a:=u1-u0) (b:=y2-y0) (c:=y1-y0) (d:=y-u0) ⟨by omega,by omega,by omega,by omega⟩;have T:=kh (a:=u1-u0) (b:=x2-x0) (c:=x1-x0) (d:=y-u0) ⟨by omega,by omega,by omega,by omega⟩;exact ⟨⟨_,K,by omega⟩,⟨_,L,by omega⟩⟩
theorem Oo {W:Int}{q:Rat}{N:Int}(h:q*(W:Rat)=N)(a:N.natAbs<=400000000):Wl (2*W) q:=⟨2*N,by rw [RJ,RJ,<- h];grind,by omega⟩
theorem H1 {f:Nat->Rat}{P:Rat->Prop}(h:∀ j,P (f j)):∀ x∈atT t f,P x.2:=gp (P:=fun x=>P x.2) (h 0) (h 1) (h 2)
theorem Ks (n:Nat):lf ((n % 12:Nat):Int) 2*2=(((n % 12:Nat):Int):Rat):=oq dc_
theorem OQ (S:Sht)(H:Hts)(l:List Sgt)(s:Sgt)(i:Nat)(p:SgtR s):∀ r∈rowsO (cD S H l) (fJ S s i) (lK S s) (tK S s) (zK S H s),RowI r:=by
 obtain ⟨A,_⟩:=fu (S.kd % 8) (Rs _ dc_) S.a S.b S.h;obtain ⟨_,B⟩:=locK S s p;have C:=jY A.ok (QF B);obtain ⟨W,D,g,E,⟨d,u,L⟩,v⟩:=Mo (pts:=cE (S.kd % 8) S.a S.b S.h) (t:=tK S s) (fs:=fsK (cE (S.kd % 8) S.a S.b S.h).length H) (fun j=>uR j) C (fun j=>LN j) (Bq S s p);have m:∀ j,Wl (2*W) (wgt (cE (S.kd % 8) S.a S.b S.h) (tK S s) (lK S s) j):=fun j=>by
  obtain ⟨N,e,b⟩:=E j;exact Oo e om_
 have n:Wl (2*W) (kK (fJ S s i) (zK S H s)):=by
  unfold kK;split
  ·rename_i F;rw [BC S s i F,di (ok1 (sV s.depth))];have f:=Ks s.depth;have G:zK S H s*((2*W:Int):Rat)=d:=u;refine ⟨d-((s.depth % 12:Nat):Int)*W, ?_, ?_⟩
   ·simp only [Tg,RJ,<- f];rw [show ((d:Int):Rat)=zK S H s*((2*W:Int):Rat) from G.symm];simp only [RJ];grind
   have:=jq (a:=((s.depth % 12:Nat):Int)) (b:=W) (M:=11) om_ g;omega
  exact ⟨d,u,by omega⟩
 have o:∀ sg∈([1, -1]:List Rat),sg=1∨sg=-1:=by simp
 intro r hr;unfold rowsO at hr;split at hr
 ·rcases QX.1 hr with h | h <;> split at h
  ·rw [Q3.1 h];exact wj (.inl rfl) om_ om_ (H1 m) n
  ·simp at h
  ·rw [Q3.1 h];exact wj (.inr rfl) om_ om_ (H1 m) n
  simp at h
 rename_i h1;split at hr
 ·obtain ⟨k,_,h⟩:=List.mem_flatMap.1 hr;obtain ⟨sg,c,rfl⟩:=QO.1 h;exact wj (o sg c) om_ om_ (H1 m) n
 rename_i h2;have O:=nL s.n0;have P:=nL s.n1;have Q:=ol s.n2;have w:=ux s.n2;have f:qC (fJ S s i)*(fa s.n2:Int)=((-(s.n0.tmod 5):Int):Rat)/\jp (fJ S s i)*(fa s.n2:Int)=((-(s.n1.tmod 5):Int):Rat):=by
  have I:=eh (s.n0.tmod 5) om_;have l1:=eh (s.n1.tmod 5) om_;have l2:=eh (fa s.n2) om_;have R:((fa s.n2:Int):Rat)≠0:=by exact_mod_cast w
  revert h1 h2;unfold qC jp fJ;split
  ·intro h1;exact absurd rfl h1
  split
  ·intro _ h2;exact absurd rfl h2
  intro _ _;simp only;rw [di (ok1 I),di (ok1 l1),di (ok1 l2),Rat.intCast_neg,Rat.intCast_neg];constructor <;> grind
 have hm:(W*fa s.n2).natAbs<=2880000*4:=jq g om_;have x:W*fa s.n2≠0:=Int.mul_ne_zero D w;have y:∀ {q:Rat}{N:Int},q*(W:Rat)=N->N.natAbs<=400000->Wl (W*fa s.n2) q:=fun {q N} e b=>⟨N*fa s.n2,by rw [RJ,RJ,<- e];grind,by have:=jq b (show (fa s.n2).natAbs<=4 by omega);omega⟩;have J:∀ j,Wl (W*fa s.n2) (slf (cE (S.kd % 8) S.a S.b S.h) (tK S s) j).1:=fun j=>by
  obtain ⟨N,e,b⟩:=(v j).1;exact y e b
 have K:∀ j,Wl (W*fa s.n2) (slf (cE (S.kd % 8) S.a S.b S.h) (tK S s) j).2:=fun j=>by
  obtain ⟨N,e,b⟩:=(v j).2;exact y e b
 have z:∀ {q:Rat}{N:Int},q*((fa s.n2:Int):Rat)=N->N.natAbs<=4->Wl (W*fa s.n2) q:=fun {q N} e b=>⟨N*W,by rw [RJ,RJ,<- e];grind,by have:=jq b g;omega⟩;obtain ⟨k,_,h⟩:=List.mem_flatMap.1 hr;rcases QX.1 h with h | h
 ·obtain ⟨sg,c,rfl⟩:=QO.1 h;exact wj (o sg c) x om_ (H1 J) (z f.1 om_)
 obtain ⟨sg,c,rfl⟩:=QO.1 h;exact wj (o sg c) x om_ (H1 K) (z f.2 om_)
def PX (x:Lay):Prop:=(∃ z:Int,x.min=z/\z.natAbs<=1000)/\∀ m,x.max=some m->∃ z:Int,m=z/\z.natAbs<=1000
theorem Ak {q:Rat}(e:q=z)(h:z.natAbs<=1000):Wl 1 q:=⟨z,by rw [e];show _*(1:Rat)=_;grind,by omega⟩
theorem Oz {a:Nat}{u v:Rat}{c:Rat}(f:u=1∨u=-1)(g:v=1∨v=-1)(i:Wl 1 c):RowI ⟨rY n [(a,u),(b,v)],c⟩:=by
 have d:∀ q:Rat,q=1∨q=-1->Wl 1 q:=fun q h=>by
  rcases h with rfl | rfl
  ·exact Ak (z:=1) aq dc_
  exact Ak (z:=-1) aq dc_
 refine ⟨1,by decide,by decide,tX (Wl.zero _) (fun x e=>?_),i⟩;simp only [QU,RV,S9] at e;rcases e with rfl | rfl
 ·exact d _ f
 exact d _ g
theorem II {x:Lay}(h:PX x):∀ r∈kF s p x i k,RowI r:=by
 obtain ⟨z,a,b⟩:=h.1;intro r hr;unfold kF at hr;rcases QU.1 hr with rfl | hr
 ·exact Oz (.inr Z) (.inl Z) (Ak a b).neg
 split at hr
 ·cases hr
 rename_i m hm;obtain ⟨z,a,b⟩:=h.2 m hm;rw [Q3.1 hr];exact Oz (.inl Z) (.inr Z) (Ak a b)
theorem AK {s p:Nat}{x:Lay}{i:Nat}(h:PX x):∀ k,∀ r∈bx s p x i k,RowI r
 | 0,r,hr=>by cases hr
 | k+1,r,hr=>by
  rcases QX.1 hr with h1 | h1
  ·exact AK h k r h1
  exact II h r h1
theorem AJ {s p:Nat}{a:List Lay}(h:∀ x∈a,PX x):∀ n,∀ r∈bk s p a n,RowI r
 | 0,r,hr=>by cases hr
 | n+1,r,hr=>by
  rcases QX.1 hr with h1 | h1
  ·exact AJ h n r h1
  refine AK ?_ _ r h1;rw [al];cases b:a[n+1]? with
  | none=>exact ⟨⟨0,rfl,by decide⟩,fun m hm=>by cases hm⟩
  | some x=>exact h x (QF b)
theorem Qx:∀ x∈colK,PX x:=by
 intro x a;simp only [colK,QU,RV,S9] at a;rcases a with rfl | rfl | rfl
 ·exact ⟨⟨0,Z,by decide⟩,fun m hm=>by cases hm⟩
 ·exact ⟨⟨0,Z,by decide⟩,fun m hm=>by cases hm;exact ⟨5,Z,by decide⟩⟩
 exact ⟨⟨1,Z,by decide⟩,fun m hm=>by cases hm⟩
theorem tL {z:Nat}(h:z<18446744073709551616):IntKind.u64.wrap ((z:Nat):Int)=(z:Int):=by
 simp only [IntKind.wrap,IntKind.bits,IntKind.signed];simp;omega
theorem P1 {z:Nat}(h:z<9223372036854775808):IntKind.i64.wrap ((z:Nat):Int)=(z:Int):=by
 simp only [IntKind.wrap,IntKind.bits,IntKind.signed];simp;omega
def o1 (s:Nat):Nat:=(s / 2 ^ 1 &&& 6148914691236517205)+(s &&& 6148914691236517205)
def o2 (s:Nat):Nat:=(s / 2 ^ 2 &&& 3689348814741910323)+(s &&& 3689348814741910323)
def o3 (s:Nat):Nat:=(s / 2 ^ 4+s) &&& 1085102592571150095
def o4 (s:Nat):Nat:=s+s / 2 ^ 8
def o5 (s:Nat):Nat:=s+s / 2 ^ 16
def o6 (s:Nat):Nat:=s+s / 2 ^ 32
theorem o_bd:∀ s<32,o1 s<1000/\o2 (o1 s)<1000/\o2 (o1 s) / 2 ^ 4+o2 (o1 s)<1000/\o3 (o2 (o1 s))<1000/\o4 (o3 (o2 (o1 s)))<1000/\o5 (o4 (o3 (o2 (o1 s))))<1000/\o6 (o5 (o4 (o3 (o2 (o1 s)))))<1000/\o6 (o5 (o4 (o3 (o2 (o1 s))))) &&& 127=iN s:=by decide +kernel
theorem Gd (C:Mem)(s:Nat)(b:s<32):Gives cx.P 74 [.int .u64 s] C (.int .i64 (iN s:Int)):=by
 obtain ⟨h1,h2,h3,h4,h5,e,f,d⟩:=o_bd s b;exact Uv func74 35 U3 fun w0=>Ul 1 [0] Z<|Um 1 Z fun R a=>VF (s) (1) U8 dc_ U2<|VA (s / 2 ^ 1) (6148914691236517205) U8 om_ om_ U2<|Up U6<|VA (s) (6148914691236517205) U8 om_ om_ U2<|D.int (((o1 s:Nat):Int)) U4 (tL (by show o1 s<_;omega)) U2<|C4 1 [0] a Z<|Um 1 Z fun R a=>VF (o1 s) (2) U8 dc_ U2<|VA (o1 s / 2 ^ 2) (3689348814741910323) U8 om_ om_ U2<|Up U6<|VA (o1 s) (3689348814741910323) U8 om_ om_ U2<|D.int (((o2 (o1 s):Nat):Int)) U4 (tL (by show o2 (o1 s)<_;omega)) U2<|C4 1 [0] a Z<|Um 1 Z fun R a=>VF (o2 (o1 s)) (4) U8 dc_ U2<|Up U6<|D.int (((o2 (o1 s) / 2 ^ 4+o2 (o1 s):Nat):Int)) U4 (tL om_) U2<|VA (o2 (o1 s) / 2 ^ 4+o2 (o1 s)) (1085102592571150095) U8 om_ om_ U2<|C4 1 [0] a Z<|Um 2 Z fun R a=>VF (o3 (o2 (o1 s))) (8) U8 dc_ U2<|D.int (((o4 (o3 (o2 (o1 s))):Nat):Int)) U4 (tL (by show o4 (o3 (o2 (o1 s)))<_;omega)) U2<|C4 1 [0] a Z<|Um 2 Z fun R a=>VF (o4 (o3 (o2 (o1 s)))) (16) U8 dc_ U2<|D.int (((o5 (o4 (o3 (o2 (o1 s)))):Nat):Int)) U4 (tL (by show o5 (o4 (o3 (o2 (o1 s))))<_;omega)) U2<|C4 1 [0] a Z<|Um 2 Z fun R a=>VF (o5 (o4 (o3 (o2 (o1 s))))) (32) U8 dc_ U2<|D.int (((o6 (o5 (o4 (o3 (o2 (o1 s))))):Nat):Int)) U4 (tL (by show o6 (o5 (o4 (o3 (o2 (o1 s)))))<_;omega)) U2<|C4 1 [0] a Z<|Um 1 Z fun R a=>Vb (c:=((o6 (o5 (o4 (o3 (o2 (o1 s))))):Nat):Int)) U8 (P1 om_) fl_<|WO (o6 (o5 (o4 (o3 (o2 (o1 s)))))) (127) Z Z Z Z Z Z Z Z om_ om_ Z Z<|C4 1 [2] a Z<|Ut U2<|⟨by rw [d],Z⟩
theorem ul (C:Mem)(s:Nat)(b:s<32):Gives cx.P 39 [.int .u64 s] C (.int .i64 (iN s:Int)):=by
 refine Uv func39 8 U3 fun w0=>Ul 1 [0] Z<|Uo (fun a=>?_) fun a=>?_
 ·cases a
 exact Um 1 Z fun R c=>Uy (Gd _ s b) U7<|C4 1 [2] c Z<|Ut U2<|⟨Z,Z⟩
theorem KA:∀ s<32,s≠0->Lib.ctz 64 s=(cW s).headD 0:=by decide +kernel
theorem Ow (C:Mem)(a:Tabs C)(s:Nat)(b:s<32)(c:s≠0):Gives cx.P 75 [.int .u64 s] C (.int .i64 (((cW s).headD 0:Nat):Int)):=by
 rw [<- KA s b c];exact P3 Tryz.tz s om_ C kr_ a.db kr_
theorem xd (C:Mem)(a:Int):Gives cx.P 172 [.int .i64 a] C (.bool false):=by
 exact Uv func172 6 U3 fun w0=>Ul 1 [0] Z<|Ul 4 [2] Z<|Ut U2<|⟨by simp,Z⟩
theorem zr (C:Mem)(a b:Int):Gives cx.P 111 [.int .i64 a,.int .i64 b] C (.int .i64 (LX a b)):=by
 refine Uv func111 20 U3 fun w0=>Ul 1 [0,1] Z<|Um 1 Z fun R d=>Uy (xd _ _) U7<|C4 1 [0,1,5] d Z<|Um 1 Z fun R d=>Uy (xd _ _) U7<|C4 1 [0,1,5,6] d Z<|Ul 1 [0,1,6,11] Z<|Uo (fun f=>?_) fun f=>?_
 ·cases f
 refine Ul 1 [0,1,13] Z<|Uo (fun g=>?_) fun g=>?_
 ·cases g
 refine Ul 3 [0,1,16] Z<|Uo (fun c=>?_) fun c=>?_
 ·refine Ul 1 [4] Z<|Ut U2 ?_;simp only [QQ] at c;exact ⟨by rw [LX,aJ c],Z⟩
 refine Ul 3 [19] Z<|Uo (fun e=>?_) fun e=>?_
 ·refine Ul 1 [4] Z<|Ut U2 ?_;simp only [QQ,Q1] at c e;exact ⟨by rw [LX,aB c,aB om_],Z⟩
 refine Ul 1 [4] Z<|Ut U2 ?_;simp only [Q1] at c e;exact ⟨by rw [LX,aB c,aJ om_],Z⟩
theorem zt (C:Mem)(v w:Value)(a b:List Nat)(l:Sl C 1 v (a.map aL))(n:Sl C 1 w (b.map aL))(L:a.length<=1000000)(_M:b.length<=1000000) :
  Gives cx.P 72 [v,w] C (.int .i64 (Np a b)):=by
 obtain ⟨A,c,rfl,_⟩:=id l;obtain ⟨B,d,rfl,_⟩:=id n;simp only [aw] at l n ⊢;refine Uv func72 36 U3 fun w0=>Ul 1 [0,1] Z<|Ul 3 [0,1,9,10,11] Z<|G.loop (fun fr C' z D=>∃ (k:Nat),(k<=a.length/\k<=b.length/\Np (a.drop k) (b.drop k)=Np a b)/\fr=[(0,[],.slice A a.length c),(1,[],.slice B b.length d),(9,[],.slice A a.length c),(10,[],.int .i64 a.length),(11,[],.int .i64 k)]/\z=[]/\D=a.length-k) (hn_ [0,1,9,10,11] Z) ⟨0,⟨QK _,QK _,Z⟩,Z,Z,Z⟩ (fun fr N O m _ E=>?_);obtain ⟨k,⟨Q,S,g⟩,rfl,rfl,rfl⟩:=E;refine Ul 1 [0,1,9,10,11,12] Z<|Uo (fun o=>?_) fun o=>?_
 ·have h:k<a.length:=by simpa using o
  obtain ⟨x,t⟩:∃ x,a[k]?=some x:=⟨a[k],aj h⟩;have F:(a.map aL)[k]?=some (aL x):=by rw [QI,t];rfl
  have p:a.drop k=x::a.drop (k+1):=by rw [Re h,(aE.1 t).2]
  refine Um 1 Z fun R f=>UD l.m_ U10 om_ F fl_ fun T H=>Un H U8<|C4 2 [0,1,5,6,9,10,11] f Z<|Ul 4 [0,1,5,6,9,10,11,19] Z<|Uo (fun q=>?_) fun q=>?_
  ·have i:b.length<=k:=by simpa using q
   have j:b.drop k=[]:=RX i;exact Ul 1 [4] Z<|Ut U2<|⟨by rw [<- g,p,j];rfl,Z⟩
  have i:k<b.length:=by
   have:¬ b.length<=k:=by simpa using q
   omega
  obtain ⟨y,hy⟩:∃ y,b[k]?=some y:=⟨b[k],aj i⟩;have I:(b.map aL)[k]?=some (aL y):=by rw [QI,hy];rfl
  have j:b.drop k=y::b.drop (k+1):=by rw [Re i,(aE.1 hy).2]
  refine Um 2 Z fun R f=>UD n.m_ U10 om_ I fl_ fun U J=>Un J U8<|C4 1 [0,1,6,7,9,10,11] f Z<|Um 2 Z fun R f=>Uy (zr _ _ _) U7<|C4 1 [0,1,8,9,10,11] f Z<|Ul 2 [0,1,8,9,10,11,28] Z<|Uo (fun r=>?_) fun r=>?_
  ·have e:LX x y≠0:=by simpa using r
   refine Ul 2 [4] Z<|Ut U2<|⟨?_,Z⟩;rw [<- g,p,j];simp only [Np];unfold LX at e ⊢;by_cases h1:x<y
   ·have h3:(x:Int)<y:=by omega
    rw [aJ h1,aJ h3]
   have h3:¬ (x:Int)<y:=by omega
   rw [aB h1,aB h3];rw [aB h3] at e;by_cases h2:y<x
   ·have h4:¬ (x:Int)=y:=by omega
    rw [aJ h2,aB h4]
   have h4:(x:Int)=y:=by omega
   rw [aJ h4] at e;exact absurd Z e
  have e:LX x y=0:=by simpa using r
  have K:x=y:=by
   unfold LX at e;split at e
   ·cases e
   split at e
   ·omega
   cases e
  refine Uq fun R f=>Uw _ U7<|C4 1 [0,1,9,10,11] f Z<|UA (m':=a.length-(k+1)) om_ mup (hn_ [0,1,9,10,11] Z) ⟨k+1,⟨by omega,by omega,by rw [<- g,p,j,K];simp [Np]⟩,Z,Z,Z⟩
 have h:k=a.length:=by
  have:¬ k<a.length:=by simpa using o
  omega
 subst h;rw [RW] at g;refine Ul 5 [35] Z<|Uo (fun s=>?_) fun s=>?_
 ·have u:a.length<b.length:=by simpa using s
  refine Ul 1 [4] Z<|Ut U2<|⟨?_,Z⟩;rw [<- g,Re u];rfl
 have u:¬ a.length<b.length:=by simpa using s
 refine Ul 1 [4] Z<|Ut U2<|⟨?_,Z⟩;rw [<- g,RX om_];rfl
theorem GD (C:Mem)(p:Tabs C)(s:Nat)(r:s<32):Jog.Fn cx.P 41 [.int .u64 s] C [] fun u _ b=>∃ A n c,u=.slice A n c/\b=[.arr u 3 1 (cW s).length ((cW s).map aL).flatten]:=by
 have z:maxLen<=9223372036854775807:=by simp [maxLen]
 refine Uv func41 16 U3 fun w0=>Ul 1 [0] Z<|Ul 1 [0,3] Z<|G.nilArr 3 1<|G.loop (fun fr C' b t=>∃ (x:Nat)(q:List Nat)(d:Option Addr)(n1 e:Nat),(x<32/\q++cW x=cW s)/\fr=[(0,[],.int .u64 x),(3,[],.slice d n1 e)]/\b=[.arr (.slice d n1 e) 3 1 q.length (q.map aL).flatten]/\t=x+x) (hn_ [0,3] Z) ⟨s,[],none,0,0,⟨r,Z⟩,Z,Z,Z⟩ (fun fr B E m _ v=>?_);obtain ⟨x,q,d,n1,e,⟨f,g⟩,rfl,rfl,rfl⟩:=v;refine Ul 2 [0,3,5] Z<|Uo (fun h5=>?_) fun h5=>?_
 ·have a:x≠0:=by simpa using h5
  have w:=Ej x f a;have F:=Ek x f a;have H:q.length<=5:=by
   have h:=congrArg List.length g;rw [QM] at h;have:(cW s).length<=5:=RT _ _;omega
  refine Um 2 Z fun R i=>Uy (Ow _ p.m_ x f a) U7<|UI [[.int .i64 (((cW x).headD 0:Nat):Int)]] U12 fun I _ _ y=>UP (j:=0) U11 y Z ax (by show (q.length+1)*8<=_;omega) fl_ fun k l o=>C4 1 [0,3] i Z<|Um 2 Z fun R i=>D.int (((x-1:Nat):Int)) U4 (by rw [show ((x:Int)-1)=((x-1:Nat):Int) by omega];exact tL om_) U2<|VA (x) (x-1) U8 om_ om_ U2<|C4 1 [0,3] i Z<|UE (L':=[.arr (.slice k l o) 3 1 (q++[(cW x).headD 0]).length ((q++[(cW x).headD 0]).map aL).flatten]) (by rw [Rj,Ri,QM];rfl)<|UA (m':=(x &&& (x-1))+(x &&& (x-1))) om_ mup (hn_ [0,3] Z) ⟨(x &&& (x-1)),q++[(cW x).headD 0],k,l,o,⟨by omega,by rw [Rb,List.singleton_append,<- w,g]⟩,Z,Z,Z⟩
 have a:x=0:=by simpa using h5
 subst a;refine Ul 2 [2] Z<|Uz (UZ Z Z ?_);exact ⟨d,n1,e,Z,by rw [<- g,show cW 0=[] from by decide,Q7]⟩
theorem od (C:Mem)(a:Tabs C)(s:Nat)(b:s<32):Pur cx.P 41 [.int .u64 s] C fun u D=>Sl D 1 u ((cW s).map aL) :=
 W7 (t:=3) (n:=(cW s).length) (fun r hr=>by
  obtain ⟨x,_,rfl⟩:=QO.1 hr;rfl) (aw _) (Fn.mono (GD C a s b) fun u C' d _ ⟨A,n,c,h1,h2⟩=>h2)
theorem Lx (s:Nat):iN s<=5:=RT _ _
theorem NX (C:Mem)(e:Tabs C)(a b:Nat)(f:a<32)(g:b<32):Gives cx.P 71 [.int .u64 a,.int .u64 b] C (.int .i64 (KJ a b)):=by
 have j:=Lx a;have k:=Lx b;refine Uv func71 19 U3 fun w0=>?_;refine Ul 1 [0,1] Z ?_;refine Um 1 Z fun R c=>?_;refine Uy (ul _ a f) U7 ?_;refine Up U6 ?_;refine Uy (ul _ b g) U7 ?_;refine Uw _ U7 ?_;refine C4 1 [0,1,5] c Z ?_;refine Ul 2 [0,1,5,12] Z ?_;refine Uo (fun d=>?_) fun d=>?_
 ·have i:(iN a:Int)-iN b≠0:=by simpa using d
  refine Ul 2 [4] Z ?_;refine Ut U2 ?_;refine ⟨?_,Z⟩;unfold KJ;rw [aB (fun h=>i (by rw [h];omega))]
 have i:(iN a:Int)-iN b=0:=by simpa using d
 refine Um 1 Z fun R c=>?_;refine UV (od _ e.m_ a f) U7 (fun n _ _ l=>?_);refine Up U6 ?_;refine UV (od _ e.m_ b g) U7 (fun o _ _ m=>?_);refine UC (zt _ _ _ _ _ l.m_ m.m_ (Q0 j dc_) (Q0 k dc_)) U7 fl_ ?_;refine C4 1 [4] c Z ?_;refine Ut U2 ?_;refine ⟨?_,Z⟩;unfold KJ;rw [aJ om_]
open Go Go.Jog Go.Shelf
set_option maxRecDepth 100000
def uV (s:Nat):Value:=.int .u64 (s:Nat)
theorem Mm (l:List Nat):l.map uV=(l.map ck).flatten:=(eC uV l).symm
abbrev PE:Type:={ s:Nat // s<32 }
instance:Inhabited PE:=⟨⟨0,by decide⟩⟩
theorem KH:Sort.SWO (ltOf fun (x y:PE)=>KJ x.1 y.1) where
 irrefl x:=by unfold ltOf;exact Q8 (fun h=>by have:=(eS x.1 x.2 x.1 x.2).1 h;omega)
 trans x y z h1 h2:=by
  unfold ltOf at *;simp only [QQ] at *;rw [eS x.1 x.2 y.1 y.2] at h1;rw [eS y.1 y.2 z.1 z.2] at h2;rw [eS x.1 x.2 z.1 z.2];omega
 ntrans x y z h1 h2:=by
  unfold ltOf at *;simp only [Q1] at *;rw [eS x.1 x.2 y.1 y.2] at h1;rw [eS y.1 y.2 z.1 z.2] at h2;rw [eS x.1 x.2 z.1 z.2];omega
theorem wc:∀ l:List Nat,(∀ s∈l,s<32)->∃ q:List PE,q.map (·.1)=l
 | [],_=>⟨[],rfl⟩
 | s::l,h=>by
  obtain ⟨q,a⟩:=wc l fun s hs=>h s (QR _ hs);exact ⟨⟨s,h s PN⟩::q,by rw [Q9,a]⟩
theorem IQ (C:Mem)(e:Tabs C)(v:Value)(n:Nat)(b:n<6) :
  Jog.Fn cx.P 70 [v,.func (.func 71) #[] #[]] C [.arr v 99 1 (2 ^ n) ((List.range (2 ^ n)).map uV)] fun u _ c=>u=.tuple #[]/\c=[.arr v 99 1 (2 ^ n) ((cJ n).map uV)]:=by
 have p:=yD b;obtain ⟨q,a⟩:=wc (List.range (2 ^ n)) fun s hs=>by have:=Q2.1 hs;omega
 have g:q.length=2 ^ n:=by rw [<- aw (f:=(·.1)),a,RB]
 have d:=CZ (P:=cx.P) (α:=PE) Tryz.sortU (fun x=>uV x.1) (fun x=>rfl) (fun x y=>KJ x.1 y.1) KH 71 [] C
  (fun x y C' i=>NX C' (e.mono i) x.1 y.1 x.2 y.2) v 99 q om_ kr_ kr_
 rw [g,show q.map (fun x:PE=>uV x.1)=(q.map (·.1)).map uV by rw [Ry];rfl,a] at d;refine Fn.mono d (fun u C' c _ ⟨j,k1,k2,k,l⟩=>⟨k1, ?_⟩);have m:(j.map (·.1)).Perm (List.range (2 ^ n)):=by rw [<- a];exact k.map _
 have o:=wa b m (by
  rw [List.pairwise_map];refine l.imp fun {x y} h=>?_;unfold ltOf at h;exact QJ h)
 rw [k2,<- o,Ry];rfl
theorem MC (C:Mem)(q:Tabs C)(g n:Nat)(r s t v w:Value)(x:Option Addr)(y:Nat)(B:C g=some (.cells ⟨[r,s,t,v,.slice x n y,w]⟩ 153 (0,0)))(h:n<6) :
  Jog.Fn cx.P 38 [.pointer (some ⟨g,0,none⟩)] C [] fun u _ b=>∃ A n2 c,u=.slice A n2 c/\b=[.arr u 99 1 (2 ^ n) ((cJ n).map uV)]:=by
 have J:maxLen<=9223372036854775807:=by simp [maxLen]
 have K:=yD h;refine Uv func38 23 U3 fun w0=>Ul 1 [0] Z<|Ul 1 [0,3] Z<|Um 4 Z fun R a=>Un (bkT B 1) U8<|Up U6<|Wb (n) Z Z Z Z Z Z (by first | exact .inl Z | exact .inr Z) Z om_ Z Z<|C4 1 [3,11,12] a Z<|G.nilArr 99 1<|G.loop (fun fr C' b E=>∃ (i:Nat)(d:Option Addr)(n1 e:Nat),(i<=2 ^ n)/\fr=[(3,[],.slice d n1 e),(11,[],.int .u64 ((2 ^ n:Nat):Int)),(12,[],.int .u64 i)]/\b=[.arr (.slice d n1 e) 99 1 i ((List.range i).map uV)]/\E=2 ^ n-i) (hn_ [3,11,12] Z) ⟨0,none,0,0,QK _,Z,Z,Z⟩ (fun fr L M m _ F=>?_);obtain ⟨i,d,n1,e,N,rfl,rfl,rfl⟩:=F;refine Ul 1 [3,11,12,13] Z<|Uo (fun f=>?_) fun f=>?_
 ·have k:i<2 ^ n:=by
   have:=aW f;omega
  refine Ul 2 [3,4,11,12] Z<|Um 2 Z fun R a=>UI [[uV i]] U12 fun O _ _ H=>UP (j:=0) U11 H Z ax (by show (i+1)*8<=_;omega) fl_ fun l o p=>C4 1 [3,11,12] a Z<|Uq fun R a=>D.int (((i+1:Nat):Int)) U4 (tL (z:=i+1) om_) U2<|C4 1 [3,11,12] a Z<|UE (L':=[.arr (.slice l o p) 99 1 (i+1) ((List.range (i+1)).map uV)]) (by rw [RK,Rj];rfl)<|UA (m':=2 ^ n-(i+1)) om_ mup (hn_ [3,11,12] Z) ⟨i+1,l,o,p,om_,Z,Z,Z⟩
 have k:i=2 ^ n:=by
  have:=QJ f;omega
 subst k;refine UN [(1,3)] Z fun R a=>Up U6<|D.call (IQ _ q.m_ _ n h) Z (.inr dc_) U6 (QL _) fl_ fun Q _ S _ I=>Ur [3] a Z ?_;obtain ⟨rfl,rfl⟩:=I;refine Ul 2 [2] Z<|Uz (UZ Z Z ?_);exact ⟨d,n1,e,Z,Z⟩
theorem Qm (h:s*p<=60):ofE z s p=z:=by
 unfold ofE;split
 ·rfl
 rename_i h2;have:z=0:=by simpa using h2
 rw [aB om_,this]
theorem zp (C:Mem)(a:Value)(B:Bk)(z:Int)(b:BookZ C a B z)(h:bs B*bp B<=60):Gives cx.P 35 [a] C (.tuple #[.int .i64 (if z=0 then ((bs B*bp B:Nat):Int) else 0),.int .i64 z]):=by
 have h1:=KB C a B z b;rw [Qm h] at h1;exact h1
def my (n:Nat)(l:List Int)(i:Nat):Int:=if l.getD i 0<0∨(n:Int)<=l.getD i 0 then 3 else if 0<i/\l.getD i 0<=l.getD (i-1) 0 then 6 else 0
def Og (n:Nat)(l:List Int):Int:=bU (my n l) l.length
theorem KK (C:Mem)(g j:Value)(B:Bk)(z:Int)(l:List Int)(t:BookZ C g B z)(J:bs B*bp B<=60)(e:Sl C 1 j (l.map mf))(W:l.length<=1000)
  (w:z=0->Og B.obs.length l=0->∀ D:Mem,C.le D->Pur cx.P 52 [g,j] D fun u _=>∃ v,u=.tuple #[v,.int .i64 0]) :
  Gives cx.P 49 [g,j] C (.int .i64 (if z≠0 then z else Og B.obs.length l)):=by
 have x:=t;obtain ⟨X,Y,tv,cv,ov,rfl,h1,h2,h3,h4,h5⟩:=id t.i.ex;obtain ⟨A5,c5,rfl,K,aa,_⟩:=id h5;obtain ⟨y,A,rfl,L,ab,_⟩:=id e;have ac:maxLen<=9223372036854775807:=by simp [maxLen]
 simp only [aw] at h5 K x e L w ⊢;refine Uv func49 56 U3 fun w0=>Uq fun R a=>UF U6 fun M=>C4 1 [1,2] a Z<|G.freeze 0 Z fun _ _ n=>Uq fun R a=>Un (bkT n 5) U8<|Uy (zp _ _ B z x.m_ J) U7<|C4 5 [1,2,6] a Z<|Ul 2 [1,2,6,17] Z<|Uo (fun o=>?_) fun o=>?_
 ·have f:z≠0:=by simpa using o
  exact Ul 2 [4] Z<|Ut U2<|⟨by rw [aJ f],Z⟩
 have f:z=0:=by simpa using o
 rw [aB (fun h=>h f)];refine Ul 3 [1,2,19,20,21] Z<|G.loop (fun fr C' N O=>∃ (i:Nat),(i<=l.length/\bU (my B.obs.length l) i=0)/\fr=[(1,[],.slice y l.length A),(2,[],.pointer (some ⟨M,0,none⟩)),(19,[],.slice y l.length A),(20,[],.int .i64 l.length),(21,[],.int .i64 i)]/\N=[]/\O=l.length-i) (hn_ [1,2,19,20,21] Z) ⟨0,⟨QK _,Z⟩,Z,Z,Z⟩ (fun fr ad ae m _ Q=>?_);obtain ⟨i,⟨hi,c⟩,rfl,rfl,rfl⟩:=Q;refine Ul 1 [1,2,19,20,21,22] Z<|Uo (fun p=>?_) fun p=>?_
 ·have d:i<l.length:=by
   have:=aW p;omega
  obtain ⟨k,E⟩:∃ k,l[i]?=some k:=⟨l[i],aj d⟩;obtain ⟨k1,F⟩:∃ k1,l[i-1]?=some k1:=⟨l[i-1]'om_,aj om_⟩;have q:l.getD i 0=k:=by rw [al,E,R0]
  have H:l.getD (i-1) 0=k1:=by rw [al,F,R0]
  refine Um 1 Z fun R a=>UD e.m_ U10 om_ (ci E) fl_ fun af S=>Un S U8<|C4 2 [1,2,7,8,19,20,21] a Z<|Um 5 Z fun R a=>UQ U6 (fun _=>PtrTo.blockT (Mem.get n mup) _ 1) U3<|Us 2 Z<|US U8<|C4 1 [1,2,7,8,19,20,21,26] a Z<|Uo (fun r=>?_) fun r=>?_
  ·have b:my B.obs.length l i=3:=by
    unfold my;rw [q,aJ (by simp only [Sr,QQ] at r;omega)]
   exact Ul 1 [4] Z<|Ut U2<|⟨by unfold Og;rw [gd c (by rw [b];decide) d,b],Z⟩
  have I:¬ (k<0∨(B.obs.length:Int)<=k):=by
   simp only [Sq,Q1] at r;omega
  refine Um 6 Z fun R a=>Uw _ U7<|D.index U10 (fun T=>⟨e.mono mup,(by have h:decide ((i:Int) > 0)=true:=T.1;have:=aW h;omega),(by rw [show ((i:Int)-1).toNat=i-1 by omega];exact ci F)⟩) fl_ Z fun ag U=>UQ U6 U U3<|Up U6<|UM U8<|C4 1 [1,2,19,20,21,36] a Z<|Uo (fun s=>?_) fun s=>?_
  ·have b:my B.obs.length l i=6:=by
    unfold my;rw [q,H,aB I,aJ (by simp only [QT,QQ] at s;omega)]
   exact Ul 1 [4] Z<|Ut U2<|⟨by unfold Og;rw [gd c (by rw [b];decide) d,b],Z⟩
  have b:my B.obs.length l i=0:=by
   unfold my;rw [q,H,aB I,aB (fun h=>by simp only [Tx,Q1] at s;omega)]
  refine Uq fun R a=>Uw _ U7<|C4 1 [1,2,19,20,21] a Z<|UA (m':=l.length-(i+1)) om_ mup (hn_ [1,2,19,20,21] Z) ⟨i+1,⟨by omega,iw c b⟩,Z,Z,Z⟩
 have d:i=l.length:=by
  have:=QJ p;omega
 subst d;refine Uq fun R a=>Un (bkT n 5) U8<|Up U6<|UV (w f c _ mup) U7 (fun ah _ _ V=>?_);obtain ⟨rv,rfl⟩:=V;exact C4 5 [10] a Z<|Ul 2 [4] Z<|Ut U2<|⟨by rw [show Og B.obs.length l=0 from c],Z⟩
theorem D2 {p:Lp.Sys}{t:Lp.Tab}{u:Value}(h:FeasO p t u):∃ (row:Int)(a:Bool),u=.tuple #[.int .i64 row,.bool a]/\(a=true->t.Feas p.n) /\
  (a=false->∃ r:Nat,row=r/\r<t.basic.length/\p.n<=t.bas r/\(t.line r).c<0/\∀ s,s<t.others.length->p.n<=t.oth s->(t.line r).g s<=0):=by
 cases h with
 | yes h=>exact ⟨0,true,rfl,fun _=>h,fun h=>by cases h⟩
 | no r h1 h2 h3 h4=>exact ⟨r,false,rfl,fun h=>(by cases h),fun _=>⟨r,rfl,h1,h2,h3,h4⟩⟩
def SolZ (p:Lp.Sys)(D:Mem)(L:List Ent)(u:Value):Prop:=∃ (kd:Int)(val:Str)(vp:Value)(g:Nat)(du:Nat->Rat)(a:List Rat),
 u=.agg ⟨[.int .i64 kd,ai val,vp,.slice (some ⟨g,0,none⟩) p.m p.m,.slice none 0 0]⟩/\L=[.arr (.slice (some ⟨g,0,none⟩) p.m p.m) 56 1 p.m (((List.range p.m).map du).map aZ).flatten]/\(∀ r,QB 16 (du r))/\Sl D 1 vp (a.map aZ)/\(∀ x∈a,QB 16 x)/\a.length<=p.n /\
 ((kd=2/\Lp.InfR p 16 du)∨(kd=1/\p.Hold/\(∃ q,val=qtx q/\QB 16 q)/\∃ pt:Nat->Rat,a=(List.range p.n).map pt/\∀ j,QB 16 (pt j)))
theorem IR (C:Mem)(v:Tabs C)(n:Nat)(N y:Value)(e:List (List Rat × Rat))(i:List Rat)(z:RowsT C N (e.map dz))(X:Sl C 1 y (i.map aZ))(O:RowsQ n e)(Q:n<=1000)(Y:i.length=n)(h0:∀ j,i.getD j 0=0)(f:Lp.Lim (dt n e) (fun _=>0) 16) :
  Jog.Fn cx.P 77 [.agg ⟨[.int .i64 n,N,y]⟩] C [] fun u D L'=>SolZ (dt n e) D L' u:=by
 have aC:maxLen<=9223372036854775807:=by simp [maxLen]
 have hm:=O.m;have aa:=z;obtain ⟨vs,ab,_,ac⟩:=aa;obtain ⟨Ar,cr,rfl,_⟩:=id ac;rw [nR ab,aw] at z ⊢;obtain ⟨p,A⟩:∃ p,dt n e=p:=⟨_,rfl⟩;have ad:(fun j=>i.getD j 0)=fun _=>(0:Rat):=funext h0;have ae:p.n=n:=by rw [<- A];rfl
 have af:p.m=e.length:=by rw [<- A];rfl
 have k:=fun (D:Mem)(B:C.le D)=>Jw D (v.mono B) n (.slice Ar e.length cr) y e i (z.mono B) (X.mono B) O Q Y;rw [A] at f k ⊢;rw [ad] at k;rw [<- ae] at k Q ⊢;rw [<- af] at k ⊢;refine Uv func77 57 U3 fun w0=>?_;refine Uq fun R a=>?_;refine UF U6 (fun b1=>?_);refine UH U5 (fun b2=>?_);refine Ur [1,2] a Z ?_;clear a R;refine G.freeze 1 Z (fun _ _ E=>?_);refine UN [(1,3)] Z (fun R a=>?_);refine Un (bkT E 3) U8 ?_;refine D.call (k _ mup) Z (.inr dc_) U6 (QL _) fl_ (fun v9 C9 L9 _ ag=>?_);obtain ⟨b,wB,wL,wO,wW,wF,rfl,rfl⟩:=ag;refine C4 1 [1,2,3] a Z ?_;clear a R;refine UN [(1,3)] Z (fun R a=>?_);refine Up U6 ?_;refine D.call (Dm _ v.m_ p (fun _=>0) b _ wB wL wO wW wF Lp.openT_inv Z f om_ om_) Z (.inr dc_) U6 (QL _) fl_ (fun aD _ aE _ ah=>?_);refine Ur [1,2,3] a Z ?_;clear a R;obtain ⟨-,t1,aj,ak,al,rfl⟩:=ah;refine UN [(1,3)] Z (fun R a=>?_);refine Up U6 ?_;refine D.call (zc _ v.m_ p (fun _=>0) b t1 wB wL wO wW aj ak al f om_ om_) Z (.inr dc_) U6 (QL _) fl_ (fun aF _ aG _ an=>?_);obtain ⟨t,F,d,ao,hF,rfl⟩:=an;obtain ⟨row,S,rfl,ap,aq⟩:=D2 hF;refine C4 5 [1,2,3,4,5] a Z ?_;clear a R;refine Ul 2 [1,2,3,4,18] Z ?_;refine Uo (fun H=>?_) fun H=>?_
 ·have I:S=false:=by simpa using H
  obtain ⟨r,rfl,J,T,ar,au⟩:=aq I;refine VV (fS b p.n t wB wL wO wW F) (ja d.tab.ok) (fun C5 _ K=>?_);have h:=gC d.tab.ok K;refine UN [(5,3)] Z (fun R a=>?_);refine Us 3 Z ?_;refine Un (bkT E 1) U8 ?_;refine Up U6 ?_;refine D.call (Jf _ p b r t wB wL wO wW _ h.m_ d.tab om_ J T (fun q=>(d.dualQ f dc_ J q).le dc_)) Z (.inr dc_) U6 (QL _) fl_ (fun aH _ aI _ av=>?_);obtain ⟨g,rfl,rfl⟩:=av;refine UG [.int .i64 2,ai [],.slice none 0 0,.slice (some ⟨g,0,none⟩) p.m p.m,.slice none 0 0] U8 ?_;refine Ux (j:=1) U12 ?_;refine Ur [2] a Z ?_;clear a R;refine Uz (V7 0 Z Z Z Z Z ?_);have U:=d.inf f dc_ ao J T ar au;exact ⟨2,[],_,g,_,[],Z,Z,U.qd,Sl.nil _ _,(fun x L=>by cases L),QK _,.inl ⟨Z,U⟩⟩
 have I:S=true:=by simpa using H
 have ax:=ap I;refine UN [(1,3)] Z (fun R a=>?_);refine Up U6 ?_;refine D.call (yG _ v.m_ p b t wB wL wO wW F d f om_ om_) Z (.inr dc_) U6 (QL _) fl_ (fun aJ _ aL _ ay=>?_);obtain ⟨rfl,rfl⟩:=ay;refine C4 5 [1,2,3,6,7] a Z ?_;clear a R;refine Ul 2 [1,2,3,6,32] Z ?_;refine Uo (fun V=>?_) fun V=>?_
 ·exact absurd V dc_
 have l:=d.opt f dc_ ax (fun s hs _=>Aj d hs) (fun s hs _=>by rw [Aj d hs];exact Rat.le_refl);refine VV (fS b p.n t wB wL wO wW F) (ja d.tab.ok) (fun C5 _ K=>?_);have h:=gC d.tab.ok K;refine UJ [0,1,2,3,4,5,7,8,9,10,11,12,13,14,6,15,16,17,18] [(6,3),(15,3),(4,0),(11,0),(13,0)] Z kr_ (fun R w a=>?_);refine Us 4 Z ?_;refine Vr (fun _=>((PtrTo.blockT h.o _ 1).mono w)) U9 ?_;refine Us 5 Z ?_;refine Vr (fun _=>((PtrTo.blockT h.o _ 2).mono w)) U9 ?_;refine Up U6 ?_;refine Vr (fun _=>((bkT E 1).mono w)) U9 ?_;refine Up U6 ?_;refine D.call (Jx _ b p.n (p.n+p.m) t wB wL wO wW _ h.m_ d.tab.ok om_) Z (.inr dc_) U6 (QL _) fl_ (fun aM _ aN _ az=>?_);refine D.call (Hg _ p b t t.worth wB wL wO wW wW _ h.m_ d.tab om_ h.W.m_ d.tab.ok.wl) Z (.inr dc_) U6 (QL _) fl_ (fun aO _ aP _ aA=>?_);obtain ⟨M,rfl,rfl⟩:=aA;obtain ⟨g1,rfl,rfl⟩:=az;refine UG [.slice (some ⟨M,0,none⟩) p.m p.m] U8 ?_;refine UG [.int .i64 1,ai (qtx t.worth.c),.slice (some ⟨g1,0,none⟩) p.n p.n,.slice (some ⟨M,0,none⟩) p.m p.m,.slice none 0 0] U8 ?_;refine Ux (j:=2) U12 ?_;refine Ur [2] a Z ?_;clear a w R;refine G.freezeArr 2 (((List.range p.n).map t.sol).map aZ) Z Z ek am (fun C9 _ aB=>?_);refine Uz (V7 0 Z Z Z Z Z ?_);exact ⟨1,_,_,M,_,_,rfl,rfl,l.qd,aB,(fun x L=>by obtain ⟨j,_,rfl⟩:=QO.1 L;exact l.qp j),by simp,.inr ⟨rfl,l.hold,⟨_,rfl,l.qv⟩,_,rfl,l.qp⟩⟩
theorem Nx (C:Mem)(n:Nat)(j:n<=1000000):Jog.Fn cx.P 186 [.slice none 0 0,.int .i64 n] C [] fun u _ h=>∃ A n2 c,u=.slice A n2 c/\h=[.arr u 56 1 0 []]:=by
 have k:maxLen<=9223372036854775807:=by simp [maxLen]
 refine Uv func186 27 U3 fun w0=>Ul 1 [0,1] Z<|Ul 2 [0,1,6] Z<|Uo (fun d=>?_) fun d=>?_
 ·simp at d;omega
 refine Um 2 Z fun R a=>Wc Z Z Z Z Z Z Z Z Z<|Us 2 Z<|Uw _ U7<|Uw _ U7<|C4 1 [0,1] a Z<|Ul 2 [0,1,16] Z<|Uo (fun f=>?_) fun f=>?_
 ·have i:0<n:=by
   simp at f;omega
  refine Um 2 Z fun R a=>Wc Z Z Z Z Z Z Z Z Z<|Vf 0 0 0 U12 (fun _=>⟨.inl ⟨Z,Z⟩,.inr ⟨_,Z⟩,.inl ⟨Z,Z⟩,QG _,QG _,QG _⟩) U2<|Up U6<|WR (m:=n) Z Z Z Z Z Z Z Z Z Z Z Z i (by show n*16<=_;omega) (by simp only [maxLen];omega) fl_ fun b g l=>Us 2 Z<|Vf 0 0 g U12 (fun _=>⟨.inl ⟨Z,Z⟩,.inr ⟨_,Z⟩,.inl ⟨Z,Z⟩,QG _,QK _,QG _⟩) U2<|C4 1 [0] a Z<|Ul 2 [4] Z<|Xe 0 0 Z (QK _)<|Uz (UZ Z Z ?_);refine ⟨_,_,_,Z, ?_⟩;have e:(if g=0 then some (⟨b,0,none⟩:Addr) else (some (⟨b,0,none⟩:Addr)).map (·.add (0*1)))=some ⟨b,0,none⟩:=by
   split
   ·rfl
   simp [Addr.add_lit]
  rw [e];simp
 refine Ul 2 [4] Z<|G.nilArr 56 1<|Uz (UZ Z Z ?_);exact ⟨none,0,0,Z,Z⟩
def nG (xs:List (Value × List Rat)):List Rat:=(xs.map (·.2)).flatten
theorem xG {a:List (Value × List Rat)}{x:Value × List Rat}(h:a[i]?=some x):nG (a.take (i+1))=nG (a.take i)++x.2:=by
 unfold nG;rw [Q5,h];simp
theorem HM (a:List (Value × List Rat))(i:Nat):(nG (a.take i)).length<=(nG a).length:=by
 have h:nG a=nG (a.take i)++nG (a.drop i):=by
  unfold nG;rw [<- Ri,<- Rj,RN]
 rw [h,QM];omega
def NF (x:Value × List Rat):List Value:=[x.1]
theorem HE (C:Mem)(v:Value)(a:List (Value × List Rat))(h:Sl C 1 v (a.map NF))(B:∀ x∈a,Sl C 1 x.1 (x.2.map aZ))(K:(nG a).length<=1000000) :
  Jog.Fn cx.P 122 [v] C [] fun u _ e=>∃ A n2 c,u=.slice A n2 c/\e=[.arr u 56 1 (nG a).length ((nG a).map aZ).flatten]:=by
 obtain ⟨p,c0,rfl,L,X,_⟩:=id h;have Y:maxLen<=9223372036854775807:=by simp [maxLen]
 simp only [aw] at h L ⊢;refine Uv func122 36 U3 fun w0=>Ul 1 [0] Z<|Ul 1 [0,3] Z<|Ul 3 [0,3,9,10,11] Z<|G.loop (fun fr C' e q=>∃ (i:Nat)(z:Int),(i<=a.length/\z=(nG (a.take i)).length)/\fr=[(0,[],.slice p a.length c0),(3,[],.int .i64 z),(9,[],.slice p a.length c0),(10,[],.int .i64 a.length),(11,[],.int .i64 i)]/\e=[]/\q=a.length-i) (hn_ [0,3,9,10,11] Z) ⟨0,0,⟨QK _,Z⟩,Z,Z,Z⟩ (fun fr aa ab m _ r=>?_);obtain ⟨i,z,⟨hi,s⟩,rfl,rfl,rfl⟩:=r;refine Ul 1 [0,3,9,10,11,12] Z<|Uo (fun t=>?_) fun t=>?_
 ·have f:i<a.length:=by
   have:=aW t;omega
  obtain ⟨x,d⟩:∃ x,a[i]?=some x:=⟨a[i],aj f⟩;have g:=B x (QF d);obtain ⟨w,l⟩:=x;simp only at g;obtain ⟨Ax,ac,rfl,M,ad,_⟩:=id g;simp only [aw] at g M d;have k:=xG d;have E:=HM a (i+1);have N:(nG (a.take (i+1))).length=(nG (a.take i)).length+l.length:=by rw [k,QM]
  refine Uq fun R b=>UD h.m_ U10 om_ (show (a.map NF)[i]?=some [_] from eZ d) fl_ fun ae O=>Un O U8<|C4 1 [0,3,5,9,10,11] b Z<|Um 3 Z fun R b=>Uw _ U7<|C4 1 [0,3,9,10,11] b Z<|Ul 2 [0,3,9,10,11,20] Z<|Uo (fun F=>?_) fun F=>?_
  ·exfalso;have af:=aW F;omega
  refine Uq fun R b=>Uw _ U7<|C4 1 [0,3,9,10,11] b Z<|UA (m':=a.length-(i+1)) om_ mup (hn_ [0,3,9,10,11] Z) ⟨i+1,_,⟨by omega,by rw [s];omega⟩,Z,Z,Z⟩
 have f:i=a.length:=by
  have:=QJ t;omega
 rw [f,QV] at s;subst s;refine UN [(1,3)] Z fun R b=>Up U6<|D.call (Nx _ (nG a).length K) Z (.inr dc_) U6 (QL _) fl_ (fun ag _ ah _ Q=>?_);obtain ⟨S,T,U,rfl,rfl⟩:=Q;refine C4 1 [0,6] b Z<|Ul 3 [6,25,26,27] Z<|G.loop (fun fr C' e q=>∃ (i:Nat)(n:Option Addr)(n1 o:Nat),(i<=a.length)/\fr=[(6,[],.slice n n1 o),(25,[],.slice p a.length c0),(26,[],.int .i64 a.length),(27,[],.int .i64 i)]/\e=[.arr (.slice n n1 o) 56 1 (nG (a.take i)).length ((nG (a.take i)).map aZ).flatten]/\q=a.length-i) (hn_ [6,25,26,27] Z) ⟨0,S,T,U,QK _,Z,Z,Z⟩ (fun fr ak al m E r=>?_);obtain ⟨i,n,n1,o,am,rfl,rfl,rfl⟩:=r;refine Ul 1 [6,25,26,27,28] Z<|Uo (fun y=>?_) fun y=>?_
 ·have f:i<a.length:=by
   have:=aW y;omega
  obtain ⟨x,d⟩:∃ x,a[i]?=some x:=⟨a[i],aj f⟩;have g:=B x (QF d);have k:=xG d;have E:=HM a (i+1);have N:(nG (a.take (i+1))).length=(nG (a.take i)).length+x.2.length:=by rw [k,QM]
  refine Uq fun R b=>UD h.m_ U10 om_ (show (a.map NF)[i]?=some [x.1] from eZ d) fl_ fun an V=>Un V U8<|C4 1 [6,8,25,26,27] b Z<|Um 2 Z fun R b=>UP (j:=0) U11 g.m_ (by simp [aZ,nN,ai]) (by simp only [aw,maxLen];omega) (by show ((nG (a.take i)).length+(x.2.map aZ).length)*16<=_;rw [aw];omega) fl_ fun H I J=>C4 1 [6,25,26,27] b Z<|Uq fun R b=>Uw _ U7<|C4 1 [6,25,26,27] b Z<|UE (L':=[.arr (.slice H I J) 56 1 (nG (a.take (i+1))).length ((nG (a.take (i+1))).map aZ).flatten]) (by rw [k,Rj,Ri,QM,aw];rfl)<|UA (m':=a.length-(i+1)) om_ mup (hn_ [6,25,26,27] Z) ⟨i+1,H,I,J,om_,Z,Z,Z⟩
 have W:i=a.length:=by
  have:=QJ y;omega
 refine Ul 2 [2] Z<|Uz (UZ Z Z ?_);exact ⟨n,n1,o,Z,by rw [W,QV]⟩
theorem I3 (C:Mem)(N:Tabs C)(o:Int)(y:Str)(f g i:Value)(a b c:List Rat)(z:Sl C 1 f (a.map aZ))(A:Sl C 1 g (b.map aZ))(B:Sl C 1 i (c.map aZ))(O:∀ x∈a,QB 16 x)(Q:∀ x∈b,QB 16 x)(S:∀ x∈c,QB 16 x)(ae:a.length<=1000)(af:b.length<=1000)(ag:c.length<=1000)
  (T:o=1->∃ q,y=qtx q/\QB 16 q):Gives cx.P 78 [.agg ⟨[.int .i64 o,ai y,f,g,i]⟩] C (.bool true):=by
 have E:nG [(f,a),(g,b),(i,c)]=a++(b++(c++[])):=rfl;have F:(nG [(f,a),(g,b),(i,c)]).length<=1000000:=by rw [E];simp;omega
 obtain ⟨all,H⟩:∃ all,nG [(f,a),(g,b),(i,c)]=all:=⟨_,rfl⟩;have I:∀ x∈all,QB 16 x:=fun x d=>by
  rw [<- H,E] at d;simp only [QX,RV,S9] at d;rcases d with h | h | h
  ·exact O x h
  ·exact Q x h
  exact S x h
 have U:∀ l:List Rat,(∀ x∈l,QB 16 x)->((l.map qtx).any fun s=>!aX s)=false:=fun l V=>List.any_eq_false.2 fun s hs=>by
  obtain ⟨x,d,rfl⟩:=QO.1 hs;rw [bQ ((V x d).le dc_)];decide
 obtain ⟨p,r,rfl,_⟩:=id z;obtain ⟨t,u,rfl,_⟩:=id A;obtain ⟨v,w,rfl,_⟩:=id B;have W:∀ D:Mem,C.le D->∀ x∈[(Value.slice p (a.map aZ).length r,a),(Value.slice t (b.map aZ).length u,b),(Value.slice v (c.map aZ).length w,c)],Sl D 1 x.1 (x.2.map aZ):=fun D k x d=>by
  simp only [QU,RV,S9] at d;rcases d with h | h | h
  ·rw [h];exact z.mono k
  ·rw [h];exact A.mono k
  rw [h];exact B.mono k
 refine Uv func78 24 U3 fun w0=>Uq fun R e=>UF U6 fun b1=>C4 1 [1] e Z<|G.freeze 0 Z fun _ _ m=>UN [(8,3)] Z fun R e=>Up U6<|Un (bkT m 1) U8<|Us 2 Z<|Un (bkT m 1) U8<|Up U6<|Un (bkT m 1) U8<|UI [[.slice p (a.map aZ).length r],[.slice t (b.map aZ).length u],[.slice v (c.map aZ).length w]] U12 fun ah _ _ X=>D.call (HE _ _ [(.slice p (a.map aZ).length r,a),(.slice t (b.map aZ).length u,b),(.slice v (c.map aZ).length w,c)] X.m_ (W _ mup) F) Z (.inr dc_) U6 (QL _) fl_ (fun aj _ ak _ Y=>?_);obtain ⟨A3,n3,c3,rfl,rfl⟩:=Y;rw [H] at F ⊢;refine C4 1 [1,3] e Z<|Um 1 Z fun R e=>Un (bkT m 1) U8<|C4 1 [1,3,15] e Z<|G.cut (fun fr C' J μ=>∃ (n:Value)(l:List Rat),(∀ x∈l,QB 16 x)/\fr=[(3,[],n)]/\J=[.arr n 56 1 l.length (l.map aZ).flatten]) ?_ (fun fr _ al μ _ hI=>?_)
 ·refine Uo (fun K=>?_) fun K=>?_
  ·have aa:o=1:=by simpa using K
   obtain ⟨q,rfl,ab⟩:=T aa;refine Um 2 Z fun R e=>Un (bkT m 1) U8<|UI [[ai (qtx q)]] U12 fun an _ _ ac=>D.append (j:=0) U11 ac Z ax (by show (all.length+1)*16<=_;omega) fl_ fun L=>C4 1 [3] e Z<|UE (L':=[.arr L 56 1 (all++[q]).length ((all++[q]).map aZ).flatten]) (by rw [Rj,Ri,QM];rfl)<|UB 0 mup (hn_ [3] Z) ⟨L,all++[q],fun x d=>by
    rcases QX.1 d with h | h
    ·exact I x h
    rw [Q3.1 h];exact ab,rfl,rfl⟩
  refine UB 0 (Mem.le.refl _) (hn_ [3] Z) ⟨_,all,I,Z,Z⟩
 obtain ⟨n ,l,M,rfl,rfl⟩:=hI;refine G.freezeArr 0 (l.map aZ) Z Z ek am fun _ _ ad=>Um 1 Z fun R e=>UC (uj _ n (l.map qtx) 89 [] (fun s=>!aX s) (by rw [<- jB];exact ad.mono mup) kr_ (fun s hs D k=>by
  obtain ⟨x,d,rfl⟩:=QO.1 hs;exact pA D (N.mono (Mem.le.trans mup k)) (qtx x) (Q0 (bG (M x d) dc_) dc_))) U7 fl_ ?_
 exact C4 2 [2] e Z<|Ut U2<|⟨by rw [U l M];rfl,Z⟩
theorem mW {n:Int}{l:List Str}:eJ n l=0 ↔ (l.length:Int)=n/\l.all aX=true:=by
 unfold eJ;by_cases h:(l.length:Int)=n
 ·rw [aJ h];rcases ko (l.all aX) with ⟨h1,h2⟩ | ⟨h1,h2⟩
  ·rw [h1];exact ⟨fun _=>⟨h,h2⟩,fun _=>rfl⟩
  rw [h1,h2];exact ⟨fun h=>(by cases h),fun h=>(by cases h.2)⟩
 rw [aB h];exact ⟨fun h=>(by cases h),fun h2=>absurd h2.1 h⟩
theorem Fz {n:Int}{r:List Str × Str}:FA n r=0 ↔ eJ n r.1=0/\aX r.2=true:=by
 unfold FA;by_cases h:eJ n r.1=0
 ·rw [aB (fun a=>a h)];rcases ko (aX r.2) with ⟨h1,h2⟩ | ⟨h1,h2⟩
  ·rw [h1];exact ⟨fun _=>⟨h,h2⟩,fun _=>rfl⟩
  rw [h1,h2];exact ⟨fun h=>(by cases h),fun h=>(by cases h.2)⟩
 rw [aJ h];exact ⟨fun h2=>absurd h2 h,fun h2=>absurd h2.1 h⟩
theorem tr {l:List Rat}(h:∀ x∈l,QB 22 x):(l.map qtx).all aX=true:=Q4.2 fun s hs=>by
 obtain ⟨x,a,rfl⟩:=QO.1 hs;exact bQ (h x a)
theorem pj {n:Nat}:∀ {rs:List (List Rat × Rat)},(∀ r∈rs,r.1.length=n)->(∀ r∈rs,(∀ x∈r.1,QB 22 x)/\QB 22 r.2)->tW n (rs.map dz)=0
 | [],_,_=>rfl
 | r::rs,b,a=>by
  have e:tW n ((r::rs).map dz)=if FA n (dz r)≠0 then FA n (dz r) else tW n (rs.map dz):=rfl;have h0:FA n (dz r)=0:=Fz.2 ⟨mW.2 ⟨by show ((r.1.map qtx).length:Int)=n;rw [aw,b r PN],tr (a r PN).1⟩,bQ (a r PN).2⟩;rw [e,aB fun h=>h h0];exact pj (fun r hr=>b r (QR _ hr)) fun r hr=>a r (QR _ hr)
theorem nk (e:n<=60)(f:rs.length<=300)(a:∀ r∈rs,r.1.length=n)(b:∀ r∈rs,(∀ x∈r.1,QB 22 x)/\QB 22 r.2)(c:ob.length=n)(d:∀ x∈ob,QB 22 x):uY n (rs.map dz) (ob.map qtx)=0:=by
 unfold uY;rw [aB om_,aB (by rw [aw];omega),aB fun h=>h (mW.2 ⟨by rw [aw,c],tr d⟩)];exact pj a b
inductive FeaO (p:Lp.Sys) (D:Mem):Value->Prop where
 | yes (pt:Nat->Rat) (vp:Value):p.Hold->(∀ j,QB 16 (pt j))->Sl D 1 vp (((List.range p.n).map pt).map aZ)->FeaO p D (.tuple #[vp,.agg ⟨[.slice none 0 0]⟩,.bool true,.int .i64 0])
 | no (du:Nat->Rat) (vd:Value):Lp.InfR p 16 du->Sl D 1 vd (((List.range p.m).map du).map aZ)->FeaO p D (.tuple #[.slice none 0 0,.agg ⟨[vd]⟩,.bool false,.int .i64 0])
def FeaW (p:Lp.Sys)(D:Mem)(L:List Ent)(u:Value):Prop:=∃ (vp:Value)(A:Option Addr)(c:Nat)(is:Bool)(ds:List Rat),
 u=.tuple #[vp,.agg ⟨[.slice A ds.length c]⟩,.bool is,.int .i64 0]/\L=[.arr (.slice A ds.length c) 56 1 ds.length (ds.map aZ).flatten] /\
 (is=true->p.Hold/\A=none/\c=0/\ds=[]/\∃ pt:Nat->Rat,(∀ j,QB 16 (pt j))/\Sl D 1 vp (((List.range p.n).map pt).map aZ)) /\
 (is=false->vp=.slice none 0 0/\∃ du:Nat->Rat,Lp.InfR p 16 du/\ds=(List.range p.m).map du)
theorem nW (n:Nat):List.replicate n (ai [48])=((List.replicate n (0:Rat)).map aZ).flatten:=by
 rw [Tp,Qt];induction n with
 | zero=>rfl
 | succ n a=>rw [RP,RP,Sa,a];rfl
theorem MH (n j:Nat):(List.replicate n (0:Rat)).getD j 0=0:=by
 rw [al,Sx];split <;> rfl
theorem wG (C:Mem)(z:Tabs C)(n:Nat)(f t:Value)(b:List (List Rat × Rat))(i:List Rat)(v:RowsT C f (b.map dz))(A:Sl C 1 t (i.map aZ))(B:RowsQ n b)(I:∀ x∈i,QB 22 x)(J:∀ r∈b,(∀ x∈r.1,QB 22 x)/\QB 22 r.2)(Q:n<=60)(S:i.length=n)(T:Lp.Lim (dt n b) (fun _=>0) 16) :
  Jog.Fn cx.P 43 [.agg ⟨[.int .i64 n,f,t]⟩] C [] fun u D E=>FeaW (dt n b) D E u:=by
 have ag:maxLen<=9223372036854775807:=by simp [maxLen]
 have hm:=B.m;have U:uY n (b.map dz) (i.map qtx)=0:=nk Q om_ B.l J S I;have V:∀ D:Mem,C.le D->Gives cx.P 56 [.agg ⟨[.int .i64 n,f,t]⟩] D (.int .i64 0):=fun D F=>by
  have h:=wH D (z.mono F) n f t (b.map dz) (i.map qtx) (v.mono F) (by rw [<- jB];exact A.mono F) (fun r v=>by
   obtain ⟨r,W,rfl⟩:=QO.1 v;obtain ⟨h1,h2⟩:=J r W;refine ⟨fun s hs=>?_,Q0 (bG h2 dc_) dc_⟩;obtain ⟨x,d,rfl⟩:=QO.1 hs;exact Q0 (bG (h1 x d) dc_) dc_) (fun s hs=>by
   obtain ⟨x,d,rfl⟩:=QO.1 hs;exact Q0 (bG (I x d) dc_) dc_)
  rw [U] at h;exact h
 obtain ⟨p,k⟩:∃ p,dt n b=p:=⟨_,rfl⟩;have ah:p.n=n:=by rw [<- k];rfl
 have ai:p.m=b.length:=by rw [<- k];rfl
 refine Uv func43 32 U3 fun w0=>Uq fun R c=>UF U6 fun b1=>Up U6<|UH U5 fun b3=>C4 2 [1,3] c Z<|Uq fun R c=>Uu ae U9<|Uy (V _ mup) U7<|C4 1 [1,3,6] c Z<|Ul 2 [1,3,6,11] Z<|Uo (fun K=>?_) fun K=>?_
 ·exact absurd K dc_
 refine UN [(2,3)] Z fun R c=>Up U6<|Uu ae U9<|D.call (jk _ n om_) Z (.inr dc_) U6 (QL _) fl_ (fun aj _ ak _ X=>?_);obtain ⟨bz,rfl,rfl⟩:=X;rw [nW];refine Up U6<|Ux (j:=2) U12<|Ur [1,3] c Z<|G.freezeArr 1 ((List.replicate n (0:Rat)).map aZ) Z Z ek am fun _ _ Y=>G.freeze 0 Z fun _ _ aa=>UN [(1,3)] Z fun R c=>Un (bkT aa 3) U8<|D.call (IR _ z.m_ n f _ b (List.replicate n 0) v.m_ Y.m_ B om_ am (MH n) T) Z (.inr dc_) U6 (QL _) fl_ (fun al _ an _ ab=>?_);obtain ⟨kd,val,vp,g,du,a,rfl,rfl,qd,H,qa,ac,w⟩:=ab;obtain ⟨Ap,cp,rfl,_⟩:=id H;rw [k] at ac w ⊢;have hv:kd=1->∃ q,val=qtx q/\QB 16 q:=fun e=>by
  rcases w with ⟨h,_⟩ | ⟨_,_,h,_⟩
  ·omega
  exact h
 refine UH U5 fun b7=>Ux (j:=0) U12<|Ur [3,7] c Z<|G.freeze 0 Z fun _ _ y=>UN [(1,3)] Z fun R c=>Un (bkT y 5) U8<|D.call (VM (L:=[]) (post:=fun u E=>u=.bool true/\E=[]) kr_ ek am (fun C' M hs=>I3 C' (z.m_.mono M) kd val _ _ _ a ((List.range p.m).map du) [] (H.m_.mono M) hs (Sl.nil _ _) qa (fun x d=>by obtain ⟨j,_,rfl⟩:=QO.1 d;exact qd j) (fun x d=>by cases d) om_ ap am hv)) rfl (.inr dc_) U6 (QL _) fl_ (fun ao _ aq _ ad=>?_);obtain ⟨_,rfl,rfl,rfl⟩:=ad;refine C4 1 [3,7,22] c Z<|Uo (fun N=>?_) fun N=>?_
 ·exact absurd N dc_
 refine Um 1 Z fun R c=>Un (bkT y 1) U8<|C4 1 [3,7,26] c Z<|Uo (fun o=>?_) fun o=>?_
 ·refine UJ [0,1,2,3,4,5] [(1,0)] Z kr_ fun R O c=>Up U6<|Vr (fun _=>((bkT y 1).mono O)) U9<|Up U6<|Ux (j:=1) U12<|Us 2 Z<|Ur [2,3,4,5] c Z ?_;clear c O R;refine Uz (Wu 0 Z Z Z Z Z Z Z Z ?_);subst k;rcases w with ⟨_,hi⟩ | ⟨h,_⟩
  ·refine ⟨_,some ⟨g,0,none⟩,(dt n b).m,false,(List.range (dt n b).m).map du, ?_, ?_,fun h=>(by cases h),fun _=>⟨Z,du,hi,Z⟩⟩
   ·rw [show ((List.range (dt n b).m).map du).length=(dt n b).m by simp];rfl
   rw [show ((List.range (dt n b).m).map du).length=(dt n b).m by simp];rfl
  rw [h] at o;cases o
 refine Um 1 Z fun R c=>Un (bkT y 1) U8<|UG ([.slice none 0 0]) U8<|Up U6<|Ux (j:=1) U12<|C4 2 [2,3,4,5] c Z<|Ve 1 Z<|G.nilArr 56 1<|Uz (Wu 1 Z Z Z Z Z Z Z Z ?_);subst k;rcases w with ⟨h,_⟩ | ⟨_,A,_,pt,rfl,af⟩
 ·rw [h] at o;cases o
 exact ⟨_,none,0,true,[],Z,Z,fun _=>⟨A,Z,Z,Z,pt,af,H.mono mup⟩,fun h=>by cases h⟩
theorem JA (C:Mem)(i:Tabs C)(n:Nat)(d e:Value)(a:List (List Rat × Rat))(b:List Rat)(j:RowsT C d (a.map dz))(f:Sl C 1 e (b.map aZ))(g:RowsQ n a)(k:∀ x∈b,QB 22 x)(l:∀ r∈a,(∀ x∈r.1,QB 22 x)/\QB 22 r.2)(m:n<=60)(o:b.length=n)(p:Lp.Lim (dt n a) (fun _=>0) 16) :
  Pur cx.P 43 [.agg ⟨[.int .i64 n,d,e]⟩] C fun u D=>FeaO (dt n a) D u:=by
 refine WZ (wG C i n d e a b j f g k l m o p) fun v C' z h=>?_;obtain ⟨q,A,c,s,ds,rfl,rfl,h1,h2⟩:=h;refine .inr ⟨.slice A ds.length c,56,1,ds.map aZ,by simp,ek,fun D t hs=>?_⟩;cases s with
 | true =>
  obtain ⟨f,rfl,rfl,rfl,pt,g,w⟩:=h1 rfl;exact .yes pt q f g (w.mono t)
 | false =>
  obtain ⟨rfl,du,y,rfl⟩:=h2 rfl;exact .no du _ y hs
def prC (vs:List Value)(l:List SrcQ):List (List Value):=aU vs (l.map SrcQ.r)
def frC (l:List SrcQ):List (List Value):=l.map fun s=>[Value.int .i64 s.n]
theorem Br {l:List SrcQ}{s:SrcQ}(a:vs.length=l.length)(c:vs[i]?=some w)(d:l[i]?=some s):prC (vs.take (i+1)) (l.take (i+1))=prC (vs.take i) (l.take i)++[[w,ai (qtx s.r.b)]]:=by
 unfold prC;rw [Q5,Q5,c,d,Rj];exact fj (by simp [a]) w s.r
theorem Kd {l:List SrcQ}{s:SrcQ}(a:l[i]?=some s):frC (l.take (i+1))=frC (l.take i)++[[.int .i64 s.n]]:=by
 unfold frC;rw [Q5,a,Rj];rfl
theorem Fa {l:List SrcQ}{s:SrcQ}(a:vs[i]?=some w)(c:l[i]?=some s):(bS vs l)[i]?=some [.int .i64 s.n,w,ai (qtx s.r.b)]:=by
 unfold bS;rw [List.getElem?_zipWith,a,c]
abbrev sA7 (A:Option Addr)(n c:Nat):Value:=.slice A n c
abbrev sB7 (A:Option Addr)(n c:Nat):Value:=.slice A n c
structure ProbIn (D:Mem)(n:Nat)(l:List SrcQ)(u:Value):Prop where
 ex:∃ rv ov fv,u=.tuple #[.agg ⟨[.int .i64 n,rv,ov]⟩,fv]/\RowsT D rv ((gG (l.map SrcQ.r)).map dz)/\Sl D 1 ov ((List.replicate n (0:Rat)).map aZ)/\Sl D 1 fv (frC l)
theorem FY (a:List Value)(l:List SrcQ):∀ r∈prC a l,r.length=2:=jg _ _
theorem NC (l:List SrcQ):∀ r∈frC l,r.length=1:=fun r hr=>by
 obtain ⟨s,_,rfl⟩:=QO.1 hr;rfl
theorem Ba {v:Value}(h:RowsOk C vs rows)(b:Sl C 2 v (aU vs rows)):RowsT C v ((gG rows).map dz):=by
 refine ⟨vs,by rw [h.1];simp [gG],fun i w r c hr=>?_, ?_⟩
 ·rw [gG,Ry,QI] at hr;cases a:rows[i]? with
  | none=>rw [a] at hr;cases hr
  | some x =>
   rw [a] at hr;cases hr
   have:=h.2 i w x c a;show Sl C 1 w ((x.f.map qtx).map eL);rw [<- jB];exact this
 have e:List.zipWith (fun w (r:List Str × Str)=>[w,ai r.2]) vs ((gG rows).map dz)=aU vs rows:=by
  unfold gG aU;rw [Ry,List.zipWith_map_right];rfl
 rw [e];exact b
theorem jR (C:Mem)(x lv:Value)(B:Bk)(l:List SrcQ)(O:BookZ C x B 0)(ag:bs B*bp B<=60)(aI:l.length<=300)
  (ap:∀ D:Mem,C.le D->Pur cx.P 52 [x,lv] D fun u E=>∃ v,u=.tuple #[v,.int .i64 0]/\xQ E v l) :
  Pur cx.P 51 [x,lv] C fun u D=>ProbIn D (bs B*bp B) l u:=by
 have aL:=O;obtain ⟨n,hn⟩:∃ n,bs B*bp B=n:=⟨_,rfl⟩;have aq:∀ D:Mem,C.le D->Gives cx.P 35 [x] D (.tuple #[.int .i64 n,.int .i64 0]):=fun D hD=>by
  have h:=zp D x B 0 (O.mono hD) ag;rw [aJ rfl,hn] at h;exact h
 rw [hn] at ag ⊢;obtain ⟨v1,v2,tv,cv,ov,rfl,h1,h2,h3,h4,h5⟩:=id O.i.ex;have aM:maxLen<=9223372036854775807:=by simp [maxLen]
 refine Uv func51 51 U3 fun w0=>Uq fun R a=>UF U6 fun b2=>UH U5 fun g=>C4 1 [1,2,4] a Z<|G.freeze 1 Z fun _ _ ah=>Uq fun R a=>Un (bkT ah 5) U8<|Uy (aq _ mup) U7<|C4 5 [1,2,4,6] a Z<|Uq fun R a=>Un (bkT ah 5) U8<|Up U6<|UV (ap _ mup) U7 (fun aN _ _ ar=>?_);obtain ⟨wv,rfl,au⟩:=ar;obtain ⟨vs,Q,S⟩:=au;have T:=ie Q;obtain ⟨Aw,cw,rfl,av,aO,_⟩:=id S;have ay:(bS vs l).length=l.length:=by unfold bS;simp [T]
 rw [ay] at S av ⊢;refine C4 5 [4,6,8] a Z<|UN [(3,3)] Z fun R a=>Up U6<|UI [[ai [48]]] U12 fun aP _ _ az=>Up U6<|D.call (sa _ _ n [48] az.m_ om_) Z (.inr dc_) U6 (QL _) fl_ (fun aQ _ aR _ aA=>?_);obtain ⟨bz,rfl,rfl⟩:=aA;rw [nW];refine UG [.int .i64 n,.slice none 0 0,.slice (some ⟨bz,0,none⟩) n n] U8<|UH U5 fun k=>Ux (j:=0) U12<|Ur [4,8,10] a Z<|G.freezeArr 1 ((List.replicate n (0:Rat)).map aZ) Z Z ek am fun _ _ aB=>Ul 1 [4,8,10,11] Z<|Ul 3 [4,10,11,30,31,32] Z<|G.nilArr 123 2<|G.nilArr 3 1<|G.perm (L':=[.arr (sA7 none 0 0) 123 2 0 (prC (vs.take 0) (l.take 0)).flatten,.arr (sB7 none 0 0) 3 1 0 (frC (l.take 0)).flatten,.obj k (.cells ⟨[.int .i64 n,.slice none 0 0,.slice (some ⟨bz,0,none⟩) n n]⟩ 80 (0,0)),.obj g (.cells ⟨[.int .i64 0,.slice none 0 0,.slice none 0 0]⟩ 80 (0,0))]) (pkL [1,0,0,0] Z)<|G.loop (fun fr C' t U=>∃ (i:Nat)(V:Option Addr)(n1 W:Nat)(A2:Option Addr)(n2 c2:Nat),(i<=l.length)/\fr=[(4,[],.pointer (some ⟨g,0,none⟩)),(10,[],.pointer (some ⟨k,0,none⟩)),(11,[],.slice A2 n2 c2),(30,[],.slice Aw l.length cw),(31,[],.int .i64 l.length),(32,[],.int .i64 i)]/\t=[.arr (sA7 V n1 W) 123 2 i (prC (vs.take i) (l.take i)).flatten,.arr (sB7 A2 n2 c2) 3 1 i (frC (l.take i)).flatten,.obj k (.cells ⟨[.int .i64 n,.slice V n1 W,.slice (some ⟨bz,0,none⟩) n n]⟩ 80 (0,0)),.obj g (.cells ⟨[.int .i64 0,.slice none 0 0,.slice none 0 0]⟩ 80 (0,0))]/\U=l.length-i) (hn_ [4,10,11,30,31,32] Z) ⟨0,none,0,0,none,0,0,QK _,Z,Z,Z⟩ (fun fr aS aT m _ X=>?_);obtain ⟨i,V,n1,W,A2,n2,c2,hi,rfl,rfl,rfl⟩:=X;refine Ul 1 [4,10,11,30,31,32,33] Z<|Uo (fun Y=>?_) fun Y=>?_
 ·have aa:i<l.length:=by
   have:=aW Y;omega
  obtain ⟨s,F⟩:∃ s,l[i]?=some s:=⟨l[i],aj aa⟩;obtain ⟨w,ab⟩:∃ w,vs[i]?=some w:=⟨vs[i]'om_,aj om_⟩;have aC:=Q.2 i w s.r ab (by rw [QI,F];rfl);obtain ⟨Ax,ak,rfl,_⟩:=id aC;have ad:=Br T ab F;have ae:=Kd F;refine Uq fun R a=>UD S.m_ U10 om_ (Fa ab F) fl_ fun aU aD=>Un aD U8<|UH U5 fun aV=>Ux (j:=0) U12<|Ur [4,10,11,13,30,31,32] a Z<|G.freeze 0 Z fun _ _ al=>G.cut (fun fr C' t U=>∃ (H:Option Addr)(I J:Nat)(K:Option Addr)(L M:Nat),(True)/\fr=[(4,[],.pointer (some ⟨g,0,none⟩)),(10,[],.pointer (some ⟨k,0,none⟩)),(11,[],.slice K L M),(30,[],.slice Aw l.length cw),(31,[],.int .i64 l.length),(32,[],.int .i64 i)]/\t=[.arr (sA7 H I J) 123 2 (i+1) (prC (vs.take (i+1)) (l.take (i+1))).flatten,.arr (sB7 K L M) 3 1 (i+1) (frC (l.take (i+1))).flatten,.obj k (.cells ⟨[.int .i64 n,.slice H I J,.slice (some ⟨bz,0,none⟩) n n]⟩ 80 (0,0)),.obj g (.cells ⟨[.int .i64 0,.slice none 0 0,.slice none 0 0]⟩ 80 (0,0))]) ?_ (fun fr aX aY U a0 X=>?_)
  ·refine Vg (.cut [0,1,2,3,6,7,8] (.alt 4 (.cut [] (.alt 5 (.fin [11,9,10,12,13]) (.alt 9 (.fin [5,11,10,12,13]) .stop))) (.alt 9 (.fin [4,5,11,10,12,13]) .stop))) [(3,0),(8,0)] Z Z kr_ fun R y a z=>Up U6<|Uu ac U9<|Up U6<|Vr (fun _=>((bkT al 2).mono y)) U9<|Us 2 Z<|Vr (fun _=>((bkT al 1).mono y)) U9<|UY z Z ⟨?_, ?_,trivial⟩
   ·refine UI [[.slice Ax (s.r.f.map fe).length ak,ai (qtx s.r.b)]] U12 fun aE aF _ N=>UY z Z ⟨?_, ?_,trivial⟩
    ·refine UP (j:=0) U11 N.m_ Z ax (by show (i+1)*40<=_;omega) fl_ fun c d e=>Up U6<|UI [[.int .i64 s.n]] U12 fun an ao _ A=>UP (j:=1) U11 A.m_ Z ax (by show (i+1)*8<=_;omega) fl_ fun o p q=>Ux (j:=2) U12<|Up U6<|Ur [4,10,11,30,31,32] a Z ?_;clear a y z R;exact G.perm (L':=[.arr (sA7 c d e) 123 2 (i+1) (prC (vs.take (i+1)) (l.take (i+1))).flatten,.arr (sB7 o p q) 3 1 (i+1) (frC (l.take (i+1))).flatten,.obj k (.cells ⟨[.int .i64 n,.slice c d e,.slice (some ⟨bz,0,none⟩) n n]⟩ 80 (0,0)),.obj g (.cells ⟨[.int .i64 0,.slice none 0 0,.slice none 0 0]⟩ 80 (0,0))]) (by rw [ad,ae,Ri,Ri];(exact pkL [2,1,0,0] Z))<|UB 0 mup (hn_ [4,10,11,30,31,32] Z) ⟨c,d,e,o,p,q,trivial,Z,Z⟩
    refine UI [[.int .i64 s.n]] U12 fun an ao _ A=>UP (j:=0) U11 N.m_ Z ax (by show (i+1)*40<=_;omega) fl_ fun c d e=>Up U6<|UP (j:=1) U11 A.m_ Z ax (by show (i+1)*8<=_;omega) fl_ fun o p q=>Ux (j:=2) U12<|Up U6<|Ur [4,10,11,30,31,32] a Z ?_;clear a y z R;exact G.perm (L':=[.arr (sA7 c d e) 123 2 (i+1) (prC (vs.take (i+1)) (l.take (i+1))).flatten,.arr (sB7 o p q) 3 1 (i+1) (frC (l.take (i+1))).flatten,.obj k (.cells ⟨[.int .i64 n,.slice c d e,.slice (some ⟨bz,0,none⟩) n n]⟩ 80 (0,0)),.obj g (.cells ⟨[.int .i64 0,.slice none 0 0,.slice none 0 0]⟩ 80 (0,0))]) (by rw [ad,ae,Ri,Ri];(exact pkL [2,1,0,0] Z))<|UB 0 mup (hn_ [4,10,11,30,31,32] Z) ⟨c,d,e,o,p,q,trivial,Z,Z⟩
   refine UI [[.int .i64 s.n]] U12 fun an ao _ A=>UI [[.slice Ax (s.r.f.map fe).length ak,ai (qtx s.r.b)]] U12 fun aE aF _ N=>UP (j:=0) U11 N.m_ Z ax (by show (i+1)*40<=_;omega) fl_ fun c d e=>Up U6<|UP (j:=1) U11 A.m_ Z ax (by show (i+1)*8<=_;omega) fl_ fun o p q=>Ux (j:=2) U12<|Up U6<|Ur [4,10,11,30,31,32] a Z ?_;clear a y z R;exact G.perm (L':=[.arr (sA7 c d e) 123 2 (i+1) (prC (vs.take (i+1)) (l.take (i+1))).flatten,.arr (sB7 o p q) 3 1 (i+1) (frC (l.take (i+1))).flatten,.obj k (.cells ⟨[.int .i64 n,.slice c d e,.slice (some ⟨bz,0,none⟩) n n]⟩ 80 (0,0)),.obj g (.cells ⟨[.int .i64 0,.slice none 0 0,.slice none 0 0]⟩ 80 (0,0))]) (by rw [ad,ae,Ri,Ri];(exact pkL [2,1,0,0] Z))<|UB 0 mup (hn_ [4,10,11,30,31,32] Z) ⟨c,d,e,o,p,q,trivial,Z,Z⟩
  obtain ⟨H,I,J,K,L,M,_,rfl,rfl⟩:=X;refine Uq fun R a=>Uw _ U7<|C4 1 [4,10,11,30,31,32] a Z<|UA (m':=l.length-(i+1)) om_ mup (hn_ [4,10,11,30,31,32] Z) ⟨i+1,H,I,J,K,L,M,om_,Z,Z,Z⟩
 have aa:i=l.length:=by
  have:=QJ Y;omega
 subst aa;refine Uq fun R a=>Uu ac U9<|Up U6<|Ux (j:=3) U12<|C4 1 [4,5] a Z ?_;rw [Rr (show vs.length<=l.length by omega),QV];refine G.freezeArr 1 (prC vs l) Z Z (FY _ _) (by rw [prC,dA (by simp [T]),aw]) fun _ _ aG=>G.freezeArr 1 (frC l) Z Z (NC _) (aw _) fun _ _ aH=>Uz (Vw af U5 ?_);exact ⟨Z,⟨_,_,_,Z,(Ba (rows:=l.map SrcQ.r) (RowsOk.m_ Q) aG.m_),aB.mono mup,aH⟩⟩
structure Calm (B:Bk)(fs:List Rat)(RO:Nat->List RowQ):Prop where
 rich:Rich B fs RO
 n12:bs B*bp B<=12
 thI:∀ r∈bi B,RowI r
 roI:∀ i,i<B.obs.length->∀ r∈RO i,RowI r
 th:(bi B).length<=24
 ro:∀ i,i<B.obs.length->(RO i).length<=8
 ob:B.obs.length<=12
structure SetIn (n:Nat)(l:List Nat):Prop where
 lt:∀ i∈l,i<n
 nd:l.Nodup
def dT (B:Bk)(RO:Nat->List RowQ)(l:List Nat):List RowQ:=(bj (bi B) RO l).map SrcQ.r
def Em (B:Bk)(RO:Nat->List RowQ)(l:List Nat):Prop:=(dt (bs B*bp B) (gG (dT B RO l))).Hold
open Classical in
noncomputable def gS (B:Bk)(RO:Nat->List RowQ)(l:List Nat):Bool:=decide (Em B RO l)
theorem nV {a:Nat->List RowQ}:dT B a l=bi B++l.flatMap a:=by
 unfold dT bj jL;rw [Rj,Ry,List.map_flatMap];congr 1
 ·exact List.map_id _
 congr 1;funext i;rw [Ry];exact List.map_id _
theorem SetIn.len (h:SetIn n l):l.length<=n:=by
 have:=List.Nodup.length_le_of_subset (l₂:=List.range n) h.nd fun v a=>Q2.2 (h.lt v a)
 rwa [RB] at this
section
variable {B:Bk} {fs:List Rat} {RO:Nat->List RowQ} {l:List Nat}
theorem Kh {c:Nat}{f:Nat->List RowQ}:∀ {l:List Nat},(∀ i∈l,(f i).length<=c)->(l.flatMap f).length<=c*l.length
 | [],_=>QK _
 | i::l,h=>by
  rw [List.flatMap_cons,QM,QY,Nat.mul_succ];have h1:=h i PN;have h2:=Kh (l:=l) fun j a=>h j (QR _ a);omega
theorem Calm.cnt (h:Calm B fs RO)(a:SetIn B.obs.length l):(dT B RO l).length<=120:=by
 rw [nV,QM];have h1:=Kh (c:=8) (f:=RO) fun i b=>h.ro i (a.lt i b);have h2:=a.len;have h3:=h.ob;have h4:=h.th;omega
theorem Calm.rowI (h:Calm B fs RO)(a:SetIn B.obs.length l):∀ r∈dT B RO l,RowI r:=by
 intro r hr;rw [nV] at hr;rcases QX.1 hr with hr | hr
 ·exact h.thI r hr
 obtain ⟨i,b,hr⟩:=List.mem_flatMap.1 hr;exact h.roI i (a.lt i b) r hr
theorem vO {s p:Nat}{a:List Lay}:∀ n,∀ r∈bk s p a n,r.f.length=s*p
 | 0,r,hr=>by cases hr
 | n+1,r,hr=>by
  rcases QX.1 hr with hr | hr
  ·exact vO n r hr
  have:∀ k,∀ r∈bx s p (a.getD (n+1) ⟨[],0,none⟩) (n+1) k,r.f.length=s*p:=by
   intro k;induction k with
   | zero=>intro r hr;cases hr
   | succ k b =>
    intro r hr;rcases QX.1 hr with hr | hr
    ·exact b r hr
    unfold kF at hr;rcases QU.1 hr with rfl | hr
    ·exact jP _ _
    split at hr
    ·cases hr
    rw [Q3.1 hr];exact jP _ _
  exact this p r hr
theorem Oq {D:Int}{q:Rat}(h:Wl D q)(a:D≠0)(b:D.natAbs<=999999999):QB 1 q:=by
 obtain ⟨z,h1,h2⟩:=h;exact pu a h1 om_ om_
theorem RowI.q {r:RowQ}(h:RowI r):(∀ x∈r.f,QB 1 x)/\QB 1 r.b:=by
 obtain ⟨D,h0,a,h1,h2⟩:=h;exact ⟨fun x c=>Oq (h1 x c) h0 a,Oq h2 h0 a⟩
theorem AZ {a:List RowQ}{P:List Rat × Rat->Prop}(h:∀ r∈a,P (r.f,r.b)):∀ x∈gG a,P x:=fun x c=>by
 obtain ⟨r,hr,rfl⟩:=QO.1 c;exact h r hr
theorem Calm.q22 (h:Calm B fs RO)(a:SetIn B.obs.length l):∀ r∈gG (dT B RO l),(∀ x∈r.1,QB 22 x)/\QB 22 r.2 :=
 AZ (P:=fun r=>(∀ x∈r.1,QB 22 x)/\QB 22 r.2) fun r hr=>⟨fun x b=>((h.rowI a r hr).q.1 x b).le dc_,(h.rowI a r hr).q.2.le dc_⟩
theorem Calm.rowsQ (h:Calm B fs RO)(a:SetIn B.obs.length l):RowsQ (bs B*bp B) (gG (dT B RO l)):=by
 refine ⟨AZ (P:=fun r=>r.1.length=bs B*bp B) fun r hr=>?_,fun r hr=>⟨fun x b=>((h.q22 a r hr).1 x b).le dc_,(h.q22 a r hr).2.le dc_⟩, ?_⟩
 ·rw [nV] at hr;rcases QX.1 hr with hr | hr
  ·exact vO _ r hr
  obtain ⟨i,c,hr⟩:=List.mem_flatMap.1 hr;exact (pk h.rich (a.lt i c)).2 r hr
 have:=h.cnt a;rw [gG,aw];omega
theorem Calm.lim (h:Calm B fs RO)(a:SetIn B.obs.length l):Lp.Lim (dt (bs B*bp B) (gG (dT B RO l))) (fun _=>0) 16:=JX h.n12 (h.rowI a)
theorem NY {n:Nat}(c:SetIn n l):chZ n (l.map fun i:Nat=>(i:Int))=0:=by
 refine ld fun i b=>?_;rw [aw] at b;have f:l[i]?=some l[i]:=aj b;have g:(l.map fun i:Nat=>(i:Int)).getD i 0=(l[i]:Int):=by rw [al,QI,f];rfl
 have h1:=c.lt l[i] (RH b);unfold rJ;rw [g,aB om_,aB];intro hm;rw [<- Tn] at hm;obtain ⟨k,h,e⟩:=QO.1 hm;have m:k=l[i]:=by omega
 subst m;obtain ⟨j,a⟩:=Sg h;rw [Rk] at a;split at a
 ·rename_i o;have d:j<l.length:=by omega
  have p:=List.pairwise_iff_getElem.1 c.nd j i d b o;rw [aj d] at a;exact p (Si a)
 cases a
theorem BH (l:List Nat):(l.map fun i:Nat=>(i:Int)).map Int.toNat=l:=by
 rw [Ry];have e:∀ i∈l,(Int.toNat ∘ fun i:Nat=>(i:Int)) i=id i:=fun i _=>Sv i;rw [List.map_congr_left e,List.map_id]
theorem eP (C:Mem)(g:Tabs C)(a b:Value)(j:BookIn C a B)(h:Calm B fs RO)(c:SetIn B.obs.length l)(k:Sl C 1 b (l.map aL)) :
  ∀ D:Mem,C.le D->Pur cx.P 52 [a,b] D fun u E=>∃ v,u=.tuple #[v,.int .i64 0]/\xQ E v (bj (bi B) RO l):=fun D d=>by
 have m:=NY c;have e:=h.cnt c;have n:l.length<=12:=Q0 c.len h.ob;have f:=Eb D (g.mono d) a b B fs RO (l.map fun i:Nat=>(i:Int)) (j.mono d) h.rich (by rw [Ry];exact k.mono d) (by rw [aw];omega) (fun _=>by
  rw [BH];unfold dT at e;rw [aw] at e;omega)
 rw [m,aJ rfl,BH] at f;exact f
end
theorem BU (C:Mem)(k:Tabs C)(e f:Value)(B:Bk)(H:List Rat)(a:Nat->List RowQ)(l:List Nat)(g:BookIn C e B)(h:Calm B H a)(b:SetIn B.obs.length l)(I:Sl C 1 f (l.map aL)) :
  Gives cx.P 47 [e,f] C (.tuple #[.bool (gS B a l),.int .i64 0]):=by
 have ab:=g;have J:=h.rich.bookz k g;have u:=h.cnt b;have v:=fun (D:Mem)(i:C.le D)=>jR D e f B (bj (bi B) a l) (J.mono i) (by have:=h.n12;omega) (by unfold dT at u;rw [aw] at u;omega) (eP D (k.mono i) e f (g.mono i) h b (I.mono i));obtain ⟨n,w⟩:∃ n,bs B*bp B=n:=⟨_,rfl⟩;have K:=h.n12;have m:=h.rowsQ b;have y:=h.q22 b;have o:=h.lim b;obtain ⟨rows,p⟩:∃ rows,dT B a l=rows:=⟨_,rfl⟩;have L:gS B a l=@decide (dt n (gG rows)).Hold (Classical.propDecidable _):=by
  unfold gS Em;rw [w,p]
 have M:(bj (bi B) a l).map SrcQ.r=rows:=p;rw [w] at v m o K;rw [p] at m y o;obtain ⟨v1,v2,tv,cv,ov,rfl,_⟩:=id g.ex;have ac:maxLen<=9223372036854775807:=by simp [maxLen]
 refine Uv func47 27 U3 fun w0=>Uq fun R d=>UF U6 fun b2=>C4 2 [1,2] d Z<|G.freeze 0 Z fun _ _ N=>Uq fun R d=>Un (bkT N 5) U8<|Up U6<|UV (v _ mup) U7 (fun ad _ _ O=>?_);obtain ⟨rv,ae,fv,rfl,q,z,af⟩:=O.ex;rw [M] at q;obtain ⟨_,_,_,Q⟩:=id q;obtain ⟨Ar,cr,rfl,_⟩:=id Q;obtain ⟨Ao,co,rfl,_⟩:=id z;refine Us 3 Z<|UH U5 fun b6=>Ux (j:=0) U12<|C4 1 [6] d Z<|G.freeze 0 Z fun _ _ S=>Uq fun R d=>Un (bkT S 3) U8<|UT (JA _ k.m_ n _ _ (gG rows) (List.replicate n 0) q.m_ z.m_ m (fun x T=>by rw [(List.mem_replicate.1 T).2];exact QB_zero.le dc_) y om_ am o) U7 fl_ (fun U _ _ V=>?_);have W:∃ (s:Value)(E:Option Addr)(nd F:Nat)(t:Bool),U=.tuple #[s,.agg ⟨[.slice E nd F]⟩,.bool t,.int .i64 0]/\gS B a l=t:=by
  rw [L];cases V with
  | yes pt s X _ _=>exact ⟨_,_,_,_,true,rfl,@QZ _ (Classical.propDecidable _) X⟩
  | no du vd Y h1 =>
   obtain ⟨A,c,rfl,_⟩:=id h1;exact ⟨_,_,_,_,false,Z,@Q8 _ (Classical.propDecidable _) Y.not⟩
 obtain ⟨s,E,nd,F,t,rfl,aa⟩:=W;refine Us 5 Z<|UH U5 fun b9=>Up U6<|Ux (j:=0) U12<|C4 2 [10,11] d Z<|Ul 4 [4,5] Z<|Uz (G.dropAll (UO U3 ?_));exact ⟨by rw [aa],Z⟩
structure AscIn (n:Nat)(l:List Nat):Prop where
 lt:∀ i∈l,i<n
 up:l.Pairwise (·<·)
theorem AscIn.set (h:AscIn n l):SetIn n l:=⟨h.lt,h.up.imp fun h=>Nat.ne_of_lt h⟩
theorem KW (h:AscIn n l):Og n (l.map fun i:Nat=>(i:Int))=0:=by
 refine ld fun i a=>?_;rw [aw] at a;have b:∀ j (c:j<l.length),(l.map fun i:Nat=>(i:Int)).getD j 0=(l[j]:Int):=fun j c=>by
  rw [al,QI,aj c];rfl
 have h1:=h.lt l[i] (RH a);unfold my;rw [b i a,aB om_,aB];rintro ⟨h0,h2⟩;rw [b (i-1) om_] at h2;have:=List.pairwise_iff_getElem.1 h.up (i-1) i om_ a om_;omega
section
variable {B:Bk} {fs:List Rat} {RO:Nat->List RowQ} {l:List Nat}
theorem mm (C:Mem)(d:Tabs C)(a b:Value)(e:BookIn C a B)(h:Calm B fs RO)(c:AscIn B.obs.length l)(f:Sl C 1 b (l.map aL)):Gives cx.P 49 [a,b] C (.int .i64 0):=by
 have j:=h.rich.bookz d e;have k:=KW c;have g:=KK C a b B 0 (l.map fun i:Nat=>(i:Int)) j (by have:=h.n12;omega) (by rw [Ry];exact f) (by rw [aw];have:=c.set.len;have:=h.ob;omega) (fun _ _ D m=>Fn.mono (eP C d a b e h c.set f D m) fun u C' n _ ⟨h1,v,h2,_⟩=>⟨h1,v,h2⟩);rw [k,aB (fun h=>h rfl)] at g;exact g
end
theorem CG (C:Mem)(c:Tabs C)(d e:Value)(B:Bk)(f:List Rat)(b:Nat->List RowQ)(l:List Nat)(g:BookIn C d B)(h:Calm B f b)(i:AscIn B.obs.length l)(j:Sl C 1 e (l.map aL)) :
  Gives cx.P 25 [d,e] C (.tuple #[.bool (gS B b l),.int .i64 0]):=by
 have k:=g;obtain ⟨o,p,q,r,s,rfl,_⟩:=id g.ex;refine Uv func25 18 U3 fun w0=>Uq fun R a=>UF U6 fun t=>C4 2 [1,2] a Z<|G.freeze 0 Z fun _ _ m=>Uq fun R a=>Un (bkT m 5) U8<|Up U6<|Uy (mm _ c.m_ _ _ k.m_ h i j.m_) U7<|C4 1 [1,2,6] a Z<|Ul 2 [1,2,6,11] Z<|Uo (fun n=>?_) fun n=>?_
 ·exact absurd n dc_
 refine Uq fun R a=>Un (bkT m 5) U8<|Up U6<|Uy (BU _ c.m_ _ _ B f b l k.m_ h i.set j.m_) U7<|C4 4 [4,5] a Z<|Uz (G.dropAll (UO U3 ?_));exact ⟨Z,Z⟩
def xT (h:Nat->Bool)(km:List (Nat × Value)):Prop:=∀ s v,dq km s=some v->v=.bool (h s)
theorem wZ (h:Nat->Bool):xT h []:=fun s v e=>by cases e
theorem GP (b:xT h km):xT h (fT km s (.bool (h s))):=fun t v e=>by
 by_cases a:s=t
 ·subst a;rw [kJ] at e;exact (Si e).symm
 rw [jr a] at e;exact b t v e
theorem DG (a:xT h km)(s:Nat):∃ x f:Bool,kW (.bool false) true (dq km s)=.tuple #[.bool x,.bool f]/\(f=true->x=h s):=by
 cases e:dq km s with
 | none=>exact ⟨false,false,rfl,fun h=>by cases h⟩
 | some v=>exact ⟨h s,true,by rw [a s v e];rfl,fun _=>rfl⟩
theorem CC:∀ n<6,∀ s<2 ^ n,(∀ i∈cW s,i<n)/\(cW s).Pairwise (·<·):=by decide +kernel
theorem HX (a:n<6)(b:s<2 ^ n):AscIn n (cW s):=⟨(CC n a s b).1,(CC n a s b).2⟩
structure SrchIn (C:Mem)(B:Bk)(b0 bm:Nat):Prop where
 ex:∃ v1 v2 tv cv ov,C b0=some (.cells ⟨[v1,v2,tv,cv,ov,.map (some bm)]⟩ 153 (0,0))/\BookIn C (.agg ⟨[v1,v2,tv,cv,ov]⟩) B
theorem SrchIn.mono {C D:Mem}{B:Bk}{a b:Nat}(h:SrchIn C B a b)(c:C.le D):SrchIn D B a b:=by
 obtain ⟨d,e,f,g,i,h1,h2⟩:=h.ex;exact ⟨d,e,f,g,i,c _ _ h1,h2.mono c⟩
theorem SrchIn.m_ {D:Mem}{a b:Nat}(h:SrchIn C B a b)(c:C.le D:=by exact mup):SrchIn D B a b:=SrchIn.mono h c
noncomputable def hS (B:Bk)(RO:Nat->List RowQ)(s:Nat):Bool:=gS B RO (cW s)
theorem vZ (C:Mem)(k:Tabs C)(B:Bk)(l:List Rat)(b:Nat->List RowQ)(m c s:Nat)(d:List (Nat × Value))(t:SrchIn C B m c)(h:Calm B l b)(n:B.obs.length<6)(v:s<2 ^ B.obs.length)(e:xT (hS B b) d) :
  Jog.Fn cx.P 40 [.pointer (some ⟨m,0,none⟩),.int .u64 s] C [.obj c (aR keyU.enc d)] fun u _ o=>u=.tuple #[.bool (hS B b s),.int .i64 0]/\∃ p,xT (hS B b) p/\o=[.obj c (aR keyU.enc p)]:=by
 obtain ⟨F,G,H,I,J,g,w⟩:=t.ex;obtain ⟨x,f,y,z⟩:=DG e s;have i:=yD n;refine Uv func40 41 U3 fun w0=>UE (L':=[.obj c (aR keyU.enc d)]) Z<|Ul 2 [0,1] Z<|Um 3 Z fun R a=>Un (bkT g 1) U8<|Up U6<|VI keyU af Z Z Z Z Z Z Z Z kr_ Z y Z Z<|C4 5 [0,1,6,7] a Z<|Ul 1 [0,1,6,19] Z<|Uo (fun q=>?_) fun q=>?_
 ·have A:f=true:=q;refine Ul 3 [4,5] Z<|Uz (UO U3 ?_);exact ⟨by rw [z A],d,e,Z⟩
 refine UJ [0,1,2,3,4,5,6,7,8,9,10,11] [(6,1),(3,0)] Z kr_ fun R r a=>Us 3 Z<|Vr (fun _=>((bkT g 5).mono r)) U9<|Up U6<|UT (od _ k.m_ s om_) U7 fl_ fun K _ _ E=>UU (fun _=>(BU _ k.m_ _ _ B l b (cW s) w.m_ h (HX n v).set E.m_)) U9<|Us 5 Z<|Ur [0,1,8,9] a Z ?_;clear a r R;refine Ul 2 [0,1,8,9,32] Z<|Uo (fun i=>?_) fun i=>?_
 ·refine Um 3 Z fun R a=>Un (bkT g 1) U8<|Us 2 Z<|D.mapUpdate keyU (j:=0) Z Z Z Z Z Z Z Z Z Z kr_<|Ur [8,9] a Z<|Ul 4 [4,5] Z<|Uz (UO U3 ?_);exact ⟨Z,_,GP e,Z⟩
 exact absurd i dc_
def EB (i n:Nat):List Nat:=(List.range n).map fun q=>if q<i then q else 0
theorem AC :(EB i n).length=n:=by simp [EB]
theorem ES :fq [.int .i64 0] n=((EB 0 n).map aL).flatten:=by
 rw [de];congr 1;unfold EB;rw [Ry];refine (List.eq_replicate_iff.2 ⟨by simp,fun x a=>?_⟩).symm;obtain ⟨q,_,rfl⟩:=QO.1 a;rfl
theorem Iz :(EB i n).set i i=EB (i+1) n:=by
 refine List.ext_getElem? fun j=>?_;unfold EB;rw [List.getElem?_set,QI,QI,aw,RB];by_cases a:j<n
 ·rw [Ro a];by_cases e:i=j
  ·subst e;simp [a]
  have:(j<i+1) ↔ j<i:=by omega
  simp [e,this]
 rw [QS (show (List.range n).length<=j by simp;omega)];simp;omega
theorem ET :EB n n=List.range n:=by
 unfold EB;have e:∀ q∈List.range n,(if q<n then q else 0)=id q:=fun q a=>aJ (Q2.1 a);rw [List.map_congr_left e,List.map_id]
theorem FK (n:Nat):AscIn n (List.range n):=⟨fun _b a=>Q2.1 a,List.pairwise_lt_range⟩
theorem xo:∀ i,(aL i).length=1:=fun _=>rfl
theorem jC (l:List Nat):∀ r∈l.map aL,r.length=1:=fun r hr=>by
 obtain ⟨x,_,rfl⟩:=QO.1 hr;rfl
theorem Fc (C:Mem)(w:Tabs C)(p:Value)(B:Bk)(x:List Rat)(y:Nat->List RowQ)(q:BookIn C p B)(h:Calm B x y) :
  Jog.Fn cx.P 37 [p] C [] fun u D b=>(10<B.obs.length/\u=.tuple #[.pointer none,.int .i64 4]/\b=[])∨(B.obs.length<=10/\∃ r s,u=.tuple #[.pointer (some ⟨r,0,none⟩),.int .i64 0]/\SrchIn D B r s/\b=[.obj s (aR keyU.enc [])]):=by
 have z:=h.ob;have d:=q;obtain ⟨W,X,Y,cv,ov,rfl,h1,h2,h3,h4,h5⟩:=id q.ex;obtain ⟨A,E,rfl,_⟩:=id h1;obtain ⟨A2,c2,rfl,_⟩:=id h2;obtain ⟨F,H,rfl,_⟩:=id h3;obtain ⟨I,J,rfl,_⟩:=id h4;obtain ⟨K,L,rfl,M,aa,_⟩:=id h5;obtain ⟨n,e⟩:∃ n,B.obs.length=n:=⟨_,rfl⟩;have ab:maxLen<=9223372036854775807:=by simp [maxLen]
 rw [e] at z;simp only [aw,e] at h5 M d ⊢;refine Uv func37 34 U3 fun w0=>Uq fun R a=>UF U6 fun N=>C4 2 [1] a Z<|G.freeze 0 Z fun _ _ f=>Um 1 Z fun R a=>Un (bkT f 1) U8<|Up U6<|Vo U9 (QG _) (by show 8*n<=_;omega) (by simp only [maxLen];omega) fl_ fun c=>C4 1 [1,4] a Z<|Ul 3 [1,4,12,13] Z<|UE (L':=[.arr (.slice (some ⟨c,0,none⟩) n n) 3 1 n ((EB 0 n).map aL).flatten]) (by rw [<- ES];rfl)<|G.loop (fun fr C' b O=>∃ (i:Nat),(i<=n)/\fr=[(1,[],.pointer (some ⟨N,0,none⟩)),(4,[],.slice (some ⟨c,0,none⟩) n n),(12,[],.int .i64 n),(13,[],.int .i64 i)]/\b=[.arr (.slice (some ⟨c,0,none⟩) n n) 3 1 n ((EB i n).map aL).flatten]/\O=n-i) (hn_ [1,4,12,13] Z) ⟨0,QK _,Z,Z,Z⟩ (fun fr ac ad m Q S=>?_);obtain ⟨i,hi,rfl,rfl,rfl⟩:=S;refine Ul 1 [1,4,12,13,14] Z<|Uo (fun g=>?_) fun g=>?_
 ·have k:i<n:=by
   have:=aW g;omega
  refine Ul 2 [1,4,5,12,13] Z<|Um 3 Z fun R a=>UR (i*1) U10 ah U2<|UW (j:=0) U11 (by show i*1+1<=_;rw [bO xo,AC];omega)<|Ur [1,4,12,13] a Z<|Uq fun R a=>Uw _ U7<|C4 1 [1,4,12,13] a Z<|UE (L':=[.arr (.slice (some ⟨c,0,none⟩) n n) 3 1 n ((EB (i+1) n).map aL).flatten]) (by rw [<- Iz,<- bK xo _ (by rw [AC];exact k)];rfl)<|UA (m':=n-(i+1)) om_ Q (hn_ [1,4,12,13] Z) ⟨i+1,om_,Z,Z,Z⟩
 have k:i=n:=by
  have:=QJ g;omega
 subst k;rw [ET];refine G.freezeArr 0 ((List.range i).map aL) Z Z (jC _) am fun _ _ T=>Uq fun R a=>Un (bkT f 5) U8<|Up U6<|Uy (mm _ w.m_ _ _ d.m_ h (e ▸ FK i) T.m_) U7<|C4 1 [1,4,6] a Z<|Ul 2 [1,4,6,25] Z<|Uo (fun t=>?_) fun t=>?_
 ·exact absurd t dc_
 refine Ul 3 [1,29] Z<|Uo (fun l=>?_) fun l=>?_
 ·have o:10<i:=by
   have:=aW l;omega
  refine Ul 2 [2,3] Z<|Uz (G.dropAll (UO U3 ?_));exact .inl ⟨o,Z,Z⟩
 have o:i<=10:=by
  have:=QJ l;omega
 refine Uq fun R a=>Un (bkT f 5) U8<|D.makeMap keyU Z Z Z Z fl_ fun v=>UG [.slice A B.pts.length E,.slice A2 B.tris.length c2,.slice F B.terr.length H,.slice I B.col.length J,.slice K i L,.map (some v)] U8<|UF U6 fun U=>C4 2 [2,3] a Z<|G.freeze 0 Z fun _ _ V=>Uz (UO U3 ?_);exact .inr ⟨o,U,v,Z,⟨_,_,_,_,_,V,d.mono mup⟩,Z⟩
theorem AU (C:Mem)(f:Tabs C)(a:Value)(B:Bk)(b:List Rat)(c:Nat->List RowQ)(g:BookIn C a B)(h:Calm B b c)(j:B.obs.length<=10) :
  Jog.Fn cx.P 37 [a] C [] fun u D i=>∃ d e,u=.tuple #[.pointer (some ⟨d,0,none⟩),.int .i64 0]/\SrchIn D B d e/\i=[.obj e (aR keyU.enc [])] :=
 Fn.mono (Fc C f a B b c g h) fun _ _ _ _ h=>h.elim (fun h=>absurd h.1 om_) (·.2)
end Go.Proofs.YthnpijdjlddpmaaGreatDoor
