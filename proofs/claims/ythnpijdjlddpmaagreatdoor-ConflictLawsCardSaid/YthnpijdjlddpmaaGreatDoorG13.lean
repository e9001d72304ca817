/- Laws that the proofs of this seat share, part 13. -/
import Derived.Test.YthnpijdjlddpmaaGreatDoorG12
import Derived.Test.YthnpijdjlddpmaaGreatDoorShelf
set_option maxHeartbeats 4000000
namespace Go.Proofs.YthnpijdjlddpmaaGreatDoor
open Go.Proofs.Tryz
open Go Go.Jog
set_option maxRecDepth 100000
variable {B:Bk}{C:Mem}{b:Nat}{cc:Nat->Rat}{h:Nat->Bool}{i k:Nat}{km:List (Nat × Value)}{l:List Nat}{n:Nat}{ob:List Rat}{p:Lp.Sys}{r:List Rat × Rat}{rows:List RowQ}{rs:List (List Rat × Rat)}{s:Nat}{t:Lp.Tab}{u:Value}{vs:List Value}{w:Value}{wF:Nat->Value}{z:Int}
theorem Pd (C:Mem)(v:Value)(l:List Rat)(b:Sl C 1 v (l.map aY))(t:l.length<=1000000):Jog.Fn cx.P 173 [v] C [] fun u _w e=>∃ A n c,u=.slice A n c/\e=[.arr (.slice A n c) 56 1 l.length (l.map aY).flatten]:=by
 obtain ⟨f,c0,rfl,m,x,y,o⟩:=id b;have z:maxLen<=9223372036854775807:=by simp [maxLen]
 simp only [aw] at b m ⊢;refine Uk func173 8 U3 fun w0=>Ua 1 [0] Z<|Ub 1 Z fun R d=>VN U9<|Ug [0,4] d Z<|Ud (fun h4=>?_) fun h4=>?_
 ·have p:f=none:=by
   cases f with
   | none=>rfl
   | some a=>cases h4
  have s:l=[]:=by
   cases l with
   | nil=>rfl
   | cons q r =>
    obtain ⟨a,g,_⟩:=o 0 (aY q) rfl;rw [p] at g;cases g
  refine Ua 1 [2] Z<|G.nilArr 56 1<|Un (UR Z Z ?_);exact ⟨none,0,0,Z,by rw [s];rfl⟩
 refine Uf fun R d=>Vo [] U12 fl_ fun B=>Ue U6<|UG (j:=0) U11 b.m_ (by simp [aY,nU,ah]) (by simp only [aw,QW,maxLen];omega) (by simp only [aw,QW];omega) fl_ fun h i k=>C4 1 [2] d Z<|Ut (L':=[.arr (.slice h i k) 56 1 l.length (l.map aY).flatten]) am<|Un (UR Z Z ?_);exact ⟨h,i,k,Z,Z⟩
def eX (n:Nat)(rs:List (List Rat × Rat)):Lp.Sys:=⟨n,rs.length,fun r j=>(rs.getD r ([],0)).1.getD j 0,fun r=>(rs.getD r ([],0)).2⟩
abbrev sA (A:Option Addr)(n c:Nat):Value:=.slice A n c
abbrev sB (A:Option Addr)(n c:Nat):Value:=.slice A n c
abbrev sO (A:Option Addr)(n c:Nat):Value:=.slice A n c
abbrev sW (A:Option Addr)(n c:Nat):Value:=.slice A n c
abbrev sF (A:Option Addr)(n c:Nat):Value:=.slice A n c
def lbF (n i:Nat):List Nat:=(List.range i).map fun q=>n+q
def lvF (rs:List (List Rat × Rat))(wF:Nat->Value)(i:Nat):List (Rat × Value):=(List.range i).map fun q=>((rs.getD q ([],0)).2,wF q)
def opE (n:Nat)(rs:List (List Rat × Rat))(wF:Nat->Value)(q:Nat):Ent:=.arr (wF q) 56 1 n (((List.range n).map fun j=>-(rs.getD q ([],0)).1.getD j 0).map aY).flatten
def Im (wF:Nat->Value)(i:Nat)(w:Value):Nat->Value:=fun q=>if q=i then w else wF q
theorem EK :Im wF i w i=w:=aH rfl
theorem EJ {q:Nat}(h:q≠i):Im wF i w q=wF q:=aA h
theorem JM :lbF n (i+1)=lbF n i++[n+i]:=by unfold lbF;rw [Rs,QX];rfl
theorem JF (h:rs.getD i ([],0)=r):lvF rs (Im wF i w) (i+1)=lvF rs wF i++[(r.2,w)]:=by
 unfold lvF;rw [Rs,QX,List.map_singleton,h,EK];congr 1;refine List.map_congr_left fun q a=>?_;rw [EJ (by have:=QA.1 a;omega)]
theorem Jw (h:rs.getD i ([],0)=r):(List.range (i+1)).map (opE n rs (Im wF i w))=(List.range i).map (opE n rs wF)++[.arr w 56 1 n (((List.range n).map fun j=>-r.1.getD j 0).map aY).flatten]:=by
 rw [Rs,QX,List.map_singleton];congr 1
 ·refine List.map_congr_left fun q a=>?_;unfold opE;rw [EJ (by have:=QA.1 a;omega)]
 unfold opE;rw [h,EK]
theorem Db {l:List Rat}(h:l.length=n):(List.range n).map (fun j=>l.getD j 0)=l:=by
 refine List.ext_getElem? fun j=>?_;rw [Ql];by_cases a:j<n
 ·rw [QY a,ak om_];show some (l.getD j 0)=_;rw [al,ak om_];rfl
 rw [Qr (show (List.range n).length<=j by simp;omega),Qr om_];rfl
theorem F2 {a d e g:Value}(l:ob.length=n) :
  (fe b n (Lp.openT (eX n rs) fun j=>ob.getD j 0) a d e g wF).map Lent.ent=[.obj b (.cells ⟨[.int .i64 n,a,d,e,ah [48],g]⟩ 212 (0,0)),.arr a 3 1 rs.length ((lbF n rs.length).map aO).flatten,.arr d 209 2 rs.length ((lvF rs wF rs.length).map bE).flatten,.arr e 3 1 n ((List.range n).map aO).flatten,.arr g 56 1 n (ob.map aY).flatten]++(List.range rs.length).map (opE n rs wF):=by
 have i:(Lp.openT (eX n rs) fun j=>ob.getD j 0).basic.length=rs.length:=Lp.openT_lb;have k:(Lp.openT (eX n rs) fun j=>ob.getD j 0).others.length=n:=Lp.openT_lo;have h1:cQ (Lp.openT (eX n rs) fun j=>ob.getD j 0) wF=lvF rs wF rs.length:=by
  unfold cQ lvF;rw [i];refine List.map_congr_left fun q h=>?_;rw [Lp.openT_line (p:=eX n rs) (QA.1 h)];rfl
 have h2:(List.range rs.length).map (Lent.ent ∘ K7 (Lp.openT (eX n rs) fun j=>ob.getD j 0) wF)=(List.range rs.length).map (opE n rs wF):=by
  refine List.map_congr_left fun q h=>?_;show Ent.arr _ _ 1 _ _=_;rw [Lp.openT_line (p:=eX n rs) (QA.1 h),k];rfl
 have h3:(Lp.openT (eX n rs) fun j=>ob.getD j 0).worth.f=ob:=Db l;have h4:(Lp.openT (eX n rs) fun j=>ob.getD j 0).worth.c=0:=rfl;unfold fe;rw [h1,h3,h4,i,k,Py];simp only [QU,Q6,h2];rfl
def Dl (n:Nat)(rs:List (List Rat × Rat))(ob:List Rat)(b17:Nat)(Aw:Option Addr)(nw cw:Nat)(A1:Option Addr)(n1 c1:Nat)(i:Nat)(wF:Nat->Value)(r:List Rat × Rat)(A4:Option Addr)(n4 c4:Nat)(A71:Option Addr)(n71 c71:Nat)(A78:Option Addr)(n78 c78:Nat):List Ent:=[.arr (sA A71 n71 c71) 3 1 (i+1) (((lbF n i).map aO).flatten++[[.int .i64 ((n:Int)+(i:Int))]].flatten),.arr (sB A78 n78 c78) 209 2 (i+1) (((lvF rs wF i).map bE).flatten++[[ah (qtx r.2),.slice A4 n4 c4]].flatten),.obj b17 (.cells ⟨[.int .i64 n,.slice A71 n71 c71,.slice A78 n78 c78,.slice A1 n1 c1,ah [48],.slice Aw nw cw]⟩ 212 (0,0)),.arr (sO A1 n1 c1) 3 1 n (((List.range n)).map aO).flatten,.arr (sW Aw nw cw) 56 1 n (ob.map aY).flatten,.arr (sF A4 n4 c4) 56 1 n (((List.range n).map fun q=>-r.1.getD q 0).map aY).flatten]++(List.range i).map (opE n rs wF)
def opX1 (n:Nat)(rs:List (List Rat × Rat))(ob:List Rat)(b17:Nat)(Aw:Option Addr)(nw cw:Nat)(A1:Option Addr)(n1 c1:Nat)(i:Nat)(wF:Nat->Value)(A4:Option Addr)(n4 c4:Nat)(A71:Option Addr)(n71 c71:Nat)(A78:Option Addr)(n78 c78:Nat):List Ent:=[.arr (sA A71 n71 c71) 3 1 (i+1) ((lbF n (i+1)).map aO).flatten,.arr (sB A78 n78 c78) 209 2 (i+1) ((lvF rs (Im wF i (.slice A4 n4 c4)) (i+1)).map bE).flatten,.obj b17 (.cells ⟨[.int .i64 n,.slice A71 n71 c71,.slice A78 n78 c78,.slice A1 n1 c1,ah [48],.slice Aw nw cw]⟩ 212 (0,0)),.arr (sO A1 n1 c1) 3 1 n (((List.range n)).map aO).flatten,.arr (sW Aw nw cw) 56 1 n (ob.map aY).flatten]++(List.range (i+1)).map (opE n rs (Im wF i (.slice A4 n4 c4)))
theorem dB {a:Nat}{b:Option Addr}{c d:Nat}{e:Option Addr}{f g:Nat}{h:Option Addr}{j k:Nat}{l:Option Addr}{m o:Nat}{p:Option Addr}{q s:Nat}(t:rs.getD i ([],0)=r):(Dl n rs ob a b c d e f g i wF r h j k l m o p q s).Perm (opX1 n rs ob a b c d e f g i wF h j k l m o p q s):=by
 unfold Dl opX1;rw [JM,JF t,Jw t];simp only [QX,Q8];exact List.Perm.append_left [_,_,_,_,_] (List.perm_append_singleton _ _).symm
theorem Jl (C:Mem)(_aP:Tabs C)(n:Nat)(rv ov:Value)(c:List (List Rat × Rat))(z:List Rat)(hr:RowsT C rv (c.map iJ))(ho:Sl C 1 ov (z.map aY))(hq:RowsQ n c)(hn:n<=1000)(au:z.length=n) :
  Jog.Fn cx.P 114 [.agg ⟨[.int .i64 n,rv,ov]⟩] C [] fun u _aQ x=>∃ b wB wL wO wW wF,u=.pointer (some ⟨b,0,none⟩)/\x=(fe b n (Lp.openT (eX n c) fun j=>z.getD j 0) wB wL wO wW wF).map Lent.ent:=by
 obtain ⟨vs,av,aC,V⟩:=hr;obtain ⟨Ar,cr,rfl,ay,aR,_⟩:=id V;have hm:=hq.m;have aS:maxLen<=9223372036854775807:=by simp [maxLen]
 rw [tw av] at V ay ⊢;simp only [aw] at V ay av ⊢;refine Uk func114 85 U3 fun w0=>?_;refine Uf fun R a=>?_;refine Uw U6 (fun W=>?_);refine C4 1 [1] a Z ?_;clear a R;refine G.freeze 0 Z (fun _ _ U=>?_);refine Uy [0,1,2,3,4,5,6,7,8] [(4,3),(1,0)] Z kr_ (fun R I a=>?_);refine Ue U6 ?_;refine Vc (fun _=>((PtrTo.blockT U _ 1).mono I)) U9 ?_;refine Ue U6 ?_;refine Uc (bkT U 1) U8 ?_;refine D.call (Pd _ ov z ho.m_ om_) Z (.inr dc_) U6 (Qo _) fl_ (fun aT _ aU _ aD=>?_);obtain ⟨d,e,f,rfl,rfl⟩:=aD;refine Uu [ah [48],.slice d e f] U8 ?_;refine Uu [.int .i64 n,.slice none 0 0,.slice none 0 0,.slice none 0 0,ah [48],.slice d e f] U8 ?_;refine Uw U6 (fun y=>?_);refine Ue U6 ?_;refine Ug [1,3] a Z ?_;clear a I R;refine Ub 1 Z fun R a=>?_;refine Uc (bkT U 1) U8 ?_;refine C4 1 [1,3,19,20] a Z ?_;clear a R;refine G.nilArr 3 1 ?_;refine Ut (L':=[.arr (sO none 0 0) 3 1 0 (((List.range 0)).map aO).flatten,.obj y (.cells ⟨[.int .i64 n,.slice none 0 0,.slice none 0 0,.slice none 0 0,ah [48],.slice d e f]⟩ 212 (0,0)),.arr (sW d e f) 56 1 n (z.map aY).flatten]) (by rw [au];rfl) ?_;refine G.loop (fun fr C' x O=>∃ (i:Nat)(t:Option Addr)(n1 v:Nat),(i<=n)/\fr=[(1,[],.pointer (some ⟨W,0,none⟩)),(3,[],.pointer (some ⟨y,0,none⟩)),(19,[],.int .i64 n),(20,[],.int .i64 i)]/\x=[.arr (sO t n1 v) 3 1 i (((List.range i)).map aO).flatten,.obj y (.cells ⟨[.int .i64 n,.slice none 0 0,.slice none 0 0,.slice t n1 v,ah [48],.slice d e f]⟩ 212 (0,0)),.arr (sW d e f) 56 1 n (z.map aY).flatten]/\O=n-i) (hn_ [1,3,19,20] Z) ⟨0,none,0,0,Qn _,Z,Z,Z⟩ (fun fr aW aX m _ Q=>?_);obtain ⟨i,t,n1,v,hi,rfl,rfl,rfl⟩:=Q;refine Ua 1 [1,3,19,20,21] Z ?_;refine Ud (fun ad=>?_) fun ad=>?_
 ·have az:i<n:=by
   have:=aV ad;omega
  refine Ua 2 [1,3,4,19,20] Z ?_;refine Ub 4 Z fun R a=>?_;refine Uj ae U9 ?_;refine Ue U6 ?_;refine Ux [[.int .i64 i]] U12 (fun aZ _ _ aE=>?_);refine UG (j:=0) U11 aE Z ax (by show (i+1)*8<=_;omega) fl_ (fun af ag ai=>?_);refine Uh 2 Z ?_;refine Um (j:=1) U12 ?_;refine Ug [1,3,19,20] a Z ?_;clear a R;refine Uf fun R a=>?_;refine Ul _ U7 ?_;refine C4 1 [1,3,19,20] a Z ?_;clear a R;refine G.perm (L':=[.arr (sO af ag ai) 3 1 (i+1) (((List.range (i+1))).map aO).flatten,.obj y (.cells ⟨[.int .i64 n,.slice none 0 0,.slice none 0 0,.slice af ag ai,ah [48],.slice d e f]⟩ 212 (0,0)),.arr (sW d e f) 56 1 n (z.map aY).flatten]) (by rw [Rs,QX,Q8];exact List.Perm.swap _ _ _) ?_;refine Up (m':=n-(i+1)) om_ mup (hn_ [1,3,19,20] Z) ⟨i+1,af,ag,ai,om_,Z,Z,Z⟩
 have aj:i=n:=by
  have:=Qm ad;omega
 rw [aj];refine Ub 1 Z fun R a=>?_;refine Uc (bkT U 1) U8 ?_;refine C4 2 [1,3,35,36,37] a Z ?_;clear a R;refine G.nilArr 209 2 ?_;refine G.nilArr 3 1 ?_;refine G.perm (L':=[.arr (sA none 0 0) 3 1 0 ((lbF n 0).map aO).flatten,.arr (sB none 0 0) 209 2 0 ((lvF c (fun _=>.slice none 0 0) 0).map bE).flatten,.obj y (.cells ⟨[.int .i64 n,.slice none 0 0,.slice none 0 0,.slice t n1 v,ah [48],.slice d e f]⟩ 212 (0,0)),.arr (sO t n1 v) 3 1 n (((List.range n)).map aO).flatten,.arr (sW d e f) 56 1 n (z.map aY).flatten]++(List.range 0).map (opE n c (fun _=>.slice none 0 0))) (by
  show List.Perm ([_,_,_,_,_]++[]) _
  (exact pkL [0,0,1,0,0] rfl)) ?_
 refine G.loop (fun fr C' x O=>∃ (i:Nat)(A2:Option Addr)(n2 c2:Nat)(K:Option Addr)(L M:Nat)(wF:Nat->Value),(i<=c.length)/\fr=[(1,[],.pointer (some ⟨W,0,none⟩)),(3,[],.pointer (some ⟨y,0,none⟩)),(35,[],.slice Ar c.length cr),(36,[],.int .i64 c.length),(37,[],.int .i64 i)]/\x=[.arr (sA A2 n2 c2) 3 1 i ((lbF n i).map aO).flatten,.arr (sB K L M) 209 2 i ((lvF c wF i).map bE).flatten,.obj y (.cells ⟨[.int .i64 n,.slice A2 n2 c2,.slice K L M,.slice t n1 v,ah [48],.slice d e f]⟩ 212 (0,0)),.arr (sO t n1 v) 3 1 n (((List.range n)).map aO).flatten,.arr (sW d e f) 56 1 n (z.map aY).flatten]++(List.range i).map (opE n c wF)/\O=c.length-i) (hn_ [1,3,35,36,37] Z) ⟨0,none,0,0,none,0,0,fun _=>.slice none 0 0,Qn _,Z,Z,Z⟩ (fun fr a0 a1 m _ Q=>?_);obtain ⟨i,A2,n2,c2,K,L,M,wF,hi,rfl,rfl,rfl⟩:=Q;refine Ua 1 [1,3,35,36,37,38] Z ?_;refine Ud (fun am=>?_) fun am=>?_
 ·have az:i<c.length:=by
   have:=aV am;omega
  obtain ⟨r,X⟩:∃ r,c[i]?=some r:=⟨c[i],ak az⟩;have N:c.getD i ([],0)=r:=by rw [al,X];rfl
  have a2:r.1.length=n:=hq.l r (Qi X);obtain ⟨aF,a3⟩:=hq.q r (Qi X);obtain ⟨w,hw⟩:∃ w,vs[i]?=some w:=⟨vs[i]'om_,ak om_⟩;have aA:(c.map iJ)[i]?=some (iJ r):=by rw [Ql,X];rfl
  have hx:=aC i w (iJ r) hw aA;have an:Sl C 1 w (r.1.map aY):=by rw [BI];exact hx
  obtain ⟨Ax,aG,rfl,aH,a4,_⟩:=id an;simp only [aw] at an aH hw;refine Ub 1 Z fun R a=>?_;refine Us V.m_ U10 om_ (Et hw aA) fl_ (fun a5 aI=>?_);refine Uc aI U8 ?_;refine Uv U5 (fun b6=>?_);refine Ue U6 ?_;refine Um (j:=0) U12 ?_;refine Ug [1,3,5,6,35,36,37] a Z ?_;clear a R;refine G.freeze 0 Z (fun _ _ aB=>?_);refine Ub 1 Z fun R a=>?_;refine Uc (bkT aB 1) U8 ?_;refine Uu [ah (qtx r.2),.slice none 0 0] U8 ?_;refine Uv U5 (fun Y=>?_);refine Um (j:=0) U12 ?_;refine Ug [1,3,5,6,7,35,36,37] a Z ?_;clear a R;refine Ub 1 Z fun R a=>?_;refine Uc (bkT aB 1) U8 ?_;refine C4 2 [1,3,5,7,35,36,37,46,47,48] a Z ?_;clear a R;refine G.nilArr 56 1 ?_;refine Ut (L':=[.arr (sF none 0 0) 56 1 0 (((List.range 0).map fun q=>-r.1.getD q 0).map aY).flatten,.obj Y (.cells ⟨[ah (qtx r.2),.slice none 0 0]⟩ 209 (0,0)),.arr (sA A2 n2 c2) 3 1 i ((lbF n i).map aO).flatten,.arr (sB K L M) 209 2 i ((lvF c wF i).map bE).flatten,.obj y (.cells ⟨[.int .i64 n,.slice A2 n2 c2,.slice K L M,.slice t n1 v,ah [48],.slice d e f]⟩ 212 (0,0)),.arr (sO t n1 v) 3 1 n (((List.range n)).map aO).flatten,.arr (sW d e f) 56 1 n (z.map aY).flatten]++(List.range i).map (opE n c wF)) Z ?_;refine G.loop (fun fr C' x O=>∃ (j:Nat)(A:Option Addr)(B E:Nat),(j<=n)/\fr=[(1,[],.pointer (some ⟨W,0,none⟩)),(3,[],.pointer (some ⟨y,0,none⟩)),(5,[],.int .i64 i),(7,[],.pointer (some ⟨Y,0,none⟩)),(35,[],.slice Ar c.length cr),(36,[],.int .i64 c.length),(37,[],.int .i64 i),(46,[],.slice Ax r.1.length aG),(47,[],.int .i64 r.1.length),(48,[],.int .i64 j)]/\x=[.arr (sF A B E) 56 1 j (((List.range j).map fun q=>-r.1.getD q 0).map aY).flatten,.obj Y (.cells ⟨[ah (qtx r.2),.slice A B E]⟩ 209 (0,0)),.arr (sA A2 n2 c2) 3 1 i ((lbF n i).map aO).flatten,.arr (sB K L M) 209 2 i ((lvF c wF i).map bE).flatten,.obj y (.cells ⟨[.int .i64 n,.slice A2 n2 c2,.slice K L M,.slice t n1 v,ah [48],.slice d e f]⟩ 212 (0,0)),.arr (sO t n1 v) 3 1 n (((List.range n)).map aO).flatten,.arr (sW d e f) 56 1 n (z.map aY).flatten]++(List.range i).map (opE n c wF)/\O=n-j) (hn_ [1,3,5,7,35,36,37,46,47,48] Z) ⟨0,none,0,0,Qn _,Z,Z,Z⟩ (fun fr a6 a7 m _ Q=>?_);obtain ⟨j,A,B,E,hj,rfl,rfl,rfl⟩:=Q;refine Ua 1 [1,3,5,7,35,36,37,46,47,48,49] Z ?_;refine Ud (fun ao=>?_) fun ao=>?_
  ·have a8:j<n:=by
    have:=aV ao;omega
   have aJ:QB 23 (r.1.getD j 0):=O7 aF;refine Uf fun R a=>?_;refine Us an.m_ U10 om_ (dI om_) fl_ (fun a9 aK=>?_);refine Uc aK U8 ?_;refine C4 1 [1,3,5,7,9,35,36,37,46,47,48] a Z ?_;clear a R;refine Uy [0,1,2,3,4,5,6,7] [(3,1)] Z kr_ (fun R I a=>?_);refine Ue U6 ?_;refine Uj ae U9 ?_;refine Ue U6 ?_;refine Uz (fun _=>(eN _ (r.1.getD j 0) (QE (bK aJ dc_) dc_))) U9 ?_;refine Ux [[ah (qtx (-(r.1.getD j 0)))]] U12 (fun ba _ _ aL=>?_);refine UG (j:=0) U11 aL Z ax (by show (j+1)*16<=_;omega) fl_ (fun ap aq ar=>?_);refine Ue U6 ?_;refine Um (j:=1) U12 ?_;refine Ug [1,3,5,7,35,36,37,46,47,48] a Z ?_;clear a I R;refine Uf fun R a=>?_;refine Ul _ U7 ?_;refine C4 1 [1,3,5,7,35,36,37,46,47,48] a Z ?_;clear a R;refine G.perm (L':=[.arr (sF ap aq ar) 56 1 (j+1) (((List.range (j+1)).map fun q=>-r.1.getD q 0).map aY).flatten,.obj Y (.cells ⟨[ah (qtx r.2),.slice ap aq ar]⟩ 209 (0,0)),.arr (sA A2 n2 c2) 3 1 i ((lbF n i).map aO).flatten,.arr (sB K L M) 209 2 i ((lvF c wF i).map bE).flatten,.obj y (.cells ⟨[.int .i64 n,.slice A2 n2 c2,.slice K L M,.slice t n1 v,ah [48],.slice d e f]⟩ 212 (0,0)),.arr (sO t n1 v) 3 1 n (((List.range n)).map aO).flatten,.arr (sW d e f) 56 1 n (z.map aY).flatten]++(List.range i).map (opE n c wF)) (by rw [Rs,QX,QX,Q8];exact List.Perm.swap _ _ _) ?_;refine Up (m':=n-(j+1)) om_ mup (hn_ [1,3,5,7,35,36,37,46,47,48] Z) ⟨j+1,ap,aq,ar,om_,Z,Z,Z⟩
  have aM:j=n:=by
   have:=Qm ao;omega
  rw [aM];refine G.freeze 1 Z (fun _ _ aN=>?_);refine Ut (L':=[.arr (sF A B E) 56 1 n (((List.range n).map fun q=>-r.1.getD q 0).map aY).flatten,.arr (sA A2 n2 c2) 3 1 i ((lbF n i).map aO).flatten,.arr (sB K L M) 209 2 i ((lvF c wF i).map bE).flatten,.obj y (.cells ⟨[.int .i64 n,.slice A2 n2 c2,.slice K L M,.slice t n1 v,ah [48],.slice d e f]⟩ 212 (0,0)),.arr (sO t n1 v) 3 1 n (((List.range n)).map aO).flatten,.arr (sW d e f) 56 1 n (z.map aY).flatten]++(List.range i).map (opE n c wF)) Z ?_;refine G.cut (fun fr C' x O=>∃ (A7:Option Addr)(n7 c7:Nat)(A8:Option Addr)(n8 c8:Nat),(True)/\fr=[(1,[],.pointer (some ⟨W,0,none⟩)),(3,[],.pointer (some ⟨y,0,none⟩)),(35,[],.slice Ar c.length cr),(36,[],.int .i64 c.length),(37,[],.int .i64 i)]/\x=[.arr (sA A7 n7 c7) 3 1 (i+1) ((lbF n (i+1)).map aO).flatten,.arr (sB A8 n8 c8) 209 2 (i+1) ((lvF c (Im wF i (.slice A B E)) (i+1)).map bE).flatten,.obj y (.cells ⟨[.int .i64 n,.slice A7 n7 c7,.slice A8 n8 c8,.slice t n1 v,ah [48],.slice d e f]⟩ 212 (0,0)),.arr (sO t n1 v) 3 1 n (((List.range n)).map aO).flatten,.arr (sW d e f) 56 1 n (z.map aY).flatten]++(List.range (i+1)).map (opE n c (Im wF i (.slice A B E)))) ?_ (fun fr bb bc O bd Q=>?_)
  ·refine UW (.cut [0,1,2,3,4,5,6,7,8,9,12,13,14,16] (.alt 10 (.cut [] (.alt 11 (.fin [15,17,18,19,20,21,22,23,24]) (.alt 15 (.cut [] (.alt 11 (.fin [17,18,19,20,21,22,23,24]) (.alt 17 (.fin [11,18,19,20,21,22,23,24]) .stop))) (.alt 17 (.cut [] (.alt 11 (.fin [15,18,19,20,21,22,23,24]) (.alt 15 (.fin [11,18,19,20,21,22,23,24]) .stop))) .stop)))) (.alt 15 (.cut [] (.alt 10 (.cut [] (.alt 11 (.fin [17,18,19,20,21,22,23,24]) (.alt 17 (.fin [11,18,19,20,21,22,23,24]) .stop))) (.alt 17 (.fin [10,11,18,19,20,21,22,23,24]) .stop))) (.alt 17 (.cut [] (.alt 10 (.cut [] (.alt 11 (.fin [15,18,19,20,21,22,23,24]) (.alt 15 (.fin [11,18,19,20,21,22,23,24]) .stop))) (.alt 15 (.fin [10,11,18,19,20,21,22,23,24]) .stop))) .stop)))) [(16,0)] Z Z kr_ (fun R I a F=>?_);refine Uh 5 Z ?_;refine Uj aa U9 ?_;refine Ue U6 ?_;refine Uc (bkT U 1) U8 ?_;refine Ue U6 ?_;refine Ul _ U7 ?_;refine Uh 3 Z ?_;refine Vc (fun _=>((bkT aN 2).mono I)) U9 ?_;refine UL F Z ⟨?_, ?_, ?_,trivial⟩
   ·refine Ux [[.int .i64 ((n:Int)+(i:Int))]] U12 (fun ab ac _ J=>?_);refine UL F Z ⟨?_, ?_, ?_,trivial⟩
    ·refine UG (j:=1) U11 J.m_ Z ax (by show (i+1)*8<=_;omega) fl_ (fun g h k=>?_);refine Uj aa U9 ?_;refine Ux [[ah (qtx r.2),.slice A B E]] U12 (fun S T _ H=>?_);refine UG (j:=2) U11 H.m_ Z ax (by show (i+1)*40<=_;omega) fl_ (fun o p s=>?_);refine Uh 2 Z ?_;refine Um (j:=3) U12 ?_;refine Uh 2 Z ?_;refine Um (j:=0) U12 ?_;refine Ug [1,3,35,36,37] a Z ?_;clear a I F R;refine G.perm (L':=Dl n c z y d e f t n1 v i wF r A B E g h k o p s) (pkL [2,1,0,1,1,0] Z) ?_;refine G.perm _ (dB N) ?_;exact Uq 0 mup (hn_ [1,3,35,36,37] Z) ⟨g,h,k,o,p,s,trivial,Z,Z⟩
    ·refine Uj aa U9 ?_;refine UL F Z ⟨?_, ?_,trivial⟩
     ·refine UG (j:=1) U11 J.m_ Z ax (by show (i+1)*8<=_;omega) fl_ (fun g h k=>?_);refine Ux [[ah (qtx r.2),.slice A B E]] U12 (fun S T _ H=>?_);refine UG (j:=2) U11 H.m_ Z ax (by show (i+1)*40<=_;omega) fl_ (fun o p s=>?_);refine Uh 2 Z ?_;refine Um (j:=3) U12 ?_;refine Uh 2 Z ?_;refine Um (j:=0) U12 ?_;refine Ug [1,3,35,36,37] a Z ?_;clear a I F R;refine G.perm (L':=Dl n c z y d e f t n1 v i wF r A B E g h k o p s) (pkL [2,1,0,1,1,0] Z) ?_;refine G.perm _ (dB N) ?_;exact Uq 0 mup (hn_ [1,3,35,36,37] Z) ⟨g,h,k,o,p,s,trivial,Z,Z⟩
     refine Ux [[ah (qtx r.2),.slice A B E]] U12 (fun S T _ H=>?_);refine UG (j:=1) U11 J.m_ Z ax (by show (i+1)*8<=_;omega) fl_ (fun g h k=>?_);refine UG (j:=2) U11 H.m_ Z ax (by show (i+1)*40<=_;omega) fl_ (fun o p s=>?_);refine Uh 2 Z ?_;refine Um (j:=3) U12 ?_;refine Uh 2 Z ?_;refine Um (j:=0) U12 ?_;refine Ug [1,3,35,36,37] a Z ?_;clear a I F R;refine G.perm (L':=Dl n c z y d e f t n1 v i wF r A B E g h k o p s) (pkL [2,1,0,1,1,0] Z) ?_;refine G.perm _ (dB N) ?_;exact Uq 0 mup (hn_ [1,3,35,36,37] Z) ⟨g,h,k,o,p,s,trivial,Z,Z⟩
    refine Ux [[ah (qtx r.2),.slice A B E]] U12 (fun S T _ H=>?_);refine UL F Z ⟨?_, ?_,trivial⟩
    ·refine UG (j:=1) U11 J.m_ Z ax (by show (i+1)*8<=_;omega) fl_ (fun g h k=>?_);refine Uj aa U9 ?_;refine UG (j:=2) U11 H.m_ Z ax (by show (i+1)*40<=_;omega) fl_ (fun o p s=>?_);refine Uh 2 Z ?_;refine Um (j:=3) U12 ?_;refine Uh 2 Z ?_;refine Um (j:=0) U12 ?_;refine Ug [1,3,35,36,37] a Z ?_;clear a I F R;refine G.perm (L':=Dl n c z y d e f t n1 v i wF r A B E g h k o p s) (pkL [2,1,0,1,1,0] Z) ?_;refine G.perm _ (dB N) ?_;exact Uq 0 mup (hn_ [1,3,35,36,37] Z) ⟨g,h,k,o,p,s,trivial,Z,Z⟩
    refine Uj aa U9 ?_;refine UG (j:=1) U11 J.m_ Z ax (by show (i+1)*8<=_;omega) fl_ (fun g h k=>?_);refine UG (j:=2) U11 H.m_ Z ax (by show (i+1)*40<=_;omega) fl_ (fun o p s=>?_);refine Uh 2 Z ?_;refine Um (j:=3) U12 ?_;refine Uh 2 Z ?_;refine Um (j:=0) U12 ?_;refine Ug [1,3,35,36,37] a Z ?_;clear a I F R;refine G.perm (L':=Dl n c z y d e f t n1 v i wF r A B E g h k o p s) (pkL [2,1,0,1,1,0] Z) ?_;refine G.perm _ (dB N) ?_;exact Uq 0 mup (hn_ [1,3,35,36,37] Z) ⟨g,h,k,o,p,s,trivial,Z,Z⟩
   ·refine Uj aa U9 ?_;refine UL F Z ⟨?_, ?_,trivial⟩
    ·refine Ux [[.int .i64 ((n:Int)+(i:Int))]] U12 (fun ab ac _ J=>?_);refine UL F Z ⟨?_, ?_,trivial⟩
     ·refine UG (j:=1) U11 J.m_ Z ax (by show (i+1)*8<=_;omega) fl_ (fun g h k=>?_);refine Ux [[ah (qtx r.2),.slice A B E]] U12 (fun S T _ H=>?_);refine UG (j:=2) U11 H.m_ Z ax (by show (i+1)*40<=_;omega) fl_ (fun o p s=>?_);refine Uh 2 Z ?_;refine Um (j:=3) U12 ?_;refine Uh 2 Z ?_;refine Um (j:=0) U12 ?_;refine Ug [1,3,35,36,37] a Z ?_;clear a I F R;refine G.perm (L':=Dl n c z y d e f t n1 v i wF r A B E g h k o p s) (pkL [2,1,0,1,1,0] Z) ?_;refine G.perm _ (dB N) ?_;exact Uq 0 mup (hn_ [1,3,35,36,37] Z) ⟨g,h,k,o,p,s,trivial,Z,Z⟩
     refine Ux [[ah (qtx r.2),.slice A B E]] U12 (fun S T _ H=>?_);refine UG (j:=1) U11 J.m_ Z ax (by show (i+1)*8<=_;omega) fl_ (fun g h k=>?_);refine UG (j:=2) U11 H.m_ Z ax (by show (i+1)*40<=_;omega) fl_ (fun o p s=>?_);refine Uh 2 Z ?_;refine Um (j:=3) U12 ?_;refine Uh 2 Z ?_;refine Um (j:=0) U12 ?_;refine Ug [1,3,35,36,37] a Z ?_;clear a I F R;refine G.perm (L':=Dl n c z y d e f t n1 v i wF r A B E g h k o p s) (pkL [2,1,0,1,1,0] Z) ?_;refine G.perm _ (dB N) ?_;exact Uq 0 mup (hn_ [1,3,35,36,37] Z) ⟨g,h,k,o,p,s,trivial,Z,Z⟩
    refine Ux [[ah (qtx r.2),.slice A B E]] U12 (fun S T _ H=>?_);refine Ux [[.int .i64 ((n:Int)+(i:Int))]] U12 (fun ab ac _ J=>?_);refine UG (j:=1) U11 J.m_ Z ax (by show (i+1)*8<=_;omega) fl_ (fun g h k=>?_);refine UG (j:=2) U11 H.m_ Z ax (by show (i+1)*40<=_;omega) fl_ (fun o p s=>?_);refine Uh 2 Z ?_;refine Um (j:=3) U12 ?_;refine Uh 2 Z ?_;refine Um (j:=0) U12 ?_;refine Ug [1,3,35,36,37] a Z ?_;clear a I F R;refine G.perm (L':=Dl n c z y d e f t n1 v i wF r A B E g h k o p s) (pkL [2,1,0,1,1,0] Z) ?_;refine G.perm _ (dB N) ?_;exact Uq 0 mup (hn_ [1,3,35,36,37] Z) ⟨g,h,k,o,p,s,trivial,Z,Z⟩
   refine Ux [[ah (qtx r.2),.slice A B E]] U12 (fun S T _ H=>?_);refine UL F Z ⟨?_, ?_,trivial⟩
   ·refine Ux [[.int .i64 ((n:Int)+(i:Int))]] U12 (fun ab ac _ J=>?_);refine UL F Z ⟨?_, ?_,trivial⟩
    ·refine UG (j:=1) U11 J.m_ Z ax (by show (i+1)*8<=_;omega) fl_ (fun g h k=>?_);refine Uj aa U9 ?_;refine UG (j:=2) U11 H.m_ Z ax (by show (i+1)*40<=_;omega) fl_ (fun o p s=>?_);refine Uh 2 Z ?_;refine Um (j:=3) U12 ?_;refine Uh 2 Z ?_;refine Um (j:=0) U12 ?_;refine Ug [1,3,35,36,37] a Z ?_;clear a I F R;refine G.perm (L':=Dl n c z y d e f t n1 v i wF r A B E g h k o p s) (pkL [2,1,0,1,1,0] Z) ?_;refine G.perm _ (dB N) ?_;exact Uq 0 mup (hn_ [1,3,35,36,37] Z) ⟨g,h,k,o,p,s,trivial,Z,Z⟩
    refine Uj aa U9 ?_;refine UG (j:=1) U11 J.m_ Z ax (by show (i+1)*8<=_;omega) fl_ (fun g h k=>?_);refine UG (j:=2) U11 H.m_ Z ax (by show (i+1)*40<=_;omega) fl_ (fun o p s=>?_);refine Uh 2 Z ?_;refine Um (j:=3) U12 ?_;refine Uh 2 Z ?_;refine Um (j:=0) U12 ?_;refine Ug [1,3,35,36,37] a Z ?_;clear a I F R;refine G.perm (L':=Dl n c z y d e f t n1 v i wF r A B E g h k o p s) (pkL [2,1,0,1,1,0] Z) ?_;refine G.perm _ (dB N) ?_;exact Uq 0 mup (hn_ [1,3,35,36,37] Z) ⟨g,h,k,o,p,s,trivial,Z,Z⟩
   refine Uj aa U9 ?_;refine Ux [[.int .i64 ((n:Int)+(i:Int))]] U12 (fun ab ac _ J=>?_);refine UG (j:=1) U11 J.m_ Z ax (by show (i+1)*8<=_;omega) fl_ (fun g h k=>?_);refine UG (j:=2) U11 H.m_ Z ax (by show (i+1)*40<=_;omega) fl_ (fun o p s=>?_);refine Uh 2 Z ?_;refine Um (j:=3) U12 ?_;refine Uh 2 Z ?_;refine Um (j:=0) U12 ?_;refine Ug [1,3,35,36,37] a Z ?_;clear a I F R;refine G.perm (L':=Dl n c z y d e f t n1 v i wF r A B E g h k o p s) (pkL [2,1,0,1,1,0] Z) ?_;refine G.perm _ (dB N) ?_;exact Uq 0 mup (hn_ [1,3,35,36,37] Z) ⟨g,h,k,o,p,s,trivial,Z,Z⟩
  obtain ⟨A7,n7,c7,A8,n8,c8,_,rfl,rfl⟩:=Q;refine Uf fun R a=>?_;refine Ul _ U7 ?_;refine C4 1 [1,3,35,36,37] a Z ?_;clear a R;refine Up (m':=c.length-(i+1)) om_ mup (hn_ [1,3,35,36,37] Z) ⟨i+1,A7,n7,c7,A8,n8,c8,(Im wF i (.slice A B E)),om_,Z,Z,Z⟩
 have aj:i=c.length:=by
  have:=Qm am;omega
 refine Ua 2 [2] Z ?_;rw [aj];refine G.perm (L':=(fe y n (Lp.openT (eX n c) fun j=>z.getD j 0) (.slice A2 n2 c2) (.slice K L M) (.slice t n1 v) (.slice d e f) wF).map Lent.ent) (by rw [F2 au];(exact pkL [2,0,0,0] Z)) ?_;refine Un (UR Z Z ?_);exact ⟨y,.slice A2 n2 c2,.slice K L M,.slice t n1 v,.slice d e f,wF,Z,Z⟩
def Wl (D:Int)(q:Rat):Prop:=∃ z:Int,q*(D:Rat)=(z:Rat)/\z.natAbs<=999999999
def RowI (r:RowQ):Prop:=∃ D:Int,D≠0/\D.natAbs<=999999999/\(∀ q∈r.f,Wl D q)/\Wl D r.b
def kX (rows:List RowQ):List (List Rat × Rat):=rows.map fun r=>(r.f,r.b)
theorem Wl.zero (D:Int):Wl D 0:=⟨0,by grind,by decide⟩
theorem Wl.neg {D:Int}{q:Rat}(h:Wl D q):Wl D (-q):=by
 obtain ⟨z,h1,h2⟩:=h;exact ⟨-z,by rw [Rat.intCast_neg,<- h1];grind,by omega⟩
theorem Wl.sg {D:Int}{q a:Rat}(h:Wl D q)(b:a=1∨a=-1):Wl D (a*q):=by
 rcases b with rfl | rfl
 ·rw [Rat.one_mul];exact h
 rw [show (-1:Rat)*q=-q by grind];exact h.neg
theorem tM (h:i<rows.length):(kX rows).getD i ([],0)=(rows[i].f,rows[i].b):=by
 unfold kX;rw [al,Ql,ak h];rfl
theorem JJ (g:n<=12)(h:∀ r∈rows,RowI r)(i:∃ D:Int,D≠0/\D.natAbs<=999999999/\∀ j,j<n->Wl D (cc j)):Lp.Lim (eX n (kX rows)) cc 16:=by
 have k:∀ r:Nat,∃ D:Int,∀ hr:r<rows.length,D≠0/\D.natAbs<=999999999/\(∀ q∈rows[r].f,Wl D q)/\Wl D rows[r].b:=fun r=>by
  by_cases hr:r<rows.length
  ·obtain ⟨D,c⟩:=h rows[r] (Rf hr);exact ⟨D,fun _=>c⟩
  exact ⟨0,fun h=>absurd h hr⟩
 obtain ⟨D,c⟩:=Classical.axiomOfChoice k;obtain ⟨l,o,c2,p⟩:=i;have hm:(eX n (kX rows)).m=rows.length:=aw _;refine ⟨⟨D,999999999,l,by decide,⟨fun r hr=>?_,fun r j hr d=>?_,fun r hr=>?_⟩,⟨o,c2⟩,fun j d=>?_, ?_⟩⟩
 ·rw [hm] at hr;exact ⟨(c r hr).1,(c r hr).2.1⟩
 ·rw [hm] at hr;have e:(eX n (kX rows)).a r j=rows[r].f.getD j 0:=by show ((kX rows).getD r ([],0)).1.getD j 0=_;rw [tM hr]
  have s:Wl (D r) (rows[r].f.getD j 0):=by
   rw [al];cases t:rows[r].f[j]? with
   | none=>exact Wl.zero _
   | some q=>exact (c r hr).2.2.1 q (Qi t)
  obtain ⟨z,h1,h2⟩:=s;exact ⟨z,by rw [e,Rat.mul_comm];exact h1,h2⟩
 ·rw [hm] at hr;have e:(eX n (kX rows)).b r=rows[r].b:=by show ((kX rows).getD r ([],0)).2=_;rw [tM hr]
  obtain ⟨z,h1,h2⟩:=(c r hr).2.2.2;exact ⟨z,by rw [e,Rat.mul_comm];exact h1,h2⟩
 ·obtain ⟨z,h1,h2⟩:=p j d;exact ⟨z,by rw [Rat.mul_comm];exact h1,h2⟩
 unfold Lp.bdQ Lp.bdT;have:∀ n,n<=12->(n+1)*(999999999*Lp.fctM (2*999999999) n)<B9 ^ 16:=by decide +kernel
 exact this _ g
theorem JI (a:n<=12)(h:∀ r∈rows,RowI r):Lp.Lim (eX n (kX rows)) (fun _=>0) 16:=JJ a h ⟨1,by decide,by decide,fun _ _=>Wl.zero _⟩
theorem wh {p:Nat}{c:List (Nat × Rat)}{b a:Rat}{D:Int}(d:a=1∨a=-1)(e:D≠0)(f:D.natAbs<=999999999)(g:∀ x∈c,Wl D x.2)(h:Wl D b):RowI (iC s p k c b a):=by
 refine ⟨D,e,f,tO (Wl.zero _) (fun x i=>?_),h.sg d⟩;obtain ⟨y,hy,rfl⟩:=Qt.1 i;exact (g y hy).sg d
theorem L4 {pts:List Pt}{t:Tri}{fs:List Rat}{p:Pt}(e:∀ j,Qtr (cor pts t j))(f:dE (cor pts t 0) (cor pts t 1) (cor pts t 2)≠0)(g:∀ j,Hlf (fz fs t j))(z:Qtr p) :
  ∃ W:Int,W≠0/\W.natAbs<=2880000/\(∀ j,∃ N:Int,wgt pts t p j*W=N/\N.natAbs<=2880000)/\(∃ N:Int,onQ pts fs t p*((2*W:Int):Rat)=N/\N.natAbs<=600000000) /\
   ∀ j,(∃ N:Int,(slf pts t j).1*W=N/\N.natAbs<=400000)/\∃ N:Int,(slf pts t j).2*W=N/\N.natAbs<=400000:=by
 obtain ⟨x0,y0,h0,m,o⟩:=e 0;obtain ⟨x1,y1,h1,q,r⟩:=e 1;obtain ⟨x2,y2,h2,s,u⟩:=e 2;obtain ⟨x3,y3,h3,h⟩:=id z;obtain ⟨k0,v,A⟩:=g 0;obtain ⟨k1,w,B⟩:=g 1;obtain ⟨k2,x,C⟩:=g 2;have D:=yF (x0:=x0) (y0:=y0) (x1:=x1) (y1:=y1) (x2:=x2) (y2:=y2) ⟨m,o,q,r,s,u⟩;refine ⟨iA x0 y0 x1 y1 x2 y2,(iR h0 h1 h2 v w x f).1,D,fun j=>?_,⟨_,Lm h0 h1 h2 h3 v w x f,OU ⟨m,o,q,r,s,u⟩ h ⟨A,B,C⟩⟩,fun j=>?_⟩
 ·obtain ⟨M,O,h4,E,F⟩:=e ((j+1) % 3);obtain ⟨P,Q,h5,G,H⟩:=e ((j+2) % 3);exact ⟨_,(wo (my h3 h4 h5) (my h0 h1 h2) f).2,yF ⟨h.1,h.2,E,F,G,H⟩⟩
 have l:=fun i=>zW (n:=pts.length) (k:=mD t j) (t:=t) i;obtain ⟨u0,g0,R⟩:=l 0;obtain ⟨u1,I,l1⟩:=l 1;obtain ⟨y,J,l2⟩:=l 2;obtain ⟨_,K,L⟩:=iR h0 h1 h2 g0 I J f;have S:=jU (a:=u1-u0) (b:=y2-y0) (c:=y1-y0) (d:=y-u0) ⟨by omega,by omega,by omega,by omega⟩;have T:=jU (a:=u1-u0) (b:=x2-x0) (c:=x1-x0) (d:=y-u0) ⟨by omega,by omega,by omega,by omega⟩;exact ⟨⟨_,K,by omega⟩,⟨_,L,by omega⟩⟩
theorem Ob {W:Int}{q:Rat}{N:Int}(h:q*(W:Rat)=N)(a:N.natAbs<=400000000):Wl (2*W) q:=⟨2*N,by rw [Rj,Rj,<- h];grind,by omega⟩
theorem HS {t:Tri}{f:Nat->Rat}{P:Rat->Prop}(h:∀ j,P (f j)):∀ x∈atT t f,P x.2:=gl (P:=fun x=>P x.2) (h 0) (h 1) (h 2)
theorem Kh (n:Nat):kR ((n % 12:Nat):Int) 2*2=(((n % 12:Nat):Int):Rat):=od dc_
theorem OC (S:Sht)(H:Hts)(l:List Sgt)(s:Sgt)(i:Nat)(p:SgtR s):∀ r∈rowsO (cm S H l) (fK S s i) (lH S s) (tK S s) (zK S H s),RowI r:=by
 obtain ⟨A,_⟩:=fA (S.kd % 8) (Q2 _ dc_) S.a S.b S.h;obtain ⟨_,B⟩:=locK S s p;have C:=jN A.ok (Qi B);obtain ⟨W,D,g,E,⟨d,u,L⟩,v⟩:=L4 (pts:=cD (S.kd % 8) S.a S.b S.h) (t:=tK S s) (fs:=fsK (cD (S.kd % 8) S.a S.b S.h).length H) (fun j=>uS j) C (fun j=>Ly j) (AZ S s p);have m:∀ j,Wl (2*W) (wgt (cD (S.kd % 8) S.a S.b S.h) (tK S s) (lH S s) j):=fun j=>by
  obtain ⟨N,e,b⟩:=E j;exact Ob e om_
 have n:Wl (2*W) (kA (fK S s i) (zK S H s)):=by
  unfold kA;split
  ·rename_i F;rw [Bj S s i F,dh (ok1 (sH s.depth))];have f:=Kh s.depth;have G:zK S H s*((2*W:Int):Rat)=d:=u;refine ⟨d-((s.depth % 12:Nat):Int)*W, ?_, ?_⟩
   ·simp only [SQ,Rj,<- f];rw [show ((d:Int):Rat)=zK S H s*((2*W:Int):Rat) from G.symm];simp only [Rj];grind
   have:=jd (a:=((s.depth % 12:Nat):Int)) (b:=W) (M:=11) om_ g;omega
  exact ⟨d,u,by omega⟩
 have o:∀ sg∈([1, -1]:List Rat),sg=1∨sg=-1:=by simp
 intro r hr;unfold rowsO at hr;split at hr
 ·rcases Qy.1 hr with h | h <;> split at h
  ·rw [QF.1 h];exact wh (.inl rfl) om_ om_ (HS m) n
  ·simp at h
  ·rw [QF.1 h];exact wh (.inr rfl) om_ om_ (HS m) n
  simp at h
 rename_i h1;split at hr
 ·obtain ⟨k,_,h⟩:=List.mem_flatMap.1 hr;obtain ⟨sg,c,rfl⟩:=Qt.1 h;exact wh (o sg c) om_ om_ (HS m) n
 rename_i h2;have O:=nI s.n0;have P:=nI s.n1;have Q:=nZ s.n2;have w:=uw s.n2;have f:qj (fK S s i)*(fg s.n2:Int)=((-(s.n0.tmod 5):Int):Rat)/\jb (fK S s i)*(fg s.n2:Int)=((-(s.n1.tmod 5):Int):Rat):=by
  have I:=dX (s.n0.tmod 5) om_;have l1:=dX (s.n1.tmod 5) om_;have l2:=dX (fg s.n2) om_;have R:((fg s.n2:Int):Rat)≠0:=by exact_mod_cast w
  revert h1 h2;unfold qj jb fK;split
  ·intro h1;exact absurd rfl h1
  split
  ·intro _ h2;exact absurd rfl h2
  intro _ _;simp only;rw [dh (ok1 I),dh (ok1 l1),dh (ok1 l2),Rat.intCast_neg,Rat.intCast_neg];constructor <;> grind
 have hm:(W*fg s.n2).natAbs<=2880000*4:=jd g om_;have x:W*fg s.n2≠0:=Int.mul_ne_zero D w;have y:∀ {q:Rat}{N:Int},q*(W:Rat)=N->N.natAbs<=400000->Wl (W*fg s.n2) q:=fun {q N} e b=>⟨N*fg s.n2,by rw [Rj,Rj,<- e];grind,by have:=jd b (show (fg s.n2).natAbs<=4 by omega);omega⟩;have J:∀ j,Wl (W*fg s.n2) (slf (cD (S.kd % 8) S.a S.b S.h) (tK S s) j).1:=fun j=>by
  obtain ⟨N,e,b⟩:=(v j).1;exact y e b
 have K:∀ j,Wl (W*fg s.n2) (slf (cD (S.kd % 8) S.a S.b S.h) (tK S s) j).2:=fun j=>by
  obtain ⟨N,e,b⟩:=(v j).2;exact y e b
 have z:∀ {q:Rat}{N:Int},q*((fg s.n2:Int):Rat)=N->N.natAbs<=4->Wl (W*fg s.n2) q:=fun {q N} e b=>⟨N*W,by rw [Rj,Rj,<- e];grind,by have:=jd b g;omega⟩;obtain ⟨k,_,h⟩:=List.mem_flatMap.1 hr;rcases Qy.1 h with h | h
 ·obtain ⟨sg,c,rfl⟩:=Qt.1 h;exact wh (o sg c) x om_ (HS J) (z f.1 om_)
 obtain ⟨sg,c,rfl⟩:=Qt.1 h;exact wh (o sg c) x om_ (HS K) (z f.2 om_)
def PE (x:Lay):Prop:=(∃ z:Int,x.min=z/\z.natAbs<=1000)/\∀ m,x.max=some m->∃ z:Int,m=z/\z.natAbs<=1000
theorem zP {q:Rat}(e:q=z)(h:z.natAbs<=1000):Wl 1 q:=⟨z,by rw [e];show _*(1:Rat)=_;grind,by omega⟩
theorem Oh {a:Nat}{u v:Rat}{c:Rat}(f:u=1∨u=-1)(g:v=1∨v=-1)(i:Wl 1 c):RowI ⟨rL n [(a,u),(b,v)],c⟩:=by
 have d:∀ q:Rat,q=1∨q=-1->Wl 1 q:=fun q h=>by
  rcases h with rfl | rfl
  ·exact zP (z:=1) aq dc_
  exact zP (z:=-1) aq dc_
 refine ⟨1,by decide,by decide,tO (Wl.zero _) (fun x e=>?_),i⟩;simp only [Qw,Rk,SI] at e;rcases e with rfl | rfl
 ·exact d _ f
 exact d _ g
theorem Iu {p:Nat}{x:Lay}(h:PE x):∀ r∈kp s p x i k,RowI r:=by
 obtain ⟨z,a,b⟩:=h.1;intro r hr;unfold kp at hr;rcases Qw.1 hr with rfl | hr
 ·exact Oh (.inr Z) (.inl Z) (zP a b).neg
 split at hr
 ·cases hr
 rename_i m hm;obtain ⟨z,a,b⟩:=h.2 m hm;rw [QF.1 hr];exact Oh (.inl Z) (.inr Z) (zP a b)
theorem Ah {s p:Nat}{x:Lay}{i:Nat}(h:PE x):∀ k,∀ r∈bq s p x i k,RowI r
 | 0,r,hr=>by cases hr
 | k+1,r,hr=>by
  rcases Qy.1 hr with h1 | h1
  ·exact Ah h k r h1
  exact Iu h r h1
theorem Ae {s p:Nat}{a:List Lay}(h:∀ x∈a,PE x):∀ n,∀ r∈bj s p a n,RowI r
 | 0,r,hr=>by cases hr
 | n+1,r,hr=>by
  rcases Qy.1 hr with h1 | h1
  ·exact Ae h n r h1
  refine Ah ?_ _ r h1;rw [al];cases b:a[n+1]? with
  | none=>exact ⟨⟨0,rfl,by decide⟩,fun m hm=>by cases hm⟩
  | some x=>exact h x (Qi b)
theorem Qb:∀ x∈colK,PE x:=by
 intro x a;simp only [colK,Qw,Rk,SI] at a;rcases a with rfl | rfl | rfl
 ·exact ⟨⟨0,Z,by decide⟩,fun m hm=>by cases hm⟩
 ·exact ⟨⟨0,Z,by decide⟩,fun m hm=>by cases hm;exact ⟨5,Z,by decide⟩⟩
 exact ⟨⟨1,Z,by decide⟩,fun m hm=>by cases hm⟩
theorem tB {z:Nat}(h:z<18446744073709551616):IntKind.u64.wrap ((z:Nat):Int)=(z:Int):=by
 simp only [IntKind.wrap,IntKind.bits,IntKind.signed];simp;omega
theorem PJ {z:Nat}(h:z<9223372036854775808):IntKind.i64.wrap ((z:Nat):Int)=(z:Int):=by
 simp only [IntKind.wrap,IntKind.bits,IntKind.signed];simp;omega
def o1 (s:Nat):Nat:=(s / 2 ^ 1 &&& 6148914691236517205)+(s &&& 6148914691236517205)
def o2 (s:Nat):Nat:=(s / 2 ^ 2 &&& 3689348814741910323)+(s &&& 3689348814741910323)
def o3 (s:Nat):Nat:=(s / 2 ^ 4+s) &&& 1085102592571150095
def o4 (s:Nat):Nat:=s+s / 2 ^ 8
def o5 (s:Nat):Nat:=s+s / 2 ^ 16
def o6 (s:Nat):Nat:=s+s / 2 ^ 32
theorem o_bd:∀ s<32,o1 s<1000/\o2 (o1 s)<1000/\o2 (o1 s) / 2 ^ 4+o2 (o1 s)<1000/\o3 (o2 (o1 s))<1000/\o4 (o3 (o2 (o1 s)))<1000/\o5 (o4 (o3 (o2 (o1 s))))<1000/\o6 (o5 (o4 (o3 (o2 (o1 s)))))<1000/\o6 (o5 (o4 (o3 (o2 (o1 s))))) &&& 127=iD s:=by decide +kernel
theorem F4 (C:Mem)(s:Nat)(b:s<32):Gives cx.P 74 [.int .u64 s] C (.int .i64 (iD s:Int)):=by
 obtain ⟨h1,h2,h3,h4,h5,e,f,d⟩:=o_bd s b;exact Uk func74 35 U3 fun w0=>Ua 1 [0] Z<|Ub 1 Z fun R a=>Vu (s) (1) U8 dc_ U2<|Vp (s / 2 ^ 1) (6148914691236517205) U8 om_ om_ U2<|Ue U6<|Vp (s) (6148914691236517205) U8 om_ om_ U2<|D.int (((o1 s:Nat):Int)) U4 (tB (by show o1 s<_;omega)) U2<|C4 1 [0] a Z<|Ub 1 Z fun R a=>Vu (o1 s) (2) U8 dc_ U2<|Vp (o1 s / 2 ^ 2) (3689348814741910323) U8 om_ om_ U2<|Ue U6<|Vp (o1 s) (3689348814741910323) U8 om_ om_ U2<|D.int (((o2 (o1 s):Nat):Int)) U4 (tB (by show o2 (o1 s)<_;omega)) U2<|C4 1 [0] a Z<|Ub 1 Z fun R a=>Vu (o2 (o1 s)) (4) U8 dc_ U2<|Ue U6<|D.int (((o2 (o1 s) / 2 ^ 4+o2 (o1 s):Nat):Int)) U4 (tB om_) U2<|Vp (o2 (o1 s) / 2 ^ 4+o2 (o1 s)) (1085102592571150095) U8 om_ om_ U2<|C4 1 [0] a Z<|Ub 2 Z fun R a=>Vu (o3 (o2 (o1 s))) (8) U8 dc_ U2<|D.int (((o4 (o3 (o2 (o1 s))):Nat):Int)) U4 (tB (by show o4 (o3 (o2 (o1 s)))<_;omega)) U2<|C4 1 [0] a Z<|Ub 2 Z fun R a=>Vu (o4 (o3 (o2 (o1 s)))) (16) U8 dc_ U2<|D.int (((o5 (o4 (o3 (o2 (o1 s)))):Nat):Int)) U4 (tB (by show o5 (o4 (o3 (o2 (o1 s))))<_;omega)) U2<|C4 1 [0] a Z<|Ub 2 Z fun R a=>Vu (o5 (o4 (o3 (o2 (o1 s))))) (32) U8 dc_ U2<|D.int (((o6 (o5 (o4 (o3 (o2 (o1 s))))):Nat):Int)) U4 (tB (by show o6 (o5 (o4 (o3 (o2 (o1 s)))))<_;omega)) U2<|C4 1 [0] a Z<|Ub 1 Z fun R a=>UQ (c:=((o6 (o5 (o4 (o3 (o2 (o1 s))))):Nat):Int)) U8 (PJ om_) fl_<|WA (o6 (o5 (o4 (o3 (o2 (o1 s)))))) (127) Z Z Z Z Z Z Z Z om_ om_ Z Z<|C4 1 [2] a Z<|Ui U2<|⟨by rw [d],Z⟩
theorem ui (C:Mem)(s:Nat)(b:s<32):Gives cx.P 39 [.int .u64 s] C (.int .i64 (iD s:Int)):=by
 refine Uk func39 8 U3 fun w0=>Ua 1 [0] Z<|Ud (fun a=>?_) fun a=>?_
 ·cases a
 exact Ub 1 Z fun R c=>Uo (F4 _ s b) U7<|C4 1 [2] c Z<|Ui U2<|⟨Z,Z⟩
theorem Kp:∀ s<32,s≠0->Lib.ctz 64 s=(aX s).headD 0:=by decide +kernel
theorem Oe (C:Mem)(a:Tabs C)(s:Nat)(b:s<32)(c:s≠0):Gives cx.P 75 [.int .u64 s] C (.int .i64 (((aX s).headD 0:Nat):Int)):=by
 rw [<- Kp s b c];exact PL Tryz.tz s om_ C kr_ a.db kr_
theorem wY (C:Mem)(a:Int):Gives cx.P 172 [.int .i64 a] C (.bool false):=by
 exact Uk func172 6 U3 fun w0=>Ua 1 [0] Z<|Ua 4 [2] Z<|Ui U2<|⟨by simp,Z⟩
theorem yY (C:Mem)(a b:Int):Gives cx.P 111 [.int .i64 a,.int .i64 b] C (.int .i64 (LJ a b)):=by
 refine Uk func111 20 U3 fun w0=>Ua 1 [0,1] Z<|Ub 1 Z fun R d=>Uo (wY _ _) U7<|C4 1 [0,1,5] d Z<|Ub 1 Z fun R d=>Uo (wY _ _) U7<|C4 1 [0,1,5,6] d Z<|Ua 1 [0,1,6,11] Z<|Ud (fun f=>?_) fun f=>?_
 ·cases f
 refine Ua 1 [0,1,13] Z<|Ud (fun g=>?_) fun g=>?_
 ·cases g
 refine Ua 3 [0,1,16] Z<|Ud (fun c=>?_) fun c=>?_
 ·refine Ua 1 [4] Z<|Ui U2 ?_;simp only [Qs] at c;exact ⟨by rw [LJ,aH c],Z⟩
 refine Ua 3 [19] Z<|Ud (fun e=>?_) fun e=>?_
 ·refine Ua 1 [4] Z<|Ui U2 ?_;simp only [Qs,QG] at c e;exact ⟨by rw [LJ,aA c,aA om_],Z⟩
 refine Ua 1 [4] Z<|Ui U2 ?_;simp only [QG] at c e;exact ⟨by rw [LJ,aA c,aH om_],Z⟩
theorem yZ (C:Mem)(v w:Value)(a b:List Nat)(l:Sl C 1 v (a.map aO))(n:Sl C 1 w (b.map aO))(L:a.length<=1000000)(_M:b.length<=1000000) :
  Gives cx.P 72 [v,w] C (.int .i64 (M9 a b)):=by
 obtain ⟨A,c,rfl,_⟩:=id l;obtain ⟨B,d,rfl,_⟩:=id n;simp only [aw] at l n ⊢;refine Uk func72 36 U3 fun w0=>Ua 1 [0,1] Z<|Ua 3 [0,1,9,10,11] Z<|G.loop (fun fr C' z D=>∃ (k:Nat),(k<=a.length/\k<=b.length/\M9 (a.drop k) (b.drop k)=M9 a b)/\fr=[(0,[],.slice A a.length c),(1,[],.slice B b.length d),(9,[],.slice A a.length c),(10,[],.int .i64 a.length),(11,[],.int .i64 k)]/\z=[]/\D=a.length-k) (hn_ [0,1,9,10,11] Z) ⟨0,⟨Qn _,Qn _,Z⟩,Z,Z,Z⟩ (fun fr N O m _ E=>?_);obtain ⟨k,⟨Q,S,g⟩,rfl,rfl,rfl⟩:=E;refine Ua 1 [0,1,9,10,11,12] Z<|Ud (fun o=>?_) fun o=>?_
 ·have h:k<a.length:=by simpa using o
  obtain ⟨x,t⟩:∃ x,a[k]?=some x:=⟨a[k],ak h⟩;have F:(a.map aO)[k]?=some (aO x):=by rw [Ql,t];rfl
  have p:a.drop k=x::a.drop (k+1):=by rw [QS h,(aF.1 t).2]
  refine Ub 1 Z fun R f=>Us l.m_ U10 om_ F fl_ fun T H=>Uc H U8<|C4 2 [0,1,5,6,9,10,11] f Z<|Ua 4 [0,1,5,6,9,10,11,19] Z<|Ud (fun q=>?_) fun q=>?_
  ·have i:b.length<=k:=by simpa using q
   have j:b.drop k=[]:=RH i;exact Ua 1 [4] Z<|Ui U2<|⟨by rw [<- g,p,j];rfl,Z⟩
  have i:k<b.length:=by
   have:¬ b.length<=k:=by simpa using q
   omega
  obtain ⟨y,hy⟩:∃ y,b[k]?=some y:=⟨b[k],ak i⟩;have I:(b.map aO)[k]?=some (aO y):=by rw [Ql,hy];rfl
  have j:b.drop k=y::b.drop (k+1):=by rw [QS i,(aF.1 hy).2]
  refine Ub 2 Z fun R f=>Us n.m_ U10 om_ I fl_ fun U J=>Uc J U8<|C4 1 [0,1,6,7,9,10,11] f Z<|Ub 2 Z fun R f=>Uo (yY _ _ _) U7<|C4 1 [0,1,8,9,10,11] f Z<|Ua 2 [0,1,8,9,10,11,28] Z<|Ud (fun r=>?_) fun r=>?_
  ·have e:LJ x y≠0:=by simpa using r
   refine Ua 2 [4] Z<|Ui U2<|⟨?_,Z⟩;rw [<- g,p,j];simp only [M9];unfold LJ at e ⊢;by_cases h1:x<y
   ·have h3:(x:Int)<y:=by omega
    rw [aH h1,aH h3]
   have h3:¬ (x:Int)<y:=by omega
   rw [aA h1,aA h3];rw [aA h3] at e;by_cases h2:y<x
   ·have h4:¬ (x:Int)=y:=by omega
    rw [aH h2,aA h4]
   have h4:(x:Int)=y:=by omega
   rw [aH h4] at e;exact absurd Z e
  have e:LJ x y=0:=by simpa using r
  have K:x=y:=by
   unfold LJ at e;split at e
   ·cases e
   split at e
   ·omega
   cases e
  refine Uf fun R f=>Ul _ U7<|C4 1 [0,1,9,10,11] f Z<|Up (m':=a.length-(k+1)) om_ mup (hn_ [0,1,9,10,11] Z) ⟨k+1,⟨by omega,by omega,by rw [<- g,p,j,K];simp [M9]⟩,Z,Z,Z⟩
 have h:k=a.length:=by
  have:¬ k<a.length:=by simpa using o
  omega
 subst h;rw [Rr] at g;refine Ua 5 [35] Z<|Ud (fun s=>?_) fun s=>?_
 ·have u:a.length<b.length:=by simpa using s
  refine Ua 1 [4] Z<|Ui U2<|⟨?_,Z⟩;rw [<- g,QS u];rfl
 have u:¬ a.length<b.length:=by simpa using s
 refine Ua 1 [4] Z<|Ui U2<|⟨?_,Z⟩;rw [<- g,RH om_];rfl
theorem ut (C:Mem)(p:Tabs C)(s:Nat)(r:s<32):Jog.Fn cx.P 41 [.int .u64 s] C [] fun u _ b=>∃ A n c,u=.slice A n c/\b=[.arr u 3 1 (aX s).length ((aX s).map aO).flatten]:=by
 have z:maxLen<=9223372036854775807:=by simp [maxLen]
 refine Uk func41 16 U3 fun w0=>Ua 1 [0] Z<|Ua 1 [0,3] Z<|G.nilArr 3 1<|G.loop (fun fr C' b t=>∃ (x:Nat)(q:List Nat)(d:Option Addr)(n1 e:Nat),(x<32/\q++aX x=aX s)/\fr=[(0,[],.int .u64 x),(3,[],.slice d n1 e)]/\b=[.arr (.slice d n1 e) 3 1 q.length (q.map aO).flatten]/\t=x+x) (hn_ [0,3] Z) ⟨s,[],none,0,0,⟨r,Z⟩,Z,Z,Z⟩ (fun fr B E m _ v=>?_);obtain ⟨x,q,d,n1,e,⟨f,g⟩,rfl,rfl,rfl⟩:=v;refine Ua 2 [0,3,5] Z<|Ud (fun h5=>?_) fun h5=>?_
 ·have a:x≠0:=by simpa using h5
  have w:=D6 x f a;have F:=D7 x f a;have H:q.length<=5:=by
   have h:=congrArg List.length g;rw [Qp] at h;have:(aX s).length<=5:=RE _ _;omega
  refine Ub 2 Z fun R i=>Uo (Oe _ p.m_ x f a) U7<|Ux [[.int .i64 (((aX x).headD 0:Nat):Int)]] U12 fun I _ _ y=>UG (j:=0) U11 y Z ax (by show (q.length+1)*8<=_;omega) fl_ fun k l o=>C4 1 [0,3] i Z<|Ub 2 Z fun R i=>D.int (((x-1:Nat):Int)) U4 (by rw [show ((x:Int)-1)=((x-1:Nat):Int) by omega];exact tB om_) U2<|Vp (x) (x-1) U8 om_ om_ U2<|C4 1 [0,3] i Z<|Ut (L':=[.arr (.slice k l o) 3 1 (q++[(aX x).headD 0]).length ((q++[(aX x).headD 0]).map aO).flatten]) (by rw [QX,Q8,Qp];rfl)<|Up (m':=(x &&& (x-1))+(x &&& (x-1))) om_ mup (hn_ [0,3] Z) ⟨(x &&& (x-1)),q++[(aX x).headD 0],k,l,o,⟨by omega,by rw [QO,List.singleton_append,<- w,g]⟩,Z,Z,Z⟩
 have a:x=0:=by simpa using h5
 subst a;refine Ua 2 [2] Z<|Un (UR Z Z ?_);exact ⟨d,n1,e,Z,by rw [<- g,show aX 0=[] from by decide,QI]⟩
theorem nW (C:Mem)(a:Tabs C)(s:Nat)(b:s<32):Pur cx.P 41 [.int .u64 s] C fun u D=>Sl D 1 u ((aX s).map aO) :=
 WM (t:=3) (n:=(aX s).length) (fun r hr=>by
  obtain ⟨x,_,rfl⟩:=Qt.1 hr;rfl) (aw _) (Fn.mono (ut C a s b) fun u C' d _ ⟨A,n,c,h1,h2⟩=>h2)
theorem Li (s:Nat):iD s<=5:=RE _ _
theorem NN (C:Mem)(e:Tabs C)(a b:Nat)(f:a<32)(g:b<32):Gives cx.P 71 [.int .u64 a,.int .u64 b] C (.int .i64 (Kx a b)):=by
 have j:=Li a;have k:=Li b;refine Uk func71 19 U3 fun w0=>?_;refine Ua 1 [0,1] Z ?_;refine Ub 1 Z fun R c=>?_;refine Uo (ui _ a f) U7 ?_;refine Ue U6 ?_;refine Uo (ui _ b g) U7 ?_;refine Ul _ U7 ?_;refine C4 1 [0,1,5] c Z ?_;refine Ua 2 [0,1,5,12] Z ?_;refine Ud (fun d=>?_) fun d=>?_
 ·have i:(iD a:Int)-iD b≠0:=by simpa using d
  refine Ua 2 [4] Z ?_;refine Ui U2 ?_;refine ⟨?_,Z⟩;unfold Kx;rw [aA (fun h=>i (by rw [h];omega))]
 have i:(iD a:Int)-iD b=0:=by simpa using d
 refine Ub 1 Z fun R c=>?_;refine UM (nW _ e.m_ a f) U7 (fun n _ _ l=>?_);refine Ue U6 ?_;refine UM (nW _ e.m_ b g) U7 (fun o _ _ m=>?_);refine Ur (yZ _ _ _ _ _ l.m_ m.m_ (QE j dc_) (QE k dc_)) U7 fl_ ?_;refine C4 1 [4] c Z ?_;refine Ui U2 ?_;refine ⟨?_,Z⟩;unfold Kx;rw [aH om_]
open Go Go.Jog Go.Shelf
set_option maxRecDepth 100000
def uV (s:Nat):Value:=.int .u64 (s:Nat)
theorem LZ (l:List Nat):l.map uV=(l.map cj).flatten:=(eA uV l).symm
abbrev Pj:Type:={ s:Nat // s<32 }
instance:Inhabited Pj:=⟨⟨0,by decide⟩⟩
theorem Kw:Sort.SWO (ltOf fun (x y:Pj)=>Kx x.1 y.1) where
 irrefl x:=by unfold ltOf;exact QK (fun h=>by have:=(eU x.1 x.2 x.1 x.2).1 h;omega)
 trans x y z h1 h2:=by
  unfold ltOf at *;simp only [Qs] at *;rw [eU x.1 x.2 y.1 y.2] at h1;rw [eU y.1 y.2 z.1 z.2] at h2;rw [eU x.1 x.2 z.1 z.2];omega
 ntrans x y z h1 h2:=by
  unfold ltOf at *;simp only [QG] at *;rw [eU x.1 x.2 y.1 y.2] at h1;rw [eU y.1 y.2 z.1 z.2] at h2;rw [eU x.1 x.2 z.1 z.2];omega
theorem wa:∀ l:List Nat,(∀ s∈l,s<32)->∃ q:List Pj,q.map (·.1)=l
 | [],_=>⟨[],rfl⟩
 | s::l,h=>by
  obtain ⟨q,a⟩:=wa l fun s hs=>h s (Qq _ hs);exact ⟨⟨s,h s aL⟩::q,by rw [QU,a]⟩
theorem IC (C:Mem)(e:Tabs C)(v:Value)(n:Nat)(b:n<6) :
  Jog.Fn cx.P 70 [v,.func (.func 71) #[] #[]] C [.arr v 99 1 (2 ^ n) ((List.range (2 ^ n)).map uV)] fun u _ c=>u=.tuple #[]/\c=[.arr v 99 1 (2 ^ n) ((bH n).map uV)]:=by
 have p:=wz b;obtain ⟨q,a⟩:=wa (List.range (2 ^ n)) fun s hs=>by have:=QA.1 hs;omega
 have g:q.length=2 ^ n:=by rw [<- aw (f:=(·.1)),a,Rh]
 have d:=CM (P:=cx.P) (α:=Pj) Tryz.sortU (fun x=>uV x.1) (fun x=>rfl) (fun x y=>Kx x.1 y.1) Kw 71 [] C
  (fun x y C' i=>NN C' (e.mono i) x.1 y.1 x.2 y.2) v 99 q om_ kr_ kr_
 rw [g,show q.map (fun x:Pj=>uV x.1)=(q.map (·.1)).map uV by rw [Q6];rfl,a] at d;refine Fn.mono d (fun u C' c _ ⟨j,k1,k2,k,l⟩=>⟨k1, ?_⟩);have m:(j.map (·.1)).Perm (List.range (2 ^ n)):=by rw [<- a];exact k.map _
 have o:=vZ b m (by
  rw [List.pairwise_map];refine l.imp fun {x y} h=>?_;unfold ltOf at h;exact Qm h)
 rw [k2,<- o,Q6];rfl
theorem Mm (C:Mem)(q:Tabs C)(g n:Nat)(r s t v w:Value)(x:Option Addr)(y:Nat)(B:C g=some (.cells ⟨[r,s,t,v,.slice x n y,w]⟩ 153 (0,0)))(h:n<6) :
  Jog.Fn cx.P 38 [.pointer (some ⟨g,0,none⟩)] C [] fun u _ b=>∃ A n2 c,u=.slice A n2 c/\b=[.arr u 99 1 (2 ^ n) ((bH n).map uV)]:=by
 have J:maxLen<=9223372036854775807:=by simp [maxLen]
 have K:=wz h;refine Uk func38 23 U3 fun w0=>Ua 1 [0] Z<|Ua 1 [0,3] Z<|Ub 4 Z fun R a=>Uc (bkT B 1) U8<|Ue U6<|VZ (n) Z Z Z Z Z Z (by first | exact .inl Z | exact .inr Z) Z om_ Z Z<|C4 1 [3,11,12] a Z<|G.nilArr 99 1<|G.loop (fun fr C' b E=>∃ (i:Nat)(d:Option Addr)(n1 e:Nat),(i<=2 ^ n)/\fr=[(3,[],.slice d n1 e),(11,[],.int .u64 ((2 ^ n:Nat):Int)),(12,[],.int .u64 i)]/\b=[.arr (.slice d n1 e) 99 1 i ((List.range i).map uV)]/\E=2 ^ n-i) (hn_ [3,11,12] Z) ⟨0,none,0,0,Qn _,Z,Z,Z⟩ (fun fr L M m _ F=>?_);obtain ⟨i,d,n1,e,N,rfl,rfl,rfl⟩:=F;refine Ua 1 [3,11,12,13] Z<|Ud (fun f=>?_) fun f=>?_
 ·have k:i<2 ^ n:=by
   have:=aV f;omega
  refine Ua 2 [3,4,11,12] Z<|Ub 2 Z fun R a=>Ux [[uV i]] U12 fun O _ _ H=>UG (j:=0) U11 H Z ax (by show (i+1)*8<=_;omega) fl_ fun l o p=>C4 1 [3,11,12] a Z<|Uf fun R a=>D.int (((i+1:Nat):Int)) U4 (tB (z:=i+1) om_) U2<|C4 1 [3,11,12] a Z<|Ut (L':=[.arr (.slice l o p) 99 1 (i+1) ((List.range (i+1)).map uV)]) (by rw [Rs,QX];rfl)<|Up (m':=2 ^ n-(i+1)) om_ mup (hn_ [3,11,12] Z) ⟨i+1,l,o,p,om_,Z,Z,Z⟩
 have k:i=2 ^ n:=by
  have:=Qm f;omega
 subst k;refine UB [(1,3)] Z fun R a=>Ue U6<|D.call (IC _ q.m_ _ n h) Z (.inr dc_) U6 (Qo _) fl_ fun Q _ S _ I=>Ug [3] a Z ?_;obtain ⟨rfl,rfl⟩:=I;refine Ua 2 [2] Z<|Un (UR Z Z ?_);exact ⟨d,n1,e,Z,Z⟩
theorem P1 {p:Nat}(h:s*p<=60):ofE z s p=z:=by
 unfold ofE;split
 ·rfl
 rename_i h2;have:z=0:=by simpa using h2
 rw [aA om_,this]
theorem Hu (C:Mem)(a:Value)(B:Bk)(z:Int)(b:BookZ C a B z)(h:bs B*bp B<=60):Gives cx.P 35 [a] C (.tuple #[.int .i64 (if z=0 then ((bs B*bp B:Nat):Int) else 0),.int .i64 z]):=by
 have h1:=Kr C a B z b;rw [P1 h] at h1;exact h1
def mr (n:Nat)(l:List Int)(i:Nat):Int:=if l.getD i 0<0∨(n:Int)<=l.getD i 0 then 3 else if 0<i/\l.getD i 0<=l.getD (i-1) 0 then 6 else 0
def N4 (n:Nat)(l:List Int):Int:=bS (mr n l) l.length
theorem Kz (C:Mem)(g j:Value)(B:Bk)(z:Int)(l:List Int)(t:BookZ C g B z)(J:bs B*bp B<=60)(e:Sl C 1 j (l.map me))(W:l.length<=1000)
  (w:z=0->N4 B.obs.length l=0->∀ D:Mem,C.le D->Pur cx.P 52 [g,j] D fun u _=>∃ v,u=.tuple #[v,.int .i64 0]) :
  Gives cx.P 49 [g,j] C (.int .i64 (if z≠0 then z else N4 B.obs.length l)):=by
 have x:=t;obtain ⟨X,Y,tv,cv,ov,rfl,h1,h2,h3,h4,h5⟩:=id t.i.ex;obtain ⟨A5,c5,rfl,K,aa,_⟩:=id h5;obtain ⟨y,A,rfl,L,ab,_⟩:=id e;have ac:maxLen<=9223372036854775807:=by simp [maxLen]
 simp only [aw] at h5 K x e L w ⊢;refine Uk func49 56 U3 fun w0=>Uf fun R a=>Uw U6 fun M=>C4 1 [1,2] a Z<|G.freeze 0 Z fun _ _ n=>Uf fun R a=>Uc (bkT n 5) U8<|Uo (Hu _ _ B z x.m_ J) U7<|C4 5 [1,2,6] a Z<|Ua 2 [1,2,6,17] Z<|Ud (fun o=>?_) fun o=>?_
 ·have f:z≠0:=by simpa using o
  exact Ua 2 [4] Z<|Ui U2<|⟨by rw [aH f],Z⟩
 have f:z=0:=by simpa using o
 rw [aA (fun h=>h f)];refine Ua 3 [1,2,19,20,21] Z<|G.loop (fun fr C' N O=>∃ (i:Nat),(i<=l.length/\bS (mr B.obs.length l) i=0)/\fr=[(1,[],.slice y l.length A),(2,[],.pointer (some ⟨M,0,none⟩)),(19,[],.slice y l.length A),(20,[],.int .i64 l.length),(21,[],.int .i64 i)]/\N=[]/\O=l.length-i) (hn_ [1,2,19,20,21] Z) ⟨0,⟨Qn _,Z⟩,Z,Z,Z⟩ (fun fr ad ae m _ Q=>?_);obtain ⟨i,⟨hi,c⟩,rfl,rfl,rfl⟩:=Q;refine Ua 1 [1,2,19,20,21,22] Z<|Ud (fun p=>?_) fun p=>?_
 ·have d:i<l.length:=by
   have:=aV p;omega
  obtain ⟨k,E⟩:∃ k,l[i]?=some k:=⟨l[i],ak d⟩;obtain ⟨k1,F⟩:∃ k1,l[i-1]?=some k1:=⟨l[i-1]'om_,ak om_⟩;have q:l.getD i 0=k:=by rw [al,E,Rx]
  have H:l.getD (i-1) 0=k1:=by rw [al,F,Rx]
  refine Ub 1 Z fun R a=>Us e.m_ U10 om_ (bV E) fl_ fun af S=>Uc S U8<|C4 2 [1,2,7,8,19,20,21] a Z<|Ub 5 Z fun R a=>UE U6 (fun _=>PtrTo.blockT (Mem.get n mup) _ 1) U3<|Uh 2 Z<|UF U8<|C4 1 [1,2,7,8,19,20,21,26] a Z<|Ud (fun r=>?_) fun r=>?_
  ·have b:mr B.obs.length l i=3:=by
    unfold mr;rw [q,aH (by simp only [RY,Qs] at r;omega)]
   exact Ua 1 [4] Z<|Ui U2<|⟨by unfold N4;rw [gb c (by rw [b];decide) d,b],Z⟩
  have I:¬ (k<0∨(B.obs.length:Int)<=k):=by
   simp only [RQ,QG] at r;omega
  refine Ub 6 Z fun R a=>Ul _ U7<|D.index U10 (fun T=>⟨e.mono mup,(by have h:decide ((i:Int) > 0)=true:=T.1;have:=aV h;omega),(by rw [show ((i:Int)-1).toNat=i-1 by omega];exact bV F)⟩) fl_ Z fun ag U=>UE U6 U U3<|Ue U6<|UD U8<|C4 1 [1,2,19,20,21,36] a Z<|Ud (fun s=>?_) fun s=>?_
  ·have b:mr B.obs.length l i=6:=by
    unfold mr;rw [q,H,aA I,aH (by simp only [Qu,Qs] at s;omega)]
   exact Ua 1 [4] Z<|Ui U2<|⟨by unfold N4;rw [gb c (by rw [b];decide) d,b],Z⟩
  have b:mr B.obs.length l i=0:=by
   unfold mr;rw [q,H,aA I,aA (fun h=>by simp only [Ta,QG] at s;omega)]
  refine Uf fun R a=>Ul _ U7<|C4 1 [1,2,19,20,21] a Z<|Up (m':=l.length-(i+1)) om_ mup (hn_ [1,2,19,20,21] Z) ⟨i+1,⟨by omega,ik c b⟩,Z,Z,Z⟩
 have d:i=l.length:=by
  have:=Qm p;omega
 subst d;refine Uf fun R a=>Uc (bkT n 5) U8<|Ue U6<|UM (w f c _ mup) U7 (fun ah _ _ V=>?_);obtain ⟨rv,rfl⟩:=V;exact C4 5 [10] a Z<|Ua 2 [4] Z<|Ui U2<|⟨by rw [show N4 B.obs.length l=0 from c],Z⟩
theorem DJ (h:FeasO p t u):∃ (row:Int)(a:Bool),u=.tuple #[.int .i64 row,.bool a]/\(a=true->t.Feas p.n) /\
  (a=false->∃ r:Nat,row=r/\r<t.basic.length/\p.n<=t.bas r/\(t.line r).c<0/\∀ s,s<t.others.length->p.n<=t.oth s->(t.line r).g s<=0):=by
 cases h with
 | yes h=>exact ⟨0,true,rfl,fun _=>h,fun h=>by cases h⟩
 | no r h1 h2 h3 h4=>exact ⟨r,false,rfl,fun h=>(by cases h),fun _=>⟨r,rfl,h1,h2,h3,h4⟩⟩
theorem Gg (h:MinO p t u):∃ (b:Int)(a:Bool),u=.tuple #[.int .i64 b,.bool a]/\(a=true->Lp.RelW p.n t/\∀ s,s<t.others.length->p.n<=t.oth s->0<=t.worth.g s) /\
  (a=false->∃ s:Nat,b=s/\s<t.others.length/\kY t s*t.worth.g s<0/\(∀ i,i<t.basic.length->p.n<=t.bas i->0<=kY t s*(t.line i).g s)/\(p.n<=t.oth s->0<=kY t s)):=by
 cases h with
 | yes h1 h2=>exact ⟨0,true,rfl,fun _=>⟨h1,h2⟩,fun h=>by cases h⟩
 | no s h1 h2 h3 h4=>exact ⟨s,false,rfl,fun h=>(by cases h),fun _=>⟨s,rfl,h1,h2,h3,h4⟩⟩
inductive SolO (p:Lp.Sys) (cc:Nat->Rat) (D:Mem):Value->Prop where
 | opt (val:Rat) (pt du:Nat->Rat) (vp vd:Value):Lp.OptR p cc 16 val pt du->Sl D 1 vp (((List.range p.n).map pt).map aY)->Sl D 1 vd (((List.range p.m).map du).map aY)->SolO p cc D (.agg ⟨[.int .i64 1,ah (qtx val),vp,vd,.slice none 0 0]⟩)
 | inf (du:Nat->Rat) (vd:Value):Lp.InfR p 16 du->Sl D 1 vd (((List.range p.m).map du).map aY)->SolO p cc D (.agg ⟨[.int .i64 2,ah [],.slice none 0 0,vd,.slice none 0 0]⟩)
 | unb (pt ra:Nat->Rat) (vp vr:Value):Lp.UnbR p cc 16 pt ra->Sl D 1 vp (((List.range p.n).map pt).map aY)->Sl D 1 vr (((List.range p.n).map ra).map aY)->SolO p cc D (.agg ⟨[.int .i64 3,ah [],vp,.slice none 0 0,vr]⟩)
theorem I6 :kY t s=1∨kY t s=-1:=by unfold kY;split <;> simp
theorem ID (C:Mem)(x:Tabs C)(n:Nat)(V F:Value)(k:List (List Rat × Rat))(l:List Rat)(H:RowsT C V (k.map iJ))(ho:Sl C 1 F (l.map aY))(X:RowsQ n k)(Y:n<=1000)(ai:l.length=n)(f:Lp.Lim (eX n k) (fun j=>l.getD j 0) 16) :
  Pur cx.P 77 [.agg ⟨[.int .i64 n,V,F]⟩] C fun u D=>SolO (eX n k) (fun j=>l.getD j 0) D u:=by
 have aR:maxLen<=9223372036854775807:=by simp [maxLen]
 have hm:=X.m;have aj:=H;obtain ⟨vs,ak,_,al⟩:=aj;obtain ⟨Ar,cr,rfl,_⟩:=id al;rw [tw ak,aw] at H ⊢;obtain ⟨p,I⟩:∃ p,eX n k=p:=⟨_,rfl⟩;obtain ⟨cc,an⟩:∃ cc:Nat->Rat,(fun j=>l.getD j 0)=cc:=⟨_,rfl⟩;have ao:p.n=n:=by rw [<- I];rfl
 have ap:p.m=k.length:=by rw [<- I];rfl
 have z:=fun (D:Mem)(J:C.le D)=>Jl D (x.mono J) n (.slice Ar k.length cr) F k l (H.mono J) (ho.mono J) X Y ai;rw [I,an] at f z ⊢;rw [<- ao] at z Y ⊢;rw [<- ap] at z ⊢;refine Uk func77 57 U3 fun w0=>?_;refine Uf fun R a=>?_;refine Uw U6 (fun b1=>?_);refine Uv U5 (fun b2=>?_);refine Ug [1,2] a Z ?_;clear a R;refine G.freeze 1 Z (fun _ _ K=>?_);refine UB [(1,3)] Z (fun R a=>?_);refine Uc (bkT K 3) U8 ?_;refine D.call (z _ mup) Z (.inr dc_) U6 (Qo _) fl_ (fun v9 C9 L9 _ aq=>?_);obtain ⟨b,wB,wL,wO,wW,wF,rfl,rfl⟩:=aq;refine C4 1 [1,2,3] a Z ?_;clear a R;refine UB [(1,3)] Z (fun R a=>?_);refine Ue U6 ?_;refine D.call (CZ _ x.m_ p cc b _ wB wL wO wW wF Lp.openT_inv Z f om_ om_) Z (.inr dc_) U6 (Qo _) fl_ (fun aS _ aT _ ar=>?_);refine Ug [1,2,3] a Z ?_;clear a R;obtain ⟨-,t1,au,av,ax,rfl⟩:=ar;refine UB [(1,3)] Z (fun R a=>?_);refine Ue U6 ?_;refine D.call (yP _ x.m_ p cc b t1 wB wL wO wW au av ax f om_ om_) Z (.inr dc_) U6 (Qo _) fl_ (fun aU _ aV _ ay=>?_);obtain ⟨t,aa,w,ab,hF,rfl⟩:=ay;obtain ⟨row,is,rfl,az,aA⟩:=DJ hF;refine C4 5 [1,2,3,4,5] a Z ?_;clear a R;refine Ua 2 [1,2,3,4,18] Z ?_;refine Ud (fun L=>?_) fun L=>?_
 ·have M:is=false:=by simpa using L
  obtain ⟨r,rfl,N,ac,aB,aC⟩:=aA M;refine Vw (fe b p.n t wB wL wO wW aa) (gd w.tab.ok) (fun C5 _ y=>?_);have h:=eW w.tab.ok y;refine Ub 3 Z fun R a=>?_;refine Uc (bkT K 1) U8 ?_;refine Ue U6 ?_;refine UH (I5 _ p b r t wB wL wO wW _ h.m_ w.tab om_ N ac (fun q=>(w.dualQ f dc_ N q).le dc_)) U7 fl_ (fun aW _ _ aD=>?_);obtain ⟨g,rfl,hg⟩:=aD;refine Uu [.int .i64 2,ah [],.slice none 0 0,.slice (some ⟨g,0,none⟩) p.m p.m,.slice none 0 0] U8 ?_;refine Um (j:=0) U12 ?_;refine Ug [2] a Z ?_;clear a R;refine Un (UU af U4 ?_);exact ⟨Z,.inf _ _ (w.inf f dc_ ab N ac aB aC) hg.m_⟩
 have M:is=true:=by simpa using L
 have aE:=az M;refine UB [(1,3)] Z (fun R a=>?_);refine Ue U6 ?_;refine D.call (yx _ x.m_ p cc b t wB wL wO wW aa w ab aE f om_ om_) Z (.inr dc_) U6 (Qo _) fl_ (fun aX _ aZ _ aF=>?_);obtain ⟨d,ad,e,ae,hM,rfl⟩:=aF;obtain ⟨a0,ag,rfl,aG,aH⟩:=Gg hM;refine C4 5 [1,2,3,6,7] a Z ?_;clear a R;refine Ua 2 [1,2,3,6,32] Z ?_;refine Ud (fun O=>?_) fun O=>?_
 ·have Q:ag=false:=by simpa using O
  obtain ⟨s,rfl,A,aI,aJ,aK⟩:=aH Q;refine Vw (fe b p.n d wB wL wO wW ad) (gd e.tab.ok) (fun C5 _ y=>?_);have h:=eW e.tab.ok y;refine UB [(1,3),(4,3)] Z (fun R a=>?_);refine Ue U6 ?_;refine D.call (Ba _ b p.n (p.n+p.m) d wB wL wO wW _ h.m_ e.tab.ok om_) Z (.inr dc_) U6 (Qo _) fl_ (fun a1 _ a2 _ aL=>?_);obtain ⟨S,rfl,rfl⟩:=aL;refine Uh 2 Z ?_;refine D.call (OG _ x.m_ p b s d wB wL wO wW _ h.m_ e.tab A om_ (fun i hi=>e.fac f hi A) (e.wfac f A)) Z (.inr dc_) U6 (Qo _) fl_ (fun a3 _ a4 _ aM=>?_);obtain ⟨B,rfl,rfl⟩:=aM;refine Uu [.int .i64 3,ah [],.slice (some ⟨S,0,none⟩) p.n p.n,.slice none 0 0,.slice (some ⟨B,0,none⟩) p.n p.n] U8 ?_;refine Um (j:=2) U12 ?_;refine Ug [2] a Z ?_;clear a R;refine G.freezeArr 1 (((List.range p.n).map fun v=>kY d s*d.dir s v).map aY) Z Z dY am (fun C8 _ T=>?_);refine G.freezeArr 1 (((List.range p.n).map d.sol).map aY) Z Z dY am (fun C9 _ U=>?_);refine Un (UU af U4 ?_);exact ⟨Z,.unb _ _ _ _ (e.unb f dc_ ae A I6 aI aJ aK) U T.m_⟩
 have Q:ag=true:=by simpa using O
 obtain ⟨aN,aO⟩:=aG Q;refine Vw (fe b p.n d wB wL wO wW ad) (gd e.tab.ok) (fun C5 _ y=>?_);have h:=eW e.tab.ok y;refine Uy [0,1,2,3,4,5,7,8,9,10,11,12,13,14,6,15,16,17,18] [(6,3),(15,3),(4,0),(11,0),(13,0)] Z kr_ (fun R E a=>?_);refine Uh 4 Z ?_;refine Vc (fun _=>((PtrTo.blockT h.o _ 1).mono E)) U9 ?_;refine Uh 5 Z ?_;refine Vc (fun _=>((PtrTo.blockT h.o _ 2).mono E)) U9 ?_;refine Ue U6 ?_;refine Vc (fun _=>((bkT K 1).mono E)) U9 ?_;refine Ue U6 ?_;refine D.call (Ba _ b p.n (p.n+p.m) d wB wL wO wW _ h.m_ e.tab.ok om_) Z (.inr dc_) U6 (Qo _) fl_ (fun a5 _ a6 _ aP=>?_);refine D.call (G8 _ p b d d.worth wB wL wO wW wW _ h.m_ e.tab om_ h.W.m_ e.tab.ok.wl) Z (.inr dc_) U6 (Qo _) fl_ (fun a7 _ a8 _ aQ=>?_);obtain ⟨B,rfl,rfl⟩:=aQ;obtain ⟨S,rfl,rfl⟩:=aP;refine Uu [.slice (some ⟨B,0,none⟩) p.m p.m] U8 ?_;refine Uu [.int .i64 1,ah (qtx d.worth.c),.slice (some ⟨S,0,none⟩) p.n p.n,.slice (some ⟨B,0,none⟩) p.m p.m,.slice none 0 0] U8 ?_;refine Um (j:=2) U12 ?_;refine Ug [2] a Z ?_;clear a E R;refine G.freezeArr 1 (((List.range p.m).map (Lp.dualV p d d.worth)).map aY) Z Z dY am (fun C8 _ T=>?_);refine G.freezeArr 1 (((List.range p.n).map d.sol).map aY) Z Z dY am (fun C9 _ U=>?_);refine Un (UU af U4 ?_);exact ⟨Z,.opt _ _ _ _ _ (e.opt f dc_ ae aN aO) U T.m_⟩
theorem No (C:Mem)(n:Nat)(j:n<=1000000):Jog.Fn cx.P 186 [.slice none 0 0,.int .i64 n] C [] fun u _ h=>∃ A n2 c,u=.slice A n2 c/\h=[.arr u 56 1 0 []]:=by
 have k:maxLen<=9223372036854775807:=by simp [maxLen]
 refine Uk func186 27 U3 fun w0=>Ua 1 [0,1] Z<|Ua 2 [0,1,6] Z<|Ud (fun d=>?_) fun d=>?_
 ·simp at d;omega
 refine Ub 2 Z fun R a=>V0 Z Z Z Z Z Z Z Z Z<|Uh 2 Z<|Ul _ U7<|Ul _ U7<|C4 1 [0,1] a Z<|Ua 2 [0,1,16] Z<|Ud (fun f=>?_) fun f=>?_
 ·have i:0<n:=by
   simp at f;omega
  refine Ub 2 Z fun R a=>V0 Z Z Z Z Z Z Z Z Z<|U0 0 0 0 U12 (fun _=>⟨.inl ⟨Z,Z⟩,.inr ⟨_,Z⟩,.inl ⟨Z,Z⟩,Qj _,Qj _,Qj _⟩) U2<|Ue U6<|WC (m:=n) Z Z Z Z Z Z Z Z Z Z Z Z i (by show n*16<=_;omega) (by simp only [maxLen];omega) fl_ fun b g l=>Uh 2 Z<|U0 0 0 g U12 (fun _=>⟨.inl ⟨Z,Z⟩,.inr ⟨_,Z⟩,.inl ⟨Z,Z⟩,Qj _,Qn _,Qj _⟩) U2<|C4 1 [0] a Z<|Ua 2 [4] Z<|WT 0 0 Z (Qn _)<|Un (UR Z Z ?_);refine ⟨_,_,_,Z, ?_⟩;have e:(if g=0 then some (⟨b,0,none⟩:Addr) else (some (⟨b,0,none⟩:Addr)).map (·.add (0*1)))=some ⟨b,0,none⟩:=by
   split
   ·rfl
   simp [Addr.add_lit]
  rw [e];simp
 refine Ua 2 [4] Z<|G.nilArr 56 1<|Un (UR Z Z ?_);exact ⟨none,0,0,Z,Z⟩
def nC (xs:List (Value × List Rat)):List Rat:=(xs.map (·.2)).flatten
theorem xD {a:List (Value × List Rat)}{x:Value × List Rat}(h:a[i]?=some x):nC (a.take (i+1))=nC (a.take i)++x.2:=by
 unfold nC;rw [QJ,h];simp
theorem HD (a:List (Value × List Rat))(i:Nat):(nC (a.take i)).length<=(nC a).length:=by
 have h:nC a=nC (a.take i)++nC (a.drop i):=by
  unfold nC;rw [<- Q8,<- QX,Rn]
 rw [h,Qp];omega
def Nv (x:Value × List Rat):List Value:=[x.1]
theorem Hw (C:Mem)(v:Value)(a:List (Value × List Rat))(h:Sl C 1 v (a.map Nv))(B:∀ x∈a,Sl C 1 x.1 (x.2.map aY))(K:(nC a).length<=1000000) :
  Jog.Fn cx.P 122 [v] C [] fun u _ e=>∃ A n2 c,u=.slice A n2 c/\e=[.arr u 56 1 (nC a).length ((nC a).map aY).flatten]:=by
 obtain ⟨p,c0,rfl,L,X,_⟩:=id h;have Y:maxLen<=9223372036854775807:=by simp [maxLen]
 simp only [aw] at h L ⊢;refine Uk func122 36 U3 fun w0=>Ua 1 [0] Z<|Ua 1 [0,3] Z<|Ua 3 [0,3,9,10,11] Z<|G.loop (fun fr C' e q=>∃ (i:Nat)(z:Int),(i<=a.length/\z=(nC (a.take i)).length)/\fr=[(0,[],.slice p a.length c0),(3,[],.int .i64 z),(9,[],.slice p a.length c0),(10,[],.int .i64 a.length),(11,[],.int .i64 i)]/\e=[]/\q=a.length-i) (hn_ [0,3,9,10,11] Z) ⟨0,0,⟨Qn _,Z⟩,Z,Z,Z⟩ (fun fr aa ab m _ r=>?_);obtain ⟨i,z,⟨hi,s⟩,rfl,rfl,rfl⟩:=r;refine Ua 1 [0,3,9,10,11,12] Z<|Ud (fun t=>?_) fun t=>?_
 ·have f:i<a.length:=by
   have:=aV t;omega
  obtain ⟨x,d⟩:∃ x,a[i]?=some x:=⟨a[i],ak f⟩;have g:=B x (Qi d);obtain ⟨w,l⟩:=x;simp only at g;obtain ⟨Ax,ac,rfl,M,ad,_⟩:=id g;simp only [aw] at g M d;have k:=xD d;have E:=HD a (i+1);have N:(nC (a.take (i+1))).length=(nC (a.take i)).length+l.length:=by rw [k,Qp]
  refine Uf fun R b=>Us h.m_ U10 om_ (show (a.map Nv)[i]?=some [_] from gi d) fl_ fun ae O=>Uc O U8<|C4 1 [0,3,5,9,10,11] b Z<|Ub 3 Z fun R b=>Ul _ U7<|C4 1 [0,3,9,10,11] b Z<|Ua 2 [0,3,9,10,11,20] Z<|Ud (fun F=>?_) fun F=>?_
  ·exfalso;have af:=aV F;omega
  refine Uf fun R b=>Ul _ U7<|C4 1 [0,3,9,10,11] b Z<|Up (m':=a.length-(i+1)) om_ mup (hn_ [0,3,9,10,11] Z) ⟨i+1,_,⟨by omega,by rw [s];omega⟩,Z,Z,Z⟩
 have f:i=a.length:=by
  have:=Qm t;omega
 rw [f,Qv] at s;subst s;refine UB [(1,3)] Z fun R b=>Ue U6<|D.call (No _ (nC a).length K) Z (.inr dc_) U6 (Qo _) fl_ (fun ag _ ai _ Q=>?_);obtain ⟨S,T,U,rfl,rfl⟩:=Q;refine C4 1 [0,6] b Z<|Ua 3 [6,25,26,27] Z<|G.loop (fun fr C' e q=>∃ (i:Nat)(n:Option Addr)(n1 o:Nat),(i<=a.length)/\fr=[(6,[],.slice n n1 o),(25,[],.slice p a.length c0),(26,[],.int .i64 a.length),(27,[],.int .i64 i)]/\e=[.arr (.slice n n1 o) 56 1 (nC (a.take i)).length ((nC (a.take i)).map aY).flatten]/\q=a.length-i) (hn_ [6,25,26,27] Z) ⟨0,S,T,U,Qn _,Z,Z,Z⟩ (fun fr aj al m E r=>?_);obtain ⟨i,n,n1,o,am,rfl,rfl,rfl⟩:=r;refine Ua 1 [6,25,26,27,28] Z<|Ud (fun y=>?_) fun y=>?_
 ·have f:i<a.length:=by
   have:=aV y;omega
  obtain ⟨x,d⟩:∃ x,a[i]?=some x:=⟨a[i],ak f⟩;have g:=B x (Qi d);have k:=xD d;have E:=HD a (i+1);have N:(nC (a.take (i+1))).length=(nC (a.take i)).length+x.2.length:=by rw [k,Qp]
  refine Uf fun R b=>Us h.m_ U10 om_ (show (a.map Nv)[i]?=some [x.1] from gi d) fl_ fun an V=>Uc V U8<|C4 1 [6,8,25,26,27] b Z<|Ub 2 Z fun R b=>UG (j:=0) U11 g.m_ (by simp [aY,nU,ah]) (by simp only [aw,maxLen];omega) (by show ((nC (a.take i)).length+(x.2.map aY).length)*16<=_;rw [aw];omega) fl_ fun H I J=>C4 1 [6,25,26,27] b Z<|Uf fun R b=>Ul _ U7<|C4 1 [6,25,26,27] b Z<|Ut (L':=[.arr (.slice H I J) 56 1 (nC (a.take (i+1))).length ((nC (a.take (i+1))).map aY).flatten]) (by rw [k,QX,Q8,Qp,aw];rfl)<|Up (m':=a.length-(i+1)) om_ mup (hn_ [6,25,26,27] Z) ⟨i+1,H,I,J,om_,Z,Z,Z⟩
 have W:i=a.length:=by
  have:=Qm y;omega
 refine Ua 2 [2] Z<|Un (UR Z Z ?_);exact ⟨n,n1,o,Z,by rw [W,Qv]⟩
theorem IP (C:Mem)(N:Tabs C)(o:Int)(y:Str)(f g i:Value)(a b c:List Rat)(z:Sl C 1 f (a.map aY))(A:Sl C 1 g (b.map aY))(B:Sl C 1 i (c.map aY))(O:∀ x∈a,QB 16 x)(Q:∀ x∈b,QB 16 x)(S:∀ x∈c,QB 16 x)(ae:a.length<=1000)(af:b.length<=1000)(ag:c.length<=1000)
  (T:o=1->∃ q,y=qtx q/\QB 16 q):Gives cx.P 78 [.agg ⟨[.int .i64 o,ah y,f,g,i]⟩] C (.bool true):=by
 have E:nC [(f,a),(g,b),(i,c)]=a++(b++(c++[])):=rfl;have F:(nC [(f,a),(g,b),(i,c)]).length<=1000000:=by rw [E];simp;omega
 obtain ⟨all,H⟩:∃ all,nC [(f,a),(g,b),(i,c)]=all:=⟨_,rfl⟩;have I:∀ x∈all,QB 16 x:=fun x d=>by
  rw [<- H,E] at d;simp only [Qy,Rk,SI] at d;rcases d with h | h | h
  ·exact O x h
  ·exact Q x h
  exact S x h
 have U:∀ l:List Rat,(∀ x∈l,QB 16 x)->((l.map qtx).any fun s=>!ba s)=false:=fun l V=>List.any_eq_false.2 fun s hs=>by
  obtain ⟨x,d,rfl⟩:=Qt.1 hs;rw [bP ((V x d).le dc_)];decide
 obtain ⟨p,r,rfl,_⟩:=id z;obtain ⟨t,u,rfl,_⟩:=id A;obtain ⟨v,w,rfl,_⟩:=id B;have W:∀ D:Mem,C.le D->∀ x∈[(Value.slice p (a.map aY).length r,a),(Value.slice t (b.map aY).length u,b),(Value.slice v (c.map aY).length w,c)],Sl D 1 x.1 (x.2.map aY):=fun D k x d=>by
  simp only [Qw,Rk,SI] at d;rcases d with h | h | h
  ·rw [h];exact z.mono k
  ·rw [h];exact A.mono k
  rw [h];exact B.mono k
 refine Uk func78 24 U3 fun w0=>Uf fun R e=>Uw U6 fun b1=>C4 1 [1] e Z<|G.freeze 0 Z fun _ _ m=>UB [(8,3)] Z fun R e=>Ue U6<|Uc (bkT m 1) U8<|Uh 2 Z<|Uc (bkT m 1) U8<|Ue U6<|Uc (bkT m 1) U8<|Ux [[.slice p (a.map aY).length r],[.slice t (b.map aY).length u],[.slice v (c.map aY).length w]] U12 fun ai _ _ X=>D.call (Hw _ _ [(.slice p (a.map aY).length r,a),(.slice t (b.map aY).length u,b),(.slice v (c.map aY).length w,c)] X.m_ (W _ mup) F) Z (.inr dc_) U6 (Qo _) fl_ (fun aj _ ak _ Y=>?_);obtain ⟨A3,n3,c3,rfl,rfl⟩:=Y;rw [H] at F ⊢;refine C4 1 [1,3] e Z<|Ub 1 Z fun R e=>Uc (bkT m 1) U8<|C4 1 [1,3,15] e Z<|G.cut (fun fr C' J μ=>∃ (n:Value)(l:List Rat),(∀ x∈l,QB 16 x)/\fr=[(3,[],n)]/\J=[.arr n 56 1 l.length (l.map aY).flatten]) ?_ (fun fr _ al μ _ hI=>?_)
 ·refine Ud (fun K=>?_) fun K=>?_
  ·have aa:o=1:=by simpa using K
   obtain ⟨q,rfl,ab⟩:=T aa;refine Ub 2 Z fun R e=>Uc (bkT m 1) U8<|Ux [[ah (qtx q)]] U12 fun an _ _ ac=>D.append (j:=0) U11 ac Z ax (by show (all.length+1)*16<=_;omega) fl_ fun L=>C4 1 [3] e Z<|Ut (L':=[.arr L 56 1 (all++[q]).length ((all++[q]).map aY).flatten]) (by rw [QX,Q8,Qp];rfl)<|Uq 0 mup (hn_ [3] Z) ⟨L,all++[q],fun x d=>by
    rcases Qy.1 d with h | h
    ·exact I x h
    rw [QF.1 h];exact ab,rfl,rfl⟩
  refine Uq 0 (Mem.le.refl _) (hn_ [3] Z) ⟨_,all,I,Z,Z⟩
 obtain ⟨n ,l,M,rfl,rfl⟩:=hI;refine G.freezeArr 0 (l.map aY) Z Z dY am fun _ _ ad=>Ub 1 Z fun R e=>Ur (FT _ n (l.map qtx) 89 [] (fun s=>!ba s) (by rw [<- BI];exact ad.mono mup) kr_ (fun s hs D k=>by
  obtain ⟨x,d,rfl⟩:=Qt.1 hs;exact pj D (N.mono (Mem.le.trans mup k)) (qtx x) (QE (bK (M x d) dc_) dc_))) U7 fl_ ?_
 exact C4 2 [2] e Z<|Ui U2<|⟨by rw [U l M];rfl,Z⟩
theorem se {n:Int}{l:List Str}:jh n l=0 ↔ (l.length:Int)=n/\l.all ba=true:=by
 unfold jh;by_cases h:(l.length:Int)=n
 ·rw [aH h];rcases sR (l.all ba) with ⟨h1,h2⟩ | ⟨h1,h2⟩
  ·rw [h1];exact ⟨fun _=>⟨h,h2⟩,fun _=>rfl⟩
  rw [h1,h2];exact ⟨fun h=>(by cases h),fun h=>(by cases h.2)⟩
 rw [aA h];exact ⟨fun h=>(by cases h),fun h2=>absurd h2.1 h⟩
theorem Fl {n:Int}{r:List Str × Str}:Fm n r=0 ↔ jh n r.1=0/\ba r.2=true:=by
 unfold Fm;by_cases h:jh n r.1=0
 ·rw [aA (fun a=>a h)];rcases sR (ba r.2) with ⟨h1,h2⟩ | ⟨h1,h2⟩
  ·rw [h1];exact ⟨fun _=>⟨h,h2⟩,fun _=>rfl⟩
  rw [h1,h2];exact ⟨fun h=>(by cases h),fun h=>(by cases h.2)⟩
 rw [aH h];exact ⟨fun h2=>absurd h2 h,fun h2=>absurd h2.1 h⟩
theorem E4 {D:Mem}(h:SolO p cc D u):∃ (kd:Int)(val:Str)(e g i:Value)(a b c:List Rat),u=.agg ⟨[.int .i64 kd,ah val,e,g,i]⟩/\Sl D 1 e (a.map aY)/\Sl D 1 g (b.map aY)/\Sl D 1 i (c.map aY) /\
  (∀ x∈a,QB 16 x)/\(∀ x∈b,QB 16 x)/\(∀ x∈c,QB 16 x)/\a.length<=p.n/\b.length<=p.m/\c.length<=p.n/\(kd=1->∃ q,val=qtx q/\QB 16 q):=by
 have hr:∀ (n:Nat)(f:Nat->Rat),(∀ j,QB 16 (f j))->∀ x∈(List.range n).map f,QB 16 x:=fun n f o x d=>by
  obtain ⟨j,_,rfl⟩:=Qt.1 d;exact o j
 cases h with
 | opt val pt du e g k h1 h2=>exact ⟨1,qtx val,e,g,.slice none 0 0,_,_,[],rfl,h1,h2,Sl.nil _ _,hr _ _ k.qp,hr _ _ k.qd,fun x d=>(by cases d),by simp,by simp,Qn _,fun _=>⟨val,rfl,k.qv⟩⟩
 | inf du g r h1=>exact ⟨2,[],.slice none 0 0,g,.slice none 0 0,[],_,[],rfl,Sl.nil _ _,h1,Sl.nil _ _,fun x d=>(by cases d),hr _ _ r.qd,fun x d=>(by cases d),Qn _,by simp,Qn _,fun h=>absurd h dc_⟩
 | unb pt ra e i l h1 h2=>exact ⟨3,[],e,.slice none 0 0,i,_,[],_,rfl,h1,Sl.nil _ _,h2,hr _ _ l.qp,fun x d=>(by cases d),hr _ _ l.qr,by simp,Qn _,by simp,fun h=>absurd h dc_⟩
theorem sY {l:List Rat}(h:∀ x∈l,QB 22 x):(l.map qtx).all ba=true:=Qx.2 fun s hs=>by
 obtain ⟨x,a,rfl⟩:=Qt.1 hs;exact bP (h x a)
theorem oY {n:Nat}:∀ {rs:List (List Rat × Rat)},(∀ r∈rs,r.1.length=n)->(∀ r∈rs,(∀ x∈r.1,QB 22 x)/\QB 22 r.2)->tN n (rs.map iJ)=0
 | [],_,_=>rfl
 | r::rs,b,a=>by
  have e:tN n ((r::rs).map iJ)=if Fm n (iJ r)≠0 then Fm n (iJ r) else tN n (rs.map iJ):=rfl;have h0:Fm n (iJ r)=0:=Fl.2 ⟨se.2 ⟨by show ((r.1.map qtx).length:Int)=n;rw [aw,b r aL],sY (a r aL).1⟩,bP (a r aL).2⟩;rw [e,aA fun h=>h h0];exact oY (fun r hr=>b r (Qq _ hr)) fun r hr=>a r (Qq _ hr)
theorem DW (e:n<=60)(f:rs.length<=300)(a:∀ r∈rs,r.1.length=n)(b:∀ r∈rs,(∀ x∈r.1,QB 22 x)/\QB 22 r.2)(c:ob.length=n)(d:∀ x∈ob,QB 22 x):Ky n (rs.map iJ) (ob.map qtx)=0:=by
 unfold Ky;rw [aA om_,aA (by rw [aw];omega),aA fun h=>h (se.2 ⟨by rw [aw,c],sY d⟩)];exact oY a b
inductive FeaO (p:Lp.Sys) (D:Mem):Value->Prop where
 | yes (pt:Nat->Rat) (vp:Value):p.Hold->(∀ j,QB 16 (pt j))->Sl D 1 vp (((List.range p.n).map pt).map aY)->FeaO p D (.tuple #[vp,.agg ⟨[.slice none 0 0]⟩,.bool true,.int .i64 0])
 | no (du:Nat->Rat) (vd:Value):Lp.InfR p 16 du->Sl D 1 vd (((List.range p.m).map du).map aY)->FeaO p D (.tuple #[.slice none 0 0,.agg ⟨[vd]⟩,.bool false,.int .i64 0])
theorem IF {D:Mem}{c:Int}{g a b d:Value}(h:SolO p cc D (.agg ⟨[.int .i64 c,g,a,b,d]⟩)) :
  (c=2/\∃ du,Lp.InfR p 16 du/\Sl D 1 b (((List.range p.m).map du).map aY))∨(c≠2/\∃ pt,(p.Hold∨∃ ra,Lp.UnbR p cc 16 pt ra)/\(∀ j,QB 16 (pt j))/\Sl D 1 a (((List.range p.n).map pt).map aY)):=by
 cases h with
 | opt w pt du a b e h1 h2=>exact .inr ⟨by decide,pt,.inl e.hold,e.qp,h1⟩
 | inf du b i h1=>exact .inl ⟨rfl,du,i,h1⟩
 | unb pt ra a d f h1 h2=>exact .inr ⟨by decide,pt,.inr ⟨ra,f⟩,f.qp,h1⟩
theorem AO (n:Nat):List.replicate n (ah [48])=((List.replicate n (0:Rat)).map aY).flatten:=by
 rw [Tp,P8];induction n with
 | zero=>rfl
 | succ n a=>rw [RG,RG,RM,a];rfl
theorem Ft (n j:Nat):(List.replicate n (0:Rat)).getD j 0=0:=by
 rw [al,R4];split <;> rfl
theorem Jo (C:Mem)(t:Tabs C)(n:Nat)(g k:Value)(f:List (List Rat × Rat))(i:List Rat)(o:RowsT C g (f.map iJ))(v:Sl C 1 k (i.map aY))(w:RowsQ n f)(B:∀ x∈i,QB 22 x)(E:∀ r∈f,(∀ x∈r.1,QB 22 x)/\QB 22 r.2)(N:n<=60)(O:i.length=n)(Q:Lp.Lim (eX n f) (fun _=>0) 16) :
  Pur cx.P 43 [.agg ⟨[.int .i64 n,g,k]⟩] C fun u D=>FeaO (eX n f) D u:=by
 have ag:maxLen<=9223372036854775807:=by simp [maxLen]
 have hm:=w.m;have S:Ky n (f.map iJ) (i.map qtx)=0:=DW N om_ w.l E O B;have T:∀ D:Mem,C.le D->Gives cx.P 56 [.agg ⟨[.int .i64 n,g,k]⟩] D (.int .i64 0):=fun D y=>by
  have h:=FQ D (t.mono y) n g k (f.map iJ) (i.map qtx) (o.mono y) (by rw [<- BI];exact v.mono y) (fun r o=>by
   obtain ⟨r,U,rfl⟩:=Qt.1 o;obtain ⟨h1,h2⟩:=E r U;refine ⟨fun s hs=>?_,QE (bK h2 dc_) dc_⟩;obtain ⟨x,z,rfl⟩:=Qt.1 hs;exact QE (bK (h1 x z) dc_) dc_) (fun s hs=>by
   obtain ⟨x,z,rfl⟩:=Qt.1 hs;exact QE (bK (B x z) dc_) dc_)
  rw [S] at h;exact h
 have V:Lp.Lim (eX n f) (fun j=>(List.replicate n (0:Rat)).getD j 0) 16:=by
  have e:(fun j=>(List.replicate n (0:Rat)).getD j 0)=fun _=>(0:Rat):=funext (Ft n);rw [e];exact Q
 refine Uk func43 32 U3 fun w0=>Uf fun R d=>Uw U6 fun b1=>Ue U6<|Uv U5 fun b3=>C4 2 [1,3] d Z<|Uf fun R d=>Uj ae U9<|Uo (T _ mup) U7<|C4 1 [1,3,6] d Z<|Ua 2 [1,3,6,11] Z<|Ud (fun F=>?_) fun F=>?_
 ·exact absurd F dc_
 refine UB [(2,3)] Z fun R d=>Ue U6<|Uj ae U9<|D.call (iW _ n om_) Z (.inr dc_) U6 (Qo _) fl_ (fun ah _ ai _ W=>?_);obtain ⟨bz,rfl,rfl⟩:=W;rw [AO];refine Ue U6<|Um (j:=2) U12<|Ug [1,3] d Z<|G.freezeArr 1 ((List.replicate n (0:Rat)).map aY) Z Z dY am fun _ _ X=>G.freeze 0 Z fun _ _ Y=>Uf fun R d=>Uc (bkT Y 3) U8<|UH (ID _ t.m_ n g _ f (List.replicate n 0) o.m_ X.m_ w om_ am V) U7 fl_ (fun aj _ _ H=>?_);obtain ⟨kd,val,vp,vd,vr,a,b,c,rfl,I,J,K,qa,qb,qc,aa,ab,ac,hv⟩:=E4 H;have A:=IF H;rw [show (fun j=>(List.replicate n (0:Rat)).getD j 0)=fun _=>(0:Rat) from funext (Ft n)] at A;obtain ⟨Ap,cp,rfl,_⟩:=id I;obtain ⟨Ad,cd,rfl,_⟩:=id J;obtain ⟨Ar,cr,rfl,_⟩:=id K;refine Uv U5 fun b7=>Um (j:=0) U12<|Ug [3,7] d Z<|G.freeze 0 Z fun _ _ p=>Uf fun R d=>Uc (bkT p 5) U8<|Ur (IP _ t.m_ kd val _ _ _ a b c I.m_ J.m_ K.m_ qa qb qc (QE aa (by show n<=_;omega)) (QE ab (by show f.length<=_;omega)) (QE ac (by show n<=_;omega)) hv) U7 fl_<|C4 1 [3,7,22] d Z<|Ud (fun L=>?_) fun L=>?_
 ·exact absurd L dc_
 refine Ub 1 Z fun R d=>Uc (bkT p 1) U8<|C4 1 [3,7,26] d Z<|Ud (fun q=>?_) fun q=>?_
 ·refine Uy [0,1,2,3,4,5] [(1,0)] Z kr_ fun R M d=>Ue U6<|Vc (fun _=>((bkT p 1).mono M)) U9<|Ue U6<|Um (j:=0) U12<|Uh 2 Z<|Ug [2,3,4,5] d Z ?_;clear d M R;refine Un (Wg af Z Z Z Z Z Z Z ?_);refine ⟨Z, ?_⟩;rcases A with ⟨_,du,hi,h1⟩ | ⟨h,_⟩
  ·exact .no du _ hi h1.m_
  exact absurd (by simpa using q) h
 refine Ub 1 Z fun R d=>Uc (bkT p 1) U8<|Uu ([.slice none 0 0]) U8<|Ue U6<|Um (j:=0) U12<|C4 2 [2,3,4,5] d Z<|Un (Wg af Z Z Z Z Z Z Z ?_);refine ⟨Z, ?_⟩;rcases A with ⟨h,_⟩ | ⟨_,pt,v,ad,h1⟩
 ·rw [h] at q;cases q
 refine .yes pt _ ?_ ad h1.m_;rcases v with h | ⟨ra,hu⟩
 ·exact h
 exact hu.zero.elim
def prC (vs:List Value)(l:List SrcQ):List (List Value):=aS vs (l.map SrcQ.r)
def frC (l:List SrcQ):List (List Value):=l.map fun s=>[Value.int .i64 s.n]
theorem Jj {l:List SrcQ}{s:SrcQ}(a:vs.length=l.length)(c:vs[i]?=some w)(d:l[i]?=some s):prC (vs.take (i+1)) (l.take (i+1))=prC (vs.take i) (l.take i)++[[w,ah (qtx s.r.b)]]:=by
 unfold prC;rw [QJ,QJ,c,d,QX];exact ft (by simp [a]) w s.r
theorem J3 {l:List SrcQ}{s:SrcQ}(a:l[i]?=some s):frC (l.take (i+1))=frC (l.take i)++[[.int .i64 s.n]]:=by
 unfold frC;rw [QJ,a,QX];rfl
theorem Om {l:List SrcQ}{s:SrcQ}(a:vs[i]?=some w)(c:l[i]?=some s):(bZ vs l)[i]?=some [.int .i64 s.n,w,ah (qtx s.r.b)]:=by
 unfold bZ;rw [List.getElem?_zipWith,a,c]
abbrev sA7 (A:Option Addr)(n c:Nat):Value:=.slice A n c
abbrev sB7 (A:Option Addr)(n c:Nat):Value:=.slice A n c
structure ProbIn (D:Mem)(n:Nat)(l:List SrcQ)(u:Value):Prop where
 ex:∃ rv ov fv,u=.tuple #[.agg ⟨[.int .i64 n,rv,ov]⟩,fv]/\RowsT D rv ((kX (l.map SrcQ.r)).map iJ)/\Sl D 1 ov ((List.replicate n (0:Rat)).map aY)/\Sl D 1 fv (frC l)
theorem MF (a:List Value)(l:List SrcQ):∀ r∈prC a l,r.length=2:=iU _ _
theorem Ns (l:List SrcQ):∀ r∈frC l,r.length=1:=fun r hr=>by
 obtain ⟨s,_,rfl⟩:=Qt.1 hr;rfl
theorem IZ {v:Value}(h:RowsOk C vs rows)(b:Sl C 2 v (aS vs rows)):RowsT C v ((kX rows).map iJ):=by
 refine ⟨vs,by rw [h.1];simp [kX],fun i w r c hr=>?_, ?_⟩
 ·rw [kX,Q6,Ql] at hr;cases a:rows[i]? with
  | none=>rw [a] at hr;cases hr
  | some x =>
   rw [a] at hr;cases hr
   have:=h.2 i w x c a;show Sl C 1 w ((x.f.map qtx).map yR);rw [<- BI];exact this
 have e:List.zipWith (fun w (r:List Str × Str)=>[w,ah r.2]) vs ((kX rows).map iJ)=aS vs rows:=by
  unfold kX aS;rw [Q6,List.zipWith_map_right];rfl
 rw [e];exact b
theorem Dd (C:Mem)(x lv:Value)(B:Bk)(l:List SrcQ)(O:BookZ C x B 0)(ag:bs B*bp B<=60)(aJ:l.length<=300)
  (ap:∀ D:Mem,C.le D->Pur cx.P 52 [x,lv] D fun u E=>∃ v,u=.tuple #[v,.int .i64 0]/\Ci E v l) :
  Pur cx.P 51 [x,lv] C fun u D=>ProbIn D (bs B*bp B) l u:=by
 have aK:=O;obtain ⟨n,hn⟩:∃ n,bs B*bp B=n:=⟨_,rfl⟩;have aq:∀ D:Mem,C.le D->Gives cx.P 35 [x] D (.tuple #[.int .i64 n,.int .i64 0]):=fun D hD=>by
  have h:=Hu D x B 0 (O.mono hD) ag;rw [aH rfl,hn] at h;exact h
 rw [hn] at ag ⊢;obtain ⟨v1,v2,tv,cv,ov,rfl,h1,h2,h3,h4,h5⟩:=id O.i.ex;have aL:maxLen<=9223372036854775807:=by simp [maxLen]
 refine Uk func51 51 U3 fun w0=>Uf fun R a=>Uw U6 fun b2=>Uv U5 fun g=>C4 1 [1,2,4] a Z<|G.freeze 1 Z fun _ _ ai=>Uf fun R a=>Uc (bkT ai 5) U8<|Uo (aq _ mup) U7<|C4 5 [1,2,4,6] a Z<|Uf fun R a=>Uc (bkT ai 5) U8<|Ue U6<|UM (ap _ mup) U7 (fun aM _ _ ar=>?_);obtain ⟨wv,rfl,au⟩:=ar;obtain ⟨vs,Q,S⟩:=au;have T:=ly Q;obtain ⟨Aw,cw,rfl,av,aN,_⟩:=id S;have ay:(bZ vs l).length=l.length:=by unfold bZ;simp [T]
 rw [ay] at S av ⊢;refine C4 5 [4,6,8] a Z<|UB [(3,3)] Z fun R a=>Ue U6<|Ux [[ah [48]]] U12 fun aO _ _ az=>Ue U6<|D.call (rN _ _ n [48] az.m_ om_) Z (.inr dc_) U6 (Qo _) fl_ (fun aP _ aQ _ aA=>?_);obtain ⟨bz,rfl,rfl⟩:=aA;rw [AO];refine Uu [.int .i64 n,.slice none 0 0,.slice (some ⟨bz,0,none⟩) n n] U8<|Uv U5 fun k=>Um (j:=0) U12<|Ug [4,8,10] a Z<|G.freezeArr 1 ((List.replicate n (0:Rat)).map aY) Z Z dY am fun _ _ aB=>Ua 1 [4,8,10,11] Z<|Ua 3 [4,10,11,30,31,32] Z<|G.nilArr 123 2<|G.nilArr 3 1<|G.perm (L':=[.arr (sA7 none 0 0) 123 2 0 (prC (vs.take 0) (l.take 0)).flatten,.arr (sB7 none 0 0) 3 1 0 (frC (l.take 0)).flatten,.obj k (.cells ⟨[.int .i64 n,.slice none 0 0,.slice (some ⟨bz,0,none⟩) n n]⟩ 80 (0,0)),.obj g (.cells ⟨[.int .i64 0,.slice none 0 0,.slice none 0 0]⟩ 80 (0,0))]) (pkL [1,0,0,0] Z)<|G.loop (fun fr C' t U=>∃ (i:Nat)(V:Option Addr)(n1 W:Nat)(A2:Option Addr)(n2 c2:Nat),(i<=l.length)/\fr=[(4,[],.pointer (some ⟨g,0,none⟩)),(10,[],.pointer (some ⟨k,0,none⟩)),(11,[],.slice A2 n2 c2),(30,[],.slice Aw l.length cw),(31,[],.int .i64 l.length),(32,[],.int .i64 i)]/\t=[.arr (sA7 V n1 W) 123 2 i (prC (vs.take i) (l.take i)).flatten,.arr (sB7 A2 n2 c2) 3 1 i (frC (l.take i)).flatten,.obj k (.cells ⟨[.int .i64 n,.slice V n1 W,.slice (some ⟨bz,0,none⟩) n n]⟩ 80 (0,0)),.obj g (.cells ⟨[.int .i64 0,.slice none 0 0,.slice none 0 0]⟩ 80 (0,0))]/\U=l.length-i) (hn_ [4,10,11,30,31,32] Z) ⟨0,none,0,0,none,0,0,Qn _,Z,Z,Z⟩ (fun fr aR aS m _ X=>?_);obtain ⟨i,V,n1,W,A2,n2,c2,hi,rfl,rfl,rfl⟩:=X;refine Ua 1 [4,10,11,30,31,32,33] Z<|Ud (fun Y=>?_) fun Y=>?_
 ·have aa:i<l.length:=by
   have:=aV Y;omega
  obtain ⟨s,F⟩:∃ s,l[i]?=some s:=⟨l[i],ak aa⟩;obtain ⟨w,ab⟩:∃ w,vs[i]?=some w:=⟨vs[i]'om_,ak om_⟩;have aC:=Q.2 i w s.r ab (by rw [Ql,F];rfl);obtain ⟨Ax,aj,rfl,_⟩:=id aC;have ad:=Jj T ab F;have ae:=J3 F;refine Uf fun R a=>Us S.m_ U10 om_ (Om ab F) fl_ fun aT aD=>Uc aD U8<|Uv U5 fun aU=>Um (j:=0) U12<|Ug [4,10,11,13,30,31,32] a Z<|G.freeze 0 Z fun _ _ al=>G.cut (fun fr C' t U=>∃ (H:Option Addr)(I J:Nat)(K:Option Addr)(L M:Nat),(True)/\fr=[(4,[],.pointer (some ⟨g,0,none⟩)),(10,[],.pointer (some ⟨k,0,none⟩)),(11,[],.slice K L M),(30,[],.slice Aw l.length cw),(31,[],.int .i64 l.length),(32,[],.int .i64 i)]/\t=[.arr (sA7 H I J) 123 2 (i+1) (prC (vs.take (i+1)) (l.take (i+1))).flatten,.arr (sB7 K L M) 3 1 (i+1) (frC (l.take (i+1))).flatten,.obj k (.cells ⟨[.int .i64 n,.slice H I J,.slice (some ⟨bz,0,none⟩) n n]⟩ 80 (0,0)),.obj g (.cells ⟨[.int .i64 0,.slice none 0 0,.slice none 0 0]⟩ 80 (0,0))]) ?_ (fun fr aW aX U aZ X=>?_)
  ·refine UW (.cut [0,1,2,3,6,7,8] (.alt 4 (.cut [] (.alt 5 (.fin [11,9,10,12,13]) (.alt 9 (.fin [5,11,10,12,13]) .stop))) (.alt 9 (.fin [4,5,11,10,12,13]) .stop))) [(3,0),(8,0)] Z Z kr_ fun R y a z=>Ue U6<|Uj ac U9<|Ue U6<|Vc (fun _=>((bkT al 2).mono y)) U9<|Uh 2 Z<|Vc (fun _=>((bkT al 1).mono y)) U9<|UL z Z ⟨?_, ?_,trivial⟩
   ·refine Ux [[.slice Ax (s.r.f.map fw).length aj,ah (qtx s.r.b)]] U12 fun aE aF _ N=>UL z Z ⟨?_, ?_,trivial⟩
    ·refine UG (j:=0) U11 N.m_ Z ax (by show (i+1)*40<=_;omega) fl_ fun c d e=>Ue U6<|Ux [[.int .i64 s.n]] U12 fun an ao _ A=>UG (j:=1) U11 A.m_ Z ax (by show (i+1)*8<=_;omega) fl_ fun o p q=>Um (j:=2) U12<|Ue U6<|Ug [4,10,11,30,31,32] a Z ?_;clear a y z R;exact G.perm (L':=[.arr (sA7 c d e) 123 2 (i+1) (prC (vs.take (i+1)) (l.take (i+1))).flatten,.arr (sB7 o p q) 3 1 (i+1) (frC (l.take (i+1))).flatten,.obj k (.cells ⟨[.int .i64 n,.slice c d e,.slice (some ⟨bz,0,none⟩) n n]⟩ 80 (0,0)),.obj g (.cells ⟨[.int .i64 0,.slice none 0 0,.slice none 0 0]⟩ 80 (0,0))]) (by rw [ad,ae,Q8,Q8];(exact pkL [2,1,0,0] Z))<|Uq 0 mup (hn_ [4,10,11,30,31,32] Z) ⟨c,d,e,o,p,q,trivial,Z,Z⟩
    refine Ux [[.int .i64 s.n]] U12 fun an ao _ A=>UG (j:=0) U11 N.m_ Z ax (by show (i+1)*40<=_;omega) fl_ fun c d e=>Ue U6<|UG (j:=1) U11 A.m_ Z ax (by show (i+1)*8<=_;omega) fl_ fun o p q=>Um (j:=2) U12<|Ue U6<|Ug [4,10,11,30,31,32] a Z ?_;clear a y z R;exact G.perm (L':=[.arr (sA7 c d e) 123 2 (i+1) (prC (vs.take (i+1)) (l.take (i+1))).flatten,.arr (sB7 o p q) 3 1 (i+1) (frC (l.take (i+1))).flatten,.obj k (.cells ⟨[.int .i64 n,.slice c d e,.slice (some ⟨bz,0,none⟩) n n]⟩ 80 (0,0)),.obj g (.cells ⟨[.int .i64 0,.slice none 0 0,.slice none 0 0]⟩ 80 (0,0))]) (by rw [ad,ae,Q8,Q8];(exact pkL [2,1,0,0] Z))<|Uq 0 mup (hn_ [4,10,11,30,31,32] Z) ⟨c,d,e,o,p,q,trivial,Z,Z⟩
   refine Ux [[.int .i64 s.n]] U12 fun an ao _ A=>Ux [[.slice Ax (s.r.f.map fw).length aj,ah (qtx s.r.b)]] U12 fun aE aF _ N=>UG (j:=0) U11 N.m_ Z ax (by show (i+1)*40<=_;omega) fl_ fun c d e=>Ue U6<|UG (j:=1) U11 A.m_ Z ax (by show (i+1)*8<=_;omega) fl_ fun o p q=>Um (j:=2) U12<|Ue U6<|Ug [4,10,11,30,31,32] a Z ?_;clear a y z R;exact G.perm (L':=[.arr (sA7 c d e) 123 2 (i+1) (prC (vs.take (i+1)) (l.take (i+1))).flatten,.arr (sB7 o p q) 3 1 (i+1) (frC (l.take (i+1))).flatten,.obj k (.cells ⟨[.int .i64 n,.slice c d e,.slice (some ⟨bz,0,none⟩) n n]⟩ 80 (0,0)),.obj g (.cells ⟨[.int .i64 0,.slice none 0 0,.slice none 0 0]⟩ 80 (0,0))]) (by rw [ad,ae,Q8,Q8];(exact pkL [2,1,0,0] Z))<|Uq 0 mup (hn_ [4,10,11,30,31,32] Z) ⟨c,d,e,o,p,q,trivial,Z,Z⟩
  obtain ⟨H,I,J,K,L,M,_,rfl,rfl⟩:=X;refine Uf fun R a=>Ul _ U7<|C4 1 [4,10,11,30,31,32] a Z<|Up (m':=l.length-(i+1)) om_ mup (hn_ [4,10,11,30,31,32] Z) ⟨i+1,H,I,J,K,L,M,om_,Z,Z,Z⟩
 have aa:i=l.length:=by
  have:=Qm Y;omega
 subst aa;refine Uf fun R a=>Uj ac U9<|Ue U6<|Um (j:=3) U12<|C4 1 [4,5] a Z ?_;rw [Q0 (show vs.length<=l.length by omega),Qv];refine G.freezeArr 1 (prC vs l) Z Z (MF _ _) (by rw [prC,ep (by simp [T]),aw]) fun _ _ aG=>G.freezeArr 1 (frC l) Z Z (Ns _) (aw _) fun _ _ aI=>Un (Vm af U5 ?_);exact ⟨Z,⟨_,_,_,Z,(IZ (rows:=l.map SrcQ.r) (RowsOk.m_ Q) aG.m_),aB.mono mup,aI⟩⟩
structure Calm (B:Bk)(fs:List Rat)(RO:Nat->List RowQ):Prop where
 rich:Rich B fs RO
 n12:bs B*bp B<=12
 thI:∀ r∈bI B,RowI r
 roI:∀ i,i<B.obs.length->∀ r∈RO i,RowI r
 th:(bI B).length<=24
 ro:∀ i,i<B.obs.length->(RO i).length<=8
 ob:B.obs.length<=12
structure SetIn (n:Nat)(l:List Nat):Prop where
 lt:∀ i∈l,i<n
 nd:l.Nodup
def fq (B:Bk)(RO:Nat->List RowQ)(l:List Nat):List RowQ:=(bQ (bI B) RO l).map SrcQ.r
def D8 (B:Bk)(RO:Nat->List RowQ)(l:List Nat):Prop:=(eX (bs B*bp B) (kX (fq B RO l))).Hold
open Classical in
noncomputable def fu (B:Bk)(RO:Nat->List RowQ)(l:List Nat):Bool:=decide (D8 B RO l)
theorem lE {a:Nat->List RowQ}:fq B a l=bI B++l.flatMap a:=by
 unfold fq bQ kE;rw [QX,Q6,List.map_flatMap];congr 1
 ·exact List.map_id _
 congr 1;funext i;rw [Q6];exact List.map_id _
theorem SetIn.len (h:SetIn n l):l.length<=n:=by
 have:=List.Nodup.length_le_of_subset (l₂:=List.range n) h.nd fun v a=>QA.2 (h.lt v a)
 rwa [Rh] at this
section
variable {B:Bk} {fs:List Rat} {RO:Nat->List RowQ} {l:List Nat}
theorem J7 {c:Nat}{f:Nat->List RowQ}:∀ {l:List Nat},(∀ i∈l,(f i).length<=c)->(l.flatMap f).length<=c*l.length
 | [],_=>Qn _
 | i::l,h=>by
  rw [List.flatMap_cons,Qp,QC,Nat.mul_succ];have h1:=h i aL;have h2:=J7 (l:=l) fun j a=>h j (Qq _ a);omega
theorem Calm.cnt (h:Calm B fs RO)(a:SetIn B.obs.length l):(fq B RO l).length<=120:=by
 rw [lE,Qp];have h1:=J7 (c:=8) (f:=RO) fun i b=>h.ro i (a.lt i b);have h2:=a.len;have h3:=h.ob;have h4:=h.th;omega
theorem Calm.rowI (h:Calm B fs RO)(a:SetIn B.obs.length l):∀ r∈fq B RO l,RowI r:=by
 intro r hr;rw [lE] at hr;rcases Qy.1 hr with hr | hr
 ·exact h.thI r hr
 obtain ⟨i,b,hr⟩:=List.mem_flatMap.1 hr;exact h.roI i (a.lt i b) r hr
theorem vO {s p:Nat}{a:List Lay}:∀ n,∀ r∈bj s p a n,r.f.length=s*p
 | 0,r,hr=>by cases hr
 | n+1,r,hr=>by
  rcases Qy.1 hr with hr | hr
  ·exact vO n r hr
  have:∀ k,∀ r∈bq s p (a.getD (n+1) ⟨[],0,none⟩) (n+1) k,r.f.length=s*p:=by
   intro k;induction k with
   | zero=>intro r hr;cases hr
   | succ k b =>
    intro r hr;rcases Qy.1 hr with hr | hr
    ·exact b r hr
    unfold kp at hr;rcases Qw.1 hr with rfl | hr
    ·exact jE _ _
    split at hr
    ·cases hr
    rw [QF.1 hr];exact jE _ _
  exact this p r hr
theorem Oc {D:Int}{q:Rat}(h:Wl D q)(a:D≠0)(b:D.natAbs<=999999999):QB 1 q:=by
 obtain ⟨z,h1,h2⟩:=h;exact pi a h1 om_ om_
theorem RowI.q {r:RowQ}(h:RowI r):(∀ x∈r.f,QB 1 x)/\QB 1 r.b:=by
 obtain ⟨D,h0,a,h1,h2⟩:=h;exact ⟨fun x c=>Oc (h1 x c) h0 a,Oc h2 h0 a⟩
theorem AK {a:List RowQ}{P:List Rat × Rat->Prop}(h:∀ r∈a,P (r.f,r.b)):∀ x∈kX a,P x:=fun x c=>by
 obtain ⟨r,hr,rfl⟩:=Qt.1 c;exact h r hr
theorem Calm.q22 (h:Calm B fs RO)(a:SetIn B.obs.length l):∀ r∈kX (fq B RO l),(∀ x∈r.1,QB 22 x)/\QB 22 r.2 :=
 AK (P:=fun r=>(∀ x∈r.1,QB 22 x)/\QB 22 r.2) fun r hr=>⟨fun x b=>((h.rowI a r hr).q.1 x b).le dc_,(h.rowI a r hr).q.2.le dc_⟩
theorem Calm.rowsQ (h:Calm B fs RO)(a:SetIn B.obs.length l):RowsQ (bs B*bp B) (kX (fq B RO l)):=by
 refine ⟨AK (P:=fun r=>r.1.length=bs B*bp B) fun r hr=>?_,fun r hr=>⟨fun x b=>((h.q22 a r hr).1 x b).le dc_,(h.q22 a r hr).2.le dc_⟩, ?_⟩
 ·rw [lE] at hr;rcases Qy.1 hr with hr | hr
  ·exact vO _ r hr
  obtain ⟨i,c,hr⟩:=List.mem_flatMap.1 hr;exact (oZ h.rich (a.lt i c)).2 r hr
 have:=h.cnt a;rw [kX,aw];omega
theorem Calm.lim (h:Calm B fs RO)(a:SetIn B.obs.length l):Lp.Lim (eX (bs B*bp B) (kX (fq B RO l))) (fun _=>0) 16:=JI h.n12 (h.rowI a)
theorem NO {n:Nat}(c:SetIn n l):chZ n (l.map fun i:Nat=>(i:Int))=0:=by
 refine kQ fun i b=>?_;rw [aw] at b;have f:l[i]?=some l[i]:=ak b;have g:(l.map fun i:Nat=>(i:Int)).getD i 0=(l[i]:Int):=by rw [al,Ql,f];rfl
 have h1:=c.lt l[i] (Rf b);unfold rx;rw [g,aA om_,aA];intro hm;rw [<- SE] at hm;obtain ⟨k,h,e⟩:=Qt.1 hm;have m:k=l[i]:=by omega
 subst m;obtain ⟨j,a⟩:=RP h;rw [QZ] at a;split at a
 ·rename_i o;have d:j<l.length:=by omega
  have p:=List.pairwise_iff_getElem.1 c.nd j i d b o;rw [ak d] at a;exact p (RR a)
 cases a
theorem Bp (l:List Nat):(l.map fun i:Nat=>(i:Int)).map Int.toNat=l:=by
 rw [Q6];have e:∀ i∈l,(Int.toNat ∘ fun i:Nat=>(i:Int)) i=id i:=fun i _=>Sb i;rw [List.map_congr_left e,List.map_id]
theorem sQ (C:Mem)(g:Tabs C)(a b:Value)(j:BookIn C a B)(h:Calm B fs RO)(c:SetIn B.obs.length l)(k:Sl C 1 b (l.map aO)) :
  ∀ D:Mem,C.le D->Pur cx.P 52 [a,b] D fun u E=>∃ v,u=.tuple #[v,.int .i64 0]/\Ci E v (bQ (bI B) RO l):=fun D d=>by
 have m:=NO c;have e:=h.cnt c;have n:l.length<=12:=QE c.len h.ob;have f:=DV D (g.mono d) a b B fs RO (l.map fun i:Nat=>(i:Int)) (j.mono d) h.rich (by rw [Q6];exact k.mono d) (by rw [aw];omega) (fun _=>by
  rw [Bp];unfold fq at e;rw [aw] at e;omega)
 rw [m,aH rfl,Bp] at f;exact f
end
theorem uz (C:Mem)(k:Tabs C)(e f:Value)(B:Bk)(H:List Rat)(a:Nat->List RowQ)(l:List Nat)(g:BookIn C e B)(h:Calm B H a)(b:SetIn B.obs.length l)(I:Sl C 1 f (l.map aO)) :
  Gives cx.P 47 [e,f] C (.tuple #[.bool (fu B a l),.int .i64 0]):=by
 have ab:=g;have J:=h.rich.bookz k g;have u:=h.cnt b;have v:=fun (D:Mem)(i:C.le D)=>Dd D e f B (bQ (bI B) a l) (J.mono i) (by have:=h.n12;omega) (by unfold fq at u;rw [aw] at u;omega) (sQ D (k.mono i) e f (g.mono i) h b (I.mono i));obtain ⟨n,w⟩:∃ n,bs B*bp B=n:=⟨_,rfl⟩;have K:=h.n12;have m:=h.rowsQ b;have y:=h.q22 b;have o:=h.lim b;obtain ⟨rows,p⟩:∃ rows,fq B a l=rows:=⟨_,rfl⟩;have L:fu B a l=@decide (eX n (kX rows)).Hold (Classical.propDecidable _):=by
  unfold fu D8;rw [w,p]
 have M:(bQ (bI B) a l).map SrcQ.r=rows:=p;rw [w] at v m o K;rw [p] at m y o;obtain ⟨v1,v2,tv,cv,ov,rfl,_⟩:=id g.ex;have ac:maxLen<=9223372036854775807:=by simp [maxLen]
 refine Uk func47 27 U3 fun w0=>Uf fun R d=>Uw U6 fun b2=>C4 2 [1,2] d Z<|G.freeze 0 Z fun _ _ N=>Uf fun R d=>Uc (bkT N 5) U8<|Ue U6<|UM (v _ mup) U7 (fun ad _ _ O=>?_);obtain ⟨rv,ae,fv,rfl,q,z,af⟩:=O.ex;rw [M] at q;obtain ⟨_,_,_,Q⟩:=id q;obtain ⟨Ar,cr,rfl,_⟩:=id Q;obtain ⟨Ao,co,rfl,_⟩:=id z;refine Uh 3 Z<|Uv U5 fun b6=>Um (j:=0) U12<|C4 1 [6] d Z<|G.freeze 0 Z fun _ _ S=>Uf fun R d=>Uc (bkT S 3) U8<|UH (Jo _ k.m_ n _ _ (kX rows) (List.replicate n 0) q.m_ z.m_ m (fun x T=>by rw [(List.mem_replicate.1 T).2];exact QB_zero.le dc_) y om_ am o) U7 fl_ (fun U _ _ V=>?_);have W:∃ (s:Value)(E:Option Addr)(nd F:Nat)(t:Bool),U=.tuple #[s,.agg ⟨[.slice E nd F]⟩,.bool t,.int .i64 0]/\fu B a l=t:=by
  rw [L];cases V with
  | yes pt s X _ _=>exact ⟨_,_,_,_,true,rfl,@QD _ (Classical.propDecidable _) X⟩
  | no du vd Y h1 =>
   obtain ⟨A,c,rfl,_⟩:=id h1;exact ⟨_,_,_,_,false,Z,@QK _ (Classical.propDecidable _) Y.not⟩
 obtain ⟨s,E,nd,F,t,rfl,aa⟩:=W;refine Uh 5 Z<|Uv U5 fun b9=>Ue U6<|Um (j:=0) U12<|C4 2 [10,11] d Z<|Ua 4 [4,5] Z<|Un (G.dropAll (UC U3 ?_));exact ⟨by rw [aa],Z⟩
structure AscIn (n:Nat)(l:List Nat):Prop where
 lt:∀ i∈l,i<n
 up:l.Pairwise (·<·)
theorem AscIn.set (h:AscIn n l):SetIn n l:=⟨h.lt,h.up.imp fun h=>Nat.ne_of_lt h⟩
theorem KM (h:AscIn n l):N4 n (l.map fun i:Nat=>(i:Int))=0:=by
 refine kQ fun i a=>?_;rw [aw] at a;have b:∀ j (c:j<l.length),(l.map fun i:Nat=>(i:Int)).getD j 0=(l[j]:Int):=fun j c=>by
  rw [al,Ql,ak c];rfl
 have h1:=h.lt l[i] (Rf a);unfold mr;rw [b i a,aA om_,aA];rintro ⟨h0,h2⟩;rw [b (i-1) om_] at h2;have:=List.pairwise_iff_getElem.1 h.up (i-1) i om_ a om_;omega
section
variable {B:Bk} {fs:List Rat} {RO:Nat->List RowQ} {l:List Nat}
theorem xB (C:Mem)(d:Tabs C)(a b:Value)(e:BookIn C a B)(h:Calm B fs RO)(c:AscIn B.obs.length l)(f:Sl C 1 b (l.map aO)):Gives cx.P 49 [a,b] C (.int .i64 0):=by
 have j:=h.rich.bookz d e;have k:=KM c;have g:=Kz C a b B 0 (l.map fun i:Nat=>(i:Int)) j (by have:=h.n12;omega) (by rw [Q6];exact f) (by rw [aw];have:=c.set.len;have:=h.ob;omega) (fun _ _ D m=>Fn.mono (sQ C d a b e h c.set f D m) fun u C' n _ ⟨h1,v,h2,_⟩=>⟨h1,v,h2⟩);rw [k,aA (fun h=>h rfl)] at g;exact g
end
theorem oq (C:Mem)(c:Tabs C)(d e:Value)(B:Bk)(f:List Rat)(b:Nat->List RowQ)(l:List Nat)(g:BookIn C d B)(h:Calm B f b)(i:AscIn B.obs.length l)(j:Sl C 1 e (l.map aO)) :
  Gives cx.P 25 [d,e] C (.tuple #[.bool (fu B b l),.int .i64 0]):=by
 have k:=g;obtain ⟨o,p,q,r,s,rfl,_⟩:=id g.ex;refine Uk func25 18 U3 fun w0=>Uf fun R a=>Uw U6 fun t=>C4 2 [1,2] a Z<|G.freeze 0 Z fun _ _ m=>Uf fun R a=>Uc (bkT m 5) U8<|Ue U6<|Uo (xB _ c.m_ _ _ k.m_ h i j.m_) U7<|C4 1 [1,2,6] a Z<|Ua 2 [1,2,6,11] Z<|Ud (fun n=>?_) fun n=>?_
 ·exact absurd n dc_
 refine Uf fun R a=>Uc (bkT m 5) U8<|Ue U6<|Uo (uz _ c.m_ _ _ B f b l k.m_ h i.set j.m_) U7<|C4 4 [4,5] a Z<|Un (G.dropAll (UC U3 ?_));exact ⟨Z,Z⟩
def xP (h:Nat->Bool)(km:List (Nat × Value)):Prop:=∀ s v,dp km s=some v->v=.bool (h s)
theorem wV (h:Nat->Bool):xP h []:=fun s v e=>by cases e
theorem GG (b:xP h km):xP h (fT km s (.bool (h s))):=fun t v e=>by
 by_cases a:s=t
 ·subst a;rw [kz] at e;exact (RR e).symm
 rw [je a] at e;exact b t v e
theorem Dt (a:xP h km)(s:Nat):∃ x f:Bool,kM (.bool false) true (dp km s)=.tuple #[.bool x,.bool f]/\(f=true->x=h s):=by
 cases e:dp km s with
 | none=>exact ⟨false,false,rfl,fun h=>by cases h⟩
 | some v=>exact ⟨h s,true,by rw [a s v e];rfl,fun _=>rfl⟩
theorem Cd:∀ n<6,∀ s<2 ^ n,(∀ i∈aX s,i<n)/\(aX s).Pairwise (·<·):=by decide +kernel
theorem zm (a:n<6)(b:s<2 ^ n):AscIn n (aX s):=⟨(Cd n a s b).1,(Cd n a s b).2⟩
structure SrchIn (C:Mem)(B:Bk)(b0 bm:Nat):Prop where
 ex:∃ v1 v2 tv cv ov,C b0=some (.cells ⟨[v1,v2,tv,cv,ov,.map (some bm)]⟩ 153 (0,0))/\BookIn C (.agg ⟨[v1,v2,tv,cv,ov]⟩) B
theorem SrchIn.mono {C D:Mem}{B:Bk}{a b:Nat}(h:SrchIn C B a b)(c:C.le D):SrchIn D B a b:=by
 obtain ⟨d,e,f,g,i,h1,h2⟩:=h.ex;exact ⟨d,e,f,g,i,c _ _ h1,h2.mono c⟩
theorem SrchIn.m_ {D:Mem}{a b:Nat}(h:SrchIn C B a b)(c:C.le D:=by exact mup):SrchIn D B a b:=SrchIn.mono h c
noncomputable def hS (B:Bk)(RO:Nat->List RowQ)(s:Nat):Bool:=fu B RO (aX s)
theorem vY (C:Mem)(k:Tabs C)(B:Bk)(l:List Rat)(b:Nat->List RowQ)(m c s:Nat)(d:List (Nat × Value))(t:SrchIn C B m c)(h:Calm B l b)(n:B.obs.length<6)(v:s<2 ^ B.obs.length)(e:xP (hS B b) d) :
  Jog.Fn cx.P 40 [.pointer (some ⟨m,0,none⟩),.int .u64 s] C [.obj c (aQ keyU.enc d)] fun u _ o=>u=.tuple #[.bool (hS B b s),.int .i64 0]/\∃ p,xP (hS B b) p/\o=[.obj c (aQ keyU.enc p)]:=by
 obtain ⟨F,G,H,I,J,g,w⟩:=t.ex;obtain ⟨x,f,y,z⟩:=Dt e s;have i:=wz n;refine Uk func40 41 U3 fun w0=>Ut (L':=[.obj c (aQ keyU.enc d)]) Z<|Ua 2 [0,1] Z<|Ub 3 Z fun R a=>Uc (bkT g 1) U8<|Ue U6<|Vy keyU af Z Z Z Z Z Z Z Z kr_ Z y Z Z<|C4 5 [0,1,6,7] a Z<|Ua 1 [0,1,6,19] Z<|Ud (fun q=>?_) fun q=>?_
 ·have A:f=true:=q;refine Ua 3 [4,5] Z<|Un (UC U3 ?_);exact ⟨by rw [z A],d,e,Z⟩
 refine Uy [0,1,2,3,4,5,6,7,8,9,10,11] [(6,1),(3,0)] Z kr_ fun R r a=>Uh 3 Z<|Vc (fun _=>((bkT g 5).mono r)) U9<|Ue U6<|UH (nW _ k.m_ s om_) U7 fl_ fun K _ _ E=>UJ (fun _=>(uz _ k.m_ _ _ B l b (aX s) w.m_ h (zm n v).set E.m_)) U9<|Uh 5 Z<|Ug [0,1,8,9] a Z ?_;clear a r R;refine Ua 2 [0,1,8,9,32] Z<|Ud (fun i=>?_) fun i=>?_
 ·refine Ub 3 Z fun R a=>Uc (bkT g 1) U8<|Uh 2 Z<|D.mapUpdate keyU (j:=0) Z Z Z Z Z Z Z Z Z Z kr_<|Ug [8,9] a Z<|Ua 4 [4,5] Z<|Un (UC U3 ?_);exact ⟨Z,_,GG e,Z⟩
 exact absurd i dc_
def El (i n:Nat):List Nat:=(List.range n).map fun q=>if q<i then q else 0
theorem zV :(El i n).length=n:=by simp [El]
theorem EH :kl [.int .i64 0] n=((El 0 n).map aO).flatten:=by
 rw [eh];congr 1;unfold El;rw [Q6];refine (List.eq_replicate_iff.2 ⟨by simp,fun x a=>?_⟩).symm;obtain ⟨q,_,rfl⟩:=Qt.1 a;rfl
theorem Ik :(El i n).set i i=El (i+1) n:=by
 refine List.ext_getElem? fun j=>?_;unfold El;rw [List.getElem?_set,Ql,Ql,aw,Rh];by_cases a:j<n
 ·rw [QY a];by_cases e:i=j
  ·subst e;simp [a]
  have:(j<i+1) ↔ j<i:=by omega
  simp [e,this]
 rw [Qr (show (List.range n).length<=j by simp;omega)];simp;omega
theorem EI :El n n=List.range n:=by
 unfold El;have e:∀ q∈List.range n,(if q<n then q else 0)=id q:=fun q a=>aH (QA.1 a);rw [List.map_congr_left e,List.map_id]
theorem Fw (n:Nat):AscIn n (List.range n):=⟨fun _b a=>QA.1 a,List.pairwise_lt_range⟩
theorem xj:∀ i,(aO i).length=1:=fun _=>rfl
theorem jo (l:List Nat):∀ r∈l.map aO,r.length=1:=fun r hr=>by
 obtain ⟨x,_,rfl⟩:=Qt.1 hr;rfl
theorem E2 (C:Mem)(w:Tabs C)(p:Value)(B:Bk)(x:List Rat)(y:Nat->List RowQ)(q:BookIn C p B)(h:Calm B x y) :
  Jog.Fn cx.P 37 [p] C [] fun u D b=>(10<B.obs.length/\u=.tuple #[.pointer none,.int .i64 4]/\b=[])∨(B.obs.length<=10/\∃ r s,u=.tuple #[.pointer (some ⟨r,0,none⟩),.int .i64 0]/\SrchIn D B r s/\b=[.obj s (aQ keyU.enc [])]):=by
 have z:=h.ob;have d:=q;obtain ⟨W,X,Y,cv,ov,rfl,h1,h2,h3,h4,h5⟩:=id q.ex;obtain ⟨A,E,rfl,_⟩:=id h1;obtain ⟨A2,c2,rfl,_⟩:=id h2;obtain ⟨F,H,rfl,_⟩:=id h3;obtain ⟨I,J,rfl,_⟩:=id h4;obtain ⟨K,L,rfl,M,aa,_⟩:=id h5;obtain ⟨n,e⟩:∃ n,B.obs.length=n:=⟨_,rfl⟩;have ab:maxLen<=9223372036854775807:=by simp [maxLen]
 rw [e] at z;simp only [aw,e] at h5 M d ⊢;refine Uk func37 34 U3 fun w0=>Uf fun R a=>Uw U6 fun N=>C4 2 [1] a Z<|G.freeze 0 Z fun _ _ f=>Ub 1 Z fun R a=>Uc (bkT f 1) U8<|Ue U6<|Vd U9 (Qj _) (by show 8*n<=_;omega) (by simp only [maxLen];omega) fl_ fun c=>C4 1 [1,4] a Z<|Ua 3 [1,4,12,13] Z<|Ut (L':=[.arr (.slice (some ⟨c,0,none⟩) n n) 3 1 n ((El 0 n).map aO).flatten]) (by rw [<- EH];rfl)<|G.loop (fun fr C' b O=>∃ (i:Nat),(i<=n)/\fr=[(1,[],.pointer (some ⟨N,0,none⟩)),(4,[],.slice (some ⟨c,0,none⟩) n n),(12,[],.int .i64 n),(13,[],.int .i64 i)]/\b=[.arr (.slice (some ⟨c,0,none⟩) n n) 3 1 n ((El i n).map aO).flatten]/\O=n-i) (hn_ [1,4,12,13] Z) ⟨0,Qn _,Z,Z,Z⟩ (fun fr ac ad m Q S=>?_);obtain ⟨i,hi,rfl,rfl,rfl⟩:=S;refine Ua 1 [1,4,12,13,14] Z<|Ud (fun g=>?_) fun g=>?_
 ·have k:i<n:=by
   have:=aV g;omega
  refine Ua 2 [1,4,5,12,13] Z<|Ub 3 Z fun R a=>UI (i*1) U10 ai U2<|UK (j:=0) U11 (by show i*1+1<=_;rw [bR xj,zV];omega)<|Ug [1,4,12,13] a Z<|Uf fun R a=>Ul _ U7<|C4 1 [1,4,12,13] a Z<|Ut (L':=[.arr (.slice (some ⟨c,0,none⟩) n n) 3 1 n ((El (i+1) n).map aO).flatten]) (by rw [<- Ik,<- bO xj _ (by rw [zV];exact k)];rfl)<|Up (m':=n-(i+1)) om_ Q (hn_ [1,4,12,13] Z) ⟨i+1,om_,Z,Z,Z⟩
 have k:i=n:=by
  have:=Qm g;omega
 subst k;rw [EI];refine G.freezeArr 0 ((List.range i).map aO) Z Z (jo _) am fun _ _ T=>Uf fun R a=>Uc (bkT f 5) U8<|Ue U6<|Uo (xB _ w.m_ _ _ d.m_ h (e ▸ Fw i) T.m_) U7<|C4 1 [1,4,6] a Z<|Ua 2 [1,4,6,25] Z<|Ud (fun t=>?_) fun t=>?_
 ·exact absurd t dc_
 refine Ua 3 [1,29] Z<|Ud (fun l=>?_) fun l=>?_
 ·have o:10<i:=by
   have:=aV l;omega
  refine Ua 2 [2,3] Z<|Un (G.dropAll (UC U3 ?_));exact .inl ⟨o,Z,Z⟩
 have o:i<=10:=by
  have:=Qm l;omega
 refine Uf fun R a=>Uc (bkT f 5) U8<|D.makeMap keyU Z Z Z Z fl_ fun v=>Uu [.slice A B.pts.length E,.slice A2 B.tris.length c2,.slice F B.terr.length H,.slice I B.col.length J,.slice K i L,.map (some v)] U8<|Uw U6 fun U=>C4 2 [2,3] a Z<|G.freeze 0 Z fun _ _ V=>Un (UC U3 ?_);exact .inr ⟨o,U,v,Z,⟨_,_,_,_,_,V,d.mono mup⟩,Z⟩
theorem tJ (C:Mem)(f:Tabs C)(a:Value)(B:Bk)(b:List Rat)(c:Nat->List RowQ)(g:BookIn C a B)(h:Calm B b c)(j:B.obs.length<=10) :
  Jog.Fn cx.P 37 [a] C [] fun u D i=>∃ d e,u=.tuple #[.pointer (some ⟨d,0,none⟩),.int .i64 0]/\SrchIn D B d e/\i=[.obj e (aQ keyU.enc [])] :=
 Fn.mono (E2 C f a B b c g h) fun _ _ _ _ h=>h.elim (fun h=>absurd h.1 om_) (·.2)
end Go.Proofs.YthnpijdjlddpmaaGreatDoor
