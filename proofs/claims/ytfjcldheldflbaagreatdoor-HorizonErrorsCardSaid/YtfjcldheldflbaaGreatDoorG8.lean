/- Laws that the proofs of this seat share, part 8. -/
import Derived.Test.YtfjcldheldflbaaGreatDoorG7
import Derived.Test.YtfjcldheldflbaaGreatDoorShelf
import Derived.RangeFuncBox
import Derived.RangeFuncLeaves
import Derived.Shelf.Abstract
import Derived.WalkKit
import Derived.OwnWalkIn
import Derived.TacticsInMore
import Derived.LoopNIn
import Derived.LoopIn
import Derived.Stop.RegionWithIn
import Derived.Test.YtfjcldheldflbaaGreatDoorProg
set_option maxHeartbeats 4000000
namespace Go.Proofs.YtfjcldheldflbaaGreatDoor
open Go.Proofs.Tryz
open Go Go.Jog
set_option maxRecDepth 100000
variable {C:Mem}{cyc:List Nat}{i k n:Nat}{q:Rat}{s:Str}
theorem Ak (q:Rat):q.num<0 ↔ q<0:=by
 rw [Rat.lt_iff];simp
theorem vL {z:Int}(h:(bk z.natAbs).length<=200):cE (txt z)=true:=by
 refine rA.2 ?_;rw [dJ];refine ⟨yh.2 ⟨(bA _).1,h⟩,fun a=>?_⟩;have h1:=OQ a;show 0<bU (bk z.natAbs);rw [(bA _).2];omega
theorem Bf (z:Int):ix (txt z)=z:=by
 unfold ix;rw [dJ];show sgZ (decide (z<0)) (bU (bk z.natAbs))=z;rw [(bA _).2];unfold sgZ;by_cases h:z<0
 ·rw [PV h,aL rfl];omega
 rw [P7 h,aF dc_];omega
theorem bC (h:QB 22 q):aV (qtx q)=true:=by
 have h1:(bk q.num.natAbs).length<=200:=by have:=bV h.1 dc_;omega
 have h2:(bk q.den).length<=200:=by have:=bV h.2 dc_;omega
 unfold aV;rw [nW];show (cE (txt q.num) && cE ((nI q.den).getD [49]) && oS (ix (txt q.num)) (nI q.den))=true;rw [Gu,Bf,vL h1,<- de,vL (by rw [Qn];exact h2),SG,SG];by_cases a:q.den=1
 ·rw [lU a];rfl
 rw [fI a];unfold oS;show (decide (1<ix (bk q.den)) && !(q.num == 0) && (Nat.gcd q.num.natAbs (ix (bk q.den)).natAbs == 1))=true;have b:ix (bk q.den)=((q.den:Nat):Int):=by rw [<- de,Bf]
 have d:=gN q;rw [b,PV om_,Qn,show Nat.gcd q.num.natAbs q.den=1 from q.reduced];have c:q.num≠0:=by
  intro e;have h3:=q.reduced;rw [e] at h3;have h4:Nat.gcd 0 q.den=1:=h3;rw [Nat.gcd_zero_left] at h4;exact a h4
 simp [c]
theorem wV (h:QB 22 q):nC (aV (qtx q))=0:=by rw [bC h];rfl
abbrev Pt:=Rat × Rat
def cY (p:Pt):List Value:=[ah (qtx p.1),ah (qtx p.2)]
def ptV (p:Pt):Value:=.agg ⟨cY p⟩
def QP (k:Nat)(p:Pt):Prop:=QB k p.1/\QB k p.2
def cW (a b c:Pt):Rat:=(b.1-a.1)*(c.2-a.2)-(b.2-a.2)*(c.1-a.1)
theorem eX (b:Bool):nC b=0/\b=true∨nC b=2/\b=false:=by cases b <;> simp [nC]
def gi (s:Str):List Value:=[ah s]
theorem rJ (C:Mem)(h:Tabs C)(v:Value)(l:List Str)(c:Sl C 1 v (l.map gi))(j:∀ s∈l,s.length<=999998):Gives cx.P 132 [v] C (.int .i64 (nC (l.all aV))):=by
 obtain ⟨k,c0,rfl,n,w,_⟩:=id c;have x:maxLen<=9223372036854775807:=by simp [maxLen]
 simp only [am] at c n ⊢;refine Tk func132 18 U3 fun w0=>Tb 1 [0] Z<|Tb 3 [6,7,8] Z<|G.loop (fun fr y o p=>∃ (i:Nat),(i<=l.length/\(l.take i).all aV=true)/\fr=[(6,[],.slice k l.length c0),(7,[],.int .i64 l.length),(8,[],.int .i64 i)]/\o=[]/\p=l.length-i) (hn_ [6,7,8] Z) ⟨0,⟨PG _,by simp⟩,Z,Z,Z⟩ (fun fr z A m q r=>?_);obtain ⟨i,⟨B,d⟩,rfl,rfl,rfl⟩:=r;refine Tb 1 [6,7,8,9] Z<|G.cd (fun e=>?_) fun e=>?_
 ·have f:i<l.length:=by simpa using e
  obtain ⟨s,hs⟩:∃ s,l[i]?=some s:=⟨l[i],al f⟩;refine Tf fun R a=>Tt c.m_ U10 om_ (by rw [PD,hs];rfl:(l.map gi)[i]?=some (gi s)) fl_ fun D t=>Td t U8<|C6 1 [4,6,7,8] a Z<|Tc 1 Z fun R a=>To (dF _ h.m_ s (j s (Px hs))) U7<|C6 1 [5,6,7,8] a Z<|Tb 2 [5,6,7,8,15] Z<|G.cd (fun b=>?_) fun b=>?_
  ·have g:aV s=false:=by
    rcases eX (aV s) with ⟨h1,h2⟩ | ⟨h1,h2⟩
    ·rw [h1] at b;exact absurd b dc_
    exact h2
   refine Tb 2 [2] Z<|Tl U2<|⟨?_,Z⟩;rw [g,show l.all aV=false from RM.2 ⟨s,Px hs,by rw [g];decide⟩]
  have u:aV s=true:=by
   rcases eX (aV s) with ⟨h1,h2⟩ | ⟨h1,h2⟩
   ·exact h2
   rw [h1] at b;exact absurd b dc_
  refine Tf fun R a=>Tm _ U7<|C6 1 [6,7,8] a Z<|Tp (m':=l.length-(i+1)) om_ q (hn_ [6,7,8] Z) ⟨i+1,⟨by omega,by rw [P0,hs,SY,d];simp [u]⟩,Z,Z,Z⟩
 have f:i=l.length:=by
  have:¬ i<l.length:=by simpa using e
  omega
 refine Tb 1 [2] Z<|Tl U2<|⟨?_,Z⟩;rw [f,PO] at d;rw [d];rfl
theorem Nu {t:Str}(a:s.length<=n)(b:t.length<=n):∀ x∈[s,t],x.length<=n:=by simp [a,b]
theorem HE {t u:Str}(a:s.length<=n)(b:t.length<=n)(c:u.length<=n):∀ x∈[s,t,u],x.length<=n:=by simp [a,b,c]
theorem io (C:Mem)(b:Tabs C)(s t:Str)(c:s.length<=999998)(d:t.length<=999998):Gives cx.P 66 [.agg ⟨[ah s,ah t]⟩] C (.int .i64 (nC (aV s && aV t))):=by
 refine Tk func66 9 U3 fun w0=>Tf fun R a=>Tv U6 fun b1=>C6 1 [1] a Z<|Tc 1 Z fun R a=>Ti ag U9<|Te U6<|Ti ag U9<|Tz [gi s,gi t] U12 fun f _ _ e=>To (rJ _ b.m_ _ [s,t] e.m_ (Nu c d)) U7<|C6 1 [2] a Z<|Tl U2<|⟨?_,Z⟩;simp
theorem re (C:Mem)(b:Tabs C)(s t u:Str)(c:s.length<=999998)(d:t.length<=999998)(e:u.length<=999998):Gives cx.P 319 [.agg ⟨[ah s,ah t,ah u]⟩] C (.int .i64 (nC (aV s && aV t && aV u))):=by
 refine Tk func319 11 U3 fun w0=>Tf fun R a=>Tv U6 fun b1=>C6 1 [1] a Z<|Tc 1 Z fun R a=>Ti ag U9<|Te U6<|Ti ag U9<|Te U6<|Ti ag U9<|Tz [gi s,gi t,gi u] U12 fun g _ _ f=>To (rJ _ b.m_ _ [s,t,u] f.m_ (HE c d e)) U7<|C6 1 [2] a Z<|Tl U2<|⟨?_,Z⟩;simp [Bool.and_assoc]
theorem ip (C:Mem)(e:Tabs C)(a b c:Pt)(k:Nat)(g:0<k)(l:k<=1000)(d:QP k a)(h:QP k b)(i:QP k c):Gives cx.P 71 [ptV a,ptV b,ptV c] C (ah (qtx (cW a b c))):=by
 have h1:=iy h.1 d.1;have h2:=iy i.2 d.2;have h3:=iy h.2 d.2;have h4:=iy i.1 d.1;exact Tk func71 32 U3 fun w0=>Tf fun R f=>Tv U6 fun m=>Tv U6 fun n=>Tv U6 fun o=>C6 1 [3,4,5] f Z<|Tx [0,1,2,3,4,5,6,7,8,9,10,11] [(4,1),(9,1),(10,1)] Z kr_ fun R j f=>Te U6<|Ti af U9<|Te U6<|Ti ae U9<|TA (fun _=>(dz _ e.m_ b.1 a.1 k g om_ h.1 d.1)) U9<|Te U6<|Ti ag U9<|Te U6<|Ti ae U9<|TA (fun _=>(dz _ e.m_ c.2 a.2 k g om_ i.2 d.2)) U9<|TA (fun _=>(cU _ e.m_ (b.1-a.1) (c.2-a.2) (k+k+1) om_ om_ h1 h2)) U9<|C6 1 [3,4,5,7] f Z<|Tx [0,1,2,3,4,5,6,7,8,9,10,11,12,13] [(5,1),(10,1),(11,1),(12,1)] Z kr_ fun R j f=>Tg 2 Z<|Ti af U9<|Te U6<|Ti ae U9<|TA (fun _=>(dz _ e.m_ b.2 a.2 k g om_ h.2 d.2)) U9<|Te U6<|Ti ag U9<|Te U6<|Ti ae U9<|TA (fun _=>(dz _ e.m_ c.1 a.1 k g om_ i.1 d.1)) U9<|TA (fun _=>(cU _ e.m_ (b.2-a.2) (c.1-a.1) (k+k+1) om_ om_ h3 h4)) U9<|TA (fun _=>(dz _ e.m_ ((b.1-a.1)*(c.2-a.2)) ((b.2-a.2)*(c.1-a.1)) (k+k+1+(k+k+1)) om_ om_ (qF h1 h2) (qF h3 h4))) U9<|C6 1 [6] f Z<|Tl U2<|⟨Z,Z⟩
theorem zg {a b c:Pt}(d:QP k a)(e:QP k b)(f:QP k c):QB (8*k+5) (cW a b c):=by
 have h:=iy (qF (iy e.1 d.1) (iy f.2 d.2)) (qF (iy e.2 d.2) (iy f.1 d.1));exact h.le om_
theorem oA (C:Mem)(h:Tabs C)(a b c:Pt)(k:Nat)(i:0<k)(j:k<=1000)(e:QP k a)(f:QP k b)(g:QP k c):Gives cx.P 129 [ptV a,ptV b,ptV c] C (.int .i64 (dE (cW a b c).num)):=by
 exact Tk func129 12 U3 fun w0=>Tf fun R d=>Tv U6 fun l=>Tv U6 fun m=>Tv U6 fun n=>C6 1 [3,4,5] d Z<|Tf fun R d=>Ti ae U9<|Ti af U9<|Ti ag U9<|To (ip _ h.m_ a b c k i j e f g) U7<|Ts (er _ (cW a b c) (by have:=bl (zg e f g) om_;omega)) U7 fl_<|C6 1 [6] d Z<|Tl U2<|⟨Z,Z⟩
theorem tz (C:Mem)(c:Tabs C)(q:Rat)(b:QB 22 q):Gives cx.P 72 [ah (qtx q)] C (.tuple #[ah (qtx q),.int .i64 0]):=by
 refine Tk func72 8 U3 fun w0=>Tb 2 [0] Z<|Tc 1 Z fun R d=>Ts (dF _ c.m_ _ (by have:=bl b dc_;omega)) U7 fl_<|C6 1 [0,6] d Z<|G.cd (fun a=>?_) fun a=>?_
 ·exfalso;rw [wV b] at a;exact absurd a dc_
 refine Tb 3 [2,3] Z<|Tn (G.dropAll (TD U3 ?_));exact ⟨Z,Z⟩
abbrev Tri:=Nat × Nat × Nat
def gz (t:Tri):List Value:=[.int .i64 (t.1:Nat),.int .i64 (t.2.1:Nat),.int .i64 (t.2.2:Nat)]
def Dd (a b c:Pt):Value:=.agg ⟨cY a++cY b++cY c⟩
theorem mR (C:Mem)(k l:Value)(d:List Pt)(g:List Tri)(i:Nat)(t:Tri)(a b c:Pt)(e:Sl C 2 k (d.map cY))(h:Sl C 3 l (g.map gz))(m:g[i]?=some t)(n:d[t.1]?=some a)(o:d[t.2.1]?=some b)(p:d[t.2.2]?=some c) :
  Gives cx.P 68 [.agg ⟨[k,l]⟩,.int .i64 i] C (Dd a b c):=by
 obtain ⟨x,y,rfl,q,z,_⟩:=id e;obtain ⟨A2,c2,rfl,r,A,_⟩:=id h;have B:maxLen<=9223372036854775807:=by simp [maxLen]
 simp only [am] at e h q r ⊢;have D:=(aJ.1 m).1;have E:=(aJ.1 n).1;have F:=(aJ.1 o).1;have G:=(aJ.1 p).1;refine Tk func68 30 U3 fun w0=>Tf fun R f=>Tv U6 fun b2=>Tq U5 fun H=>Th [1,2,4] f Z<|Tc 1 Z fun R f=>Ti af U9<|Te U6<|Tt h.m_ U10 om_ (by rw [PD,m];rfl:(g.map gz)[i]?=some (gz t)) fl_ fun I s=>Td s U8<|Tq U5 fun J=>Tj (j:=0) U12<|Th [2,4,5] f Z<|Tx [0,1,2,3,4,5,6,7,8,9,10,11,12,13,14,15,16,17,18,19] [] Z kr_ fun R K f=>Te U6<|Ti ae U9<|Ty (0) U9 ai U2<|Ti ag U9<|Tt e.m_ U10 om_ (by rw [PD,n];rfl:(d.map cY)[t.1]?=some (cY a)) fl_ fun L u=>Td u U8<|Te U6<|Ti ae U9<|Ty (1) U9 ai U2<|Ti ag U9<|Tt e.m_ U10 om_ (by rw [PD,o];rfl:(d.map cY)[t.2.1]?=some (cY b)) fl_ fun M v=>Td v U8<|Te U6<|Ti ae U9<|Ty (2) U9 ai U2<|Ti ag U9<|Tt e.m_ U10 om_ (by rw [PD,p];rfl:(d.map cY)[t.2.2]?=some (cY c)) fl_ fun N w=>Td w U8<|Tw (cY a++cY b++cY c) U8<|Tj (j:=1) U12<|Th [4] f Z<|Tn (TY ag U4 ?_);exact ⟨Z,Z⟩
theorem FQ (C:Mem)(d:Tabs C)(a b c p:Pt)(k:Nat)(e:0<k)(f:k<=1000)(j:QP k a)(l:QP k b)(m:QP k c)(g:QP k p) :
  Gives cx.P 67 [Dd a b c,ptV p] C (.bool (decide (0<=cW a b p) && decide (0<=cW b c p) && decide (0<=cW c a p))):=by
 refine Tk func67 30 U3 fun w0=>Tf fun R i=>Tv U6 fun b2=>Tv U6 fun n=>C6 1 [2,3] i Z<|Tf fun R i=>Ty (0) U9 ai U2<|Ti af U9<|Ty (2) U9 ai U2<|Ti af U9<|Ti ag U9<|To (oA _ d.m_ a b p k e f j l g) U7<|Tg 2 Z<|Ty (2) U9 ai U2<|Ti af U9<|Ty (4) U9 ai U2<|Ti af U9<|Ti ag U9<|TO (fun _=>(oA _ d.m_ b c p k e f l m g)) U9<|Te U6<|TB U8<|Te U6<|Ty (4) U9 ai U2<|Ti af U9<|Ty (0) U9 ai U2<|Ti af U9<|Ti ag U9<|TO (fun _=>(oA _ d.m_ c a p k e f m j g)) U9<|Te U6<|TB U8<|C6 1 [4] i Z<|Tl U2<|⟨?_,Z⟩;have hs:∀ q:Rat,decide (dE q.num ≥ 0)=decide (0<=q):=fun q=>by
  rw [Qo,<- Rat.num_nonneg];rcases ec q.num with h | h | h <;> omega
 rw [<- hs,<- hs,<- hs]
open Go Go.Jog Go.RowKit Go.Shelf
attribute [local go_sem] Oper.semAt_some
def Lf (zs:Nat->Int)(k:Nat):Value:=.agg #[.int .i64 (zs k),.int .i64 (zs ((k+1) % 3))]
set_option maxRecDepth 100000 in
theorem HV (l Bs:Nat)(zs:Nat->Int)(J:Nat->World->Prop)
  (hD:∀ k W,J k W->J k W.drew)
  (hJ:∀ k W,J k W->∀ j,j<3->W.cell? ⟨Bs,j,none⟩=some (.int .i64 (zs j)))
  (hY:∀ k W,J k W->k<3->YieldAt Fence.wide 1 Tryz.prog l #[.int .i64 (k:Nat),Lf zs k] W fun e W'=>e=.returned (.bool true)/\J (k+1) W')
  (W:World) (h0:J 0 W) :
  CallsIn Fence.wide 2 Tryz.prog 263 #[.func (.yield l) #[] #[],.pointer (some ⟨Bs,0,none⟩)] W fun e W'=>(∃ v,e=.returned v)/\J 3 W':=by
 refine callsIn_of_wp func263 Z trivial ?_ Z;simp only [Tryz.ntmps263,Rv,PR,P6,Nat.reduceAdd,Nat.reduceSub,SU,SV,List.push_toArray,List.append_toArray,Rw,Rh]
 gi_wp2
 gi_loopw [4] (fun i wr=>∃ k:Nat,k<=3/\i=.int .i64 k/\J k wr) (fun i _=>(3-intOf i).toNat)
 case atStart=>exact ⟨0,by omega,rfl,h0⟩
 case round =>
  obtain ⟨k,hk,rfl,hJs⟩:=hrel;by_cases hlt:k<3
  ·have hJd:=hD k wr hJs;have hcd:=hJ k _ hJd;obtain ⟨fn,tmps,assign,body,hy,hR⟩:=hY k _ hJd hlt;rcases (by omega:k=0∨k=1∨k=2) with rfl | rfl | rfl
   ·have hc0:=hcd 0 om_;have hc1:=hcd 1 om_;have hy2:Sem.run Tryz.prog (Instr.yield l #[Value.int .i64 0,Value.agg #[.int .i64 (zs 0),.int .i64 (zs 1)]]) wr.drew=.ok (.round l fn tmps assign body) wr.drew:=hy;clear hy
    gi_wp2
    gi_region_with (refine hR.mono ?_;rintro e W3 ⟨rfl,hJ3⟩)
    all_goals
     gi_wp2
     go_roundw
     case rel=>exact ⟨1,by omega,rfl,hJ3⟩
     case measure=>simp [intOf]
   ·have hc0:=hcd 1 om_;have hc1:=hcd 2 om_;have hy2:Sem.run Tryz.prog (Instr.yield l #[Value.int .i64 1,Value.agg #[.int .i64 (zs 1),.int .i64 (zs 2)]]) wr.drew=.ok (.round l fn tmps assign body) wr.drew:=hy;clear hy
    gi_wp2
    gi_region_with (refine hR.mono ?_;rintro e W3 ⟨rfl,hJ3⟩)
    all_goals
     gi_wp2
     go_roundw
     case rel=>exact ⟨2,by omega,rfl,hJ3⟩
     case measure=>simp [intOf]
   have hc0:=hcd 2 om_;have hc1:=hcd 0 om_;have hy2:Sem.run Tryz.prog (Instr.yield l #[Value.int .i64 2,Value.agg #[.int .i64 (zs 2),.int .i64 (zs 0)]]) wr.drew=.ok (.round l fn tmps assign body) wr.drew:=hy;clear hy
   gi_wp2
   gi_region_with (refine hR.mono ?_;rintro e W3 ⟨rfl,hJ3⟩)
   all_goals
    gi_wp2
    go_roundw
    case rel=>exact ⟨3,by omega,rfl,hJ3⟩
    case measure=>simp [intOf]
  obtain rfl:k=3:=by omega
  gi_wp2
  go_end0
  exact ⟨⟨_,Z⟩,hJs⟩
def Dx (t:Tri)(j:Nat):Int:=if j=0 then (t.1:Nat) else if j=1 then (t.2.1:Nat) else (t.2.2:Nat)
def vB (t:Tri):List (Value × Value):=(List.range 3).map fun k=>(.int .i64 (k:Nat),Lf (Dx t) k)
theorem mr (t:Tri):(vB t).length=3:=rfl
theorem vA {t:Tri}(h:k<3):(vB t)[k]?=some (.int .i64 (k:Nat),Lf (Dx t) k):=by
 simp [vB,h]
theorem BZ (C:Mem)(b c:Nat)(t:Tri)(d:C b=some (.cells ⟨gz t⟩ c (0,0))) :
  OO Tryz.prog 263 #[.pointer (some ⟨b,0,none⟩)] C (vB t):=by
 intro l J W e f g h0;refine HV l b (Dx t) J f (fun k W a j i=>?_) (fun k W a h=>g k _ W a (vA h)) W h0;have h1:=e k W a b _ d;rcases (by omega:j=0∨j=1∨j=2) with rfl | rfl | rfl <;> simp [World.cell?,h1,gz,Dx]
theorem HW (C:Mem)(t:Tri):Pur cx.P 213 [.agg ⟨gz t⟩] C fun r a=>∃ b,r=.func (.func 263) #[] #[.pointer (some ⟨b,0,none⟩)]/\a b=some (.cells ⟨gz t⟩ 65 (0,0)):=by
 exact Tk func213 4 U3 fun w0=>Tf fun R c=>Tv U6 fun b1=>C6 1 [1] c Z<|Tb 2 [2] Z<|G.freeze 0 Z fun e f d=>Tl U2<|⟨Z,_,Z,d⟩
def nG (t:Tri)(k:Nat):Int × Int:=(Dx t k,Dx t ((k+1) % 3))
abbrev Nd:=List ((Int × Int) × Value)
def Dy (m:Nd)(i:Nat)(t:Tri):Nat->Nd
 | 0=>m
 | k+1=>iv (Dy m i t k) (nG t k) (.int .i64 (i:Nat))
def vX (tris:List Tri):Nat->Nd
 | 0=>[]
 | n+1=>Dy (vX tris n) n (tris.getD n (0,0,0)) 3
noncomputable def kI2:KeyP cx.P 163 (Int × Int):=Pa rfl rfl rfl kr_
theorem vW (C:Mem)(p F:Value)(a:List Tri)(M:a≠[])(s:Sl C 3 F (a.map gz))(N:∀ i t k,a[i]?=some t->k<3->dU (Dy (vX a i) i t k) (nG t k)=none) :
  Pur cx.P 145 [.agg ⟨[p,F]⟩] C fun u D=>∃ b,u=.tuple #[.map (some b),.bool true]/\D b=some (aU pR (vX a a.length)):=by
 obtain ⟨A2,c2,rfl,O,aa,_⟩:=id s;have ab:maxLen<=9223372036854775807:=by simp [maxLen]
 simp only [am] at s O ⊢;refine UI kr_ func145 Z 36 Z Z fun w0=>Tf fun R c=>Tv U6 fun b1=>Tq U5 fun b2=>Tq U5 fun h=>Th [1,2,3] c Z<|Tf fun R c=>Vd kI2 Z Z Z Z fl_ fun f=>Tq U5 fun n=>Tj (j:=0) U12<|Th [1,2,3,4] c Z<|Tc 1 Z fun R c=>Ti (.tail _ ac) U9<|C6 2 [2,3,4,13,14,15] c Z<|G.perm (L':=[.obj n (.cells ⟨[.map (some f)]⟩ 234 (0,0)),.obj f (aU pR []),.obj h (.cells ⟨[.bool false]⟩ 4 (0,0)),.obj b2 (.cells ⟨[.map none]⟩ 234 (0,0)),.obj b1 (.cells ⟨[p,.slice A2 a.length c2]⟩ 39 (0,0))]) (PC _)<|V1 (fun dd fr C' d Q=>∃ (i:Nat)(g:List Nat),(i<=a.length/\g.length=i)/\dd=g.map Jy/\fr=[(2,[],.pointer (some ⟨b2,0,none⟩)),(3,[],.pointer (some ⟨h,0,none⟩)),(4,[],.pointer (some ⟨n,0,none⟩)),(13,[],.slice A2 a.length c2),(14,[],.int .i64 a.length),(15,[],.int .i64 i)]/\d=[.obj n (.cells ⟨[.map (some f)]⟩ 234 (0,0)),.obj f (aU pR (vX a i)),.obj h (.cells ⟨[.bool false]⟩ 4 (0,0)),.obj b2 (.cells ⟨[.map none]⟩ 234 (0,0)),.obj b1 (.cells ⟨[p,.slice A2 a.length c2]⟩ 39 (0,0))]++g.map yQ/\Q=a.length-i) (hn_ [2,3,4,13,14,15] Z) ⟨0,[],⟨PG _,Z⟩,Z,Z,Z,Z⟩ (fun dd fr ad ah m _ o=>?_);obtain ⟨i,g,⟨hi,w⟩,rfl,rfl,rfl,rfl⟩:=o;refine Tb 1 [2,3,4,13,14,15,16] Z<|G.cd (fun x=>?_) fun x=>?_
 ·have y:i<a.length:=by simpa using x
  obtain ⟨t,A⟩:∃ t,a[i]?=some t:=⟨a[i],al y⟩;refine Tc 1 Z fun R c=>Tt s.m_ U10 om_ (by rw [PD,A];rfl:(a.map gz)[i]?=some (gz t)) fl_ fun ai S=>Td S U8<|Tq U5 fun B=>Tq U5 fun H=>Tj (j:=1) U12<|Tj (j:=1) U12<|Th [2,3,4,5,6,13,14,15] c Z<|Tf fun R c=>Ti ag U9<|TM (HW _ t) U7 fun aj _ _ T=>Th [2,3,4,5,13,14,15,21] c Z ?_;obtain ⟨U,rfl,V⟩:=T;refine V5 Z Z kr_ (BZ _ U _ t V) (fun j d=>∃ (z:Unit),(j<=3)/\d=[.obj H (.cells ⟨gz t⟩ 65 (0,0)),.obj B (.cells ⟨[.int .i64 i]⟩ 3 (0,0)),.obj n (.cells ⟨[.map (some f)]⟩ 234 (0,0)),.obj f (aU pR (Dy (vX a i) i t j)),.obj h (.cells ⟨[.bool false]⟩ 4 (0,0)),.obj b2 (.cells ⟨[.map none]⟩ 234 (0,0)),.obj b1 (.cells ⟨[p,.slice A2 a.length c2]⟩ 39 (0,0))]++g.map yQ) ⟨(),PG _,Z⟩ Z (fun _ _=>rfl) (fun j d fr I=>∃ (q:Nat),fr=[(2,[],.pointer (some ⟨b2,0,none⟩)),(3,[],.pointer (some ⟨h,0,none⟩)),(4,[],.pointer (some ⟨n,0,none⟩)),(5,[],.pointer (some ⟨B,0,none⟩)),(8,[],.pointer (some ⟨q,0,none⟩))]/\I=.obj q (.cells ⟨[.int .i64 (nG t j).1,.int .i64 (nG t j).2]⟩ 163 (0,0))::d) (fun l j u v d W o r=>?_) (fun l j u v d ak I W o r X=>?_) (fun J d o=>?_)
  ·obtain ⟨z,K,rfl⟩:=o;have E:j<3:=by have:=(aJ.1 r).1;rwa [mr] at this
   rw [vA E] at r;cases r
   exact Tf fun R c=>Tq U5 fun q=>Tj (j:=0) U12<|Th [2,3,4,5,8] c Z<|V6 (hn_ [2,3,4,5,8] Z) ⟨q,Z,Z⟩
  ·obtain ⟨z,K,rfl⟩:=o;obtain ⟨q,rfl,rfl⟩:=X;have E:j<3:=by have:=(aJ.1 r).1;rwa [mr] at this
   refine Tf fun R c=>Ti ac U9<|Ti ag U9<|Ve kI2 (.tail _ ac) Z Z Z Z Z Z Z Z Z (congrArg (lB _ true) (N i t j A E)) Z Z<|C6 5 [2,3,4,5,8,10] c Z<|Tb 1 [2,3,4,5,8,30] Z<|G.cd (fun L=>?_) fun L=>?_
   ·exact absurd L dc_
   refine Tf fun R c=>Ti ac U9<|Ti ag U9<|Ti ae U9<|UZ kI2 (j:=4) Z Z Z Z Z Z Z Z Z Z<|Ui [] trivial (c _ _ _ Z ?_);exact TV 1 Z<|UU (R:=fun d=>∃ (z:Unit),((j+1)<=3)/\d=[.obj H (.cells ⟨gz t⟩ 65 (0,0)),.obj B (.cells ⟨[.int .i64 i]⟩ 3 (0,0)),.obj n (.cells ⟨[.map (some f)]⟩ 234 (0,0)),.obj f (aU pR (Dy (vX a i) i t (j+1))),.obj h (.cells ⟨[.bool false]⟩ 4 (0,0)),.obj b2 (.cells ⟨[.map none]⟩ 234 (0,0)),.obj b1 (.cells ⟨[p,.slice A2 a.length c2]⟩ 39 (0,0))]++g.map yQ) (List.perm_middle (l₁:=[_,_,_])).symm ⟨(),om_,Z⟩
  obtain ⟨z,K,rfl⟩:=o;refine Tf fun R c=>Tm _ U7<|C6 1 [2,3,4,13,14,15] c Z<|TV 1 Z<|TV 1 Z<|G.perm (L':=[.obj n (.cells ⟨[.map (some f)]⟩ 234 (0,0)),.obj f (aU pR (vX a (i+1))),.obj h (.cells ⟨[.bool false]⟩ 4 (0,0)),.obj b2 (.cells ⟨[.map none]⟩ 234 (0,0)),.obj b1 (.cells ⟨[p,.slice A2 a.length c2]⟩ 39 (0,0))]++(J::g).map yQ) (by
   rw [show vX a (i+1)=Dy (vX a i) i t (vB t).length by rw [mr,vX,ay,A];rfl];exact (List.perm_middle (l₁:=[_,_,_,_,_])).symm) ?_
  refine V0 (m':=a.length-(i+1)) om_ mup (hn_ [2,3,4,13,14,15] Z) ⟨i+1,J::g,⟨by omega,by simp [w]⟩,Z,Z,Z,Z⟩
 have y:i=a.length:=by
  have:¬ i<a.length:=by simpa using x
  omega
 refine Tf fun R c=>Ti ag U9<|Tj (j:=3) U12<|Tj (j:=3) U12<|Th [2,3] c Z<|G.freeze 3 Z fun Cf an Y=>G.perm (L':=g.map yQ++[_,_,_,_]) (Qw (l₁:=[_,_,_,_]))<|Tn (V3 (NR af ag Z Z Z Z Z Z Z) ?_ ?_)
 ·exact ⟨Z,f,Z,by rw [<- y];exact Y⟩
 intro e;rw [e] at w;have:=Qi.2 M;simp at w;omega
def J7 (kd a b:Int)(h:Bool):Value:=.agg ⟨[.int .u8 kd,.int .i8 a,.int .i8 b,.bool h]⟩
def eN (h:Bool):Int:=if h then 2 else 1
def dQ (a b:Int)(h:Bool)(x y by':Int):Pt:=(mO (x+a.tmod 8*by') (eN h*by'),mO (y+b.tmod 8*by') (eN h*by'))
theorem DZ (a:Int):-8<a.tmod 8/\a.tmod 8<8:=by
 have h:(a.tmod 8).natAbs=a.natAbs % 8:=Sf a 8;omega
theorem AA (C:Mem)(g:Tabs C)(i a b:Int)(h:Bool)(x y n:Int)(u:0<n)(v:n<=4)(w:-128<=x/\x<=127)(A:-128<=y/\y<=127) :
  Gives cx.P 116 [J7 i a b h,.agg ⟨[.int .i8 x,.int .i8 y]⟩,.int .i64 n] C (ptV (dQ a b h x y n)):=by
 have k:=DZ a;have l:=DZ b;have m:∀ z:Int, -8<z->z<8->-32<z*n/\z*n<32:=fun z h1 h2=>by
  rcases (by omega:n=1∨n=2∨n=3∨n=4) with e | e | e | e <;> subst e <;> omega
 have B:=m _ k.1 k.2;have D:=m _ l.1 l.2;have hh:eN h=1∨eN h=2:=by cases h <;> simp [eN]
 have E:0<eN h*n/\eN h*n<=8:=by rcases hh with e | e <;> rw [e] <;> omega
 refine Tk func116 53 U3 fun w0=>Tf fun R d=>Tv U6 fun o=>Tv U6 fun p=>Tq U5 fun q=>Th [2,3,4,6] d Z<|Tb 1 [2,3,4,6,7] Z<|Tc 1 Z fun R d=>Ti ae U9<|Th [2,3,4,6,7,13] d Z<|G.cut (fun fr F r s=>(True)/\fr=[(2,[],.int .i64 n),(3,[],.pointer (some ⟨o,0,none⟩)),(4,[],.pointer (some ⟨p,0,none⟩)),(6,[],.pointer (some ⟨q,0,none⟩)),(7,[],.int .i64 (eN h))]/\r=[.obj q (.cells ⟨[ah [],ah []]⟩ 34 (0,0)),.obj p (.cells ⟨[.int .i8 x,.int .i8 y]⟩ 23 (0,0)),.obj o (.cells ⟨[.int .u8 i,.int .i8 a,.int .i8 b,.bool h]⟩ 25 (0,0))]) ?_ (fun fr _ H s _ t=>?_)
 ·refine G.cd (fun f=>?_) fun f=>?_
  ·have h1:h=true:=f;subst h1;refine Tb 1 [2,3,4,6,7] Z<|Tr 0 (Mem.le.refl _) (hn_ [2,3,4,6,7] Z) ⟨trivial,Z,Z⟩
  have h1:h=false:=by simpa using f
  subst h1;refine Tr 0 (Mem.le.refl _) (hn_ [2,3,4,6,7] Z) ⟨trivial,Z,Z⟩
 obtain ⟨_,rfl,rfl⟩:=t;refine Tf fun R d=>Ty (0) U9 ai U2<|Ti af U9<|TR (c:=x) U8 (wrap_i64 om_ om_) fl_<|Te U6<|Ty (1) U9 ai U2<|Ti ae U9<|Uo (a.tmod 8) U6 dc_ U3<|TR (c:=a.tmod 8) U8 (wrap_i64 om_ om_) fl_<|Te U6<|Tm _ U7<|Tm _ U7<|Tg 2 Z<|Tm _ U7<|Ts (EA _ g.m_ (x+a.tmod 8*n) (eN h*n) om_ om_ om_) U7 fl_<|C6 5 [2,3,4,6,7,8] d Z<|Tf fun R d=>Ty (1) U9 ai U2<|Ti af U9<|TR (c:=y) U8 (wrap_i64 om_ om_) fl_<|Te U6<|Ty (2) U9 ai U2<|Ti ae U9<|Uo (b.tmod 8) U6 dc_ U3<|TR (c:=b.tmod 8) U8 (wrap_i64 om_ om_) fl_<|Te U6<|Tm _ U7<|Tm _ U7<|Tg 2 Z<|Tm _ U7<|Ts (EA _ g.m_ (y+b.tmod 8*n) (eN h*n) om_ om_ om_) U7 fl_<|C6 5 [6,8,10] d Z<|Tc 2 Z fun R d=>Tw (cY (dQ a b h x y n)) U8<|Tj (j:=0) U12<|Th [6] d Z<|Tn (TY ag U4 ?_);exact ⟨Z,Z⟩
def fT (s p:Nat):Value:=.agg ⟨[.int .i64 (s:Nat),.int .i64 (p:Nat)]⟩
theorem iI (C:Mem)(s p:Nat)(h:s*p<=1000000000):Gives cx.P 149 [fT s p] C (.int .i64 ((s*p:Nat):Int)):=by
 exact Tk func149 8 U3 fun w0=>Tf fun R a=>Tv U6 fun b1=>C6 1 [1] a Z<|Tc 1 Z fun R a=>Ti ag U9<|Te U6<|Ti ag U9<|Tm _ U7<|C6 1 [2] a Z<|Tl U2<|⟨Z,Z⟩
theorem NJ (C:Mem)(s p:Nat)(i k:Int)(h:-1000000000000<=i*p/\i*p<=1000000000000)(b:-1000000000<=k/\k<=1000000000):Gives cx.P 240 [fT s p,.int .i64 i,.int .i64 k] C (.int .i64 (i*p+k)):=by
 exact Tk func240 13 U3 fun w0=>Tf fun R a=>Tv U6 fun c=>C6 1 [1,2,3] a Z<|Tc 2 Z fun R a=>Ti ag U9<|Tm _ U7<|Te U6<|Tm _ U7<|C6 1 [6] a Z<|Tl U2<|⟨Z,Z⟩
theorem AG {m:Nd}{s:fo}:(dU m (s.2,s.1)).isSome=!jg (m.map (·.1)) s:=by
 unfold jg nF;rw [Bool.not_not];cases h:dU m (s.2,s.1) with
 | none=>rw [cC] at h;simp [h]
 | some v =>
  have:=RD (f:=(·.1)) (gU h);simp only [Option.isSome_some];exact (PV this).symm
theorem IC (C:Mem)(v1 v2:Value)(b:Nat)(m:Nd)(n:C b=some (aU pR m))(hn:(m.map (·.1)).Nodup)(O:∀ s∈m.map (·.1),0<=s.1)(aD:m.length<=1000000) :
  Pur cx.P 196 [.agg ⟨[v1,v2]⟩,.map (some b)] C fun u D=>∃ v,u=.tuple #[v,.bool (decide (vY (m.map (·.1))≠[]))]/\Sl D 1 v ((vY (m.map (·.1))).map pS):=by
 have aE:maxLen<=9223372036854775807:=by simp [maxLen]
 have Q:=fun s:fo=>AG (m:=m) (s:=s);obtain ⟨ks,J⟩:∃ ks,m.map (·.1)=ks:=⟨_,rfl⟩;rw [J] at hn O ⊢;simp only [J] at Q;have aj:ks.length=m.length:=by rw [<- J];simp
 refine Tk func196 93 U3 fun w0=>Tf fun R c=>Tv U6 fun b2=>C6 2 [1] c Z<|Tf fun R c=>D.makeMap keyZ Z Z Z Z fl_ fun l=>C6 1 [1,6] c Z<|Tb 1 [1,6,7] Z<|Tc 1 Z fun R c=>U0 kI2.enc (Mem.get n mup) Z Z Z Z Z Z Z fl_ fun E=>Th [1,6,7,19] c Z<|TV 2 Z<|G.loop (fun fr C' o S=>∃ (seen:List Nat)(f:Int),(seen.Nodup/\(∀ j∈seen,j<ks.length)/\((fh ks seen).map (·.1)).Nodup/\lE (fh ks seen) f)/\fr=[(1,[],.map (some b)),(6,[],.map (some l)),(7,[],.int .i64 f),(19,[],.pointer (some ⟨E,0,none⟩))]/\o=[.obj E (bj b m.length seen),.obj l (aU keyZ.enc (tO (fh ks seen)))]/\S=ks.length-seen.length) (hn_ [1,6,7,19] Z) ⟨[], -1,⟨List.nodup_nil,by simp,by simp [fh],.inl ⟨Z,Z⟩⟩,Z,Z,Z⟩ (fun fr aG aH m _ T=>?_);obtain ⟨seen,f,⟨ak,am,K,L⟩,rfl,rfl,rfl⟩:=T;refine Tf fun R c=>Vb kI2.enc (q:=0) (Mem.get n mup) Z Z Z Z Z Z fl_ fun an aI M ao=>C6 1 [1,6,7,19,21] c Z<|G.cd (fun F=>?_) fun F=>?_
 ·obtain ⟨aJ,j,hj,ay,rfl⟩:an=true/\∃ j,j<m.length/\j ∉ seen/\M=seen++[j]:=by
   rcases ao with ⟨h1,_⟩ | h1
   ·rw [h1] at F;cases F
   exact h1
  rw [<- aj] at hj;obtain ⟨⟨s,bv⟩,hs⟩:∃ p,m[j]?=some p:=⟨m[j]'om_,al om_⟩;have aq:ks[j]?=some s:=by rw [<- J,PD,hs];rfl
  have H:(seen++[j]).Nodup:=by
   rw [QX];exact ⟨ak,by simp,fun a U b n e=>by rw [PU.1 n] at e;subst e;exact ay U⟩
  have z:∀ i∈seen++[j],i<ks.length:=fun i V=>by
   rcases PQ.1 V with h | h
   ·exact am i h
   rw [PU.1 h];exact hj
  have aK:(seen++[j]).length<=ks.length:=by
   have:=List.Nodup.length_le_of_subset H (l₂:=List.range ks.length) (fun i V=>PS.2 (z i V));simpa using this
  have aM:(seen++[j]).length=seen.length+1:=by simp
  have d:=Ca aq (seen:=seen);have az:0<=s.1:=O s (Px aq);refine Tf fun R c=>U1 kI2.enc (Mem.get n mup) hs ag Z Z Z Z Z Z Z<|Te U6<|Tq U5 fun b8=>Tj (j:=0) U12<|Th [1,6,7,8,19] c Z<|Tc 1 Z fun R c=>Ty (1) U9 ai U2<|Ti ag U9<|Ty (0) U9 ai U2<|Ti ag U9<|Tw [.int .i64 s.2,.int .i64 s.1] U8<|Vf kI2 (fun _=>(Mem.get n mup)) Z Z Z Z Z Z Z Z Z (lA _ (dU m (s.2,s.1))) Z Z<|C6 5 [1,6,7,8,10,19] c Z<|Tb 1 [1,6,7,8,19,34] Z<|G.cd (fun W=>?_) fun W=>?_
  ·have X:jg ks s=false:=by
    have h:(dU m (s.2,s.1)).isSome=true:=W;rw [Q] at h;simpa using h
   rw [X] at d;simp only [Qr,QY,PY] at d;refine TV 0 Z<|Tu (L':=[.obj E (bj b m.length (seen++[j])),.obj l (aU keyZ.enc (tO (fh ks (seen++[j]))))]) (by rw [d];rfl)<|Tp (m':=ks.length-(seen++[j]).length) om_ mup (hn_ [1,6,7,19] Z) ⟨seen++[j],f,⟨H,z,by rw [d];exact K,by rw [d];exact L⟩,Z,Z,Z⟩
  have X:jg ks s=true:=by
   have h:(dU m (s.2,s.1)).isSome=false:=W;rw [Q] at h;simpa using h
  rw [X] at d;simp only [Rp] at d;refine Tc 1 Z fun R c=>Ty (0) U9 ai U2<|Ti ag U9<|UF keyZ ae Z Z Z Z Z Z Z Z kr_ Z (lA _ (dU (tO (fh ks seen)) s.1)) Z Z<|C6 5 [1,6,7,8,12,19] c Z<|Tb 1 [1,6,7,8,19,42] Z<|G.cd (fun Y=>?_) fun Y=>?_
  ·have x:(dU (tO (fh ks seen)) s.1).isSome=true:=Y;rw [gQ] at x;have aa:Dz ks=none:=by
    cases k:dU (fh ks seen) s.1 with
    | none=>rw [k] at x;cases x
    | some q=>exact Cv (B:=fh ks seen) (s:=s) (t:=(s.1,q)) (by rw [<- d];exact xU hn H z) (by rw [<- d];exact Er z) (gU k) rfl
   have I:vY ks=[]:=by unfold vY;rw [aa];rfl
   refine Tb 2 [4,5] Z<|Tn (G.dropAll (TD U3 ?_));exact ⟨Z,.slice none 0 0,by rw [I];rfl,by rw [I];exact Sl.nil _ _⟩
  have x:(dU (tO (fh ks seen)) s.1).isSome=false:=Y;have ab:dU (fh ks seen) s.1=none:=by
   rw [gQ] at x;cases k:dU (fh ks seen) s.1 with
   | none=>rfl
   | some q=>rw [k] at x;cases x
  have ar:((fh ks (seen++[j])).map (·.1)).Nodup:=by
   rw [d,Qb,QX];refine ⟨K,by simp,fun a U b n e=>?_⟩;rw [List.map_singleton,PU] at n;subst n;subst e;exact (cC.1 ab) U
  have N:=pD L s az;refine Tc 1 Z fun R c=>Ty (0) U9 ai U2<|Ti ag U9<|Ty (1) U9 ai U2<|Ti ag U9<|D.mapUpdate keyZ (j:=2) Z Z Z Z Z Z Z Z Z Z kr_<|Th [1,6,7,8,19] c Z<|Tc 3 Z fun R c=>Ty (0) U9 ai U2<|Ti af U9<|Tg 2 Z<|TN U8<|Th [1,6,7,8,19,55] c Z<|G.cd (fun ac=>?_) fun ac=>?_
  ·have ad:f<0∨s.1<f:=by simpa using ac
   rw [aL ad] at N;refine Tf fun R c=>Ty (0) U9 ai U2<|Ti af U9<|C6 1 [1,6,7,19] c Z<|TV 1 Z<|G.perm (L':=[.obj E (bj b m.length (seen++[j])),.obj l (aU keyZ.enc (tO (fh ks (seen++[j]))))]) (by
    rw [d,<- AH ab];exact List.Perm.swap _ _ _) ?_
   refine Tp (m':=ks.length-(seen++[j]).length) om_ mup (hn_ [1,6,7,19] Z) ⟨seen++[j],s.1,⟨H,z,ar,by rw [d];exact N⟩,Z,Z,Z⟩
  have ad:¬ (f<0∨s.1<f):=by simpa using ac
  rw [aF ad] at N;refine TV 1 Z<|G.perm (L':=[.obj E (bj b m.length (seen++[j])),.obj l (aU keyZ.enc (tO (fh ks (seen++[j]))))]) (by
   rw [d,<- AH ab];exact List.Perm.swap _ _ _) ?_
  refine Tp (m':=ks.length-(seen++[j]).length) om_ mup (hn_ [1,6,7,19] Z) ⟨seen++[j],f,⟨H,z,ar,by rw [d];exact N⟩,Z,Z,Z⟩
 obtain ⟨aN,rfl,au⟩:an=false/\M=seen/\∀ j,j<m.length->j∈seen:=by
  rcases ao with h1 | ⟨h1,_⟩
  ·exact h1
  rw [h1] at F;cases F
 rw [<- aj] at au;have hp:(fh ks M).Perm (ks.filter (jg ks)):=(oN ak am au).filter _;obtain ⟨B,d⟩:∃ B,fh ks M=B:=⟨_,rfl⟩;rw [d] at hp K L;have hO:=ID hp K O L;have aO:B.length<=ks.length:=by rw [hp.length_eq];exact Q5 _ _
 refine Tb 1 [6,7,13] Z<|Tb 2 [6,7,13,14] Z<|TV 0 Z<|G.nilArr 3 1<|Tu (L':=[.arr (.slice none 0 0) 3 1 0 [],.obj l (aU keyZ.enc (tO B))]) (by rw [d];rfl)<|G.loop (fun fr C' o S=>∃ (out:List Int)(w:Value)(p:Int),(out.length<=B.length/\iz B f (B.length-out.length) p out=Dz ks)/\fr=[(6,[],.map (some l)),(7,[],.int .i64 f),(13,[],w),(14,[],.int .i64 p)]/\o=[.arr w 3 1 out.length (out.map (Value.int .i64)),.obj l (aU keyZ.enc (tO B))]/\S=B.length-out.length) (hn_ [6,7,13,14] Z) ⟨[],_,f,⟨PG _,hO.symm⟩,Z,Z,Z⟩ (fun fr aP aQ m _ T=>?_);obtain ⟨out,w,p,⟨aR,A⟩,rfl,rfl,rfl⟩:=T;refine V2 ag (fun Aw cw hw aS aT aV=>?_);subst hw;refine TC [(3,1)] Z fun R c=>Tg 3 Z<|Vi keyZ.enc af Z Z Z Z Z Z Z Z Z<|C6 1 [6,7,13,14,63] c Z<|G.cd (fun ah=>?_) fun ah=>?_
 ·have aW:out.length<B.length:=by
   simp only [PI,AI] at ah;omega
  obtain ⟨r,hr⟩:∃ r,B.length-out.length=r+1:=⟨B.length-out.length-1,by omega⟩;rw [hr] at A;refine Tc 2 Z fun R c=>UF keyZ af Z Z Z Z Z Z Z Z kr_ Z (lA _ (dU (tO B) p)) Z Z<|C6 5 [6,7,13,14,16] c Z<|Tc 10 Z fun R c=>TB U8<|TN U8<|Th [6,7,13,14,84] c Z<|G.cd (fun g=>?_) fun g=>?_
  ·have aa:Dz ks=none:=by
    rw [<- A];refine BN ?_;rw [gQ] at g;cases k:dU B p with
    | none=>exact .inl rfl
    | some q =>
     rw [k] at g;simp only [Q3,Option.isSome_some,Bool.not_true,Bool.false_or,PL,Q0,PI] at g;exact .inr ⟨g.1,fun e=>by rw [e] at g;simp at g⟩
   have I:vY ks=[]:=by unfold vY;rw [aa];rfl
   refine Tb 2 [4,5] Z<|Tn (G.dropAll (TD U3 ?_));exact ⟨Z,.slice none 0 0,by rw [I];rfl,by rw [I];exact Sl.nil _ _⟩
  obtain ⟨q,k⟩:∃ q,dU B p=some q:=by
   rw [gQ] at g;cases k:dU B p with
   | some q=>exact ⟨q,rfl⟩
   | none=>rw [k] at g;simp at g
  have aA:¬ (p=f/\out≠[]):=by
   rintro ⟨e1,e2⟩;rw [gQ,k] at g;have:=Qi.2 e2;simp [e1] at g;exact e2 g
  rw [BM k aA] at A;have aX:(out++[p]).length=out.length+1:=by simp
  refine Tc 2 Z fun R c=>Tz [pS p] U12 fun aY _ _ aB=>D.append (j:=0) U11 aB Z ax (by simp only [ba];omega) fl_ fun av=>C6 1 [6,7,13,14] c Z<|Tc 2 Z fun R c=>UF keyZ af Z Z Z Z Z Z Z Z kr_ Z (by rw [gQ,k];rfl:lB _ false (dU (tO B) p)=.int .i64 q) Z Z<|C6 1 [6,7,13,14] c Z<|Tu (L':=[.arr av 3 1 (out++[p]).length ((out++[p]).map (Value.int .i64)),.obj l (aU keyZ.enc (tO B))]) (by simp [pS])<|Tp (m':=B.length-(out++[p]).length) om_ mup (hn_ [6,7,13,14] Z) ⟨out++[p],av,q,⟨by omega,by rw [show B.length-(out++[p]).length=r by omega];exact A⟩,Z,Z,Z⟩
 have aZ:B.length<=out.length:=by
  simp only [P3,AI] at ah;omega
 have aw:vY ks=out:=by
  rw [show B.length-out.length=0 by omega] at A;unfold vY;rw [<- A];rfl
 refine Tb 6 [4,5] Z<|Tu (L':=[.arr (.slice Aw out.length cw) 3 1 out.length (out.map pS).flatten,.obj l (aU keyZ.enc (tO B))]) (by rw [show (out.map pS).flatten=out.map (Value.int .i64) from ef _ _])<|G.freezeArr 0 (out.map pS) rfl rfl (by intro r hr;obtain ⟨y,_,rfl⟩:=PF.1 hr;rfl) ap fun Cg hg aC=>Tn (G.dropAll (TD U3 ?_));refine ⟨Z,_, ?_,by rw [aw];exact aC⟩;rw [aw];have:decide ((out.length:Int) > 0)=decide (out≠[]):=by
  rw [Qo,<- Qi];omega
 rw [<- this]
def rb (pts:List Pt)(cyc:List Nat)(i:Nat):Pt:=pts.getD (cyc.getD (i % cyc.length) 0) (0,0)
def upB (p q:Pt):Bool:=decide (p.2<q.2) || (decide (p.2=q.2) && decide (p.1<q.1))
def I9 (pts:List Pt)(cyc:List Nat)(i:Nat):Bool:=!upB (rb pts cyc i) (rb pts cyc (i+1)) && upB (rb pts cyc (i+1)) (rb pts cyc (i+1+1))
def wk (pts:List Pt)(cyc:List Nat)(i:Nat):Bool:=decide (0<=cW (rb pts cyc i) (rb pts cyc (i+1)) (rb pts cyc (i+2)))
def IG (pts:List Pt)(cyc:List Nat):Bool:=(List.range cyc.length).all (wk pts cyc) && decide (((List.range cyc.length).filter (I9 pts cyc)).length=1)
structure OnceC (C:Mem)(b2 b3 b5:Nat)(pts:List Pt)(cyc:List Nat):Prop where
 ex:∃ v1 v2,C b2=some (.cells ⟨[v1,v2]⟩ 39 (0,0))/\Sl C 2 v1 (pts.map cY)
 ey:∃ cv,C b3=some (.cells ⟨[cv]⟩ 57 (0,0))/\Sl C 1 cv (cyc.map aS)
 ez:C b5=some (.cells ⟨[.int .i64 (cyc.length:Nat)]⟩ 3 (0,0))
 ne:0<cyc.length
 ins:∀ z∈cyc,z<pts.length
 q:∀ p∈pts,QP 1 p
theorem OnceC.mono {C D:Mem}{b c d:Nat}{e:List Pt}{f:List Nat}(h:OnceC C b c d e f)(a:C.le D):OnceC D b c d e f:=by
 obtain ⟨g,i,h1,h2⟩:=h.ex;obtain ⟨j,h3,h4⟩:=h.ey;exact ⟨⟨g,i,a _ _ h1,h2.mono a⟩,⟨j,a _ _ h3,h4.mono a⟩,a _ _ h.ez,h.ne,h.ins,h.q⟩
theorem OnceC.m_ {D:Mem}{a b c:Nat}{d:List Pt}(h:OnceC C a b c d cyc)(e:C.le D:=by exact mup):OnceC D a b c d cyc:=OnceC.mono h e
theorem KJ {a:List Pt}(h:0<cyc.length)(c:∀ z∈cyc,z<a.length)(i:Nat):∃ z,cyc[i % cyc.length]?=some z/\a[z]?=some (rb a cyc i):=by
 have b:=P2 i h;refine ⟨cyc[i % cyc.length],al b, ?_⟩;have d:=c _ (Qq b);simp [rb,al b,al d]
theorem KH {a:List Pt}(h:0<cyc.length)(b:∀ z∈cyc,z<a.length)(c:∀ p∈a,QP 1 p)(i:Nat):QP 1 (rb a cyc i):=by
 obtain ⟨z,_,h2⟩:=KJ h b i;exact c _ (Px h2)
theorem oW (C:Mem)(e f c:Nat)(b:List Pt)(a:List Nat)(h:OnceC C e f c b a)(i:Nat) :
  Gives cx.P 258 [.int .i64 i,.pointer (some ⟨e,0,none⟩),.pointer (some ⟨f,0,none⟩),.pointer (some ⟨c,0,none⟩)] C (ptV (rb b a i)):=by
 obtain ⟨q,r,g,h1⟩:=h.ex;obtain ⟨s,k,h3⟩:=h.ey;have l:=h.ez;have t:=h.ne;obtain ⟨z,m,n⟩:=KJ h.ne h.ins i;obtain ⟨u,v,rfl,w,x,_⟩:=id h1;obtain ⟨y,A,rfl,B,D,_⟩:=id h3;simp only [am] at h1 h3 g k;refine Tk func258 16 U3 fun w0=>Tf fun R d=>Tq U5 fun c=>Th [0,1,2,3,5] d Z<|Tx [0,1,2,3,4,5,6,7,8,9,10] [] Z kr_ fun R E d=>Te U6<|Td (PtrTo.block (Mem.get g mup) _) U8<|Td (PtrTo.block (Mem.get k mup) _) U8<|Te U6<|Td (PtrTo.block (Mem.get l mup) _) U8<|TS (i) (a.length) U6 om_ U2<|Tt h3.m_ U10 om_ (by rw [PD,show ((i % a.length:Nat):Int).toNat=i % a.length from Z,m];rfl:(a.map aS)[((i % a.length:Nat):Int).toNat]?=some (aS z)) fl_ fun F o=>Td o U8<|Tt h1.m_ U10 om_ (by rw [PD,show ((z:Nat):Int).toNat=z from Z,n];rfl:(b.map cY)[((z:Nat):Int).toNat]?=some (cY (rb b a i))) fl_ fun G p=>Td p U8<|Tj (j:=0) U12<|Th [5] d Z<|Tn (TY ag U4 ?_);exact ⟨Z,Z⟩
def fn1V (b2 b3 b5:Nat):Value:=.func (.func 258) #[] #[.pointer (some ⟨b2,0,none⟩),.pointer (some ⟨b3,0,none⟩),.pointer (some ⟨b5,0,none⟩)]
theorem GI (a b:Rat):decide (su a b > 0)=decide (b<a):=by
 unfold su;by_cases h1:a<b
 ·have:¬ b<a:=by grind
  simp [h1,this]
 by_cases h2:b<a <;> simp [h1,h2]
theorem MN (a b:Rat):(su a b == 0)=decide (b=a):=by
 unfold su;by_cases h1:a<b
 ·have:¬ b=a:=by grind
  simp [h1,this]
 by_cases h2:b<a
 ·have:¬ b=a:=by grind
  simp [h1,h2,this]
 have:b=a:=by grind
 subst this;simp [h1]
theorem J0 (C:Mem)(k:Tabs C)(c d e l:Nat)(a:List Pt)(b:List Nat)(h:OnceC C c d e a b)(f:C l=some (.cells ⟨[fn1V c d e]⟩ 352 (0,0)))(i:Nat)(n:i<=1000000) :
  Gives cx.P 259 [.int .i64 i,.pointer (some ⟨l,0,none⟩)] C (.bool (upB (rb a b i) (rb a b (i+1)))):=by
 have g:=fun i=>KH h.ne h.ins h.q i;unfold fn1V at f;refine Tk func259 34 U3 fun w0=>Tb 1 [0,1] Z<|Tx [0,1,2,3,4,5,6,7,8,9,10] [(3,1),(7,1),(9,1)] Z kr_ fun R m j=>Td (PtrTo.block (Mem.get f mup) _) U8<|Te U6<|Tm _ U7<|TO (fun _=>(oW _ c d e a b h.m_ (i+1))) U9<|Uw U12<|Td (PtrTo.block (Mem.get f mup) _) U8<|Te U6<|TO (fun _=>(oW _ c d e a b h.m_ i)) U9<|Uw U12<|TA (fun _=>(gJ _ k.m_ (rb a b (i+1)).2 (rb a b i).2 1 dc_ dc_ (g (i+1)).2 (g i).2)) U9<|C6 1 [0,1,4] j Z<|Tx [0,1,2,3,4,5,6,7,8,9,10,11,12,13,14,15,16,17,18,19] [] Z kr_ fun R m j=>Tg 6 Z<|TF U6 (fun _=>PtrTo.block (Mem.get f mup) _) U3<|Te U6<|Tm _ U7<|TO (fun _=>(oW _ c d e a b h.m_ (i+1))) U9<|Uw U12<|TF U6 (fun _=>PtrTo.block (Mem.get f mup) _) U3<|Te U6<|TO (fun _=>(oW _ c d e a b h.m_ i)) U9<|Uw U12<|TA (fun _=>(gJ _ k.m_ (rb a b (i+1)).1 (rb a b i).1 1 dc_ dc_ (g (i+1)).1 (g i).1)) U9<|Te U6<|TB U8<|TN U8<|C6 1 [3] j Z<|Tl U2<|⟨?_,Z⟩;rw [GI,MN,GI];rfl
theorem En (q:Rat):decide (dE q.num<0)=!decide (0<=q):=by
 rw [<- decide_not,Qo,<- Rat.num_nonneg];rcases ec q.num with h | h | h <;> omega
theorem Ma (C:Mem)(o:Tabs C)(r A B:Value)(b:List Pt)(a:List Nat)(H:Sl C 2 r (b.map cY))(s:Sl C 1 B (a.map aS))(I:0<a.length)(J:∀ z∈a,z<b.length)(K:∀ p∈b,QP 1 p)(V:a.length<=100000) :
  Gives cx.P 197 [.agg ⟨[r,A]⟩,B] C (.bool (IG b a)):=by
 obtain ⟨W,X,rfl,Y,aa,_⟩:=id s;simp only [am] at s ⊢;refine Tk func197 46 U3 fun w0=>Tf fun R c=>Tv U6 fun b2=>Tv U6 fun e=>C6 1 [2,3] c Z<|Tf fun R c=>Ti ag U9<|Te U6<|Tq U5 fun f=>Tj (j:=0) U12<|Th [2,3,5] c Z<|Tc 1 Z fun R c=>Tq U5 fun n=>Tj (j:=0) U12<|Th [5,6] c Z<|G.freeze 0 Z fun _ _ g=>G.freeze 0 Z fun _ _ D=>G.freeze 0 Z fun _ _ L=>G.freeze 0 Z (fun M _ N=>?_);have d:OnceC M b2 e f b a:=⟨⟨r,A,N,H.mono mup⟩,⟨_,Mem.get L mup,s.mono mup⟩,Mem.get D mup,I,J,K⟩;have t:=fun i=>KH d.ne d.ins d.q i;refine Tb 2 [5,6,7] Z<|Tb 1 [5,6,7,8] Z<|Tf fun R c=>Td (PtrTo.block (Mem.get D mup) _) U8<|C6 1 [6,7,8,14,15] c Z<|G.loop (fun fr C' O Q=>∃ (i k:Nat),(i<=a.length/\(List.range i).all (wk b a)=true/\((List.range i).filter (I9 b a)).length=k)/\fr=[(6,[],.pointer (some ⟨n,0,none⟩)),(7,[],.func (.func 259) #[] #[.pointer (some ⟨n,0,none⟩)]),(8,[],.int .i64 k),(14,[],.int .i64 a.length),(15,[],.int .i64 i)]/\O=[]/\Q=a.length-i) (hn_ [6,7,8,14,15] Z) ⟨0,0,⟨PG _,Z,Z⟩,Z,Z,Z⟩ (fun fr ab ac m E S=>?_);obtain ⟨i,k,⟨hi,u,h⟩,rfl,rfl,rfl⟩:=S;refine Tb 1 [6,7,8,14,15,16] Z<|G.cd (fun v=>?_) fun v=>?_
 ·have w:i<a.length:=by simpa using v
  have ad:k<=i:=by
   rw [<- h];exact PP (Q5 _ _) ap
  refine Tb 2 [6,7,8,9,14,15] Z<|Tx [0,1,2,3,4,5,6,7,8,9,10,11,12] [(2,1),(6,1),(10,1),(11,1)] Z kr_ fun R hB c=>Td (PtrTo.block (Mem.get g mup) _) U8<|Te U6<|TO (fun _=>(oW _ b2 e f b a d.m_ i)) U9<|Td (PtrTo.block (Mem.get g mup) _) U8<|Te U6<|Tm _ U7<|TO (fun _=>(oW _ b2 e f b a d.m_ (i+1))) U9<|Td (PtrTo.block (Mem.get g mup) _) U8<|Te U6<|Tm _ U7<|TO (fun _=>(oW _ b2 e f b a d.m_ (i+2))) U9<|TA (fun _=>(oA _ o.m_ (rb b a i) (rb b a (i+1)) (rb b a (i+2)) 1 dc_ dc_ (t i) (t (i+1)) (t (i+2)))) U9<|C6 1 [6,7,8,9,14,15,30] c Z<|G.cd (fun l=>?_) fun l=>?_
  ·have T:wk b a i=false:=by
    rw [En] at l;simpa [wk] using l
   refine Tb 1 [4] Z<|Tl U2<|⟨?_,Z⟩;have:(List.range a.length).all (wk b a)=false:=RM.2 ⟨i,PS.2 w,by rw [T];decide⟩;unfold IG;rw [this];rfl
  have U:wk b a i=true:=by
   rw [En] at l;simpa [wk] using l
  have F:(List.range (i+1)).all (wk b a)=true:=by rw [QF,SY,u];simp [U]
  refine Tc 2 Z fun R c=>Ts (J0 _ o.m_ b2 e f n b a d.m_ (Mem.get g mup) i om_) U7 fl_<|Tg 4 Z<|Tm _ U7<|TA (fun _=>(J0 _ o.m_ b2 e f n b a d.m_ (Mem.get g mup) (i+1) om_)) U9<|TB U8<|Th [6,7,8,14,15,40] c Z<|G.cd (fun x=>?_) fun x=>?_
  ·have y:I9 b a i=true:=x;refine Tc 1 Z fun R c=>Tm _ U7<|C6 1 [6,7,8,14,15] c Z<|Tf fun R c=>Tm _ U7<|C6 1 [6,7,8,14,15] c Z<|Tp (m':=a.length-(i+1)) om_ E (hn_ [6,7,8,14,15] Z) ⟨i+1,k+1,⟨by omega,F,by rw [QF,QZ,PH,h];simp [y]⟩,Z,Z,Z⟩
  have y:I9 b a i=false:=x;refine Tf fun R c=>Tm _ U7<|C6 1 [6,7,8,14,15] c Z<|Tp (m':=a.length-(i+1)) om_ E (hn_ [6,7,8,14,15] Z) ⟨i+1,k,⟨by omega,F,by rw [QF,QZ,PH,h];simp [y]⟩,Z,Z,Z⟩
 have w:i=a.length:=by
  have:¬ i<a.length:=by simpa using v
  omega
 refine Tb 3 [4] Z<|Tl U2<|⟨?_,Z⟩;rw [w] at u h;unfold IG;rw [u,h,SG];congr 1;rw [Sv,PI];simp;omega
/-! The sides of triangles, in order. -/
def oL (t:Tri):List fo:=[nG t 0,nG t 1,nG t 2]
def bO (tris:List Tri):List fo:=tris.flatMap oL
theorem zR (t:Tri)(a:k<3):(oL t)[k]?=some (nG t k):=by
 rcases (by omega:k=0∨k=1∨k=2) with rfl | rfl | rfl <;> rfl
theorem pg (m:Nd)(i:Nat)(t:Tri):∀ k,k<=3->(m.map (·.1)++(oL t).take k).Nodup->(Dy m i t k).map (·.1)=m.map (·.1)++(oL t).take k
 | 0,_,_=>by simp [Dy]
 | k+1,e,a=>by
  have h3:=zR t (show k<3 by omega);rw [P0,h3,QM,<- P8] at a ⊢;have b:=(QX.1 a);have c:=pg m i t k om_ b.1;have d:dU (Dy m i t k) (nG t k)=none:=by
   rw [cC,c];intro h;exact b.2.2 _ h _ ap Z
  rw [Dy,jD d,Qb,c];rfl
theorem oJ {a:List Tri}{t:Tri}(h:a[n]?=some t):bO (a.take (n+1))=bO (a.take n)++oL t:=by
 unfold bO;rw [P0,h,List.flatMap_append];simp
theorem rq {a:List Tri}(h:(bO a).Nodup)(n:Nat):(bO (a.take n)).Nodup:=by
 have:bO a=bO (a.take n)++bO (a.drop n):=by
  unfold bO;rw [<- List.flatMap_append,Qs]
 rw [this] at h;exact (QX.1 h).1
theorem fC {a:List Tri}(h:(bO a).Nodup):∀ n,n<=a.length->(vX a n).map (·.1)=bO (a.take n)
 | 0,_=>by simp [vX,bO]
 | n+1,d=>by
  have b:a[n]?=some a[n]:=al om_;have h1:=rq h (n+1);rw [oJ b] at h1 ⊢;have c:=fC h n om_;rw [vX,ay,b];show (Dy (vX a n) n a[n] 3).map (·.1)=_;rw [pg _ _ _ 3 (Py _) (by rw [c];exact h1),c];rfl
theorem rH {a:List Tri}(h:(bO a).Nodup)(i:Nat)(t:Tri)(k:Nat)(b:a[i]?=some t)(d:k<3):dU (Dy (vX a i) i t k) (nG t k)=none:=by
 have e:=(aJ.1 b).1;have h1:=rq h (i+1);rw [oJ b] at h1;have c:=fC h i om_;have h3:=zR t d;have h2:(bO (a.take i)++(oL t).take (k+1)).Nodup:=by
  refine List.Nodup.sublist (List.Sublist.append (List.Sublist.refl _) (List.take_sublist _ _)) h1
 rw [P0,h3,QM,<- P8] at h2;have h4:=QX.1 h2;rw [cC,pg _ _ _ k om_ (by rw [c];exact h4.1),c];intro h5;exact h4.2.2 _ h5 _ ap Z
theorem uX {B:List fo}{d:Int}:∀ (k:Nat)(p:Int)(out r:List Int),iz B d k p out=some r->(∀ z∈out,z∈B.map (·.1))->∀ z∈r,z∈B.map (·.1)
 | 0,p,out,r,h,b=>by simp only [iz,Qc] at h;subst h;exact b
 | k+1,p,out,r,h,b=>by
  simp only [iz] at h;cases c:dU B p with
  | none=>rw [c] at h;cases h
  | some q =>
   rw [c] at h;simp only at h;split at h
   ·cases h
   refine uX k q _ r h (fun z a=>?_);rcases PQ.1 a with a | a
   ·exact b z a
   rw [PU.1 a];exact RD (f:=(·.1)) (gU c)
theorem uY {B:List fo}{b:Int}:∀ (k:Nat)(p:Int)(out r:List Int),iz B b k p out=some r->r.length=out.length+k
 | 0,p,out,r,h=>by simp only [iz,Qc] at h;subst h;rfl
 | k+1,p,out,r,h=>by
  simp only [iz] at h;cases a:dU B p with
  | none=>rw [a] at h;cases h
  | some q =>
   rw [a] at h;simp only at h;split at h
   ·cases h
   have:=uY k q _ r h;simp at this;omega
theorem AF {c:List fo}:∀ z∈vY c,z∈c.map (·.1):=by
 intro z a;unfold vY at a;cases b:Dz c with
 | none=>rw [b] at a;simp at a
 | some r =>
  rw [b] at a;simp only [QQ] at a;unfold Dz at b;split at b
  ·have:=uX _ _ _ _ b ap z a;obtain ⟨s,hs,rfl⟩:=PF.1 this;exact RD (f:=(·.1)) (Q4.1 hs).1
  cases b
theorem IE (a:List fo):(vY a).length<=a.length:=by
 unfold vY;cases b:Dz a with
 | none=>simp
 | some r =>
  unfold Dz at b;split at b
  ·have:=uY _ _ _ _ b;have h2:=Q5 (jg a) a;simp at this ⊢;omega
  cases b
def mV (n:Nat)(t:Tri):Prop:=t.1<n/\t.2.1<n/\t.2.2<n
theorem HX {t:Tri}(h:mV n t):∀ s∈oL t,0<=s.1/\s.1.toNat<n:=by
 obtain ⟨h1,h2,h3⟩:=h;intro s hs;simp only [oL,PN,QH,R8] at hs;rcases hs with rfl | rfl | rfl <;> simp [nG,Dx] <;> omega
theorem oK {a:List Tri}(h:∀ t∈a,mV n t):∀ s∈bO a,0<=s.1/\s.1.toNat<n:=by
 intro s hs;obtain ⟨t,b,hs⟩:=List.mem_flatMap.1 hs;exact HX (h t b) s hs
theorem my (a:List Tri):(bO a).length=3*a.length:=by
 induction a with
 | nil=>rfl
 | cons t l b =>
  have:bO (t::l)=oL t++bO l:=rfl;rw [this,PH,b];simp [oL];omega
def fJ (tris:List Tri):List Nat:=(vY (bO tris)).map Int.toNat
theorem Dj {a:List Tri}(h:∀ t∈a,mV n t):∀ z∈fJ a,z<n:=by
 intro z b;obtain ⟨y,hy,rfl⟩:=PF.1 b;obtain ⟨s,hs,rfl⟩:=PF.1 (AF y hy);exact (oK h s hs).2
theorem yX {a:List Tri}(h:∀ t∈a,mV n t):(vY (bO a)).map pS=(fJ a).map aS:=by
 unfold fJ;rw [Qv];refine List.map_congr_left (fun y hy=>?_);obtain ⟨s,hs,rfl⟩:=PF.1 (AF y hy);have:=(oK h s hs).1;show pS s.1=aS s.1.toNat;unfold pS aS;rw [Int.toNat_of_nonneg this]
/-! Sets of ints as maps. -/
def Ho (ks:List Int):List (Int × Value):=ks.map fun z=>(z,.bool true)
def OA (ks:List Int)(z:Int):List Int:=if z∈ks then ks else ks++[z]
theorem H4 (a:List Int):(Ho a).length=a.length:=by simp [Ho]
theorem we:∀ {ks:List Int}{z:Int},iv (Ho ks) z (.bool true)=Ho (OA ks z)
 | [],z=>by simp [Ho,iv,OA]
 | k::ks,z=>by
  have a:=we (ks:=ks) (z:=z);unfold Ho at a ⊢;simp only [Qa,iv];by_cases e:k=z
  ·subst e;simp [OA]
  have b:¬ z=k:=fun h=>e h.symm;rw [aF e,a];unfold OA;by_cases h:z∈ks
  ·simp [h]
  simp [h,b]
def K3 (ks:List Int)(t:Tri):Nat->List Int
 | 0=>ks
 | k+1=>OA (K3 ks t k) (Dx t k)
def vf (tris:List Tri):Nat->List Int
 | 0=>[]
 | n+1=>K3 (vf tris n) (tris.getD n (0,0,0)) 3
theorem pP (t:Tri)(a:k<3):(gz t)[k]?=some (.int .i64 (Dx t k)):=by
 rcases (by omega:k=0∨k=1∨k=2) with rfl | rfl | rfl <;> rfl
theorem Di {a:List Tri}(h:decide (vY (bO a)≠[])=true):0<(fJ a).length:=by
 unfold fJ;rw [am];exact Qi.2 (OQ h)
theorem G1 (a:List Tri):decide (vY (bO a)≠[])=decide (fJ a≠[]):=by
 rw [Qo];unfold fJ;simp
def kP (pts:List Pt)(tris:List Tri):Bool:=decide (fJ tris≠[]) && (decide ((vf tris tris.length).length=pts.length) && IG pts (fJ tris))
theorem sV (C:Mem)(I:Tabs C)(x y:Value)(c:List Pt)(a:List Tri)(J:a≠[])(k:Sl C 2 x (c.map cY))(g:Sl C 3 y (a.map gz))(d:(bO a).Nodup)(l:∀ t∈a,mV c.length t)(K:∀ p∈c,QP 1 p)(z:a.length<=10000) :
  Gives cx.P 130 [.agg ⟨[x,y]⟩] C (.bool (kP c a)):=by
 obtain ⟨U,V,rfl,L,W,_⟩:=id k;obtain ⟨A2,c2,rfl,M,X,_⟩:=id g;have Y:maxLen<=9223372036854775807:=by simp [maxLen]
 simp only [am] at k g L M ⊢;refine Tk func130 55 U3 fun w0=>Tf fun R b=>Tv U6 fun b1=>C6 1 [1] b Z<|G.freeze 0 Z fun _ A e=>Tf fun R b=>Td (PtrTo.block (Mem.get e mup) _) U8<|TM (vW _ _ _ a J g.m_ (rH d)) U7 (fun aa _ _ N=>?_);obtain ⟨n,rfl,O⟩:=N;refine C6 5 [1,3,4] b Z<|Tb 2 [1,3,18] Z<|G.cd (fun B=>?_) fun B=>?_
 ·exact absurd B dc_
 refine Tf fun R b=>D.makeMap keyZ Z Z Z Z fl_ fun f=>C6 1 [1,3,5] b Z<|Tc 1 Z fun R b=>Td (PtrTo.block (Mem.get e mup) _) U8<|C6 2 [1,3,5,21,22,23] b Z<|G.loop (fun fr Q h o=>∃ (i:Nat),(i<=a.length)/\fr=[(1,[],.pointer (some ⟨b1,0,none⟩)),(3,[],.map (some n)),(5,[],.map (some f)),(21,[],.slice A2 a.length c2),(22,[],.int .i64 a.length),(23,[],.int .i64 i)]/\h=[.obj f (aU keyZ.enc (Ho (vf a i)))]/\o=a.length-i) (hn_ [1,3,5,21,22,23] Z) ⟨0,PG _,Z,Z,Z⟩ (fun fr ab ac m _ q=>?_);obtain ⟨i,hi,rfl,rfl,rfl⟩:=q;refine Tb 1 [1,3,5,21,22,23,24] Z<|G.cd (fun r=>?_) fun r=>?_
 ·have u:i<a.length:=by simpa using r
  obtain ⟨t,E⟩:∃ t,a[i]?=some t:=⟨a[i],al u⟩;refine Tf fun R b=>Tt g.m_ U10 om_ (by rw [PD,E];rfl:(a.map gz)[i]?=some (gz t)) fl_ fun ad S=>Td S U8<|Tq U5 fun b7=>Tj (j:=0) U12<|Th [1,3,5,7,21,22,23] b Z<|Tf fun R b=>Ti ag U9<|C6 1 [1,3,5,21,22,23,27,28] b Z<|TV 0 Z<|G.loop (fun fr Q h o=>∃ (j:Nat),(j<=3)/\fr=[(1,[],.pointer (some ⟨b1,0,none⟩)),(3,[],.map (some n)),(5,[],.map (some f)),(21,[],.slice A2 a.length c2),(22,[],.int .i64 a.length),(23,[],.int .i64 i),(27,[],.agg ⟨gz t⟩),(28,[],.int .i64 j)]/\h=[.obj f (aU keyZ.enc (Ho (K3 (vf a i) t j)))]/\o=3-j) (hn_ [1,3,5,21,22,23,27,28] Z) ⟨0,PG _,Z,Z,Z⟩ (fun fr ae af m A q=>?_);obtain ⟨j,hj,rfl,rfl,rfl⟩:=q;refine Tb 1 [1,3,5,21,22,23,27,28,29] Z<|G.cd (fun v=>?_) fun v=>?_
  ·have w:j<3:=by
    simp only [PI] at v;omega
   refine Tf fun R b=>Uf U11 (fun _=>⟨by omega,by omega,pP t w⟩) U2<|C6 1 [1,3,5,9,21,22,23,27,28] b Z<|Tc 2 Z fun R b=>D.mapUpdate keyZ (j:=0) Z Z Z Z Z Z Z Z Z Z kr_<|Th [1,3,5,21,22,23,27,28] b Z<|Tf fun R b=>Tm _ U7<|C6 1 [1,3,5,21,22,23,27,28] b Z ?_;rw [we];refine Tp (m':=3-(j+1)) om_ A (hn_ [1,3,5,21,22,23,27,28] Z) ⟨j+1,om_,Z,Z,Z⟩
  have w:j=3:=by
   simp only [P3] at v;omega
  subst w;refine Tf fun R b=>Tm _ U7<|C6 1 [1,3,5,21,22,23] b Z<|Tu (L':=[.obj f (aU keyZ.enc (Ho (vf a (i+1))))]) (by rw [vf,ay,E];rfl)<|Tp (m':=a.length-(i+1)) om_ mup (hn_ [1,3,5,21,22,23] Z) ⟨i+1,om_,Z,Z,Z⟩
 have u:i=a.length:=by
  have:¬ i<a.length:=by simpa using r
  omega
 subst u;refine Tf fun R b=>Td (PtrTo.block (Mem.get e mup) _) U8<|Te U6<|TG (IC _ _ _ n (vX a a.length) (Mem.get O mup) (by rw [fC d _ (Py _),PO];exact d) (by rw [fC d _ (Py _),PO];exact fun s hh=>(oK l s hh).1) (by have:=congrArg List.length (fC d _ (Py _));rw [PO,my,am] at this;omega)) U7 fl_ (fun ah _ _ F=>?_);rw [fC d _ (Py _),PO] at F;obtain ⟨bv,rfl,H⟩:=F;rw [yX l] at H;refine C6 5 [1,5,10,11] b Z<|TC [(3,1)] Z fun R b=>Tg 3 Z<|Vi keyZ.enc ag Z Z Z Z Z Z Z Z Z<|Te U6<|TF U6 (fun _=>PtrTo.block (Mem.get e mup) _) U3<|Tg 2 Z<|TB U8<|Te U6<|TF U6 (fun _=>PtrTo.block (Mem.get e mup) _) U3<|Te U6<|TA (fun T=>(Ma _ I.m_ _ _ bv c (fJ a) k.m_ H.m_ (by exact Di (SX.1 (show (decide (vY (bO a)≠[]) && _)=true/\True from T).1).1) (Dj l) K (by have:=IE (bO a);rw [my] at this;unfold fJ;rw [am];omega))) U9<|TB U8<|C6 1 [2] b Z<|Tl U2<|⟨?_,Z⟩;have z:(((Ho (vf a a.length)).length:Int) == (c.length:Int))=decide ((vf a a.length).length=c.length):=by
  rw [H4,Sv,Q0,PI];omega
 unfold kP;rw [<- G1,<- z,<- Bool.and_assoc]
noncomputable def kP2:KeyP cx.P 34 (Str × Str):=O9 rfl rfl rfl dc_ dc_ rfl rfl kr_
def ptK (p:Pt):Str × Str:=(qtx p.1,qtx p.2)
theorem LP {p q:Pt}(h:ptK p=ptK q):p=q:=by
 have h1:=iM (congrArg (·.1) h);have h2:=iM (congrArg (·.2) h);exact Prod.ext h1 h2
def IM (l:List Pt):List ((Str × Str) × Value):=l.map fun p=>(ptK p,.bool true)
theorem AO {l:List Pt}{p:Pt}(h:p ∉ l):dU (IM l) (ptK p)=none:=by
 rw [cC];unfold IM;rw [Qv];intro hm;obtain ⟨q,a,b⟩:=PF.1 hm;exact h (LP b ▸ a)
theorem Mk {l:List Pt}{p:Pt}(h:p ∉ l):iv (IM l) (ptK p) (.bool true)=IM (l++[p]):=by
 rw [jD (AO h)];simp [IM]
def nX (n:Nat)(X:Nat->Nat->Bool):Bool:=(List.range n).any fun i=>(List.range i).any fun k=>X i k
def qR (pts:List Pt)(tris:List Tri)(X:Nat->Nat->Bool):Int:=if tris=[] then 13 else if kP pts tris then 0 else if nX tris.length X then 26 else 25
structure MeshOk (pts:List Pt)(tris:List Tri):Prop where
 q:∀ p∈pts,QP 1 p
 nd:pts.Nodup
 ins:∀ t∈tris,mV pts.length t
 pos:∀ t∈tris,0<cW (pts.getD t.1 (0,0)) (pts.getD t.2.1 (0,0)) (pts.getD t.2.2 (0,0))
 sides:(bO tris).Nodup
 lt:tris.length<=800
 lp:pts.length<=400
theorem iO {a:List Pt}(h:i<a.length):a[i]?=some (a.getD i (0,0)):=by
 rw [ay,al h];rfl
theorem Ao {a:List Pt}(h:i<a.length):a.getD i (0,0)∈a:=Px (iO h)
def iq (t:Tri)(j:Nat):Nat:=if j=0 then t.1 else if j=1 then t.2.1 else t.2.2
theorem zG (t:Tri)(j:Nat):Dx t j=(iq t j:Nat):=by
 unfold Dx iq;split
 ·rfl
 split <;> rfl
theorem eH {t:Tri}(h:mV n t)(j:Nat):iq t j<n:=by
 obtain ⟨h1,h2,h3⟩:=h;unfold iq;split
 ·exact h1
 split <;> assumption
theorem NF (q:Rat):decide (dE q.num<=0)=!decide (0<q):=by
 have h1:=Ak q;have h2:q.num=0 ↔ q=0:=Sw;rw [<- decide_not,Qo];have h3:¬ 0<q ↔ (q<0∨q=0):=by grind
 rw [h3,<- h1,<- h2];rcases ec q.num with h | h | h <;> omega
theorem wh (C:Mem)(F:Tabs C)(H I:Value)(c:List Pt)(b:List Tri)(X:Nat->Nat->Bool)(r:Sl C 2 H (c.map cY))(w:Sl C 3 I (b.map gz))(d:MeshOk c b)
  (U:b≠[]->kP c b=false->∀ D:Mem,C.le D->∀ i k:Nat,i<b.length->k<i->Gives cx.P 131 [.agg ⟨[H,I]⟩,.int .i64 i,.int .i64 k] D (.bool (X i k))) :
  Gives cx.P 65 [.agg ⟨[H,I]⟩] C (.int .i64 (qR c b X)):=by
 obtain ⟨A1,c1,rfl,ae,az,_⟩:=id r;obtain ⟨A2,c2,rfl,ah,aA,_⟩:=id w;have aB:maxLen<=9223372036854775807:=by simp [maxLen]
 have aC:=d.lt;have aD:=d.lp;simp only [am] at r w ae ah U ⊢;refine Tk func65 105 U3 fun w0=>Tf fun R a=>Tv U6 fun b1=>C6 1 [1] a Z<|G.freeze 0 Z fun _ _ f=>Tc 1 Z fun R a=>Td (PtrTo.block (Mem.get f mup) _) U8<|C6 3 [1,12] a Z<|G.cd (fun x=>?_) fun x=>?_
 ·have h0:b=[]:=by
   have h:((b.length:Nat):Int)=0:=by simpa using x
   exact Ql om_
  exact Tb 1 [2] Z<|Tl U2<|⟨by unfold qR;rw [aL h0],Z⟩
 have h0:b≠[]:=by
  intro e;rw [e] at x;exact absurd x dc_
 refine Tc 1 Z fun R a=>Td (PtrTo.block (Mem.get f mup) _) U8<|Tg 4 Z<|TF U6 (fun _=>PtrTo.block (Mem.get f mup) _) U3<|Tg 2 Z<|TN U8<|C6 1 [1,17] a Z<|G.cd (fun V=>?_) fun V=>?_
 ·exfalso;simp only [Ro,PI] at V;omega
 refine Tf fun R a=>Vd kP2 Z Z Z Z fl_ fun J=>C6 1 [1,3] a Z<|Tc 1 Z fun R a=>Td (PtrTo.block (Mem.get f mup) _) U8<|C6 2 [1,3,30,31,32] a Z<|G.loop (fun fr y g l=>∃ (i:Nat),(i<=c.length)/\fr=[(1,[],.pointer (some ⟨b1,0,none⟩)),(3,[],.map (some J)),(30,[],.slice A1 c.length c1),(31,[],.int .i64 c.length),(32,[],.int .i64 i)]/\g=[.obj J (aU CX (IM (c.take i)))]/\l=c.length-i) (hn_ [1,3,30,31,32] Z) ⟨0,PG _,Z,Z,Z⟩ (fun fr aE aG m _ n=>?_);obtain ⟨i,hi,rfl,rfl,rfl⟩:=n;refine Tb 1 [1,3,30,31,32,33] Z<|G.cd (fun W=>?_) fun W=>?_
 ·have o:i<c.length:=by simpa using W
  obtain ⟨p,z⟩:∃ p,c[i]?=some p:=⟨c[i],al o⟩;have A:=d.q p (Px z);have Y:p ∉ c.take i:=by
   intro hm;obtain ⟨j,u⟩:=Rr hm;rw [Qm] at u;split at u
   ·rename_i aH;have h3:=(aJ.1 u);have h4:=(aJ.1 z);have:=(List.getElem_inj d.nd).1 (h3.2.trans h4.2.symm);omega
   cases u
  have aj:IM (c.take (i+1))=IM (c.take i++[p]):=by rw [P0,z];rfl
  refine Tf fun R a=>Tt r.m_ U10 om_ (by rw [PD,z];rfl:(c.map cY)[i]?=some (cY p)) fl_ fun aI ak=>Td ak U8<|Tq U5 fun b5=>Tj (j:=0) U12<|Th [1,3,5,30,31,32] a Z<|Tf fun R a=>Ti ag U9<|Ts (io _ F.m_ (qtx p.1) (qtx p.2) (by have:=bl A.1 dc_;omega) (by have:=bl A.2 dc_;omega)) U7 fl_<|C6 1 [1,3,5,30,31,32,38] a Z<|G.cd (fun K=>?_) fun K=>?_
  ·exfalso;rw [bC (A.1.le dc_),bC (A.2.le dc_)] at K;exact absurd K dc_
  refine Tc 1 Z fun R a=>Ti ag U9<|Ve kP2 af Z Z Z Z Z Z Z Z Z (congrArg (lB (.bool false) false) (AO Y)) Z Z<|Th [1,3,5,30,31,32,41] a Z<|G.cd (fun aa=>?_) fun aa=>?_
  ·exact absurd aa dc_
  refine Tc 1 Z fun R a=>Ti ag U9<|UZ kP2 (j:=1) (key:=ptK p) Z Z Z Z Z Z Z Z Z Z<|Th [1,3,30,31,32] a Z<|Tf fun R a=>Tm _ U7<|C6 1 [1,3,30,31,32] a Z<|TV 1 Z<|Tu (L':=[.obj J (aU CX (IM (c.take (i+1))))]) (by rw [aj,<- Mk Y];rfl)<|Tp (m':=c.length-(i+1)) om_ mup (hn_ [1,3,30,31,32] Z) ⟨i+1,om_,Z,Z,Z⟩
 refine Tc 1 Z fun R a=>Td (PtrTo.block (Mem.get f mup) _) U8<|C6 2 [1,46,47,48] a Z<|G.dropAll<|G.loop (fun fr y g l=>∃ (i:Nat),(i<=b.length)/\fr=[(1,[],.pointer (some ⟨b1,0,none⟩)),(46,[],.slice A2 b.length c2),(47,[],.int .i64 b.length),(48,[],.int .i64 i)]/\g=[]/\l=b.length-i) (hn_ [1,46,47,48] Z) ⟨0,PG _,Z,Z,Z⟩ (fun fr aK aM m _ n=>?_);obtain ⟨i,hi,rfl,rfl,rfl⟩:=n;refine Tb 1 [1,46,47,48,49] Z<|G.cd (fun L=>?_) fun L=>?_
 ·have o:i<b.length:=by simpa using L
  obtain ⟨t,ht⟩:∃ t,b[i]?=some t:=⟨b[i],al o⟩;have ab:=Px ht;have s:=d.ins t ab;have an:=d.pos t ab;refine Tf fun R a=>Tt w.m_ U10 om_ (by rw [PD,ht];rfl:(b.map gz)[i]?=some (gz t)) fl_ fun aN ao=>Td ao U8<|Tq U5 fun b7=>Tj (j:=0) U12<|Th [1,7,46,47,48] a Z<|Tf fun R a=>Ti ag U9<|C6 1 [1,7,46,47,48,52,53] a Z<|G.loop (fun fr y g l=>∃ (j:Nat),(j<=3)/\fr=[(1,[],.pointer (some ⟨b1,0,none⟩)),(7,[],.pointer (some ⟨b7,0,none⟩)),(46,[],.slice A2 b.length c2),(47,[],.int .i64 b.length),(48,[],.int .i64 i),(52,[],.agg ⟨gz t⟩),(53,[],.int .i64 j)]/\g=[.obj b7 (.cells ⟨gz t⟩ 65 (0,0))]/\l=3-j) (hn_ [1,7,46,47,48,52,53] Z) ⟨0,PG _,Z,Z,Z⟩ (fun fr aO aP m ap n=>?_);obtain ⟨j,u,rfl,rfl,rfl⟩:=n;refine Tb 1 [1,7,46,47,48,52,53,54] Z<|G.cd (fun M=>?_) fun M=>?_
  ·have aq:j<3:=by
    simp only [PI] at M;omega
   have aQ:=eH s j;refine Tf fun R a=>Uf U11 (fun _=>⟨by omega,by omega,(show (gz t)[((j:Nat):Int).toNat]?=some (.int .i64 ((iq t j:Nat):Int)) from by rw [<- zG];exact pP t aq)⟩) U2<|C6 1 [1,7,9,46,47,48,52,53] a Z<|Tc 5 Z fun R a=>TF U6 (fun _=>PtrTo.block (Mem.get f mup) _) U3<|Tg 2 Z<|TN U8<|Th [1,7,46,47,48,52,53,64] a Z<|G.cd (fun ac=>?_) fun ac=>?_
   ·exfalso;simp only [Ro,PI] at ac;omega
   refine Tf fun R a=>Tm _ U7<|C6 1 [1,7,46,47,48,52,53] a Z<|Tp (m':=3-(j+1)) om_ ap (hn_ [1,7,46,47,48,52,53] Z) ⟨j+1,om_,Z,Z,Z⟩
  clear M;refine Tx [0,1,2,3,4,5,6,7,8,9,10,11,12,13,14,15,16,17,18,19] [(18,1)] Z kr_ fun R hB a=>Te U6<|Td (PtrTo.block (Mem.get f mup) _) U8<|Ty (0) U9 ai U2<|Ti ag U9<|Tt r.m_ U10 om_ (by rw [PD,show (((t.1:Nat):Int)).toNat=t.1 from Z,iO s.1];rfl:(c.map cY)[(((t.1:Nat):Int)).toNat]?=some (cY (c.getD t.1 (0,0)))) fl_ fun aR ar=>Td ar U8<|Te U6<|Td (PtrTo.block (Mem.get f mup) _) U8<|Ty (1) U9 ai U2<|Ti ag U9<|Tt r.m_ U10 om_ (by rw [PD,show (((t.2.1:Nat):Int)).toNat=t.2.1 from Z,iO s.2.1];rfl:(c.map cY)[(((t.2.1:Nat):Int)).toNat]?=some (cY (c.getD t.2.1 (0,0)))) fl_ fun aS au=>Td au U8<|Te U6<|Td (PtrTo.block (Mem.get f mup) _) U8<|Ty (2) U9 ai U2<|Ti ag U9<|Tt r.m_ U10 om_ (by rw [PD,show (((t.2.2:Nat):Int)).toNat=t.2.2 from Z,iO s.2.2];rfl:(c.map cY)[(((t.2.2:Nat):Int)).toNat]?=some (cY (c.getD t.2.2 (0,0)))) fl_ fun aT av=>Td av U8<|TA (fun _=>(oA _ F.m_ (c.getD t.1 (0,0)) (c.getD t.2.1 (0,0)) (c.getD t.2.2 (0,0)) 1 dc_ dc_ (d.q _ (Ao s.1)) (d.q _ (Ao s.2.1)) (d.q _ (Ao s.2.2)))) U9<|C6 1 [1,46,47,48,85] a Z<|G.cd (fun N=>?_) fun N=>?_
  ·exfalso;rw [NF,PV an] at N;exact absurd N dc_
  refine Tf fun R a=>Tm _ U7<|C6 1 [1,46,47,48] a Z<|G.dropAll<|Tp (m':=b.length-(i+1)) om_ mup (hn_ [1,46,47,48] Z) ⟨i+1,om_,Z,Z,Z⟩
 clear L;refine Tf fun R a=>Td (PtrTo.block (Mem.get f mup) _) U8<|Ts (sV _ F.m_ _ _ c b h0 r.m_ w.m_ d.sides d.ins d.q om_) U7 fl_<|Th [1,88] a Z<|G.cd (fun O=>?_) fun O=>?_
 ·have v:kP c b=true:=O;exact Tb 1 [2] Z<|Tl U2<|⟨by unfold qR;rw [aF h0,aL v],Z⟩
 have v:kP c b=false:=O;refine Tc 1 Z fun R a=>Td (PtrTo.block (Mem.get f mup) _) U8<|C6 2 [1,91,92] a Z<|G.loop (fun fr y g l=>∃ (i:Nat),(i<=b.length/\nX i X=false)/\fr=[(1,[],.pointer (some ⟨b1,0,none⟩)),(91,[],.int .i64 b.length),(92,[],.int .i64 i)]/\g=[]/\l=b.length-i) (hn_ [1,91,92] Z) ⟨0,⟨PG _,Z⟩,Z,Z,Z⟩ (fun fr aV aW m _ n=>?_);obtain ⟨i,⟨aX,B⟩,rfl,rfl,rfl⟩:=n;refine Tb 1 [1,91,92,93] Z<|G.cd (fun Q=>?_) fun Q=>?_
 ·have o:i<b.length:=by simpa using Q
  refine Tb 2 [1,10,91,92] Z<|Tb 2 [1,10,91,92,95,96] Z<|G.loop (fun fr y g l=>∃ (k:Nat),(k<=i/\(List.range k).any (fun k=>X i k)=false)/\fr=[(1,[],.pointer (some ⟨b1,0,none⟩)),(10,[],.int .i64 i),(91,[],.int .i64 b.length),(92,[],.int .i64 i),(95,[],.int .i64 i),(96,[],.int .i64 k)]/\g=[]/\l=i-k) (hn_ [1,10,91,92,95,96] Z) ⟨0,⟨PG _,Z⟩,Z,Z,Z⟩ (fun fr aY aZ m aw n=>?_);obtain ⟨k,⟨a0,ad⟩,rfl,rfl,rfl⟩:=n;refine Tb 1 [1,10,91,92,95,96,97] Z<|G.cd (fun S=>?_) fun S=>?_
  ·have E:k<i:=by simpa using S
   refine Tb 2 [1,10,11,91,92,95,96] Z<|Tf fun R a=>Td (PtrTo.block (Mem.get f mup) _) U8<|Tg 2 Z<|To (U h0 v _ mup i k o E) U7<|Th [1,10,91,92,95,96,102] a Z<|G.cd (fun T=>?_) fun T=>?_
   ·have ax:X i k=true:=T;have hc:nX b.length X=true:=R4.2 ⟨i,PS.2 o,R4.2 ⟨k,PS.2 E,ax⟩⟩;exact Tb 1 [2] Z<|Tl U2<|⟨by unfold qR;rw [aF h0,v,aF dc_,aL hc],Z⟩
   have ay:X i k=false:=T;refine Tf fun R a=>Tm _ U7<|C6 1 [1,10,91,92,95,96] a Z<|Tp (m':=i-(k+1)) om_ aw (hn_ [1,10,91,92,95,96] Z) ⟨k+1,⟨by omega,by rw [QF,List.any_append,ad];simp [ay]⟩,Z,Z,Z⟩
  have E:k=i:=by
   have:¬ k<i:=by simpa using S
   omega
  subst E;refine Tf fun R a=>Tm _ U7<|C6 1 [1,91,92] a Z<|Tp (m':=b.length-(k+1)) om_ mup (hn_ [1,91,92] Z) ⟨k+1,⟨by omega,by unfold nX at B ⊢;rw [QF,List.any_append,B];simp [ad]⟩,Z,Z,Z⟩
 have o:i=b.length:=by
  have:¬ i<b.length:=by simpa using Q
  omega
 refine Tb 1 [2] Z<|Tl U2<|⟨?_,Z⟩;rw [o] at B;unfold qR;rw [aF h0,v,aF dc_,B];rfl
structure Good (pts:List Pt)(tris:List Tri):Prop where
 ok:MeshOk pts tris
 ne:tris≠[]
 whole:kP pts tris=true
structure MeshIn (C:Mem)(mv:Value)(pts:List Pt)(tris:List Tri):Prop where
 ex:∃ v1 v2,mv=.agg ⟨[v1,v2]⟩/\Sl C 2 v1 (pts.map cY)/\Sl C 3 v2 (tris.map gz)
theorem MeshIn.mono {C D:Mem}{a:Value}{b:List Pt}{c:List Tri}(h:MeshIn C a b c)(d:C.le D):MeshIn D a b c:=by
 obtain ⟨e,f,h1,h2,h3⟩:=h.ex;exact ⟨e,f,h1,h2.mono d,h3.mono d⟩
theorem MeshIn.m_ {D:Mem}{a:Value}{b:List Pt}{c:List Tri}(h:MeshIn C a b c)(d:C.le D:=by exact mup):MeshIn D a b c:=MeshIn.mono h d
def nox:Nat->Nat->Bool:=fun _ _=>false
theorem gv (C:Mem)(f:Tabs C)(d:Value)(a:List Pt)(b:List Tri)(g:MeshIn C d a b)(c:Good a b):Gives cx.P 65 [d] C (.int .i64 0):=by
 obtain ⟨i,j,rfl,h1,h2⟩:=g.ex;have h:=wh C f i j a b nox h1 h2 c.ok (fun _ h3=>by rw [c.whole] at h3;cases h3);have e:qR a b nox=0:=by unfold qR;rw [aF c.ne,aL c.whole]
 rwa [e] at h
def cor (pts:List Pt)(t:Tri)(j:Nat):Pt:=pts.getD (iq t j) (0,0)
def yu (pts:List Pt)(p:Pt)(t:Tri):Bool:=decide (0<=cW (cor pts t 0) (cor pts t 1) p) && decide (0<=cW (cor pts t 1) (cor pts t 2) p) && decide (0<=cW (cor pts t 2) (cor pts t 0) p)
def nt (pts:List Pt)(tris:List Tri)(p:Pt):List Nat:=(List.range tris.length).filter fun i=>yu pts p (tris.getD i (0,0,0))
theorem nA {a:List Pt}{b:List Tri}(h:MeshOk a b){t:Tri}(c:t∈b)(j:Nat):QP 1 (cor a t j):=h.q _ (Ao (eH (h.ins t c) j))
theorem QP.le {k m:Nat}{p:Pt}(h:QP k p)(a:k<=m):QP m p:=⟨h.1.le a,h.2.le a⟩
theorem sq (C:Mem)(d:Value)(a:List Pt)(b:List Tri)(f:MeshIn C d a b)(g:MeshOk a b)(i:Nat)(t:Tri)(e:b[i]?=some t) :
  Gives cx.P 68 [d,.int .i64 i] C (Dd (cor a t 0) (cor a t 1) (cor a t 2)):=by
 obtain ⟨h,j,rfl,h1,h2⟩:=f.ex;have c:=g.ins t (Px e);exact mR C h j a b i t _ _ _ h1 h2 e (iO c.1) (iO c.2.1) (iO c.2.2)
theorem EC {p:Pt}(h:QP k p)(a:k<=1000):(qtx p.1).length<=999998/\(qtx p.2).length<=999998:=by
 have h1:=bl (h.1.le (RT k)) om_;have h2:=bl (h.2.le (RT k)) om_;exact ⟨by omega,by omega⟩
def PtR (p:Pt):Prop:=aV (qtx p.1)=true/\aV (qtx p.2)=true
theorem im (C:Mem)(c:Tabs C)(p:Pt)(a:QP 23 p)(b:PtR p):Gives cx.P 66 [ptV p] C (.int .i64 0):=by
 have h:=io C c (qtx p.1) (qtx p.2) (EC a dc_).1 (EC a dc_).2;rw [b.1,b.2] at h;exact h
theorem lC (C:Mem)(f:Tabs C)(A:Value)(c:List Pt)(a:List Tri)(p:Pt)(B:MeshIn C A c a)(E:Good c a)(F:QP 23 p)(g:PtR p) :
  Pur cx.P 18 [A,ptV p] C fun u D=>∃ v,u=.tuple #[v,.int .i64 0]/\Sl D 1 v ((nt c a p).map aS):=by
 have d:=E.ok;have U:=d.lt;have V:maxLen<=9223372036854775807:=by simp [maxLen]
 have h:=B;obtain ⟨W,X,rfl,h1,h2⟩:=id B.ex;obtain ⟨Y,c1,rfl,aa,ab,_⟩:=id h1;obtain ⟨A2,c2,rfl,ac,ad,_⟩:=id h2;simp only [am] at h1 h2 h ⊢;refine Tk func18 34 U3 fun w0=>Tf fun R b=>Tv U6 fun b2=>Tv U6 fun N=>C6 2 [2,3] b Z<|G.freeze 1 Z fun _ _ k=>G.freeze 0 Z fun _ _ H=>Tf fun R b=>Td (PtrTo.block (Mem.get k mup) _) U8<|To (gv _ f.m_ _ c a h.m_ E) U7<|C6 1 [2,3,6] b Z<|Tb 2 [2,3,6,12] Z<|G.cd (fun I=>?_) fun I=>?_
 ·exact absurd I dc_
 refine Tf fun R b=>Td (PtrTo.block (Mem.get H mup) _) U8<|To (im _ f.m_ p F g) U7<|C6 1 [2,3,16] b Z<|G.cd (fun J=>?_) fun J=>?_
 ·exact absurd J dc_
 refine Tb 1 [2,3,7] Z<|Tc 1 Z fun R b=>Td (PtrTo.block (Mem.get k mup) _) U8<|C6 2 [2,3,7,19,20] b Z<|G.nilArr 3 1<|G.loop (fun fr C' K O=>∃ (i:Nat)(out:List Nat)(w:Value),(i<=a.length/\out=(List.range i).filter (fun i=>yu c p (a.getD i (0,0,0))))/\fr=[(2,[],.pointer (some ⟨b2,0,none⟩)),(3,[],.pointer (some ⟨N,0,none⟩)),(7,[],w),(19,[],.int .i64 a.length),(20,[],.int .i64 i)]/\K=[.arr w 3 1 out.length (out.map aS).flatten]/\O=a.length-i) (hn_ [2,3,7,19,20] Z) ⟨0,[],_,⟨PG _,Z⟩,Z,Z,Z⟩ (fun fr ae af m _ Q=>?_);obtain ⟨i,out,w,⟨hi,e⟩,rfl,rfl,rfl⟩:=Q;refine Tb 1 [2,3,7,19,20,21] Z<|G.cd (fun l=>?_) fun l=>?_
 ·have n:i<a.length:=by simpa using l
  obtain ⟨t,o⟩:∃ t,a[i]?=some t:=⟨a[i],al n⟩;have q:=Px o;have L:a.getD i (0,0,0)=t:=by rw [ay,o];rfl
  have ag:out.length<=i:=by
   rw [e];exact PP (Q5 _ _) ap
  refine Tb 2 [2,3,7,8,19,20] Z<|Tx [0,1,2,3,4] [(2,1),(4,1)] Z kr_ fun R hB b=>Td (PtrTo.block (Mem.get k mup) _) U8<|Te U6<|TO (fun _=>(sq _ _ c a h.m_ d i t o)) U9<|Td (PtrTo.block (Mem.get H mup) _) U8<|TA (fun _=>(FQ _ f.m_ (cor c t 0) (cor c t 1) (cor c t 2) p 23 dc_ dc_ ((nA d q 0).le dc_) ((nA d q 1).le dc_) ((nA d q 2).le dc_) F)) U9<|Th [2,3,7,8,19,20,27] b Z<|G.cd (fun s=>?_) fun s=>?_
  ·have x:yu c p t=true:=s;have z:(List.range (i+1)).filter (fun i=>yu c p (a.getD i (0,0,0)))=out++[i]:=by rw [QF,QZ,<- e,List.filter_cons,L,x];rfl
   refine Tc 2 Z fun R b=>Tz [aS i] U12 fun ah _ _ S=>D.append (j:=0) U11 S Z ax (by simp only [ba];omega) fl_ fun M=>C6 1 [2,3,7,19,20] b Z<|Tf fun R b=>Tm _ U7<|C6 1 [2,3,7,19,20] b Z<|Tu (L':=[.arr M 3 1 (out++[i]).length ((out++[i]).map aS).flatten]) (by simp [aS])<|Tp (m':=a.length-(i+1)) om_ mup (hn_ [2,3,7,19,20] Z) ⟨i+1,out++[i],M,⟨by omega,z.symm⟩,Z,Z,Z⟩
  have x:yu c p t=false:=s;have z:(List.range (i+1)).filter (fun i=>yu c p (a.getD i (0,0,0)))=out:=by rw [QF,QZ,<- e,List.filter_cons,L,x];simp
  refine Tf fun R b=>Tm _ U7<|C6 1 [2,3,7,19,20] b Z<|Tp (m':=a.length-(i+1)) om_ mup (hn_ [2,3,7,19,20] Z) ⟨i+1,out,w,⟨by omega,z.symm⟩,Z,Z,Z⟩
 have n:i=a.length:=by
  have:¬ i<a.length:=by simpa using l
  omega
 refine Tb 3 [4,5] Z<|G.freezeArr 0 (out.map aS) rfl rfl (by intro r g;obtain ⟨y,_,rfl⟩:=PF.1 g;rfl) ap fun Cg hg T=>Tn (G.dropAll (TD U3 ?_));refine ⟨Z,_,Z, ?_⟩;rw [n] at e;unfold nt;rw [<- e];exact T
theorem pY (C:Mem)(g:Tabs C)(d:Value)(a:List Pt)(b:List Tri)(p:Pt)(e:MeshIn C d a b)(h:Good a b)(i:QP 23 p)(j:PtR p) :
  Gives cx.P 117 [d,ptV p] C (.tuple #[.bool (decide (nt a b p≠[])),.int .i64 0]):=by
 have k:=e;obtain ⟨n,o,rfl,h1,h2⟩:=id e.ex;refine Tk func117 18 U3 fun w0=>Tf fun R c=>Tv U6 fun b2=>Tv U6 fun q=>C6 2 [2,3] c Z<|Tf fun R c=>Ti af U9<|Ti ag U9<|TM (lC _ g.m_ _ a b p k.m_ h i j) U7 (fun r _ _ l=>?_);obtain ⟨s,rfl,m⟩:=l;obtain ⟨t,u,f,_⟩:=id m;rw [am] at f;subst f;refine C6 5 [6,7] c Z<|Tb 6 [4,5] Z<|Tn (G.dropAll (TD U3 ?_));refine ⟨?_,Z⟩;have:decide (((nt a b p).length:Int) > 0)=decide (nt a b p≠[]):=by
  rw [Qo,<- Qi];omega
 rw [<- this]
theorem yT (C:Mem)(j:Tabs C)(d:Value)(c:List Pt)(b:List Tri)(i:Nat)(e:MeshIn C d c b)(k:Good c b)(l:i<b.length) :
  Gives cx.P 69 [d,.int .i64 i] C (.int .i64 0):=by
 have f:=e;obtain ⟨m,n,rfl,h1,h2⟩:=id e.ex;obtain ⟨A2,c2,rfl,o,p,_⟩:=id h2;simp only [am] at h1 h2 f ⊢;refine Tk func69 20 U3 fun w0=>Tf fun R a=>Tv U6 fun b2=>C6 1 [1,2] a Z<|Tf fun R a=>Ti ag U9<|To (gv _ j.m_ _ c b f.m_ k) U7<|C6 1 [1,2,5] a Z<|Tb 2 [1,2,5,9] Z<|G.cd (fun g=>?_) fun g=>?_
 ·exact absurd g dc_
 refine Tc 5 Z fun R a=>Ti ag U9<|Tg 2 Z<|TN U8<|Th [19] a Z<|G.cd (fun h=>?_) fun h=>?_
 ·exfalso;simp only [Ro,PI] at h;omega
 exact Tb 1 [4] Z<|Tl U2<|⟨Z,Z⟩
def wgt (pts:List Pt)(t:Tri)(p:Pt)(j:Nat):Rat:=cW p (cor pts t ((j+1) % 3)) (cor pts t ((j+2) % 3)) / cW (cor pts t 0) (cor pts t 1) (cor pts t 2)
theorem nV {a:List Pt}{b:List Tri}(c:MeshOk a b){t:Tri}(d:t∈b):cW (cor a t 0) (cor a t 1) (cor a t 2)≠0:=by
 have h:=c.pos t d;intro e;have f:cW (a.getD t.1 (0,0)) (a.getD t.2.1 (0,0)) (a.getD t.2.2 (0,0))=0:=e;rw [f] at h;exact absurd h dc_
theorem vC (C:Mem)(g:Tabs C)(x:Value)(c:List Pt)(h:List Tri)(p:Pt)(i:Nat)(t:Tri)(y:MeshIn C x c h)(z:Good c h)(l:QP 23 p)(O:PtR p)(o:h[i]?=some t)(q:∀ j,QB 22 (wgt c t p j)) :
  Gives cx.P 19 [x,.int .i64 i,ptV p] C (.tuple #[.agg ⟨[ah (qtx (wgt c t p 0)),ah (qtx (wgt c t p 1)),ah (qtx (wgt c t p 2))]⟩,.int .i64 0]):=by
 have r:=z.ok;have A:=Px o;have Q:=(aJ.1 o).1;have B:=y;obtain ⟨v1,v2,rfl,h1,h2⟩:=id y.ex;have e:=fun j=>(nA r A j).le (show 1<=23 by decide);have s:=nV r A;have u:∀ a b,QP 23 a->QP 23 b->QB 189 (cW p a b):=fun a b S T=>(zg l S T).le dc_;have v:QB 189 (cW (cor c t 0) (cor c t 1) (cor c t 2)):=(zg (e 0) (e 1) (e 2)).le dc_;refine Tk func19 69 U3 fun w0=>Tf fun R d=>Tv U6 fun b3=>Tv U6 fun U=>Tq U5 fun D=>C6 1 [1,3,5,6] d Z<|G.freeze 2 Z fun _ _ E=>G.freeze 1 Z fun _ _ n=>Tf fun R d=>Td (PtrTo.block (Mem.get E mup) _) U8<|Te U6<|To (yT _ g.m_ _ c h i B.m_ z Q) U7<|C6 1 [1,3,5,6,8] d Z<|Tb 2 [1,3,5,6,8,18] Z<|G.cd (fun F=>?_) fun F=>?_
 ·exact absurd F dc_
 refine Tf fun R d=>Td (PtrTo.block (Mem.get n mup) _) U8<|To (im _ g.m_ p l O) U7<|C6 1 [1,3,5,6,23] d Z<|G.cd (fun H=>?_) fun H=>?_
 ·exact absurd H dc_
 refine Tf fun R d=>Td (PtrTo.block (Mem.get E mup) _) U8<|Te U6<|To (sq _ _ c h B.m_ r i t o) U7<|Tq U5 fun V=>Tj (j:=0) U12<|Th [5,6,9] d Z<|G.freeze 0 Z fun _ _ f=>Tf fun R d=>Tq U5 fun I=>Th [5,6,9,10] d Z<|Tb 1 [5,6,9,10,28] Z<|G.loop (fun fr C' W X=>∃ (j:Nat),(j<=3)/\fr=[(5,[],.pointer (some ⟨U,0,none⟩)),(6,[],.pointer (some ⟨D,0,none⟩)),(9,[],.pointer (some ⟨V,0,none⟩)),(10,[],.pointer (some ⟨I,0,none⟩)),(28,[],.int .i64 j)]/\W=[.obj I (.cells ⟨(List.range 3).map fun k=>if k<j then ah (qtx (wgt c t p k)) else ah []⟩ 61 (0,0)),.obj D (.cells ⟨[ah [],ah [],ah []]⟩ 61 (0,0))]/\X=3-j) (hn_ [5,6,9,10,28] Z) ⟨0,PG _,Z,Z,Z⟩ (fun fr aa ab m _ Y=>?_);obtain ⟨j,hj,rfl,rfl,rfl⟩:=Y;refine Tb 1 [5,6,9,10,28,29] Z<|G.cd (fun w=>?_) fun w=>?_
 ·have J:j<3:=by
   simp only [PI] at w;omega
  rcases (by omega:j=0∨j=1∨j=2) with rfl | rfl | rfl
  ·refine Tb 2 [5,6,9,10,11,28] Z<|Tx [0,1,2,3,4,5,6,7,8,9,10,11,12,13,14,15,16,17,18,19,20,21,22,23,24,25] [(12,1),(19,1),(20,1)] Z kr_ fun R K d=>Te U6<|Td (PtrTo.block (Mem.get n mup) _) U8<|Te U6<|Tm _ U7<|Uq U6 om_ om_ U2<|Ty (_) U9 ai U2<|Td (bkT f 2) U8<|Te U6<|Tm _ U7<|Uq U6 om_ om_ U2<|Ty (_) U9 ai U2<|Td (bkT f 2) U8<|TA (fun _=>(ip _ g.m_ p (cor c t ((0+1) % 3)) (cor c t ((0+2) % 3)) 23 dc_ dc_ l (e _) (e _))) U9<|Ty (0) U9 ai U2<|Td (bkT f 2) U8<|Ty (2) U9 ai U2<|Td (bkT f 2) U8<|Ty (4) U9 ai U2<|Td (bkT f 2) U8<|TA (fun _=>(ip _ g.m_ (cor c t 0) (cor c t 1) (cor c t 2) 23 dc_ dc_ (e 0) (e 1) (e 2))) U9<|TA (fun _=>(gb _ g.m_ _ _ 189 dc_ dc_ (u _ _ (e _) (e _)) v s)) U9<|Tg 3 Z<|Ty (_) U9 ai U2<|Tj (j:=0) U12<|Th [5,6,9,10,11,28] d Z<|Tc 1 Z fun R d=>Ty (_) U9 ai U2<|Ti ag U9<|To (tz _ g.m_ (wgt c t p 0) (q 0)) U7<|C6 5 [5,6,9,10,13,28] d Z<|Tb 2 [5,6,9,10,13,28,64] Z<|G.cd (fun L=>?_) fun L=>?_
   ·exact absurd L dc_
   refine Tf fun R d=>Tm _ U7<|C6 1 [5,6,9,10,28] d Z<|Tp (m':=2) om_ mup (hn_ [5,6,9,10,28] Z) ⟨1,by decide,Z,Z,Z⟩
  ·refine Tb 2 [5,6,9,10,11,28] Z<|Tx [0,1,2,3,4,5,6,7,8,9,10,11,12,13,14,15,16,17,18,19,20,21,22,23,24,25] [(12,1),(19,1),(20,1)] Z kr_ fun R K d=>Te U6<|Td (PtrTo.block (Mem.get n mup) _) U8<|Te U6<|Tm _ U7<|Uq U6 om_ om_ U2<|Ty (_) U9 ai U2<|Td (bkT f 2) U8<|Te U6<|Tm _ U7<|Uq U6 om_ om_ U2<|Ty (_) U9 ai U2<|Td (bkT f 2) U8<|TA (fun _=>(ip _ g.m_ p (cor c t ((1+1) % 3)) (cor c t ((1+2) % 3)) 23 dc_ dc_ l (e _) (e _))) U9<|Ty (0) U9 ai U2<|Td (bkT f 2) U8<|Ty (2) U9 ai U2<|Td (bkT f 2) U8<|Ty (4) U9 ai U2<|Td (bkT f 2) U8<|TA (fun _=>(ip _ g.m_ (cor c t 0) (cor c t 1) (cor c t 2) 23 dc_ dc_ (e 0) (e 1) (e 2))) U9<|TA (fun _=>(gb _ g.m_ _ _ 189 dc_ dc_ (u _ _ (e _) (e _)) v s)) U9<|Tg 3 Z<|Ty (_) U9 ai U2<|Tj (j:=0) U12<|Th [5,6,9,10,11,28] d Z<|Tc 1 Z fun R d=>Ty (_) U9 ai U2<|Ti ag U9<|To (tz _ g.m_ (wgt c t p 1) (q 1)) U7<|C6 5 [5,6,9,10,13,28] d Z<|Tb 2 [5,6,9,10,13,28,64] Z<|G.cd (fun M=>?_) fun M=>?_
   ·exact absurd M dc_
   refine Tf fun R d=>Tm _ U7<|C6 1 [5,6,9,10,28] d Z<|Tp (m':=1) om_ mup (hn_ [5,6,9,10,28] Z) ⟨2,by decide,Z,Z,Z⟩
  refine Tb 2 [5,6,9,10,11,28] Z<|Tx [0,1,2,3,4,5,6,7,8,9,10,11,12,13,14,15,16,17,18,19,20,21,22,23,24,25] [(12,1),(19,1),(20,1)] Z kr_ fun R K d=>Te U6<|Td (PtrTo.block (Mem.get n mup) _) U8<|Te U6<|Tm _ U7<|Uq U6 om_ om_ U2<|Ty (_) U9 ai U2<|Td (bkT f 2) U8<|Te U6<|Tm _ U7<|Uq U6 om_ om_ U2<|Ty (_) U9 ai U2<|Td (bkT f 2) U8<|TA (fun _=>(ip _ g.m_ p (cor c t ((2+1) % 3)) (cor c t ((2+2) % 3)) 23 dc_ dc_ l (e _) (e _))) U9<|Ty (0) U9 ai U2<|Td (bkT f 2) U8<|Ty (2) U9 ai U2<|Td (bkT f 2) U8<|Ty (4) U9 ai U2<|Td (bkT f 2) U8<|TA (fun _=>(ip _ g.m_ (cor c t 0) (cor c t 1) (cor c t 2) 23 dc_ dc_ (e 0) (e 1) (e 2))) U9<|TA (fun _=>(gb _ g.m_ _ _ 189 dc_ dc_ (u _ _ (e _) (e _)) v s)) U9<|Tg 3 Z<|Ty (_) U9 ai U2<|Tj (j:=0) U12<|Th [5,6,9,10,11,28] d Z<|Tc 1 Z fun R d=>Ty (_) U9 ai U2<|Ti ag U9<|To (tz _ g.m_ (wgt c t p 2) (q 2)) U7<|C6 5 [5,6,9,10,13,28] d Z<|Tb 2 [5,6,9,10,13,28,64] Z<|G.cd (fun N=>?_) fun N=>?_
  ·exact absurd N dc_
  refine Tf fun R d=>Tm _ U7<|C6 1 [5,6,9,10,28] d Z<|Tp (m':=0) om_ mup (hn_ [5,6,9,10,28] Z) ⟨3,by decide,Z,Z,Z⟩
 have J:j=3:=by
  simp only [P3] at w;omega
 subst J;refine Tf fun R d=>Ti ag U9<|Tj (j:=1) U12<|C6 1 [6,7] d Z<|Tn (Uz ag U5 ?_);exact ⟨Z,Z⟩
end Go.Proofs.YtfjcldheldflbaaGreatDoor
