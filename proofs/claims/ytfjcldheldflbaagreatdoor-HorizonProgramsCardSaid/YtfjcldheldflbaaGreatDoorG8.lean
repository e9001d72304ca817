/- Laws that the proofs of this seat share, part 8. -/
import Derived.Test.YtfjcldheldflbaaGreatDoorG7
import Derived.Test.YtfjcldheldflbaaGreatDoorShelf
import Derived.RangeFuncBox
import Derived.RangeFuncLeaves
import Derived.Shelf.Abstract
import Derived.WalkKit
import Derived.OwnWalkIn
import Derived.TacticsInMore
import Derived.LoopNIn
import Derived.LoopIn
import Derived.Stop.RegionWithIn
import Derived.Test.YtfjcldheldflbaaGreatDoorProg
set_option maxHeartbeats 4000000
namespace Go.Proofs.YtfjcldheldflbaaGreatDoor
open Go.Proofs.Tryz
open Go Go.Jog
set_option maxRecDepth 100000
variable {C:Mem}{cyc:List Nat}{i k n:Nat}{q:Rat}{s:Str}
theorem AG (q:Rat):q.num<0 ↔ q<0:=by
 rw [Rat.lt_iff];simp
theorem vT {z:Int}(h:(bj z.natAbs).length<=200):cI (txt z)=true:=by
 refine rx.2 ?_;rw [dF];refine ⟨yk.2 ⟨(bB _).1,h⟩,fun a=>?_⟩;have h1:=OD a;show 0<bW (bj z.natAbs);rw [(bB _).2];omega
theorem Bx (z:Int):ix (txt z)=z:=by
 unfold ix;rw [dF];show sgZ (decide (z<0)) (bW (bj z.natAbs))=z;rw [(bB _).2];unfold sgZ;by_cases h:z<0
 ·rw [PG h,aL rfl];omega
 rw [PT h,aF dc_];omega
theorem bC (h:QB 22 q):aW (qtx q)=true:=by
 have h1:(bj q.num.natAbs).length<=200:=by have:=bZ h.1 dc_;omega
 have h2:(bj q.den).length<=200:=by have:=bZ h.2 dc_;omega
 unfold aW;rw [nT];show (cI (txt q.num) && cI ((nB q.den).getD [49]) && oS (ix (txt q.num)) (nB q.den))=true;rw [GF,Bx,vT h1,<- de,vT (by rw [P6];exact h2),So,So];by_cases a:q.den=1
 ·rw [lS a];rfl
 rw [fJ a];unfold oS;show (decide (1<ix (bj q.den)) && !(q.num == 0) && (Nat.gcd q.num.natAbs (ix (bj q.den)).natAbs == 1))=true;have b:ix (bj q.den)=((q.den:Nat):Int):=by rw [<- de,Bx]
 have d:=gN q;rw [b,PG om_,P6,show Nat.gcd q.num.natAbs q.den=1 from q.reduced];have c:q.num≠0:=by
  intro e;have h3:=q.reduced;rw [e] at h3;have h4:Nat.gcd 0 q.den=1:=h3;rw [Nat.gcd_zero_left] at h4;exact a h4
 simp [c]
theorem xg (h:QB 22 q):nV (aW (qtx q))=0:=by rw [bC h];rfl
abbrev Pt:=Rat × Rat
def fZ (p:Pt):List Value:=[af (qtx p.1),af (qtx p.2)]
def ptV (p:Pt):Value:=.agg ⟨fZ p⟩
def QP (k:Nat)(p:Pt):Prop:=QB k p.1/\QB k p.2
def dH (a b c:Pt):Rat:=(b.1-a.1)*(c.2-a.2)-(b.2-a.2)*(c.1-a.1)
theorem eW (b:Bool):nV b=0/\b=true∨nV b=2/\b=false:=by cases b <;> simp [nV]
def jV (s:Str):List Value:=[af s]
theorem rF (C:Mem)(h:Tabs C)(v:Value)(l:List Str)(c:Sl C 1 v (l.map jV))(j:∀ s∈l,s.length<=999998):Gives cx.P 132 [v] C (.int .i64 (nV (l.all aW))):=by
 obtain ⟨k,c0,rfl,n,w,_⟩:=id c;have x:maxLen<=9223372036854775807:=by simp [maxLen]
 simp only [al] at c n ⊢;refine S4 func132 18 U3 fun w0=>SR 1 [0] Z<|SR 3 [6,7,8] Z<|G.loop (fun fr y o p=>∃ (i:Nat),(i<=l.length/\(l.take i).all aW=true)/\fr=[(6,[],.slice k l.length c0),(7,[],.int .i64 l.length),(8,[],.int .i64 i)]/\o=[]/\p=l.length-i) (hn_ [6,7,8] Z) ⟨0,⟨Pm _,by simp⟩,Z,Z,Z⟩ (fun fr z A m q r=>?_);obtain ⟨i,⟨B,d⟩,rfl,rfl,rfl⟩:=r;refine SR 1 [6,7,8,9] Z<|G.cd (fun e=>?_) fun e=>?_
 ·have f:i<l.length:=by simpa using e
  obtain ⟨s,hs⟩:∃ s,l[i]?=some s:=⟨l[i],ak f⟩;refine SX fun R a=>Ta c.m_ U10 om_ (by rw [Pi,hs];rfl:(l.map jV)[i]?=some (jV s)) fl_ fun D t=>SU t U8<|C6 1 [4,6,7,8] a Z<|SS 1 Z fun R a=>S8 (dA _ h.m_ s (j s (Pe hs))) U7<|C6 1 [5,6,7,8] a Z<|SR 2 [5,6,7,8,15] Z<|G.cd (fun b=>?_) fun b=>?_
  ·have g:aW s=false:=by
    rcases eW (aW s) with ⟨h1,h2⟩ | ⟨h1,h2⟩
    ·rw [h1] at b;exact absurd b dc_
    exact h2
   refine SR 2 [2] Z<|S3 U2<|⟨?_,Z⟩;rw [g,show l.all aW=false from RK.2 ⟨s,Pe hs,by rw [g];decide⟩]
  have u:aW s=true:=by
   rcases eW (aW s) with ⟨h1,h2⟩ | ⟨h1,h2⟩
   ·exact h2
   rw [h1] at b;exact absurd b dc_
  refine SX fun R a=>S2 _ Z U6<|C6 1 [6,7,8] a Z<|S6 (m':=l.length-(i+1)) om_ q (hn_ [6,7,8] Z) ⟨i+1,⟨by omega,by rw [PN,hs,SF,d];simp [u]⟩,Z,Z,Z⟩
 have f:i=l.length:=by
  have:¬ i<l.length:=by simpa using e
  omega
 refine SR 1 [2] Z<|S3 U2<|⟨?_,Z⟩;rw [f,Pv] at d;rw [d];rfl
theorem No {t:Str}(a:s.length<=n)(b:t.length<=n):∀ x∈[s,t],x.length<=n:=by simp [a,b]
theorem HK {t u:Str}(a:s.length<=n)(b:t.length<=n)(c:u.length<=n):∀ x∈[s,t,u],x.length<=n:=by simp [a,b,c]
theorem io (C:Mem)(b:Tabs C)(s t:Str)(c:s.length<=999998)(d:t.length<=999998):Gives cx.P 66 [.agg ⟨[af s,af t]⟩] C (.int .i64 (nV (aW s && aW t))):=by
 refine S4 func66 9 U3 fun w0=>SX fun R a=>Tf U6 fun f=>C6 1 [1] a Z<|SS 1 Z fun R a=>S1 ag U9<|SV U6<|S1 ag U9<|Th [jV s,jV t] U12 fun g _ _ e=>S8 (rF _ b.m_ _ [s,t] e.m_ (No c d)) U7<|C6 1 [2] a Z<|S3 U2<|⟨?_,Z⟩;simp
theorem qY (C:Mem)(b:Tabs C)(s t u:Str)(c:s.length<=999998)(d:t.length<=999998)(e:u.length<=999998):Gives cx.P 319 [.agg ⟨[af s,af t,af u]⟩] C (.int .i64 (nV (aW s && aW t && aW u))):=by
 refine S4 func319 11 U3 fun w0=>SX fun R a=>Tf U6 fun g=>C6 1 [1] a Z<|SS 1 Z fun R a=>S1 ag U9<|SV U6<|S1 ag U9<|SV U6<|S1 ag U9<|Th [jV s,jV t,jV u] U12 fun h _ _ f=>S8 (rF _ b.m_ _ [s,t,u] f.m_ (HK c d e)) U7<|C6 1 [2] a Z<|S3 U2<|⟨?_,Z⟩;simp [Bool.and_assoc]
theorem kO (C:Mem)(e:Tabs C)(a b c:Pt)(k:Nat)(g:0<k)(l:k<=1000)(d:QP k a)(h:QP k b)(i:QP k c):Gives cx.P 71 [ptV a,ptV b,ptV c] C (af (qtx (dH a b c))):=by
 have h1:=lY h.1 d.1;have h2:=lY i.2 d.2;have h3:=lY h.2 d.2;have h4:=lY i.1 d.1;exact S4 func71 32 U3 fun w0=>SX fun R f=>Tf U6 fun m=>Tf U6 fun n=>Tf U6 fun o=>C6 1 [3,4,5] f Z<|Tg [0,1,2,3,4,5,6,7,8,9,10,11] [(4,1),(9,1),(10,1)] Z kr_ fun R j f=>SV U6<|S1 ae U9<|SV U6<|S1 ac U9<|Tj (fun _=>(ec _ e.m_ b.1 a.1 k g om_ h.1 d.1)) U9<|SV U6<|S1 ag U9<|SV U6<|S1 ac U9<|Tj (fun _=>(ec _ e.m_ c.2 a.2 k g om_ i.2 d.2)) U9<|Tj (fun _=>(df _ e.m_ (b.1-a.1) (c.2-a.2) (k+k+1) om_ om_ h1 h2)) U9<|C6 1 [3,4,5,7] f Z<|Tg [0,1,2,3,4,5,6,7,8,9,10,11,12,13] [(5,1),(10,1),(11,1),(12,1)] Z kr_ fun R j f=>SZ 2 Z<|S1 ae U9<|SV U6<|S1 ac U9<|Tj (fun _=>(ec _ e.m_ b.2 a.2 k g om_ h.2 d.2)) U9<|SV U6<|S1 ag U9<|SV U6<|S1 ac U9<|Tj (fun _=>(ec _ e.m_ c.1 a.1 k g om_ i.1 d.1)) U9<|Tj (fun _=>(df _ e.m_ (b.2-a.2) (c.1-a.1) (k+k+1) om_ om_ h3 h4)) U9<|Tj (fun _=>(ec _ e.m_ ((b.1-a.1)*(c.2-a.2)) ((b.2-a.2)*(c.1-a.1)) (k+k+1+(k+k+1)) om_ om_ (qD h1 h2) (qD h3 h4))) U9<|C6 1 [6] f Z<|S3 U2<|⟨Z,Z⟩
theorem zi {a b c:Pt}(d:QP k a)(e:QP k b)(f:QP k c):QB (8*k+5) (dH a b c):=by
 have h:=lY (qD (lY e.1 d.1) (lY f.2 d.2)) (qD (lY e.2 d.2) (lY f.1 d.1));exact h.le om_
theorem ox (C:Mem)(h:Tabs C)(a b c:Pt)(k:Nat)(i:0<k)(j:k<=1000)(e:QP k a)(f:QP k b)(g:QP k c):Gives cx.P 129 [ptV a,ptV b,ptV c] C (.int .i64 (eK (dH a b c).num)):=by
 exact S4 func129 12 U3 fun w0=>SX fun R d=>Tf U6 fun l=>Tf U6 fun m=>Tf U6 fun n=>C6 1 [3,4,5] d Z<|SX fun R d=>S1 ac U9<|S1 ae U9<|S1 ag U9<|S8 (kO _ h.m_ a b c k i j e f g) U7<|Tb (fR _ (dH a b c) (by have:=bx (zi e f g) om_;omega)) U7 fl_<|C6 1 [6] d Z<|S3 U2<|⟨Z,Z⟩
theorem tj (C:Mem)(c:Tabs C)(q:Rat)(b:QB 22 q):Gives cx.P 72 [af (qtx q)] C (.tuple #[af (qtx q),.int .i64 0]):=by
 refine S4 func72 8 U3 fun w0=>SR 2 [0] Z<|SS 1 Z fun R d=>Tb (dA _ c.m_ _ (by have:=bx b dc_;omega)) U7 fl_<|C6 1 [0,6] d Z<|G.cd (fun a=>?_) fun a=>?_
 ·exfalso;rw [xg b] at a;exact absurd a dc_
 refine SR 3 [2,3] Z<|S7 (G.dropAll (Tp U3 ?_));exact ⟨Z,Z⟩
abbrev Tri:=Nat × Nat × Nat
def ic (t:Tri):List Value:=[.int .i64 (t.1:Nat),.int .i64 (t.2.1:Nat),.int .i64 (t.2.2:Nat)]
def MG (a b c:Pt):Value:=.agg ⟨fZ a++fZ b++fZ c⟩
theorem Dm (C:Mem)(k l:Value)(d:List Pt)(g:List Tri)(i:Nat)(t:Tri)(a b c:Pt)(e:Sl C 2 k (d.map fZ))(h:Sl C 3 l (g.map ic))(m:g[i]?=some t)(n:d[t.1]?=some a)(o:d[t.2.1]?=some b)(p:d[t.2.2]?=some c) :
  Gives cx.P 68 [.agg ⟨[k,l]⟩,.int .i64 i] C (MG a b c):=by
 obtain ⟨x,y,rfl,q,z,_⟩:=id e;obtain ⟨A2,c2,rfl,r,A,_⟩:=id h;have B:maxLen<=9223372036854775807:=by simp [maxLen]
 simp only [al] at e h q r ⊢;have D:=(aJ.1 m).1;have E:=(aJ.1 n).1;have F:=(aJ.1 o).1;have G:=(aJ.1 p).1;refine S4 func68 30 U3 fun w0=>SX fun R f=>Tf U6 fun H=>Te U5 fun I=>SY [1,2,4] f Z<|SS 1 Z fun R f=>S1 ae U9<|SV U6<|Ta h.m_ U10 om_ (by rw [Pi,m];rfl:(g.map ic)[i]?=some (ic t)) fl_ fun J s=>SU s U8<|Te U5 fun K=>S5 (j:=0) U12<|SY [2,4,5] f Z<|Tg [0,1,2,3,4,5,6,7,8,9,10,11,12,13,14,15,16,17,18,19] [] Z kr_ fun R L f=>SV U6<|S1 ac U9<|Ti (0) U9 ah U2<|S1 ag U9<|Ta e.m_ U10 om_ (by rw [Pi,n];rfl:(d.map fZ)[t.1]?=some (fZ a)) fl_ fun M u=>SU u U8<|SV U6<|S1 ac U9<|Ti (1) U9 ah U2<|S1 ag U9<|Ta e.m_ U10 om_ (by rw [Pi,o];rfl:(d.map fZ)[t.2.1]?=some (fZ b)) fl_ fun N v=>SU v U8<|SV U6<|S1 ac U9<|Ti (2) U9 ah U2<|S1 ag U9<|Ta e.m_ U10 om_ (by rw [Pi,p];rfl:(d.map fZ)[t.2.2]?=some (fZ c)) fl_ fun O w=>SU w U8<|Td (fZ a++fZ b++fZ c) U8<|S5 (j:=1) U12<|SY [4] f Z<|S7 (TE ag U4 ?_);exact ⟨Z,Z⟩
theorem F3 (C:Mem)(d:Tabs C)(a b c p:Pt)(k:Nat)(e:0<k)(f:k<=1000)(j:QP k a)(l:QP k b)(m:QP k c)(g:QP k p) :
  Gives cx.P 67 [MG a b c,ptV p] C (.bool (decide (0<=dH a b p) && decide (0<=dH b c p) && decide (0<=dH c a p))):=by
 refine S4 func67 30 U3 fun w0=>SX fun R i=>Tf U6 fun n=>Tf U6 fun o=>C6 1 [2,3] i Z<|SX fun R i=>Ti (0) U9 ah U2<|S1 ae U9<|Ti (2) U9 ah U2<|S1 ae U9<|S1 ag U9<|S8 (ox _ d.m_ a b p k e f j l g) U7<|SZ 2 Z<|Ti (2) U9 ah U2<|S1 ae U9<|Ti (4) U9 ah U2<|S1 ae U9<|S1 ag U9<|Tu (fun _=>(ox _ d.m_ b c p k e f l m g)) U9<|SV U6<|Tl U8<|SV U6<|Ti (4) U9 ah U2<|S1 ae U9<|Ti (0) U9 ah U2<|S1 ae U9<|S1 ag U9<|Tu (fun _=>(ox _ d.m_ c a p k e f m j g)) U9<|SV U6<|Tl U8<|C6 1 [4] i Z<|S3 U2<|⟨?_,Z⟩;have hs:∀ q:Rat,decide (eK q.num ≥ 0)=decide (0<=q):=fun q=>by
  rw [Qb,<- Rat.num_nonneg];rcases eh q.num with h | h | h <;> omega
 rw [<- hs,<- hs,<- hs]
open Go Go.Jog Go.RowKit Go.Shelf
attribute [local go_sem] Oper.semAt_some
def K9 (zs:Nat->Int)(k:Nat):Value:=.agg #[.int .i64 (zs k),.int .i64 (zs ((k+1) % 3))]
set_option maxRecDepth 100000 in
theorem H0 (l Bs:Nat)(zs:Nat->Int)(J:Nat->World->Prop)
  (hD:∀ k W,J k W->J k W.drew)
  (hJ:∀ k W,J k W->∀ j,j<3->W.cell? ⟨Bs,j,none⟩=some (.int .i64 (zs j)))
  (hY:∀ k W,J k W->k<3->YieldAt Fence.wide 1 Tryz.prog l #[.int .i64 (k:Nat),K9 zs k] W fun e W'=>e=.returned (.bool true)/\J (k+1) W')
  (W:World) (h0:J 0 W) :
  CallsIn Fence.wide 2 Tryz.prog 263 #[.func (.yield l) #[] #[],.pointer (some ⟨Bs,0,none⟩)] W fun e W'=>(∃ v,e=.returned v)/\J 3 W':=by
 refine callsIn_of_wp func263 Z trivial ?_ Z;simp only [Tryz.ntmps263,Rb,Pz,PV,Nat.reduceAdd,Nat.reduceSub,SB,SC,List.push_toArray,List.append_toArray,Re,QZ]
 gi_wp2
 gi_loopw [4] (fun i wr=>∃ k:Nat,k<=3/\i=.int .i64 k/\J k wr) (fun i _=>(3-intOf i).toNat)
 case atStart=>exact ⟨0,by omega,rfl,h0⟩
 case round =>
  obtain ⟨k,hk,rfl,hJs⟩:=hrel;by_cases hlt:k<3
  ·have hJd:=hD k wr hJs;have hcd:=hJ k _ hJd;obtain ⟨fn,tmps,assign,body,hy,hR⟩:=hY k _ hJd hlt;rcases (by omega:k=0∨k=1∨k=2) with rfl | rfl | rfl
   ·have hc0:=hcd 0 om_;have hc1:=hcd 1 om_;have hy2:Sem.run Tryz.prog (Instr.yield l #[Value.int .i64 0,Value.agg #[.int .i64 (zs 0),.int .i64 (zs 1)]]) wr.drew=.ok (.round l fn tmps assign body) wr.drew:=hy;clear hy
    gi_wp2
    gi_region_with (refine hR.mono ?_;rintro e W3 ⟨rfl,hJ3⟩)
    all_goals
     gi_wp2
     go_roundw
     case rel=>exact ⟨1,by omega,rfl,hJ3⟩
     case measure=>simp [intOf]
   ·have hc0:=hcd 1 om_;have hc1:=hcd 2 om_;have hy2:Sem.run Tryz.prog (Instr.yield l #[Value.int .i64 1,Value.agg #[.int .i64 (zs 1),.int .i64 (zs 2)]]) wr.drew=.ok (.round l fn tmps assign body) wr.drew:=hy;clear hy
    gi_wp2
    gi_region_with (refine hR.mono ?_;rintro e W3 ⟨rfl,hJ3⟩)
    all_goals
     gi_wp2
     go_roundw
     case rel=>exact ⟨2,by omega,rfl,hJ3⟩
     case measure=>simp [intOf]
   have hc0:=hcd 2 om_;have hc1:=hcd 0 om_;have hy2:Sem.run Tryz.prog (Instr.yield l #[Value.int .i64 2,Value.agg #[.int .i64 (zs 2),.int .i64 (zs 0)]]) wr.drew=.ok (.round l fn tmps assign body) wr.drew:=hy;clear hy
   gi_wp2
   gi_region_with (refine hR.mono ?_;rintro e W3 ⟨rfl,hJ3⟩)
   all_goals
    gi_wp2
    go_roundw
    case rel=>exact ⟨3,by omega,rfl,hJ3⟩
    case measure=>simp [intOf]
  obtain rfl:k=3:=by omega
  gi_wp2
  go_end0
  exact ⟨⟨_,Z⟩,hJs⟩
def DJ (t:Tri)(j:Nat):Int:=if j=0 then (t.1:Nat) else if j=1 then (t.2.1:Nat) else (t.2.2:Nat)
def vG (t:Tri):List (Value × Value):=(List.range 3).map fun k=>(.int .i64 (k:Nat),K9 (DJ t) k)
theorem mq (t:Tri):(vG t).length=3:=rfl
theorem vF {t:Tri}(h:k<3):(vG t)[k]?=some (.int .i64 (k:Nat),K9 (DJ t) k):=by
 simp [vG,h]
theorem Cl (C:Mem)(b c:Nat)(t:Tri)(d:C b=some (.cells ⟨ic t⟩ c (0,0))) :
  OB Tryz.prog 263 #[.pointer (some ⟨b,0,none⟩)] C (vG t):=by
 intro l J W e f g h0;refine H0 l b (DJ t) J f (fun k W a j i=>?_) (fun k W a h=>g k _ W a (vF h)) W h0;have h1:=e k W a b _ d;rcases (by omega:j=0∨j=1∨j=2) with rfl | rfl | rfl <;> simp [World.cell?,h1,ic,DJ]
theorem H1 (C:Mem)(t:Tri):Pur cx.P 213 [.agg ⟨ic t⟩] C fun r a=>∃ b,r=.func (.func 263) #[] #[.pointer (some ⟨b,0,none⟩)]/\a b=some (.cells ⟨ic t⟩ 65 (0,0)):=by
 exact S4 func213 4 U3 fun w0=>SX fun R c=>Tf U6 fun e=>C6 1 [1] c Z<|SR 2 [2] Z<|G.freeze 0 Z fun f g d=>S3 U2<|⟨Z,_,Z,d⟩
def nu (t:Tri)(k:Nat):Int × Int:=(DJ t k,DJ t ((k+1) % 3))
abbrev M6:=List ((Int × Int) × Value)
def DK (m:M6)(i:Nat)(t:Tri):Nat->M6
 | 0=>m
 | k+1=>iv (DK m i t k) (nu t k) (.int .i64 (i:Nat))
def wh (tris:List Tri):Nat->M6
 | 0=>[]
 | n+1=>DK (wh tris n) n (tris.getD n (0,0,0)) 3
noncomputable def kI2:KeyP cx.P 163 (Int × Int):=O1 rfl rfl rfl kr_
theorem wg (C:Mem)(q I:Value)(a:List Tri)(O:a≠[])(x:Sl C 3 I (a.map ic))(Q:∀ i t k,a[i]?=some t->k<3->dQ (DK (wh a i) i t k) (nu t k)=none) :
  Pur cx.P 145 [.agg ⟨[q,I]⟩] C fun u D=>∃ b,u=.tuple #[.map (some b),.bool true]/\D b=some (aU pT (wh a a.length)):=by
 obtain ⟨A2,c2,rfl,S,ad,_⟩:=id x;have af:maxLen<=9223372036854775807:=by simp [maxLen]
 simp only [al] at x S ⊢;refine Up kr_ func145 Z 36 Z Z fun w0=>SX fun R c=>Tf U6 fun r=>Te U5 fun h=>Te U5 fun n=>SY [1,2,3] c Z<|SX fun R c=>UO kI2 Z Z Z Z fl_ fun f=>Te U5 fun o=>S5 (j:=0) U12<|SY [1,2,3,4] c Z<|SS 1 Z fun R c=>S1 (.tail _ aa) U9<|C6 2 [2,3,4,13,14,15] c Z<|G.perm (L':=[.obj o (.cells ⟨[.map (some f)]⟩ 234 (0,0)),.obj f (aU pT []),.obj n (.cells ⟨[.bool false]⟩ 4 (0,0)),.obj h (.cells ⟨[.map none]⟩ 234 (0,0)),.obj r (.cells ⟨[q,.slice A2 a.length c2]⟩ 39 (0,0))]) (Pk _)<|VH (fun dd fr C' d T=>∃ (i:Nat)(g:List Nat),(i<=a.length/\g.length=i)/\dd=g.map JB/\fr=[(2,[],.pointer (some ⟨h,0,none⟩)),(3,[],.pointer (some ⟨n,0,none⟩)),(4,[],.pointer (some ⟨o,0,none⟩)),(13,[],.slice A2 a.length c2),(14,[],.int .i64 a.length),(15,[],.int .i64 i)]/\d=[.obj o (.cells ⟨[.map (some f)]⟩ 234 (0,0)),.obj f (aU pT (wh a i)),.obj n (.cells ⟨[.bool false]⟩ 4 (0,0)),.obj h (.cells ⟨[.map none]⟩ 234 (0,0)),.obj r (.cells ⟨[q,.slice A2 a.length c2]⟩ 39 (0,0))]++g.map yS/\T=a.length-i) (hn_ [2,3,4,13,14,15] Z) ⟨0,[],⟨Pm _,Z⟩,Z,Z,Z,Z⟩ (fun dd fr ah ai m _ p=>?_);obtain ⟨i,g,⟨hi,y⟩,rfl,rfl,rfl,rfl⟩:=p;refine SR 1 [2,3,4,13,14,15,16] Z<|G.cd (fun A=>?_) fun A=>?_
 ·have B:i<a.length:=by simpa using A
  obtain ⟨t,E⟩:∃ t,a[i]?=some t:=⟨a[i],ak B⟩;refine SS 1 Z fun R c=>Ta x.m_ U10 om_ (by rw [Pi,E];rfl:(a.map ic)[i]?=some (ic t)) fl_ fun aj U=>SU U U8<|Te U5 fun F=>Te U5 fun J=>S5 (j:=1) U12<|S5 (j:=1) U12<|SY [2,3,4,5,6,13,14,15] c Z<|SX fun R c=>S1 ag U9<|Tv (H1 _ t) U7 fun am _ _ V=>SY [2,3,4,5,13,14,15,21] c Z ?_;obtain ⟨W,rfl,X⟩:=V;refine VL Z Z kr_ (Cl _ W _ t X) (fun j d=>∃ (z:Unit),(j<=3)/\d=[.obj J (.cells ⟨ic t⟩ 65 (0,0)),.obj F (.cells ⟨[.int .i64 i]⟩ 3 (0,0)),.obj o (.cells ⟨[.map (some f)]⟩ 234 (0,0)),.obj f (aU pT (DK (wh a i) i t j)),.obj n (.cells ⟨[.bool false]⟩ 4 (0,0)),.obj h (.cells ⟨[.map none]⟩ 234 (0,0)),.obj r (.cells ⟨[q,.slice A2 a.length c2]⟩ 39 (0,0))]++g.map yS) ⟨(),Pm _,Z⟩ Z (fun _ _=>rfl) (fun j d fr K=>∃ (s:Nat),fr=[(2,[],.pointer (some ⟨h,0,none⟩)),(3,[],.pointer (some ⟨n,0,none⟩)),(4,[],.pointer (some ⟨o,0,none⟩)),(5,[],.pointer (some ⟨F,0,none⟩)),(8,[],.pointer (some ⟨s,0,none⟩))]/\K=.obj s (.cells ⟨[.int .i64 (nu t j).1,.int .i64 (nu t j).2]⟩ 163 (0,0))::d) (fun l j u v d Y p w=>?_) (fun l j u v d an K Y p w hA=>?_) (fun L d p=>?_)
  ·obtain ⟨z,M,rfl⟩:=p;have H:j<3:=by have:=(aJ.1 w).1;rwa [mq] at this
   rw [vF H] at w;cases w
   exact SX fun R c=>Te U5 fun s=>S5 (j:=0) U12<|SY [2,3,4,5,8] c Z<|VM (hn_ [2,3,4,5,8] Z) ⟨s,Z,Z⟩
  ·obtain ⟨z,M,rfl⟩:=p;obtain ⟨s,rfl,rfl⟩:=hA;have H:j<3:=by have:=(aJ.1 w).1;rwa [mq] at this
   refine SX fun R c=>S1 aa U9<|S1 ag U9<|UP kI2 (.tail _ aa) Z Z Z Z Z Z Z Z Z (congrArg (lE _ true) (Q i t j E H)) Z Z<|C6 5 [2,3,4,5,8,10] c Z<|SR 1 [2,3,4,5,8,30] Z<|G.cd (fun N=>?_) fun N=>?_
   ·exact absurd N dc_
   refine SX fun R c=>S1 aa U9<|S1 ag U9<|S1 ac U9<|UJ kI2 (j:=4) Z Z Z Z Z Z Z Z Z Z<|TX [] trivial (c _ _ _ Z ?_);exact TC 1 Z<|UD (R:=fun d=>∃ (z:Unit),((j+1)<=3)/\d=[.obj J (.cells ⟨ic t⟩ 65 (0,0)),.obj F (.cells ⟨[.int .i64 i]⟩ 3 (0,0)),.obj o (.cells ⟨[.map (some f)]⟩ 234 (0,0)),.obj f (aU pT (DK (wh a i) i t (j+1))),.obj n (.cells ⟨[.bool false]⟩ 4 (0,0)),.obj h (.cells ⟨[.map none]⟩ 234 (0,0)),.obj r (.cells ⟨[q,.slice A2 a.length c2]⟩ 39 (0,0))]++g.map yS) (List.perm_middle (l₁:=[_,_,_])).symm ⟨(),om_,Z⟩
  obtain ⟨z,M,rfl⟩:=p;refine SX fun R c=>S2 _ Z U6<|C6 1 [2,3,4,13,14,15] c Z<|TC 1 Z<|TC 1 Z<|G.perm (L':=[.obj o (.cells ⟨[.map (some f)]⟩ 234 (0,0)),.obj f (aU pT (wh a (i+1))),.obj n (.cells ⟨[.bool false]⟩ 4 (0,0)),.obj h (.cells ⟨[.map none]⟩ 234 (0,0)),.obj r (.cells ⟨[q,.slice A2 a.length c2]⟩ 39 (0,0))]++(L::g).map yS) (by
   rw [show wh a (i+1)=DK (wh a i) i t (vG t).length by rw [mq,wh,ax,E];rfl];exact (List.perm_middle (l₁:=[_,_,_,_,_])).symm) ?_
  refine VG (m':=a.length-(i+1)) om_ mup (hn_ [2,3,4,13,14,15] Z) ⟨i+1,L::g,⟨by omega,by simp [y]⟩,Z,Z,Z,Z⟩
 have B:i=a.length:=by
  have:¬ i<a.length:=by simpa using A
  omega
 refine SX fun R c=>S1 ag U9<|S5 (j:=3) U12<|S5 (j:=3) U12<|SY [2,3] c Z<|G.freeze 3 Z fun Cf ao ab=>G.perm (L':=g.map yS++[_,_,_,_]) (Qf (l₁:=[_,_,_,_]))<|S7 (VJ (NJ ae ag Z Z Z Z Z Z Z) ?_ ?_)
 ·exact ⟨Z,f,Z,by rw [<- B];exact ab⟩
 intro e;rw [e] at y;have:=P4.2 O;simp at y;omega
def J7 (kd a b:Int)(h:Bool):Value:=.agg ⟨[.int .u8 kd,.int .i8 a,.int .i8 b,.bool h]⟩
def dO (h:Bool):Int:=if h then 2 else 1
def dD (a b:Int)(h:Bool)(x y by':Int):Pt:=(kM (x+a.tmod 8*by') (dO h*by'),kM (y+b.tmod 8*by') (dO h*by'))
theorem xJ (a:Int):-8<a.tmod 8/\a.tmod 8<8:=by
 have h:(a.tmod 8).natAbs=a.natAbs % 8:=RZ a 8;omega
theorem AQ (C:Mem)(g:Tabs C)(i a b:Int)(h:Bool)(x y n:Int)(u:0<n)(v:n<=4)(w:-128<=x/\x<=127)(A:-128<=y/\y<=127) :
  Gives cx.P 116 [J7 i a b h,.agg ⟨[.int .i8 x,.int .i8 y]⟩,.int .i64 n] C (ptV (dD a b h x y n)):=by
 have k:=xJ a;have l:=xJ b;have m:∀ z:Int, -8<z->z<8->-32<z*n/\z*n<32:=fun z h1 h2=>by
  rcases (by omega:n=1∨n=2∨n=3∨n=4) with e | e | e | e <;> subst e <;> omega
 have B:=m _ k.1 k.2;have D:=m _ l.1 l.2;have hh:dO h=1∨dO h=2:=by cases h <;> simp [dO]
 have E:0<dO h*n/\dO h*n<=8:=by rcases hh with e | e <;> rw [e] <;> omega
 refine S4 func116 53 U3 fun w0=>SX fun R d=>Tf U6 fun o=>Tf U6 fun p=>Te U5 fun q=>SY [2,3,4,6] d Z<|SR 1 [2,3,4,6,7] Z<|SS 1 Z fun R d=>S1 ac U9<|SY [2,3,4,6,7,13] d Z<|G.cut (fun fr F r s=>(True)/\fr=[(2,[],.int .i64 n),(3,[],.pointer (some ⟨o,0,none⟩)),(4,[],.pointer (some ⟨p,0,none⟩)),(6,[],.pointer (some ⟨q,0,none⟩)),(7,[],.int .i64 (dO h))]/\r=[.obj q (.cells ⟨[af [],af []]⟩ 34 (0,0)),.obj p (.cells ⟨[.int .i8 x,.int .i8 y]⟩ 23 (0,0)),.obj o (.cells ⟨[.int .u8 i,.int .i8 a,.int .i8 b,.bool h]⟩ 25 (0,0))]) ?_ (fun fr _ H s _ t=>?_)
 ·refine G.cd (fun f=>?_) fun f=>?_
  ·have h1:h=true:=f;subst h1;refine SR 1 [2,3,4,6,7] Z<|S9 0 (Mem.le.refl _) (hn_ [2,3,4,6,7] Z) ⟨trivial,Z,Z⟩
  have h1:h=false:=by simpa using f
  subst h1;refine S9 0 (Mem.le.refl _) (hn_ [2,3,4,6,7] Z) ⟨trivial,Z,Z⟩
 obtain ⟨_,rfl,rfl⟩:=t;refine SX fun R d=>Ti (0) U9 ah U2<|S1 ae U9<|Tz (c:=x) U8 (wrap_i64 om_ om_) fl_<|SV U6<|Ti (1) U9 ah U2<|S1 ac U9<|TU (a.tmod 8) U6 dc_ U3<|Tz (c:=a.tmod 8) U8 (wrap_i64 om_ om_) fl_<|SV U6<|S2 _ Z U6<|S2 _ Z U6<|SZ 2 Z<|S2 _ Z U6<|Tb (EF _ g.m_ (x+a.tmod 8*n) (dO h*n) om_ om_ om_) U7 fl_<|C6 5 [2,3,4,6,7,8] d Z<|SX fun R d=>Ti (1) U9 ah U2<|S1 ae U9<|Tz (c:=y) U8 (wrap_i64 om_ om_) fl_<|SV U6<|Ti (2) U9 ah U2<|S1 ac U9<|TU (b.tmod 8) U6 dc_ U3<|Tz (c:=b.tmod 8) U8 (wrap_i64 om_ om_) fl_<|SV U6<|S2 _ Z U6<|S2 _ Z U6<|SZ 2 Z<|S2 _ Z U6<|Tb (EF _ g.m_ (y+b.tmod 8*n) (dO h*n) om_ om_ om_) U7 fl_<|C6 5 [6,8,10] d Z<|SS 2 Z fun R d=>Td (fZ (dD a b h x y n)) U8<|S5 (j:=0) U12<|SY [6] d Z<|S7 (TE ag U4 ?_);exact ⟨Z,Z⟩
def gk (s p:Nat):Value:=.agg ⟨[.int .i64 (s:Nat),.int .i64 (p:Nat)]⟩
theorem iI (C:Mem)(s p:Nat)(h:s*p<=1000000000):Gives cx.P 149 [gk s p] C (.int .i64 ((s*p:Nat):Int)):=by
 exact S4 func149 8 U3 fun w0=>SX fun R a=>Tf U6 fun b=>C6 1 [1] a Z<|SS 1 Z fun R a=>S1 ag U9<|SV U6<|S1 ag U9<|S2 _ Z U6<|C6 1 [2] a Z<|S3 U2<|⟨Z,Z⟩
theorem NB (C:Mem)(s p:Nat)(i k:Int)(h:-1000000000000<=i*p/\i*p<=1000000000000)(b:-1000000000<=k/\k<=1000000000):Gives cx.P 240 [gk s p,.int .i64 i,.int .i64 k] C (.int .i64 (i*p+k)):=by
 exact S4 func240 13 U3 fun w0=>SX fun R a=>Tf U6 fun c=>C6 1 [1,2,3] a Z<|SS 2 Z fun R a=>S1 ag U9<|S2 _ Z U6<|SV U6<|S2 _ Z U6<|C6 1 [6] a Z<|S3 U2<|⟨Z,Z⟩
theorem AV {m:M6}{s:fq}:(dQ m (s.2,s.1)).isSome=!je (m.map (·.1)) s:=by
 unfold je nt;rw [Bool.not_not];cases h:dQ m (s.2,s.1) with
 | none=>rw [cA] at h;simp [h]
 | some v =>
  have:=Rm (f:=(·.1)) (fU h);simp only [Option.isSome_some];exact (PG this).symm
theorem IE (C:Mem)(v1 v2:Value)(b:Nat)(m:M6)(n:C b=some (aU pT m))(hn:(m.map (·.1)).Nodup)(O:∀ s∈m.map (·.1),0<=s.1)(aD:m.length<=1000000) :
  Pur cx.P 196 [.agg ⟨[v1,v2]⟩,.map (some b)] C fun u D=>∃ v,u=.tuple #[v,.bool (decide (wi (m.map (·.1))≠[]))]/\Sl D 1 v ((wi (m.map (·.1))).map pU):=by
 have aE:maxLen<=9223372036854775807:=by simp [maxLen]
 have Q:=fun s:fq=>AV (m:=m) (s:=s);obtain ⟨ks,J⟩:∃ ks,m.map (·.1)=ks:=⟨_,rfl⟩;rw [J] at hn O ⊢;simp only [J] at Q;have aj:ks.length=m.length:=by rw [<- J];simp
 refine S4 func196 93 U3 fun w0=>SX fun R c=>Tf U6 fun b2=>C6 2 [1] c Z<|SX fun R c=>D.makeMap keyZ Z Z Z Z fl_ fun l=>C6 1 [1,6] c Z<|SR 1 [1,6,7] Z<|SS 1 Z fun R c=>UK kI2.enc (Mem.get n mup) Z Z Z Z Z Z Z fl_ fun E=>SY [1,6,7,19] c Z<|TC 2 Z<|G.loop (fun fr C' o S=>∃ (seen:List Nat)(f:Int),(seen.Nodup/\(∀ j∈seen,j<ks.length)/\((fj ks seen).map (·.1)).Nodup/\lH (fj ks seen) f)/\fr=[(1,[],.map (some b)),(6,[],.map (some l)),(7,[],.int .i64 f),(19,[],.pointer (some ⟨E,0,none⟩))]/\o=[.obj E (bi b m.length seen),.obj l (aU keyZ.enc (tJ (fj ks seen)))]/\S=ks.length-seen.length) (hn_ [1,6,7,19] Z) ⟨[], -1,⟨List.nodup_nil,by simp,by simp [fj],.inl ⟨Z,Z⟩⟩,Z,Z,Z⟩ (fun fr aG aH m _ T=>?_);obtain ⟨seen,f,⟨al,an,K,L⟩,rfl,rfl,rfl⟩:=T;refine SX fun R c=>UM kI2.enc (q:=0) (Mem.get n mup) Z Z Z Z Z Z fl_ fun ao aI M ap=>C6 1 [1,6,7,19,21] c Z<|G.cd (fun F=>?_) fun F=>?_
 ·obtain ⟨aJ,j,hj,ay,rfl⟩:ao=true/\∃ j,j<m.length/\j ∉ seen/\M=seen++[j]:=by
   rcases ap with ⟨h1,_⟩ | h1
   ·rw [h1] at F;cases F
   exact h1
  rw [<- aj] at hj;obtain ⟨⟨s,bv⟩,hs⟩:∃ p,m[j]?=some p:=⟨m[j]'om_,ak om_⟩;have aq:ks[j]?=some s:=by rw [<- J,Pi,hs];rfl
  have H:(seen++[j]).Nodup:=by
   rw [QJ];exact ⟨al,by simp,fun a U b n e=>by rw [PE.1 n] at e;subst e;exact ay U⟩
  have z:∀ i∈seen++[j],i<ks.length:=fun i V=>by
   rcases Px.1 V with h | h
   ·exact an i h
   rw [PE.1 h];exact hj
  have aK:(seen++[j]).length<=ks.length:=by
   have:=List.Nodup.length_le_of_subset H (l₂:=List.range ks.length) (fun i V=>PC.2 (z i V));simpa using this
  have aM:(seen++[j]).length=seen.length+1:=by simp
  have d:=Cs aq (seen:=seen);have az:0<=s.1:=O s (Pe aq);refine SX fun R c=>UL kI2.enc (Mem.get n mup) hs ag Z Z Z Z Z Z Z<|SV U6<|Te U5 fun b8=>S5 (j:=0) U12<|SY [1,6,7,8,19] c Z<|SS 1 Z fun R c=>Ti (1) U9 ah U2<|S1 ag U9<|Ti (0) U9 ah U2<|S1 ag U9<|Td [.int .i64 s.2,.int .i64 s.1] U8<|UQ kI2 (fun _=>(Mem.get n mup)) Z Z Z Z Z Z Z Z Z (lD _ (dQ m (s.2,s.1))) Z Z<|C6 5 [1,6,7,8,10,19] c Z<|SR 1 [1,6,7,8,19,34] Z<|G.cd (fun W=>?_) fun W=>?_
  ·have X:je ks s=false:=by
    have h:(dQ m (s.2,s.1)).isSome=true:=W;rw [Q] at h;simpa using h
   rw [X] at d;simp only [P8,QD,PF] at d;refine TC 0 Z<|Tc (L':=[.obj E (bi b m.length (seen++[j])),.obj l (aU keyZ.enc (tJ (fj ks (seen++[j]))))]) (by rw [d];rfl)<|S6 (m':=ks.length-(seen++[j]).length) om_ mup (hn_ [1,6,7,19] Z) ⟨seen++[j],f,⟨H,z,by rw [d];exact K,by rw [d];exact L⟩,Z,Z,Z⟩
  have X:je ks s=true:=by
   have h:(dQ m (s.2,s.1)).isSome=false:=W;rw [Q] at h;simpa using h
  rw [X] at d;simp only [Ra] at d;refine SS 1 Z fun R c=>Ti (0) U9 ah U2<|S1 ag U9<|Uk keyZ ac Z Z Z Z Z Z Z Z kr_ Z (lD _ (dQ (tJ (fj ks seen)) s.1)) Z Z<|C6 5 [1,6,7,8,12,19] c Z<|SR 1 [1,6,7,8,19,42] Z<|G.cd (fun Y=>?_) fun Y=>?_
  ·have x:(dQ (tJ (fj ks seen)) s.1).isSome=true:=Y;rw [gR] at x;have aa:DL ks=none:=by
    cases k:dQ (fj ks seen) s.1 with
    | none=>rw [k] at x;cases x
    | some q=>exact CJ (B:=fj ks seen) (s:=s) (t:=(s.1,q)) (by rw [<- d];exact yc hn H z) (by rw [<- d];exact Ew z) (fU k) rfl
   have I:wi ks=[]:=by unfold wi;rw [aa];rfl
   refine SR 2 [4,5] Z<|S7 (G.dropAll (Tp U3 ?_));exact ⟨Z,.slice none 0 0,by rw [I];rfl,by rw [I];exact Sl.nil _ _⟩
  have x:(dQ (tJ (fj ks seen)) s.1).isSome=false:=Y;have ab:dQ (fj ks seen) s.1=none:=by
   rw [gR] at x;cases k:dQ (fj ks seen) s.1 with
   | none=>rfl
   | some q=>rw [k] at x;cases x
  have ar:((fj ks (seen++[j])).map (·.1)).Nodup:=by
   rw [d,PM,QJ];refine ⟨K,by simp,fun a U b n e=>?_⟩;rw [List.map_singleton,PE] at n;subst n;subst e;exact (cA.1 ab) U
  have N:=pF L s az;refine SS 1 Z fun R c=>Ti (0) U9 ah U2<|S1 ag U9<|Ti (1) U9 ah U2<|S1 ag U9<|D.mapUpdate keyZ (j:=2) Z Z Z Z Z Z Z Z Z Z kr_<|SY [1,6,7,8,19] c Z<|SS 3 Z fun R c=>Ti (0) U9 ah U2<|S1 ae U9<|SZ 2 Z<|Tt U8<|SY [1,6,7,8,19,55] c Z<|G.cd (fun ad=>?_) fun ad=>?_
  ·have af:f<0∨s.1<f:=by simpa using ad
   rw [aL af] at N;refine SX fun R c=>Ti (0) U9 ah U2<|S1 ae U9<|C6 1 [1,6,7,19] c Z<|TC 1 Z<|G.perm (L':=[.obj E (bi b m.length (seen++[j])),.obj l (aU keyZ.enc (tJ (fj ks (seen++[j]))))]) (by
    rw [d,<- AX ab];exact List.Perm.swap _ _ _) ?_
   refine S6 (m':=ks.length-(seen++[j]).length) om_ mup (hn_ [1,6,7,19] Z) ⟨seen++[j],s.1,⟨H,z,ar,by rw [d];exact N⟩,Z,Z,Z⟩
  have af:¬ (f<0∨s.1<f):=by simpa using ad
  rw [aF af] at N;refine TC 1 Z<|G.perm (L':=[.obj E (bi b m.length (seen++[j])),.obj l (aU keyZ.enc (tJ (fj ks (seen++[j]))))]) (by
   rw [d,<- AX ab];exact List.Perm.swap _ _ _) ?_
  refine S6 (m':=ks.length-(seen++[j]).length) om_ mup (hn_ [1,6,7,19] Z) ⟨seen++[j],f,⟨H,z,ar,by rw [d];exact N⟩,Z,Z,Z⟩
 obtain ⟨aN,rfl,au⟩:ao=false/\M=seen/\∀ j,j<m.length->j∈seen:=by
  rcases ap with h1 | ⟨h1,_⟩
  ·exact h1
  rw [h1] at F;cases F
 rw [<- aj] at au;have hp:(fj ks M).Perm (ks.filter (je ks)):=(oM al an au).filter _;obtain ⟨B,d⟩:∃ B,fj ks M=B:=⟨_,rfl⟩;rw [d] at hp K L;have hO:=IF hp K O L;have aO:B.length<=ks.length:=by rw [hp.length_eq];exact QQ _ _
 refine SR 1 [6,7,13] Z<|SR 2 [6,7,13,14] Z<|TC 0 Z<|G.nilArr 3 1<|Tc (L':=[.arr (.slice none 0 0) 3 1 0 [],.obj l (aU keyZ.enc (tJ B))]) (by rw [d];rfl)<|G.loop (fun fr C' o S=>∃ (out:List Int)(w:Value)(p:Int),(out.length<=B.length/\iy B f (B.length-out.length) p out=DL ks)/\fr=[(6,[],.map (some l)),(7,[],.int .i64 f),(13,[],w),(14,[],.int .i64 p)]/\o=[.arr w 3 1 out.length (out.map (Value.int .i64)),.obj l (aU keyZ.enc (tJ B))]/\S=B.length-out.length) (hn_ [6,7,13,14] Z) ⟨[],_,f,⟨Pm _,hO.symm⟩,Z,Z,Z⟩ (fun fr aP aQ m _ T=>?_);obtain ⟨out,w,p,⟨aR,A⟩,rfl,rfl,rfl⟩:=T;refine VI ag (fun Aw cw hw aS aT aV=>?_);subst hw;refine Tk [(3,1)] Z fun R c=>SZ 3 Z<|UV keyZ.enc ae Z Z Z Z Z Z Z Z Z<|C6 1 [6,7,13,14,63] c Z<|G.cd (fun ai=>?_) fun ai=>?_
 ·have aW:out.length<B.length:=by
   simp only [Pp,AY] at ai;omega
  obtain ⟨r,hr⟩:∃ r,B.length-out.length=r+1:=⟨B.length-out.length-1,by omega⟩;rw [hr] at A;refine SS 2 Z fun R c=>Uk keyZ ae Z Z Z Z Z Z Z Z kr_ Z (lD _ (dQ (tJ B) p)) Z Z<|C6 5 [6,7,13,14,16] c Z<|SS 10 Z fun R c=>Tl U8<|Tt U8<|SY [6,7,13,14,84] c Z<|G.cd (fun g=>?_) fun g=>?_
  ·have aa:DL ks=none:=by
    rw [<- A];refine B8 ?_;rw [gR] at g;cases k:dQ B p with
    | none=>exact .inl rfl
    | some q =>
     rw [k] at g;simp only [QM,Option.isSome_some,Bool.not_true,Bool.false_or,Pu,QO,Pp] at g;exact .inr ⟨g.1,fun e=>by rw [e] at g;simp at g⟩
   have I:wi ks=[]:=by unfold wi;rw [aa];rfl
   refine SR 2 [4,5] Z<|S7 (G.dropAll (Tp U3 ?_));exact ⟨Z,.slice none 0 0,by rw [I];rfl,by rw [I];exact Sl.nil _ _⟩
  obtain ⟨q,k⟩:∃ q,dQ B p=some q:=by
   rw [gR] at g;cases k:dQ B p with
   | some q=>exact ⟨q,rfl⟩
   | none=>rw [k] at g;simp at g
  have aA:¬ (p=f/\out≠[]):=by
   rintro ⟨e1,e2⟩;rw [gR,k] at g;have:=P4.2 e2;simp [e1] at g;exact e2 g
  rw [B7 k aA] at A;have aX:(out++[p]).length=out.length+1:=by simp
  refine SS 2 Z fun R c=>Th [pU p] U12 fun aZ _ _ aB=>D.append (j:=0) U11 aB Z aw (by simp only [aY];omega) fl_ fun av=>C6 1 [6,7,13,14] c Z<|SS 2 Z fun R c=>Uk keyZ ae Z Z Z Z Z Z Z Z kr_ Z (by rw [gR,k];rfl:lE _ false (dQ (tJ B) p)=.int .i64 q) Z Z<|C6 1 [6,7,13,14] c Z<|Tc (L':=[.arr av 3 1 (out++[p]).length ((out++[p]).map (Value.int .i64)),.obj l (aU keyZ.enc (tJ B))]) (by simp [pU])<|S6 (m':=B.length-(out++[p]).length) om_ mup (hn_ [6,7,13,14] Z) ⟨out++[p],av,q,⟨by omega,by rw [show B.length-(out++[p]).length=r by omega];exact A⟩,Z,Z,Z⟩
 have a0:B.length<=out.length:=by
  simp only [PP,AY] at ai;omega
 have ax:wi ks=out:=by
  rw [show B.length-out.length=0 by omega] at A;unfold wi;rw [<- A];rfl
 refine SR 6 [4,5] Z<|Tc (L':=[.arr (.slice Aw out.length cw) 3 1 out.length (out.map pU).flatten,.obj l (aU keyZ.enc (tJ B))]) (by rw [show (out.map pU).flatten=out.map (Value.int .i64) from ek _ _])<|G.freezeArr 0 (out.map pU) U2 (by intro r hr;obtain ⟨y,_,rfl⟩:=Pn.1 hr;rfl) am fun Cg hg aC=>S7 (G.dropAll (Tp U3 ?_));refine ⟨Z,_, ?_,by rw [ax];exact aC⟩;rw [ax];have:decide ((out.length:Int) > 0)=decide (out≠[]):=by
  rw [Qb,<- P4];omega
 rw [<- this]
def qV (pts:List Pt)(cyc:List Nat)(i:Nat):Pt:=pts.getD (cyc.getD (i % cyc.length) 0) (0,0)
def upB (p q:Pt):Bool:=decide (p.2<q.2) || (decide (p.2=q.2) && decide (p.1<q.1))
def Jc (pts:List Pt)(cyc:List Nat)(i:Nat):Bool:=!upB (qV pts cyc i) (qV pts cyc (i+1)) && upB (qV pts cyc (i+1)) (qV pts cyc (i+1+1))
def wx (pts:List Pt)(cyc:List Nat)(i:Nat):Bool:=decide (0<=dH (qV pts cyc i) (qV pts cyc (i+1)) (qV pts cyc (i+2)))
def II (pts:List Pt)(cyc:List Nat):Bool:=(List.range cyc.length).all (wx pts cyc) && decide (((List.range cyc.length).filter (Jc pts cyc)).length=1)
structure OnceC (C:Mem)(b2 b3 b5:Nat)(pts:List Pt)(cyc:List Nat):Prop where
 ex:∃ v1 v2,C b2=some (.cells ⟨[v1,v2]⟩ 39 (0,0))/\Sl C 2 v1 (pts.map fZ)
 ey:∃ cv,C b3=some (.cells ⟨[cv]⟩ 57 (0,0))/\Sl C 1 cv (cyc.map aT)
 ez:C b5=some (.cells ⟨[.int .i64 (cyc.length:Nat)]⟩ 3 (0,0))
 ne:0<cyc.length
 ins:∀ z∈cyc,z<pts.length
 q:∀ p∈pts,QP 1 p
theorem OnceC.mono {C D:Mem}{b c d:Nat}{e:List Pt}{f:List Nat}(h:OnceC C b c d e f)(a:C.le D):OnceC D b c d e f:=by
 obtain ⟨g,i,h1,h2⟩:=h.ex;obtain ⟨j,h3,h4⟩:=h.ey;exact ⟨⟨g,i,a _ _ h1,h2.mono a⟩,⟨j,a _ _ h3,h4.mono a⟩,a _ _ h.ez,h.ne,h.ins,h.q⟩
theorem OnceC.m_ {D:Mem}{a b c:Nat}{d:List Pt}(h:OnceC C a b c d cyc)(e:C.le D:=by exact mup):OnceC D a b c d cyc:=OnceC.mono h e
theorem KE {a:List Pt}(h:0<cyc.length)(c:∀ z∈cyc,z<a.length)(i:Nat):∃ z,cyc[i % cyc.length]?=some z/\a[z]?=some (qV a cyc i):=by
 have b:=PY i h;refine ⟨cyc[i % cyc.length],ak b, ?_⟩;have d:=c _ (Qa b);simp [qV,ak b,ak d]
theorem KD {a:List Pt}(h:0<cyc.length)(b:∀ z∈cyc,z<a.length)(c:∀ p∈a,QP 1 p)(i:Nat):QP 1 (qV a cyc i):=by
 obtain ⟨z,_,h2⟩:=KE h b i;exact c _ (Pe h2)
theorem oY (C:Mem)(e f c:Nat)(b:List Pt)(a:List Nat)(h:OnceC C e f c b a)(i:Nat) :
  Gives cx.P 258 [.int .i64 i,.pointer (some ⟨e,0,none⟩),.pointer (some ⟨f,0,none⟩),.pointer (some ⟨c,0,none⟩)] C (ptV (qV b a i)):=by
 obtain ⟨q,r,g,h1⟩:=h.ex;obtain ⟨s,k,h3⟩:=h.ey;have l:=h.ez;have t:=h.ne;obtain ⟨z,m,n⟩:=KE h.ne h.ins i;obtain ⟨u,v,rfl,w,x,_⟩:=id h1;obtain ⟨y,A,rfl,B,D,_⟩:=id h3;simp only [al] at h1 h3 g k;refine S4 func258 16 U3 fun w0=>SX fun R d=>Te U5 fun c=>SY [0,1,2,3,5] d Z<|Tg [0,1,2,3,4,5,6,7,8,9,10] [] Z kr_ fun R E d=>SV U6<|SU (PtrTo.block (Mem.get g mup) _) U8<|SU (PtrTo.block (Mem.get k mup) _) U8<|SV U6<|SU (PtrTo.block (Mem.get l mup) _) U8<|TM (i) (a.length) U6 om_ U2<|Ta h3.m_ U10 om_ (by rw [Pi,show ((i % a.length:Nat):Int).toNat=i % a.length from Z,m];rfl:(a.map aT)[((i % a.length:Nat):Int).toNat]?=some (aT z)) fl_ fun F o=>SU o U8<|Ta h1.m_ U10 om_ (by rw [Pi,show ((z:Nat):Int).toNat=z from Z,n];rfl:(b.map fZ)[((z:Nat):Int).toNat]?=some (fZ (qV b a i))) fl_ fun G p=>SU p U8<|S5 (j:=0) U12<|SY [5] d Z<|S7 (TE ag U4 ?_);exact ⟨Z,Z⟩
def fn1V (b2 b3 b5:Nat):Value:=.func (.func 258) #[] #[.pointer (some ⟨b2,0,none⟩),.pointer (some ⟨b3,0,none⟩),.pointer (some ⟨b5,0,none⟩)]
theorem GV (a b:Rat):decide (sn a b > 0)=decide (b<a):=by
 unfold sn;by_cases h1:a<b
 ·have:¬ b<a:=by grind
  simp [h1,this]
 by_cases h2:b<a <;> simp [h1,h2]
theorem MK (a b:Rat):(sn a b == 0)=decide (b=a):=by
 unfold sn;by_cases h1:a<b
 ·have:¬ b=a:=by grind
  simp [h1,this]
 by_cases h2:b<a
 ·have:¬ b=a:=by grind
  simp [h1,h2,this]
 have:b=a:=by grind
 subst this;simp [h1]
theorem J2 (C:Mem)(k:Tabs C)(c d e l:Nat)(a:List Pt)(b:List Nat)(h:OnceC C c d e a b)(f:C l=some (.cells ⟨[fn1V c d e]⟩ 352 (0,0)))(i:Nat)(n:i<=1000000) :
  Gives cx.P 259 [.int .i64 i,.pointer (some ⟨l,0,none⟩)] C (.bool (upB (qV a b i) (qV a b (i+1)))):=by
 have g:=fun i=>KD h.ne h.ins h.q i;unfold fn1V at f;refine S4 func259 34 U3 fun w0=>SR 1 [0,1] Z<|Tg [0,1,2,3,4,5,6,7,8,9,10] [(3,1),(7,1),(9,1)] Z kr_ fun R m j=>SU (PtrTo.block (Mem.get f mup) _) U8<|SV U6<|S2 _ Z U6<|Tu (fun _=>(oY _ c d e a b h.m_ (i+1))) U9<|Ue U12<|SU (PtrTo.block (Mem.get f mup) _) U8<|SV U6<|Tu (fun _=>(oY _ c d e a b h.m_ i)) U9<|Ue U12<|Tj (fun _=>(gH _ k.m_ (qV a b (i+1)).2 (qV a b i).2 1 dc_ dc_ (g (i+1)).2 (g i).2)) U9<|C6 1 [0,1,4] j Z<|Tg [0,1,2,3,4,5,6,7,8,9,10,11,12,13,14,15,16,17,18,19] [] Z kr_ fun R m j=>SZ 6 Z<|Tn U6 (fun _=>PtrTo.block (Mem.get f mup) _) U3<|SV U6<|S2 _ Z U6<|Tu (fun _=>(oY _ c d e a b h.m_ (i+1))) U9<|Ue U12<|Tn U6 (fun _=>PtrTo.block (Mem.get f mup) _) U3<|SV U6<|Tu (fun _=>(oY _ c d e a b h.m_ i)) U9<|Ue U12<|Tj (fun _=>(gH _ k.m_ (qV a b (i+1)).1 (qV a b i).1 1 dc_ dc_ (g (i+1)).1 (g i).1)) U9<|SV U6<|Tl U8<|Tt U8<|C6 1 [3] j Z<|S3 U2<|⟨?_,Z⟩;rw [GV,MK,GV];rfl
theorem Ep (q:Rat):decide (eK q.num<0)=!decide (0<=q):=by
 rw [<- decide_not,Qb,<- Rat.num_nonneg];rcases eh q.num with h | h | h <;> omega
theorem LS (C:Mem)(r:Tabs C)(s B D:Value)(b:List Pt)(a:List Nat)(I:Sl C 2 s (b.map fZ))(t:Sl C 1 D (a.map aT))(J:0<a.length)(K:∀ z∈a,z<b.length)(L:∀ p∈b,QP 1 p)(W:a.length<=100000) :
  Gives cx.P 197 [.agg ⟨[s,B]⟩,D] C (.bool (II b a)):=by
 obtain ⟨X,Y,rfl,aa,ab,_⟩:=id t;simp only [al] at t ⊢;refine S4 func197 46 U3 fun w0=>SX fun R c=>Tf U6 fun e=>Tf U6 fun f=>C6 1 [2,3] c Z<|SX fun R c=>S1 ag U9<|SV U6<|Te U5 fun g=>S5 (j:=0) U12<|SY [2,3,5] c Z<|SS 1 Z fun R c=>Te U5 fun o=>S5 (j:=0) U12<|SY [5,6] c Z<|G.freeze 0 Z fun _ _ h=>G.freeze 0 Z fun _ _ E=>G.freeze 0 Z fun _ _ M=>G.freeze 0 Z (fun N _ O=>?_);have d:OnceC N e f g b a:=⟨⟨s,B,O,I.mono mup⟩,⟨_,Mem.get M mup,t.mono mup⟩,Mem.get E mup,J,K,L⟩;have u:=fun i=>KD d.ne d.ins d.q i;refine SR 2 [5,6,7] Z<|SR 1 [5,6,7,8] Z<|SX fun R c=>SU (PtrTo.block (Mem.get E mup) _) U8<|C6 1 [6,7,8,14,15] c Z<|G.loop (fun fr C' Q S=>∃ (i k:Nat),(i<=a.length/\(List.range i).all (wx b a)=true/\((List.range i).filter (Jc b a)).length=k)/\fr=[(6,[],.pointer (some ⟨o,0,none⟩)),(7,[],.func (.func 259) #[] #[.pointer (some ⟨o,0,none⟩)]),(8,[],.int .i64 k),(14,[],.int .i64 a.length),(15,[],.int .i64 i)]/\Q=[]/\S=a.length-i) (hn_ [6,7,8,14,15] Z) ⟨0,0,⟨Pm _,Z,Z⟩,Z,Z,Z⟩ (fun fr ac ad m F T=>?_);obtain ⟨i,k,⟨hi,v,l⟩,rfl,rfl,rfl⟩:=T;refine SR 1 [6,7,8,14,15,16] Z<|G.cd (fun w=>?_) fun w=>?_
 ·have x:i<a.length:=by simpa using w
  have ae:k<=i:=by
   rw [<- l];exact Py (QQ _ _) am
  refine SR 2 [6,7,8,9,14,15] Z<|Tg [0,1,2,3,4,5,6,7,8,9,10,11,12] [(2,1),(6,1),(10,1),(11,1)] Z kr_ fun R hB c=>SU (PtrTo.block (Mem.get h mup) _) U8<|SV U6<|Tu (fun _=>(oY _ e f g b a d.m_ i)) U9<|SU (PtrTo.block (Mem.get h mup) _) U8<|SV U6<|S2 _ Z U6<|Tu (fun _=>(oY _ e f g b a d.m_ (i+1))) U9<|SU (PtrTo.block (Mem.get h mup) _) U8<|SV U6<|S2 _ Z U6<|Tu (fun _=>(oY _ e f g b a d.m_ (i+2))) U9<|Tj (fun _=>(ox _ r.m_ (qV b a i) (qV b a (i+1)) (qV b a (i+2)) 1 dc_ dc_ (u i) (u (i+1)) (u (i+2)))) U9<|C6 1 [6,7,8,9,14,15,30] c Z<|G.cd (fun n=>?_) fun n=>?_
  ·have U:wx b a i=false:=by
    rw [Ep] at n;simpa [wx] using n
   refine SR 1 [4] Z<|S3 U2<|⟨?_,Z⟩;have:(List.range a.length).all (wx b a)=false:=RK.2 ⟨i,PC.2 x,by rw [U];decide⟩;unfold II;rw [this];rfl
  have V:wx b a i=true:=by
   rw [Ep] at n;simpa [wx] using n
  have H:(List.range (i+1)).all (wx b a)=true:=by rw [Qp,SF,v];simp [V]
  refine SS 2 Z fun R c=>Tb (J2 _ r.m_ e f g o b a d.m_ (Mem.get h mup) i om_) U7 fl_<|SZ 4 Z<|S2 _ Z U6<|Tj (fun _=>(J2 _ r.m_ e f g o b a d.m_ (Mem.get h mup) (i+1) om_)) U9<|Tl U8<|SY [6,7,8,14,15,40] c Z<|G.cd (fun y=>?_) fun y=>?_
  ·have A:Jc b a i=true:=y;refine SS 1 Z fun R c=>S2 _ Z U6<|C6 1 [6,7,8,14,15] c Z<|SX fun R c=>S2 _ Z U6<|C6 1 [6,7,8,14,15] c Z<|S6 (m':=a.length-(i+1)) om_ F (hn_ [6,7,8,14,15] Z) ⟨i+1,k+1,⟨by omega,H,by rw [Qp,QK,Po,l];simp [A]⟩,Z,Z,Z⟩
  have A:Jc b a i=false:=y;refine SX fun R c=>S2 _ Z U6<|C6 1 [6,7,8,14,15] c Z<|S6 (m':=a.length-(i+1)) om_ F (hn_ [6,7,8,14,15] Z) ⟨i+1,k,⟨by omega,H,by rw [Qp,QK,Po,l];simp [A]⟩,Z,Z,Z⟩
 have x:i=a.length:=by
  have:¬ i<a.length:=by simpa using w
  omega
 refine SR 3 [4] Z<|S3 U2<|⟨?_,Z⟩;rw [x] at v l;unfold II;rw [v,l,So];congr 1;rw [SD,Pp];simp;omega
/-! The sides of triangles, in order. -/
def oK (t:Tri):List fq:=[nu t 0,nu t 1,nu t 2]
def bO (tris:List Tri):List fq:=tris.flatMap oK
theorem Aa (t:Tri)(a:k<3):(oK t)[k]?=some (nu t k):=by
 rcases (by omega:k=0∨k=1∨k=2) with rfl | rfl | rfl <;> rfl
theorem pi (m:M6)(i:Nat)(t:Tri):∀ k,k<=3->(m.map (·.1)++(oK t).take k).Nodup->(DK m i t k).map (·.1)=m.map (·.1)++(oK t).take k
 | 0,_,_=>by simp [DK]
 | k+1,e,a=>by
  have h3:=Aa t (show k<3 by omega);rw [PN,h3,QF,<- PR] at a ⊢;have b:=(QJ.1 a);have c:=pi m i t k om_ b.1;have d:dQ (DK m i t k) (nu t k)=none:=by
   rw [cA,c];intro h;exact b.2.2 _ h _ am Z
  rw [DK,jD d,PM,c];rfl
theorem oI {a:List Tri}{t:Tri}(h:a[n]?=some t):bO (a.take (n+1))=bO (a.take n)++oK t:=by
 unfold bO;rw [PN,h,List.flatMap_append];simp
theorem rj {a:List Tri}(h:(bO a).Nodup)(n:Nat):(bO (a.take n)).Nodup:=by
 have:bO a=bO (a.take n)++bO (a.drop n):=by
  unfold bO;rw [<- List.flatMap_append,P9]
 rw [this] at h;exact (QJ.1 h).1
theorem fE {a:List Tri}(h:(bO a).Nodup):∀ n,n<=a.length->(wh a n).map (·.1)=bO (a.take n)
 | 0,_=>by simp [wh,bO]
 | n+1,d=>by
  have b:a[n]?=some a[n]:=ak om_;have h1:=rj h (n+1);rw [oI b] at h1 ⊢;have c:=fE h n om_;rw [wh,ax,b];show (DK (wh a n) n a[n] 3).map (·.1)=_;rw [pi _ _ _ 3 (Pf _) (by rw [c];exact h1),c];rfl
theorem rE {a:List Tri}(h:(bO a).Nodup)(i:Nat)(t:Tri)(k:Nat)(b:a[i]?=some t)(d:k<3):dQ (DK (wh a i) i t k) (nu t k)=none:=by
 have e:=(aJ.1 b).1;have h1:=rj h (i+1);rw [oI b] at h1;have c:=fE h i om_;have h3:=Aa t d;have h2:(bO (a.take i)++(oK t).take (k+1)).Nodup:=by
  refine List.Nodup.sublist (List.Sublist.append (List.Sublist.refl _) (List.take_sublist _ _)) h1
 rw [PN,h3,QF,<- PR] at h2;have h4:=QJ.1 h2;rw [cA,pi _ _ _ k om_ (by rw [c];exact h4.1),c];intro h5;exact h4.2.2 _ h5 _ am Z
theorem ve {B:List fq}{d:Int}:∀ (k:Nat)(p:Int)(out r:List Int),iy B d k p out=some r->(∀ z∈out,z∈B.map (·.1))->∀ z∈r,z∈B.map (·.1)
 | 0,p,out,r,h,b=>by simp only [iy,PW] at h;subst h;exact b
 | k+1,p,out,r,h,b=>by
  simp only [iy] at h;cases c:dQ B p with
  | none=>rw [c] at h;cases h
  | some q =>
   rw [c] at h;simp only at h;split at h
   ·cases h
   refine ve k q _ r h (fun z a=>?_);rcases Px.1 a with a | a
   ·exact b z a
   rw [PE.1 a];exact Rm (f:=(·.1)) (fU c)
theorem vf {B:List fq}{b:Int}:∀ (k:Nat)(p:Int)(out r:List Int),iy B b k p out=some r->r.length=out.length+k
 | 0,p,out,r,h=>by simp only [iy,PW] at h;subst h;rfl
 | k+1,p,out,r,h=>by
  simp only [iy] at h;cases a:dQ B p with
  | none=>rw [a] at h;cases h
  | some q =>
   rw [a] at h;simp only at h;split at h
   ·cases h
   have:=vf k q _ r h;simp at this;omega
theorem AU {c:List fq}:∀ z∈wi c,z∈c.map (·.1):=by
 intro z a;unfold wi at a;cases b:DL c with
 | none=>rw [b] at a;simp at a
 | some r =>
  rw [b] at a;simp only [Qx] at a;unfold DL at b;split at b
  ·have:=ve _ _ _ _ b am z a;obtain ⟨s,hs,rfl⟩:=Pn.1 this;exact Rm (f:=(·.1)) (QG.1 hs).1
  cases b
theorem IG (a:List fq):(wi a).length<=a.length:=by
 unfold wi;cases b:DL a with
 | none=>simp
 | some r =>
  unfold DL at b;split at b
  ·have:=vf _ _ _ _ b;have h2:=QQ (je a) a;simp at this ⊢;omega
  cases b
def mR (n:Nat)(t:Tri):Prop:=t.1<n/\t.2.1<n/\t.2.2<n
theorem H2 {t:Tri}(h:mR n t):∀ s∈oK t,0<=s.1/\s.1.toNat<n:=by
 obtain ⟨h1,h2,h3⟩:=h;intro s hs;simp only [oK,Ps,Qh,Rz] at hs;rcases hs with rfl | rfl | rfl <;> simp [nu,DJ] <;> omega
theorem oJ {a:List Tri}(h:∀ t∈a,mR n t):∀ s∈bO a,0<=s.1/\s.1.toNat<n:=by
 intro s hs;obtain ⟨t,b,hs⟩:=List.mem_flatMap.1 hs;exact H2 (h t b) s hs
theorem mr (a:List Tri):(bO a).length=3*a.length:=by
 induction a with
 | nil=>rfl
 | cons t l b =>
  have:bO (t::l)=oK t++bO l:=rfl;rw [this,Po,b];simp [oK];omega
def fK (tris:List Tri):List Nat:=(wi (bO tris)).map Int.toNat
theorem Dt {a:List Tri}(h:∀ t∈a,mR n t):∀ z∈fK a,z<n:=by
 intro z b;obtain ⟨y,hy,rfl⟩:=Pn.1 b;obtain ⟨s,hs,rfl⟩:=Pn.1 (AU y hy);exact (oJ h s hs).2
theorem yZ {a:List Tri}(h:∀ t∈a,mR n t):(wi (bO a)).map pU=(fK a).map aT:=by
 unfold fK;rw [Qe];refine List.map_congr_left (fun y hy=>?_);obtain ⟨s,hs,rfl⟩:=Pn.1 (AU y hy);have:=(oJ h s hs).1;show pU s.1=aT s.1.toNat;unfold pU aT;rw [Int.toNat_of_nonneg this]
/-! Sets of ints as maps. -/
def Hu (ks:List Int):List (Int × Value):=ks.map fun z=>(z,.bool true)
def Oh (ks:List Int)(z:Int):List Int:=if z∈ks then ks else ks++[z]
theorem H8 (a:List Int):(Hu a).length=a.length:=by simp [Hu]
theorem wq:∀ {ks:List Int}{z:Int},iv (Hu ks) z (.bool true)=Hu (Oh ks z)
 | [],z=>by simp [Hu,iv,Oh]
 | k::ks,z=>by
  have a:=wq (ks:=ks) (z:=z);unfold Hu at a ⊢;simp only [PU,iv];by_cases e:k=z
  ·subst e;simp [Oh]
  have b:¬ z=k:=fun h=>e h.symm;rw [aF e,a];unfold Oh;by_cases h:z∈ks
  ·simp [h]
  simp [h,b]
def KY (ks:List Int)(t:Tri):Nat->List Int
 | 0=>ks
 | k+1=>Oh (KY ks t k) (DJ t k)
def vj (tris:List Tri):Nat->List Int
 | 0=>[]
 | n+1=>KY (vj tris n) (tris.getD n (0,0,0)) 3
theorem pR (t:Tri)(a:k<3):(ic t)[k]?=some (.int .i64 (DJ t k)):=by
 rcases (by omega:k=0∨k=1∨k=2) with rfl | rfl | rfl <;> rfl
theorem Dr {a:List Tri}(h:decide (wi (bO a)≠[])=true):0<(fK a).length:=by
 unfold fK;rw [al];exact P4.2 (OD h)
theorem G8 (a:List Tri):decide (wi (bO a)≠[])=decide (fK a≠[]):=by
 rw [Qb];unfold fK;simp
def mV (pts:List Pt)(tris:List Tri):Bool:=decide (fK tris≠[]) && (decide ((vj tris tris.length).length=pts.length) && II pts (fK tris))
theorem sQ (C:Mem)(J:Tabs C)(x y:Value)(c:List Pt)(a:List Tri)(K:a≠[])(k:Sl C 2 x (c.map fZ))(g:Sl C 3 y (a.map ic))(d:(bO a).Nodup)(l:∀ t∈a,mR c.length t)(L:∀ p∈c,QP 1 p)(z:a.length<=10000) :
  Gives cx.P 130 [.agg ⟨[x,y]⟩] C (.bool (mV c a)):=by
 obtain ⟨V,W,rfl,M,X,_⟩:=id k;obtain ⟨A2,c2,rfl,N,Y,_⟩:=id g;have aa:maxLen<=9223372036854775807:=by simp [maxLen]
 simp only [al] at k g M N ⊢;refine S4 func130 55 U3 fun w0=>SX fun R b=>Tf U6 fun A=>C6 1 [1] b Z<|G.freeze 0 Z fun _ B e=>SX fun R b=>SU (PtrTo.block (Mem.get e mup) _) U8<|Tv (wg _ _ _ a K g.m_ (rE d)) U7 (fun ab _ _ O=>?_);obtain ⟨n,rfl,Q⟩:=O;refine C6 5 [1,3,4] b Z<|SR 2 [1,3,18] Z<|G.cd (fun E=>?_) fun E=>?_
 ·exact absurd E dc_
 refine SX fun R b=>D.makeMap keyZ Z Z Z Z fl_ fun f=>C6 1 [1,3,5] b Z<|SS 1 Z fun R b=>SU (PtrTo.block (Mem.get e mup) _) U8<|C6 2 [1,3,5,21,22,23] b Z<|G.loop (fun fr S h o=>∃ (i:Nat),(i<=a.length)/\fr=[(1,[],.pointer (some ⟨A,0,none⟩)),(3,[],.map (some n)),(5,[],.map (some f)),(21,[],.slice A2 a.length c2),(22,[],.int .i64 a.length),(23,[],.int .i64 i)]/\h=[.obj f (aU keyZ.enc (Hu (vj a i)))]/\o=a.length-i) (hn_ [1,3,5,21,22,23] Z) ⟨0,Pm _,Z,Z,Z⟩ (fun fr ac ad m _ q=>?_);obtain ⟨i,hi,rfl,rfl,rfl⟩:=q;refine SR 1 [1,3,5,21,22,23,24] Z<|G.cd (fun r=>?_) fun r=>?_
 ·have u:i<a.length:=by simpa using r
  obtain ⟨t,F⟩:∃ t,a[i]?=some t:=⟨a[i],ak u⟩;refine SX fun R b=>Ta g.m_ U10 om_ (by rw [Pi,F];rfl:(a.map ic)[i]?=some (ic t)) fl_ fun ae T=>SU T U8<|Te U5 fun b7=>S5 (j:=0) U12<|SY [1,3,5,7,21,22,23] b Z<|SX fun R b=>S1 ag U9<|C6 1 [1,3,5,21,22,23,27,28] b Z<|TC 0 Z<|G.loop (fun fr S h o=>∃ (j:Nat),(j<=3)/\fr=[(1,[],.pointer (some ⟨A,0,none⟩)),(3,[],.map (some n)),(5,[],.map (some f)),(21,[],.slice A2 a.length c2),(22,[],.int .i64 a.length),(23,[],.int .i64 i),(27,[],.agg ⟨ic t⟩),(28,[],.int .i64 j)]/\h=[.obj f (aU keyZ.enc (Hu (KY (vj a i) t j)))]/\o=3-j) (hn_ [1,3,5,21,22,23,27,28] Z) ⟨0,Pm _,Z,Z,Z⟩ (fun fr af ah m B q=>?_);obtain ⟨j,hj,rfl,rfl,rfl⟩:=q;refine SR 1 [1,3,5,21,22,23,27,28,29] Z<|G.cd (fun v=>?_) fun v=>?_
  ·have w:j<3:=by
    simp only [Pp] at v;omega
   refine SX fun R b=>TN U11 (fun _=>⟨by omega,by omega,pR t w⟩) U2<|C6 1 [1,3,5,9,21,22,23,27,28] b Z<|SS 2 Z fun R b=>D.mapUpdate keyZ (j:=0) Z Z Z Z Z Z Z Z Z Z kr_<|SY [1,3,5,21,22,23,27,28] b Z<|SX fun R b=>S2 _ Z U6<|C6 1 [1,3,5,21,22,23,27,28] b Z ?_;rw [wq];refine S6 (m':=3-(j+1)) om_ B (hn_ [1,3,5,21,22,23,27,28] Z) ⟨j+1,om_,Z,Z,Z⟩
  have w:j=3:=by
   simp only [PP] at v;omega
  subst w;refine SX fun R b=>S2 _ Z U6<|C6 1 [1,3,5,21,22,23] b Z<|Tc (L':=[.obj f (aU keyZ.enc (Hu (vj a (i+1))))]) (by rw [vj,ax,F];rfl)<|S6 (m':=a.length-(i+1)) om_ mup (hn_ [1,3,5,21,22,23] Z) ⟨i+1,om_,Z,Z,Z⟩
 have u:i=a.length:=by
  have:¬ i<a.length:=by simpa using r
  omega
 subst u;refine SX fun R b=>SU (PtrTo.block (Mem.get e mup) _) U8<|SV U6<|To (IE _ _ _ n (wh a a.length) (Mem.get Q mup) (by rw [fE d _ (Pf _),Pv];exact d) (by rw [fE d _ (Pf _),Pv];exact fun s hh=>(oJ l s hh).1) (by have:=congrArg List.length (fE d _ (Pf _));rw [Pv,mr,al] at this;omega)) U7 fl_ (fun ai _ _ H=>?_);rw [fE d _ (Pf _),Pv] at H;obtain ⟨bv,rfl,I⟩:=H;rw [yZ l] at I;refine C6 5 [1,5,10,11] b Z<|Tk [(3,1)] Z fun R b=>SZ 3 Z<|UV keyZ.enc ag Z Z Z Z Z Z Z Z Z<|SV U6<|Tn U6 (fun _=>PtrTo.block (Mem.get e mup) _) U3<|SZ 2 Z<|Tl U8<|SV U6<|Tn U6 (fun _=>PtrTo.block (Mem.get e mup) _) U3<|SV U6<|Tj (fun U=>(LS _ J.m_ _ _ bv c (fK a) k.m_ I.m_ (by exact Dr (SE.1 (show (decide (wi (bO a)≠[]) && _)=true/\True from U).1).1) (Dt l) L (by have:=IG (bO a);rw [mr] at this;unfold fK;rw [al];omega))) U9<|Tl U8<|C6 1 [2] b Z<|S3 U2<|⟨?_,Z⟩;have z:(((Hu (vj a a.length)).length:Int) == (c.length:Int))=decide ((vj a a.length).length=c.length):=by
  rw [H8,SD,QO,Pp];omega
 unfold mV;rw [<- G8,<- z,<- Bool.and_assoc]
noncomputable def kP2:KeyP cx.P 34 (Str × Str):=O0 rfl rfl rfl dc_ dc_ rfl rfl kr_
def ptK (p:Pt):Str × Str:=(qtx p.1,qtx p.2)
theorem LC {p q:Pt}(h:ptK p=ptK q):p=q:=by
 have h1:=li (congrArg (·.1) h);have h2:=li (congrArg (·.2) h);exact Prod.ext h1 h2
def IQ (l:List Pt):List ((Str × Str) × Value):=l.map fun p=>(ptK p,.bool true)
theorem Be {l:List Pt}{p:Pt}(h:p ∉ l):dQ (IQ l) (ptK p)=none:=by
 rw [cA];unfold IQ;rw [Qe];intro hm;obtain ⟨q,a,b⟩:=Pn.1 hm;exact h (LC b ▸ a)
theorem Md {l:List Pt}{p:Pt}(h:p ∉ l):iv (IQ l) (ptK p) (.bool true)=IQ (l++[p]):=by
 rw [jD (Be h)];simp [IQ]
def nU (n:Nat)(X:Nat->Nat->Bool):Bool:=(List.range n).any fun i=>(List.range i).any fun k=>X i k
def yo (pts:List Pt)(tris:List Tri)(X:Nat->Nat->Bool):Int:=if tris=[] then 13 else if mV pts tris then 0 else if nU tris.length X then 26 else 25
structure MeshOk (pts:List Pt)(tris:List Tri):Prop where
 q:∀ p∈pts,QP 1 p
 nd:pts.Nodup
 ins:∀ t∈tris,mR pts.length t
 pos:∀ t∈tris,0<dH (pts.getD t.1 (0,0)) (pts.getD t.2.1 (0,0)) (pts.getD t.2.2 (0,0))
 sides:(bO tris).Nodup
 lt:tris.length<=800
 lp:pts.length<=400
theorem oX {a:List Pt}(h:i<a.length):a[i]?=some (a.getD i (0,0)):=by
 rw [ax,ak h];rfl
theorem AJ {a:List Pt}(h:i<a.length):a.getD i (0,0)∈a:=Pe (oX h)
def gD (t:Tri)(j:Nat):Nat:=if j=0 then t.1 else if j=1 then t.2.1 else t.2.2
theorem zN (t:Tri)(j:Nat):DJ t j=(gD t j:Nat):=by
 unfold DJ gD;split
 ·rfl
 split <;> rfl
theorem eI {t:Tri}(h:mR n t)(j:Nat):gD t j<n:=by
 obtain ⟨h1,h2,h3⟩:=h;unfold gD;split
 ·exact h1
 split <;> assumption
theorem Nw (q:Rat):decide (eK q.num<=0)=!decide (0<q):=by
 have h1:=AG q;have h2:q.num=0 ↔ q=0:=Sd;rw [<- decide_not,Qb];have h3:¬ 0<q ↔ (q<0∨q=0):=by grind
 rw [h3,<- h1,<- h2];rcases eh q.num with h | h | h <;> omega
theorem Fz (C:Mem)(H:Tabs C)(I J:Value)(c:List Pt)(b:List Tri)(X:Nat->Nat->Bool)(r:Sl C 2 I (c.map fZ))(x:Sl C 3 J (b.map ic))(d:MeshOk c b)
  (V:b≠[]->mV c b=false->∀ D:Mem,C.le D->∀ i k:Nat,i<b.length->k<i->Gives cx.P 131 [.agg ⟨[I,J]⟩,.int .i64 i,.int .i64 k] D (.bool (X i k))) :
  Gives cx.P 65 [.agg ⟨[I,J]⟩] C (.int .i64 (yo c b X)):=by
 obtain ⟨A1,c1,rfl,ai,aA,_⟩:=id r;obtain ⟨A2,c2,rfl,aj,aB,_⟩:=id x;have aC:maxLen<=9223372036854775807:=by simp [maxLen]
 have aD:=d.lt;have aE:=d.lp;simp only [al] at r x ai aj V ⊢;refine S4 func65 105 U3 fun w0=>SX fun R a=>Tf U6 fun u=>C6 1 [1] a Z<|G.freeze 0 Z fun _ _ f=>SS 1 Z fun R a=>SU (PtrTo.block (Mem.get f mup) _) U8<|C6 3 [1,12] a Z<|G.cd (fun y=>?_) fun y=>?_
 ·have h0:b=[]:=by
   have h:((b.length:Nat):Int)=0:=by simpa using y
   exact P2 om_
  exact SR 1 [2] Z<|S3 U2<|⟨by unfold yo;rw [aL h0],Z⟩
 have h0:b≠[]:=by
  intro e;rw [e] at y;exact absurd y dc_
 refine SS 1 Z fun R a=>SU (PtrTo.block (Mem.get f mup) _) U8<|SZ 4 Z<|Tn U6 (fun _=>PtrTo.block (Mem.get f mup) _) U3<|SZ 2 Z<|Tt U8<|C6 1 [1,17] a Z<|G.cd (fun W=>?_) fun W=>?_
 ·exfalso;simp only [Q4,Pp] at W;omega
 refine SX fun R a=>UO kP2 Z Z Z Z fl_ fun K=>C6 1 [1,3] a Z<|SS 1 Z fun R a=>SU (PtrTo.block (Mem.get f mup) _) U8<|C6 2 [1,3,30,31,32] a Z<|G.loop (fun fr z g l=>∃ (i:Nat),(i<=c.length)/\fr=[(1,[],.pointer (some ⟨u,0,none⟩)),(3,[],.map (some K)),(30,[],.slice A1 c.length c1),(31,[],.int .i64 c.length),(32,[],.int .i64 i)]/\g=[.obj K (aU Dh (IQ (c.take i)))]/\l=c.length-i) (hn_ [1,3,30,31,32] Z) ⟨0,Pm _,Z,Z,Z⟩ (fun fr aG aH m _ n=>?_);obtain ⟨i,hi,rfl,rfl,rfl⟩:=n;refine SR 1 [1,3,30,31,32,33] Z<|G.cd (fun Y=>?_) fun Y=>?_
 ·have o:i<c.length:=by simpa using Y
  obtain ⟨p,A⟩:∃ p,c[i]?=some p:=⟨c[i],ak o⟩;have B:=d.q p (Pe A);have aa:p ∉ c.take i:=by
   intro hm;obtain ⟨j,v⟩:=Q6 hm;rw [P5] at v;split at v
   ·rename_i aI;have h3:=(aJ.1 v);have h4:=(aJ.1 A);have:=(List.getElem_inj d.nd).1 (h3.2.trans h4.2.symm);omega
   cases v
  have am:IQ (c.take (i+1))=IQ (c.take i++[p]):=by rw [PN,A];rfl
  refine SX fun R a=>Ta r.m_ U10 om_ (by rw [Pi,A];rfl:(c.map fZ)[i]?=some (fZ p)) fl_ fun aK an=>SU an U8<|Te U5 fun b5=>S5 (j:=0) U12<|SY [1,3,5,30,31,32] a Z<|SX fun R a=>S1 ag U9<|Tb (io _ H.m_ (qtx p.1) (qtx p.2) (by have:=bx B.1 dc_;omega) (by have:=bx B.2 dc_;omega)) U7 fl_<|C6 1 [1,3,5,30,31,32,38] a Z<|G.cd (fun L=>?_) fun L=>?_
  ·exfalso;rw [bC (B.1.le dc_),bC (B.2.le dc_)] at L;exact absurd L dc_
  refine SS 1 Z fun R a=>S1 ag U9<|UP kP2 ae Z Z Z Z Z Z Z Z Z (congrArg (lE (.bool false) false) (Be aa)) Z Z<|SY [1,3,5,30,31,32,41] a Z<|G.cd (fun ab=>?_) fun ab=>?_
  ·exact absurd ab dc_
  refine SS 1 Z fun R a=>S1 ag U9<|UJ kP2 (j:=1) (key:=ptK p) Z Z Z Z Z Z Z Z Z Z<|SY [1,3,30,31,32] a Z<|SX fun R a=>S2 _ Z U6<|C6 1 [1,3,30,31,32] a Z<|TC 1 Z<|Tc (L':=[.obj K (aU Dh (IQ (c.take (i+1))))]) (by rw [am,<- Md aa];rfl)<|S6 (m':=c.length-(i+1)) om_ mup (hn_ [1,3,30,31,32] Z) ⟨i+1,om_,Z,Z,Z⟩
 refine SS 1 Z fun R a=>SU (PtrTo.block (Mem.get f mup) _) U8<|C6 2 [1,46,47,48] a Z<|G.dropAll<|G.loop (fun fr z g l=>∃ (i:Nat),(i<=b.length)/\fr=[(1,[],.pointer (some ⟨u,0,none⟩)),(46,[],.slice A2 b.length c2),(47,[],.int .i64 b.length),(48,[],.int .i64 i)]/\g=[]/\l=b.length-i) (hn_ [1,46,47,48] Z) ⟨0,Pm _,Z,Z,Z⟩ (fun fr aM aN m _ n=>?_);obtain ⟨i,hi,rfl,rfl,rfl⟩:=n;refine SR 1 [1,46,47,48,49] Z<|G.cd (fun M=>?_) fun M=>?_
 ·have o:i<b.length:=by simpa using M
  obtain ⟨t,ht⟩:∃ t,b[i]?=some t:=⟨b[i],ak o⟩;have ac:=Pe ht;have s:=d.ins t ac;have ao:=d.pos t ac;refine SX fun R a=>Ta x.m_ U10 om_ (by rw [Pi,ht];rfl:(b.map ic)[i]?=some (ic t)) fl_ fun aO ap=>SU ap U8<|Te U5 fun b7=>S5 (j:=0) U12<|SY [1,7,46,47,48] a Z<|SX fun R a=>S1 ag U9<|C6 1 [1,7,46,47,48,52,53] a Z<|G.loop (fun fr z g l=>∃ (j:Nat),(j<=3)/\fr=[(1,[],.pointer (some ⟨u,0,none⟩)),(7,[],.pointer (some ⟨b7,0,none⟩)),(46,[],.slice A2 b.length c2),(47,[],.int .i64 b.length),(48,[],.int .i64 i),(52,[],.agg ⟨ic t⟩),(53,[],.int .i64 j)]/\g=[.obj b7 (.cells ⟨ic t⟩ 65 (0,0))]/\l=3-j) (hn_ [1,7,46,47,48,52,53] Z) ⟨0,Pm _,Z,Z,Z⟩ (fun fr aP aQ m aq n=>?_);obtain ⟨j,v,rfl,rfl,rfl⟩:=n;refine SR 1 [1,7,46,47,48,52,53,54] Z<|G.cd (fun N=>?_) fun N=>?_
  ·have ar:j<3:=by
    simp only [Pp] at N;omega
   have aR:=eI s j;refine SX fun R a=>TN U11 (fun _=>⟨by omega,by omega,(show (ic t)[((j:Nat):Int).toNat]?=some (.int .i64 ((gD t j:Nat):Int)) from by rw [<- zN];exact pR t ar)⟩) U2<|C6 1 [1,7,9,46,47,48,52,53] a Z<|SS 5 Z fun R a=>Tn U6 (fun _=>PtrTo.block (Mem.get f mup) _) U3<|SZ 2 Z<|Tt U8<|SY [1,7,46,47,48,52,53,64] a Z<|G.cd (fun ad=>?_) fun ad=>?_
   ·exfalso;simp only [Q4,Pp] at ad;omega
   refine SX fun R a=>S2 _ Z U6<|C6 1 [1,7,46,47,48,52,53] a Z<|S6 (m':=3-(j+1)) om_ aq (hn_ [1,7,46,47,48,52,53] Z) ⟨j+1,om_,Z,Z,Z⟩
  clear N;refine Tg [0,1,2,3,4,5,6,7,8,9,10,11,12,13,14,15,16,17,18,19] [(18,1)] Z kr_ fun R hB a=>SV U6<|SU (PtrTo.block (Mem.get f mup) _) U8<|Ti (0) U9 ah U2<|S1 ag U9<|Ta r.m_ U10 om_ (by rw [Pi,show (((t.1:Nat):Int)).toNat=t.1 from Z,oX s.1];rfl:(c.map fZ)[(((t.1:Nat):Int)).toNat]?=some (fZ (c.getD t.1 (0,0)))) fl_ fun aS au=>SU au U8<|SV U6<|SU (PtrTo.block (Mem.get f mup) _) U8<|Ti (1) U9 ah U2<|S1 ag U9<|Ta r.m_ U10 om_ (by rw [Pi,show (((t.2.1:Nat):Int)).toNat=t.2.1 from Z,oX s.2.1];rfl:(c.map fZ)[(((t.2.1:Nat):Int)).toNat]?=some (fZ (c.getD t.2.1 (0,0)))) fl_ fun aT av=>SU av U8<|SV U6<|SU (PtrTo.block (Mem.get f mup) _) U8<|Ti (2) U9 ah U2<|S1 ag U9<|Ta r.m_ U10 om_ (by rw [Pi,show (((t.2.2:Nat):Int)).toNat=t.2.2 from Z,oX s.2.2];rfl:(c.map fZ)[(((t.2.2:Nat):Int)).toNat]?=some (fZ (c.getD t.2.2 (0,0)))) fl_ fun aV aw=>SU aw U8<|Tj (fun _=>(ox _ H.m_ (c.getD t.1 (0,0)) (c.getD t.2.1 (0,0)) (c.getD t.2.2 (0,0)) 1 dc_ dc_ (d.q _ (AJ s.1)) (d.q _ (AJ s.2.1)) (d.q _ (AJ s.2.2)))) U9<|C6 1 [1,46,47,48,85] a Z<|G.cd (fun O=>?_) fun O=>?_
  ·exfalso;rw [Nw,PG ao] at O;exact absurd O dc_
  refine SX fun R a=>S2 _ Z U6<|C6 1 [1,46,47,48] a Z<|G.dropAll<|S6 (m':=b.length-(i+1)) om_ mup (hn_ [1,46,47,48] Z) ⟨i+1,om_,Z,Z,Z⟩
 clear M;refine SX fun R a=>SU (PtrTo.block (Mem.get f mup) _) U8<|Tb (sQ _ H.m_ _ _ c b h0 r.m_ x.m_ d.sides d.ins d.q om_) U7 fl_<|SY [1,88] a Z<|G.cd (fun Q=>?_) fun Q=>?_
 ·have w:mV c b=true:=Q;exact SR 1 [2] Z<|S3 U2<|⟨by unfold yo;rw [aF h0,aL w],Z⟩
 have w:mV c b=false:=Q;refine SS 1 Z fun R a=>SU (PtrTo.block (Mem.get f mup) _) U8<|C6 2 [1,91,92] a Z<|G.loop (fun fr z g l=>∃ (i:Nat),(i<=b.length/\nU i X=false)/\fr=[(1,[],.pointer (some ⟨u,0,none⟩)),(91,[],.int .i64 b.length),(92,[],.int .i64 i)]/\g=[]/\l=b.length-i) (hn_ [1,91,92] Z) ⟨0,⟨Pm _,Z⟩,Z,Z,Z⟩ (fun fr aW aX m _ n=>?_);obtain ⟨i,⟨aZ,E⟩,rfl,rfl,rfl⟩:=n;refine SR 1 [1,91,92,93] Z<|G.cd (fun S=>?_) fun S=>?_
 ·have o:i<b.length:=by simpa using S
  refine SR 2 [1,10,91,92] Z<|SR 2 [1,10,91,92,95,96] Z<|G.loop (fun fr z g l=>∃ (k:Nat),(k<=i/\(List.range k).any (fun k=>X i k)=false)/\fr=[(1,[],.pointer (some ⟨u,0,none⟩)),(10,[],.int .i64 i),(91,[],.int .i64 b.length),(92,[],.int .i64 i),(95,[],.int .i64 i),(96,[],.int .i64 k)]/\g=[]/\l=i-k) (hn_ [1,10,91,92,95,96] Z) ⟨0,⟨Pm _,Z⟩,Z,Z,Z⟩ (fun fr a0 a1 m ax n=>?_);obtain ⟨k,⟨a2,af⟩,rfl,rfl,rfl⟩:=n;refine SR 1 [1,10,91,92,95,96,97] Z<|G.cd (fun T=>?_) fun T=>?_
  ·have F:k<i:=by simpa using T
   refine SR 2 [1,10,11,91,92,95,96] Z<|SX fun R a=>SU (PtrTo.block (Mem.get f mup) _) U8<|SZ 2 Z<|S8 (V h0 w _ mup i k o F) U7<|SY [1,10,91,92,95,96,102] a Z<|G.cd (fun U=>?_) fun U=>?_
   ·have ay:X i k=true:=U;have hc:nU b.length X=true:=R5.2 ⟨i,PC.2 o,R5.2 ⟨k,PC.2 F,ay⟩⟩;exact SR 1 [2] Z<|S3 U2<|⟨by unfold yo;rw [aF h0,w,aF dc_,aL hc],Z⟩
   have az:X i k=false:=U;refine SX fun R a=>S2 _ Z U6<|C6 1 [1,10,91,92,95,96] a Z<|S6 (m':=i-(k+1)) om_ ax (hn_ [1,10,91,92,95,96] Z) ⟨k+1,⟨by omega,by rw [Qp,List.any_append,af];simp [az]⟩,Z,Z,Z⟩
  have F:k=i:=by
   have:¬ k<i:=by simpa using T
   omega
  subst F;refine SX fun R a=>S2 _ Z U6<|C6 1 [1,91,92] a Z<|S6 (m':=b.length-(k+1)) om_ mup (hn_ [1,91,92] Z) ⟨k+1,⟨by omega,by unfold nU at E ⊢;rw [Qp,List.any_append,E];simp [af]⟩,Z,Z,Z⟩
 have o:i=b.length:=by
  have:¬ i<b.length:=by simpa using S
  omega
 refine SR 1 [2] Z<|S3 U2<|⟨?_,Z⟩;rw [o] at E;unfold yo;rw [aF h0,w,aF dc_,E];rfl
structure Good (pts:List Pt)(tris:List Tri):Prop where
 ok:MeshOk pts tris
 ne:tris≠[]
 whole:mV pts tris=true
structure MeshIn (C:Mem)(mv:Value)(pts:List Pt)(tris:List Tri):Prop where
 ex:∃ v1 v2,mv=.agg ⟨[v1,v2]⟩/\Sl C 2 v1 (pts.map fZ)/\Sl C 3 v2 (tris.map ic)
theorem MeshIn.mono {C D:Mem}{a:Value}{b:List Pt}{c:List Tri}(h:MeshIn C a b c)(d:C.le D):MeshIn D a b c:=by
 obtain ⟨e,f,h1,h2,h3⟩:=h.ex;exact ⟨e,f,h1,h2.mono d,h3.mono d⟩
theorem MeshIn.m_ {D:Mem}{a:Value}{b:List Pt}{c:List Tri}(h:MeshIn C a b c)(d:C.le D:=by exact mup):MeshIn D a b c:=MeshIn.mono h d
def nox:Nat->Nat->Bool:=fun _ _=>false
theorem gp (C:Mem)(f:Tabs C)(d:Value)(a:List Pt)(b:List Tri)(g:MeshIn C d a b)(c:Good a b):Gives cx.P 65 [d] C (.int .i64 0):=by
 obtain ⟨i,j,rfl,h1,h2⟩:=g.ex;have h:=Fz C f i j a b nox h1 h2 c.ok (fun _ h3=>by rw [c.whole] at h3;cases h3);have e:yo a b nox=0:=by unfold yo;rw [aF c.ne,aL c.whole]
 rwa [e] at h
def cor (pts:List Pt)(t:Tri)(j:Nat):Pt:=pts.getD (gD t j) (0,0)
def yw (pts:List Pt)(p:Pt)(t:Tri):Bool:=decide (0<=dH (cor pts t 0) (cor pts t 1) p) && decide (0<=dH (cor pts t 1) (cor pts t 2) p) && decide (0<=dH (cor pts t 2) (cor pts t 0) p)
def kF (pts:List Pt)(tris:List Tri)(p:Pt):List Nat:=(List.range tris.length).filter fun i=>yw pts p (tris.getD i (0,0,0))
theorem nk {a:List Pt}{b:List Tri}(h:MeshOk a b){t:Tri}(c:t∈b)(j:Nat):QP 1 (cor a t j):=h.q _ (AJ (eI (h.ins t c) j))
theorem QP.le {k m:Nat}{p:Pt}(h:QP k p)(a:k<=m):QP m p:=⟨h.1.le a,h.2.le a⟩
theorem sj (C:Mem)(d:Value)(a:List Pt)(b:List Tri)(f:MeshIn C d a b)(g:MeshOk a b)(i:Nat)(t:Tri)(e:b[i]?=some t) :
  Gives cx.P 68 [d,.int .i64 i] C (MG (cor a t 0) (cor a t 1) (cor a t 2)):=by
 obtain ⟨h,j,rfl,h1,h2⟩:=f.ex;have c:=g.ins t (Pe e);exact Dm C h j a b i t _ _ _ h1 h2 e (oX c.1) (oX c.2.1) (oX c.2.2)
theorem EJ {p:Pt}(h:QP k p)(a:k<=1000):(qtx p.1).length<=999998/\(qtx p.2).length<=999998:=by
 have h1:=bx (h.1.le (RB k)) om_;have h2:=bx (h.2.le (RB k)) om_;exact ⟨by omega,by omega⟩
def PtR (p:Pt):Prop:=aW (qtx p.1)=true/\aW (qtx p.2)=true
theorem im (C:Mem)(c:Tabs C)(p:Pt)(a:QP 23 p)(b:PtR p):Gives cx.P 66 [ptV p] C (.int .i64 0):=by
 have h:=io C c (qtx p.1) (qtx p.2) (EJ a dc_).1 (EJ a dc_).2;rw [b.1,b.2] at h;exact h
theorem lF (C:Mem)(f:Tabs C)(A:Value)(c:List Pt)(a:List Tri)(p:Pt)(B:MeshIn C A c a)(E:Good c a)(F:QP 23 p)(g:PtR p) :
  Pur cx.P 18 [A,ptV p] C fun u D=>∃ v,u=.tuple #[v,.int .i64 0]/\Sl D 1 v ((kF c a p).map aT):=by
 have d:=E.ok;have V:=d.lt;have W:maxLen<=9223372036854775807:=by simp [maxLen]
 have h:=B;obtain ⟨X,Y,rfl,h1,h2⟩:=id B.ex;obtain ⟨A1,c1,rfl,aa,ab,_⟩:=id h1;obtain ⟨A2,c2,rfl,ac,ad,_⟩:=id h2;simp only [al] at h1 h2 h ⊢;refine S4 func18 34 U3 fun w0=>SX fun R b=>Tf U6 fun N=>Tf U6 fun O=>C6 2 [2,3] b Z<|G.freeze 1 Z fun _ _ k=>G.freeze 0 Z fun _ _ H=>SX fun R b=>SU (PtrTo.block (Mem.get k mup) _) U8<|S8 (gp _ f.m_ _ c a h.m_ E) U7<|C6 1 [2,3,6] b Z<|SR 2 [2,3,6,12] Z<|G.cd (fun I=>?_) fun I=>?_
 ·exact absurd I dc_
 refine SX fun R b=>SU (PtrTo.block (Mem.get H mup) _) U8<|S8 (im _ f.m_ p F g) U7<|C6 1 [2,3,16] b Z<|G.cd (fun J=>?_) fun J=>?_
 ·exact absurd J dc_
 refine SR 1 [2,3,7] Z<|SS 1 Z fun R b=>SU (PtrTo.block (Mem.get k mup) _) U8<|C6 2 [2,3,7,19,20] b Z<|G.nilArr 3 1<|G.loop (fun fr C' K Q=>∃ (i:Nat)(out:List Nat)(w:Value),(i<=a.length/\out=(List.range i).filter (fun i=>yw c p (a.getD i (0,0,0))))/\fr=[(2,[],.pointer (some ⟨N,0,none⟩)),(3,[],.pointer (some ⟨O,0,none⟩)),(7,[],w),(19,[],.int .i64 a.length),(20,[],.int .i64 i)]/\K=[.arr w 3 1 out.length (out.map aT).flatten]/\Q=a.length-i) (hn_ [2,3,7,19,20] Z) ⟨0,[],_,⟨Pm _,Z⟩,Z,Z,Z⟩ (fun fr ae af m _ S=>?_);obtain ⟨i,out,w,⟨hi,e⟩,rfl,rfl,rfl⟩:=S;refine SR 1 [2,3,7,19,20,21] Z<|G.cd (fun l=>?_) fun l=>?_
 ·have n:i<a.length:=by simpa using l
  obtain ⟨t,o⟩:∃ t,a[i]?=some t:=⟨a[i],ak n⟩;have q:=Pe o;have L:a.getD i (0,0,0)=t:=by rw [ax,o];rfl
  have ag:out.length<=i:=by
   rw [e];exact Py (QQ _ _) am
  refine SR 2 [2,3,7,8,19,20] Z<|Tg [0,1,2,3,4] [(2,1),(4,1)] Z kr_ fun R hB b=>SU (PtrTo.block (Mem.get k mup) _) U8<|SV U6<|Tu (fun _=>(sj _ _ c a h.m_ d i t o)) U9<|SU (PtrTo.block (Mem.get H mup) _) U8<|Tj (fun _=>(F3 _ f.m_ (cor c t 0) (cor c t 1) (cor c t 2) p 23 dc_ dc_ ((nk d q 0).le dc_) ((nk d q 1).le dc_) ((nk d q 2).le dc_) F)) U9<|SY [2,3,7,8,19,20,27] b Z<|G.cd (fun s=>?_) fun s=>?_
  ·have x:yw c p t=true:=s;have z:(List.range (i+1)).filter (fun i=>yw c p (a.getD i (0,0,0)))=out++[i]:=by rw [Qp,QK,<- e,List.filter_cons,L,x];rfl
   refine SS 2 Z fun R b=>Th [aT i] U12 fun ah _ _ T=>D.append (j:=0) U11 T Z aw (by simp only [aY];omega) fl_ fun M=>C6 1 [2,3,7,19,20] b Z<|SX fun R b=>S2 _ Z U6<|C6 1 [2,3,7,19,20] b Z<|Tc (L':=[.arr M 3 1 (out++[i]).length ((out++[i]).map aT).flatten]) (by simp [aT])<|S6 (m':=a.length-(i+1)) om_ mup (hn_ [2,3,7,19,20] Z) ⟨i+1,out++[i],M,⟨by omega,z.symm⟩,Z,Z,Z⟩
  have x:yw c p t=false:=s;have z:(List.range (i+1)).filter (fun i=>yw c p (a.getD i (0,0,0)))=out:=by rw [Qp,QK,<- e,List.filter_cons,L,x];simp
  refine SX fun R b=>S2 _ Z U6<|C6 1 [2,3,7,19,20] b Z<|S6 (m':=a.length-(i+1)) om_ mup (hn_ [2,3,7,19,20] Z) ⟨i+1,out,w,⟨by omega,z.symm⟩,Z,Z,Z⟩
 have n:i=a.length:=by
  have:¬ i<a.length:=by simpa using l
  omega
 refine SR 3 [4,5] Z<|G.freezeArr 0 (out.map aT) U2 (by intro r g;obtain ⟨y,_,rfl⟩:=Pn.1 g;rfl) am fun Cg hg U=>S7 (G.dropAll (Tp U3 ?_));refine ⟨Z,_,Z, ?_⟩;rw [n] at e;unfold kF;rw [<- e];exact U
theorem qg (C:Mem)(g:Tabs C)(d:Value)(a:List Pt)(b:List Tri)(p:Pt)(e:MeshIn C d a b)(h:Good a b)(i:QP 23 p)(j:PtR p) :
  Gives cx.P 117 [d,ptV p] C (.tuple #[.bool (decide (kF a b p≠[])),.int .i64 0]):=by
 have k:=e;obtain ⟨n,o,rfl,h1,h2⟩:=id e.ex;refine S4 func117 18 U3 fun w0=>SX fun R c=>Tf U6 fun q=>Tf U6 fun r=>C6 2 [2,3] c Z<|SX fun R c=>S1 ae U9<|S1 ag U9<|Tv (lF _ g.m_ _ a b p k.m_ h i j) U7 (fun s _ _ l=>?_);obtain ⟨t,rfl,m⟩:=l;obtain ⟨u,v,f,_⟩:=id m;rw [al] at f;subst f;refine C6 5 [6,7] c Z<|SR 6 [4,5] Z<|S7 (G.dropAll (Tp U3 ?_));refine ⟨?_,Z⟩;have:decide (((kF a b p).length:Int) > 0)=decide (kF a b p≠[]):=by
  rw [Qb,<- P4];omega
 rw [<- this]
theorem yV (C:Mem)(j:Tabs C)(d:Value)(c:List Pt)(b:List Tri)(i:Nat)(e:MeshIn C d c b)(k:Good c b)(l:i<b.length) :
  Gives cx.P 69 [d,.int .i64 i] C (.int .i64 0):=by
 have f:=e;obtain ⟨m,n,rfl,h1,h2⟩:=id e.ex;obtain ⟨A2,c2,rfl,o,p,_⟩:=id h2;simp only [al] at h1 h2 f ⊢;refine S4 func69 20 U3 fun w0=>SX fun R a=>Tf U6 fun q=>C6 1 [1,2] a Z<|SX fun R a=>S1 ag U9<|S8 (gp _ j.m_ _ c b f.m_ k) U7<|C6 1 [1,2,5] a Z<|SR 2 [1,2,5,9] Z<|G.cd (fun g=>?_) fun g=>?_
 ·exact absurd g dc_
 refine SS 5 Z fun R a=>S1 ag U9<|SZ 2 Z<|Tt U8<|SY [19] a Z<|G.cd (fun h=>?_) fun h=>?_
 ·exfalso;simp only [Q4,Pp] at h;omega
 exact SR 1 [4] Z<|S3 U2<|⟨Z,Z⟩
def wgt (pts:List Pt)(t:Tri)(p:Pt)(j:Nat):Rat:=dH p (cor pts t ((j+1) % 3)) (cor pts t ((j+2) % 3)) / dH (cor pts t 0) (cor pts t 1) (cor pts t 2)
theorem jG {a:List Pt}{b:List Tri}(c:MeshOk a b){t:Tri}(d:t∈b):dH (cor a t 0) (cor a t 1) (cor a t 2)≠0:=by
 have h:=c.pos t d;intro e;have f:dH (a.getD t.1 (0,0)) (a.getD t.2.1 (0,0)) (a.getD t.2.2 (0,0))=0:=e;rw [f] at h;exact absurd h dc_
theorem vH (C:Mem)(g:Tabs C)(x:Value)(c:List Pt)(h:List Tri)(p:Pt)(i:Nat)(t:Tri)(y:MeshIn C x c h)(z:Good c h)(l:QP 23 p)(O:PtR p)(o:h[i]?=some t)(q:∀ j,QB 22 (wgt c t p j)) :
  Gives cx.P 19 [x,.int .i64 i,ptV p] C (.tuple #[.agg ⟨[af (qtx (wgt c t p 0)),af (qtx (wgt c t p 1)),af (qtx (wgt c t p 2))]⟩,.int .i64 0]):=by
 have r:=z.ok;have A:=Pe o;have Q:=(aJ.1 o).1;have B:=y;obtain ⟨v1,v2,rfl,h1,h2⟩:=id y.ex;have e:=fun j=>(nk r A j).le (show 1<=23 by decide);have s:=jG r A;have u:∀ a b,QP 23 a->QP 23 b->QB 189 (dH p a b):=fun a b S T=>(zi l S T).le dc_;have v:QB 189 (dH (cor c t 0) (cor c t 1) (cor c t 2)):=(zi (e 0) (e 1) (e 2)).le dc_;refine S4 func19 69 U3 fun w0=>SX fun R d=>Tf U6 fun b3=>Tf U6 fun U=>Te U5 fun D=>C6 1 [1,3,5,6] d Z<|G.freeze 2 Z fun _ _ E=>G.freeze 1 Z fun _ _ n=>SX fun R d=>SU (PtrTo.block (Mem.get E mup) _) U8<|SV U6<|S8 (yV _ g.m_ _ c h i B.m_ z Q) U7<|C6 1 [1,3,5,6,8] d Z<|SR 2 [1,3,5,6,8,18] Z<|G.cd (fun F=>?_) fun F=>?_
 ·exact absurd F dc_
 refine SX fun R d=>SU (PtrTo.block (Mem.get n mup) _) U8<|S8 (im _ g.m_ p l O) U7<|C6 1 [1,3,5,6,23] d Z<|G.cd (fun H=>?_) fun H=>?_
 ·exact absurd H dc_
 refine SX fun R d=>SU (PtrTo.block (Mem.get E mup) _) U8<|SV U6<|S8 (sj _ _ c h B.m_ r i t o) U7<|Te U5 fun V=>S5 (j:=0) U12<|SY [5,6,9] d Z<|G.freeze 0 Z fun _ _ f=>SX fun R d=>Te U5 fun I=>SY [5,6,9,10] d Z<|SR 1 [5,6,9,10,28] Z<|G.loop (fun fr C' W X=>∃ (j:Nat),(j<=3)/\fr=[(5,[],.pointer (some ⟨U,0,none⟩)),(6,[],.pointer (some ⟨D,0,none⟩)),(9,[],.pointer (some ⟨V,0,none⟩)),(10,[],.pointer (some ⟨I,0,none⟩)),(28,[],.int .i64 j)]/\W=[.obj I (.cells ⟨(List.range 3).map fun k=>if k<j then af (qtx (wgt c t p k)) else af []⟩ 61 (0,0)),.obj D (.cells ⟨[af [],af [],af []]⟩ 61 (0,0))]/\X=3-j) (hn_ [5,6,9,10,28] Z) ⟨0,Pm _,Z,Z,Z⟩ (fun fr aa ab m _ Y=>?_);obtain ⟨j,hj,rfl,rfl,rfl⟩:=Y;refine SR 1 [5,6,9,10,28,29] Z<|G.cd (fun w=>?_) fun w=>?_
 ·have J:j<3:=by
   simp only [Pp] at w;omega
  rcases (by omega:j=0∨j=1∨j=2) with rfl | rfl | rfl
  ·refine SR 2 [5,6,9,10,11,28] Z<|Tg [0,1,2,3,4,5,6,7,8,9,10,11,12,13,14,15,16,17,18,19,20,21,22,23,24,25] [(12,1),(19,1),(20,1)] Z kr_ fun R K d=>SV U6<|SU (PtrTo.block (Mem.get n mup) _) U8<|SV U6<|S2 _ Z U6<|TZ U6 om_ om_ U2<|Ti (_) U9 ah U2<|SU (bkT f 2) U8<|SV U6<|S2 _ Z U6<|TZ U6 om_ om_ U2<|Ti (_) U9 ah U2<|SU (bkT f 2) U8<|Tj (fun _=>(kO _ g.m_ p (cor c t ((0+1) % 3)) (cor c t ((0+2) % 3)) 23 dc_ dc_ l (e _) (e _))) U9<|Ti (0) U9 ah U2<|SU (bkT f 2) U8<|Ti (2) U9 ah U2<|SU (bkT f 2) U8<|Ti (4) U9 ah U2<|SU (bkT f 2) U8<|Tj (fun _=>(kO _ g.m_ (cor c t 0) (cor c t 1) (cor c t 2) 23 dc_ dc_ (e 0) (e 1) (e 2))) U9<|Tj (fun _=>(gG _ g.m_ _ _ 189 dc_ dc_ (u _ _ (e _) (e _)) v s)) U9<|SZ 3 Z<|Ti (_) U9 ah U2<|S5 (j:=0) U12<|SY [5,6,9,10,11,28] d Z<|SS 1 Z fun R d=>Ti (_) U9 ah U2<|S1 ag U9<|S8 (tj _ g.m_ (wgt c t p 0) (q 0)) U7<|C6 5 [5,6,9,10,13,28] d Z<|SR 2 [5,6,9,10,13,28,64] Z<|G.cd (fun L=>?_) fun L=>?_
   ·exact absurd L dc_
   refine SX fun R d=>S2 _ Z U6<|C6 1 [5,6,9,10,28] d Z<|S6 (m':=2) om_ mup (hn_ [5,6,9,10,28] Z) ⟨1,by decide,Z,Z,Z⟩
  ·refine SR 2 [5,6,9,10,11,28] Z<|Tg [0,1,2,3,4,5,6,7,8,9,10,11,12,13,14,15,16,17,18,19,20,21,22,23,24,25] [(12,1),(19,1),(20,1)] Z kr_ fun R K d=>SV U6<|SU (PtrTo.block (Mem.get n mup) _) U8<|SV U6<|S2 _ Z U6<|TZ U6 om_ om_ U2<|Ti (_) U9 ah U2<|SU (bkT f 2) U8<|SV U6<|S2 _ Z U6<|TZ U6 om_ om_ U2<|Ti (_) U9 ah U2<|SU (bkT f 2) U8<|Tj (fun _=>(kO _ g.m_ p (cor c t ((1+1) % 3)) (cor c t ((1+2) % 3)) 23 dc_ dc_ l (e _) (e _))) U9<|Ti (0) U9 ah U2<|SU (bkT f 2) U8<|Ti (2) U9 ah U2<|SU (bkT f 2) U8<|Ti (4) U9 ah U2<|SU (bkT f 2) U8<|Tj (fun _=>(kO _ g.m_ (cor c t 0) (cor c t 1) (cor c t 2) 23 dc_ dc_ (e 0) (e 1) (e 2))) U9<|Tj (fun _=>(gG _ g.m_ _ _ 189 dc_ dc_ (u _ _ (e _) (e _)) v s)) U9<|SZ 3 Z<|Ti (_) U9 ah U2<|S5 (j:=0) U12<|SY [5,6,9,10,11,28] d Z<|SS 1 Z fun R d=>Ti (_) U9 ah U2<|S1 ag U9<|S8 (tj _ g.m_ (wgt c t p 1) (q 1)) U7<|C6 5 [5,6,9,10,13,28] d Z<|SR 2 [5,6,9,10,13,28,64] Z<|G.cd (fun M=>?_) fun M=>?_
   ·exact absurd M dc_
   refine SX fun R d=>S2 _ Z U6<|C6 1 [5,6,9,10,28] d Z<|S6 (m':=1) om_ mup (hn_ [5,6,9,10,28] Z) ⟨2,by decide,Z,Z,Z⟩
  refine SR 2 [5,6,9,10,11,28] Z<|Tg [0,1,2,3,4,5,6,7,8,9,10,11,12,13,14,15,16,17,18,19,20,21,22,23,24,25] [(12,1),(19,1),(20,1)] Z kr_ fun R K d=>SV U6<|SU (PtrTo.block (Mem.get n mup) _) U8<|SV U6<|S2 _ Z U6<|TZ U6 om_ om_ U2<|Ti (_) U9 ah U2<|SU (bkT f 2) U8<|SV U6<|S2 _ Z U6<|TZ U6 om_ om_ U2<|Ti (_) U9 ah U2<|SU (bkT f 2) U8<|Tj (fun _=>(kO _ g.m_ p (cor c t ((2+1) % 3)) (cor c t ((2+2) % 3)) 23 dc_ dc_ l (e _) (e _))) U9<|Ti (0) U9 ah U2<|SU (bkT f 2) U8<|Ti (2) U9 ah U2<|SU (bkT f 2) U8<|Ti (4) U9 ah U2<|SU (bkT f 2) U8<|Tj (fun _=>(kO _ g.m_ (cor c t 0) (cor c t 1) (cor c t 2) 23 dc_ dc_ (e 0) (e 1) (e 2))) U9<|Tj (fun _=>(gG _ g.m_ _ _ 189 dc_ dc_ (u _ _ (e _) (e _)) v s)) U9<|SZ 3 Z<|Ti (_) U9 ah U2<|S5 (j:=0) U12<|SY [5,6,9,10,11,28] d Z<|SS 1 Z fun R d=>Ti (_) U9 ah U2<|S1 ag U9<|S8 (tj _ g.m_ (wgt c t p 2) (q 2)) U7<|C6 5 [5,6,9,10,13,28] d Z<|SR 2 [5,6,9,10,13,28,64] Z<|G.cd (fun N=>?_) fun N=>?_
  ·exact absurd N dc_
  refine SX fun R d=>S2 _ Z U6<|C6 1 [5,6,9,10,28] d Z<|S6 (m':=0) om_ mup (hn_ [5,6,9,10,28] Z) ⟨3,by decide,Z,Z,Z⟩
 have J:j=3:=by
  simp only [PP] at w;omega
 subst J;refine SX fun R d=>S1 ag U9<|S5 (j:=1) U12<|C6 1 [6,7] d Z<|S7 (Uf ag U5 ?_);exact ⟨Z,Z⟩
end Go.Proofs.YtfjcldheldflbaaGreatDoor
